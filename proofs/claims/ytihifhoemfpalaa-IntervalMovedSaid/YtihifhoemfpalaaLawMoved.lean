/- IntervalMoved holds: of every input that can be read the law returns true, and the input reads as before. No condition. -/
import Derived.Test.YtihifhoemfpalaaMF
import Derived.Test.YtihifhoemfpalaaI16
import Derived.Test.YtihifhoemfpalaaRows
import Derived.WalkKit
import Derived.ProofKit
import Derived.OpenShut
import Derived.ShutString
import Derived.ChangeOld
import Derived.Below
import Derived.SizedLaws
import Derived.Carry
import Derived.Lib.SmallJoins
namespace Go.Proofs.Ytihifhoemfpalaa.intervalMoved
open Go.ChangeShapes Go.WideShapes Go.ChangeAt Go.RowKit Go.Joins Go.Mini Go.Proofs.Ytihifhoemfpalaa.M
open Go.ChangeMaps (open_string shut_string)
set_option linter.unusedVariables false
theorem own : ownKnob Try.prog.godebug = none := by kernel_rfl
theorem laidOut : laidOutB Try.prog = true := by kernel_rfl
theorem rd3 {W : World} : RdP Try.prog W 3 (fun n : Int => AVal.int .i64 n) (GInt .i64) := rd_int Try.underlying3
theorem rd23 {W : World} : RdP Try.prog W 23 eIv gIv := by
  intro H enc fuel cs x h
  obtain ⟨n, hl, hc⟩ := trod_cells Try.underlying23 (by kernel_rfl) (by kernel_rfl) h
  obtain ⟨c0, c1, rfl⟩ : ∃ c0 c1, cs = [c0, c1] := by
    match cs, hl with
    | [c0, c1], _ => exact ⟨_, _, rfl⟩
  obtain ⟨_, h0⟩ := hc 0 _ c0 rfl rfl
  obtain ⟨a0, g0, v0⟩ := rd3 (W := W) _ _ _ _ _ h0
  obtain ⟨_, h1⟩ := hc 1 _ c1 rfl rfl
  obtain ⟨a1, g1, v1⟩ := rd3 (W := W) _ _ _ _ _ h1
  exact ⟨⟨a0, a1⟩, ⟨g0, g1⟩, (.cons (v0.one) (.cons (v1.one) .nil))⟩
theorem rd30 {W : World} : RdP Try.prog W 30 (fun l : List (Iv) => AVal.fsl 2 (l.map eIv)) (GList gIv) := rd_slice Try.underlying30 (by kernel_rfl) (by decide) (fun _ => rfl) (rd23 (W := W))
theorem rd36 {W : World} : RdP Try.prog W 36 (fun n : Int => AVal.int .i16 n) (GInt .i16) := rd_int Try.underlying36
set_option maxRecDepth 100000 in
theorem lifted (os : Os) (started : os.Started) (H : Type) (enc : TypeId × Value → H) :
    ReturnsInHanded {} Try.checked os 7 .any (Rows.intervalMovedSpec.pre6 enc Try.prog Try.f7 Rows.intervalMovedRow.domain false) (Rows.intervalMovedSpec.post enc Try.prog Try.f7 false true false false) := by
  refine returnsInHanded_of_change_sized (C := Try.checked) own started (by kernel_rfl) Try.func7
    (ChangeSpec.witness6 (enc := enc) (C := Try.checked) false ⟨#[], #[.slice none 0 0, .int .i16 0], []⟩ 8 (by kernel_rfl) (by kernel_rfl) (by kernel_rfl) (by kernel_rfl)) ?_
  intro W base args ds gs before hval0 hW hcnd hsz0 _
  have hval : ∀ (j : Nat) t v, Try.f7.params[j]? = some t → args[j]? = some v → Value.okWide Try.prog W .any base t v := hval0
  have hW' := hW
  obtain ⟨p, q, hA0, hV, rfl, hfz, hnd⟩ := hW
  have hA : DataW.TrodAll enc Try.prog W 0 (fun _ => true) true Try.f7.params.toList args.toList ds p := hA0
  rw [Try.params7] at hA hval
  obtain ⟨v0, vs0, d0, ds0, p0, q0, hargs, rfl, rfl, h0, r0⟩ := trodAll_cons hA
  obtain ⟨v1, vs1, d1, ds1, p1, q1, rfl, rfl, rfl, h1, r1⟩ := trodAll_cons r0
  obtain ⟨rfl, rfl, rfl⟩ := trodAll_nil r1
  obtain rfl : args = #[v0, v1] := by cases args; simp_all
  obtain ⟨rfl, rfl⟩ := trodVars_none hV
  have k0 := h0
  have lt0 : ∀ x ∈ p0, x.block < W.heap.size := by obtain ⟨m, hm⟩ := k0; exact DataW.trod_lt m _ _ _ hm
  obtain ⟨_, _, _, rfl⟩ := okWide_slice Try.underlying30 (hval 0 30 v0 rfl rfl)
  obtain ⟨a0, g0, w0⟩ := (by obtain ⟨_, hm⟩ := k0; exact rd30 (W := W) _ _ _ _ _ hm : ∃ a, (GList gIv) a ∧ VRs (Phi.bare (cellsOf W).f) ((fun l : List (Iv) => AVal.fsl 2 (l.map eIv)) a).cells [_])
  have k1 := h1
  have lt1 : ∀ x ∈ p1, x.block < W.heap.size := by obtain ⟨m, hm⟩ := k1; exact DataW.trod_lt m _ _ _ hm
  obtain ⟨_, rfl, _, _, _⟩ := open_int Try.underlying36 (hval 1 36 v1 rfl rfl) h1
  obtain ⟨a1, g1, w1⟩ := (by obtain ⟨_, hm⟩ := k1; exact rd36 (W := W) _ _ _ _ _ hm : ∃ a, (GInt .i16) a ∧ VRs (Phi.bare (cellsOf W).f) ((fun n : Int => AVal.int .i16 n) a).cells [_])
  clear hA0 hval0 hsz0
  refine (law_calls (vs := [_, _]) (intervalMoved_row W a0 a1 g0 g1) (.cons w0.one (.cons w1.one .nil))).mono fun e W' ⟨he, bel⟩ => ?_
  subst he
  exact ⟨_, rfl, _, _, _, [], _, [], hW', trodAll_mk1 (shut_bool Try.underlying4 _),
    (trodAll_cons_mk (Below.trod laidOut (by kernel_rfl) (of_decide_eq_true (by kernel_rfl)) k0 bel lt0) (trodAll_cons_mk (Below.trod laidOut (by kernel_rfl) (of_decide_eq_true (by kernel_rfl)) k1 bel lt1) trodAll_mk0)), rfl, bel.frame _, fun h => by cases h⟩
theorem over : Rows.intervalMovedRow.holds Try.pinned (OpenSpec.ofChange Rows.intervalMovedSpec) :=
  OpenClaim.holds_of_wide 7 Try.f7 rfl rfl rfl rfl rfl rfl rfl ⟨rfl, rfl, rfl, rfl, rfl⟩ rfl rfl rfl rfl rfl (by kernel_rfl) Try.func7 (by kernel_rfl)
    (of_decide_eq_true (by kernel_rfl)) (by unfold Func.isWrapper; first | (rw [if_pos (by decide +kernel)]; kernel_rfl) | (rw [if_neg (by decide +kernel)]; exact ⟨rfl, rfl⟩))
    (fun os started H enc _ => lifted os started H enc)
theorem proved : Rows.IntervalMovedSaid := over
#print axioms proved
end Go.Proofs.Ytihifhoemfpalaa.intervalMoved
namespace Go.Proofs.Ytihifhoemfpalaa
/-- The row, under a short name, for the claim. -/
theorem intervalMoved_holds : Rows.IntervalMovedSaid := intervalMoved.proved
end Go.Proofs.Ytihifhoemfpalaa
