/- EngineApart holds: of every input that can be read the law returns true, and the input reads as before. No condition. -/
import Derived.Test.YtfkiebglpagnaaaMB
import Derived.Test.YtfkiebglpagnaaaWB
import Derived.Test.YtfkiebglpagnaaaRows
import Derived.WalkKit
import Derived.ProofKit
import Derived.OpenShut
import Derived.ShutString
import Derived.ChangeOld
import Derived.Below
import Derived.SizedLaws
import Derived.Carry
import Derived.Lib.SmallJoins
namespace Go.Proofs.Ytfkiebglpagnaaa.engineApart
open Go.ChangeShapes Go.WideShapes Go.ChangeAt Go.RowKit Go.Joins Go.Mini Go.Proofs.Ytfkiebglpagnaaa.M
open Go.ChangeMaps (open_string shut_string)
set_option linter.unusedVariables false
theorem own : ownKnob Try.prog.godebug = none := by kernel_rfl
theorem laidOut : laidOutB Try.prog = true := by kernel_rfl
theorem rd9 {W : World} : RdP Try.prog W 9 (fun s : List UInt8 => AVal.str s) GStr := rd_str Try.underlying9
theorem rd5 {W : World} : RdP Try.prog W 5 (fun n : Int => AVal.int .u8 n) (GInt .u8) := rd_int Try.underlying5
theorem rd22 {W : World} : RdP Try.prog W 22 (fun l : List (Int) => AVal.fsl 1 (l.map (fun n : Int => AVal.int .u8 n))) (GList (GInt .u8)) := rd_slice Try.underlying22 (by kernel_rfl) (by decide) (fun _ => rfl) (rd5 (W := W))
set_option maxRecDepth 100000 in
theorem lifted (os : Os) (started : os.Started) (H : Type) (enc : TypeId × Value → H) :
    ReturnsInHanded {} Try.checked os 3 .any (Rows.engineApartSpec.pre6 enc Try.prog Try.f3 Rows.engineApartRow.domain false) (Rows.engineApartSpec.post enc Try.prog Try.f3 false true false false) := by
  refine returnsInHanded_of_change_sized (C := Try.checked) own started (by kernel_rfl) Try.func3
    (ChangeSpec.witness6 (enc := enc) (C := Try.checked) false ⟨#[], #[.string ByteArray.empty, .slice none 0 0, .int .u8 0], []⟩ 8 (by kernel_rfl) (by kernel_rfl) (by kernel_rfl) (by kernel_rfl)) ?_
  intro W base args ds gs before hval0 hW hcnd hsz0 _
  have hval : ∀ (j : Nat) t v, Try.f3.params[j]? = some t → args[j]? = some v → Value.okWide Try.prog W .any base t v := hval0
  have hW' := hW
  obtain ⟨p, q, hA0, hV, rfl, hfz, hnd⟩ := hW
  have hA : DataW.TrodAll enc Try.prog W 0 (fun _ => true) true Try.f3.params.toList args.toList ds p := hA0
  rw [Try.params3] at hA hval
  obtain ⟨v0, vs0, d0, ds0, p0, q0, hargs, rfl, rfl, h0, r0⟩ := trodAll_cons hA
  obtain ⟨v1, vs1, d1, ds1, p1, q1, rfl, rfl, rfl, h1, r1⟩ := trodAll_cons r0
  obtain ⟨v2, vs2, d2, ds2, p2, q2, rfl, rfl, rfl, h2, r2⟩ := trodAll_cons r1
  obtain ⟨rfl, rfl, rfl⟩ := trodAll_nil r2
  obtain rfl : args = #[v0, v1, v2] := by cases args; simp_all
  obtain ⟨rfl, rfl⟩ := trodVars_none hV
  have k0 := h0
  have lt0 : ∀ x ∈ p0, x.block < W.heap.size := by obtain ⟨m, hm⟩ := k0; exact DataW.trod_lt m _ _ _ hm
  obtain ⟨_, rfl⟩ := okWide_string Try.underlying9 (hval 0 9 v0 rfl rfl)
  obtain ⟨a0, g0, w0⟩ := (by obtain ⟨_, hm⟩ := k0; exact rd9 (W := W) _ _ _ _ _ hm : ∃ a, GStr a ∧ VRs (Phi.bare (cellsOf W).f) ((fun s : List UInt8 => AVal.str s) a).cells [_])
  have k1 := h1
  have lt1 : ∀ x ∈ p1, x.block < W.heap.size := by obtain ⟨m, hm⟩ := k1; exact DataW.trod_lt m _ _ _ hm
  obtain ⟨_, _, _, rfl⟩ := okWide_slice Try.underlying22 (hval 1 22 v1 rfl rfl)
  obtain ⟨a1, g1, w1⟩ := (by obtain ⟨_, hm⟩ := k1; exact rd22 (W := W) _ _ _ _ _ hm : ∃ a, (GList (GInt .u8)) a ∧ VRs (Phi.bare (cellsOf W).f) ((fun l : List (Int) => AVal.fsl 1 (l.map (fun n : Int => AVal.int .u8 n))) a).cells [_])
  have k2 := h2
  have lt2 : ∀ x ∈ p2, x.block < W.heap.size := by obtain ⟨m, hm⟩ := k2; exact DataW.trod_lt m _ _ _ hm
  obtain ⟨_, rfl, _, _, _⟩ := open_int Try.underlying5 (hval 2 5 v2 rfl rfl) h2
  obtain ⟨a2, g2, w2⟩ := (by obtain ⟨_, hm⟩ := k2; exact rd5 (W := W) _ _ _ _ _ hm : ∃ a, (GInt .u8) a ∧ VRs (Phi.bare (cellsOf W).f) ((fun n : Int => AVal.int .u8 n) a).cells [_])
  clear hA0 hval0 hsz0
  refine (law_calls (vs := [_, _, _]) (engineApart_row W a0 a1 a2 g0 g1 g2) (.cons w0.one (.cons w1.one (.cons w2.one .nil)))).mono fun e W' ⟨he, bel⟩ => ?_
  subst he
  exact ⟨_, rfl, _, _, _, [], _, [], hW', trodAll_mk1 (shut_bool Try.underlying4 _),
    (trodAll_cons_mk (Below.trod laidOut (by kernel_rfl) (of_decide_eq_true (by kernel_rfl)) k0 bel lt0) (trodAll_cons_mk (Below.trod laidOut (by kernel_rfl) (of_decide_eq_true (by kernel_rfl)) k1 bel lt1) (trodAll_cons_mk (Below.trod laidOut (by kernel_rfl) (of_decide_eq_true (by kernel_rfl)) k2 bel lt2) trodAll_mk0))), rfl, bel.frame _, fun h => by cases h⟩
theorem over : Rows.engineApartRow.holds Try.pinned (OpenSpec.ofChange Rows.engineApartSpec) :=
  OpenClaim.holds_of_wide 3 Try.f3 rfl rfl rfl rfl rfl rfl rfl ⟨rfl, rfl, rfl, rfl, rfl⟩ rfl rfl rfl rfl rfl (by kernel_rfl) Try.func3 (by kernel_rfl)
    (of_decide_eq_true (by kernel_rfl)) (by unfold Func.isWrapper; first | (rw [if_pos (by decide +kernel)]; kernel_rfl) | (rw [if_neg (by decide +kernel)]; exact ⟨rfl, rfl⟩))
    (fun os started H enc _ => lifted os started H enc)
theorem proved : Rows.EngineApartSaid := over
#print axioms proved
end Go.Proofs.Ytfkiebglpagnaaa.engineApart
namespace Go.Proofs.Ytfkiebglpagnaaa
/-- The row, under a short name, for the claim. -/
theorem engineApart_holds : Rows.EngineApartSaid := engineApart.proved
end Go.Proofs.Ytfkiebglpagnaaa
