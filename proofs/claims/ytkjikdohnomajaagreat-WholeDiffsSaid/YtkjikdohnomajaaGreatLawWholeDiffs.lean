/- WholeDiffs holds: of every input that can be read the law returns true, and the input reads as before. No condition. -/
import Derived.Test.YtkjikdohnomajaaGreatMB
import Derived.Test.YtkjikdohnomajaaGreatWC
import Derived.Test.YtkjikdohnomajaaGreatRows
import Derived.WalkKit
import Derived.ProofKit
import Derived.OpenShut
import Derived.ShutString
import Derived.ChangeOld
import Derived.Below
import Derived.SizedLaws
import Derived.Carry
import Derived.Lib.SmallJoins
namespace Go.Proofs.YtkjikdohnomajaaGreat.wholeDiffs
open Go.ChangeShapes Go.WideShapes Go.ChangeAt Go.RowKit Go.Joins Go.Mini Go.Proofs.YtkjikdohnomajaaGreat.M
open Go.ChangeMaps (open_string shut_string)
set_option linter.unusedVariables false
theorem own : ownKnob Tryz.prog.godebug = none := by kernel_rfl
theorem laidOut : laidOutB Tryz.prog = true := by kernel_rfl
theorem rd3 {W : World} : RdP Tryz.prog W 3 (fun n : Int => AVal.int .i64 n) (GInt .i64) := rd_int Tryz.underlying3
theorem rd9 {W : World} : RdP Tryz.prog W 9 (fun s : List UInt8 => AVal.str s) GStr := rd_str Tryz.underlying9
theorem rd34 {W : World} : RdP Tryz.prog W 34 eChg gChg := by
  intro H enc fuel cs x h
  obtain ⟨n, hl, hc⟩ := trod_cells Tryz.underlying34 (by kernel_rfl) (by kernel_rfl) h
  obtain ⟨c0, c1, c2, rfl⟩ : ∃ c0 c1 c2, cs = [c0, c1, c2] := by
    match cs, hl with
    | [c0, c1, c2], _ => exact ⟨_, _, _, rfl⟩
  obtain ⟨_, h0⟩ := hc 0 _ c0 rfl rfl
  obtain ⟨a0, g0, v0⟩ := rd3 (W := W) _ _ _ _ _ h0
  obtain ⟨_, h1⟩ := hc 1 _ c1 rfl rfl
  obtain ⟨a1, g1, v1⟩ := rd3 (W := W) _ _ _ _ _ h1
  obtain ⟨_, h2⟩ := hc 2 _ c2 rfl rfl
  obtain ⟨a2, g2, v2⟩ := rd9 (W := W) _ _ _ _ _ h2
  exact ⟨⟨a0, a1, a2⟩, ⟨g0, g1, g2⟩, (.cons (v0.one) (.cons (v1.one) (.cons (v2.one) .nil)))⟩
theorem rd35 {W : World} : RdP Tryz.prog W 35 (fun l : List (Chg) => AVal.fsl 3 (l.map eChg)) (GList gChg) := rd_slice Tryz.underlying35 (by kernel_rfl) (by decide) (fun _ => rfl) (rd34 (W := W))
theorem rd38 {W : World} : RdP Tryz.prog W 38 (fun l : List (Int) => AVal.fsl 1 (l.map (fun n : Int => AVal.int .i64 n))) (GList (GInt .i64)) := rd_slice Tryz.underlying38 (by kernel_rfl) (by decide) (fun _ => rfl) (rd3 (W := W))
theorem rd49 {W : World} : RdP Tryz.prog W 49 eStep gStep := by
  intro H enc fuel cs x h
  obtain ⟨n, hl, hc⟩ := trod_cells Tryz.underlying49 (by kernel_rfl) (by kernel_rfl) h
  obtain ⟨c0, c1, c2, c3, c4, c5, rfl⟩ : ∃ c0 c1 c2 c3 c4 c5, cs = [c0, c1, c2, c3, c4, c5] := by
    match cs, hl with
    | [c0, c1, c2, c3, c4, c5], _ => exact ⟨_, _, _, _, _, _, rfl⟩
  obtain ⟨_, h0⟩ := hc 0 _ c0 rfl rfl
  obtain ⟨a0, g0, v0⟩ := rd3 (W := W) _ _ _ _ _ h0
  obtain ⟨_, h1⟩ := hc 1 _ c1 rfl rfl
  obtain ⟨a1, g1, v1⟩ := rd3 (W := W) _ _ _ _ _ h1
  obtain ⟨_, h2⟩ := hc 2 _ c2 rfl rfl
  obtain ⟨a2, g2, v2⟩ := rd3 (W := W) _ _ _ _ _ h2
  obtain ⟨_, h3⟩ := hc 3 _ c3 rfl rfl
  obtain ⟨a3, g3, v3⟩ := rd3 (W := W) _ _ _ _ _ h3
  obtain ⟨_, h4⟩ := hc 4 _ c4 rfl rfl
  obtain ⟨a4, g4, v4⟩ := rd35 (W := W) _ _ _ _ _ h4
  obtain ⟨_, h5⟩ := hc 5 _ c5 rfl rfl
  obtain ⟨a5, g5, v5⟩ := rd38 (W := W) _ _ _ _ _ h5
  exact ⟨⟨a0, a1, a2, a3, a4, a5⟩, ⟨g0, g1, g2, g3, g4, g5⟩, (.cons (v0.one) (.cons (v1.one) (.cons (v2.one) (.cons (v3.one) (.cons (v4.one) (.cons (v5.one) .nil))))))⟩
theorem rd46 {W : World} : RdP Tryz.prog W 46 (fun l : List (Step) => AVal.fsl 6 (l.map eStep)) (GList gStep) := rd_slice Tryz.underlying46 (by kernel_rfl) (by decide) (fun _ => rfl) (rd49 (W := W))
set_option maxRecDepth 100000 in
theorem lifted (os : Os) (started : os.Started) (H : Type) (enc : TypeId × Value → H) :
    ReturnsInHanded {} Tryz.checked os 6 .any (Rows.wholeDiffsSpec.pre6 enc Tryz.prog Tryz.f6 Rows.wholeDiffsRow.domain false) (Rows.wholeDiffsSpec.post enc Tryz.prog Tryz.f6 false true false false) := by
  refine returnsInHanded_of_change_sized (C := Tryz.checked) own started (by kernel_rfl) Tryz.func6
    (ChangeSpec.witness6 (enc := enc) (C := Tryz.checked) false ⟨#[], #[.slice none 0 0], []⟩ 8 (by kernel_rfl) (by kernel_rfl) (by kernel_rfl) (by kernel_rfl)) ?_
  intro W base args ds gs before hval0 hW hcnd hsz0 _
  have hval : ∀ (j : Nat) t v, Tryz.f6.params[j]? = some t → args[j]? = some v → Value.okWide Tryz.prog W .any base t v := hval0
  have hW' := hW
  obtain ⟨p, q, hA0, hV, rfl, hfz, hnd⟩ := hW
  have hA : DataW.TrodAll enc Tryz.prog W 0 (fun _ => true) true Tryz.f6.params.toList args.toList ds p := hA0
  rw [Tryz.params6] at hA hval
  obtain ⟨v0, vs0, d0, ds0, p0, q0, hargs, rfl, rfl, h0, r0⟩ := trodAll_cons hA
  obtain ⟨rfl, rfl, rfl⟩ := trodAll_nil r0
  obtain rfl : args = #[v0] := by cases args; simp_all
  obtain ⟨rfl, rfl⟩ := trodVars_none hV
  have k0 := h0
  have lt0 : ∀ x ∈ p0, x.block < W.heap.size := by obtain ⟨m, hm⟩ := k0; exact DataW.trod_lt m _ _ _ hm
  obtain ⟨_, _, _, rfl⟩ := okWide_slice Tryz.underlying46 (hval 0 46 v0 rfl rfl)
  obtain ⟨a0, g0, w0⟩ := (by obtain ⟨_, hm⟩ := k0; exact rd46 (W := W) _ _ _ _ _ hm : ∃ a, (GList gStep) a ∧ VRs (Phi.bare (cellsOf W).f) ((fun l : List (Step) => AVal.fsl 6 (l.map eStep)) a).cells [_])
  clear hA0 hval0 hsz0
  refine (law_calls (vs := [_]) (wholeDiffs_row W a0 g0) (.cons w0.one .nil)).mono fun e W' ⟨he, bel⟩ => ?_
  subst he
  exact ⟨_, rfl, _, _, _, [], _, [], hW', trodAll_mk1 (shut_bool Tryz.underlying4 _),
    (trodAll_cons_mk (Below.trod laidOut (by kernel_rfl) (of_decide_eq_true (by kernel_rfl)) k0 bel lt0) trodAll_mk0), rfl, bel.frame _, fun h => by cases h⟩
theorem over : Rows.wholeDiffsRow.holds Tryz.pinned (OpenSpec.ofChange Rows.wholeDiffsSpec) :=
  OpenClaim.holds_of_wide 6 Tryz.f6 rfl rfl rfl rfl rfl rfl rfl ⟨rfl, rfl, rfl, rfl, rfl⟩ rfl rfl rfl rfl rfl (by kernel_rfl) Tryz.func6 (by kernel_rfl)
    (of_decide_eq_true (by kernel_rfl)) (by unfold Func.isWrapper; first | (rw [if_pos (by decide +kernel)]; kernel_rfl) | (rw [if_neg (by decide +kernel)]; exact ⟨rfl, rfl⟩))
    (fun os started H enc _ => lifted os started H enc)
theorem proved : Rows.WholeDiffsSaid := over
#print axioms proved
end Go.Proofs.YtkjikdohnomajaaGreat.wholeDiffs
namespace Go.Proofs.YtkjikdohnomajaaGreat
/-- The row, under a short name, for the claim. -/
theorem wholeDiffs_holds : Rows.WholeDiffsSaid := wholeDiffs.proved
end Go.Proofs.YtkjikdohnomajaaGreat
