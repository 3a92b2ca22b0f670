/- WholeOnly holds: of every input that can be read the law returns true, and the input reads as before. No condition. -/
import Derived.Test.YtkjikdohnomajaaGreatMB
import Derived.Test.YtkjikdohnomajaaGreatWC
import Derived.Test.YtkjikdohnomajaaGreatRows
import Derived.WalkKit
import Derived.ProofKit
import Derived.OpenShut
import Derived.ShutString
import Derived.ChangeOld
import Derived.Below
import Derived.SizedLaws
import Derived.Carry
import Derived.Lib.SmallJoins
namespace Go.Proofs.YtkjikdohnomajaaGreat.wholeOnly
open Go.ChangeShapes Go.WideShapes Go.ChangeAt Go.RowKit Go.Joins Go.Mini Go.Proofs.YtkjikdohnomajaaGreat.M
open Go.ChangeMaps (open_string shut_string)
set_option linter.unusedVariables false
theorem own : ownKnob Tryz.prog.godebug = none := by kernel_rfl
theorem laidOut : laidOutB Tryz.prog = true := by kernel_rfl
theorem rd9 {W : World} : RdP Tryz.prog W 9 (fun s : List UInt8 => AVal.str s) GStr := rd_str Tryz.underlying9
theorem rd22 {W : World} : RdP Tryz.prog W 22 (fun l : List (List UInt8) => AVal.fsl 1 (l.map (fun s : List UInt8 => AVal.str s))) (GList GStr) := rd_slice Tryz.underlying22 (by kernel_rfl) (by decide) (fun _ => rfl) (rd9 (W := W))
theorem rd5 {W : World} : RdP Tryz.prog W 5 (fun n : Int => AVal.int .u8 n) (GInt .u8) := rd_int Tryz.underlying5
set_option maxRecDepth 100000 in
theorem lifted (os : Os) (started : os.Started) (H : Type) (enc : TypeId × Value → H) :
    ReturnsInHanded {} Tryz.checked os 7 .any (Rows.wholeOnlySpec.pre6 enc Tryz.prog Tryz.f7 Rows.wholeOnlyRow.domain false) (Rows.wholeOnlySpec.post enc Tryz.prog Tryz.f7 false true false false) := by
  refine returnsInHanded_of_change_sized (C := Tryz.checked) own started (by kernel_rfl) Tryz.func7
    (ChangeSpec.witness6 (enc := enc) (C := Tryz.checked) false ⟨#[], #[.slice none 0 0, .int .u8 0], []⟩ 8 (by kernel_rfl) (by kernel_rfl) (by kernel_rfl) (by kernel_rfl)) ?_
  intro W base args ds gs before hval0 hW hcnd hsz0 _
  have hval : ∀ (j : Nat) t v, Tryz.f7.params[j]? = some t → args[j]? = some v → Value.okWide Tryz.prog W .any base t v := hval0
  have hW' := hW
  obtain ⟨p, q, hA0, hV, rfl, hfz, hnd⟩ := hW
  have hA : DataW.TrodAll enc Tryz.prog W 0 (fun _ => true) true Tryz.f7.params.toList args.toList ds p := hA0
  rw [Tryz.params7] at hA hval
  obtain ⟨v0, vs0, d0, ds0, p0, q0, hargs, rfl, rfl, h0, r0⟩ := trodAll_cons hA
  obtain ⟨v1, vs1, d1, ds1, p1, q1, rfl, rfl, rfl, h1, r1⟩ := trodAll_cons r0
  obtain ⟨rfl, rfl, rfl⟩ := trodAll_nil r1
  obtain rfl : args = #[v0, v1] := by cases args; simp_all
  obtain ⟨rfl, rfl⟩ := trodVars_none hV
  have k0 := h0
  have lt0 : ∀ x ∈ p0, x.block < W.heap.size := by obtain ⟨m, hm⟩ := k0; exact DataW.trod_lt m _ _ _ hm
  obtain ⟨_, _, _, rfl⟩ := okWide_slice Tryz.underlying22 (hval 0 22 v0 rfl rfl)
  obtain ⟨a0, g0, w0⟩ := (by obtain ⟨_, hm⟩ := k0; exact rd22 (W := W) _ _ _ _ _ hm : ∃ a, (GList GStr) a ∧ VRs (Phi.bare (cellsOf W).f) ((fun l : List (List UInt8) => AVal.fsl 1 (l.map (fun s : List UInt8 => AVal.str s))) a).cells [_])
  have k1 := h1
  have lt1 : ∀ x ∈ p1, x.block < W.heap.size := by obtain ⟨m, hm⟩ := k1; exact DataW.trod_lt m _ _ _ hm
  obtain ⟨_, rfl, _, _, _⟩ := open_int Tryz.underlying5 (hval 1 5 v1 rfl rfl) h1
  obtain ⟨a1, g1, w1⟩ := (by obtain ⟨_, hm⟩ := k1; exact rd5 (W := W) _ _ _ _ _ hm : ∃ a, (GInt .u8) a ∧ VRs (Phi.bare (cellsOf W).f) ((fun n : Int => AVal.int .u8 n) a).cells [_])
  clear hA0 hval0 hsz0
  refine (law_calls (vs := [_, _]) (wholeOnly_row W a0 a1 g0 g1) (.cons w0.one (.cons w1.one .nil))).mono fun e W' ⟨he, bel⟩ => ?_
  subst he
  exact ⟨_, rfl, _, _, _, [], _, [], hW', trodAll_mk1 (shut_bool Tryz.underlying4 _),
    (trodAll_cons_mk (Below.trod laidOut (by kernel_rfl) (of_decide_eq_true (by kernel_rfl)) k0 bel lt0) (trodAll_cons_mk (Below.trod laidOut (by kernel_rfl) (of_decide_eq_true (by kernel_rfl)) k1 bel lt1) trodAll_mk0)), rfl, bel.frame _, fun h => by cases h⟩
theorem over : Rows.wholeOnlyRow.holds Tryz.pinned (OpenSpec.ofChange Rows.wholeOnlySpec) :=
  OpenClaim.holds_of_wide 7 Tryz.f7 rfl rfl rfl rfl rfl rfl rfl ⟨rfl, rfl, rfl, rfl, rfl⟩ rfl rfl rfl rfl rfl (by kernel_rfl) Tryz.func7 (by kernel_rfl)
    (of_decide_eq_true (by kernel_rfl)) (by unfold Func.isWrapper; first | (rw [if_pos (by decide +kernel)]; kernel_rfl) | (rw [if_neg (by decide +kernel)]; exact ⟨rfl, rfl⟩))
    (fun os started H enc _ => lifted os started H enc)
theorem proved : Rows.WholeOnlySaid := over
#print axioms proved
end Go.Proofs.YtkjikdohnomajaaGreat.wholeOnly
namespace Go.Proofs.YtkjikdohnomajaaGreat
/-- The row, under a short name, for the claim. -/
theorem wholeOnly_holds : Rows.WholeOnlySaid := wholeOnly.proved
end Go.Proofs.YtkjikdohnomajaaGreat
