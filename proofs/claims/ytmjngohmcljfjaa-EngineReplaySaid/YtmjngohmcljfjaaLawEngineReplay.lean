/- EngineReplay holds: of every input that can be read the law returns true, and the input reads as before. No condition. -/
import Derived.Test.YtmjngohmcljfjaaMB
import Derived.Test.YtmjngohmcljfjaaWB
import Derived.Test.YtmjngohmcljfjaaRows
import Derived.WalkKit
import Derived.ProofKit
import Derived.OpenShut
import Derived.ShutString
import Derived.ChangeOld
import Derived.Below
import Derived.SizedLaws
import Derived.Carry
import Derived.Lib.SmallJoins
namespace Go.Proofs.Ytmjngohmcljfjaa.engineReplay
open Go.ChangeShapes Go.WideShapes Go.ChangeAt Go.RowKit Go.Joins Go.Mini Go.Proofs.Ytmjngohmcljfjaa.M
open Go.ChangeMaps (open_string shut_string)
set_option linter.unusedVariables false
theorem own : ownKnob Try.prog.godebug = none := by kernel_rfl
theorem laidOut : laidOutB Try.prog = true := by kernel_rfl
theorem rd3 {W : World} : RdP Try.prog W 3 (fun n : Int => AVal.int .i64 n) (GInt .i64) := rd_int Try.underlying3
theorem rd9 {W : World} : RdP Try.prog W 9 (fun s : List UInt8 => AVal.str s) GStr := rd_str Try.underlying9
theorem rd28 {W : World} : RdP Try.prog W 28 eChg gChg := by
  intro H enc fuel cs x h
  obtain ⟨n, hl, hc⟩ := trod_cells Try.underlying28 (by kernel_rfl) (by kernel_rfl) h
  obtain ⟨c0, c1, c2, rfl⟩ : ∃ c0 c1 c2, cs = [c0, c1, c2] := by
    match cs, hl with
    | [c0, c1, c2], _ => exact ⟨_, _, _, rfl⟩
  obtain ⟨_, h0⟩ := hc 0 _ c0 rfl rfl
  obtain ⟨a0, g0, v0⟩ := rd3 (W := W) _ _ _ _ _ h0
  obtain ⟨_, h1⟩ := hc 1 _ c1 rfl rfl
  obtain ⟨a1, g1, v1⟩ := rd3 (W := W) _ _ _ _ _ h1
  obtain ⟨_, h2⟩ := hc 2 _ c2 rfl rfl
  obtain ⟨a2, g2, v2⟩ := rd9 (W := W) _ _ _ _ _ h2
  exact ⟨⟨a0, a1, a2⟩, ⟨g0, g1, g2⟩, (.cons (v0.one) (.cons (v1.one) (.cons (v2.one) .nil)))⟩
theorem rd26 {W : World} : RdP Try.prog W 26 (fun l : List (Chg) => AVal.fsl 3 (l.map eChg)) (GList gChg) := rd_slice Try.underlying26 (by kernel_rfl) (by decide) (fun _ => rfl) (rd28 (W := W))
theorem rd22 {W : World} : RdP Try.prog W 22 (fun l : List (List (Chg)) => AVal.fsl 1 (l.map (fun l : List (Chg) => AVal.fsl 3 (l.map eChg)))) (GList (GList gChg)) := rd_slice Try.underlying22 (by kernel_rfl) (by decide) (fun _ => rfl) (rd26 (W := W))
set_option maxRecDepth 100000 in
theorem lifted (os : Os) (started : os.Started) (H : Type) (enc : TypeId × Value → H) :
    ReturnsInHanded {} Try.checked os 3 .any (Rows.engineReplaySpec.pre6 enc Try.prog Try.f3 Rows.engineReplayRow.domain false) (Rows.engineReplaySpec.post enc Try.prog Try.f3 false true false false) := by
  refine returnsInHanded_of_change_sized (C := Try.checked) own started (by kernel_rfl) Try.func3
    (ChangeSpec.witness6 (enc := enc) (C := Try.checked) false ⟨#[], #[.slice none 0 0], []⟩ 8 (by kernel_rfl) (by kernel_rfl) (by kernel_rfl) (by kernel_rfl)) ?_
  intro W base args ds gs before hval0 hW hcnd hsz0 _
  have hval : ∀ (j : Nat) t v, Try.f3.params[j]? = some t → args[j]? = some v → Value.okWide Try.prog W .any base t v := hval0
  have hW' := hW
  obtain ⟨p, q, hA0, hV, rfl, hfz, hnd⟩ := hW
  have hA : DataW.TrodAll enc Try.prog W 0 (fun _ => true) true Try.f3.params.toList args.toList ds p := hA0
  rw [Try.params3] at hA hval
  obtain ⟨v0, vs0, d0, ds0, p0, q0, hargs, rfl, rfl, h0, r0⟩ := trodAll_cons hA
  obtain ⟨rfl, rfl, rfl⟩ := trodAll_nil r0
  obtain rfl : args = #[v0] := by cases args; simp_all
  obtain ⟨rfl, rfl⟩ := trodVars_none hV
  have k0 := h0
  have lt0 : ∀ x ∈ p0, x.block < W.heap.size := by obtain ⟨m, hm⟩ := k0; exact DataW.trod_lt m _ _ _ hm
  obtain ⟨_, _, _, rfl⟩ := okWide_slice Try.underlying22 (hval 0 22 v0 rfl rfl)
  obtain ⟨a0, g0, w0⟩ := (by obtain ⟨_, hm⟩ := k0; exact rd22 (W := W) _ _ _ _ _ hm : ∃ a, (GList (GList gChg)) a ∧ VRs (Phi.bare (cellsOf W).f) ((fun l : List (List (Chg)) => AVal.fsl 1 (l.map (fun l : List (Chg) => AVal.fsl 3 (l.map eChg)))) a).cells [_])
  clear hA0 hval0 hsz0
  refine (law_calls (vs := [_]) (engineReplay_row W a0 g0) (.cons w0.one .nil)).mono fun e W' ⟨he, bel⟩ => ?_
  subst he
  exact ⟨_, rfl, _, _, _, [], _, [], hW', trodAll_mk1 (shut_bool Try.underlying4 _),
    (trodAll_cons_mk (Below.trod laidOut (by kernel_rfl) (of_decide_eq_true (by kernel_rfl)) k0 bel lt0) trodAll_mk0), rfl, bel.frame _, fun h => by cases h⟩
theorem over : Rows.engineReplayRow.holds Try.pinned (OpenSpec.ofChange Rows.engineReplaySpec) :=
  OpenClaim.holds_of_wide 3 Try.f3 rfl rfl rfl rfl rfl rfl rfl ⟨rfl, rfl, rfl, rfl, rfl⟩ rfl rfl rfl rfl rfl (by kernel_rfl) Try.func3 (by kernel_rfl)
    (of_decide_eq_true (by kernel_rfl)) (by unfold Func.isWrapper; first | (rw [if_pos (by decide +kernel)]; kernel_rfl) | (rw [if_neg (by decide +kernel)]; exact ⟨rfl, rfl⟩))
    (fun os started H enc _ => lifted os started H enc)
theorem proved : Rows.EngineReplaySaid := over
#print axioms proved
end Go.Proofs.Ytmjngohmcljfjaa.engineReplay
namespace Go.Proofs.Ytmjngohmcljfjaa
/-- The row, under a short name, for the claim. -/
theorem engineReplay_holds : Rows.EngineReplaySaid := engineReplay.proved
end Go.Proofs.Ytmjngohmcljfjaa
