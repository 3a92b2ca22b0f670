/- A part of the seat's proofs over the abstract machine. No condition. -/
import Derived.Test.YtmfeoicoegfpeaaGreatXL43d
set_option linter.unusedSimpArgs false
set_option linter.unusedVariables false
set_option maxRecDepth 100000
set_option maxRecDepth 1000000
set_option maxHeartbeats 0
namespace Go.Proofs.YtmfeoicoegfpeaaGreat.M
open Go Go.Mini
open Kn
theorem stE (W : World) (F : Nat → Nat → Option Value) : (codeC (callC ext tblK 50 60) 50 (restC 9 f_palinodelaw26_known.body) fr9 (mkH W F hp9)).map (fun p => (ends p.1, resOf f_palinodelaw26_known.results p.2.1 p.2.2, p.2.2.W, p.2.2.F0)) = some (true, some (.bool true), W, ⟨F, false⟩) := by kernel_rfl
theorem known_call (σ : Heap) (hd : σ.F0.dr = false) : ACall Tryz.prog n_palinodelaw26_known [] σ (.bool true) σ := by
  refine acall_bare' rfl rfl σ (fun W F => ?_)
  rw [hd]
  have hc : CallOk Tryz.prog (callC ext tblK 50 60) := callC_ok mixed ext_ok tblK_ok 50 60
  have h := stE W F
  rw [Option.map_eq_some_iff] at h
  obtain ⟨⟨x, fr', s⟩, h1, h2⟩ := h
  simp only [Prod.mk.injEq] at h2
  obtain ⟨g1, g2⟩ := afun_of_awp mixed c_palinodelaw26_known (args := []) (σ := Heap.bare W ⟨F, false⟩) (σ' := s) (v := .bool true) (Nat.zero_le _) (runs_ok hc 50 _ _ _ _ _ _ (st4 W F) _ (runs_ok hc 50 _ _ _ _ _ _ (st6 W F) _ (runs_ok hc 50 _ _ _ _ _ _ (st7 W F) _ (runs_ok hc 50 _ _ _ _ _ _ (st9 W F) _ (codeC_ok hc 50 _ _ _ _ _ _ h1 _ ⟨h2.1, h2.2.1, rfl⟩)))))
  exact ⟨.bool true, s, acall_of_afun g1 g2, s, Sees.refl _ _, h2.2.2.1, h2.2.2.2⟩
end Go.Proofs.YtmfeoicoegfpeaaGreat.M

