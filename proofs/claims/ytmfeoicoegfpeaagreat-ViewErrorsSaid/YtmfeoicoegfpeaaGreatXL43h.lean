/- A part of the seat's proofs over the abstract machine. No condition. -/
import Derived.Test.YtmfeoicoegfpeaaGreatXL43g
import Derived.Test.YtmfeoicoegfpeaaGreatXL43e
import Derived.Test.YtmfeoicoegfpeaaGreatMB
set_option linter.unusedSimpArgs false
set_option linter.unusedVariables false
set_option maxRecDepth 100000
namespace Go.Proofs.YtmfeoicoegfpeaaGreat.M
open Go Go.Mini
open Kn
theorem extV_ok : CallOk Tryz.prog extV := by
  intro f l σ v σ' h
  unfold extV at h
  split at h
  · rename_i e; subst e
    split at h
    · split at h
      · rename_i hd; cases h; exact known_call _ hd
      · cases h
    · cases h
  · split at h
    · rename_i e; subst e; exact extForget_ok h
    · exact ext_ok _ _ _ _ _ h
theorem mod_u8' {x : Int} (h0 : 0 ≤ x) : ∃ d : Nat, x.tmod 12 = (d : Nat) ∧ d < 12 ∧ IntKind.i64.wrap (d : Int) = (d : Int) := by
  have h1 := Int.emod_nonneg x (show (12 : Int) ≠ 0 by decide)
  have h2 := Int.emod_lt_of_pos x (show (0 : Int) < 12 by decide)
  rw [Int.tmod_eq_emod_of_nonneg h0]
  exact ⟨(x % 12).toNat, by omega, by omega, wrap_id (by omega) (by omega)⟩
theorem viewErrors_fspec (W : World) (n : Int) (h0 : 0 ≤ n) (h1 : n < 256) : FSpec Tryz.prog n_palinodelaw26_ViewErrors [.int .u8 n] (Heap.bare W (cellsOf W)) fun v s => v = .bool true ∧ s.W = W := by
  refine fspec_of_awp mixed c_palinodelaw26_ViewErrors (tl rfl) ?_
  have hc : CallOk Tryz.prog (callC extV tblV 50 60) := callC_ok mixed extV_ok tblV_ok 50 60
  have key : ∀ Q : SExit → Mini.Frame → Heap → Prop, (∀ e fr s, ends e = true → resOf f_palinodelaw26_ViewErrors.results fr s = some (.bool true) → s.W = W → Q e fr s) → awp Tryz.prog f_palinodelaw26_ViewErrors.body Q (Mini.Frame.ofArgs 0 [.int .u8 n]) (Heap.bare W (cellsOf W)) := by
    intro Q hQ
    refine runs_ok hc 50 6 _ _ _ _ _ (sv6 W (cellsOf W).f n) Q ?_
    obtain ⟨d, hd, hdl, hdw⟩ := mod_u8' h0
    have e0 : (frV n).get 0 = .int .u8 n := by kernel_rfl
    have h12 : ((12 : Int) = 0) = False := eq_false (by decide)
    have fin : ∀ r : Nat, r < 12 → awp Tryz.prog (restC 7 f_palinodelaw26_ViewErrors.body) Q (((((frV n).put 35 (.int .u8 n)).put 36 (.int .u8 (r : Int))).put 37 (.int .i64 (r : Int))).put 6 (.int .i64 (r : Int))) (mkH W (cellsOf W).f hpV) := by
      intro r hr
      match r, hr with
      | 0, _ => exact run_end hc (sr0 W (cellsOf W).f n 0) hQ
      | 1, _ => exact run_end hc (sr1 W (cellsOf W).f n 1) hQ
      | 2, _ => exact run_end hc (sr2 W (cellsOf W).f n 2) hQ
      | 3, _ => exact run_end hc (sr3 W (cellsOf W).f n 3) hQ
      | 4, _ => exact run_end hc (sr4 W (cellsOf W).f n 4) hQ
      | 5, _ => exact run_end hc (sr5 W (cellsOf W).f n 5) hQ
      | 6, _ => exact run_end hc (sr6 W (cellsOf W).f n 6) hQ
      | 7, _ => exact run_end hc (sr7 W (cellsOf W).f n 7) hQ
      | 8, _ => exact run_end hc (sr8 W (cellsOf W).f n 8) hQ
      | 9, _ => exact run_end hc (sr9 W (cellsOf W).f n 9) hQ
      | 10, _ => exact run_end hc (sr10 W (cellsOf W).f n 10) hQ
      | 11, _ => exact run_end hc (sr11 W (cellsOf W).f n 11) hQ
    show awp Tryz.prog (.seq (.reg none [⟨some 35, .mv (.tmp 0), none, []⟩, ⟨some 36, .bin .rem .int (.tmp 35) (.lit (.int .u8 12)), none, [0]⟩, ⟨some 37, .cint .i64 (.tmp 36), none, [1]⟩, ⟨some 6, .mv (.tmp 37), none, [2, 0, 1, 2]⟩]) (restC 7 f_palinodelaw26_ViewErrors.body)) Q (frV n) (mkH W (cellsOf W).f hpV)
    generalize hR : restC 7 f_palinodelaw26_ViewErrors.body = R at fin ⊢
    simp +decide only [↓evd, evw, evz, reduceCtorEq, ↓reduceIte, e0, h12, hd, hdw]
    exact fin d (by omega)
  exact key _ fun e fr s q1 q2 q3 => ⟨q1, _, q2, rfl, q3⟩
theorem viewErrors_row (W : World) (a0 : Int) (g0 : GInt .u8 a0) : FSpec Tryz.prog n_palinodelaw26_ViewErrors [.int .u8 a0] (Heap.bare W (cellsOf W)) fun v s => v = .bool true ∧ s.W = W :=
  viewErrors_fspec W a0 (gint_u8 g0).1 (gint_u8 g0).2
end Go.Proofs.YtmfeoicoegfpeaaGreat.M

