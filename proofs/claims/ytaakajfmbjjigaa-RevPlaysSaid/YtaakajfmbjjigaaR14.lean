/- A part of the seat's proofs over the abstract machine. No condition. -/
import Derived.Test.YtaakajfmbjjigaaR13
set_option linter.unusedSimpArgs false
set_option linter.unusedVariables false
set_option maxRecDepth 100000
namespace Go.Proofs.Ytaakajfmbjjigaa.M
open Go Go.Mini
theorem Xwp_congr {P : Program} {n : Nat} {sc : SCode} {Q : SExit → Mini.Frame → Heap → Prop} {fr fr' : Mini.Frame} {σ σ' : Heap} (h : fr = fr') (h' : σ = σ') : Xwp P n sc Q fr σ = Xwp P n sc Q fr' σ' := by rw [h, h']
attribute [local congr] go1_congr goM_congr goG_congr goV_congr drawwp_congr Xwp_congr
theorem toggle_of {R : Revs} {g : Int} (h1 : g ∈ R.grp) (h4 : R.head < 200) : toggleR R g = (R.push (flip g R.top), (R.head : Int) + 1, 0) := by
  simp only [toggleR, if_neg (show ¬ g ∉ R.grp from fun h => h h1), if_neg (show ¬ 200 ≤ R.head by omega)]
theorem toggle_bad {R : Revs} {g : Int} (h1 : g ∉ R.grp) : toggleR R g = (R, 0, 210) := by simp only [toggleR, if_pos h1]
theorem forget_good {R : Revs} {l : List Int} (h : Good R l) : forgetR R l = (⟨[delAll R.top l], R.head, delAll R.grp l, goneAll R.gone l⟩, 0) := by simp only [forgetR, if_pos h]
theorem forget_bad {R : Revs} {l : List Int} (h : ¬ Good R l) : forgetR R l = (R, 210) := by simp only [forgetR, if_neg h]
theorem delAll_filter {s grp : List Int} (p : Int → Bool) (h : ∀ x ∈ s, x ∈ grp) : delAll s (grp.filter p) = s.filter fun x => !p x := by
  unfold delAll
  apply List.filter_congr
  intro x hx
  have := h x hx
  simp only [List.mem_filter, this, true_and, Bool.not_eq_true]
  cases p x <;> simp
end Go.Proofs.Ytaakajfmbjjigaa.M
