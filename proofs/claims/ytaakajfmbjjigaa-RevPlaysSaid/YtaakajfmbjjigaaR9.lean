/- A part of the seat's proofs over the abstract machine. No condition. -/
import Derived.Test.YtaakajfmbjjigaaR8
import Derived.Test.YtaakajfmbjjigaaMF
set_option linter.unusedSimpArgs false
set_option linter.unusedVariables false
set_option maxRecDepth 100000
namespace Go.Proofs.Ytaakajfmbjjigaa.M
open Go Go.Mini
attribute [local congr] go1_congr goM_congr goG_congr goV_congr drawwp_congr
theorem IsRevs.ok {σ : Heap} {k : Nat} {R : Revs} {fp : List Nat} (h : IsRevs σ k R fp) : R.Ok := by obtain ⟨_, _, _, _, _, h, _⟩ := h; exact h.ok
theorem add_good {R : Revs} {g : Int} (h1 : g ∉ R.gone) (h2 : 0 ≤ g) (h3 : g < 60) (h4 : R.head < 200) : addR R g = ({ R.push R.top with grp := insS g R.grp }, (R.head : Int) + 1, 0) := by
  have hnb : ¬ (g ∈ R.gone ∨ g < 0 ∨ 60 ≤ g) := by rintro (h | h | h); exact h1 h; omega; omega
  simp only [addR, if_neg hnb, if_neg (show ¬ 200 ≤ R.head by omega)]
theorem add_many {R : Revs} {g : Int} (h1 : g ∉ R.gone) (h2 : 0 ≤ g) (h3 : g < 60) (h4 : 200 ≤ R.head) : addR R g = (R, 0, 70) := by
  have hnb : ¬ (g ∈ R.gone ∨ g < 0 ∨ 60 ≤ g) := by rintro (h | h | h); exact h1 h; omega; omega
  simp only [addR, if_neg hnb, if_pos h4]
theorem add_bad {R : Revs} {g : Int} (h : g ∈ R.gone ∨ g < 0 ∨ 60 ≤ g) : addR R g = (R, 0, 210) := by simp only [addR, if_pos h]
end Go.Proofs.Ytaakajfmbjjigaa.M
