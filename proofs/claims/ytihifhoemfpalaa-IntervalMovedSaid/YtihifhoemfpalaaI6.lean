/- A part of the seat's proofs over the abstract machine. No condition. -/
import Derived.Test.YtihifhoemfpalaaI5
set_option linter.unusedSimpArgs false
set_option linter.unusedVariables false
namespace Go.Proofs.Ytihifhoemfpalaa.M
open Go Go.Mini Go.Sort Go.Shelf
def leIv (x y : Iv) : Prop := x.lo < y.lo ∨ (x.lo = y.lo ∧ x.hi ≤ y.hi)
theorem sort_perm (l : List Iv) : (sortIv l).Perm l := by
  have h := (sortIv_sorts l).1.2.2
  have hn := sortIv_len l
  simpa [Array.extract_eq_self_of_le, hn] using h
theorem sort_sorted (l : List Iv) : (sortIv l).Pairwise leIv := by
  have h := (sortIv_sorts l).2
  have hn := sortIv_len l
  rw [List.pairwise_iff_getElem]
  intro i j hi hj hij
  have := h i j (Nat.zero_le _) hij (by simpa [hn] using hj)
  rw [ltIv] at this
  simp only [decide_eq_false_iff_not] at this
  simp only [List.getElem!_toArray, List.getElem!_eq_getElem?_getD, List.getElem?_eq_getElem hi, List.getElem?_eq_getElem hj, Option.getD_some] at this
  unfold leIv
  omega
theorem leIv_anti {x y : Iv} (h : leIv x y) (h' : leIv y x) : x = y := by
  unfold leIv at *
  cases x; cases y
  simp only [Iv.mk.injEq] at *
  omega
theorem sort_unique {l m : List Iv} (hp : m.Perm l) (hm : m.Pairwise leIv) : sortIv l = m :=
  ((sort_perm l).trans hp.symm).eq_of_pairwise (fun _ _ _ _ h h' => leIv_anti h h') (sort_sorted l) hm
theorem merge_perm {l m : List Iv} (h : l.Perm m) : mergeIv l = mergeIv m := by
  unfold mergeIv
  rw [sort_unique (l := keep l) (m := sortIv (keep m)) ((sort_perm _).trans (h.filter _).symm) (sort_sorted _)]
end Go.Proofs.Ytihifhoemfpalaa.M
