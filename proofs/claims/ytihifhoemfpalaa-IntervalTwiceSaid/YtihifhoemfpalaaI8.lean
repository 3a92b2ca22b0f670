/- A part of the seat's proofs over the abstract machine. No condition. -/
import Derived.Test.YtihifhoemfpalaaI7
set_option linter.unusedSimpArgs false
set_option linter.unusedVariables false
namespace Go.Proofs.Ytihifhoemfpalaa.M
open Go Go.Mini Go.Sort Go.Shelf
/-- moved, without bounds -/
def mv (n : Int) (x : Iv) : Iv := ⟨x.lo + n, x.hi + n⟩
theorem keep_mv (n : Int) (l : List Iv) : keep (l.map (mv n)) = (keep l).map (mv n) := by
  simp only [keep, List.filter_map]
  congr 1
  apply List.filter_congr
  intro x _
  exact decide_eq_decide.2 (by show x.lo + n ≤ x.hi + n ↔ x.lo ≤ x.hi; omega)
theorem touch_mv (n : Int) (x y : Iv) : touch (mv n x) (mv n y) = touch x y := by
  unfold touch
  rw [decide_eq_decide.2 (show (mv n y).lo ≤ (mv n x).hi ↔ y.lo ≤ x.hi by show y.lo + n ≤ x.hi + n ↔ _; omega), decide_eq_decide.2 (show (mv n x).lo ≤ (mv n y).hi ↔ x.lo ≤ y.hi by show x.lo + n ≤ y.hi + n ↔ _; omega)]
theorem join_mv (n : Int) (x y : Iv) : join (mv n x) (mv n y) = mv n (join x y) := by
  have h1 : (join (mv n x) (mv n y)).lo = (join x y).lo + n := by
    show (if y.lo + n < x.lo + n then y.lo + n else x.lo + n) = (if y.lo < x.lo then y.lo else x.lo) + n
    by_cases h : y.lo < x.lo
    · rw [if_pos h, if_pos (by omega)]
    · rw [if_neg h, if_neg (by omega)]
  have h2 : (join (mv n x) (mv n y)).hi = (join x y).hi + n := by
    show (if x.hi + n < y.hi + n then y.hi + n else x.hi + n) = (if x.hi < y.hi then y.hi else x.hi) + n
    by_cases h : x.hi < y.hi
    · rw [if_pos h, if_pos (by omega)]
    · rw [if_neg h, if_neg (by omega)]
  cases hj : join (mv n x) (mv n y)
  rw [hj] at h1 h2
  simp only [mv, Iv.mk.injEq]
  exact ⟨h1, h2⟩
theorem step_mv (n : Int) (out : List Iv) (x : Iv) : stepIv (out.map (mv n)) (mv n x) = (stepIv out x).map (mv n) := by
  rcases List.eq_nil_or_concat out with rfl | ⟨ini, y, rfl⟩
  · rfl
  · rw [List.concat_eq_append, List.map_append, List.map_cons, List.map_nil, step_last, step_last, touch_mv]
    by_cases h : touch y x = true
    · rw [if_pos h, if_pos h, join_mv]; simp
    · rw [if_neg h, if_neg h]; simp
theorem fold_mv (n : Int) : ∀ (l out : List Iv), (l.map (mv n)).foldl stepIv (out.map (mv n)) = (l.foldl stepIv out).map (mv n)
  | [], _ => rfl
  | x :: l, out => by
    rw [List.map_cons, List.foldl_cons, List.foldl_cons, step_mv, fold_mv n l]
theorem merge_mv (n : Int) (l : List Iv) : mergeIv (l.map (mv n)) = (mergeIv l).map (mv n) := by
  unfold mergeIv foldIv
  rw [keep_mv, ← fold_mv n _ [], List.map_nil]
  congr 1
  refine sort_unique ((sort_perm _).map _) ?_
  rw [List.pairwise_map]
  refine (sort_sorted _).imp ?_
  intro x y h
  unfold leIv at *
  show x.lo + n < y.lo + n ∨ (x.lo + n = y.lo + n ∧ x.hi + n ≤ y.hi + n)
  omega
end Go.Proofs.Ytihifhoemfpalaa.M
