/- A part of the seat's proofs over the abstract machine. No condition. -/
import Derived.Test.YtihifhoemfpalaaI8
set_option linter.unusedSimpArgs false
set_option linter.unusedVariables false
namespace Go.Proofs.Ytihifhoemfpalaa.M
open Go Go.Mini Go.Sort Go.Shelf
/-- a place lies in one of them -/
def inIvs (l : List Iv) (k : Int) : Prop := ∃ x ∈ l, x.lo ≤ k ∧ k < x.hi
/-- one lies whole in one of them -/
def under (l : List Iv) (x : Iv) : Prop := ∃ y ∈ l, y.lo ≤ x.lo ∧ x.hi ≤ y.hi
theorem join_lo (x y : Iv) : (join x y).lo ≤ x.lo ∧ (join x y).lo ≤ y.lo ∧ x.hi ≤ (join x y).hi ∧ y.hi ≤ (join x y).hi := by
  simp only [join]; refine ⟨?_, ?_, ?_, ?_⟩ <;> split <;> omega
theorem step_under (out : List Iv) (x z : Iv) (h : under out z ∨ z = x) : under (stepIv out x) z := by
  rcases List.eq_nil_or_concat out with rfl | ⟨ini, y, rfl⟩
  · rw [step_nil]
    rcases h with ⟨y, hy, _⟩ | rfl
    · cases hy
    · exact ⟨z, by simp, Int.le_refl _, Int.le_refl _⟩
  · rw [List.concat_eq_append] at *
    rw [step_last]
    have hj := join_lo y x
    by_cases ht : touch y x = true
    · rw [if_pos ht]
      rcases h with ⟨a, ha, h1, h2⟩ | rfl
      · rcases List.mem_append.1 ha with ha | ha
        · exact ⟨a, List.mem_append_left _ ha, h1, h2⟩
        · simp only [List.mem_singleton] at ha; subst ha
          exact ⟨join a x, by simp, by omega, by omega⟩
      · exact ⟨join y z, by simp, by omega, by omega⟩
    · rw [if_neg ht]
      rcases h with ⟨a, ha, h1, h2⟩ | rfl
      · exact ⟨a, List.mem_append_left _ ha, h1, h2⟩
      · exact ⟨z, by simp, Int.le_refl _, Int.le_refl _⟩
theorem fold_under : ∀ (l out : List Iv) (z : Iv), (under out z ∨ z ∈ l) → under (l.foldl stepIv out) z
  | [], out, z, h => by
    rcases h with h | h
    · exact h
    · cases h
  | x :: l, out, z, h => by
    rw [List.foldl_cons]
    refine fold_under l (stepIv out x) z ?_
    rcases h with h | h
    · exact .inl (step_under out x z (.inl h))
    · rcases List.mem_cons.1 h with h | h
      · exact .inl (step_under out x z (.inr h))
      · exact .inr h
theorem merge_under (l : List Iv) (z : Iv) (hz : z ∈ l) (hk : z.lo ≤ z.hi) : under (mergeIv l) z :=
  fold_under _ [] z (.inr ((sort_perm (keep l)).mem_iff.2 (List.mem_filter.2 ⟨hz, by simpa using hk⟩)))
theorem step_in (out : List Iv) (x : Iv) (k : Int) (h : inIvs (stepIv out x) k) : inIvs out k ∨ (x.lo ≤ k ∧ k < x.hi) := by
  rcases List.eq_nil_or_concat out with rfl | ⟨ini, y, rfl⟩
  · rw [step_nil] at h
    obtain ⟨a, ha, h1⟩ := h
    simp only [List.mem_singleton] at ha; subst ha; exact .inr h1
  · rw [List.concat_eq_append] at *
    rw [step_last] at h
    by_cases ht : touch y x = true
    · rw [if_pos ht] at h
      obtain ⟨a, ha, h1, h2⟩ := h
      rcases List.mem_append.1 ha with ha | ha
      · exact .inl ⟨a, List.mem_append_left _ ha, h1, h2⟩
      · simp only [List.mem_singleton] at ha; subst ha
        simp only [touch, Bool.and_eq_true, decide_eq_true_eq] at ht
        by_cases hy : y.lo ≤ k ∧ k < y.hi
        · exact .inl ⟨y, by simp, hy⟩
        · right
          simp only [join] at h1 h2
          split at h1 <;> split at h2 <;> omega
    · rw [if_neg ht] at h
      obtain ⟨a, ha, h1⟩ := h
      rcases List.mem_append.1 ha with ha | ha
      · exact .inl ⟨a, ha, h1⟩
      · simp only [List.mem_singleton] at ha; subst ha; exact .inr h1
theorem fold_in : ∀ (l out : List Iv) (k : Int), inIvs (l.foldl stepIv out) k → inIvs out k ∨ inIvs l k
  | [], out, k, h => .inl h
  | x :: l, out, k, h => by
    rw [List.foldl_cons] at h
    rcases fold_in l (stepIv out x) k h with h | ⟨a, ha, h⟩
    · rcases step_in out x k h with h | h
      · exact .inl h
      · exact .inr ⟨x, by simp, h⟩
    · exact .inr ⟨a, List.mem_cons_of_mem _ ha, h⟩
theorem merge_in (l : List Iv) (k : Int) : inIvs (mergeIv l) k ↔ inIvs l k := by
  constructor
  · intro h
    rcases fold_in _ [] k h with ⟨a, ha, _⟩ | ⟨a, ha, h⟩
    · cases ha
    · exact ⟨a, (List.mem_filter.1 ((sort_perm (keep l)).mem_iff.1 ha)).1, h⟩
  · rintro ⟨a, ha, h1, h2⟩
    obtain ⟨b, hb, g1, g2⟩ := merge_under l a ha (by omega)
    exact ⟨b, hb, by omega, by omega⟩
theorem merge_len (l : List Iv) : (mergeIv l).length ≤ l.length := by
  have h1 := fold_len (sortIv (keep l)) []
  have h2 := sortIv_len (keep l)
  have h3 := keep_len l
  simp only [List.length_nil] at h1
  unfold mergeIv foldIv; omega
end Go.Proofs.Ytihifhoemfpalaa.M
