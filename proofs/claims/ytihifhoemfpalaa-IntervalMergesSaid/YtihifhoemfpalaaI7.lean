/- A part of the seat's proofs over the abstract machine. No condition. -/
import Derived.Test.YtihifhoemfpalaaI6
set_option linter.unusedSimpArgs false
set_option linter.unusedVariables false
namespace Go.Proofs.Ytihifhoemfpalaa.M
open Go Go.Mini Go.Sort Go.Shelf
/-- intervals apart, in order -/
def Apart (l : List Iv) : Prop := (∀ x ∈ l, x.lo ≤ x.hi) ∧ l.Pairwise fun x y => x.hi < y.lo
theorem stepIv_apart {out : List Iv} {x : Iv} (h : Apart out) (hx : x.lo ≤ x.hi) (hl : ∀ y ∈ out, y.lo ≤ x.lo) : Apart (stepIv out x) ∧ ∀ z, x.lo ≤ z → ∀ y ∈ stepIv out x, y.lo ≤ z := by
  rcases List.eq_nil_or_concat out with rfl | ⟨ini, y, rfl⟩
  · rw [step_nil]
    exact ⟨⟨by simpa using hx, by simp⟩, by simp⟩
  · rw [List.concat_eq_append] at *
    obtain ⟨h1, h2⟩ := h
    have hy := h1 y (by simp)
    have hyx := hl y (by simp)
    rw [List.pairwise_append] at h2
    obtain ⟨h3, h4, h5⟩ := h2
    rw [step_last]
    by_cases ht : touch y x = true
    · rw [if_pos ht]
      have hj : (join y x).lo = y.lo := by simp only [join]; rw [if_neg (by omega)]
      have hj2 : y.hi ≤ (join y x).hi := by simp only [join]; split <;> omega
      refine ⟨⟨?_, ?_⟩, ?_⟩
      · intro z hz
        rcases List.mem_append.1 hz with hz | hz
        · exact h1 z (List.mem_append_left _ hz)
        · simp only [List.mem_singleton] at hz; subst hz; omega
      · rw [List.pairwise_append]
        refine ⟨h3, by simp, fun a ha b hb => ?_⟩
        simp only [List.mem_singleton] at hb; subst hb
        have := h5 a ha y (by simp); omega
      · intro z hz a ha
        rcases List.mem_append.1 ha with ha | ha
        · have := hl a (List.mem_append_left _ ha); omega
        · simp only [List.mem_singleton] at ha; subst ha; omega
    · rw [if_neg ht]
      have hlt : y.hi < x.lo := by
        simp only [touch, Bool.and_eq_true, decide_eq_true_eq] at ht; omega
      refine ⟨⟨?_, ?_⟩, ?_⟩
      · intro z hz
        rcases List.mem_append.1 hz with hz | hz
        · exact h1 z hz
        · simp only [List.mem_singleton] at hz; subst hz; exact hx
      · rw [List.pairwise_append]
        refine ⟨by rw [List.pairwise_append]; exact ⟨h3, h4, h5⟩, by simp, fun a ha b hb => ?_⟩
        simp only [List.mem_singleton] at hb; subst hb
        rcases List.mem_append.1 ha with ha | ha
        · have := h5 a ha y (by simp); omega
        · simp only [List.mem_singleton] at ha; subst ha; exact hlt
      · intro z hz a ha
        rcases List.mem_append.1 ha with ha | ha
        · have := hl a ha; omega
        · simp only [List.mem_singleton] at ha; subst ha; exact hz
theorem fold_apart : ∀ (l out : List Iv), Apart out → l.Pairwise leIv → (∀ x ∈ l, x.lo ≤ x.hi) → (∀ x ∈ l, ∀ y ∈ out, y.lo ≤ x.lo) → Apart (l.foldl stepIv out)
  | [], out, h, _, _, _ => h
  | x :: l, out, h, hs, hk, hl => by
    rw [List.pairwise_cons] at hs
    obtain ⟨g1, g2⟩ := stepIv_apart h (hk x (by simp)) (hl x (by simp))
    refine fold_apart l (stepIv out x) g1 hs.2 (fun z hz => hk z (List.mem_cons_of_mem _ hz)) (fun z hz => g2 z.lo ?_)
    have := hs.1 z hz
    unfold leIv at this; omega
theorem merge_apart (l : List Iv) : Apart (mergeIv l) := by
  refine fold_apart _ _ ⟨by simp, .nil⟩ (sort_sorted _) ?_ (by simp)
  intro x hx
  have := (sort_perm (keep l)).mem_iff.1 hx
  simpa [keep] using (List.mem_filter.1 this).2
/-- what lies apart stays as it is -/
theorem fold_id : ∀ (l out : List Iv), Apart (out ++ l) → l.foldl stepIv out = out ++ l
  | [], out, _ => by simp
  | x :: l, out, h => by
    have hstep : stepIv out x = out ++ [x] := by
      rcases List.eq_nil_or_concat out with rfl | ⟨ini, y, rfl⟩
      · rfl
      · rw [List.concat_eq_append] at *
        rw [step_last, if_neg]
        have h2 := h.2
        rw [List.pairwise_append] at h2
        have := h2.2.2 y (by simp) x (by simp)
        simp only [touch, Bool.and_eq_true, decide_eq_true_eq]; omega
    rw [List.foldl_cons, hstep, fold_id l (out ++ [x]) (by simpa using h)]
    simp
theorem merge_id {l : List Iv} (h : Apart l) : mergeIv l = l := by
  have hk : keep l = l := by
    rw [keep, List.filter_eq_self]; intro x hx; simpa using h.1 x hx
  have hs : sortIv l = l := by
    refine sort_unique (List.Perm.refl _) ?_
    refine (List.Pairwise.and_mem.1 h.2).imp ?_
    rintro x y ⟨hx, hy, hxy⟩
    have := h.1 x hx
    unfold leIv; omega
  unfold mergeIv
  rw [hk, hs]
  exact fold_id l [] (by simpa using h)
theorem merge_twice (l : List Iv) : mergeIv (mergeIv l) = mergeIv l := merge_id (merge_apart l)
end Go.Proofs.Ytihifhoemfpalaa.M
