/- More of the abstract machine: contracts of functions that are not compiled. No condition. -/
import Derived.Test.YtihifhoemfpalaaME
import Derived.ChangeArms
import Derived.ChangeReads
set_option linter.unusedVariables false
set_option linter.unusedSimpArgs false
namespace Go.Mini
open Go
/-- of the heap what lies below B is as it was -/
def Ext (B : Nat) (σ τ : Heap) : Prop := τ.W = σ.W ∧ τ.F0 = σ.F0 ∧ σ.next ≤ τ.next ∧ ∀ k, k < B → τ.get k = σ.get k
theorem Ext.refl (B : Nat) (σ : Heap) : Ext B σ σ := ⟨rfl, rfl, Nat.le_refl _, fun _ _ => rfl⟩
theorem Ext.trans {B : Nat} {σ τ ρ : Heap} (h : Ext B σ τ) (h' : Ext B τ ρ) : Ext B σ ρ := ⟨h'.1.trans h.1, h'.2.1.trans h.2.1, Nat.le_trans h.2.2.1 h'.2.2.1, fun k hk => (h'.2.2.2 k hk).trans (h.2.2.2 k hk)⟩
theorem Ext.new {B : Nat} {σ τ : Heap} (h : Ext B σ τ) (hB : B ≤ σ.next) (b : ABlk) : Ext B σ (τ.new b) := ⟨h.1, h.2.1, Nat.le_succ_of_le h.2.2.1, fun k hk => by rw [Heap.get_new, if_neg (by have := h.2.2.1; omega)]; exact h.2.2.2 k hk⟩
theorem Ext.set {B : Nat} {σ τ : Heap} (h : Ext B σ τ) {j : Nat} (hj : B ≤ j) (b : ABlk) : Ext B σ (τ.set j b) := ⟨h.1, h.2.1, h.2.2.1, fun k hk => by rw [Heap.get_set, if_neg (by omega)]; exact h.2.2.2 k hk⟩

/-! ### Rows of one's own that grow -/
/-- the slice x is nil, or has a block of its own that was made since B; it holds these elements -/
def Own (B : Nat) (σ : Heap) (e : TypeId) (k : Nat) (x : AVal) (els : List AVal) : Prop :=
  (∀ e ∈ els, e.cells.length = k) ∧ ((x = .nils ∧ els = []) ∨ ∃ K, x = .slc (.new K) 0 els.length (.gr k) ∧ σ.get K = some (.cells (els.flatMap AVal.cells) (some e)) ∧ B ≤ K ∧ K < σ.next)
theorem Own.nil (B : Nat) (σ : Heap) (e : TypeId) (k : Nat) : Own B σ e k .nils [] := ⟨fun _ h => (by cases h), .inl ⟨rfl, rfl⟩⟩
theorem Own.len {B k : Nat} {e : TypeId} {σ : Heap} {x : AVal} {els : List AVal} (h : Own B σ e k x els) : aLen x = some (.int .i64 els.length) := by
  rcases h.2 with ⟨rfl, rfl⟩ | ⟨K, rfl, _⟩ <;> rfl
theorem Own.new {B k : Nat} {e : TypeId} {σ : Heap} {x : AVal} {els : List AVal} (h : Own B σ e k x els) (b : ABlk) : Own B (σ.new b) e k x els := by
  refine ⟨h.1, ?_⟩
  rcases h.2 with h2 | ⟨K, h1, h2, h3, h4⟩
  · exact .inl h2
  · exact .inr ⟨K, h1, by rw [Heap.get_new, if_neg (by omega)]; exact h2, h3, by simp only [Heap.new_next]; omega⟩
theorem Own.set {B k : Nat} {e : TypeId} {σ : Heap} {x : AVal} {els : List AVal} (h : Own B σ e k x els) {j : Nat} (hj : ∀ K o n c, x = .slc (.new K) o n c → j ≠ K) (b : ABlk) : Own B (σ.set j b) e k x els := by
  refine ⟨h.1, ?_⟩
  rcases h.2 with h2 | ⟨K, h1, h2, h3, h4⟩
  · exact .inl h2
  · exact .inr ⟨K, h1, by rw [Heap.get_set, if_neg (hj _ _ _ _ h1)]; exact h2, h3, by simpa using h4⟩
theorem Own.low {B k : Nat} {e : TypeId} {σ : Heap} {x : AVal} {els : List AVal} (h : Own B σ e k x els) {K o n : Nat} {c : Cap} (hx : x = .slc (.new K) o n c) : B ≤ K ∧ K < σ.next := by
  rcases h.2 with ⟨h1, _⟩ | ⟨K', h1, _, h3, h4⟩
  · rw [h1] at hx; cases hx
  · rw [h1] at hx; cases hx; exact ⟨h3, h4⟩
theorem cellsFrom_get {σ : Heap} {K : Nat} {cs : List AVal} {opn : Option TypeId} (hg : σ.get K = some (.cells cs opn)) : ∀ (n off : Nat), off + n ≤ cs.length → cellsFrom σ (.new K) off n = some ((cs.drop off).take n)
  | 0, off, _ => by simp [cellsFrom]
  | n + 1, off, h => by
    have h1 : off < cs.length := by omega
    have e : σ.cell (.new K) off = some cs[off] := by simp only [Heap.cell, hg]; exact List.getElem?_eq_getElem h1
    simp only [cellsFrom, e, cellsFrom_get hg n (off + 1) (by omega)]
    rw [List.drop_eq_getElem_cons h1, List.take_succ_cons]
theorem cellsFrom_whole {σ : Heap} {K : Nat} {cs : List AVal} {opn : Option TypeId} (hg : σ.get K = some (.cells cs opn)) : cellsFrom σ (.new K) 0 cs.length = some cs := by
  rw [cellsFrom_get hg _ _ (by omega)]; simp
theorem flat_len {k : Nat} {els : List AVal} (h : ∀ e ∈ els, e.cells.length = k) : (els.flatMap AVal.cells).length = els.length * k := by
  have := (flatMap_take els els.length h (Nat.le_refl _)).2
  rwa [List.take_length] at this
/-- elements put behind a row of one's own -/
theorem own_app {B k bytes : Nat} {e : TypeId} {σ : Heap} {x y : AVal} {els ys : List AVal} (h : Own B σ e k x els) (hB : B ≤ σ.next) (hl : aLenOf y = some ys.length) (hys : srcCells σ k ys.length y = some (ys.flatMap AVal.cells))
    (hk' : ∀ e ∈ ys, e.cells.length = k) (hc : (ys.flatMap AVal.cells).all AVal.isCell = true) (hk : 0 < k) (hb : 0 < bytes) (hroom : (els.length + ys.length) * bytes ≤ maxRoom) :
    ∃ x' σ', aApp e k bytes x y σ = some (x', σ') ∧ Own B σ' e k x' (els ++ ys) ∧ Ext B σ σ' ∧ (∀ q, q < σ.next → (∀ K o n c, x = .slc (.new K) o n c → q ≠ K) → σ'.get q = σ.get q) := by
  have hcond : (!((ys.flatMap AVal.cells).all AVal.isCell) || bytes = 0 || k = 0) = false := by simp only [hc]; simp; omega
  have hall : ∀ e ∈ els ++ ys, e.cells.length = k := by
    intro z hz
    rcases List.mem_append.1 hz with hz | hz
    · exact h.1 z hz
    · exact hk' z hz
  have hstart : aApp e k bytes x y σ = (match x with
      | .nils => if ys.length = 0 then some (.nils, σ) else
        if ys.length * bytes ≤ maxRoom then some (.slc (.new σ.next) 0 ys.length (.gr k), σ.new (.cells (ys.flatMap AVal.cells) (some e))) else none
      | .slc (.new b) off len (.gr k') =>
        if ys.length = 0 then some (x, σ) else
        if k' = k && (len + ys.length) * bytes ≤ maxRoom then
          match σ.get b, cellsFrom σ (.new b) off (len * k) with
          | some (.cells cs (some e')), some xs =>
            if off = 0 && cs.length = len * k && decide (e' = e) then some (.slc (.new σ.next) 0 (len + ys.length) (.gr k), (σ.set b .dead).new (.cells (xs ++ ys.flatMap AVal.cells) (some e))) else none
          | _, _ => none
        else none
      | _ => aApp e k bytes x y σ) := by
    rcases h.2 with ⟨rfl, rfl⟩ | ⟨K, rfl, hg, hBK, hKn⟩
    · simp only [aApp, hl, hys, hcond, Bool.false_eq_true, if_false]
    · simp only [aApp, hl, hys, hcond, Bool.false_eq_true, if_false]
      rfl
  by_cases h0 : ys = []
  · subst h0
    refine ⟨x, σ, ?_, by rw [List.append_nil]; exact h, Ext.refl _ _, fun _ _ _ => rfl⟩
    rw [hstart]
    rcases h.2 with ⟨rfl, rfl⟩ | ⟨K, rfl, hg, hBK, hKn⟩ <;> rfl
  have hy0 : ys.length ≠ 0 := by simpa using h0
  rcases h.2 with ⟨rfl, rfl⟩ | ⟨K, rfl, hg, hBK, hKn⟩
  · refine ⟨.slc (.new σ.next) 0 ys.length (.gr k), σ.new (.cells (ys.flatMap AVal.cells) (some e)), ?_, ⟨hall, .inr ⟨σ.next, rfl, ?_, hB, by simp⟩⟩, (Ext.refl B σ).new hB _, fun q hq _ => ?_⟩
    · rw [hstart]
      simp only [if_neg hy0]
      rw [if_pos (by simpa using hroom)]
    · rw [Heap.get_new, if_pos rfl]; rfl
    · rw [Heap.get_new, if_neg (by omega)]
  · refine ⟨.slc (.new σ.next) 0 (els.length + ys.length) (.gr k), (σ.set K .dead).new (.cells (els.flatMap AVal.cells ++ ys.flatMap AVal.cells) (some e)), ?_, ⟨hall, .inr ⟨σ.next, by rw [List.length_append], ?_, hB, by simp⟩⟩, ?_, fun q hq hne => ?_⟩
    · rw [hstart]
      have ec := cellsFrom_whole hg
      have e0 := flat_len h.1
      rw [e0] at ec
      simp only [if_neg hy0]
      rw [if_pos (by simp [hroom])]
      simp only [hg, ec]
      rw [if_pos (by simp [e0])]
    · rw [Heap.get_new]; simp
    · exact ((Ext.refl B σ).set hBK _).new hB _
    · rw [Heap.get_new, if_neg (by simp; omega), Heap.get_set, if_neg (fun e => hne _ _ _ _ rfl e.symm)]
theorem Own.sees {B k : Nat} {e : TypeId} {σ : Heap} {x : AVal} {els : List AVal} (h : Own B σ e k x els) : ∃ τ, Sees σ x τ (.fsl k els) ∧ τ.W = σ.W ∧ τ.F0 = σ.F0 ∧ τ.next = σ.next ∧ ∀ q, q < B → τ.get q = σ.get q := by
  rcases h.2 with ⟨rfl, rfl⟩ | ⟨K, rfl, hg, hBK, hKn⟩
  · exact ⟨σ, Sees.nils σ k, rfl, rfl, rfl, fun _ _ => rfl⟩
  · refine ⟨σ.set K .dead, Sees.own hg rfl h.1 ?_ (fun c hc => by cases hc), rfl, rfl, rfl, fun q hq => by rw [Heap.get_set, if_neg (by omega)]⟩
    rw [List.drop_zero, List.take_of_length_le (by rw [flat_len h.1]; omega)]

/-! ### Rows of one's own, with room or grown -/
def Row (B : Nat) (σ : Heap) (e : TypeId) (k : Nat) (x : AVal) (els : List AVal) : Prop :=
  (∀ z ∈ els, z.cells.length = k) ∧ ((x = .nils ∧ els = []) ∨ ∃ K cap cs opn, x = .slc (.new K) 0 els.length cap ∧ σ.get K = some (.cells cs opn) ∧ cs.take (els.length * k) = els.flatMap AVal.cells ∧ B ≤ K ∧ K < σ.next ∧
    ((cap = .gr k ∧ opn = some e ∧ cs.length = els.length * k) ∨ ∃ c, cap = .ex c ∧ els.length ≤ c ∧ cs.length = c * k))
theorem Own.row {B k : Nat} {e : TypeId} {σ : Heap} {x : AVal} {els : List AVal} (h : Own B σ e k x els) : Row B σ e k x els := by
  refine ⟨h.1, ?_⟩
  rcases h.2 with h2 | ⟨K, h1, h2, h3, h4⟩
  · exact .inl h2
  · exact .inr ⟨K, _, _, _, h1, h2, by rw [List.take_of_length_le (by rw [flat_len h.1]; omega)], h3, h4, .inl ⟨rfl, rfl, flat_len h.1⟩⟩
theorem Row.nil (B : Nat) (σ : Heap) (e : TypeId) (k : Nat) : Row B σ e k .nils [] := (Own.nil B σ e k).row
/-- make(T, 0, c) -/
theorem Row.make {B : Nat} {σ : Heap} (hB : B ≤ σ.next) (e : TypeId) (k c : Nat) (cs : List AVal) (opn : Option TypeId) (h : cs.length = c * k) : Row B (σ.new (.cells cs opn)) e k (.slc (.new σ.next) 0 0 (.ex c)) [] :=
  ⟨fun _ h => (by cases h), .inr ⟨σ.next, _, _, _, rfl, by rw [Heap.get_new, if_pos rfl], by simp, hB, by simp, .inr ⟨c, rfl, by simp, h⟩⟩⟩
theorem Row.len {B k : Nat} {e : TypeId} {σ : Heap} {x : AVal} {els : List AVal} (h : Row B σ e k x els) : aLen x = some (.int .i64 els.length) := by
  rcases h.2 with ⟨rfl, rfl⟩ | ⟨K, cap, cs, opn, rfl, _⟩ <;> rfl
theorem Row.new {B k : Nat} {e : TypeId} {σ : Heap} {x : AVal} {els : List AVal} (h : Row B σ e k x els) (b : ABlk) : Row B (σ.new b) e k x els := by
  refine ⟨h.1, ?_⟩
  rcases h.2 with h2 | ⟨K, cap, cs, opn, h1, h2, h3, h4, h5, h6⟩
  · exact .inl h2
  · exact .inr ⟨K, cap, cs, opn, h1, by rw [Heap.get_new, if_neg (by omega)]; exact h2, h3, h4, by simp only [Heap.new_next]; omega, h6⟩
theorem Row.set {B k : Nat} {e : TypeId} {σ : Heap} {x : AVal} {els : List AVal} (h : Row B σ e k x els) {j : Nat} (hj : ∀ K o n c, x = .slc (.new K) o n c → j ≠ K) (b : ABlk) : Row B (σ.set j b) e k x els := by
  refine ⟨h.1, ?_⟩
  rcases h.2 with h2 | ⟨K, cap, cs, opn, h1, h2, h3, h4, h5, h6⟩
  · exact .inl h2
  · exact .inr ⟨K, cap, cs, opn, h1, by rw [Heap.get_set, if_neg (hj _ _ _ _ h1)]; exact h2, h3, h4, by simpa using h5, h6⟩
theorem Row.low {B k : Nat} {e : TypeId} {σ : Heap} {x : AVal} {els : List AVal} (h : Row B σ e k x els) {K o n : Nat} {c : Cap} (hx : x = .slc (.new K) o n c) : B ≤ K ∧ K < σ.next := by
  rcases h.2 with ⟨h1, _⟩ | ⟨K', cap, cs, opn, h1, _, _, h4, h5, _⟩
  · rw [h1] at hx; cases hx
  · rw [h1] at hx; cases hx; exact ⟨h4, h5⟩
/-- a variable made, and written -/
theorem Row.var {B k : Nat} {e : TypeId} {σ : Heap} {x : AVal} {els : List AVal} (h : Row B σ e k x els) (b c : ABlk) : Row B ((σ.new b).set σ.next c) e k x els :=
  (h.new b).set (fun K o n c' hx => by have := h.low hx; omega) c
theorem Row.sees {B k : Nat} {e : TypeId} {σ : Heap} {x : AVal} {els : List AVal} (h : Row B σ e k x els) : ∃ τ, Sees σ x τ (.fsl k els) ∧ τ.W = σ.W ∧ τ.F0 = σ.F0 ∧ τ.next = σ.next ∧ ∀ q, q < B → τ.get q = σ.get q := by
  rcases h.2 with ⟨rfl, rfl⟩ | ⟨K, cap, cs, opn, rfl, hg, ht, hBK, hKn, hcap⟩
  · exact ⟨σ, Sees.nils σ k, rfl, rfl, rfl, fun _ _ => rfl⟩
  · refine ⟨σ.set K .dead, Sees.own hg rfl h.1 (by rw [List.drop_zero, ht]) ?_, rfl, rfl, rfl, fun q hq => by rw [Heap.get_set, if_neg (by omega)]⟩
    rcases hcap with ⟨rfl, _⟩ | ⟨c, rfl, h1, _⟩
    · intro c hc; cases hc
    · intro c' hc; cases hc; exact h1
theorem row_app {B k bytes : Nat} {e : TypeId} {σ : Heap} {x y : AVal} {els ys : List AVal} (h : Row B σ e k x els) (hB : B ≤ σ.next) (hl : aLenOf y = some ys.length) (hys : srcCells σ k ys.length y = some (ys.flatMap AVal.cells))
    (hk' : ∀ e ∈ ys, e.cells.length = k) (hc : (ys.flatMap AVal.cells).all AVal.isCell = true) (hk : 0 < k) (hb : 0 < bytes) (hroom : (els.length + ys.length) * bytes ≤ maxRoom) :
    ∃ x' σ', aApp e k bytes x y σ = some (x', σ') ∧ Row B σ' e k x' (els ++ ys) ∧ Ext B σ σ' ∧ (∀ q, q < σ.next → (∀ K o n c, x = .slc (.new K) o n c → q ≠ K) → σ'.get q = σ.get q) := by
  rcases h.2 with h2 | ⟨K, cap, cs, opn, rfl, hg, ht, hBK, hKn, hcap⟩
  · obtain ⟨x', σ', g1, g2, g3, g4⟩ := own_app (e := e) (bytes := bytes) (σ := σ) (x := x) (els := els) (B := B) ⟨h.1, .inl h2⟩ hB hl hys hk' hc hk hb hroom
    exact ⟨x', σ', g1, g2.row, g3, g4⟩
  · rcases hcap with ⟨rfl, rfl, hlen⟩ | ⟨c, rfl, h1, hlen⟩
    · have hcs : cs = els.flatMap AVal.cells := by rw [← ht, List.take_of_length_le (by omega)]
      subst hcs
      obtain ⟨x', σ', g1, g2, g3, g4⟩ := own_app (e := e) (bytes := bytes) (σ := σ) (els := els) (B := B) ⟨h.1, .inr ⟨K, rfl, hg, hBK, hKn⟩⟩ hB hl hys hk' hc hk hb hroom
      exact ⟨x', σ', g1, g2.row, g3, g4⟩
    · have hcond : (!((ys.flatMap AVal.cells).all AVal.isCell) || bytes = 0 || k = 0) = false := by simp only [hc]; simp; omega
      have hall : ∀ z ∈ els ++ ys, z.cells.length = k := by
        intro z hz
        rcases List.mem_append.1 hz with hz | hz
        · exact h.1 z hz
        · exact hk' z hz
      have hle := flat_len h.1
      have hly := flat_len hk'
      by_cases hfit : els.length + ys.length ≤ c
      · by_cases h0 : ys.length = 0
        · have : ys = [] := by simpa using h0
          subst this
          refine ⟨_, σ, ?_, by rw [List.append_nil]; exact h, Ext.refl _ _, fun _ _ _ => rfl⟩
          simp only [aApp, hl, hys, hcond, Bool.false_eq_true, if_false]
          rw [if_pos hfit]; rfl
        · have hst : storeAt σ K (0 + els.length * k) (ys.flatMap AVal.cells) = some (σ.set K (.cells (over cs (0 + els.length * k) (ys.flatMap AVal.cells)) opn)) := by
            simp only [storeAt, hg]
            have := Nat.mul_le_mul_right k hfit
            rw [Nat.add_mul] at this
            rw [if_pos]; simp only [hc, Bool.and_true, decide_eq_true_eq]; omega
          refine ⟨.slc (.new K) 0 (els.length + ys.length) (.ex c), σ.set K (.cells (over cs (0 + els.length * k) (ys.flatMap AVal.cells)) opn), ?_, ⟨hall, .inr ⟨K, .ex c, over cs (0 + els.length * k) (ys.flatMap AVal.cells), opn, by rw [List.length_append], by rw [Heap.get_set, if_pos rfl], ?_, hBK, hKn, .inr ⟨c, rfl, by simpa using hfit, ?_⟩⟩⟩, (Ext.refl B σ).set hBK _, fun q hq hne => by rw [Heap.get_set, if_neg (fun e => hne _ _ _ _ rfl e.symm)]⟩
          · simp only [aApp, hl, hys, hcond, Bool.false_eq_true, if_false]
            rw [if_pos hfit, if_neg h0]
            simp only [hst, Option.map_some]
          · have := Nat.mul_le_mul_right k hfit
            rw [Nat.add_mul] at this
            rw [Nat.zero_add, List.length_append, Nat.add_mul, ← hly, take_app _ _ _ (by omega), ht, List.flatMap_append]
          · have := Nat.mul_le_mul_right k hfit
            rw [Nat.add_mul] at this
            rw [over_length _ _ _ (by omega)]; exact hlen
      · have hcf := cellsFrom_get hg (els.length * k) 0 (by have := Nat.mul_le_mul_right k h1; omega)
        rw [List.drop_zero, ht] at hcf
        refine ⟨.slc (.new σ.next) 0 (els.length + ys.length) (.gr k), σ.new (.cells (els.flatMap AVal.cells ++ ys.flatMap AVal.cells) (some e)), ?_, Own.row ⟨hall, .inr ⟨σ.next, by rw [List.length_append], by rw [Heap.get_new, if_pos rfl, List.flatMap_append], hB, by simp⟩⟩, (Ext.refl B σ).new hB _, fun q hq _ => by rw [Heap.get_new, if_neg (by omega)]⟩
        simp only [aApp, hl, hys, hcond, Bool.false_eq_true, if_false]
        rw [if_neg hfit, if_pos hroom]
        simp only [hcf]
/-- one element, by way of a row of one that was made for it -/
theorem src_one {σ : Heap} {K k : Nat} {cs : List AVal} {opn : Option TypeId} {z : AVal} {cap : Cap} (hg : σ.get K = some (.cells cs opn)) (hz : z.cells = cs) (hk : cs.length = k) :
    aLenOf (.slc (.new K) 0 1 cap) = some [z].length ∧ srcCells σ k [z].length (.slc (.new K) 0 1 cap) = some ([z].flatMap AVal.cells) := by
  refine ⟨rfl, ?_⟩
  have h1 := cellsFrom_whole hg
  simp only [srcCells, slcCells, List.length_cons, List.length_nil, Nat.zero_add, Nat.le_refl, if_true, Nat.one_mul, List.flatMap_cons, List.flatMap_nil, List.append_nil, hz]
  rw [← hk]; exact h1
/-- elements out of data that never change -/
theorem src_fsl (σ : Heap) (k : Nat) (ys : List AVal) : aLenOf (.fsl k ys) = some ys.length ∧ srcCells σ k ys.length (.fsl k ys) = some (ys.flatMap AVal.cells) := by
  refine ⟨rfl, ?_⟩
  simp only [srcCells, slcCells, Nat.le_refl, decide_true, Bool.and_true, if_true, List.take_length]
theorem over_all {α : Type} (l xs : List α) (h : xs.length = l.length) : over l 0 xs = xs := by
  simp only [over, List.take_zero, List.nil_append, Nat.zero_add]
  rw [List.drop_eq_nil_of_le (by omega), List.append_nil]
/-- copy(x, els) where x has just as many elements -/
theorem copy_whole {σ : Heap} {K k : Nat} {els : List AVal} {cs : List AVal} {opn : Option TypeId} {cap : Cap} (hg : σ.get K = some (.cells cs opn)) (he : ∀ z ∈ els, z.cells.length = k) (hlen : cs.length = els.length * k) (hc : (els.flatMap AVal.cells).all AVal.isCell = true) :
    ∃ σ', aCopy k (.slc (.new K) 0 els.length cap) (.fsl k els) σ = some (.int .i64 els.length, σ') ∧ σ'.get K = some (.cells (els.flatMap AVal.cells) opn) ∧ σ'.W = σ.W ∧ σ'.F0 = σ.F0 ∧ σ'.next = σ.next ∧ ∀ q, q ≠ K → σ'.get q = σ.get q := by
  have hsrc := (src_fsl σ k els).2
  have hfl := flat_len he
  by_cases h0 : els.length = 0
  · have : els = [] := by simpa using h0
    subst this
    have : cs = [] := by simpa using hlen
    subst this
    exact ⟨σ, by simp [aCopy, aSLen, aLenOf, srcCells, slcCells], hg, rfl, rfl, rfl, fun _ _ => rfl⟩
  · refine ⟨σ.set K (.cells (els.flatMap AVal.cells) opn), ?_, by rw [Heap.get_set, if_pos rfl], rfl, rfl, rfl, fun q hq => by rw [Heap.get_set, if_neg (fun e => hq e.symm)]⟩
    simp only [aCopy, aSLen, aLenOf, Nat.min_self, hsrc, if_neg h0, storeAt, hg]
    rw [if_pos (by simp only [hc, Bool.and_true, decide_eq_true_eq]; omega), over_all _ _ (by omega)]
    rfl
/-- a value stored over itself -/
theorem over_same {α : Type} (l : List α) (off : Nat) (x : α) (h : l[off]? = some x) : over l off [x] = l := by
  have hlt := (List.getElem?_eq_some_iff.1 h).1
  have hx := (List.getElem?_eq_some_iff.1 h).2
  simp only [over, List.length_cons, List.length_nil, Nat.zero_add]
  conv => rhs; rw [← List.take_append_drop off l, List.drop_eq_getElem_cons hlt, hx]
  simp
/-- a cell of a row of elements -/
theorem flat_cell {k : Nat} {els : List AVal} (he : ∀ z ∈ els, z.cells.length = k) {i j : Nat} {e : AVal} (hi : els[i]? = some e) (hj : j < k) : (els.flatMap AVal.cells)[i * k + j]? = e.cells[j]? := by
  rw [← flatMap_get els i he hi, List.getElem?_take, if_pos hj, List.getElem?_drop]
end Go.Mini
set_option linter.unusedVariables false
namespace Go.Mini
open Go
/-! ### Arrays of truth values -/
def bitRow (n : Nat) (P : Nat → Bool) : List AVal := (List.range n).map fun k => .bool (P k)
theorem bitRow_len (n : Nat) (P : Nat → Bool) : (bitRow n P).length = n := by simp [bitRow]
theorem bitRow_get {n j : Nat} (P : Nat → Bool) (h : j < n) : (bitRow n P)[j]? = some (.bool (P j)) := by simp [bitRow, h]
theorem bitRow_set {n j : Nat} (P : Nat → Bool) (b : Bool) (h : j < n) : (bitRow n P).take j ++ [AVal.bool b] ++ (bitRow n P).drop (j + 1) = bitRow n fun k => if k = j then b else P k := by
  rw [List.append_assoc, List.singleton_append]
  apply List.ext_getElem
  · simp [bitRow]; omega
  · intro i h1 h2
    have hi : i < n := by simpa [bitRow] using h2
    simp only [bitRow, List.getElem_append, List.length_take, List.length_map, List.length_range, List.getElem_take, List.getElem_map, List.getElem_range]
    by_cases hlt : i < j
    · rw [dif_pos (by omega), if_neg (by omega)]
    · rw [dif_neg (by omega)]
      by_cases he : i = j
      · subst he
        simp [Nat.min_eq_left (Nat.le_of_lt h)]
      · have hm : i - min j n = (i - j - 1) + 1 := by omega
        simp only [hm, List.getElem_cons_succ, List.getElem_drop, List.getElem_map, List.getElem_range]
        rw [if_neg he]; congr 2; omega
theorem bitRow_congr {n : Nat} {P Q : Nat → Bool} (h : ∀ k, k < n → P k = Q k) : bitRow n P = bitRow n Q := by
  apply List.map_congr_left; intro k hk; rw [h k (by simpa using hk)]
theorem bitRow_cell (n : Nat) (P : Nat → Bool) : (bitRow n P).all AVal.isCell = true := by
  rw [List.all_eq_true]; intro x hx; simp only [bitRow, List.mem_map] at hx; obtain ⟨k, _, rfl⟩ := hx; rfl
theorem aIdxR_lt {n k off j : Nat} {i : Id} {K : IntKind} (h : j < n) : aIdxR n k (.ptr i off) (.int K (j : Nat)) = some (.ptr i (off + j * k)) := by
  simp only [aIdxR]; rw [if_pos (by simp; omega)]; rfl
theorem aIdxR_lit {n k off : Nat} {i : Id} {K : IntKind} {j : Int} (h0 : 0 ≤ j) (h : j < n) : aIdxR n k (.ptr i off) (.int K j) = some (.ptr i (off + j.toNat * k)) := by
  simp only [aIdxR]; rw [if_pos (by simp; omega)]
end Go.Mini
set_option linter.unusedVariables false
namespace Go.Mini
open Go
/-! ### Data that can be read, as own values -/
/-- what lies at type t is an e of something -/
def RdP (P : Program) (W : World) (t : TypeId) {α : Type} (e : α → AVal) (G : α → Prop) : Prop :=
  ∀ (H : Type) (enc : TypeId × Value → H) (fuel : Nat) (cs : List Value) (x : DataW H × List MemPlace), DataW.trod enc P W 0 (fun _ => true) true fuel t cs = some x → ∃ a, G a ∧ VRs (Phi.bare (cellsOf W).f) (e a).cells cs
section
variable {P : Program} {W : World}
theorem rd_int {t : TypeId} {k : IntKind} (ht : P.underlying t = some (.int k)) : RdP P W t (fun n : Int => .int k n) fun n => (Lit.int k n).wf = true := by
  intro H enc fuel cs x h
  obtain ⟨n, rfl, _, hw⟩ := DataW.trod_int ht h
  exact ⟨n, hw, .cons (.int _ _) .nil⟩
theorem rd_bool {t : TypeId} (ht : P.underlying t = some .bool) : RdP P W t (fun b : Bool => .bool b) fun _ => True := by
  intro H enc fuel cs x h
  obtain ⟨b, rfl, _⟩ := DataW.trod_bool ht h
  exact ⟨b, trivial, .cons (.bool _) .nil⟩
theorem rd_str {t : TypeId} (ht : P.underlying t = some .string) : RdP P W t (fun s : List UInt8 => .str s) fun s => s.length ≤ maxLen := by
  intro H enc fuel cs x h
  obtain ⟨s, rfl, _, hs⟩ := DataW.trod_string ht h
  refine ⟨s.data.toList, by simpa using hs, .cons ?_ .nil⟩
  have := VR.str (φ := Phi.bare (cellsOf W).f) s.data.toList
  simpa using this
theorem cell_add {a : Addr} {p q : Nat} {v : Value} (h : W.cell? ((a.add p).add q) = some v) : W.cell? ⟨a.block, a.off + (p + q), none⟩ = some v := by
  have key : ∀ (b o o' : Nat) (s : Option Nat), o = o' → W.cell? ⟨b, o, s⟩ = some v → W.cell? ⟨b, o', none⟩ = some v := by
    intro b o o' s e h
    subst e
    unfold World.cell? at *
    simp only at *
    split at h
    · split at h
      · cases h
      · simpa using h
    · cases h
  unfold Addr.add at h
  by_cases hq : q = 0
  · by_cases hp : p = 0
    · simp only [hq, hp, if_true] at h; exact key _ _ _ _ (by omega) h
    · simp only [hq, if_true, if_neg hp] at h; exact key _ _ _ _ (by first | omega | (simp only; omega)) h
  · by_cases hp : p = 0
    · simp only [hp, if_true, if_neg hq] at h; exact key _ _ _ _ (by first | omega | (simp only; omega)) h
    · simp only [if_neg hp, if_neg hq] at h; exact key _ _ _ _ (by first | omega | (simp only; omega)) h
theorem cell_spot {a : Addr} {v : Value} (h : W.cell? a = some v) : a.spot = none := by
  unfold World.cell? at h
  split at h
  · split at h
    · cases h
    · rename_i hs; simpa using hs
  · cases h
theorem rd_slice {t e : TypeId} {k : Nat} {α : Type} {ee : α → AVal} {G : α → Prop} (ht : P.underlying t = some (.slice e)) (hc : P.cellsOf e = k) (hk : 0 < k) (hl : ∀ a, (ee a).cells.length = k) (h : RdP P W e ee G) :
    RdP P W t (fun l : List α => .fsl k (l.map ee)) fun l => (∀ a ∈ l, G a) ∧ l.length ≤ maxLen := by
  intro H enc fuel cs x hx
  rcases DataW.trod_slice ht hx with ⟨rfl, _⟩ | ⟨a, len, cap, elems, rest, n, _, rfl, _, _, hlc, hcm, hlen, hel, _, _⟩
  · exact ⟨[], ⟨fun _ h => (by cases h), Nat.zero_le _⟩, .cons (.fslN k none 0 fun _ => rfl) .nil⟩
  · rw [hc] at hel
    have key : ∀ m, m ≤ len → ∃ (l : List α) (vs : List Value), l.length = m ∧ (∀ a ∈ l, G a) ∧ VRs (Phi.bare (cellsOf W).f) ((l.map ee).flatMap AVal.cells) vs ∧ vs.length = m * k ∧ ∀ j v, vs[j]? = some v → W.cell? ⟨a.block, a.off + j, none⟩ = some v := by
      intro m
      induction m with
      | zero => intro _; exact ⟨[], [], rfl, fun _ h => (by cases h), .nil, by simp, fun j v h => by simp at h⟩
      | succ m ih =>
        intro hm
        obtain ⟨l, vs, h1, h2, h3, h4, h5⟩ := ih (by omega)
        have he := hel m (by omega)
        have hlt : m < elems.length := by omega
        rw [List.getElem?_eq_getElem hlt, Option.bind_eq_some_iff] at he
        obtain ⟨ci, hci, hti⟩ := he
        obtain ⟨b, hb, hv⟩ := h H enc n ci _ hti
        have hcl := hv.length
        rw [hl] at hcl
        refine ⟨l ++ [b], vs ++ ci, by simp [h1], ?_, ?_, by rw [List.length_append, h4, ← hcl, Nat.add_mul, Nat.one_mul], ?_⟩
        · intro z hz
          rcases List.mem_append.1 hz with hz | hz
          · exact h2 z hz
          · simp only [List.mem_singleton] at hz; subst hz; exact hb
        · rw [List.map_append, List.flatMap_append]
          refine h3.append ?_
          simpa using hv
        · intro j v hj
          by_cases hjl : j < vs.length
          · rw [List.getElem?_append_left hjl] at hj; exact h5 j v hj
          · rw [List.getElem?_append_right (by omega)] at hj
            have hjc := (List.getElem?_eq_some_iff.1 hj).1
            unfold World.cells? at hci
            split at hci
            · have hg := mapM_some_get hci (j - vs.length) (j - vs.length) (by rw [List.getElem?_range (by omega)])
              rw [hj] at hg
              have := cell_add hg
              rw [h4] at this
              rw [show a.off + j = a.off + (m * k + (j - m * k)) by omega]; exact this
            · cases hci
    obtain ⟨l, vs, h1, h2, h3, h4, h5⟩ := key len (Nat.le_refl _)
    refine ⟨l, ⟨h2, by omega⟩, .cons ?_ .nil⟩
    by_cases h0 : len = 0
    · have : l = [] := List.eq_nil_of_length_eq_zero (by omega)
      subst this; subst h0
      exact .fslN k (some a) cap (fun h => by cases h)
    · have hp : 0 < vs.length := by rw [h4]; exact Nat.mul_pos (by omega) hk
      have hs : a.spot = none := by
        have he := hel 0 (by omega)
        rw [List.getElem?_eq_getElem (by omega : 0 < elems.length), Option.bind_eq_some_iff] at he
        obtain ⟨ci, hci, _⟩ := he
        unfold World.cells? at hci
        split at hci
        · have hlen2 := mapM_some_length hci
          have hg := mapM_some_get hci 0 0 (by rw [List.getElem?_range hk])
          rw [List.length_range] at hlen2
          rw [List.getElem?_eq_getElem (by omega : 0 < ci.length)] at hg
          have := cell_spot hg
          simp only [Addr.add, Nat.zero_mul, if_true] at this
          exact this
        · cases hci
      obtain ⟨b, off, spot⟩ := a
      simp only at hs; subst hs
      have hv := VR.fsl (φ := Phi.bare (cellsOf W).f) (k := k) (els := l.map ee) (b := b) (off := off) cap h3 (fun j v e => by simpa [Phi.bare, cellsOf] using h5 j v e) (by intro z hz; rw [List.mem_map] at hz; obtain ⟨y, _, rfl⟩ := hz; exact hl y) (by simp; omega)
      simp only [List.length_map, h1] at hv
      exact hv
/-- fields of one cell each, in order -/
def flat1 (P : Program) : List Field → Nat → Bool
  | [], _ => true
  | f :: l, i => decide (f.offset = i) && decide (P.cellsOf f.type = 1) && flat1 P l (i + 1)
theorem flat1_at : ∀ {l : List Field} {i : Nat}, flat1 P l i = true → ∀ (j : Nat) (f : Field), l[j]? = some f → f.offset = i + j ∧ P.cellsOf f.type = 1
  | [], _, _, j, f, e => by simp at e
  | g :: l, i, h, j, f, e => by
    simp only [flat1, Bool.and_eq_true, decide_eq_true_eq] at h
    cases j with
    | zero => simp at e; subst e; exact ⟨by omega, h.1.2⟩
    | succ j =>
      have := flat1_at h.2 j f (by simpa using e)
      exact ⟨by omega, this.2⟩
theorem trod_cells {t : TypeId} {fs : Array Field} {H : Type} {enc : TypeId × Value → H} {fuel : Nat} {cs : List Value} {x : DataW H × List MemPlace} (ht : P.underlying t = some (.struct fs)) (hC : P.cellsOf t = fs.size) (hf : flat1 P fs.toList 0 = true)
    (h : DataW.trod enc P W 0 (fun _ => true) true fuel t cs = some x) : ∃ n, cs.length = fs.size ∧ ∀ (i : Nat) (f : Field) (c : Value), fs[i]? = some f → cs[i]? = some c → ∃ y, DataW.trod enc P W 0 (fun _ => true) true n f.type [c] = some y := by
  obtain ⟨xs, n, _, _, h1, h2, h3⟩ := DataW.trod_struct ht h
  refine ⟨n, by rw [h1, hC], fun i f c hi hc => ?_⟩
  have h4 := h3 i f hi
  obtain ⟨h5, h6⟩ := flat1_at hf i f (by simpa using hi)
  have hlt : i < xs.length := by rw [h2]; exact (Array.getElem?_eq_some_iff.1 hi).1
  have h7 : (cs.drop f.offset).take (P.cellsOf f.type) = [c] := by
    have hil := (List.getElem?_eq_some_iff.1 hc).1
    have hie := (List.getElem?_eq_some_iff.1 hc).2
    rw [h5, h6, Nat.zero_add, List.drop_eq_getElem_cons hil, List.take_succ_cons, hie, List.take_zero]
  rw [h7, List.getElem?_eq_getElem hlt] at h4
  exact ⟨_, h4⟩
theorem VRs.one {φ : Phi} {a : AVal} {v : Value} (h : VRs φ [a] [v]) : VR φ a v := by cases h with | cons h _ => exact h
theorem VRs.cell {φ : Phi} {a : AVal} {v : Value} (h : VRs φ a.cells [v]) (hc : a.cells = [a]) : VR φ a v := by rw [hc] at h; exact h.one
end
end Go.Mini
namespace Go.Mini
open Go
def GInt (k : IntKind) : Int → Prop := fun n => (Lit.int k n).wf = true
def GList {α : Type} (G : α → Prop) : List α → Prop := fun l => (∀ a ∈ l, G a) ∧ l.length ≤ maxLen
def GStr : List UInt8 → Prop := fun s => s.length ≤ maxLen
def GBool : Bool → Prop := fun _ => True
theorem gint_bounds {k : IntKind} {n : Int} (h : GInt k n) : k.min ≤ n ∧ n ≤ k.max := by
  simpa only [GInt, Lit.wf, decide_eq_true_eq, Bool.and_eq_true] using h
theorem gint_i64 {n : Int} (h : GInt .i64 n) : -9223372036854775808 ≤ n ∧ n < 9223372036854775808 := by have := gint_bounds h; simp [IntKind.min, IntKind.max, IntKind.signed, IntKind.bits] at this; omega
theorem gint_u8 {n : Int} (h : GInt .u8 n) : 0 ≤ n ∧ n < 256 := by have := gint_bounds h; simp [IntKind.min, IntKind.max, IntKind.signed, IntKind.bits] at this; omega
theorem gint_u16 {n : Int} (h : GInt .u16 n) : 0 ≤ n ∧ n < 65536 := by have := gint_bounds h; simp [IntKind.min, IntKind.max, IntKind.signed, IntKind.bits] at this; omega
theorem gint_i16 {n : Int} (h : GInt .i16 n) : -32768 ≤ n ∧ n < 32768 := by have := gint_bounds h; simp [IntKind.min, IntKind.max, IntKind.signed, IntKind.bits] at this; omega
theorem gint_u64 {n : Int} (h : GInt .u64 n) : 0 ≤ n ∧ n < 18446744073709551616 := by have := gint_bounds h; simp [IntKind.min, IntKind.max, IntKind.signed, IntKind.bits] at this; omega
end Go.Mini
