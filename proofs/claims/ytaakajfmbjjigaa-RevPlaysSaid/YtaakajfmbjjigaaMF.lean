/- More of the abstract machine: rows, readers, loops over maps, contracts of functions that are not compiled. No condition. -/
import Derived.Test.YtaakajfmbjjigaaME
import Derived.ChangeArms
import Derived.ChangeReads
import Derived.Laws.IdiomRangeMap
import Derived.Shelf.Strings.Builder1
import Derived.Shelf.SlMaps.Clone
import Derived.Shelf.SlIterI.Nil
import Derived.Shelf.SlIterI.Sorted
set_option linter.unusedVariables false
set_option linter.unusedSimpArgs false
namespace Go.Mini
open Go
/-- of the heap what lies below B is as it was -/
def Ext (B : Nat) (σ τ : Heap) : Prop := τ.W = σ.W ∧ τ.F0 = σ.F0 ∧ σ.next ≤ τ.next ∧ ∀ k, k < B → τ.get k = σ.get k
theorem Ext.refl (B : Nat) (σ : Heap) : Ext B σ σ := ⟨rfl, rfl, Nat.le_refl _, fun _ _ => rfl⟩
theorem Ext.trans {B : Nat} {σ τ ρ : Heap} (h : Ext B σ τ) (h' : Ext B τ ρ) : Ext B σ ρ := ⟨h'.1.trans h.1, h'.2.1.trans h.2.1, Nat.le_trans h.2.2.1 h'.2.2.1, fun k hk => (h'.2.2.2 k hk).trans (h.2.2.2 k hk)⟩
theorem Ext.new {B : Nat} {σ τ : Heap} (h : Ext B σ τ) (hB : B ≤ σ.next) (b : ABlk) : Ext B σ (τ.new b) := ⟨h.1, h.2.1, Nat.le_succ_of_le h.2.2.1, fun k hk => by rw [Heap.get_new, if_neg (by have := h.2.2.1; omega)]; exact h.2.2.2 k hk⟩
theorem Ext.set {B : Nat} {σ τ : Heap} (h : Ext B σ τ) {j : Nat} (hj : B ≤ j) (b : ABlk) : Ext B σ (τ.set j b) := ⟨h.1, h.2.1, h.2.2.1, fun k hk => by rw [Heap.get_set, if_neg (by omega)]; exact h.2.2.2 k hk⟩

/-! ### Rows of one's own that grow -/
/-- the slice x is nil, or has a block of its own that was made since B; it holds these elements -/
def Own (B : Nat) (σ : Heap) (e : TypeId) (k : Nat) (x : AVal) (els : List AVal) : Prop :=
  (∀ e ∈ els, e.cells.length = k) ∧ ((x = .nils ∧ els = []) ∨ ∃ K, x = .slc (.new K) 0 els.length (.gr k) ∧ σ.get K = some (.cells (els.flatMap AVal.cells) (some e)) ∧ B ≤ K ∧ K < σ.next)
theorem Own.nil (B : Nat) (σ : Heap) (e : TypeId) (k : Nat) : Own B σ e k .nils [] := ⟨fun _ h => (by cases h), .inl ⟨rfl, rfl⟩⟩
theorem Own.len {B k : Nat} {e : TypeId} {σ : Heap} {x : AVal} {els : List AVal} (h : Own B σ e k x els) : aLen x = some (.int .i64 els.length) := by
  rcases h.2 with ⟨rfl, rfl⟩ | ⟨K, rfl, _⟩ <;> rfl
theorem Own.new {B k : Nat} {e : TypeId} {σ : Heap} {x : AVal} {els : List AVal} (h : Own B σ e k x els) (b : ABlk) : Own B (σ.new b) e k x els := by
  refine ⟨h.1, ?_⟩
  rcases h.2 with h2 | ⟨K, h1, h2, h3, h4⟩
  · exact .inl h2
  · exact .inr ⟨K, h1, by rw [Heap.get_new, if_neg (by omega)]; exact h2, h3, by simp only [Heap.new_next]; omega⟩
theorem Own.set {B k : Nat} {e : TypeId} {σ : Heap} {x : AVal} {els : List AVal} (h : Own B σ e k x els) {j : Nat} (hj : ∀ K o n c, x = .slc (.new K) o n c → j ≠ K) (b : ABlk) : Own B (σ.set j b) e k x els := by
  refine ⟨h.1, ?_⟩
  rcases h.2 with h2 | ⟨K, h1, h2, h3, h4⟩
  · exact .inl h2
  · exact .inr ⟨K, h1, by rw [Heap.get_set, if_neg (hj _ _ _ _ h1)]; exact h2, h3, by simpa using h4⟩
theorem Own.low {B k : Nat} {e : TypeId} {σ : Heap} {x : AVal} {els : List AVal} (h : Own B σ e k x els) {K o n : Nat} {c : Cap} (hx : x = .slc (.new K) o n c) : B ≤ K ∧ K < σ.next := by
  rcases h.2 with ⟨h1, _⟩ | ⟨K', h1, _, h3, h4⟩
  · rw [h1] at hx; cases hx
  · rw [h1] at hx; cases hx; exact ⟨h3, h4⟩
theorem cellsFrom_get {σ : Heap} {K : Nat} {cs : List AVal} {opn : Option TypeId} (hg : σ.get K = some (.cells cs opn)) : ∀ (n off : Nat), off + n ≤ cs.length → cellsFrom σ (.new K) off n = some ((cs.drop off).take n)
  | 0, off, _ => by simp [cellsFrom]
  | n + 1, off, h => by
    have h1 : off < cs.length := by omega
    have e : σ.cell (.new K) off = some cs[off] := by simp only [Heap.cell, hg]; exact List.getElem?_eq_getElem h1
    simp only [cellsFrom, e, cellsFrom_get hg n (off + 1) (by omega)]
    rw [List.drop_eq_getElem_cons h1, List.take_succ_cons]
theorem cellsFrom_whole {σ : Heap} {K : Nat} {cs : List AVal} {opn : Option TypeId} (hg : σ.get K = some (.cells cs opn)) : cellsFrom σ (.new K) 0 cs.length = some cs := by
  rw [cellsFrom_get hg _ _ (by omega)]; simp
theorem flat_len {k : Nat} {els : List AVal} (h : ∀ e ∈ els, e.cells.length = k) : (els.flatMap AVal.cells).length = els.length * k := by
  have := (flatMap_take els els.length h (Nat.le_refl _)).2
  rwa [List.take_length] at this
/-- elements put behind a row of one's own -/
theorem own_app2 {B k bytes : Nat} {e : TypeId} {σ : Heap} {x y : AVal} {els ys : List AVal} (h : Own B σ e k x els) (hB : B ≤ σ.next) (hl : aLenOf y = some ys.length) (hys : srcCells σ k ys.length y = some (ys.flatMap AVal.cells))
    (hk' : ∀ e ∈ ys, e.cells.length = k) (hc : (ys.flatMap AVal.cells).all AVal.isCell = true) (hk : 0 < k) (hb : 0 < bytes) (hroom : (els.length + ys.length) * bytes ≤ maxRoom) :
    ∃ x' σ', aApp e k bytes x y σ = some (x', σ') ∧ Own B σ' e k x' (els ++ ys) ∧ Ext B σ σ' ∧ (∀ q, q < σ.next → (∀ K o n c, x = .slc (.new K) o n c → q ≠ K) → σ'.get q = σ.get q) ∧ (∀ K o n c, x' = .slc (.new K) o n c → σ.next ≤ K ∨ ∃ o n c, x = .slc (.new K) o n c) := by
  have hcond : (!((ys.flatMap AVal.cells).all AVal.isCell) || bytes = 0 || k = 0) = false := by simp only [hc]; simp; omega
  have hall : ∀ e ∈ els ++ ys, e.cells.length = k := by
    intro z hz
    rcases List.mem_append.1 hz with hz | hz
    · exact h.1 z hz
    · exact hk' z hz
  have hstart : aApp e k bytes x y σ = (match x with
      | .nils => if ys.length = 0 then some (.nils, σ) else
        if ys.length * bytes ≤ maxRoom then some (.slc (.new σ.next) 0 ys.length (.gr k), σ.new (.cells (ys.flatMap AVal.cells) (some e))) else none
      | .slc (.new b) off len (.gr k') =>
        if ys.length = 0 then some (x, σ) else
        if k' = k && (len + ys.length) * bytes ≤ maxRoom then
          match σ.get b, cellsFrom σ (.new b) off (len * k) with
          | some (.cells cs (some e')), some xs =>
            if off = 0 && cs.length = len * k && decide (e' = e) then some (.slc (.new σ.next) 0 (len + ys.length) (.gr k), (σ.set b .dead).new (.cells (xs ++ ys.flatMap AVal.cells) (some e))) else none
          | _, _ => none
        else none
      | _ => aApp e k bytes x y σ) := by
    rcases h.2 with ⟨rfl, rfl⟩ | ⟨K, rfl, hg, hBK, hKn⟩
    · simp only [aApp, hl, hys, hcond, Bool.false_eq_true, if_false]
    · simp only [aApp, hl, hys, hcond, Bool.false_eq_true, if_false]
      rfl
  by_cases h0 : ys = []
  · subst h0
    refine ⟨x, σ, ?_, by rw [List.append_nil]; exact h, Ext.refl _ _, fun _ _ _ => rfl, fun K o n c e => .inr ⟨o, n, c, e⟩⟩
    rw [hstart]
    rcases h.2 with ⟨rfl, rfl⟩ | ⟨K, rfl, hg, hBK, hKn⟩ <;> rfl
  have hy0 : ys.length ≠ 0 := by simpa using h0
  rcases h.2 with ⟨rfl, rfl⟩ | ⟨K, rfl, hg, hBK, hKn⟩
  · refine ⟨.slc (.new σ.next) 0 ys.length (.gr k), σ.new (.cells (ys.flatMap AVal.cells) (some e)), ?_, ⟨hall, .inr ⟨σ.next, rfl, ?_, hB, by simp⟩⟩, (Ext.refl B σ).new hB _, fun q hq _ => ?_, fun K o n c e => by cases e; exact .inl (Nat.le_refl _)⟩
    · rw [hstart]
      simp only [if_neg hy0]
      rw [if_pos (by simpa using hroom)]
    · rw [Heap.get_new, if_pos rfl]; rfl
    · rw [Heap.get_new, if_neg (by omega)]
  · refine ⟨.slc (.new σ.next) 0 (els.length + ys.length) (.gr k), (σ.set K .dead).new (.cells (els.flatMap AVal.cells ++ ys.flatMap AVal.cells) (some e)), ?_, ⟨hall, .inr ⟨σ.next, by rw [List.length_append], ?_, hB, by simp⟩⟩, ?_, fun q hq hne => ?_, fun K o n c e => by cases e; exact .inl (Nat.le_refl _)⟩
    · rw [hstart]
      have ec := cellsFrom_whole hg
      have e0 := flat_len h.1
      rw [e0] at ec
      simp only [if_neg hy0]
      rw [if_pos (by simp [hroom])]
      simp only [hg, ec]
      rw [if_pos (by simp [e0])]
    · rw [Heap.get_new]; simp
    · exact ((Ext.refl B σ).set hBK _).new hB _
    · rw [Heap.get_new, if_neg (by simp; omega), Heap.get_set, if_neg (fun e => hne _ _ _ _ rfl e.symm)]
theorem own_app {B k bytes : Nat} {e : TypeId} {σ : Heap} {x y : AVal} {els ys : List AVal} (h : Own B σ e k x els) (hB : B ≤ σ.next) (hl : aLenOf y = some ys.length) (hys : srcCells σ k ys.length y = some (ys.flatMap AVal.cells))
    (hk' : ∀ e ∈ ys, e.cells.length = k) (hc : (ys.flatMap AVal.cells).all AVal.isCell = true) (hk : 0 < k) (hb : 0 < bytes) (hroom : (els.length + ys.length) * bytes ≤ maxRoom) :
    ∃ x' σ', aApp e k bytes x y σ = some (x', σ') ∧ Own B σ' e k x' (els ++ ys) ∧ Ext B σ σ' ∧ (∀ q, q < σ.next → (∀ K o n c, x = .slc (.new K) o n c → q ≠ K) → σ'.get q = σ.get q) :=
  let ⟨x', σ', h1, h2, h3, h4, _⟩ := own_app2 h hB hl hys hk' hc hk hb hroom; ⟨x', σ', h1, h2, h3, h4⟩
theorem Own.sees {B k : Nat} {e : TypeId} {σ : Heap} {x : AVal} {els : List AVal} (h : Own B σ e k x els) : ∃ τ, Sees σ x τ (.fsl k els) ∧ τ.W = σ.W ∧ τ.F0 = σ.F0 ∧ τ.next = σ.next ∧ ∀ q, q < B → τ.get q = σ.get q := by
  rcases h.2 with ⟨rfl, rfl⟩ | ⟨K, rfl, hg, hBK, hKn⟩
  · exact ⟨σ, Sees.nils σ k, rfl, rfl, rfl, fun _ _ => rfl⟩
  · refine ⟨σ.set K .dead, Sees.own hg rfl h.1 ?_ (fun c hc => by cases hc), rfl, rfl, rfl, fun q hq => by rw [Heap.get_set, if_neg (by omega)]⟩
    rw [List.drop_zero, List.take_of_length_le (by rw [flat_len h.1]; omega)]

/-! ### Rows of one's own, with room or grown -/
def Row (B : Nat) (σ : Heap) (e : TypeId) (k : Nat) (x : AVal) (els : List AVal) : Prop :=
  (∀ z ∈ els, z.cells.length = k) ∧ ((x = .nils ∧ els = []) ∨ ∃ K cap cs opn, x = .slc (.new K) 0 els.length cap ∧ σ.get K = some (.cells cs opn) ∧ cs.take (els.length * k) = els.flatMap AVal.cells ∧ B ≤ K ∧ K < σ.next ∧
    ((cap = .gr k ∧ opn = some e ∧ cs.length = els.length * k) ∨ ∃ c, cap = .ex c ∧ els.length ≤ c ∧ cs.length = c * k))
theorem Own.row {B k : Nat} {e : TypeId} {σ : Heap} {x : AVal} {els : List AVal} (h : Own B σ e k x els) : Row B σ e k x els := by
  refine ⟨h.1, ?_⟩
  rcases h.2 with h2 | ⟨K, h1, h2, h3, h4⟩
  · exact .inl h2
  · exact .inr ⟨K, _, _, _, h1, h2, by rw [List.take_of_length_le (by rw [flat_len h.1]; omega)], h3, h4, .inl ⟨rfl, rfl, flat_len h.1⟩⟩
theorem Row.nil (B : Nat) (σ : Heap) (e : TypeId) (k : Nat) : Row B σ e k .nils [] := (Own.nil B σ e k).row
/-- make(T, 0, c) -/
theorem Row.make {B : Nat} {σ : Heap} (hB : B ≤ σ.next) (e : TypeId) (k c : Nat) (cs : List AVal) (opn : Option TypeId) (h : cs.length = c * k) : Row B (σ.new (.cells cs opn)) e k (.slc (.new σ.next) 0 0 (.ex c)) [] :=
  ⟨fun _ h => (by cases h), .inr ⟨σ.next, _, _, _, rfl, by rw [Heap.get_new, if_pos rfl], by simp, hB, by simp, .inr ⟨c, rfl, by simp, h⟩⟩⟩
theorem Row.len {B k : Nat} {e : TypeId} {σ : Heap} {x : AVal} {els : List AVal} (h : Row B σ e k x els) : aLen x = some (.int .i64 els.length) := by
  rcases h.2 with ⟨rfl, rfl⟩ | ⟨K, cap, cs, opn, rfl, _⟩ <;> rfl
theorem Row.new {B k : Nat} {e : TypeId} {σ : Heap} {x : AVal} {els : List AVal} (h : Row B σ e k x els) (b : ABlk) : Row B (σ.new b) e k x els := by
  refine ⟨h.1, ?_⟩
  rcases h.2 with h2 | ⟨K, cap, cs, opn, h1, h2, h3, h4, h5, h6⟩
  · exact .inl h2
  · exact .inr ⟨K, cap, cs, opn, h1, by rw [Heap.get_new, if_neg (by omega)]; exact h2, h3, h4, by simp only [Heap.new_next]; omega, h6⟩
theorem Row.set {B k : Nat} {e : TypeId} {σ : Heap} {x : AVal} {els : List AVal} (h : Row B σ e k x els) {j : Nat} (hj : ∀ K o n c, x = .slc (.new K) o n c → j ≠ K) (b : ABlk) : Row B (σ.set j b) e k x els := by
  refine ⟨h.1, ?_⟩
  rcases h.2 with h2 | ⟨K, cap, cs, opn, h1, h2, h3, h4, h5, h6⟩
  · exact .inl h2
  · exact .inr ⟨K, cap, cs, opn, h1, by rw [Heap.get_set, if_neg (hj _ _ _ _ h1)]; exact h2, h3, h4, by simpa using h5, h6⟩
theorem Row.low {B k : Nat} {e : TypeId} {σ : Heap} {x : AVal} {els : List AVal} (h : Row B σ e k x els) {K o n : Nat} {c : Cap} (hx : x = .slc (.new K) o n c) : B ≤ K ∧ K < σ.next := by
  rcases h.2 with ⟨h1, _⟩ | ⟨K', cap, cs, opn, h1, _, _, h4, h5, _⟩
  · rw [h1] at hx; cases hx
  · rw [h1] at hx; cases hx; exact ⟨h4, h5⟩
/-- a variable made, and written -/
theorem Row.var {B k : Nat} {e : TypeId} {σ : Heap} {x : AVal} {els : List AVal} (h : Row B σ e k x els) (b c : ABlk) : Row B ((σ.new b).set σ.next c) e k x els :=
  (h.new b).set (fun K o n c' hx => by have := h.low hx; omega) c
theorem Row.sees {B k : Nat} {e : TypeId} {σ : Heap} {x : AVal} {els : List AVal} (h : Row B σ e k x els) : ∃ τ, Sees σ x τ (.fsl k els) ∧ τ.W = σ.W ∧ τ.F0 = σ.F0 ∧ τ.next = σ.next ∧ ∀ q, q < B → τ.get q = σ.get q := by
  rcases h.2 with ⟨rfl, rfl⟩ | ⟨K, cap, cs, opn, rfl, hg, ht, hBK, hKn, hcap⟩
  · exact ⟨σ, Sees.nils σ k, rfl, rfl, rfl, fun _ _ => rfl⟩
  · refine ⟨σ.set K .dead, Sees.own hg rfl h.1 (by rw [List.drop_zero, ht]) ?_, rfl, rfl, rfl, fun q hq => by rw [Heap.get_set, if_neg (by omega)]⟩
    rcases hcap with ⟨rfl, _⟩ | ⟨c, rfl, h1, _⟩
    · intro c hc; cases hc
    · intro c' hc; cases hc; exact h1
theorem row_app2 {B k bytes : Nat} {e : TypeId} {σ : Heap} {x y : AVal} {els ys : List AVal} (h : Row B σ e k x els) (hB : B ≤ σ.next) (hl : aLenOf y = some ys.length) (hys : srcCells σ k ys.length y = some (ys.flatMap AVal.cells))
    (hk' : ∀ e ∈ ys, e.cells.length = k) (hc : (ys.flatMap AVal.cells).all AVal.isCell = true) (hk : 0 < k) (hb : 0 < bytes) (hroom : (els.length + ys.length) * bytes ≤ maxRoom) :
    ∃ x' σ', aApp e k bytes x y σ = some (x', σ') ∧ Row B σ' e k x' (els ++ ys) ∧ Ext B σ σ' ∧ (∀ q, q < σ.next → (∀ K o n c, x = .slc (.new K) o n c → q ≠ K) → σ'.get q = σ.get q) ∧ (∀ K o n c, x' = .slc (.new K) o n c → σ.next ≤ K ∨ ∃ o n c, x = .slc (.new K) o n c) := by
  rcases h.2 with h2 | ⟨K, cap, cs, opn, rfl, hg, ht, hBK, hKn, hcap⟩
  · obtain ⟨x', σ', g1, g2, g3, g4, g5⟩ := own_app2 (e := e) (bytes := bytes) (σ := σ) (x := x) (els := els) (B := B) ⟨h.1, .inl h2⟩ hB hl hys hk' hc hk hb hroom
    exact ⟨x', σ', g1, g2.row, g3, g4, g5⟩
  · rcases hcap with ⟨rfl, rfl, hlen⟩ | ⟨c, rfl, h1, hlen⟩
    · have hcs : cs = els.flatMap AVal.cells := by rw [← ht, List.take_of_length_le (by omega)]
      subst hcs
      obtain ⟨x', σ', g1, g2, g3, g4, g5⟩ := own_app2 (e := e) (bytes := bytes) (σ := σ) (els := els) (B := B) ⟨h.1, .inr ⟨K, rfl, hg, hBK, hKn⟩⟩ hB hl hys hk' hc hk hb hroom
      exact ⟨x', σ', g1, g2.row, g3, g4, g5⟩
    · have hcond : (!((ys.flatMap AVal.cells).all AVal.isCell) || bytes = 0 || k = 0) = false := by simp only [hc]; simp; omega
      have hall : ∀ z ∈ els ++ ys, z.cells.length = k := by
        intro z hz
        rcases List.mem_append.1 hz with hz | hz
        · exact h.1 z hz
        · exact hk' z hz
      have hle := flat_len h.1
      have hly := flat_len hk'
      by_cases hfit : els.length + ys.length ≤ c
      · by_cases h0 : ys.length = 0
        · have : ys = [] := by simpa using h0
          subst this
          refine ⟨_, σ, ?_, by rw [List.append_nil]; exact h, Ext.refl _ _, fun _ _ _ => rfl, fun K o n c e => .inr ⟨o, n, c, e⟩⟩
          simp only [aApp, hl, hys, hcond, Bool.false_eq_true, if_false]
          rw [if_pos hfit]; rfl
        · have hst : storeAt σ K (0 + els.length * k) (ys.flatMap AVal.cells) = some (σ.set K (.cells (over cs (0 + els.length * k) (ys.flatMap AVal.cells)) opn)) := by
            simp only [storeAt, hg]
            have := Nat.mul_le_mul_right k hfit
            rw [Nat.add_mul] at this
            rw [if_pos]; simp only [hc, Bool.and_true, decide_eq_true_eq]; omega
          refine ⟨.slc (.new K) 0 (els.length + ys.length) (.ex c), σ.set K (.cells (over cs (0 + els.length * k) (ys.flatMap AVal.cells)) opn), ?_, ⟨hall, .inr ⟨K, .ex c, over cs (0 + els.length * k) (ys.flatMap AVal.cells), opn, by rw [List.length_append], by rw [Heap.get_set, if_pos rfl], ?_, hBK, hKn, .inr ⟨c, rfl, by simpa using hfit, ?_⟩⟩⟩, (Ext.refl B σ).set hBK _, fun q hq hne => by rw [Heap.get_set, if_neg (fun e => hne _ _ _ _ rfl e.symm)], fun K o n c e => by cases e; exact .inr ⟨_, _, _, rfl⟩⟩
          · simp only [aApp, hl, hys, hcond, Bool.false_eq_true, if_false]
            rw [if_pos hfit, if_neg h0]
            simp only [hst, Option.map_some]
          · have := Nat.mul_le_mul_right k hfit
            rw [Nat.add_mul] at this
            rw [Nat.zero_add, List.length_append, Nat.add_mul, ← hly, take_app _ _ _ (by omega), ht, List.flatMap_append]
          · have := Nat.mul_le_mul_right k hfit
            rw [Nat.add_mul] at this
            rw [over_length _ _ _ (by omega)]; exact hlen
      · have hcf := cellsFrom_get hg (els.length * k) 0 (by have := Nat.mul_le_mul_right k h1; omega)
        rw [List.drop_zero, ht] at hcf
        refine ⟨.slc (.new σ.next) 0 (els.length + ys.length) (.gr k), σ.new (.cells (els.flatMap AVal.cells ++ ys.flatMap AVal.cells) (some e)), ?_, Own.row ⟨hall, .inr ⟨σ.next, by rw [List.length_append], by rw [Heap.get_new, if_pos rfl, List.flatMap_append], hB, by simp⟩⟩, (Ext.refl B σ).new hB _, fun q hq _ => by rw [Heap.get_new, if_neg (by omega)], fun K o n c e => by cases e; exact .inl (Nat.le_refl _)⟩
        simp only [aApp, hl, hys, hcond, Bool.false_eq_true, if_false]
        rw [if_neg hfit, if_pos hroom]
        simp only [hcf]
theorem row_app {B k bytes : Nat} {e : TypeId} {σ : Heap} {x y : AVal} {els ys : List AVal} (h : Row B σ e k x els) (hB : B ≤ σ.next) (hl : aLenOf y = some ys.length) (hys : srcCells σ k ys.length y = some (ys.flatMap AVal.cells))
    (hk' : ∀ e ∈ ys, e.cells.length = k) (hc : (ys.flatMap AVal.cells).all AVal.isCell = true) (hk : 0 < k) (hb : 0 < bytes) (hroom : (els.length + ys.length) * bytes ≤ maxRoom) :
    ∃ x' σ', aApp e k bytes x y σ = some (x', σ') ∧ Row B σ' e k x' (els ++ ys) ∧ Ext B σ σ' ∧ (∀ q, q < σ.next → (∀ K o n c, x = .slc (.new K) o n c → q ≠ K) → σ'.get q = σ.get q) :=
  let ⟨x', σ', h1, h2, h3, h4, _⟩ := row_app2 h hB hl hys hk' hc hk hb hroom; ⟨x', σ', h1, h2, h3, h4⟩
/-- one element, by way of a row of one that was made for it -/
theorem src_one {σ : Heap} {K k : Nat} {cs : List AVal} {opn : Option TypeId} {z : AVal} {cap : Cap} (hg : σ.get K = some (.cells cs opn)) (hz : z.cells = cs) (hk : cs.length = k) :
    aLenOf (.slc (.new K) 0 1 cap) = some [z].length ∧ srcCells σ k [z].length (.slc (.new K) 0 1 cap) = some ([z].flatMap AVal.cells) := by
  refine ⟨rfl, ?_⟩
  have h1 := cellsFrom_whole hg
  simp only [srcCells, slcCells, List.length_cons, List.length_nil, Nat.zero_add, Nat.le_refl, if_true, Nat.one_mul, List.flatMap_cons, List.flatMap_nil, List.append_nil, hz]
  rw [← hk]; exact h1
/-- elements out of data that never change -/
theorem src_fsl (σ : Heap) (k : Nat) (ys : List AVal) : aLenOf (.fsl k ys) = some ys.length ∧ srcCells σ k ys.length (.fsl k ys) = some (ys.flatMap AVal.cells) := by
  refine ⟨rfl, ?_⟩
  simp only [srcCells, slcCells, Nat.le_refl, decide_true, Bool.and_true, if_true, List.take_length]
theorem over_all {α : Type} (l xs : List α) (h : xs.length = l.length) : over l 0 xs = xs := by
  simp only [over, List.take_zero, List.nil_append, Nat.zero_add]
  rw [List.drop_eq_nil_of_le (by omega), List.append_nil]
/-- copy(x, els) where x has just as many elements -/
theorem copy_whole {σ : Heap} {K k : Nat} {els : List AVal} {cs : List AVal} {opn : Option TypeId} {cap : Cap} (hg : σ.get K = some (.cells cs opn)) (he : ∀ z ∈ els, z.cells.length = k) (hlen : cs.length = els.length * k) (hc : (els.flatMap AVal.cells).all AVal.isCell = true) :
    ∃ σ', aCopy k (.slc (.new K) 0 els.length cap) (.fsl k els) σ = some (.int .i64 els.length, σ') ∧ σ'.get K = some (.cells (els.flatMap AVal.cells) opn) ∧ σ'.W = σ.W ∧ σ'.F0 = σ.F0 ∧ σ'.next = σ.next ∧ ∀ q, q ≠ K → σ'.get q = σ.get q := by
  have hsrc := (src_fsl σ k els).2
  have hfl := flat_len he
  by_cases h0 : els.length = 0
  · have : els = [] := by simpa using h0
    subst this
    have : cs = [] := by simpa using hlen
    subst this
    exact ⟨σ, by simp [aCopy, aSLen, aLenOf, srcCells, slcCells], hg, rfl, rfl, rfl, fun _ _ => rfl⟩
  · refine ⟨σ.set K (.cells (els.flatMap AVal.cells) opn), ?_, by rw [Heap.get_set, if_pos rfl], rfl, rfl, rfl, fun q hq => by rw [Heap.get_set, if_neg (fun e => hq e.symm)]⟩
    simp only [aCopy, aSLen, aLenOf, Nat.min_self, hsrc, if_neg h0, storeAt, hg]
    rw [if_pos (by simp only [hc, Bool.and_true, decide_eq_true_eq]; omega), over_all _ _ (by omega)]
    rfl
/-- a value stored over itself -/
theorem over_same {α : Type} (l : List α) (off : Nat) (x : α) (h : l[off]? = some x) : over l off [x] = l := by
  have hlt := (List.getElem?_eq_some_iff.1 h).1
  have hx := (List.getElem?_eq_some_iff.1 h).2
  simp only [over, List.length_cons, List.length_nil, Nat.zero_add]
  conv => rhs; rw [← List.take_append_drop off l, List.drop_eq_getElem_cons hlt, hx]
  simp
/-- a cell of a row of elements -/
theorem flat_cell {k : Nat} {els : List AVal} (he : ∀ z ∈ els, z.cells.length = k) {i j : Nat} {e : AVal} (hi : els[i]? = some e) (hj : j < k) : (els.flatMap AVal.cells)[i * k + j]? = e.cells[j]? := by
  rw [← flatMap_get els i he hi, List.getElem?_take, if_pos hj, List.getElem?_drop]
end Go.Mini
set_option linter.unusedVariables false
namespace Go.Mini
open Go
/-! ### Arrays of truth values -/
def bitRow (n : Nat) (P : Nat → Bool) : List AVal := (List.range n).map fun k => .bool (P k)
theorem bitRow_len (n : Nat) (P : Nat → Bool) : (bitRow n P).length = n := by simp [bitRow]
theorem bitRow_get {n j : Nat} (P : Nat → Bool) (h : j < n) : (bitRow n P)[j]? = some (.bool (P j)) := by simp [bitRow, h]
theorem bitRow_set {n j : Nat} (P : Nat → Bool) (b : Bool) (h : j < n) : (bitRow n P).take j ++ [AVal.bool b] ++ (bitRow n P).drop (j + 1) = bitRow n fun k => if k = j then b else P k := by
  rw [List.append_assoc, List.singleton_append]
  apply List.ext_getElem
  · simp [bitRow]; omega
  · intro i h1 h2
    have hi : i < n := by simpa [bitRow] using h2
    simp only [bitRow, List.getElem_append, List.length_take, List.length_map, List.length_range, List.getElem_take, List.getElem_map, List.getElem_range]
    by_cases hlt : i < j
    · rw [dif_pos (by omega), if_neg (by omega)]
    · rw [dif_neg (by omega)]
      by_cases he : i = j
      · subst he
        simp [Nat.min_eq_left (Nat.le_of_lt h)]
      · have hm : i - min j n = (i - j - 1) + 1 := by omega
        simp only [hm, List.getElem_cons_succ, List.getElem_drop, List.getElem_map, List.getElem_range]
        rw [if_neg he]; congr 2; omega
theorem bitRow_congr {n : Nat} {P Q : Nat → Bool} (h : ∀ k, k < n → P k = Q k) : bitRow n P = bitRow n Q := by
  apply List.map_congr_left; intro k hk; rw [h k (by simpa using hk)]
theorem bitRow_cell (n : Nat) (P : Nat → Bool) : (bitRow n P).all AVal.isCell = true := by
  rw [List.all_eq_true]; intro x hx; simp only [bitRow, List.mem_map] at hx; obtain ⟨k, _, rfl⟩ := hx; rfl
theorem aIdxR_lt {n k off j : Nat} {i : Id} {K : IntKind} (h : j < n) : aIdxR n k (.ptr i off) (.int K (j : Nat)) = some (.ptr i (off + j * k)) := by
  simp only [aIdxR]; rw [if_pos (by simp; omega)]; rfl
theorem aIdxR_lit {n k off : Nat} {i : Id} {K : IntKind} {j : Int} (h0 : 0 ≤ j) (h : j < n) : aIdxR n k (.ptr i off) (.int K j) = some (.ptr i (off + j.toNat * k)) := by
  simp only [aIdxR]; rw [if_pos (by simp; omega)]
end Go.Mini
set_option linter.unusedVariables false
namespace Go.Mini
open Go
/-! ### Data that can be read, as own values -/
/-- what lies at type t is an e of something -/
def RdP (P : Program) (W : World) (t : TypeId) {α : Type} (e : α → AVal) (G : α → Prop) : Prop :=
  ∀ (H : Type) (enc : TypeId × Value → H) (fuel : Nat) (cs : List Value) (x : DataW H × List MemPlace), DataW.trod enc P W 0 (fun _ => true) true fuel t cs = some x → ∃ a, G a ∧ VRs (Phi.bare (cellsOf W).f) (e a).cells cs
section
variable {P : Program} {W : World}
theorem rd_int {t : TypeId} {k : IntKind} (ht : P.underlying t = some (.int k)) : RdP P W t (fun n : Int => .int k n) fun n => (Lit.int k n).wf = true := by
  intro H enc fuel cs x h
  obtain ⟨n, rfl, _, hw⟩ := DataW.trod_int ht h
  exact ⟨n, hw, .cons (.int _ _) .nil⟩
theorem rd_bool {t : TypeId} (ht : P.underlying t = some .bool) : RdP P W t (fun b : Bool => .bool b) fun _ => True := by
  intro H enc fuel cs x h
  obtain ⟨b, rfl, _⟩ := DataW.trod_bool ht h
  exact ⟨b, trivial, .cons (.bool _) .nil⟩
theorem rd_str {t : TypeId} (ht : P.underlying t = some .string) : RdP P W t (fun s : List UInt8 => .str s) fun s => s.length ≤ maxLen := by
  intro H enc fuel cs x h
  obtain ⟨s, rfl, _, hs⟩ := DataW.trod_string ht h
  refine ⟨s.data.toList, by simpa using hs, .cons ?_ .nil⟩
  have := VR.str (φ := Phi.bare (cellsOf W).f) s.data.toList
  simpa using this
theorem cell_add {a : Addr} {p q : Nat} {v : Value} (h : W.cell? ((a.add p).add q) = some v) : W.cell? ⟨a.block, a.off + (p + q), none⟩ = some v := by
  have key : ∀ (b o o' : Nat) (s : Option Nat), o = o' → W.cell? ⟨b, o, s⟩ = some v → W.cell? ⟨b, o', none⟩ = some v := by
    intro b o o' s e h
    subst e
    unfold World.cell? at *
    simp only at *
    split at h
    · split at h
      · cases h
      · simpa using h
    · cases h
  unfold Addr.add at h
  by_cases hq : q = 0
  · by_cases hp : p = 0
    · simp only [hq, hp, if_true] at h; exact key _ _ _ _ (by omega) h
    · simp only [hq, if_true, if_neg hp] at h; exact key _ _ _ _ (by first | omega | (simp only; omega)) h
  · by_cases hp : p = 0
    · simp only [hp, if_true, if_neg hq] at h; exact key _ _ _ _ (by first | omega | (simp only; omega)) h
    · simp only [if_neg hp, if_neg hq] at h; exact key _ _ _ _ (by first | omega | (simp only; omega)) h
theorem cell_spot {a : Addr} {v : Value} (h : W.cell? a = some v) : a.spot = none := by
  unfold World.cell? at h
  split at h
  · split at h
    · cases h
    · rename_i hs; simpa using hs
  · cases h
theorem rd_slice {t e : TypeId} {k : Nat} {α : Type} {ee : α → AVal} {G : α → Prop} (ht : P.underlying t = some (.slice e)) (hc : P.cellsOf e = k) (hk : 0 < k) (hl : ∀ a, (ee a).cells.length = k) (h : RdP P W e ee G) :
    RdP P W t (fun l : List α => .fsl k (l.map ee)) fun l => (∀ a ∈ l, G a) ∧ l.length ≤ maxLen := by
  intro H enc fuel cs x hx
  rcases DataW.trod_slice ht hx with ⟨rfl, _⟩ | ⟨a, len, cap, elems, rest, n, _, rfl, _, _, hlc, hcm, hlen, hel, _, _⟩
  · exact ⟨[], ⟨fun _ h => (by cases h), Nat.zero_le _⟩, .cons (.fslN k none 0 fun _ => rfl) .nil⟩
  · rw [hc] at hel
    have key : ∀ m, m ≤ len → ∃ (l : List α) (vs : List Value), l.length = m ∧ (∀ a ∈ l, G a) ∧ VRs (Phi.bare (cellsOf W).f) ((l.map ee).flatMap AVal.cells) vs ∧ vs.length = m * k ∧ ∀ j v, vs[j]? = some v → W.cell? ⟨a.block, a.off + j, none⟩ = some v := by
      intro m
      induction m with
      | zero => intro _; exact ⟨[], [], rfl, fun _ h => (by cases h), .nil, by simp, fun j v h => by simp at h⟩
      | succ m ih =>
        intro hm
        obtain ⟨l, vs, h1, h2, h3, h4, h5⟩ := ih (by omega)
        have he := hel m (by omega)
        have hlt : m < elems.length := by omega
        rw [List.getElem?_eq_getElem hlt, Option.bind_eq_some_iff] at he
        obtain ⟨ci, hci, hti⟩ := he
        obtain ⟨b, hb, hv⟩ := h H enc n ci _ hti
        have hcl := hv.length
        rw [hl] at hcl
        refine ⟨l ++ [b], vs ++ ci, by simp [h1], ?_, ?_, by rw [List.length_append, h4, ← hcl, Nat.add_mul, Nat.one_mul], ?_⟩
        · intro z hz
          rcases List.mem_append.1 hz with hz | hz
          · exact h2 z hz
          · simp only [List.mem_singleton] at hz; subst hz; exact hb
        · rw [List.map_append, List.flatMap_append]
          refine h3.append ?_
          simpa using hv
        · intro j v hj
          by_cases hjl : j < vs.length
          · rw [List.getElem?_append_left hjl] at hj; exact h5 j v hj
          · rw [List.getElem?_append_right (by omega)] at hj
            have hjc := (List.getElem?_eq_some_iff.1 hj).1
            unfold World.cells? at hci
            split at hci
            · have hg := mapM_some_get hci (j - vs.length) (j - vs.length) (by rw [List.getElem?_range (by omega)])
              rw [hj] at hg
              have := cell_add hg
              rw [h4] at this
              rw [show a.off + j = a.off + (m * k + (j - m * k)) by omega]; exact this
            · cases hci
    obtain ⟨l, vs, h1, h2, h3, h4, h5⟩ := key len (Nat.le_refl _)
    refine ⟨l, ⟨h2, by omega⟩, .cons ?_ .nil⟩
    by_cases h0 : len = 0
    · have : l = [] := List.eq_nil_of_length_eq_zero (by omega)
      subst this; subst h0
      exact .fslN k (some a) cap (fun h => by cases h)
    · have hp : 0 < vs.length := by rw [h4]; exact Nat.mul_pos (by omega) hk
      have hs : a.spot = none := by
        have he := hel 0 (by omega)
        rw [List.getElem?_eq_getElem (by omega : 0 < elems.length), Option.bind_eq_some_iff] at he
        obtain ⟨ci, hci, _⟩ := he
        unfold World.cells? at hci
        split at hci
        · have hlen2 := mapM_some_length hci
          have hg := mapM_some_get hci 0 0 (by rw [List.getElem?_range hk])
          rw [List.length_range] at hlen2
          rw [List.getElem?_eq_getElem (by omega : 0 < ci.length)] at hg
          have := cell_spot hg
          simp only [Addr.add, Nat.zero_mul, if_true] at this
          exact this
        · cases hci
      obtain ⟨b, off, spot⟩ := a
      simp only at hs; subst hs
      have hv := VR.fsl (φ := Phi.bare (cellsOf W).f) (k := k) (els := l.map ee) (b := b) (off := off) cap h3 (fun j v e => by simpa [Phi.bare, cellsOf] using h5 j v e) (by intro z hz; rw [List.mem_map] at hz; obtain ⟨y, _, rfl⟩ := hz; exact hl y) (by simp; omega)
      simp only [List.length_map, h1] at hv
      exact hv
/-- fields of one cell each, in order -/
def flat1 (P : Program) : List Field → Nat → Bool
  | [], _ => true
  | f :: l, i => decide (f.offset = i) && decide (P.cellsOf f.type = 1) && flat1 P l (i + 1)
theorem flat1_at : ∀ {l : List Field} {i : Nat}, flat1 P l i = true → ∀ (j : Nat) (f : Field), l[j]? = some f → f.offset = i + j ∧ P.cellsOf f.type = 1
  | [], _, _, j, f, e => by simp at e
  | g :: l, i, h, j, f, e => by
    simp only [flat1, Bool.and_eq_true, decide_eq_true_eq] at h
    cases j with
    | zero => simp at e; subst e; exact ⟨by omega, h.1.2⟩
    | succ j =>
      have := flat1_at h.2 j f (by simpa using e)
      exact ⟨by omega, this.2⟩
theorem trod_cells {t : TypeId} {fs : Array Field} {H : Type} {enc : TypeId × Value → H} {fuel : Nat} {cs : List Value} {x : DataW H × List MemPlace} (ht : P.underlying t = some (.struct fs)) (hC : P.cellsOf t = fs.size) (hf : flat1 P fs.toList 0 = true)
    (h : DataW.trod enc P W 0 (fun _ => true) true fuel t cs = some x) : ∃ n, cs.length = fs.size ∧ ∀ (i : Nat) (f : Field) (c : Value), fs[i]? = some f → cs[i]? = some c → ∃ y, DataW.trod enc P W 0 (fun _ => true) true n f.type [c] = some y := by
  obtain ⟨xs, n, _, _, h1, h2, h3⟩ := DataW.trod_struct ht h
  refine ⟨n, by rw [h1, hC], fun i f c hi hc => ?_⟩
  have h4 := h3 i f hi
  obtain ⟨h5, h6⟩ := flat1_at hf i f (by simpa using hi)
  have hlt : i < xs.length := by rw [h2]; exact (Array.getElem?_eq_some_iff.1 hi).1
  have h7 : (cs.drop f.offset).take (P.cellsOf f.type) = [c] := by
    have hil := (List.getElem?_eq_some_iff.1 hc).1
    have hie := (List.getElem?_eq_some_iff.1 hc).2
    rw [h5, h6, Nat.zero_add, List.drop_eq_getElem_cons hil, List.take_succ_cons, hie, List.take_zero]
  rw [h7, List.getElem?_eq_getElem hlt] at h4
  exact ⟨_, h4⟩
theorem VRs.one {φ : Phi} {a : AVal} {v : Value} (h : VRs φ [a] [v]) : VR φ a v := by cases h with | cons h _ => exact h
theorem VRs.cell {φ : Phi} {a : AVal} {v : Value} (h : VRs φ a.cells [v]) (hc : a.cells = [a]) : VR φ a v := by rw [hc] at h; exact h.one
end
end Go.Mini
namespace Go.Mini
open Go
def GInt (k : IntKind) : Int → Prop := fun n => (Lit.int k n).wf = true
def GList {α : Type} (G : α → Prop) : List α → Prop := fun l => (∀ a ∈ l, G a) ∧ l.length ≤ maxLen
def GStr : List UInt8 → Prop := fun s => s.length ≤ maxLen
def GBool : Bool → Prop := fun _ => True
theorem gint_bounds {k : IntKind} {n : Int} (h : GInt k n) : k.min ≤ n ∧ n ≤ k.max := by
  simpa only [GInt, Lit.wf, decide_eq_true_eq, Bool.and_eq_true] using h
theorem gint_i64 {n : Int} (h : GInt .i64 n) : -9223372036854775808 ≤ n ∧ n < 9223372036854775808 := by have := gint_bounds h; simp [IntKind.min, IntKind.max, IntKind.signed, IntKind.bits] at this; omega
theorem gint_u8 {n : Int} (h : GInt .u8 n) : 0 ≤ n ∧ n < 256 := by have := gint_bounds h; simp [IntKind.min, IntKind.max, IntKind.signed, IntKind.bits] at this; omega
theorem gint_u16 {n : Int} (h : GInt .u16 n) : 0 ≤ n ∧ n < 65536 := by have := gint_bounds h; simp [IntKind.min, IntKind.max, IntKind.signed, IntKind.bits] at this; omega
theorem gint_i16 {n : Int} (h : GInt .i16 n) : -32768 ≤ n ∧ n < 32768 := by have := gint_bounds h; simp [IntKind.min, IntKind.max, IntKind.signed, IntKind.bits] at this; omega
theorem gint_u64 {n : Int} (h : GInt .u64 n) : 0 ≤ n ∧ n < 18446744073709551616 := by have := gint_bounds h; simp [IntKind.min, IntKind.max, IntKind.signed, IntKind.bits] at this; omega
end Go.Mini
set_option linter.unusedVariables false
namespace Go.Mini
open Go
/-! ### Loops over maps -/
section
variable {P : Program} {n : Nat} {φ : Phi} {σ : Heap} {w : World} {a : Act}
theorem op_val {o : Oper} {v : Value} {w' : World} (h : (execOp a.eval o).run P w = .ok (.value v) w') {next : Act → World → Prop} {Q : Exit → Act → World → Prop} (hn : next (a.put o.dst v) w') : o.wp P a w next Q := by
  unfold Oper.wp; rw [h]; exact hn
theorem wpOps_cons {ops : Array Oper} {o : Oper} {i : Nat} {l : List Nat} {Q : Exit → Act → World → Prop} (ho : ops[i]? = some o) (hg : o.guard = none) (h : o.wp P a w (fun a w => wpOps P ops Q l a w) Q) : wpOps P ops Q (i :: l) a w := by
  simp only [wpOps, ho]
  have : Region.wanted o (yielded ops a.tmps) = true := by simp [Region.wanted, hg]
  rw [if_pos this]
  exact .inl h
theorem Rel.pin (hr : Rel φ σ w) {k b sz : Nat} {blk : ABlk} {o : Obj} (hk : φ k = some (b, sz)) (hg : σ.get k = some blk) (hd : blk ≠ .dead) (ho : w.heap[b]? = some o) : Rel φ (σ.set k (.exact o)) w :=
  Wrote.rel (w' := w) hr hk hg hd ⟨fun b' => by by_cases e : b' = b <;> simp [e, ho], rfl, rfl, rfl, rfl, rfl⟩ (.exact o)
theorem next_any (ty : TypeId) {bit bm since c0 : Nat} {seen : Array Nat} {es : Array MapEntry} {clock : Nat} (hi : w.heap[bit]? = some (.mapIter (some bm) since seen c0)) (hb : w.heap[bm]? = some (.map es clock))
    (hold : ∀ x ∈ es.toList, x.born < since) (hsc : since ≤ c0) :
    ((leftOf es seen).size = 0 ∧ (Instr.next (.pointer (some ⟨bit, 0, none⟩)) false ty).run P w = .ok (.tuple #[.bool false]) w) ∨
    ∃ e ∈ (leftOf es seen).toList, ∃ w1 w' : World, (w1 = w ∨ w1 = w.drew) ∧ (Instr.next (.pointer (some ⟨bit, 0, none⟩)) false ty).run P w = .ok (.tuple #[.bool true, e.key, e.val]) w' ∧ Wrote w1 w' bit (.mapIter (some bm) since (seen.push e.born) clock) := by
  simp only [Instr.next, getObj, Sem.run_bind, Sem.run, hi, hb, Result.andThen, next_test_false seen es since c0 hold hsc, Bool.false_eq_true, if_false]
  unfold leftOf
  have hmem : ∀ x ∈ (Array.filter (fun e => !seen.contains e.born) es).toList, x.born < since := fun x hx => hold x (by simp at hx ⊢; exact hx.1)
  generalize Array.filter (fun e => !seen.contains e.born) es = L at hmem ⊢
  have e1 : L.filter (fun x => decide (x.born < since)) = L := Array.filter_eq_self.2 (fun x hx => by simpa using hmem x (by simpa using hx))
  have e2 : L.filter (fun x => decide (x.born ≥ since)) = #[] := by
    rw [Array.filter_eq_empty_iff]
    intro x hx
    have := hmem x (by simpa using hx)
    simp
    omega
  simp only [e1, e2, Array.append_empty]
  by_cases h0 : L.size = 0
  · left
    have : L = #[] := Array.eq_empty_of_size_eq_zero h0
    subst this
    refine ⟨rfl, ?_⟩
    simp [choose, Sem.run, Question.forced]
  · right
    have hne : L.isEmpty = false := by simp [Array.isEmpty, h0]
    simp only [hne, Bool.false_eq_true, if_false, Array.empty_append, Array.size_map]
    have hch : ∃ (j : Nat) (w1 : World), j < L.size ∧ (w1 = w ∨ w1 = w.drew) ∧ (choose (Question.mapNext L.size)).run P w = .ok j w1 := by
      by_cases hf : L.size ≤ 1
      · exact ⟨0, w, by omega, .inl rfl, by simp [choose, Sem.run, Question.forced, hf]⟩
      · exact ⟨_, w.drew, Nat.mod_lt _ (by omega), .inr rfl, by
          simp only [choose, Sem.run, Question.forced, decide_eq_true_eq, hf, if_false, Question.cut]
          rfl⟩
    obtain ⟨j, w1, hj, hal, hrun⟩ := hch
    have hi1 : w1.heap[bit]? = some (.mapIter (some bm) since seen c0) := by rcases hal with rfl | rfl <;> exact hi
    have hlt := (Array.getElem?_eq_some_iff.1 hi1).1
    refine ⟨L[j], by simp, w1, { w1 with heap := w1.heap.setIfInBounds bit (.mapIter (some bm) since (seen.push (L[j]).born) clock) }, hal, ?_, ?_⟩
    · have hset : ∀ (o' : Obj), (setObj bit o').run P w1 = .ok () { w1 with heap := w1.heap.setIfInBounds bit o' } := fun o' => by simp [setObj, Sem.run, hi1]
      simp only [hrun, Array.getElem?_map, Array.getElem?_eq_getElem hj, Option.map_some, Sem.run_bind, hset, Result.andThen]
      rfl
    · refine ⟨fun b' => ?_, by simp, rfl, rfl, rfl, rfl⟩
      by_cases e : b' = bit
      · subst e; simp [hlt]
      · rw [if_neg e]; simp [Array.getElem?_setIfInBounds_ne (fun h => e h.symm)]
theorem entry_any {bit bm since : Nat} {seen : Array Nat} {es : Array MapEntry} {clock : Nat} {e : MapEntry} (hi : w.heap[bit]? = some (.mapIter (some bm) since (seen.push e.born) clock)) (hb : w.heap[bm]? = some (.map es clock))
    (he : e ∈ es.toList) (hn : (es.toList.map (·.born)).Nodup) : (Instr.entry (.pointer (some ⟨bit, 0, none⟩))).run P w = .ok (.tuple #[e.key, e.val]) w := by
  have hf : es.find? (·.born == e.born) = some e := by rw [← Array.find?_toList]; exact find_born e es.toList hn he
  simp only [Instr.entry, getObj, Sem.run_bind, Sem.run, hi, hb, Result.andThen, Array.back?_push, bne_self_eq_false, Bool.false_eq_true, if_false, hf]
  rfl
theorem EntRel.key {es0 : List (Int × AVal)} {es' : List MapEntry} (h : EntRel φ es0 es') : ∀ e ∈ es', ∃ p ∈ es0, e.key = .int .i64 p.1 := by
  induction h with
  | nil => intro e he; cases he
  | cons h1 h2 h3 ih =>
    intro e he
    rcases List.mem_cons.1 he with rfl | he
    · exact ⟨_, List.mem_cons_self .., h1⟩
    · obtain ⟨p, hp, e⟩ := ih e he; exact ⟨p, List.mem_cons_of_mem _ hp, e⟩
theorem EntRel.has {es0 : List (Int × AVal)} {es' : List MapEntry} (h : EntRel φ es0 es') : ∀ p ∈ es0, ∃ e ∈ es', e.key = .int .i64 p.1 := by
  induction h with
  | nil => intro e he; cases he
  | cons h1 h2 h3 ih =>
    intro e he
    rcases List.mem_cons.1 he with rfl | he
    · exact ⟨_, List.mem_cons_self .., h1⟩
    · obtain ⟨p, hp, e⟩ := ih e he; exact ⟨p, List.mem_cons_of_mem _ hp, e⟩
theorem VR.ptr_new {K off : Nat} {v : Value} (h : VR φ (.ptr (.new K) off) v) : ∃ b sz, φ K = some (b, sz) ∧ v = .pointer (some ⟨b, off, none⟩) := by
  cases h with
  | ptr _ hib =>
    simp only [Id.real, Option.map_eq_some_iff] at hib
    obtain ⟨⟨b', sz⟩, hφ, rfl⟩ := hib
    exact ⟨b', sz, hφ, rfl⟩

theorem getD_put {t : Nat} {v : Value} (h : t < a.tmps.size) : (a.put (some t) v).tmps.getD t Go.undef = v := by
  simp [Act.put, Array.getD_eq_getD_getElem?, h]
theorem born_key {es' : Array MapEntry} {clock : Nat} (hst : MapKept.Stamped es' clock) : ∀ e ∈ es'.toList, ∀ e2 ∈ es'.toList, (e.born = e2.born ↔ e.key = e2.key) := by
  obtain ⟨hold, hnd, hpk⟩ := (MapKept.stamped_iff _ _).1 hst
  have hnd' : es'.toList.Pairwise fun x y => x.born ≠ y.born := List.pairwise_map.1 hnd
  intro e he e2 he2
  obtain ⟨i, hi, rfl⟩ := List.getElem_of_mem he
  obtain ⟨j, hj, rfl⟩ := List.getElem_of_mem he2
  constructor
  · intro h
    rcases Nat.lt_trichotomy i j with hij | hij | hij
    · exact absurd h (List.pairwise_iff_getElem.1 hnd' i j hi hj hij)
    · subst hij; rfl
    · exact absurd h.symm (List.pairwise_iff_getElem.1 hnd' j i hj hi hij)
  · intro h
    rcases Nat.lt_trichotomy i j with hij | hij | hij
    · exact absurd h (List.pairwise_iff_getElem.1 hpk i j hi hj hij)
    · subst hij; rfl
    · exact absurd h.symm (List.pairwise_iff_getElem.1 hpk j i hj hi hij)
theorem left_lt {es' : Array MapEntry} {seen : Array Nat} {e : MapEntry} (he : e ∈ leftOf es' seen) : (leftOf es' (seen.push e.born)).size < (leftOf es' seen).size := by
  unfold leftOf at *
  rw [Array.mem_filter] at he
  have := filter_lt (fun x : MapEntry => !seen.contains x.born) (fun x : MapEntry => !(seen.push e.born).contains x.born) (fun x hx => by
    simp only [Bool.not_eq_true', Bool.eq_false_iff, ne_eq, Array.contains_iff_mem] at *; intro h; exact hx (Array.mem_push.2 (.inl h))) e he.2 (by simp) es'.toList (by simpa using he.1)
  simpa [← Array.length_toList, Array.toList_filter] using this
/-- the rounds of a loop over a map whose block is pinned -/
theorem mapRounds (hm : P.follows .mixedOrders = true) {B B3 iN iE tN tX tE tY tA it : Nat} {y1 y2 y3 y4 y5 : TypeId} {p1 p2 p3 p4 p5 : String} {f1 f2 f3 f4 f5 : Array Edge} {rest : Code} {srest : SCode} (hrest : cCode P n rest = some srest)
    (hlt : tN < n ∧ tX < n ∧ tE < n ∧ tY < n ∧ tA < n ∧ it < n) (hne : it ≠ tN ∧ it ≠ tX ∧ it ≠ tE ∧ it ≠ tY ∧ it ≠ tA)
    {es' : Array MapEntry} {clock : Nat} (hst : MapKept.Stamped es' clock) {keys : List Int} (hkeys : (∀ e ∈ es'.toList, ∃ k ∈ keys, e.key = .int .i64 k) ∧ ∀ k ∈ keys, ∃ e ∈ es'.toList, e.key = .int .i64 k)
    {K m bit bm sz1 sz2 : Nat} (hKm : K ≠ m) (I : List Int → Frame → Heap → Prop)
    (hput : ∀ ks fr σ t v, t = tN ∨ t = tX ∨ t = tE ∨ t = tY ∨ t = tA → I ks fr σ → I ks (fr.put t v) σ) (hset : ∀ ks fr σ b, I ks fr σ → I ks fr (σ.set K b))
    (hI : ∀ ks g fr σ, g ∉ ks → g ∈ keys → I ks fr σ → fr.get tA = .int .i64 g → awp P srest (fun e fr' σ' => e = .normal ∧ I (g :: ks) fr' σ' ∧ fr'.get it = fr.get it ∧ σ'.get K = σ.get K ∧ σ'.get m = σ.get m) fr σ)
    {R : Exit → Act → World → Prop} (φ0 : Phi) (hR : ∀ φ fr σ a w ks, φ0.le φ → FR φ n fr a → Rel φ σ w → I ks fr σ → (∀ k, k ∈ ks ↔ k ∈ keys) → R .normal a w) :
    ∀ (q : Nat) (φ : Phi) (fr : Frame) (σ : Heap) (a : Act) (w : World) (seen : Array Nat) (c0 : Nat) (ks : List Int), φ0.le φ → FR φ n fr a → Rel φ σ w → I ks fr σ → fr.get it = .ptr (.new K) 0 → φ K = some (bit, sz1) → φ m = some (bm, sz2) →
      σ.get K = some (.exact (.mapIter (some bm) clock seen c0)) → σ.get m = some (.exact (.map es' clock)) → clock ≤ c0 → (∀ k ∈ ks, k ∈ keys) → (∀ e ∈ es'.toList, seen.contains e.born = true ↔ ∃ k ∈ ks, e.key = .int .i64 k) → (leftOf es' seen).size ≤ q →
      LoopWp P (.seq (.region iN #[⟨some tN, .next (.tmp it) false, y1, p1, f1, none⟩, ⟨some tX, .extract (.tmp tN) 0, y2, p2, f2, none⟩] false) (.seq (.cond (.tmp tX) .skip (.exit B)) (.block B3 (.seq (.region iE #[⟨some tE, .entry (.tmp it), y3, p3, f3, none⟩, ⟨some tY, .extract (.tmp tE) 0, y4, p4, f4, none⟩, ⟨some tA, .assign (.tmp tY), y5, p5, f5, none⟩] false) rest))))
        (Exit.inBlock B R) a w := by
  obtain ⟨hold, hnd, _⟩ := (MapKept.stamped_iff _ _).1 hst
  have huniq := born_key hst
  intro q
  induction q with
  | zero =>
    intro φ fr σ a w seen c0 ks h0 hf hr hi hit hK hmm hgK hgm hc hks hseen hq
    have hall : ∀ k, k ∈ ks ↔ k ∈ keys := fun k => ⟨hks k, fun hk => by
      obtain ⟨e, he, hek⟩ := hkeys.2 k hk
      have hcon : seen.contains e.born = true := by
        cases hcc : seen.contains e.born with
        | true => rfl
        | false =>
          have : e ∈ leftOf es' seen := by
            unfold leftOf; rw [Array.mem_filter]; exact ⟨by simpa using he, by rw [hcc]; rfl⟩
          have := Array.size_pos_of_mem this; omega
      obtain ⟨k', hk', hek'⟩ := (hseen e he).1 hcon
      rw [hek] at hek'; cases hek'; exact hk'⟩
    refine loopWp_round (wp_seq (wp_region (wpOps_cons rfl rfl ?_)))
    have hv := hf.tmps it hlt.2.2.2.2.2
    rw [hit] at hv
    obtain ⟨b, sz, hb1, hv⟩ := hv.ptr_new
    rw [hK] at hb1; cases hb1
    obtain ⟨_, o, ho, hbr⟩ := hr.new K _ _ hK
    have hbr := hbr _ hgK; cases hbr
    obtain ⟨_, o2, ho2, hbr2⟩ := hr.new m _ _ hmm
    have hbr2 := hbr2 _ hgm; cases hbr2
    rcases next_any (P := P) y1 ho ho2 hold hc with ⟨hz, hrun⟩ | ⟨e, he, _⟩
    · refine op_val (v := .tuple #[.bool false]) (w' := w) (by simp [execOp, Act.eval, hv, hrun]) ?_
      have hf1 := hf.put (t := some tN) (x := .tup [.bool false]) (v := .tuple #[.bool false]) (.tup (vs := [_]) (.cons (.bool false) .nil))
      refine wpOps_cons rfl rfl (op_val (v := .bool false) (w' := w) ?_ ?_)
      · have := getD_put (a := a) (t := tN) (v := .tuple #[.bool false]) (by rw [hf.size]; exact hlt.1)
        simp [execOp, Act.eval, this, Instr.extract]
      have hf2 := hf1.put (t := some tX) (x := .bool false) (v := .bool false) (.bool false)
      have hs2 : tX < (Act.put a (some tN) (.tuple #[.bool false])).tmps.size := by rw [hf1.size]; exact hlt.2.1
      refine wp_seq (wp_cond_false (getD_put hs2) (wp_exit ?_))
      show (if B = B then R .normal _ _ else _)
      rw [if_pos rfl]
      exact hR φ _ σ _ w ks h0 hf2 hr (hput _ _ _ _ _ (.inr (.inl rfl)) (hput _ _ _ _ _ (.inl rfl) hi)) hall
    · have : e ∈ leftOf es' seen := by simpa using he
      have := Array.size_pos_of_mem this; omega
  | succ q ih =>
    intro φ fr σ a w seen c0 ks h0 hf hr hi hit hK hmm hgK hgm hc hks hseen hq
    refine loopWp_round (wp_seq (wp_region (wpOps_cons rfl rfl ?_)))
    have hv := hf.tmps it hlt.2.2.2.2.2
    rw [hit] at hv
    obtain ⟨b, sz, hb1, hv⟩ := hv.ptr_new
    rw [hK] at hb1; cases hb1
    obtain ⟨_, o, ho, hbr⟩ := hr.new K _ _ hK
    have hbr := hbr _ hgK; cases hbr
    obtain ⟨_, o2, ho2, hbr2⟩ := hr.new m _ _ hmm
    have hbr2 := hbr2 _ hgm; cases hbr2
    rcases next_any (P := P) y1 ho ho2 hold hc with ⟨hz, hrun⟩ | ⟨e, he, w1, w', hw1, hrun, hwr⟩
    · have hall : ∀ k, k ∈ ks ↔ k ∈ keys := fun k => ⟨hks k, fun hk => by
        obtain ⟨e, he, hek⟩ := hkeys.2 k hk
        have hcon : seen.contains e.born = true := by
          cases hcc : seen.contains e.born with
          | true => rfl
          | false =>
            have : e ∈ leftOf es' seen := by
              unfold leftOf; rw [Array.mem_filter]; exact ⟨by simpa using he, by rw [hcc]; rfl⟩
            have := Array.size_pos_of_mem this; omega
        obtain ⟨k', hk', hek'⟩ := (hseen e he).1 hcon
        rw [hek] at hek'; cases hek'; exact hk'⟩
      refine op_val (v := .tuple #[.bool false]) (w' := w) (by simp [execOp, Act.eval, hv, hrun]) ?_
      have hf1 := hf.put (t := some tN) (x := .tup [.bool false]) (v := .tuple #[.bool false]) (.tup (vs := [_]) (.cons (.bool false) .nil))
      refine wpOps_cons rfl rfl (op_val (v := .bool false) (w' := w) ?_ ?_)
      · have := getD_put (a := a) (t := tN) (v := .tuple #[.bool false]) (by rw [hf.size]; exact hlt.1)
        simp [execOp, Act.eval, this, Instr.extract]
      have hf2 := hf1.put (t := some tX) (x := .bool false) (v := .bool false) (.bool false)
      have hs2 : tX < (Act.put a (some tN) (.tuple #[.bool false])).tmps.size := by rw [hf1.size]; exact hlt.2.1
      refine wp_seq (wp_cond_false (getD_put hs2) (wp_exit ?_))
      show (if B = B then R .normal _ _ else _)
      rw [if_pos rfl]
      exact hR φ _ σ _ w ks h0 hf2 hr (hput _ _ _ _ _ (.inr (.inl rfl)) (hput _ _ _ _ _ (.inl rfl) hi)) hall
    · have hmem : e ∈ leftOf es' seen := by simpa using he
      have hmem2 := hmem
      unfold leftOf at hmem2; rw [Array.mem_filter] at hmem2
      have heL : e ∈ es'.toList := by simpa using hmem2.1
      have hns : seen.contains e.born = false := by simpa using hmem2.2
      obtain ⟨g, hg, hek⟩ := hkeys.1 e heL
      have hgks : g ∉ ks := fun h => by
        have := (hseen e heL).2 ⟨g, h, hek⟩; rw [hns] at this; cases this
      have hr1 : Rel φ σ w1 := by rcases hw1 with rfl | rfl; exact hr; exact hr.drew
      have hr2 := hwr.rel hr1 hK hgK (by intro h; cases h) (.exact _)
      refine op_val (v := .tuple #[.bool true, e.key, e.val]) (w' := w') (by simp [execOp, Act.eval, hv, hrun]) ?_
      have hf1 := hf.put (t := some tN) (x := .tup [.bool true, .raw e.key, .raw e.val]) (v := .tuple #[.bool true, e.key, e.val]) (.tup (vs := [_, _, _]) (.cons (.bool true) (.cons (.raw _) (.cons (.raw _) .nil))))
      refine wpOps_cons rfl rfl (op_val (v := .bool true) (w' := w') ?_ ?_)
      · have := getD_put (a := a) (t := tN) (v := .tuple #[.bool true, e.key, e.val]) (by rw [hf.size]; exact hlt.1)
        simp [execOp, Act.eval, this, Instr.extract]
      have hf2 := hf1.put (t := some tX) (x := .bool true) (v := .bool true) (.bool true)
      change Code.wp P _ _ (Act.put (Act.put a (some tN) (.tuple #[.bool true, e.key, e.val])) (some tX) (.bool true)) w'
      generalize ha2 : Act.put (Act.put a (some tN) (.tuple #[.bool true, e.key, e.val])) (some tX) (.bool true) = a2 at hf2 ⊢
      have hs2 : tX < (Act.put a (some tN) (.tuple #[.bool true, e.key, e.val])).tmps.size := by rw [hf1.size]; exact hlt.2.1
      have hx : a2.eval (.tmp tX) = .bool true := by rw [← ha2]; exact getD_put hs2
      refine wp_seq (wp_cond_true hx (wp_skip (wp_block (wp_seq (wp_region (wpOps_cons rfl rfl ?_))))))
      have hit2 : (Frame.putO (Frame.putO fr (some tN) (.tup [.bool true, .raw e.key, .raw e.val])) (some tX) (.bool true)).get it = .ptr (.new K) 0 := by
        simp only [Frame.putO, Frame.get_put, if_neg (fun h => hne.2.1 (Eq.symm h)), if_neg (fun h => hne.1 (Eq.symm h)), hit]
      have hi2 : I ks (Frame.putO (Frame.putO fr (some tN) (.tup [.bool true, .raw e.key, .raw e.val])) (some tX) (.bool true)) (σ.set K (.exact (.mapIter (some bm) clock (seen.push e.born) clock))) :=
        hset _ _ _ _ (hput _ _ _ _ _ (.inr (.inl rfl)) (hput _ _ _ _ _ (.inl rfl) hi))
      generalize Frame.putO (Frame.putO fr (some tN) (.tup [.bool true, .raw e.key, .raw e.val])) (some tX) (.bool true) = fr2 at hf2 hit2 hi2
      have hv2 := hf2.tmps it hlt.2.2.2.2.2
      rw [hit2] at hv2
      obtain ⟨b2, sz2', hb2, hv2⟩ := hv2.ptr_new
      rw [hK] at hb2; cases hb2
      have hgK2 : (σ.set K (.exact (.mapIter (some bm) clock (seen.push e.born) clock))).get K = some (.exact (.mapIter (some bm) clock (seen.push e.born) clock)) := by rw [Heap.get_set, if_pos rfl]
      have hgm2 : (σ.set K (.exact (.mapIter (some bm) clock (seen.push e.born) clock))).get m = some (.exact (.map es' clock)) := by rw [Heap.get_set, if_neg hKm]; exact hgm
      generalize σ.set K (.exact (.mapIter (some bm) clock (seen.push e.born) clock)) = σ2 at hr2 hi2 hgK2 hgm2
      obtain ⟨_, o3, ho3, hbr3⟩ := hr2.new K _ _ hK
      have hbr3 := hbr3 _ hgK2; cases hbr3
      obtain ⟨_, o4, ho4, hbr4⟩ := hr2.new m _ _ hmm
      have hbr4 := hbr4 _ hgm2; cases hbr4
      have hrun2 := entry_any (P := P) ho3 ho4 heL hnd
      refine op_val (v := .tuple #[e.key, e.val]) (w' := w') (by simp [execOp, Act.eval, hv2, hrun2]) ?_
      have hf3 := hf2.put (t := some tE) (x := .tup [.raw e.key, .raw e.val]) (v := .tuple #[e.key, e.val]) (.tup (vs := [_, _]) (.cons (.raw _) (.cons (.raw _) .nil)))
      refine wpOps_cons rfl rfl (op_val (v := e.key) (w' := w') ?_ ?_)
      · have := getD_put (a := a2) (t := tE) (v := .tuple #[e.key, e.val]) (by rw [hf2.size]; exact hlt.2.2.1)
        simp [execOp, Act.eval, this, Instr.extract]
      have hf4 := hf3.put (t := some tY) (x := .int .i64 g) (v := e.key) (by rw [hek]; exact .int _ _)
      have hsz3 : tY < (Act.put a2 (some tE) (.tuple #[e.key, e.val])).tmps.size := by rw [hf3.size]; exact hlt.2.2.2.1
      refine wpOps_cons rfl rfl (op_val (v := e.key) (w' := w') ?_ ?_)
      · have := getD_put (a := Act.put a2 (some tE) (.tuple #[e.key, e.val])) (t := tY) (v := e.key) hsz3
        simp [execOp, Act.eval, this]
      have hf5 := hf4.put (t := some tA) (x := .int .i64 g) (v := e.key) (by rw [hek]; exact .int _ _)
      have hit5 : (Frame.putO (Frame.putO (Frame.putO fr2 (some tE) (.tup [.raw e.key, .raw e.val])) (some tY) (.int .i64 g)) (some tA) (.int .i64 g)).get it = .ptr (.new K) 0 := by
        simp only [Frame.putO, Frame.get_put, if_neg (fun h => hne.2.2.2.2 (Eq.symm h)), if_neg (fun h => hne.2.2.2.1 (Eq.symm h)), if_neg (fun h => hne.2.2.1 (Eq.symm h)), hit2]
      have hA5 : (Frame.putO (Frame.putO (Frame.putO fr2 (some tE) (.tup [.raw e.key, .raw e.val])) (some tY) (.int .i64 g)) (some tA) (.int .i64 g)).get tA = .int .i64 g := by
        simp only [Frame.putO, Frame.get_put, if_true]
      have hi5 : I ks (Frame.putO (Frame.putO (Frame.putO fr2 (some tE) (.tup [.raw e.key, .raw e.val])) (some tY) (.int .i64 g)) (some tA) (.int .i64 g)) σ2 :=
        hput _ _ _ _ _ (.inr (.inr (.inr (.inr rfl)))) (hput _ _ _ _ _ (.inr (.inr (.inr (.inl rfl)))) (hput _ _ _ _ _ (.inr (.inr (.inl rfl))) hi2))
      generalize Frame.putO (Frame.putO (Frame.putO fr2 (some tE) (.tup [.raw e.key, .raw e.val])) (some tY) (.int .i64 g)) (some tA) (.int .i64 g) = fr5 at hf5 hit5 hA5 hi5
      change Code.wp P _ _ (Act.put (Act.put (Act.put a2 (some tE) (.tuple #[e.key, e.val])) (some tY) e.key) (some tA) e.key) w'
      generalize Act.put (Act.put (Act.put a2 (some tE) (.tuple #[e.key, e.val])) (some tY) e.key) (some tA) e.key = a5 at hf5 ⊢
      have hawp := hI ks g fr5 σ2 hgks hg hi5 hA5
      refine awp_sound hm rest srest _ _ φ fr5 σ2 a5 w' hrest hawp hf5 hr2 ?_
      intro φ' fr' σ' se ee a' w2 k1 k2 k3 k4 ⟨k5, k6, k7, k8, k9⟩
      subst k5
      cases k2
      show LoopWp _ _ _ _ _
      refine ih φ' fr' σ' a' w2 (seen.push e.born) clock (g :: ks) (Phi.le_trans h0 k1) k3 k4 k6 (by rw [k7]; exact hit5) (k1.1.1 _ _ hK) (k1.1.1 _ _ hmm) (by rw [k8]; exact hgK2) (by rw [k9]; exact hgm2) (Nat.le_refl _) ?_ ?_ ?_
      · intro k hk
        rcases List.mem_cons.1 hk with rfl | hk
        · exact hg
        · exact hks k hk
      · intro x hx
        have h1 : (seen.push e.born).contains x.born = true ↔ seen.contains x.born = true ∨ x.born = e.born := by
          simp only [Array.contains_iff_mem, Array.mem_push]
        rw [h1, hseen x hx, huniq x hx e heL]
        constructor
        · rintro (⟨k, hk, e1⟩ | e1)
          · exact ⟨k, List.mem_cons_of_mem _ hk, e1⟩
          · exact ⟨g, List.mem_cons_self .., e1.trans hek⟩
        · rintro ⟨k, hk, e1⟩
          rcases List.mem_cons.1 hk with rfl | hk
          · exact .inr (e1.trans hek.symm)
          · exact .inl ⟨k, hk, e1⟩
      · have := left_lt hmem; omega
/-- a loop over a map that the rounds leave alone -/
theorem mapRange (hm : P.follows .mixedOrders = true) {B B3 iR iN iE tS tM tN tX tE tY tA it : Nat} {y0 y1 y2 y3 y4 y5 ty kt et : TypeId} {p0 pr p1 p2 p3 p4 p5 : String} {f0 fr' f1 f2 f3 f4 f5 : Array Edge} {yr : TypeId} {rest : Code} {srest : SCode} (hrest : cCode P n rest = some srest)
    (hu : P.underlying ty = some (.map kt et))
    (hlt : tN < n ∧ tX < n ∧ tE < n ∧ tY < n ∧ tA < n ∧ it < n ∧ tS < n ∧ tM < n) (hne : it ≠ tN ∧ it ≠ tX ∧ it ≠ tE ∧ it ≠ tY ∧ it ≠ tA)
    {m : Nat} {es : List (Int × AVal)} {fr : Frame} (hf : FR φ n fr a) (hr : Rel φ σ w) (hS : fr.get tS = .mp (.new m)) (hg : σ.get m = some (.map es)) (I : List Int → Frame → Heap → Prop) (hml : m < σ.next)
    (hput : ∀ ks fr σ t v, t = tN ∨ t = tX ∨ t = tE ∨ t = tY ∨ t = tA ∨ t = tM ∨ t = it → I ks fr σ → I ks (fr.put t v) σ) (hset : ∀ ks fr τ b, I ks fr τ → I ks fr (τ.set σ.next b)) (hI0 : ∀ b1 b2, I [] fr ((σ.set m b1).new b2))
    (hI : ∀ ks g fr τ, g ∉ ks → g ∈ es.map (·.1) → I ks fr τ → fr.get tA = .int .i64 g → awp P srest (fun e fr' τ' => e = .normal ∧ I (g :: ks) fr' τ' ∧ fr'.get it = fr.get it ∧ τ'.get σ.next = τ.get σ.next ∧ τ'.get m = τ.get m) fr τ)
    {R : Exit → Act → World → Prop} (hR : ∀ φ' fr τ a w ks, φ.le φ' → FR φ' n fr a → Rel φ' τ w → I ks fr τ → (∀ k, k ∈ ks ↔ k ∈ es.map (·.1)) → R .normal a w) :
    (Code.seq (.region iR #[⟨some tM, .move (.tmp tS), y0, p0, f0, none⟩, ⟨some it, .range ty (.tmp tM), yr, pr, fr', none⟩] false) (.block B (.loop (.seq (.region iN #[⟨some tN, .next (.tmp it) false, y1, p1, f1, none⟩, ⟨some tX, .extract (.tmp tN) 0, y2, p2, f2, none⟩] false) (.seq (.cond (.tmp tX) .skip (.exit B)) (.block B3 (.seq (.region iE #[⟨some tE, .entry (.tmp it), y3, p3, f3, none⟩, ⟨some tY, .extract (.tmp tE) 0, y4, p4, f4, none⟩, ⟨some tA, .assign (.tmp tY), y5, p5, f5, none⟩] false) rest))))))).wp P R a w := by
  have hv := hf.tmps tS hlt.2.2.2.2.2.2.1
  rw [hS] at hv
  generalize hvv : a.tmps.getD tS Go.undef = v at hv
  obtain ⟨bm, sz2, hmm, rfl⟩ : ∃ bm sz, φ m = some (bm, sz) ∧ v = .map (some bm) := by
    cases hv with
    | mp hib =>
      simp only [Id.real, Option.map_eq_some_iff] at hib
      obtain ⟨⟨b', sz⟩, hφ, rfl⟩ := hib
      exact ⟨b', sz, hφ, rfl⟩
  obtain ⟨es', clock, ho, ⟨hsort, es0, hperm, hrel⟩, hst⟩ := mapBlock hr hmm hg
  refine wp_seq (wp_region (wpOps_cons rfl rfl ?_))
  refine op_val (v := .map (some bm)) (w' := w) (by simp [execOp, Act.eval, hvv]) ?_
  have hf1 := hf.put (t := some tM) (x := .raw (.map (some bm))) (v := .map (some bm)) (.raw _)
  have hr1 := hr.pin hmm hg (by intro h; cases h) ho
  have hmk : m ≠ σ.next := by omega
  obtain ⟨hle, hr2⟩ := hr1.alloc (blk := .exact (.mapIter (some bm) clock #[] clock)) (o := .mapIter (some bm) clock #[] clock) (sz := 0) (.exact _)
  have hne2 : (σ.set m (.exact (.map es' clock))).next = σ.next := rfl
  rw [hne2] at hle hr2
  have hs1 : tM < a.tmps.size := by rw [hf.size]; exact hlt.2.2.2.2.2.2.2
  have hM := getD_put (a := a) (t := tM) (v := .map (some bm)) hs1
  refine wpOps_cons rfl rfl (op_val (v := .pointer (some ⟨w.heap.size, 0, none⟩)) (w' := w.alloc (.mapIter (some bm) clock #[] clock)) ?_ ?_)
  · simp [execOp, Act.eval, hM, run_range_map w ty kt et bm es' clock hu ho]
  have hput1 : (φ.put σ.next (w.heap.size, 0)).m σ.next = some (w.heap.size, 0) := Phi.put_same ..
  have hf2 := (hf1.mono hle).put (t := some it) (x := .ptr (.new σ.next) 0) (v := .pointer (some ⟨w.heap.size, 0, none⟩)) (.ptr 0 (by simp [Id.real, hput1]))
  change Code.wp P _ _ (Act.put (Act.put a (some tM) (.map (some bm))) (some it) (.pointer (some ⟨w.heap.size, 0, none⟩))) _
  refine wp_block (loopWp_loop ?_)
  refine mapRounds hm hrest ⟨hlt.1, hlt.2.1, hlt.2.2.1, hlt.2.2.2.1, hlt.2.2.2.2.1, hlt.2.2.2.2.2.1⟩ hne hst (keys := es.map (·.1)) ⟨fun e he => ?_, fun k hk => ?_⟩ (K := σ.next) (m := m) (bit := w.heap.size) (bm := bm) (sz1 := 0) (sz2 := sz2) (fun h => hmk h.symm) I
    (fun ks fr σ t v ht => hput ks fr σ t v (by rcases ht with h | h | h | h | h; exact .inl h; exact .inr (.inl h); exact .inr (.inr (.inl h)); exact .inr (.inr (.inr (.inl h))); exact .inr (.inr (.inr (.inr (.inl h)))))) hset hI _ (fun φ' fr τ a w ks h1 => hR φ' fr τ a w ks (Phi.le_trans hle h1))
    es'.size _ _ _ _ _ #[] clock [] (Phi.le_refl _) hf2 hr2 ?_ ?_ hput1 (hle.1.1 _ _ hmm) ?_ ?_ (Nat.le_refl _) (fun k hk => by cases hk) (fun e he => ?_) ?_
  · obtain ⟨p, hp, e1⟩ := hrel.key e he
    exact ⟨p.1, List.mem_map.2 ⟨p, hperm.mem_iff.1 hp, rfl⟩, e1⟩
  · obtain ⟨p, hp, rfl⟩ := List.mem_map.1 hk
    exact hrel.has p (hperm.mem_iff.2 hp)
  · exact hput _ _ _ _ _ (.inr (.inr (.inr (.inr (.inr (.inr rfl)))))) (hput _ _ _ _ _ (.inr (.inr (.inr (.inr (.inr (.inl rfl)))))) (hI0 _ _))
  · simp only [Frame.putO, Frame.get_put, if_true]
  · rw [Heap.get_new]; exact if_pos hne2
  · rw [Heap.get_new, Heap.get_set, if_pos rfl]; exact if_neg (fun h => hmk (h.symm.trans hne2))
  · constructor
    · intro h; simp at h
    · rintro ⟨k, hk, _⟩; cases hk
  · unfold leftOf; exact Array.size_filter_le
/-- a function whose body is run by hand -/
theorem afun_of_wp {f : FuncId} {fn : Func} (hfn : P.funcs[f]? = some fn) {c : Code} (hcb : fn.body = some c) {r : List SRes} (hres : cRes P fn.ntmps fn.results.toList = some r) {args : List AVal} {σ' : Heap} {v : AVal} (hlen : args.length ≤ fn.ntmps)
    (h : ∀ (φ : Phi) (a : Act) (w : World), FR φ fn.ntmps (Frame.ofArgs 0 args) a → Rel φ σ w → c.wp P (fun e a' w' => (e = .normal ∨ e = .ret) ∧ ∃ (φ' : Phi) (fr' : Frame), φ.le φ' ∧ FR φ' fn.ntmps fr' a' ∧ Rel φ' σ' w' ∧ resOf r fr' σ' = some v) a w) : AFun P f args σ v σ' := by
  intro φ w vs hvs hr
  have hl := hvs.length
  refine calls_of_wp hfn hcb ?_
  have hF : FR φ fn.ntmps (Frame.ofArgs 0 args) { tmps := vs.toArray ++ Array.replicate (fn.ntmps - vs.toArray.size) Go.undef, defers := [] } := by
    refine ⟨?_, ?_, rfl⟩
    · simp; omega
    · intro t ht
      rw [ofArgs_get]
      simp only [Nat.zero_le, if_true, Nat.sub_zero]
      by_cases hta : t < args.length
      · obtain ⟨u, hu, hur⟩ := hvs.get t args[t] (by simp [hta])
        have : (vs.toArray ++ Array.replicate (fn.ntmps - vs.toArray.size) Go.undef).getD t Go.undef = u := by
          have htv : t < vs.length := by omega
          rw [Array.getD_eq_getD_getElem?, Array.getElem?_append_left (by simpa using htv)]
          simp only [List.getElem?_toArray, hu, Option.getD_some]
        rw [this]
        simpa [hta] using hur
      · have : (vs.toArray ++ Array.replicate (fn.ntmps - vs.toArray.size) Go.undef).getD t Go.undef = Go.undef := by
          rw [Array.getD_eq_getD_getElem?, Array.getElem?_append_right (by simp; omega)]
          simp only [Array.getElem?_replicate]
          split <;> rfl
        rw [this, List.getElem?_eq_none (by omega)]
        exact VR.undef φ
  refine wp_mono (h φ _ w hF hr) ?_
  rintro e a' w' ⟨he, φ', fr', h1, h3, h4, g2⟩
  have hfin : a'.defers = [] ∧ ∃ u, (results fn a'.tmps).run P w' = .ok u w' ∧ ∃ v' φ'', Ending.returned u = .returned v' ∧ φ.le φ'' ∧ VR φ'' v v' ∧ Rel φ'' σ' w' := by
    refine ⟨h3.defers, ?_⟩
    unfold resOf at g2
    cases hrv : rvals r fr' σ' with
    | none => rw [hrv] at g2; cases g2
    | some vals =>
      rw [hrv] at g2
      obtain ⟨us, k1, k2⟩ := results_ok (P := P) h4 h3 fn.results.toList r vals hres hrv
      have hrun : (results fn a'.tmps).run P w' = .ok (if h : us.toArray.size = 1 then us.toArray[0] else .tuple us.toArray) w' := by
        have hrs : results fn a'.tmps = (fn.results.mapM (resSem a'.tmps)) >>= fun (vs : Array Value) => pure (if h : vs.size = 1 then vs[0] else .tuple vs) := rfl
        rw [hrs]
        simp only [Sem.run_bind]
        rw [Array.mapM_eq_mapM_toList]
        simp only [Sem.run_map]
        rw [k1]
        rfl
      refine ⟨_, hrun, _, φ', rfl, h1, ?_, h4⟩
      cases vals with
      | nil =>
        cases k2; cases g2
        exact VR.tup (vs := []) .nil
      | cons x l =>
        cases l with
        | nil =>
          cases k2 with
          | cons k3 k4 => cases k4; cases g2; simpa using k3
        | cons y l =>
          cases k2 with
          | cons k3 k4 => cases k4 with
            | cons k5 k6 =>
              cases g2
              rw [dif_neg (by simp)]
              exact VR.tup (.cons k3 (.cons k5 k6))
  rcases he with rfl | rfl
  · exact hfin
  · exact hfin
/-- a code's first part that is compiled, and what comes behind it -/
theorem wp_first (hm : P.follows .mixedOrders = true) {x y : Code} {sx : SCode} (hx : cCode P n x = some sx) {fr : Frame} (hf : FR φ n fr a) (hr : Rel φ σ w) {K : Frame → Heap → Prop} {Z : SExit → Frame → Heap → Prop} {R : Exit → Act → World → Prop}
    (h : awp P sx (thn K Z) fr σ) (hK : ∀ (φ' : Phi) fr' σ' a' w', φ.le φ' → FR φ' n fr' a' → Rel φ' σ' w' → K fr' σ' → y.wp P R a' w')
    (hZ : ∀ (φ' : Phi) fr' σ' a' w', φ.le φ' → FR φ' n fr' a' → Rel φ' σ' w' → (Z .ret fr' σ' → R .ret a' w') ∧ ∀ id, Z (.exit id) fr' σ' → R (.exit id) a' w') : (Code.seq x y).wp P R a w := by
  refine wp_seq (awp_sound hm x sx _ _ φ fr σ a w hx h hf hr ?_)
  intro φ' fr' σ' se e a' w' g1 g2 g3 g4 g5
  cases g2 with
  | normal => exact hK φ' fr' σ' a' w' g1 g3 g4 g5
  | exit id => exact (hZ φ' fr' σ' a' w' g1 g3 g4).2 id g5
  | ret => exact (hZ φ' fr' σ' a' w' g1 g3 g4).1 g5
end
def sl : Code → Code
  | .seq a _ => a
  | c => c
def sr : Code → Code
  | .seq _ b => b
  | c => c
def lastIn : Code → Code
  | .seq _ b => lastIn b
  | .block _ c => lastIn c
  | .loop c => lastIn c
  | c => c
end Go.Mini
set_option linter.unusedVariables false
set_option linter.unusedSimpArgs false
namespace Go.Mini
open Go Go.Shelf Go.Proofs

/-- a block of its own is let go; what becomes of it plays no part -/
theorem Rel.spoil {φ : Phi} {σ : Heap} {w w' : World} (hr : Rel φ σ w) {k b sz : Nat} {blk : ABlk} {o : Obj} (hk : φ k = some (b, sz)) (hg : σ.get k = some blk) (hd : blk ≠ .dead)
    (hw : ∀ b', w'.heap[b']? = if b' = b then some o else w.heap[b']?) (hs : w'.heap.size = w.heap.size)
    (ht : w'.tape = w.tape) (hos : w'.os = w.os) (hout : w'.output = w.output) (hdr : w.drawn ≤ w'.drawn) : Rel φ (σ.set k .dead) w' :=
  hr.change hk hg hd hw hs ht hos hout hdr (.dead o)

section
variable {P : Program} {ρ : Ren}
theorem copyCheck_fresh (L : Lays.n240 P ρ) (X : Builder.X72 P ρ) {σ : Heap} {k : Nat} {buf : AVal} (hg : σ.get k = some (.tcells (ρ.t 72) [.nilp, buf])) :
    AFun P (ρ.f 240) [.ptr (.new k) 0] σ (.tup []) (σ.set k (.tcells (ρ.t 72) [.ptr (.new k) 0, buf])) := by
  intro φ w vs hvs hr
  cases hvs with
  | cons hv hvs =>
  cases hvs
  cases hv with
  | @ptr _ b _ hb =>
  have hb' := hb
  simp only [Id.real, Option.map_eq_some_iff] at hb
  obtain ⟨⟨b', sz⟩, hk, rfl⟩ := hb
  obtain ⟨cs', fz, ho, h1, h2, h3⟩ := hr.blockT hk hg
  obtain ⟨v0, hv0, hr0⟩ := h2.get 0 _ rfl
  have hl := h2.length
  simp only [Array.length_toList, List.length_cons, List.length_nil] at hl
  cases hr0
  obtain ⟨⟨u, hu⟩, hf, hr'⟩ := hr.storeT (off := 0) hk hg (by simp) (VR.ptr 0 hb')
  have hc0 : w.cell? ⟨b', 0, none⟩ = some (.pointer none) := by rw [cell?_cells ho]; simpa using hv0
  have hsh : w.shape? b' = some ((ρ.t 72), 2) := by simp only [World.shape?, ho]; rw [← hl]
  refine (Any.Builder_copyCheck_fresh L X b' w hc0 hsh hf).mono ?_
  rintro e w' ⟨rfl, rfl⟩
  exact ⟨_, φ, rfl, φ.le_refl, .tup (vs := []) .nil, hr'⟩
theorem copyCheck_used (L : Lays.n240 P ρ) (X : Builder.X72 P ρ) {σ : Heap} {k : Nat} {T : TypeId} {buf : AVal} (hg : σ.get k = some (.tcells T [.ptr (.new k) 0, buf])) :
    AFun P (ρ.f 240) [.ptr (.new k) 0] σ (.tup []) σ := by
  intro φ w vs hvs hr
  cases hvs with
  | cons hv hvs =>
  cases hvs
  cases hv with
  | @ptr _ b _ hb =>
  have hb' := hb
  simp only [Id.real, Option.map_eq_some_iff] at hb
  obtain ⟨⟨b', sz⟩, hk, rfl⟩ := hb
  obtain ⟨cs', fz, ho, h1, h2, h3⟩ := hr.blockT hk hg
  obtain ⟨v0, hv0, hr0⟩ := h2.get 0 _ rfl
  cases hr0 with
  | ptr _ hb2 =>
  rw [hb'] at hb2
  cases hb2
  have hc0 : w.cell? ⟨b', 0, none⟩ = some (.pointer (some ⟨b', 0, none⟩)) := by rw [cell?_cells ho]; simpa using hv0
  refine (Any.Builder_copyCheck_used L X b' w hc0).mono ?_
  rintro e w' ⟨rfl, rfl⟩
  exact ⟨_, φ, rfl, φ.le_refl, .tup (vs := []) .nil, hr⟩

theorem asBytes_cells : ∀ l : List UInt8, VRs (Phi.bare fun _ _ => none) (byteCells l) (Lib.byteCells l)
  | [] => .nil
  | x :: l => .cons (.int _ _) (asBytes_cells l)
theorem byteCells_eq {φ : Phi} : ∀ {l : List UInt8} {us : List Value}, VRs φ (byteCells l) us → us = Lib.byteCells l
  | [], us, h => by cases h; rfl
  | x :: l, us, h => by
    cases h with
    | cons h1 h2 => cases h1; rw [byteCells_eq h2]; rfl

theorem heap_freeze {w : World} {g : Nat} {cur : Array Value} {T : TypeId} {fz : Nat × Nat} (hg : w.heap[g]? = some (.cells cur T fz)) (n : Nat) :
    ∃ o, (∀ b', (w.drew.freeze ⟨g, 0, none⟩ n).heap[b']? = if b' = g then some o else w.heap[b']?) ∧ (w.drew.freeze ⟨g, 0, none⟩ n).heap.size = w.heap.size := by
  unfold World.freeze
  split
  · refine ⟨.cells cur T fz, fun b' => ?_, rfl⟩
    split
    · rename_i h; rw [h]; exact hg
    · rfl
  · obtain ⟨lo, hi⟩ := fz
    refine ⟨.cells cur T (if lo == hi then (0, 0 + n) else (min lo 0, max hi (0 + n))), fun b' => ?_, by simp⟩
    simp only [Array.getElem?_modify]
    by_cases e : b' = g
    · subst e
      have : w.drew.heap[b']? = some (.cells cur T (lo, hi)) := hg
      rw [if_pos rfl, if_pos rfl, this, Option.map_some]
    · rw [if_neg (fun h => e h.symm), if_neg e]; rfl
set_option maxHeartbeats 1000000 in
set_option maxRecDepth 100000 in
theorem bldString_run (L : Lays.n169 P ρ) (X : Builder.Extra P ρ) (b g cap : Nat) (p : Value) (l : List UInt8) (cur : Array Value) (T : TypeId) (fz fz' : Nat × Nat) (w : World) (h0 : l ≠ []) (hbk : w.heap[b]? = some (.cells #[p, .slice (some ⟨g, 0, none⟩) l.length cap] T fz))
    (hg : w.heap[g]? = some (.cells cur (ρ.t 5) fz')) (hcs : cur.size = cap) (hcap : l.length ≤ cap) (hcm : l.length ≤ maxLen) (htake : cur.toList.take l.length = Lib.byteCells l) :
    Calls P (ρ.f 169) #[.pointer (some ⟨b, 0, none⟩)] w fun e w' => e = .returned (.string ⟨l.toArray⟩) ∧ w' = w.drew.freeze ⟨g, 0, none⟩ l.length := by
  have hl0 : l.length ≠ 0 := by simpa using h0
  have c1 : w.drew.cell? ⟨b, 1, none⟩ = some (.slice (some ⟨g, 0, none⟩) l.length cap) := by
    have : w.drew.heap[b]? = some (.cells #[p, .slice (some ⟨g, 0, none⟩) l.length cap] T fz) := hbk
    rw [Lib.cell_of_heap this]; rfl
  have hSD : (Builtin.unsafeSliceData_ #[(ρ.t 37)] (ρ.t 127) #[.slice (some ⟨g, 0, none⟩) l.length cap]).run P w.drew = .ok (.pointer (some ⟨g, 0, none⟩)) w.drew :=
    Lib.run_unsafeSliceData_row _ _ _ _ _ _ (by omega)
  have hUS : (Builtin.unsafeString_ #[(ρ.t 127), (ρ.t 3)] (ρ.t 9) #[.pointer (some ⟨g, 0, none⟩), .int .i64 l.length]).run P w.drew = .ok (.string ⟨l.toArray⟩) (w.drew.freeze ⟨g, 0, none⟩ l.length) := by
    refine Lib.run_unsafeString_row w.drew (ρ.t 127) (ρ.t 3) (ρ.t 9) (ρ.t 5) L.t127 X.cellsByte g cur.size (by have hg' : w.drew.heap[g]? = some (.cells cur (ρ.t 5) fz') := hg; simp [World.shape?, hg']) l h0 (by omega) (by unfold maxLen at hcm; omega) ?_
    intro j x hx
    have hj := (List.getElem?_eq_some_iff.1 hx).1
    have e : (Lib.byteCells l)[j]? = some (.int .u8 x.toNat) := by simp [Lib.byteCells, hx]
    rw [← htake, List.getElem?_take, if_pos hj] at e
    have hadd : (⟨g, 0, none⟩ : Addr).add j = ⟨g, j, none⟩ := by rw [Addr.add_lit, Nat.zero_add]
    rw [hadd, cell?_cells (w := w.drew) hg]
    simpa using e
  have mixed := L.mixed
  have t72 := L.t72; have a72 := L.a72; have z72 := L.z72; have v72 := L.v72; have u72 := run_underlying L.t72
  have t70 := L.t70; have a70 := L.a70; have z70 := L.z70; have v70 := L.v70; have u70 := run_underlying L.t70
  have t37 := L.t37; have a37 := L.a37; have z37 := L.z37; have v37 := L.v37; have u37 := run_underlying L.t37
  have t127 := L.t127; have a127 := L.a127; have z127 := L.z127; have v127 := L.v127; have u127 := run_underlying L.t127
  have t3 := L.t3; have a3 := L.a3; have z3 := L.z3; have v3 := L.v3; have u3 := run_underlying L.t3
  have t9 := L.t9; have a9 := L.a9; have z9 := L.z9; have v9 := L.v9; have u9 := run_underlying L.t9
  have t5 := X.t5; have a5 := X.a5; have z5 := X.z5; have v5 := X.v5; have u5 := run_underlying X.t5
  go_enter L.f169, Body.n169_ntmps ρ
  go_wp2
  go_region_o
  all_goals (go_wp2; go_ret; exact ⟨rfl, rfl⟩)
set_option maxHeartbeats 2000000 in
set_option maxRecDepth 100000 in
theorem bldString_none (L : Lays.n169 P ρ) (X : Builder.Extra P ρ) (b : Nat) (p : Value) (T : TypeId) (fz : Nat × Nat) (w : World) (hbk : w.heap[b]? = some (.cells #[p, .slice none 0 0] T fz)) :
    Calls P (ρ.f 169) #[.pointer (some ⟨b, 0, none⟩)] w fun e w' => e = .returned (.string ⟨#[]⟩) ∧ w' = w.drew := by
  have hUS := Any.unsafeString_none L X
  have c1 : w.drew.cell? ⟨b, 1, none⟩ = some (.slice none 0 0) := by
    have : w.drew.heap[b]? = some (.cells #[p, .slice none 0 0] T fz) := hbk
    rw [Lib.cell_of_heap this]; rfl
  have hSD : (Builtin.unsafeSliceData_ #[(ρ.t 37)] (ρ.t 127) #[.slice none 0 0]).run P w.drew = .ok (.pointer none) w.drew := rfl
  have mixed := L.mixed
  have t72 := L.t72; have a72 := L.a72; have z72 := L.z72; have v72 := L.v72; have u72 := run_underlying L.t72
  have t70 := L.t70; have a70 := L.a70; have z70 := L.z70; have v70 := L.v70; have u70 := run_underlying L.t70
  have t37 := L.t37; have a37 := L.a37; have z37 := L.z37; have v37 := L.v37; have u37 := run_underlying L.t37
  have t127 := L.t127; have a127 := L.a127; have z127 := L.z127; have v127 := L.v127; have u127 := run_underlying L.t127
  have t3 := L.t3; have a3 := L.a3; have z3 := L.z3; have v3 := L.v3; have u3 := run_underlying L.t3
  have t9 := L.t9; have a9 := L.a9; have z9 := L.z9; have v9 := L.v9; have u9 := run_underlying L.t9
  have t5 := X.t5; have a5 := X.a5; have z5 := X.z5; have v5 := X.v5; have u5 := run_underlying X.t5
  go_enter L.f169, Body.n169_ntmps ρ
  go_wp2
  go_region_o
  all_goals (go_wp2; go_ret; exact ⟨rfl, rfl⟩)
theorem bldString_full (L : Lays.n169 P ρ) (X : Builder.Extra P ρ) {σ : Heap} {k g : Nat} {T : TypeId} {p : AVal} {l : List UInt8} (h0 : l ≠ []) (hm : l.length ≤ maxRoom) (hg : σ.get k = some (.tcells T [p, .slc (.new g) 0 l.length (.gr 1)]))
    (hb : σ.get g = some (.cells (byteCells l) (some (ρ.t 5)))) : AFun P (ρ.f 169) [.ptr (.new k) 0] σ (.str l) (σ.set g .dead) := by
  intro φ w vs hvs hr
  cases hvs with
  | cons hv hvs =>
  cases hvs
  cases hv with
  | @ptr _ b _ hbk =>
  simp only [Id.real, Option.map_eq_some_iff] at hbk
  obtain ⟨⟨b', sz⟩, hk, rfl⟩ := hbk
  obtain ⟨cs', fz, ho, h1, h2, h3⟩ := hr.blockT hk hg
  obtain ⟨v0, hv0, hr0⟩ := h2.get 0 _ rfl
  obtain ⟨v1, hv1, hr1⟩ := h2.get 1 _ rfl
  have hl := h2.length
  simp only [Array.length_toList, List.length_cons, List.length_nil] at hl
  have hcs : cs' = #[v0, v1] := by
    apply Array.ext'
    cases hcl : cs'.toList with
    | nil => rw [hcl] at hv0; simp at hv0
    | cons x l =>
      cases l with
      | nil => rw [hcl] at hv1; simp at hv1
      | cons y l =>
        cases l with
        | nil => rw [hcl] at hv0 hv1; simp at hv0 hv1; simp [hv0, hv1]
        | cons z l => have := congrArg List.length hcl; simp at this; omega
  cases hr1 with
  | @slcG _ g' sz' _ _ _ c hφ hsz hlc =>
  obtain ⟨cur, T', fz', hog, q1, q2, _, qT, q4, q5⟩ := hr.block hφ hb
  have hT := qT _ rfl
  have hbl : (byteCells l).length = l.length := by simp [byteCells]
  rw [hbl] at q4
  subst hcs
  refine (bldString_run L X b' g' c v0 l cur T fz fz' w h0 ho (by rw [hT]; exact hog) (by omega) hlc (by unfold maxRoom at hm; unfold maxLen; omega) (byteCells_eq q4)).mono ?_
  rintro e w' ⟨rfl, rfl⟩
  obtain ⟨o, f1, f2⟩ := heap_freeze hog l.length
  refine ⟨_, φ, rfl, φ.le_refl, .str l, hr.spoil hφ hb (by intro h; cases h) f1 f2 ?_ ?_ ?_ ?_⟩
  all_goals (unfold World.freeze; split <;> first | rfl | exact Nat.le_succ _)
theorem bldString_nil (L : Lays.n169 P ρ) (X : Builder.Extra P ρ) {σ : Heap} {k : Nat} {T : TypeId} {p : AVal} (hg : σ.get k = some (.tcells T [p, .nils])) : AFun P (ρ.f 169) [.ptr (.new k) 0] σ (.str []) σ := by
  intro φ w vs hvs hr
  cases hvs with
  | cons hv hvs =>
  cases hvs
  cases hv with
  | @ptr _ b _ hbk =>
  simp only [Id.real, Option.map_eq_some_iff] at hbk
  obtain ⟨⟨b', sz⟩, hk, rfl⟩ := hbk
  obtain ⟨cs', fz, ho, h1, h2, h3⟩ := hr.blockT hk hg
  obtain ⟨v0, hv0, hr0⟩ := h2.get 0 _ rfl
  obtain ⟨v1, hv1, hr1⟩ := h2.get 1 _ rfl
  have hl := h2.length
  simp only [Array.length_toList, List.length_cons, List.length_nil] at hl
  have hcs : cs' = #[v0, v1] := by
    apply Array.ext'
    cases hcl : cs'.toList with
    | nil => rw [hcl] at hv0; simp at hv0
    | cons x l =>
      cases l with
      | nil => rw [hcl] at hv1; simp at hv1
      | cons y l =>
        cases l with
        | nil => rw [hcl] at hv0 hv1; simp at hv0 hv1; simp [hv0, hv1]
        | cons z l => have := congrArg List.length hcl; simp at this; omega
  cases hr1
  subst hcs
  refine (bldString_none L X b' v0 T fz w ho).mono ?_
  rintro e w' ⟨rfl, rfl⟩
  exact ⟨_, φ, rfl, φ.le_refl, .str [], hr.drew⟩
end
end Go.Mini
set_option linter.unusedVariables false
set_option linter.unusedSimpArgs false
namespace Go.Mini
open Go Go.Shelf Go.Proofs Go.RowKit Go.Maps Go.Sort
open Go.WideElems (Fit rd rg)

/-- what lay below is as it was -/
theorem Rel.below_w {φ : Phi} {σ : Heap} {w w' : World} (hr : Rel φ σ w) (hd : σ.F0.dr = false) (hb : Below w.heap.size w w') : Rel φ σ w' where
  size := Nat.le_trans hr.size hb.size
  old := fun b h => by rw [hb.block b (Nat.lt_of_lt_of_le h hr.size)]; exact hr.old b h
  new := fun k b sz e => by
    obtain ⟨h1, o, h2, h3⟩ := hr.new k b sz e
    exact ⟨h1, o, by rw [hb.block b (hr.lt e)]; exact h2, h3⟩
  inj := hr.inj
  fresh := hr.fresh
  resv := hr.resv
  tape := hb.tape.trans hr.tape
  os := hb.os.trans hr.os
  output := hb.output.trans hr.output
  frz := fun b j v e => by
    have h := hr.frz b j v e
    have hlt := World.block_lt_of_cell? w ⟨b, j, none⟩ h
    simp only [World.cell?] at h ⊢
    rw [hb.block b hlt]; exact h
  apart := hr.apart
  base := hr.base
  drawn := fun h => by rw [hd] at h; cases h
/-- a block that lies above all that is known gets an id -/
theorem Rel.adopt {φ : Phi} {σ : Heap} {w w' : World} (hr : Rel φ σ w) (hd : σ.F0.dr = false) (hb : Below w.heap.size w w') {g sz : Nat} {o : Obj} {blk : ABlk} (hg : w.heap.size ≤ g) (ho : w'.heap[g]? = some o)
    (hB : BRel (φ.put σ.next (g, sz)) sz blk o) : φ.le (φ.put σ.next (g, sz)) ∧ Rel (φ.put σ.next (g, sz)) (σ.new blk) w' := by
  have hr' := hr.below_w hd hb
  have hnone := hr.fresh σ.next (Nat.le_refl _)
  have hle := Phi.le_put (g, sz) hnone
  have hput : ∀ k x, (φ.put σ.next (g, sz)) k = some x → (k = σ.next ∧ x = (g, sz)) ∨ (k ≠ σ.next ∧ φ k = some x) := by
    intro k x e
    by_cases hk : k = σ.next
    · subst hk; rw [Phi.put_same] at e; cases e; exact .inl ⟨rfl, rfl⟩
    · rw [Phi.put_other _ _ hk] at e; exact .inr ⟨hk, e⟩
  have live : ∀ j, j ≠ σ.next → (σ.new blk).live j → σ.live j := by
    intro j hj ⟨x, hx, hd⟩
    rw [Heap.get_new, if_neg (fun h => hj h.symm)] at hx
    exact ⟨x, hx, hd⟩
  refine ⟨hle, ?_⟩
  constructor
  · exact hr'.size
  · exact hr'.old
  · intro k b sz' e
    rcases hput k _ e with ⟨rfl, hx⟩ | ⟨hk, hx⟩
    · cases hx
      refine ⟨Nat.le_trans hr.size hg, o, ho, ?_⟩
      intro x hx
      rw [Heap.get_new, if_pos rfl] at hx
      cases hx; exact hB
    · obtain ⟨h1, o', ho', h2⟩ := hr'.new k b sz' hx
      refine ⟨h1, o', ho', ?_⟩
      intro x hx
      rw [Heap.get_new, if_neg (fun h => hk h.symm)] at hx
      exact (h2 x hx).mono hle
  · intro k k' b s1 s2 e e' hl hl'
    rcases hput k _ e with ⟨hk, hx⟩ | ⟨hk, hx⟩ <;> rcases hput k' _ e' with ⟨hk', hx'⟩ | ⟨hk', hx'⟩
    · rw [hk, hk']
    · cases hx; have := hr.lt hx'; omega
    · cases hx'; have := hr.lt hx; omega
    · exact hr'.inj k k' b s1 s2 hx hx' (live k hk hl) (live k' hk' hl')
  · intro k h
    simp only [Heap.new_next] at h
    rw [Phi.put_other _ _ (by omega)]; exact hr'.fresh k (by omega)
  · intro k h
    have := hr'.resv k h
    rw [Phi.put_other _ _ (by omega)]
    exact ⟨this.1, by simp only [Heap.new_next]; omega⟩
  · exact hr'.tape
  · exact hr'.os
  · exact hr'.output
  · exact hr'.frz
  · intro k b s1 j e hl
    rcases hput k _ e with ⟨hk, hx⟩ | ⟨hk, hx⟩
    · cases hx
      show φ.F _ _ = none
      cases hF : φ.F g j with
      | none => rfl
      | some v => have := World.block_lt_of_cell? w ⟨g, j, none⟩ (hr.frz _ _ _ hF); simp only at this; omega
    · exact hr'.apart k b s1 j hx (live k hk hl)
  · exact hr'.base
  · exact hr'.drawn

section
variable {P : Program} {ρ : Ren}
/-- maps.Clone -/
theorem clone_afun (L : SlLaysW.n5 P ρ) {σ : Heap} {m : Nat} {es : List (Int × AVal)} (hm : σ.get m = some (.map es)) : AFun P (ρ.f 5) [.mp (.new m)] σ (.mp (.new σ.next)) (σ.new (.map es)) := by
  intro φ w vs hvs hr
  cases hvs with
  | cons hv hvs =>
  cases hvs
  cases hv with
  | @mp _ b hb =>
  simp only [Id.real, Option.map_eq_some_iff] at hb
  obtain ⟨⟨b', sz⟩, hk, rfl⟩ := hb
  obtain ⟨es', clock, ho, hrel, hst⟩ := mapBlock hr hk hm
  refine (AnyW.maps_Clone L b' es' clock w ho).mono ?_
  rintro e w' ⟨rfl, rfl⟩
  have hle := Phi.le_put (w.heap.size, 0) (hr.fresh σ.next (Nat.le_refl _))
  obtain ⟨h1, h2⟩ := hr.alloc (blk := .map es) (o := .map es' clock) (sz := 0) (.map ⟨hrel.1, hrel.2.imp fun _ h => ⟨h.1, h.2.mono hle⟩⟩ hst)
  exact ⟨_, _, rfl, h1, .mp (by simp [Id.real, Phi.put_same]), h2⟩
theorem clone_nil (L : SlLaysW.n5 P ρ) (σ : Heap) : AFun P (ρ.f 5) [.nilm] σ .nilm σ := by
  intro φ w vs hvs hr
  cases hvs with
  | cons hv hvs =>
  cases hvs
  cases hv
  refine (AnyW.maps_Clone_nil L w).mono ?_
  rintro e w' ⟨rfl, rfl⟩
  exact ⟨_, φ, rfl, φ.le_refl, .nilm, hr⟩
end

/-- what an entry's element reads as plays no part -/
def noRead : Value → Option (DataW Unit × List MemPlace) := fun _ => some (.nil, [])
theorem entKeys {φ : Phi} {es0 : List (Int × AVal)} {es' : List MapEntry} (h : EntRel φ es0 es') : es'.map (·.key) = es0.map fun p => Value.int .i64 p.1 := by
  induction h with
  | nil => rfl
  | cons h1 _ _ ih => simp only [List.map_cons, h1, ih]
theorem rg_key {P : Program} {k : TypeId} (hk : P.underlying k = some (.int .i64)) {x : MapEntry} {n : Int} (hx : x.key = .int .i64 n) (hw : (Lit.int .i64 n).wf = true) : rd P k noRead x = some (.int .i64 n, .nil) := by
  have : keyOf P k (.int .i64 n) = some (.int .i64 n) := by simp [keyOf, hk, mapKey, hw]
  simp [rd, hx, this, noRead]
theorem map_owned {P : Program} {k : TypeId} (hk : P.underlying k = some (.int .i64)) {φ : Phi} {w : World} {b : Nat} {es : List (Int × AVal)} {es' : Array MapEntry} {clock : Nat} (ho : w.heap[b]? = some (.map es' clock))
    (hrel : MapRel φ es es'.toList) (hst : MapKept.Stamped es' clock) (hw : ∀ p ∈ es, (Lit.int .i64 p.1).wf = true) (hsz : es.length ≤ maxLen) :
    ∃ D : DataW Unit, w.ownsMap P k noRead b es.length D ∧ Maps.size D = es.length ∧ (intKeys D).Perm (es.map (·.1)) := by
  obtain ⟨hsort, es0, hperm, hent⟩ := hrel
  have hkeys := entKeys hent
  have hlen : es'.size = es.length := by
    have := congrArg List.length hkeys
    simp only [List.length_map, Array.length_toList] at this
    rw [this]; exact hperm.length_eq
  have hread : ∀ x ∈ es'.toList, ∃ n : Int, x.key = .int .i64 n ∧ (Lit.int .i64 n).wf = true := by
    intro x hx
    obtain ⟨z, hz, e⟩ := EntRel.keys hent x hx
    exact ⟨z.1, e, hw z (hperm.mem_iff.1 hz)⟩
  have hrg : es'.toList.map (rg P k noRead) = es0.map fun p => (Lit.int .i64 p.1, DataW.nil) := by
    have : es'.toList.map (rg P k noRead) = (es'.toList.map (·.key)).map fun v => (match v with | .int .i64 n => Lit.int .i64 n | _ => Lit.bool false, DataW.nil) := by
      rw [List.map_map]
      apply List.map_congr_left
      intro x hx
      obtain ⟨n, e, hwf⟩ := hread x hx
      simp only [Function.comp, rg, rg_key hk e hwf, Option.getD_some, e]
    rw [this, hkeys, List.map_map]
    rfl
  refine ⟨_, ⟨es', clock, ho, ⟨by rw [hlen]; exact hsz, hst, fun x hx => ?_⟩, by omega, rfl⟩, ?_, ?_⟩
  · obtain ⟨n, e, hwf⟩ := hread x hx
    exact ⟨_, rg_key hk e hwf⟩
  · show ((es'.toList.map (rg P k noRead)).foldr DataW.insert []).length = _
    rw [(Go.WideShapes.sorted_perm _).length_eq, List.length_map, Array.length_toList, hlen]
  · show (((es'.toList.map (rg P k noRead)).foldr DataW.insert []).map fun p => intOf p.1).Perm _
    refine ((Go.WideShapes.sorted_perm _).map _).trans ?_
    rw [hrg, List.map_map]
    exact hperm.map _
theorem sorted_keys : ∀ {es : List (Int × AVal)}, es.Pairwise (fun x y => x.1 < y.1) → (es.map (·.1)).mergeSort leI = es.map (·.1) := by
  intro es h
  refine List.mergeSort_of_pairwise ?_
  rw [List.pairwise_map]
  exact h.imp fun h => by simp only [leI, decide_eq_true_eq]; omega

def keyCells (es : List (Int × AVal)) : List AVal := es.map fun p => .int .i64 p.1
theorem keyCells_VRs (φ : Phi) : ∀ es : List (Int × AVal), VRs φ (keyCells es) ((es.map (·.1)).map encZ)
  | [] => .nil
  | p :: es => .cons (.int _ _) (keyCells_VRs φ es)
/-- slices.Sorted(maps.Keys(m)) -/
theorem sorted_afun {P : Program} {ρk ρs : Ren} (K : SlLaysZI.n10 P ρk) (S : SlLaysZI.n6 P ρs) (hsort : ∀ m, AnyZI.SortsIn P ρs Fence.wide m) (e9 : ∀ args w, (callFunc (ρs.f 9) args).run P w = .ok (.enter (ρs.f 9) args) w)
    (eg : ∀ args w, (callFunc (ρk.f 10) args).run P w = .ok (.enter (ρk.f 10) args) w) (hk : P.underlying (ρk.t 26) = some (.int .i64)) {σ : Heap} {q m : Nat} {opn : Option TypeId} {es : List (Int × AVal)}
    (hq : σ.get q = some (.cells [.mp (.new m)] opn)) (hm : σ.get m = some (.map es)) (hw : ∀ p ∈ es, (Lit.int .i64 p.1).wf = true) (hsz : es.length ≤ 1000000) (hd : σ.F0.dr = false) :
    AFun P (ρs.f 6) [.fn (ρk.f 10) [.ptr (.new q) 0]] σ (if es = [] then .nils else .slc (.new σ.next) 0 es.length (.gr 1)) (if es = [] then σ else σ.new (.cells (keyCells es) (some (ρs.t 26)))) := by
  intro φ w vs hvs hr
  cases hvs with
  | cons hv hvs =>
  cases hvs
  cases hv with
  | @fn _ _ caps hcap =>
  cases hcap with
  | cons hp hcap =>
  cases hcap
  cases hp with
  | @ptr _ bq _ hbq =>
  simp only [Id.real, Option.map_eq_some_iff] at hbq
  obtain ⟨⟨bq', szq⟩, hqk, rfl⟩ := hbq
  obtain ⟨v0, hv0, hr0⟩ := hr.cell (i := .new q) (off := 0) (b := bq') (a := .mp (.new m)) (by simp [Heap.cell, hq]) (by simp [Id.real, hqk])
  cases hr0 with
  | @mp _ bm hbm =>
  simp only [Id.real, Option.map_eq_some_iff] at hbm
  obtain ⟨⟨bm', szm⟩, hmk, rfl⟩ := hbm
  obtain ⟨es', clock, ho, hrel, hst⟩ := mapBlock hr hmk hm
  obtain ⟨D, hown, hsize, hperm⟩ := map_owned hk ho hrel hst hw (by unfold maxLen; omega)
  have hlt : bq' < w.heap.size := hr.lt hqk
  have hseq : SeqGives Fence.wide 2 P (ρk.f 10) #[.pointer (some ⟨bq', 0, none⟩)] encZ (fun ss => ss.Perm (intKeys D)) (Maps.size D) w :=
    AnyZI.keys_gives (ρ := ρk) K Fence.wide 2 trivial rfl (by omega) bq' bm' es.length D w hlt hv0 hown
  have cS := AnyZI.sorted_in S Fence.wide 5 trivial trivial trivial trivial rfl (by omega) (hsort _) e9 (ρk.f 10) #[.pointer (some ⟨bq', 0, none⟩)] trivial eg _ _ (by rw [hsize]; unfold maxLen; omega) (by rw [hsize]; omega) w hseq
  refine ((callsIn_wide (n := 5)).1 cS).mono ?_
  rintro e w' ⟨v, ss, rfl, hS, hrow, hnil, hbel⟩
  have hss : ss.mergeSort leI = es.map (·.1) := by
    rw [mergeSort_of_perm_i (hS.trans hperm), sorted_keys hrel.1]
  have hlen : ss.length = es.length := by
    have := (hS.trans hperm).length_eq
    simpa using this
  by_cases h0 : es = []
  · simp only [h0, if_true]
    have : ss = [] := List.eq_nil_of_length_eq_zero (by rw [hlen, h0]; rfl)
    rw [hnil.2 this]
    exact ⟨_, φ, rfl, φ.le_refl, .nils, hr.below_w hd hbel⟩
  · simp only [h0, if_false]
    rcases hrow.2 with ⟨hv, hz⟩ | ⟨g, cap, cur, rfl, hbase, hg, r1, r2, r3, r4⟩
    · exact absurd (List.eq_nil_of_length_eq_zero (hlen ▸ hz)) h0
    · have hkc : (keyCells es).length = es.length := by simp [keyCells]
      obtain ⟨h1, h2⟩ := hr.adopt hd hbel (sz := cap) (blk := .cells (keyCells es) (some (ρs.t 26))) hbase hg (by
        refine .cells (by simpa using r3) (by rw [hkc, ← hlen]; exact r1) (by intro h; cases h) (by intro T' h; cases h; rfl) ?_ (by intro off _; simp)
        have e : cur.toList.take (ss.length * 1) = (ss.mergeSort leI).map encZ := r4
        rw [Nat.mul_one, hlen, hss] at e
        rw [hkc, e]
        exact keyCells_VRs _ es)
      rw [hlen]
      exact ⟨_, _, rfl, h1, .slcG 0 es.length cap (Phi.put_same ..) (by omega) (by rw [← hlen]; exact r1), h2⟩
end Go.Mini
set_option linter.unusedVariables false
namespace Go.Mini
open Go
/-! ### What a frame holds, seen in another way on the way -/
section
variable {P : Program} {n : Nat}
/-- a frame and a heap seen as others -/
def FSees (n : Nat) (fr : Frame) (σ : Heap) (fr' : Frame) (σ' : Heap) : Prop :=
  ∀ (φ : Phi) (a : Act) (w : World), FR φ n fr a → Rel φ σ w → ∃ φ' : Phi, φ.le φ' ∧ FR φ' n fr' a ∧ Rel φ' σ' w
theorem FSees.refl (fr : Frame) (σ : Heap) : FSees n fr σ fr σ := fun φ a w hf hr => ⟨φ, φ.le_refl, hf, hr⟩
theorem FSees.trans {fr fr' fr'' : Frame} {σ σ' σ'' : Heap} (h : FSees n fr σ fr' σ') (h' : FSees n fr' σ' fr'' σ'') : FSees n fr σ fr'' σ'' := fun φ a w hf hr => by
  obtain ⟨φ1, h1, hf1, hr1⟩ := h φ a w hf hr
  obtain ⟨φ2, h2, hf2, hr2⟩ := h' φ1 a w hf1 hr1
  exact ⟨φ2, Phi.le_trans h1 h2, hf2, hr2⟩
theorem FSees.reg {fr : Frame} {σ τ : Heap} {t : Nat} {u v : AVal} (ht : t < n) (hu : fr.get t = u) (hs : Sees σ u τ v) : FSees n fr σ (fr.put t v) τ := by
  intro φ a w hf hr
  have h1 := hf.tmps t ht
  rw [hu] at h1
  obtain ⟨φ', h2, h3, h4⟩ := hs φ w _ h1 hr
  refine ⟨φ', h2, ⟨hf.size, fun s hs => ?_, hf.defers⟩, h4⟩
  rw [Frame.get_put]
  by_cases e : t = s
  · subst e; rw [if_pos rfl]; exact h3
  · rw [if_neg e]; exact (hf.tmps s hs).mono h2
/-- an exact outcome of a code, in all worlds -/
def XOut (P : Program) (n : Nat) (sc : SCode) (fr : Frame) (σ : Heap) (e : SExit) (fr' : Frame) (σ' : Heap) : Prop :=
  ∀ (c : Code) (R : Exit → Act → World → Prop) (φ : Phi) (a : Act) (w : World), cCode P n c = some sc → FR φ n fr a → Rel φ σ w →
    (∀ (φ' : Phi) e' a' w', φ.le φ' → ExitR e e' → FR φ' n fr' a' → Rel φ' σ' w' → R e' a' w') → c.wp P R a w
def Xwp (P : Program) (n : Nat) (sc : SCode) (Q : SExit → Frame → Heap → Prop) (fr : Frame) (σ : Heap) : Prop := ∃ e fr' σ', Q e fr' σ' ∧ XOut P n sc fr σ e fr' σ'
theorem x_of_awp (hm : P.follows .mixedOrders = true) {sc : SCode} {Q : SExit → Frame → Heap → Prop} {fr : Frame} {σ : Heap} (h : awp P sc Q fr σ) : Xwp P n sc Q fr σ := by
  obtain ⟨e, fr', σ', hq, ho⟩ := awp_out sc Q fr σ h
  refine ⟨e, fr', σ', hq, fun c R φ a w hc hf hr hR => ?_⟩
  refine awp_sound hm c sc (fun e1 f1 s1 => e1 = e ∧ f1 = fr' ∧ s1 = σ') R φ fr σ a w hc (ho _ ⟨rfl, rfl, rfl⟩) hf hr ?_
  rintro φ' f1 s1 e1 e' a' w' h1 h2 h3 h4 ⟨rfl, rfl, rfl⟩
  exact hR φ' e' a' w' h1 h2 h3 h4
theorem x_freeze {sc : SCode} {Q : SExit → Frame → Heap → Prop} {fr fr1 : Frame} {σ σ1 : Heap} (hs : FSees n fr σ fr1 σ1) (h : Xwp P n sc Q fr1 σ1) : Xwp P n sc Q fr σ := by
  obtain ⟨e, fr', σ', hq, ho⟩ := h
  refine ⟨e, fr', σ', hq, fun c R φ a w hc hf hr hR => ?_⟩
  obtain ⟨φ1, h1, hf1, hr1⟩ := hs φ a w hf hr
  exact ho c R φ1 a w hc hf1 hr1 fun φ' e' a' w' g1 g2 g3 g4 => hR φ' e' a' w' (Phi.le_trans h1 g1) g2 g3 g4
theorem x_seq0 {sa sb : SCode} {fr fr1 : Frame} {σ σ1 : Heap} (h1 : XOut P n sa fr σ .normal fr1 σ1) {e : SExit} {fr2 : Frame} {σ2 : Heap} (h2 : XOut P n sb fr1 σ1 e fr2 σ2) : XOut P n (.seq sa sb) fr σ e fr2 σ2 := by
  intro c
  induction c with
  | seq ca cb _ _ =>
    intro R φ a w hc hf hr hR
    simp only [cCode] at hc
    split at hc
    · rename_i x y hx hy
      cases hc
      refine wp_seq (h1 ca _ φ a w hx hf hr ?_)
      intro φ' e' a' w' g1 g2 g3 g4
      cases g2
      exact h2 cb R φ' a' w' hy g3 g4 fun φ2 e2 a2 w2 k1 k2 k3 k4 => hR φ2 e2 a2 w2 (Phi.le_trans g1 k1) k2 k3 k4
    · cases hc
  | scope c ih =>
    intro R φ a w hc hf hr hR
    simp only [cCode] at hc
    refine wp_scope_plain (ih _ φ a w hc hf hr ?_)
    intro φ' e' a' w' g1 g2 g3 g4
    exact ⟨hR φ' e' a' w' g1 g2 g3 g4, by cases g2 <;> intro l hl <;> cases hl⟩
  | region id ops draw =>
    intro R φ a w hc
    simp only [cCode] at hc
    split at hc
    · split at hc
      · split at hc
        · cases hc
        · split at hc <;> cases hc
      · cases hc
    · cases hc
  | cond x y z _ _ => intro R φ a w hc; simp only [cCode] at hc; split at hc <;> cases hc
  | block id c _ => intro R φ a w hc; simp only [cCode, Option.map_eq_some_iff] at hc; obtain ⟨_, _, hc⟩ := hc; cases hc
  | loop c _ => intro R φ a w hc; simp only [cCode, Option.map_eq_some_iff] at hc; obtain ⟨_, _, hc⟩ := hc; cases hc
  | _ => intro R φ a w hc; simp only [cCode] at hc; cases hc
theorem x_seq1 {sa sb : SCode} {fr fr1 : Frame} {σ σ1 : Heap} {e : SExit} (he : e ≠ .normal) (h1 : XOut P n sa fr σ e fr1 σ1) : XOut P n (.seq sa sb) fr σ e fr1 σ1 := by
  intro c
  induction c with
  | seq ca cb _ _ =>
    intro R φ a w hc hf hr hR
    simp only [cCode] at hc
    split at hc
    · rename_i x y hx hy
      cases hc
      refine wp_seq (h1 ca _ φ a w hx hf hr ?_)
      intro φ' e' a' w' g1 g2 g3 g4
      have := hR φ' e' a' w' g1 g2 g3 g4
      cases g2 with
      | normal => exact absurd rfl he
      | exit id => exact this
      | ret => exact this
    · cases hc
  | scope c ih =>
    intro R φ a w hc hf hr hR
    simp only [cCode] at hc
    refine wp_scope_plain (ih _ φ a w hc hf hr ?_)
    intro φ' e' a' w' g1 g2 g3 g4
    exact ⟨hR φ' e' a' w' g1 g2 g3 g4, by cases g2 <;> intro l hl <;> cases hl⟩
  | region id ops draw =>
    intro R φ a w hc
    simp only [cCode] at hc
    split at hc
    · split at hc
      · split at hc
        · cases hc
        · split at hc <;> cases hc
      · cases hc
    · cases hc
  | cond x y z _ _ => intro R φ a w hc; simp only [cCode] at hc; split at hc <;> cases hc
  | block id c _ => intro R φ a w hc; simp only [cCode, Option.map_eq_some_iff] at hc; obtain ⟨_, _, hc⟩ := hc; cases hc
  | loop c _ => intro R φ a w hc; simp only [cCode, Option.map_eq_some_iff] at hc; obtain ⟨_, _, hc⟩ := hc; cases hc
  | _ => intro R φ a w hc; simp only [cCode] at hc; cases hc
/-- the first part by itself; what comes behind it in this wider sense -/
theorem x_seq (hm : P.follows .mixedOrders = true) {sa sb : SCode} {Q : SExit → Frame → Heap → Prop} {fr : Frame} {σ : Heap} (h : awp P sa (thn (Xwp P n sb Q) Q) fr σ) : Xwp P n (.seq sa sb) Q fr σ := by
  obtain ⟨e, fr1, σ1, hq, ho⟩ := x_of_awp (n := n) hm h
  cases e with
  | normal =>
    obtain ⟨e2, fr2, σ2, hq2, ho2⟩ := hq
    exact ⟨e2, fr2, σ2, hq2, x_seq0 ho ho2⟩
  | exit id => exact ⟨_, fr1, σ1, hq, x_seq1 (by intro h; cases h) ho⟩
  | ret => exact ⟨_, fr1, σ1, hq, x_seq1 (by intro h; cases h) ho⟩
theorem afun_of_xwp {f : FuncId} {sf : SFunc} (hc : cFunc P f = some sf) {args : List AVal} {σ σ' : Heap} {v : AVal} (hlen : args.length ≤ sf.ntmps)
    (h : Xwp P sf.ntmps sf.body (fun e fr σ1 => ends e = true ∧ resOf sf.results fr σ1 = some v ∧ σ1 = σ') (Frame.ofArgs 0 args) σ) : AFun P f args σ v σ' ∧ ∃ fn, P.funcs[f]? = some fn ∧ fn.body.isSome = true ∧ (fn.name == "runtime.NumGoroutine") = false := by
  unfold cFunc at hc
  split at hc
  · rename_i fn hfn
    split at hc
    · rename_i c hcb
      split at hc
      · rename_i b r hb hres
        split at hc
        · cases hc
        · rename_i hname
          cases hc
          refine ⟨?_, fn, hfn, by rw [hcb]; rfl, by simpa using hname⟩
          refine afun_of_wp hfn hcb hres hlen ?_
          intro φ a w hf hr
          obtain ⟨e, fr', σ1, ⟨g1, g2, g3⟩, ho⟩ := h
          subst g3
          refine ho c _ φ a w hb hf hr ?_
          intro φ' e' a' w' k1 k2 k3 k4
          refine ⟨?_, φ', fr', k1, k3, k4, g2⟩
          cases k2 with
          | normal => exact .inl rfl
          | ret => exact .inr rfl
          | exit id => simp [ends] at g1
      · cases hc
    · cases hc
  · cases hc
theorem spec_of_xwp {f : FuncId} {sf : SFunc} (hc : cFunc P f = some sf) {args : List AVal} {σ : Heap} {R : AVal → Heap → Prop} (hlen : args.length ≤ sf.ntmps)
    (h : Xwp P sf.ntmps sf.body (fun e fr σ1 => ends e = true ∧ ∃ v, resOf sf.results fr σ1 = some v ∧ R v σ1) (Frame.ofArgs 0 args) σ) : MSpec P f args σ R := by
  obtain ⟨e, fr', σ', ⟨g1, v, g2, g3⟩, ho⟩ := h
  obtain ⟨h1, h2⟩ := afun_of_xwp (σ' := σ') (v := v) hc hlen ⟨e, fr', σ', ⟨g1, g2, rfl⟩, ho⟩
  exact ⟨v, σ', acall_of_afun h1 h2, g3⟩
theorem fspec_of_xwp {f : FuncId} {sf : SFunc} (hc : cFunc P f = some sf) {args : List AVal} {σ : Heap} {R : AVal → Heap → Prop} (hlen : args.length ≤ sf.ntmps)
    (h : Xwp P sf.ntmps sf.body (fun e fr σ1 => ends e = true ∧ ∃ v, resOf sf.results fr σ1 = some v ∧ R v σ1) (Frame.ofArgs 0 args) σ) : FSpec P f args σ R := by
  obtain ⟨e, fr', σ', ⟨g1, v, g2, g3⟩, ho⟩ := h
  exact ⟨v, σ', (afun_of_xwp (σ' := σ') (v := v) hc hlen ⟨e, fr', σ', ⟨g1, g2, rfl⟩, ho⟩).1, g3⟩
end
end Go.Mini
