/- A part of the seat's proofs over the abstract machine. No condition. -/
import Derived.Test.YtaakajfmbjjigaaR11
import Derived.Test.YtaakajfmbjjigaaMF
set_option linter.unusedSimpArgs false
set_option linter.unusedVariables false
set_option maxRecDepth 100000
namespace Go.Proofs.Ytaakajfmbjjigaa.M
open Go Go.Mini
attribute [local congr] go1_congr goM_congr goG_congr goV_congr drawwp_congr
theorem and_one (x : Int) : bitOp .and .u16 x 1 = 0 ∨ bitOp .and .u16 x 1 = 1 := by
  have h : (BitVec.ofInt (IntKind.bits .u16) x &&& BitVec.ofInt (IntKind.bits .u16) 1).toNat ≤ 1 := by
    rw [BitVec.toNat_and]
    exact Nat.and_le_right
  have e : bitOp .and .u16 x 1 = IntKind.u16.wrap (((BitVec.ofInt (IntKind.bits .u16) x &&& BitVec.ofInt (IntKind.bits .u16) 1).toNat : Nat) : Int) := rfl
  rw [e]
  generalize (BitVec.ofInt (IntKind.bits .u16) x &&& BitVec.ofInt (IntKind.bits .u16) 1).toNat = y at h
  have h2 : y = 0 ∨ y = 1 := by omega
  rcases h2 with rfl | rfl
  · exact .inl (by decide)
  · exact .inr (by decide)
/-- a group's bit of a mask -/
def bit16 (m : Int) (g : Int) : Int := bitOp .and .u16 (m.fdiv (2 ^ (min g.toNat 16))) 1
theorem bit16_two (m g : Int) : bit16 m g = 0 ∨ bit16 m g = 1 := and_one _
def inM (m : Int) (g : Int) : Bool := bit16 m g == 1
theorem bit16_zero (m g : Int) : (bit16 m g == 0) = !inM m g := by
  unfold inM; rcases bit16_two m g with h | h <;> rw [h] <;> rfl
theorem wrap_u64 {x : Int} (h0 : 0 ≤ x) (h1 : x < 60) : IntKind.u64.wrap x = x := by
  have e1 : (2 : Int) ^ 64 = 18446744073709551616 := by decide
  simp only [IntKind.wrap, IntKind.bits, IntKind.signed, Bool.false_and, e1]
  simp; omega
theorem take_filter {l : List Int} {i : Nat} (p : Int → Bool) (h : i < l.length) : (l.take (i + 1)).filter p = (l.take i).filter p ++ (if p l[i] then [l[i]] else []) := by
  rw [List.take_succ_eq_append_getElem h, List.filter_append]
  congr 1
  simp only [List.filter_cons, List.filter_nil]
theorem Own.sees2 {B k : Nat} {e : TypeId} {σ : Heap} {x : AVal} {els : List AVal} (h : Own B σ e k x els) : ∃ τ, Sees σ x τ (.fsl k els) ∧ (τ = σ ∨ ∃ K, x = .slc (.new K) 0 els.length (.gr k) ∧ τ = σ.set K .dead ∧ B ≤ K) := by
  rcases h.2 with ⟨rfl, rfl⟩ | ⟨K, rfl, hg, hBK, hKn⟩
  · exact ⟨σ, Sees.nils σ k, .inl rfl⟩
  · refine ⟨σ.set K .dead, Sees.own hg rfl h.1 ?_ (fun c hc => by cases hc), .inr ⟨K, rfl, rfl, hBK⟩⟩
    rw [List.drop_zero, List.take_of_length_le (by rw [flat_len h.1]; omega)]
theorem Own.move {B k : Nat} {e : TypeId} {σ τ : Heap} {x : AVal} {els : List AVal} (h : Own B σ e k x els) (hn : σ.next ≤ τ.next) (hg : ∀ K o n c, x = .slc (.new K) o n c → τ.get K = σ.get K) : Own B τ e k x els := by
  refine ⟨h.1, ?_⟩
  rcases h.2 with h2 | ⟨K, h1, h2, h3, h4⟩
  · exact .inl h2
  · exact .inr ⟨K, h1, by rw [hg _ _ _ _ h1]; exact h2, h3, Nat.lt_of_lt_of_le h4 hn⟩
/-- a number put behind a row of one's own -/
theorem own_int {B : Nat} {σ : Heap} {x : AVal} {l : List Int} (h : Own B σ t_int 1 x (l.map (AVal.int .i64 ·))) (hB : B ≤ σ.next) (hl : l.length ≤ 1000000) (n : Int) :
    ∃ x' σ', aApp t_int 1 8 x (.slc (.new σ.next) 0 1 (.ex 1)) (σ.new (.cells [.int .i64 n] none)) = some (x', σ') ∧ Own B σ' t_int 1 x' ((l ++ [n]).map (AVal.int .i64 ·)) ∧ σ'.W = σ.W ∧ σ'.F0 = σ.F0 ∧ σ.next < σ'.next ∧
      (∀ q, q < σ.next → (∀ K o n c, x = .slc (.new K) o n c → q ≠ K) → σ'.get q = σ.get q) ∧ (∀ K o n c, x' = .slc (.new K) o n c → σ.next ≤ K ∨ ∃ o n c, x = .slc (.new K) o n c) := by
  have hsrc := src_one (σ := σ.new (.cells [.int .i64 n] none)) (K := σ.next) (k := 1) (cs := [.int .i64 n]) (opn := none) (z := .int .i64 n) (cap := .ex 1) (by rw [Heap.get_new, if_pos rfl]) rfl rfl
  obtain ⟨x', ρ, g1, g2, g3, g4, g5⟩ := own_app2 (bytes := 8) (h.new (.cells [.int .i64 n] none)) (Nat.le_succ_of_le hB) hsrc.1 hsrc.2 (by intro z hz; simp at hz; subst hz; rfl) rfl (by omega) (by omega) (by unfold maxRoom; simp; omega)
  refine ⟨x', ρ, g1, by rw [List.map_append]; exact g2, g3.1, g3.2.1, by have := g3.2.2.1; simp at this; omega, fun q hq hn => ?_, fun K o n' c e => ?_⟩
  · rw [g4 q (by simp; omega) hn, Heap.get_new, if_neg (by omega)]
  · rcases g5 K o n' c e with h1 | h1
    · exact .inl (Nat.le_of_succ_le h1)
    · exact .inr h1
theorem slc_one {l : List Int} {i : Nat} (h : i < l.length) : aSlc 1 (.fsl 1 (l.map (AVal.int .i64 ·))) (some (.int .i64 (i : Nat))) (some (.int .i64 ((i + 1 : Nat) : Int))) none = some (.fsl 1 ([l[i]].map (AVal.int .i64 ·))) := by
  have b1 : aBound (some (.int .i64 ((i + 1 : Nat) : Int))) (l.map (AVal.int .i64 ·)).length (l.map (AVal.int .i64 ·)).length = some (i + 1) := by
    simp only [aBound, List.length_map]; rw [if_pos (by simp; omega)]; rfl
  have b2 : aBound (some (.int .i64 (i : Nat))) 0 (i + 1) = some i := by
    simp only [aBound]; rw [if_pos (by simp; omega)]; rfl
  have b3 : aBound none (l.map (AVal.int .i64 ·)).length (l.map (AVal.int .i64 ·)).length = some (l.map (AVal.int .i64 ·)).length := rfl
  have e : ((l.map (AVal.int .i64 ·)).take (i + 1)).drop i = [AVal.int .i64 l[i]] := by
    rw [← List.map_take, ← List.map_drop, List.take_succ_eq_append_getElem h, List.drop_append_of_le_length (by simp; omega), List.drop_eq_nil_of_le (by simp; omega)]; rfl
  simp only [aSlc, b3, b1, b2, e, Option.isSome_none, Bool.false_and, Bool.false_eq_true, if_false]; rfl
end Go.Proofs.Ytaakajfmbjjigaa.M
