/- A part of the seat's proofs over the abstract machine. No condition. -/
import Derived.Test.YtaakajfmbjjigaaR14
set_option linter.unusedSimpArgs false
set_option linter.unusedVariables false
set_option maxRecDepth 100000
namespace Go.Proofs.Ytaakajfmbjjigaa.M
open Go Go.Mini
attribute [local congr] go1_congr goM_congr goG_congr goV_congr drawwp_congr Xwp_congr
/-! ### The reference's block -/
def refCells (a b : Nat) (P : Nat → Bool) (u : AVal) : List AVal := .int .i64 (a : Nat) :: .int .i64 (b : Nat) :: (bitRow 120 P ++ [u])
section
variable {a b : Nat} {P : Nat → Bool} {u : AVal}
theorem rc_len : (refCells a b P u).length = 123 := by simp [refCells, bitRow_len]
theorem rc_0 : (refCells a b P u)[0]? = some (.int .i64 (a : Nat)) := rfl
theorem rc_1 : (refCells a b P u)[1]? = some (.int .i64 (b : Nat)) := rfl
theorem rc_bit {j : Nat} (h : j < 120) : (refCells a b P u)[j + 2]? = some (.bool (P j)) := by
  simp only [refCells, List.getElem?_cons_succ]
  rw [List.getElem?_append_left (by rw [bitRow_len]; exact h), bitRow_get _ h]
theorem rc_has {j : Nat} (h : j < 60) : (refCells a b P u)[2 + j]? = some (.bool (P j)) := by rw [Nat.add_comm]; exact rc_bit (by omega)
theorem rc_gone {j : Nat} (h : j < 60) : (refCells a b P u)[62 + j]? = some (.bool (P (60 + j))) := by rw [show 62 + j = 60 + j + 2 by omega]; exact rc_bit (by omega)
theorem rc_u : (refCells a b P u)[122]? = some u := by
  simp only [refCells, List.getElem?_cons_succ]
  rw [List.getElem?_append_right (by rw [bitRow_len]; omega), bitRow_len]; rfl
theorem rc_set0 (a' : Nat) : AVal.int .i64 (a' : Nat) :: (refCells a b P u).drop 1 = refCells a' b P u := rfl
theorem rc_set1 (b' : Nat) : (refCells a b P u).take 1 ++ [AVal.int .i64 (b' : Nat)] ++ (refCells a b P u).drop 2 = refCells a b' P u := rfl
theorem rc_setu (x : AVal) : (refCells a b P u).take 122 ++ [x] ++ (refCells a b P u).drop 123 = refCells a b P x := by
  simp only [refCells, List.take_succ_cons, List.drop_succ_cons, List.cons_append]
  rw [List.take_append_of_le_length (by rw [bitRow_len]; omega), List.take_of_length_le (by rw [bitRow_len]; omega), List.drop_eq_nil_of_le (by simp [bitRow_len]), List.append_nil]
theorem rc_setb {j : Nat} (h : j < 120) (c : Bool) : (refCells a b P u).take (j + 2) ++ [AVal.bool c] ++ (refCells a b P u).drop (j + 2 + 1) = refCells a b (fun k => if k = j then c else P k) u := by
  simp only [refCells, List.take_succ_cons, List.drop_succ_cons, List.cons_append]
  rw [List.take_append_of_le_length (by rw [bitRow_len]; omega), List.drop_append_of_le_length (by rw [bitRow_len]; omega), ← List.append_assoc, bitRow_set P c h]
theorem rc_sethas {j : Nat} (h : j < 60) (c : Bool) : (refCells a b P u).take (2 + j) ++ [AVal.bool c] ++ (refCells a b P u).drop (2 + j + 1) = refCells a b (fun k => if k = j then c else P k) u := by
  rw [Nat.add_comm 2 j]; exact rc_setb (by omega) c
theorem rc_setgone {j : Nat} (h : j < 60) (c : Bool) : (refCells a b P u).take (62 + j) ++ [AVal.bool c] ++ (refCells a b P u).drop (62 + j + 1) = refCells a b (fun k => if k = 60 + j then c else P k) u := by
  rw [show 62 + j = 60 + j + 2 by omega]; exact rc_setb (by omega) c
end
/-- a list, as data or nil -/
def Lst (x : AVal) (l : List Int) : Prop := x = ints l ∨ (x = .nils ∧ l = [])
theorem Lst.sees {x : AVal} {l : List Int} (h : Lst x l) (σ : Heap) : Sees σ x σ (ints l) := by
  rcases h with rfl | ⟨rfl, rfl⟩
  · exact Sees.refl _ _
  · exact Sees.nils σ 1
theorem Lst.len {x : AVal} {l : List Int} (h : Lst x l) : aLen x = some (.int .i64 (l.length : Nat)) := by
  rcases h with rfl | ⟨rfl, rfl⟩
  · simp [ints, aLen_fsl]
  · rfl
theorem Lst.cells {x : AVal} {l : List Int} (h : Lst x l) : x.cells = [x] ∧ x.isCell = true ∧ x.isRaw = false := by
  rcases h with rfl | ⟨rfl, rfl⟩ <;> exact ⟨rfl, rfl, rfl⟩
abbrev t_ints : TypeId := 30
structure RefAt (σ : Heap) (k : Nat) (R : Revs) (P : Nat → Bool) (u : AVal) (els : List AVal) : Prop where
  blk : σ.get k = some (.cells (refCells R.head R.floor P u) none)
  row : Row 0 σ t_ints 1 u els
  ne : ∀ K o n c, u = .slc (.new K) o n c → K ≠ k
  len : els.length = R.floor + R.und.length
  lst : ∀ z ∈ els, ∃ l, Lst z l
  at_ : ∀ (j : Nat) (s : List Int), R.und[j]? = some s → ∃ x, els[R.floor + j]? = some x ∧ Lst x s
  has : ∀ g : Nat, g < 60 → (P g && !P (60 + g)) = decide ((g : Int) ∈ R.grp)
  gone : ∀ g : Nat, g < 60 → P (60 + g) = decide ((g : Int) ∈ R.gone)
  low : k < σ.next
  ok : R.Ok
def uid : AVal → List Nat
  | .slc (.new K) _ _ _ => [K]
  | _ => []
def IsRef (σ : Heap) (k : Nat) (R : Revs) (fp : List Nat) : Prop := ∃ P u els, RefAt σ k R P u els ∧ fp = k :: uid u
theorem mem_uid {u : AVal} {K : Nat} : K ∈ uid u ↔ ∃ o n c, u = .slc (.new K) o n c := by
  unfold uid
  split
  · simp only [List.mem_singleton, AVal.slc.injEq, Id.new.injEq]
    constructor
    · rintro rfl; exact ⟨_, _, _, rfl, rfl, rfl, rfl⟩
    · rintro ⟨_, _, _, h, _⟩; exact h.symm
  · rename_i h
    simp only [List.not_mem_nil, false_iff]
    rintro ⟨o, n, c, rfl⟩
    exact h _ _ _ _ rfl
theorem Row.move {B k : Nat} {e : TypeId} {σ τ : Heap} {x : AVal} {els : List AVal} (h : Row B σ e k x els) (hn : σ.next ≤ τ.next) (hg : ∀ K ∈ uid x, τ.get K = σ.get K) : Row B τ e k x els := by
  refine ⟨h.1, ?_⟩
  rcases h.2 with h2 | ⟨K, cap, cs, opn, h1, h2, h3, h4, h5, h6⟩
  · exact .inl h2
  · exact .inr ⟨K, cap, cs, opn, h1, by rw [hg K (mem_uid.2 ⟨_, _, _, h1⟩)]; exact h2, h3, h4, Nat.lt_of_lt_of_le h5 hn, h6⟩
theorem lst_flat : ∀ {els : List AVal}, (∀ z ∈ els, ∃ l, Lst z l) → els.flatMap AVal.cells = els
  | [], _ => rfl
  | z :: els, h => by
    obtain ⟨l, hl⟩ := h z (by simp)
    rw [List.flatMap_cons, hl.cells.1, lst_flat fun y hy => h y (List.mem_cons_of_mem _ hy)]; rfl
section
variable {σ : Heap} {k : Nat} {R : Revs} {P : Nat → Bool} {u : AVal} {els : List AVal}
theorem RefAt.lows (h : RefAt σ k R P u els) : ∀ x ∈ k :: uid u, x < σ.next := by
  intro x hx
  rcases List.mem_cons.1 hx with rfl | hx
  · exact h.low
  · obtain ⟨o, n, c, e⟩ := mem_uid.1 hx; exact (h.row.low e).2
theorem RefAt.move {τ : Heap} (h : RefAt σ k R P u els) (hn : σ.next ≤ τ.next) (hk : ∀ q ∈ k :: uid u, τ.get q = σ.get q) : RefAt τ k R P u els where
  blk := by rw [hk k (by simp)]; exact h.blk
  row := Row.move h.row hn fun K hK => hk K (List.mem_cons_of_mem _ hK)
  ne := h.ne
  len := h.len
  lst := h.lst
  at_ := h.at_
  has := h.has
  gone := h.gone
  low := Nat.lt_of_lt_of_le h.low hn
  ok := h.ok
theorem IsRef.keep {τ : Heap} {fp fp' : List Nat} (h : IsRef σ k R fp) (hk : Keep fp' σ τ) (hd : ∀ x ∈ fp, x ∉ fp') : IsRef τ k R fp := by
  obtain ⟨P, u, els, h, rfl⟩ := h
  exact ⟨P, u, els, h.move hk.2.2.1 fun q hq => hk.2.2.2 q (h.lows q hq) (hd q hq), rfl⟩
theorem IsRef.low {fp : List Nat} (h : IsRef σ k R fp) : ∀ x ∈ fp, x < σ.next := by obtain ⟨P, u, els, h, rfl⟩ := h; exact h.lows
theorem IsRef.ok {fp : List Nat} (h : IsRef σ k R fp) : R.Ok := by obtain ⟨P, u, els, h, rfl⟩ := h; exact h.ok
theorem there_call (σ : Heap) (g : Int) : ACall Try.prog n_palinoderef20_there [.int .i64 g] σ (.bool (decide (0 ≤ g) && decide (g < 60))) σ := by
  refine exact_call (spec_of_awp mixed c_palinoderef20_there (Nat.le_of_ble_eq_true rfl) ?_)
  unfold f_palinoderef20_there
  by_cases h1 : 0 ≤ g
  · simp only [↓w_seq, ↓w_reg, ↓w_ret, ↓w_draw, ↓w_regA, kNext_bar, ↓w_skip, ↓w_block, ↓w_exit, ↓w_cond_go, ↓thn_normal, ↓thn_ret, ↓thn_exit, ↓inBlk_normal, ↓inBlk_ret, ↓inBlk_exit, ↓o_nil, ↓o_plain, ↓o_guard, bOf, ne_eq, reduceCtorEq, not_false_eq_true, implies_true, Frame.ofArgs, aop, ev_tmp, ev_lit, go1_some, go1_map, goM_some, goG_true, goG_false, putO_some, putO_none, Frame.get_put, Nat.reduceEqDiff, ↓reduceIte, Nat.reduceAdd, Nat.zero_add, AVal.isRaw, AVal.cells, AVal.isCell, Bool.false_eq_true, Bool.not_false, Bool.not_true, Heap.get_new, Heap.get_set, Heap.new_next, Heap.set_next, Heap.bare, bare_next, aLoad, cell_new, cellsFrom, List.getElem?_cons_zero, List.getElem?_cons_succ, Option.map_some, aBin, aInt, wantd_get, evs_cons', evs_nil, evParts_cons, evParts_nil, aFill, over, foldO, aMax2, aMin2, List.length_cons, List.length_nil, List.take_zero, List.take_succ_cons, List.drop_zero, List.drop_succ_cons, List.drop_nil, List.take_nil, List.nil_append, List.cons_append, List.append_nil, BEq.rfl, Bool.and_true, Bool.true_and, Bool.and_false, Bool.false_and, decide_true, decide_false, Nat.reduceLeDiff, Nat.le_refl, Nat.reduceLT, aEq, aEq0, aEqs, ge_iff_le, gt_iff_lt, storeAt, aStore, List.all_cons, List.all_nil, ends, resOf, rvals, Option.some.injEq, exists_eq_left', true_and, and_true, Bool.true_eq_false, beq_true, beq_false, Heap.new_W, Heap.set_W, Heap.new_F0, Heap.set_F0, ↓oNext_eq, ↓o_call, ↓g_nil, ↓g_cons, ↓gNext_eq, ↓gdo_pure, ↓gdo_read, ↓gdo_call, ↓gdo_eff, goV_some, goV_map, SOp.kind, wantd_none, AVal.undef, goF_fn, Reads, okId, or_true, true_or, false_or, false_and, and_false, instOps, List.map_cons, List.map_nil, SOp.inst, resvs, List.flatMap_cons, List.flatMap_nil, SOp.laid, Heap.resv, rE_nil, rE_some, rE_none, sames0, AVal.same0, Int.zero_add, repl, List.replicate_succ, List.replicate_zero, List.flatten_cons, List.flatten_nil, Nat.reduceMul, Int.toNat_natCast, eq_self, Nat.one_mul, Nat.mul_one, Nat.zero_mul, aLenS, aIdx, evO_none, evO_some, aPart, List.length_map, Int.natCast_nonneg, Int.le_refl, Int.toNat_zero, List.isEmpty_cons, Int.reduceLT, Int.reduceLE, Int.reduceToNat, Int.cast_ofNat_Int, aIdxS, ints, aLen_fsl, aLen_nils, aLen_slc, aLen_emp, aLen_emp0, put_set, del_set, lt_next, lt_next_add, lt_next2, lt_next3, h1]
  · simp only [↓w_seq, ↓w_reg, ↓w_ret, ↓w_draw, ↓w_regA, kNext_bar, ↓w_skip, ↓w_block, ↓w_exit, ↓w_cond_go, ↓thn_normal, ↓thn_ret, ↓thn_exit, ↓inBlk_normal, ↓inBlk_ret, ↓inBlk_exit, ↓o_nil, ↓o_plain, ↓o_guard, bOf, ne_eq, reduceCtorEq, not_false_eq_true, implies_true, Frame.ofArgs, aop, ev_tmp, ev_lit, go1_some, go1_map, goM_some, goG_true, goG_false, putO_some, putO_none, Frame.get_put, Nat.reduceEqDiff, ↓reduceIte, Nat.reduceAdd, Nat.zero_add, AVal.isRaw, AVal.cells, AVal.isCell, Bool.false_eq_true, Bool.not_false, Bool.not_true, Heap.get_new, Heap.get_set, Heap.new_next, Heap.set_next, Heap.bare, bare_next, aLoad, cell_new, cellsFrom, List.getElem?_cons_zero, List.getElem?_cons_succ, Option.map_some, aBin, aInt, wantd_get, evs_cons', evs_nil, evParts_cons, evParts_nil, aFill, over, foldO, aMax2, aMin2, List.length_cons, List.length_nil, List.take_zero, List.take_succ_cons, List.drop_zero, List.drop_succ_cons, List.drop_nil, List.take_nil, List.nil_append, List.cons_append, List.append_nil, BEq.rfl, Bool.and_true, Bool.true_and, Bool.and_false, Bool.false_and, decide_true, decide_false, Nat.reduceLeDiff, Nat.le_refl, Nat.reduceLT, aEq, aEq0, aEqs, ge_iff_le, gt_iff_lt, storeAt, aStore, List.all_cons, List.all_nil, ends, resOf, rvals, Option.some.injEq, exists_eq_left', true_and, and_true, Bool.true_eq_false, beq_true, beq_false, Heap.new_W, Heap.set_W, Heap.new_F0, Heap.set_F0, ↓oNext_eq, ↓o_call, ↓g_nil, ↓g_cons, ↓gNext_eq, ↓gdo_pure, ↓gdo_read, ↓gdo_call, ↓gdo_eff, goV_some, goV_map, SOp.kind, wantd_none, AVal.undef, goF_fn, Reads, okId, or_true, true_or, false_or, false_and, and_false, instOps, List.map_cons, List.map_nil, SOp.inst, resvs, List.flatMap_cons, List.flatMap_nil, SOp.laid, Heap.resv, rE_nil, rE_some, rE_none, sames0, AVal.same0, Int.zero_add, repl, List.replicate_succ, List.replicate_zero, List.flatten_cons, List.flatten_nil, Nat.reduceMul, Int.toNat_natCast, eq_self, Nat.one_mul, Nat.mul_one, Nat.zero_mul, aLenS, aIdx, evO_none, evO_some, aPart, List.length_map, Int.natCast_nonneg, Int.le_refl, Int.toNat_zero, List.isEmpty_cons, Int.reduceLT, Int.reduceLE, Int.reduceToNat, Int.cast_ofNat_Int, aIdxS, ints, aLen_fsl, aLen_nils, aLen_slc, aLen_emp, aLen_emp0, put_set, del_set, lt_next, lt_next_add, lt_next2, lt_next3, h1]
theorem there_in (g : Int) : (decide (0 ≤ g) && decide (g < 60)) = true ↔ ∃ j : Nat, g = (j : Int) ∧ j < 60 := by
  simp only [Bool.and_eq_true, decide_eq_true_eq]
  constructor
  · rintro ⟨h0, h1⟩; exact ⟨g.toNat, by omega, by omega⟩
  · rintro ⟨j, rfl, h⟩; omega
theorem is_call (h : RefAt σ k R P u els) (g : Int) : ACall Try.prog n_palinoderef20_Revs_Is [.ptr (.new k) 0, .int .i64 g] σ (.bool (decide (g ∈ R.grp))) σ := by
  refine exact_call (spec_of_awp mixed c_palinoderef20_Revs_Is (Nat.le_of_ble_eq_true rfl) ?_)
  unfold f_palinoderef20_Revs_Is
  have hk := h.blk
  have ht := there_call σ g
  simp only [↓w_seq, ↓w_reg, ↓w_ret, ↓w_draw, ↓w_regA, kNext_bar, ↓w_skip, ↓w_block, ↓w_exit, ↓w_cond_go, ↓thn_normal, ↓thn_ret, ↓thn_exit, ↓inBlk_normal, ↓inBlk_ret, ↓inBlk_exit, ↓o_nil, ↓o_plain, ↓o_guard, bOf, ne_eq, reduceCtorEq, not_false_eq_true, implies_true, Frame.ofArgs, aop, ev_tmp, ev_lit, go1_some, go1_map, goM_some, goG_true, goG_false, putO_some, putO_none, Frame.get_put, Nat.reduceEqDiff, ↓reduceIte, Nat.reduceAdd, Nat.zero_add, AVal.isRaw, AVal.cells, AVal.isCell, Bool.false_eq_true, Bool.not_false, Bool.not_true, Heap.get_new, Heap.get_set, Heap.new_next, Heap.set_next, Heap.bare, bare_next, aLoad, cell_new, cellsFrom, List.getElem?_cons_zero, List.getElem?_cons_succ, Option.map_some, aBin, aInt, wantd_get, evs_cons', evs_nil, evParts_cons, evParts_nil, aFill, over, foldO, aMax2, aMin2, List.length_cons, List.length_nil, List.take_zero, List.take_succ_cons, List.drop_zero, List.drop_succ_cons, List.drop_nil, List.take_nil, List.nil_append, List.cons_append, List.append_nil, BEq.rfl, Bool.and_true, Bool.true_and, Bool.and_false, Bool.false_and, decide_true, decide_false, Nat.reduceLeDiff, Nat.le_refl, Nat.reduceLT, aEq, aEq0, aEqs, ge_iff_le, gt_iff_lt, storeAt, aStore, List.all_cons, List.all_nil, ends, resOf, rvals, Option.some.injEq, exists_eq_left', true_and, and_true, Bool.true_eq_false, beq_true, beq_false, Heap.new_W, Heap.set_W, Heap.new_F0, Heap.set_F0, ↓oNext_eq, ↓o_call, ↓g_nil, ↓g_cons, ↓gNext_eq, ↓gdo_pure, ↓gdo_read, ↓gdo_call, ↓gdo_eff, goV_some, goV_map, SOp.kind, wantd_none, AVal.undef, goF_fn, Reads, okId, or_true, true_or, false_or, false_and, and_false, instOps, List.map_cons, List.map_nil, SOp.inst, resvs, List.flatMap_cons, List.flatMap_nil, SOp.laid, Heap.resv, rE_nil, rE_some, rE_none, sames0, AVal.same0, Int.zero_add, repl, List.replicate_succ, List.replicate_zero, List.flatten_cons, List.flatten_nil, Nat.reduceMul, Int.toNat_natCast, eq_self, Nat.one_mul, Nat.mul_one, Nat.zero_mul, aLenS, aIdx, evO_none, evO_some, aPart, List.length_map, Int.natCast_nonneg, Int.le_refl, Int.toNat_zero, List.isEmpty_cons, Int.reduceLT, Int.reduceLE, Int.reduceToNat, Int.cast_ofNat_Int, aIdxS, ints, aLen_fsl, aLen_nils, aLen_slc, aLen_emp, aLen_emp0, put_set, del_set, lt_next, lt_next_add, lt_next2, lt_next3]
  refine MSpec.of ht ?_
  by_cases hb : (decide (0 ≤ g) && decide (g < 60)) = true
  · obtain ⟨j, rfl, hj⟩ := (there_in g).1 hb
    have hh := h.has j hj
    have h1 := aIdxR_lt (n := 60) (k := 1) (off := 2) (i := .new k) (K := .i64) hj
    have h2 := aIdxR_lt (n := 60) (k := 1) (off := 62) (i := .new k) (K := .i64) hj
    rw [← hh, hb]
    cases hp : P j with
    | true => simp only [↓w_seq, ↓w_reg, ↓w_ret, ↓w_draw, ↓w_regA, kNext_bar, ↓w_skip, ↓w_block, ↓w_exit, ↓w_cond_go, ↓thn_normal, ↓thn_ret, ↓thn_exit, ↓inBlk_normal, ↓inBlk_ret, ↓inBlk_exit, ↓o_nil, ↓o_plain, ↓o_guard, bOf, ne_eq, reduceCtorEq, not_false_eq_true, implies_true, Frame.ofArgs, aop, ev_tmp, ev_lit, go1_some, go1_map, goM_some, goG_true, goG_false, putO_some, putO_none, Frame.get_put, Nat.reduceEqDiff, ↓reduceIte, Nat.reduceAdd, Nat.zero_add, AVal.isRaw, AVal.cells, AVal.isCell, Bool.false_eq_true, Bool.not_false, Bool.not_true, Heap.get_new, Heap.get_set, Heap.new_next, Heap.set_next, Heap.bare, bare_next, aLoad, cell_new, cellsFrom, List.getElem?_cons_zero, List.getElem?_cons_succ, Option.map_some, aBin, aInt, wantd_get, evs_cons', evs_nil, evParts_cons, evParts_nil, aFill, over, foldO, aMax2, aMin2, List.length_cons, List.length_nil, List.take_zero, List.take_succ_cons, List.drop_zero, List.drop_succ_cons, List.drop_nil, List.take_nil, List.nil_append, List.cons_append, List.append_nil, BEq.rfl, Bool.and_true, Bool.true_and, Bool.and_false, Bool.false_and, decide_true, decide_false, Nat.reduceLeDiff, Nat.le_refl, Nat.reduceLT, aEq, aEq0, aEqs, ge_iff_le, gt_iff_lt, storeAt, aStore, List.all_cons, List.all_nil, ends, resOf, rvals, Option.some.injEq, exists_eq_left', true_and, and_true, Bool.true_eq_false, beq_true, beq_false, Heap.new_W, Heap.set_W, Heap.new_F0, Heap.set_F0, ↓oNext_eq, ↓o_call, ↓g_nil, ↓g_cons, ↓gNext_eq, ↓gdo_pure, ↓gdo_read, ↓gdo_call, ↓gdo_eff, goV_some, goV_map, SOp.kind, wantd_none, AVal.undef, goF_fn, Reads, okId, or_true, true_or, false_or, false_and, and_false, instOps, List.map_cons, List.map_nil, SOp.inst, resvs, List.flatMap_cons, List.flatMap_nil, SOp.laid, Heap.resv, rE_nil, rE_some, rE_none, sames0, AVal.same0, Int.zero_add, repl, List.replicate_succ, List.replicate_zero, List.flatten_cons, List.flatten_nil, Nat.reduceMul, Int.toNat_natCast, eq_self, Nat.one_mul, Nat.mul_one, Nat.zero_mul, aLenS, aIdx, evO_none, evO_some, aPart, List.length_map, Int.natCast_nonneg, Int.le_refl, Int.toNat_zero, List.isEmpty_cons, Int.reduceLT, Int.reduceLE, Int.reduceToNat, Int.cast_ofNat_Int, aIdxS, ints, aLen_fsl, aLen_nils, aLen_slc, aLen_emp, aLen_emp0, put_set, del_set, lt_next, lt_next_add, lt_next2, lt_next3, h1, h2, hk, rc_has hj, rc_gone hj, hp]
    | false => simp only [↓w_seq, ↓w_reg, ↓w_ret, ↓w_draw, ↓w_regA, kNext_bar, ↓w_skip, ↓w_block, ↓w_exit, ↓w_cond_go, ↓thn_normal, ↓thn_ret, ↓thn_exit, ↓inBlk_normal, ↓inBlk_ret, ↓inBlk_exit, ↓o_nil, ↓o_plain, ↓o_guard, bOf, ne_eq, reduceCtorEq, not_false_eq_true, implies_true, Frame.ofArgs, aop, ev_tmp, ev_lit, go1_some, go1_map, goM_some, goG_true, goG_false, putO_some, putO_none, Frame.get_put, Nat.reduceEqDiff, ↓reduceIte, Nat.reduceAdd, Nat.zero_add, AVal.isRaw, AVal.cells, AVal.isCell, Bool.false_eq_true, Bool.not_false, Bool.not_true, Heap.get_new, Heap.get_set, Heap.new_next, Heap.set_next, Heap.bare, bare_next, aLoad, cell_new, cellsFrom, List.getElem?_cons_zero, List.getElem?_cons_succ, Option.map_some, aBin, aInt, wantd_get, evs_cons', evs_nil, evParts_cons, evParts_nil, aFill, over, foldO, aMax2, aMin2, List.length_cons, List.length_nil, List.take_zero, List.take_succ_cons, List.drop_zero, List.drop_succ_cons, List.drop_nil, List.take_nil, List.nil_append, List.cons_append, List.append_nil, BEq.rfl, Bool.and_true, Bool.true_and, Bool.and_false, Bool.false_and, decide_true, decide_false, Nat.reduceLeDiff, Nat.le_refl, Nat.reduceLT, aEq, aEq0, aEqs, ge_iff_le, gt_iff_lt, storeAt, aStore, List.all_cons, List.all_nil, ends, resOf, rvals, Option.some.injEq, exists_eq_left', true_and, and_true, Bool.true_eq_false, beq_true, beq_false, Heap.new_W, Heap.set_W, Heap.new_F0, Heap.set_F0, ↓oNext_eq, ↓o_call, ↓g_nil, ↓g_cons, ↓gNext_eq, ↓gdo_pure, ↓gdo_read, ↓gdo_call, ↓gdo_eff, goV_some, goV_map, SOp.kind, wantd_none, AVal.undef, goF_fn, Reads, okId, or_true, true_or, false_or, false_and, and_false, instOps, List.map_cons, List.map_nil, SOp.inst, resvs, List.flatMap_cons, List.flatMap_nil, SOp.laid, Heap.resv, rE_nil, rE_some, rE_none, sames0, AVal.same0, Int.zero_add, repl, List.replicate_succ, List.replicate_zero, List.flatten_cons, List.flatten_nil, Nat.reduceMul, Int.toNat_natCast, eq_self, Nat.one_mul, Nat.mul_one, Nat.zero_mul, aLenS, aIdx, evO_none, evO_some, aPart, List.length_map, Int.natCast_nonneg, Int.le_refl, Int.toNat_zero, List.isEmpty_cons, Int.reduceLT, Int.reduceLE, Int.reduceToNat, Int.cast_ofNat_Int, aIdxS, ints, aLen_fsl, aLen_nils, aLen_slc, aLen_emp, aLen_emp0, put_set, del_set, lt_next, lt_next_add, lt_next2, lt_next3, h1, h2, hk, rc_has hj, rc_gone hj, hp]
  · have hb2 : (decide (0 ≤ g) && decide (g < 60)) = false := by simpa using hb
    have hn : g ∉ R.grp := fun hg => by have := h.ok.grp.2 g hg; apply hb; simp; omega
    rw [hb2, not_mem_bool hn]
    simp only [↓w_seq, ↓w_reg, ↓w_ret, ↓w_draw, ↓w_regA, kNext_bar, ↓w_skip, ↓w_block, ↓w_exit, ↓w_cond_go, ↓thn_normal, ↓thn_ret, ↓thn_exit, ↓inBlk_normal, ↓inBlk_ret, ↓inBlk_exit, ↓o_nil, ↓o_plain, ↓o_guard, bOf, ne_eq, reduceCtorEq, not_false_eq_true, implies_true, Frame.ofArgs, aop, ev_tmp, ev_lit, go1_some, go1_map, goM_some, goG_true, goG_false, putO_some, putO_none, Frame.get_put, Nat.reduceEqDiff, ↓reduceIte, Nat.reduceAdd, Nat.zero_add, AVal.isRaw, AVal.cells, AVal.isCell, Bool.false_eq_true, Bool.not_false, Bool.not_true, Heap.get_new, Heap.get_set, Heap.new_next, Heap.set_next, Heap.bare, bare_next, aLoad, cell_new, cellsFrom, List.getElem?_cons_zero, List.getElem?_cons_succ, Option.map_some, aBin, aInt, wantd_get, evs_cons', evs_nil, evParts_cons, evParts_nil, aFill, over, foldO, aMax2, aMin2, List.length_cons, List.length_nil, List.take_zero, List.take_succ_cons, List.drop_zero, List.drop_succ_cons, List.drop_nil, List.take_nil, List.nil_append, List.cons_append, List.append_nil, BEq.rfl, Bool.and_true, Bool.true_and, Bool.and_false, Bool.false_and, decide_true, decide_false, Nat.reduceLeDiff, Nat.le_refl, Nat.reduceLT, aEq, aEq0, aEqs, ge_iff_le, gt_iff_lt, storeAt, aStore, List.all_cons, List.all_nil, ends, resOf, rvals, Option.some.injEq, exists_eq_left', true_and, and_true, Bool.true_eq_false, beq_true, beq_false, Heap.new_W, Heap.set_W, Heap.new_F0, Heap.set_F0, ↓oNext_eq, ↓o_call, ↓g_nil, ↓g_cons, ↓gNext_eq, ↓gdo_pure, ↓gdo_read, ↓gdo_call, ↓gdo_eff, goV_some, goV_map, SOp.kind, wantd_none, AVal.undef, goF_fn, Reads, okId, or_true, true_or, false_or, false_and, and_false, instOps, List.map_cons, List.map_nil, SOp.inst, resvs, List.flatMap_cons, List.flatMap_nil, SOp.laid, Heap.resv, rE_nil, rE_some, rE_none, sames0, AVal.same0, Int.zero_add, repl, List.replicate_succ, List.replicate_zero, List.flatten_cons, List.flatten_nil, Nat.reduceMul, Int.toNat_natCast, eq_self, Nat.one_mul, Nat.mul_one, Nat.zero_mul, aLenS, aIdx, evO_none, evO_some, aPart, List.length_map, Int.natCast_nonneg, Int.le_refl, Int.toNat_zero, List.isEmpty_cons, Int.reduceLT, Int.reduceLE, Int.reduceToNat, Int.cast_ofNat_Int, aIdxS, ints, aLen_fsl, aLen_nils, aLen_slc, aLen_emp, aLen_emp0, put_set, del_set, lt_next, lt_next_add, lt_next2, lt_next3]
theorem rlive_call (h : RefAt σ k R P u els) (n : Int) : ACall Try.prog n_palinoderef20_Revs_Live [.ptr (.new k) 0, .int .i64 n] σ (.bool (R.live n)) σ := by
  refine exact_call (spec_of_awp mixed c_palinoderef20_Revs_Live (Nat.le_of_ble_eq_true rfl) ?_)
  unfold f_palinoderef20_Revs_Live
  have hk := h.blk
  by_cases h1 : (R.floor : Int) ≤ n
  · simp only [↓w_seq, ↓w_reg, ↓w_ret, ↓w_draw, ↓w_regA, kNext_bar, ↓w_skip, ↓w_block, ↓w_exit, ↓w_cond_go, ↓thn_normal, ↓thn_ret, ↓thn_exit, ↓inBlk_normal, ↓inBlk_ret, ↓inBlk_exit, ↓o_nil, ↓o_plain, ↓o_guard, bOf, ne_eq, reduceCtorEq, not_false_eq_true, implies_true, Frame.ofArgs, aop, ev_tmp, ev_lit, go1_some, go1_map, goM_some, goG_true, goG_false, putO_some, putO_none, Frame.get_put, Nat.reduceEqDiff, ↓reduceIte, Nat.reduceAdd, Nat.zero_add, AVal.isRaw, AVal.cells, AVal.isCell, Bool.false_eq_true, Bool.not_false, Bool.not_true, Heap.get_new, Heap.get_set, Heap.new_next, Heap.set_next, Heap.bare, bare_next, aLoad, cell_new, cellsFrom, List.getElem?_cons_zero, List.getElem?_cons_succ, Option.map_some, aBin, aInt, wantd_get, evs_cons', evs_nil, evParts_cons, evParts_nil, aFill, over, foldO, aMax2, aMin2, List.length_cons, List.length_nil, List.take_zero, List.take_succ_cons, List.drop_zero, List.drop_succ_cons, List.drop_nil, List.take_nil, List.nil_append, List.cons_append, List.append_nil, BEq.rfl, Bool.and_true, Bool.true_and, Bool.and_false, Bool.false_and, decide_true, decide_false, Nat.reduceLeDiff, Nat.le_refl, Nat.reduceLT, aEq, aEq0, aEqs, ge_iff_le, gt_iff_lt, storeAt, aStore, List.all_cons, List.all_nil, ends, resOf, rvals, Option.some.injEq, exists_eq_left', true_and, and_true, Bool.true_eq_false, beq_true, beq_false, Heap.new_W, Heap.set_W, Heap.new_F0, Heap.set_F0, ↓oNext_eq, ↓o_call, ↓g_nil, ↓g_cons, ↓gNext_eq, ↓gdo_pure, ↓gdo_read, ↓gdo_call, ↓gdo_eff, goV_some, goV_map, SOp.kind, wantd_none, AVal.undef, goF_fn, Reads, okId, or_true, true_or, false_or, false_and, and_false, instOps, List.map_cons, List.map_nil, SOp.inst, resvs, List.flatMap_cons, List.flatMap_nil, SOp.laid, Heap.resv, rE_nil, rE_some, rE_none, sames0, AVal.same0, Int.zero_add, repl, List.replicate_succ, List.replicate_zero, List.flatten_cons, List.flatten_nil, Nat.reduceMul, Int.toNat_natCast, eq_self, Nat.one_mul, Nat.mul_one, Nat.zero_mul, aLenS, aIdx, evO_none, evO_some, aPart, List.length_map, Int.natCast_nonneg, Int.le_refl, Int.toNat_zero, List.isEmpty_cons, Int.reduceLT, Int.reduceLE, Int.reduceToNat, Int.cast_ofNat_Int, aIdxS, ints, aLen_fsl, aLen_nils, aLen_slc, aLen_emp, aLen_emp0, put_set, del_set, lt_next, lt_next_add, lt_next2, lt_next3, hk, rc_0, rc_1, h1, Revs.live]
  · simp only [↓w_seq, ↓w_reg, ↓w_ret, ↓w_draw, ↓w_regA, kNext_bar, ↓w_skip, ↓w_block, ↓w_exit, ↓w_cond_go, ↓thn_normal, ↓thn_ret, ↓thn_exit, ↓inBlk_normal, ↓inBlk_ret, ↓inBlk_exit, ↓o_nil, ↓o_plain, ↓o_guard, bOf, ne_eq, reduceCtorEq, not_false_eq_true, implies_true, Frame.ofArgs, aop, ev_tmp, ev_lit, go1_some, go1_map, goM_some, goG_true, goG_false, putO_some, putO_none, Frame.get_put, Nat.reduceEqDiff, ↓reduceIte, Nat.reduceAdd, Nat.zero_add, AVal.isRaw, AVal.cells, AVal.isCell, Bool.false_eq_true, Bool.not_false, Bool.not_true, Heap.get_new, Heap.get_set, Heap.new_next, Heap.set_next, Heap.bare, bare_next, aLoad, cell_new, cellsFrom, List.getElem?_cons_zero, List.getElem?_cons_succ, Option.map_some, aBin, aInt, wantd_get, evs_cons', evs_nil, evParts_cons, evParts_nil, aFill, over, foldO, aMax2, aMin2, List.length_cons, List.length_nil, List.take_zero, List.take_succ_cons, List.drop_zero, List.drop_succ_cons, List.drop_nil, List.take_nil, List.nil_append, List.cons_append, List.append_nil, BEq.rfl, Bool.and_true, Bool.true_and, Bool.and_false, Bool.false_and, decide_true, decide_false, Nat.reduceLeDiff, Nat.le_refl, Nat.reduceLT, aEq, aEq0, aEqs, ge_iff_le, gt_iff_lt, storeAt, aStore, List.all_cons, List.all_nil, ends, resOf, rvals, Option.some.injEq, exists_eq_left', true_and, and_true, Bool.true_eq_false, beq_true, beq_false, Heap.new_W, Heap.set_W, Heap.new_F0, Heap.set_F0, ↓oNext_eq, ↓o_call, ↓g_nil, ↓g_cons, ↓gNext_eq, ↓gdo_pure, ↓gdo_read, ↓gdo_call, ↓gdo_eff, goV_some, goV_map, SOp.kind, wantd_none, AVal.undef, goF_fn, Reads, okId, or_true, true_or, false_or, false_and, and_false, instOps, List.map_cons, List.map_nil, SOp.inst, resvs, List.flatMap_cons, List.flatMap_nil, SOp.laid, Heap.resv, rE_nil, rE_some, rE_none, sames0, AVal.same0, Int.zero_add, repl, List.replicate_succ, List.replicate_zero, List.flatten_cons, List.flatten_nil, Nat.reduceMul, Int.toNat_natCast, eq_self, Nat.one_mul, Nat.mul_one, Nat.zero_mul, aLenS, aIdx, evO_none, evO_some, aPart, List.length_map, Int.natCast_nonneg, Int.le_refl, Int.toNat_zero, List.isEmpty_cons, Int.reduceLT, Int.reduceLE, Int.reduceToNat, Int.cast_ofNat_Int, aIdxS, ints, aLen_fsl, aLen_nils, aLen_slc, aLen_emp, aLen_emp0, put_set, del_set, lt_next, lt_next_add, lt_next2, lt_next3, hk, rc_0, rc_1, h1, Revs.live]
/-- an element of the reference's row -/
theorem RefAt.load (h : RefAt σ k R P u els) {j : Nat} {s : List Int} (hj : R.und[j]? = some s) : ∃ K cap x, u = .slc (.new K) 0 (R.floor + R.und.length) cap ∧ R.floor + j < R.floor + R.und.length ∧ σ.cell (.new K) (R.floor + j) = some x ∧ Lst x s ∧ els[R.floor + j]? = some x ∧ x ≠ .undef := by
  obtain ⟨x, hx, hl⟩ := h.at_ j s hj
  have hlt := (List.getElem?_eq_some_iff.1 hx).1
  rcases h.row.2 with ⟨_, h2⟩ | ⟨K, cap, cs, opn, h1, h2, h3, h4, h5, h6⟩
  · rw [h2] at hlt; simp at hlt
  · refine ⟨K, cap, x, by rw [h1, h.len], by rw [← h.len]; exact hlt, ?_, hl, hx, by rcases hl with rfl | ⟨rfl, _⟩ <;> (intro e; cases e)⟩
    have hfl := lst_flat h.lst
    rw [Nat.mul_one, hfl] at h3
    have : (cs.take els.length)[R.floor + j]? = some x := by rw [h3]; exact hx
    rw [List.getElem?_take, if_pos hlt] at this
    simp only [Heap.cell, h2, this]
theorem rundone_call (h : RefAt σ k R P u els) (n : Int) : ACall Try.prog n_palinoderef20_Revs_Undone [.ptr (.new k) 0, .int .i64 n] σ (ints (R.undone n)) σ := by
  suffices hs : ∃ x, Lst x (R.undone n) ∧ ACall Try.prog n_palinoderef20_Revs_Undone [.ptr (.new k) 0, .int .i64 n] σ x σ by
    obtain ⟨x, hx, ha⟩ := hs
    exact acall_see ha (hx.sees σ)
  have hk := h.blk
  cases hl : R.live n with
  | false =>
    refine ⟨.nils, .inr ⟨rfl, by simp [Revs.undone, hl]⟩, ?_⟩
    refine exact_call (spec_of_awp mixed c_palinoderef20_Revs_Undone (Nat.le_of_ble_eq_true rfl) ?_)
    unfold f_palinoderef20_Revs_Undone
    simp only [↓w_seq, ↓w_reg, ↓w_ret, ↓w_draw, ↓w_regA, kNext_bar, ↓w_skip, ↓w_block, ↓w_exit, ↓w_cond_go, ↓thn_normal, ↓thn_ret, ↓thn_exit, ↓inBlk_normal, ↓inBlk_ret, ↓inBlk_exit, ↓o_nil, ↓o_plain, ↓o_guard, bOf, ne_eq, reduceCtorEq, not_false_eq_true, implies_true, Frame.ofArgs, aop, ev_tmp, ev_lit, go1_some, go1_map, goM_some, goG_true, goG_false, putO_some, putO_none, Frame.get_put, Nat.reduceEqDiff, ↓reduceIte, Nat.reduceAdd, Nat.zero_add, AVal.isRaw, AVal.cells, AVal.isCell, Bool.false_eq_true, Bool.not_false, Bool.not_true, Heap.get_new, Heap.get_set, Heap.new_next, Heap.set_next, Heap.bare, bare_next, aLoad, cell_new, cellsFrom, List.getElem?_cons_zero, List.getElem?_cons_succ, Option.map_some, aBin, aInt, wantd_get, evs_cons', evs_nil, evParts_cons, evParts_nil, aFill, over, foldO, aMax2, aMin2, List.length_cons, List.length_nil, List.take_zero, List.take_succ_cons, List.drop_zero, List.drop_succ_cons, List.drop_nil, List.take_nil, List.nil_append, List.cons_append, List.append_nil, BEq.rfl, Bool.and_true, Bool.true_and, Bool.and_false, Bool.false_and, decide_true, decide_false, Nat.reduceLeDiff, Nat.le_refl, Nat.reduceLT, aEq, aEq0, aEqs, ge_iff_le, gt_iff_lt, storeAt, aStore, List.all_cons, List.all_nil, ends, resOf, rvals, Option.some.injEq, exists_eq_left', true_and, and_true, Bool.true_eq_false, beq_true, beq_false, Heap.new_W, Heap.set_W, Heap.new_F0, Heap.set_F0, ↓oNext_eq, ↓o_call, ↓g_nil, ↓g_cons, ↓gNext_eq, ↓gdo_pure, ↓gdo_read, ↓gdo_call, ↓gdo_eff, goV_some, goV_map, SOp.kind, wantd_none, AVal.undef, goF_fn, Reads, okId, or_true, true_or, false_or, false_and, and_false, instOps, List.map_cons, List.map_nil, SOp.inst, resvs, List.flatMap_cons, List.flatMap_nil, SOp.laid, Heap.resv, rE_nil, rE_some, rE_none, sames0, AVal.same0, Int.zero_add, repl, List.replicate_succ, List.replicate_zero, List.flatten_cons, List.flatten_nil, Nat.reduceMul, Int.toNat_natCast, eq_self, Nat.one_mul, Nat.mul_one, Nat.zero_mul, aLenS, aIdx, evO_none, evO_some, aPart, List.length_map, Int.natCast_nonneg, Int.le_refl, Int.toNat_zero, List.isEmpty_cons, Int.reduceLT, Int.reduceLE, Int.reduceToNat, Int.cast_ofNat_Int, aIdxS, ints, aLen_fsl, aLen_nils, aLen_slc, aLen_emp, aLen_emp0, put_set, del_set, lt_next, lt_next_add, lt_next2, lt_next3]
    refine MSpec.of (rlive_call h n) ?_
    simp only [↓w_seq, ↓w_reg, ↓w_ret, ↓w_draw, ↓w_regA, kNext_bar, ↓w_skip, ↓w_block, ↓w_exit, ↓w_cond_go, ↓thn_normal, ↓thn_ret, ↓thn_exit, ↓inBlk_normal, ↓inBlk_ret, ↓inBlk_exit, ↓o_nil, ↓o_plain, ↓o_guard, bOf, ne_eq, reduceCtorEq, not_false_eq_true, implies_true, Frame.ofArgs, aop, ev_tmp, ev_lit, go1_some, go1_map, goM_some, goG_true, goG_false, putO_some, putO_none, Frame.get_put, Nat.reduceEqDiff, ↓reduceIte, Nat.reduceAdd, Nat.zero_add, AVal.isRaw, AVal.cells, AVal.isCell, Bool.false_eq_true, Bool.not_false, Bool.not_true, Heap.get_new, Heap.get_set, Heap.new_next, Heap.set_next, Heap.bare, bare_next, aLoad, cell_new, cellsFrom, List.getElem?_cons_zero, List.getElem?_cons_succ, Option.map_some, aBin, aInt, wantd_get, evs_cons', evs_nil, evParts_cons, evParts_nil, aFill, over, foldO, aMax2, aMin2, List.length_cons, List.length_nil, List.take_zero, List.take_succ_cons, List.drop_zero, List.drop_succ_cons, List.drop_nil, List.take_nil, List.nil_append, List.cons_append, List.append_nil, BEq.rfl, Bool.and_true, Bool.true_and, Bool.and_false, Bool.false_and, decide_true, decide_false, Nat.reduceLeDiff, Nat.le_refl, Nat.reduceLT, aEq, aEq0, aEqs, ge_iff_le, gt_iff_lt, storeAt, aStore, List.all_cons, List.all_nil, ends, resOf, rvals, Option.some.injEq, exists_eq_left', true_and, and_true, Bool.true_eq_false, beq_true, beq_false, Heap.new_W, Heap.set_W, Heap.new_F0, Heap.set_F0, ↓oNext_eq, ↓o_call, ↓g_nil, ↓g_cons, ↓gNext_eq, ↓gdo_pure, ↓gdo_read, ↓gdo_call, ↓gdo_eff, goV_some, goV_map, SOp.kind, wantd_none, AVal.undef, goF_fn, Reads, okId, or_true, true_or, false_or, false_and, and_false, instOps, List.map_cons, List.map_nil, SOp.inst, resvs, List.flatMap_cons, List.flatMap_nil, SOp.laid, Heap.resv, rE_nil, rE_some, rE_none, sames0, AVal.same0, Int.zero_add, repl, List.replicate_succ, List.replicate_zero, List.flatten_cons, List.flatten_nil, Nat.reduceMul, Int.toNat_natCast, eq_self, Nat.one_mul, Nat.mul_one, Nat.zero_mul, aLenS, aIdx, evO_none, evO_some, aPart, List.length_map, Int.natCast_nonneg, Int.le_refl, Int.toNat_zero, List.isEmpty_cons, Int.reduceLT, Int.reduceLE, Int.reduceToNat, Int.cast_ofNat_Int, aIdxS, ints, aLen_fsl, aLen_nils, aLen_slc, aLen_emp, aLen_emp0, put_set, del_set, lt_next, lt_next_add, lt_next2, lt_next3, hl]
  | true =>
    have hb := live_iff.1 hl
    have hone := List.length_pos_iff.2 h.ok.one
    obtain ⟨j, hj⟩ : ∃ j : Nat, n = ((R.floor + j : Nat) : Int) := ⟨(n - R.floor).toNat, by omega⟩
    have hjl : j < R.und.length := by omega
    have hgt := List.getElem?_eq_getElem hjl
    have hat : R.undone n = R.und[j] := by
      simp only [Revs.undone, hl, if_true, Revs.at]
      rw [show (n - (R.floor : Int)).toNat = j by omega, hgt]; rfl
    rw [hat]
    obtain ⟨K, cap, x, hu, hlt, hc, hlx, _, hne⟩ := h.load hgt
    refine ⟨x, hlx, ?_⟩
    refine exact_call (spec_of_awp mixed c_palinoderef20_Revs_Undone (Nat.le_of_ble_eq_true rfl) ?_)
    unfold f_palinoderef20_Revs_Undone
    have hn2 : n < ((R.floor + R.und.length : Nat) : Int) := by omega
    have hn0 : 0 ≤ n := by omega
    have htn : n.toNat = R.floor + j := by omega
    have hraw := hlx.cells.2.2
    subst hu
    simp only [↓w_seq, ↓w_reg, ↓w_ret, ↓w_draw, ↓w_regA, kNext_bar, ↓w_skip, ↓w_block, ↓w_exit, ↓w_cond_go, ↓thn_normal, ↓thn_ret, ↓thn_exit, ↓inBlk_normal, ↓inBlk_ret, ↓inBlk_exit, ↓o_nil, ↓o_plain, ↓o_guard, bOf, ne_eq, reduceCtorEq, not_false_eq_true, implies_true, Frame.ofArgs, aop, ev_tmp, ev_lit, go1_some, go1_map, goM_some, goG_true, goG_false, putO_some, putO_none, Frame.get_put, Nat.reduceEqDiff, ↓reduceIte, Nat.reduceAdd, Nat.zero_add, AVal.isRaw, AVal.cells, AVal.isCell, Bool.false_eq_true, Bool.not_false, Bool.not_true, Heap.get_new, Heap.get_set, Heap.new_next, Heap.set_next, Heap.bare, bare_next, aLoad, cell_new, cellsFrom, List.getElem?_cons_zero, List.getElem?_cons_succ, Option.map_some, aBin, aInt, wantd_get, evs_cons', evs_nil, evParts_cons, evParts_nil, aFill, over, foldO, aMax2, aMin2, List.length_cons, List.length_nil, List.take_zero, List.take_succ_cons, List.drop_zero, List.drop_succ_cons, List.drop_nil, List.take_nil, List.nil_append, List.cons_append, List.append_nil, BEq.rfl, Bool.and_true, Bool.true_and, Bool.and_false, Bool.false_and, decide_true, decide_false, Nat.reduceLeDiff, Nat.le_refl, Nat.reduceLT, aEq, aEq0, aEqs, ge_iff_le, gt_iff_lt, storeAt, aStore, List.all_cons, List.all_nil, ends, resOf, rvals, Option.some.injEq, exists_eq_left', true_and, and_true, Bool.true_eq_false, beq_true, beq_false, Heap.new_W, Heap.set_W, Heap.new_F0, Heap.set_F0, ↓oNext_eq, ↓o_call, ↓g_nil, ↓g_cons, ↓gNext_eq, ↓gdo_pure, ↓gdo_read, ↓gdo_call, ↓gdo_eff, goV_some, goV_map, SOp.kind, wantd_none, AVal.undef, goF_fn, Reads, okId, or_true, true_or, false_or, false_and, and_false, instOps, List.map_cons, List.map_nil, SOp.inst, resvs, List.flatMap_cons, List.flatMap_nil, SOp.laid, Heap.resv, rE_nil, rE_some, rE_none, sames0, AVal.same0, Int.zero_add, repl, List.replicate_succ, List.replicate_zero, List.flatten_cons, List.flatten_nil, Nat.reduceMul, Int.toNat_natCast, eq_self, Nat.one_mul, Nat.mul_one, Nat.zero_mul, aLenS, aIdx, evO_none, evO_some, aPart, List.length_map, Int.natCast_nonneg, Int.le_refl, Int.toNat_zero, List.isEmpty_cons, Int.reduceLT, Int.reduceLE, Int.reduceToNat, Int.cast_ofNat_Int, aIdxS, ints, aLen_fsl, aLen_nils, aLen_slc, aLen_emp, aLen_emp0, put_set, del_set, lt_next, lt_next_add, lt_next2, lt_next3]
    refine MSpec.of (rlive_call h n) ?_
    simp only [↓w_seq, ↓w_reg, ↓w_ret, ↓w_draw, ↓w_regA, kNext_bar, ↓w_skip, ↓w_block, ↓w_exit, ↓w_cond_go, ↓thn_normal, ↓thn_ret, ↓thn_exit, ↓inBlk_normal, ↓inBlk_ret, ↓inBlk_exit, ↓o_nil, ↓o_plain, ↓o_guard, bOf, ne_eq, reduceCtorEq, not_false_eq_true, implies_true, Frame.ofArgs, aop, ev_tmp, ev_lit, go1_some, go1_map, goM_some, goG_true, goG_false, putO_some, putO_none, Frame.get_put, Nat.reduceEqDiff, ↓reduceIte, Nat.reduceAdd, Nat.zero_add, AVal.isRaw, AVal.cells, AVal.isCell, Bool.false_eq_true, Bool.not_false, Bool.not_true, Heap.get_new, Heap.get_set, Heap.new_next, Heap.set_next, Heap.bare, bare_next, aLoad, cell_new, cellsFrom, List.getElem?_cons_zero, List.getElem?_cons_succ, Option.map_some, aBin, aInt, wantd_get, evs_cons', evs_nil, evParts_cons, evParts_nil, aFill, over, foldO, aMax2, aMin2, List.length_cons, List.length_nil, List.take_zero, List.take_succ_cons, List.drop_zero, List.drop_succ_cons, List.drop_nil, List.take_nil, List.nil_append, List.cons_append, List.append_nil, BEq.rfl, Bool.and_true, Bool.true_and, Bool.and_false, Bool.false_and, decide_true, decide_false, Nat.reduceLeDiff, Nat.le_refl, Nat.reduceLT, aEq, aEq0, aEqs, ge_iff_le, gt_iff_lt, storeAt, aStore, List.all_cons, List.all_nil, ends, resOf, rvals, Option.some.injEq, exists_eq_left', true_and, and_true, Bool.true_eq_false, beq_true, beq_false, Heap.new_W, Heap.set_W, Heap.new_F0, Heap.set_F0, ↓oNext_eq, ↓o_call, ↓g_nil, ↓g_cons, ↓gNext_eq, ↓gdo_pure, ↓gdo_read, ↓gdo_call, ↓gdo_eff, goV_some, goV_map, SOp.kind, wantd_none, AVal.undef, goF_fn, Reads, okId, or_true, true_or, false_or, false_and, and_false, instOps, List.map_cons, List.map_nil, SOp.inst, resvs, List.flatMap_cons, List.flatMap_nil, SOp.laid, Heap.resv, rE_nil, rE_some, rE_none, sames0, AVal.same0, Int.zero_add, repl, List.replicate_succ, List.replicate_zero, List.flatten_cons, List.flatten_nil, Nat.reduceMul, Int.toNat_natCast, eq_self, Nat.one_mul, Nat.mul_one, Nat.zero_mul, aLenS, aIdx, evO_none, evO_some, aPart, List.length_map, Int.natCast_nonneg, Int.le_refl, Int.toNat_zero, List.isEmpty_cons, Int.reduceLT, Int.reduceLE, Int.reduceToNat, Int.cast_ofNat_Int, aIdxS, ints, aLen_fsl, aLen_nils, aLen_slc, aLen_emp, aLen_emp0, put_set, del_set, lt_next, lt_next_add, lt_next2, lt_next3, hl, hk, rc_u, hn2, hn0, htn, hc, hraw]
end
end Go.Proofs.Ytaakajfmbjjigaa.M
