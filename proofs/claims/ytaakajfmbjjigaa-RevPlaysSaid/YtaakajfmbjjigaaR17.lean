/- A part of the seat's proofs over the abstract machine. No condition. -/
import Derived.Test.YtaakajfmbjjigaaR16
set_option linter.unusedSimpArgs false
set_option linter.unusedVariables false
set_option maxRecDepth 100000
namespace Go.Proofs.Ytaakajfmbjjigaa.M
open Go Go.Mini
attribute [local congr] go1_congr goM_congr goG_congr goV_congr drawwp_congr Xwp_congr
section
variable {σ : Heap} {k : Nat} {R : Revs} {P : Nat → Bool} {u : AVal} {els : List AVal}
theorem RefAt.few (h : RefAt σ k R P u els) : R.head ≤ 200 ∧ R.head + 1 = R.floor + R.und.length := by
  have h1 := h.ok.few
  have h2 := List.length_pos_iff.2 h.ok.one
  simp only [Revs.head]; omega
theorem Revs.Ok.push {R : Revs} (h : R.Ok) (hh : R.head < 200) {s : List Int} (hs : Rise s) : (R.push s).Ok where
  one := by simp [Revs.push]
  few := by
    have := h.few
    have := List.length_pos_iff.2 h.one
    simp only [Revs.head] at hh
    simp only [Revs.push, List.length_append, List.length_cons, List.length_nil]; omega
  rise := by
    intro x hx
    simp only [Revs.push, List.mem_append, List.mem_singleton] at hx
    rcases hx with hx | rfl
    · exact h.rise x hx
    · exact hs
  grp := h.grp
  gone := h.gone
theorem Lst.shape {x : AVal} {l : List Int} (h : Lst x l) : (∃ y, x = .fsl 1 y) ∨ x = .nils := by
  rcases h with rfl | ⟨rfl, _⟩
  · exact .inl ⟨_, rfl⟩
  · exact .inr rfl
theorem rnext_spec (h : RefAt σ k R P u els) (hh : R.head < 200) {x : AVal} {s : List Int} (hx : Lst x s) (hs : Rise s) : MSpec Try.prog n_palinoderef20_Revs_next [.ptr (.new k) 0, x] σ fun v τ => v = .int .i64 ((R.head : Int) + 1) ∧ ∃ u' els', RefAt τ k (R.push s) P u' els' ∧ Keep (k :: uid u) σ τ ∧ Fresh (k :: uid u) σ (k :: uid u') := by
  refine spec_of_awp mixed c_palinoderef20_Revs_next (Nat.le_of_ble_eq_true rfl) ?_
  unfold f_palinoderef20_Revs_next
  have hk := h.blk
  have hsh := hx.shape
  obtain ⟨c1, c2, c3⟩ := hx.cells
  have hf := h.few
  have hw := wrap_succ (i := R.head) (by omega)
  have hlow := h.low
  have hnk : (σ.next = k) = False := eq_false (by omega)
  have hru := ((h.row.set (j := k) (fun K o n c e => (h.ne K o n c e).symm) (.cells (refCells (R.head + 1) R.floor P u) none)).new (.cells [x] none))
  have hsrc := src_one (σ := (σ.set k (.cells (refCells (R.head + 1) R.floor P u) none)).new (.cells [x] none)) (K := σ.next) (k := 1) (cs := [x]) (opn := none) (z := x) (cap := .ex 1) (by simp [Heap.get_new]) c1 rfl
  obtain ⟨u', ρ, g1, g2, g3, g4, g5⟩ := row_app2 (bytes := 24) hru (Nat.zero_le _) hsrc.1 hsrc.2 (by intro z hz; simp at hz; subst hz; rw [c1]; rfl) (by simp [c1, c2]) (by omega) (by omega) (by rw [h.len]; unfold maxRoom; simp; omega)
  have hk2 : ρ.get k = some (.cells (refCells (R.head + 1) R.floor P u) none) := by
    rw [g4 k (by simp; omega) (fun K o n c e => (h.ne K o n c e).symm), Heap.get_new, if_neg (by simp; omega), Heap.get_set, if_pos rfl]
  have e0 : ((R.head : Int) + 1) = ((R.head + 1 : Nat) : Int) := by omega
  have fin : ∃ u'' els', RefAt (ρ.set k (.cells (refCells (R.head + 1) R.floor P u') none)) k (R.push s) P u'' els' ∧ Keep (k :: uid u) σ (ρ.set k (.cells (refCells (R.head + 1) R.floor P u') none)) ∧ Fresh (k :: uid u) σ (k :: uid u'') := by
    refine ⟨u', els ++ [x], ?_, ?_, ?_⟩
    · have hidk : ∀ K o n c, u' = .slc (.new K) o n c → K ≠ k := by
        intro K o n c e
        rcases g5 K o n c e with h1 | ⟨o', n', c', h1⟩
        · simp at h1; omega
        · exact h.ne _ _ _ _ h1
      refine ⟨?_, g2.set (fun K o n c e => (hidk K o n c e).symm) _, hidk, ?_, ?_, ?_, h.has, h.gone, ?_, h.ok.push hh hs⟩
      · rw [Heap.get_set, if_pos rfl, head_push _ h.ok.one]; rfl
      · simp only [List.length_append, h.len, Revs.push, List.length_cons, List.length_nil]; omega
      · intro z hz
        rcases List.mem_append.1 hz with hz | hz
        · exact h.lst z hz
        · rw [List.mem_singleton.1 hz]; exact ⟨s, hx⟩
      · intro j t ht
        have hfl : (R.push s).floor = R.floor := rfl
        rw [hfl]
        simp only [Revs.push] at ht
        by_cases hj : j < R.und.length
        · rw [List.getElem?_append_left hj] at ht
          obtain ⟨y, hy, hl⟩ := h.at_ j t ht
          exact ⟨y, by rw [List.getElem?_append_left (by have := h.len; omega)]; exact hy, hl⟩
        · have hj2 := (List.getElem?_eq_some_iff.1 ht).1
          simp at hj2
          have e1 : j = R.und.length := by omega
          subst e1
          rw [List.getElem?_concat_length] at ht
          cases ht
          exact ⟨x, by rw [← h.len, List.getElem?_concat_length], hx⟩
      · have := g3.2.2.1; simp at this ⊢; omega
    · refine ⟨g3.1, g3.2.1, ?_, ?_⟩
      · have := g3.2.2.1; simp at this ⊢; omega
      · intro q hq hn
        simp only [List.mem_cons, not_or] at hn
        rw [Heap.get_set, if_neg (fun e => hn.1 e.symm), g4 q (by simp; omega) (fun K o n c e hk => hn.2 (mem_uid.2 ⟨o, n, c, by rw [hk]; exact e⟩)), Heap.get_new, if_neg (by simp; omega), Heap.get_set, if_neg (fun e => hn.1 e.symm)]
    · intro q hq
      rcases List.mem_cons.1 hq with rfl | hq
      · exact .inl (by simp)
      · obtain ⟨o, n, c, e⟩ := mem_uid.1 hq
        rcases g5 q o n c e with h1 | ⟨o', n', c', h1⟩
        · exact .inr (by simp at h1; omega)
        · exact .inl (List.mem_cons_of_mem _ (mem_uid.2 ⟨_, _, _, h1⟩))
  obtain ⟨K', cap', hu'⟩ : ∃ K' cap', u' = .slc (.new K') 0 (els ++ [x]).length cap' := by
    rcases g2.2 with ⟨_, h0⟩ | ⟨K', cap', _, _, h1, _⟩
    · simp at h0
    · exact ⟨_, _, h1⟩
  clear hru hsrc g2 g3 g4 g5 c1 c2 c3
  generalize (els ++ [x]).length = nn at hu'
  subst hu'
  rcases hsh with ⟨y, rfl⟩ | rfl
  all_goals
    simp only [↓w_seq, ↓w_reg, ↓w_ret, ↓w_draw, ↓w_regA, kNext_bar, ↓w_skip, ↓w_block, ↓w_exit, ↓w_cond_go, ↓thn_normal, ↓thn_ret, ↓thn_exit, ↓inBlk_normal, ↓inBlk_ret, ↓inBlk_exit, ↓o_nil, ↓o_plain, ↓o_guard, bOf, ne_eq, reduceCtorEq, not_false_eq_true, implies_true, Frame.ofArgs, aop, ev_tmp, ev_lit, go1_some, go1_map, goM_some, goG_true, goG_false, putO_some, putO_none, Frame.get_put, Nat.reduceEqDiff, ↓reduceIte, Nat.reduceAdd, Nat.zero_add, AVal.isRaw, AVal.cells, AVal.isCell, Bool.false_eq_true, Bool.not_false, Bool.not_true, Heap.get_new, Heap.get_set, Heap.new_next, Heap.set_next, Heap.bare, bare_next, aLoad, cell_new, cellsFrom, List.getElem?_cons_zero, List.getElem?_cons_succ, Option.map_some, aBin, aInt, wantd_get, evs_cons', evs_nil, evParts_cons, evParts_nil, aFill, over, foldO, aMax2, aMin2, List.length_cons, List.length_nil, List.take_zero, List.take_succ_cons, List.drop_zero, List.drop_succ_cons, List.drop_nil, List.take_nil, List.nil_append, List.cons_append, List.append_nil, BEq.rfl, Bool.and_true, Bool.true_and, Bool.and_false, Bool.false_and, decide_true, decide_false, Nat.reduceLeDiff, Nat.le_refl, Nat.reduceLT, aEq, aEq0, aEqs, ge_iff_le, gt_iff_lt, storeAt, aStore, List.all_cons, List.all_nil, ends, resOf, rvals, Option.some.injEq, exists_eq_left', true_and, and_true, Bool.true_eq_false, beq_true, beq_false, Heap.new_W, Heap.set_W, Heap.new_F0, Heap.set_F0, ↓oNext_eq, ↓o_call, ↓g_nil, ↓g_cons, ↓gNext_eq, ↓gdo_pure, ↓gdo_read, ↓gdo_call, ↓gdo_eff, goV_some, goV_map, SOp.kind, wantd_none, AVal.undef, goF_fn, Reads, okId, or_true, true_or, false_or, false_and, and_false, instOps, List.map_cons, List.map_nil, SOp.inst, resvs, List.flatMap_cons, List.flatMap_nil, SOp.laid, Heap.resv, rE_nil, rE_some, rE_none, sames0, AVal.same0, Int.zero_add, repl, List.replicate_succ, List.replicate_zero, List.flatten_cons, List.flatten_nil, Nat.reduceMul, Int.toNat_natCast, eq_self, Nat.one_mul, Nat.mul_one, Nat.zero_mul, aLenS, aIdx, evO_none, evO_some, aPart, List.length_map, Int.natCast_nonneg, Int.le_refl, Int.toNat_zero, List.isEmpty_cons, Int.reduceLT, Int.reduceLE, Int.reduceToNat, Int.cast_ofNat_Int, aIdxS, ints, aLen_fsl, aLen_nils, aLen_slc, aLen_emp, aLen_emp0, put_set, del_set, lt_next, lt_next_add, lt_next2, lt_next3, hk, rc_0, rc_u, rc_len, rc_set0, hw, g1, hk2, rc_setu]
    exact ⟨by rw [e0], fin⟩
theorem toggled_lst (σ : Heap) {x : AVal} {l : List Int} (hx : Lst x l) (g : Int) (hl : Rise l) : ACall Try.prog n_palinoderef20_toggled [x, .int .i64 g] σ (ints (flip g l)) σ :=
  exact_call (mspec_seen (.cons (hx.sees σ) (.cons (Sees.refl _ _) (.nil _))) ⟨_, _, toggled_call σ l g hl, rfl, rfl⟩)
/-- the last element of the reference's row -/
theorem RefAt.last (h : RefAt σ k R P u els) : ∃ K cap x, u = .slc (.new K) 0 (R.head + 1) cap ∧ σ.cell (.new K) R.head = some x ∧ Lst x R.top ∧ els[R.head]? = some x := by
  have h1 := List.length_pos_iff.2 h.ok.one
  have hf := h.few
  have h3 : R.und[R.und.length - 1]? = some R.top := by
    simp only [Revs.top, ← List.getLast?_eq_getElem?, List.getLastD_eq_getLast?]
    cases he : R.und.getLast? with
    | none => rw [List.getLast?_eq_none_iff] at he; exact absurd he h.ok.one
    | some s => rfl
  obtain ⟨K, cap, x, e1, e2, e3, e4, e5, _⟩ := h.load h3
  rw [show R.floor + (R.und.length - 1) = R.head by omega] at e3 e5
  exact ⟨K, cap, x, by rw [e1, hf.2], e3, e4, e5⟩
theorem RefAt.sethas (h : RefAt σ k R P u els) {j : Nat} (hj : j < 60) (hg : (j : Int) ∉ R.gone) : RefAt (σ.set k (.cells (refCells R.head R.floor (fun i => if i = j then true else P i) u) none)) k { R with grp := insS j R.grp } (fun i => if i = j then true else P i) u els where
  blk := by rw [Heap.get_set, if_pos rfl]; rfl
  row := h.row.set (fun K o n c e => (h.ne K o n c e).symm) _
  ne := h.ne
  len := h.len
  lst := h.lst
  at_ := h.at_
  has := by
    intro g hg2
    have h1 := h.has g hg2
    have h2 := h.gone g hg2
    show ((if g = j then true else P g) && !(if 60 + g = j then true else P (60 + g))) = decide ((g : Int) ∈ insS j R.grp)
    rw [if_neg (show ¬ 60 + g = j by omega)]
    by_cases e : g = j
    · subst e
      have : P (60 + g) = false := by rw [h2]; exact not_mem_bool hg
      rw [this, if_pos rfl, mem_bool (mem_insS.2 (.inl rfl))]; rfl
    · rw [if_neg e, h1]
      have : ((g : Int) ∈ insS j R.grp) ↔ (g : Int) ∈ R.grp := by rw [mem_insS]; exact ⟨fun h => h.resolve_left (by omega), .inr⟩
      simp [this]
  gone := by
    intro g hg2
    show (if 60 + g = j then true else P (60 + g)) = _
    rw [if_neg (by omega)]; exact h.gone g hg2
  low := by simpa using h.low
  ok := ⟨h.ok.one, h.ok.few, h.ok.rise, h.ok.grp.ins (by omega) (by omega), h.ok.gone⟩
set_option maxHeartbeats 1000000 in
theorem radd_at {fp : List Nat} {R' : Revs} (h : IsRef σ k R fp) {g n c : Int} (e : addR R g = (R', n, c)) : MSpec Try.prog n_palinoderef20_Revs_Add [.ptr (.new k) 0, .int .i64 g] σ fun v τ => v = .tup [.int .i64 n, .int .i64 c] ∧ ∃ fp', IsRef τ k R' fp' ∧ Keep fp σ τ ∧ Fresh fp σ fp' := by
  obtain ⟨P, u, els, h, rfl⟩ := h
  refine spec_of_awp mixed c_palinoderef20_Revs_Add (Nat.le_of_ble_eq_true rfl) ?_
  unfold f_palinoderef20_Revs_Add
  have hk := h.blk
  have hf := h.few
  have ht := there_call σ g
  have fin : IsRef σ k R (k :: uid u) ∧ Keep (k :: uid u) σ σ ∧ Fresh (k :: uid u) σ (k :: uid u) := ⟨⟨P, u, els, h, rfl⟩, Keep.refl _ _, fun x hx => .inl hx⟩
  simp only [↓w_seq, ↓w_reg, ↓w_ret, ↓w_draw, ↓w_regA, kNext_bar, ↓w_skip, ↓w_block, ↓w_exit, ↓w_cond_go, ↓thn_normal, ↓thn_ret, ↓thn_exit, ↓inBlk_normal, ↓inBlk_ret, ↓inBlk_exit, ↓o_nil, ↓o_plain, ↓o_guard, bOf, ne_eq, reduceCtorEq, not_false_eq_true, implies_true, Frame.ofArgs, aop, ev_tmp, ev_lit, go1_some, go1_map, goM_some, goG_true, goG_false, putO_some, putO_none, Frame.get_put, Nat.reduceEqDiff, ↓reduceIte, Nat.reduceAdd, Nat.zero_add, AVal.isRaw, AVal.cells, AVal.isCell, Bool.false_eq_true, Bool.not_false, Bool.not_true, Heap.get_new, Heap.get_set, Heap.new_next, Heap.set_next, Heap.bare, bare_next, aLoad, cell_new, cellsFrom, List.getElem?_cons_zero, List.getElem?_cons_succ, Option.map_some, aBin, aInt, wantd_get, evs_cons', evs_nil, evParts_cons, evParts_nil, aFill, over, foldO, aMax2, aMin2, List.length_cons, List.length_nil, List.take_zero, List.take_succ_cons, List.drop_zero, List.drop_succ_cons, List.drop_nil, List.take_nil, List.nil_append, List.cons_append, List.append_nil, BEq.rfl, Bool.and_true, Bool.true_and, Bool.and_false, Bool.false_and, decide_true, decide_false, Nat.reduceLeDiff, Nat.le_refl, Nat.reduceLT, aEq, aEq0, aEqs, ge_iff_le, gt_iff_lt, storeAt, aStore, List.all_cons, List.all_nil, ends, resOf, rvals, Option.some.injEq, exists_eq_left', true_and, and_true, Bool.true_eq_false, beq_true, beq_false, Heap.new_W, Heap.set_W, Heap.new_F0, Heap.set_F0, ↓oNext_eq, ↓o_call, ↓g_nil, ↓g_cons, ↓gNext_eq, ↓gdo_pure, ↓gdo_read, ↓gdo_call, ↓gdo_eff, goV_some, goV_map, SOp.kind, wantd_none, AVal.undef, goF_fn, Reads, okId, or_true, true_or, false_or, false_and, and_false, instOps, List.map_cons, List.map_nil, SOp.inst, resvs, List.flatMap_cons, List.flatMap_nil, SOp.laid, Heap.resv, rE_nil, rE_some, rE_none, sames0, AVal.same0, Int.zero_add, repl, List.replicate_succ, List.replicate_zero, List.flatten_cons, List.flatten_nil, Nat.reduceMul, Int.toNat_natCast, eq_self, Nat.one_mul, Nat.mul_one, Nat.zero_mul, aLenS, aIdx, evO_none, evO_some, aPart, List.length_map, Int.natCast_nonneg, Int.le_refl, Int.toNat_zero, List.isEmpty_cons, Int.reduceLT, Int.reduceLE, Int.reduceToNat, Int.cast_ofNat_Int, aIdxS, ints, aLen_fsl, aLen_nils, aLen_slc, aLen_emp, aLen_emp0, put_set, del_set, lt_next, lt_next_add, lt_next2, lt_next3]
  refine MSpec.of ht ?_
  by_cases hb : (decide (0 ≤ g) && decide (g < 60)) = true
  case neg =>
    have hb2 : (decide (0 ≤ g) && decide (g < 60)) = false := by simpa using hb
    have hbad : g ∈ R.gone ∨ g < 0 ∨ 60 ≤ g := by
      right
      rcases Int.lt_or_le g 0 with h1 | h1
      · exact .inl h1
      · rcases Int.lt_or_le g 60 with h2 | h2
        · exact absurd (by simp [h1, h2]) hb
        · exact .inr h2
    rw [add_bad hbad] at e
    cases e
    rw [hb2]
    simp only [↓w_seq, ↓w_reg, ↓w_ret, ↓w_draw, ↓w_regA, kNext_bar, ↓w_skip, ↓w_block, ↓w_exit, ↓w_cond_go, ↓thn_normal, ↓thn_ret, ↓thn_exit, ↓inBlk_normal, ↓inBlk_ret, ↓inBlk_exit, ↓o_nil, ↓o_plain, ↓o_guard, bOf, ne_eq, reduceCtorEq, not_false_eq_true, implies_true, Frame.ofArgs, aop, ev_tmp, ev_lit, go1_some, go1_map, goM_some, goG_true, goG_false, putO_some, putO_none, Frame.get_put, Nat.reduceEqDiff, ↓reduceIte, Nat.reduceAdd, Nat.zero_add, AVal.isRaw, AVal.cells, AVal.isCell, Bool.false_eq_true, Bool.not_false, Bool.not_true, Heap.get_new, Heap.get_set, Heap.new_next, Heap.set_next, Heap.bare, bare_next, aLoad, cell_new, cellsFrom, List.getElem?_cons_zero, List.getElem?_cons_succ, Option.map_some, aBin, aInt, wantd_get, evs_cons', evs_nil, evParts_cons, evParts_nil, aFill, over, foldO, aMax2, aMin2, List.length_cons, List.length_nil, List.take_zero, List.take_succ_cons, List.drop_zero, List.drop_succ_cons, List.drop_nil, List.take_nil, List.nil_append, List.cons_append, List.append_nil, BEq.rfl, Bool.and_true, Bool.true_and, Bool.and_false, Bool.false_and, decide_true, decide_false, Nat.reduceLeDiff, Nat.le_refl, Nat.reduceLT, aEq, aEq0, aEqs, ge_iff_le, gt_iff_lt, storeAt, aStore, List.all_cons, List.all_nil, ends, resOf, rvals, Option.some.injEq, exists_eq_left', true_and, and_true, Bool.true_eq_false, beq_true, beq_false, Heap.new_W, Heap.set_W, Heap.new_F0, Heap.set_F0, ↓oNext_eq, ↓o_call, ↓g_nil, ↓g_cons, ↓gNext_eq, ↓gdo_pure, ↓gdo_read, ↓gdo_call, ↓gdo_eff, goV_some, goV_map, SOp.kind, wantd_none, AVal.undef, goF_fn, Reads, okId, or_true, true_or, false_or, false_and, and_false, instOps, List.map_cons, List.map_nil, SOp.inst, resvs, List.flatMap_cons, List.flatMap_nil, SOp.laid, Heap.resv, rE_nil, rE_some, rE_none, sames0, AVal.same0, Int.zero_add, repl, List.replicate_succ, List.replicate_zero, List.flatten_cons, List.flatten_nil, Nat.reduceMul, Int.toNat_natCast, eq_self, Nat.one_mul, Nat.mul_one, Nat.zero_mul, aLenS, aIdx, evO_none, evO_some, aPart, List.length_map, Int.natCast_nonneg, Int.le_refl, Int.toNat_zero, List.isEmpty_cons, Int.reduceLT, Int.reduceLE, Int.reduceToNat, Int.cast_ofNat_Int, aIdxS, ints, aLen_fsl, aLen_nils, aLen_slc, aLen_emp, aLen_emp0, put_set, del_set, lt_next, lt_next_add, lt_next2, lt_next3]
    exact ⟨_, fin⟩
  obtain ⟨j, rfl, hj⟩ := (there_in g).1 hb
  have h1 := aIdxR_lt (n := 60) (k := 1) (off := 2) (i := .new k) (K := .i64) hj
  have h2 := aIdxR_lt (n := 60) (k := 1) (off := 62) (i := .new k) (K := .i64) hj
  have hg := h.gone j hj
  rw [hb]
  by_cases hgo : (j : Int) ∈ R.gone
  · rw [add_bad (.inl hgo)] at e
    cases e
    rw [mem_bool hgo] at hg
    simp only [↓w_seq, ↓w_reg, ↓w_ret, ↓w_draw, ↓w_regA, kNext_bar, ↓w_skip, ↓w_block, ↓w_exit, ↓w_cond_go, ↓thn_normal, ↓thn_ret, ↓thn_exit, ↓inBlk_normal, ↓inBlk_ret, ↓inBlk_exit, ↓o_nil, ↓o_plain, ↓o_guard, bOf, ne_eq, reduceCtorEq, not_false_eq_true, implies_true, Frame.ofArgs, aop, ev_tmp, ev_lit, go1_some, go1_map, goM_some, goG_true, goG_false, putO_some, putO_none, Frame.get_put, Nat.reduceEqDiff, ↓reduceIte, Nat.reduceAdd, Nat.zero_add, AVal.isRaw, AVal.cells, AVal.isCell, Bool.false_eq_true, Bool.not_false, Bool.not_true, Heap.get_new, Heap.get_set, Heap.new_next, Heap.set_next, Heap.bare, bare_next, aLoad, cell_new, cellsFrom, List.getElem?_cons_zero, List.getElem?_cons_succ, Option.map_some, aBin, aInt, wantd_get, evs_cons', evs_nil, evParts_cons, evParts_nil, aFill, over, foldO, aMax2, aMin2, List.length_cons, List.length_nil, List.take_zero, List.take_succ_cons, List.drop_zero, List.drop_succ_cons, List.drop_nil, List.take_nil, List.nil_append, List.cons_append, List.append_nil, BEq.rfl, Bool.and_true, Bool.true_and, Bool.and_false, Bool.false_and, decide_true, decide_false, Nat.reduceLeDiff, Nat.le_refl, Nat.reduceLT, aEq, aEq0, aEqs, ge_iff_le, gt_iff_lt, storeAt, aStore, List.all_cons, List.all_nil, ends, resOf, rvals, Option.some.injEq, exists_eq_left', true_and, and_true, Bool.true_eq_false, beq_true, beq_false, Heap.new_W, Heap.set_W, Heap.new_F0, Heap.set_F0, ↓oNext_eq, ↓o_call, ↓g_nil, ↓g_cons, ↓gNext_eq, ↓gdo_pure, ↓gdo_read, ↓gdo_call, ↓gdo_eff, goV_some, goV_map, SOp.kind, wantd_none, AVal.undef, goF_fn, Reads, okId, or_true, true_or, false_or, false_and, and_false, instOps, List.map_cons, List.map_nil, SOp.inst, resvs, List.flatMap_cons, List.flatMap_nil, SOp.laid, Heap.resv, rE_nil, rE_some, rE_none, sames0, AVal.same0, Int.zero_add, repl, List.replicate_succ, List.replicate_zero, List.flatten_cons, List.flatten_nil, Nat.reduceMul, Int.toNat_natCast, eq_self, Nat.one_mul, Nat.mul_one, Nat.zero_mul, aLenS, aIdx, evO_none, evO_some, aPart, List.length_map, Int.natCast_nonneg, Int.le_refl, Int.toNat_zero, List.isEmpty_cons, Int.reduceLT, Int.reduceLE, Int.reduceToNat, Int.cast_ofNat_Int, aIdxS, ints, aLen_fsl, aLen_nils, aLen_slc, aLen_emp, aLen_emp0, put_set, del_set, lt_next, lt_next_add, lt_next2, lt_next3, hk, h1, h2, rc_gone hj, hg]
    exact ⟨_, fin⟩
  rw [not_mem_bool hgo] at hg
  by_cases h4 : 200 ≤ R.head
  · rw [add_many hgo (by omega) (by omega) h4] at e
    cases e
    have hb4 : ((R.head : Int) == 200) = true := by have : R.head = 200 := by omega
                                                    rw [this]; rfl
    simp only [↓w_seq, ↓w_reg, ↓w_ret, ↓w_draw, ↓w_regA, kNext_bar, ↓w_skip, ↓w_block, ↓w_exit, ↓w_cond_go, ↓thn_normal, ↓thn_ret, ↓thn_exit, ↓inBlk_normal, ↓inBlk_ret, ↓inBlk_exit, ↓o_nil, ↓o_plain, ↓o_guard, bOf, ne_eq, reduceCtorEq, not_false_eq_true, implies_true, Frame.ofArgs, aop, ev_tmp, ev_lit, go1_some, go1_map, goM_some, goG_true, goG_false, putO_some, putO_none, Frame.get_put, Nat.reduceEqDiff, ↓reduceIte, Nat.reduceAdd, Nat.zero_add, AVal.isRaw, AVal.cells, AVal.isCell, Bool.false_eq_true, Bool.not_false, Bool.not_true, Heap.get_new, Heap.get_set, Heap.new_next, Heap.set_next, Heap.bare, bare_next, aLoad, cell_new, cellsFrom, List.getElem?_cons_zero, List.getElem?_cons_succ, Option.map_some, aBin, aInt, wantd_get, evs_cons', evs_nil, evParts_cons, evParts_nil, aFill, over, foldO, aMax2, aMin2, List.length_cons, List.length_nil, List.take_zero, List.take_succ_cons, List.drop_zero, List.drop_succ_cons, List.drop_nil, List.take_nil, List.nil_append, List.cons_append, List.append_nil, BEq.rfl, Bool.and_true, Bool.true_and, Bool.and_false, Bool.false_and, decide_true, decide_false, Nat.reduceLeDiff, Nat.le_refl, Nat.reduceLT, aEq, aEq0, aEqs, ge_iff_le, gt_iff_lt, storeAt, aStore, List.all_cons, List.all_nil, ends, resOf, rvals, Option.some.injEq, exists_eq_left', true_and, and_true, Bool.true_eq_false, beq_true, beq_false, Heap.new_W, Heap.set_W, Heap.new_F0, Heap.set_F0, ↓oNext_eq, ↓o_call, ↓g_nil, ↓g_cons, ↓gNext_eq, ↓gdo_pure, ↓gdo_read, ↓gdo_call, ↓gdo_eff, goV_some, goV_map, SOp.kind, wantd_none, AVal.undef, goF_fn, Reads, okId, or_true, true_or, false_or, false_and, and_false, instOps, List.map_cons, List.map_nil, SOp.inst, resvs, List.flatMap_cons, List.flatMap_nil, SOp.laid, Heap.resv, rE_nil, rE_some, rE_none, sames0, AVal.same0, Int.zero_add, repl, List.replicate_succ, List.replicate_zero, List.flatten_cons, List.flatten_nil, Nat.reduceMul, Int.toNat_natCast, eq_self, Nat.one_mul, Nat.mul_one, Nat.zero_mul, aLenS, aIdx, evO_none, evO_some, aPart, List.length_map, Int.natCast_nonneg, Int.le_refl, Int.toNat_zero, List.isEmpty_cons, Int.reduceLT, Int.reduceLE, Int.reduceToNat, Int.cast_ofNat_Int, aIdxS, ints, aLen_fsl, aLen_nils, aLen_slc, aLen_emp, aLen_emp0, put_set, del_set, lt_next, lt_next_add, lt_next2, lt_next3, hk, h1, h2, rc_gone hj, rc_0, hg, hb4]
    exact ⟨_, fin⟩
  · rw [add_good hgo (by omega) (by omega) (by omega)] at e
    cases e
    have hb4 : ((R.head : Int) == 200) = false := by simp; omega
    have hP := h.sethas hj hgo
    obtain ⟨K, cap, x, e1, e2, e3, e4⟩ := hP.last
    have hle : decide (2 + j + 1 ≤ 123) = true := by simp; omega
    have hle2 : decide (2 + j ≤ 122) = true := by simp; omega
    have hhd : (R.head : Int) < ((R.head + 1 : Nat) : Int) := by omega
    have hx := e3.cells.2.2
    have hrise : Rise R.top := h.ok.top.2.1
    have hnx := rnext_spec hP (show R.head < 200 by omega) e3 hrise
    subst e1
    have hKk := h.ne _ _ _ _ rfl
    have e2' : Revs.head { R with grp := insS (j : Int) R.grp } = R.head := rfl
    rw [e2'] at e2
    have e2'' := e2
    simp only [Heap.cell, Heap.get_set, if_neg (show ¬ k = K from fun e => hKk e.symm)] at e2''
    simp only [↓w_seq, ↓w_reg, ↓w_ret, ↓w_draw, ↓w_regA, kNext_bar, ↓w_skip, ↓w_block, ↓w_exit, ↓w_cond_go, ↓thn_normal, ↓thn_ret, ↓thn_exit, ↓inBlk_normal, ↓inBlk_ret, ↓inBlk_exit, ↓o_nil, ↓o_plain, ↓o_guard, bOf, ne_eq, reduceCtorEq, not_false_eq_true, implies_true, Frame.ofArgs, aop, ev_tmp, ev_lit, go1_some, go1_map, goM_some, goG_true, goG_false, putO_some, putO_none, Frame.get_put, Nat.reduceEqDiff, ↓reduceIte, Nat.reduceAdd, Nat.zero_add, AVal.isRaw, AVal.cells, AVal.isCell, Bool.false_eq_true, Bool.not_false, Bool.not_true, Heap.get_new, Heap.get_set, Heap.new_next, Heap.set_next, Heap.bare, bare_next, aLoad, cell_new, cellsFrom, List.getElem?_cons_zero, List.getElem?_cons_succ, Option.map_some, aBin, aInt, wantd_get, evs_cons', evs_nil, evParts_cons, evParts_nil, aFill, over, foldO, aMax2, aMin2, List.length_cons, List.length_nil, List.take_zero, List.take_succ_cons, List.drop_zero, List.drop_succ_cons, List.drop_nil, List.take_nil, List.nil_append, List.cons_append, List.append_nil, BEq.rfl, Bool.and_true, Bool.true_and, Bool.and_false, Bool.false_and, decide_true, decide_false, Nat.reduceLeDiff, Nat.le_refl, Nat.reduceLT, aEq, aEq0, aEqs, ge_iff_le, gt_iff_lt, storeAt, aStore, List.all_cons, List.all_nil, ends, resOf, rvals, Option.some.injEq, exists_eq_left', true_and, and_true, Bool.true_eq_false, beq_true, beq_false, Heap.new_W, Heap.set_W, Heap.new_F0, Heap.set_F0, ↓oNext_eq, ↓o_call, ↓g_nil, ↓g_cons, ↓gNext_eq, ↓gdo_pure, ↓gdo_read, ↓gdo_call, ↓gdo_eff, goV_some, goV_map, SOp.kind, wantd_none, AVal.undef, goF_fn, Reads, okId, or_true, true_or, false_or, false_and, and_false, instOps, List.map_cons, List.map_nil, SOp.inst, resvs, List.flatMap_cons, List.flatMap_nil, SOp.laid, Heap.resv, rE_nil, rE_some, rE_none, sames0, AVal.same0, Int.zero_add, repl, List.replicate_succ, List.replicate_zero, List.flatten_cons, List.flatten_nil, Nat.reduceMul, Int.toNat_natCast, eq_self, Nat.one_mul, Nat.mul_one, Nat.zero_mul, aLenS, aIdx, evO_none, evO_some, aPart, List.length_map, Int.natCast_nonneg, Int.le_refl, Int.toNat_zero, List.isEmpty_cons, Int.reduceLT, Int.reduceLE, Int.reduceToNat, Int.cast_ofNat_Int, aIdxS, ints, aLen_fsl, aLen_nils, aLen_slc, aLen_emp, aLen_emp0, put_set, del_set, lt_next, lt_next_add, lt_next2, lt_next3, hk, h1, h2, rc_gone hj, rc_0, hg, hb4, rc_sethas hj, rc_len, hle, hle2]
    with_reducible refine draw_of_grow (fun _ => True) (ms := [false, false, false, false, true, false, false, false, true, false, true, true, false, false]) (by kernel_rfl) ?_
    simp only [↓w_seq, ↓w_reg, ↓w_ret, ↓w_draw, ↓w_regA, kNext_bar, ↓w_skip, ↓w_block, ↓w_exit, ↓w_cond_go, ↓thn_normal, ↓thn_ret, ↓thn_exit, ↓inBlk_normal, ↓inBlk_ret, ↓inBlk_exit, ↓o_nil, ↓o_plain, ↓o_guard, bOf, ne_eq, reduceCtorEq, not_false_eq_true, implies_true, Frame.ofArgs, aop, ev_tmp, ev_lit, go1_some, go1_map, goM_some, goG_true, goG_false, putO_some, putO_none, Frame.get_put, Nat.reduceEqDiff, ↓reduceIte, Nat.reduceAdd, Nat.zero_add, AVal.isRaw, AVal.cells, AVal.isCell, Bool.false_eq_true, Bool.not_false, Bool.not_true, Heap.get_new, Heap.get_set, Heap.new_next, Heap.set_next, Heap.bare, bare_next, aLoad, cell_new, cellsFrom, List.getElem?_cons_zero, List.getElem?_cons_succ, Option.map_some, aBin, aInt, wantd_get, evs_cons', evs_nil, evParts_cons, evParts_nil, aFill, over, foldO, aMax2, aMin2, List.length_cons, List.length_nil, List.take_zero, List.take_succ_cons, List.drop_zero, List.drop_succ_cons, List.drop_nil, List.take_nil, List.nil_append, List.cons_append, List.append_nil, BEq.rfl, Bool.and_true, Bool.true_and, Bool.and_false, Bool.false_and, decide_true, decide_false, Nat.reduceLeDiff, Nat.le_refl, Nat.reduceLT, aEq, aEq0, aEqs, ge_iff_le, gt_iff_lt, storeAt, aStore, List.all_cons, List.all_nil, ends, resOf, rvals, Option.some.injEq, exists_eq_left', true_and, and_true, Bool.true_eq_false, beq_true, beq_false, Heap.new_W, Heap.set_W, Heap.new_F0, Heap.set_F0, ↓oNext_eq, ↓o_call, ↓g_nil, ↓g_cons, ↓gNext_eq, ↓gdo_pure, ↓gdo_read, ↓gdo_call, ↓gdo_eff, goV_some, goV_map, SOp.kind, wantd_none, AVal.undef, goF_fn, Reads, okId, or_true, true_or, false_or, false_and, and_false, instOps, List.map_cons, List.map_nil, SOp.inst, resvs, List.flatMap_cons, List.flatMap_nil, SOp.laid, Heap.resv, rE_nil, rE_some, rE_none, sames0, AVal.same0, Int.zero_add, repl, List.replicate_succ, List.replicate_zero, List.flatten_cons, List.flatten_nil, Nat.reduceMul, Int.toNat_natCast, eq_self, Nat.one_mul, Nat.mul_one, Nat.zero_mul, aLenS, aIdx, evO_none, evO_some, aPart, List.length_map, Int.natCast_nonneg, Int.le_refl, Int.toNat_zero, List.isEmpty_cons, Int.reduceLT, Int.reduceLE, Int.reduceToNat, Int.cast_ofNat_Int, aIdxS, ints, aLen_fsl, aLen_nils, aLen_slc, aLen_emp, aLen_emp0, put_set, del_set, lt_next, lt_next_add, lt_next2, lt_next3, hk, rc_u, rc_0, e2', hhd, e2, e2'', hx]
    refine hnx.mono ?_
    rintro v τ ⟨rfl, u', els', hA, hK, hF⟩
    simp only [↓w_seq, ↓w_reg, ↓w_ret, ↓w_draw, ↓w_regA, kNext_bar, ↓w_skip, ↓w_block, ↓w_exit, ↓w_cond_go, ↓thn_normal, ↓thn_ret, ↓thn_exit, ↓inBlk_normal, ↓inBlk_ret, ↓inBlk_exit, ↓o_nil, ↓o_plain, ↓o_guard, bOf, ne_eq, reduceCtorEq, not_false_eq_true, implies_true, Frame.ofArgs, aop, ev_tmp, ev_lit, go1_some, go1_map, goM_some, goG_true, goG_false, putO_some, putO_none, Frame.get_put, Nat.reduceEqDiff, ↓reduceIte, Nat.reduceAdd, Nat.zero_add, AVal.isRaw, AVal.cells, AVal.isCell, Bool.false_eq_true, Bool.not_false, Bool.not_true, Heap.get_new, Heap.get_set, Heap.new_next, Heap.set_next, Heap.bare, bare_next, aLoad, cell_new, cellsFrom, List.getElem?_cons_zero, List.getElem?_cons_succ, Option.map_some, aBin, aInt, wantd_get, evs_cons', evs_nil, evParts_cons, evParts_nil, aFill, over, foldO, aMax2, aMin2, List.length_cons, List.length_nil, List.take_zero, List.take_succ_cons, List.drop_zero, List.drop_succ_cons, List.drop_nil, List.take_nil, List.nil_append, List.cons_append, List.append_nil, BEq.rfl, Bool.and_true, Bool.true_and, Bool.and_false, Bool.false_and, decide_true, decide_false, Nat.reduceLeDiff, Nat.le_refl, Nat.reduceLT, aEq, aEq0, aEqs, ge_iff_le, gt_iff_lt, storeAt, aStore, List.all_cons, List.all_nil, ends, resOf, rvals, Option.some.injEq, exists_eq_left', true_and, and_true, Bool.true_eq_false, beq_true, beq_false, Heap.new_W, Heap.set_W, Heap.new_F0, Heap.set_F0, ↓oNext_eq, ↓o_call, ↓g_nil, ↓g_cons, ↓gNext_eq, ↓gdo_pure, ↓gdo_read, ↓gdo_call, ↓gdo_eff, goV_some, goV_map, SOp.kind, wantd_none, AVal.undef, goF_fn, Reads, okId, or_true, true_or, false_or, false_and, and_false, instOps, List.map_cons, List.map_nil, SOp.inst, resvs, List.flatMap_cons, List.flatMap_nil, SOp.laid, Heap.resv, rE_nil, rE_some, rE_none, sames0, AVal.same0, Int.zero_add, repl, List.replicate_succ, List.replicate_zero, List.flatten_cons, List.flatten_nil, Nat.reduceMul, Int.toNat_natCast, eq_self, Nat.one_mul, Nat.mul_one, Nat.zero_mul, aLenS, aIdx, evO_none, evO_some, aPart, List.length_map, Int.natCast_nonneg, Int.le_refl, Int.toNat_zero, List.isEmpty_cons, Int.reduceLT, Int.reduceLE, Int.reduceToNat, Int.cast_ofNat_Int, aIdxS, ints, aLen_fsl, aLen_nils, aLen_slc, aLen_emp, aLen_emp0, put_set, del_set, lt_next, lt_next_add, lt_next2, lt_next3]
    refine ⟨by rfl, _, ⟨_, _, _, hA, rfl⟩, ?_, hF⟩
    exact ((Keep.refl (k :: uid _) σ).set (.inl (by simp)) _).trans hK (fun x hx => .inl hx)
end
end Go.Proofs.Ytaakajfmbjjigaa.M
