/- A part of the seat's proofs over the abstract machine. No condition. -/
import Derived.Test.YtaakajfmbjjigaaR1
set_option linter.unusedSimpArgs false
set_option linter.unusedVariables false
set_option maxRecDepth 100000
namespace Go.Proofs.Ytaakajfmbjjigaa.M
open Go Go.Mini
attribute [local congr] go1_congr goM_congr goG_congr goV_congr drawwp_congr
def addR (R : Revs) (g : Int) : Revs × Int × Int :=
  if g ∈ R.gone ∨ g < 0 ∨ 60 ≤ g then (R, 0, 210) else if 200 ≤ R.head then (R, 0, 70) else ({ R.push R.top with grp := insS g R.grp }, (R.head : Int) + 1, 0)
def flip (g : Int) (s : List Int) : List Int := if g ∈ s then s.erase g else insS g s
def toggleR (R : Revs) (g : Int) : Revs × Int × Int :=
  if g ∉ R.grp then (R, 0, 210) else if 200 ≤ R.head then (R, 0, 70) else (R.push (flip g R.top), (R.head : Int) + 1, 0)
section
variable {σ : Heap} {k : Nat} {R : Revs} {K : Nat} {cap : Cap} {ms : List Nat} {mg mf : Nat}
theorem RevsAt.junk (h : RevsAt σ k R K cap ms mg mf) (b c : ABlk) : RevsAt ((σ.new b).set σ.next c) k R K cap ms mg mf :=
  h.at (by simp) rfl fun q hq => by have := h.low q hq; rw [Heap.get_set, if_neg (by omega), Heap.get_new, if_neg (by omega)]
theorem RevsAt.new (h : RevsAt σ k R K cap ms mg mf) (b : ABlk) : RevsAt (σ.new b) k R K cap ms mg mf :=
  h.at (by simp) rfl fun q hq => by have := h.low q hq; rw [Heap.get_new, if_neg (by omega)]
theorem Row1.set {j : Nat} (h : SetRow σ K cap ms) (hj : j ≠ K) (b : ABlk) : SetRow (σ.set j b) K cap ms := by
  obtain ⟨cs, opn, h1, h2⟩ := h; exact ⟨cs, opn, by rw [Heap.get_set, if_neg hj]; exact h1, h2⟩
theorem RevsAt.setGrp (h : RevsAt σ k R K cap ms mg mf) {l : List Int} (hl : Rise l) : RevsAt (σ.set mg (.map (uents l))) k { R with grp := l } K cap ms mg mf := by
  have hnd := h.nodup
  simp only [List.nodup_cons, List.mem_cons, not_or] at hnd
  refine ⟨?_, Row1.set h.row (fun e => hnd.2.1.1 e.symm) _, h.len, fun i m s h1 h2 => ?_, by rw [Heap.get_set, if_pos rfl], ?_, h.nodup, h.low, ⟨h.ok.one, h.ok.few, h.ok.rise, hl, h.ok.gone⟩, h.dr⟩
  · rw [Heap.get_set, if_neg (fun e => hnd.1.2.1 e.symm)]; exact h.blk
  · rw [Heap.get_set, if_neg (fun e => by subst e; exact hnd.2.2.1.2 (List.mem_of_getElem? h1))]; exact h.maps i m s h1 h2
  · rw [Heap.get_set, if_neg (fun e => hnd.2.2.1.1 e)]; exact h.gone
theorem RevsAt.setGone (h : RevsAt σ k R K cap ms mg mf) {l : List Int} (hl : Rise l) : RevsAt (σ.set mf (.map (uents l))) k { R with gone := l } K cap ms mg mf := by
  have hnd := h.nodup
  simp only [List.nodup_cons, List.mem_cons, not_or] at hnd
  refine ⟨?_, Row1.set h.row (fun e => hnd.2.1.2.1 e.symm) _, h.len, fun i m s h1 h2 => ?_, ?_, by rw [Heap.get_set, if_pos rfl], h.nodup, h.low, ⟨h.ok.one, h.ok.few, h.ok.rise, h.ok.grp, hl⟩, h.dr⟩
  · rw [Heap.get_set, if_neg (fun e => hnd.1.2.2.1 e.symm)]; exact h.blk
  · rw [Heap.get_set, if_neg (fun e => by subst e; exact hnd.2.2.2.1 (List.mem_of_getElem? h1))]; exact h.maps i m s h1 h2
  · rw [Heap.get_set, if_neg (fun e => hnd.2.2.1.1 e.symm)]; exact h.grp
theorem nodup_last {l : List Nat} (h : l.Nodup) {i j x : Nat} (hi : l[i]? = some x) (hj : l[j]? = some x) : i = j := by
  obtain ⟨h1, e1⟩ := List.getElem?_eq_some_iff.1 hi
  obtain ⟨h2, e2⟩ := List.getElem?_eq_some_iff.1 hj
  have hp := List.pairwise_iff_getElem.1 h
  rcases Nat.lt_trichotomy i j with hij | hij | hij
  · exact absurd (e1.trans e2.symm) (hp i j h1 h2 hij)
  · exact hij
  · exact absurd (e2.trans e1.symm) (hp j i h2 h1 hij)
/-- the latest set becomes another one -/
theorem RevsAt.setTop {s0 s : List Int} {q : Nat} (h : RevsAt σ k (R.push s0) K cap (ms ++ [q]) mg mf) (hs : Rise s) : RevsAt (σ.set q (.map (uents s))) k (R.push s) K cap (ms ++ [q]) mg mf := by
  have hnd := h.nodup
  simp only [List.nodup_cons, List.mem_cons, List.mem_append, not_or, List.not_mem_nil, not_false_eq_true, and_true] at hnd
  have hl : ms.length = R.und.length := by have := h.len; simp [Revs.push] at this; exact this
  refine ⟨?_, Row1.set h.row (fun e => hnd.2.1.2.2.2 e.symm) _, by simp [Revs.push, hl], fun i m s' h1 h2 => ?_, ?_, ?_, h.nodup, h.low, ⟨by simp [Revs.push], by simpa [Revs.push] using h.ok.few, ?_, h.ok.grp, h.ok.gone⟩, h.dr⟩
  · rw [Heap.get_set, if_neg (fun e => hnd.1.2.2.2.2 e.symm)]; exact h.blk
  · have hnm : (ms ++ [q]).Nodup := hnd.2.2.2.2
    by_cases hi : i = ms.length
    · subst hi
      simp only [List.getElem?_concat_length, Option.some.injEq] at h1
      simp only [Revs.push] at h2
      rw [hl] at h2
      simp only [List.getElem?_concat_length, Option.some.injEq] at h2
      subst h1; subst h2
      rw [Heap.get_set, if_pos rfl]
    · have hilt : i < ms.length := by have := (List.getElem?_eq_some_iff.1 h1).1; simp at this; omega
      have hq : q ≠ m := fun e => by
        subst e; exact hi (nodup_last hnm h1 (by simp))
      rw [Heap.get_set, if_neg hq]
      refine h.maps i m s' h1 ?_
      simp only [Revs.push] at h2 ⊢
      rw [List.getElem?_append_left (by omega)] at h2 ⊢
      exact h2
  · rw [Heap.get_set, if_neg (fun e => hnd.2.2.1.2.2 e.symm)]; exact h.grp
  · rw [Heap.get_set, if_neg (fun e => hnd.2.2.2.1.2 e.symm)]; exact h.gone
  · intro x hx
    simp only [Revs.push, List.mem_append, List.mem_singleton] at hx
    rcases hx with hx | rfl
    · exact h.ok.rise x (by simp [Revs.push, hx])
    · exact hs
theorem head_push (s : List Int) (h : R.und ≠ []) : (R.push s).head = R.head + 1 := by
  have := List.length_pos_iff.2 h
  simp only [Revs.head, Revs.push, List.length_append, List.length_cons, List.length_nil]; omega
end
theorem Keep.junk {fp : List Nat} {σ τ : Heap} (h : Keep fp σ τ) (b c : ABlk) : Keep fp σ ((τ.new b).set τ.next c) := (h.new b).set (.inr h.2.2.1) c
theorem mem_bool {g : Int} {l : List Int} (h : g ∈ l) : decide (g ∈ l) = true := by simpa using h
theorem not_mem_bool {g : Int} {l : List Int} (h : g ∉ l) : decide (g ∈ l) = false := by simpa using h
set_option maxHeartbeats 1000000 in
theorem add_spec {σ : Heap} {k : Nat} {R : Revs} {fp : List Nat} (h : IsRevs σ k R fp) (g : Int) : MSpec Try.prog n_rev_Revs_Add [.ptr (.new k) 0, .int .i64 g] σ fun v τ => v = .tup [.int .i64 (addR R g).2.1, .int .i64 (addR R g).2.2] ∧ ∃ fp', IsRevs τ k (addR R g).1 fp' ∧ Keep fp σ τ ∧ Fresh fp σ fp' := by
  obtain ⟨K, cap, ms, mg, mf, h, rfl⟩ := h
  have hk := h.blk
  have hf := h.gone
  have hkl := h.low k (by simp)
  refine spec_of_awp mixed c_rev_Revs_Add (Nat.le_of_ble_eq_true rfl) ?_
  unfold f_rev_Revs_Add
  have hbad : (g ∈ R.gone ∨ g < 0 ∨ 60 ≤ g) → addR R g = (R, 0, 210) := fun hb => by simp only [addR, if_pos hb]
  have fin : IsRevs ((σ.new (.cells [] none)).set σ.next (.cells [] none)) k R (k :: K :: mg :: mf :: ms) ∧ Keep (k :: K :: mg :: mf :: ms) σ ((σ.new (.cells [] none)).set σ.next (.cells [] none)) ∧ Fresh (k :: K :: mg :: mf :: ms) σ (k :: K :: mg :: mf :: ms) :=
    ⟨⟨K, cap, ms, mg, mf, h.junk _ _, rfl⟩, (Keep.refl _ _).junk _ _, fun x hx => .inl hx⟩
  by_cases h1 : g ∈ R.gone
  · rw [hbad (.inl h1)]
    simp only [↓w_seq, ↓w_reg, ↓w_ret, ↓w_draw, ↓w_regA, kNext_bar, ↓w_skip, ↓w_block, ↓w_exit, ↓w_cond_go, ↓thn_normal, ↓thn_ret, ↓thn_exit, ↓inBlk_normal, ↓inBlk_ret, ↓inBlk_exit, ↓o_nil, ↓o_plain, ↓o_guard, bOf, ne_eq, reduceCtorEq, not_false_eq_true, implies_true, Frame.ofArgs, aop, ev_tmp, ev_lit, go1_some, go1_map, goM_some, goG_true, goG_false, putO_some, putO_none, Frame.get_put, Nat.reduceEqDiff, ↓reduceIte, Nat.reduceAdd, Nat.zero_add, AVal.isRaw, AVal.cells, AVal.isCell, Bool.false_eq_true, Bool.not_false, Bool.not_true, Heap.get_new, Heap.get_set, Heap.new_next, Heap.set_next, Heap.bare, bare_next, aLoad, cell_new, cellsFrom, List.getElem?_cons_zero, List.getElem?_cons_succ, Option.map_some, aBin, aInt, wantd_get, evs_cons', evs_nil, evParts_cons, evParts_nil, aFill, over, foldO, aMax2, aMin2, List.length_cons, List.length_nil, List.take_zero, List.take_succ_cons, List.drop_zero, List.drop_succ_cons, List.drop_nil, List.take_nil, List.nil_append, List.cons_append, List.append_nil, BEq.rfl, Bool.and_true, Bool.true_and, Bool.and_false, Bool.false_and, decide_true, decide_false, Nat.reduceLeDiff, Nat.le_refl, Nat.reduceLT, aEq, aEq0, aEqs, ge_iff_le, gt_iff_lt, storeAt, aStore, List.all_cons, List.all_nil, ends, resOf, rvals, Option.some.injEq, exists_eq_left', true_and, and_true, Bool.true_eq_false, beq_true, beq_false, Heap.new_W, Heap.set_W, Heap.new_F0, Heap.set_F0, ↓oNext_eq, ↓o_call, ↓g_nil, ↓g_cons, ↓gNext_eq, ↓gdo_pure, ↓gdo_read, ↓gdo_call, ↓gdo_eff, goV_some, goV_map, SOp.kind, wantd_none, AVal.undef, goF_fn, Reads, okId, or_true, true_or, false_or, false_and, and_false, instOps, List.map_cons, List.map_nil, SOp.inst, resvs, List.flatMap_cons, List.flatMap_nil, SOp.laid, Heap.resv, rE_nil, rE_some, rE_none, sames0, AVal.same0, Int.zero_add, repl, List.replicate_succ, List.replicate_zero, List.flatten_cons, List.flatten_nil, Nat.reduceMul, Int.toNat_natCast, eq_self, Nat.one_mul, Nat.mul_one, Nat.zero_mul, aLenS, aIdx, evO_none, evO_some, aPart, List.length_map, Int.natCast_nonneg, Int.le_refl, Int.toNat_zero, List.isEmpty_cons, Int.reduceLT, Int.reduceLE, Int.reduceToNat, Int.cast_ofNat_Int, aIdxS, ints, aLen_fsl, aLen_nils, aLen_slc, aLen_emp, aLen_emp0, put_set, del_set, lt_next, lt_next_add, lt_next2, lt_next3, hk, look_set (g := g) hf, mem_bool h1]
    exact ⟨_, fin⟩
  by_cases h2 : g < 0
  · rw [hbad (.inr (.inl h2))]
    simp only [↓w_seq, ↓w_reg, ↓w_ret, ↓w_draw, ↓w_regA, kNext_bar, ↓w_skip, ↓w_block, ↓w_exit, ↓w_cond_go, ↓thn_normal, ↓thn_ret, ↓thn_exit, ↓inBlk_normal, ↓inBlk_ret, ↓inBlk_exit, ↓o_nil, ↓o_plain, ↓o_guard, bOf, ne_eq, reduceCtorEq, not_false_eq_true, implies_true, Frame.ofArgs, aop, ev_tmp, ev_lit, go1_some, go1_map, goM_some, goG_true, goG_false, putO_some, putO_none, Frame.get_put, Nat.reduceEqDiff, ↓reduceIte, Nat.reduceAdd, Nat.zero_add, AVal.isRaw, AVal.cells, AVal.isCell, Bool.false_eq_true, Bool.not_false, Bool.not_true, Heap.get_new, Heap.get_set, Heap.new_next, Heap.set_next, Heap.bare, bare_next, aLoad, cell_new, cellsFrom, List.getElem?_cons_zero, List.getElem?_cons_succ, Option.map_some, aBin, aInt, wantd_get, evs_cons', evs_nil, evParts_cons, evParts_nil, aFill, over, foldO, aMax2, aMin2, List.length_cons, List.length_nil, List.take_zero, List.take_succ_cons, List.drop_zero, List.drop_succ_cons, List.drop_nil, List.take_nil, List.nil_append, List.cons_append, List.append_nil, BEq.rfl, Bool.and_true, Bool.true_and, Bool.and_false, Bool.false_and, decide_true, decide_false, Nat.reduceLeDiff, Nat.le_refl, Nat.reduceLT, aEq, aEq0, aEqs, ge_iff_le, gt_iff_lt, storeAt, aStore, List.all_cons, List.all_nil, ends, resOf, rvals, Option.some.injEq, exists_eq_left', true_and, and_true, Bool.true_eq_false, beq_true, beq_false, Heap.new_W, Heap.set_W, Heap.new_F0, Heap.set_F0, ↓oNext_eq, ↓o_call, ↓g_nil, ↓g_cons, ↓gNext_eq, ↓gdo_pure, ↓gdo_read, ↓gdo_call, ↓gdo_eff, goV_some, goV_map, SOp.kind, wantd_none, AVal.undef, goF_fn, Reads, okId, or_true, true_or, false_or, false_and, and_false, instOps, List.map_cons, List.map_nil, SOp.inst, resvs, List.flatMap_cons, List.flatMap_nil, SOp.laid, Heap.resv, rE_nil, rE_some, rE_none, sames0, AVal.same0, Int.zero_add, repl, List.replicate_succ, List.replicate_zero, List.flatten_cons, List.flatten_nil, Nat.reduceMul, Int.toNat_natCast, eq_self, Nat.one_mul, Nat.mul_one, Nat.zero_mul, aLenS, aIdx, evO_none, evO_some, aPart, List.length_map, Int.natCast_nonneg, Int.le_refl, Int.toNat_zero, List.isEmpty_cons, Int.reduceLT, Int.reduceLE, Int.reduceToNat, Int.cast_ofNat_Int, aIdxS, ints, aLen_fsl, aLen_nils, aLen_slc, aLen_emp, aLen_emp0, put_set, del_set, lt_next, lt_next_add, lt_next2, lt_next3, hk, look_set (g := g) hf, not_mem_bool h1, h2]
    exact ⟨_, fin⟩
  by_cases h3 : 60 ≤ g
  · rw [hbad (.inr (.inr h3))]
    simp only [↓w_seq, ↓w_reg, ↓w_ret, ↓w_draw, ↓w_regA, kNext_bar, ↓w_skip, ↓w_block, ↓w_exit, ↓w_cond_go, ↓thn_normal, ↓thn_ret, ↓thn_exit, ↓inBlk_normal, ↓inBlk_ret, ↓inBlk_exit, ↓o_nil, ↓o_plain, ↓o_guard, bOf, ne_eq, reduceCtorEq, not_false_eq_true, implies_true, Frame.ofArgs, aop, ev_tmp, ev_lit, go1_some, go1_map, goM_some, goG_true, goG_false, putO_some, putO_none, Frame.get_put, Nat.reduceEqDiff, ↓reduceIte, Nat.reduceAdd, Nat.zero_add, AVal.isRaw, AVal.cells, AVal.isCell, Bool.false_eq_true, Bool.not_false, Bool.not_true, Heap.get_new, Heap.get_set, Heap.new_next, Heap.set_next, Heap.bare, bare_next, aLoad, cell_new, cellsFrom, List.getElem?_cons_zero, List.getElem?_cons_succ, Option.map_some, aBin, aInt, wantd_get, evs_cons', evs_nil, evParts_cons, evParts_nil, aFill, over, foldO, aMax2, aMin2, List.length_cons, List.length_nil, List.take_zero, List.take_succ_cons, List.drop_zero, List.drop_succ_cons, List.drop_nil, List.take_nil, List.nil_append, List.cons_append, List.append_nil, BEq.rfl, Bool.and_true, Bool.true_and, Bool.and_false, Bool.false_and, decide_true, decide_false, Nat.reduceLeDiff, Nat.le_refl, Nat.reduceLT, aEq, aEq0, aEqs, ge_iff_le, gt_iff_lt, storeAt, aStore, List.all_cons, List.all_nil, ends, resOf, rvals, Option.some.injEq, exists_eq_left', true_and, and_true, Bool.true_eq_false, beq_true, beq_false, Heap.new_W, Heap.set_W, Heap.new_F0, Heap.set_F0, ↓oNext_eq, ↓o_call, ↓g_nil, ↓g_cons, ↓gNext_eq, ↓gdo_pure, ↓gdo_read, ↓gdo_call, ↓gdo_eff, goV_some, goV_map, SOp.kind, wantd_none, AVal.undef, goF_fn, Reads, okId, or_true, true_or, false_or, false_and, and_false, instOps, List.map_cons, List.map_nil, SOp.inst, resvs, List.flatMap_cons, List.flatMap_nil, SOp.laid, Heap.resv, rE_nil, rE_some, rE_none, sames0, AVal.same0, Int.zero_add, repl, List.replicate_succ, List.replicate_zero, List.flatten_cons, List.flatten_nil, Nat.reduceMul, Int.toNat_natCast, eq_self, Nat.one_mul, Nat.mul_one, Nat.zero_mul, aLenS, aIdx, evO_none, evO_some, aPart, List.length_map, Int.natCast_nonneg, Int.le_refl, Int.toNat_zero, List.isEmpty_cons, Int.reduceLT, Int.reduceLE, Int.reduceToNat, Int.cast_ofNat_Int, aIdxS, ints, aLen_fsl, aLen_nils, aLen_slc, aLen_emp, aLen_emp0, put_set, del_set, lt_next, lt_next_add, lt_next2, lt_next3, hk, look_set (g := g) hf, not_mem_bool h1, h2, h3]
    exact ⟨_, fin⟩
  have hnb : ¬ (g ∈ R.gone ∨ g < 0 ∨ 60 ≤ g) := by rintro (h | h | h); exact h1 h; exact h2 h; exact h3 h
  have hj := h.junk (.cells [] none) (.cells [] none)
  by_cases h4 : 200 ≤ R.head
  · have : addR R g = (R, 0, 70) := by simp only [addR, if_neg hnb, if_pos h4]
    rw [this]
    simp only [↓w_seq, ↓w_reg, ↓w_ret, ↓w_draw, ↓w_regA, kNext_bar, ↓w_skip, ↓w_block, ↓w_exit, ↓w_cond_go, ↓thn_normal, ↓thn_ret, ↓thn_exit, ↓inBlk_normal, ↓inBlk_ret, ↓inBlk_exit, ↓o_nil, ↓o_plain, ↓o_guard, bOf, ne_eq, reduceCtorEq, not_false_eq_true, implies_true, Frame.ofArgs, aop, ev_tmp, ev_lit, go1_some, go1_map, goM_some, goG_true, goG_false, putO_some, putO_none, Frame.get_put, Nat.reduceEqDiff, ↓reduceIte, Nat.reduceAdd, Nat.zero_add, AVal.isRaw, AVal.cells, AVal.isCell, Bool.false_eq_true, Bool.not_false, Bool.not_true, Heap.get_new, Heap.get_set, Heap.new_next, Heap.set_next, Heap.bare, bare_next, aLoad, cell_new, cellsFrom, List.getElem?_cons_zero, List.getElem?_cons_succ, Option.map_some, aBin, aInt, wantd_get, evs_cons', evs_nil, evParts_cons, evParts_nil, aFill, over, foldO, aMax2, aMin2, List.length_cons, List.length_nil, List.take_zero, List.take_succ_cons, List.drop_zero, List.drop_succ_cons, List.drop_nil, List.take_nil, List.nil_append, List.cons_append, List.append_nil, BEq.rfl, Bool.and_true, Bool.true_and, Bool.and_false, Bool.false_and, decide_true, decide_false, Nat.reduceLeDiff, Nat.le_refl, Nat.reduceLT, aEq, aEq0, aEqs, ge_iff_le, gt_iff_lt, storeAt, aStore, List.all_cons, List.all_nil, ends, resOf, rvals, Option.some.injEq, exists_eq_left', true_and, and_true, Bool.true_eq_false, beq_true, beq_false, Heap.new_W, Heap.set_W, Heap.new_F0, Heap.set_F0, ↓oNext_eq, ↓o_call, ↓g_nil, ↓g_cons, ↓gNext_eq, ↓gdo_pure, ↓gdo_read, ↓gdo_call, ↓gdo_eff, goV_some, goV_map, SOp.kind, wantd_none, AVal.undef, goF_fn, Reads, okId, or_true, true_or, false_or, false_and, and_false, instOps, List.map_cons, List.map_nil, SOp.inst, resvs, List.flatMap_cons, List.flatMap_nil, SOp.laid, Heap.resv, rE_nil, rE_some, rE_none, sames0, AVal.same0, Int.zero_add, repl, List.replicate_succ, List.replicate_zero, List.flatten_cons, List.flatten_nil, Nat.reduceMul, Int.toNat_natCast, eq_self, Nat.one_mul, Nat.mul_one, Nat.zero_mul, aLenS, aIdx, evO_none, evO_some, aPart, List.length_map, Int.natCast_nonneg, Int.le_refl, Int.toNat_zero, List.isEmpty_cons, Int.reduceLT, Int.reduceLE, Int.reduceToNat, Int.cast_ofNat_Int, aIdxS, ints, aLen_fsl, aLen_nils, aLen_slc, aLen_emp, aLen_emp0, put_set, del_set, lt_next, lt_next_add, lt_next2, lt_next3, hk, look_set (g := g) hf, not_mem_bool h1, h2, h3]
    refine MSpec.of (next_many hj h4) ?_
    have hb : ((70 : Int) != 0) = true := rfl
    simp only [↓w_seq, ↓w_reg, ↓w_ret, ↓w_draw, ↓w_regA, kNext_bar, ↓w_skip, ↓w_block, ↓w_exit, ↓w_cond_go, ↓thn_normal, ↓thn_ret, ↓thn_exit, ↓inBlk_normal, ↓inBlk_ret, ↓inBlk_exit, ↓o_nil, ↓o_plain, ↓o_guard, bOf, ne_eq, reduceCtorEq, not_false_eq_true, implies_true, Frame.ofArgs, aop, ev_tmp, ev_lit, go1_some, go1_map, goM_some, goG_true, goG_false, putO_some, putO_none, Frame.get_put, Nat.reduceEqDiff, ↓reduceIte, Nat.reduceAdd, Nat.zero_add, AVal.isRaw, AVal.cells, AVal.isCell, Bool.false_eq_true, Bool.not_false, Bool.not_true, Heap.get_new, Heap.get_set, Heap.new_next, Heap.set_next, Heap.bare, bare_next, aLoad, cell_new, cellsFrom, List.getElem?_cons_zero, List.getElem?_cons_succ, Option.map_some, aBin, aInt, wantd_get, evs_cons', evs_nil, evParts_cons, evParts_nil, aFill, over, foldO, aMax2, aMin2, List.length_cons, List.length_nil, List.take_zero, List.take_succ_cons, List.drop_zero, List.drop_succ_cons, List.drop_nil, List.take_nil, List.nil_append, List.cons_append, List.append_nil, BEq.rfl, Bool.and_true, Bool.true_and, Bool.and_false, Bool.false_and, decide_true, decide_false, Nat.reduceLeDiff, Nat.le_refl, Nat.reduceLT, aEq, aEq0, aEqs, ge_iff_le, gt_iff_lt, storeAt, aStore, List.all_cons, List.all_nil, ends, resOf, rvals, Option.some.injEq, exists_eq_left', true_and, and_true, Bool.true_eq_false, beq_true, beq_false, Heap.new_W, Heap.set_W, Heap.new_F0, Heap.set_F0, ↓oNext_eq, ↓o_call, ↓g_nil, ↓g_cons, ↓gNext_eq, ↓gdo_pure, ↓gdo_read, ↓gdo_call, ↓gdo_eff, goV_some, goV_map, SOp.kind, wantd_none, AVal.undef, goF_fn, Reads, okId, or_true, true_or, false_or, false_and, and_false, instOps, List.map_cons, List.map_nil, SOp.inst, resvs, List.flatMap_cons, List.flatMap_nil, SOp.laid, Heap.resv, rE_nil, rE_some, rE_none, sames0, AVal.same0, Int.zero_add, repl, List.replicate_succ, List.replicate_zero, List.flatten_cons, List.flatten_nil, Nat.reduceMul, Int.toNat_natCast, eq_self, Nat.one_mul, Nat.mul_one, Nat.zero_mul, aLenS, aIdx, evO_none, evO_some, aPart, List.length_map, Int.natCast_nonneg, Int.le_refl, Int.toNat_zero, List.isEmpty_cons, Int.reduceLT, Int.reduceLE, Int.reduceToNat, Int.cast_ofNat_Int, aIdxS, ints, aLen_fsl, aLen_nils, aLen_slc, aLen_emp, aLen_emp0, put_set, del_set, lt_next, lt_next_add, lt_next2, lt_next3, hb]
    exact ⟨_, fin⟩
  · have : addR R g = ({ R.push R.top with grp := insS g R.grp }, (R.head : Int) + 1, 0) := by simp only [addR, if_neg hnb, if_neg h4]
    rw [this]
    simp only [↓w_seq, ↓w_reg, ↓w_ret, ↓w_draw, ↓w_regA, kNext_bar, ↓w_skip, ↓w_block, ↓w_exit, ↓w_cond_go, ↓thn_normal, ↓thn_ret, ↓thn_exit, ↓inBlk_normal, ↓inBlk_ret, ↓inBlk_exit, ↓o_nil, ↓o_plain, ↓o_guard, bOf, ne_eq, reduceCtorEq, not_false_eq_true, implies_true, Frame.ofArgs, aop, ev_tmp, ev_lit, go1_some, go1_map, goM_some, goG_true, goG_false, putO_some, putO_none, Frame.get_put, Nat.reduceEqDiff, ↓reduceIte, Nat.reduceAdd, Nat.zero_add, AVal.isRaw, AVal.cells, AVal.isCell, Bool.false_eq_true, Bool.not_false, Bool.not_true, Heap.get_new, Heap.get_set, Heap.new_next, Heap.set_next, Heap.bare, bare_next, aLoad, cell_new, cellsFrom, List.getElem?_cons_zero, List.getElem?_cons_succ, Option.map_some, aBin, aInt, wantd_get, evs_cons', evs_nil, evParts_cons, evParts_nil, aFill, over, foldO, aMax2, aMin2, List.length_cons, List.length_nil, List.take_zero, List.take_succ_cons, List.drop_zero, List.drop_succ_cons, List.drop_nil, List.take_nil, List.nil_append, List.cons_append, List.append_nil, BEq.rfl, Bool.and_true, Bool.true_and, Bool.and_false, Bool.false_and, decide_true, decide_false, Nat.reduceLeDiff, Nat.le_refl, Nat.reduceLT, aEq, aEq0, aEqs, ge_iff_le, gt_iff_lt, storeAt, aStore, List.all_cons, List.all_nil, ends, resOf, rvals, Option.some.injEq, exists_eq_left', true_and, and_true, Bool.true_eq_false, beq_true, beq_false, Heap.new_W, Heap.set_W, Heap.new_F0, Heap.set_F0, ↓oNext_eq, ↓o_call, ↓g_nil, ↓g_cons, ↓gNext_eq, ↓gdo_pure, ↓gdo_read, ↓gdo_call, ↓gdo_eff, goV_some, goV_map, SOp.kind, wantd_none, AVal.undef, goF_fn, Reads, okId, or_true, true_or, false_or, false_and, and_false, instOps, List.map_cons, List.map_nil, SOp.inst, resvs, List.flatMap_cons, List.flatMap_nil, SOp.laid, Heap.resv, rE_nil, rE_some, rE_none, sames0, AVal.same0, Int.zero_add, repl, List.replicate_succ, List.replicate_zero, List.flatten_cons, List.flatten_nil, Nat.reduceMul, Int.toNat_natCast, eq_self, Nat.one_mul, Nat.mul_one, Nat.zero_mul, aLenS, aIdx, evO_none, evO_some, aPart, List.length_map, Int.natCast_nonneg, Int.le_refl, Int.toNat_zero, List.isEmpty_cons, Int.reduceLT, Int.reduceLE, Int.reduceToNat, Int.cast_ofNat_Int, aIdxS, ints, aLen_fsl, aLen_nils, aLen_slc, aLen_emp, aLen_emp0, put_set, del_set, lt_next, lt_next_add, lt_next2, lt_next3, hk, look_set (g := g) hf, not_mem_bool h1, h2, h3]
    refine (next_spec hj (by omega)).mono ?_
    rintro v τ ⟨rfl, K', cap', hP⟩
    have hb : ((0 : Int) != 0) = false := rfl
    have hk2 := hP.at_.blk
    have hg2 := hP.at_.grp
    have h5 := hP.at_.setGrp (l := insS g R.grp) (h.ok.grp.ins (by omega) (by omega))
    have hhd := head_call h5
    have he : ({ R.push R.top with grp := insS g R.grp } : Revs).head = R.head + 1 := head_push _ h.ok.one
    rw [he] at hhd
    have hg3 : (R.push R.top).grp = R.grp := rfl
    rw [hg3] at hg2
    simp only [↓w_seq, ↓w_reg, ↓w_ret, ↓w_draw, ↓w_regA, kNext_bar, ↓w_skip, ↓w_block, ↓w_exit, ↓w_cond_go, ↓thn_normal, ↓thn_ret, ↓thn_exit, ↓inBlk_normal, ↓inBlk_ret, ↓inBlk_exit, ↓o_nil, ↓o_plain, ↓o_guard, bOf, ne_eq, reduceCtorEq, not_false_eq_true, implies_true, Frame.ofArgs, aop, ev_tmp, ev_lit, go1_some, go1_map, goM_some, goG_true, goG_false, putO_some, putO_none, Frame.get_put, Nat.reduceEqDiff, ↓reduceIte, Nat.reduceAdd, Nat.zero_add, AVal.isRaw, AVal.cells, AVal.isCell, Bool.false_eq_true, Bool.not_false, Bool.not_true, Heap.get_new, Heap.get_set, Heap.new_next, Heap.set_next, Heap.bare, bare_next, aLoad, cell_new, cellsFrom, List.getElem?_cons_zero, List.getElem?_cons_succ, Option.map_some, aBin, aInt, wantd_get, evs_cons', evs_nil, evParts_cons, evParts_nil, aFill, over, foldO, aMax2, aMin2, List.length_cons, List.length_nil, List.take_zero, List.take_succ_cons, List.drop_zero, List.drop_succ_cons, List.drop_nil, List.take_nil, List.nil_append, List.cons_append, List.append_nil, BEq.rfl, Bool.and_true, Bool.true_and, Bool.and_false, Bool.false_and, decide_true, decide_false, Nat.reduceLeDiff, Nat.le_refl, Nat.reduceLT, aEq, aEq0, aEqs, ge_iff_le, gt_iff_lt, storeAt, aStore, List.all_cons, List.all_nil, ends, resOf, rvals, Option.some.injEq, exists_eq_left', true_and, and_true, Bool.true_eq_false, beq_true, beq_false, Heap.new_W, Heap.set_W, Heap.new_F0, Heap.set_F0, ↓oNext_eq, ↓o_call, ↓g_nil, ↓g_cons, ↓gNext_eq, ↓gdo_pure, ↓gdo_read, ↓gdo_call, ↓gdo_eff, goV_some, goV_map, SOp.kind, wantd_none, AVal.undef, goF_fn, Reads, okId, or_true, true_or, false_or, false_and, and_false, instOps, List.map_cons, List.map_nil, SOp.inst, resvs, List.flatMap_cons, List.flatMap_nil, SOp.laid, Heap.resv, rE_nil, rE_some, rE_none, sames0, AVal.same0, Int.zero_add, repl, List.replicate_succ, List.replicate_zero, List.flatten_cons, List.flatten_nil, Nat.reduceMul, Int.toNat_natCast, eq_self, Nat.one_mul, Nat.mul_one, Nat.zero_mul, aLenS, aIdx, evO_none, evO_some, aPart, List.length_map, Int.natCast_nonneg, Int.le_refl, Int.toNat_zero, List.isEmpty_cons, Int.reduceLT, Int.reduceLE, Int.reduceToNat, Int.cast_ofNat_Int, aIdxS, ints, aLen_fsl, aLen_nils, aLen_slc, aLen_emp, aLen_emp0, put_set, del_set, lt_next, lt_next_add, lt_next2, lt_next3, hb, hk2, hg2]
    refine MSpec.of hhd ?_
    simp only [↓w_seq, ↓w_reg, ↓w_ret, ↓w_draw, ↓w_regA, kNext_bar, ↓w_skip, ↓w_block, ↓w_exit, ↓w_cond_go, ↓thn_normal, ↓thn_ret, ↓thn_exit, ↓inBlk_normal, ↓inBlk_ret, ↓inBlk_exit, ↓o_nil, ↓o_plain, ↓o_guard, bOf, ne_eq, reduceCtorEq, not_false_eq_true, implies_true, Frame.ofArgs, aop, ev_tmp, ev_lit, go1_some, go1_map, goM_some, goG_true, goG_false, putO_some, putO_none, Frame.get_put, Nat.reduceEqDiff, ↓reduceIte, Nat.reduceAdd, Nat.zero_add, AVal.isRaw, AVal.cells, AVal.isCell, Bool.false_eq_true, Bool.not_false, Bool.not_true, Heap.get_new, Heap.get_set, Heap.new_next, Heap.set_next, Heap.bare, bare_next, aLoad, cell_new, cellsFrom, List.getElem?_cons_zero, List.getElem?_cons_succ, Option.map_some, aBin, aInt, wantd_get, evs_cons', evs_nil, evParts_cons, evParts_nil, aFill, over, foldO, aMax2, aMin2, List.length_cons, List.length_nil, List.take_zero, List.take_succ_cons, List.drop_zero, List.drop_succ_cons, List.drop_nil, List.take_nil, List.nil_append, List.cons_append, List.append_nil, BEq.rfl, Bool.and_true, Bool.true_and, Bool.and_false, Bool.false_and, decide_true, decide_false, Nat.reduceLeDiff, Nat.le_refl, Nat.reduceLT, aEq, aEq0, aEqs, ge_iff_le, gt_iff_lt, storeAt, aStore, List.all_cons, List.all_nil, ends, resOf, rvals, Option.some.injEq, exists_eq_left', true_and, and_true, Bool.true_eq_false, beq_true, beq_false, Heap.new_W, Heap.set_W, Heap.new_F0, Heap.set_F0, ↓oNext_eq, ↓o_call, ↓g_nil, ↓g_cons, ↓gNext_eq, ↓gdo_pure, ↓gdo_read, ↓gdo_call, ↓gdo_eff, goV_some, goV_map, SOp.kind, wantd_none, AVal.undef, goF_fn, Reads, okId, or_true, true_or, false_or, false_and, and_false, instOps, List.map_cons, List.map_nil, SOp.inst, resvs, List.flatMap_cons, List.flatMap_nil, SOp.laid, Heap.resv, rE_nil, rE_some, rE_none, sames0, AVal.same0, Int.zero_add, repl, List.replicate_succ, List.replicate_zero, List.flatten_cons, List.flatten_nil, Nat.reduceMul, Int.toNat_natCast, eq_self, Nat.one_mul, Nat.mul_one, Nat.zero_mul, aLenS, aIdx, evO_none, evO_some, aPart, List.length_map, Int.natCast_nonneg, Int.le_refl, Int.toNat_zero, List.isEmpty_cons, Int.reduceLT, Int.reduceLE, Int.reduceToNat, Int.cast_ofNat_Int, aIdxS, ints, aLen_fsl, aLen_nils, aLen_slc, aLen_emp, aLen_emp0, put_set, del_set, lt_next, lt_next_add, lt_next2, lt_next3]
    refine ⟨by rfl, _, ⟨K', cap', _, mg, mf, h5, rfl⟩, ?_, ?_⟩
    · have hk3 : Keep (k :: K :: mg :: mf :: ms) σ τ := by
        have hkj : Keep [] σ ((σ.new (.cells [] none)).set σ.next (.cells [] none)) := (Keep.refl _ _).junk _ _
        refine ((hkj.mono (fp' := k :: K :: mg :: mf :: ms) (fun x hx => by cases hx)).trans hP.keep ?_)
        intro x hx
        simp only [List.mem_cons, List.not_mem_nil, or_false] at hx
        rcases hx with rfl | rfl <;> exact .inl (by simp)
      exact hk3.set (.inl (by simp)) _
    · intro x hx
      simp only [List.mem_cons, List.mem_append, List.not_mem_nil, or_false] at hx
      rcases hx with rfl | rfl | rfl | rfl | hx | rfl
      · exact .inl (by simp)
      · rcases hP.new with h6 | h6
        · exact .inl (by simp [h6])
        · simp at h6; exact .inr (by omega)
      · exact .inl (by simp)
      · exact .inl (by simp)
      · exact .inl (by simp [hx])
      · exact .inr (by simp)
end Go.Proofs.Ytaakajfmbjjigaa.M
