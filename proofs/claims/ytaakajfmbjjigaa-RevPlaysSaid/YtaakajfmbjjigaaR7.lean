/- A part of the seat's proofs over the abstract machine. No condition. -/
import Derived.Test.YtaakajfmbjjigaaR6
set_option linter.unusedSimpArgs false
set_option linter.unusedVariables false
set_option maxRecDepth 100000
namespace Go.Proofs.Ytaakajfmbjjigaa.M
open Go Go.Mini
attribute [local congr] go1_congr goM_congr goG_congr goV_congr drawwp_congr
theorem fg_six {Q : SExit → Mini.Frame → Heap → Prop} {R : Exit → Act → World → Prop} {φ : Phi} {fr : Mini.Frame} {σ : Heap} {a : Act} {w : World} (hf : FR φ 77 fr a) (hr : Rel φ σ w)
    (h : awp Try.prog (.seq fg0 (.seq fg1 (.seq fg2 (.seq fg3 (.seq fg4 fg5))))) Q fr σ)
    (hN : ∀ (φ' : Phi) fr' σ' a' w', φ.le φ' → FR φ' 77 fr' a' → Rel φ' σ' w' → Q .normal fr' σ' → (Code.seq fgM fgT).wp Try.prog R a' w')
    (hR : ∀ (φ' : Phi) fr' σ' a' w', φ.le φ' → FR φ' 77 fr' a' → Rel φ' σ' w' → Q .ret fr' σ' → R .ret a' w') (hX : ∀ id fr' σ', ¬ Q (.exit id) fr' σ') : fgB.wp Try.prog R a w := by
  have hz : ∀ {φ1 : Phi}, φ.le φ1 → ∀ (φ' : Phi) fr' σ' a' w', φ1.le φ' → FR φ' 77 fr' a' → Rel φ' σ' w' → (Q .ret fr' σ' → R .ret a' w') ∧ ∀ id, Q (.exit id) fr' σ' → R (.exit id) a' w' :=
    fun h1 φ' fr' σ' a' w' h2 h3 h4 => ⟨hR φ' fr' σ' a' w' (Phi.le_trans h1 h2) h3 h4, fun id hq => (hX _ _ _ hq).elim⟩
  rw [fg_shape]
  refine wp_first mixed fg0_c hf hr (K := awp Try.prog (.seq fg1 (.seq fg2 (.seq fg3 (.seq fg4 fg5)))) Q) (Z := Q) h ?_ (hz (Phi.le_refl _))
  intro φ1 f1 s1 a1 w1 l1 hf1 hr1 h1
  refine wp_first mixed fg1_c hf1 hr1 (K := awp Try.prog (.seq fg2 (.seq fg3 (.seq fg4 fg5))) Q) (Z := Q) h1 ?_ (hz l1)
  intro φ2 f2 s2 a2 w2 l2 hf2 hr2 h2
  have l2 := Phi.le_trans l1 l2
  refine wp_first mixed fg2_c hf2 hr2 (K := awp Try.prog (.seq fg3 (.seq fg4 fg5)) Q) (Z := Q) h2 ?_ (hz l2)
  intro φ3 f3 s3 a3 w3 l3 hf3 hr3 h3
  have l3 := Phi.le_trans l2 l3
  refine wp_first mixed fg3_c hf3 hr3 (K := awp Try.prog (.seq fg4 fg5) Q) (Z := Q) h3 ?_ (hz l3)
  intro φ4 f4 s4 a4 w4 l4 hf4 hr4 h4
  have l4 := Phi.le_trans l3 l4
  refine wp_first mixed fg4_c hf4 hr4 (K := awp Try.prog fg5 Q) (Z := Q) h4 ?_ (hz l4)
  intro φ5 f5 s5 a5 w5 l5 hf5 hr5 h5
  have l5 := Phi.le_trans l4 l5
  have h5' : awp Try.prog fg5 (thn (Q .normal) Q) f5 s5 := awp_mono h5 fun e f s hq => by cases e <;> exact hq
  refine wp_first mixed fg5_c hf5 hr5 (K := Q .normal) (Z := Q) h5' ?_ (hz l5)
  intro φ6 f6 s6 a6 w6 l6 hf6 hr6 h6
  exact hN φ6 f6 s6 a6 w6 (Phi.le_trans l5 l6) hf6 hr6 h6
/-- what the rounds have done -/
structure FgI (σ1 : Heap) (k m mg mf sn : Nat) (R : Revs) (ks : List Int) (fr : Mini.Frame) (τ : Heap) : Prop where
  f0 : fr.get 0 = .ptr (.new k) 0
  f10 : fr.get 10 = .mp (.new m)
  W : τ.W = σ1.W
  F : τ.F0 = σ1.F0
  next : τ.next = σ1.next + 1
  top : τ.get m = some (.map (uents (delAll R.top ks)))
  grp : τ.get mg = some (.map (uents (delAll R.grp ks)))
  gone : τ.get mf = some (.map (uents (goneAll R.gone ks)))
  rest : ∀ q, q ≠ m → q ≠ mg → q ≠ mf → q ≠ sn → q ≠ σ1.next → τ.get q = σ1.get q
set_option maxHeartbeats 1000000 in
theorem forget_spec {σ : Heap} {k : Nat} {R : Revs} {fp : List Nat} (h : IsRevs σ k R fp) (l : List Int) (hl : l.length ≤ 1000000) :
    MSpec Try.prog n_rev_Revs_Forget [.ptr (.new k) 0, ints l] σ fun v τ => v = .int .i64 (forgetR R l).2 ∧ ∃ fp', IsRevs τ k (forgetR R l).1 fp' ∧ Keep fp σ τ ∧ Fresh fp σ fp' := by
  obtain ⟨K, cap, ms, mg, mf, h, rfl⟩ := h
  obtain ⟨m, hm1, hm2, hm3⟩ := h.last
  obtain ⟨e, fr1, σ1, hQ, hO⟩ := awp_out _ _ _ _ (fg_pre h l hl hm1)
  rcases hQ with ⟨rfl, hg, h4, hk⟩ | ⟨rfl, hg, h0, h10, h5, ⟨acc, hacc, hmem⟩, ⟨K2, hb, hK, hK1, hK2⟩, hk⟩
  · have hf : forgetR R l = (R, 210) := by simp only [forgetR, if_neg hg]
    rw [hf]
    refine ⟨.int .i64 210, σ1, acall_of_afun (afun_of_wp fg_fn fg_body fg_res (by rw [fg_n]; exact Nat.le_of_ble_eq_true rfl) ?_) ⟨_, fg_fn, by rw [fg_body]; rfl, fg_name⟩, rfl, _, ⟨K, cap, ms, mg, mf, h.keep0 hk, rfl⟩, hk.mono (fun x hx => by cases hx), fun x hx => .inl hx⟩
    intro φ a w hfr hr
    refine fg_six hfr hr (hO (fun e f s => e = .ret ∧ f = fr1 ∧ s = σ1) ⟨rfl, rfl, rfl⟩) (fun _ _ _ _ _ _ _ _ hq => by cases hq.1) ?_ (fun _ _ _ hq => by cases hq.1)
    rintro φ' fr' σ' a' w' hle hf' hr' ⟨_, rfl, rfl⟩
    exact ⟨.inr rfl, φ', _, hle, hf', hr', by simp only [resOf, rvals, Option.map_some, h4]⟩
  · have hf : forgetR R l = (⟨[delAll R.top l], R.head, delAll R.grp l, goneAll R.gone l⟩, 0) := by simp only [forgetR, if_pos hg]
    rw [hf]
    have hnd := h.nodup
    simp only [List.nodup_cons, List.mem_cons, not_or] at hnd
    have hmm : m ∈ ms := List.mem_of_getElem? hm1
    have hkl := h.low k (by simp)
    have hml := h.low m (by simp [hmm])
    have hgl := h.low mg (by simp)
    have hfl := h.low mf (by simp)
    have hmk : m ≠ k := fun e => hnd.1.2.2.2 (e ▸ hmm)
    have hgk : mg ≠ k := fun e => hnd.1.2.1 e.symm
    have hfk : mf ≠ k := fun e => hnd.1.2.2.1 e.symm
    have hmg : m ≠ mg := fun e => hnd.2.2.1.2 (e ▸ hmm)
    have hmf : m ≠ mf := fun e => hnd.2.2.2.1 (e ▸ hmm)
    have hgf : mg ≠ mf := fun e => hnd.2.2.1.1 e
    have o1 : σ1.get m = some (.map (uents R.top)) := by rw [hk.2.2.2 m hml (by simp [hmk])]; exact hm2
    have o2 : σ1.get mg = some (.map (uents R.grp)) := by rw [hk.2.2.2 mg hgl (by simp [hgk])]; exact h.grp
    have o3 : σ1.get mf = some (.map (uents R.gone)) := by rw [hk.2.2.2 mf hfl (by simp [hfk])]; exact h.gone
    have hrt : Rise R.top := h.ok.rise _ (List.mem_of_getElem? hm3)
    let σF : Heap := ((((σ1.set σ.next .dead).new .dead).set m (.map (uents (delAll R.top l)))).set mg (.map (uents (delAll R.grp l)))).set mf (.map (uents (goneAll R.gone l)))
    have hFm : σF.get m = some (.map (uents (delAll R.top l))) := by
      show (Heap.set (Heap.set (Heap.set _ _ _) _ _) _ _).get m = _
      rw [Heap.get_set, if_neg (fun e => hmf e.symm), Heap.get_set, if_neg (fun e => hmg e.symm), Heap.get_set, if_pos rfl]
    have hFg : σF.get mg = some (.map (uents (delAll R.grp l))) := by
      show (Heap.set (Heap.set (Heap.set _ _ _) _ _) _ _).get mg = _
      rw [Heap.get_set, if_neg (fun e => hgf e.symm), Heap.get_set, if_pos rfl]
    have hFf : σF.get mf = some (.map (uents (goneAll R.gone l))) := by
      show (Heap.set (Heap.set (Heap.set _ _ _) _ _) _ _).get mf = _
      rw [Heap.get_set, if_pos rfl]
    have hFq : ∀ q, q ≠ m → q ≠ mg → q ≠ mf → σF.get q = if σ1.next = q then some .dead else if σ.next = q then some .dead else σ1.get q := by
      intro q a1 a2 a3
      show (Heap.set (Heap.set (Heap.set _ _ _) _ _) _ _).get q = _
      rw [Heap.get_set, if_neg (fun e => a3 e.symm), Heap.get_set, if_neg (fun e => a2 e.symm), Heap.get_set, if_neg (fun e => a1 e.symm), Heap.get_new, Heap.get_set]
      rfl
    have hFn : σF.next = σ1.next + 1 := rfl
    have hkeepF : Keep (k :: K :: mg :: mf :: ms) σ σF := by
      have a1 := hk.mono (fp' := k :: K :: mg :: mf :: ms) (fun x hx _ => by simp only [List.mem_cons, List.not_mem_nil, or_false] at hx; subst hx; simp)
      exact ((((a1.set (.inr (Nat.le_refl _)) _).new _).set (.inl (by simp [hmm])) _).set (.inl (by simp)) _).set (.inl (by simp)) _
    refine ⟨.int .i64 0, σF, acall_of_afun (afun_of_wp fg_fn fg_body fg_res (by rw [fg_n]; exact Nat.le_of_ble_eq_true rfl) ?_) ⟨_, fg_fn, by rw [fg_body]; rfl, fg_name⟩, rfl, _, ⟨K2, .ex 1, [m], mg, mf, ?_, rfl⟩, hkeepF, ?_⟩
    · intro φ a w hfr hr
      refine fg_six hfr hr (hO (fun e f s => e = .normal ∧ f = fr1 ∧ s = σ1) ⟨rfl, rfl, rfl⟩) ?_ (fun _ _ _ _ _ _ _ _ hq => by cases hq.1) (fun _ _ _ hq => by cases hq.1)
      rintro φ1 fr' σ' a1 w1 hle hf1 hr1 ⟨_, rfl, rfl⟩
      refine wp_seq (mapRange mixed fgr_c fg_set (by decide) (by decide) hf1 hr1 h5 hacc (FgI σ' k m mg mf σ.next R) (by omega) ?_ ?_ ?_ ?_ ?_)
      · intro ks fr τ t v ht hI
        have h1 : t ≠ 0 ∧ t ≠ 10 := by rcases ht with rfl | rfl | rfl | rfl | rfl | rfl | rfl <;> exact ⟨by decide, by decide⟩
        exact { hI with f0 := by rw [Frame.get_put, if_neg h1.1]; exact hI.f0, f10 := by rw [Frame.get_put, if_neg h1.2]; exact hI.f10 }
      · intro ks fr τ b hI
        exact { hI with
          top := by rw [Heap.get_set, if_neg (by omega)]; exact hI.top
          grp := by rw [Heap.get_set, if_neg (by omega)]; exact hI.grp
          gone := by rw [Heap.get_set, if_neg (by omega)]; exact hI.gone
          rest := fun q a1 a2 a3 a4 a5 => by rw [Heap.get_set, if_neg (fun e => a5 e.symm)]; exact hI.rest q a1 a2 a3 a4 a5 }
      · intro b1 b2
        have hq : ∀ q, q ≠ σ.next → q ≠ σ'.next → ((σ'.set σ.next b1).new b2).get q = σ'.get q := fun q a1 a2 => by
          rw [Heap.get_new, if_neg (fun e => a2 e.symm), Heap.get_set, if_neg (fun e => a1 e.symm)]
        exact ⟨h0, h10, rfl, rfl, rfl, by rw [hq m (by omega) (by omega), delAll_nil]; exact o1, by rw [hq mg (by omega) (by omega), delAll_nil]; exact o2, by rw [hq mf (by omega) (by omega)]; exact o3, fun q _ _ _ a4 a5 => hq q a4 a5⟩
      · intro ks g fr τ hni hin hI hA
        have i1 := hI.top
        have i2 := hI.grp
        have i3 := hI.gone
        have i0 := hI.f0
        have i10 := hI.f10
        have hkm' : k ≠ m := fun e => hmk e.symm
        have hkg' : k ≠ mg := fun e => hgk e.symm
        have hkf' : k ≠ mf := fun e => hfk e.symm
        have hkb : τ.get k = some (.cells [.slc (.new K2) 0 1 (.ex 1), .int .i64 (R.head : Nat), .mp (.new mg), .mp (.new mf)] none) := by
          rw [hI.rest k hkm' hkg' hkf' (by omega) (by omega)]; exact hb
        unfold fgr
        simp only [↓w_seq, ↓w_reg, ↓w_ret, ↓w_draw, ↓w_regA, kNext_bar, ↓w_skip, ↓w_block, ↓w_exit, ↓w_cond_go, ↓thn_normal, ↓thn_ret, ↓thn_exit, ↓inBlk_normal, ↓inBlk_ret, ↓inBlk_exit, ↓o_nil, ↓o_plain, ↓o_guard, bOf, ne_eq, reduceCtorEq, not_false_eq_true, implies_true, Frame.ofArgs, aop, ev_tmp, ev_lit, go1_some, go1_map, goM_some, goG_true, goG_false, putO_some, putO_none, Frame.get_put, Nat.reduceEqDiff, ↓reduceIte, Nat.reduceAdd, Nat.zero_add, AVal.isRaw, AVal.cells, AVal.isCell, Bool.false_eq_true, Bool.not_false, Bool.not_true, Heap.get_new, Heap.get_set, Heap.new_next, Heap.set_next, Heap.bare, bare_next, aLoad, cell_new, cellsFrom, List.getElem?_cons_zero, List.getElem?_cons_succ, Option.map_some, aBin, aInt, wantd_get, evs_cons', evs_nil, evParts_cons, evParts_nil, aFill, over, foldO, aMax2, aMin2, List.length_cons, List.length_nil, List.take_zero, List.take_succ_cons, List.drop_zero, List.drop_succ_cons, List.drop_nil, List.take_nil, List.nil_append, List.cons_append, List.append_nil, BEq.rfl, Bool.and_true, Bool.true_and, Bool.and_false, Bool.false_and, decide_true, decide_false, Nat.reduceLeDiff, Nat.le_refl, Nat.reduceLT, aEq, aEq0, aEqs, ge_iff_le, gt_iff_lt, storeAt, aStore, List.all_cons, List.all_nil, ends, resOf, rvals, Option.some.injEq, exists_eq_left', true_and, and_true, Bool.true_eq_false, beq_true, beq_false, Heap.new_W, Heap.set_W, Heap.new_F0, Heap.set_F0, ↓oNext_eq, ↓o_call, ↓g_nil, ↓g_cons, ↓gNext_eq, ↓gdo_pure, ↓gdo_read, ↓gdo_call, ↓gdo_eff, goV_some, goV_map, SOp.kind, wantd_none, AVal.undef, goF_fn, Reads, okId, or_true, true_or, false_or, false_and, and_false, instOps, List.map_cons, List.map_nil, SOp.inst, resvs, List.flatMap_cons, List.flatMap_nil, SOp.laid, Heap.resv, rE_nil, rE_some, rE_none, sames0, AVal.same0, Int.zero_add, repl, List.replicate_succ, List.replicate_zero, List.flatten_cons, List.flatten_nil, Nat.reduceMul, Int.toNat_natCast, eq_self, Nat.one_mul, Nat.mul_one, Nat.zero_mul, aLenS, aIdx, evO_none, evO_some, aPart, List.length_map, Int.natCast_nonneg, Int.le_refl, Int.toNat_zero, List.isEmpty_cons, Int.reduceLT, Int.reduceLE, Int.reduceToNat, Int.cast_ofNat_Int, aIdxS, ints, aLen_fsl, aLen_nils, aLen_slc, aLen_emp, aLen_emp0, put_set, del_set, lt_next, lt_next_add, lt_next2, lt_next3, i0, i10, hA, i1, i2, i3, hkb, hmg, hmf, hgf, hmk, hgk, hfk]
        have e1 := delAll_cons (ks := ks) hrt g
        have e2 := delAll_cons (ks := ks) h.ok.grp g
        refine ⟨⟨by simp only [↓w_seq, ↓w_reg, ↓w_ret, ↓w_draw, ↓w_regA, kNext_bar, ↓w_skip, ↓w_block, ↓w_exit, ↓w_cond_go, ↓thn_normal, ↓thn_ret, ↓thn_exit, ↓inBlk_normal, ↓inBlk_ret, ↓inBlk_exit, ↓o_nil, ↓o_plain, ↓o_guard, bOf, ne_eq, reduceCtorEq, not_false_eq_true, implies_true, Frame.ofArgs, aop, ev_tmp, ev_lit, go1_some, go1_map, goM_some, goG_true, goG_false, putO_some, putO_none, Frame.get_put, Nat.reduceEqDiff, ↓reduceIte, Nat.reduceAdd, Nat.zero_add, AVal.isRaw, AVal.cells, AVal.isCell, Bool.false_eq_true, Bool.not_false, Bool.not_true, Heap.get_new, Heap.get_set, Heap.new_next, Heap.set_next, Heap.bare, bare_next, aLoad, cell_new, cellsFrom, List.getElem?_cons_zero, List.getElem?_cons_succ, Option.map_some, aBin, aInt, wantd_get, evs_cons', evs_nil, evParts_cons, evParts_nil, aFill, over, foldO, aMax2, aMin2, List.length_cons, List.length_nil, List.take_zero, List.take_succ_cons, List.drop_zero, List.drop_succ_cons, List.drop_nil, List.take_nil, List.nil_append, List.cons_append, List.append_nil, BEq.rfl, Bool.and_true, Bool.true_and, Bool.and_false, Bool.false_and, decide_true, decide_false, Nat.reduceLeDiff, Nat.le_refl, Nat.reduceLT, aEq, aEq0, aEqs, ge_iff_le, gt_iff_lt, storeAt, aStore, List.all_cons, List.all_nil, ends, resOf, rvals, Option.some.injEq, exists_eq_left', true_and, and_true, Bool.true_eq_false, beq_true, beq_false, Heap.new_W, Heap.set_W, Heap.new_F0, Heap.set_F0, ↓oNext_eq, ↓o_call, ↓g_nil, ↓g_cons, ↓gNext_eq, ↓gdo_pure, ↓gdo_read, ↓gdo_call, ↓gdo_eff, goV_some, goV_map, SOp.kind, wantd_none, AVal.undef, goF_fn, Reads, okId, or_true, true_or, false_or, false_and, and_false, instOps, List.map_cons, List.map_nil, SOp.inst, resvs, List.flatMap_cons, List.flatMap_nil, SOp.laid, Heap.resv, rE_nil, rE_some, rE_none, sames0, AVal.same0, Int.zero_add, repl, List.replicate_succ, List.replicate_zero, List.flatten_cons, List.flatten_nil, Nat.reduceMul, Int.toNat_natCast, eq_self, Nat.one_mul, Nat.mul_one, Nat.zero_mul, aLenS, aIdx, evO_none, evO_some, aPart, List.length_map, Int.natCast_nonneg, Int.le_refl, Int.toNat_zero, List.isEmpty_cons, Int.reduceLT, Int.reduceLE, Int.reduceToNat, Int.cast_ofNat_Int, aIdxS, ints, aLen_fsl, aLen_nils, aLen_slc, aLen_emp, aLen_emp0, put_set, del_set, lt_next, lt_next_add, lt_next2, lt_next3, i0], by simp only [↓w_seq, ↓w_reg, ↓w_ret, ↓w_draw, ↓w_regA, kNext_bar, ↓w_skip, ↓w_block, ↓w_exit, ↓w_cond_go, ↓thn_normal, ↓thn_ret, ↓thn_exit, ↓inBlk_normal, ↓inBlk_ret, ↓inBlk_exit, ↓o_nil, ↓o_plain, ↓o_guard, bOf, ne_eq, reduceCtorEq, not_false_eq_true, implies_true, Frame.ofArgs, aop, ev_tmp, ev_lit, go1_some, go1_map, goM_some, goG_true, goG_false, putO_some, putO_none, Frame.get_put, Nat.reduceEqDiff, ↓reduceIte, Nat.reduceAdd, Nat.zero_add, AVal.isRaw, AVal.cells, AVal.isCell, Bool.false_eq_true, Bool.not_false, Bool.not_true, Heap.get_new, Heap.get_set, Heap.new_next, Heap.set_next, Heap.bare, bare_next, aLoad, cell_new, cellsFrom, List.getElem?_cons_zero, List.getElem?_cons_succ, Option.map_some, aBin, aInt, wantd_get, evs_cons', evs_nil, evParts_cons, evParts_nil, aFill, over, foldO, aMax2, aMin2, List.length_cons, List.length_nil, List.take_zero, List.take_succ_cons, List.drop_zero, List.drop_succ_cons, List.drop_nil, List.take_nil, List.nil_append, List.cons_append, List.append_nil, BEq.rfl, Bool.and_true, Bool.true_and, Bool.and_false, Bool.false_and, decide_true, decide_false, Nat.reduceLeDiff, Nat.le_refl, Nat.reduceLT, aEq, aEq0, aEqs, ge_iff_le, gt_iff_lt, storeAt, aStore, List.all_cons, List.all_nil, ends, resOf, rvals, Option.some.injEq, exists_eq_left', true_and, and_true, Bool.true_eq_false, beq_true, beq_false, Heap.new_W, Heap.set_W, Heap.new_F0, Heap.set_F0, ↓oNext_eq, ↓o_call, ↓g_nil, ↓g_cons, ↓gNext_eq, ↓gdo_pure, ↓gdo_read, ↓gdo_call, ↓gdo_eff, goV_some, goV_map, SOp.kind, wantd_none, AVal.undef, goF_fn, Reads, okId, or_true, true_or, false_or, false_and, and_false, instOps, List.map_cons, List.map_nil, SOp.inst, resvs, List.flatMap_cons, List.flatMap_nil, SOp.laid, Heap.resv, rE_nil, rE_some, rE_none, sames0, AVal.same0, Int.zero_add, repl, List.replicate_succ, List.replicate_zero, List.flatten_cons, List.flatten_nil, Nat.reduceMul, Int.toNat_natCast, eq_self, Nat.one_mul, Nat.mul_one, Nat.zero_mul, aLenS, aIdx, evO_none, evO_some, aPart, List.length_map, Int.natCast_nonneg, Int.le_refl, Int.toNat_zero, List.isEmpty_cons, Int.reduceLT, Int.reduceLE, Int.reduceToNat, Int.cast_ofNat_Int, aIdxS, ints, aLen_fsl, aLen_nils, aLen_slc, aLen_emp, aLen_emp0, put_set, del_set, lt_next, lt_next_add, lt_next2, lt_next3, i10], hI.W, hI.F, hI.next, ?_, ?_, ?_, ?_⟩, ?_, ?_⟩
        · rw [Heap.get_set, if_neg (fun e => hmf e.symm), Heap.get_set, if_neg (fun e => hmg e.symm), Heap.get_set, if_pos rfl, e1]
        · rw [Heap.get_set, if_neg (fun e => hgf e.symm), Heap.get_set, if_pos rfl, e2]
        · rw [Heap.get_set, if_pos rfl]; rfl
        · intro q a1 a2 a3 a4 a5
          rw [Heap.get_set, if_neg (fun e => a3 e.symm), Heap.get_set, if_neg (fun e => a2 e.symm), Heap.get_set, if_neg (fun e => a1 e.symm)]
          exact hI.rest q a1 a2 a3 a4 a5
        · rw [if_neg (by omega), if_neg (by omega), if_neg (by omega)]
        · rw [if_neg (by omega), if_neg (by omega), if_neg (by omega)]
      · intro φ' fr τ a' w' ks hle' hf' hr' hI hks
        have hkl' : ∀ x, x ∈ ks ↔ x ∈ l := fun x => by
          rw [hks x]
          simp only [uents, List.map_map, List.mem_map, Function.comp_apply]
          constructor
          · rintro ⟨g, hg1, rfl⟩; exact (hmem g).1 hg1
          · intro hx; exact ⟨x, (hmem x).2 hx, rfl⟩
        have hlr : ∀ g ∈ l, 0 ≤ g ∧ g < 60 := fun g hgl => h.ok.grp.2 g (hg.2 g hgl)
        have e1 : delAll R.top ks = delAll R.top l := rise_ext (hrt.delAll _) (hrt.delAll _) fun x => by rw [mem_delAll, mem_delAll, hkl' x]
        have e2 : delAll R.grp ks = delAll R.grp l := rise_ext (h.ok.grp.delAll _) (h.ok.grp.delAll _) fun x => by rw [mem_delAll, mem_delAll, hkl' x]
        have e3 : goneAll R.gone ks = goneAll R.gone l := rise_ext (h.ok.gone.goneAll fun g hg' => hlr g ((hkl' g).1 hg')) (h.ok.gone.goneAll hlr) fun x => by rw [mem_goneAll, mem_goneAll, hkl' x]
        have hr2 : Rel φ' σF w' := by
          refine ((hr'.kill σ.next).kill σ'.next).congr hI.W.symm hI.F.symm (by show σ'.next + 1 = τ.next; rw [hI.next]) fun q => ?_
          by_cases q1 : q = m
          · subst q1; rw [hFm, Heap.get_set, if_neg (by omega), Heap.get_set, if_neg (by omega), hI.top, e1]
          by_cases q2 : q = mg
          · subst q2; rw [hFg, Heap.get_set, if_neg (by omega), Heap.get_set, if_neg (by omega), hI.grp, e2]
          by_cases q3 : q = mf
          · subst q3; rw [hFf, Heap.get_set, if_neg (by omega), Heap.get_set, if_neg (by omega), hI.gone, e3]
          rw [hFq q q1 q2 q3, Heap.get_set, Heap.get_set]
          by_cases q4 : σ'.next = q
          · rw [if_pos q4, if_pos q4]
          · rw [if_neg q4, if_neg q4]
            by_cases q5 : σ.next = q
            · rw [if_pos q5, if_pos q5]
            · rw [if_neg q5, if_neg q5]; exact (hI.rest q q1 q2 q3 (fun e => q5 e.symm) (fun e => q4 e.symm)).symm
        show Code.wp Try.prog fgT _ a' w'
        refine awp_sound mixed fgT fgt (fun e f s => e = .ret ∧ f.get 4 = .int .i64 0 ∧ s = σF) _ φ' fr σF a' w' fgt_c ?_ hf' hr2 ?_
        · unfold fgt; simp only [↓w_seq, ↓w_reg, ↓w_ret, ↓w_draw, ↓w_regA, kNext_bar, ↓w_skip, ↓w_block, ↓w_exit, ↓w_cond_go, ↓thn_normal, ↓thn_ret, ↓thn_exit, ↓inBlk_normal, ↓inBlk_ret, ↓inBlk_exit, ↓o_nil, ↓o_plain, ↓o_guard, bOf, ne_eq, reduceCtorEq, not_false_eq_true, implies_true, Frame.ofArgs, aop, ev_tmp, ev_lit, go1_some, go1_map, goM_some, goG_true, goG_false, putO_some, putO_none, Frame.get_put, Nat.reduceEqDiff, ↓reduceIte, Nat.reduceAdd, Nat.zero_add, AVal.isRaw, AVal.cells, AVal.isCell, Bool.false_eq_true, Bool.not_false, Bool.not_true, Heap.get_new, Heap.get_set, Heap.new_next, Heap.set_next, Heap.bare, bare_next, aLoad, cell_new, cellsFrom, List.getElem?_cons_zero, List.getElem?_cons_succ, Option.map_some, aBin, aInt, wantd_get, evs_cons', evs_nil, evParts_cons, evParts_nil, aFill, over, foldO, aMax2, aMin2, List.length_cons, List.length_nil, List.take_zero, List.take_succ_cons, List.drop_zero, List.drop_succ_cons, List.drop_nil, List.take_nil, List.nil_append, List.cons_append, List.append_nil, BEq.rfl, Bool.and_true, Bool.true_and, Bool.and_false, Bool.false_and, decide_true, decide_false, Nat.reduceLeDiff, Nat.le_refl, Nat.reduceLT, aEq, aEq0, aEqs, ge_iff_le, gt_iff_lt, storeAt, aStore, List.all_cons, List.all_nil, ends, resOf, rvals, Option.some.injEq, exists_eq_left', true_and, and_true, Bool.true_eq_false, beq_true, beq_false, Heap.new_W, Heap.set_W, Heap.new_F0, Heap.set_F0, ↓oNext_eq, ↓o_call, ↓g_nil, ↓g_cons, ↓gNext_eq, ↓gdo_pure, ↓gdo_read, ↓gdo_call, ↓gdo_eff, goV_some, goV_map, SOp.kind, wantd_none, AVal.undef, goF_fn, Reads, okId, or_true, true_or, false_or, false_and, and_false, instOps, List.map_cons, List.map_nil, SOp.inst, resvs, List.flatMap_cons, List.flatMap_nil, SOp.laid, Heap.resv, rE_nil, rE_some, rE_none, sames0, AVal.same0, Int.zero_add, repl, List.replicate_succ, List.replicate_zero, List.flatten_cons, List.flatten_nil, Nat.reduceMul, Int.toNat_natCast, eq_self, Nat.one_mul, Nat.mul_one, Nat.zero_mul, aLenS, aIdx, evO_none, evO_some, aPart, List.length_map, Int.natCast_nonneg, Int.le_refl, Int.toNat_zero, List.isEmpty_cons, Int.reduceLT, Int.reduceLE, Int.reduceToNat, Int.cast_ofNat_Int, aIdxS, ints, aLen_fsl, aLen_nils, aLen_slc, aLen_emp, aLen_emp0, put_set, del_set, lt_next, lt_next_add, lt_next2, lt_next3]
        · rintro φ2 f2 s2 se e2 a2 w2 g1 g2 g3 g4 ⟨rfl, g5, rfl⟩
          cases g2
          exact ⟨.inr rfl, φ2, f2, Phi.le_trans (Phi.le_trans hle hle') g1, g3, g4, by simp only [resOf, rvals, Option.map_some, g5]⟩
    · have hK2' : K2 ≠ m ∧ K2 ≠ mg ∧ K2 ≠ mf ∧ K2 ≠ k := ⟨by omega, by omega, by omega, by omega⟩
      refine ⟨?_, ⟨[.mp (.new m)], none, ?_, rfl, .inr ⟨1, rfl, by simp, rfl⟩⟩, rfl, fun i q s h1 h2 => ?_, hFg, hFf, ?_, ?_, ⟨by simp, ?_, ?_, h.ok.grp.delAll _, h.ok.gone.goneAll fun g hgl => h.ok.grp.2 g (hg.2 g hgl)⟩, ?_⟩
      · rw [hFq k (fun e => hmk e.symm) (fun e => hgk e.symm) (fun e => hfk e.symm), if_neg (by omega), if_neg (by omega)]; exact hb
      · rw [hFq K2 hK2'.1 hK2'.2.1 hK2'.2.2.1, if_neg (by omega), if_neg (by omega)]; exact hK
      · cases i with
        | zero =>
          simp only [List.getElem?_cons_zero, Option.some.injEq] at h1 h2
          subst h1; subst h2; exact hFm
        | succ i => simp at h1
      · simp only [List.nodup_cons, List.mem_cons, not_or, List.not_mem_nil, not_false_eq_true, and_true, List.nodup_nil]
        exact ⟨⟨fun e => hK2'.2.2.2 e.symm, fun e => hgk e.symm, fun e => hfk e.symm, fun e => hmk e.symm⟩, ⟨hK2'.2.1, hK2'.2.2.1, hK2'.1⟩, ⟨hgf, fun e => hmg e.symm⟩, fun e => hmf e.symm⟩
      · intro x hx
        simp only [List.mem_cons, List.not_mem_nil, or_false] at hx
        rw [hFn]
        rcases hx with rfl | rfl | rfl | rfl | rfl <;> omega
      · have := h.pos; have := h.head_eq; simp; omega
      · intro s hs; simp only [List.mem_singleton] at hs; subst hs; exact hrt.delAll _
      · show σ1.F0.dr = false
        rw [hk.2.1]; exact h.dr
    · intro x hx
      simp only [List.mem_cons, List.not_mem_nil, or_false] at hx
      rcases hx with rfl | rfl | rfl | rfl | rfl
      · exact .inl (by simp)
      · exact .inr (by omega)
      · exact .inl (by simp)
      · exact .inl (by simp)
      · exact .inl (by simp [hmm])
end Go.Proofs.Ytaakajfmbjjigaa.M
