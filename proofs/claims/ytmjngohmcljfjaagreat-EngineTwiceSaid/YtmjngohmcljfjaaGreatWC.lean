/- A part of the seat's proofs over the abstract machine. No condition. -/
import Derived.Test.YtmjngohmcljfjaaGreatWB
import Derived.Test.YtmjngohmcljfjaaGreatMB
set_option linter.unusedSimpArgs false
set_option linter.unusedVariables false
set_option maxRecDepth 100000
namespace Go.Proofs.YtmjngohmcljfjaaGreat.M
open Go Go.Mini
attribute [local congr] go1_congr goM_congr goG_congr goV_congr drawwp_congr Xwp_congr
/-- the first i of the list turned by t -/
def rotI (l : List Int) (t i : Nat) : List Int := (List.range i).map fun j => l[(j + t) % l.length]!
theorem rotI_succ (l : List Int) (t i : Nat) : rotI l t (i + 1) = rotI l t i ++ [l[(i + t) % l.length]!] := by
  simp only [rotI, List.range_succ, List.map_append, List.map_cons, List.map_nil]
theorem rotI_perm (l : List Int) (t : Nat) : (rotI l t l.length).Perm l := by
  rcases Nat.eq_zero_or_pos l.length with h | h
  · have : l = [] := List.eq_nil_of_length_eq_zero h
    subst this; exact List.Perm.refl _
  have hm := Nat.mod_lt t h
  have e : rotI l t l.length = l.drop (t % l.length) ++ l.take (t % l.length) := by
    apply List.ext_getElem
    · simp [rotI]; omega
    · intro i h1 h2
      have hi : i < l.length := by simpa [rotI] using h1
      simp only [rotI, List.getElem_map, List.getElem_range, List.getElem_append, List.length_drop, List.getElem_drop, List.getElem_take]
      have hmod : (i + t) % l.length = (i + t % l.length) % l.length := by simp
      split
      · rename_i hlt
        rw [getElem!_pos l _ (Nat.mod_lt _ h)]
        congr 1
        rw [hmod, Nat.mod_eq_of_lt (by omega)]; omega
      · rename_i hge
        rw [getElem!_pos l _ (Nat.mod_lt _ h)]
        congr 1
        rw [hmod, Nat.mod_eq_sub_mod (by omega), Nat.mod_eq_of_lt (by omega)]; omega
  rw [e]
  exact (List.perm_append_comm).trans (by rw [List.take_append_drop])
/-- the group that a byte names -/
def pickG (grp : List Int) (b : Int) : Int := grp[b.toNat % grp.length]!
theorem pickG_mem {grp : List Int} (h : grp ≠ []) (b : Int) : pickG grp b ∈ grp := by
  have hl := Nat.mod_lt b.toNat (List.length_pos_iff.2 h)
  rw [pickG, getElem!_pos grp _ hl]; exact List.getElem_mem hl
theorem flips_perm {grp ks ks' : List Int} (hg : Rise grp) (h1 : ∀ g ∈ ks, g ∈ grp) (hp : ks'.Perm ks) : flips [] ks' = flips [] ks := by
  have h2 : ∀ g ∈ ks', g ∈ grp := fun g hg2 => h1 g (hp.mem_iff.1 hg2)
  refine rise_ext (flips_rise hg Rise.nil h2) (flips_rise hg Rise.nil h1) fun x => ?_
  rw [mem_flips hg Rise.nil h2, mem_flips hg Rise.nil h1, hp.count_eq]
theorem grp_ne {E : Eng} {j : Nat} (h : MInv E j) (hj : 0 < j) : E.R.grp ≠ [] := by
  have hl : 0 < E.l.length := by rw [h.len]; exact hj
  obtain ⟨a, ha⟩ := List.exists_mem_of_length_pos hl
  intro e
  have := (h.bare a ha).2
  rw [e] at this; cases this
set_option maxHeartbeats 8000000 in
theorem undoOrder_fspec (W : World) (gs l : List Int) (t : Int) (hg : ∀ g ∈ gs, 0 ≤ g ∧ g < 256) (hlb : ∀ g ∈ l, 0 ≤ g ∧ g < 256) (ht0 : 0 ≤ t) (ht1 : t < 256) : FSpec Tryz.prog n_palinodelaw21_UndoOrder [eU8s gs, eU8s l, .int .u8 t] (Heap.bare W (cellsOf W)) fun v s => v = .bool true ∧ s.W = W := by
  refine fspec_of_awp mixed c_palinodelaw21_UndoOrder (Nat.le_of_ble_eq_true rfl) ?_
  unfold f_palinodelaw21_UndoOrder
  simp only [↓evd, evu, evf, implies_true, reduceCtorEq, Nat.reduceEqDiff, ↓reduceIte, Nat.reduceAdd, Nat.reduceLeDiff, Nat.reduceLT, Nat.reduceMul, Int.reduceLT, Int.reduceLE, Int.reduceToNat, evz]
  refine MSpec.of (known21_call _ rfl) ?_
  by_cases h0 : (gs.length : Int) < 1
  · simp only [↓evd, evu, evf, implies_true, reduceCtorEq, Nat.reduceEqDiff, ↓reduceIte, Nat.reduceAdd, Nat.reduceLeDiff, Nat.reduceLT, Nat.reduceMul, Int.reduceLT, Int.reduceLE, Int.reduceToNat, evz, eU8s, h0]
  by_cases h1 : (20 : Int) < gs.length
  · simp only [↓evd, evu, evf, implies_true, reduceCtorEq, Nat.reduceEqDiff, ↓reduceIte, Nat.reduceAdd, Nat.reduceLeDiff, Nat.reduceLT, Nat.reduceMul, Int.reduceLT, Int.reduceLE, Int.reduceToNat, evz, eU8s, h0, h1]
  by_cases h2 : (12 : Int) < l.length
  · simp only [↓evd, evu, evf, implies_true, reduceCtorEq, Nat.reduceEqDiff, ↓reduceIte, Nat.reduceAdd, Nat.reduceLeDiff, Nat.reduceLT, Nat.reduceMul, Int.reduceLT, Int.reduceLE, Int.reduceToNat, evz, eU8s, h0, h1, h2]
  have hinv := madeE_inv (gs := gs) (by omega) (fun g h => (hg g h).1)
  have hti := hinv.tinv (by omega)
  have hne := grp_ne hinv (by omega)
  have hmade := fun (σ : Heap) (hd : σ.F0.dr = false) => made_at σ hd gs (by omega) hg
  generalize hE : madeE gs = E at hinv hti hne hmade
  generalize E.R.grp = grp at hti hne
  generalize E.l = al at hti
  have hgrise : Rise grp := by rw [← hti.grp]; exact hti.R.grp
  have hgl := rise_len hgrise
  have hgp := List.length_pos_iff.2 hne
  simp only [eU8s] at hmade
  simp only [↓evd, evu, evf, implies_true, reduceCtorEq, Nat.reduceEqDiff, ↓reduceIte, Nat.reduceAdd, Nat.reduceLeDiff, Nat.reduceLT, Nat.reduceMul, Int.reduceLT, Int.reduceLE, Int.reduceToNat, evz, eU8s, h0, h1, h2]
  refine (hmade _ rfl).mono ?_
  rintro v τ0 ⟨k, fp0, rfl, hA0, hf0, k0⟩
  simp only [↓evd, evu, evf, implies_true, reduceCtorEq, Nat.reduceEqDiff, ↓reduceIte, Nat.reduceAdd, Nat.reduceLeDiff, Nat.reduceLT, Nat.reduceMul, Int.reduceLT, Int.reduceLE, Int.reduceToNat, evz]
  refine (hmade _ (by rw [k0.2.1]; rfl)).mono ?_
  rintro v τ ⟨k2, fp1, rfl, hB0, hf1, k1⟩
  have hA := hA0.keep k1 (fun x _ => by simp)
  have hWτ : τ.W = W := k1.1.trans k0.1
  have hdis : ∀ x ∈ fp0, x ∉ fp1 := fun x hx hm => by have := hA0.low x hx; have := hf1 x hm; omega
  have hgr := egroups_at hA
  rw [hti.grp] at hgr
  simp only [ints] at hgr
  simp only [↓evd, evu, evf, implies_true, reduceCtorEq, Nat.reduceEqDiff, ↓reduceIte, Nat.reduceAdd, Nat.reduceLeDiff, Nat.reduceLT, Nat.reduceMul, Int.reduceLT, Int.reduceLE, Int.reduceToNat, evz]
  refine MSpec.of hgr ?_
  simp only [↓evd, evu, evf, implies_true, reduceCtorEq, Nat.reduceEqDiff, ↓reduceIte, Nat.reduceAdd, Nat.reduceLeDiff, Nat.reduceLT, Nat.reduceMul, Int.reduceLT, Int.reduceLE, Int.reduceToNat, evz]
  have hw : ∀ x : Int, 0 ≤ x → x < 256 → IntKind.i64.wrap x = x := fun x h0 h1 => wrap_id (by omega) (by omega)
  have hnz : ¬ (grp.length : Int) = 0 := by omega
  refine awp_loop (fun m fr ρ => ∃ (i : Nat), m + i = l.length ∧ fr.get 1 = eU8s l ∧ fr.get 2 = .int .u8 t ∧ fr.get 7 = .ptr (.new k) 0 ∧ fr.get 8 = .ptr (.new k2) 0 ∧ fr.get 9 = ints grp ∧ fr.get 12 = .int .i64 (i : Nat) ∧ Own τ.next ρ t_int 1 (fr.get 10) (((l.take i).map (pickG grp)).map (AVal.int .i64 ·)) ∧ Own τ.next ρ t_int 1 (fr.get 11) (((rotI l t.toNat i).map (pickG grp)).map (AVal.int .i64 ·)) ∧ (∀ K ∈ uid (fr.get 10), K ∉ uid (fr.get 11)) ∧ Keep [] τ ρ) ?_ (m := l.length) ?_
  · rintro m fr ρ ⟨i, hi, e1, e2, e7, e8, e9, e12, hO1, hO2, hd, hK⟩
    by_cases hlt : i < l.length
    · have hlt' : (i : Int) < (l.length : Int) := by omega
      have hs := wrap_succ (i := i) (by omega)
      have hlp : 0 < l.length := by omega
      have hgt := map_get (AVal.int .u8 ·) l i hlt
      have htk := List.take_succ_eq_append_getElem hlt
      have hbi := hlb _ (List.getElem_mem hlt)
      have hnl : ¬ (l.length : Int) = 0 := by omega
      obtain ⟨q, hq⟩ : ∃ q, q = (i + t.toNat) % l.length := ⟨_, rfl⟩
      have hql : q < l.length := by rw [hq]; exact Nat.mod_lt _ hlp
      have hgt2 := map_get (AVal.int .u8 ·) l q hql
      have hbq := hlb _ (List.getElem_mem hql)
      have hrot : rotI l t.toNat (i + 1) = rotI l t.toNat i ++ [l[q]] := by
        rw [rotI_succ, ← hq, getElem!_pos l q hql]
      have hsum : IntKind.i64.wrap ((i : Int) + t) = (i : Int) + t := wrap_id (by omega) (by omega)
      have hmod : ((i : Int) + t).tmod (l.length : Int) = (q : Int) := by
        rw [tmod_nat (by omega) hlp, hq]
        congr 2; omega
      generalize l[i] = bi at hgt htk hbi
      generalize l[q] = bq at hgt2 hbq hrot
      have hm1 := tmod_nat (n := grp.length) hbi.1 hgp
      have hm2 := tmod_nat (n := grp.length) hbq.1 hgp
      have hp1 : bi.toNat % grp.length < grp.length := Nat.mod_lt _ hgp
      have hp2 : bq.toNat % grp.length < grp.length := Nat.mod_lt _ hgp
      have hg1 : (grp.map (AVal.int .i64 ·))[bi.toNat % grp.length]? = some (.int .i64 (pickG grp bi)) := by
        rw [List.getElem?_map, List.getElem?_eq_getElem hp1, pickG, getElem!_pos grp _ hp1]; rfl
      have hg2 : (grp.map (AVal.int .i64 ·))[bq.toNat % grp.length]? = some (.int .i64 (pickG grp bq)) := by
        rw [List.getElem?_map, List.getElem?_eq_getElem hp2, pickG, getElem!_pos grp _ hp2]; rfl
      have hl1 : ((l.take i).map (pickG grp)).length ≤ 1000000 := by simp; omega
      have hl2 : ((rotI l t.toNat i).map (pickG grp)).length ≤ 1000000 := by simp [rotI]; omega
      generalize hx10 : fr.get 10 = x10 at hO1 hd
      generalize hx11 : fr.get 11 = x11 at hO2 hd
      obtain ⟨y1, ρ1, a1, a2, a3, a4, a5, a6, a7⟩ := own_int hO1 hK.2.2.1 hl1 (pickG grp bi)
      have hO2' : Own τ.next ρ1 t_int 1 x11 (((rotI l t.toNat i).map (pickG grp)).map (AVal.int .i64 ·)) := by
        refine Own.move hO2 (Nat.le_of_lt a5) fun K o n c e => ?_
        refine a6 K (hO2.low e).2 fun K' o' n' c' e' h => ?_
        subst h
        exact hd K (mem_uid.2 ⟨_, _, _, e'⟩) (mem_uid.2 ⟨_, _, _, e⟩)
      have hn1 : τ.next ≤ ρ1.next := by have := hK.2.2.1; omega
      obtain ⟨y2, ρ2, b1, b2, b3, b4, b5, b6, b7⟩ := own_int hO2' hn1 hl2 (pickG grp bq)
      have hd1 : ∀ K ∈ uid y1, K ∉ uid x11 := fun K hK1 hK2 => by
        obtain ⟨o, n, c, e⟩ := mem_uid.1 hK1
        obtain ⟨o2, n2, c2, e2⟩ := mem_uid.1 hK2
        rcases a7 K o n c e with h | ⟨o', n', c', h⟩
        · have := (hO2.low e2).2; omega
        · exact hd K (mem_uid.2 ⟨_, _, _, h⟩) hK2
      have ha2 : Own τ.next ρ2 t_int 1 y1 (((l.take i).map (pickG grp) ++ [pickG grp bi]).map (AVal.int .i64 ·)) := by
        refine Own.move a2 (Nat.le_of_lt b5) fun K o n c e => ?_
        refine b6 K (a2.low e).2 fun K' o' n' c' e' h => ?_
        subst h
        exact hd1 K (mem_uid.2 ⟨_, _, _, e⟩) (mem_uid.2 ⟨_, _, _, e'⟩)
      have hd2 : ∀ K ∈ uid y1, K ∉ uid y2 := fun K hK1 hK2 => by
        obtain ⟨o, n, c, e⟩ := mem_uid.1 hK1
        obtain ⟨o2, n2, c2, e2⟩ := mem_uid.1 hK2
        rcases b7 K o2 n2 c2 e2 with h | ⟨o', n', c', h⟩
        · have := (a2.low e).2; omega
        · exact hd1 K hK1 (mem_uid.2 ⟨_, _, _, h⟩)
      have hKf : Keep [] τ ρ2 := ⟨b3.trans (a3.trans hK.1), b4.trans (a4.trans hK.2.1), by have := hK.2.2.1; omega, fun q hq _ => by
        have h1 := hK.2.2.1
        rw [b6 q (by omega) (fun K o n c e h => by have := (hO2.low e).1; omega), a6 q (by omega) (fun K o n c e h => by have := (hO1.low e).1; omega)]
        exact hK.2.2.2 q hq (by simp)⟩
      simp only [↓evd, evu, evf, implies_true, reduceCtorEq, Nat.reduceEqDiff, ↓reduceIte, Nat.reduceAdd, Nat.reduceLeDiff, Nat.reduceLT, Nat.reduceMul, Int.reduceLT, Int.reduceLE, Int.reduceToNat, evz, e1, e2, e7, e8, e9, e12, hx10, hx11, eU8s, hlt', hgt, hw _ hbi.1 hbi.2, hnz, hm1, hp1, hg1, a1]
      have hql' : (q : Int) < (l.length : Int) := by omega
      have hp1' : ((bi.toNat % grp.length : Nat) : Int) < (grp.length : Int) := by omega
      have hp2' : ((bq.toNat % grp.length : Nat) : Int) < (grp.length : Int) := by omega
      simp only [↓evd, evu, evf, implies_true, reduceCtorEq, Nat.reduceEqDiff, ↓reduceIte, Nat.reduceAdd, Nat.reduceLeDiff, Nat.reduceLT, Nat.reduceMul, Int.reduceLT, Int.reduceLE, Int.reduceToNat, evz, e1, e2, e7, e8, e9, e12, hx10, hx11, eU8s, hlt', hw _ ht0 ht1, hsum, hnl, hmod, hgt2, hw _ hbq.1 hbq.2, hnz, hm2, hg2, b1, hs]
      refine ⟨m - 1, by omega, i + 1, by omega, rfl, ?_, ?_, hd2, hKf⟩
      · rw [htk, List.map_append]; exact ha2
      · rw [hrot, List.map_append]; exact b2
    · have hlt' : ¬ (i : Int) < (l.length : Int) := by omega
      have hil : i = l.length := by omega
      subst hil
      rw [List.take_length] at hO1
      have hsub1 : ∀ g ∈ l.map (pickG grp), g ∈ grp := fun g hg => by
        obtain ⟨b, _, rfl⟩ := List.mem_map.1 hg; exact pickG_mem hne b
      have hperm : ((rotI l t.toNat l.length).map (pickG grp)).Perm (l.map (pickG grp)) := (rotI_perm l t.toNat).map _
      have hsub2 : ∀ g ∈ (rotI l t.toNat l.length).map (pickG grp), g ∈ grp := fun g hg => hsub1 g (hperm.mem_iff.1 hg)
      have hfp := flips_perm hgrise hsub1 hperm
      have hlen1 : (l.map (pickG grp)).length = l.length := by simp
      have hlen2 : ((rotI l t.toNat l.length).map (pickG grp)).length = l.length := by simp [rotI]
      generalize l.map (pickG grp) = G at hO1 hsub1 hfp hlen1
      generalize (rotI l t.toNat l.length).map (pickG grp) = H at hO2 hsub2 hfp hlen2
      obtain ⟨E1, ha1, ht1⟩ := hti.all (ks := G) (by omega) hsub1
      obtain ⟨E2, ha2, ht2⟩ := hti.all (ks := H) (by omega) hsub2
      rw [hlen1] at ha1 ht1
      rw [hlen2] at ha2 ht2
      rw [hfp] at ht2
      generalize hx10 : fr.get 10 = x10 at hO1 hd
      generalize hx11 : fr.get 11 = x11 at hO2 hd
      obtain ⟨τ3, s1, d1⟩ := Own.sees2 hO1
      have hK1 : Keep [] τ τ3 := by rcases d1 with rfl | ⟨K, _, rfl, hK2⟩; exact hK; exact hK.set (.inr hK2) _
      have hO2' : Own τ.next τ3 t_int 1 x11 (H.map (AVal.int .i64 ·)) := by
        rcases d1 with rfl | ⟨K, hxk, rfl, hK2⟩
        · exact hO2
        · refine Own.move hO2 (by simp) fun K' o n c e => ?_
          rw [Heap.get_set, if_neg]
          intro h; subst h
          exact hd K (mem_uid.2 ⟨_, _, _, hxk⟩) (mem_uid.2 ⟨_, _, _, e⟩)
      have hA3 := hA.keep hK1 (fun y _ => by simp)
      have hB3 := hB0.keep hK1 (fun y _ => by simp)
      simp only [↓evd, evu, evf, implies_true, reduceCtorEq, Nat.reduceEqDiff, ↓reduceIte, Nat.reduceAdd, Nat.reduceLeDiff, Nat.reduceLT, Nat.reduceMul, Int.reduceLT, Int.reduceLE, Int.reduceToNat, evz, e1, e2, e7, e8, e9, e12, hx10, hx11, eU8s, hlt']
      refine mspec_seen (.cons (Sees.refl _ _) (.cons s1 (.nil _))) ?_
      refine (all_at hA3 (l := G) (by omega) ha1).mono ?_
      rintro v τ4 ⟨rfl, fp4, hA4, k4, f4⟩
      have hB4 := hB3.keep k4 (fun x hx hm => hdis x hm hx)
      have hO2'' : Own τ.next τ4 t_int 1 x11 (H.map (AVal.int .i64 ·)) := by
        refine Own.move hO2' k4.2.2.1 fun K o n c e => ?_
        have h1 := hO2'.low e
        exact k4.2.2.2 K h1.2 fun hm => by have := hA.low K hm; omega
      obtain ⟨τ5, s2, d2⟩ := Own.sees2 hO2''
      have hdis4 : ∀ x ∈ fp4, x ∉ fp1 := fun x hx hm => by
        rcases f4 x hx with h | h
        · exact hdis x h hm
        · have := hB3.low x hm; omega
      have hK5 : Keep (uid x11) τ4 τ5 := by
        rcases d2 with rfl | ⟨K, hxk, rfl, hK2⟩
        · exact Keep.refl _ _
        · exact (Keep.refl _ _).set (.inl (mem_uid.2 ⟨_, _, _, hxk⟩)) _
      have hux : ∀ K ∈ uid x11, τ.next ≤ K ∧ K < τ3.next := fun K hK => by
        obtain ⟨o, n, c, e⟩ := mem_uid.1 hK; exact hO2'.low e
      have hA5 := hA4.keep hK5 (fun x hx hm => by
        have h1 := hux x hm
        rcases f4 x hx with h | h
        · have := hA.low x h; omega
        · omega)
      have hB5 := hB4.keep hK5 (fun x hx hm => by have h1 := hux x hm; have := hB0.low x hx; omega)
      simp only [↓evd, evu, evf, implies_true, reduceCtorEq, Nat.reduceEqDiff, ↓reduceIte, Nat.reduceAdd, Nat.reduceLeDiff, Nat.reduceLT, Nat.reduceMul, Int.reduceLT, Int.reduceLE, Int.reduceToNat, evz, e1, e2, e7, e8, e9, e12, hx10, hx11, eU8s]
      refine mspec_seen (.cons (Sees.refl _ _) (.cons s2 (.nil _))) ?_
      refine (all_at hB5 (l := H) (by omega) ha2).mono ?_
      rintro v τ6 ⟨rfl, fp6, hB6, k6, f6⟩
      have hA6 := hA5.keep k6 hdis4
      have hW6 : τ6.W = W := k6.1.trans (hK5.1.trans (k4.1.trans (hK1.1.trans hWτ)))
      have hh1 := ehead_at hA6
      have hh2 := ehead_at hB6
      have hx1 := etext_at hA6 (E1.R.head : Nat)
      have hx2 := etext_at hB6 (E2.R.head : Nat)
      have hu1 := eundone_at hA6
      have hu2 := eundone_at hB6
      rw [textV_head ht1.R] at hx1
      rw [textV_head ht2.R] at hx2
      have hteq : E1.text (E1.R.head : Nat) = E2.text (E2.R.head : Nat) := by
        rw [Eng.text, Eng.text, ht1.undone, ht2.undone, ht1.ls, ht2.ls, ht1.head, ht2.head]
      rw [ht1.undone] at hu1
      rw [ht2.undone] at hu2
      rw [hteq] at hx1
      have hfl := rise_len ht1.rise
      have hsm := same21_call τ6 (flips [] G) (flips [] G) (by omega)
      simp only [ints] at hu1 hu2 hsm
      have b0 : ((0 : Int) == 0) = true := rfl
      simp only [↓evd, evu, evf, implies_true, reduceCtorEq, Nat.reduceEqDiff, ↓reduceIte, Nat.reduceAdd, Nat.reduceLeDiff, Nat.reduceLT, Nat.reduceMul, Int.reduceLT, Int.reduceLE, Int.reduceToNat, evz, e1, e2, e7, e8, e9, e12]
      refine MSpec.of hh1 ?_
      simp only [↓evd, evu, evf, implies_true, reduceCtorEq, Nat.reduceEqDiff, ↓reduceIte, Nat.reduceAdd, Nat.reduceLeDiff, Nat.reduceLT, Nat.reduceMul, Int.reduceLT, Int.reduceLE, Int.reduceToNat, evz, e1, e2, e7, e8, e9, e12]
      refine MSpec.of hx1 ?_
      simp only [↓evd, evu, evf, implies_true, reduceCtorEq, Nat.reduceEqDiff, ↓reduceIte, Nat.reduceAdd, Nat.reduceLeDiff, Nat.reduceLT, Nat.reduceMul, Int.reduceLT, Int.reduceLE, Int.reduceToNat, evz, e1, e2, e7, e8, e9, e12]
      refine MSpec.of hh2 ?_
      simp only [↓evd, evu, evf, implies_true, reduceCtorEq, Nat.reduceEqDiff, ↓reduceIte, Nat.reduceAdd, Nat.reduceLeDiff, Nat.reduceLT, Nat.reduceMul, Int.reduceLT, Int.reduceLE, Int.reduceToNat, evz, e1, e2, e7, e8, e9, e12]
      refine MSpec.of hx2 ?_
      simp only [↓evd, evu, evf, implies_true, reduceCtorEq, Nat.reduceEqDiff, ↓reduceIte, Nat.reduceAdd, Nat.reduceLeDiff, Nat.reduceLT, Nat.reduceMul, Int.reduceLT, Int.reduceLE, Int.reduceToNat, evz, e1, e2, e7, e8, e9, e12, b0, aStr_self]
      refine MSpec.of hu1 ?_
      simp only [↓evd, evu, evf, implies_true, reduceCtorEq, Nat.reduceEqDiff, ↓reduceIte, Nat.reduceAdd, Nat.reduceLeDiff, Nat.reduceLT, Nat.reduceMul, Int.reduceLT, Int.reduceLE, Int.reduceToNat, evz, e1, e2, e7, e8, e9, e12]
      refine MSpec.of hu2 ?_
      simp only [↓evd, evu, evf, implies_true, reduceCtorEq, Nat.reduceEqDiff, ↓reduceIte, Nat.reduceAdd, Nat.reduceLeDiff, Nat.reduceLT, Nat.reduceMul, Int.reduceLT, Int.reduceLE, Int.reduceToNat, evz, e1, e2, e7, e8, e9, e12]
      refine MSpec.of hsm ?_
      simp only [↓evd, evu, evf, implies_true, reduceCtorEq, Nat.reduceEqDiff, ↓reduceIte, Nat.reduceAdd, Nat.reduceLeDiff, Nat.reduceLT, Nat.reduceMul, Int.reduceLT, Int.reduceLE, Int.reduceToNat, evz]
      exact hW6
  · refine ⟨0, by omega, ?_⟩
    simp only [↓evd, evu, evf, implies_true, reduceCtorEq, Nat.reduceEqDiff, ↓reduceIte, Nat.reduceAdd, Nat.reduceLeDiff, Nat.reduceLT, Nat.reduceMul, Int.reduceLT, Int.reduceLE, Int.reduceToNat, evz, eU8s]
    exact ⟨Own.nil _ _ _ _, Own.nil _ _ _ _, fun K hK => (by cases hK), Keep.refl _ _⟩
theorem undoOrder_row (W : World) (a0 a1 : List Int) (a2 : Int) (g0 : GList (GInt .u8) a0) (g1 : GList (GInt .u8) a1) (g2 : GInt .u8 a2) : FSpec Tryz.prog n_palinodelaw21_UndoOrder [.fsl 1 (a0.map (fun n : Int => AVal.int .u8 n)), .fsl 1 (a1.map (fun n : Int => AVal.int .u8 n)), .int .u8 a2] (Heap.bare W (cellsOf W)) fun v s => v = .bool true ∧ s.W = W :=
  undoOrder_fspec W a0 a1 a2 (fun g hg => gint_u8 (g0.1 g hg)) (fun g hg => gint_u8 (g1.1 g hg)) (gint_u8 g2).1 (gint_u8 g2).2
end Go.Proofs.YtmjngohmcljfjaaGreat.M
set_option linter.unusedSimpArgs false
set_option linter.unusedVariables false
set_option maxRecDepth 100000
namespace Go.Proofs.YtmjngohmcljfjaaGreat.M
open Go Go.Mini
attribute [local congr] go1_congr goM_congr goG_congr goV_congr drawwp_congr Xwp_congr
theorem wrap_suc {i : Nat} (h : i < 9223372036854775807) : IntKind.i64.wrap ((i : Int) + 1) = ((i + 1 : Nat) : Int) := by rw [wrap_id (by omega) (by omega)]; rfl
/-! ### Steps of law 20 -/
structure Step where
  what : Int
  base : Int
  group : Int
  rank : Int
  c : List Chg
  groups : List Int
def eStep (x : Step) : AVal := .agg [.int .i64 x.what, .int .i64 x.base, .int .i64 x.group, .int .i64 x.rank, eChgs x.c, ints x.groups]
def eSteps (l : List Step) : AVal := .fsl 6 (l.map eStep)
theorem eStep_pure (x : Step) : (eStep x).pure = true := by simp only [eStep, AVal.pure, AVal.pures, eChgs_pure, ints_pure]; rfl
theorem eSteps_pure (l : List Step) : (eSteps l).pure = true := by simp only [eSteps, AVal.pure]; exact pures_map _ _ (fun _ _ => eStep_pure _)
def fewOne (x : Step) : Bool := x.c.all (fun c => decide (c.text.length ≤ 60)) && decide (x.c.length ≤ 12) && decide (x.groups.length ≤ 20)
def fewB (l : List Step) : Bool := l.all fewOne && decide (l.length ≤ 25)
def StepFits (x : Step) : Prop := x.c.length ≤ 9223372036854775807 ∧ x.groups.length ≤ 9223372036854775807
set_option maxHeartbeats 2000000 in
theorem few_call (σ : Heap) (l : List Step) (hl : l.length ≤ 9223372036854775807) (hx : ∀ x ∈ l, StepFits x) : ACall Tryz.prog n_palinodelaw20_few [eSteps l] σ (.bool (fewB l)) σ := by
  refine bare_call (by simp only [AVal.pures, eSteps_pure]; rfl) rfl (fun W F => spec_of_awp mixed c_palinodelaw20_few (Nat.le_of_ble_eq_true rfl) ?_) σ
  unfold f_palinodelaw20_few
  simp only [↓evd, evu, evf, implies_true, reduceCtorEq, Nat.reduceEqDiff, ↓reduceIte, Nat.reduceAdd, Nat.reduceLeDiff, Nat.reduceLT, Nat.reduceMul, Int.reduceLT, Int.reduceLE, Int.reduceToNat, evz]
  refine awp_loop (fun m fr τ => ∃ i, m + i = l.length ∧ fr.get 0 = eSteps l ∧ fr.get 3 = .int .i64 (i : Nat) ∧ (l.take i).all fewOne = true ∧ τ.W = W ∧ τ.F0 = F) ?_ (m := l.length) ?_
  · rintro m fr τ ⟨i, hi, e0, e3, ha, hW, hF⟩
    by_cases hlt : i < l.length
    · have hlt' : (i : Int) < (l.length : Int) := by omega
      have hs := wrap_suc (i := i) (by omega)
      have hgt := map_get eStep l i hlt
      have htk := List.take_succ_eq_append_getElem hlt
      have hmem := List.getElem_mem hlt
      have hfx := hx _ hmem
      have hbad : fewOne l[i] = false → fewB l = false := fun h => by
        simp only [fewB, Bool.and_eq_false_iff, List.all_eq_false]
        exact .inl ⟨_, hmem, by simp [h]⟩
      generalize l[i] = x at hgt htk hmem hfx hbad
      simp only [↓evd, evu, evf, implies_true, reduceCtorEq, Nat.reduceEqDiff, ↓reduceIte, Nat.reduceAdd, Nat.reduceLeDiff, Nat.reduceLT, Nat.reduceMul, Int.reduceLT, Int.reduceLE, Int.reduceToNat, evz, e0, e3, eSteps, hlt']
      refine awp_loop (fun m' fr ρ => ∃ j, m' + j = x.c.length ∧ fr.get 0 = eSteps l ∧ fr.get 3 = .int .i64 (i : Nat) ∧ fr.get 4 = .int .i64 (j : Nat) ∧ fr.get 5 = .int .i64 (j : Nat) ∧ (x.c.take j).all (fun c => decide (c.text.length ≤ 60)) = true ∧ ρ.W = W ∧ ρ.F0 = F) ?_ (m := x.c.length) ?_
      · clear e0 e3 hW hF
        rintro m' fr ρ ⟨j, hj, e0, e3, e4, e5, hja, hW, hF⟩
        by_cases hjt : j < x.c.length
        · have hjt' : (j : Int) < (x.c.length : Int) := by omega
          have hsj := wrap_suc (i := j) (by have := hfx.1; omega)
          have hgj := map_get eChg x.c j hjt
          have htj := List.take_succ_eq_append_getElem hjt
          have hmj := List.getElem_mem hjt
          generalize x.c[j] = c at hgj htj hmj
          by_cases h60 : (60 : Int) < (c.text.length : Int)
          · have hf : fewB l = false := hbad (by
              simp only [fewOne, Bool.and_eq_false_iff, List.all_eq_false]
              exact .inl (.inl ⟨c, hmj, by simp; omega⟩))
            simp only [↓evd, evu, evf, implies_true, reduceCtorEq, Nat.reduceEqDiff, ↓reduceIte, Nat.reduceAdd, Nat.reduceLeDiff, Nat.reduceLT, Nat.reduceMul, Int.reduceLT, Int.reduceLE, Int.reduceToNat, evz, e0, e3, e4, e5, eSteps, eStep, hlt', hgt, hjt', hgj, h60]
            rw [hf]
            exact seen rfl hW hF
          · simp only [↓evd, evu, evf, implies_true, reduceCtorEq, Nat.reduceEqDiff, ↓reduceIte, Nat.reduceAdd, Nat.reduceLeDiff, Nat.reduceLT, Nat.reduceMul, Int.reduceLT, Int.reduceLE, Int.reduceToNat, evz, e0, e3, e4, e5, eSteps, eStep, hlt', hgt, hjt', hgj, h60, hsj]
            refine ⟨m' - 1, by omega, j + 1, by omega, rfl, rfl, ?_, hW, hF⟩
            rw [htj, List.all_append, hja]
            simp; omega
        · have hjt' : ¬ (j : Int) < (x.c.length : Int) := by omega
          rw [List.take_of_length_le (by omega)] at hja
          have hjl : j = x.c.length := by omega
          subst hjl
          by_cases h12 : (12 : Int) < (x.c.length : Int)
          · have hf : fewB l = false := hbad (by
              simp only [fewOne, Bool.and_eq_false_iff, decide_eq_false_iff_not]
              exact .inl (.inr (by omega)))
            simp only [↓evd, evu, evf, implies_true, reduceCtorEq, Nat.reduceEqDiff, ↓reduceIte, Nat.reduceAdd, Nat.reduceLeDiff, Nat.reduceLT, Nat.reduceMul, Int.reduceLT, Int.reduceLE, Int.reduceToNat, evz, e0, e3, e4, e5, eSteps, eStep, hlt', hgt, hjt', h12]
            rw [hf]
            exact seen rfl hW hF
          · by_cases h20 : (20 : Int) < (x.groups.length : Int)
            · have hf : fewB l = false := hbad (by
                simp only [fewOne, Bool.and_eq_false_iff, decide_eq_false_iff_not]
                exact .inr (by omega))
              simp only [↓evd, evu, evf, implies_true, reduceCtorEq, Nat.reduceEqDiff, ↓reduceIte, Nat.reduceAdd, Nat.reduceLeDiff, Nat.reduceLT, Nat.reduceMul, Int.reduceLT, Int.reduceLE, Int.reduceToNat, evz, e0, e3, e4, e5, eSteps, eStep, hlt', hgt, hjt', h12, h20]
              rw [hf]
              exact seen rfl hW hF
            · simp only [↓evd, evu, evf, implies_true, reduceCtorEq, Nat.reduceEqDiff, ↓reduceIte, Nat.reduceAdd, Nat.reduceLeDiff, Nat.reduceLT, Nat.reduceMul, Int.reduceLT, Int.reduceLE, Int.reduceToNat, evz, e0, e3, e4, e5, eSteps, eStep, hlt', hgt, hjt', h12, h20, hs]
              refine ⟨m - 1, by omega, i + 1, by omega, rfl, ?_, hW, hF⟩
              rw [htk, List.all_append, ha]
              simp only [List.all_cons, List.all_nil, fewOne, hja, Bool.true_and, Bool.and_true, Bool.and_eq_true, decide_eq_true_eq]
              omega
      · refine ⟨0, by omega, ?_⟩
        simp only [↓evd, evu, evf, implies_true, reduceCtorEq, Nat.reduceEqDiff, ↓reduceIte, Nat.reduceAdd, Nat.reduceLeDiff, Nat.reduceLT, Nat.reduceMul, Int.reduceLT, Int.reduceLE, Int.reduceToNat, evz, e0, e3, eSteps]
        simp [hW, hF]
    · have hlt' : ¬ (i : Int) < (l.length : Int) := by omega
      rw [List.take_of_length_le (by omega)] at ha
      have hf : fewB l = decide ((l.length : Int) ≤ 25) := by
        simp only [fewB, ha, Bool.true_and]
        exact decide_eq_decide.2 (by omega)
      simp only [↓evd, evu, evf, implies_true, reduceCtorEq, Nat.reduceEqDiff, ↓reduceIte, Nat.reduceAdd, Nat.reduceLeDiff, Nat.reduceLT, Nat.reduceMul, Int.reduceLT, Int.reduceLE, Int.reduceToNat, evz, e0, e3, eSteps, hlt']
      rw [hf]
      exact seen rfl hW hF
  · refine ⟨0, by omega, ?_⟩
    simp only [↓evd, evu, evf, implies_true, reduceCtorEq, Nat.reduceEqDiff, ↓reduceIte, Nat.reduceAdd, Nat.reduceLeDiff, Nat.reduceLT, Nat.reduceMul, Int.reduceLT, Int.reduceLE, Int.reduceToNat, evz, eSteps]
/-- what a step that forgets nothing makes of an engine -/
def doE (E : Eng) (x : Step) : Eng × Int × Int := if x.what ≤ 4 then editE E x.base x.group x.rank x.c else toggleE E x.group
theorem fewOne_iff {x : Step} : fewOne x = true ↔ (∀ c ∈ x.c, c.text.length ≤ 60) ∧ x.c.length ≤ 12 ∧ x.groups.length ≤ 20 := by
  simp only [fewOne, Bool.and_eq_true, List.all_eq_true, decide_eq_true_eq, and_assoc]
theorem do_at {σ : Heap} {k : Nat} {E E' : Eng} {fp : List Nat} {n c : Int} (h : IsEng σ k E fp) {x : Step} (hf : fewOne x = true) (hw : x.what ≤ 6) (e : doE E x = (E', n, c)) :
    MSpec Tryz.prog n_palinodelaw20_do [.ptr (.new k) 0, eStep x] σ fun v τ => v = .tup [.int .i64 n, .int .i64 c] ∧ ∃ fp', IsEng τ k E' fp' ∧ Keep fp σ τ ∧ Fresh fp σ fp' := by
  obtain ⟨f1, f2, f3⟩ := fewOne_iff.1 hf
  refine spec_of_awp mixed c_palinodelaw20_do (Nat.le_of_ble_eq_true rfl) ?_
  unfold f_palinodelaw20_do
  have hk : Keep [] σ (σ.new (.cells [.int .i64 x.what, .int .i64 x.base, .int .i64 x.group, .int .i64 x.rank, eChgs x.c, ints x.groups] none)) := (Keep.refl _ _).new _
  have hE := h.keep hk (fun y _ => by simp)
  have fin : ∀ {τ : Heap} {fp' : List Nat}, IsEng τ k E' fp' → Keep fp (σ.new (.cells [.int .i64 x.what, .int .i64 x.base, .int .i64 x.group, .int .i64 x.rank, eChgs x.c, ints x.groups] none)) τ → Fresh fp (σ.new (.cells [.int .i64 x.what, .int .i64 x.base, .int .i64 x.group, .int .i64 x.rank, eChgs x.c, ints x.groups] none)) fp' → ∃ fp', IsEng τ k E' fp' ∧ Keep fp σ τ ∧ Fresh fp σ fp' := fun h1 h2 h3 =>
    ⟨_, h1, (hk.mono (fun x hx => nomatch hx)).trans h2 (fun x hx => .inl hx), fun x hx => by
      rcases h3 x hx with h | h
      · exact .inl h
      · exact .inr (Nat.le_of_succ_le h)⟩
  by_cases h4 : x.what ≤ 4
  · rw [doE, if_pos h4] at e
    have hed := eedit_at hE (by omega) (fun c hc => by have := f1 c hc; omega) e
    simp only [eChgs, ints] at hed
    simp only [↓evd, evu, evf, implies_true, reduceCtorEq, Nat.reduceEqDiff, ↓reduceIte, Nat.reduceAdd, Nat.reduceLeDiff, Nat.reduceLT, Nat.reduceMul, Int.reduceLT, Int.reduceLE, Int.reduceToNat, evz, eStep, h4]
    refine hed.mono ?_
    rintro v τ ⟨rfl, fp', h1, h2, h3⟩
    simp only [↓evd, evu, evf, implies_true, reduceCtorEq, Nat.reduceEqDiff, ↓reduceIte, Nat.reduceAdd, Nat.reduceLeDiff, Nat.reduceLT, Nat.reduceMul, Int.reduceLT, Int.reduceLE, Int.reduceToNat, evz]
    exact fin h1 h2 h3
  · rw [doE, if_neg h4] at e
    have htg := etoggle_at hE e
    simp only [eChgs, ints] at htg
    simp only [↓evd, evu, evf, implies_true, reduceCtorEq, Nat.reduceEqDiff, ↓reduceIte, Nat.reduceAdd, Nat.reduceLeDiff, Nat.reduceLT, Nat.reduceMul, Int.reduceLT, Int.reduceLE, Int.reduceToNat, evz, eStep, h4, hw]
    refine htg.mono ?_
    rintro v τ ⟨rfl, fp', h1, h2, h3⟩
    simp only [↓evd, evu, evf, implies_true, reduceCtorEq, Nat.reduceEqDiff, ↓reduceIte, Nat.reduceAdd, Nat.reduceLeDiff, Nat.reduceLT, Nat.reduceMul, Int.reduceLT, Int.reduceLE, Int.reduceToNat, evz]
    exact fin h1 h2 h3
def gChg (x : Chg) : Prop := GInt .i64 x.frm ∧ GInt .i64 x.to ∧ GStr x.text
def gStep (x : Step) : Prop := GInt .i64 x.what ∧ GInt .i64 x.base ∧ GInt .i64 x.group ∧ GInt .i64 x.rank ∧ GList gChg x.c ∧ GList (GInt .i64) x.groups
theorem maxLen_le : maxLen ≤ 9223372036854775807 := by decide
theorem steps_fit {l : List Step} (h : GList gStep l) : l.length ≤ 9223372036854775807 ∧ ∀ x ∈ l, StepFits x := by
  have hm := maxLen_le
  refine ⟨Nat.le_trans h.2 hm, fun x hx => ?_⟩
  obtain ⟨_, _, _, _, h5, h6⟩ := h.1 x hx
  exact ⟨Nat.le_trans h5.2 hm, Nat.le_trans h6.2 hm⟩
end Go.Proofs.YtmjngohmcljfjaaGreat.M
set_option linter.unusedSimpArgs false
set_option linter.unusedVariables false
set_option maxRecDepth 100000
namespace Go.Proofs.YtmjngohmcljfjaaGreat.M
open Go Go.Mini
attribute [local congr] go1_congr goM_congr goG_congr goV_congr drawwp_congr
set_option maxHeartbeats 1000000 in
theorem same20_call (σ : Heap) (a b : List Int) (ha : a.length ≤ 1000000) : ACall Tryz.prog n_palinodelaw20_same [ints a, ints b] σ (.bool (decide (a = b))) σ := by
  refine bare_call (by simp only [AVal.pures, ints_pure]; rfl) rfl (fun W F => spec_of_awp mixed c_palinodelaw20_same (Nat.le_of_ble_eq_true rfl) ?_) σ
  unfold f_palinodelaw20_same
  by_cases hl : a.length = b.length
  · have hb : ((a.length : Int) != (b.length : Int)) = false := by simp [hl]
    simp only [↓evd, evu, evf, implies_true, reduceCtorEq, Nat.reduceEqDiff, ↓reduceIte, Nat.reduceAdd, Nat.reduceLeDiff, Nat.reduceLT, Nat.reduceMul, Int.reduceLT, Int.reduceLE, Int.reduceToNat, evz, hb]
    refine awp_loop (fun m fr τ => ∃ i, m + i = a.length ∧ fr.get 0 = ints a ∧ fr.get 1 = ints b ∧ fr.get 5 = .int .i64 (i : Nat) ∧ a.take i = b.take i ∧ τ.W = W ∧ τ.F0 = F) ?_ (m := a.length) ?_
    · rintro m fr τ ⟨i, hi, e0, e1, e5, ht, hW, hF⟩
      by_cases hlt : i < a.length
      · have hlt' : (i : Int) < (a.length : Int) := by omega
        have hlb : i < b.length := by omega
        have hg := map_get (AVal.int .i64 ·) a i hlt
        have hg2 := map_get (AVal.int .i64 ·) b i hlb
        have hs := wrap_succ (i := i) (by omega)
        have t1 := List.take_succ_eq_append_getElem hlt
        have t2 := List.take_succ_eq_append_getElem hlb
        have hne : a[i] ≠ b[i] → a ≠ b := fun h e => by subst e; exact h rfl
        generalize a[i] = x at hg t1 hne
        generalize b[i] = y at hg2 t2 hne
        by_cases hxy : x = y
        · have hb2 : (x != y) = false := by simp [hxy]
          simp only [↓evd, evu, evf, implies_true, reduceCtorEq, Nat.reduceEqDiff, ↓reduceIte, Nat.reduceAdd, Nat.reduceLeDiff, Nat.reduceLT, Nat.reduceMul, Int.reduceLT, Int.reduceLE, Int.reduceToNat, evz, e0, e1, e5, hlt']
          with_reducible refine draw_of_grow (fun _ => True) (ms := [false, false, false, false, false, false, false, false, false]) (by kernel_rfl) ?_
          simp only [↓evd, evu, evf, implies_true, reduceCtorEq, Nat.reduceEqDiff, ↓reduceIte, Nat.reduceAdd, Nat.reduceLeDiff, Nat.reduceLT, Nat.reduceMul, Int.reduceLT, Int.reduceLE, Int.reduceToNat, evz, e0, e1, e5, hlt', hg, hg2, hb2, hs]
          exact ⟨m - 1, by omega, i + 1, by omega, rfl, by rw [t1, t2, ht, hxy], hW, hF⟩
        · have hb2 : (x != y) = true := by simp [hxy]
          simp only [↓evd, evu, evf, implies_true, reduceCtorEq, Nat.reduceEqDiff, ↓reduceIte, Nat.reduceAdd, Nat.reduceLeDiff, Nat.reduceLT, Nat.reduceMul, Int.reduceLT, Int.reduceLE, Int.reduceToNat, evz, e0, e1, e5, hlt']
          with_reducible refine draw_of_grow (fun _ => True) (ms := [false, false, false, false, false, false, false, false, false]) (by kernel_rfl) ?_
          simp only [↓evd, evu, evf, implies_true, reduceCtorEq, Nat.reduceEqDiff, ↓reduceIte, Nat.reduceAdd, Nat.reduceLeDiff, Nat.reduceLT, Nat.reduceMul, Int.reduceLT, Int.reduceLE, Int.reduceToNat, evz, e0, e1, e5, hlt', hg, hg2, hb2, hs]
          exact seen (by rw [decide_eq_false (hne hxy)]) hW hF
      · have hlt' : ¬ (i : Int) < (a.length : Int) := by omega
        simp only [↓evd, evu, evf, implies_true, reduceCtorEq, Nat.reduceEqDiff, ↓reduceIte, Nat.reduceAdd, Nat.reduceLeDiff, Nat.reduceLT, Nat.reduceMul, Int.reduceLT, Int.reduceLE, Int.reduceToNat, evz, e0, e1, e5, hlt']
        refine seen ?_ hW hF
        rw [List.take_of_length_le (by omega), List.take_of_length_le (by omega)] at ht
        rw [decide_eq_true ht]
    · refine ⟨0, by omega, ?_⟩
      simp only [↓evd, evu, evf, implies_true, reduceCtorEq, Nat.reduceEqDiff, ↓reduceIte, Nat.reduceAdd, Nat.reduceLeDiff, Nat.reduceLT, Nat.reduceMul, Int.reduceLT, Int.reduceLE, Int.reduceToNat, evz]
  · have hb : ((a.length : Int) != (b.length : Int)) = true := by simp; omega
    simp only [↓evd, evu, evf, implies_true, reduceCtorEq, Nat.reduceEqDiff, ↓reduceIte, Nat.reduceAdd, Nat.reduceLeDiff, Nat.reduceLT, Nat.reduceMul, Int.reduceLT, Int.reduceLE, Int.reduceToNat, evz, hb]
    exact seen (by rw [decide_eq_false (fun e => hl (by rw [e]))]) rfl rfl

/-- all is of revisions that were -/
def Eng.Old (E : Eng) : Prop := ∀ a ∈ E.l, a.rev ≤ (E.R.head : Nat) ∧ ∀ c ∈ a.cuts, c.rev ≤ (E.R.head : Nat)
theorem Eng.new_old : Eng.new.Old := by intro a ha; cases ha
theorem edit_shape {E E' : Eng} {base group rank n : Int} {cs : List Chg} (hR : E.R.Ok) (e : editE E base group rank cs = (E', n, 0)) : group ∉ E.R.gone ∧ 0 ≤ group ∧ group < 60 ∧ E.R.head < 200 ∧ E.R.live base = true ∧ check (E.text base) cs = 0 ∧ 0 ≤ rank ∧ rank ≤ 1000000 ∧ n = ((E.R.head + 1 : Nat) : Int) ∧
    E' = ⟨upon E.l base (E.R.undone base) cs ((E.R.head + 1 : Nat) : Int) group rank, { E.R.push E.R.top with grp := insS group E.R.grp }⟩ ∧ E'.R.head = E.R.head + 1 := by
  unfold editE at e
  split at e
  · simp only [Prod.mk.injEq] at e; exact absurd e.2.2 (by decide)
  rename_i h1
  split at e
  · rename_i h2; simp only [Prod.mk.injEq] at e; exact absurd e.2.2 h2
  rename_i h2
  split at e
  · rename_i h3; simp only [Prod.mk.injEq] at e; exact absurd e.2.2 h3
  rename_i h3
  split at e
  · simp only [Prod.mk.injEq] at e; exact absurd e.2.2 (by decide)
  rename_i h4
  split at e
  · simp only [Prod.mk.injEq] at e; exact absurd e.2.2 (by decide)
  split at e
  · simp only [Prod.mk.injEq] at e; exact absurd e.2.2 (by decide)
  obtain ⟨q1, q2, q3, q4, e1, e2⟩ := addR_ok (by simpa using h3) hR
  cases e
  exact ⟨q1, q2, q3, q4, by simpa using h1, by simpa using h2, by omega, by omega, by rw [e1]; rfl, by rw [e1]; rfl, e2⟩
theorem edit_old {E E' : Eng} {base group rank n : Int} {cs : List Chg} (hR : E.R.Ok) (hO : E.Old) (e : editE E base group rank cs = (E', n, 0)) : E'.Old := by
  obtain ⟨_, _, _, _, _, _, _, _, _, he, hh⟩ := edit_shape hR e
  intro a ha
  rw [hh]
  rw [he] at ha
  rcases mem_upon ha with ⟨b, hb, rfl | rfl⟩ | ⟨b, _, rfl⟩
  · have := hO a hb; exact ⟨by omega, fun c hc => by have := this.2 c hc; omega⟩
  · have := hO b hb
    refine ⟨by simp only; omega, fun c hc => ?_⟩
    simp only [List.mem_append, List.mem_singleton] at hc
    rcases hc with hc | rfl
    · have := this.2 c hc; omega
    · simp only; omega
  · exact ⟨by simp only; omega, fun c hc => by cases hc⟩
theorem toggle_shape {E E' : Eng} {g n : Int} (hR : E.R.Ok) (e : toggleE E g = (E', n, 0)) : g ∈ E.R.grp ∧ E.R.head < 200 ∧ n = ((E.R.head + 1 : Nat) : Int) ∧ E' = ⟨E.l, E.R.push (flip g E.R.top)⟩ ∧ E'.R.head = E.R.head + 1 := by
  unfold toggleE at e
  split at e
  · rename_i h2; simp only [Prod.mk.injEq] at e; exact absurd e.2.2 h2
  rename_i h3
  split at e
  · simp only [Prod.mk.injEq] at e; exact absurd e.2.2 (by decide)
  obtain ⟨q1, q2, e1, e2⟩ := toggleR_ok (by simpa using h3) hR
  cases e
  exact ⟨q1, q2, by rw [e1]; rfl, by rw [e1], e2⟩
theorem toggle_old {E E' : Eng} {g n : Int} (hR : E.R.Ok) (hO : E.Old) (e : toggleE E g = (E', n, 0)) : E'.Old := by
  obtain ⟨_, _, _, he, hh⟩ := toggle_shape hR e
  intro a ha
  rw [he] at ha
  have := hO a ha
  rw [hh]
  exact ⟨by omega, fun c hc => by have := this.2 c hc; omega⟩
/-- an engine that edits alone made -/
structure TwInv (E : Eng) (i : Nat) : Prop where
  top : E.R.top = []
  head : E.R.head ≤ i
  old : E.Old
  grp : ∀ a ∈ E.l, a.group ∈ E.R.grp
theorem TwInv.new : TwInv Eng.new 0 := ⟨rfl, Nat.le_refl _, Eng.new_old, fun a h => by cases h⟩
theorem TwInv.mono {E : Eng} {i : Nat} (h : TwInv E i) : TwInv E (i + 1) := ⟨h.top, by have := h.head; omega, h.old, h.grp⟩
theorem TwInv.edit {E E' : Eng} {i : Nat} (h : TwInv E i) (hR : E.R.Ok) {base group rank n c : Int} {cs : List Chg} (e : editE E base group rank cs = (E', n, c)) : TwInv E' (i + 1) := by
  by_cases hc : c = 0
  · subst hc
    obtain ⟨_, _, _, _, _, _, _, _, _, he, hh⟩ := edit_shape hR e
    refine ⟨?_, by have := h.head; omega, edit_old hR h.old e, fun a ha => ?_⟩
    · rw [he]; show (E.R.push E.R.top).top = []; rw [top_push, h.top]
    · rw [he] at ha ⊢
      show a.group ∈ insS group E.R.grp
      rw [mem_insS]
      rcases mem_upon ha with ⟨b, hb, rfl | rfl⟩ | ⟨b, _, rfl⟩
      · exact .inr (h.grp a hb)
      · exact .inr (h.grp b hb)
      · exact .inl rfl
  · rw [(edit_fail e hc).1]; exact h.mono
end Go.Proofs.YtmjngohmcljfjaaGreat.M
set_option linter.unusedSimpArgs false
set_option linter.unusedVariables false
set_option maxRecDepth 100000
namespace Go.Proofs.YtmjngohmcljfjaaGreat.M
open Go Go.Mini
attribute [local congr] go1_congr goM_congr goG_congr goV_congr drawwp_congr Xwp_congr
theorem flip_flip {x : Int} {s : List Int} (hs : Rise s) (h0 : 0 ≤ x) (h1 : x < 60) : flip x (flip x s) = s := by
  refine rise_ext ((hs.flip h0 h1).flip h0 h1) hs fun y => ?_
  rw [mem_flip (hs.flip h0 h1)]
  by_cases e : y = x
  · subst e; rw [if_pos rfl, mem_flip hs, if_pos rfl]
    exact ⟨fun h => Classical.byContradiction h, fun h h2 => h2 h⟩
  · rw [if_neg e, mem_flip hs, if_neg e]
theorem TwInv.tinv {E : Eng} {i : Nat} (h : TwInv E i) (hok : E.Ok) (hR : E.R.Ok) : TInv E E.l E.R.grp [] E.R.head := ⟨rfl, (fun x hx => nomatch hx), rfl, h.top, rfl, hok.len, hok, hR⟩
theorem old_text {l : List Atom} {r r' : Int} {u : List Int} {h : Nat} (ho : ∀ a ∈ l, a.rev ≤ (h : Nat) ∧ ∀ c ∈ a.cuts, c.rev ≤ (h : Nat)) (h1 : (h : Int) ≤ r) (h2 : (h : Int) ≤ r') : atomsText r u l = atomsText r' u l := by
  refine atomsText_congr fun a ha => ?_
  obtain ⟨g1, g2⟩ := ho a ha
  have hc : a.cuts.any (cutHolds r u) = a.cuts.any (cutHolds r' u) := by
    rw [Bool.eq_iff_iff, List.any_eq_true, List.any_eq_true]
    constructor <;> rintro ⟨c, hc, h⟩ <;> refine ⟨c, hc, ?_⟩ <;> have := g2 c hc <;> simp only [cutHolds, Bool.and_eq_true, decide_eq_true_eq] at h ⊢ <;> exact ⟨by omega, h.2⟩
  simp only [visible, hc]
  rw [decide_eq_true (show a.rev ≤ r by omega), decide_eq_true (show a.rev ≤ r' by omega)]
set_option maxHeartbeats 8000000 in
theorem twice_fspec (W : World) (l : List Step) (t : Int) (hl : l.length ≤ 9223372036854775807) (hx : ∀ x ∈ l, StepFits x) (ht0 : 0 ≤ t) (ht1 : t < 256) : FSpec Tryz.prog n_palinodelaw20_EngineTwice [eSteps l, .int .u8 t] (Heap.bare W (cellsOf W)) fun v s => v = .bool true ∧ s.W = W := by
  refine fspec_of_awp mixed c_palinodelaw20_EngineTwice (Nat.le_of_ble_eq_true rfl) ?_
  unfold f_palinodelaw20_EngineTwice
  have hfew := few_call (Heap.bare W (cellsOf W)) l hl hx
  simp only [eSteps] at hfew
  simp only [↓evd, evu, evf, implies_true, reduceCtorEq, Nat.reduceEqDiff, ↓reduceIte, Nat.reduceAdd, Nat.reduceLeDiff, Nat.reduceLT, Nat.reduceMul, Int.reduceLT, Int.reduceLE, Int.reduceToNat, evz]
  refine MSpec.of (known20_call _ rfl) ?_
  simp only [↓evd, evu, evf, implies_true, reduceCtorEq, Nat.reduceEqDiff, ↓reduceIte, Nat.reduceAdd, Nat.reduceLeDiff, Nat.reduceLT, Nat.reduceMul, Int.reduceLT, Int.reduceLE, Int.reduceToNat, evz, eSteps]
  refine MSpec.of hfew ?_
  cases hfb : fewB l with
  | false => simp only [↓evd, evu, evf, implies_true, reduceCtorEq, Nat.reduceEqDiff, ↓reduceIte, Nat.reduceAdd, Nat.reduceLeDiff, Nat.reduceLT, Nat.reduceMul, Int.reduceLT, Int.reduceLE, Int.reduceToNat, evz]
  | true =>
  have hall : ∀ x ∈ l, fewOne x = true := fun x hx => by
    simp only [fewB, Bool.and_eq_true, List.all_eq_true] at hfb
    exact hfb.1 x hx
  have hl25 : l.length ≤ 25 := by simp only [fewB, Bool.and_eq_true, decide_eq_true_eq] at hfb; exact hfb.2
  simp only [↓evd, evu, evf, implies_true, reduceCtorEq, Nat.reduceEqDiff, ↓reduceIte, Nat.reduceAdd, Nat.reduceLeDiff, Nat.reduceLT, Nat.reduceMul, Int.reduceLT, Int.reduceLE, Int.reduceToNat, evz]
  refine (enew_at _ rfl).mono ?_
  rintro v τ ⟨k, fp0, rfl, h0, hf0, k0⟩
  simp only [↓evd, evu, evf, implies_true, reduceCtorEq, Nat.reduceEqDiff, ↓reduceIte, Nat.reduceAdd, Nat.reduceLeDiff, Nat.reduceLT, Nat.reduceMul, Int.reduceLT, Int.reduceLE, Int.reduceToNat, evz]
  refine awp_loop (fun m fr ρ => ∃ (i : Nat) (E : Eng) (fp : List Nat), m + i = l.length ∧ fr.get 0 = eSteps l ∧ fr.get 1 = .int .u8 t ∧ fr.get 5 = .ptr (.new k) 0 ∧ fr.get 6 = .int .i64 (i : Nat) ∧ IsEng ρ k E fp ∧ TwInv E i ∧ ρ.W = W) ?_ (m := l.length) ?_
  · rintro m fr ρ ⟨i, E, fp, hi, e0, e1, e5, e6, hE, hT, hW⟩
    by_cases hlt : i < l.length
    · have hlt' : (i : Int) < (l.length : Int) := by omega
      have hs := wrap_succ (i := i) (by omega)
      have hgt := map_get eStep l i hlt
      have hone := hall _ (List.getElem_mem hlt)
      generalize l[i] = x at hgt hone
      by_cases h4 : x.what ≤ 4
      · rcases hdo : doE E x with ⟨E', n, c⟩
        have hdc := do_at hE hone (by omega) hdo
        rw [doE, if_pos h4] at hdo
        simp only [eStep, eChgs, ints] at hdc
        simp only [↓evd, evu, evf, implies_true, reduceCtorEq, Nat.reduceEqDiff, ↓reduceIte, Nat.reduceAdd, Nat.reduceLeDiff, Nat.reduceLT, Nat.reduceMul, Int.reduceLT, Int.reduceLE, Int.reduceToNat, evz, e0, e1, e5, e6, eSteps, eStep, hlt', hgt, h4]
        refine hdc.mono ?_
        rintro v τ1 ⟨rfl, fp1, hE1, kk1, f1⟩
        simp only [↓evd, evu, evf, implies_true, reduceCtorEq, Nat.reduceEqDiff, ↓reduceIte, Nat.reduceAdd, Nat.reduceLeDiff, Nat.reduceLT, Nat.reduceMul, Int.reduceLT, Int.reduceLE, Int.reduceToNat, evz, e0, e1, e5, e6, eSteps, eStep, hs]
        exact ⟨m - 1, by omega, i + 1, E', fp1, by omega, rfl, hE1, hT.edit hE.ok.2 hdo, kk1.1.trans hW⟩
      · simp only [↓evd, evu, evf, implies_true, reduceCtorEq, Nat.reduceEqDiff, ↓reduceIte, Nat.reduceAdd, Nat.reduceLeDiff, Nat.reduceLT, Nat.reduceMul, Int.reduceLT, Int.reduceLE, Int.reduceToNat, evz, e0, e1, e5, e6, eSteps, eStep, hlt', hgt, h4, hs]
        exact ⟨m - 1, by omega, i + 1, E, fp, by omega, rfl, hE, hT.mono, hW⟩
    · have hlt' : ¬ (i : Int) < (l.length : Int) := by omega
      obtain ⟨hok, hRok⟩ := hE.ok
      have hti := hT.tinv hok hRok
      have hold := hT.old
      have hgrp := hT.grp
      have hhd25 : E.R.head ≤ 25 := by have := hT.head; omega
      have hgr := egroups_at hE
      have hhd := ehead_at hE
      have htx := etext_at hE (E.R.head : Nat)
      rw [textV_head hRok] at htx
      have hs0 : E.text (E.R.head : Nat) = atomsText (E.R.head : Nat) [] E.l := by rw [Eng.text, hti.undone]
      rw [hs0] at htx
      have hgrise : Rise E.R.grp := hRok.grp
      have hgl := rise_len hgrise
      simp only [Eng.Old] at hold
      generalize E.R.head = hd at hti hhd htx hhd25 hold
      generalize E.R.grp = grp at hti hgrise hgl hgr hgrp
      generalize E.l = al at hti htx hold hgrp
      have hw : IntKind.i64.wrap t = t := wrap_id (by omega) (by omega)
      have b0 : ((0 : Int) != 0) = false := rfl
      have b0' : ((0 : Int) == 0) = true := rfl
      simp only [ints] at hgr
      simp only [↓evd, evu, evf, implies_true, reduceCtorEq, Nat.reduceEqDiff, ↓reduceIte, Nat.reduceAdd, Nat.reduceLeDiff, Nat.reduceLT, Nat.reduceMul, Int.reduceLT, Int.reduceLE, Int.reduceToNat, evz, e0, e1, e5, e6, eSteps, hlt']
      refine MSpec.of hgr ?_
      simp only [↓evd, evu, evf, implies_true, reduceCtorEq, Nat.reduceEqDiff, ↓reduceIte, Nat.reduceAdd, Nat.reduceLeDiff, Nat.reduceLT, Nat.reduceMul, Int.reduceLT, Int.reduceLE, Int.reduceToNat, evz, e0, e1, e5, e6]
      refine MSpec.of hhd ?_
      simp only [↓evd, evu, evf, implies_true, reduceCtorEq, Nat.reduceEqDiff, ↓reduceIte, Nat.reduceAdd, Nat.reduceLeDiff, Nat.reduceLT, Nat.reduceMul, Int.reduceLT, Int.reduceLE, Int.reduceToNat, evz, e0, e1, e5, e6]
      refine MSpec.of htx ?_
      -- the second loop, from whatever engine with nothing undone
      by_cases hn : grp = []
      · subst hn
        have hz : ¬ (0 : Int) < (([] : List Int).length : Int) := by simp
        have hnil : atomsText (hd : Nat) [] al = [] := atomsText_none _ _ _ fun a ha => absurd (hgrp a ha) (by simp)
        simp only [↓evd, evu, evf, implies_true, reduceCtorEq, Nat.reduceEqDiff, ↓reduceIte, Nat.reduceAdd, Nat.reduceLeDiff, Nat.reduceLT, Nat.reduceMul, Int.reduceLT, Int.reduceLE, Int.reduceToNat, evz, e0, e1, e5, e6, List.map_nil]
        refine awp_loop_unroll ?_
        have hu := eundone_at hE
        rw [hti.undone] at hu
        have hsm := same20_call ρ [] [] (by simp)
        simp only [ints, List.map_nil] at hu hsm
        simp only [↓evd, evu, evf, implies_true, reduceCtorEq, Nat.reduceEqDiff, ↓reduceIte, Nat.reduceAdd, Nat.reduceLeDiff, Nat.reduceLT, Nat.reduceMul, Int.reduceLT, Int.reduceLE, Int.reduceToNat, evz, e0, e1, e5, e6]
        refine MSpec.of hhd ?_
        simp only [↓evd, evu, evf, implies_true, reduceCtorEq, Nat.reduceEqDiff, ↓reduceIte, Nat.reduceAdd, Nat.reduceLeDiff, Nat.reduceLT, Nat.reduceMul, Int.reduceLT, Int.reduceLE, Int.reduceToNat, evz, e0, e1, e5, e6]
        refine MSpec.of htx ?_
        rw [hnil]
        simp only [↓evd, evu, evf, implies_true, reduceCtorEq, Nat.reduceEqDiff, ↓reduceIte, Nat.reduceAdd, Nat.reduceLeDiff, Nat.reduceLT, Nat.reduceMul, Int.reduceLT, Int.reduceLE, Int.reduceToNat, evz, e0, e1, e5, e6, b0', aStr_self]
        refine MSpec.of hu ?_
        simp only [↓evd, evu, evf, implies_true, reduceCtorEq, Nat.reduceEqDiff, ↓reduceIte, Nat.reduceAdd, Nat.reduceLeDiff, Nat.reduceLT, Nat.reduceMul, Int.reduceLT, Int.reduceLE, Int.reduceToNat, evz, e0, e1, e5, e6]
        refine MSpec.of hsm ?_
        simp only [↓evd, evu, evf, implies_true, reduceCtorEq, Nat.reduceEqDiff, ↓reduceIte, Nat.reduceAdd, Nat.reduceLeDiff, Nat.reduceLT, Nat.reduceMul, Int.reduceLT, Int.reduceLE, Int.reduceToNat, evz]
        exact hW
      · have hgp := List.length_pos_iff.2 hn
        have hz : (0 : Int) < (grp.length : Int) := by omega
        have hnz : ¬ (grp.length : Int) = 0 := by omega
        have hm1 := tmod_nat (n := grp.length) ht0 hgp
        have hp1 : t.toNat % grp.length < grp.length := Nat.mod_lt _ hgp
        have hp1' : ((t.toNat % grp.length : Nat) : Int) < (grp.length : Int) := by omega
        have hg1 := map_get (AVal.int .i64 ·) grp _ hp1
        have hxm := List.getElem_mem hp1
        generalize grp[t.toNat % grp.length] = x at hg1 hxm
        have hxb := hgrise.2 x hxm
        obtain ⟨ha1, ht1'⟩ := hti.toggle hxm (by omega)
        obtain ⟨ha2, ht2'⟩ := ht1'.toggle hxm (by omega)
        rw [flip_flip Rise.nil hxb.1 hxb.2] at ha2 ht2'
        simp only [↓evd, evu, evf, implies_true, reduceCtorEq, Nat.reduceEqDiff, ↓reduceIte, Nat.reduceAdd, Nat.reduceLeDiff, Nat.reduceLT, Nat.reduceMul, Int.reduceLT, Int.reduceLE, Int.reduceToNat, evz, e0, e1, e5, e6, hz, hw, hnz, hm1, hp1', hp1, hg1]
        refine (etoggle_at hE ha1).mono ?_
        rintro v τ1 ⟨rfl, fp1, hE1, kk1, f1⟩
        simp only [↓evd, evu, evf, implies_true, reduceCtorEq, Nat.reduceEqDiff, ↓reduceIte, Nat.reduceAdd, Nat.reduceLeDiff, Nat.reduceLT, Nat.reduceMul, Int.reduceLT, Int.reduceLE, Int.reduceToNat, evz, e0, e1, e5, e6]
        refine (etoggle_at hE1 ha2).mono ?_
        rintro v τ2 ⟨rfl, fp2, hE2, kk2, f2⟩
        have hW2 : τ2.W = W := kk2.1.trans (kk1.1.trans hW)
        have hhd2 := ehead_at hE2
        have htx2 := etext_at hE2 (hd + 1 + 1 : Nat)
        have htv := textV_head ht2'.R
        rw [ht2'.head] at hhd2 htv
        rw [htv, Eng.text, ← ht2'.head, ht2'.undone, ht2'.head, ht2'.ls, old_text hold (r' := (hd : Nat)) (by omega) (by omega)] at htx2
        have hu2 := eundone_at hE2
        rw [ht2'.undone] at hu2
        simp only [ints, List.map_nil] at hu2
        generalize hEE : (Eng.mk _ _ : Eng) = E2 at hE2 ht2'
        clear ha1 ht1' ha2 hE1 htv
        simp only [↓evd, evu, evf, implies_true, reduceCtorEq, Nat.reduceEqDiff, ↓reduceIte, Nat.reduceAdd, Nat.reduceLeDiff, Nat.reduceLT, Nat.reduceMul, Int.reduceLT, Int.reduceLE, Int.reduceToNat, evz, e0, e1, e5, e6]
        refine MSpec.of hhd2 ?_
        simp only [↓evd, evu, evf, implies_true, reduceCtorEq, Nat.reduceEqDiff, ↓reduceIte, Nat.reduceAdd, Nat.reduceLeDiff, Nat.reduceLT, Nat.reduceMul, Int.reduceLT, Int.reduceLE, Int.reduceToNat, evz, e0, e1, e5, e6]
        refine MSpec.of htx2 ?_
        simp only [↓evd, evu, evf, implies_true, reduceCtorEq, Nat.reduceEqDiff, ↓reduceIte, Nat.reduceAdd, Nat.reduceLeDiff, Nat.reduceLT, Nat.reduceMul, Int.reduceLT, Int.reduceLE, Int.reduceToNat, evz, e0, e1, e5, e6, b0, aStr_nself]
        refine MSpec.of hu2 ?_
        simp only [↓evd, evu, evf, implies_true, reduceCtorEq, Nat.reduceEqDiff, ↓reduceIte, Nat.reduceAdd, Nat.reduceLeDiff, Nat.reduceLT, Nat.reduceMul, Int.reduceLT, Int.reduceLE, Int.reduceToNat, evz, e0, e1, e5, e6, b0]
        refine awp_loop (fun m fr ρ => ∃ (i : Nat) (E : Eng) (fp : List Nat) (u : List Int), m + i = grp.length ∧ fr.get 5 = .ptr (.new k) 0 ∧ fr.get 7 = ints grp ∧ fr.get 13 = .int .i64 (i : Nat) ∧ IsEng ρ k E fp ∧ TInv E al grp u (hd + 2 + i) ∧ (∀ x, x ∈ u ↔ x ∈ grp.take i) ∧ ρ.W = W) ?_ (m := grp.length) ?_
        · clear e0 e1 e5 e6 hlt hlt' hi hE hE2 hW hW2 ht2' hgr hhd htx hhd2 htx2 hu2 hT
          rintro m fr ρ ⟨i, E, fp, u, hi, e5, e7, e13, hE, hT, hu, hW⟩
          by_cases hlt : i < grp.length
          · have hlt' : (i : Int) < (grp.length : Int) := by omega
            have hs := wrap_succ (i := i) (by omega)
            have hgt := map_get (AVal.int .i64 ·) grp i hlt
            have hgm := List.getElem_mem hlt
            have htk := List.take_succ_eq_append_getElem hlt
            have hnot : grp[i] ∉ grp.take i := by
              intro hm
              have hn2 := hgrise.nodup
              rw [← List.take_append_drop i grp, List.drop_eq_getElem_cons hlt] at hn2
              exact (List.nodup_append.1 hn2).2.2 _ hm _ (List.mem_cons_self ..) rfl
            generalize grp[i] = g at hgt hgm htk hnot
            obtain ⟨ha1, ht1'⟩ := hT.toggle hgm (by omega)
            simp only [↓evd, evu, evf, implies_true, reduceCtorEq, Nat.reduceEqDiff, ↓reduceIte, Nat.reduceAdd, Nat.reduceLeDiff, Nat.reduceLT, Nat.reduceMul, Int.reduceLT, Int.reduceLE, Int.reduceToNat, evz, e5, e7, e13, hlt', hgt]
            refine (etoggle_at hE ha1).mono ?_
            rintro v τ1 ⟨rfl, fp1, hE1, kk1, f1⟩
            simp only [↓evd, evu, evf, implies_true, reduceCtorEq, Nat.reduceEqDiff, ↓reduceIte, Nat.reduceAdd, Nat.reduceLeDiff, Nat.reduceLT, Nat.reduceMul, Int.reduceLT, Int.reduceLE, Int.reduceToNat, evz, e5, e7, e13, b0, hs]
            refine ⟨m - 1, by omega, i + 1, _, fp1, _, by omega, rfl, hE1, ht1', fun x => ?_, kk1.1.trans hW⟩
            rw [mem_flip hT.rise, htk, List.mem_append, List.mem_singleton]
            by_cases e : x = g
            · subst e; rw [if_pos rfl, hu]; simp [hnot]
            · rw [if_neg e, hu]; simp [e]
          · have hlt' : ¬ (i : Int) < (grp.length : Int) := by omega
            rw [List.take_of_length_le (by omega)] at hu
            have hug : u = grp := rise_ext hT.rise hgrise hu
            subst hug
            have hhd3 := ehead_at hE
            have htx3 := etext_at hE (E.R.head : Nat)
            rw [textV_head hT.R, Eng.text, hT.undone, hT.ls, atomsText_none] at htx3
            have hu3 := eundone_at hE
            rw [hT.undone] at hu3
            have hsm := same20_call ρ u u (by omega)
            simp only [ints] at hu3 hsm
            simp only [↓evd, evu, evf, implies_true, reduceCtorEq, Nat.reduceEqDiff, ↓reduceIte, Nat.reduceAdd, Nat.reduceLeDiff, Nat.reduceLT, Nat.reduceMul, Int.reduceLT, Int.reduceLE, Int.reduceToNat, evz, e5, e7, e13, hlt']
            refine MSpec.of hhd3 ?_
            simp only [↓evd, evu, evf, implies_true, reduceCtorEq, Nat.reduceEqDiff, ↓reduceIte, Nat.reduceAdd, Nat.reduceLeDiff, Nat.reduceLT, Nat.reduceMul, Int.reduceLT, Int.reduceLE, Int.reduceToNat, evz, e5, e7, e13]
            refine MSpec.of htx3 ?_
            simp only [↓evd, evu, evf, implies_true, reduceCtorEq, Nat.reduceEqDiff, ↓reduceIte, Nat.reduceAdd, Nat.reduceLeDiff, Nat.reduceLT, Nat.reduceMul, Int.reduceLT, Int.reduceLE, Int.reduceToNat, evz, e5, e7, e13, b0', aStr_self]
            refine MSpec.of hu3 ?_
            simp only [↓evd, evu, evf, implies_true, reduceCtorEq, Nat.reduceEqDiff, ↓reduceIte, Nat.reduceAdd, Nat.reduceLeDiff, Nat.reduceLT, Nat.reduceMul, Int.reduceLT, Int.reduceLE, Int.reduceToNat, evz, e5, e7, e13]
            refine MSpec.of hsm ?_
            simp only [↓evd, evu, evf, implies_true, reduceCtorEq, Nat.reduceEqDiff, ↓reduceIte, Nat.reduceAdd, Nat.reduceLeDiff, Nat.reduceLT, Nat.reduceMul, Int.reduceLT, Int.reduceLE, Int.reduceToNat, evz]
            exact hW
            intro a ha
            have hg := hgrp a ha
            have hg0 := (hgrise.2 _ hg).1
            have : holds u a.group = false := by
              simp only [holds, Bool.or_eq_false_iff, decide_eq_false_iff_not]
              exact ⟨by omega, by simp [hg]⟩
            simp only [visible, this, Bool.and_false, Bool.false_and]
        · refine ⟨0, E2, fp2, [], by omega, ?_⟩
          simp only [↓evd, evu, evf, implies_true, reduceCtorEq, Nat.reduceEqDiff, ↓reduceIte, Nat.reduceAdd, Nat.reduceLeDiff, Nat.reduceLT, Nat.reduceMul, Int.reduceLT, Int.reduceLE, Int.reduceToNat, evz, e5]
          refine ⟨hE2, ?_, hW2⟩
          exact ht2'
  · refine ⟨0, Eng.new, fp0, by omega, ?_⟩
    simp only [↓evd, evu, evf, implies_true, reduceCtorEq, Nat.reduceEqDiff, ↓reduceIte, Nat.reduceAdd, Nat.reduceLeDiff, Nat.reduceLT, Nat.reduceMul, Int.reduceLT, Int.reduceLE, Int.reduceToNat, evz, eSteps]
    exact ⟨h0, TwInv.new, k0.1⟩
theorem engineTwice_row (W : World) (a0 : List Step) (a1 : Int) (g0 : GList gStep a0) (g1 : GInt .u8 a1) : FSpec Tryz.prog n_palinodelaw20_EngineTwice [.fsl 6 (a0.map eStep), .int .u8 a1] (Heap.bare W (cellsOf W)) fun v s => v = .bool true ∧ s.W = W :=
  twice_fspec W a0 a1 (steps_fit g0).1 (steps_fit g0).2 (gint_u8 g1).1 (gint_u8 g1).2
end Go.Proofs.YtmjngohmcljfjaaGreat.M
