/- A part of the seat's proofs over the abstract machine. No condition. -/
import Derived.Test.YtioampofolilnaaGreatWB
import Derived.Test.YtioampofolilnaaGreatWA
set_option linter.unusedSimpArgs false
set_option linter.unusedVariables false
set_option maxRecDepth 100000
namespace Go.Proofs.YtioampofolilnaaGreat.M
open Go Go.Mini
attribute [local congr] go1_congr goM_congr goG_congr goV_congr drawwp_congr Xwp_congr
/-! ### The reference's Upon: the parts -/
/-- one more atom bears a cut -/
theorem AtomsRow.mark {B : Nat} {τ σ' : Heap} {K : Nat} {l : List Atom} {zs : List AVal} {i : Nat} {a : Atom} {z x' : AVal} {ks : List Cut} (h : AtomsRow B τ (.slc (.new K) 0 l.length (.gr 5)) l zs) (ha : l[i]? = some a) (hz : zs[i]? = some z)
  (hv : Own B σ' t_Cut 2 x' (ks.map eCut)) (hn : τ.next ≤ σ'.next) (hg : ∀ q, q < τ.next → q ∉ uid z → σ'.get q = τ.get q) (hu : ∀ k ∈ uid x', τ.next ≤ k ∨ k ∈ uid z) :
  AtomsRow B (σ'.set K (.cells (flatR l (zs.set i x')) (some t_Atom))) (.slc (.new K) 0 l.length (.gr 5)) (l.set i { a with cuts := ks }) (zs.set i x') := by
 have hil := (List.getElem?_eq_some_iff.1 ha).1
 have hiz := (List.getElem?_eq_some_iff.1 hz).1
 have hlen := h.len
 have hll : (l.set i { a with cuts := ks }).length = l.length := List.length_set
 have hKr : B ≤ K ∧ K < τ.next := h.row.low rfl
 have hoff : ∀ (j : Nat) (y : AVal), zs[j]? = some y → K ∉ uid y := fun j y hy hm => h.off j y hy K (by simp [uid]) hm
 have hux : K ∉ uid x' := fun hm => by
  rcases hu K hm with h1 | h1
  ·omega
  ·exact hoff i z hz h1
 have hmove : ∀ {y : AVal} {els : List AVal}, Own B σ' t_Cut 2 y els → K ∉ uid y → Own B (σ'.set K (.cells (flatR l (zs.set i x')) (some t_Atom))) t_Cut 2 y els := fun hy hK =>
  Own.set hy (fun K' o n c e hk => hK (mem_uid.2 ⟨o, n, c, by rw [hk]; exact e⟩)) _
 refine ⟨by rw [List.length_set, hll]; exact hlen, ?_, ?_, ?_, ?_⟩
 ·refine ⟨?_, .inr ⟨K, ?_, ?_, hKr.1, by simp only [Heap.set_next]; omega⟩⟩
  ·intro e he
   have : ∀ (l : List Atom) (zs : List AVal), ∀ e ∈ rowZ l zs, e.cells.length = 5 := by
    intro l
    induction l with
    | nil => intro zs e he; cases zs <;> cases he
    | cons b l ih =>
     intro zs e he
     cases zs with
     | nil => cases he
     | cons y zs =>
      simp only [rowZ, List.mem_cons] at he
      rcases he with rfl | he
      ·rfl
      ·exact ih zs e he
   exact this _ _ e he
  ·rw [rowZ_len (by rw [List.length_set, hll]; exact hlen), hll]
  ·rw [Heap.get_set, if_pos rfl, rowZ_flat, flatR_cuts ha]
 ·intro j b y hb hy
  by_cases e : j = i
  ·subst e
   rw [List.getElem?_set_self hiz] at hy
   rw [List.getElem?_set_self hil] at hb
   cases hy; cases hb
   exact hmove hv hux
  ·rw [List.getElem?_set_ne (fun h => e h.symm)] at hy hb
   have h1 := h.own j b y hb hy
   refine hmove (Own.move h1 hn fun K' o n c he => ?_) (hoff j y hy)
   have hk' : K' ∈ uid y := mem_uid.2 ⟨_, _, _, he⟩
   refine hg K' (h1.low he).2 fun hk2 => ?_
   rcases Nat.lt_or_gt_of_ne e with e | e
   ·exact h.apart j i y z e hy hz K' hk' hk2
   ·exact h.apart i j z y e hz hy K' hk2 hk'
 ·intro j j' y y' hjj hy hy' k hk hk'
  by_cases e : j = i
  ·subst e
   rw [List.getElem?_set_self hiz] at hy
   cases hy
   rw [List.getElem?_set_ne (by omega)] at hy'
   have hj' : j' < l.length := by rw [← hlen]; exact (List.getElem?_eq_some_iff.1 hy').1
   rcases hu k hk with h1 | h1
   ·have := (own_low (h.own j' l[j'] y' (List.getElem?_eq_getElem hj') hy') k hk').2; omega
   ·exact h.apart j j' z y' hjj hz hy' k h1 hk'
  ·rw [List.getElem?_set_ne (fun h => e h.symm)] at hy
   have hjl : j < l.length := by rw [← hlen]; exact (List.getElem?_eq_some_iff.1 hy).1
   by_cases e' : j' = i
   ·subst e'
    rw [List.getElem?_set_self hiz] at hy'
    cases hy'
    rcases hu k hk' with h1 | h1
    ·have := (own_low (h.own j l[j] y (List.getElem?_eq_getElem hjl) hy) k hk).2; omega
    ·exact h.apart j j' y z hjj hy hz k hk h1
   ·rw [List.getElem?_set_ne (fun h => e' h.symm)] at hy'
    exact h.apart j j' y y' hjj hy hy' k hk hk'
 ·intro j y hy k hk hk2
  simp only [uid, List.mem_singleton] at hk
  subst hk
  by_cases e : j = i
  ·subst e
   rw [List.getElem?_set_self hiz] at hy
   cases hy
   exact hux hk2
  ·rw [List.getElem?_set_ne (fun h => e h.symm)] at hy
   exact hoff j y hy hk2
/-- a cut put behind cuts of one's own -/
theorem own_cut {B : Nat} {σ : Heap} {z : AVal} {cs : List Cut} (h : Own B σ t_Cut 2 z (cs.map eCut)) (hB : B ≤ σ.next) (hl : cs.length ≤ 1000000) (c : Cut) :
  ∃ x' σ', aApp t_Cut 2 16 z (.slc (.new σ.next) 0 1 (.ex 1)) (σ.new (.cells [.int .i64 c.rev, .int .i64 c.group] none)) = some (x', σ') ∧ Own B σ' t_Cut 2 x' ((cs ++ [c]).map eCut) ∧ σ'.W = σ.W ∧ σ'.F0 = σ.F0 ∧ σ.next < σ'.next ∧
   (∀ q, q < σ.next → q ∉ uid z → σ'.get q = σ.get q) ∧ (∀ K ∈ uid x', σ.next ≤ K ∨ K ∈ uid z) := by
 have hsrc := src_one (σ := σ.new (.cells [.int .i64 c.rev, .int .i64 c.group] none)) (K := σ.next) (k := 2) (cs := [.int .i64 c.rev, .int .i64 c.group]) (opn := none) (z := eCut c) (cap := .ex 1) (by rw [Heap.get_new, if_pos rfl]) rfl rfl
 obtain ⟨x', ρ, g1, g2, g3, g4, g5⟩ := own_app2 (bytes := 16) (h.new (.cells [.int .i64 c.rev, .int .i64 c.group] none)) (Nat.le_succ_of_le hB) hsrc.1 hsrc.2 (by intro z hz; simp at hz; subst hz; rfl) rfl (by omega) (by omega) (by unfold maxRoom; simp; omega)
 refine ⟨x', ρ, g1, by rw [List.map_append]; exact g2, g3.1, g3.2.1, by have := g3.2.2.1; simp at this; omega, fun q hq hn => ?_, fun K hK => ?_⟩
 ·rw [g4 q (by simp; omega) (fun K o n c e hk => hn (mem_uid.2 ⟨o, n, c, by rw [hk]; exact e⟩)), Heap.get_new, if_neg (by omega)]
 ·obtain ⟨o, n, c', e⟩ := mem_uid.1 hK
  rcases g5 K o n c' e with h1 | ⟨o', n', c'', h1⟩
  ·exact .inl (Nat.le_of_succ_le h1)
  ·exact .inr (mem_uid.2 ⟨_, _, _, h1⟩)
theorem cutsF_rise (rev : Int) (u : List Int) (cs : List Chg) : ∀ (l : List Atom) (ps : List Int) (i : Nat), (cutsF rev u cs l ps i).Pairwise (· < ·)
  | [], ps, i => by simp [cutsF]
  | a :: l, [], i => by simp [cutsF]
  | a :: l, p :: ps, i => by
    rw [cutsF, List.pairwise_append]
    refine ⟨by split <;> simp, cutsF_rise rev u cs l ps (i + 1), fun x hx y hy => ?_⟩
    obtain ⟨j, rfl, h1, h2⟩ := cutsF_lt rev u cs l ps (i + 1) y hy
    split at hx
    · rw [List.mem_singleton] at hx; subst hx; omega
    · cases hx
theorem cuts_rise (l : List Atom) (rev : Int) (u : List Int) (cs : List Chg) : (cuts l rev u cs).Pairwise (· < ·) := by
  rw [cuts]; split
  · exact cutsF_rise _ _ _ _ _ _
  · exact List.Pairwise.nil
theorem marked_step {ct : List Int} {c : Cut} {l : List Atom} {i j : Nat} (hp : ct.Pairwise (· < ·)) (hi : i < ct.length) (hj : ct[i] = (j : Int)) (hjl : j < l.length) :
    (marked (ct.take i) c l 0)[j]? = some l[j] ∧ marked (ct.take (i + 1)) c l 0 = (marked (ct.take i) c l 0).set j { l[j] with cuts := l[j].cuts ++ [c] } := by
  have hnot : (j : Int) ∉ ct.take i := fun hm => by
    obtain ⟨q, hq, he⟩ := List.mem_iff_getElem.1 hm
    rw [List.length_take] at hq
    rw [List.getElem_take] at he
    have := List.pairwise_iff_getElem.1 hp q i (by omega) hi (by omega)
    omega
  have h1 : (marked (ct.take i) c l 0)[j]? = some l[j] := by
    rw [marked_get, List.getElem?_eq_getElem hjl, Nat.zero_add, Option.map_some, if_neg hnot]
  refine ⟨h1, ?_⟩
  apply List.ext_getElem?
  intro q
  rw [marked_get, List.take_succ_eq_append_getElem hi, hj, Nat.zero_add, List.getElem?_set, marked_len]
  by_cases e : j = q
  · subst e
    rw [if_pos rfl, if_pos hjl, List.getElem?_eq_getElem hjl, Option.map_some, if_pos (by simp)]
  · rw [if_neg e, marked_get, Nat.zero_add]
    congr 1
    funext a
    have : (((q : Nat) : Int) ∈ ct.take i ++ [(j : Int)]) ↔ ((q : Nat) : Int) ∈ ct.take i := by
      rw [List.mem_append, List.mem_singleton]
      exact ⟨fun h => h.elim id fun h => absurd (by omega) e, .inl⟩
    simp only [this]
theorem marked_none0 (c : Cut) (l : List Atom) : marked [] c l 0 = l := by
 apply List.ext_getElem?
 intro q
 rw [marked_get]; cases l[q]? <;> simp
theorem merged_split {new : List UInt8 → List Atom} {mk : List Atom} {s : Nat} : ∀ {rs : List (Nat × List UInt8)}, (∀ kt ∈ rs, s ≤ kt.1) → merged new mk rs 0 = mk.take s ++ merged new mk rs s
 | [], _ => by simp [merged]
 | (k, t) :: r, h => by
  have hk : s ≤ k := h (k, t) (by simp)
  rw [merged_cons, merged_cons, List.drop_zero, ← List.append_assoc, ← List.append_assoc]
  congr 2
  conv => lhs; rw [← List.take_append_drop s (mk.take k)]
  rw [List.take_take, Nat.min_eq_left hk]
theorem put_step {new : List UInt8 → List Atom} {mk : List Atom} {s : Nat} {t : List UInt8} {rs : List (Nat × List UInt8)} (h : ∀ kt ∈ rs, s ≤ kt.1) (hs : s ≤ mk.length) :
  (merged new mk rs 0).take s ++ new t ++ (merged new mk rs 0).drop s = merged new mk ((s, t) :: rs) 0 := by
 have hl : (mk.take s).length = s := by rw [List.length_take]; omega
 rw [merged_split h, List.take_left' hl, List.drop_left' hl, merged_cons, List.drop_zero]
theorem ptsOf_len (t : List UInt8) : (ptsOf t).length ≤ t.length := by
 rw [ptsOf]
 cases hp : pts t with
 | none => simp
 | some ps => exact pts_len _ t ps (Nat.le_refl _) hp
set_option maxHeartbeats 8000000 in
theorem rupon_call (σ : Heap) (l : List Atom) (rev : Int) (u : List Int) (cs : List Chg) (now group rank : Int) (hu : u.length ≤ 1000000) (hl : Fits l) (hll : l.length ≤ 50000) (hlc : ∀ a ∈ l, a.cuts.length ≤ 100000) (hc5 : ∀ c ∈ cs, c.text.length ≤ 5000) (h0 : check (atomsText rev u l) cs = 0) :
  ACall Tryz.prog n_palinoderef17_Upon [eAtoms l, .int .i64 rev, ints u, eChgs cs, .int .i64 now, .int .i64 group, .int .i64 rank] σ (eAtoms (upon l rev u cs now group rank)) σ := by
 refine bare_call (by simp only [AVal.pures, eAtoms_pure, ints_pure, eChgs_pure]; rfl) (eAtoms_pure _) (fun W F => spec_of_xwp c_palinoderef17_Upon (Nat.le_of_ble_eq_true rfl) ?_) σ
 unfold f_palinoderef17_Upon
 have h8 := (check_zero h0).2.1
 have hvt := (check_zero h0).2.2.2.2.2.1
 have hroom : maxRoom = 68719476736 := rfl
 have hc' : ∀ c ∈ cs, ChgFits c := fun c h => by have := hc5 c h; unfold ChgFits; omega
 have hcu := rcuts_call ⟨W, F, .nil, 0⟩ l rev u cs hu hl (by omega) (by omega) hc'
 have hsp := rspots_call ⟨W, F, .nil, 0⟩ l rev u cs rank hu hl (by omega) hc'
 have hcp := rcopy_spec ⟨W, F, .nil, 0⟩ l (by omega) (fun a h => by have := hlc a h; omega)
 have hupon : upon l rev u cs now group rank = merged (fun t => newAtoms now group rank (ptsOf t)) (marked (cuts l rev u cs) ⟨now, group⟩ l 0) ((spotsN l rev u cs rank).zip (cs.map Chg.text)) 0 := by rw [upon, if_pos h0]
 have hse := spots_eq rank h0
 obtain ⟨hs1, hs2⟩ := spotsN_sorted rank h0
 have hsl : (spotsN l rev u cs rank).length = cs.length := by rw [spotsN, List.length_map]
 have hct := cuts_rise l rev u cs
 have hctl : ∀ x ∈ cuts l rev u cs, ∃ j : Nat, x = (j : Int) ∧ j < l.length := fun x hx => cuts_lt hx
 have hctn := cuts_len l rev u cs
 rw [hupon]
 rw [hse] at hsp
 generalize cuts l rev u cs = ct at hcu hct hctl hctn
 generalize spotsN l rev u cs rank = sN at hsp hs1 hs2 hsl
 simp only [eAtoms, ints, eChgs] at hcu hsp
 simp only [eAtoms] at hcp
 refine x_seq mixed ?_
 simp only [↓evd, evu, evf, implies_true, reduceCtorEq, Nat.reduceAdd, evz]
 refine x_seq mixed ?_
 simp only [↓evd, evu, evf, implies_true, reduceCtorEq, Nat.reduceEqDiff, ↓reduceIte, Nat.reduceLT, evz]
 refine MSpec.of hcu ?_
 simp only [↓evd, evu, evf, implies_true, reduceCtorEq, ↓reduceIte]
 refine x_seq mixed ?_
 simp only [↓evd, evu, evf, implies_true, reduceCtorEq, Nat.reduceEqDiff, ↓reduceIte, Nat.reduceLT, evz]
 refine MSpec.of hsp ?_
 simp only [↓evd, evu, evf, implies_true, reduceCtorEq, ↓reduceIte]
 refine x_seq mixed ?_
 simp only [↓evd, evu, evf, implies_true, reduceCtorEq, ↓reduceIte, Nat.reduceLT, evz]
 refine hcp.mono ?_
 rintro v τ0 ⟨zs0, hA0, hK0⟩
 simp only [↓evd, evu, evf, implies_true, reduceCtorEq, ↓reduceIte]
 refine x_seq mixed ?_
 simp only [↓evd, evu, evf, implies_true, reduceCtorEq]
 have hW0 : τ0.W = W := hK0.1
 have hF0 : τ0.F0 = F := hK0.2.1
 clear hcu hsp hcp hK0
 refine awp_loop (fun m fr τ => ∃ (i : Nat) (zs : List AVal), m + i = ct.length ∧ fr.get 3 = eChgs cs ∧ fr.get 4 = .int .i64 now ∧ fr.get 5 = .int .i64 group ∧ fr.get 6 = .int .i64 rank ∧ fr.get 15 = ints ct ∧ fr.get 16 = ints (sN.map fun n : Nat => (n : Int)) ∧ fr.get 18 = .int .i64 (i : Nat) ∧ AtomsRow 0 τ (fr.get 17) (marked (ct.take i) ⟨now, group⟩ l 0) zs ∧ τ.W = W ∧ τ.F0 = F) ?_ (m := ct.length) ?_
 ·rintro m fr τ ⟨i, zs, hi, e3, e4, e5, e6, e15, e16, e18, hA, hW, hF⟩
  generalize hx : fr.get 17 = x at hA
  by_cases hlt : i < ct.length
  ·have hlt' : (i : Int) < (ct.length : Int) := by omega
   have hw := wrap_succ (i := i) (by omega)
   have hgt := map_get (AVal.int .i64 ·) ct i hlt
   obtain ⟨j, hj, hjl⟩ := hctl _ (List.getElem_mem hlt)
   obtain ⟨hm1, hm2⟩ := marked_step (c := ⟨now, group⟩) hct hlt hj hjl
   rw [hj] at hgt
   have hml := marked_len (ct.take i) ⟨now, group⟩ l 0
   generalize marked (ct.take i) ⟨now, group⟩ l 0 = L at hA hm1 hm2 hml
   have hla := hlc _ (List.getElem_mem hjl)
   generalize l[j] = a at hm1 hm2 hla
   have hzl := hA.len
   obtain ⟨K, rfl⟩ : ∃ K, x = .slc (.new K) 0 L.length (.gr 5) := by
    rcases hA.row.2 with ⟨_, h1⟩ | ⟨K, h1, _⟩
    ·have := rowZ_len hzl; rw [h1] at this; simp at this; omega
    ·rw [rowZ_len hzl] at h1; exact ⟨K, h1⟩
   have hKr : 0 ≤ K ∧ K < τ.next := hA.row.low rfl
   have hblk : τ.get K = some (.cells (flatR L zs) (some t_Atom)) := by
    rcases hA.row.2 with ⟨h1, _⟩ | ⟨K', h1, h2, _⟩
    ·cases h1
    ·have hkk : K = K' := by injection h1 with q; injection q
     subst hkk; rw [rowZ_flat] at h2; exact h2
   have hjz : j < zs.length := by omega
   have hz : zs[j]? = some zs[j] := List.getElem?_eq_getElem hjz
   have hoff := hA.off j zs[j] hz K (by simp [uid])
   have hown := hA.own j a zs[j] hm1 hz
   have hcell : (flatR L zs)[j * 5 + 4]? = some zs[j] := by rw [flatR_get hzl, hz]
   generalize zs[j] = z at hz hoff hown hcell
   obtain ⟨x', σ', g1, g2, g3, g4, g5, g6, g7⟩ := own_cut hown (Nat.zero_le _) (by omega) ⟨now, group⟩
   have hbl2 : σ'.get K = some (.cells (flatR L zs) (some t_Atom)) := by rw [g6 K hKr.2 hoff]; exact hblk
   have hmk := hA.mark hm1 hz g2 (Nat.le_of_lt g5) g6 g7
   rw [← hm2] at hmk
   have hjL : (j : Int) < (L.length : Int) := by omega
   have hlen2 := flatR_len (l := L) (zs := zs) hzl
   have hle : decide (j * 5 + 4 + 1 ≤ (flatR L zs).length) = true := by rw [hlen2]; simp; omega
   have hov := over_set (l := flatR L zs) (j := j * 5 + 4) (x := x') (by omega)
   rw [flatR_set hzl] at hov
   obtain ⟨K', n', rfl⟩ : ∃ K' n', x' = .slc (.new K') 0 n' (.gr 2) := by
    rcases g2.2 with ⟨_, h1⟩ | ⟨K', h1, _⟩
    ·simp at h1
    ·exact ⟨K', _, h1⟩
   simp only [↓evd, evu, evf, implies_true, reduceCtorEq, ↓reduceIte, Nat.reduceLT, evz, e15, e18, hlt']
   with_reducible refine draw_of_grow (fun q => q = K) (ms := [false, false, false, false, false, false, false, false, false, false, false, false, false, false, false, false, false, false, false, false, true]) (by kernel_rfl) ?_
   simp only [↓evd, evu, evf, implies_true, reduceCtorEq, ↓reduceIte, Nat.reduceAdd, Nat.reduceLeDiff, Nat.reduceLT, evz, e4, e5, e15, e18, hx, hgt, hjL, hblk, hcell]
   refine ⟨.inr (keeps_new (fun q hq => by subst hq; exact hKr.2) _), ?_⟩
   simp only [↓evd, evu, evf, implies_true, reduceCtorEq, ↓reduceIte, Nat.reduceLT, evz, g1]
   refine ⟨.inr ⟨by rw [g3, Heap.new_W], fun q hq => by subst hq; rw [hbl2, Heap.get_new, if_neg (by omega), hblk]⟩, ?_⟩
   simp only [↓evd, evu, evf, implies_true, reduceCtorEq, ↓reduceIte, Nat.reduceLT, evz, e3, e4, e5, e6, e15, e16, e18, hx, hjL, hbl2, hle, hov, hw]
   exact ⟨m - 1, by omega, i + 1, _, by omega, rfl, hmk, g3.trans hW, g4.trans hF⟩
  ·have hlt' : ¬ (i : Int) < (ct.length : Int) := by omega
   have hti : ct.take i = ct := List.take_of_length_le (by omega)
   rw [hti] at hA
   have hmkl := marked_len ct ⟨now, group⟩ l 0
   have hmkc : ∀ a ∈ marked ct ⟨now, group⟩ l 0, a.cuts.length ≤ 100001 := fun a ha => by
    obtain ⟨b, hb, rfl | rfl⟩ := mem_marked ha
    ·have := hlc _ hb; omega
    ·have := hlc _ hb; simp only [List.length_append, List.length_cons, List.length_nil]; omega
   generalize marked ct ⟨now, group⟩ l 0 = mk at hA hmkl hmkc
   obtain ⟨ρ, s1, s2, s3, s4, s5⟩ := hA.sees
   simp only [↓evd, evu, evf, implies_true, reduceCtorEq, ↓reduceIte, Nat.reduceLT, evz, e15, e18, hlt']
   refine x_freeze (FSees.reg (t := 17) (by decide) (by simp only [evu, ↓reduceIte, Nat.reduceLT, evz, hx]) s1) ?_
   refine x_of_awp mixed ?_
   have hWρ : ρ.W = W := s2.trans hW
   have hFρ : ρ.F0 = F := s3.trans hF
   obtain ⟨rs, hrs⟩ : ∃ rs, rs = sN.zip (cs.map Chg.text) := ⟨_, rfl⟩
   have hrl : rs.length = sN.length := by rw [hrs, List.length_zip, List.length_map, hsl, Nat.min_self]
   have hw0 : IntKind.i64.wrap ((sN.length : Int) - 1) = (sN.length : Int) - 1 := wrap_id (by omega) (by omega)
   rw [← hrs]
   simp only [↓evd, evu, evf, implies_true, reduceCtorEq, ↓reduceIte, Nat.reduceLT, evz, e16, hw0]
   refine awp_loop (fun m fr τ => ∃ (x : Int), m ≤ sN.length ∧ x = (m : Int) - 1 ∧ fr.get 3 = eChgs cs ∧ fr.get 4 = .int .i64 now ∧ fr.get 5 = .int .i64 group ∧ fr.get 6 = .int .i64 rank ∧ fr.get 16 = ints (sN.map fun n : Nat => (n : Int)) ∧ fr.get 19 = .int .i64 x ∧ fr.get 17 = eAtoms (merged (fun t => newAtoms now group rank (ptsOf t)) mk (rs.drop m) 0) ∧ (merged (fun t => newAtoms now group rank (ptsOf t)) mk (rs.drop m) 0).length + m * 5000 ≤ l.length + sN.length * 5000 ∧ τ.W = W ∧ τ.F0 = F) ?_ (m := sN.length) ?_
   ·clear e3 e4 e5 e6 e15 e16 e18 hx hlt hlt' hi
    rintro m fr τ ⟨x, hm, hxm, e3, e4, e5, e6, e16, e19, e17, hlen, hW, hF⟩
    cases m with
    | succ j =>
     obtain rfl : x = (j : Int) := by omega
     have hjl : j < sN.length := by omega
     have hjc : j < cs.length := by omega
     have hge : (0 : Int) ≤ (j : Int) := by omega
     have hwm1 : IntKind.i64.wrap ((j : Int) - 1) = (j : Int) - 1 := wrap_id (by omega) (by omega)
     have hgs : ((sN.map fun n : Nat => (n : Int)).map (AVal.int .i64 ·))[j]? = some (.int .i64 (sN[j] : Nat)) := by simp [hjl]
     have hgc := map_get eChg cs j hjc
     have hdr : rs.drop j = (sN[j], cs[j].text) :: rs.drop (j + 1) := by
      rw [List.drop_eq_getElem_cons (by omega)]
      congr 1
      simp only [hrs, List.getElem_zip, List.getElem_map]
     have hle : ∀ kt ∈ rs.drop (j + 1), sN[j] ≤ kt.1 := fun kt hkt => by
      obtain ⟨q, hq, he⟩ := List.mem_iff_getElem.1 hkt
      rw [List.length_drop] at hq
      have he2 : kt.1 = sN[j + 1 + q]'(by omega) := by
       rw [← he, List.getElem_drop]; simp only [hrs, List.getElem_zip]
      rw [he2]
      exact List.pairwise_iff_getElem.1 hs1 j (j + 1 + q) hjl (by omega) (by omega)
     have hsj := hs2 _ (List.getElem_mem hjl)
     have hvj := hvt _ (List.getElem_mem hjc)
     have ht5 := hc5 _ (List.getElem_mem hjc)
     have hst := put_step (new := fun t => newAtoms now group rank (ptsOf t)) (mk := mk) (t := cs[j].text) hle (by omega)
     rw [← hdr] at hst
     have hspl := merged_split (new := fun t => newAtoms now group rank (ptsOf t)) (mk := mk) hle
     have hmemO : ∀ a ∈ merged (fun t => newAtoms now group rank (ptsOf t)) mk (rs.drop (j + 1)) 0, a.cuts.length ≤ 1000000 := fun a ha => by
      rcases mem_merged ha with h | ⟨kt, _, h⟩
      ·have := hmkc a h; omega
      ·simp only [newAtoms] at h
       obtain ⟨b, _, rfl⟩ := List.mem_map.1 h
       simp
     have hOl : sN[j] ≤ (merged (fun t => newAtoms now group rank (ptsOf t)) mk (rs.drop (j + 1)) 0).length := by
      rw [hspl, List.length_append, List.length_take]; omega
     generalize merged (fun t => newAtoms now group rank (ptsOf t)) mk (rs.drop (j + 1)) 0 = O at e17 hlen hst hmemO hOl
     have hput := rput_call τ O sN[j] cs[j].text now group rank hOl (by omega) hmemO (by omega) hvj
     rw [hst] at hput
     have hnl : (merged (fun t => newAtoms now group rank (ptsOf t)) mk (rs.drop j) 0).length + j * 5000 ≤ l.length + sN.length * 5000 := by
      rw [← hst]
      have h1 := ptsOf_len cs[j].text
      simp only [List.length_append, List.length_take, List.length_drop, newAtoms, List.length_map]
      omega
     obtain ⟨O', hO'⟩ : ∃ O', O' = merged (fun t => newAtoms now group rank (ptsOf t)) mk (rs.drop j) 0 := ⟨_, rfl⟩
     rw [← hO'] at hput hnl
     clear hdr hle hsj hst hspl
     generalize cs[j] = c at hgc hput
     generalize sN[j] = p at hgs hput
     simp only [eAtoms] at hput
     simp only [↓evd, evu, evf, implies_true, reduceCtorEq, ↓reduceIte, evz, e19, hge]
     with_reducible refine draw_of_grow (fun _ => True) (ms := [false, false, false, false, false, false, false, false, false, false, false, false, false, false, false]) (by kernel_rfl) ?_
     simp only [↓evd, evu, evf, ↓reduceIte, Nat.reduceLT, evz, e3, e4, e5, e6, e16, e17, e19, hgs, hgc, eChg]
     refine MSpec.of hput ⟨.inr Keeps.rfl, ?_⟩
     simp only [↓evd, evu, evf, implies_true, reduceCtorEq, Nat.reduceEqDiff, ↓reduceIte, Nat.reduceLT, evz, e3, e4, e5, e6, e16, e19, hwm1]
     exact ⟨j, by omega, _, by omega, rfl, rfl, by rw [hO'], by rw [← hO']; exact hnl, hW, hF⟩
    | zero =>
     obtain rfl : x = -1 := by omega
     have hge : ¬ (0 : Int) ≤ -1 := by omega
     rw [List.drop_zero] at e17
     simp only [↓evd, evu, evf, implies_true, reduceCtorEq, ↓reduceIte, Nat.reduceLT, evz, e17, e19, hge]
     exact seen rfl hW hF
   ·refine ⟨_, Nat.le_refl _, rfl, ?_⟩
    simp only [evu, ↓reduceIte, Nat.reduceLT, evz, e3, e4, e5, e6, e16]
    have hdn : rs.drop sN.length = [] := List.drop_eq_nil_of_le (by omega)
    rw [hdn]
    simp only [merged, List.drop_zero]
    exact ⟨trivial, by omega, hWρ, hFρ⟩
 ·refine ⟨0, zs0, by omega, ?_⟩
  simp only [evu, reduceCtorEq, Nat.reduceEqDiff, ↓reduceIte, Nat.reduceLT, evz, eChgs]
  rw [marked_none0]
  first | exact ⟨rfl, rfl, hA0, hW0, hF0⟩ | exact ⟨rfl, hA0, hW0, hF0⟩ | exact ⟨hA0, hW0, hF0⟩
/-! ### The reference's block -/
def refCells (a b : Nat) (P : Nat → Bool) (u : AVal) : List AVal := .int .i64 (a : Nat) :: .int .i64 (b : Nat) :: (bitRow 120 P ++ [u])
section
variable {a b : Nat} {P : Nat → Bool} {u : AVal}
theorem rc_len : (refCells a b P u).length = 123 := by simp [refCells, bitRow_len]
theorem rc_0 : (refCells a b P u)[0]? = some (.int .i64 (a : Nat)) := rfl
theorem rc_1 : (refCells a b P u)[1]? = some (.int .i64 (b : Nat)) := rfl
theorem rc_bit {j : Nat} (h : j < 120) : (refCells a b P u)[j + 2]? = some (.bool (P j)) := by
 simp only [refCells, List.getElem?_cons_succ]
 rw [List.getElem?_append_left (by rw [bitRow_len]; exact h), bitRow_get _ h]
theorem rc_has {j : Nat} (h : j < 60) : (refCells a b P u)[2 + j]? = some (.bool (P j)) := by rw [Nat.add_comm]; exact rc_bit (by omega)
theorem rc_gone {j : Nat} (h : j < 60) : (refCells a b P u)[62 + j]? = some (.bool (P (60 + j))) := by rw [show 62 + j = 60 + j + 2 by omega]; exact rc_bit (by omega)
theorem rc_u : (refCells a b P u)[122]? = some u := by
 simp only [refCells, List.getElem?_cons_succ]
 rw [List.getElem?_append_right (by rw [bitRow_len]; omega), bitRow_len]; rfl
theorem rc_set0 (a' : Nat) : AVal.int .i64 (a' : Nat) :: (refCells a b P u).drop 1 = refCells a' b P u := rfl
theorem rc_set1 (b' : Nat) : (refCells a b P u).take 1 ++ [AVal.int .i64 (b' : Nat)] ++ (refCells a b P u).drop 2 = refCells a b' P u := rfl
theorem rc_setu (x : AVal) : (refCells a b P u).take 122 ++ [x] ++ (refCells a b P u).drop 123 = refCells a b P x := by
 simp only [refCells, List.take_succ_cons, List.drop_succ_cons, List.cons_append]
 rw [List.take_append_of_le_length (by rw [bitRow_len]; omega), List.take_of_length_le (by rw [bitRow_len]; omega), List.drop_eq_nil_of_le (by simp [bitRow_len]), List.append_nil]
theorem rc_setb {j : Nat} (h : j < 120) (c : Bool) : (refCells a b P u).take (j + 2) ++ [AVal.bool c] ++ (refCells a b P u).drop (j + 2 + 1) = refCells a b (fun k => if k = j then c else P k) u := by
 simp only [refCells, List.take_succ_cons, List.drop_succ_cons, List.cons_append]
 rw [List.take_append_of_le_length (by rw [bitRow_len]; omega), List.drop_append_of_le_length (by rw [bitRow_len]; omega), ← List.append_assoc, bitRow_set P c h]
theorem rc_sethas {j : Nat} (h : j < 60) (c : Bool) : (refCells a b P u).take (2 + j) ++ [AVal.bool c] ++ (refCells a b P u).drop (2 + j + 1) = refCells a b (fun k => if k = j then c else P k) u := by
 rw [Nat.add_comm 2 j]; exact rc_setb (by omega) c
theorem rc_setgone {j : Nat} (h : j < 60) (c : Bool) : (refCells a b P u).take (62 + j) ++ [AVal.bool c] ++ (refCells a b P u).drop (62 + j + 1) = refCells a b (fun k => if k = 60 + j then c else P k) u := by
 rw [show 62 + j = 60 + j + 2 by omega]; exact rc_setb (by omega) c
end
/-- a list, as data or nil -/
def Lst (x : AVal) (l : List Int) : Prop := x = ints l ∨ (x = .nils ∧ l = [])
theorem Lst.sees {x : AVal} {l : List Int} (h : Lst x l) (σ : Heap) : Sees σ x σ (ints l) := by
 rcases h with rfl | ⟨rfl, rfl⟩
 ·exact Sees.refl _ _
 ·exact Sees.nils σ 1
theorem Lst.len {x : AVal} {l : List Int} (h : Lst x l) : aLen x = some (.int .i64 (l.length : Nat)) := by
 rcases h with rfl | ⟨rfl, rfl⟩
 ·simp [ints, aLen_fsl]
 ·rfl
theorem Lst.cells {x : AVal} {l : List Int} (h : Lst x l) : x.cells = [x] ∧ x.isCell = true ∧ x.isRaw = false := by
 rcases h with rfl | ⟨rfl, rfl⟩ <;> exact ⟨rfl, rfl, rfl⟩
abbrev t_ints : TypeId := 33
structure RefAt (σ : Heap) (k : Nat) (R : Revs) (P : Nat → Bool) (u : AVal) (els : List AVal) : Prop where
 blk : σ.get k = some (.cells (refCells R.head R.floor P u) none)
 row : Row 0 σ t_ints 1 u els
 ne : ∀ K o n c, u = .slc (.new K) o n c → K ≠ k
 len : els.length = R.floor + R.und.length
 lst : ∀ z ∈ els, ∃ l, Lst z l
 at_ : ∀ (j : Nat) (s : List Int), R.und[j]? = some s → ∃ x, els[R.floor + j]? = some x ∧ Lst x s
 has : ∀ g : Nat, g < 60 → (P g && !P (60 + g)) = decide ((g : Int) ∈ R.grp)
 gone : ∀ g : Nat, g < 60 → P (60 + g) = decide ((g : Int) ∈ R.gone)
 low : k < σ.next
 ok : R.Ok
def IsRef (σ : Heap) (k : Nat) (R : Revs) (fp : List Nat) : Prop := ∃ P u els, RefAt σ k R P u els ∧ fp = k :: uid u
theorem lst_flat : ∀ {els : List AVal}, (∀ z ∈ els, ∃ l, Lst z l) → els.flatMap AVal.cells = els
 | [], _ => rfl
 | z :: els, h => by
  obtain ⟨l, hl⟩ := h z (by simp)
  rw [List.flatMap_cons, hl.cells.1, lst_flat fun y hy => h y (List.mem_cons_of_mem _ hy)]; rfl
section
variable {σ : Heap} {k : Nat} {R : Revs} {P : Nat → Bool} {u : AVal} {els : List AVal}
theorem RefAt.lows (h : RefAt σ k R P u els) : ∀ x ∈ k :: uid u, x < σ.next := by
 intro x hx
 rcases List.mem_cons.1 hx with rfl | hx
 ·exact h.low
 ·obtain ⟨o, n, c, e⟩ := mem_uid.1 hx; exact (h.row.low e).2
theorem RefAt.move {τ : Heap} (h : RefAt σ k R P u els) (hn : σ.next ≤ τ.next) (hk : ∀ q ∈ k :: uid u, τ.get q = σ.get q) : RefAt τ k R P u els where
 blk := by rw [hk k (by simp)]; exact h.blk
 row := Row.move h.row hn fun K hK => hk K (List.mem_cons_of_mem _ hK)
 ne := h.ne
 len := h.len
 lst := h.lst
 at_ := h.at_
 has := h.has
 gone := h.gone
 low := Nat.lt_of_lt_of_le h.low hn
 ok := h.ok
theorem IsRef.keep {τ : Heap} {fp fp' : List Nat} (h : IsRef σ k R fp) (hk : Keep fp' σ τ) (hd : ∀ x ∈ fp, x ∉ fp') : IsRef τ k R fp := by
 obtain ⟨P, u, els, h, rfl⟩ := h
 exact ⟨P, u, els, h.move hk.2.2.1 fun q hq => hk.2.2.2 q (h.lows q hq) (hd q hq), rfl⟩
theorem IsRef.low {fp : List Nat} (h : IsRef σ k R fp) : ∀ x ∈ fp, x < σ.next := by obtain ⟨P, u, els, h, rfl⟩ := h; exact h.lows
theorem IsRef.ok {fp : List Nat} (h : IsRef σ k R fp) : R.Ok := by obtain ⟨P, u, els, h, rfl⟩ := h; exact h.ok
theorem there_call (σ : Heap) (g : Int) : ACall Tryz.prog n_palinoderef20_there [.int .i64 g] σ (.bool (decide (0 ≤ g) && decide (g < 60))) σ := by
 refine exact_call (spec_of_awp mixed c_palinoderef20_there (Nat.le_of_ble_eq_true rfl) ?_)
 unfold f_palinoderef20_there
 by_cases h1 : 0 ≤ g
 ·simp only [↓evd, evu, evf, implies_true, reduceCtorEq, ↓reduceIte, Nat.reduceLT, evz, h1]
 ·simp only [↓evd, evu, evf, implies_true, reduceCtorEq, ↓reduceIte, Nat.reduceLT, evz, h1]
theorem there_in (g : Int) : (decide (0 ≤ g) && decide (g < 60)) = true ↔ ∃ j : Nat, g = (j : Int) ∧ j < 60 := by
 simp only [Bool.and_eq_true, decide_eq_true_eq]
 constructor
 ·rintro ⟨h0, h1⟩; exact ⟨g.toNat, by omega, by omega⟩
 ·rintro ⟨j, rfl, h⟩; omega
theorem is_call (h : RefAt σ k R P u els) (g : Int) : ACall Tryz.prog n_palinoderef20_Revs_Is [.ptr (.new k) 0, .int .i64 g] σ (.bool (decide (g ∈ R.grp))) σ := by
 refine exact_call (spec_of_awp mixed c_palinoderef20_Revs_Is (Nat.le_of_ble_eq_true rfl) ?_)
 unfold f_palinoderef20_Revs_Is
 have hk := h.blk
 have ht := there_call σ g
 simp only [↓evd, evu, evf, implies_true, reduceCtorEq, ↓reduceIte, Nat.reduceAdd, Nat.reduceLT, evz]
 refine MSpec.of ht ?_
 by_cases hb : (decide (0 ≤ g) && decide (g < 60)) = true
 ·obtain ⟨j, rfl, hj⟩ := (there_in g).1 hb
  have hh := h.has j hj
  have h1 := aIdxR_lt (n := 60) (k := 1) (off := 2) (i := .new k) (K := .i64) hj
  have h2 := aIdxR_lt (n := 60) (k := 1) (off := 62) (i := .new k) (K := .i64) hj
  rw [← hh, hb]
  cases hp : P j with
  | true => simp only [↓evd, evu, evf, implies_true, reduceCtorEq, ↓reduceIte, Nat.reduceLT, evz, h1, h2, hk, rc_has hj, rc_gone hj, hp]
  | false => simp only [↓evd, evu, evf, implies_true, reduceCtorEq, ↓reduceIte, Nat.reduceLT, evz, h1, hk, rc_has hj, hp]
 ·have hb2 : (decide (0 ≤ g) && decide (g < 60)) = false := by simpa using hb
  have hn : g ∉ R.grp := fun hg => by have := h.ok.grp.2 g hg; apply hb; simp; omega
  rw [hb2, not_mem_bool hn]
  simp only [↓evd, evu, evf, implies_true, reduceCtorEq, ↓reduceIte, Nat.reduceLT, evz]
theorem rlive_call (h : RefAt σ k R P u els) (n : Int) : ACall Tryz.prog n_palinoderef20_Revs_Live [.ptr (.new k) 0, .int .i64 n] σ (.bool (R.live n)) σ := by
 refine exact_call (spec_of_awp mixed c_palinoderef20_Revs_Live (Nat.le_of_ble_eq_true rfl) ?_)
 unfold f_palinoderef20_Revs_Live
 have hk := h.blk
 by_cases h1 : (R.floor : Int) ≤ n
 ·simp only [↓evd, evu, evf, implies_true, reduceCtorEq, ↓reduceIte, Nat.reduceAdd, Nat.reduceLT, evz, hk, rc_0, rc_1, h1, Revs.live]
 ·simp only [↓evd, evu, evf, implies_true, reduceCtorEq, ↓reduceIte, Nat.reduceAdd, Nat.reduceLT, evz, hk, rc_1, h1, Revs.live]
/-- an element of the reference's row -/
theorem RefAt.load (h : RefAt σ k R P u els) {j : Nat} {s : List Int} (hj : R.und[j]? = some s) : ∃ K cap x, u = .slc (.new K) 0 (R.floor + R.und.length) cap ∧ R.floor + j < R.floor + R.und.length ∧ σ.cell (.new K) (R.floor + j) = some x ∧ Lst x s ∧ els[R.floor + j]? = some x ∧ x ≠ .undef := by
 obtain ⟨x, hx, hl⟩ := h.at_ j s hj
 have hlt := (List.getElem?_eq_some_iff.1 hx).1
 rcases h.row.2 with ⟨_, h2⟩ | ⟨K, cap, cs, opn, h1, h2, h3, h4, h5, h6⟩
 ·rw [h2] at hlt; simp at hlt
 ·refine ⟨K, cap, x, by rw [h1, h.len], by rw [← h.len]; exact hlt, ?_, hl, hx, by rcases hl with rfl | ⟨rfl, _⟩ <;> (intro e; cases e)⟩
  have hfl := lst_flat h.lst
  rw [Nat.mul_one, hfl] at h3
  have : (cs.take els.length)[R.floor + j]? = some x := by rw [h3]; exact hx
  rw [List.getElem?_take, if_pos hlt] at this
  simp only [Heap.cell, h2, this]
theorem rundone_call (h : RefAt σ k R P u els) (n : Int) : ACall Tryz.prog n_palinoderef20_Revs_Undone [.ptr (.new k) 0, .int .i64 n] σ (ints (R.undone n)) σ := by
 suffices hs : ∃ x, Lst x (R.undone n) ∧ ACall Tryz.prog n_palinoderef20_Revs_Undone [.ptr (.new k) 0, .int .i64 n] σ x σ by
  obtain ⟨x, hx, ha⟩ := hs
  exact acall_see ha (hx.sees σ)
 have hk := h.blk
 cases hl : R.live n with
 | false =>
  refine ⟨.nils, .inr ⟨rfl, by simp [Revs.undone, hl]⟩, ?_⟩
  refine exact_call (spec_of_awp mixed c_palinoderef20_Revs_Undone (Nat.le_of_ble_eq_true rfl) ?_)
  unfold f_palinoderef20_Revs_Undone
  simp only [↓evd, evu, evf, implies_true, reduceCtorEq, ↓reduceIte, Nat.reduceAdd, Nat.reduceLT, evz]
  refine MSpec.of (rlive_call h n) ?_
  simp only [↓evd, evu, evf, implies_true, reduceCtorEq, ↓reduceIte, hl]
 | true =>
  have hb := live_iff.1 hl
  have hone := List.length_pos_iff.2 h.ok.one
  obtain ⟨j, hj⟩ : ∃ j : Nat, n = ((R.floor + j : Nat) : Int) := ⟨(n - R.floor).toNat, by omega⟩
  have hjl : j < R.und.length := by omega
  have hgt := List.getElem?_eq_getElem hjl
  have hat : R.undone n = R.und[j] := by
   simp only [Revs.undone, hl, if_true, Revs.at]
   rw [show (n - (R.floor : Int)).toNat = j by omega, hgt]; rfl
  rw [hat]
  obtain ⟨K, cap, x, hu, hlt, hc, hlx, _, hne⟩ := h.load hgt
  refine ⟨x, hlx, ?_⟩
  refine exact_call (spec_of_awp mixed c_palinoderef20_Revs_Undone (Nat.le_of_ble_eq_true rfl) ?_)
  unfold f_palinoderef20_Revs_Undone
  have hn2 : n < ((R.floor + R.und.length : Nat) : Int) := by omega
  have hn0 : 0 ≤ n := by omega
  have htn : n.toNat = R.floor + j := by omega
  have hraw := hlx.cells.2.2
  subst hu
  simp only [↓evd, evu, evf, implies_true, reduceCtorEq, ↓reduceIte, Nat.reduceAdd, Nat.reduceLT, evz]
  refine MSpec.of (rlive_call h n) ?_
  simp only [↓evd, evu, evf, implies_true, reduceCtorEq, ↓reduceIte, Nat.reduceLT, evz, hl, hk, rc_u, hn2, hn0, htn, hc]
end
/-- what is still to come of a toggled list -/
def togRest (add : Bool) (g : Int) (l : List Int) : List Int := if add then insS g l else l.filter (· ≠ g)
theorem togRest_all {l : List Int} {g : Int} (h : Rise l) : togRest (decide (g ∉ l)) g l = flip g l := by
 by_cases hg : g ∈ l
 ·simp only [togRest, flip, if_pos hg, decide_eq_false (show ¬ g ∉ l from fun h => h hg), Bool.false_eq_true, if_false]
  rw [h.nodup.erase_eq_filter g]
  exact List.filter_congr (fun x _ => by by_cases e : x = g <;> simp [e])
 ·simp only [togRest, flip, if_neg hg, decide_eq_true hg, if_true]
set_option maxHeartbeats 1000000 in
theorem toggled_call (σ : Heap) (l : List Int) (g : Int) (hl : Rise l) : ACall Tryz.prog n_palinoderef20_toggled [ints l, .int .i64 g] σ (ints (flip g l)) σ := by
  have hlen := rise_len hl
  refine bare_call (by simp only [AVal.pures, ints_pure]; rfl) (ints_pure _) (fun W F => spec_of_awp mixed c_palinoderef20_toggled (Nat.le_of_ble_eq_true rfl) ?_) σ
  unfold f_palinoderef20_toggled
  have hin := fun σ => in_call σ l g (by omega)
  have hnot : (!decide (g ∈ l)) = decide (g ∉ l) := by simp
  simp only [↓evd, evu, evf, implies_true, reduceCtorEq, ↓reduceIte, Nat.reduceAdd, Nat.reduceLT, evz]
  refine MSpec.of (hin _) ?_
  simp only [↓evd, evu, evf, implies_true, reduceCtorEq, ↓reduceIte, hnot]
  refine awp_loop (fun m fr τ => ∃ i add acc, m + i = l.length ∧ fr.get 0 = ints l ∧ fr.get 1 = .int .i64 g ∧ fr.get 6 = .bool add ∧ fr.get 7 = .int .i64 (i : Nat) ∧ Own 0 τ t_int 1 (fr.get 5) (acc.map (AVal.int .i64 ·)) ∧ acc ++ togRest add g (l.drop i) = flip g l ∧ (add = true → g ∉ l) ∧ acc.length ≤ 2 * i ∧ τ.W = W ∧ τ.F0 = F) ?_ (m := l.length) ?_
  · rintro m fr τ ⟨i, add, acc, hi, e0, e1, e6, e7, hO, hacc, hadd, hal, hW, hF⟩
    by_cases hlt : i < l.length
    · have hlt' : (i : Int) < (l.length : Int) := by omega
      have hg := map_get (AVal.int .i64 ·) l i hlt
      have hs := wrap_succ (i := i) (by omega)
      have t1 := List.drop_eq_getElem_cons hlt
      have hm := List.getElem_mem hlt
      have hp : (l.drop i).Pairwise (· < ·) := hl.1.sublist (List.drop_sublist _ _)
      rw [t1] at hacc hp
      have hrel := fun y hy => List.rel_of_pairwise_cons hp (a' := y) hy
      generalize l[i] = x at hg hacc hm hrel
      cases add with
      | true =>
        have hgl := hadd rfl
        have hne : x ≠ g := fun e => hgl (e ▸ hm)
        have hb : (x != g) = true := by simpa using hne
        by_cases hgx : g < x
        · obtain ⟨x1, ρ1, a1, a2, a3, a4, a5, a6, a7⟩ := own_int hO (Nat.zero_le _) (by omega) g
          obtain ⟨x2, ρ2, b1, b2, b3, b4, b5, b6, b7⟩ := own_int a2 (Nat.zero_le _) (by simp; omega) x
          simp only [↓evd, evu, evf, implies_true, reduceCtorEq, Nat.reduceEqDiff, ↓reduceIte, Nat.reduceLT, evz, e0, e1, e6, e7, hlt', hg, hb, hs, hgx, a1, b1]
          refine ⟨m - 1, by omega, i + 1, false, _, by omega, rfl, rfl, b2, ?_, (fun h => by cases h), by simp; omega, b3.trans (a3.trans hW), b4.trans (a4.trans hF)⟩
          rw [← hacc]
          have hf : (l.drop (i + 1)).filter (· ≠ g) = l.drop (i + 1) := List.filter_eq_self.2 fun y hy => by have := hrel y hy; simp; omega
          simp only [togRest, Bool.false_eq_true, if_false, if_true, hf, insS, if_neg hne, if_pos hgx, List.append_assoc, List.cons_append, List.nil_append]
        · obtain ⟨x2, ρ2, b1, b2, b3, b4, b5, b6, b7⟩ := own_int hO (Nat.zero_le _) (by omega) x
          simp only [↓evd, evu, evf, implies_true, reduceCtorEq, Nat.reduceEqDiff, ↓reduceIte, Nat.reduceLT, evz, e0, e1, e6, e7, hlt', hg, hb, hs, hgx, b1]
          refine ⟨m - 1, by omega, i + 1, true, _, by omega, rfl, rfl, b2, ?_, fun _ => hgl, by simp; omega, b3.trans hW, b4.trans hF⟩
          rw [← hacc]
          simp only [togRest, if_true, insS, if_neg hne, if_neg hgx, List.append_assoc, List.singleton_append]
      | false =>
        by_cases hne : x = g
        · have hb : (x != g) = false := by simpa using hne
          simp only [↓evd, evu, evf, implies_true, reduceCtorEq, ↓reduceIte, Nat.reduceLT, evz, e0, e1, e6, e7, hlt', hg, hb, hs]
          refine ⟨m - 1, by omega, i + 1, false, acc, by omega, rfl, rfl, hO, ?_, (fun h => by cases h), by omega, hW, hF⟩
          rw [← hacc]
          simp [togRest, hne]
        · have hb : (x != g) = true := by simpa using hne
          obtain ⟨x2, ρ2, b1, b2, b3, b4, b5, b6, b7⟩ := own_int hO (Nat.zero_le _) (by omega) x
          simp only [↓evd, evu, evf, implies_true, reduceCtorEq, Nat.reduceEqDiff, ↓reduceIte, Nat.reduceLT, evz, e0, e1, e6, e7, hlt', hg, hb, hs, b1]
          refine ⟨m - 1, by omega, i + 1, false, _, by omega, rfl, rfl, b2, ?_, (fun h => by cases h), by simp; omega, b3.trans hW, b4.trans hF⟩
          rw [← hacc]
          simp [togRest, hne]
    · have hlt' : ¬ (i : Int) < (l.length : Int) := by omega
      rw [List.drop_eq_nil_of_le (by omega)] at hacc
      cases add with
      | true =>
        obtain ⟨x2, ρ2, b1, b2, b3, b4, b5, b6, b7⟩ := own_int hO (Nat.zero_le _) (by omega) g
        have he : acc ++ [g] = flip g l := by rw [← hacc]; simp [togRest, insS]
        rw [he] at b2
        simp only [↓evd, evu, evf, implies_true, reduceCtorEq, ↓reduceIte, Nat.reduceLT, evz, e0, e1, e6, e7, hlt', b1]
        obtain ⟨τ', s1, s2, s3, _⟩ := Own.sees b2
        exact ⟨τ', s1, s2.trans (b3.trans hW), s3.trans (b4.trans hF)⟩
      | false =>
        have he : acc = flip g l := by rw [← hacc]; simp [togRest]
        rw [he] at hO
        simp only [↓evd, evu, evf, implies_true, reduceCtorEq, ↓reduceIte, Nat.reduceLT, evz, e0, e6, e7, hlt']
        obtain ⟨τ', s1, s2, s3, _⟩ := Own.sees hO
        exact ⟨τ', s1, s2.trans hW, s3.trans hF⟩
  · refine ⟨0, decide (g ∉ l), [], by omega, ?_⟩
    simp only [evu, reduceCtorEq, ↓reduceIte, Nat.reduceLT, Nat.reduceMul, evz]
    exact ⟨Own.nil _ _ _ _, togRest_all hl, fun h => by simpa using h⟩
section
variable {σ : Heap} {k : Nat} {R : Revs} {P : Nat → Bool} {u : AVal} {els : List AVal}
theorem RefAt.few (h : RefAt σ k R P u els) : R.head ≤ 200 ∧ R.head + 1 = R.floor + R.und.length := by
 have h1 := h.ok.few
 have h2 := List.length_pos_iff.2 h.ok.one
 simp only [Revs.head]; omega
theorem Revs.Ok.push {R : Revs} (h : R.Ok) (hh : R.head < 200) {s : List Int} (hs : Rise s) : (R.push s).Ok where
 one := by simp [Revs.push]
 few := by
  have := h.few
  have := List.length_pos_iff.2 h.one
  simp only [Revs.head] at hh
  simp only [Revs.push, List.length_append, List.length_cons, List.length_nil]; omega
 rise := by
  intro x hx
  simp only [Revs.push, List.mem_append, List.mem_singleton] at hx
  rcases hx with hx | rfl
  ·exact h.rise x hx
  ·exact hs
 grp := h.grp
 gone := h.gone
theorem Lst.shape {x : AVal} {l : List Int} (h : Lst x l) : (∃ y, x = .fsl 1 y) ∨ x = .nils := by
 rcases h with rfl | ⟨rfl, _⟩
 ·exact .inl ⟨_, rfl⟩
 ·exact .inr rfl
theorem rnext_spec (h : RefAt σ k R P u els) (hh : R.head < 200) {x : AVal} {s : List Int} (hx : Lst x s) (hs : Rise s) : MSpec Tryz.prog n_palinoderef20_Revs_next [.ptr (.new k) 0, x] σ fun v τ => v = .int .i64 ((R.head : Int) + 1) ∧ ∃ u' els', RefAt τ k (R.push s) P u' els' ∧ Keep (k :: uid u) σ τ ∧ Fresh (k :: uid u) σ (k :: uid u') := by
 refine spec_of_awp mixed c_palinoderef20_Revs_next (Nat.le_of_ble_eq_true rfl) ?_
 unfold f_palinoderef20_Revs_next
 have hk := h.blk
 have hsh := hx.shape
 obtain ⟨c1, c2, c3⟩ := hx.cells
 have hf := h.few
 have hw := wrap_succ (i := R.head) (by omega)
 have hlow := h.low
 have hnk : (σ.next = k) = False := eq_false (by omega)
 have hru := ((h.row.set (j := k) (fun K o n c e => (h.ne K o n c e).symm) (.cells (refCells (R.head + 1) R.floor P u) none)).new (.cells [x] none))
 have hsrc := src_one (σ := (σ.set k (.cells (refCells (R.head + 1) R.floor P u) none)).new (.cells [x] none)) (K := σ.next) (k := 1) (cs := [x]) (opn := none) (z := x) (cap := .ex 1) (by simp [Heap.get_new]) c1 rfl
 obtain ⟨u', ρ, g1, g2, g3, g4, g5⟩ := row_app2 (bytes := 24) hru (Nat.zero_le _) hsrc.1 hsrc.2 (by intro z hz; simp at hz; subst hz; rw [c1]; rfl) (by simp [c1, c2]) (by omega) (by omega) (by rw [h.len]; unfold maxRoom; simp; omega)
 have hk2 : ρ.get k = some (.cells (refCells (R.head + 1) R.floor P u) none) := by
  rw [g4 k (by simp; omega) (fun K o n c e => (h.ne K o n c e).symm), Heap.get_new, if_neg (by simp; omega), Heap.get_set, if_pos rfl]
 have e0 : ((R.head : Int) + 1) = ((R.head + 1 : Nat) : Int) := by omega
 have fin : ∃ u'' els', RefAt (ρ.set k (.cells (refCells (R.head + 1) R.floor P u') none)) k (R.push s) P u'' els' ∧ Keep (k :: uid u) σ (ρ.set k (.cells (refCells (R.head + 1) R.floor P u') none)) ∧ Fresh (k :: uid u) σ (k :: uid u'') := by
  refine ⟨u', els ++ [x], ?_, ?_, ?_⟩
  ·have hidk : ∀ K o n c, u' = .slc (.new K) o n c → K ≠ k := by
    intro K o n c e
    rcases g5 K o n c e with h1 | ⟨o', n', c', h1⟩
    ·simp at h1; omega
    ·exact h.ne _ _ _ _ h1
   refine ⟨?_, g2.set (fun K o n c e => (hidk K o n c e).symm) _, hidk, ?_, ?_, ?_, h.has, h.gone, ?_, h.ok.push hh hs⟩
   ·rw [Heap.get_set, if_pos rfl, head_push _ h.ok.one]; rfl
   ·simp only [List.length_append, h.len, Revs.push, List.length_cons, List.length_nil]; omega
   ·intro z hz
    rcases List.mem_append.1 hz with hz | hz
    ·exact h.lst z hz
    ·rw [List.mem_singleton.1 hz]; exact ⟨s, hx⟩
   ·intro j t ht
    have hfl : (R.push s).floor = R.floor := rfl
    rw [hfl]
    simp only [Revs.push] at ht
    by_cases hj : j < R.und.length
    ·rw [List.getElem?_append_left hj] at ht
     obtain ⟨y, hy, hl⟩ := h.at_ j t ht
     exact ⟨y, by rw [List.getElem?_append_left (by have := h.len; omega)]; exact hy, hl⟩
    ·have hj2 := (List.getElem?_eq_some_iff.1 ht).1
     simp at hj2
     have e1 : j = R.und.length := by omega
     subst e1
     rw [List.getElem?_concat_length] at ht
     cases ht
     exact ⟨x, by rw [← h.len, List.getElem?_concat_length], hx⟩
   ·have := g3.2.2.1; simp at this ⊢; omega
  ·refine ⟨g3.1, g3.2.1, ?_, ?_⟩
   ·have := g3.2.2.1; simp at this ⊢; omega
   ·intro q hq hn
    simp only [List.mem_cons, not_or] at hn
    rw [Heap.get_set, if_neg (fun e => hn.1 e.symm), g4 q (by simp; omega) (fun K o n c e hk => hn.2 (mem_uid.2 ⟨o, n, c, by rw [hk]; exact e⟩)), Heap.get_new, if_neg (by simp; omega), Heap.get_set, if_neg (fun e => hn.1 e.symm)]
  ·intro q hq
   rcases List.mem_cons.1 hq with rfl | hq
   ·exact .inl (by simp)
   ·obtain ⟨o, n, c, e⟩ := mem_uid.1 hq
    rcases g5 q o n c e with h1 | ⟨o', n', c', h1⟩
    ·exact .inr (by simp at h1; omega)
    ·exact .inl (List.mem_cons_of_mem _ (mem_uid.2 ⟨_, _, _, h1⟩))
 obtain ⟨K', cap', hu'⟩ : ∃ K' cap', u' = .slc (.new K') 0 (els ++ [x]).length cap' := by
  rcases g2.2 with ⟨_, h0⟩ | ⟨K', cap', _, _, h1, _⟩
  ·simp at h0
  ·exact ⟨_, _, h1⟩
 clear hru hsrc g2 g3 g4 g5 c1 c2 c3
 generalize (els ++ [x]).length = nn at hu'
 subst hu'
 rcases hsh with ⟨y, rfl⟩ | rfl
 all_goals
  simp only [↓evd, evu, evf, implies_true, reduceCtorEq, ↓reduceIte, Nat.reduceAdd, Nat.reduceLeDiff, Nat.reduceLT, evz, hk, rc_0, rc_u, rc_len, rc_set0, hw, g1, hk2, rc_setu]
  exact ⟨by rw [e0], fin⟩
theorem toggled_lst (σ : Heap) {x : AVal} {l : List Int} (hx : Lst x l) (g : Int) (hl : Rise l) : ACall Tryz.prog n_palinoderef20_toggled [x, .int .i64 g] σ (ints (flip g l)) σ :=
 exact_call (mspec_seen (.cons (hx.sees σ) (.cons (Sees.refl _ _) (.nil _))) ⟨_, _, toggled_call σ l g hl, rfl, rfl⟩)
/-- the last element of the reference's row -/
theorem RefAt.last (h : RefAt σ k R P u els) : ∃ K cap x, u = .slc (.new K) 0 (R.head + 1) cap ∧ σ.cell (.new K) R.head = some x ∧ Lst x R.top ∧ els[R.head]? = some x := by
 have h1 := List.length_pos_iff.2 h.ok.one
 have hf := h.few
 have h3 : R.und[R.und.length - 1]? = some R.top := by
  simp only [Revs.top, ← List.getLast?_eq_getElem?, List.getLastD_eq_getLast?]
  cases he : R.und.getLast? with
  | none => rw [List.getLast?_eq_none_iff] at he; exact absurd he h.ok.one
  | some s => rfl
 obtain ⟨K, cap, x, e1, e2, e3, e4, e5, _⟩ := h.load h3
 rw [show R.floor + (R.und.length - 1) = R.head by omega] at e3 e5
 exact ⟨K, cap, x, by rw [e1, hf.2], e3, e4, e5⟩
theorem RefAt.sethas (h : RefAt σ k R P u els) {j : Nat} (hj : j < 60) (hg : (j : Int) ∉ R.gone) : RefAt (σ.set k (.cells (refCells R.head R.floor (fun i => if i = j then true else P i) u) none)) k { R with grp := insS j R.grp } (fun i => if i = j then true else P i) u els where
 blk := by rw [Heap.get_set, if_pos rfl]; rfl
 row := h.row.set (fun K o n c e => (h.ne K o n c e).symm) _
 ne := h.ne
 len := h.len
 lst := h.lst
 at_ := h.at_
 has := by
  intro g hg2
  have h1 := h.has g hg2
  have h2 := h.gone g hg2
  show ((if g = j then true else P g) && !(if 60 + g = j then true else P (60 + g))) = decide ((g : Int) ∈ insS j R.grp)
  rw [if_neg (show ¬ 60 + g = j by omega)]
  by_cases e : g = j
  ·subst e
   have : P (60 + g) = false := by rw [h2]; exact not_mem_bool hg
   rw [this, if_pos rfl, mem_bool (mem_insS.2 (.inl rfl))]; rfl
  ·rw [if_neg e, h1]
   have : ((g : Int) ∈ insS j R.grp) ↔ (g : Int) ∈ R.grp := by rw [mem_insS]; exact ⟨fun h => h.resolve_left (by omega), .inr⟩
   simp [this]
 gone := by
  intro g hg2
  show (if 60 + g = j then true else P (60 + g)) = _
  rw [if_neg (by omega)]; exact h.gone g hg2
 low := by simpa using h.low
 ok := ⟨h.ok.one, h.ok.few, h.ok.rise, h.ok.grp.ins (by omega) (by omega), h.ok.gone⟩
set_option maxHeartbeats 1000000 in
theorem radd_at {fp : List Nat} {R' : Revs} (h : IsRef σ k R fp) {g n c : Int} (e : addR R g = (R', n, c)) : MSpec Tryz.prog n_palinoderef20_Revs_Add [.ptr (.new k) 0, .int .i64 g] σ fun v τ => v = .tup [.int .i64 n, .int .i64 c] ∧ ∃ fp', IsRef τ k R' fp' ∧ Keep fp σ τ ∧ Fresh fp σ fp' := by
  obtain ⟨P, u, els, h, rfl⟩ := h
  refine spec_of_awp mixed c_palinoderef20_Revs_Add (Nat.le_of_ble_eq_true rfl) ?_
  unfold f_palinoderef20_Revs_Add
  have hk := h.blk
  have hf := h.few
  have ht := there_call σ g
  have fin : IsRef σ k R (k :: uid u) ∧ Keep (k :: uid u) σ σ ∧ Fresh (k :: uid u) σ (k :: uid u) := ⟨⟨P, u, els, h, rfl⟩, Keep.refl _ _, fun x hx => .inl hx⟩
  simp only [↓evd, evu, evf, implies_true, reduceCtorEq, ↓reduceIte, Nat.reduceAdd, Nat.reduceLT, evz]
  refine MSpec.of ht ?_
  by_cases hb : (decide (0 ≤ g) && decide (g < 60)) = true
  case neg =>
    have hb2 : (decide (0 ≤ g) && decide (g < 60)) = false := by simpa using hb
    have hbad : g ∈ R.gone ∨ g < 0 ∨ 60 ≤ g := by
      right
      rcases Int.lt_or_le g 0 with h1 | h1
      · exact .inl h1
      · rcases Int.lt_or_le g 60 with h2 | h2
        · exact absurd (by simp [h1, h2]) hb
        · exact .inr h2
    rw [add_bad hbad] at e
    cases e
    rw [hb2]
    simp only [↓evd, evu, evf, implies_true, reduceCtorEq, ↓reduceIte, Nat.reduceLT, evz]
    exact ⟨_, fin⟩
  obtain ⟨j, rfl, hj⟩ := (there_in g).1 hb
  have h1 := aIdxR_lt (n := 60) (k := 1) (off := 2) (i := .new k) (K := .i64) hj
  have h2 := aIdxR_lt (n := 60) (k := 1) (off := 62) (i := .new k) (K := .i64) hj
  have hg := h.gone j hj
  rw [hb]
  by_cases hgo : (j : Int) ∈ R.gone
  · rw [add_bad (.inl hgo)] at e
    cases e
    rw [mem_bool hgo] at hg
    simp only [↓evd, evu, evf, implies_true, reduceCtorEq, ↓reduceIte, Nat.reduceLT, evz, hk, h2, rc_gone hj, hg]
    exact ⟨_, fin⟩
  rw [not_mem_bool hgo] at hg
  by_cases h4 : 200 ≤ R.head
  · rw [add_many hgo (by omega) (by omega) h4] at e
    cases e
    have hb4 : ((R.head : Int) == 200) = true := by have : R.head = 200 := by omega
                                                    rw [this]; rfl
    simp only [↓evd, evu, evf, implies_true, reduceCtorEq, ↓reduceIte, Nat.reduceLT, evz, hk, h2, rc_gone hj, rc_0, hg, hb4]
    exact ⟨_, fin⟩
  · rw [add_good hgo (by omega) (by omega) (by omega)] at e
    cases e
    have hb4 : ((R.head : Int) == 200) = false := by simp; omega
    have hP := h.sethas hj hgo
    obtain ⟨K, cap, x, e1, e2, e3, e4⟩ := hP.last
    have hle : decide (2 + j + 1 ≤ 123) = true := by simp; omega
    have hle2 : decide (2 + j ≤ 122) = true := by simp; omega
    have hhd : (R.head : Int) < ((R.head + 1 : Nat) : Int) := by omega
    have hx := e3.cells.2.2
    have hrise : Rise R.top := h.ok.top.2.1
    have hnx := rnext_spec hP (show R.head < 200 by omega) e3 hrise
    subst e1
    have hKk := h.ne _ _ _ _ rfl
    have e2' : Revs.head { R with grp := insS (j : Int) R.grp } = R.head := rfl
    rw [e2'] at e2
    have e2'' := e2
    simp only [Heap.cell, Heap.get_set, if_neg (show ¬ k = K from fun e => hKk e.symm)] at e2''
    simp only [↓evd, evu, evf, implies_true, reduceCtorEq, ↓reduceIte, Nat.reduceLeDiff, Nat.reduceLT, evz, hk, h1, h2, rc_gone hj, rc_0, hg, hb4, rc_sethas hj, rc_len, hle2]
    with_reducible refine draw_of_grow (fun _ => True) (ms := [false, false, false, false, true, false, false, false, true, false, true, true, false, false]) (by kernel_rfl) ?_
    simp only [↓evd, evu, evf, ↓reduceIte, Nat.reduceLT, evz, rc_u, rc_0, e2', hhd, e2]
    refine hnx.mono ?_
    rintro v τ ⟨rfl, u', els', hA, hK, hF⟩
    simp only [↓evd, evu, evf, ↓reduceIte, Nat.reduceLT, evz]
    refine ⟨by rfl, _, ⟨_, _, _, hA, rfl⟩, ?_, hF⟩
    exact ((Keep.refl (k :: uid _) σ).set (.inl (by simp)) _).trans hK (fun x hx => .inl hx)
end
section
variable {σ : Heap} {k : Nat} {R : Revs} {P : Nat → Bool} {u : AVal} {els : List AVal}
theorem toggle_many {R : Revs} {g : Int} (h1 : g ∈ R.grp) (h4 : 200 ≤ R.head) : toggleR R g = (R, 0, 70) := by
 simp only [toggleR, if_neg (show ¬ g ∉ R.grp from fun h => h h1), if_pos h4]
set_option maxHeartbeats 1000000 in
theorem rtoggle_at {fp : List Nat} {R' : Revs} (h : IsRef σ k R fp) {g n c : Int} (e : toggleR R g = (R', n, c)) : MSpec Tryz.prog n_palinoderef20_Revs_Toggle [.ptr (.new k) 0, .int .i64 g] σ fun v τ => v = .tup [.int .i64 n, .int .i64 c] ∧ ∃ fp', IsRef τ k R' fp' ∧ Keep fp σ τ ∧ Fresh fp σ fp' := by
  obtain ⟨P, u, els, h, rfl⟩ := h
  refine spec_of_awp mixed c_palinoderef20_Revs_Toggle (Nat.le_of_ble_eq_true rfl) ?_
  unfold f_palinoderef20_Revs_Toggle
  have hk := h.blk
  have hf := h.few
  have hi := is_call h g
  have fin : IsRef σ k R (k :: uid u) ∧ Keep (k :: uid u) σ σ ∧ Fresh (k :: uid u) σ (k :: uid u) := ⟨⟨P, u, els, h, rfl⟩, Keep.refl _ _, fun x hx => .inl hx⟩
  simp only [↓evd, evu, evf, implies_true, reduceCtorEq, ↓reduceIte, Nat.reduceAdd, Nat.reduceLT, evz]
  refine MSpec.of hi ?_
  by_cases hg : g ∈ R.grp
  case neg =>
    rw [toggle_bad hg] at e
    cases e
    simp only [↓evd, evu, evf, implies_true, reduceCtorEq, ↓reduceIte, Nat.reduceLT, evz, not_mem_bool hg]
    exact ⟨_, fin⟩
  have hgb := h.ok.grp.2 g hg
  by_cases h4 : 200 ≤ R.head
  · rw [toggle_many hg h4] at e
    cases e
    have hb4 : ((R.head : Int) == 200) = true := by have : R.head = 200 := by omega
                                                    rw [this]; rfl
    simp only [↓evd, evu, evf, implies_true, reduceCtorEq, ↓reduceIte, Nat.reduceLT, evz, mem_bool hg, hk, rc_0, hb4]
    exact ⟨_, fin⟩
  · rw [toggle_of hg (by omega)] at e
    cases e
    have hb4 : ((R.head : Int) == 200) = false := by simp; omega
    obtain ⟨K, cap, x, e1, e2, e3, e4⟩ := h.last
    have hhd : (R.head : Int) < ((R.head + 1 : Nat) : Int) := by omega
    have hx := e3.cells.2.2
    have hrise : Rise R.top := h.ok.top.2.1
    have htg := toggled_lst σ e3 g hrise
    have hnx := rnext_spec h (by omega) (.inl rfl : Lst (ints (flip g R.top)) (flip g R.top)) (hrise.flip hgb.1 hgb.2)
    subst e1
    simp only [↓evd, evu, evf, implies_true, reduceCtorEq, ↓reduceIte, Nat.reduceLT, evz, mem_bool hg, hk, rc_0, hb4]
    with_reducible refine draw_of_grow (fun _ => True) (ms := [false, false, false, false, true, false, false, false, true, false, true, false, true, true, false, false]) (by kernel_rfl) ?_
    simp only [↓evd, evu, evf, reduceCtorEq, ↓reduceIte, Nat.reduceLT, evz, hk, rc_u, rc_0, hhd, e2]
    refine MSpec.of htg ?_
    simp only [↓evd, evu, evf, ↓reduceIte, Nat.reduceLT, evz]
    refine hnx.mono ?_
    rintro v τ ⟨rfl, u', els', hA, hK, hF⟩
    simp only [↓evd, evu, evf, ↓reduceIte, Nat.reduceLT, evz]
    exact ⟨_, ⟨_, _, _, hA, rfl⟩, hK, hF⟩
set_option maxHeartbeats 1000000 in
theorem rgroups_call (h : RefAt σ k R P u els) : ACall Tryz.prog n_palinoderef20_Revs_Groups [.ptr (.new k) 0] σ (ints R.grp) σ := by
 suffices hs : MSpec Tryz.prog n_palinoderef20_Revs_Groups [.ptr (.new k) 0] σ fun v τ => Own σ.next τ t_int 1 v (R.grp.map (AVal.int .i64 ·)) ∧ Keep [] σ τ by
  obtain ⟨v, τ, ha, hO, hK⟩ := hs
  obtain ⟨τ', s1, s2, s3, _, s4⟩ := Own.sees hO
  exact acall_gc (acall_see ha s1) (ints_pure _) (s2.trans hK.1) (s3.trans hK.2.1) fun q hq => (s4 q hq).trans (hK.2.2.2 q hq (by simp))
 refine spec_of_awp mixed c_palinoderef20_Revs_Groups (Nat.le_of_ble_eq_true rfl) ?_
 unfold f_palinoderef20_Revs_Groups
 simp only [↓evd, evu, evf, implies_true, reduceCtorEq]
 refine awp_loop (fun m fr τ => ∃ i acc, m + i = 60 ∧ fr.get 0 = .ptr (.new k) 0 ∧ fr.get 4 = .int .i64 (i : Nat) ∧ Own σ.next τ t_int 1 (fr.get 3) (acc.map (AVal.int .i64 ·)) ∧ Rise acc ∧ (∀ x, x ∈ acc ↔ x ∈ R.grp ∧ x < (i : Int)) ∧ Keep [] σ τ) ?_ (m := 60) ?_
 ·rintro m fr τ ⟨i, acc, hi, e0, e4, hO, hR, hm, hK⟩
  by_cases hlt : i < 60
  ·have hlt' : (i : Int) < 60 := by omega
   have hs := wrap_succ (i := i) (by omega)
   have hA := h.move hK.2.2.1 fun q hq => hK.2.2.2 q (h.lows q hq) (by simp)
   have hi2 := is_call hA (i : Int)
   have hl := rise_len hR
   simp only [↓evd, evu, evf, implies_true, reduceCtorEq, ↓reduceIte, Nat.reduceLT, evz, e0, e4, hlt']
   refine MSpec.of hi2 ?_
   by_cases hg : (i : Int) ∈ R.grp
   ·obtain ⟨x1, ρ1, a1, a2, a3, a4, a5, a6, a7⟩ := own_int hO hK.2.2.1 (by omega) (i : Int)
    simp only [↓evd, evu, evf, implies_true, reduceCtorEq, Nat.reduceEqDiff, ↓reduceIte, Nat.reduceLT, evz, e0, e4, mem_bool hg, a1, hs]
    refine ⟨m - 1, by omega, i + 1, _, by omega, rfl, a2, ?_, ?_, ?_⟩
    ·refine ⟨List.pairwise_append.2 ⟨hR.1, by simp, fun x hx y hy => ?_⟩, fun x hx => ?_⟩
     ·rw [List.mem_singleton.1 hy]; exact ((hm x).1 hx).2
     ·rcases List.mem_append.1 hx with hx | hx
      ·exact hR.2 x hx
      ·rw [List.mem_singleton.1 hx]; omega
    ·intro x
     rw [List.mem_append, List.mem_singleton, hm]
     constructor
     ·rintro (⟨h1, h2⟩ | rfl)
      ·exact ⟨h1, by omega⟩
      ·exact ⟨hg, by omega⟩
     ·rintro ⟨h1, h2⟩
      rcases Int.lt_or_le x (i : Int) with h3 | h3
      ·exact .inl ⟨h1, h3⟩
      ·exact .inr (by omega)
    ·exact ⟨a3.trans hK.1, a4.trans hK.2.1, Nat.le_trans hK.2.2.1 (Nat.le_of_lt a5), fun q hq _ => by
      rw [a6 q (Nat.lt_of_lt_of_le hq hK.2.2.1) (fun K o n c e hk => by have := (hO.low e).1; omega)]; exact hK.2.2.2 q hq (by simp)⟩
   ·simp only [↓evd, evu, evf, implies_true, reduceCtorEq, ↓reduceIte, Nat.reduceLT, evz, e0, e4, not_mem_bool hg, hs]
    refine ⟨m - 1, by omega, i + 1, acc, by omega, rfl, hO, hR, fun x => ?_, hK⟩
    rw [hm]
    constructor
    ·rintro ⟨h1, h2⟩; exact ⟨h1, by omega⟩
    ·rintro ⟨h1, h2⟩
     refine ⟨h1, ?_⟩
     have : x ≠ (i : Int) := fun e => hg (e ▸ h1)
     omega
  ·have hlt' : ¬ (i : Int) < 60 := by omega
   have he : acc = R.grp := rise_ext hR h.ok.grp fun x => by
    rw [hm]
    exact ⟨fun h1 => h1.1, fun h1 => ⟨h1, by have := (h.ok.grp.2 x h1).2; omega⟩⟩
   rw [he] at hO
   simp only [↓evd, evu, evf, implies_true, reduceCtorEq, ↓reduceIte, Nat.reduceLT, evz, e4, hlt']
   exact ⟨hO, hK⟩
 ·refine ⟨0, [], by omega, ?_⟩
  simp only [evu, ↓reduceIte, Nat.reduceLT, evz]
  refine ⟨Own.nil _ _ _ _, Rise.nil, fun x => ?_, Keep.refl _ _⟩
  constructor
  ·intro hx; cases hx
  ·rintro ⟨h1, h2⟩
   have := (h.ok.grp.2 x h1).1
   omega
end
theorem take_bits (P : Nat → Bool) (l : List AVal) : (bitRow 120 P ++ l).take 120 = bitRow 120 P := by
 rw [List.take_append_of_le_length (by rw [bitRow_len]; omega), List.take_of_length_le (by rw [bitRow_len]; omega)]
theorem drop_bits (P : Nat → Bool) (x : AVal) : (bitRow 120 P ++ [x]).drop 121 = [] := List.drop_eq_nil_of_le (by simp [bitRow_len])
theorem len_bits (P : Nat → Bool) (x : AVal) : (bitRow 120 P ++ [x]).length = 121 := by simp [bitRow_len]
theorem rnew_at (σ : Heap) : MSpec Tryz.prog n_palinoderef20_NewRevs [] σ fun v τ => v = .ptr (.new (σ.next + 1)) 0 ∧ (∃ fp, IsRef τ (σ.next + 1) Revs.new fp ∧ ∀ x ∈ fp, σ.next ≤ x) ∧ Keep [] σ τ := by
 refine spec_of_awp mixed c_palinoderef20_NewRevs (Nat.le_of_ble_eq_true rfl) ?_
 unfold f_palinoderef20_NewRevs
 simp only [↓evd, evu, evf, implies_true, reduceCtorEq, ↓reduceIte, Nat.reduceAdd, take_bits, drop_bits, len_bits]
 refine ⟨?_, ((Keep.refl [] σ).new _).new _⟩
 refine ⟨_, ⟨fun _ => false, .slc (.new σ.next) 0 1 (.ex 1), [.nils], ⟨?_, ?_, ?_, rfl, ?_, ?_, ?_, ?_, ?_, ?_⟩, rfl⟩, ?_⟩
 ·rw [Heap.get_new, if_pos (by simp)]; rfl
 ·refine ⟨by intro z hz; simp at hz; subst hz; rfl, .inr ⟨σ.next, .ex 1, [.nils], none, rfl, ?_, rfl, Nat.zero_le _, by simp; omega, .inr ⟨1, rfl, by simp, rfl⟩⟩⟩
  rw [Heap.get_new, if_neg (by simp), Heap.get_new, if_pos rfl]
 ·intro K o n c e; cases e; omega
 ·intro z hz; simp at hz; exact ⟨[], .inr ⟨hz, rfl⟩⟩
 ·intro j s hj
  cases j with
  | zero => simp [Revs.new] at hj; subst hj; exact ⟨.nils, rfl, .inr ⟨rfl, rfl⟩⟩
  | succ j => simp [Revs.new] at hj
 ·intro g _; simp [Revs.new]
 ·intro g _; simp [Revs.new]
 ·simp
 ·exact ⟨by simp [Revs.new], by simp [Revs.new], by intro s hs; simp [Revs.new] at hs; subst hs; exact Rise.nil, Rise.nil, Rise.nil⟩
 ·intro x hx
  simp only [uid, List.mem_cons, List.not_mem_nil, or_false] at hx
  omega
theorem slc_take {l : List Int} {i : Nat} (h : i ≤ l.length) : aSlc 1 (.fsl 1 (l.map (AVal.int .i64 ·))) none (some (.int .i64 (i : Nat))) none = some (.fsl 1 ((l.take i).map (AVal.int .i64 ·))) := by
 have b1 : aBound (some (.int .i64 (i : Nat))) (l.map (AVal.int .i64 ·)).length (l.map (AVal.int .i64 ·)).length = some i := by
  simp only [aBound, List.length_map]; rw [if_pos (by simp; omega)]; rfl
 have b2 : aBound none 0 i = some 0 := rfl
 have b3 : aBound none (l.map (AVal.int .i64 ·)).length (l.map (AVal.int .i64 ·)).length = some (l.map (AVal.int .i64 ·)).length := rfl
 have e : ((l.map (AVal.int .i64 ·)).take i).drop 0 = (l.take i).map (AVal.int .i64 ·) := by rw [List.drop_zero, List.map_take]
 simp only [aSlc, b3, b1, b2, e, Option.isSome_none, Bool.false_and, Bool.false_eq_true, if_false]; rfl
section
variable {σ : Heap} {k : Nat} {R : Revs} {P : Nat → Bool} {u : AVal} {els : List AVal}
/-- the last element of the reference's row written anew -/
theorem row_last {K : Nat} {cap : Cap} {cs : List AVal} {opn : Option TypeId} {n : Nat} {z : AVal} (h : Row 0 σ t_ints 1 (.slc (.new K) 0 (n + 1) cap) els) (hl : ∀ z ∈ els, ∃ l, Lst z l) (hn : els.length = n + 1) (hg : σ.get K = some (.cells cs opn)) {s : List Int} (hz : Lst z s) :
  n + 1 ≤ cs.length ∧ Row 0 (σ.set K (.cells (cs.take n ++ [z] ++ cs.drop (n + 1)) opn)) t_ints 1 (.slc (.new K) 0 (n + 1) cap) (els.take n ++ [z]) := by
 have hone := h.1
 rcases h.2 with ⟨h1, _⟩ | ⟨K', cap', cs', opn', h1, h2, h3, h4, h5, h6⟩
 ·cases h1
 simp only [AVal.slc.injEq, Id.new.injEq] at h1
 obtain ⟨rfl, _, _, rfl⟩ := h1
 rw [hg] at h2
 cases h2
 rw [lst_flat hl, Nat.mul_one] at h3
 have hcl : n + 1 ≤ cs.length := by
  have := congrArg List.length h3
  simp at this; omega
 refine ⟨hcl, ?_⟩
 have hlz : (els.take n ++ [z]).length = n + 1 := by simp; omega
 have ht : cs.take n = els.take n := by rw [← h3, List.take_take, Nat.min_eq_left (by omega)]
 have hlist : ∀ y ∈ els.take n ++ [z], ∃ l, Lst y l := by
  intro y hy
  rcases List.mem_append.1 hy with hy | hy
  ·exact hl y (List.mem_of_mem_take hy)
  ·rw [List.mem_singleton.1 hy]; exact ⟨s, hz⟩
 refine ⟨fun y hy => by obtain ⟨l, hl⟩ := hlist y hy; rw [hl.cells.1]; rfl, .inr ⟨K, cap, cs.take n ++ [z] ++ cs.drop (n + 1), opn, by rw [hlz], by rw [Heap.get_set, if_pos rfl], ?_, Nat.zero_le _, by simpa using h5, ?_⟩⟩
 ·rw [lst_flat hlist, hlz, Nat.mul_one, List.take_append_of_le_length (by simp; omega), List.take_of_length_le (by simp; omega), ht]
 ·have : (cs.take n ++ [z] ++ cs.drop (n + 1)).length = cs.length := by simp; omega
  rw [this, hlz]
  rw [hn] at h6
  exact h6
theorem delAll_take {s l : List Int} {i : Nat} (h : i < s.length) : delAll (s.take (i + 1)) l = delAll (s.take i) l ++ (if decide (s[i] ∉ l) then [s[i]] else []) := take_filter (fun x => decide (x ∉ l)) h
set_option maxHeartbeats 2000000 in
theorem rforget_spec {fp : List Nat} (h : IsRef σ k R fp) (l : List Int) (hll : l.length ≤ 1000000) : MSpec Tryz.prog n_palinoderef20_Revs_Forget [.ptr (.new k) 0, ints l] σ fun v τ => v = .int .i64 (forgetR R l).2 ∧ ∃ fp', IsRef τ k (forgetR R l).1 fp' ∧ Keep fp σ τ ∧ Fresh fp σ fp' := by
 obtain ⟨P, u, els, h, rfl⟩ := h
 refine spec_of_xwp c_palinoderef20_Revs_Forget (Nat.le_of_ble_eq_true rfl) ?_
 unfold f_palinoderef20_Revs_Forget
 have hk := h.blk
 have hf := h.few
 have fin : IsRef σ k R (k :: uid u) ∧ Keep (k :: uid u) σ σ ∧ Fresh (k :: uid u) σ (k :: uid u) := ⟨⟨P, u, els, h, rfl⟩, Keep.refl _ _, fun x hx => .inl hx⟩
 refine x_seq mixed ?_
 simp only [↓evd, evu, evf, implies_true, reduceCtorEq, Nat.reduceAdd, evz]
 refine x_seq mixed ?_
 simp only [↓evd, evu, evf, implies_true, reduceCtorEq]
 refine awp_loop (fun m fr τ => ∃ i, m + i = l.length ∧ fr.get 0 = .ptr (.new k) 0 ∧ fr.get 1 = ints l ∧ fr.get 5 = .int .i64 (i : Nat) ∧ (l.take i).Nodup ∧ (∀ g ∈ l.take i, g ∈ R.grp) ∧ τ = σ) ?_ (m := l.length) ?_
 ·rintro m fr τ ⟨i, hi, e0, e1, e5, hnd, hin, rfl⟩
  by_cases hlt : i < l.length
  ·have hlt' : (i : Int) < (l.length : Int) := by omega
   have hg := map_get (AVal.int .i64 ·) l i hlt
   have hs := wrap_succ (i := i) (by omega)
   have t1 := List.take_succ_eq_append_getElem hlt
   have hm := List.getElem_mem hlt
   have hsl := slc_take (l := l) (i := i) (by omega)
   have hbad : l[i] ∉ R.grp ∨ l[i] ∈ l.take i → ¬ Good R l := by
    rintro (h1 | h1) h2
    ·exact h1 (h2.2 _ hm)
    ·have := h2.1.sublist (List.take_sublist (i + 1) l)
     rw [t1] at this
     exact (List.nodup_append.1 this).2.2 _ h1 _ (by simp) rfl
   generalize l[i] = g at hg t1 hm hbad
   have hi2 := is_call h g
   have hi3 := in_call τ (l.take i) g (by simp; omega)
   simp only [↓evd, evu, evf, implies_true, reduceCtorEq, ↓reduceIte, Nat.reduceLT, evz, e1, e5, hlt']
   with_reducible refine draw_of_grow (fun _ => True) (ms := [false, false, false, false, true, true, false, false, false, false, false, false, false, false, true, true, false]) (by kernel_rfl) ?_
   simp only [↓evd, evu, evf, ↓reduceIte, Nat.reduceLT, evz, e0, e1, e5, hg]
   refine MSpec.of hi2 ?_
   by_cases h1 : g ∈ R.grp
   case neg =>
    have hfb : forgetR R l = (R, 210) := forget_bad (hbad (.inl h1))
    rw [hfb]
    simp only [↓evd, evu, evf, implies_true, reduceCtorEq, ↓reduceIte, Nat.reduceLT, evz, not_mem_bool h1]
    exact ⟨_, fin⟩
   by_cases h2 : g ∈ l.take i
   ·have hfb : forgetR R l = (R, 210) := forget_bad (hbad (.inr h2))
    rw [hfb]
    simp only [↓evd, evu, evf, ↓reduceIte, Nat.reduceLT, evz, e1, e5, mem_bool h1, hg, hsl]
    refine MSpec.of hi3 ?_
    simp only [↓evd, evu, evf, implies_true, reduceCtorEq, ↓reduceIte, Nat.reduceLT, evz, mem_bool h2]
    exact ⟨_, fin⟩
   ·simp only [↓evd, evu, evf, ↓reduceIte, Nat.reduceLT, evz, e1, e5, mem_bool h1, hg, hsl]
    refine MSpec.of hi3 ?_
    simp only [↓evd, evu, evf, implies_true, reduceCtorEq, ↓reduceIte, Nat.reduceLT, evz, e0, e1, e5, not_mem_bool h2, hs]
    refine ⟨m - 1, by omega, i + 1, by omega, rfl, ?_, ?_⟩
    ·rw [t1]
     exact List.nodup_append.2 ⟨hnd, by simp, fun a ha b hb e => h2 (by rw [List.mem_singleton] at hb; rw [← hb, ← e]; exact ha)⟩
    ·intro y hy
     rw [t1] at hy
     rcases List.mem_append.1 hy with hy | hy
     ·exact hin y hy
     ·rw [List.mem_singleton.1 hy]; exact h1
  ·have hlt' : ¬ (i : Int) < (l.length : Int) := by omega
   rw [List.take_of_length_le (by omega)] at hnd hin
   have hgood : Good R l := ⟨hnd, hin⟩
   simp only [↓evd, evu, evf, implies_true, reduceCtorEq, ↓reduceIte, Nat.reduceLT, evz, e1, e5, hlt']
   clear e5 hlt hlt' hi
   rw [forget_good hgood]
   have hone := List.length_pos_iff.2 h.ok.one
   obtain ⟨K, cap, x, e1', e2', e3', e4'⟩ := h.last
   have hhd : (R.head : Int) < ((R.head + 1 : Nat) : Int) := by omega
   have hx := e3'.cells.2.2
   have hrt := h.ok.top.2.1
   have hlent := rise_len hrt
   subst e1'
   refine x_seq mixed ?_
   simp only [↓evd, evu, evf, implies_true, reduceCtorEq]
   refine x_seq mixed ?_
   simp only [↓evd]
   with_reducible refine draw_of_grow (fun _ => True) (ms := [false, false, false, true, false, false, false, true, false, true, false]) (by kernel_rfl) ?_
   simp only [↓evd, evu, evf, ↓reduceIte, Nat.reduceLT, evz, e0, hk, rc_u, rc_0, hhd, e2']
   refine x_seq mixed ?_
   simp only [↓evd, evu, evf, implies_true, reduceCtorEq]
   have hlx := e3'.len
   have hxs : R.top ≠ [] → x = ints R.top := fun hne => by
    rcases e3' with h1 | ⟨_, h1⟩
    ·exact h1
    ·exact absurd h1 hne
   generalize hs0 : R.top = s at hrt hlent hlx hxs
   refine awp_loop (fun m fr ρ => ∃ i, m + i = s.length ∧ fr.get 0 = .ptr (.new k) 0 ∧ fr.get 1 = ints l ∧ fr.get 7 = x ∧ fr.get 8 = .int .i64 (i : Nat) ∧ Own τ.next ρ t_int 1 (fr.get 6) ((delAll (s.take i) l).map (AVal.int .i64 ·)) ∧ Keep [] τ ρ) ?_ (m := s.length) ?_
   ·clear e0 e1
    rintro m fr ρ ⟨i, hi, e0, e1, e7, e8, hO, hK⟩
    by_cases hlt : i < s.length
    ·have hlt' : (i : Int) < (s.length : Int) := by omega
     have hxe := hxs (by intro e; rw [e] at hlt; simp at hlt)
     subst hxe
     have hg := map_get (AVal.int .i64 ·) s i hlt
     have hs := wrap_succ (i := i) (by omega)
     have hdt := delAll_take (l := l) hlt
     generalize s[i] = g at hg hdt
     have hi3 := in_call ρ l g hll
     have hll2 : (delAll (s.take i) l).length ≤ 1000000 := by have := List.length_filter_le (fun x => decide (x ∉ l)) (s.take i); simp only [delAll]; simp at this ⊢; omega
     by_cases hgl : g ∈ l
     ·simp only [↓evd, evu, evf, implies_true, reduceCtorEq, ↓reduceIte, Nat.reduceLT, evz, e1, e7, e8, hlt', hg]
      refine MSpec.of hi3 ?_
      simp only [↓evd, evu, evf, implies_true, reduceCtorEq, ↓reduceIte, Nat.reduceLT, evz, e0, e1, e7, e8, mem_bool hgl, hs]
      refine ⟨m - 1, by omega, i + 1, by omega, rfl, ?_, hK⟩
      rw [hdt, if_neg (by simpa using hgl), List.append_nil]; exact hO
     ·obtain ⟨x1, ρ1, a1, a2, a3, a4, a5, a6, a7⟩ := own_int hO hK.2.2.1 hll2 g
      simp only [↓evd, evu, evf, implies_true, reduceCtorEq, ↓reduceIte, Nat.reduceLT, evz, e1, e7, e8, hlt', hg]
      refine MSpec.of hi3 ?_
      simp only [↓evd, evu, evf, implies_true, reduceCtorEq, Nat.reduceEqDiff, ↓reduceIte, Nat.reduceLT, evz, e0, e1, e7, e8, not_mem_bool hgl, hs, hg, a1]
      refine ⟨m - 1, by omega, i + 1, by omega, rfl, ?_, ?_⟩
      ·rw [hdt, if_pos (by simpa using hgl)]; exact a2
      ·exact ⟨a3.trans hK.1, a4.trans hK.2.1, Nat.le_trans hK.2.2.1 (Nat.le_of_lt a5), fun q hq _ => by
        rw [a6 q (Nat.lt_of_lt_of_le hq hK.2.2.1) (fun K o n c e hk => by have := (hO.low e).1; omega)]; exact hK.2.2.2 q hq (by simp)⟩
    ·have hlt' : ¬ (i : Int) < (s.length : Int) := by omega
     rw [List.take_of_length_le (by omega)] at hO
     simp only [↓evd, evu, evf, implies_true, reduceCtorEq, ↓reduceIte, Nat.reduceLT, evz, e7, e8, hlx, hlt']
     clear e7 e8 hlt hlt' hi
     generalize h6 : fr.get 6 = x6 at hO
     obtain ⟨τ1, s1, d1⟩ := Own.sees2 hO
     have hK1 : Keep [] τ τ1 := by rcases d1 with rfl | ⟨K, _, rfl, hK2⟩; exact hK; exact hK.set (.inr hK2) _
     have hA := h.move hK1.2.2.1 fun q hq => hK1.2.2.2 q (h.lows q hq) (by simp)
     refine x_freeze (FSees.reg (t := 6) (by decide) (by simp only [evu, ↓reduceIte, Nat.reduceLT, evz, h6]) s1) ?_
     refine x_of_awp mixed ?_
     have hk1 := hA.blk
     obtain ⟨cs, opn, hcs⟩ : ∃ cs opn, τ1.get K = some (.cells cs opn) := by
      rcases hA.row.2 with ⟨h1, _⟩ | ⟨K', cap', cs, opn, h1, h2, _⟩
      ·cases h1
      ·simp only [AVal.slc.injEq, Id.new.injEq] at h1
       rw [← h1.1] at h2
       exact ⟨cs, opn, h2⟩
     have hKk := h.ne _ _ _ _ rfl
     have hlen := h.len
     have hdrop : els.drop (R.head + 1) = [] := List.drop_eq_nil_of_le (by omega)
     obtain ⟨hcl, hrow⟩ := row_last (z := ints (delAll s l)) hA.row hA.lst (by omega) hcs (s := delAll s l) (.inl rfl)
     have hcl2 : decide (R.head + 1 ≤ cs.length) = true := by simpa using hcl
     have hKlow := (hA.row.low rfl).2
     simp only [↓evd]
     with_reducible refine draw_of_grow (fun _ => True) (ms := [false, false, false, true, false, false, false, true, false, false, true]) (by kernel_rfl) ?_
     simp only [↓evd, evu, evf, implies_true, reduceCtorEq, ↓reduceIte, Nat.reduceLT, evz, e0, hk1, rc_u, rc_0, hhd, hcs, hcl2]
     simp only [ints] at hrow
     generalize hτ2 : τ1.set K _ = τ2 at hrow
     have hn2 : τ2.next = τ1.next := by rw [← hτ2, Heap.set_next]
     have hk2 : τ2.get k = some (.cells (refCells R.head R.floor P (.slc (.new K) 0 (R.head + 1) cap)) none) := by rw [← hτ2, Heap.get_set, if_neg (fun e => hKk e)]; exact hk1
     have hK2 : Keep [K] τ τ2 := by rw [← hτ2]; exact (hK1.mono (fun x hx => by cases hx)).set (.inl (by simp)) _
     refine awp_loop (fun m fr ρ => ∃ i P', m + i = l.length ∧ fr.get 0 = .ptr (.new k) 0 ∧ fr.get 1 = ints l ∧ fr.get 9 = .int .i64 (i : Nat) ∧ ρ.get k = some (.cells (refCells R.head R.floor P' (.slc (.new K) 0 (R.head + 1) cap)) none) ∧ (∀ g : Nat, g < 60 → P' g = P g) ∧ (∀ g : Nat, g < 60 → P' (60 + g) = (P (60 + g) || decide ((g : Int) ∈ l.take i))) ∧ Keep [k] τ2 ρ) ?_ (m := l.length) ?_
     ·clear e0 e1
      rintro m fr ρ ⟨i, P', hi, e0, e1, e9, hkb, hp1, hp2, hK3⟩
      by_cases hlt : i < l.length
      ·have hlt' : (i : Int) < (l.length : Int) := by omega
       have hg := map_get (AVal.int .i64 ·) l i hlt
       have hs := wrap_succ (i := i) (by omega)
       have t1 := List.take_succ_eq_append_getElem hlt
       have hb := h.ok.grp.2 _ (hin _ (List.getElem_mem hlt))
       generalize l[i] = g at hg t1 hb
       obtain ⟨j, rfl⟩ : ∃ j : Nat, g = (j : Int) := ⟨g.toNat, by omega⟩
       have hj : j < 60 := by omega
       have h2 := aIdxR_lt (n := 60) (k := 1) (off := 62) (i := .new k) (K := .i64) hj
       have hle : decide (62 + j + 1 ≤ 123) = true := by simp; omega
       have hle2 : decide (62 + j ≤ 122) = true := by simp; omega
       simp only [↓evd, evu, evf, implies_true, reduceCtorEq, ↓reduceIte, Nat.reduceLT, evz, e1, e9, hlt']
       with_reducible refine draw_of_grow (fun _ => True) (ms := [false, false, false, false, true, false, false, false, true]) (by kernel_rfl) ?_
       simp only [↓evd, evu, evf, implies_true, reduceCtorEq, ↓reduceIte, Nat.reduceLeDiff, Nat.reduceLT, evz, e0, e1, e9, hg, h2, hkb, rc_setgone hj, rc_len, hle2, hs]
       refine ⟨m - 1, by omega, i + 1, _, by omega, rfl, rfl, ?_, ?_, ?_⟩
       ·intro g hg2
        show (if g = 60 + j then true else P' g) = P g
        rw [if_neg (by omega)]; exact hp1 g hg2
       ·intro g hg2
        show (if 60 + g = 60 + j then true else P' (60 + g)) = _
        rw [t1]
        by_cases e : g = j
        ·subst e; simp
        ·rw [if_neg (by omega), hp2 g hg2]
         have : ((g : Int) ∈ l.take i ++ [(j : Int)]) ↔ (g : Int) ∈ l.take i := by
          rw [List.mem_append, List.mem_singleton]
          exact ⟨fun h => h.resolve_right (by omega), .inl⟩
         simp [this]
       ·exact hK3.set (.inl (by simp)) _
      ·have hlt' : ¬ (i : Int) < (l.length : Int) := by omega
       rw [List.take_of_length_le (by omega)] at hp2
       simp only [↓evd, evu, evf, implies_true, reduceCtorEq, ↓reduceIte, Nat.reduceAdd, Nat.reduceLeDiff, Nat.reduceLT, evz, e0, e1, e9, hlt', hkb, rc_0, rc_set1, rc_len]
       have hKne : ∀ q ∈ [K], q ∉ [k] := by intro q hq; simp at hq ⊢; omega
       refine ⟨k :: [K], ⟨P', .slc (.new K) 0 (R.head + 1) cap, els.take R.head ++ [ints (delAll s l)], ⟨?_, ?_, ?_, ?_, ?_, ?_, ?_, ?_, ?_, ?_⟩, rfl⟩, ?_, ?_⟩
       ·rw [Heap.get_set, if_pos rfl]; rfl
       ·refine Row.set ?_ (fun K' o n c e => by cases e; exact fun e => hKk e.symm) _
        exact Row.move hrow hK3.2.2.1 fun q hq => hK3.2.2.2 q (by simp [uid] at hq; subst hq; omega) (hKne q hq)
       ·intro K' o n c e; cases e; exact hKk
       ·simp; omega
       ·intro z hz
        rcases List.mem_append.1 hz with hz | hz
        ·exact h.lst z (List.mem_of_mem_take hz)
        ·rw [List.mem_singleton.1 hz]; exact ⟨_, .inl rfl⟩
       ·intro j t ht
        cases j with
        | zero =>
         simp at ht; subst ht
         refine ⟨ints (delAll s l), ?_, .inl rfl⟩
         have : (els.take R.head).length = R.head := by simp; omega
         show (els.take R.head ++ [ints (delAll s l)])[R.head + 0]? = _
         rw [Nat.add_zero, List.getElem?_append_right (by omega), this]; simp
        | succ j => simp at ht
       ·intro g hg2
        show (P' g && !P' (60 + g)) = decide ((g : Int) ∈ delAll R.grp l)
        rw [hp1 g hg2, hp2 g hg2]
        have h1 := h.has g hg2
        have hm : decide ((g : Int) ∈ delAll R.grp l) = (decide ((g : Int) ∈ R.grp) && !decide ((g : Int) ∈ l)) := by
         rw [Bool.eq_iff_iff]; simp [mem_delAll]
        rw [hm, ← h1]
        cases P g <;> cases P (60 + g) <;> simp
       ·intro g hg2
        show P' (60 + g) = decide ((g : Int) ∈ goneAll R.gone l)
        rw [hp2 g hg2, h.gone g hg2]
        rw [Bool.eq_iff_iff]; simp [mem_goneAll]
        exact Or.comm
       ·have := hK3.2.2.1; simp; have := hA.low; omega
       ·refine ⟨by simp, ?_, ?_, h.ok.grp.delAll l, h.ok.gone.goneAll fun g hg => h.ok.grp.2 g (hin g hg)⟩
        ·simp; omega
        ·intro t ht
         simp at ht; subst ht; exact hrt.delAll l
       ·refine Keep.set ?_ (.inl (by simp)) _
        refine (hK2.mono (fp' := k :: [K]) (fun x hx _ => by simp at hx; simp [hx])).trans hK3 (fun x hx => .inl (by simp at hx; simp [hx]))
       ·exact fun x hx => .inl hx
     ·refine ⟨0, P, by omega, ?_⟩
      simp only [evu, implies_true, ↓reduceIte, Nat.reduceLT, evz, e0, e1]
      simp only [List.not_mem_nil, decide_false, Bool.or_false]
      exact ⟨hk2, fun _ _ => trivial, Keep.refl _ _⟩
   ·refine ⟨0, by omega, ?_⟩
    simp only [evu, ↓reduceIte, Nat.reduceLT, evz, e0, e1]
    simp only [delAll, List.filter_nil, List.map_nil]
    exact ⟨Own.nil _ _ _ _, Keep.refl _ _⟩
 ·refine ⟨0, by omega, ?_⟩
  simp only [evu, reduceCtorEq, ↓reduceIte, Nat.reduceLT, evz]
  simp
end
/-! ### The reference's engine -/
theorem rc_cell {a b : Nat} {P : Nat → Bool} {u : AVal} (hu : u.isCell = true) : (refCells a b P u).all AVal.isCell = true := by
 rw [List.all_eq_true]
 intro z hz
 simp only [refCells, List.mem_cons, List.mem_append, List.not_mem_nil, or_false] at hz
 rcases hz with rfl | rfl | hz | rfl
 ·rfl
 ·rfl
 ·simp only [bitRow, List.mem_map] at hz
  obtain ⟨_, _, rfl⟩ := hz; rfl
 ·exact hu
theorem RefAt.ucell {σ : Heap} {k : Nat} {R : Revs} {P : Nat → Bool} {u : AVal} {els : List AVal} (h : RefAt σ k R P u els) : u.isCell = true := by
 rcases h.row.2 with ⟨rfl, _⟩ | ⟨K, cap, cs, opn, rfl, _⟩ <;> rfl
theorem rrcopy_at {σ : Heap} {k : Nat} {R : Revs} {fp : List Nat} (h0 : IsRef σ k R fp) : MSpec Tryz.prog n_palinoderef20_Revs_Copy [.ptr (.new k) 0] σ fun v τ => ∃ kr fp', v = .ptr (.new kr) 0 ∧ IsRef τ kr R fp' ∧ (∀ x ∈ fp', σ.next ≤ x) ∧ Keep [] σ τ := by
 obtain ⟨P, u, els, h, rfl⟩ := h0
 refine spec_of_awp mixed c_palinoderef20_Revs_Copy (Nat.le_of_ble_eq_true rfl) ?_
 unfold f_palinoderef20_Revs_Copy
 have hb := h.blk
 have hlen := rc_len (a := R.head) (b := R.floor) (P := P) (u := u)
 have hcell := rc_cell (a := R.head) (b := R.floor) (P := P) h.ucell
 have hu := rc_u (a := R.head) (b := R.floor) (P := P) (u := u)
 have hld : cellsFrom σ (.new k) 0 123 = some (refCells R.head R.floor P u) := by
  have := cellsFrom_whole hb; rw [hlen] at this; exact this
 generalize hcs : refCells R.head R.floor P u = cs at hb hlen hcell hu hld
 obtain ⟨z0, hz0⟩ : ∃ z0, z0 = ([AVal.int .i64 0, AVal.int .i64 0] ++ (bitRow 120 (fun _ => false) ++ [AVal.nils])) := ⟨_, rfl⟩
 have hz0l : z0.length = 123 := by rw [hz0]; simp [bitRow_len]
 rw [← hz0]
 have hL : ∀ (a : AVal), a = .ptr (.new k) 0 → aLoad (some 123) a σ = some (.agg cs) := by
  rintro a rfl; simp only [aLoad, hld, Option.map_some]
 have hkl := h.low
 have hset : ∀ x : AVal, cs.take 122 ++ [x] ++ cs.drop 123 = refCells R.head R.floor P x := fun x => by rw [← hcs]; exact rc_setu x
 have d1 : decide (cs.length = 123) = true := by rw [hlen]; rfl
 have d2 : decide (cs.length ≤ z0.length) = true := by rw [hlen, hz0l]; rfl
 have d3 : cs ++ z0.drop cs.length = cs := by rw [List.drop_eq_nil_of_le (by omega), List.append_nil]
 have hne : els ≠ [] := by
  intro e
  have := h.len
  have h1 := List.length_pos_iff.2 h.ok.one
  rw [e] at this; simp at this; omega
 obtain ⟨K, cap, rw0, opn, rfl, r1, r2, r3, r4, r5⟩ : ∃ K cap rw0 opn, u = .slc (.new K) 0 els.length cap ∧ σ.get K = some (.cells rw0 opn) ∧ rw0.take (els.length * 1) = els.flatMap AVal.cells ∧ 0 ≤ K ∧ K < σ.next ∧ els.length ≤ rw0.length := by
  rcases h.row.2 with ⟨_, e⟩ | ⟨K, cap, rw0, opn, q1, q2, q3, q4, q5, q6⟩
  ·exact absurd e hne
  ·refine ⟨K, cap, rw0, opn, q1, q2, q3, q4, q5, ?_⟩
   rcases q6 with ⟨_, _, h1⟩ | ⟨c, _, h1, h2⟩ <;> omega
 obtain ⟨τ1, hτ1⟩ : ∃ τ1, τ1 = (σ.new (.cells z0 none)).set σ.next (.cells cs none) := ⟨_, rfl⟩
 have hn1 : τ1.next = σ.next + 1 := by rw [hτ1]; rfl
 have hk1 : Keep [] σ τ1 := by rw [hτ1]; exact (Keep.refl _ _).junk _ _
 have hgk : τ1.get k = some (.cells cs none) := by rw [hk1.get hkl]; exact hb
 have hgK : τ1.get K = some (.cells rw0 opn) := by rw [hk1.get r4]; exact r1
 have hgn : τ1.get σ.next = some (.cells cs none) := by rw [hτ1, Heap.get_set, if_pos rfl]
 have hfew := h.few
 have hel := h.len
 obtain ⟨x', τ2, g1, g2, g3, g4⟩ := own_app (bytes := 24) (y := .slc (.new K) 0 els.length cap) (ys := els) (Own.nil τ1.next τ1 t_ints 1) (Nat.le_refl _) rfl (by
  simp only [srcCells, slcCells, Nat.le_refl, if_true]
  rw [cellsFrom_get hgK _ _ (by omega), List.drop_zero, r2]) h.row.1 (by
   rw [lst_flat h.lst, List.all_eq_true]
   intro z hz
   obtain ⟨l, hl⟩ := h.lst z hz
   exact hl.cells.2.1) (by omega) (by omega) (by unfold maxRoom; simp; omega)
 rw [List.nil_append] at g2
 have hgn2 : τ2.get σ.next = some (.cells cs none) := by rw [g3.2.2.2 _ (by omega)]; exact hgn
 have hle : decide (122 + 1 ≤ cs.length) = true := by rw [hlen]; rfl
 obtain ⟨K', n', rfl⟩ : ∃ K' n', x' = .slc (.new K') 0 n' (.gr 1) := by
  rcases g2.2 with ⟨_, e⟩ | ⟨K', e, _⟩
  ·exact absurd e hne
  ·exact ⟨K', _, e⟩
 have hK' := g2.low rfl
 have hnek : (σ.next = k) = False := eq_false (by omega)
 have g1' := g1
 rw [hτ1] at g1'
 simp only [↓evd, evu, evf, implies_true, reduceCtorEq, Nat.reduceEqDiff, ↓reduceIte, Nat.reduceAdd, Nat.reduceLT, evz, ↓hld, hb, d1, d2, hcell, d3, hnek, hu, g1', hgn2, hle, hset]
 have hk2 : Keep [] σ τ2 := ⟨g3.1.trans hk1.1, g3.2.1.trans hk1.2.1, by have := g3.2.2.1; omega, fun q hq _ => by rw [g3.2.2.2 q (by omega)]; exact hk1.get hq⟩
 refine ⟨σ.next, _, rfl, ⟨P, .slc (.new K') 0 n' (.gr 1), els, ⟨by rw [Heap.get_set, if_pos rfl], ?_, ?_, h.len, h.lst, h.at_, h.has, h.gone, ?_, h.ok⟩, rfl⟩, ?_, hk2.set (.inr (Nat.le_refl _)) _⟩
 ·have h1 : Own 0 τ2 t_ints 1 (.slc (.new K') 0 n' (.gr 1)) els := ⟨g2.1, g2.2.imp id fun ⟨K, q1, q2, q3, q4⟩ => ⟨K, q1, q2, Nat.zero_le _, q4⟩⟩
  exact Own.row (Own.set h1 (fun K o n c e hk => by injection e with e1; injection e1 with e2; omega) _)
 ·intro K o n c e hk
  injection e with e1; injection e1 with e2; omega
 ·have := g3.2.2.1; simp only [Heap.set_next]; omega
 ·intro x hx
  simp only [uid, List.mem_cons, List.not_mem_nil, or_false] at hx
  omega
structure RefEAt (σ : Heap) (k : Nat) (E : Eng) (x : AVal) (kr : Nat) (fpr : List Nat) : Prop where
 blk : σ.get k = some (.cells [.ptr (.new kr) 0, x] none)
 lst : x = eAtoms E.l ∨ (x = .nils ∧ E.l = [])
 revs : IsRef σ kr E.R fpr
 low : k < σ.next
 off : k ∉ fpr
 ok : E.Ok
def IsRefE (σ : Heap) (k : Nat) (E : Eng) (fp : List Nat) : Prop := ∃ x kr fpr, RefEAt σ k E x kr fpr ∧ fp = k :: fpr
theorem RefEAt.sees {σ : Heap} {k : Nat} {E : Eng} {x : AVal} {kr : Nat} {fpr : List Nat} (h : RefEAt σ k E x kr fpr) (τ : Heap) : Sees τ x τ (eAtoms E.l) := by
 rcases h.lst with rfl | ⟨rfl, e⟩
 ·exact Sees.refl _ _
 ·rw [e]; exact Sees.nils τ 5
theorem IsRefE.keep {σ τ : Heap} {k : Nat} {E : Eng} {fp fp' : List Nat} (h : IsRefE σ k E fp) (hk : Keep fp' σ τ) (hd : ∀ x ∈ fp, x ∉ fp') : IsRefE τ k E fp := by
 obtain ⟨x, kr, fpr, h, rfl⟩ := h
 exact ⟨x, kr, fpr, ⟨by rw [hk.2.2.2 k h.low (hd k (by simp))]; exact h.blk, h.lst, h.revs.keep hk (fun y hy => hd y (List.mem_cons_of_mem _ hy)), Nat.lt_of_lt_of_le h.low hk.2.2.1, h.off, h.ok⟩, rfl⟩
theorem IsRefE.low {σ : Heap} {k : Nat} {E : Eng} {fp : List Nat} (h : IsRefE σ k E fp) : ∀ x ∈ fp, x < σ.next := by
 obtain ⟨x, kr, fpr, h, rfl⟩ := h
 intro y hy
 rcases List.mem_cons.1 hy with rfl | hy
 ·exact h.low
 ·exact h.revs.low y hy
theorem rnewE_at (σ : Heap) : MSpec Tryz.prog n_palinoderef20_New [] σ fun v τ => ∃ k fp, v = .ptr (.new k) 0 ∧ IsRefE τ k Eng.new fp ∧ (∀ x ∈ fp, σ.next ≤ x) ∧ Keep [] σ τ := by
 refine spec_of_awp mixed c_palinoderef20_New (Nat.le_of_ble_eq_true rfl) ?_
 unfold f_palinoderef20_New
 simp only [↓evd, evu, evf, implies_true, reduceCtorEq]
 refine (rnew_at σ).mono ?_
 rintro v τ ⟨rfl, ⟨fp, hR, hf⟩, hK⟩
 simp only [↓evd, evu, evf, implies_true, reduceCtorEq, ↓reduceIte, Nat.reduceAdd, Nat.reduceLeDiff]
 have hn := hK.2.2.1
 have hK2 : Keep [] τ (τ.new (.cells [.ptr (.new (σ.next + 1)) 0, .nils] none)) := (Keep.refl _ _).new _
 refine ⟨τ.next, _, rfl, ⟨.nils, σ.next + 1, fp, ⟨by rw [Heap.get_new, if_pos rfl], .inr ⟨rfl, rfl⟩, hR.keep hK2 (fun x _ => by simp), by simp, fun hm => by have := hR.low _ hm; omega, Eng.new_ok⟩, rfl⟩, ?_, hK.new _⟩
 intro x hx
 rcases List.mem_cons.1 hx with rfl | hx
 ·exact hn
 ·exact hf x hx
theorem rtextE_at {σ : Heap} {k : Nat} {E : Eng} {fp : List Nat} (h : IsRefE σ k E fp) (n : Int) : ACall Tryz.prog n_palinoderef20_Engine_Text [.ptr (.new k) 0, .int .i64 n] σ (.tup [.str (if E.R.live n then E.text n else []), .bool (E.R.live n)]) σ := by
 obtain ⟨x, kr, fpr, h, rfl⟩ := h
 obtain ⟨P, u, els, hR, _⟩ := h.revs
 refine exact_call (spec_of_awp mixed c_palinoderef20_Engine_Text (Nat.le_of_ble_eq_true rfl) ?_)
 unfold f_palinoderef20_Engine_Text
 have hb := h.blk
 have hlv := rlive_call hR n
 have hun := rundone_call hR n
 have huf := undone_few hR.ok n
 have htx := rtext_call σ E.l n (E.R.undone n) huf (h.ok.fits hR.ok)
 have hsee := h.sees σ
 simp only [↓evd, evu, evf, implies_true, reduceCtorEq, ↓reduceIte, Nat.reduceAdd, Nat.reduceLT, evz, hb]
 refine MSpec.of hlv ?_
 cases hl : E.R.live n
 ·simp only [↓evd, evu, evf, implies_true, reduceCtorEq, ↓reduceIte, Nat.reduceLT, evz]
 ·simp only [↓evd, evu, evf, implies_true, reduceCtorEq, ↓reduceIte]
  with_reducible refine draw_of_grow (fun _ => True) (ms := [false, false, false, false, false, false, false, false, false, false, false, false, false, false]) (by kernel_rfl) ?_
  simp only [↓evd, evu, evf, reduceCtorEq, ↓reduceIte, Nat.reduceLT, evz, hb]
  refine MSpec.of hun ⟨.inr Keeps.rfl, ?_⟩
  simp only [↓evd, evu, evf, ↓reduceIte, Nat.reduceLT, evz]
  refine mspec_seen (.cons hsee (.cons (Sees.refl _ _) (.cons (Sees.refl _ _) (.nil _)))) ?_
  refine MSpec.of htx ⟨.inr Keeps.rfl, ?_⟩
  simp only [↓evd, evu, evf, ↓reduceIte, Nat.reduceLT, evz]
  rfl
end Go.Proofs.YtioampofolilnaaGreat.M
set_option linter.unusedSimpArgs false
set_option linter.unusedVariables false
set_option maxRecDepth 100000
namespace Go.Proofs.YtioampofolilnaaGreat.M
open Go Go.Mini
attribute [local congr] go1_congr goM_congr goG_congr goV_congr drawwp_congr Xwp_congr
set_option maxHeartbeats 4000000 in
theorem redit_at {σ : Heap} {k : Nat} {E E' : Eng} {fp : List Nat} {base group rank n c : Int} {cs : List Chg} (h0 : IsRefE σ k E fp) (hcl : cs.length ≤ 1000000) (hc5 : ∀ c ∈ cs, c.text.length ≤ 5000) (e : editE E base group rank cs = (E', n, c)) :
  MSpec Tryz.prog n_palinoderef20_Engine_Edit [.ptr (.new k) 0, .int .i64 base, .int .i64 group, .int .i64 rank, eChgs cs] σ fun v τ => v = .tup [.int .i64 n, .int .i64 c] ∧ ∃ fp', IsRefE τ k E' fp' ∧ Keep fp σ τ ∧ Fresh fp σ fp' := by
 obtain ⟨x, kr, fpr, h, rfl⟩ := id h0
 refine spec_of_awp mixed c_palinoderef20_Engine_Edit (Nat.le_of_ble_eq_true rfl) ?_
 unfold f_palinoderef20_Engine_Edit
 have hroom : maxRoom = 68719476736 := rfl
 have hc' : ∀ c ∈ cs, ChgFits c := fun c h => by have := hc5 c h; unfold ChgFits; omega
 have hRok := h.revs.ok
 have htx := rtextE_at h0 base
 have same : ∀ {τ : Heap} {n0 c0 : Int}, Keep [] σ τ → (E, n0, c0) = (E', n, c) → AVal.tup [.int .i64 n0, .int .i64 c0] = AVal.tup [.int .i64 n, .int .i64 c] ∧ ∃ fp', IsRefE τ k E' fp' ∧ Keep (k :: fpr) σ τ ∧ Fresh (k :: fpr) σ fp' := by
  intro τ n0 c0 hk he
  cases he
  exact ⟨rfl, _, h0.keep hk (fun x _ => by simp), hk.mono (fun x hx => nomatch hx), fun x hx => .inl hx⟩
 rw [editE] at e
 cases hl : E.R.live base
 ·rw [if_pos hl] at e
  rw [hl] at htx
  simp only [↓evd, evu, evf, implies_true, reduceCtorEq, ↓reduceIte, Nat.reduceAdd, Nat.reduceLT, evz]
  refine MSpec.of htx ?_
  simp only [↓evd, evu, evf, implies_true, reduceCtorEq, Nat.reduceEqDiff, ↓reduceIte, Nat.reduceLT, evz]
  exact (same (Keep.refl _ _) e)
 rw [if_neg (by rw [hl]; simp)] at e
 rw [hl] at htx
 simp only [if_true] at htx
 have htl : (E.text base).length ≤ maxRoom := by
  have := atomsText_len base (E.R.undone base) E.l
  have := (h.ok.fits hRok).2.2
  simp only [Eng.text]; omega
 have hck := rcheck_call σ (E.text base) cs htl (by omega) hc'
 simp only [↓evd, evu, evf, implies_true, reduceCtorEq, ↓reduceIte, Nat.reduceAdd, Nat.reduceLT, evz]
 refine MSpec.of htx ?_
 simp only [↓evd, evu, evf, implies_true, reduceCtorEq, Nat.reduceEqDiff, ↓reduceIte, Nat.reduceLT, evz]
 refine MSpec.of hck ?_
 by_cases hc0 : check (E.text base) cs = 0
 case neg =>
  rw [if_pos hc0] at e
  have hb : (check (E.text base) cs != 0) = true := by simpa using hc0
  simp only [↓evd, evu, evf, implies_true, reduceCtorEq, Nat.reduceEqDiff, ↓reduceIte, Nat.reduceLT, evz, hb]
  exact (same (Keep.refl _ _) e)
 rw [if_neg (by simpa using hc0)] at e
 have hb : (check (E.text base) cs != 0) = false := by simpa using hc0
 have hbk := h.blk
 simp only [↓evd, evu, evf, implies_true, reduceCtorEq, ↓reduceIte, Nat.reduceLT, evz, hb, hbk]
 refine (rrcopy_at h.revs).mono ?_
 rintro v τ ⟨kr2, fp2, rfl, hR2, hf2, hK⟩
 rcases had : addR E.R group with ⟨R', now, c1⟩
 have hadd := radd_at hR2 had
 simp only [↓evd, evu, evf, implies_true, reduceCtorEq, Nat.reduceEqDiff, ↓reduceIte, Nat.reduceLT, evz]
 refine hadd.mono ?_
 rintro v τ1 ⟨rfl, fp3, hR3, hK3, hF3⟩
 have hf3 : ∀ x ∈ fp3, σ.next ≤ x := fun x hx => by
  rcases hF3 x hx with h | h
  ·exact hf2 x h
  ·have := hK.2.2.1; omega
 have hK1 : Keep [] σ τ1 := hK.trans hK3 (fun x hx => .inr (hf2 x hx))
 rw [had] at e
 simp only at e
 by_cases h1 : c1 = 0
 case neg =>
  rw [if_pos h1] at e
  have hb1 : (c1 != 0) = true := by simpa using h1
  simp only [↓evd, evu, evf, implies_true, reduceCtorEq, Nat.reduceEqDiff, ↓reduceIte, Nat.reduceLT, evz, hb1]
  exact (same hK1 e)
 rw [if_neg (by simpa using h1)] at e
 subst h1
 obtain ⟨a1, a2, a3, a4, a5, a6⟩ := addR_ok (by rw [had]) hRok
 rw [had] at a5 a6
 have hnow : now = (E.R.head : Int) + 1 := by have := congrArg (fun q => q.2.1) a5; exact this
 have hhd : R'.head = E.R.head + 1 := a6
 have hb1 : ((0 : Int) != 0) = false := rfl
 by_cases h2 : rank < 0 ∨ 1000000 < rank
 ·rw [if_pos h2] at e
  rcases h2 with h2 | h2
  ·simp only [↓evd, evu, evf, implies_true, reduceCtorEq, Nat.reduceEqDiff, ↓reduceIte, Nat.reduceLT, evz, hb1, h2]
   exact (same hK1 e)
  ·have h3 : ¬ rank < 0 := by omega
   simp only [↓evd, evu, evf, implies_true, reduceCtorEq, Nat.reduceEqDiff, ↓reduceIte, Nat.reduceLT, evz, hb1, h2, h3]
   exact (same hK1 e)
 rw [if_neg h2] at e
 have h3 : ¬ rank < 0 := by omega
 have h4 : ¬ 1000000 < rank := by omega
 have hE1 := h0.keep hK1 (fun x _ => by simp)
 have hbk1 : τ1.get k = some (.cells [.ptr (.new kr) 0, x] none) := by rw [hK1.get h.low]; exact h.blk
 have hrv1 := h.revs.keep hK1 (fun x _ => by simp)
 obtain ⟨P, u, els, hRA, _⟩ := hrv1
 have hun := rundone_call hRA base
 have huf := undone_few hRok base
 have hhead := head_le hRok
 have hup := rupon_call τ1 E.l base (E.R.undone base) cs now group rank huf (h.ok.fits hRok) (by have := h.ok.len; omega) (fun a ha => by have := h.ok.cuts a ha; omega) hc5 hc0
 obtain ⟨f1, f2⟩ := upon_facts h.ok (base := base) (group := group) (rank := rank) (now := now) (cs := cs) (u := E.R.undone base)
 have hok' : (editE E base group rank cs).1.Ok := editE_ok h.ok hRok base group rank cs
 rw [editE, if_neg (by rw [hl]; simp), if_neg (by simpa using hc0), had] at hok'
 simp only at hok'
 rw [if_neg (by simp), if_neg h2] at hok'
 have hupl : aLen (eAtoms (upon E.l base (E.R.undone base) cs now group rank)) = some (.int .i64 ((upon E.l base (E.R.undone base) cs now group rank).length : Nat)) := by simp [eAtoms, aLen_fsl]
 generalize upon E.l base (E.R.undone base) cs now group rank = l' at e hup f1 f2 hok' hupl
 have hsee := h.sees τ1
 simp only [ints, eChgs] at hun hup
 simp only [↓evd, evu, evf, implies_true, reduceCtorEq, Nat.reduceEqDiff, ↓reduceIte, Nat.reduceLT, evz, hb1, h3, h4]
 with_reducible refine draw_of_grow (fun _ => True) (ms := [false, false, false, false, false, false, false, false, false, false, false, false, false, false, false, false, false]) (by kernel_rfl) ?_
 simp only [↓evd, evu, evf, reduceCtorEq, ↓reduceIte, Nat.reduceLT, evz, hbk1]
 refine MSpec.of hun ⟨.inr Keeps.rfl, ?_⟩
 simp only [↓evd, evu, evf, reduceCtorEq, Nat.reduceEqDiff, ↓reduceIte, Nat.reduceLT, evz]
 refine mspec_seen (.cons hsee (.cons (Sees.refl _ _) (.cons (Sees.refl _ _) (.cons (Sees.refl _ _) (.cons (Sees.refl _ _) (.cons (Sees.refl _ _) (.cons (Sees.refl _ _) (.nil _)))))))) ?_
 refine MSpec.of hup ⟨.inr Keeps.rfl, ?_⟩
 by_cases h5 : 4000 < l'.length
 ·rw [if_pos h5] at e
  have h5' : (4000 : Int) < (l'.length : Int) := by omega
  simp only [↓evd, evu, evf, implies_true, reduceCtorEq, ↓reduceIte, Nat.reduceLT, evz, h5']
  exact (same hK1 e)
 rw [if_neg h5] at e hok'
 have h5' : ¬ (4000 : Int) < (l'.length : Int) := by omega
 obtain ⟨P3, u3, els3, hRA3, hfp3⟩ := id hR3
 have hun3 := rundone_call hRA3 now
 have hR3ok := hR3.ok
 have huf3 := undone_few hR3ok now
 have hfit : Fits l' := fits_of (n := 201) (by omega) f1 (fun a ha => by have := f2 a ha; omega) (by omega)
 have htx3 := rtext_call τ1 l' now (R'.undone now) huf3 hfit
 have hnn : ((R'.head : Nat) : Int) = now := by rw [hhd, hnow]; rfl
 simp only [Eng.text, hnn] at e hok'
 generalize atomsText now (R'.undone now) l' = t at e htx3 hok'
 simp only [ints, eAtoms] at hun3 htx3
 simp only [↓evd, evu, evf, implies_true, reduceCtorEq, Nat.reduceEqDiff, ↓reduceIte, Nat.reduceLT, evz, h5']
 refine MSpec.of hun3 ?_
 simp only [↓evd, evu, ↓reduceIte, Nat.reduceLT, evz]
 refine MSpec.of htx3 ?_
 by_cases h6 : 20000 < t.length
 ·rw [if_pos h6] at e
  have h6' : (20000 : Int) < (t.length : Int) := by omega
  simp only [↓evd, evu, evf, implies_true, reduceCtorEq, ↓reduceIte, Nat.reduceLT, evz, h6']
  exact (same hK1 e)
 rw [if_neg h6] at e hok'
 have h6' : ¬ (20000 : Int) < (t.length : Int) := by omega
 cases e
 simp only [↓evd, evu, evf, implies_true, reduceCtorEq, Nat.reduceEqDiff, ↓reduceIte, Nat.reduceAdd, Nat.reduceLeDiff, Nat.reduceLT, evz, h6', hbk1]
 have hks := (((Keep.refl [k] τ1).set (j := k) (.inl (by simp)) (.cells [.ptr (.new kr2) 0, x] none)).set (j := k) (.inl (by simp)) (.cells [.ptr (.new kr2) 0, .fsl 5 (l'.map eAtom)] none))
 have hkn : ∀ y ∈ fp3, y ∉ [k] := fun y hy hm => by
  have := hf3 y hy
  have := h.low
  rw [List.mem_singleton] at hm; omega
 refine ⟨k :: fp3, ⟨eAtoms l', kr2, fp3, ⟨by rw [Heap.get_set, if_pos rfl]; rfl, .inl rfl, hR3.keep hks hkn, Nat.lt_of_lt_of_le h.low (by simpa using hK1.2.2.1), fun hm => hkn k hm (by simp), hok'⟩, rfl⟩, ?_, ?_⟩
 ·exact ((hK1.mono (fun x hx => nomatch hx)).set (.inl (by simp)) _).set (.inl (by simp)) _
 ·intro y hy
  rcases List.mem_cons.1 hy with rfl | hy
  ·exact .inl (by simp)
  ·exact .inr (hf3 y hy)
set_option maxHeartbeats 4000000 in
theorem rtoggleE_at {σ : Heap} {k : Nat} {E E' : Eng} {fp : List Nat} {g n c : Int} (h0 : IsRefE σ k E fp) (e : toggleE E g = (E', n, c)) :
  MSpec Tryz.prog n_palinoderef20_Engine_Toggle [.ptr (.new k) 0, .int .i64 g] σ fun v τ => v = .tup [.int .i64 n, .int .i64 c] ∧ ∃ fp', IsRefE τ k E' fp' ∧ Keep fp σ τ ∧ Fresh fp σ fp' := by
 obtain ⟨x, kr, fpr, h, rfl⟩ := id h0
 refine spec_of_awp mixed c_palinoderef20_Engine_Toggle (Nat.le_of_ble_eq_true rfl) ?_
 unfold f_palinoderef20_Engine_Toggle
 have hRok := h.revs.ok
 have same : ∀ {τ : Heap} {n0 c0 : Int}, Keep [] σ τ → (E, n0, c0) = (E', n, c) → AVal.tup [.int .i64 n0, .int .i64 c0] = AVal.tup [.int .i64 n, .int .i64 c] ∧ ∃ fp', IsRefE τ k E' fp' ∧ Keep (k :: fpr) σ τ ∧ Fresh (k :: fpr) σ fp' := by
  intro τ n0 c0 hk he
  cases he
  exact ⟨rfl, _, h0.keep hk (fun x _ => by simp), hk.mono (fun x hx => nomatch hx), fun x hx => .inl hx⟩
 have hok' : (toggleE E g).1.Ok := toggleE_ok h.ok hRok g
 rw [toggleE] at e hok'
 have hbk := h.blk
 simp only [↓evd, evu, evf, implies_true, reduceCtorEq, ↓reduceIte, Nat.reduceAdd, Nat.reduceLT, evz, hbk]
 refine (rrcopy_at h.revs).mono ?_
 rintro v τ ⟨kr2, fp2, rfl, hR2, hf2, hK⟩
 rcases had : toggleR E.R g with ⟨R', now, c1⟩
 have hadd := rtoggle_at hR2 had
 simp only [↓evd, evu, evf, implies_true, reduceCtorEq, ↓reduceIte, Nat.reduceLT, evz]
 refine hadd.mono ?_
 rintro v τ1 ⟨rfl, fp3, hR3, hK3, hF3⟩
 have hf3 : ∀ x ∈ fp3, σ.next ≤ x := fun x hx => by
  rcases hF3 x hx with h | h
  ·exact hf2 x h
  ·have := hK.2.2.1; omega
 have hK1 : Keep [] σ τ1 := hK.trans hK3 (fun x hx => .inr (hf2 x hx))
 rw [had] at e hok'
 simp only at e hok'
 by_cases h1 : c1 = 0
 case neg =>
  rw [if_pos h1] at e
  have hb1 : (c1 != 0) = true := by simpa using h1
  simp only [↓evd, evu, evf, implies_true, reduceCtorEq, Nat.reduceEqDiff, ↓reduceIte, Nat.reduceLT, evz, hb1]
  exact (same hK1 e)
 rw [if_neg (by simpa using h1)] at e hok'
 subst h1
 obtain ⟨a1, a4, a5, a6⟩ := toggleR_ok (by rw [had]) hRok
 rw [had] at a5 a6
 have hnow : now = (E.R.head : Int) + 1 := by have := congrArg (fun q => q.2.1) a5; exact this
 have hhd : R'.head = E.R.head + 1 := a6
 have hb1 : ((0 : Int) != 0) = false := rfl
 have hbk1 : τ1.get k = some (.cells [.ptr (.new kr) 0, x] none) := by rw [hK1.get h.low]; exact h.blk
 obtain ⟨P3, u3, els3, hRA3, hfp3⟩ := id hR3
 have hun3 := rundone_call hRA3 now
 have huf3 := undone_few hR3.ok now
 have htx3 := rtext_call τ1 E.l now (R'.undone now) huf3 (h.ok.fits hRok)
 have hnn : ((R'.head : Nat) : Int) = now := by rw [hhd, hnow]; rfl
 simp only [Eng.text, hnn] at e hok'
 generalize atomsText now (R'.undone now) E.l = t at e htx3 hok'
 have hsee := h.sees τ1
 simp only [ints] at hun3 htx3
 simp only [↓evd, evu, evf, implies_true, reduceCtorEq, Nat.reduceEqDiff, ↓reduceIte, Nat.reduceLT, evz, hb1]
 with_reducible refine draw_of_grow (fun _ => True) (ms := [false, false, false, false, false, false, false, false, false, false, false]) (by kernel_rfl) ?_
 simp only [↓evd, evu, evf, ↓reduceIte, Nat.reduceLT, evz, hbk1]
 refine MSpec.of hun3 ⟨.inr Keeps.rfl, ?_⟩
 simp only [↓evd, evu, evf, ↓reduceIte, Nat.reduceLT, evz]
 refine mspec_seen (.cons hsee (.cons (Sees.refl _ _) (.cons (Sees.refl _ _) (.nil _)))) ?_
 refine MSpec.of htx3 ⟨.inr Keeps.rfl, ?_⟩
 by_cases h6 : 20000 < t.length
 ·rw [if_pos h6] at e
  have h6' : (20000 : Int) < (t.length : Int) := by omega
  simp only [↓evd, evu, evf, implies_true, reduceCtorEq, ↓reduceIte, Nat.reduceLT, evz, h6']
  exact (same hK1 e)
 rw [if_neg h6] at e hok'
 have h6' : ¬ (20000 : Int) < (t.length : Int) := by omega
 cases e
 simp only [↓evd, evu, evf, implies_true, reduceCtorEq, ↓reduceIte, Nat.reduceAdd, Nat.reduceLeDiff, Nat.reduceLT, evz, h6', hbk1]
 have hks := ((Keep.refl [k] τ1).set (j := k) (.inl (by simp)) (.cells [.ptr (.new kr2) 0, x] none))
 have hkn : ∀ y ∈ fp3, y ∉ [k] := fun y hy hm => by
  have := hf3 y hy
  have := h.low
  rw [List.mem_singleton] at hm; omega
 refine ⟨k :: fp3, ⟨x, kr2, fp3, ⟨by rw [Heap.get_set, if_pos rfl], h.lst, hR3.keep hks hkn, Nat.lt_of_lt_of_le h.low (by simpa using hK1.2.2.1), fun hm => hkn k hm (by simp), hok'⟩, rfl⟩, ?_, ?_⟩
 ·exact (hK1.mono (fun x hx => nomatch hx)).set (.inl (by simp)) _
 ·intro y hy
  rcases List.mem_cons.1 hy with rfl | hy
  ·exact .inl (by simp)
  ·exact .inr (hf3 y hy)
end Go.Proofs.YtioampofolilnaaGreat.M
set_option linter.unusedSimpArgs false
set_option linter.unusedVariables false
set_option maxRecDepth 100000
namespace Go.Proofs.YtioampofolilnaaGreat.M
open Go Go.Mini
attribute [local congr] go1_congr goM_congr goG_congr goV_congr drawwp_congr Xwp_congr
/-! ### What the reference leaves of an atom -/
def leftA (gs u : List Int) (a : Atom) : Atom × Bool :=
 if a.group ∈ gs ∧ a.group ∈ u then (a, false) else
 if (a.cuts.any fun c => staysG gs u c.group) = true then ({ a with group := if a.group ∈ gs then -1 else a.group }, false) else
 ({ a with cuts := a.cuts.filter (fun c => !goneG gs u c.group), group := if a.group ∈ gs then -1 else a.group }, true)
theorem leftA_rest (gs u : List Int) (a : Atom) : restA gs u a = if (leftA gs u a).2 then some (leftA gs u a).1 else none := by
 unfold restA leftA
 by_cases h : a.group ∈ gs ∧ a.group ∈ u
 ·rw [if_pos h, if_pos (by simp [goneG, h.1, h.2])]; rfl
 ·have hg : goneG gs u a.group = false := by
   simp only [goneG]
   by_cases h1 : a.group ∈ gs
   ·have h2 : a.group ∉ u := fun h2 => h ⟨h1, h2⟩
    simp [h1, h2]
   ·simp [h1]
  rw [if_neg h, hg, Bool.false_or]
  by_cases hs : (a.cuts.any fun c => staysG gs u c.group) = true
  ·rw [if_pos hs, if_pos hs]; rfl
  ·rw [if_neg hs, if_neg hs]; rfl
set_option maxHeartbeats 4000000 in
theorem rleft_call (σ : Heap) (a : Atom) (gs u : List Int) (hg : gs.length ≤ 1000000) (hu : u.length ≤ 1000000) (hc : a.cuts.length ≤ 1000000) :
  ACall Tryz.prog n_palinoderef20_left [eAtom a, ints gs, ints u] σ (.tup [eAtom (leftA gs u a).1, .bool (leftA gs u a).2]) σ := by
 refine bare_call (by simp only [AVal.pures, ints_pure, eAtom_pure]; rfl) (by simp only [AVal.pure, AVal.pures, eAtom_pure]; rfl) (fun W F => spec_of_awp mixed c_palinoderef20_left (Nat.le_of_ble_eq_true rfl) ?_) σ
 unfold f_palinoderef20_left
 have hin := fun (τ : Heap) (g : Int) => in_call τ gs g hg
 have hinu := fun (τ : Heap) (g : Int) => in_call τ u g hu
 simp only [ints] at hin hinu
 obtain ⟨a1, ha1⟩ : ∃ a1 : Atom, a1 = { a with group := if a.group ∈ gs then -1 else a.group } := ⟨_, rfl⟩
 have b1 : a1.cuts = a.cuts := by rw [ha1]
 have b2 : a1.text = a.text := by rw [ha1]
 have b3 : a1.rev = a.rev := by rw [ha1]
 have b4 : a1.rank = a.rank := by rw [ha1]
 simp only [↓evd, evu, evf, implies_true, reduceCtorEq, ↓reduceIte, Nat.reduceAdd, Nat.reduceLT, evz, eAtom]
 refine MSpec.of (hin _ _) ?_
 by_cases h1 : a.group ∈ gs ∧ a.group ∈ u
 ·simp only [↓evd, evu, evf, implies_true, reduceCtorEq, Nat.reduceEqDiff, ↓reduceIte, Nat.reduceLT, evz, mem_bool h1.1]
  refine MSpec.of (hinu _ _) ?_
  simp only [↓evd, evu, evf, implies_true, reduceCtorEq, ↓reduceIte, Nat.reduceAdd, Nat.reduceLT, evz, mem_bool h1.2]
  exact seen (by rw [leftA, if_pos h1]) rfl rfl
 by_cases h2 : a.group ∈ gs
 ·have h3 : a.group ∉ u := fun h => h1 ⟨h2, h⟩
  simp only [↓evd, evu, evf, implies_true, reduceCtorEq, Nat.reduceEqDiff, ↓reduceIte, Nat.reduceLT, evz, mem_bool h2]
  refine MSpec.of (hinu _ _) ?_
  simp only [↓evd, evu, evf, implies_true, reduceCtorEq, ↓reduceIte, Nat.reduceAdd, Nat.reduceLeDiff, Nat.reduceLT, evz, not_mem_bool h3]
  refine awp_loop (fun m fr τ => ∃ (i : Nat), m + i = a.cuts.length ∧ fr.get 1 = ints gs ∧ fr.get 2 = ints u ∧ fr.get 3 = .ptr (.new 0) 0 ∧ fr.get 6 = .ptr (.new 1) 0 ∧ fr.get 7 = .bool false ∧ fr.get 9 = .int .i64 (i : Nat) ∧ ((a.cuts.take i).any fun c => staysG gs u c.group) = false ∧ Own 2 τ t_Cut 2 (fr.get 8) (((a.cuts.take i).filter (fun c => !goneG gs u c.group)).map eCut) ∧ τ.get 0 = some (.cells [.str a.text, .int .i64 a.rev, .int .i64 (-1), .int .i64 a.rank, .fsl 2 (a.cuts.map eCut)] none) ∧ τ.get 1 = some (.cells [.str [], .int .i64 0, .int .i64 0, .int .i64 0, .nils] none) ∧ 2 ≤ τ.next ∧ τ.W = W ∧ τ.F0 = F) ?_ (m := a.cuts.length) ?_
  ·rintro m fr τ ⟨i, hi, e1, e2, e3, e6, e7, e9, hst, hO, q0, q1, hn, hW, hF⟩
   generalize hx : fr.get 8 = x at hO
   by_cases hlt : i < a.cuts.length
   ·have hlt' : (i : Int) < (a.cuts.length : Int) := by omega
    have hw := wrap_succ (i := i) (by omega)
    have hgc := map_get eCut a.cuts i hlt
    have htk := List.take_succ_eq_append_getElem hlt
    have hmem := List.getElem_mem hlt
    generalize a.cuts[i] = c at hgc htk hmem
    have n0 : (τ.next = 0) = False := eq_false (by omega)
    have n1 : (τ.next = 1) = False := eq_false (by omega)
    have hO2 : Own 2 ((τ.new (.cells [.int .i64 0, .int .i64 0] none)).set τ.next (.cells [.int .i64 c.rev, .int .i64 c.group] none)) t_Cut 2 x (((a.cuts.take i).filter (fun c => !goneG gs u c.group)).map eCut) := Own.var2 hO _ _
    have hfl : ((a.cuts.take i).filter (fun c => !goneG gs u c.group)).length ≤ 1000000 := by
     have := List.length_filter_le (fun c : Cut => !goneG gs u c.group) (a.cuts.take i)
     rw [List.length_take] at this; omega
    obtain ⟨x', σ', g1, g2, g3, g4, g5, g6, g7⟩ := own_cut hO2 (by simp; omega) hfl c
    simp only [Heap.set_next, Heap.new_next] at g1 g5 g6
    have k0 : σ'.get 0 = some (.cells [.str a.text, .int .i64 a.rev, .int .i64 (-1), .int .i64 a.rank, .fsl 2 (a.cuts.map eCut)] none) := by
     rw [g6 0 (by omega) (fun hm => by have := (own_low hO 0 hm).1; omega), Heap.get_set, if_neg (by omega), Heap.get_new, if_neg (by omega)]; exact q0
    have k1 : σ'.get 1 = some (.cells [.str [], .int .i64 0, .int .i64 0, .int .i64 0, .nils] none) := by
     rw [g6 1 (by omega) (fun hm => by have := (own_low hO 1 hm).1; omega), Heap.get_set, if_neg (by omega), Heap.get_new, if_neg (by omega)]; exact q1
    simp only [↓evd, evu, evf, implies_true, reduceCtorEq, Nat.reduceEqDiff, ↓reduceIte, Nat.reduceAdd, Nat.reduceLT, evz, e1, e3, e9, q0, hlt', hgc, eCut]
    refine MSpec.of (hin _ _) ?_
    by_cases m1 : c.group ∈ gs
    ·simp only [↓evd, evu, evf, implies_true, reduceCtorEq, ↓reduceIte, Nat.reduceLT, evz, e2, mem_bool m1]
     refine MSpec.of (hinu _ _) ?_
     by_cases m2 : c.group ∈ u
     ·simp only [↓evd, evu, evf, implies_true, reduceCtorEq, ↓reduceIte, Nat.reduceLeDiff, Nat.reduceLT, evz, e1, e2, e3, e6, e7, e9, hx, mem_bool m2, hw]
      refine ⟨m - 1, by omega, i + 1, by omega, rfl, ?_, ?_, ?_⟩
      ·rw [htk, List.any_append, hst]; simp [staysG, m1, m2]
      ·rw [htk, List.filter_append, List.filter_cons]
       have : (!goneG gs u c.group) = false := by simp [goneG, m1, m2]
       rw [this]
       simpa using hO2
      ·exact ⟨by rw [if_neg (by omega), if_neg (by omega)]; exact q0, by rw [if_neg (by omega), if_neg (by omega)]; exact q1, by omega, hW, hF⟩
     ·have hany : (a.cuts.any fun c => staysG gs u c.group) = true := List.any_eq_true.2 ⟨c, hmem, by simp [staysG, m1, m2]⟩
      simp only [↓evd, evu, evf, implies_true, reduceCtorEq, ↓reduceIte, Nat.reduceAdd, Nat.reduceLT, evz, e3, e6, not_mem_bool m2, q0, q1, n0, n1]
      refine seen ?_ hW hF
      rw [leftA, if_neg h1, if_pos hany]
      rw [if_pos h2]
    ·simp only [↓evd, evu, evf, implies_true, reduceCtorEq, Nat.reduceEqDiff, ↓reduceIte, Nat.reduceAdd, Nat.reduceLT, evz, e1, e2, e3, e6, e7, e9, hx, not_mem_bool m1, g1, hw]
     refine ⟨m - 1, by omega, i + 1, by omega, rfl, ?_, ?_, ?_⟩
     ·rw [htk, List.any_append, hst]; simp [staysG, m1]
     ·rw [htk, List.filter_append, List.filter_cons]
      have : (!goneG gs u c.group) = true := by simp [goneG, m1]
      rw [this]
      exact g2
     ·exact ⟨k0, k1, by omega, g3.trans hW, g4.trans hF⟩
   ·have hlt' : ¬ (i : Int) < (a.cuts.length : Int) := by omega
    rw [List.take_of_length_le (by omega)] at hO hst
    obtain ⟨τ3, s1, d1⟩ := Own.sees2 hO
    have hL : leftA gs u a = ({ a with cuts := a.cuts.filter (fun c => !goneG gs u c.group), group := (-1) }, true) := by
     rw [leftA, if_neg h1, if_neg (by rw [hst]; simp)]
     rw [if_pos h2]
    rw [hL]
    have fin : ∀ ρ : Heap, Own 2 ρ t_Cut 2 x ((a.cuts.filter (fun c => !goneG gs u c.group)).map eCut) → ρ.W = W → ρ.F0 = F → ∃ τ', Sees ρ (.tup [.agg [.str a.text, .int .i64 a.rev, .int .i64 (-1), .int .i64 a.rank, x], .bool true]) τ' (.tup [.agg [.str a.text, .int .i64 a.rev, .int .i64 (-1), .int .i64 a.rank, .fsl 2 ((a.cuts.filter (fun c => !goneG gs u c.group)).map eCut)], .bool true]) ∧ τ'.W = W ∧ τ'.F0 = F := by
     intro ρ ho hw1 hf1
     obtain ⟨τ4, s2, d2⟩ := Own.sees2 ho
     refine ⟨τ4, SeesL.tup (.cons (SeesL.agg (.cons (Sees.refl _ _) (.cons (Sees.refl _ _) (.cons (Sees.refl _ _) (.cons (Sees.refl _ _) (.cons s2 (.nil _))))))) (.cons (Sees.refl _ _) (.nil _))), ?_⟩
     rcases d2 with rfl | ⟨K, _, rfl, hK2⟩ <;> exact ⟨hw1, hf1⟩
    have hset : ∀ (j : Nat) (b : ABlk) (ρ : Heap), j < 2 → Own 2 ρ t_Cut 2 x ((a.cuts.filter (fun c => !goneG gs u c.group)).map eCut) → Own 2 (ρ.set j b) t_Cut 2 x ((a.cuts.filter (fun c => !goneG gs u c.group)).map eCut) := fun j b ρ hj ho =>
     Own.set ho (fun K o n c e hk => by have := (ho.low e).1; omega) _
    rcases (show x = .nils ∨ ∃ K n, x = .slc (.new K) 0 n (.gr 2) from by
     rcases hO.2 with ⟨h, _⟩ | ⟨K, h, _⟩
     ·exact .inl h
     ·exact .inr ⟨K, _, h⟩) with rfl | ⟨K, n, rfl⟩
    all_goals
     simp only [↓evd, evu, evf, implies_true, reduceCtorEq, ↓reduceIte, Nat.reduceAdd, Nat.reduceLT, evz, e3, e6, e9, hx, q0, q1, hlt']
     exact fin _ (hset _ _ _ (by omega) (hset _ _ _ (by omega) hO)) hW hF
  ·refine ⟨0, by omega, ?_⟩
   simp only [evu, reduceCtorEq, Nat.reduceEqDiff, ↓reduceIte, Nat.reduceAdd, Nat.reduceLT, evz]
   exact ⟨rfl, Own.nil _ _ _ _⟩
 ·simp only [↓evd, evu, evf, implies_true, reduceCtorEq, ↓reduceIte, not_mem_bool h2]
  refine awp_loop (fun m fr τ => ∃ (i : Nat), m + i = a.cuts.length ∧ fr.get 1 = ints gs ∧ fr.get 2 = ints u ∧ fr.get 3 = .ptr (.new 0) 0 ∧ fr.get 6 = .ptr (.new 1) 0 ∧ fr.get 7 = .bool false ∧ fr.get 9 = .int .i64 (i : Nat) ∧ ((a.cuts.take i).any fun c => staysG gs u c.group) = false ∧ Own 2 τ t_Cut 2 (fr.get 8) (((a.cuts.take i).filter (fun c => !goneG gs u c.group)).map eCut) ∧ τ.get 0 = some (.cells [.str a.text, .int .i64 a.rev, .int .i64 a.group, .int .i64 a.rank, .fsl 2 (a.cuts.map eCut)] none) ∧ τ.get 1 = some (.cells [.str [], .int .i64 0, .int .i64 0, .int .i64 0, .nils] none) ∧ 2 ≤ τ.next ∧ τ.W = W ∧ τ.F0 = F) ?_ (m := a.cuts.length) ?_
  ·rintro m fr τ ⟨i, hi, e1, e2, e3, e6, e7, e9, hst, hO, q0, q1, hn, hW, hF⟩
   generalize hx : fr.get 8 = x at hO
   by_cases hlt : i < a.cuts.length
   ·have hlt' : (i : Int) < (a.cuts.length : Int) := by omega
    have hw := wrap_succ (i := i) (by omega)
    have hgc := map_get eCut a.cuts i hlt
    have htk := List.take_succ_eq_append_getElem hlt
    have hmem := List.getElem_mem hlt
    generalize a.cuts[i] = c at hgc htk hmem
    have n0 : (τ.next = 0) = False := eq_false (by omega)
    have n1 : (τ.next = 1) = False := eq_false (by omega)
    have hO2 : Own 2 ((τ.new (.cells [.int .i64 0, .int .i64 0] none)).set τ.next (.cells [.int .i64 c.rev, .int .i64 c.group] none)) t_Cut 2 x (((a.cuts.take i).filter (fun c => !goneG gs u c.group)).map eCut) := Own.var2 hO _ _
    have hfl : ((a.cuts.take i).filter (fun c => !goneG gs u c.group)).length ≤ 1000000 := by
     have := List.length_filter_le (fun c : Cut => !goneG gs u c.group) (a.cuts.take i)
     rw [List.length_take] at this; omega
    obtain ⟨x', σ', g1, g2, g3, g4, g5, g6, g7⟩ := own_cut hO2 (by simp; omega) hfl c
    simp only [Heap.set_next, Heap.new_next] at g1 g5 g6
    have k0 : σ'.get 0 = some (.cells [.str a.text, .int .i64 a.rev, .int .i64 a.group, .int .i64 a.rank, .fsl 2 (a.cuts.map eCut)] none) := by
     rw [g6 0 (by omega) (fun hm => by have := (own_low hO 0 hm).1; omega), Heap.get_set, if_neg (by omega), Heap.get_new, if_neg (by omega)]; exact q0
    have k1 : σ'.get 1 = some (.cells [.str [], .int .i64 0, .int .i64 0, .int .i64 0, .nils] none) := by
     rw [g6 1 (by omega) (fun hm => by have := (own_low hO 1 hm).1; omega), Heap.get_set, if_neg (by omega), Heap.get_new, if_neg (by omega)]; exact q1
    simp only [↓evd, evu, evf, implies_true, reduceCtorEq, Nat.reduceEqDiff, ↓reduceIte, Nat.reduceAdd, Nat.reduceLT, evz, e1, e3, e9, q0, hlt', hgc, eCut]
    refine MSpec.of (hin _ _) ?_
    by_cases m1 : c.group ∈ gs
    ·simp only [↓evd, evu, evf, implies_true, reduceCtorEq, ↓reduceIte, Nat.reduceLT, evz, e2, mem_bool m1]
     refine MSpec.of (hinu _ _) ?_
     by_cases m2 : c.group ∈ u
     ·simp only [↓evd, evu, evf, implies_true, reduceCtorEq, ↓reduceIte, Nat.reduceLeDiff, Nat.reduceLT, evz, e1, e2, e3, e6, e7, e9, hx, mem_bool m2, hw]
      refine ⟨m - 1, by omega, i + 1, by omega, rfl, ?_, ?_, ?_⟩
      ·rw [htk, List.any_append, hst]; simp [staysG, m1, m2]
      ·rw [htk, List.filter_append, List.filter_cons]
       have : (!goneG gs u c.group) = false := by simp [goneG, m1, m2]
       rw [this]
       simpa using hO2
      ·exact ⟨by rw [if_neg (by omega), if_neg (by omega)]; exact q0, by rw [if_neg (by omega), if_neg (by omega)]; exact q1, by omega, hW, hF⟩
     ·have hany : (a.cuts.any fun c => staysG gs u c.group) = true := List.any_eq_true.2 ⟨c, hmem, by simp [staysG, m1, m2]⟩
      simp only [↓evd, evu, evf, implies_true, reduceCtorEq, ↓reduceIte, Nat.reduceAdd, Nat.reduceLT, evz, e3, e6, not_mem_bool m2, q0, q1, n0, n1]
      refine seen ?_ hW hF
      rw [leftA, if_neg h1, if_pos hany]
      rw [if_neg h2]
    ·simp only [↓evd, evu, evf, implies_true, reduceCtorEq, Nat.reduceEqDiff, ↓reduceIte, Nat.reduceAdd, Nat.reduceLT, evz, e1, e2, e3, e6, e7, e9, hx, not_mem_bool m1, g1, hw]
     refine ⟨m - 1, by omega, i + 1, by omega, rfl, ?_, ?_, ?_⟩
     ·rw [htk, List.any_append, hst]; simp [staysG, m1]
     ·rw [htk, List.filter_append, List.filter_cons]
      have : (!goneG gs u c.group) = true := by simp [goneG, m1]
      rw [this]
      exact g2
     ·exact ⟨k0, k1, by omega, g3.trans hW, g4.trans hF⟩
   ·have hlt' : ¬ (i : Int) < (a.cuts.length : Int) := by omega
    rw [List.take_of_length_le (by omega)] at hO hst
    obtain ⟨τ3, s1, d1⟩ := Own.sees2 hO
    have hL : leftA gs u a = ({ a with cuts := a.cuts.filter (fun c => !goneG gs u c.group), group := a.group }, true) := by
     rw [leftA, if_neg h1, if_neg (by rw [hst]; simp)]
     rw [if_neg h2]
    rw [hL]
    have fin : ∀ ρ : Heap, Own 2 ρ t_Cut 2 x ((a.cuts.filter (fun c => !goneG gs u c.group)).map eCut) → ρ.W = W → ρ.F0 = F → ∃ τ', Sees ρ (.tup [.agg [.str a.text, .int .i64 a.rev, .int .i64 a.group, .int .i64 a.rank, x], .bool true]) τ' (.tup [.agg [.str a.text, .int .i64 a.rev, .int .i64 a.group, .int .i64 a.rank, .fsl 2 ((a.cuts.filter (fun c => !goneG gs u c.group)).map eCut)], .bool true]) ∧ τ'.W = W ∧ τ'.F0 = F := by
     intro ρ ho hw1 hf1
     obtain ⟨τ4, s2, d2⟩ := Own.sees2 ho
     refine ⟨τ4, SeesL.tup (.cons (SeesL.agg (.cons (Sees.refl _ _) (.cons (Sees.refl _ _) (.cons (Sees.refl _ _) (.cons (Sees.refl _ _) (.cons s2 (.nil _))))))) (.cons (Sees.refl _ _) (.nil _))), ?_⟩
     rcases d2 with rfl | ⟨K, _, rfl, hK2⟩ <;> exact ⟨hw1, hf1⟩
    have hset : ∀ (j : Nat) (b : ABlk) (ρ : Heap), j < 2 → Own 2 ρ t_Cut 2 x ((a.cuts.filter (fun c => !goneG gs u c.group)).map eCut) → Own 2 (ρ.set j b) t_Cut 2 x ((a.cuts.filter (fun c => !goneG gs u c.group)).map eCut) := fun j b ρ hj ho =>
     Own.set ho (fun K o n c e hk => by have := (ho.low e).1; omega) _
    rcases (show x = .nils ∨ ∃ K n, x = .slc (.new K) 0 n (.gr 2) from by
     rcases hO.2 with ⟨h, _⟩ | ⟨K, h, _⟩
     ·exact .inl h
     ·exact .inr ⟨K, _, h⟩) with rfl | ⟨K, n, rfl⟩
    all_goals
     simp only [↓evd, evu, evf, implies_true, reduceCtorEq, ↓reduceIte, Nat.reduceAdd, Nat.reduceLT, evz, e3, e6, e9, hx, q0, q1, hlt']
     exact fin _ (hset _ _ _ (by omega) (hset _ _ _ (by omega) hO)) hW hF
  ·refine ⟨0, by omega, ?_⟩
   simp only [evu, reduceCtorEq, Nat.reduceEqDiff, ↓reduceIte, Nat.reduceAdd, Nat.reduceLT, evz]
   exact ⟨rfl, Own.nil _ _ _ _⟩
/-! ### The reference's Forget -/
theorem own_atoms_sees {B : Nat} {σ : Heap} {x : AVal} {l : List Atom} (h : Own B σ t_Atom 5 x (l.map eAtom)) : ∃ ρ, Sees σ x ρ (eAtoms l) ∧ ρ.W = σ.W ∧ ρ.F0 = σ.F0 ∧ ρ.next = σ.next ∧ ∀ q, q < B → ρ.get q = σ.get q :=
 Own.sees h
theorem own_atom {B : Nat} {σ : Heap} {x : AVal} {l : List Atom} (h : Own B σ t_Atom 5 x (l.map eAtom)) (hB : B ≤ σ.next) (b : Atom) (hr : l.length ≤ 900000) :
  ∃ x' τ, aApp t_Atom 5 64 x (.slc (.new σ.next) 0 1 (.ex 1)) (σ.new (.cells [.str b.text, .int .i64 b.rev, .int .i64 b.group, .int .i64 b.rank, .fsl 2 (b.cuts.map eCut)] none)) = some (x', τ) ∧ Own B τ t_Atom 5 x' ((l ++ [b]).map eAtom) ∧ Ext B σ τ := by
 have hsrc := src_one (σ := σ.new (.cells [.str b.text, .int .i64 b.rev, .int .i64 b.group, .int .i64 b.rank, .fsl 2 (b.cuts.map eCut)] none)) (K := σ.next) (k := 5) (cs := [.str b.text, .int .i64 b.rev, .int .i64 b.group, .int .i64 b.rank, .fsl 2 (b.cuts.map eCut)]) (opn := none) (z := eAtom b) (cap := .ex 1) (by rw [Heap.get_new, if_pos rfl]) rfl rfl
 obtain ⟨x', τ, g1, g2, g3, g4⟩ := own_app (bytes := 64) (h.new (.cells [.str b.text, .int .i64 b.rev, .int .i64 b.group, .int .i64 b.rank, .fsl 2 (b.cuts.map eCut)] none)) (Nat.le_succ_of_le hB) hsrc.1 hsrc.2 (by intro y hy; simp at hy; subst hy; rfl) rfl (by omega) (by omega) (by unfold maxRoom; simp; omega)
 refine ⟨x', τ, g1, by rw [List.map_append]; exact g2, g3.1, g3.2.1, by have := g3.2.2.1; simp at this; omega, fun q hq => ?_⟩
 rw [g3.2.2.2 q hq, Heap.get_new, if_neg (by omega)]
theorem restL_left {gs u : List Int} {l : List Atom} {i : Nat} (h : i < l.length) : restL gs u (l.take (i + 1)) = restL gs u (l.take i) ++ (if (leftA gs u l[i]).2 then [(leftA gs u l[i]).1] else []) := by
 rw [List.take_succ_eq_append_getElem h, restL, List.filterMap_append, List.filterMap_cons, leftA_rest]
 cases (leftA gs u l[i]).2 <;> rfl
set_option maxHeartbeats 4000000 in
theorem rforgetE_at {σ : Heap} {k : Nat} {E : Eng} {fp : List Nat} {gs : List Int} (h0 : IsRefE σ k E fp) (hg : gs.length ≤ 1000000) (hokz : (forgetR E.R gs).2 = 0 → Eng.Ok ⟨restL gs (E.R.undone (E.R.head : Nat)) E.l, (forgetR E.R gs).1⟩) :
  MSpec Tryz.prog n_palinoderef20_Engine_Forget [.ptr (.new k) 0, ints gs] σ fun v τ => v = .int .i64 (forgetR E.R gs).2 ∧ ∃ fp', IsRefE τ k (if (forgetR E.R gs).2 ≠ 0 then E else ⟨restL gs (E.R.undone (E.R.head : Nat)) E.l, (forgetR E.R gs).1⟩) fp' ∧ Keep fp σ τ ∧ Fresh fp σ fp' := by
 obtain ⟨x, kr, fpr, h, rfl⟩ := id h0
 obtain ⟨P, u0, els, hRA, hfpr⟩ := id h.revs
 refine spec_of_xwp c_palinoderef20_Engine_Forget (Nat.le_of_ble_eq_true rfl) ?_
 unfold f_palinoderef20_Engine_Forget
 have hbk := h.blk
 have hbr := hRA.blk
 have hr0 := rc_0 (a := E.R.head) (b := E.R.floor) (P := P) (u := u0)
 have hun := rundone_call hRA (E.R.head : Nat)
 have huf := undone_few h.revs.ok (E.R.head : Nat)
 simp only [ints] at hun
 generalize E.R.undone (E.R.head : Nat) = u at hun huf hokz ⊢
 refine x_seq mixed ?_
 simp only [↓evd, evu, evf, implies_true, reduceCtorEq, Nat.reduceAdd, evz]
 refine x_seq mixed ?_
 simp only [↓evd]
 with_reducible refine draw_of_grow (fun _ => True) (ms := [false, false, false, false, false, false, false, false, false, false, false, false, false]) (by kernel_rfl) ?_
 simp only [↓evd, evu, evf, ↓reduceIte, Nat.reduceLT, evz, hbk, hbr, hr0]
 refine MSpec.of hun ⟨.inr Keeps.rfl, ?_⟩
 simp only [↓evd, evu, evf, ↓reduceIte]
 refine x_seq mixed ?_
 simp only [↓evd, evu, evf, implies_true, reduceCtorEq, ↓reduceIte, Nat.reduceLT, evz]
 simp only [↓evd, evu, ↓reduceIte, hbk]
 refine (rrcopy_at h.revs).mono ?_
 rintro v τ ⟨kr2, fp2, rfl, hR2, hf2, hK⟩
 simp only [↓evd, evu, evf, implies_true, reduceCtorEq, ↓reduceIte]
 refine x_seq mixed ?_
 simp only [↓evd, evu, evf, implies_true, reduceCtorEq, ↓reduceIte, Nat.reduceLT, evz]
 refine (rforget_spec hR2 gs hg).mono ?_
 rintro v τ1 ⟨rfl, fp3, hR3, hK3, hF3⟩
 have hf3 : ∀ x ∈ fp3, σ.next ≤ x := fun x hx => by
  rcases hF3 x hx with h | h
  ·exact hf2 x h
  ·have := hK.2.2.1; omega
 have hK1 : Keep [] σ τ1 := hK.trans hK3 (fun x hx => .inr (hf2 x hx))
 rcases hfr : forgetR E.R gs with ⟨R', c⟩
 rw [hfr] at hR3 hokz
 simp only at hR3 hokz ⊢
 simp only [↓evd, evu, evf, implies_true, reduceCtorEq, ↓reduceIte]
 refine x_seq mixed ?_
 simp only [↓evd, evu, evf, implies_true, reduceCtorEq, ↓reduceIte]
 by_cases hc : c = 0
 case neg =>
  have hb : (c != 0) = true := by simpa using hc
  simp only [↓evd, evu, evf, implies_true, reduceCtorEq, ↓reduceIte, Nat.reduceLT, evz, hb]
  rw [if_pos hc]
  exact ⟨_, h0.keep hK1 (fun x _ => by simp), hK1.mono (fun x hx => nomatch hx), fun x hx => .inl hx⟩
 subst hc
 have hb : ((0 : Int) != 0) = false := rfl
 have hok' := hokz rfl
 rw [if_neg (by simp)]
 have hbk1 : τ1.get k = some (.cells [.ptr (.new kr) 0, x] none) := by rw [hK1.get h.low]; exact h.blk
 have hkl : k < τ1.next := Nat.lt_of_lt_of_le h.low hK1.2.2.1
 have hcl : ∀ a ∈ E.l, a.cuts.length ≤ 1000000 := (h.ok.fits h.revs.ok).2.1
 have hll := h.ok.len
 simp only [↓evd, evu, hb]
 refine x_seq mixed ?_
 simp only [↓evd, evu, evf, implies_true, reduceCtorEq]
 refine x_seq mixed ?_
 simp only [↓evd, evu, evf, implies_true, reduceCtorEq]
 refine awp_loop (fun m fr ρ => ∃ (i : Nat), m + i = E.l.length ∧ fr.get 0 = .ptr (.new k) 0 ∧ fr.get 1 = ints gs ∧ fr.get 5 = ints u ∧ fr.get 6 = .ptr (.new kr2) 0 ∧ fr.get 9 = .int .i64 (i : Nat) ∧ Own τ1.next ρ t_Atom 5 (fr.get 8) ((restL gs u (E.l.take i)).map eAtom) ∧ (restL gs u (E.l.take i)).length ≤ i ∧ Keep [] τ1 ρ) ?_ (m := E.l.length) ?_
 ·rintro m fr ρ ⟨i, hi, e0, e1, e5, e6, e9, hO, hol, hKr⟩
  generalize hx : fr.get 8 = y at hO
  have hbk2 : ρ.get k = some (.cells [.ptr (.new kr) 0, x] none) := by rw [hKr.get hkl]; exact hbk1
  by_cases hlt : i < E.l.length
  ·have hlt' : (i : Int) < (E.l.length : Int) := by omega
   have hw := wrap_succ (i := i) (by omega)
   have hga := map_get eAtom E.l i hlt
   have hrt := restL_left (gs := gs) (u := u) hlt
   have hca := hcl _ (List.getElem_mem hlt)
   obtain rfl : x = eAtoms E.l := by
    rcases h.lst with h1 | ⟨_, h1⟩
    ·exact h1
    ·rw [h1] at hlt; simp at hlt
   generalize E.l[i] = a at hga hrt hca
   have hlf := rleft_call ρ a gs u hg huf hca
   simp only [eAtom, ints] at hlf
   generalize leftA gs u a = q at hlf hrt
   obtain ⟨b, ok⟩ := q
   have hkj := hKr.junk (.cells [.str [], .int .i64 0, .int .i64 0, .int .i64 0, .nils] none) (.cells [.str b.text, .int .i64 b.rev, .int .i64 b.group, .int .i64 b.rank, .fsl 2 (b.cuts.map eCut)] none)
   have hOj := Own.var2 hO (.cells [.str [], .int .i64 0, .int .i64 0, .int .i64 0, .nils] none) (.cells [.str b.text, .int .i64 b.rev, .int .i64 b.group, .int .i64 b.rank, .fsl 2 (b.cuts.map eCut)] none)
   simp only [↓evd, evu, evf, implies_true, reduceCtorEq, ↓reduceIte, Nat.reduceAdd, Nat.reduceLT, evz, e0, e1, e5, e9, hbk2, hlt', eAtoms, hga, eAtom]
   refine MSpec.of hlf ?_
   cases ok
   ·simp only [Bool.false_eq_true, if_false, List.append_nil] at hrt
    simp only [↓evd, evu, evf, implies_true, reduceCtorEq, Nat.reduceEqDiff, ↓reduceIte, Nat.reduceAdd, Nat.reduceLT, evz, e0, e1, e5, e6, e9, hx, hw]
    exact ⟨m - 1, by omega, i + 1, by omega, rfl, by rw [hrt]; exact hOj, by rw [hrt]; omega, hkj⟩
   ·simp only [if_true] at hrt
    obtain ⟨x', τ', g1, g2, g3⟩ := own_atom hOj hkj.2.2.1 b (by omega)
    simp only [Heap.set_next, Heap.new_next] at g1
    simp only [↓evd, evu, evf, implies_true, reduceCtorEq, Nat.reduceEqDiff, ↓reduceIte, Nat.reduceAdd, Nat.reduceLT, evz, e0, e1, e5, e6, e9, hx, g1, hw]
    refine ⟨m - 1, by omega, i + 1, by omega, rfl, by rw [hrt]; exact g2, by rw [hrt, List.length_append, List.length_singleton]; omega, ?_⟩
    exact ⟨g3.1.trans hkj.1, g3.2.1.trans hkj.2.1, Nat.le_trans hkj.2.2.1 g3.2.2.1, fun q hq _ => by rw [g3.2.2.2 q hq]; exact hkj.get hq⟩
  ·have hlt' : ¬ (i : Int) < (E.l.length : Int) := by omega
   have hti : E.l.take i = E.l := List.take_of_length_le (by omega)
   rw [hti] at hO
   obtain ⟨τ3, s1, s2, s3, s4, s5⟩ := own_atoms_sees hO
   have hK3 : Keep [] τ1 τ3 := ⟨s2.trans hKr.1, s3.trans hKr.2.1, by rw [s4]; exact hKr.2.2.1, fun q hq _ => by rw [s5 q hq]; exact hKr.get hq⟩
   have hbk3 : τ3.get k = some (.cells [.ptr (.new kr) 0, x] none) := by rw [hK3.get hkl]; exact hbk1
   have fin : ∃ fp', IsRefE ((τ3.set k (.cells [.ptr (.new kr2) 0, x] none)).set k (.cells [.ptr (.new kr2) 0, eAtoms (restL gs u E.l)] none)) k ⟨restL gs u E.l, R'⟩ fp' ∧ Keep (k :: fpr) σ ((τ3.set k (.cells [.ptr (.new kr2) 0, x] none)).set k (.cells [.ptr (.new kr2) 0, eAtoms (restL gs u E.l)] none)) ∧ Fresh (k :: fpr) σ fp' := by
    have hks := (((Keep.refl [k] τ3).set (j := k) (.inl (by simp)) (.cells [.ptr (.new kr2) 0, x] none)).set (j := k) (.inl (by simp)) (.cells [.ptr (.new kr2) 0, eAtoms (restL gs u E.l)] none))
    have hkn : ∀ y ∈ fp3, y ∉ [k] := fun y hy hm => by
     have := hf3 y hy
     have := h.low
     rw [List.mem_singleton] at hm; omega
    have hR4 := hR3.keep hK3 (fun y _ => by simp)
    have hK4 : Keep [] σ τ3 := hK1.trans hK3 (fun x hx => nomatch hx)
    refine ⟨k :: fp3, ⟨eAtoms (restL gs u E.l), kr2, fp3, ⟨by rw [Heap.get_set, if_pos rfl], .inl rfl, hR4.keep hks hkn, Nat.lt_of_lt_of_le h.low (by simpa using hK4.2.2.1), fun hm => hkn k hm (by simp), hok'⟩, rfl⟩, ?_, ?_⟩
    ·exact ((hK4.mono (fun x hx => nomatch hx)).set (.inl (by simp)) _).set (.inl (by simp)) _
    ·intro y hy
     rcases List.mem_cons.1 hy with rfl | hy
     ·exact .inl (by simp)
     ·exact .inr (hf3 y hy)
   simp only [eAtoms] at fin
   rcases h.lst with rfl | ⟨rfl, hnil⟩
   ·simp only [eAtoms] at fin hbk2 hbk3
    simp only [↓evd, evu, evf, implies_true, reduceCtorEq, ↓reduceIte, Nat.reduceLT, evz, e0, e9, hbk2, hlt']
    refine x_freeze (FSees.reg (t := 8) (by decide) (by simp only [evu, ↓reduceIte, Nat.reduceLT, evz, hx]) s1) ?_
    refine x_of_awp mixed ?_
    simp only [↓evd, evu, evf, implies_true, reduceCtorEq, ↓reduceIte, Nat.reduceAdd, Nat.reduceLeDiff, Nat.reduceLT, evz, e0, e6, hbk3, eAtoms]
    exact fin
   ·have hlt0 : ¬ (i : Int) < 0 := by omega
    simp only [↓evd, evu, evf, implies_true, reduceCtorEq, ↓reduceIte, Nat.reduceLT, evz, e0, e9, hbk2, hlt0]
    refine x_freeze (FSees.reg (t := 8) (by decide) (by simp only [evu, ↓reduceIte, Nat.reduceLT, evz, hx]) s1) ?_
    refine x_of_awp mixed ?_
    simp only [↓evd, evu, evf, implies_true, reduceCtorEq, ↓reduceIte, Nat.reduceAdd, Nat.reduceLeDiff, Nat.reduceLT, evz, e0, e6, hbk3, eAtoms]
    exact fin
 ·refine ⟨0, by omega, ?_⟩
  simp only [evu, reduceCtorEq, ↓reduceIte, Nat.reduceLT, evz]
  exact ⟨Own.nil _ _ _ _, Nat.le_refl _, Keep.refl _ _⟩
/-- both engines in the heap, apart -/
structure TwoE (σ τ : Heap) (k1 k2 : Nat) (E : Eng) (fp1 fp2 : List Nat) : Prop where
 eng : IsEng τ k1 E fp1
 ref : IsRefE τ k2 E fp2
 dis : ∀ x ∈ fp1, x ∉ fp2
 f1 : ∀ x ∈ fp1, σ.next ≤ x
 f2 : ∀ x ∈ fp2, σ.next ≤ x
 keep : Keep [] σ τ
theorem TwoE.step {σ τ τ1 τ2 : Heap} {k1 k2 : Nat} {E E' : Eng} {fp1 fp2 fp1' fp2' : List Nat} (h : TwoE σ τ k1 k2 E fp1 fp2) (h1 : IsEng τ1 k1 E' fp1') (kk1 : Keep fp1 τ τ1) (q1 : Fresh fp1 τ fp1') (h2 : IsRefE τ2 k2 E' fp2') (kk2 : Keep fp2 τ1 τ2) (q2 : Fresh fp2 τ1 fp2') : TwoE σ τ2 k1 k2 E' fp1' fp2' := by
 have hn := h.keep.2.2.1
 have hl1 := h.eng.low
 have hl2 := h.ref.low
 have hn1 := kk1.2.2.1
 have d1 : ∀ x ∈ fp1', x ∉ fp2 := fun x hx hm => by
  rcases q1 x hx with h3 | h3
  ·exact h.dis x h3 hm
  ·have := hl2 x hm; omega
 refine ⟨h1.keep kk2 d1, h2, fun x hx hm => ?_, fun x hx => ?_, fun x hx => ?_, ?_⟩
 ·rcases q2 x hm with h3 | h3
  ·exact d1 x hx h3
  ·have := h1.low x hx; omega
 ·rcases q1 x hx with h3 | h3
  ·exact h.f1 x h3
  ·omega
 ·rcases q2 x hx with h3 | h3
  ·exact h.f2 x h3
  ·omega
 ·exact (h.keep.trans kk1 (fun x hx => .inr (h.f1 x hx))).trans kk2 (fun x hx => .inr (h.f2 x hx))
theorem RefEAt.raw {σ : Heap} {k : Nat} {E : Eng} {x : AVal} {kr : Nat} {fpr : List Nat} (h : RefEAt σ k E x kr fpr) : x.isRaw = false := by
 rcases h.lst with rfl | ⟨rfl, _⟩ <;> rfl
theorem forgetE_ref {E E' : Eng} {gs : List Int} {c : Int} (he : forgetE E gs = (E', c)) : (if (forgetR E.R gs).2 ≠ 0 then E else (⟨restL gs (E.R.undone (E.R.head : Nat)) E.l, (forgetR E.R gs).1⟩ : Eng)) = E' ∧ (forgetR E.R gs).2 = c := by
 rw [forgetE] at he
 split at he
 ·rename_i hz; rw [if_pos hz]; cases he; exact ⟨rfl, rfl⟩
 ·rename_i hz; rw [if_neg hz]; cases he; exact ⟨rfl, by simpa using hz⟩
theorem rforgetE_as {σ : Heap} {k : Nat} {E E' : Eng} {fp : List Nat} {gs : List Int} {c : Int} (h : IsRefE σ k E fp) (hok : E.Ok) (hg : gs.length ≤ 1000000) (he : forgetE E gs = (E', c)) :
  MSpec Tryz.prog n_palinoderef20_Engine_Forget [.ptr (.new k) 0, ints gs] σ fun v τ => v = .int .i64 c ∧ ∃ fp', IsRefE τ k E' fp' ∧ Keep fp σ τ ∧ Fresh fp σ fp' := by
 obtain ⟨h1, h2⟩ := forgetE_ref he
 have := rforgetE_at (gs := gs) h hg (fun hz => forget_ok hok hz)
 rw [h1, h2] at this
 exact this
theorem same17_call (σ : Heap) (l : List Atom) (hl : l.length ≤ 1000000) (hc : ∀ a ∈ l, a.cuts.length ≤ 1000000) : ACall Tryz.prog n_palinoderef17_Same [eAtoms l, eAtoms l] σ (.bool true) σ := by
 refine bare_call (by simp only [AVal.pures, eAtoms_pure]; rfl) rfl (fun W F => spec_of_awp mixed c_palinoderef17_Same (Nat.le_of_ble_eq_true rfl) ?_) σ
 unfold f_palinoderef17_Same
 have bb : ∀ x : Int, (x != x) = false := by intro x; simp
 simp only [↓evd, evu, evf, implies_true, reduceCtorEq, ↓reduceIte, Nat.reduceAdd, Nat.reduceLT, evz, eAtoms, bb]
 refine awp_loop (fun m fr τ => ∃ (i : Nat), m + i = l.length ∧ fr.get 0 = eAtoms l ∧ fr.get 1 = eAtoms l ∧ fr.get 5 = .int .i64 (i : Nat) ∧ τ.W = W ∧ τ.F0 = F) ?_ (m := l.length) ?_
 ·rintro m fr τ ⟨i, hi, e0, e1, e5, hW, hF⟩
  by_cases hlt : i < l.length
  ·have hlt' : (i : Int) < (l.length : Int) := by omega
   have hw := wrap_succ (i := i) (by omega)
   have hg := map_get eAtom l i hlt
   have hca := hc _ (List.getElem_mem hlt)
   generalize l[i] = a at hg hca
   simp only [↓evd, evu, evf, implies_true, reduceCtorEq, ↓reduceIte, Nat.reduceLT, evz, e0, e5, eAtoms, hlt']
   with_reducible refine draw_of_grow (fun _ => False) (ms := [false, false, false, false, false, false, false, false, true, true, false, true]) (by kernel_rfl) ?_
   have ne1 : (τ.next + 1 = τ.next) = False := eq_false (by omega)
   have ne2 : (τ.next = τ.next + 1) = False := eq_false (by omega)
   simp only [↓evd, evu, evf, implies_true, reduceCtorEq, Nat.reduceEqDiff, ↓reduceIte, Nat.reduceAdd, Nat.reduceLT, evz, e0, e1, e5, eAtoms, hg, eAtom, Nat.add_zero, ne1]
   refine ⟨.inr ⟨rfl, fun _ h => h.elim⟩, ?_⟩
   obtain ⟨A, hA⟩ : ∃ A, τ.next = A := ⟨_, rfl⟩
   obtain ⟨τ2, hτ2⟩ : ∃ τ2, τ2 = (((τ.new (.cells [.str [], .int .i64 0, .int .i64 0, .int .i64 0, .nils] none)).new (.cells [.str [], .int .i64 0, .int .i64 0, .int .i64 0, .nils] none)).set τ.next (.cells [.str a.text, .int .i64 a.rev, .int .i64 a.group, .int .i64 a.rank, .fsl 2 (a.cuts.map eCut)] none)).set (τ.next + 1) (.cells [.str a.text, .int .i64 a.rev, .int .i64 a.group, .int .i64 a.rank, .fsl 2 (a.cuts.map eCut)] none) := ⟨_, rfl⟩
   have g1 : τ2.get A = some (.cells [.str a.text, .int .i64 a.rev, .int .i64 a.group, .int .i64 a.rank, .fsl 2 (a.cuts.map eCut)] none) := by rw [hτ2, Heap.get_set, if_neg (by omega), Heap.get_set, if_pos hA]
   have g2 : τ2.get (A + 1) = some (.cells [.str a.text, .int .i64 a.rev, .int .i64 a.group, .int .i64 a.rank, .fsl 2 (a.cuts.map eCut)] none) := by rw [hτ2, Heap.get_set, if_pos (by omega)]
   have hW2 : τ2.W = W := by rw [hτ2]; exact hW
   have hF2 : τ2.F0 = F := by rw [hτ2]; exact hF
   simp only [↓evd, evu, evf, implies_true, reduceCtorEq, Nat.reduceEqDiff, ↓reduceIte, Nat.reduceAdd, Nat.reduceLT, evz, Nat.add_zero, ne1, ne2]
   rw [← hτ2]
   simp only [hA]
   clear hτ2 ne1 ne2 hW hF
   simp only [↓evd, evu, evf, implies_true, reduceCtorEq, ↓reduceIte, Nat.reduceLT, evz, g1, g2, bb, aStr_nself]
   refine awp_loop (fun m' fr' ρ => ∃ (j : Nat), m' + j = a.cuts.length ∧ fr'.get 0 = eAtoms l ∧ fr'.get 1 = eAtoms l ∧ fr'.get 5 = .int .i64 (i : Nat) ∧ fr'.get 6 = .ptr (.new A) 0 ∧ fr'.get 7 = .ptr (.new (A + 1)) 0 ∧ fr'.get 8 = .int .i64 (j : Nat) ∧ ρ = τ2) ?_ (m := a.cuts.length) ?_
   ·clear e0 e1 e5
    rintro m' fr' ρ ⟨j, hj, e0, e1, e5, e6, e7, e8, rfl⟩
    by_cases hjt : j < a.cuts.length
    ·have hjt' : (j : Int) < (a.cuts.length : Int) := by omega
     have hwj := wrap_succ (i := j) (by omega)
     have hgj := map_get eCut a.cuts j hjt
     generalize a.cuts[j] = c at hgj
     simp only [↓evd, evu, evf, implies_true, reduceCtorEq, ↓reduceIte, Nat.reduceLT, evz, e6, e8, g1, hjt']
     with_reducible refine draw_of_grow (fun _ => True) (ms := [false, false, false, false, false, false, false, false, false, false, false]) (by kernel_rfl) ?_
     simp only [↓evd, evu, evf, implies_true, reduceCtorEq, ↓reduceIte, Nat.reduceAdd, Nat.reduceLT, evz, e0, e1, e5, e6, e7, e8, g1, g2, hgj, eCut, hwj]
     exact ⟨m' - 1, by omega, j + 1, by omega, rfl⟩
    ·have hjt' : ¬ (j : Int) < (a.cuts.length : Int) := by omega
     simp only [↓evd, evu, evf, implies_true, reduceCtorEq, ↓reduceIte, Nat.reduceLT, evz, e0, e1, e5, e6, e8, g1, hjt', hw]
     exact ⟨m - 1, by omega, i + 1, by omega, rfl, hW2, hF2⟩
   ·refine ⟨0, by omega, ?_⟩
    simp only [evu, ↓reduceIte, Nat.reduceLT, evz, e0, e1, e5, eAtoms]
  ·have hlt' : ¬ (i : Int) < (l.length : Int) := by omega
   simp only [↓evd, evu, evf, implies_true, reduceCtorEq, ↓reduceIte, Nat.reduceLT, evz, e0, e5, eAtoms, hlt']
   exact seen rfl hW hF
 ·refine ⟨0, by omega, ?_⟩
  simp only [evu, reduceCtorEq, ↓reduceIte, Nat.reduceLT, evz, eAtoms]
theorem alike_call {σ : Heap} {k1 k2 : Nat} {E : Eng} {fp1 fp2 : List Nat} (h1 : IsEng σ k1 E fp1) (h2 : IsRefE σ k2 E fp2) : ACall Tryz.prog n_palinodelaw20_alike [.ptr (.new k1) 0, .ptr (.new k2) 0] σ (.bool true) σ := by
 obtain ⟨x, kr, fpr, h, rfl⟩ := id h2
 obtain ⟨P, u0, els, hR, hfpr⟩ := id h.revs
 refine exact_call (spec_of_awp mixed c_palinodelaw20_alike (Nat.le_of_ble_eq_true rfl) ?_)
 unfold f_palinodelaw20_alike
 have hb := h.blk
 have hbr := hR.blk
 have hr0 := rc_0 (a := E.R.head) (b := E.R.floor) (P := P) (u := u0)
 obtain ⟨hok, hRok⟩ := h1.ok
 have hf := hok.fits hRok
 have hhd := head_le hRok
 have hgl := rise_len hRok.grp
 have huf := undone_few hRok (E.R.head : Nat)
 have q1 := ehead_at h1
 have q2 := eatoms_at h1
 have q3 := same17_call σ E.l hf.1 hf.2.1
 have q4 := egroups_at h1
 have q5 := rgroups_call hR
 have q6 := same20_call σ E.R.grp E.R.grp (by omega)
 have q7 := eundone_at h1
 have q8 := rundone_call hR (E.R.head : Nat)
 have q9 := same20_call σ (E.R.undone (E.R.head : Nat)) (E.R.undone (E.R.head : Nat)) huf
 rw [decide_eq_true rfl] at q6 q9
 simp only [eAtoms] at q2 q3
 simp only [ints] at q4 q5 q6 q7 q8 q9
 have bb : ∀ x : Int, (x != x) = false := by intro x; simp
 have hsee := h.sees σ
 simp only [eAtoms] at hsee
 simp only [↓evd, evu, evf, implies_true, reduceCtorEq, Nat.reduceAdd]
 with_reducible refine draw_of_grow (fun _ => True) (ms := [false, false, false, false, false, false, false, false, false, false, false, false, false, false, false, false, false, false, false, false, false, false, false, false, false, false, false, false, false, false, false, false, false, false, false, false, false, false, false, false, false, false, false, false, false, false, false, false, false]) (by kernel_rfl) ?_
 simp only [↓evd, evu, evf, ↓reduceIte, Nat.reduceLT, evz]
 refine MSpec.of q1 ⟨.inr Keeps.rfl, ?_⟩
 simp only [↓evd, evu, evf, reduceCtorEq, ↓reduceIte, Nat.reduceLT, evz, hb, hbr, hr0, bb]
 refine MSpec.of q2 ⟨.inr Keeps.rfl, ?_⟩
 simp only [↓evd, evu, evf, reduceCtorEq, ↓reduceIte, Nat.reduceLT, evz, hb]
 refine mspec_seen (.cons (Sees.refl _ _) (.cons hsee (.nil _))) ?_
 refine MSpec.of q3 ⟨.inr Keeps.rfl, ?_⟩
 simp only [↓evd, evu, evf, ↓reduceIte, Nat.reduceLT, evz]
 refine MSpec.of q4 ⟨.inr Keeps.rfl, ?_⟩
 simp only [↓evd, evu, evf, reduceCtorEq, ↓reduceIte, Nat.reduceLT, evz, hb]
 refine MSpec.of q5 ⟨.inr Keeps.rfl, ?_⟩
 simp only [↓evd, evu, evf, ↓reduceIte, Nat.reduceLT, evz]
 refine MSpec.of q6 ⟨.inr Keeps.rfl, ?_⟩
 simp only [↓evd, evu, evf, ↓reduceIte, Nat.reduceLT, evz]
 refine MSpec.of q7 ⟨.inr Keeps.rfl, ?_⟩
 simp only [↓evd, evu, evf, reduceCtorEq, ↓reduceIte, Nat.reduceLT, evz, hb, hbr, hr0]
 refine MSpec.of q8 ⟨.inr Keeps.rfl, ?_⟩
 simp only [↓evd, evu, evf, ↓reduceIte, Nat.reduceLT, evz]
 refine MSpec.of q9 ⟨.inr Keeps.rfl, ?_⟩
 simp only [↓evd, evu, evf, implies_true, reduceCtorEq, ↓reduceIte, Nat.reduceLT, evz]
 have hwh : IntKind.i64.wrap ((E.R.head : Int) + 1) = (E.R.head : Int) + 1 := wrap_id (by omega) (by omega)
 refine awp_loop (fun m fr τ => ∃ (i : Nat), m + i = E.R.head + 3 ∧ fr.get 0 = .ptr (.new k1) 0 ∧ fr.get 1 = .ptr (.new k2) 0 ∧ fr.get 5 = .int .i64 ((i : Int) - 1) ∧ τ = σ) ?_ (m := E.R.head + 3) ?_
 ·rintro m fr τ ⟨i, hi, e0, e1, e5, rfl⟩
  by_cases hlt : ((i : Int) - 1) ≤ (E.R.head : Int) + 1
  ·have ht := etext_at h1 ((i : Int) - 1)
   have hrt := rtextE_at h2 ((i : Int) - 1)
   have hlv := elive_at h1 ((i : Int) - 1)
   have hw : IntKind.i64.wrap (((i : Int) - 1) + 1) = ((i + 1 : Nat) : Int) - 1 := by rw [wrap_id (by omega) (by omega)]; omega
   have b0 : ((0 : Int) == 0) = true := rfl
   have b1 : ((190 : Int) == 0) = false := rfl
   have b2 : ((190 : Int) != 190) = false := rfl
   have b3 : (true != true) = false := rfl
   have b4 : (false != false) = false := rfl
   cases hl : E.R.live ((i : Int) - 1)
   ·rw [textV, hl, if_neg (by simp)] at ht
    rw [hl] at hrt hlv
    simp only [Bool.false_eq_true, if_false] at hrt
    simp only [↓evd, evu, evf, implies_true, reduceCtorEq, ↓reduceIte, Nat.reduceLT, evz, e0, e1, e5, hb, hbr, hr0, hwh, hlt]
    refine MSpec.of ht ?_
    simp only [↓evd, evu, evf, implies_true, reduceCtorEq, Nat.reduceEqDiff, ↓reduceIte, Nat.reduceLT, evz, e1, e5]
    refine MSpec.of hrt ?_
    simp only [↓evd, evu, evf, implies_true, reduceCtorEq, Nat.reduceEqDiff, ↓reduceIte, Nat.reduceLT, evz, e0, e5, aStr_nself, b1, b2]
    refine MSpec.of hlv ?_
    simp only [↓evd, evu, evf, implies_true, reduceCtorEq, ↓reduceIte, Nat.reduceLT, evz, e0, e1, e5, hw]
    exact ⟨m - 1, by omega, i + 1, by omega, rfl⟩
   ·rw [textV, hl, if_pos rfl] at ht
    rw [hl] at hrt hlv
    simp only [if_true] at hrt
    simp only [↓evd, evu, evf, implies_true, reduceCtorEq, ↓reduceIte, Nat.reduceLT, evz, e0, e1, e5, hb, hbr, hr0, hwh, hlt]
    refine MSpec.of ht ?_
    simp only [↓evd, evu, evf, implies_true, reduceCtorEq, Nat.reduceEqDiff, ↓reduceIte, Nat.reduceLT, evz, e1, e5]
    refine MSpec.of hrt ?_
    simp only [↓evd, evu, evf, implies_true, reduceCtorEq, Nat.reduceEqDiff, ↓reduceIte, Nat.reduceLT, evz, e0, e5, aStr_nself]
    refine MSpec.of hlv ?_
    simp only [↓evd, evu, evf, implies_true, reduceCtorEq, ↓reduceIte, Nat.reduceLT, evz, e0, e1, e5, hw]
    exact ⟨m - 1, by omega, i + 1, by omega, rfl⟩
  ·simp only [↓evd, evu, evf, implies_true, reduceCtorEq, ↓reduceIte, Nat.reduceLT, evz, e1, e5, hb, hbr, hr0, hwh, hlt]
 ·refine ⟨0, by omega, ?_⟩
  simp only [evu, reduceCtorEq, ↓reduceIte, Nat.reduceLT, evz]
  rfl
/-- the reference's step -/
theorem rdoes_at {σ : Heap} {k : Nat} {E E' : Eng} {fp : List Nat} {n c : Int} (h : IsRefE σ k E fp) (hok : E.Ok) {x : Step} (hf : fewOne x = true) (e : doFg E x = (E', n, c)) :
  MSpec Tryz.prog n_palinodelaw20_does [.ptr (.new k) 0, eStep x] σ fun v τ => v = .tup [.int .i64 n, .int .i64 c] ∧ ∃ fp', IsRefE τ k E' fp' ∧ Keep fp σ τ ∧ Fresh fp σ fp' := by
 obtain ⟨f1, f2, f3⟩ := fewOne_iff.1 hf
 refine spec_of_awp mixed c_palinodelaw20_does (Nat.le_of_ble_eq_true rfl) ?_
 unfold f_palinodelaw20_does
 have hk : Keep [] σ (σ.new (.cells [.int .i64 x.what, .int .i64 x.base, .int .i64 x.group, .int .i64 x.rank, eChgs x.c, ints x.groups] none)) := (Keep.refl _ _).new _
 have hE := h.keep hk (fun y _ => by simp)
 have fin : ∀ {τ : Heap} {fp' : List Nat}, IsRefE τ k E' fp' → Keep fp (σ.new (.cells [.int .i64 x.what, .int .i64 x.base, .int .i64 x.group, .int .i64 x.rank, eChgs x.c, ints x.groups] none)) τ → Fresh fp (σ.new (.cells [.int .i64 x.what, .int .i64 x.base, .int .i64 x.group, .int .i64 x.rank, eChgs x.c, ints x.groups] none)) fp' → ∃ fp', IsRefE τ k E' fp' ∧ Keep fp σ τ ∧ Fresh fp σ fp' := fun h1 h2 h3 =>
  ⟨_, h1, (hk.mono (fun x hx => nomatch hx)).trans h2 (fun x hx => .inl hx), fun x hx => by
   rcases h3 x hx with h | h
   ·exact .inl h
   ·exact .inr (Nat.le_of_succ_le h)⟩
 by_cases h6 : x.what ≤ 6
 ·rw [doFg, if_pos h6] at e
  by_cases h4 : x.what ≤ 4
  ·rw [doE, if_pos h4] at e
   have hed := redit_at hE (by omega) (fun c hc => by have := f1 c hc; omega) e
   simp only [eChgs, ints] at hed
   simp only [↓evd, evu, evf, implies_true, reduceCtorEq, ↓reduceIte, Nat.reduceAdd, Nat.reduceLT, evz, eStep, h4]
   refine hed.mono ?_
   rintro v τ ⟨rfl, fp', h1, h2, h3⟩
   simp only [↓evd, evu, evf, implies_true, reduceCtorEq, Nat.reduceEqDiff, ↓reduceIte, Nat.reduceLT, evz]
   exact fin h1 h2 h3
  ·rw [doE, if_neg h4] at e
   have htg := rtoggleE_at hE e
   simp only [eChgs, ints] at htg
   simp only [↓evd, evu, evf, implies_true, reduceCtorEq, ↓reduceIte, Nat.reduceAdd, Nat.reduceLT, evz, eStep, h4, h6]
   refine htg.mono ?_
   rintro v τ ⟨rfl, fp', h1, h2, h3⟩
   simp only [↓evd, evu, evf, implies_true, reduceCtorEq, Nat.reduceEqDiff, ↓reduceIte, Nat.reduceLT, evz]
   exact fin h1 h2 h3
 ·rw [doFg, if_neg h6] at e
  rcases hfo : forgetE E x.groups with ⟨E2, c2⟩
  rw [hfo] at e
  cases e
  have h4 : ¬ x.what ≤ 4 := by omega
  have hfg := rforgetE_as hE hok (by omega) hfo
  simp only [eChgs, ints] at hfg
  simp only [↓evd, evu, evf, implies_true, reduceCtorEq, ↓reduceIte, Nat.reduceAdd, Nat.reduceLT, evz, eStep, h4, h6]
  refine hfg.mono ?_
  rintro v τ ⟨rfl, fp', h1, h2, h3⟩
  simp only [↓evd, evu, evf, implies_true, reduceCtorEq, Nat.reduceEqDiff, ↓reduceIte, Nat.reduceLT, evz]
  exact fin h1 h2 h3
end Go.Proofs.YtioampofolilnaaGreat.M

