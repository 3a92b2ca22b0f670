/- A part of the seat's proofs over the abstract machine. No condition. -/
import Derived.Test.YtkjikdohnomajaaGreatWB
set_option linter.unusedSimpArgs false
set_option linter.unusedVariables false
set_option maxRecDepth 100000
namespace Go.Proofs.YtkjikdohnomajaaGreat.M
open Go Go.Mini
attribute [local congr] go1_congr goM_congr goG_congr goV_congr drawwp_congr Xwp_congr
theorem eholds_spec {σ : Heap} {k : Nat} {E : Eng} {fp : List Nat} (h : IsEng σ k E fp) : MSpec Tryz.prog n_undo_holds [.ptr (.new k) 0] σ fun v τ => ∃ cs, v = .slc (.new σ.next) 0 (held E).length (.ex E.R.grp.length) ∧ Keep [] σ τ ∧ τ.get σ.next = some (.cells cs none) ∧ cs.length = E.R.grp.length ∧ cs.take (held E).length = iv (held E) ∧ σ.next < τ.next := by
  have hok := h.ok.2
  have hgl := rise_len hok.grp
  have huf := undone_few hok (E.R.head : Nat)
  refine spec_of_awp mixed c_undo_holds (tl rfl) ?_
  unfold f_undo_holds
  have hm0 : (0 : Int) ≤ (E.R.grp.length : Int) := by omega
  have hm2 : E.R.grp.length ≤ maxRoom := by unfold maxRoom; omega
  have hm3 : E.R.grp.length * 8 ≤ maxRoom := by unfold maxRoom; omega
  have hm4 : (E.R.grp.length : Int) ≤ 2 ^ 62 := by omega
  have hgr := egroups_at h
  simp only [ints] at hgr
  simp +decide only [↓evd, evw, evz, reduceCtorEq, ↓reduceIte]
  refine MSpec.of hgr ?_
  obtain ⟨σ1, g1, g2, g3, g4, g5, g6⟩ := copy_whole (σ := σ.new (.cells (List.replicate E.R.grp.length [AVal.int IntKind.i64 0]).flatten none)) (K := σ.next) (k := 1) (els := E.R.grp.map (AVal.int .i64 ·)) (cap := .ex E.R.grp.length)
    (by rw [Heap.get_new, if_pos rfl]) (ivf_row _) (by simp) (by rw [ivf_cell]; exact iv_all _)
  rw [List.length_map] at g1
  rw [ivf_cell] at g2
  have hK1 : Keep [] σ σ1 := ⟨g3, g4, by rw [g5]; simp, fun q hq _ => by rw [g6 q (by omega), Heap.get_new, if_neg (by omega)]⟩
  have hn1 : σ1.next = σ.next + 1 := g5
  have h1 := h.keep hK1 (fun y _ => by simp)
  have hun := eundone_at h1
  simp only [ints] at hun
  simp +decide only [↓evd, evw, evz, reduceCtorEq, ↓reduceIte, hm0, hm2, hm3, hm4]
  simp +decide only [↓evd, evw, evz, reduceCtorEq, ↓reduceIte, g1]
  refine MSpec.of hun ?_
  have hb : ((σ1.new (.cells [.nils] none)).set σ1.next (.cells [ints (E.R.undone (E.R.head : Nat))] none)).get σ1.next = some (.cells [ints (E.R.undone (E.R.head : Nat))] none) := by rw [Heap.get_set, if_pos rfl]
  have hg2 : ((σ1.new (.cells [.nils] none)).set σ1.next (.cells [ints (E.R.undone (E.R.head : Nat))] none)).get σ.next = some (.cells (iv E.R.grp) none) := by
    rw [Heap.get_set, if_neg (by omega), Heap.get_new, if_neg (by omega)]; exact g2
  have hdel := deleteI_spec _ σ.next E.R.grp n_undo_holds_1 [.ptr (.new σ1.next) 0] (fun x => decide (x ∈ E.R.undone (E.R.head : Nat))) (by omega) hg2
    (fun τ hK x _ => holds1_call (by rw [hK.2.2.2 σ1.next (by simp) (by simp; omega)]; exact hb) huf x) (by simp; omega)
  simp only [ints] at hdel
  simp +decide only [↓evd, evw, evz, reduceCtorEq, ↓reduceIte]
  refine hdel.mono ?_
  rintro v τ ⟨rfl, hK2, cs, c1, c2, c3⟩
  simp +decide only [↓evd, evw, evz, reduceCtorEq, ↓reduceIte]
  refine ⟨cs, rfl, ?_, c1, c2, c3, ?_⟩
  · exact (hK1.junk _ _).fresh hK2 (fun x hx => by simp at hx; omega)
  · have := hK2.2.2.1; simp at this; omega
theorem app_room {σ : Heap} {K N : Nat} {l : List Int} {r : AVal} {rs : List AVal} (g : Int) (hK : K < σ.next) (hg : σ.get K = some (.cells (iv l ++ r :: rs) none)) (hN : l.length + 1 ≤ N) :
    aApp t_int 1 8 (.slc (.new K) 0 l.length (.ex N)) (.slc (.new σ.next) 0 1 (.ex 1)) (σ.new (.cells [.int .i64 g] none)) = some (.slc (.new K) 0 (l ++ [g]).length (.ex N), (σ.new (.cells [.int .i64 g] none)).set K (.cells (iv (l ++ [g]) ++ rs) none)) := by
  have hsrc := src_one (σ := σ.new (.cells [.int .i64 g] none)) (K := σ.next) (k := 1) (cs := [.int .i64 g]) (opn := none) (z := .int .i64 g) (cap := .ex 1) (by rw [Heap.get_new, if_pos rfl]) rfl rfl
  have hgK : (σ.new (.cells [.int .i64 g] none)).get K = some (.cells (iv l ++ r :: rs) none) := by rw [Heap.get_new, if_neg (by omega)]; exact hg
  have hov := over_set (l := iv l ++ r :: rs) (j := l.length) (x := .int .i64 g) (by simp [iv_len])
  have hset : (iv l ++ r :: rs).set l.length (.int .i64 g) = iv (l ++ [g]) ++ rs := by
    rw [List.set_append_right _ _ (by rw [iv_len]; exact Nat.le_refl _), iv_len, Nat.sub_self]
    simp [iv]
  rw [hset] at hov
  have hst : storeAt (σ.new (.cells [.int .i64 g] none)) K (0 + l.length * 1) [.int .i64 g] = some ((σ.new (.cells [.int .i64 g] none)).set K (.cells (iv (l ++ [g]) ++ rs) none)) := by
    simp only [storeAt, hgK, Nat.zero_add, Nat.mul_one]
    rw [if_pos (by simp [iv_len, AVal.isCell]), ← hov]; rfl
  simp only [aApp, aLenOf]
  have hs2 : srcCells (σ.new (.cells [.int .i64 g] none)) 1 1 (.slc (.new σ.next) 0 1 (.ex 1)) = some [.int .i64 g] := hsrc.2
  simp only [hs2]
  simp only [List.all_cons, List.all_nil, AVal.isCell, hN, if_true, hst, Option.map_some, List.length_append, List.length_cons, List.length_nil]
  simp
theorem only1_call {σ : Heap} {b : Nat} {g : Int} (hb : σ.get b = some (.cells [.int .i64 g] none)) (x : Int) : ACall Tryz.prog n_undo_Only_1 [.int .i64 x, .ptr (.new b) 0] σ (.bool (x == g)) σ := by
  refine exact_call (spec_of_awp mixed c_undo_Only_1 (tl rfl) ?_)
  unfold f_undo_Only_1
  simp +decide only [↓evd, evw, evz, reduceCtorEq, ↓reduceIte, hb]
def onlyL (E : Eng) (g : Int) : List Int := ((held E).filter (fun x => !(x == g)) ++ if g ∈ E.R.undone (E.R.head : Nat) then [g] else []).mergeSort leI
def onlyE (E : Eng) (g : Int) : Eng × Int × Int := if g ∈ E.R.grp then allE E (onlyL E g) else (E, 0, 210)
theorem held_lt {E : Eng} {g : Int} (h1 : g ∈ E.R.grp) (h2 : g ∈ E.R.undone (E.R.head : Nat)) : (held E).length < E.R.grp.length := by
  rw [held]
  refine Nat.lt_of_le_of_ne (List.length_filter_le _ _) fun e => ?_
  have := List.length_filter_eq_length_iff.1 e g h1
  simp [h2] at this
theorem eonly_at {σ : Heap} {k : Nat} {E E' : Eng} {fp : List Nat} {n c : Int} (h : IsEng σ k E fp) {g : Int} (e : onlyE E g = (E', n, c)) : MSpec Tryz.prog n_undo_Only [.ptr (.new k) 0, .int .i64 g] σ fun v τ => v = .tup [.int .i64 n, .int .i64 c] ∧ ∃ fp', IsEng τ k E' fp' ∧ Keep fp σ τ ∧ Fresh fp σ fp' := by
  by_cases hgm : g ∈ E.R.grp
  case neg =>
    rw [onlyE, if_neg hgm] at e
    cases e
    exact (eonly_no h hgm).mono fun v τ ⟨h1, h2, h3⟩ => ⟨h1, fp, h2, h3.mono (fun x hx => nomatch hx), fun x hx => .inl hx⟩
  rw [onlyE, if_pos hgm] at e
  refine spec_of_awp mixed c_undo_Only (tl rfl) ?_
  unfold f_undo_Only
  have hgl := rise_len h.ok.2.grp
  have huf := undone_few h.ok.2 (E.R.head : Nat)
  have hK : Keep [] σ ((σ.new (.cells [.int .i64 g] none))) := (Keep.refl _ _).new _
  have h1 := h.keep hK (fun y _ => by simp)
  have hgr := egroups_at h1
  have hc := contains_call (σ.new (.cells [.int .i64 g] none)) E.R.grp g (by omega)
  have hho := eholds_spec h1
  have hnx : (σ.new (.cells [.int .i64 g] none)).next = σ.next + 1 := rfl
  simp only [ints] at hgr hc
  simp +decide only [↓evd, evw, evz, reduceCtorEq, ↓reduceIte]
  with_reducible refine draw_of_grow (fun _ => True) (ms := [false, false, false, false, false]) (by kernel_rfl) ?_
  simp +decide only [↓evd, evw, evz, reduceCtorEq, ↓reduceIte]
  refine MSpec.of hgr ⟨.inr Keeps.rfl, ?_⟩
  simp +decide only [↓evd, evw, evz, reduceCtorEq, ↓reduceIte]
  refine MSpec.of hc ⟨.inr Keeps.rfl, ?_⟩
  simp +decide only [↓evd, evw, evz, reduceCtorEq, ↓reduceIte, mem_bool hgm]
  rw [hnx] at hho
  refine hho.mono ?_
  rintro v τ ⟨cs, rfl, hK2, c1, c2, c3, c4⟩
  have hb : τ.get σ.next = some (.cells [.int .i64 g] none) := by rw [hK2.2.2.2 σ.next (by rw [hnx]; omega) (by simp), Heap.get_new, if_pos rfl]
  have hle : (held E).length ≤ E.R.grp.length := List.length_filter_le _ _
  have hsplit : cs = iv (held E) ++ cs.drop (held E).length := by rw [← c3, List.take_append_drop]
  rw [hsplit] at c1
  have hrl : (held E).length + (cs.drop (held E).length).length = E.R.grp.length := by rw [List.length_drop]; omega
  generalize cs.drop (held E).length = rs at c1 hrl
  have hdel := deleteI2_spec τ (σ.next + 1) (held E) rs E.R.grp.length hrl n_undo_Only_1 [.ptr (.new σ.next) 0] (fun x => x == g) (by omega) c1
    (fun ρ hk x _ => only1_call (by rw [hk.2.2.2 σ.next (by omega) (by simp)]; exact hb) x) c4
  simp +decide only [↓evd, evw, evz, reduceCtorEq, ↓reduceIte]
  refine hdel.mono ?_
  rintro v τ2 ⟨rfl, hK3, rs', d1, d2⟩
  have hK4 : Keep [] σ τ2 := (hK.trans hK2 (fun x hx => nomatch hx)).fresh hK3 (fun x hx => by simp at hx; omega)
  have h2 := h.keep hK4 (fun y _ => by simp)
  have hun := eundone_at h2
  have hb2 : τ2.get σ.next = some (.cells [.int .i64 g] none) := by rw [hK3.2.2.2 σ.next (by omega) (by simp)]; exact hb
  have hc2 := contains_call τ2 (E.R.undone (E.R.head : Nat)) g (by omega)
  simp only [ints] at hun hc2
  have hKn : σ.next + 1 < τ2.next := by have := hK3.2.2.1; omega
  have hfl : ((held E).filter (fun x => !(x == g))).length ≤ (held E).length := List.length_filter_le _ _
  simp +decide only [↓evd, evw, evz, reduceCtorEq, ↓reduceIte]
  with_reducible refine draw_of_grow (fun _ => True) (ms := [false, false, false, false]) (by kernel_rfl) ?_
  simp +decide only [↓evd, evw, evz, reduceCtorEq, ↓reduceIte]
  refine MSpec.of hun ⟨.inr Keeps.rfl, ?_⟩
  simp +decide only [↓evd, evw, evz, reduceCtorEq, ↓reduceIte, hb2]
  refine MSpec.of hc2 ⟨.inr Keeps.rfl, ?_⟩
  have fin : ∀ (l : List Int) (rs : List AVal) (τ3 : Heap), l.mergeSort leI = onlyL E g → Keep [] σ τ3 → σ.next + 1 < τ3.next → τ3.get (σ.next + 1) = some (.cells (iv l ++ rs) none) → l.length + rs.length = E.R.grp.length →
      MSpec Tryz.prog n_slices_Sort_int_int [.slc (.new (σ.next + 1)) 0 l.length (.ex E.R.grp.length)] τ3 fun v τ4 => v = .tup [] ∧ MSpec Tryz.prog n_undo_All [.ptr (.new k) 0, .slc (.new (σ.next + 1)) 0 l.length (.ex E.R.grp.length)] τ4 fun v τ => v = .tup [.int .i64 n, .int .i64 c] ∧ ∃ fp', IsEng τ k E' fp' ∧ Keep fp σ τ ∧ Fresh fp σ fp' := by
    intro l rs τ3 hl hk hn hg hN
    have hsc := sortI_call τ3 (σ.next + 1) l rs E.R.grp.length hN (by omega) hg
    rw [hl] at hsc
    refine MSpec.of hsc ⟨rfl, ?_⟩
    have hlen : (onlyL E g).length = l.length := by rw [← hl, List.length_mergeSort]
    rw [← hlen]
    have hs1 : Keep [] σ (τ3.set (σ.next + 1) (.cells (iv (onlyL E g) ++ rs) none)) := hk.set (.inr (by omega)) _
    have hsee : Sees (τ3.set (σ.next + 1) (.cells (iv (onlyL E g) ++ rs) none)) (.slc (.new (σ.next + 1)) 0 (onlyL E g).length (.ex E.R.grp.length)) ((τ3.set (σ.next + 1) (.cells (iv (onlyL E g) ++ rs) none)).set (σ.next + 1) .dead) (ints (onlyL E g)) := by
      refine Sees.own (by rw [Heap.get_set, if_pos rfl]) (by simp) (ivf_row _) ?_ (fun c hc => by cases hc; omega)
      rw [List.drop_zero, Nat.mul_one, List.take_left' (iv_len _), ivf_cell]
    have hs2 := hs1.set (j := σ.next + 1) (.inr (by omega)) .dead
    refine mspec_seen (.cons (Sees.refl _ _) (.cons hsee (.nil _))) ?_
    refine (all_at (h.keep hs2 (fun y _ => by simp)) (l := onlyL E g) (by omega) e).mono ?_
    rintro v τ ⟨rfl, fp', a1, a2, a3⟩
    refine ⟨rfl, fp', a1, (hs2.mono (fun x hx => nomatch hx)).trans a2 (fun x hx => .inl hx), ?_⟩
    intro x hx
    rcases a3 x hx with h | h
    · exact .inl h
    · refine .inr ?_; have := hs2.2.2.1; omega
  by_cases hgu : g ∈ E.R.undone (E.R.head : Nat)
  · have hlt := held_lt hgm hgu
    obtain ⟨r, rs'', rfl⟩ : ∃ r rs'', rs' = r :: rs'' := by
      cases rs' with
      | nil => simp at d2; omega
      | cons r rs'' => exact ⟨r, rs'', rfl⟩
    have hap := app_room (N := E.R.grp.length) g hKn d1 (by omega)
    have hf := fin ((held E).filter (fun x => !(x == g)) ++ [g]) rs'' ((τ2.new (.cells [.int .i64 g] none)).set (σ.next + 1) (.cells (iv ((held E).filter (fun x => !(x == g)) ++ [g]) ++ rs'') none)) (by rw [onlyL, if_pos hgu]) ((hK4.new _).set (.inr (by omega)) _) (by simp; omega) (by rw [Heap.get_set, if_pos rfl]) (by simp at d2 ⊢; omega)
    simp +decide only [↓evd, evw, evz, reduceCtorEq, ↓reduceIte, mem_bool hgu, hb2, hap]
    refine hf.mono ?_
    rintro v τ4 ⟨rfl, hA⟩
    simp +decide only [↓evd, evw, evz, reduceCtorEq, ↓reduceIte]
    refine hA.mono ?_
    rintro v τ5 ⟨rfl, hq⟩
    simp +decide only [↓evd, evw, evz, reduceCtorEq, ↓reduceIte]
    exact hq
  · have hf := fin ((held E).filter (fun x => !(x == g))) rs' τ2 (by rw [onlyL, if_neg hgu, List.append_nil]) hK4 hKn d1 d2
    simp +decide only [↓evd, evw, evz, reduceCtorEq, ↓reduceIte, not_mem_bool hgu]
    refine hf.mono ?_
    rintro v τ4 ⟨rfl, hA⟩
    simp +decide only [↓evd, evw, evz, reduceCtorEq, ↓reduceIte]
    refine hA.mono ?_
    rintro v τ5 ⟨rfl, hq⟩
    simp +decide only [↓evd, evw, evz, reduceCtorEq, ↓reduceIte]
    exact hq
end Go.Proofs.YtkjikdohnomajaaGreat.M
namespace Go.Proofs.YtkjikdohnomajaaGreat.M
open Go Go.Mini
theorem nodup_cnt {l : List Int} (h : l.Nodup) (x : Int) : l.count x = if x ∈ l then 1 else 0 := h.count
theorem rise_filter {l : List Int} (h : Rise l) (p : Int → Bool) : Rise (l.filter p) := ⟨h.1.sublist List.filter_sublist, fun x hx => h.2 x (List.mem_filter.1 hx).1⟩
theorem onlyL_law {grp u : List Int} (hg : Rise grp) (hu : Rise u) (hs : ∀ x ∈ u, x ∈ grp) {g : Int} (hgm : g ∈ grp) :
    let L := (((grp.filter fun x => !decide (x ∈ u)).filter (fun x => !(x == g)) ++ if g ∈ u then [g] else []).mergeSort leI)
    (∀ x ∈ L, x ∈ grp) ∧ L.length ≤ grp.length + 1 ∧ flips u L = grp.filter (fun x => x != g) := by
  intro L
  have hp : L.Perm ((grp.filter fun x => !decide (x ∈ u)).filter (fun x => !(x == g)) ++ if g ∈ u then [g] else []) := List.mergeSort_perm _ _
  generalize L = L' at hp
  clear L
  have hmem : ∀ x, x ∈ L' ↔ (x ∈ grp ∧ x ∉ u ∧ x ≠ g) ∨ (x = g ∧ g ∈ u) := by
    intro x
    rw [hp.mem_iff, List.mem_append, List.mem_filter, List.mem_filter]
    by_cases h : g ∈ u
    · simp [h, and_assoc]
    · simp [h, and_assoc]
  have hnd : L'.Nodup := by
    rw [hp.nodup_iff, List.nodup_append]
    refine ⟨(hg.nodup.sublist List.filter_sublist).sublist List.filter_sublist, by split <;> simp, ?_⟩
    intro a ha b hb e
    subst e
    have := (List.mem_filter.1 ha).2
    split at hb
    · rw [List.mem_singleton] at hb; subst hb; simp at this
    · cases hb
  have hsub : ∀ x ∈ L', x ∈ grp := fun x hx => by
    rcases (hmem x).1 hx with h | h
    · exact h.1
    · rw [h.1]; exact hgm
  refine ⟨hsub, ?_, ?_⟩
  · rw [hp.length_eq, List.length_append]
    have h1 := List.length_filter_le (fun x => !(x == g)) (grp.filter fun x => !decide (x ∈ u))
    have h2 := List.length_filter_le (fun x => !decide (x ∈ u)) grp
    split <;> simp only [List.length_cons, List.length_nil] <;> omega
  · refine rise_ext (flips_rise hg hu hsub) (rise_filter hg _) fun x => ?_
    rw [mem_flips hg hu hsub, nodup_cnt hnd, List.mem_filter]
    have hm := hmem x
    have hx1 := hs x
    by_cases a1 : x ∈ u <;> by_cases a2 : x = g <;> by_cases a3 : x ∈ grp
    all_goals first
      | (exact absurd (hx1 a1) a3)
      | (subst a2; simp_all; done)
      | (simp_all; done)
theorem edit_front_v {E : Eng} (h : E.Ok) (hR : E.R.Ok) (hrev : ∀ a ∈ E.l, a.rev ≤ (E.R.head : Nat)) {g rank : Int} {t : List UInt8} (ht : valid t = true) (hg0 : 0 ≤ g) (hg1 : g < 60) (hgo : g ∉ E.R.gone) (hh : E.R.head < 200) (hr0 : 0 ≤ rank) (hr1 : rank ≤ 1000000) (hlen : E.l.length + t.length ≤ 4000) :
    editE E (E.R.head : Nat) g rank [⟨0, 0, t⟩] = (⟨newAtoms ((E.R.head : Int) + 1) g rank (ptsOf t) ++ E.l, { E.R.push E.R.top with grp := insS g E.R.grp }⟩, (E.R.head : Int) + 1, 0) := by
  have hv := atoms_valid h.txt (E.R.head : Nat) (E.R.undone (E.R.head : Nat))
  have hle := atomsText_le (E.R.head : Nat) (E.R.undone (E.R.head : Nat)) h.txt
  have hck : check (E.text (E.R.head : Nat)) [⟨0, 0, t⟩] = 0 := check_front hv (ht) (by omega)
  have hck' : check (atomsText (E.R.head : Nat) (E.R.undone (E.R.head : Nat)) E.l) [⟨0, 0, t⟩] = 0 := hck
  have hadd := add_good (R := E.R) hgo hg0 hg1 hh
  have hspot : spot E.l (places (E.R.head : Nat) (E.R.undone (E.R.head : Nat)) E.l 0) (E.R.head : Nat) (E.R.undone (E.R.head : Nat)) 0 rank = 0 := by
    unfold spot
    rw [spotF_low _ _ _ _ _ _ _ (places_nonneg _ _ _ _)]
    simp only [List.drop_zero]
    cases hE : E.l with
    | nil => rfl
    | cons a l =>
      have := hrev a (by rw [hE]; simp)
      rw [spotG, if_neg (by omega)]
  have hup : upon E.l (E.R.head : Nat) (E.R.undone (E.R.head : Nat)) [⟨0, 0, t⟩] ((E.R.head : Int) + 1) g rank = newAtoms ((E.R.head : Int) + 1) g rank (ptsOf t) ++ E.l := by
    rw [upon, if_pos hck']
    have hct : cuts E.l (E.R.head : Nat) (E.R.undone (E.R.head : Nat)) [⟨0, 0, t⟩] = [] := by
      rw [cuts, if_pos hck']
      refine cutsF_none _ _ _ (fun p => ?_) _ _ _
      simp only [cutHit, List.any_cons, List.any_nil, Bool.or_false, Bool.and_eq_false_iff, decide_eq_false_iff_not]
      omega
    rw [hct, marked_nil]
    simp only [spotsN, List.map_cons, List.map_nil, hspot, List.zip_cons_cons, List.zip_nil_left, merged, List.take_zero, List.drop_nil, List.nil_append, List.drop_zero]
  have hlv := Eng.live_head hR
  have hnl : (newAtoms ((E.R.head : Int) + 1) g rank (ptsOf t) ++ E.l).length ≤ 4000 := by
    have := (ptsOf_len ht).1
    rw [List.length_append, newAtoms, List.length_map]; omega
  have hcp : ∀ a ∈ newAtoms ((E.R.head : Int) + 1) g rank (ptsOf t) ++ E.l, IsCP a.text := by
    intro a ha
    rcases List.mem_append.1 ha with ha | ha
    · rw [newAtoms, List.mem_map] at ha
      obtain ⟨b, hb, rfl⟩ := ha
      exact (ptsOf_len ht).2.2 b hb
    · exact h.txt a ha
  rw [editE, if_neg (by simp [hlv]), if_neg (by simp [hck]), hadd, if_neg (by simp), if_neg (by omega), hup, if_neg (by omega), if_neg (by simp only [Eng.text]; exact Nat.not_lt.2 (short_text hnl hcp _ _))]
structure OnInv (E : Eng) (i : Nat) (ls : List (List UInt8)) : Prop where
  whole : E.Whole
  head : E.R.head = i
  top : E.R.top = []
  gone : E.R.gone = []
  cuts : ∀ a ∈ E.l, a.cuts = []
  grp : ∀ x, x ∈ E.R.grp ↔ 0 ≤ x ∧ x < (i : Int)
  ing : ∀ a ∈ E.l, 0 ≤ a.group ∧ a.group < (i : Int)
  sub : ∀ j : Nat, j < i → ((E.l.filter fun a => decide (a.group = (j : Int))).map (·.text)).flatten = (ls[j]?).getD []
  len : E.l.length ≤ 20 * i
theorem OnInv.new (ls : List (List UInt8)) : OnInv Eng.new 0 ls := ⟨Eng.Whole.new, rfl, rfl, rfl, fun a h => (by cases h), fun x => ⟨fun h => (by cases h), fun h => (by omega)⟩, fun a h => (by cases h), fun j h => (by omega), by simp [Eng.new]⟩
theorem OnInv.step {E : Eng} {i : Nat} {ls : List (List UInt8)} (h : OnInv E i ls) {s : List UInt8} (hls : ls[i]? = some s) (hs : valid s = true) (hsl : s.length ≤ 20) (hi : i < 50) :
    ∃ E', editE E (i : Nat) (i : Nat) 0 [⟨0, 0, s⟩] = (E', ((i + 1 : Nat) : Int), 0) ∧ OnInv E' (i + 1) ls := by
  obtain ⟨p1, p2, p3⟩ := ptsOf_len hs
  have hrok := h.whole.rok
  have hl := h.len
  have he := edit_front_v (E := E) (g := (i : Nat)) (rank := 0) (t := s) h.whole.ok hrok (fun a ha => (h.whole.known.old a ha).1) hs (by omega) (by omega) (by rw [h.gone]; simp) (by rw [h.head]; omega) (by decide) (by decide) (by omega)
  rw [h.head] at he
  have hw' := h.whole.edit he
  obtain ⟨_, _, _, _, _, _, _, _, _, _, hh'⟩ := edit_shape hrok he
  have hgn : ∀ a ∈ newAtoms ((i : Int) + 1) (i : Nat) 0 (ptsOf s), a.cuts = [] ∧ a.group = (i : Nat) := fun a ha => by
    rw [newAtoms, List.mem_map] at ha; obtain ⟨p, hp, rfl⟩ := ha; exact ⟨rfl, rfl⟩
  have hnt : ((newAtoms ((i : Int) + 1) (i : Nat) 0 (ptsOf s)).map (·.text)).flatten = s := by
    rw [newAtoms, List.map_map]
    rw [show (List.map ((fun x => x.text) ∘ fun b => (⟨b, (i : Int) + 1, (i : Nat), 0, []⟩ : Atom)) (ptsOf s)) = ptsOf s from List.map_id _, p2]
  have hnl : (newAtoms ((i : Int) + 1) (i : Nat) 0 (ptsOf s)).length = (ptsOf s).length := by simp [newAtoms]
  refine ⟨_, he, ⟨hw', by rw [hh', h.head], (top_push E.R E.R.top).trans h.top, h.gone, fun a ha => ?_, fun x => ?_, fun a ha => ?_, fun j hj => ?_, ?_⟩⟩
  · rcases List.mem_append.1 ha with ha | ha
    · exact (hgn a ha).1
    · exact h.cuts a ha
  · show x ∈ insS _ _ ↔ _
    rw [mem_insS, h.grp x]; omega
  · rcases List.mem_append.1 ha with ha | ha
    · rw [(hgn a ha).2]; omega
    · have := h.ing a ha; omega
  · simp only [List.filter_append, List.map_append, List.flatten_append]
    by_cases e : j = i
    · subst e
      rw [List.filter_eq_self.2 (fun a ha => by rw [(hgn a ha).2]; simp), hnt, List.filter_eq_nil_iff.2 (fun a ha => by have := h.ing a ha; simp; omega), hls]; simp
    · rw [List.filter_eq_nil_iff.2 (fun a ha => by rw [(hgn a ha).2]; simp; omega), h.sub j (by omega)]; simp
  · simp only [List.length_append, hnl]; omega
theorem OnInv.tinv {E : Eng} {i : Nat} {ls : List (List UInt8)} (h : OnInv E i ls) (hi : i ≤ 100) : TInv E E.l E.R.grp [] i :=
  ⟨rfl, fun x hx => by (cases hx), rfl, h.top, h.head, by have := h.whole.ok.len; exact this, h.whole.ok, h.whole.rok⟩
theorem only_text {E : Eng} {l : List Atom} {grp u : List Int} {h : Nat} (t : TInv E l grp u h) (hh : h ≤ 100) {k : Int} (hk : k ∈ grp) (ho : ∀ a ∈ l, a.cuts = [] ∧ a.rev ≤ (h : Int) ∧ a.group ∈ grp ∧ a.group ≠ -1) :
    ∃ E' h', onlyE E k = (E', ((h' : Nat) : Int), 0) ∧ TInv E' l grp (grp.filter fun x => x != k) h' ∧ h ≤ h' ∧ h' ≤ h + 61 ∧ E'.text (E'.R.head : Nat) = ((l.filter fun a => decide (a.group = k)).map (·.text)).flatten := by
  have hgr : Rise grp := by rw [← t.grp]; exact t.R.grp
  have hgl := rise_len hgr
  obtain ⟨l1, l2, l3⟩ := onlyL_law hgr t.rise t.sub hk
  have hL : onlyL E k = (((grp.filter fun x => !decide (x ∈ u)).filter (fun x => !(x == k)) ++ if k ∈ u then [k] else []).mergeSort leI) := by
    rw [onlyL, held, t.undone, t.grp]
  rw [← hL] at l1 l2 l3
  obtain ⟨E2, ha2, ht2⟩ := t.all (ks := onlyL E k) (by omega) l1
  rw [l3] at ht2
  refine ⟨E2, h + (onlyL E k).length, by rw [onlyE, if_pos (by rw [t.grp]; exact hk)]; exact ha2, ht2, by omega, by omega, ?_⟩
  rw [Eng.text, ht2.undone, ht2.ls, ht2.head, filter_text]
  congr 2
  refine List.filter_congr fun a ha => ?_
  obtain ⟨o1, o2, o3, o4⟩ := ho a ha
  have o5 : a.rev ≤ ((h + (onlyL E k).length : Nat) : Int) := by omega
  have hm : a.group ∈ grp.filter (fun x => x != k) ↔ a.group ≠ k := by simp [o3]
  have e1 : decide (a.rev ≤ ((h + (onlyL E k).length : Nat) : Int)) = true := decide_eq_true o5
  simp only [visible, holds, o1, List.any_nil, Bool.not_false, Bool.and_true, e1, Bool.true_and, decide_eq_false o4, Bool.false_or]
  by_cases e : a.group = k
  · rw [decide_eq_true e, decide_eq_false (fun h => hm.1 h e)]; rfl
  · rw [decide_eq_false e, decide_eq_true (hm.2 e)]; rfl
end Go.Proofs.YtkjikdohnomajaaGreat.M
namespace Go.Proofs.YtkjikdohnomajaaGreat.M
open Go Go.Mini
attribute [local congr] go1_congr goM_congr goG_congr goV_congr drawwp_congr Xwp_congr
set_option maxHeartbeats 8000000 in
theorem wholeOnly_fspec (W : World) (l : List (List UInt8)) (n : Int) (hn0 : 0 ≤ n) (hn1 : n < 256) : FSpec Tryz.prog n_palinodetop_WholeOnly [eStrs l, .int .u8 n] (Heap.bare W (cellsOf W)) fun v s => v = .bool true ∧ s.W = W := by
  refine fspec_of_awp mixed c_palinodetop_WholeOnly (tl rfl) ?_
  unfold f_palinodetop_WholeOnly
  simp +decide only [↓evd, evw, evz, reduceCtorEq, ↓reduceIte]
  refine MSpec.of (knownT_call _ rfl) ?_
  by_cases h1 : (l.length : Int) < 1
  · simp +decide only [↓evd, evw, evz, reduceCtorEq, ↓reduceIte, eStrs, h1]
  by_cases h12 : (12 : Int) < l.length
  · simp +decide only [↓evd, evw, evz, reduceCtorEq, ↓reduceIte, eStrs, h1, h12]
  simp +decide only [↓evd, evw, evz, reduceCtorEq, ↓reduceIte, eStrs, h1, h12]
  refine (enew_at _ rfl).mono ?_
  rintro v τ ⟨k, fp0, rfl, h0, hf0, k0⟩
  simp +decide only [↓evd, evw, evz, reduceCtorEq, ↓reduceIte]
  refine awp_loop (fun m fr ρ => ∃ (i : Nat) (E : Eng) (fp : List Nat), m + i = l.length ∧ fr.get 0 = eStrs l ∧ fr.get 1 = .int .u8 n ∧ fr.get 5 = .ptr (.new k) 0 ∧ fr.get 6 = .int .i64 (i : Nat) ∧ IsEng ρ k E fp ∧ OnInv E i l ∧ ρ.W = W) ?_ (m := l.length) ?_
  · clear h0 hf0 k0
    rintro m fr ρ ⟨i, E, fp, hi, e0, e1, e5, e6, hE, hI, hW⟩
    by_cases hlt : i < l.length
    · have hlt' : (i : Int) < (l.length : Int) := by omega
      have hs := wrap_succ (i := i) (by omega)
      have hgt := map_get AVal.str l i hlt
      have hls : l[i]? = some l[i] := List.getElem?_eq_getElem hlt
      generalize l[i] = s at hgt hls
      by_cases hs20 : (20 : Int) < (s.length : Int)
      · simp +decide only [↓evd, evw, evz, reduceCtorEq, ↓reduceIte, e0, e1, e5, e6, hlt', eStrs, hgt, hs20]
        exact hW
      have hva := rvalid_call ρ s (by unfold maxRoom; omega)
      simp +decide only [↓evd, evw, evz, reduceCtorEq, ↓reduceIte, e0, e1, e5, e6, hlt', eStrs, hgt, hs20]
      refine MSpec.of hva ?_
      cases hvs : valid s with
      | false => simp +decide only [↓evd, evw, evz, reduceCtorEq, ↓reduceIte]; exact hW
      | true =>
      obtain ⟨E', he, hI'⟩ := hI.step hls hvs (by omega) (by omega)
      have hEz := fun z => hE.keep ((Keep.refl [] ρ).new (.cells z none)) (fun x _ => by simp)
      have hhz := fun z => ehead_at (hEz z)
      rw [hI.head] at hhz
      have hed := eedit_lit (q := 1) hE rfl (by simp) (by intro c hc; simp at hc; subst hc; simp only; omega) he
      have z0 : ((0 : Int) != 0) = false := rfl
      simp +decide only [↓evd, evw, evz, reduceCtorEq, ↓reduceIte, e0, e1, e5, e6, hlt', hgt]
      refine ⟨[.int .i64 0, .int .i64 0, .str s], ?_⟩
      with_reducible refine draw_of_grow (fun _ => True) (ms := [false, false, false, false, false, false, false, false, false, false, true, false, false, false, false, false]) (by kernel_rfl) ?_
      simp +decide only [↓evd, evw, evz, reduceCtorEq, ↓reduceIte, e0, e1, e5, e6, hlt', hgt]
      refine MSpec.of (hhz _) ⟨.inr Keeps.rfl, ?_⟩
      simp +decide only [↓evd, evw, evz, reduceCtorEq, ↓reduceIte, e0, e1, e5, e6, hlt', eStrs, hgt, Nat.add_zero, beq_self_eq_true]
      refine hed.mono ?_
      rintro v ρ2 ⟨rfl, fp', hE', kk, ff⟩
      simp +decide only [↓evd, evw, evz, reduceCtorEq, ↓reduceIte, e0, e1, e5, e6, z0, hs]
      exact ⟨m - 1, by omega, i + 1, E', fp', by omega, rfl, rfl, hE', hI', kk.1.trans hW⟩
    · have hlt' : ¬ (i : Int) < (l.length : Int) := by omega
      have hil : i = l.length := by omega
      subst hil
      have hlp : 0 < l.length := by omega
      have hm := tmod_nat (n := l.length) hn0 hlp
      have hq := Nat.mod_lt n.toNat hlp
      generalize n.toNat % l.length = q at hm hq
      have hm2 := tmod_nat (a := ((q + 1 : Nat) : Int)) (n := l.length) (by omega) hlp
      rw [Int.toNat_natCast] at hm2
      have hp := Nat.mod_lt (q + 1) hlp
      generalize (q + 1) % l.length = p at hm2 hp
      have wn : IntKind.i64.wrap n = n := wrap_id (by omega) (by omega)
      have wq := wrap_succ (i := q) (by omega)
      have hnl : ((l.length : Int) = 0) = False := eq_false (by omega)
      have ho : ∀ a ∈ E.l, a.cuts = [] ∧ a.rev ≤ (l.length : Int) ∧ a.group ∈ E.R.grp ∧ a.group ≠ -1 := fun a ha => by
        have h2 := hI.ing a ha
        have h3 := (hI.whole.known.old a ha).1
        rw [hI.head] at h3
        exact ⟨hI.cuts a ha, h3, (hI.grp _).2 h2, by omega⟩
      have hT := hI.tinv (by omega)
      obtain ⟨E1, h1', he1, hT1, hb1, hb2, ht1⟩ := only_text hT (by omega) ((hI.grp (q : Nat)).2 (by omega)) ho
      obtain ⟨E2, h2', he2, hT2, hb3, hb4, ht2⟩ := only_text hT1 (by omega) ((hI.grp (p : Nat)).2 (by omega)) (fun a ha => by
        have := ho a ha; exact ⟨this.1, by omega, this.2.2⟩)
      rw [hI.sub q hq] at ht1
      rw [hI.sub p hp] at ht2
      have gq := map_get AVal.str l q hq
      have gp := map_get AVal.str l p hp
      rw [List.getElem?_eq_getElem hq, Option.getD_some] at ht1
      rw [List.getElem?_eq_getElem hp, Option.getD_some] at ht2
      generalize l[q] = sq at gq ht1
      generalize l[p] = sp at gp ht2
      have hq' : (q : Int) < (l.length : Int) := by omega
      have hp' : (p : Int) < (l.length : Int) := by omega
      have b0 : ((0 : Int) == 0) = true := rfl
      have bq : aStr .eql sq sq = some (.bool true) := aStr_self _
      simp +decide only [↓evd, evw, evz, reduceCtorEq, ↓reduceIte, e0, e1, e5, e6, hlt', eStrs, wn, hnl, hm]
      refine (eonly_at hE he1).mono ?_
      rintro v τ1 ⟨rfl, fp1, hE1, kk1, _⟩
      have hn1 := now_call hE1 hT1.R
      rw [ht1] at hn1
      simp +decide only [↓evd, evw, evz, reduceCtorEq, ↓reduceIte, e0, e1, e5]
      refine MSpec.of hn1 ?_
      simp +decide only [↓evd, evw, evz, reduceCtorEq, ↓reduceIte, e0, e1, e5, eStrs, wq, hnl, hm2]
      refine (eonly_at hE1 he2).mono ?_
      rintro v τ2 ⟨rfl, fp2, hE2, kk2, _⟩
      have hn2 := now_call hE2 hT2.R
      rw [ht2] at hn2
      simp +decide only [↓evd, evw, evz, reduceCtorEq, ↓reduceIte, e0, e1, e5]
      with_reducible refine draw_of_grow (fun _ => True) (ms := [false, false, false, false, false, false, false, false, false, false, false, false, false, false, false, false, false, false, false, false, false, false, false, false, false, false, false, false]) (by kernel_rfl) ?_
      simp +decide only [↓evd, evw, evz, reduceCtorEq, ↓reduceIte, e0, e1, e5, eStrs, b0, gq, bq]
      refine MSpec.of hn2 ⟨.inr Keeps.rfl, ?_⟩
      simp +decide only [↓evd, evw, evz, reduceCtorEq, ↓reduceIte, e0, e1, e5, eStrs, wq, hnl, hm2, gp, aStr_self]
      exact kk2.1.trans (kk1.1.trans hW)
  · refine ⟨0, Eng.new, fp0, by omega, ?_⟩
    simp +decide only [↓evd, evw, evz, reduceCtorEq, ↓reduceIte, eStrs]
    exact ⟨h0, OnInv.new l, k0.1⟩
theorem wholeOnly_row (W : World) (a0 : List (List UInt8)) (a1 : Int) (g0 : GList GStr a0) (g1 : GInt .u8 a1) : FSpec Tryz.prog n_palinodetop_WholeOnly [.fsl 1 (a0.map AVal.str), .int .u8 a1] (Heap.bare W (cellsOf W)) fun v s => v = .bool true ∧ s.W = W :=
  wholeOnly_fspec W a0 a1 (gint_u8 g1).1 (gint_u8 g1).2
end Go.Proofs.YtkjikdohnomajaaGreat.M

