/- A part of the seat's proofs over the abstract machine. No condition. -/
import Derived.Test.YtcchmmjjfglpgaaGreatWB
set_option linter.unusedSimpArgs false
set_option linter.unusedVariables false
set_option maxRecDepth 100000
namespace Go.Proofs.YtcchmmjjfglpgaaGreat.M
open Go Go.Mini
attribute [local congr] go1_congr goM_congr goG_congr goV_congr drawwp_congr Xwp_congr
/-! ### All but one taken back -/
theorem aStr_add {a b : List UInt8} (h : a.length + b.length ≤ 4611686018427387904) : aStr .add a b = some (.str (a ++ b)) := by
  have e : (2 : Nat) ^ 62 = 4611686018427387904 := by decide
  simp only [aStr]; rw [if_pos (by rw [e]; exact h)]
def lettersD (g : Int) : List Int → Nat → List UInt8
  | [], _ => []
  | x :: gs, j => lettersD g gs (j + 1) ++ (if x.tmod 10 = g then [letter j] else [])
theorem lettersD_len (g : Int) : ∀ (gs : List Int) (j : Nat), (lettersD g gs j).length ≤ gs.length
  | [], j => Nat.le_refl _
  | x :: gs, j => by
    have := lettersD_len g gs (j + 1)
    rw [lettersD, List.length_append, List.length_cons]
    split <;> simp <;> omega
theorem madeF_grp : ∀ (gs : List Int) (E : Eng) (j : Nat) (x : Int), x ∈ (madeF E j gs).R.grp ↔ x ∈ E.R.grp ∨ ∃ y ∈ gs, x = y.tmod 10
  | [], E, j, x => by simp [madeF]
  | g :: gs, E, j, x => by
    rw [madeF, madeF_grp gs]
    have : x ∈ (stepM E j g).R.grp ↔ x = g.tmod 10 ∨ x ∈ E.R.grp := by
      show x ∈ insS _ _ ↔ _
      exact mem_insS
    rw [this]
    simp only [List.mem_cons]
    constructor
    · rintro ((h | h) | ⟨y, h1, h2⟩)
      · exact .inr ⟨g, .inl rfl, h⟩
      · exact .inl h
      · exact .inr ⟨y, .inr h1, h2⟩
    · rintro (h | ⟨y, rfl | h1, h2⟩)
      · exact .inl (.inr h)
      · exact .inl (.inl h2)
      · exact .inr ⟨y, h1, h2⟩
theorem made_text {h g : Int} {u : List Int} : ∀ (gs : List Int) (E : Eng) (j : Nat), (j : Int) + gs.length ≤ h → (∀ y ∈ gs, 0 ≤ y) → (∀ y ∈ gs, (y.tmod 10 ∈ u ↔ y.tmod 10 ≠ g)) → atomsText h u (madeF E j gs).l = lettersD g gs j ++ atomsText h u E.l
  | [], E, j, _, _, _ => rfl
  | y :: gs, E, j, hl, hp, hu => by
    have hl' : (j : Int) + 1 + gs.length ≤ h := by simp only [List.length_cons] at hl; omega
    rw [madeF, made_text gs (stepM E j y) (j + 1) (by omega) (fun z hz => hp z (List.mem_cons_of_mem _ hz)) (fun z hz => hu z (List.mem_cons_of_mem _ hz))]
    show lettersD g gs (j + 1) ++ ((if visible h u ⟨[letter j], (j : Int) + 1, y.tmod 10, 0, []⟩ then [letter j] else []) ++ atomsText h u E.l) = _
    rw [← List.append_assoc, lettersD]
    congr 2
    have h1 := hu y (by simp)
    have h2 := tmod10 (hp y (by simp))
    have e1 : decide ((j : Int) + 1 ≤ h) = true := decide_eq_true (by omega)
    have e2 : decide (y.tmod 10 = -1) = false := decide_eq_false (by omega)
    simp only [visible, holds, e1, e2, List.any_nil, Bool.not_false, Bool.and_true, Bool.true_and, Bool.false_or]
    by_cases hy : y.tmod 10 = g
    · rw [if_pos hy, if_pos]; simp; exact fun hm => (h1.1 hm) hy
    · rw [if_neg hy, if_neg]; simp; exact h1.2 hy
theorem nodup_cnt {l : List Int} (h : l.Nodup) (x : Int) : l.count x = if x ∈ l then 1 else 0 := h.count
theorem rise_filter {l : List Int} (h : Rise l) (p : Int → Bool) : Rise (l.filter p) := ⟨h.1.sublist List.filter_sublist, fun x hx => h.2 x (List.mem_filter.1 hx).1⟩
theorem onlyL_law {grp u : List Int} (hg : Rise grp) (hu : Rise u) (hs : ∀ x ∈ u, x ∈ grp) {g : Int} (hgm : g ∈ grp) :
    let L := (((grp.filter fun x => !decide (x ∈ u)).filter (fun x => !(x == g)) ++ if g ∈ u then [g] else []).mergeSort leI)
    (∀ x ∈ L, x ∈ grp) ∧ L.length ≤ grp.length + 1 ∧ flips u L = grp.filter (fun x => x != g) := by
  intro L
  have hp : L.Perm ((grp.filter fun x => !decide (x ∈ u)).filter (fun x => !(x == g)) ++ if g ∈ u then [g] else []) := List.mergeSort_perm _ _
  generalize L = L' at hp
  clear L
  have hmem : ∀ x, x ∈ L' ↔ (x ∈ grp ∧ x ∉ u ∧ x ≠ g) ∨ (x = g ∧ g ∈ u) := by
    intro x
    rw [hp.mem_iff, List.mem_append, List.mem_filter, List.mem_filter]
    by_cases h : g ∈ u
    · simp [h, and_assoc]
    · simp [h, and_assoc]
  have hnd : L'.Nodup := by
    rw [hp.nodup_iff, List.nodup_append]
    refine ⟨(hg.nodup.sublist List.filter_sublist).sublist List.filter_sublist, by split <;> simp, ?_⟩
    intro a ha b hb e
    subst e
    have := (List.mem_filter.1 ha).2
    split at hb
    · rw [List.mem_singleton] at hb; subst hb; simp at this
    · cases hb
  have hsub : ∀ x ∈ L', x ∈ grp := fun x hx => by
    rcases (hmem x).1 hx with h | h
    · exact h.1
    · rw [h.1]; exact hgm
  refine ⟨hsub, ?_, ?_⟩
  · rw [hp.length_eq, List.length_append]
    have h1 := List.length_filter_le (fun x => !(x == g)) (grp.filter fun x => !decide (x ∈ u))
    have h2 := List.length_filter_le (fun x => !decide (x ∈ u)) grp
    split <;> simp only [List.length_cons, List.length_nil] <;> omega
  · refine rise_ext (flips_rise hg hu hsub) (rise_filter hg _) fun x => ?_
    rw [mem_flips hg hu hsub, nodup_cnt hnd, List.mem_filter]
    have hm := hmem x
    have hx1 := hs x
    by_cases a1 : x ∈ u <;> by_cases a2 : x = g <;> by_cases a3 : x ∈ grp
    all_goals first
      | (exact absurd (hx1 a1) a3)
      | (subst a2; simp_all; done)
      | (simp_all; done)
set_option maxHeartbeats 8000000 in
theorem undoOnly_fspec (W : World) (gs first : List Int) (g : Int) (hg : ∀ y ∈ gs, 0 ≤ y ∧ y < 256) : FSpec Tryz.prog n_palinodelaw21_UndoOnly [eU8s gs, ints first, .int .i64 g] (Heap.bare W (cellsOf W)) fun v s => v = .bool true ∧ s.W = W := by
  refine fspec_of_xwp c_palinodelaw21_UndoOnly (Nat.le_of_ble_eq_true rfl) ?_
  unfold f_palinodelaw21_UndoOnly
  refine x_seq mixed ?_
  simp only [↓evd, evu, evf, implies_true, reduceCtorEq, Nat.reduceEqDiff, ↓reduceIte, Nat.reduceAdd, Nat.reduceLeDiff, Nat.reduceLT, Nat.reduceMul, Int.reduceLT, Int.reduceLE, Int.reduceToNat, evz]
  refine x_seq mixed ?_
  simp only [↓evd, evu, evf, implies_true, reduceCtorEq, Nat.reduceEqDiff, ↓reduceIte, Nat.reduceAdd, Nat.reduceLeDiff, Nat.reduceLT, Nat.reduceMul, Int.reduceLT, Int.reduceLE, Int.reduceToNat, evz]
  refine MSpec.of (known21_call _ rfl) ?_
  simp only [↓evd, evu, evf, implies_true, reduceCtorEq, Nat.reduceEqDiff, ↓reduceIte, Nat.reduceAdd, Nat.reduceLeDiff, Nat.reduceLT, Nat.reduceMul, Int.reduceLT, Int.reduceLE, Int.reduceToNat, evz]
  refine x_seq mixed ?_
  simp only [↓evd, evu, evf, implies_true, reduceCtorEq, Nat.reduceEqDiff, ↓reduceIte, Nat.reduceAdd, Nat.reduceLeDiff, Nat.reduceLT, Nat.reduceMul, Int.reduceLT, Int.reduceLE, Int.reduceToNat, evz]
  by_cases h1 : (20 : Int) < gs.length
  · simp only [↓evd, evu, evf, implies_true, reduceCtorEq, Nat.reduceEqDiff, ↓reduceIte, Nat.reduceAdd, Nat.reduceLeDiff, Nat.reduceLT, Nat.reduceMul, Int.reduceLT, Int.reduceLE, Int.reduceToNat, evz, eU8s, h1]
  by_cases h2 : (10 : Int) < first.length
  · simp only [↓evd, evu, evf, implies_true, reduceCtorEq, Nat.reduceEqDiff, ↓reduceIte, Nat.reduceAdd, Nat.reduceLeDiff, Nat.reduceLT, Nat.reduceMul, Int.reduceLT, Int.reduceLE, Int.reduceToNat, evz, eU8s, h1, h2]
  have hinv := madeE_inv (gs := gs) (by omega) (fun g h => (hg g h).1)
  have hti := hinv.tinv (by omega)
  have hgmem : ∀ y ∈ gs, y.tmod 10 ∈ (madeE gs).R.grp := fun y hy => (madeF_grp gs Eng.new 0 _).2 (.inr ⟨y, hy, rfl⟩)
  have htxt : ∀ (h : Int) (u : List Int), (gs.length : Int) ≤ h → (∀ y ∈ gs, (y.tmod 10 ∈ u ↔ y.tmod 10 ≠ g)) → atomsText h u (madeE gs).l = lettersD g gs 0 := fun h u hh hu => by
    rw [madeE, made_text gs Eng.new 0 (by omega) (fun y hy => (hg y hy).1) hu]
    show _ ++ [] = _
    rw [List.append_nil]
  have hmade := fun (σ : Heap) (hd : σ.F0.dr = false) => made_at σ hd gs (by omega) hg
  generalize hE : madeE gs = E at hti hmade hinv hgmem htxt
  clear hinv
  obtain ⟨E1, n1, c1, u, h, ha1, ht1, hh1⟩ := hti.all_any (ks := first) (by omega)
  have hjh : gs.length ≤ h := by
    by_cases hk : ∀ g ∈ first, g ∈ E.R.grp
    · obtain ⟨E', e1, e2⟩ := hti.all (by omega) hk
      rw [ha1] at e1; cases e1
      have := e2.head; have := ht1.head; omega
    · rw [hti.all_no (by omega) hk] at ha1
      cases ha1
      have := hti.head; have := ht1.head; omega
  generalize E.R.grp = grp at hti ht1 hgmem
  generalize E.l = al at hti ht1 htxt
  have hgrise : Rise grp := by rw [← hti.grp]; exact hti.R.grp
  have hgl := rise_len hgrise
  have hur := ht1.rise
  have hul := rise_len hur
  simp only [eU8s] at hmade
  simp only [↓evd, evu, evf, implies_true, reduceCtorEq, Nat.reduceEqDiff, ↓reduceIte, Nat.reduceAdd, Nat.reduceLeDiff, Nat.reduceLT, Nat.reduceMul, Int.reduceLT, Int.reduceLE, Int.reduceToNat, evz, eU8s, h1, h2]
  refine x_seq mixed ?_
  simp only [↓evd, evu, evf, implies_true, reduceCtorEq, Nat.reduceEqDiff, ↓reduceIte, Nat.reduceAdd, Nat.reduceLeDiff, Nat.reduceLT, Nat.reduceMul, Int.reduceLT, Int.reduceLE, Int.reduceToNat, evz]
  refine (hmade _ rfl).mono ?_
  rintro v τ0 ⟨k, fp0, rfl, hA0, hf0, k0⟩
  simp only [↓evd, evu, evf, implies_true, reduceCtorEq, Nat.reduceEqDiff, ↓reduceIte, Nat.reduceAdd, Nat.reduceLeDiff, Nat.reduceLT, Nat.reduceMul, Int.reduceLT, Int.reduceLE, Int.reduceToNat, evz]
  refine x_seq mixed ?_
  simp only [↓evd, evu, evf, implies_true, reduceCtorEq, Nat.reduceEqDiff, ↓reduceIte, Nat.reduceAdd, Nat.reduceLeDiff, Nat.reduceLT, Nat.reduceMul, Int.reduceLT, Int.reduceLE, Int.reduceToNat, evz]
  refine (all_at hA0 (l := first) (by omega) ha1).mono ?_
  rintro v τ ⟨rfl, fp1, hA, k1, f1⟩
  have hWτ : τ.W = W := k1.1.trans k0.1
  simp only [↓evd, evu, evf, implies_true, reduceCtorEq, Nat.reduceEqDiff, ↓reduceIte, Nat.reduceAdd, Nat.reduceLeDiff, Nat.reduceLT, Nat.reduceMul, Int.reduceLT, Int.reduceLE, Int.reduceToNat, evz]
  have hun := eundone_at hA
  have hhd := ehead_at hA
  have hgr := egroups_at hA
  rw [ht1.undone] at hun
  rw [ht1.head] at hhd
  rw [ht1.grp] at hgr
  simp only [ints] at hun hgr
  refine x_seq mixed ?_
  simp only [↓evd, evu, evf, implies_true, reduceCtorEq, Nat.reduceEqDiff, ↓reduceIte, Nat.reduceAdd, Nat.reduceLeDiff, Nat.reduceLT, Nat.reduceMul, Int.reduceLT, Int.reduceLE, Int.reduceToNat, evz]
  refine MSpec.of hun ?_
  simp only [↓evd, evu, evf, implies_true, reduceCtorEq, Nat.reduceEqDiff, ↓reduceIte, Nat.reduceAdd, Nat.reduceLeDiff, Nat.reduceLT, Nat.reduceMul, Int.reduceLT, Int.reduceLE, Int.reduceToNat, evz]
  refine MSpec.of hhd ?_
  simp only [↓evd, evu, evf, implies_true, reduceCtorEq, Nat.reduceEqDiff, ↓reduceIte, Nat.reduceAdd, Nat.reduceLeDiff, Nat.reduceLT, Nat.reduceMul, Int.reduceLT, Int.reduceLE, Int.reduceToNat, evz]
  refine x_seq mixed ?_
  simp only [↓evd, evu, evf, implies_true, reduceCtorEq, Nat.reduceEqDiff, ↓reduceIte, Nat.reduceAdd, Nat.reduceLeDiff, Nat.reduceLT, Nat.reduceMul, Int.reduceLT, Int.reduceLE, Int.reduceToNat, evz]
  refine MSpec.of hgr ?_
  simp only [↓evd, evu, evf, implies_true, reduceCtorEq, Nat.reduceEqDiff, ↓reduceIte, Nat.reduceAdd, Nat.reduceLeDiff, Nat.reduceLT, Nat.reduceMul, Int.reduceLT, Int.reduceLE, Int.reduceToNat, evz]
  have bh : ∀ n : Nat, (((n : Nat) : Int) == ((n : Nat) : Int)) = true := fun n => by simp
  by_cases hgm : g ∈ grp
  case neg =>
    have he : onlyE E1 g = (E1, 0, 210) := by rw [onlyE, if_neg (by rw [ht1.grp]; exact hgm)]
    refine x_seq mixed ?_
    simp only [↓evd, evu, evf, implies_true, reduceCtorEq, Nat.reduceEqDiff, ↓reduceIte, Nat.reduceAdd, Nat.reduceLeDiff, Nat.reduceLT, Nat.reduceMul, Int.reduceLT, Int.reduceLE, Int.reduceToNat, evz]
    refine (eonly_at hA he).mono ?_
    rintro v τ2 ⟨rfl, fp2, hA2, k2, f2⟩
    simp only [↓evd, evu, evf, implies_true, reduceCtorEq, Nat.reduceEqDiff, ↓reduceIte, Nat.reduceAdd, Nat.reduceLeDiff, Nat.reduceLT, Nat.reduceMul, Int.reduceLT, Int.reduceLE, Int.reduceToNat, evz]
    have hin := in_call τ2 grp g (by omega)
    have hun2 := eundone_at hA2
    have hhd2 := ehead_at hA2
    rw [ht1.undone] at hun2
    rw [ht1.head] at hhd2
    have hsm := same21_call τ2 u u (by omega)
    simp only [ints] at hin hun2 hsm
    have b0 : ((0 : Int) == 0) = true := rfl
    have b1 : ((210 : Int) == 210) = true := rfl
    refine x_seq mixed ?_
    simp only [↓evd, evu, evf, implies_true, reduceCtorEq, Nat.reduceEqDiff, ↓reduceIte, Nat.reduceAdd, Nat.reduceLeDiff, Nat.reduceLT, Nat.reduceMul, Int.reduceLT, Int.reduceLE, Int.reduceToNat, evz]
    refine MSpec.of hin ?_
    simp only [↓evd, evu, evf, implies_true, reduceCtorEq, Nat.reduceEqDiff, ↓reduceIte, Nat.reduceAdd, Nat.reduceLeDiff, Nat.reduceLT, Nat.reduceMul, Int.reduceLT, Int.reduceLE, Int.reduceToNat, evz, not_mem_bool hgm, b0, b1]
    refine MSpec.of hun2 ?_
    simp only [↓evd, evu, evf, implies_true, reduceCtorEq, Nat.reduceEqDiff, ↓reduceIte, Nat.reduceAdd, Nat.reduceLeDiff, Nat.reduceLT, Nat.reduceMul, Int.reduceLT, Int.reduceLE, Int.reduceToNat, evz]
    refine MSpec.of hsm ?_
    simp only [↓evd, evu, evf, implies_true, reduceCtorEq, Nat.reduceEqDiff, ↓reduceIte, Nat.reduceAdd, Nat.reduceLeDiff, Nat.reduceLT, Nat.reduceMul, Int.reduceLT, Int.reduceLE, Int.reduceToNat, evz]
    refine MSpec.of hhd2 ?_
    simp only [↓evd, evu, evf, implies_true, reduceCtorEq, Nat.reduceEqDiff, ↓reduceIte, Nat.reduceAdd, Nat.reduceLeDiff, Nat.reduceLT, Nat.reduceMul, Int.reduceLT, Int.reduceLE, Int.reduceToNat, evz, bh]
    exact k2.1.trans hWτ
  obtain ⟨l1, l2, l3⟩ := onlyL_law hgrise hur ht1.sub hgm
  have hL : onlyL E1 g = (((grp.filter fun x => !decide (x ∈ u)).filter (fun x => !(x == g)) ++ if g ∈ u then [g] else []).mergeSort leI) := by
    rw [onlyL, held, ht1.undone, ht1.grp]
  rw [← hL] at l1 l2 l3
  obtain ⟨E2, ha2, ht2⟩ := ht1.all (ks := onlyL E1 g) (by omega) l1
  rw [l3] at ht2
  have he : onlyE E1 g = (E2, ((h + (onlyL E1 g).length : Nat) : Int), 0) := by rw [onlyE, if_pos (by rw [ht1.grp]; exact hgm)]; exact ha2
  obtain ⟨q, hq⟩ : ∃ q, h + (onlyL E1 g).length = q := ⟨_, rfl⟩
  rw [hq] at he ht2
  have hqh : gs.length ≤ q := by omega
  refine x_seq mixed ?_
  simp only [↓evd, evu, evf, implies_true, reduceCtorEq, Nat.reduceEqDiff, ↓reduceIte, Nat.reduceAdd, Nat.reduceLeDiff, Nat.reduceLT, Nat.reduceMul, Int.reduceLT, Int.reduceLE, Int.reduceToNat, evz]
  refine (eonly_at hA he).mono ?_
  rintro v τ2 ⟨rfl, fp2, hA2, k2, f2⟩
  have hW2 : τ2.W = W := k2.1.trans hWτ
  simp only [↓evd, evu, evf, implies_true, reduceCtorEq, Nat.reduceEqDiff, ↓reduceIte, Nat.reduceAdd, Nat.reduceLeDiff, Nat.reduceLT, Nat.reduceMul, Int.reduceLT, Int.reduceLE, Int.reduceToNat, evz]
  have hin := in_call τ2 grp g (by omega)
  simp only [ints] at hin
  refine x_seq mixed ?_
  simp only [↓evd, evu, evf, implies_true, reduceCtorEq, Nat.reduceEqDiff, ↓reduceIte, Nat.reduceAdd, Nat.reduceLeDiff, Nat.reduceLT, Nat.reduceMul, Int.reduceLT, Int.reduceLE, Int.reduceToNat, evz]
  refine MSpec.of hin ?_
  simp only [↓evd, evu, evf, implies_true, reduceCtorEq, Nat.reduceEqDiff, ↓reduceIte, Nat.reduceAdd, Nat.reduceLeDiff, Nat.reduceLT, Nat.reduceMul, Int.reduceLT, Int.reduceLE, Int.reduceToNat, evz, mem_bool hgm]
  refine x_seq mixed ?_
  simp only [↓evd, evu, evf, implies_true, reduceCtorEq, Nat.reduceEqDiff, ↓reduceIte, Nat.reduceAdd, Nat.reduceLeDiff, Nat.reduceLT, Nat.reduceMul, Int.reduceLT, Int.reduceLE, Int.reduceToNat, evz]
  refine x_seq mixed ?_
  simp only [↓evd, evu, evf, implies_true, reduceCtorEq, Nat.reduceEqDiff, ↓reduceIte, Nat.reduceAdd, Nat.reduceLeDiff, Nat.reduceLT, Nat.reduceMul, Int.reduceLT, Int.reduceLE, Int.reduceToNat, evz]
  refine awp_loop (fun m fr ρ => ∃ (i : Nat), m + i = grp.length ∧ fr.get 0 = eU8s gs ∧ fr.get 2 = .int .i64 g ∧ fr.get 7 = .ptr (.new k) 0 ∧ fr.get 10 = ints grp ∧ fr.get 11 = .int .i64 (q : Nat) ∧ fr.get 12 = .int .i64 0 ∧ fr.get 14 = .int .i64 (i : Nat) ∧ Own τ2.next ρ t_int 1 (fr.get 13) (((grp.take i).filter (fun x => x != g)).map (AVal.int .i64 ·)) ∧ Keep [] τ2 ρ) ?_ (m := grp.length) ?_
  · rintro m fr ρ ⟨i, hi, e0, e2, e7, e10, e11, e12, e14, hO, hK⟩
    by_cases hlt : i < grp.length
    · have hlt' : (i : Int) < (grp.length : Int) := by omega
      have hs := wrap_succ (i := i) (by omega)
      have hgt := map_get (AVal.int .i64 ·) grp i hlt
      have htk := List.take_succ_eq_append_getElem hlt
      generalize grp[i] = x at hgt htk
      have hl1 : ((grp.take i).filter (fun x => x != g)).length ≤ 1000000 := by have := List.length_filter_le (fun x => x != g) (grp.take i); rw [List.length_take] at this; omega
      generalize hx : fr.get 13 = x13 at hO
      by_cases hxg : x = g
      · have hb : (x != g) = false := by simpa using hxg
        simp only [↓evd, evu, evf, implies_true, reduceCtorEq, Nat.reduceEqDiff, ↓reduceIte, Nat.reduceAdd, Nat.reduceLeDiff, Nat.reduceLT, Nat.reduceMul, Int.reduceLT, Int.reduceLE, Int.reduceToNat, evz, e0, e2, e7, e10, e11, e12, e14, hx, hlt', hgt, hb, hs]
        refine ⟨m - 1, by omega, i + 1, by omega, rfl, ?_, hK⟩
        rw [htk, List.filter_append, List.filter_cons, hb]
        simpa using hO
      · have hb : (x != g) = true := by simpa using hxg
        obtain ⟨y1, ρ1, a1, a2, a3, a4, a5, a6, a7⟩ := own_int hO hK.2.2.1 hl1 x
        simp only [↓evd, evu, evf, implies_true, reduceCtorEq, Nat.reduceEqDiff, ↓reduceIte, Nat.reduceAdd, Nat.reduceLeDiff, Nat.reduceLT, Nat.reduceMul, Int.reduceLT, Int.reduceLE, Int.reduceToNat, evz, e0, e2, e7, e10, e11, e12, e14, hx, hlt', hgt, hb, a1, hs]
        refine ⟨m - 1, by omega, i + 1, by omega, rfl, ?_, ?_⟩
        · rw [htk, List.filter_append, List.filter_cons, hb]
          exact a2
        · exact ⟨a3.trans hK.1, a4.trans hK.2.1, Nat.le_trans hK.2.2.1 (Nat.le_of_lt a5), fun q hq _ => by
            rw [a6 q (Nat.lt_of_lt_of_le hq hK.2.2.1) (fun K o n c e hk => by have := (hO.low e).1; omega)]; exact hK.2.2.2 q hq (by simp)⟩
    · have hlt' : ¬ (i : Int) < (grp.length : Int) := by omega
      rw [List.take_of_length_le (by omega)] at hO
      have hwl : (grp.filter (fun x => x != g)).length ≤ grp.length := List.length_filter_le _ _
      have hwm : ∀ y ∈ gs, (y.tmod 10 ∈ grp.filter (fun x => x != g) ↔ y.tmod 10 ≠ g) := fun y hy => by
        rw [List.mem_filter]; simp [hgmem y hy]
      have htx2 := htxt (q : Int) _ (by omega) hwm
      generalize grp.filter (fun x => x != g) = want at hO hwl ht2 htx2
      generalize hx : fr.get 13 = x13 at hO
      obtain ⟨τ3, s1, d1⟩ := Own.sees2 hO
      have hK1 : Keep [] τ2 τ3 := by rcases d1 with rfl | ⟨K, _, rfl, hK2⟩; exact hK; exact hK.set (.inr hK2) _
      have hA3 := hA2.keep hK1 (fun y _ => by simp)
      have hW3 : τ3.W = W := hK1.1.trans hW2
      simp only [↓evd, evu, evf, implies_true, reduceCtorEq, Nat.reduceEqDiff, ↓reduceIte, Nat.reduceAdd, Nat.reduceLeDiff, Nat.reduceLT, Nat.reduceMul, Int.reduceLT, Int.reduceLE, Int.reduceToNat, evz, e0, e2, e7, e10, e11, e12, e14, hx, hlt']
      refine x_freeze (FSees.reg (t := 13) (by decide) (by simp only [↓evd, evu, evf, implies_true, reduceCtorEq, Nat.reduceEqDiff, ↓reduceIte, Nat.reduceAdd, Nat.reduceLeDiff, Nat.reduceLT, Nat.reduceMul, Int.reduceLT, Int.reduceLE, Int.reduceToNat, evz, hx]) s1) ?_
      refine x_of_awp mixed ?_
      have hw0 : IntKind.i64.wrap ((gs.length : Int) - 1) = (gs.length : Int) - 1 := wrap_id (by omega) (by omega)
      have h10 : ¬ (10 : Int) = 0 := by decide
      have h26 : ¬ (26 : Int) = 0 := by decide
      simp only [↓evd, evu, evf, implies_true, reduceCtorEq, Nat.reduceEqDiff, ↓reduceIte, Nat.reduceAdd, Nat.reduceLeDiff, Nat.reduceLT, Nat.reduceMul, Int.reduceLT, Int.reduceLE, Int.reduceToNat, evz, e0, e2, e7, e10, e11, e12, eU8s, hw0]
      refine awp_loop (fun m fr ρ3 => ∃ (x : Int), m ≤ gs.length ∧ x = (m : Int) - 1 ∧ fr.get 0 = eU8s gs ∧ fr.get 2 = .int .i64 g ∧ fr.get 7 = .ptr (.new k) 0 ∧ fr.get 11 = .int .i64 (q : Nat) ∧ fr.get 12 = .int .i64 0 ∧ fr.get 13 = ints want ∧ fr.get 16 = .int .i64 x ∧ fr.get 15 = .str (lettersD g (gs.drop m) m) ∧ Keep [] τ3 ρ3) ?_ (m := gs.length) ?_
      · clear e0 e2 e7 e10 e11 e12 e14 hlt hlt' hi hx
        rintro m fr ρ3 ⟨x, hm, hxm, e0, e2, e7, e11, e12, e13, e16, e15, hK3⟩
        cases m with
        | succ j =>
          have hjl : j < gs.length := by omega
          obtain rfl : x = (j : Int) := by omega
          have hge : (0 : Int) ≤ (j : Int) := by omega
          have hwm1 : IntKind.i64.wrap ((j : Int) - 1) = (j : Int) - 1 := wrap_id (by omega) (by omega)
          have hgt := map_get (AVal.int .u8 ·) gs j hjl
          have hb := hg _ (List.getElem_mem hjl)
          have hdr : lettersD g (gs.drop j) j = lettersD g (gs.drop (j + 1)) (j + 1) ++ (if gs[j].tmod 10 = g then [letter j] else []) := by
            rw [List.drop_eq_getElem_cons hjl, lettersD]
          generalize gs[j] = y at hgt hb hdr
          obtain ⟨g1, g2⟩ := tmod10 hb.1
          have hw1 : IntKind.i64.wrap (y.tmod 10) = y.tmod 10 := wrap_id (by omega) (by omega)
          have hm26 : ((j : Int).tmod 26) = ((j % 26 : Nat) : Int) := by rw [Int.tmod_eq_emod_of_nonneg (by omega)]; rfl
          have wu8 : ∀ x : Nat, x < 256 → IntKind.u8.wrap (x : Int) = (x : Int) := fun x hx => by
            have e1 : (2 : Int) ^ 8 = 256 := by decide
            simp only [IntKind.wrap, IntKind.bits, IntKind.signed, Bool.false_and, e1]
            simp; omega
          have hw2 := wu8 (j % 26) (by omega)
          have hw3 : IntKind.u8.wrap (97 + ((j % 26 : Nat) : Int)) = ((97 + j % 26 : Nat) : Int) := by rw [← wu8 (97 + j % 26) (by omega)]; rfl
          have hlet : UInt8.ofNat (97 + j % 26) = letter j := rfl
          have hlen := lettersD_len g (gs.drop (j + 1)) (j + 1)
          rw [List.length_drop] at hlen
          have hadd := aStr_add (a := lettersD g (gs.drop (j + 1)) (j + 1)) (b := [letter j]) (by simp only [List.length_cons, List.length_nil]; omega)
          by_cases hyg : y.tmod 10 = g
          · have hbq : (y.tmod 10 == g) = true := by simpa using hyg
            rw [if_pos hyg] at hdr
            simp only [↓evd, evu, evf, implies_true, reduceCtorEq, Nat.reduceEqDiff, ↓reduceIte, Nat.reduceAdd, Nat.reduceLeDiff, Nat.reduceLT, Nat.reduceMul, Int.reduceLT, Int.reduceLE, Int.reduceToNat, evz, e0, e2, e7, e11, e12, e13, e15, e16, eU8s, hge, hgt, h10, hw1, hbq, h26, hm26, hw2, hw3, asByte, asBytes, aBstr, slcCells, hlet, hadd, hwm1]
            exact ⟨j, by omega, _, by omega, rfl, rfl, by rw [hdr], hK3.new _⟩
          · have hbq : (y.tmod 10 == g) = false := by simpa using hyg
            rw [if_neg hyg, List.append_nil] at hdr
            simp only [↓evd, evu, evf, implies_true, reduceCtorEq, Nat.reduceEqDiff, ↓reduceIte, Nat.reduceAdd, Nat.reduceLeDiff, Nat.reduceLT, Nat.reduceMul, Int.reduceLT, Int.reduceLE, Int.reduceToNat, evz, e0, e2, e7, e11, e12, e13, e15, e16, eU8s, hge, hgt, h10, hw1, hbq, hwm1]
            exact ⟨j, by omega, _, by omega, rfl, rfl, by rw [hdr], hK3⟩
        | zero =>
          obtain rfl : x = -1 := by omega
          have hge : ¬ (0 : Int) ≤ -1 := by omega
          rw [List.drop_zero] at e15
          have hA4 := hA3.keep hK3 (fun y _ => by simp)
          have hun4 := eundone_at hA4
          have hhd4 := ehead_at hA4
          have htx4 := etext_at hA4 (E2.R.head : Nat)
          rw [textV_head ht2.R] at htx4
          have hteq : E2.text (E2.R.head : Nat) = lettersD g gs 0 := by
            rw [Eng.text, ht2.undone, ht2.ls, ht2.head]; exact htx2
          rw [hteq] at htx4
          rw [ht2.undone] at hun4
          rw [ht2.head] at hhd4 htx4
          have hsm := same21_call ρ3 want want (by omega)
          simp only [ints] at hun4 hsm
          have b0 : ((0 : Int) == 0) = true := rfl
          simp only [↓evd, evu, evf, implies_true, reduceCtorEq, Nat.reduceEqDiff, ↓reduceIte, Nat.reduceAdd, Nat.reduceLeDiff, Nat.reduceLT, Nat.reduceMul, Int.reduceLT, Int.reduceLE, Int.reduceToNat, evz, e0, e2, e7, e11, e12, e13, e15, e16, hge]
          refine MSpec.of hhd4 ?_
          simp only [↓evd, evu, evf, implies_true, reduceCtorEq, Nat.reduceEqDiff, ↓reduceIte, Nat.reduceAdd, Nat.reduceLeDiff, Nat.reduceLT, Nat.reduceMul, Int.reduceLT, Int.reduceLE, Int.reduceToNat, evz, e0, e2, e7, e11, e12, e13, e15, e16]
          refine MSpec.of htx4 ?_
          simp only [↓evd, evu, evf, implies_true, reduceCtorEq, Nat.reduceEqDiff, ↓reduceIte, Nat.reduceAdd, Nat.reduceLeDiff, Nat.reduceLT, Nat.reduceMul, Int.reduceLT, Int.reduceLE, Int.reduceToNat, evz, e0, e2, e7, e11, e12, e13, e15, e16, b0, bh]
          refine MSpec.of hhd4 ?_
          simp only [↓evd, evu, evf, implies_true, reduceCtorEq, Nat.reduceEqDiff, ↓reduceIte, Nat.reduceAdd, Nat.reduceLeDiff, Nat.reduceLT, Nat.reduceMul, Int.reduceLT, Int.reduceLE, Int.reduceToNat, evz, e0, e2, e7, e11, e12, e13, e15, e16, b0, bh]
          refine MSpec.of hun4 ?_
          simp only [↓evd, evu, evf, implies_true, reduceCtorEq, Nat.reduceEqDiff, ↓reduceIte, Nat.reduceAdd, Nat.reduceLeDiff, Nat.reduceLT, Nat.reduceMul, Int.reduceLT, Int.reduceLE, Int.reduceToNat, evz, e0, e2, e7, e11, e12, e13, e15, e16, b0, bh]
          refine MSpec.of hsm ?_
          simp only [↓evd, evu, evf, implies_true, reduceCtorEq, Nat.reduceEqDiff, ↓reduceIte, Nat.reduceAdd, Nat.reduceLeDiff, Nat.reduceLT, Nat.reduceMul, Int.reduceLT, Int.reduceLE, Int.reduceToNat, evz, e0, e2, e7, e11, e12, e13, e15, e16, b0, bh, aStr_self]
          exact hK3.1.trans hW3
      · refine ⟨_, Nat.le_refl _, rfl, ?_⟩
        simp only [↓evd, evu, evf, implies_true, reduceCtorEq, Nat.reduceEqDiff, ↓reduceIte, Nat.reduceAdd, Nat.reduceLeDiff, Nat.reduceLT, Nat.reduceMul, Int.reduceLT, Int.reduceLE, Int.reduceToNat, evz, e0, e2, e7, e11, e12, eU8s]
        refine ⟨?_, Keep.refl _ _⟩
        rw [List.drop_length]; rfl
  · refine ⟨0, by omega, ?_⟩
    simp only [↓evd, evu, evf, implies_true, reduceCtorEq, Nat.reduceEqDiff, ↓reduceIte, Nat.reduceAdd, Nat.reduceLeDiff, Nat.reduceLT, Nat.reduceMul, Int.reduceLT, Int.reduceLE, Int.reduceToNat, evz, eU8s]
    exact ⟨Own.nil _ _ _ _, Keep.refl _ _⟩
theorem undoOnly_row (W : World) (a0 a1 : List Int) (a2 : Int) (g0 : GList (GInt .u8) a0) (g1 : GList (GInt .i64) a1) (g2 : GInt .i64 a2) : FSpec Tryz.prog n_palinodelaw21_UndoOnly [.fsl 1 (a0.map (fun n : Int => AVal.int .u8 n)), .fsl 1 (a1.map (fun n : Int => AVal.int .i64 n)), .int .i64 a2] (Heap.bare W (cellsOf W)) fun v s => v = .bool true ∧ s.W = W :=
  undoOnly_fspec W a0 a1 a2 (fun y hy => gint_u8 (g0.1 y hy))
end Go.Proofs.YtcchmmjjfglpgaaGreat.M
