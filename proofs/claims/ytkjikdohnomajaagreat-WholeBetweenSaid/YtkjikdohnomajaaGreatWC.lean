/- A part of the seat's proofs over the abstract machine. No condition. -/
import Derived.Test.YtkjikdohnomajaaGreatWB
set_option linter.unusedSimpArgs false
set_option linter.unusedVariables false
set_option maxRecDepth 100000
namespace Go.Proofs.YtkjikdohnomajaaGreat.M
open Go Go.Mini
attribute [local congr] go1_congr goM_congr goG_congr goV_congr drawwp_congr Xwp_congr
set_option maxHeartbeats 8000000 in
theorem wholeDiffs_fspec (W : World) (l : List Step) (hl : l.length ≤ 9223372036854775807) (hx : ∀ x ∈ l, StepFits x) : FSpec Tryz.prog n_palinodetop_WholeDiffs [eSteps l] (Heap.bare W (cellsOf W)) fun v s => v = .bool true ∧ s.W = W := by
  refine fspec_of_awp mixed c_palinodetop_WholeDiffs (tl rfl) ?_
  unfold f_palinodetop_WholeDiffs
  have hfew := fewT_call (Heap.bare W (cellsOf W)) l hl hx
  simp only [eSteps] at hfew
  simp +decide only [↓evd, evw, evz, reduceCtorEq, ↓reduceIte, eSteps]
  refine MSpec.of (knownT_call _ rfl) ?_
  simp +decide only [↓evd, evw, evz, reduceCtorEq, ↓reduceIte, eSteps]
  refine MSpec.of hfew ?_
  cases hfb : fewT l with
  | false => simp +decide only [↓evd, evw, evz, reduceCtorEq, ↓reduceIte]
  | true =>
  obtain ⟨hl30, hall⟩ := fewT_one hfb
  simp +decide only [↓evd, evw, evz, reduceCtorEq, ↓reduceIte]
  refine (enew_at _ rfl).mono ?_
  rintro v τ ⟨k, fp0, rfl, h0, hf0, k0⟩
  simp +decide only [↓evd, evw, evz, reduceCtorEq, ↓reduceIte]
  refine awp_loop (fun m fr ρ => ∃ (i : Nat) (E : Eng) (fp : List Nat), m + i = l.length ∧ fr.get 0 = eSteps l ∧ fr.get 3 = .ptr (.new k) 0 ∧ fr.get 4 = .int .i64 (i : Nat) ∧ IsEng ρ k E fp ∧ E.Whole ∧ ρ.W = W) ?_ (m := l.length) ?_
  · clear h0 hf0 k0 hfew
    rintro m fr ρ ⟨i, E, fp, hi, e0, e3, e4, hE, hwh, hW⟩
    by_cases hlt : i < l.length
    · have hlt' : (i : Int) < (l.length : Int) := by omega
      have hs := wrap_succ (i := i) (by omega)
      have hgt := map_get eStep l i hlt
      have hone := hall _ (List.getElem_mem hlt)
      generalize l[i] = x at hgt hone
      have q := doT_at hE hone
      simp only [eStep, eChgs, ints] at q
      simp +decide only [↓evd, evw, evz, reduceCtorEq, ↓reduceIte, e0, e3, e4, hlt', eSteps, hgt, eStep, eChgs, ints]
      refine q.mono ?_
      rintro v ρ2 ⟨⟨n, c, rfl⟩, fp', hE', kk, _⟩
      simp +decide only [↓evd, evw, evz, reduceCtorEq, ↓reduceIte, e0, e3, e4, hs]
      exact ⟨m - 1, by omega, i + 1, _, fp', by omega, rfl, rfl, hE', doT_whole hwh x, kk.1.trans hW⟩
    · have hlt' : ¬ (i : Int) < (l.length : Int) := by omega
      simp +decide only [↓evd, evw, evz, reduceCtorEq, ↓reduceIte, e0, e3, e4, hlt', eSteps]
      clear e0 e4 hlt hlt' hi
      have hh2 := head_le hwh.rok
      refine awp_loop (fun m fr ρ => ∃ (j : Nat) (fp : List Nat), m + j = E.R.head + 1 ∧ fr.get 3 = .ptr (.new k) 0 ∧ fr.get 5 = .int .i64 (j : Nat) ∧ IsEng ρ k E fp ∧ ρ.W = W) ?_ (m := E.R.head + 1) ?_
      · clear e3 hE hW
        rintro m fr ρ ⟨j, fp, hj, e3, e5, hE, hW⟩
        have hhd := ehead_at hE
        by_cases hjt : j ≤ E.R.head
        · have hjt' : (j : Int) ≤ ((E.R.head : Nat) : Int) := by omega
          have hs := wrap_succ (i := j) (by omega)
          have hlv := elive_at hE (j : Int)
          have tx := etext_at hE (j : Int)
          cases lx : E.R.live (j : Int) with
          | false =>
            rw [lx] at hlv
            simp +decide only [↓evd, evw, evz, reduceCtorEq, ↓reduceIte, e3, e5]
            refine MSpec.of hhd ?_
            simp +decide only [↓evd, evw, evz, reduceCtorEq, ↓reduceIte, e3, e5, hjt']
            refine MSpec.of hlv ?_
            simp +decide only [↓evd, evw, evz, reduceCtorEq, ↓reduceIte, e3, e5, hs]
            exact ⟨m - 1, by omega, j + 1, fp, by omega, rfl, hE, hW⟩
          | true =>
          rw [lx] at hlv
          rw [textV, lx, if_pos rfl] at tx
          have ly := Eng.live_head hwh.rok
          rcases h1 : betwE E j (E.R.head : Nat) with ⟨d, c⟩
          obtain ⟨he1, he2⟩ := betw_err h1
          have q1 := between_call hE (j : Int) (E.R.head : Nat)
          simp only [h1, eDelta, eChgs] at q1
          have e1 := hE.keep ((Keep.refl [] ρ).junk (.cells [.int .i64 0, .nils] none) (.cells [.int .i64 d.base, .fsl 3 (d.els.map eChg)] none)) (fun y _ => by simp)
          have b0 : ((0 : Int) != 0) = false := rfl
          have b0' : ((0 : Int) == 0) = true := rfl
          have b3 : ((70 : Int) != 0) = true := rfl
          have b4 : ((70 : Int) == 70) = true := rfl
          simp +decide only [↓evd, evw, evz, reduceCtorEq, ↓reduceIte, e3, e5]
          refine MSpec.of hhd ?_
          simp +decide only [↓evd, evw, evz, reduceCtorEq, ↓reduceIte, e3, e5, hjt']
          refine MSpec.of hlv ?_
          simp +decide only [↓evd, evw, evz, reduceCtorEq, ↓reduceIte, e3, e5]
          refine MSpec.of tx ?_
          simp +decide only [↓evd, evw, evz, reduceCtorEq, ↓reduceIte, e3, e5]
          refine MSpec.of hhd ?_
          simp +decide only [↓evd, evw, evz, reduceCtorEq, ↓reduceIte, e3, e5]
          refine MSpec.of q1 ?_
          by_cases hc : c = 0
          case neg =>
            obtain ⟨rfl, rfl⟩ : c = 70 ∧ d = ⟨0, []⟩ := by
              rcases he1 with h | h | ⟨h, _⟩
              · exact absurd h hc
              · exact h
              · have := he2.1 h; simp [lx, ly] at this
            simp +decide only [↓evd, evw, evz, reduceCtorEq, ↓reduceIte, b0, b0', b3, b4]
            exact hW
          subst hc
          have hB := betw_ok hwh.ok h1
          have A0 := fun ρ => apply_call ρ d (E.text j) hB.ok hB.base.symm
          rw [hB.app] at A0
          simp only [eDelta, eChgs] at A0
          have hnow := now_call e1 hwh.rok
          simp +decide only [↓evd, evw, evz, reduceCtorEq, ↓reduceIte, e3, e5, b0]
          refine MSpec.of (A0 _) ?_
          simp +decide only [↓evd, evw, evz, reduceCtorEq, ↓reduceIte, e3, e5, b0]
          refine MSpec.of hnow ?_
          simp +decide only [↓evd, evw, evz, reduceCtorEq, ↓reduceIte, e3, e5, aStr_nself, hs]
          exact ⟨m - 1, by omega, j + 1, fp, by omega, rfl, e1, hW⟩
        · have hjt' : ¬ (j : Int) ≤ ((E.R.head : Nat) : Int) := by omega
          simp +decide only [↓evd, evw, evz, reduceCtorEq, ↓reduceIte, e3, e5]
          refine MSpec.of hhd ?_
          simp +decide only [↓evd, evw, evz, reduceCtorEq, ↓reduceIte, hjt']
          exact hW
      · refine ⟨0, fp, by omega, ?_⟩
        simp +decide only [↓evd, evw, evz, reduceCtorEq, ↓reduceIte, e3]
        exact ⟨hE, hW⟩
  · refine ⟨0, Eng.new, fp0, by omega, ?_⟩
    simp +decide only [↓evd, evw, evz, reduceCtorEq, ↓reduceIte, eSteps]
    exact ⟨h0, Eng.Whole.new, k0.1⟩
theorem wholeDiffs_row (W : World) (a0 : List Step) (g0 : GList gStep a0) : FSpec Tryz.prog n_palinodetop_WholeDiffs [.fsl 6 (a0.map eStep)] (Heap.bare W (cellsOf W)) fun v s => v = .bool true ∧ s.W = W :=
  wholeDiffs_fspec W a0 (steps_fit g0).1 (steps_fit g0).2
end Go.Proofs.YtkjikdohnomajaaGreat.M
namespace Go.Proofs.YtkjikdohnomajaaGreat.M
open Go Go.Mini
attribute [local congr] go1_congr goM_congr goG_congr goV_congr drawwp_congr Xwp_congr
theorem doT_floor {E : Eng} (h : E.Whole) {x : Step} (hw : x.what ≤ 6) (hf : E.R.floor = 0) : (doT E x).R.floor = 0 := by
  unfold doT
  split
  · rcases he : editE E x.base x.group x.rank x.c with ⟨E', n, c⟩
    by_cases hc : c = 0
    · subst hc
      obtain ⟨_, _, _, _, _, _, _, _, _, e, _⟩ := edit_shape h.rok he
      rw [e]; exact hf
    · rw [(edit_fail he hc).1]; exact hf
  · rcases he : toggleE E x.group with ⟨E', n, c⟩
    by_cases hc : c = 0
    · subst hc
      obtain ⟨_, _, _, e, _⟩ := toggle_shape h.rok he
      rw [e]; exact hf
    · rw [(toggle_fail he hc).1]; exact hf
set_option maxHeartbeats 8000000 in
theorem wholeBetween_fspec (W : World) (l : List Step) (a0 b0 c0 : Int) (hl : l.length ≤ 9223372036854775807) (hx : ∀ x ∈ l, StepFits x) (ha : 0 ≤ a0 ∧ a0 < 256) (hb : 0 ≤ b0 ∧ b0 < 256) (hc : 0 ≤ c0 ∧ c0 < 256) : FSpec Tryz.prog n_palinodetop_WholeBetween [eSteps l, .int .u8 a0, .int .u8 b0, .int .u8 c0] (Heap.bare W (cellsOf W)) fun v s => v = .bool true ∧ s.W = W := by
  refine fspec_of_awp mixed c_palinodetop_WholeBetween (tl rfl) ?_
  unfold f_palinodetop_WholeBetween
  have hfew := fewT_call (Heap.bare W (cellsOf W)) l hl hx
  simp only [eSteps] at hfew
  simp +decide only [↓evd, evw, evz, reduceCtorEq, ↓reduceIte, eSteps]
  refine MSpec.of (knownT_call _ rfl) ?_
  simp +decide only [↓evd, evw, evz, reduceCtorEq, ↓reduceIte, eSteps]
  refine MSpec.of hfew ?_
  cases hfb : fewT l with
  | false => simp +decide only [↓evd, evw, evz, reduceCtorEq, ↓reduceIte]
  | true =>
  obtain ⟨hl30, hall⟩ := fewT_one hfb
  simp +decide only [↓evd, evw, evz, reduceCtorEq, ↓reduceIte]
  refine (enew_at _ rfl).mono ?_
  rintro v τ ⟨k, fp0, rfl, h0, hf0, k0⟩
  simp +decide only [↓evd, evw, evz, reduceCtorEq, ↓reduceIte]
  refine awp_loop (fun m fr ρ => ∃ (i : Nat) (E : Eng) (fp : List Nat), m + i = l.length ∧ fr.get 0 = eSteps l ∧ fr.get 1 = .int .u8 a0 ∧ fr.get 2 = .int .u8 b0 ∧ fr.get 3 = .int .u8 c0 ∧ fr.get 9 = .ptr (.new k) 0 ∧ fr.get 10 = .int .i64 (i : Nat) ∧ IsEng ρ k E fp ∧ E.Whole ∧ E.R.floor = 0 ∧ ρ.W = W) ?_ (m := l.length) ?_
  · clear h0 hf0 k0 hfew
    rintro m fr ρ ⟨i, E, fp, hi, e0, e1, e2, e3, e9, e10, hE, hwh, hfl, hW⟩
    by_cases hlt : i < l.length
    · have hlt' : (i : Int) < (l.length : Int) := by omega
      have hs := wrap_succ (i := i) (by omega)
      have hgt := map_get eStep l i hlt
      have hone := hall _ (List.getElem_mem hlt)
      generalize l[i] = x at hgt hone
      by_cases w6 : x.what ≤ 6
      · have q := doT_at hE hone
        simp only [eStep, eChgs, ints] at q
        simp +decide only [↓evd, evw, evz, reduceCtorEq, ↓reduceIte, e0, e1, e2, e3, e9, e10, hlt', eSteps, hgt, eStep, eChgs, ints, w6]
        refine q.mono ?_
        rintro v ρ2 ⟨⟨n, c, rfl⟩, fp', hE', kk, _⟩
        simp +decide only [↓evd, evw, evz, reduceCtorEq, ↓reduceIte, e0, e1, e2, e3, e9, e10, hs]
        exact ⟨m - 1, by omega, i + 1, _, fp', by omega, rfl, rfl, hE', doT_whole hwh x, doT_floor hwh w6 hfl, kk.1.trans hW⟩
      · simp +decide only [↓evd, evw, evz, reduceCtorEq, ↓reduceIte, e0, e1, e2, e3, e9, e10, hlt', eSteps, hgt, eStep, eChgs, ints, w6, hs]
        exact ⟨m - 1, by omega, i + 1, E, fp, by omega, rfl, hE, hwh, hfl, hW⟩
    · have hlt' : ¬ (i : Int) < (l.length : Int) := by omega
      have hh2 := head_le hwh.rok
      have hhd := ehead_at hE
      have hwh1 : IntKind.i64.wrap ((E.R.head : Int) + 1) = ((E.R.head + 1 : Nat) : Int) := wrap_succ (by omega)
      have hne : (((E.R.head + 1 : Nat) : Int) = 0) = False := eq_false (by omega)
      have hwa : IntKind.i64.wrap a0 = a0 := wrap_id (by omega) (by omega)
      have hwb : IntKind.i64.wrap b0 = b0 := wrap_id (by omega) (by omega)
      have hwc : IntKind.i64.wrap c0 = c0 := wrap_id (by omega) (by omega)
      have hxa := tmod_nat (n := E.R.head + 1) ha.1 (by omega)
      have hyb := tmod_nat (n := E.R.head + 1) hb.1 (by omega)
      have hzc := tmod_nat (n := E.R.head + 1) hc.1 (by omega)
      have lxa := Nat.mod_lt a0.toNat (show 0 < E.R.head + 1 by omega)
      have lyb := Nat.mod_lt b0.toNat (show 0 < E.R.head + 1 by omega)
      have lzc := Nat.mod_lt c0.toNat (show 0 < E.R.head + 1 by omega)
      generalize a0.toNat % (E.R.head + 1) = x at hxa lxa
      generalize b0.toNat % (E.R.head + 1) = y at hyb lyb
      generalize c0.toNat % (E.R.head + 1) = z at hzc lzc
      have live : ∀ q : Nat, q < E.R.head + 1 → E.R.live (q : Int) = true := fun q hq => by
        have hh3 : E.R.head = E.R.floor + E.R.und.length - 1 := rfl
        rw [live_iff]; omega
      have lx := live x lxa
      have ly := live y lyb
      have lz := live z lzc
      have tx := etext_at hE (x : Int)
      rw [textV, lx, if_pos rfl] at tx
      rcases h1 : betwE E x y with ⟨d1, c1⟩
      rcases h2 : betwE E y z with ⟨d2, c2⟩
      rcases h3 : betwE E x z with ⟨d3, c3⟩
      have g1 := betw_err h1
      have g2 := betw_err h2
      have g3 := betw_err h3
      rw [lx, ly] at g1
      rw [ly, lz] at g2
      rw [lx, lz] at g3
      obtain ⟨τ1, ht1⟩ : ∃ τ1, τ1 = (ρ.new (.cells [.int .i64 0, .nils] none)).set ρ.next (.cells [.int .i64 d1.base, .fsl 3 (d1.els.map eChg)] none) := ⟨_, rfl⟩
      have k1 : Keep [] ρ τ1 := by rw [ht1]; exact (Keep.refl _ _).junk _ _
      have hE1 := hE.keep k1 (fun y _ => by simp)
      obtain ⟨τ2, ht2⟩ : ∃ τ2, τ2 = (τ1.new (.cells [.int .i64 0, .nils] none)).set τ1.next (.cells [.int .i64 d2.base, .fsl 3 (d2.els.map eChg)] none) := ⟨_, rfl⟩
      have k2 : Keep [] τ1 τ2 := by rw [ht2]; exact (Keep.refl _ _).junk _ _
      have hE2 := hE1.keep k2 (fun y _ => by simp)
      have q1 := between_call hE (x : Int) (y : Int)
      have q2 := between_call hE1 (y : Int) (z : Int)
      have q3 := between_call hE2 (x : Int) (z : Int)
      simp only [h1, eDelta, eChgs] at q1
      simp only [h2, eDelta, eChgs] at q2
      simp only [h3, eDelta, eChgs] at q3
      have b0 : ((0 : Int) != 0) = false := rfl
      have b0' : ((0 : Int) == 0) = true := rfl
      have b3 : ((70 : Int) != 0) = true := rfl
      have b4 : ((70 : Int) == 70) = true := rfl
      have b5 : ((0 : Int) == 70) = false := rfl
      simp +decide only [↓evd, evw, evz, reduceCtorEq, ↓reduceIte, e0, e1, e2, e3, e9, e10, hlt', eSteps]
      refine MSpec.of hhd ?_
      simp +decide only [↓evd, evw, evz, reduceCtorEq, ↓reduceIte, e0, e1, e2, e3, e9, hwh1]
      with_reducible refine draw_of_grow (fun _ => True) (ms := [false, false, false, false, false, false, false, false, false, false, false, false, false, false, false]) (by kernel_rfl) ?_
      simp +decide only [↓evd, evw, evz, reduceCtorEq, ↓reduceIte, e1, e2, e3, e9, hwa, hwb, hwc, hne, hxa, hyb, hzc]
      refine MSpec.of q1 ?_
      simp +decide only [↓evd, evw, evz, reduceCtorEq, ↓reduceIte, e1, e2, e3, e9]
      rw [← ht1]
      refine MSpec.of q2 ?_
      simp +decide only [↓evd, evw, evz, reduceCtorEq, ↓reduceIte, e1, e2, e3, e9]
      rw [← ht2]
      refine MSpec.of q3 ?_
      obtain ⟨τ3, ht3⟩ : ∃ τ3, τ3 = (τ2.new (.cells [.int .i64 0, .nils] none)).set τ2.next (.cells [.int .i64 d3.base, .fsl 3 (d3.els.map eChg)] none) := ⟨_, rfl⟩
      have k3 : Keep [] τ2 τ3 := by rw [ht3]; exact (Keep.refl _ _).junk _ _
      have hE3 := hE2.keep k3 (fun y _ => by simp)
      have hW3 : τ3.W = W := k3.1.trans (k2.1.trans (k1.1.trans hW))
      have n1 : ρ.next < τ1.next := by rw [ht1]; simp
      have n2 : τ1.next < τ2.next := by rw [ht2]; simp
      have r1 : τ3.get ρ.next = some (.cells [.int .i64 d1.base, .fsl 3 (d1.els.map eChg)] none) := by
        rw [k3.2.2.2 _ (by omega) (by simp), k2.2.2.2 _ n1 (by simp), ht1, Heap.get_set, if_pos rfl]
      have r2 : τ3.get τ1.next = some (.cells [.int .i64 d2.base, .fsl 3 (d2.els.map eChg)] none) := by
        rw [k3.2.2.2 _ n2 (by simp), ht2, Heap.get_set, if_pos rfl]
      have r3 : τ3.get τ2.next = some (.cells [.int .i64 d3.base, .fsl 3 (d3.els.map eChg)] none) := by rw [ht3, Heap.get_set, if_pos rfl]
      have z1 : c1 = 0 ∨ c1 = 70 := by
        rcases g1.1 with h | h | h
        · exact .inl h
        · exact .inr h.1
        · have := g1.2.1 h.1; simp at this
      have z2 : c2 = 0 ∨ c2 = 70 := by
        rcases g2.1 with h | h | h
        · exact .inl h
        · exact .inr h.1
        · have := g2.2.1 h.1; simp at this
      have z3 : c3 = 0 ∨ c3 = 70 := by
        rcases g3.1 with h | h | h
        · exact .inl h
        · exact .inr h.1
        · have := g3.2.1 h.1; simp at this
      rcases z1 with rfl | rfl
      case inr =>
        simp +decide only [↓evd, evw, evz, reduceCtorEq, ↓reduceIte, b0, b0', b3, b4, b5]
        exact k2.1.trans (k1.1.trans hW)
      rcases z2 with rfl | rfl
      case inr =>
        simp +decide only [↓evd, evw, evz, reduceCtorEq, ↓reduceIte, b0, b0', b3, b4, b5]
        exact k2.1.trans (k1.1.trans hW)
      rcases z3 with rfl | rfl
      case inr =>
        simp +decide only [↓evd, evw, evz, reduceCtorEq, ↓reduceIte, b0, b0', b3, b4, b5]
        exact k2.1.trans (k1.1.trans hW)
      have hB1 := betw_ok hwh.ok h1
      have hB2 := betw_ok hwh.ok h2
      have hB3 := betw_ok hwh.ok h3
      have A1 := apply_call τ3 d1 (E.text x) hB1.ok hB1.base.symm
      have A2 := apply_call τ3 d2 (E.text y) hB2.ok hB2.base.symm
      have A3 := apply_call τ3 d3 (E.text x) hB3.ok hB3.base.symm
      rw [hB1.app] at A1
      rw [hB2.app] at A2
      rw [hB3.app] at A3
      simp only [eDelta, eChgs] at A1 A2 A3
      have tx3 := etext_at hE3 (x : Int)
      rw [textV, lx, if_pos rfl] at tx3
      simp +decide only [↓evd, evw, evz, reduceCtorEq, ↓reduceIte, e9, b0]
      rw [← ht3]
      refine MSpec.of tx3 ?_
      simp +decide only [↓evd, evw, evz, reduceCtorEq, ↓reduceIte, r1]
      refine MSpec.of A1 ?_
      simp +decide only [↓evd, evw, evz, reduceCtorEq, ↓reduceIte, r2]
      refine MSpec.of A2 ?_
      simp +decide only [↓evd, evw, evz, reduceCtorEq, ↓reduceIte, r3]
      refine MSpec.of A3 ?_
      simp +decide only [↓evd, evw, evz, reduceCtorEq, ↓reduceIte, b0', aStr_self]
      exact hW3
  · refine ⟨0, Eng.new, fp0, by omega, ?_⟩
    simp +decide only [↓evd, evw, evz, reduceCtorEq, ↓reduceIte, eSteps]
    exact ⟨h0, Eng.Whole.new, k0.1⟩
theorem wholeBetween_row (W : World) (a0 : List Step) (a1 a2 a3 : Int) (g0 : GList gStep a0) (g1 : GInt .u8 a1) (g2 : GInt .u8 a2) (g3 : GInt .u8 a3) : FSpec Tryz.prog n_palinodetop_WholeBetween [.fsl 6 (a0.map eStep), .int .u8 a1, .int .u8 a2, .int .u8 a3] (Heap.bare W (cellsOf W)) fun v s => v = .bool true ∧ s.W = W :=
  wholeBetween_fspec W a0 a1 a2 a3 (steps_fit g0).1 (steps_fit g0).2 (gint_u8 g1) (gint_u8 g2) (gint_u8 g3)
end Go.Proofs.YtkjikdohnomajaaGreat.M

