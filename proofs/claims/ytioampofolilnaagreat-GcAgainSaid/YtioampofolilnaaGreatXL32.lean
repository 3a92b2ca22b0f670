/- A part of the seat's proofs over the abstract machine. No condition. -/
import Derived.Test.YtioampofolilnaaGreatWC
set_option maxRecDepth 100000
namespace Go.Proofs.YtioampofolilnaaGreat.M
open Go Go.Mini
section
open Opd renaming tmp → t, lit → l
open SOp renaming mv → m, call → c, load → d, pick → k, fldA → f, bin → b, idxA → x, store → e, nilc → z, len → g
open SCode renaming seq → q, reg → r, cond → i, block → o
open Option renaming some → s, none → n
def f_palinodelaw23_GcAgain : SFunc := { ntmps := 121, results := [.tmp 4], body :=
(q (r n [⟨s 4, m (l (.bool false)), n, []⟩])
(q (q (r n [⟨s 15, c (l (.fn 24 [])) [], n, []⟩,
 ⟨s 16, .not (t 15), n, [0]⟩])
(i (t 16) (q (r n [⟨s 4, m (l (.bool false)), n, []⟩])
.ret) .skip))
(q (q (r n [⟨s 17, m (t 0), n, []⟩,
 ⟨s 18, c (l (.fn 25 [])) [(t 17)], n, [0]⟩,
 ⟨s 19, .not (t 18), n, [1]⟩,
 ⟨s 20, m (t 19), n, [2, 1]⟩,
 ⟨s 21, m (t 1), s (20, false), [3]⟩,
 ⟨s 22, c (l (.fn 25 [])) [(t 21)], s (20, false), [4, 3, 3]⟩,
 ⟨s 23, .not (t 22), s (20, false), [5, 3]⟩,
 ⟨s 24, k (t 20) (l (.bool true)) (t 23), n, [3, 6]⟩])
(i (t 24) (q (r n [⟨s 4, m (l (.bool true)), n, []⟩])
.ret) .skip))
(q (r n [⟨s 26, m (t 0), n, []⟩,
 ⟨s 27, c (l (.fn 26 [])) [(t 26)], n, [0]⟩,
 ⟨s 25, m (t 27), n, [1]⟩,
 ⟨s 28, .ext (t 25) 0, n, [2]⟩,
 ⟨s 29, .ext (t 25) 1, n, [2]⟩,
 ⟨s 5, m (t 28), n, [3, 1, 0, 1, 2, 3]⟩,
 ⟨s 6, m (t 29), n, [4, 5, 0, 1, 2, 3, 4, 5]⟩])
(q (r n [⟨s 30, m (t 5), n, []⟩,
 ⟨s 31, c (l (.fn 35 [])) [(t 30)], n, [0]⟩])
(q (q (r n [⟨s 7, m (l (.int .i64 0)), n, []⟩])
(o 0 (.loop (q (q (r n [⟨s 32, m (t 7), n, []⟩,
 ⟨s 33, m (t 1), n, []⟩,
 ⟨s 34, g (t 33), n, [1]⟩,
 ⟨s 35, b .lss .int (t 32) (t 34), n, [0, 2]⟩])
(i (t 35) .skip (.exit 0)))
(q (o 1 (q (r n [⟨s 38, m (t 1), n, []⟩,
 ⟨s 39, m (t 7), n, []⟩,
 ⟨s 40, x 6 (t 38) (t 39), n, [0, 1]⟩,
 ⟨s 41, f 0 (t 40), n, [2]⟩,
 ⟨s 42, d n (t 41), n, [3]⟩,
 ⟨s 43, b .leq .int (t 42) (l (.int .i64 4)), n, [4]⟩])
(i (t 43) (r (s [0, 0, 2, 0, 0, 24, 56, 120, 0, 0, 768, 1792, 3840, 0, 0, 24576, 57344, 122880, 262143]) [⟨s 44, m (t 5), n, []⟩,
 ⟨s 45, m (t 5), n, []⟩,
 ⟨s 46, c (l (.fn 23 [])) [(t 45)], n, [1]⟩,
 ⟨s 47, m (t 1), n, []⟩,
 ⟨s 48, m (t 7), n, []⟩,
 ⟨s 49, x 6 (t 47) (t 48), n, [3, 4]⟩,
 ⟨s 50, f 2 (t 49), n, [5]⟩,
 ⟨s 51, d n (t 50), n, [6]⟩,
 ⟨s 52, m (t 1), n, []⟩,
 ⟨s 53, m (t 7), n, []⟩,
 ⟨s 54, x 6 (t 52) (t 53), n, [8, 9]⟩,
 ⟨s 55, f 3 (t 54), n, [10]⟩,
 ⟨s 56, d n (t 55), n, [11]⟩,
 ⟨s 57, m (t 1), n, []⟩,
 ⟨s 58, m (t 7), n, []⟩,
 ⟨s 59, x 6 (t 57) (t 58), n, [13, 14]⟩,
 ⟨s 60, f 4 (t 59), n, [15]⟩,
 ⟨s 61, d n (t 60), n, [16]⟩,
 ⟨s 62, c (l (.fn 22 [])) [(t 44), (t 46), (t 51), (t 56), (t 61)], n, [0, 2, 7, 12, 17, 2]⟩]) (r n [⟨s 63, m (t 5), n, []⟩,
 ⟨s 64, m (t 1), n, []⟩,
 ⟨s 65, m (t 7), n, []⟩,
 ⟨s 66, x 6 (t 64) (t 65), n, [1, 2]⟩,
 ⟨s 67, f 2 (t 66), n, [3]⟩,
 ⟨s 68, d n (t 67), n, [4]⟩,
 ⟨s 69, c (l (.fn 40 [])) [(t 63), (t 68)], n, [0, 5]⟩]))))
(r n [⟨s 36, m (t 7), n, []⟩,
 ⟨s 37, b .add .int (t 36) (l (.int .i64 1)), n, [0]⟩,
 ⟨s 7, m (t 37), n, [1, 0, 1]⟩]))))))
(q (r n [⟨s 71, m (t 5), n, []⟩,
 ⟨s 72, m (t 5), n, []⟩,
 ⟨s 73, c (l (.fn 23 [])) [(t 72)], n, [1]⟩,
 ⟨s 74, c (l (.fn 38 [])) [(t 71), (t 73)], n, [0, 2, 2]⟩,
 ⟨s 70, m (t 74), n, [3]⟩,
 ⟨s 75, .ext (t 70) 0, n, [4]⟩,
 ⟨s 76, .ext (t 70) 1, n, [4]⟩,
 ⟨s 8, m (t 75), n, [5, 3, 0, 1, 2, 3, 4, 5]⟩,
 ⟨s 9, m (t 76), n, [6, 7, 0, 1, 2, 3, 4, 5, 6, 7]⟩])
(q (r n [⟨s 77, m (t 5), n, []⟩,
 ⟨s 78, c (l (.fn 35 [])) [(t 77)], n, [0]⟩])
(q (r n [⟨s 80, m (t 5), n, []⟩,
 ⟨s 81, m (t 5), n, []⟩,
 ⟨s 82, c (l (.fn 23 [])) [(t 81)], n, [1]⟩,
 ⟨s 83, c (l (.fn 38 [])) [(t 80), (t 82)], n, [0, 2, 2]⟩,
 ⟨s 79, m (t 83), n, [3]⟩,
 ⟨s 84, .ext (t 79) 0, n, [4]⟩,
 ⟨s 85, .ext (t 79) 1, n, [4]⟩,
 ⟨s 10, m (t 84), n, [5, 3, 0, 1, 2, 3, 4, 5]⟩,
 ⟨s 11, m (t 85), n, [6, 7, 0, 1, 2, 3, 4, 5, 6, 7]⟩])
(q (r n [⟨s 86, m (t 5), n, []⟩,
 ⟨s 87, c (l (.fn 34 [])) [(t 86)], n, [0]⟩,
 ⟨s 12, m (t 87), n, [1, 1, 0, 1]⟩])
(q (r n [⟨s 13, m (l (.str [])), n, []⟩])
(q (q (r n [⟨s 14, m (l (.int .i64 0)), n, []⟩])
(o 2 (.loop (q (q (r n [⟨s 88, m (t 14), n, []⟩,
 ⟨s 89, m (t 12), n, []⟩,
 ⟨s 90, g (t 89), n, [1]⟩,
 ⟨s 91, b .lss .int (t 88) (t 90), n, [0, 2]⟩])
(i (t 91) .skip (.exit 2)))
(q (o 3 (r n [⟨s 94, m (t 13), n, []⟩,
 ⟨s 95, m (t 12), n, []⟩,
 ⟨s 96, m (t 14), n, []⟩,
 ⟨s 97, x 5 (t 95) (t 96), n, [1, 2]⟩,
 ⟨s 98, f 0 (t 97), n, [3]⟩,
 ⟨s 99, d n (t 98), n, [4]⟩,
 ⟨s 100, b .add .str (t 94) (t 99), n, [0, 5]⟩,
 ⟨s 13, m (t 100), n, [6, 0, 1, 2, 3, 4, 5, 6]⟩]))
(r n [⟨s 92, m (t 14), n, []⟩,
 ⟨s 93, b .add .int (t 92) (l (.int .i64 1)), n, [0]⟩,
 ⟨s 14, m (t 93), n, [1, 0, 1]⟩]))))))
(q (r n [⟨s 101, m (t 8), n, []⟩,
 ⟨s 102, m (t 10), n, []⟩,
 ⟨s 103, b .eql .str (t 101) (t 102), n, [0, 1]⟩,
 ⟨s 104, m (t 103), n, [2]⟩,
 ⟨s 105, m (t 13), s (104, true), [3]⟩,
 ⟨s 106, m (t 10), s (104, true), [3]⟩,
 ⟨s 107, b .eql .str (t 105) (t 106), s (104, true), [4, 5, 3]⟩,
 ⟨s 108, k (t 104) (t 107) (l (.bool false)), n, [3, 6]⟩,
 ⟨s 109, m (t 108), n, [7, 3]⟩,
 ⟨s 110, m (t 5), s (109, true), [8]⟩,
 ⟨s 111, c (l (.fn 30 [])) [(t 110)], s (109, true), [9, 8, 8]⟩,
 ⟨s 112, b .eql .int (t 111) (l (.int .i64 0)), s (109, true), [10, 8]⟩,
 ⟨s 113, k (t 109) (t 112) (l (.bool false)), n, [8, 11]⟩,
 ⟨s 114, m (t 113), n, [12, 10]⟩,
 ⟨s 115, m (t 5), s (114, true), [13]⟩,
 ⟨s 116, c (l (.fn 32 [])) [(t 115)], s (114, true), [14, 13, 13]⟩,
 ⟨s 117, m (t 12), s (114, true), [13]⟩,
 ⟨s 118, g (t 117), s (114, true), [16, 13]⟩,
 ⟨s 119, b .eql .int (t 116) (t 118), s (114, true), [15, 17, 13]⟩,
 ⟨s 120, k (t 114) (t 119) (l (.bool false)), n, [13, 18]⟩,
 ⟨s 4, m (t 120), n, [19, 15, 0, 1, 2, 3, 4, 5, 6, 7, 8, 9, 10, 11, 12, 13, 14, 15, 16, 17, 18, 19]⟩])
.ret))))))))))))) }
theorem c_palinodelaw23_GcAgain : cFunc Tryz.prog n_palinodelaw23_GcAgain = some f_palinodelaw23_GcAgain := by kernel_rfl
end
end Go.Proofs.YtioampofolilnaaGreat.M
set_option linter.unusedSimpArgs false
set_option linter.unusedVariables false
set_option maxRecDepth 100000
namespace Go.Proofs.YtioampofolilnaaGreat.M
open Go Go.Mini
attribute [local congr] go1_congr goM_congr goG_congr goV_congr drawwp_congr Xwp_congr
theorem flat_snoc {l : List Atom} {i : Nat} (h : i < l.length) : ((l.take (i + 1)).map (·.text)).flatten = ((l.take i).map (·.text)).flatten ++ l[i].text := by
 rw [List.take_succ_eq_append_getElem h, List.map_append, List.flatten_append]; simp
theorem fewB20_iff {l : List Step} (h : fewB20 l = true) : (∀ x ∈ l, fewOne x = true) ∧ l.length ≤ 20 := by
 simp only [fewB20, Bool.and_eq_true, List.all_eq_true, decide_eq_true_eq] at h; exact h
set_option maxHeartbeats 8000000 in
theorem gcAgain_fspec (W : World) (l mm : List Step) (hl : l.length ≤ 9223372036854775807) (hx : ∀ x ∈ l, StepFits x) (hl' : mm.length ≤ 9223372036854775807) (hx' : ∀ x ∈ mm, StepFits x) : FSpec Tryz.prog n_palinodelaw23_GcAgain [eSteps l, eSteps mm] (Heap.bare W (cellsOf W)) fun v s => v = .bool true ∧ s.W = W := by
 refine fspec_of_awp mixed c_palinodelaw23_GcAgain (Nat.le_of_ble_eq_true rfl) ?_
 unfold f_palinodelaw23_GcAgain
 have hfew := few23_call (Heap.bare W (cellsOf W)) l hl hx
 have hfew' := few23_call (Heap.bare W (cellsOf W)) mm hl' hx'
 simp only [eSteps] at hfew hfew'
 simp only [↓evd, evu, evf, implies_true, reduceCtorEq, Nat.reduceAdd]
 refine MSpec.of (known23_call _ rfl) ?_
 simp only [↓evd, evu, evf, implies_true, reduceCtorEq, ↓reduceIte, Nat.reduceLT, evz, eSteps]
 refine MSpec.of hfew ?_
 cases hfb : fewB20 l with
 | false => simp only [↓evd, evu, evf, implies_true, reduceCtorEq, ↓reduceIte, Nat.reduceLT, evz]
 | true =>
 simp only [↓evd, evu, evf, implies_true, reduceCtorEq, ↓reduceIte, Nat.reduceLT, evz]
 refine MSpec.of hfew' ?_
 cases hfb' : fewB20 mm with
 | false => simp only [↓evd, evu, evf, implies_true, reduceCtorEq, ↓reduceIte, Nat.reduceLT, evz]
 | true =>
 obtain ⟨hall, hl20⟩ := fewB20_iff hfb
 obtain ⟨hall', hl20'⟩ := fewB20_iff hfb'
 have hbo := both23_at (Heap.bare W (cellsOf W)) rfl l (by omega) hall
 have hWh : (l.foldl doB Eng.new).Whole := Eng.Whole.new.run
 generalize l.foldl doB Eng.new = E at hbo hWh
 simp only [eSteps] at hbo
 simp only [↓evd, evu, evf, implies_true, reduceCtorEq, ↓reduceIte, Nat.reduceLT, evz]
 refine hbo.mono ?_
 rintro v τ ⟨k1, k2, fp1, fp2, rfl, hT⟩
 have hE := hT.eng
 have hW1 : τ.W = W := hT.keep.1
 clear hT hbo hfew hfew'
 rcases hal : forgetE E E.R.grp with ⟨E3, c3⟩
 obtain ⟨rfl, hg3⟩ := forget_all hWh.rok hal
 have hW3 := hWh.forget hal
 have bb : ∀ x : Int, (x == x) = true := by intro x; simp
 simp only [↓evd, evu, evf, implies_true, reduceCtorEq, Nat.reduceEqDiff, ↓reduceIte, Nat.reduceLT, evz]
 refine (gcAll_at hE hal).mono ?_
 rintro v τ1 ⟨rfl, fp3, hE3, kk3, f3⟩
 have hWa : τ1.W = W := kk3.1.trans hW1
 clear hE kk3 f3 hW1 hal hWh
 simp only [↓evd, evu, evf, implies_true, reduceCtorEq]
 refine awp_loop (fun m fr ρ => ∃ (i : Nat) (C : Eng) (fq : List Nat), m + i = mm.length ∧ fr.get 1 = eSteps mm ∧ fr.get 5 = .ptr (.new k1) 0 ∧ fr.get 7 = .int .i64 (i : Nat) ∧ IsEng ρ k1 C fq ∧ C.Whole ∧ ρ.W = W) ?_ (m := mm.length) ?_
 ·rintro m fr ρ ⟨i, C, fq, hi, e1, e5, e7, hC, hCW, hW⟩
  by_cases hlt : i < mm.length
  ·have hlt' : (i : Int) < (mm.length : Int) := by omega
   have hs := wrap_succ (i := i) (by omega)
   have hg := map_get eStep mm i hlt
   have hfx := hall' _ (List.getElem_mem hlt)
   generalize mm[i] = x at hg hfx
   obtain ⟨hx1, hx2, hx3⟩ := fewOne_iff.1 hfx
   by_cases w4 : x.what ≤ 4
   ·rcases he : editE C (C.R.head : Nat) x.group x.rank x.c with ⟨C', n, c⟩
    have hCW' := hCW.edit he
    have hed := eedit_at hC (by omega) (fun c hc => by have := hx1 c hc; omega) he
    have hhd := ehead_at hC
    simp only [eChgs] at hed
    simp only [↓evd, evu, evf, implies_true, reduceCtorEq, ↓reduceIte, Nat.reduceLT, evz, e1, e7, hlt', eSteps, hg, eStep, w4]
    with_reducible refine draw_of_grow (fun _ => True) (ms := [false, false, false, false, false, false, false, false, false, false, false, false, false, false, false, false, false, false, true]) (by kernel_rfl) ?_
    simp only [↓evd, evu, evf, ↓reduceIte, Nat.reduceLT, evz, e5]
    refine MSpec.of hhd ⟨.inr Keeps.rfl, ?_⟩
    simp only [↓evd, evu, evf, ↓reduceIte, Nat.reduceLT, evz, e1, e7, eSteps, hg, eStep, eChgs]
    refine hed.mono ?_
    rintro v τ2 ⟨rfl, fq', hC', kk, ff⟩
    simp only [↓evd, evu, evf, implies_true, reduceCtorEq, ↓reduceIte, Nat.reduceLT, evz, e1, e5, e7, hs]
    exact ⟨m - 1, by omega, i + 1, C', fq', by omega, rfl, rfl, hC', hCW', kk.1.trans hW⟩
   ·rcases he : toggleE C x.group with ⟨C', n, c⟩
    have hCW' := hCW.toggle he
    have htg := etoggle_at hC he
    simp only [↓evd, evu, evf, implies_true, reduceCtorEq, ↓reduceIte, Nat.reduceLT, evz, e1, e5, e7, hlt', eSteps, hg, eStep, w4]
    refine htg.mono ?_
    rintro v τ2 ⟨rfl, fq', hC', kk, ff⟩
    simp only [↓evd, evu, evf, implies_true, reduceCtorEq, ↓reduceIte, Nat.reduceLT, evz, e1, e5, e7, hs]
    exact ⟨m - 1, by omega, i + 1, C', fq', by omega, rfl, rfl, hC', hCW', kk.1.trans hW⟩
  ·have hlt' : ¬ (i : Int) < (mm.length : Int) := by omega
   have hhd := ehead_at hC
   have htx := etext_at hC (C.R.head : Nat)
   rw [textV_head hCW.rok] at htx
   rcases hal : forgetE C C.R.grp with ⟨D, c3⟩
   obtain ⟨rfl, hgD⟩ := forget_all hCW.rok hal
   have hWD := hCW.forget hal
   have hlD := hWD.ok.len
   obtain ⟨hvD, hhD⟩ := forget_vis hCW hal
   have hpv := plain_vis hWD.known hgD
   have hpd := plain_dead hWD.known hgD
   have hpw := plain_weight hWD.known hgD
   have htD : D.text (D.R.head : Nat) = C.text (C.R.head : Nat) := by rw [Eng.text_vis, Eng.text_vis, hvD]
   have hfl : (D.l.map (·.text)).flatten = C.text (C.R.head : Nat) := by rw [← hpv, ← Eng.text_vis, htD]
   have hcp := hWD.ok.txt
   simp only [↓evd, evu, evf, implies_true, reduceCtorEq, ↓reduceIte, Nat.reduceLT, evz, e1, e5, e7, hlt', eSteps]
   refine MSpec.of hhd ?_
   simp only [↓evd, evu, ↓reduceIte, Nat.reduceLT, evz]
   refine MSpec.of htx ?_
   simp only [↓evd, evu, evf, implies_true, reduceCtorEq, Nat.reduceEqDiff, ↓reduceIte, Nat.reduceLT, evz, e5]
   refine (gcAll_at hC hal).mono ?_
   rintro v τ2 ⟨rfl, fq', hD, kk, ff⟩
   have hWb : τ2.W = W := kk.1.trans hW
   have h1 := ehead_at hD
   have h2 := etext_at hD (D.R.head : Nat)
   rw [textV_head hWD.rok, htD] at h2
   have h3 := eatoms_at hD
   simp only [eAtoms] at h3
   generalize hS : C.text (C.R.head : Nat) = S at hfl h2
   simp only [↓evd, evu, evf, implies_true, reduceCtorEq, ↓reduceIte, Nat.reduceLT, evz, e5]
   refine MSpec.of h1 ?_
   simp only [↓evd, evu, ↓reduceIte, Nat.reduceLT, evz]
   refine MSpec.of h2 ?_
   simp only [↓evd, evu, evf, implies_true, reduceCtorEq, Nat.reduceEqDiff, ↓reduceIte, Nat.reduceLT, evz, e5]
   refine MSpec.of h3 ?_
   simp only [↓evd, evu, evf, implies_true, reduceCtorEq, ↓reduceIte]
   refine awp_loop (fun m fr ρ => ∃ (i : Nat), m + i = D.l.length ∧ fr.get 5 = .ptr (.new k1) 0 ∧ fr.get 8 = .str S ∧ fr.get 10 = .str S ∧ fr.get 12 = eAtoms D.l ∧ fr.get 13 = .str ((D.l.take i).map (·.text)).flatten ∧ fr.get 14 = .int .i64 (i : Nat) ∧ ((D.l.take i).map (·.text)).flatten.length ≤ i * 4 ∧ Keep [] τ2 ρ) ?_ (m := D.l.length) ?_
   ·clear e1 e5 e7
    rintro m fr ρ ⟨i, hi, e5, e8, e10, e12, e13, e14, hb4, hK⟩
    by_cases hlt : i < D.l.length
    ·have hlt' : (i : Int) < (D.l.length : Int) := by omega
     have hs := wrap_succ (i := i) (by omega)
     have hgt := map_get eAtom D.l i hlt
     have hft := flat_snoc hlt
     have hca := (cp_len (hcp _ (List.getElem_mem hlt))).2
     generalize D.l[i] = a at hgt hft hca
     have hadd : aStr .add ((D.l.take i).map (·.text)).flatten a.text = some (.str ((D.l.take (i + 1)).map (·.text)).flatten) := by
      rw [hft]; simp only [aStr]; rw [if_pos (by omega)]
     simp only [↓evd, evu, evf, implies_true, reduceCtorEq, Nat.reduceEqDiff, ↓reduceIte, Nat.reduceLT, evz, e5, e8, e10, e12, e13, e14, eAtoms, hlt', hgt, eAtom, hadd, hs]
     refine ⟨m - 1, by omega, i + 1, by omega, rfl, rfl, ?_, hK⟩
     rw [hft, List.length_append]; omega
    ·have hlt' : ¬ (i : Int) < (D.l.length : Int) := by omega
     have hti : D.l.take i = D.l := List.take_of_length_le (by omega)
     rw [hti, hfl] at e13
     have hD4 := hD.keep hK (fun y _ => by simp)
     have hd4 := gcDead_call hD4
     have hw4 := gcWeight_call hD4
     rw [hpd] at hd4
     rw [hpw] at hw4
     have c2 : (((0 : Nat) : Int) == 0) = true := rfl
     simp only [↓evd, evu, evf, implies_true, reduceCtorEq, ↓reduceIte, Nat.reduceLT, evz, e5, e8, e10, e12, e13, e14, eAtoms, hlt', aStr_self]
     refine MSpec.of hd4 ?_
     simp only [↓evd, evu, evf, implies_true, reduceCtorEq, ↓reduceIte, Nat.reduceLT, evz, e5]
     refine MSpec.of hw4 ?_
     simp only [↓evd, evu, evf, implies_true, reduceCtorEq, ↓reduceIte, Nat.reduceLT, evz, e12, eAtoms]
     first | exact hK.1.trans hWb | exact ⟨rfl, hK.1.trans hWb⟩
   ·refine ⟨0, by omega, ?_⟩
    simp only [evu, ↓reduceIte, Nat.reduceLT, evz, e5]
    first | exact Keep.refl _ _ | exact ⟨rfl, Nat.le_refl _, Keep.refl _ _⟩ | exact ⟨Nat.le_refl _, Keep.refl _ _⟩
 ·refine ⟨0, E3, fp3, by omega, ?_⟩
  simp only [evu, reduceCtorEq, ↓reduceIte, Nat.reduceLT, evz, eSteps]
  first | exact ⟨hE3, hW3, hWa⟩ | exact ⟨rfl, hE3, hW3, hWa⟩
theorem gcAgain_row (W : World) (a0 a1 : List Step) (g0 : GList gStep a0) (g1 : GList gStep a1) : FSpec Tryz.prog n_palinodelaw23_GcAgain [.fsl 6 (a0.map eStep), .fsl 6 (a1.map eStep)] (Heap.bare W (cellsOf W)) fun v s => v = .bool true ∧ s.W = W :=
 gcAgain_fspec W a0 a1 (steps_fit g0).1 (steps_fit g0).2 (steps_fit g1).1 (steps_fit g1).2
end Go.Proofs.YtioampofolilnaaGreat.M

