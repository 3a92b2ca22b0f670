/- A part of the seat's proofs over the abstract machine. No condition. -/
import Derived.Test.YtioampofolilnaaGreatWC
set_option maxRecDepth 100000
namespace Go.Proofs.YtioampofolilnaaGreat.M
open Go Go.Mini
section
open Opd renaming tmp → t, lit → l
open SOp renaming mv → m, call → c, load → d, pick → k, fldA → f, bin → b, idxA → x, store → e, nilc → z, len → g
open SCode renaming seq → q, reg → r, cond → i, block → o
open Option renaming some → s, none → n
def f_palinodelaw20_EnginePlays : SFunc := { ntmps := 67, results := [.tmp 2], body :=
(q (r n [⟨s 2, m (l (.bool false)), n, []⟩])
(q (q (r n [⟨s 11, c (l (.fn 14 [])) [], n, []⟩,
 ⟨s 12, .not (t 11), n, [0]⟩])
(i (t 12) (q (r n [⟨s 2, m (l (.bool false)), n, []⟩])
.ret) .skip))
(q (q (r n [⟨s 13, m (t 0), n, []⟩,
 ⟨s 14, c (l (.fn 15 [])) [(t 13)], n, [0]⟩,
 ⟨s 15, .not (t 14), n, [1]⟩])
(i (t 15) (q (r n [⟨s 2, m (l (.bool true)), n, []⟩])
.ret) .skip))
(q (r n [⟨s 16, c (l (.fn 16 [])) [], n, []⟩,
 ⟨s 17, c (l (.fn 17 [])) [], n, [0]⟩,
 ⟨s 3, m (t 16), n, [0, 1, 0]⟩,
 ⟨s 4, m (t 17), n, [1, 2, 0, 1, 2]⟩])
(q (q (r n [⟨s 5, m (l (.int .i64 0)), n, []⟩])
(o 0 (.loop (q (q (r n [⟨s 18, m (t 5), n, []⟩,
 ⟨s 19, m (t 0), n, []⟩,
 ⟨s 20, g (t 19), n, [1]⟩,
 ⟨s 21, b .lss .int (t 18) (t 20), n, [0, 2]⟩])
(i (t 21) .skip (.exit 0)))
(q (o 1 (q (r n [⟨s 25, m (t 3), n, []⟩,
 ⟨s 26, m (t 0), n, []⟩,
 ⟨s 27, m (t 5), n, []⟩,
 ⟨s 28, x 6 (t 26) (t 27), n, [1, 2]⟩,
 ⟨s 29, d (s 6) (t 28), n, [3]⟩,
 ⟨s 30, c (l (.fn 18 [])) [(t 25), (t 29)], n, [0, 4]⟩,
 ⟨s 24, m (t 30), n, [5]⟩,
 ⟨s 31, .ext (t 24) 0, n, [6]⟩,
 ⟨s 32, .ext (t 24) 1, n, [6]⟩,
 ⟨s 6, m (t 31), n, [7, 5, 0, 1, 2, 3, 4, 5, 6, 7]⟩,
 ⟨s 7, m (t 32), n, [8, 9, 0, 1, 2, 3, 4, 5, 6, 7, 8, 9]⟩])
(q (r n [⟨s 34, m (t 4), n, []⟩,
 ⟨s 35, m (t 0), n, []⟩,
 ⟨s 36, m (t 5), n, []⟩,
 ⟨s 37, x 6 (t 35) (t 36), n, [1, 2]⟩,
 ⟨s 38, d (s 6) (t 37), n, [3]⟩,
 ⟨s 39, c (l (.fn 19 [])) [(t 34), (t 38)], n, [0, 4]⟩,
 ⟨s 33, m (t 39), n, [5]⟩,
 ⟨s 40, .ext (t 33) 0, n, [6]⟩,
 ⟨s 41, .ext (t 33) 1, n, [6]⟩,
 ⟨s 8, m (t 40), n, [7, 5, 0, 1, 2, 3, 4, 5, 6, 7]⟩,
 ⟨s 9, m (t 41), n, [8, 9, 0, 1, 2, 3, 4, 5, 6, 7, 8, 9]⟩])
(q (r n [⟨s 42, m (t 6), n, []⟩,
 ⟨s 43, m (t 8), n, []⟩,
 ⟨s 44, b .neq .int (t 42) (t 43), n, [0, 1]⟩,
 ⟨s 45, m (t 44), n, [2]⟩,
 ⟨s 46, m (t 7), s (45, false), [3]⟩,
 ⟨s 47, m (t 9), s (45, false), [3]⟩,
 ⟨s 48, b .neq .int (t 46) (t 47), s (45, false), [4, 5, 3]⟩,
 ⟨s 49, k (t 45) (l (.bool true)) (t 48), n, [3, 6]⟩,
 ⟨s 50, m (t 49), n, [7, 3]⟩,
 ⟨s 51, m (t 3), s (50, false), [8]⟩,
 ⟨s 52, m (t 4), s (50, false), [8]⟩,
 ⟨s 53, c (l (.fn 20 [])) [(t 51), (t 52)], s (50, false), [9, 10, 8, 8]⟩,
 ⟨s 54, .not (t 53), s (50, false), [11, 8]⟩,
 ⟨s 55, k (t 50) (l (.bool true)) (t 54), n, [8, 12]⟩])
(i (t 55) (q (r n [⟨s 2, m (l (.bool false)), n, []⟩])
.ret) .skip)))))
(r n [⟨s 22, m (t 5), n, []⟩,
 ⟨s 23, b .add .int (t 22) (l (.int .i64 1)), n, [0]⟩,
 ⟨s 5, m (t 23), n, [1, 0, 1]⟩]))))))
(q (r n [⟨s 56, m (t 3), n, []⟩,
 ⟨s 57, c (l (.fn 21 [])) [(t 56)], n, [0]⟩,
 ⟨s 10, m (t 57), n, [1, 1, 0, 1]⟩])
(q (r n [⟨s 58, m (t 10), n, []⟩,
 ⟨s 59, m (t 10), n, []⟩,
 ⟨s 60, c (l (.fn 23 [])) [(t 59)], n, [1]⟩,
 ⟨s 61, .build [(.int .i64 0), (.int .i64 0), (.str [])] [(2, 1, (l (.str [109, 111, 114, 101])))], n, []⟩,
 ⟨s 62, .bslc 3 [(.int .i64 0), (.int .i64 0), (.str [])] 1 [(0, 3, (t 61))], n, [3]⟩,
 ⟨s 63, c (l (.fn 22 [])) [(t 58), (t 60), (l (.int .i64 5)), (l (.int .i64 0)), (t 62)], n, [0, 2, 4, 2]⟩])
(q (r n [⟨s 64, m (t 3), n, []⟩,
 ⟨s 65, m (t 4), n, []⟩,
 ⟨s 66, c (l (.fn 20 [])) [(t 64), (t 65)], n, [0, 1]⟩,
 ⟨s 2, m (t 66), n, [2, 2, 0, 1, 2]⟩])
.ret)))))))) }
theorem c_palinodelaw20_EnginePlays : cFunc Tryz.prog n_palinodelaw20_EnginePlays = some f_palinodelaw20_EnginePlays := by kernel_rfl
end
end Go.Proofs.YtioampofolilnaaGreat.M
set_option linter.unusedSimpArgs false
set_option linter.unusedVariables false
set_option maxRecDepth 100000
namespace Go.Proofs.YtioampofolilnaaGreat.M
open Go Go.Mini
attribute [local congr] go1_congr goM_congr goG_congr goV_congr drawwp_congr Xwp_congr
set_option maxHeartbeats 8000000 in
theorem plays20_fspec (W : World) (l : List Step) (hl : l.length ≤ 9223372036854775807) (hx : ∀ x ∈ l, StepFits x) : FSpec Tryz.prog n_palinodelaw20_EnginePlays [eSteps l] (Heap.bare W (cellsOf W)) fun v s => v = .bool true ∧ s.W = W := by
 refine fspec_of_awp mixed c_palinodelaw20_EnginePlays (Nat.le_of_ble_eq_true rfl) ?_
 unfold f_palinodelaw20_EnginePlays
 have hfew := few_call (Heap.bare W (cellsOf W)) l hl hx
 simp only [eSteps] at hfew
 simp only [↓evd, evu, evf, implies_true, reduceCtorEq]
 refine MSpec.of (known20_call _ rfl) ?_
 simp only [↓evd, evu, evf, implies_true, reduceCtorEq, ↓reduceIte, Nat.reduceLT, evz, eSteps]
 refine MSpec.of hfew ?_
 cases hfb : fewB l with
 | false => simp only [↓evd, evu, evf, implies_true, reduceCtorEq, ↓reduceIte]
 | true =>
 have hall : ∀ x ∈ l, fewOne x = true := fun x hx => by
  simp only [fewB, Bool.and_eq_true, List.all_eq_true] at hfb
  exact hfb.1 x hx
 have hl25 : l.length ≤ 25 := by simp only [fewB, Bool.and_eq_true, decide_eq_true_eq] at hfb; exact hfb.2
 simp only [↓evd, evu, evf, implies_true, reduceCtorEq, ↓reduceIte]
 refine (enew_at _ rfl).mono ?_
 rintro v τ0 ⟨k1, fp10, rfl, h0, hf0, k0⟩
 simp only [↓evd, evu]
 refine (rnewE_at τ0).mono ?_
 rintro v τ1 ⟨k2, fp20, rfl, h1, hf1, kk1⟩
 have hT0 := TwoE.mk (h0.keep kk1 (fun x _ => by simp)) h1 (fun x hx hm => by have := h0.low x hx; have := hf1 x hm; omega) hf0 (fun x hx => by have := hf1 x hx; have := k0.2.2.1; omega) (k0.trans kk1 (fun x hx => nomatch hx))
 clear h0 h1 hf0 hf1 k0 kk1
 have bb : ∀ x : Int, (x != x) = false := by intro x; simp
 simp only [↓evd, evu, evf, implies_true, reduceCtorEq, Nat.reduceEqDiff, ↓reduceIte, Nat.reduceLT, evz]
 refine awp_loop (fun m fr τ => ∃ (i : Nat) (E : Eng) (fp1 fp2 : List Nat), m + i = l.length ∧ fr.get 0 = eSteps l ∧ fr.get 3 = .ptr (.new k1) 0 ∧ fr.get 4 = .ptr (.new k2) 0 ∧ fr.get 5 = .int .i64 (i : Nat) ∧ TwoE (Heap.bare W (cellsOf W)) τ k1 k2 E fp1 fp2) ?_ (m := l.length) ?_
 ·rintro m fr τ ⟨i, E, fp1, fp2, hi, e0, e3, e4, e5, hT⟩
  by_cases hlt : i < l.length
  ·have hlt' : (i : Int) < (l.length : Int) := by omega
   have hw := wrap_succ (i := i) (by omega)
   have hg := map_get eStep l i hlt
   have hone := hall _ (List.getElem_mem hlt)
   generalize l[i] = x at hg hone
   rcases hdo : doFg E x with ⟨E', n, c⟩
   have d1 := doF_at hT.eng hone hdo
   simp only [eStep, eChgs, ints] at d1
   simp only [↓evd, evu, evf, implies_true, reduceCtorEq, ↓reduceIte, Nat.reduceAdd, Nat.reduceLT, evz, e0, e3, e5, eSteps, eStep, hlt', hg]
   refine d1.mono ?_
   rintro v τ2 ⟨rfl, fp1', hE1, kk1, f1⟩
   have d2 := rdoes_at (hT.ref.keep kk1 (fun y hy hm => hT.dis y hm hy)) hT.eng.ok.1 hone hdo
   simp only [eStep, eChgs, ints] at d2
   simp only [↓evd, evu, evf, implies_true, reduceCtorEq, Nat.reduceEqDiff, ↓reduceIte, Nat.reduceAdd, Nat.reduceLT, evz, e0, e4, e5, eSteps, eStep, hg]
   refine d2.mono ?_
   rintro v τ3 ⟨rfl, fp2', hR2, kk2, f2⟩
   have hT' := hT.step hE1 kk1 f1 hR2 kk2 f2
   have hal := alike_call hT'.eng hT'.ref
   simp only [↓evd, evu, evf, implies_true, reduceCtorEq, Nat.reduceEqDiff, ↓reduceIte, Nat.reduceLT, evz, e3, e4, bb]
   refine MSpec.of hal ?_
   simp only [↓evd, evu, evf, implies_true, reduceCtorEq, ↓reduceIte, Nat.reduceLT, evz, e0, e3, e4, e5, hw]
   exact ⟨m - 1, by omega, i + 1, E', fp1', fp2', by omega, rfl, rfl, hT'⟩
  ·have hlt' : ¬ (i : Int) < (l.length : Int) := by omega
   simp only [↓evd, evu, evf, implies_true, reduceCtorEq, ↓reduceIte, Nat.reduceLT, evz, e0, e3, e5, eSteps, hlt']
   refine (ecopy_at hT.eng).mono ?_
   rintro v τ2 ⟨c, kr', fpr', rfl, hC0, hfc, kc⟩
   have hC : IsEng τ2 c E (c :: fpr') := ⟨_, _, _, hC0, rfl⟩
   have hE2 := hT.eng.keep kc (fun y _ => by simp)
   have hR2 := hT.ref.keep kc (fun y _ => by simp)
   have hd1 : ∀ y ∈ fp1, y ∉ c :: fpr' := fun y hy hm => by have := hT.eng.low y hy; have := hfc y hm; omega
   have hd2 : ∀ y ∈ fp2, y ∉ c :: fpr' := fun y hy hm => by have := hT.ref.low y hy; have := hfc y hm; omega
   generalize c :: fpr' = fq at hC hd1 hd2
   have hhd := ehead_at hC
   rcases hed : editE E (E.R.head : Nat) 5 0 [⟨0, 0, [109, 111, 114, 101]⟩] with ⟨C', n, cc⟩
   simp only [↓evd, evu, evf, implies_true, reduceCtorEq, ↓reduceIte, Nat.reduceLT, evz]
   refine MSpec.of hhd ?_
   simp only [↓evd, evu, evf, implies_true, reduceCtorEq, ↓reduceIte, Nat.reduceAdd, Nat.reduceLT, evz]
   refine (eedit_lit hC (q := 1) rfl (by simp) (by intro c hc; simp at hc; subst hc; simp) hed).mono ?_
   rintro v τ3 ⟨rfl, fq', hC3, kk, ff⟩
   have hal := alike_call (hE2.keep kk hd1) (hR2.keep kk hd2)
   simp only [↓evd, evu, evf, implies_true, reduceCtorEq, ↓reduceIte, Nat.reduceLT, evz, e3, e4]
   refine MSpec.of hal ?_
   have hWf : τ3.W = W := kk.1.trans (kc.1.trans hT.keep.1)
   simp only [↓evd, evu, evf, implies_true, reduceCtorEq, ↓reduceIte]
   first | exact hWf | exact ⟨rfl, hWf⟩
 ·refine ⟨0, Eng.new, fp10, fp20, by omega, ?_⟩
  simp only [evu, evf, ↓reduceIte, Nat.reduceLT, evz, eSteps]
  first | exact ⟨rfl, hT0⟩ | exact hT0
theorem enginePlays_row (W : World) (a0 : List Step) (g0 : GList gStep a0) : FSpec Tryz.prog n_palinodelaw20_EnginePlays [.fsl 6 (a0.map eStep)] (Heap.bare W (cellsOf W)) fun v s => v = .bool true ∧ s.W = W :=
 plays20_fspec W a0 (steps_fit g0).1 (steps_fit g0).2
end Go.Proofs.YtioampofolilnaaGreat.M

