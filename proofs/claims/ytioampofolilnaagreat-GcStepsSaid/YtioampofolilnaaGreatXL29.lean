/- A part of the seat's proofs over the abstract machine. No condition. -/
import Derived.Test.YtioampofolilnaaGreatWC
set_option maxRecDepth 100000
namespace Go.Proofs.YtioampofolilnaaGreat.M
open Go Go.Mini
section
open Opd renaming tmp → t, lit → l
open SOp renaming mv → m, call → c, load → d, pick → k, fldA → f, bin → b, idxA → x, store → e, nilc → z, len → g
open SCode renaming seq → q, reg → r, cond → i, block → o
open Option renaming some → s, none → n
def f_palinodelaw23_GcSteps : SFunc := { ntmps := 116, results := [.tmp 2], body :=
(q (r n [⟨s 2, m (l (.bool false)), n, []⟩])
(q (q (r n [⟨s 18, c (l (.fn 24 [])) [], n, []⟩,
 ⟨s 19, .not (t 18), n, [0]⟩])
(i (t 19) (q (r n [⟨s 2, m (l (.bool false)), n, []⟩])
.ret) .skip))
(q (q (r n [⟨s 20, m (t 0), n, []⟩,
 ⟨s 21, c (l (.fn 25 [])) [(t 20)], n, [0]⟩,
 ⟨s 22, .not (t 21), n, [1]⟩])
(i (t 22) (q (r n [⟨s 2, m (l (.bool true)), n, []⟩])
.ret) .skip))
(q (r n [⟨s 24, m (t 0), n, []⟩,
 ⟨s 25, c (l (.fn 26 [])) [(t 24)], n, [0]⟩,
 ⟨s 23, m (t 25), n, [1]⟩,
 ⟨s 26, .ext (t 23) 0, n, [2]⟩,
 ⟨s 27, .ext (t 23) 1, n, [2]⟩,
 ⟨s 3, m (t 26), n, [3, 1, 0, 1, 2, 3]⟩,
 ⟨s 4, m (t 27), n, [4, 5, 0, 1, 2, 3, 4, 5]⟩])
(q (r n [⟨s 28, m (t 3), n, []⟩,
 ⟨s 29, c (l (.fn 21 [])) [(t 28)], n, [0]⟩,
 ⟨s 5, m (t 29), n, [1, 1, 0, 1]⟩])
(q (r n [⟨s 30, m (t 3), n, []⟩,
 ⟨s 31, c (l (.fn 37 [])) [(t 30)], n, [0]⟩,
 ⟨s 6, m (t 31), n, [1, 1, 0, 1]⟩])
(q (r n [⟨s 33, m (t 3), n, []⟩,
 ⟨s 34, m (t 6), n, []⟩,
 ⟨s 35, c (l (.fn 27 [])) [(t 33), (t 34)], n, [0, 1]⟩,
 ⟨s 32, m (t 35), n, [2]⟩,
 ⟨s 36, .ext (t 32) 0, n, [3]⟩,
 ⟨s 37, .ext (t 32) 1, n, [3]⟩,
 ⟨s 7, m (t 36), n, [4, 2, 0, 1, 2, 3, 4]⟩,
 ⟨s 8, m (t 37), n, [5, 6, 0, 1, 2, 3, 4, 5, 6]⟩])
(q (q (r n [⟨s 38, m (t 8), n, []⟩,
 ⟨s 39, b .neq .int (t 38) (l (.int .i64 0)), n, [0]⟩])
(i (t 39) (q (r n [⟨s 2, m (l (.bool false)), n, []⟩])
.ret) .skip))
(q (r n [⟨s 9, m (l (.int .i64 0)), n, []⟩])
(q (q (r n [⟨s 10, m (l (.int .i64 0)), n, []⟩])
(o 0 (.loop (q (q (r n [⟨s 40, m (t 10), n, []⟩,
 ⟨s 41, m (t 6), n, []⟩,
 ⟨s 42, g (t 41), n, [1]⟩,
 ⟨s 43, b .lss .int (t 40) (t 42), n, [0, 2]⟩])
(i (t 43) .skip (.exit 0)))
(q (o 1 (q (r n [⟨s 47, m (t 5), n, []⟩,
 ⟨s 48, m (t 6), n, []⟩,
 ⟨s 49, m (t 10), n, []⟩,
 ⟨s 50, m (t 10), n, []⟩,
 ⟨s 51, b .add .int (t 50) (l (.int .i64 1)), n, [3]⟩,
 ⟨s 52, .slc 1 (t 48) (s (t 49)) (s (t 51)) n, n, [1, 2, 4]⟩,
 ⟨s 53, c (l (.fn 27 [])) [(t 47), (t 52)], n, [0, 5]⟩,
 ⟨s 46, m (t 53), n, [6]⟩,
 ⟨s 54, .ext (t 46) 0, n, [7]⟩,
 ⟨s 55, .ext (t 46) 1, n, [7]⟩,
 ⟨s 11, m (t 54), n, [8, 6, 0, 1, 2, 3, 4, 5, 6, 7, 8]⟩,
 ⟨s 12, m (t 55), n, [9, 10, 0, 1, 2, 3, 4, 5, 6, 7, 8, 9, 10]⟩])
(q (r n [⟨s 56, m (t 5), n, []⟩,
 ⟨s 57, c (l (.fn 34 [])) [(t 56)], n, [0]⟩,
 ⟨s 58, g (t 57), n, [1]⟩,
 ⟨s 13, m (t 58), n, [2, 1, 0, 1, 2]⟩])
(q (q (r n [⟨s 59, m (t 12), n, []⟩,
 ⟨s 60, b .neq .int (t 59) (l (.int .i64 0)), n, [0]⟩,
 ⟨s 61, m (t 60), n, [1]⟩,
 ⟨s 62, m (t 5), s (61, false), [2]⟩,
 ⟨s 63, m (t 6), s (61, false), [2]⟩,
 ⟨s 64, m (t 10), s (61, false), [2]⟩,
 ⟨s 65, m (t 10), s (61, false), [2]⟩,
 ⟨s 66, b .add .int (t 65) (l (.int .i64 1)), s (61, false), [6, 2]⟩,
 ⟨s 67, .slc 1 (t 63) (s (t 64)) (s (t 66)) n, s (61, false), [4, 5, 7, 2]⟩,
 ⟨s 68, c (l (.fn 39 [])) [(t 62), (t 67)], s (61, false), [3, 8, 2, 2]⟩,
 ⟨s 69, b .neq .int (t 68) (l (.int .i64 0)), s (61, false), [9, 2]⟩,
 ⟨s 70, k (t 61) (l (.bool true)) (t 69), n, [2, 10]⟩,
 ⟨s 71, m (t 70), n, [11, 9]⟩,
 ⟨s 72, m (t 13), s (71, false), [12]⟩,
 ⟨s 73, m (t 5), s (71, false), [12]⟩,
 ⟨s 74, c (l (.fn 34 [])) [(t 73)], s (71, false), [14, 12, 12]⟩,
 ⟨s 75, g (t 74), s (71, false), [15, 12]⟩,
 ⟨s 76, b .sub .int (t 72) (t 75), s (71, false), [13, 16, 12]⟩,
 ⟨s 77, m (t 11), s (71, false), [12]⟩,
 ⟨s 78, b .neq .int (t 76) (t 77), s (71, false), [17, 18, 12]⟩,
 ⟨s 79, k (t 71) (l (.bool true)) (t 78), n, [12, 19]⟩])
(i (t 79) (q (r n [⟨s 2, m (l (.bool false)), n, []⟩])
.ret) .skip))
(r n [⟨s 80, m (t 9), n, []⟩,
 ⟨s 81, m (t 11), n, []⟩,
 ⟨s 82, b .add .int (t 80) (t 81), n, [0, 1]⟩,
 ⟨s 9, m (t 82), n, [2, 0, 1, 2]⟩])))))
(r n [⟨s 44, m (t 10), n, []⟩,
 ⟨s 45, b .add .int (t 44) (l (.int .i64 1)), n, [0]⟩,
 ⟨s 10, m (t 45), n, [1, 0, 1]⟩]))))))
(q (r n [⟨s 83, m (t 3), n, []⟩,
 ⟨s 84, c (l (.fn 35 [])) [(t 83)], n, [0]⟩])
(q (r n [⟨s 86, m (t 3), n, []⟩,
 ⟨s 87, m (t 3), n, []⟩,
 ⟨s 88, c (l (.fn 23 [])) [(t 87)], n, [1]⟩,
 ⟨s 89, c (l (.fn 38 [])) [(t 86), (t 88)], n, [0, 2, 2]⟩,
 ⟨s 85, m (t 89), n, [3]⟩,
 ⟨s 90, .ext (t 85) 0, n, [4]⟩,
 ⟨s 91, .ext (t 85) 1, n, [4]⟩,
 ⟨s 14, m (t 90), n, [5, 3, 0, 1, 2, 3, 4, 5]⟩,
 ⟨s 15, m (t 91), n, [6, 7, 0, 1, 2, 3, 4, 5, 6, 7]⟩])
(q (r n [⟨s 93, m (t 5), n, []⟩,
 ⟨s 94, m (t 5), n, []⟩,
 ⟨s 95, c (l (.fn 23 [])) [(t 94)], n, [1]⟩,
 ⟨s 96, c (l (.fn 38 [])) [(t 93), (t 95)], n, [0, 2, 2]⟩,
 ⟨s 92, m (t 96), n, [3]⟩,
 ⟨s 97, .ext (t 92) 0, n, [4]⟩,
 ⟨s 98, .ext (t 92) 1, n, [4]⟩,
 ⟨s 16, m (t 97), n, [5, 3, 0, 1, 2, 3, 4, 5]⟩,
 ⟨s 17, m (t 98), n, [6, 7, 0, 1, 2, 3, 4, 5, 6, 7]⟩])
(q (r n [⟨s 99, m (t 9), n, []⟩,
 ⟨s 100, m (t 7), n, []⟩,
 ⟨s 101, b .eql .int (t 99) (t 100), n, [0, 1]⟩,
 ⟨s 102, m (t 101), n, [2]⟩,
 ⟨s 103, m (t 14), s (102, true), [3]⟩,
 ⟨s 104, m (t 16), s (102, true), [3]⟩,
 ⟨s 105, b .eql .str (t 103) (t 104), s (102, true), [4, 5, 3]⟩,
 ⟨s 106, k (t 102) (t 105) (l (.bool false)), n, [3, 6]⟩,
 ⟨s 107, m (t 106), n, [7, 3]⟩,
 ⟨s 108, m (t 5), s (107, true), [8]⟩,
 ⟨s 109, c (l (.fn 34 [])) [(t 108)], s (107, true), [9, 8, 8]⟩,
 ⟨s 110, g (t 109), s (107, true), [10, 8]⟩,
 ⟨s 111, m (t 3), s (107, true), [8]⟩,
 ⟨s 112, c (l (.fn 34 [])) [(t 111)], s (107, true), [12, 10, 8]⟩,
 ⟨s 113, g (t 112), s (107, true), [13, 8]⟩,
 ⟨s 114, b .eql .int (t 110) (t 113), s (107, true), [11, 14, 8]⟩,
 ⟨s 115, k (t 107) (t 114) (l (.bool false)), n, [8, 15]⟩,
 ⟨s 2, m (t 115), n, [16, 13, 0, 1, 2, 3, 4, 5, 6, 7, 8, 9, 10, 11, 12, 13, 14, 15, 16]⟩])
.ret)))))))))))))) }
theorem c_palinodelaw23_GcSteps : cFunc Tryz.prog n_palinodelaw23_GcSteps = some f_palinodelaw23_GcSteps := by kernel_rfl
end
end Go.Proofs.YtioampofolilnaaGreat.M
set_option linter.unusedSimpArgs false
set_option linter.unusedVariables false
set_option maxRecDepth 100000
namespace Go.Proofs.YtioampofolilnaaGreat.M
open Go Go.Mini
attribute [local congr] go1_congr goM_congr goG_congr goV_congr drawwp_congr Xwp_congr
theorem slc_one1 {l : List Int} {i : Nat} (h : i < l.length) : aSlc 1 (.fsl 1 (l.map (AVal.int .i64 ·))) (some (.int .i64 (i : Nat))) (some (.int .i64 ((i + 1 : Nat) : Int))) none = some (.fsl 1 ([l[i]].map (AVal.int .i64 ·))) := by
 have b1 : aBound (some (.int .i64 ((i + 1 : Nat) : Int))) (l.map (AVal.int .i64 ·)).length (l.map (AVal.int .i64 ·)).length = some (i + 1) := by
  simp only [aBound, List.length_map]; rw [if_pos (by simp; omega)]; rfl
 have b2 : aBound (some (.int .i64 (i : Nat))) 0 (i + 1) = some i := by
  simp only [aBound]; rw [if_pos (by simp; omega)]; rfl
 have b3 : aBound none (l.map (AVal.int .i64 ·)).length (l.map (AVal.int .i64 ·)).length = some (l.map (AVal.int .i64 ·)).length := rfl
 have e : ((l.map (AVal.int .i64 ·)).take (i + 1)).drop i = [l[i]].map (AVal.int .i64 ·) := by
  rw [← List.map_take, ← List.map_drop, List.take_succ_eq_append_getElem h, List.drop_append_of_le_length (by rw [List.length_take]; omega), List.drop_eq_nil_of_le (by rw [List.length_take]; omega), List.nil_append]
 simp only [aSlc, b3, b1, b2, e, Option.isSome_none, Bool.false_and, Bool.false_eq_true, if_false]; rfl
theorem forget_first {E E' : Eng} {g c : Int} {r : List Int} (h : E.Whole) (hg : E.R.grp = g :: r) (e : forgetE E [g] = (E', c)) : c = 0 ∧ E'.R.grp = r ∧ E'.l.length ≤ E.l.length := by
 have hgood : Good E.R [g] := ⟨by simp, fun x hx => by rw [List.mem_singleton] at hx; subst hx; rw [hg]; simp⟩
 have hn := h.rok.grp.nodup
 rw [hg, List.nodup_cons] at hn
 rw [forgetE, forget_good hgood] at e
 simp only [ne_eq, not_true_eq_false, if_false] at e
 cases e
 refine ⟨rfl, ?_, restL_len _ _ _⟩
 simp only [delAll, hg, List.filter_cons, List.mem_singleton, not_true_eq_false, decide_false, Bool.false_eq_true, if_false]
 rw [List.filter_eq_self]
 intro x hx
 simp only [decide_eq_true_eq]
 intro e; subst e; exact hn.1 hx
set_option maxHeartbeats 8000000 in
theorem gcSteps_fspec (W : World) (l : List Step) (hl : l.length ≤ 9223372036854775807) (hx : ∀ x ∈ l, StepFits x) : FSpec Tryz.prog n_palinodelaw23_GcSteps [eSteps l] (Heap.bare W (cellsOf W)) fun v s => v = .bool true ∧ s.W = W := by
 refine fspec_of_awp mixed c_palinodelaw23_GcSteps (Nat.le_of_ble_eq_true rfl) ?_
 unfold f_palinodelaw23_GcSteps
 have hfew := few23_call (Heap.bare W (cellsOf W)) l hl hx
 simp only [eSteps] at hfew
 simp only [↓evd, evu, evf, implies_true, reduceCtorEq]
 refine MSpec.of (known23_call _ rfl) ?_
 simp only [↓evd, evu, evf, implies_true, reduceCtorEq, ↓reduceIte, Nat.reduceLT, evz, eSteps]
 refine MSpec.of hfew ?_
 cases hfb : fewB20 l with
 | false => simp only [↓evd, evu, evf, implies_true, reduceCtorEq, ↓reduceIte]
 | true =>
 have hall : ∀ x ∈ l, fewOne x = true := fun x hx => by
  simp only [fewB20, Bool.and_eq_true, List.all_eq_true] at hfb
  exact hfb.1 x hx
 have hl20 : l.length ≤ 20 := by simp only [fewB20, Bool.and_eq_true, decide_eq_true_eq] at hfb; exact hfb.2
 have hbo := both23_at (Heap.bare W (cellsOf W)) rfl l (by omega) hall
 have hWh : (l.foldl doB Eng.new).Whole := Eng.Whole.new.run
 generalize l.foldl doB Eng.new = E at hbo hWh
 simp only [eSteps] at hbo
 simp only [↓evd, evu, evf, implies_true, reduceCtorEq, ↓reduceIte, Nat.reduceLT, evz]
 refine hbo.mono ?_
 rintro v τ ⟨k1, k2, fp1, fp2, rfl, hT⟩
 have hE := hT.eng
 have hW1 : τ.W = W := hT.keep.1
 clear hT hbo hfew
 have hll := hWh.ok.len
 have hgl := rise_len hWh.rok.grp
 rcases hal : forgetE E E.R.grp with ⟨E3, c3⟩
 obtain ⟨rfl, hg3⟩ := forget_all hWh.rok hal
 have hW3 := hWh.forget hal
 obtain ⟨hv3, hh3⟩ := forget_vis hWh hal
 have hpv3 := plain_vis hW3.known hg3
 have hlv : E.vis.length = E3.l.length := by rw [← hv3, hpv3, List.length_map]
 simp only [↓evd, evu, evf, implies_true, reduceCtorEq, Nat.reduceEqDiff, ↓reduceIte, Nat.reduceLT, evz]
 refine (ecopy_at hE).mono ?_
 rintro v τ1 ⟨k', kr', fpr', rfl, hC0, hfc, kc⟩
 have hC : IsEng τ1 k' E (k' :: fpr') := ⟨_, _, _, hC0, rfl⟩
 have hE1 := hE.keep kc (fun y _ => by simp)
 have hd1 : ∀ y ∈ k' :: fpr', y ∉ fp1 := fun y hy hm => by have := hE.low y hm; have := hfc y hy; omega
 have hlow1 := hE1.low
 generalize k' :: fpr' = fq at hC hd1
 have hWa : τ1.W = W := kc.1.trans hW1
 clear hE hC0 hfc kc
 have hgr := egroups_at hE1
 have hfr := gcFree_call hE1 (gs := E.R.grp) (by omega) hal
 rw [if_pos rfl] at hfr
 simp only [ints] at hgr hfr
 generalize hall' : E.R.grp = all at hgr hfr hgl hal
 have b0 : ((0 : Int) != 0) = false := rfl
 have bb : ∀ x : Int, (x != x) = false := by intro x; simp
 simp only [↓evd, evu, evf, implies_true, reduceCtorEq, ↓reduceIte, Nat.reduceLT, evz]
 refine MSpec.of hgr ?_
 simp only [↓evd, evu, evf, implies_true, reduceCtorEq, ↓reduceIte, Nat.reduceLT, evz]
 refine MSpec.of hfr ?_
 simp only [↓evd, evu, evf, implies_true, reduceCtorEq, Nat.reduceEqDiff, ↓reduceIte, Nat.reduceLT, evz, b0]
 refine awp_loop (fun m fr ρ => ∃ (i : Nat) (C : Eng) (fq : List Nat), m + i = all.length ∧ fr.get 3 = .ptr (.new k1) 0 ∧ fr.get 5 = .ptr (.new k') 0 ∧ fr.get 6 = ints all ∧ fr.get 7 = .int .i64 ((E.l.length : Int) - (E3.l.length : Int)) ∧ fr.get 9 = .int .i64 ((E.l.length : Int) - (C.l.length : Int)) ∧ fr.get 10 = .int .i64 (i : Nat) ∧
  IsEng ρ k1 E fp1 ∧ IsEng ρ k' C fq ∧ (∀ y ∈ fq, y ∉ fp1) ∧ C.Whole ∧ C.R.grp = all.drop i ∧ C.vis = E.vis ∧ C.R.head = E.R.head ∧ C.l.length ≤ E.l.length ∧ ρ.W = W) ?_ (m := all.length) ?_
 ·rintro m fr ρ ⟨i, C, fq, hi, e3, e5, e6, e7, e9, e10, hE, hC, hd, hCW, hCg, hCv, hCh, hCl, hW⟩
  by_cases hlt : i < all.length
  ·have hlt' : (i : Int) < (all.length : Int) := by omega
   have hs := wrap_succ (i := i) (by omega)
   have hsl := slc_one1 hlt
   rw [List.drop_eq_getElem_cons hlt] at hCg
   generalize all[i] = g at hsl hCg
   rcases hfo : forgetE C [g] with ⟨C', c⟩
   obtain ⟨rfl, hg', hl'⟩ := forget_first hCW hCg hfo
   obtain ⟨hv', hh'⟩ := forget_vis hCW hfo
   have hCW' := hCW.forget hfo
   have hfr2 := gcFree_call hC (gs := [g]) (by simp) hfo
   rw [if_pos rfl] at hfr2
   have hat := eatoms_at hC
   have hfg := eforget_at hC (gs := [g]) (by simp) hfo
   have hws : IntKind.i64.wrap ((C.l.length : Int) - (C'.l.length : Int)) = (C.l.length : Int) - (C'.l.length : Int) := wrap_id (by omega) (by omega)
   have hwa : IntKind.i64.wrap (((E.l.length : Int) - (C.l.length : Int)) + ((C.l.length : Int) - (C'.l.length : Int))) = (E.l.length : Int) - (C'.l.length : Int) := by rw [wrap_id (by omega) (by omega)]; omega
   simp only [ints, eAtoms] at hfr2 hat hfg
   simp only [↓evd, evu, evf, implies_true, reduceCtorEq, ↓reduceIte, Nat.reduceLT, evz, e5, e6, e10, hlt', hs, hsl]
   refine MSpec.of hfr2 ?_
   simp only [↓evd, evu, evf, implies_true, reduceCtorEq, Nat.reduceEqDiff, ↓reduceIte, Nat.reduceLT, evz, e5]
   refine MSpec.of hat ?_
   simp only [↓evd, evu, evf, implies_true, reduceCtorEq, ↓reduceIte, Nat.reduceLT, evz, e5, e6, e10, b0, hs, hsl]
   refine hfg.mono ?_
   rintro v τ2 ⟨rfl, fq', hC', kk, ff⟩
   have hat' := eatoms_at hC'
   simp only [eAtoms] at hat'
   have hE' := hE.keep kk (fun y hy hm => hd y hm hy)
   have hd' : ∀ y ∈ fq', y ∉ fp1 := fun y hy hm => by
    rcases ff y hy with h | h
    ·exact hd y h hm
    ·have := hE.low y hm; omega
   simp only [↓evd, evu, evf, implies_true, reduceCtorEq, ↓reduceIte, Nat.reduceLT, evz, e5, b0]
   refine MSpec.of hat' ?_
   simp only [↓evd, evu, evf, implies_true, reduceCtorEq, Nat.reduceEqDiff, ↓reduceIte, Nat.reduceLT, evz, e3, e5, e6, e7, e9, e10, hws, bb, hwa, hs]
   exact ⟨m - 1, by omega, i + 1, C', fq', by omega, rfl, rfl, hE', hC', hd', hCW', hg', hv'.trans hCv, hh'.trans hCh, by omega, kk.1.trans hW⟩
  ·have hlt' : ¬ (i : Int) < (all.length : Int) := by omega
   rw [List.drop_eq_nil_of_le (by omega)] at hCg
   have hpc := plain_vis hCW.known hCg
   have hlc : C.l.length = E3.l.length := by rw [← hlv, ← hCv, hpc, List.length_map]
   rw [hlc] at e9
   rw [← hall'] at hal
   have hg2 := gcAll_at hE hal
   have be : ∀ x : Int, (x == x) = true := by intro x; simp
   have htx3 : E3.text (E3.R.head : Nat) = C.text (C.R.head : Nat) := by rw [Eng.text_vis, Eng.text_vis, hv3, hCv]
   simp only [↓evd, evu, evf, implies_true, reduceCtorEq, ↓reduceIte, Nat.reduceLT, evz, e3, e6, e10, hlt']
   refine hg2.mono ?_
   rintro v τ2 ⟨rfl, fp3, hE3, kk, ff⟩
   have hC3 := hC.keep kk (fun y hy hm => hd y hy hm)
   have h1 := ehead_at hE3
   have h2 := etext_at hE3 (E3.R.head : Nat)
   rw [textV_head hW3.rok, htx3] at h2
   have h3 := ehead_at hC3
   have h4 := etext_at hC3 (C.R.head : Nat)
   rw [textV_head hCW.rok] at h4
   have h5 := eatoms_at hC3
   have h6 := eatoms_at hE3
   simp only [eAtoms] at h5 h6
   simp only [↓evd, evu, evf, implies_true, reduceCtorEq, ↓reduceIte, Nat.reduceLT, evz, e3]
   refine MSpec.of h1 ?_
   simp only [↓evd, evu, ↓reduceIte, Nat.reduceLT, evz]
   refine MSpec.of h2 ?_
   simp only [↓evd, evu, evf, implies_true, reduceCtorEq, Nat.reduceEqDiff, ↓reduceIte, Nat.reduceLT, evz, e5]
   refine MSpec.of h3 ?_
   simp only [↓evd, evu, ↓reduceIte, Nat.reduceLT, evz]
   refine MSpec.of h4 ?_
   simp only [↓evd, evu, evf, implies_true, reduceCtorEq, Nat.reduceEqDiff, ↓reduceIte, Nat.reduceLT, evz, e5, e7, e9, aStr_self]
   refine MSpec.of h5 ?_
   simp only [↓evd, evu, evf, implies_true, reduceCtorEq, ↓reduceIte, Nat.reduceLT, evz, e3]
   refine MSpec.of h6 ?_
   simp only [↓evd, evu, evf, implies_true, reduceCtorEq, ↓reduceIte, Nat.reduceLT, evz, hlc]
   first | exact kk.1.trans hW | exact ⟨rfl, kk.1.trans hW⟩
 ·refine ⟨0, E, fq, by omega, ?_⟩
  simp only [evu, ↓reduceIte, Nat.reduceLT, evz]
  have hz : (E.l.length : Int) - (E.l.length : Int) = 0 := by omega
  rw [hz]
  first | exact ⟨rfl, hE1, hC, hd1, hWh, hall', rfl, rfl, Nat.le_refl _, hWa⟩ | exact ⟨hE1, hC, hd1, hWh, hall', rfl, rfl, Nat.le_refl _, hWa⟩ | exact ⟨hE1, hC, hd1, hWh, hall', hWa⟩ | exact ⟨rfl, hE1, hC, hd1, hWh, hall', hWa⟩
theorem gcSteps_row (W : World) (a0 : List Step) (g0 : GList gStep a0) : FSpec Tryz.prog n_palinodelaw23_GcSteps [.fsl 6 (a0.map eStep)] (Heap.bare W (cellsOf W)) fun v s => v = .bool true ∧ s.W = W :=
 gcSteps_fspec W a0 (steps_fit g0).1 (steps_fit g0).2
end Go.Proofs.YtioampofolilnaaGreat.M

