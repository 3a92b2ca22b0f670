/- A part of the seat's proofs over the abstract machine. No condition. -/
import Derived.Test.YtioampofolilnaaGreatWC
set_option maxRecDepth 100000
namespace Go.Proofs.YtioampofolilnaaGreat.M
open Go Go.Mini
section
open Opd renaming tmp → t, lit → l
open SOp renaming mv → m, call → c, load → d, pick → k, fldA → f, bin → b, idxA → x, store → e, nilc → z, len → g
open SCode renaming seq → q, reg → r, cond → i, block → o
open Option renaming some → s, none → n
def f_palinodelaw23_GcTells : SFunc := { ntmps := 134, results := [.tmp 4], body :=
(q (r n [⟨s 4, m (l (.bool false)), n, []⟩])
(q (q (r n [⟨s 14, c (l (.fn 24 [])) [], n, []⟩,
 ⟨s 15, .not (t 14), n, [0]⟩])
(i (t 15) (q (r n [⟨s 4, m (l (.bool false)), n, []⟩])
.ret) .skip))
(q (q (r n [⟨s 16, m (t 0), n, []⟩,
 ⟨s 17, c (l (.fn 25 [])) [(t 16)], n, [0]⟩,
 ⟨s 18, .not (t 17), n, [1]⟩,
 ⟨s 19, m (t 18), n, [2, 1]⟩,
 ⟨s 20, m (t 1), s (19, false), [3]⟩,
 ⟨s 21, g (t 20), s (19, false), [4, 3]⟩,
 ⟨s 22, b .gtr .int (t 21) (l (.int .i64 20)), s (19, false), [5, 3]⟩,
 ⟨s 23, k (t 19) (l (.bool true)) (t 22), n, [3, 6]⟩])
(i (t 23) (q (r n [⟨s 4, m (l (.bool true)), n, []⟩])
.ret) .skip))
(q (r n [⟨s 25, m (t 0), n, []⟩,
 ⟨s 26, c (l (.fn 26 [])) [(t 25)], n, [0]⟩,
 ⟨s 24, m (t 26), n, [1]⟩,
 ⟨s 27, .ext (t 24) 0, n, [2]⟩,
 ⟨s 28, .ext (t 24) 1, n, [2]⟩,
 ⟨s 5, m (t 27), n, [3, 1, 0, 1, 2, 3]⟩,
 ⟨s 6, m (t 28), n, [4, 5, 0, 1, 2, 3, 4, 5]⟩])
(q (r n [⟨s 30, m (t 5), n, []⟩,
 ⟨s 31, m (t 1), n, []⟩,
 ⟨s 32, c (l (.fn 27 [])) [(t 30), (t 31)], n, [0, 1]⟩,
 ⟨s 29, m (t 32), n, [2]⟩,
 ⟨s 33, .ext (t 29) 0, n, [3]⟩,
 ⟨s 34, .ext (t 29) 1, n, [3]⟩,
 ⟨s 7, m (t 33), n, [4, 2, 0, 1, 2, 3, 4]⟩,
 ⟨s 8, m (t 34), n, [5, 6, 0, 1, 2, 3, 4, 5, 6]⟩])
(q (r n [⟨s 35, m (t 6), n, []⟩,
 ⟨s 36, c (l (.fn 28 [])) [(t 35)], n, [0]⟩,
 ⟨s 9, m (t 36), n, [1, 1, 0, 1]⟩])
(q (r n [⟨s 37, m (t 9), n, []⟩,
 ⟨s 38, m (t 1), n, []⟩,
 ⟨s 39, c (l (.fn 29 [])) [(t 37), (t 38)], n, [0, 1]⟩,
 ⟨s 10, m (t 39), n, [2, 2, 0, 1, 2]⟩])
(q (r n [⟨s 11, m (l (.int .i64 0)), n, []⟩])
(q (q (r n [⟨s 40, m (t 10), n, []⟩,
 ⟨s 41, b .eql .int (t 40) (l (.int .i64 0)), n, [0]⟩])
(i (t 41) (r (s [0, 1, 3, 7, 15, 0, 32, 96, 224, 480, 1023, 2047]) [⟨s 42, m (t 6), n, []⟩,
 ⟨s 43, z (t 42), n, [0]⟩,
 ⟨s 44, f 1 (t 43), n, [1]⟩,
 ⟨s 45, d n (t 44), n, [2]⟩,
 ⟨s 46, g (t 45), n, [3]⟩,
 ⟨s 47, m (t 9), n, []⟩,
 ⟨s 48, z (t 47), n, [5]⟩,
 ⟨s 49, f 1 (t 48), n, [6]⟩,
 ⟨s 50, d n (t 49), n, [7]⟩,
 ⟨s 51, g (t 50), n, [8]⟩,
 ⟨s 52, b .sub .int (t 46) (t 51), n, [4, 9]⟩,
 ⟨s 11, m (t 52), n, [10, 0, 1, 2, 3, 4, 5, 6, 7, 8, 9, 10]⟩]) .skip))
(q (q (r (s [0, 0, 3, 7, 15, 15, 63, 127, 255, 511, 1023, 511, 4095, 8191, 16383, 32767, 65535, 131071, 65535, 524287, 1048575, 2097151, 4194303, 8388607, 16777215, 33554431, 8388607, 75497471, 209715199, 478150655, 1015021567, 2147483647, 4294967295, 8589934591, 17179869183, 34359738367, 17179869183, 85899345919, 223338299391, 498216206335, 1047972020223, 2147483647999, 4346506903551, 8796093022207, 17592186044415]) [⟨s 53, m (t 7), n, []⟩,
 ⟨s 54, m (t 11), n, []⟩,
 ⟨s 55, b .neq .int (t 53) (t 54), n, [0, 1]⟩,
 ⟨s 56, m (t 55), n, [2]⟩,
 ⟨s 57, m (t 8), s (56, false), [3]⟩,
 ⟨s 58, m (t 10), s (56, false), [3]⟩,
 ⟨s 59, b .neq .int (t 57) (t 58), s (56, false), [4, 5, 3]⟩,
 ⟨s 60, k (t 56) (l (.bool true)) (t 59), n, [3, 6]⟩,
 ⟨s 61, m (t 60), n, [7, 3]⟩,
 ⟨s 62, m (t 5), s (61, false), [8]⟩,
 ⟨s 63, c (l (.fn 30 [])) [(t 62)], s (61, false), [9, 8, 8]⟩,
 ⟨s 64, m (t 6), s (61, false), [8]⟩,
 ⟨s 65, c (l (.fn 31 [])) [(t 64)], s (61, false), [11, 10, 8]⟩,
 ⟨s 66, b .neq .int (t 63) (t 65), s (61, false), [10, 12, 8]⟩,
 ⟨s 67, k (t 61) (l (.bool true)) (t 66), n, [8, 13]⟩,
 ⟨s 68, m (t 67), n, [14, 12]⟩,
 ⟨s 69, m (t 5), s (68, false), [15]⟩,
 ⟨s 70, c (l (.fn 32 [])) [(t 69)], s (68, false), [16, 15, 15]⟩,
 ⟨s 71, m (t 6), s (68, false), [15]⟩,
 ⟨s 72, c (l (.fn 33 [])) [(t 71)], s (68, false), [18, 17, 15]⟩,
 ⟨s 73, b .neq .int (t 70) (t 72), s (68, false), [17, 19, 15]⟩,
 ⟨s 74, k (t 68) (l (.bool true)) (t 73), n, [15, 20]⟩,
 ⟨s 75, m (t 74), n, [21, 19]⟩,
 ⟨s 76, m (t 5), s (75, false), [22]⟩,
 ⟨s 77, c (l (.fn 34 [])) [(t 76)], s (75, false), [23, 22, 22]⟩,
 ⟨s 78, g (t 77), s (75, false), [24, 22]⟩,
 ⟨s 79, m (t 6), s (75, false), [22]⟩,
 ⟨s 80, z (t 79), s (75, false), [26, 22]⟩,
 ⟨s 81, f 1 (t 80), s (75, false), [27, 22]⟩,
 ⟨s 82, d n (t 81), s (75, false), [28, 22]⟩,
 ⟨s 83, g (t 82), s (75, false), [29, 22]⟩,
 ⟨s 84, b .neq .int (t 78) (t 83), s (75, false), [25, 30, 22]⟩,
 ⟨s 85, k (t 75) (l (.bool true)) (t 84), n, [22, 31]⟩,
 ⟨s 86, m (t 85), n, [32, 24]⟩,
 ⟨s 87, m (t 5), s (86, false), [33]⟩,
 ⟨s 88, c (l (.fn 23 [])) [(t 87)], s (86, false), [34, 33, 33]⟩,
 ⟨s 89, m (t 6), s (86, false), [33]⟩,
 ⟨s 90, z (t 89), s (86, false), [36, 33]⟩,
 ⟨s 91, f 0 (t 90), s (86, false), [37, 33]⟩,
 ⟨s 92, d n (t 91), s (86, false), [38, 33]⟩,
 ⟨s 93, z (t 92), s (86, false), [39, 33]⟩,
 ⟨s 94, f 0 (t 93), s (86, false), [40, 33]⟩,
 ⟨s 95, d n (t 94), s (86, false), [41, 33]⟩,
 ⟨s 96, b .neq .int (t 88) (t 95), s (86, false), [35, 42, 33]⟩,
 ⟨s 97, k (t 86) (l (.bool true)) (t 96), n, [33, 43]⟩])
(i (t 97) (q (r n [⟨s 4, m (l (.bool false)), n, []⟩])
.ret) .skip))
(q (r n [⟨s 98, m (t 5), n, []⟩,
 ⟨s 99, c (l (.fn 35 [])) [(t 98)], n, [0]⟩,
 ⟨s 12, m (t 99), n, [1, 1, 0, 1]⟩])
(q (r n [⟨s 100, m (t 6), n, []⟩,
 ⟨s 101, z (t 100), n, [0]⟩,
 ⟨s 102, f 1 (t 101), n, [1]⟩,
 ⟨s 103, d n (t 102), n, [2]⟩,
 ⟨s 104, g (t 103), n, [3]⟩,
 ⟨s 13, m (t 104), n, [4, 0, 1, 2, 3, 4]⟩])
(q (r n [⟨s 105, m (t 6), n, []⟩,
 ⟨s 106, m (t 6), n, []⟩,
 ⟨s 107, z (t 106), n, [1]⟩,
 ⟨s 108, f 0 (t 107), n, [2]⟩,
 ⟨s 109, d n (t 108), n, [3]⟩,
 ⟨s 110, c (l (.fn 36 [])) [(t 109)], n, [4]⟩,
 ⟨s 111, c (l (.fn 29 [])) [(t 105), (t 110)], n, [0, 5, 5]⟩])
(q (r n [⟨s 112, m (t 12), n, []⟩,
 ⟨s 113, m (t 13), n, []⟩,
 ⟨s 114, m (t 6), n, []⟩,
 ⟨s 115, z (t 114), n, [2]⟩,
 ⟨s 116, f 1 (t 115), n, [3]⟩,
 ⟨s 117, d n (t 116), n, [4]⟩,
 ⟨s 118, g (t 117), n, [5]⟩,
 ⟨s 119, b .sub .int (t 113) (t 118), n, [1, 6]⟩,
 ⟨s 120, b .eql .int (t 112) (t 119), n, [0, 7]⟩,
 ⟨s 121, m (t 120), n, [8]⟩,
 ⟨s 122, m (t 5), s (121, true), [9]⟩,
 ⟨s 123, c (l (.fn 32 [])) [(t 122)], s (121, true), [10, 9, 9]⟩,
 ⟨s 124, m (t 6), s (121, true), [9]⟩,
 ⟨s 125, c (l (.fn 33 [])) [(t 124)], s (121, true), [12, 11, 9]⟩,
 ⟨s 126, b .eql .int (t 123) (t 125), s (121, true), [11, 13, 9]⟩,
 ⟨s 127, k (t 121) (t 126) (l (.bool false)), n, [9, 14]⟩,
 ⟨s 128, m (t 127), n, [15, 13]⟩,
 ⟨s 129, m (t 5), s (128, true), [16]⟩,
 ⟨s 130, c (l (.fn 37 [])) [(t 129)], s (128, true), [17, 16, 16]⟩,
 ⟨s 131, g (t 130), s (128, true), [18, 16]⟩,
 ⟨s 132, b .eql .int (t 131) (l (.int .i64 0)), s (128, true), [19, 16]⟩,
 ⟨s 133, k (t 128) (t 132) (l (.bool false)), n, [16, 20]⟩,
 ⟨s 4, m (t 133), n, [21, 18, 0, 1, 2, 3, 4, 5, 6, 7, 8, 9, 10, 11, 12, 13, 14, 15, 16, 17, 18, 19, 20, 21]⟩])
.ret)))))))))))))) }
theorem c_palinodelaw23_GcTells : cFunc Tryz.prog n_palinodelaw23_GcTells = some f_palinodelaw23_GcTells := by kernel_rfl
end
end Go.Proofs.YtioampofolilnaaGreat.M
set_option linter.unusedSimpArgs false
set_option linter.unusedVariables false
set_option maxRecDepth 100000
namespace Go.Proofs.YtioampofolilnaaGreat.M
open Go Go.Mini
attribute [local congr] go1_congr goM_congr goG_congr goV_congr drawwp_congr Xwp_congr
theorem RefEAt.alen {σ : Heap} {k : Nat} {E : Eng} {x : AVal} {kr : Nat} {fpr : List Nat} (h : RefEAt σ k E x kr fpr) : aLen x = some (.int .i64 (E.l.length : Nat)) := by
 rcases h.lst with rfl | ⟨rfl, e⟩
 ·simp only [eAtoms, aLen_fsl, List.length_map]
 ·rw [e]; rfl
theorem RefEAt.raw {σ : Heap} {k : Nat} {E : Eng} {x : AVal} {kr : Nat} {fpr : List Nat} (h : RefEAt σ k E x kr fpr) : x.isRaw = false := by
 rcases h.lst with rfl | ⟨rfl, _⟩ <;> rfl
theorem forgetE_ref {E E' : Eng} {gs : List Int} {c : Int} (he : forgetE E gs = (E', c)) : (if (forgetR E.R gs).2 ≠ 0 then E else (⟨restL gs (E.R.undone (E.R.head : Nat)) E.l, (forgetR E.R gs).1⟩ : Eng)) = E' ∧ (forgetR E.R gs).2 = c := by
 rw [forgetE] at he
 split at he
 ·rename_i hz; rw [if_pos hz]; cases he; exact ⟨rfl, rfl⟩
 ·rename_i hz; rw [if_neg hz]; cases he; exact ⟨rfl, by simpa using hz⟩
theorem rforgetE_as {σ : Heap} {k : Nat} {E E' : Eng} {fp : List Nat} {gs : List Int} {c : Int} (h : IsRefE σ k E fp) (hok : E.Ok) (hg : gs.length ≤ 1000000) (he : forgetE E gs = (E', c)) :
  MSpec Tryz.prog n_palinoderef20_Engine_Forget [.ptr (.new k) 0, ints gs] σ fun v τ => v = .int .i64 c ∧ ∃ fp', IsRefE τ k E' fp' ∧ Keep fp σ τ ∧ Fresh fp σ fp' := by
 obtain ⟨h1, h2⟩ := forgetE_ref he
 have := rforgetE_at (gs := gs) h hg (fun hz => forget_ok hok hz)
 rw [h1, h2] at this
 exact this
set_option maxHeartbeats 8000000 in
theorem gcTells_fspec (W : World) (l : List Step) (gs : List Int) (hl : l.length ≤ 9223372036854775807) (hx : ∀ x ∈ l, StepFits x) : FSpec Tryz.prog n_palinodelaw23_GcTells [eSteps l, ints gs] (Heap.bare W (cellsOf W)) fun v s => v = .bool true ∧ s.W = W := by
 refine fspec_of_awp mixed c_palinodelaw23_GcTells (Nat.le_of_ble_eq_true rfl) ?_
 unfold f_palinodelaw23_GcTells
 have hfew := few23_call (Heap.bare W (cellsOf W)) l hl hx
 simp only [eSteps] at hfew
 simp only [↓evd, evu, evf, implies_true, reduceCtorEq, Nat.reduceAdd, evz]
 refine MSpec.of (known23_call _ rfl) ?_
 simp only [↓evd, evu, evf, implies_true, reduceCtorEq, ↓reduceIte, Nat.reduceLT, evz, eSteps]
 refine MSpec.of hfew ?_
 cases hfb : fewB20 l with
 | false => simp only [↓evd, evu, evf, implies_true, reduceCtorEq, ↓reduceIte, Nat.reduceLT, evz]
 | true =>
 by_cases h20 : (20 : Int) < (gs.length : Int)
 ·simp only [↓evd, evu, evf, implies_true, reduceCtorEq, ↓reduceIte, Nat.reduceLT, evz, h20]
 have hall : ∀ x ∈ l, fewOne x = true := fun x hx => by
  simp only [fewB20, Bool.and_eq_true, List.all_eq_true] at hfb
  exact hfb.1 x hx
 have hl20 : l.length ≤ 20 := by simp only [fewB20, Bool.and_eq_true, decide_eq_true_eq] at hfb; exact hfb.2
 have hbo := both23_at (Heap.bare W (cellsOf W)) rfl l (by omega) hall
 have hWh : (l.foldl doB Eng.new).Whole := Eng.Whole.new.run
 generalize l.foldl doB Eng.new = E at hbo hWh
 simp only [eSteps] at hbo
 simp only [↓evd, evu, evf, implies_true, reduceCtorEq, ↓reduceIte, Nat.reduceLT, evz, h20]
 refine hbo.mono ?_
 rintro v τ ⟨k1, k2, fp1, fp2, rfl, hT⟩
 have hE := hT.eng
 have hR := hT.ref
 rcases hfo : forgetE E gs with ⟨E1, c1⟩
 have hfl : E1.l.length ≤ E.l.length := by
  rw [forgetE] at hfo
  split at hfo
  ·cases hfo; exact Nat.le_refl _
  ·cases hfo; exact restL_len _ _ _
 have hll := hWh.ok.len
 have hfr := gcFree_call hE (gs := gs) (by omega) hfo
 obtain ⟨w, hw⟩ : ∃ w, w = (if c1 = 0 then (E.l.length : Int) - (E1.l.length : Int) else 0) := ⟨_, rfl⟩
 rw [← hw] at hfr
 simp only [ints] at hfr
 simp only [↓evd, evu, evf, implies_true, reduceCtorEq, Nat.reduceEqDiff, ↓reduceIte, Nat.reduceLT, evz]
 refine MSpec.of hfr ?_
 simp only [↓evd, evu, evf, implies_true, reduceCtorEq, Nat.reduceEqDiff, ↓reduceIte, Nat.reduceLT, evz]
 refine (rcopyE_at hR).mono ?_
 rintro v τ1 ⟨k3, fp3, rfl, hC, hf3, kk3⟩
 have hE1 := hE.keep kk3 (fun _ _ => by simp)
 have hR1 := hR.keep kk3 (fun _ _ => by simp)
 have hrf := rforgetE_as (gs := gs) hC hWh.ok (by omega) hfo
 simp only [ints] at hrf
 simp only [↓evd, evu, evf, implies_true, reduceCtorEq, ↓reduceIte, Nat.reduceLT, evz]
 refine hrf.mono ?_
 rintro v τ2 ⟨rfl, fp4, hC4, kk4, f4⟩
 have hE2 := hE1.keep kk4 (fun y hy hm => by have := hE.low y hy; have := hf3 y hm; omega)
 have hR2 := hR1.keep kk4 (fun y hy hm => by have := hR.low y hy; have := hf3 y hm; omega)
 have hdis := hT.dis
 have hW2 : τ2.W = W := kk4.1.trans (kk3.1.trans hT.keep.1)
 clear hE hR hT hE1 hR1 hC kk3 kk4 hf3
 obtain ⟨x4, kr4, fpr4, hA4, _⟩ := hC4
 obtain ⟨x2, kr2, fpr2, hA2, h2e⟩ := id hR2
 have hb4 := hA4.blk
 have hl4 := hA4.alen
 have hr4 := hA4.raw
 have hb2 := hA2.blk
 have hl2 := hA2.alen
 have hr2 := hA2.raw
 obtain ⟨P, u0, els, hRA, hfr2⟩ := id hA2.revs
 have hbr := hRA.blk
 have hr0 := rc_0 (a := E.R.head) (b := E.R.floor) (P := P) (u := u0)
 have hws : IntKind.i64.wrap ((E.l.length : Int) - (E1.l.length : Int)) = (E.l.length : Int) - (E1.l.length : Int) := wrap_id (by omega) (by omega)
 have bb : ∀ x : Int, (x != x) = false := by intro x; simp
 have be : ∀ x : Int, (x == x) = true := by intro x; simp
 have b00 : ((0 : Int) == 0) = true := rfl
 have hd1 := gcDead_call hE2
 have hd2 := rdead_call hR2
 have hw1 := gcWeight_call hE2
 have hw2 := rweight_call hR2
 have hat := eatoms_at hE2
 have hhd := ehead_at hE2
 simp only [eAtoms] at hat
 rcases hal : forgetE E E.R.grp with ⟨E3, c3⟩
 obtain ⟨rfl, hg3⟩ := forget_all hWh.rok hal
 have hgl := rise_len hWh.rok.grp
 have hfl3 : E3.l.length ≤ E.l.length := by rw [(forget_shape hal).2]; exact restL_len _ _ _
 have hws3 : IntKind.i64.wrap ((E.l.length : Int) - (E3.l.length : Int)) = (E.l.length : Int) - (E3.l.length : Int) := wrap_id (by omega) (by omega)
 have hal2 := gcAll_at hE2 hal
 have hlow2 := hR2.low
 have hlow1 := hE2.low
 by_cases hc : c1 = 0
 case' pos =>
  rw [if_pos hc] at hw
  subst hc hw
  simp only [↓evd, evu, evf, implies_true, reduceCtorEq, ↓reduceIte, Nat.reduceLT, evz]
  with_reducible refine draw_of_grow (fun _ => True) (ms := [false, false, false, false, false, false, false, false, false, false, false, false]) (by kernel_rfl) ?_
  simp only [↓evd, evu, evf, ↓reduceIte, Nat.reduceLT, evz, hb2, hb4, hl2, hl4, hws]
 case' neg =>
  have hcb : (c1 == 0) = false := by simpa using hc
  rw [if_neg hc] at hw
  subst hw
  simp only [↓evd, evu, evf, implies_true, reduceCtorEq, ↓reduceIte, Nat.reduceLT, evz, hcb]
 all_goals
  with_reducible refine draw_of_grow (fun _ => True) (ms := [false, false, false, false, false, false, false, false, false, false, false, false, false, false, false, false, false, false, false, false, false, false, false, false, false, false, false, false, false, false, false, false, false, false, false, false, false, false, false, false, false, false, false, false, false]) (by kernel_rfl) ?_
  simp only [↓evd, evu, evf, ↓reduceIte, Nat.reduceLT, evz, bb]
  refine MSpec.of hd1 ⟨.inr Keeps.rfl, ?_⟩
  simp only [↓evd, evu, evf, ↓reduceIte, Nat.reduceLT, evz]
  refine MSpec.of hd2 ⟨.inr Keeps.rfl, ?_⟩
  simp only [↓evd, evu, evf, ↓reduceIte, Nat.reduceLT, evz, bb]
  refine MSpec.of hw1 ⟨.inr Keeps.rfl, ?_⟩
  simp only [↓evd, evu, evf, ↓reduceIte, Nat.reduceLT, evz]
  refine MSpec.of hw2 ⟨.inr Keeps.rfl, ?_⟩
  simp only [↓evd, evu, evf, ↓reduceIte, Nat.reduceLT, evz, bb]
  refine MSpec.of hat ⟨.inr Keeps.rfl, ?_⟩
  simp only [↓evd, evu, evf, ↓reduceIte, Nat.reduceLT, evz, bb, hb2, hl2]
  refine MSpec.of hhd ⟨.inr Keeps.rfl, ?_⟩
  simp only [↓evd, evu, evf, implies_true, reduceCtorEq, ↓reduceIte, Nat.reduceLT, evz, bb, hb2, hbr, hr0]
  refine hal2.mono ?_
  rintro v τ3 ⟨rfl, fp5, hE3, kk5, f5⟩
  have hR3 := hR2.keep kk5 (fun y hy hm => hdis y hm hy)
  obtain ⟨x3, kr3, fpr3, hA3, h3e⟩ := id hR3
  have hb3 := hA3.blk
  have hl3 := hA3.alen
  have hr3 := hA3.raw
  obtain ⟨P3, u3, els3, hRA3, hfr3⟩ := id hA3.revs
  have hgr := rgroups_call hRA3
  have hrf3 := rforgetE_as (gs := E.R.grp) hR3 hWh.ok (by omega) hal
  simp only [ints] at hgr hrf3
  simp only [↓evd, evu, evf, implies_true, reduceCtorEq, ↓reduceIte, Nat.reduceLT, evz, hb3, hl3]
  refine MSpec.of hgr ?_
  simp only [↓evd, evu, ↓reduceIte, Nat.reduceLT, evz]
  refine hrf3.mono ?_
  rintro v τ4 ⟨rfl, fp6, hR4, kk6, f6⟩
  have hE4 := hE3.keep kk6 (fun y hy hm => by
   rcases f5 y hy with h | h
   ·exact hdis y h hm
   ·have := hlow2 y hm; omega)
  have hW4 : τ4.W = W := kk6.1.trans (kk5.1.trans hW2)
  have hw4 := gcWeight_call hE4
  have hw4' := rweight_call hR4
  have hg4 := egroups_at hE4
  rw [hg3] at hg4
  simp only [ints, List.map_nil] at hg4
  obtain ⟨x5, kr5, fpr5, hA5, h5e⟩ := id hR4
  have hb5 := hA5.blk
  have hl5 := hA5.alen
  have hr5 := hA5.raw
  simp only [↓evd, evu, evf, implies_true, reduceCtorEq, ↓reduceIte, Nat.reduceLT, evz, hb5, hl5, hws3]
  refine MSpec.of hw4 ?_
  simp only [↓evd, evu, evf, implies_true, reduceCtorEq, ↓reduceIte, Nat.reduceLT, evz]
  refine MSpec.of hw4' ?_
  simp only [↓evd, evu, evf, implies_true, reduceCtorEq, ↓reduceIte, Nat.reduceLT, evz]
  refine MSpec.of hg4 ?_
  simp only [↓evd, evu, evf, implies_true, reduceCtorEq, ↓reduceIte, Nat.reduceLT, evz]
  first | exact hW4 | exact ⟨rfl, hW4⟩
theorem gcTells_row (W : World) (a0 : List Step) (a1 : List Int) (g0 : GList gStep a0) (g1 : GList (GInt .i64) a1) : FSpec Tryz.prog n_palinodelaw23_GcTells [.fsl 6 (a0.map eStep), .fsl 1 (a1.map (fun n : Int => AVal.int .i64 n))] (Heap.bare W (cellsOf W)) fun v s => v = .bool true ∧ s.W = W :=
 gcTells_fspec W a0 a1 (steps_fit g0).1 (steps_fit g0).2
end Go.Proofs.YtioampofolilnaaGreat.M

