/- A part of the seat's proofs over the abstract machine. No condition. -/
import Derived.Test.YtioampofolilnaaGreatWC
set_option maxRecDepth 100000
namespace Go.Proofs.YtioampofolilnaaGreat.M
open Go Go.Mini
section
open Opd renaming tmp → t, lit → l
open SOp renaming mv → m, call → c, load → d, pick → k, fldA → f, bin → b, idxA → x, store → e, nilc → z, len → g
open SCode renaming seq → q, reg → r, cond → i, block → o
open Option renaming some → s, none → n
def f_palinodelaw23_GcClean : SFunc := { ntmps := 113, results := [.tmp 2], body :=
(q (r n [⟨s 2, m (l (.bool false)), n, []⟩])
(q (q (r n [⟨s 15, c (l (.fn 24 [])) [], n, []⟩,
 ⟨s 16, .not (t 15), n, [0]⟩])
(i (t 16) (q (r n [⟨s 2, m (l (.bool false)), n, []⟩])
.ret) .skip))
(q (q (r n [⟨s 17, m (t 0), n, []⟩,
 ⟨s 18, c (l (.fn 25 [])) [(t 17)], n, [0]⟩,
 ⟨s 19, .not (t 18), n, [1]⟩])
(i (t 19) (q (r n [⟨s 2, m (l (.bool true)), n, []⟩])
.ret) .skip))
(q (r n [⟨s 21, m (t 0), n, []⟩,
 ⟨s 22, c (l (.fn 26 [])) [(t 21)], n, [0]⟩,
 ⟨s 20, m (t 22), n, [1]⟩,
 ⟨s 23, .ext (t 20) 0, n, [2]⟩,
 ⟨s 24, .ext (t 20) 1, n, [2]⟩,
 ⟨s 3, m (t 23), n, [3, 1, 0, 1, 2, 3]⟩,
 ⟨s 4, m (t 24), n, [4, 5, 0, 1, 2, 3, 4, 5]⟩])
(q (r n [⟨s 26, m (t 3), n, []⟩,
 ⟨s 27, m (t 3), n, []⟩,
 ⟨s 28, c (l (.fn 23 [])) [(t 27)], n, [1]⟩,
 ⟨s 29, c (l (.fn 38 [])) [(t 26), (t 28)], n, [0, 2, 2]⟩,
 ⟨s 25, m (t 29), n, [3]⟩,
 ⟨s 30, .ext (t 25) 0, n, [4]⟩,
 ⟨s 31, .ext (t 25) 1, n, [4]⟩,
 ⟨s 5, m (t 30), n, [5, 3, 0, 1, 2, 3, 4, 5]⟩,
 ⟨s 6, m (t 31), n, [6, 7, 0, 1, 2, 3, 4, 5, 6, 7]⟩])
(q (r n [⟨s 32, m (t 3), n, []⟩,
 ⟨s 33, c (l (.fn 30 [])) [(t 32)], n, [0]⟩,
 ⟨s 7, m (t 33), n, [1, 1, 0, 1]⟩])
(q (r n [⟨s 34, m (t 3), n, []⟩,
 ⟨s 35, c (l (.fn 34 [])) [(t 34)], n, [0]⟩,
 ⟨s 36, g (t 35), n, [1]⟩,
 ⟨s 8, m (t 36), n, [2, 1, 0, 1, 2]⟩])
(q (r n [⟨s 37, m (t 3), n, []⟩,
 ⟨s 38, c (l (.fn 35 [])) [(t 37)], n, [0]⟩,
 ⟨s 9, m (t 38), n, [1, 1, 0, 1]⟩])
(q (r n [⟨s 40, m (t 3), n, []⟩,
 ⟨s 41, m (t 3), n, []⟩,
 ⟨s 42, c (l (.fn 23 [])) [(t 41)], n, [1]⟩,
 ⟨s 43, c (l (.fn 38 [])) [(t 40), (t 42)], n, [0, 2, 2]⟩,
 ⟨s 39, m (t 43), n, [3]⟩,
 ⟨s 44, .ext (t 39) 0, n, [4]⟩,
 ⟨s 45, .ext (t 39) 1, n, [4]⟩,
 ⟨s 10, m (t 44), n, [5, 3, 0, 1, 2, 3, 4, 5]⟩,
 ⟨s 11, m (t 45), n, [6, 7, 0, 1, 2, 3, 4, 5, 6, 7]⟩])
(q (r n [⟨s 12, m (l (.int .i64 0)), n, []⟩])
(q (r n [⟨s 46, m (t 3), n, []⟩,
 ⟨s 47, c (l (.fn 34 [])) [(t 46)], n, [0]⟩,
 ⟨s 13, m (t 47), n, [1, 1, 0, 1]⟩])
(q (q (r n [⟨s 14, m (l (.int .i64 0)), n, []⟩])
(o 0 (.loop (q (q (r n [⟨s 48, m (t 14), n, []⟩,
 ⟨s 49, m (t 13), n, []⟩,
 ⟨s 50, g (t 49), n, [1]⟩,
 ⟨s 51, b .lss .int (t 48) (t 50), n, [0, 2]⟩])
(i (t 51) .skip (.exit 0)))
(q (o 1 (q (r n [⟨s 54, m (t 12), n, []⟩,
 ⟨s 55, m (t 13), n, []⟩,
 ⟨s 56, m (t 14), n, []⟩,
 ⟨s 57, x 5 (t 55) (t 56), n, [1, 2]⟩,
 ⟨s 58, f 0 (t 57), n, [3]⟩,
 ⟨s 59, d n (t 58), n, [4]⟩,
 ⟨s 60, .lenS (t 59), n, [5]⟩,
 ⟨s 61, b .add .int (t 54) (t 60), n, [0, 6]⟩,
 ⟨s 12, m (t 61), n, [7, 0, 1, 2, 3, 4, 5, 6, 7]⟩])
(q (r n [⟨s 62, m (t 13), n, []⟩,
 ⟨s 63, m (t 14), n, []⟩,
 ⟨s 64, x 5 (t 62) (t 63), n, [0, 1]⟩,
 ⟨s 65, f 2 (t 64), n, [2]⟩,
 ⟨s 66, d n (t 65), n, [3]⟩,
 ⟨s 67, b .neq .int (t 66) (l (.int .i64 (-1))), n, [4]⟩,
 ⟨s 68, m (t 67), n, [5]⟩,
 ⟨s 69, m (t 13), s (68, false), [6]⟩,
 ⟨s 70, m (t 14), s (68, false), [6]⟩,
 ⟨s 71, x 5 (t 69) (t 70), s (68, false), [7, 8, 6]⟩,
 ⟨s 72, f 4 (t 71), s (68, false), [9, 6]⟩,
 ⟨s 73, d n (t 72), s (68, false), [10, 6]⟩,
 ⟨s 74, g (t 73), s (68, false), [11, 6]⟩,
 ⟨s 75, b .neq .int (t 74) (l (.int .i64 0)), s (68, false), [12, 6]⟩,
 ⟨s 76, k (t 68) (l (.bool true)) (t 75), n, [6, 13]⟩])
(i (t 76) (q (r n [⟨s 2, m (l (.bool false)), n, []⟩])
.ret) .skip))))
(r n [⟨s 52, m (t 14), n, []⟩,
 ⟨s 53, b .add .int (t 52) (l (.int .i64 1)), n, [0]⟩,
 ⟨s 14, m (t 53), n, [1, 0, 1]⟩]))))))
(q (r n [⟨s 77, m (t 11), n, []⟩,
 ⟨s 78, b .eql .int (t 77) (l (.int .i64 0)), n, [0]⟩,
 ⟨s 79, m (t 78), n, [1]⟩,
 ⟨s 80, m (t 10), s (79, true), [2]⟩,
 ⟨s 81, m (t 5), s (79, true), [2]⟩,
 ⟨s 82, b .eql .str (t 80) (t 81), s (79, true), [3, 4, 2]⟩,
 ⟨s 83, k (t 79) (t 82) (l (.bool false)), n, [2, 5]⟩,
 ⟨s 84, m (t 83), n, [6, 2]⟩,
 ⟨s 85, m (t 9), s (84, true), [7]⟩,
 ⟨s 86, m (t 7), s (84, true), [7]⟩,
 ⟨s 87, b .eql .int (t 85) (t 86), s (84, true), [8, 9, 7]⟩,
 ⟨s 88, k (t 84) (t 87) (l (.bool false)), n, [7, 10]⟩,
 ⟨s 89, m (t 88), n, [11, 7]⟩,
 ⟨s 90, m (t 13), s (89, true), [12]⟩,
 ⟨s 91, g (t 90), s (89, true), [13, 12]⟩,
 ⟨s 92, m (t 8), s (89, true), [12]⟩,
 ⟨s 93, m (t 7), s (89, true), [12]⟩,
 ⟨s 94, b .sub .int (t 92) (t 93), s (89, true), [15, 16, 12]⟩,
 ⟨s 95, b .eql .int (t 91) (t 94), s (89, true), [14, 17, 12]⟩,
 ⟨s 96, k (t 89) (t 95) (l (.bool false)), n, [12, 18]⟩,
 ⟨s 97, m (t 96), n, [19, 12]⟩,
 ⟨s 98, m (t 12), s (97, true), [20]⟩,
 ⟨s 99, m (t 5), s (97, true), [20]⟩,
 ⟨s 100, .lenS (t 99), s (97, true), [22, 20]⟩,
 ⟨s 101, b .eql .int (t 98) (t 100), s (97, true), [21, 23, 20]⟩,
 ⟨s 102, k (t 97) (t 101) (l (.bool false)), n, [20, 24]⟩,
 ⟨s 103, m (t 102), n, [25, 20]⟩,
 ⟨s 104, m (t 3), s (103, true), [26]⟩,
 ⟨s 105, c (l (.fn 30 [])) [(t 104)], s (103, true), [27, 26, 26]⟩,
 ⟨s 106, b .eql .int (t 105) (l (.int .i64 0)), s (103, true), [28, 26]⟩,
 ⟨s 107, k (t 103) (t 106) (l (.bool false)), n, [26, 29]⟩,
 ⟨s 108, m (t 107), n, [30, 28]⟩,
 ⟨s 109, m (t 3), s (108, true), [31]⟩,
 ⟨s 110, c (l (.fn 35 [])) [(t 109)], s (108, true), [32, 31, 31]⟩,
 ⟨s 111, b .eql .int (t 110) (l (.int .i64 0)), s (108, true), [33, 31]⟩,
 ⟨s 112, k (t 108) (t 111) (l (.bool false)), n, [31, 34]⟩,
 ⟨s 2, m (t 112), n, [35, 33, 0, 1, 2, 3, 4, 5, 6, 7, 8, 9, 10, 11, 12, 13, 14, 15, 16, 17, 18, 19, 20, 21, 22, 23, 24, 25, 26, 27, 28, 29, 30, 31, 32, 33, 34, 35]⟩])
.ret))))))))))))) }
theorem c_palinodelaw23_GcClean : cFunc Tryz.prog n_palinodelaw23_GcClean = some f_palinodelaw23_GcClean := by kernel_rfl
end
end Go.Proofs.YtioampofolilnaaGreat.M
set_option linter.unusedSimpArgs false
set_option linter.unusedVariables false
set_option maxRecDepth 100000
namespace Go.Proofs.YtioampofolilnaaGreat.M
open Go Go.Mini
attribute [local congr] go1_congr goM_congr goG_congr goV_congr drawwp_congr Xwp_congr
theorem flatT_take {l : List Atom} {i : Nat} (h : i < l.length) : ((l.take (i + 1)).map (·.text)).flatten.length = ((l.take i).map (·.text)).flatten.length + l[i].text.length := by
 rw [List.take_succ_eq_append_getElem h, List.map_append, List.flatten_append, List.length_append]; simp
set_option maxHeartbeats 8000000 in
theorem gcClean_fspec (W : World) (l : List Step) (hl : l.length ≤ 9223372036854775807) (hx : ∀ x ∈ l, StepFits x) : FSpec Tryz.prog n_palinodelaw23_GcClean [eSteps l] (Heap.bare W (cellsOf W)) fun v s => v = .bool true ∧ s.W = W := by
 refine fspec_of_awp mixed c_palinodelaw23_GcClean (Nat.le_of_ble_eq_true rfl) ?_
 unfold f_palinodelaw23_GcClean
 have hfew := few23_call (Heap.bare W (cellsOf W)) l hl hx
 simp only [eSteps] at hfew
 simp only [↓evd, evu, evf, implies_true, reduceCtorEq]
 refine MSpec.of (known23_call _ rfl) ?_
 simp only [↓evd, evu, evf, implies_true, reduceCtorEq, ↓reduceIte, Nat.reduceLT, evz, eSteps]
 refine MSpec.of hfew ?_
 cases hfb : fewB20 l with
 | false => simp only [↓evd, evu, evf, implies_true, reduceCtorEq, ↓reduceIte]
 | true =>
 have hall : ∀ x ∈ l, fewOne x = true := fun x hx => by
  simp only [fewB20, Bool.and_eq_true, List.all_eq_true] at hfb
  exact hfb.1 x hx
 have hl20 : l.length ≤ 20 := by simp only [fewB20, Bool.and_eq_true, decide_eq_true_eq] at hfb; exact hfb.2
 have hbo := both23_at (Heap.bare W (cellsOf W)) rfl l (by omega) hall
 have hWh : (l.foldl doB Eng.new).Whole := Eng.Whole.new.run
 generalize l.foldl doB Eng.new = E at hbo hWh
 simp only [eSteps] at hbo
 simp only [↓evd, evu, evf, implies_true, reduceCtorEq, ↓reduceIte, Nat.reduceLT, evz]
 refine hbo.mono ?_
 rintro v τ ⟨k1, k2, fp1, fp2, rfl, hT⟩
 have hE := hT.eng
 have hW1 : τ.W = W := hT.keep.1
 clear hT hbo hfew
 have hhd := ehead_at hE
 have htx := etext_at hE (E.R.head : Nat)
 rw [textV_head hWh.rok] at htx
 have hdd := gcDead_call hE
 have hat := eatoms_at hE
 have hll := hWh.ok.len
 rcases hal : forgetE E E.R.grp with ⟨E3, c3⟩
 obtain ⟨rfl, hg3⟩ := forget_all hWh.rok hal
 have hW3 := hWh.forget hal
 have hl3 := hW3.ok.len
 obtain ⟨hv3, hh3⟩ := forget_vis hWh hal
 have hpl := plain_of hW3.known hg3
 have hpv := plain_vis hW3.known hg3
 have hpd := plain_dead hW3.known hg3
 have hdv := E.dead_vis
 have hlv : E.vis.length = E3.l.length := by rw [← hv3, hpv, List.length_map]
 have hk : (E.l.length : Int) - (E3.l.length : Int) = ((deadL (E.R.head : Nat) (E.R.undone (E.R.head : Nat)) E.l : Nat) : Int) := by omega
 have htx3 : E3.text (E3.R.head : Nat) = E.text (E.R.head : Nat) := by rw [Eng.text_vis, Eng.text_vis, hv3]
 have hfl : ((E3.l.map (·.text)).flatten.length : Int) = ((E.text (E.R.head : Nat)).length : Int) := by rw [← hpv, hv3, Eng.text_vis]
 have hall2 := gcAll_at hE hal
 rw [hk] at hall2
 have hdl : deadL (E.R.head : Nat) (E.R.undone (E.R.head : Nat)) E.l ≤ 4000 := by omega
 have hnd : IntKind.i64.wrap ((E.l.length : Int) - ((deadL (E.R.head : Nat) (E.R.undone (E.R.head : Nat)) E.l : Nat) : Int)) = (E3.l.length : Int) := by rw [wrap_id (by omega) (by omega)]; omega
 generalize deadL (E.R.head : Nat) (E.R.undone (E.R.head : Nat)) E.l = d at hdd hall2 hnd hdl
 have hcp := hW3.ok.txt
 simp only [eAtoms] at hat
 simp only [↓evd, evu, evf, implies_true, reduceCtorEq, Nat.reduceEqDiff, ↓reduceIte, Nat.reduceLT, evz]
 refine MSpec.of hhd ?_
 simp only [↓evd, evu, ↓reduceIte, Nat.reduceLT, evz]
 refine MSpec.of htx ?_
 simp only [↓evd, evu, evf, implies_true, reduceCtorEq, Nat.reduceEqDiff, ↓reduceIte, Nat.reduceLT, evz]
 refine MSpec.of hdd ?_
 simp only [↓evd, evu, evf, implies_true, reduceCtorEq, ↓reduceIte, Nat.reduceLT, evz]
 refine MSpec.of hat ?_
 simp only [↓evd, evu, evf, implies_true, reduceCtorEq, ↓reduceIte, Nat.reduceLT, evz]
 refine hall2.mono ?_
 rintro v τ3 ⟨rfl, fp5, hE3, kk5, f5⟩
 have hWo : τ3.W = W := kk5.1.trans hW1
 have hhd3 := ehead_at hE3
 have hte3 := etext_at hE3 (E3.R.head : Nat)
 rw [textV_head hW3.rok, htx3] at hte3
 have hat3 := eatoms_at hE3
 simp only [eAtoms] at hat3
 generalize hS : E.text (E.R.head : Nat) = S at hfl hte3
 simp only [↓evd, evu, evf, implies_true, reduceCtorEq, ↓reduceIte, Nat.reduceLT, evz]
 refine MSpec.of hhd3 ?_
 simp only [↓evd, evu, ↓reduceIte, Nat.reduceLT, evz]
 refine MSpec.of hte3 ?_
 simp only [↓evd, evu, evf, implies_true, reduceCtorEq, Nat.reduceEqDiff, ↓reduceIte, Nat.reduceLT, evz]
 refine MSpec.of hat3 ?_
 simp only [↓evd, evu, evf, implies_true, reduceCtorEq, ↓reduceIte]
 refine awp_loop (fun m fr ρ => ∃ (i : Nat), m + i = E3.l.length ∧ fr.get 3 = .ptr (.new k1) 0 ∧ fr.get 5 = .str S ∧ fr.get 7 = .int .i64 (d : Nat) ∧ fr.get 8 = .int .i64 (E.l.length : Nat) ∧ fr.get 9 = .int .i64 (d : Nat) ∧ fr.get 10 = .str S ∧ fr.get 11 = .int .i64 0 ∧ fr.get 12 = .int .i64 (((E3.l.take i).map (·.text)).flatten.length : Nat) ∧ fr.get 13 = eAtoms E3.l ∧ fr.get 14 = .int .i64 (i : Nat) ∧ ((E3.l.take i).map (·.text)).flatten.length ≤ i * 4 ∧ Keep [] τ3 ρ) ?_ (m := E3.l.length) ?_
 ·rintro m fr ρ ⟨i, hi, e3, e5, e7, e8, e9, e10, e11, e12, e13, e14, hb4, hK⟩
  by_cases hlt : i < E3.l.length
  ·have hlt' : (i : Int) < (E3.l.length : Int) := by omega
   have hs := wrap_succ (i := i) (by omega)
   have hgt := map_get eAtom E3.l i hlt
   have hft := flatT_take hlt
   have hpa := hpl _ (List.getElem_mem hlt)
   have hca := (cp_len (hcp _ (List.getElem_mem hlt))).2
   generalize E3.l[i] = a at hgt hft hpa hca
   obtain ⟨tx, rv, gr, rk, cu⟩ := a
   simp only at hpa hft hca
   obtain ⟨rfl, rfl⟩ := hpa
   have hw : IntKind.i64.wrap (((((E3.l.take i).map (·.text)).flatten.length : Nat) : Int) + (tx.length : Int)) = (((E3.l.take (i + 1)).map (·.text)).flatten.length : Nat) := by
    rw [wrap_id (by omega) (by omega), hft]; omega
   have b1 : ((-1 : Int) != -1) = false := rfl
   have b2 : (((0 : Nat) : Int) != 0) = false := rfl
   have b3 : ((0 : Int) != 0) = false := rfl
   simp only [↓evd, evu, evf, implies_true, reduceCtorEq, Nat.reduceEqDiff, ↓reduceIte, Nat.reduceLT, evz, e3, e5, e7, e8, e9, e10, e11, e12, e13, e14, eAtoms, hlt', hgt, eAtom, hw, b1, b3, hs]
   exact ⟨m - 1, by omega, i + 1, by omega, rfl, rfl, by rw [hft]; omega, hK⟩
  ·have hlt' : ¬ (i : Int) < (E3.l.length : Int) := by omega
   have hti : E3.l.take i = E3.l := List.take_of_length_le (by omega)
   rw [hti, hfl] at e12
   have hE4 := hE3.keep hK (fun y _ => by simp)
   have hd4 := gcDead_call hE4
   rw [hpd] at hd4
   rcases hal4 : forgetE E3 E3.R.grp with ⟨E4, c4⟩
   have hal4' := hal4
   rw [hg3] at hal4'
   obtain ⟨_, hl4⟩ := forget_none hal4'
   have ha4 := gcAll_at hE4 hal4
   have hz : (E3.l.length : Int) - (E4.l.length : Int) = 0 := by rw [hl4]; omega
   rw [hz] at ha4
   have be : ∀ x : Int, (x == x) = true := by intro x; simp
   have c2 : (((0 : Nat) : Int) == 0) = true := rfl
   simp only [↓evd, evu, evf, implies_true, reduceCtorEq, ↓reduceIte, Nat.reduceLT, evz, e3, e5, e7, e8, e9, e10, e11, e12, e13, e14, eAtoms, hlt', aStr_self, hnd]
   refine MSpec.of hd4 ?_
   simp only [↓evd, evu, evf, implies_true, reduceCtorEq, ↓reduceIte, Nat.reduceLT, evz, e3]
   refine ha4.mono ?_
   rintro v τ5 ⟨rfl, fp6, hE5, kk6, _⟩
   simp only [↓evd, evu, evf, implies_true, reduceCtorEq, ↓reduceIte, Nat.reduceLT, evz]
   first | exact kk6.1.trans (hK.1.trans hWo) | exact ⟨rfl, kk6.1.trans (hK.1.trans hWo)⟩
 ·refine ⟨0, by omega, ?_⟩
  simp only [evu, ↓reduceIte, Nat.reduceLT, evz]
  first | exact Keep.refl _ _ | exact ⟨rfl, Nat.le_refl _, Keep.refl _ _⟩
theorem gcClean_row (W : World) (a0 : List Step) (g0 : GList gStep a0) : FSpec Tryz.prog n_palinodelaw23_GcClean [.fsl 6 (a0.map eStep)] (Heap.bare W (cellsOf W)) fun v s => v = .bool true ∧ s.W = W :=
 gcClean_fspec W a0 (steps_fit g0).1 (steps_fit g0).2
end Go.Proofs.YtioampofolilnaaGreat.M

