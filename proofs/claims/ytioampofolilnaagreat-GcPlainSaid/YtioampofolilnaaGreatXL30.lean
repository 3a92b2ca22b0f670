/- A part of the seat's proofs over the abstract machine. No condition. -/
import Derived.Test.YtioampofolilnaaGreatWC
set_option maxRecDepth 100000
namespace Go.Proofs.YtioampofolilnaaGreat.M
open Go Go.Mini
section
open Opd renaming tmp → t, lit → l
open SOp renaming mv → m, call → c, load → d, pick → k, fldA → f, bin → b, idxA → x, store → e, nilc → z, len → g
open SCode renaming seq → q, reg → r, cond → i, block → o
open Option renaming some → s, none → n
def f_palinodelaw23_GcPlain : SFunc := { ntmps := 197, results := [.tmp 8], body :=
(q (r n [⟨s 8, m (l (.bool false)), n, []⟩])
(q (q (r n [⟨s 30, c (l (.fn 24 [])) [], n, []⟩,
 ⟨s 31, .not (t 30), n, [0]⟩])
(i (t 31) (q (r n [⟨s 8, m (l (.bool false)), n, []⟩])
.ret) .skip))
(q (r n [⟨s 32, m (t 0), n, []⟩,
 ⟨s 33, b .rem .int (t 32) (l (.int .u8 60)), n, [0]⟩,
 ⟨s 34, .cint .i64 (t 33), n, [1]⟩,
 ⟨s 35, b .add .int (t 34) (l (.int .i64 1)), n, [2]⟩,
 ⟨s 9, m (t 35), n, [3, 0, 1, 2, 3]⟩])
(q (r (s [0, 1, 0, 4, 15, 0, 32, 0, 128, 480, 1023, 0, 2048, 0, 8192, 30720, 0, 65536, 0, 262144, 983040, 2095104, 2047, 8388607]) [⟨s 36, m (t 1), n, []⟩,
 ⟨s 37, .cint .i64 (t 36), n, [0]⟩,
 ⟨s 38, m (t 9), n, []⟩,
 ⟨s 39, b .add .int (t 38) (l (.int .i64 1)), n, [2]⟩,
 ⟨s 40, b .rem .int (t 37) (t 39), n, [1, 3]⟩,
 ⟨s 41, m (t 2), n, []⟩,
 ⟨s 42, .cint .i64 (t 41), n, [5]⟩,
 ⟨s 43, m (t 9), n, []⟩,
 ⟨s 44, b .add .int (t 43) (l (.int .i64 1)), n, [7]⟩,
 ⟨s 45, b .rem .int (t 42) (t 44), n, [6, 8]⟩,
 ⟨s 46, .mins (t 40) [(t 45)], n, [4, 9]⟩,
 ⟨s 47, m (t 1), n, []⟩,
 ⟨s 48, .cint .i64 (t 47), n, [11]⟩,
 ⟨s 49, m (t 9), n, []⟩,
 ⟨s 50, b .add .int (t 49) (l (.int .i64 1)), n, [13]⟩,
 ⟨s 51, b .rem .int (t 48) (t 50), n, [12, 14]⟩,
 ⟨s 52, m (t 2), n, []⟩,
 ⟨s 53, .cint .i64 (t 52), n, [16]⟩,
 ⟨s 54, m (t 9), n, []⟩,
 ⟨s 55, b .add .int (t 54) (l (.int .i64 1)), n, [18]⟩,
 ⟨s 56, b .rem .int (t 53) (t 55), n, [17, 19]⟩,
 ⟨s 57, .maxs (t 51) [(t 56)], n, [15, 20]⟩,
 ⟨s 10, m (t 46), n, [10, 0, 1, 2, 3, 4, 5, 6, 7, 8, 9, 10]⟩,
 ⟨s 11, m (t 57), n, [21, 22, 0, 1, 2, 3, 4, 5, 6, 7, 8, 9, 10, 11, 12, 13, 14, 15, 16, 17, 18, 19, 20, 21, 22]⟩])
(q (r n [⟨s 58, m (t 3), n, []⟩,
 ⟨s 59, b .rem .int (t 58) (l (.int .u8 30)), n, [0]⟩,
 ⟨s 60, .cint .i64 (t 59), n, [1]⟩,
 ⟨s 12, m (t 60), n, [2, 0, 1, 2]⟩])
(q (r n [⟨s 61, c (l (.fn 16 [])) [], n, []⟩,
 ⟨s 13, m (t 61), n, [0, 0, 0]⟩])
(q (r n [⟨s 62, m (t 13), n, []⟩,
 ⟨s 63, m (t 9), n, []⟩,
 ⟨s 64, .mslc 1 1 [(.int .u8 0)] (t 63) (t 63), n, [1, 1]⟩,
 ⟨s 65, .bstr (t 64), n, [2]⟩,
 ⟨s 66, .build [(.int .i64 0), (.int .i64 0), (.str [])] [(2, 1, (t 65))], n, [3]⟩,
 ⟨s 67, .bslc 3 [(.int .i64 0), (.int .i64 0), (.str [])] 1 [(0, 3, (t 66))], n, [4]⟩,
 ⟨s 68, c (l (.fn 22 [])) [(t 62), (l (.int .i64 0)), (l (.int .i64 1)), (l (.int .i64 0)), (t 67)], n, [0, 5]⟩])
(q (r n [⟨s 69, m (t 13), n, []⟩,
 ⟨s 70, m (t 10), n, []⟩,
 ⟨s 71, m (t 11), n, []⟩,
 ⟨s 72, .build [(.int .i64 0), (.int .i64 0), (.str [])] [(0, 1, (t 70)), (1, 1, (t 71))], n, [1, 2]⟩,
 ⟨s 73, .bslc 3 [(.int .i64 0), (.int .i64 0), (.str [])] 1 [(0, 3, (t 72))], n, [3]⟩,
 ⟨s 74, c (l (.fn 22 [])) [(t 69), (l (.int .i64 1)), (l (.int .i64 2)), (l (.int .i64 0)), (t 73)], n, [0, 4]⟩])
(q (r n [⟨s 75, m (t 13), n, []⟩,
 ⟨s 76, m (t 12), n, []⟩,
 ⟨s 77, .mslc 1 1 [(.int .u8 0)] (t 76) (t 76), n, [1, 1]⟩,
 ⟨s 78, .bstr (t 77), n, [2]⟩,
 ⟨s 79, .build [(.int .i64 0), (.int .i64 0), (.str [])] [(2, 1, (t 78))], n, [3]⟩,
 ⟨s 80, .bslc 3 [(.int .i64 0), (.int .i64 0), (.str [])] 1 [(0, 3, (t 79))], n, [4]⟩,
 ⟨s 81, c (l (.fn 22 [])) [(t 75), (l (.int .i64 2)), (l (.int .i64 3)), (l (.int .i64 0)), (t 80)], n, [0, 5]⟩])
(q (r n [⟨s 83, m (t 13), n, []⟩,
 ⟨s 84, c (l (.fn 40 [])) [(t 83), (l (.int .i64 3))], n, [0]⟩,
 ⟨s 82, m (t 84), n, [1]⟩,
 ⟨s 85, .ext (t 82) 0, n, [2]⟩,
 ⟨s 86, .ext (t 82) 1, n, [2]⟩,
 ⟨s 14, m (t 85), n, [3, 1, 0, 1, 2, 3]⟩,
 ⟨s 15, m (t 86), n, [4, 5, 0, 1, 2, 3, 4, 5]⟩])
(q (r n [⟨s 87, m (t 13), n, []⟩,
 ⟨s 88, c (l (.fn 32 [])) [(t 87)], n, [0]⟩,
 ⟨s 89, m (t 13), n, []⟩,
 ⟨s 90, c (l (.fn 30 [])) [(t 89)], n, [2, 1]⟩,
 ⟨s 16, m (t 88), n, [1, 3, 0, 1]⟩,
 ⟨s 17, m (t 90), n, [3, 4, 0, 1, 2, 3, 4]⟩])
(q (r n [⟨s 92, m (t 13), n, []⟩,
 ⟨s 93, .bslc 1 [(.int .i64 0)] 1 [(0, 1, (l (.int .i64 1)))], n, []⟩,
 ⟨s 94, c (l (.fn 27 [])) [(t 92), (t 93)], n, [0, 1]⟩,
 ⟨s 91, m (t 94), n, [2]⟩,
 ⟨s 95, .ext (t 91) 0, n, [3]⟩,
 ⟨s 96, .ext (t 91) 1, n, [3]⟩,
 ⟨s 18, m (t 95), n, [4, 2, 0, 1, 2, 3, 4]⟩,
 ⟨s 19, m (t 96), n, [5, 6, 0, 1, 2, 3, 4, 5, 6]⟩])
(q (r n [⟨s 98, m (t 13), n, []⟩,
 ⟨s 99, .bslc 1 [(.int .i64 0)] 1 [(0, 1, (l (.int .i64 2)))], n, []⟩,
 ⟨s 100, c (l (.fn 27 [])) [(t 98), (t 99)], n, [0, 1]⟩,
 ⟨s 97, m (t 100), n, [2]⟩,
 ⟨s 101, .ext (t 97) 0, n, [3]⟩,
 ⟨s 102, .ext (t 97) 1, n, [3]⟩,
 ⟨s 20, m (t 101), n, [4, 2, 0, 1, 2, 3, 4]⟩,
 ⟨s 21, m (t 102), n, [5, 6, 0, 1, 2, 3, 4, 5, 6]⟩])
(q (r n [⟨s 104, m (t 13), n, []⟩,
 ⟨s 105, .bslc 1 [(.int .i64 0)] 1 [(0, 1, (l (.int .i64 3)))], n, []⟩,
 ⟨s 106, c (l (.fn 27 [])) [(t 104), (t 105)], n, [0, 1]⟩,
 ⟨s 103, m (t 106), n, [2]⟩,
 ⟨s 107, .ext (t 103) 0, n, [3]⟩,
 ⟨s 108, .ext (t 103) 1, n, [3]⟩,
 ⟨s 22, m (t 107), n, [4, 2, 0, 1, 2, 3, 4]⟩,
 ⟨s 23, m (t 108), n, [5, 6, 0, 1, 2, 3, 4, 5, 6]⟩])
(q (r n [⟨s 109, m (t 13), n, []⟩,
 ⟨s 110, c (l (.fn 21 [])) [(t 109)], n, [0]⟩,
 ⟨s 24, m (t 110), n, [1, 1, 0, 1]⟩])
(q (r n [⟨s 111, m (t 24), n, []⟩,
 ⟨s 112, c (l (.fn 35 [])) [(t 111)], n, [0]⟩,
 ⟨s 25, m (t 112), n, [1, 1, 0, 1]⟩])
(q (r n [⟨s 114, m (t 13), n, []⟩,
 ⟨s 115, m (t 13), n, []⟩,
 ⟨s 116, c (l (.fn 23 [])) [(t 115)], n, [1]⟩,
 ⟨s 117, c (l (.fn 38 [])) [(t 114), (t 116)], n, [0, 2, 2]⟩,
 ⟨s 113, m (t 117), n, [3]⟩,
 ⟨s 118, .ext (t 113) 0, n, [4]⟩,
 ⟨s 119, .ext (t 113) 1, n, [4]⟩,
 ⟨s 26, m (t 118), n, [5, 3, 0, 1, 2, 3, 4, 5]⟩,
 ⟨s 27, m (t 119), n, [6, 7, 0, 1, 2, 3, 4, 5, 6, 7]⟩])
(q (r n [⟨s 121, m (t 24), n, []⟩,
 ⟨s 122, m (t 24), n, []⟩,
 ⟨s 123, c (l (.fn 23 [])) [(t 122)], n, [1]⟩,
 ⟨s 124, c (l (.fn 38 [])) [(t 121), (t 123)], n, [0, 2, 2]⟩,
 ⟨s 120, m (t 124), n, [3]⟩,
 ⟨s 125, .ext (t 120) 0, n, [4]⟩,
 ⟨s 126, .ext (t 120) 1, n, [4]⟩,
 ⟨s 28, m (t 125), n, [5, 3, 0, 1, 2, 3, 4, 5]⟩,
 ⟨s 29, m (t 126), n, [6, 7, 0, 1, 2, 3, 4, 5, 6, 7]⟩])
(q (r n [⟨s 127, m (t 15), n, []⟩,
 ⟨s 128, b .eql .int (t 127) (l (.int .i64 0)), n, [0]⟩,
 ⟨s 129, m (t 128), n, [1]⟩,
 ⟨s 130, m (t 16), s (129, true), [2]⟩,
 ⟨s 131, m (t 9), s (129, true), [2]⟩,
 ⟨s 132, m (t 12), s (129, true), [2]⟩,
 ⟨s 133, b .add .int (t 131) (t 132), s (129, true), [4, 5, 2]⟩,
 ⟨s 134, m (t 11), s (129, true), [2]⟩,
 ⟨s 135, b .add .int (t 133) (t 134), s (129, true), [6, 7, 2]⟩,
 ⟨s 136, m (t 10), s (129, true), [2]⟩,
 ⟨s 137, b .sub .int (t 135) (t 136), s (129, true), [8, 9, 2]⟩,
 ⟨s 138, b .eql .int (t 130) (t 137), s (129, true), [3, 10, 2]⟩,
 ⟨s 139, k (t 129) (t 138) (l (.bool false)), n, [2, 11]⟩,
 ⟨s 140, m (t 139), n, [12, 2]⟩,
 ⟨s 141, m (t 17), s (140, true), [13]⟩,
 ⟨s 142, m (t 12), s (140, true), [13]⟩,
 ⟨s 143, m (t 11), s (140, true), [13]⟩,
 ⟨s 144, b .add .int (t 142) (t 143), s (140, true), [15, 16, 13]⟩,
 ⟨s 145, m (t 10), s (140, true), [13]⟩,
 ⟨s 146, b .sub .int (t 144) (t 145), s (140, true), [17, 18, 13]⟩,
 ⟨s 147, b .eql .int (t 141) (t 146), s (140, true), [14, 19, 13]⟩,
 ⟨s 148, k (t 140) (t 147) (l (.bool false)), n, [13, 20]⟩,
 ⟨s 149, m (t 148), n, [21, 13]⟩,
 ⟨s 150, m (t 19), s (149, true), [22]⟩,
 ⟨s 151, b .eql .int (t 150) (l (.int .i64 0)), s (149, true), [23, 22]⟩,
 ⟨s 152, k (t 149) (t 151) (l (.bool false)), n, [22, 24]⟩,
 ⟨s 153, m (t 152), n, [25, 22]⟩,
 ⟨s 154, m (t 18), s (153, true), [26]⟩,
 ⟨s 155, b .eql .int (t 154) (l (.int .i64 0)), s (153, true), [27, 26]⟩,
 ⟨s 156, k (t 153) (t 155) (l (.bool false)), n, [26, 28]⟩,
 ⟨s 157, m (t 156), n, [29, 26]⟩,
 ⟨s 158, m (t 21), s (157, true), [30]⟩,
 ⟨s 159, b .eql .int (t 158) (l (.int .i64 0)), s (157, true), [31, 30]⟩,
 ⟨s 160, k (t 157) (t 159) (l (.bool false)), n, [30, 32]⟩,
 ⟨s 161, m (t 160), n, [33, 30]⟩,
 ⟨s 162, m (t 20), s (161, true), [34]⟩,
 ⟨s 163, m (t 11), s (161, true), [34]⟩,
 ⟨s 164, m (t 10), s (161, true), [34]⟩,
 ⟨s 165, b .sub .int (t 163) (t 164), s (161, true), [36, 37, 34]⟩,
 ⟨s 166, b .eql .int (t 162) (t 165), s (161, true), [35, 38, 34]⟩,
 ⟨s 167, k (t 161) (t 166) (l (.bool false)), n, [34, 39]⟩,
 ⟨s 168, m (t 167), n, [40, 34]⟩,
 ⟨s 169, m (t 23), s (168, true), [41]⟩,
 ⟨s 170, b .eql .int (t 169) (l (.int .i64 0)), s (168, true), [42, 41]⟩,
 ⟨s 171, k (t 168) (t 170) (l (.bool false)), n, [41, 43]⟩,
 ⟨s 172, m (t 171), n, [44, 41]⟩,
 ⟨s 173, m (t 22), s (172, true), [45]⟩,
 ⟨s 174, m (t 12), s (172, true), [45]⟩,
 ⟨s 175, b .eql .int (t 173) (t 174), s (172, true), [46, 47, 45]⟩,
 ⟨s 176, k (t 172) (t 175) (l (.bool false)), n, [45, 48]⟩,
 ⟨s 177, m (t 176), n, [49, 45]⟩,
 ⟨s 178, m (t 25), s (177, true), [50]⟩,
 ⟨s 179, m (t 17), s (177, true), [50]⟩,
 ⟨s 180, b .eql .int (t 178) (t 179), s (177, true), [51, 52, 50]⟩,
 ⟨s 181, k (t 177) (t 180) (l (.bool false)), n, [50, 53]⟩,
 ⟨s 182, m (t 181), n, [54, 50]⟩,
 ⟨s 183, m (t 24), s (182, true), [55]⟩,
 ⟨s 184, c (l (.fn 32 [])) [(t 183)], s (182, true), [56, 55, 55]⟩,
 ⟨s 185, m (t 9), s (182, true), [55]⟩,
 ⟨s 186, m (t 11), s (182, true), [55]⟩,
 ⟨s 187, m (t 10), s (182, true), [55]⟩,
 ⟨s 188, b .sub .int (t 186) (t 187), s (182, true), [59, 60, 55]⟩,
 ⟨s 189, b .sub .int (t 185) (t 188), s (182, true), [58, 61, 55]⟩,
 ⟨s 190, b .eql .int (t 184) (t 189), s (182, true), [57, 62, 55]⟩,
 ⟨s 191, k (t 182) (t 190) (l (.bool false)), n, [55, 63]⟩,
 ⟨s 192, m (t 191), n, [64, 57]⟩,
 ⟨s 193, m (t 26), s (192, true), [65]⟩,
 ⟨s 194, m (t 28), s (192, true), [65]⟩,
 ⟨s 195, b .eql .str (t 193) (t 194), s (192, true), [66, 67, 65]⟩,
 ⟨s 196, k (t 192) (t 195) (l (.bool false)), n, [65, 68]⟩,
 ⟨s 8, m (t 196), n, [69, 65, 0, 1, 2, 3, 4, 5, 6, 7, 8, 9, 10, 11, 12, 13, 14, 15, 16, 17, 18, 19, 20, 21, 22, 23, 24, 25, 26, 27, 28, 29, 30, 31, 32, 33, 34, 35, 36, 37, 38, 39, 40, 41, 42, 43, 44, 45, 46, 47, 48, 49, 50, 51, 52, 53, 54, 55, 56, 57, 58, 59, 60, 61, 62, 63, 64, 65, 66, 67, 68, 69]⟩])
.ret))))))))))))))))))) }
theorem c_palinodelaw23_GcPlain : cFunc Tryz.prog n_palinodelaw23_GcPlain = some f_palinodelaw23_GcPlain := by kernel_rfl
end
end Go.Proofs.YtioampofolilnaaGreat.M
set_option linter.unusedSimpArgs false
set_option linter.unusedVariables false
set_option maxRecDepth 100000
namespace Go.Proofs.YtioampofolilnaaGreat.M
open Go Go.Mini
attribute [local congr] go1_congr goM_congr goG_congr goV_congr drawwp_congr Xwp_congr
theorem restL_app (gs u : List Int) (l m : List Atom) : restL gs u (l ++ m) = restL gs u l ++ restL gs u m := by simp [restL, List.filterMap_append]
theorem restL_each {gs u : List Int} : ∀ {l : List Atom}, (∀ a ∈ l, (restA gs u a).isSome = true) → (restL gs u l).length = l.length
 | [], _ => rfl
 | a :: l, h => by
  have h1 := h a (by simp)
  obtain ⟨b, hb⟩ := Option.isSome_iff_exists.1 h1
  have ih := restL_each (l := l) fun x hx => h x (List.mem_cons_of_mem _ hx)
  simp only [restL, List.filterMap_cons, hb, List.length_cons] at ih ⊢; omega
theorem restL_no {gs u : List Int} : ∀ {l : List Atom}, (∀ a ∈ l, restA gs u a = none) → (restL gs u l).length = 0
 | [], _ => rfl
 | a :: l, h => by
  have ih := restL_no (l := l) fun x hx => h x (List.mem_cons_of_mem _ hx)
  simp only [restL, List.filterMap_cons, h a (by simp)] at ih ⊢; exact ih
theorem deadL_app (h : Int) (u : List Int) (l m : List Atom) : deadL h u (l ++ m) = deadL h u l + deadL h u m := by simp [deadL, List.filter_append]
theorem deadL_each {h : Int} {u : List Int} {l : List Atom} (hv : ∀ a ∈ l, visible h u a = false) : deadL h u l = l.length := by
 rw [deadL, List.filter_eq_self.2]; intro a ha; simp [hv a ha]
theorem deadL_no {h : Int} {u : List Int} {l : List Atom} (hv : ∀ a ∈ l, visible h u a = true) : deadL h u l = 0 := by
 rw [deadL, List.filter_eq_nil_iff.2]; rfl
 intro a ha; simp [hv a ha]
theorem cutsL_app (l m : List Atom) : cutsL (l ++ m) = cutsL l + cutsL m := by simp [cutsL]
theorem cutsL_same {n : Nat} : ∀ {l : List Atom}, (∀ a ∈ l, a.cuts.length = n) → cutsL l = l.length * n
 | [], _ => by simp [cutsL]
 | a :: l, h => by
  have ih := cutsL_same (l := l) fun x hx => h x (List.mem_cons_of_mem _ hx)
  have h1 := h a (by simp)
  simp only [cutsL, List.map_cons, List.sum_cons, List.length_cons] at ih ⊢
  rw [h1, ih, Nat.add_mul]; omega
def asR4 : Revs := ⟨[[], [], [], [], [3]], 0, [1, 2, 3], []⟩
def asL4 (s : List UInt8) (a b : Nat) (u : List UInt8) : List Atom := atomsA 3 3 u ++ asL2 s a b []
def asE3 (s : List UInt8) (a b : Nat) (u : List UInt8) : Eng := ⟨asL4 s a b u, ⟨[[], [], [], []], 0, [1, 2, 3], []⟩⟩
def asE4 (s : List UInt8) (a b : Nat) (u : List UInt8) : Eng := ⟨asL4 s a b u, asR4⟩
section
variable {s u : List UInt8} {a b : Nat}
theorem asL2_len (t : List UInt8) (hab : a ≤ b) (hb : b ≤ s.length) : (asL2 s a b t).length = s.length + t.length := by
 simp only [asL2, List.length_append, List.length_map, List.length_take, List.length_drop, atomsA_len]; omega
theorem as_edit3 (hs : Asc s) (hu : Asc u) (hab : a ≤ b) (hb : b ≤ s.length) (hl : s.length + u.length ≤ 4000) : editE (asE2 s a b []) 2 3 0 [⟨0, 0, u⟩] = (asE3 s a b u, 3, 0) := by
 have hW : (asE2 s a b []).Whole := (Eng.Whole.new.edit (as_edit1 hs (by omega))).edit (as_edit2 hs (fun x h => by cases h) hab hb (by simp; omega))
 have h := edit_front_t (E := asE2 s a b []) hW.ok hW.rok (fun x hx => (hW.known.old x hx).1) (g := 3) (rank := 0) hu (by decide) (by decide) (by simp [asE2, asR2]) (by simp [asE2, asR2, Revs.head]) (by decide) (by decide) (by simp only [asE2]; rw [asL2_len [] hab hb]; simp; omega)
 have e : (((asE2 s a b []).R.head : Nat) : Int) = 2 := rfl
 rw [e] at h
 rw [h, show (2 : Int) + 1 = 3 from rfl, new_asc hu]
 rfl
theorem as_whole3 (hs : Asc s) (hu : Asc u) (hab : a ≤ b) (hb : b ≤ s.length) (hl : s.length + u.length ≤ 4000) : (asE3 s a b u).Whole :=
 ((Eng.Whole.new.edit (as_edit1 hs (by omega))).edit (as_edit2 hs (fun x h => by cases h) hab hb (by simp; omega))).edit (as_edit3 hs hu hab hb hl)
theorem as_toggle3 (hs : Asc s) (hu : Asc u) (hab : a ≤ b) (hb : b ≤ s.length) (hl : s.length + u.length ≤ 4000) : toggleE (asE3 s a b u) 3 = (asE4 s a b u, 4, 0) := by
 have hW := as_whole3 hs hu hab hb hl
 have ht : toggleR (asE3 s a b u).R 3 = (asR4, 4, 0) := by show toggleR ⟨[[], [], [], []], 0, [1, 2, 3], []⟩ 3 = _; kernel_rfl
 rw [toggleE, ht, if_neg (by simp), if_neg (by simp only [Eng.text]; exact Nat.not_lt.2 (short_text hW.ok.len hW.ok.txt _ _))]
 rfl
theorem as_whole4 (hs : Asc s) (hu : Asc u) (hab : a ≤ b) (hb : b ≤ s.length) (hl : s.length + u.length ≤ 4000) : (asE4 s a b u).Whole := (as_whole3 hs hu hab hb hl).toggle (as_toggle3 hs hu hab hb hl)
theorem mem_atomsA {rv g : Int} {x : Atom} (h : x ∈ atomsA rv g s) : ∃ b, x = ⟨[b], rv, g, 0, []⟩ := by
 rw [atomsA, List.mem_map] at h; obtain ⟨b, _, rfl⟩ := h; exact ⟨b, rfl⟩
theorem as_counts (hab : a ≤ b) (hb : b ≤ s.length) : deadL 4 [3] (asL4 s a b u) = u.length + (b - a) ∧ cutsL (asL4 s a b u) = b - a ∧ (asL4 s a b u).length = u.length + s.length ∧ (restL [1] [3] (asL4 s a b u)).length = u.length + s.length ∧ (restL [2] [3] (asL4 s a b u)).length + (b - a) = u.length + s.length ∧ (restL [3] [3] (asL4 s a b u)).length = s.length := by
 have m1 : ∀ x ∈ (atomsA 1 1 s).take a, ∃ b, x = ⟨[b], 1, 1, 0, []⟩ := fun x hx => mem_atomsA (List.mem_of_mem_take hx)
 have m2 : ∀ x ∈ (((atomsA 1 1 s).drop a).take (b - a)).map (cutA ⟨2, 2⟩), ∃ b, x = ⟨[b], 1, 1, 0, [⟨2, 2⟩]⟩ := fun x hx => by
  rw [List.mem_map] at hx
  obtain ⟨y, hy, rfl⟩ := hx
  obtain ⟨c, rfl⟩ := mem_atomsA (List.mem_of_mem_drop (List.mem_of_mem_take hy))
  exact ⟨c, rfl⟩
 have m3 : ∀ x ∈ (atomsA 1 1 s).drop b, ∃ b, x = ⟨[b], 1, 1, 0, []⟩ := fun x hx => mem_atomsA (List.mem_of_mem_drop hx)
 have m4 : ∀ x ∈ atomsA 3 3 u, ∃ b, x = ⟨[b], 3, 3, 0, []⟩ := fun x hx => mem_atomsA hx
 have l1 : ((atomsA 1 1 s).take a).length = a := by rw [List.length_take, atomsA_len]; omega
 have l2 : ((((atomsA 1 1 s).drop a).take (b - a)).map (cutA ⟨2, 2⟩)).length = b - a := by rw [List.length_map, List.length_take, List.length_drop, atomsA_len]; omega
 have l3 : ((atomsA 1 1 s).drop b).length = s.length - b := by rw [List.length_drop, atomsA_len]
 have l4 : (atomsA 3 3 u).length = u.length := atomsA_len _ _ _
 simp only [asL4, asL2]
 rw [show atomsA 2 2 [] = [] from rfl, List.append_nil]
 generalize (atomsA 1 1 s).take a = x1 at m1 l1 ⊢
 generalize (((atomsA 1 1 s).drop a).take (b - a)).map (cutA ⟨2, 2⟩) = x2 at m2 l2 ⊢
 generalize (atomsA 1 1 s).drop b = x3 at m3 l3 ⊢
 generalize atomsA 3 3 u = x4 at m4 l4 ⊢
 refine ⟨?_, ?_, ?_, ?_, ?_, ?_⟩
 ·rw [deadL_app, deadL_app, deadL_app, deadL_each (l := x4) (fun x hx => by obtain ⟨c, rfl⟩ := m4 x hx; rfl), deadL_no (l := x1) (fun x hx => by obtain ⟨c, rfl⟩ := m1 x hx; rfl), deadL_each (l := x2) (fun x hx => by obtain ⟨c, rfl⟩ := m2 x hx; rfl), deadL_no (l := x3) (fun x hx => by obtain ⟨c, rfl⟩ := m3 x hx; rfl)]; omega
 ·rw [cutsL_app, cutsL_app, cutsL_app, cutsL_same (n := 0) (l := x4) (fun x hx => by obtain ⟨c, rfl⟩ := m4 x hx; rfl), cutsL_same (n := 0) (l := x1) (fun x hx => by obtain ⟨c, rfl⟩ := m1 x hx; rfl), cutsL_same (n := 1) (l := x2) (fun x hx => by obtain ⟨c, rfl⟩ := m2 x hx; rfl), cutsL_same (n := 0) (l := x3) (fun x hx => by obtain ⟨c, rfl⟩ := m3 x hx; rfl)]; omega
 ·simp only [List.length_append]; omega
 ·rw [restL_app, restL_app, restL_app, List.length_append, List.length_append, List.length_append, restL_each (l := x4) (fun x hx => by obtain ⟨c, rfl⟩ := m4 x hx; rfl), restL_each (l := x1) (fun x hx => by obtain ⟨c, rfl⟩ := m1 x hx; rfl), restL_each (l := x2) (fun x hx => by obtain ⟨c, rfl⟩ := m2 x hx; rfl), restL_each (l := x3) (fun x hx => by obtain ⟨c, rfl⟩ := m3 x hx; rfl)]; omega
 ·rw [restL_app, restL_app, restL_app, List.length_append, List.length_append, List.length_append, restL_each (l := x4) (fun x hx => by obtain ⟨c, rfl⟩ := m4 x hx; rfl), restL_each (l := x1) (fun x hx => by obtain ⟨c, rfl⟩ := m1 x hx; rfl), restL_no (l := x2) (fun x hx => by obtain ⟨c, rfl⟩ := m2 x hx; rfl), restL_each (l := x3) (fun x hx => by obtain ⟨c, rfl⟩ := m3 x hx; rfl)]; omega
 ·rw [restL_app, restL_app, restL_app, List.length_append, List.length_append, List.length_append, restL_no (l := x4) (fun x hx => by obtain ⟨c, rfl⟩ := m4 x hx; rfl), restL_each (l := x1) (fun x hx => by obtain ⟨c, rfl⟩ := m1 x hx; rfl), restL_each (l := x2) (fun x hx => by obtain ⟨c, rfl⟩ := m2 x hx; rfl), restL_each (l := x3) (fun x hx => by obtain ⟨c, rfl⟩ := m3 x hx; rfl)]; omega
end
theorem free_len {E : Eng} {gs : List Int} (hg : Good E.R gs) : ∃ E', forgetE E gs = (E', 0) ∧ E'.l.length = (restL gs (E.R.undone (E.R.head : Nat)) E.l).length := by
 refine ⟨_, by rw [forgetE, forget_good hg, if_neg (by simp)], rfl⟩
theorem zeros_bstr (σ : Heap) (k : Nat) : aBstr (.slc (.new σ.next) 0 k (.ex k)) (σ.new (.cells (List.replicate k [AVal.int IntKind.u8 0]).flatten none)) = some (.str (List.replicate k 0)) := by
 have hz : (List.replicate k [AVal.int IntKind.u8 0]).flatten = byteCells (List.replicate k 0) := by
  induction k with
  | zero => rfl
  | succ k ih => rw [List.replicate_succ, List.flatten_cons, ih, List.replicate_succ]; rfl
 have hl : (byteCells (List.replicate k 0)).length = k := by simp [byteCells]
 have hg : (σ.new (.cells (byteCells (List.replicate k 0)) none)).get σ.next = some (.cells (byteCells (List.replicate k 0)) none) := by rw [Heap.get_new, if_pos rfl]
 have hc := cellsFrom_whole hg
 rw [hl] at hc
 rw [hz]
 simp only [aBstr, slcCells, Nat.le_refl, if_true, Nat.mul_one, hc, asBytes_app, Option.map_some]
theorem asc_zeros (k : Nat) : Asc (List.replicate k 0) := fun b hb => by rw [(List.mem_replicate.1 hb).2]; decide
set_option maxHeartbeats 8000000 in
theorem gcPlain_fspec (W : World) (n from' to more : Int) (hn : 0 ≤ n ∧ n < 256) (hf : 0 ≤ from' ∧ from' < 256) (ht : 0 ≤ to ∧ to < 256) (hm : 0 ≤ more ∧ more < 256) : FSpec Tryz.prog n_palinodelaw23_GcPlain [.int .u8 n, .int .u8 from', .int .u8 to, .int .u8 more] (Heap.bare W (cellsOf W)) fun v s => v = .bool true ∧ s.W = W := by
 refine fspec_of_awp mixed c_palinodelaw23_GcPlain (Nat.le_of_ble_eq_true rfl) ?_
 unfold f_palinodelaw23_GcPlain
 obtain ⟨d0, h0, hd0, hw0⟩ := mod_u8 (x := n) (c := 60) hn.1 (by decide) (by decide)
 obtain ⟨d3, h3, hd3, hw3⟩ := mod_u8 (x := more) (c := 30) hm.1 (by decide) (by decide)
 obtain ⟨k, hk⟩ : ∃ k, k = d0 + 1 := ⟨_, rfl⟩
 have hw1 : IntKind.i64.wrap ((d0 : Int) + 1) = (k : Int) := by rw [hk]; exact wrap_succ (by omega)
 have hw2 : IntKind.i64.wrap ((k : Int) + 1) = ((k + 1 : Nat) : Int) := wrap_succ (by omega)
 obtain ⟨da, ha, hda, _⟩ := mod_u8 (x := from') (c := ((k + 1 : Nat) : Int)) hf.1 (by omega) (by omega)
 obtain ⟨db, hb, hdb, _⟩ := mod_u8 (x := to) (c := ((k + 1 : Nat) : Int)) ht.1 (by omega) (by omega)
 have hwf : IntKind.i64.wrap from' = from' := wrap_id (by omega) (by omega)
 have hwt : IntKind.i64.wrap to = to := wrap_id (by omega) (by omega)
 have hk1 : (((k + 1 : Nat) : Int) = 0) = False := eq_false (by omega)
 have h60 : ((60 : Int) = 0) = False := eq_false (by decide)
 have h30 : ((30 : Int) = 0) = False := eq_false (by decide)
 obtain ⟨a, hA⟩ : ∃ a, a = min da db := ⟨_, rfl⟩
 obtain ⟨b, hB⟩ : ∃ b, b = max da db := ⟨_, rfl⟩
 have hmin : (if (db : Int) < (da : Int) then (db : Int) else (da : Int)) = (a : Int) := by rw [hA]; split <;> omega
 have hmax : (if (da : Int) < (db : Int) then (db : Int) else (da : Int)) = (b : Int) := by rw [hB]; split <;> omega
 have hab : a ≤ b := by omega
 have hbk : b ≤ k := by omega
 have z0 : (0 : Int) ≤ (k : Int) := by omega
 have z1 : k ≤ maxRoom := by unfold maxRoom; omega
 have z2 : (k : Int) ≤ 2 ^ 62 := by omega
 have y0 : (0 : Int) ≤ (d3 : Int) := by omega
 have y1 : d3 ≤ maxRoom := by unfold maxRoom; omega
 have y2 : (d3 : Int) ≤ 2 ^ 62 := by omega
 simp only [↓evd, evu, evf, implies_true, reduceCtorEq, Nat.reduceAdd]
 refine MSpec.of (known23_call _ rfl) ?_
 simp only [↓evd, evu, evf, implies_true, reduceCtorEq, ↓reduceIte, Nat.reduceLT, evz, h0, hw0, hw1, h60]
 with_reducible refine draw_of_grow (fun _ => True) (ms := [false, false, false, false, false, false, false, false, false, false, false, false, false, false, false, false, false, false, false, false, false, false, false, false]) (by kernel_rfl) ?_
 simp only [↓evd, evu, evf, implies_true, reduceCtorEq, Nat.reduceEqDiff, ↓reduceIte, Nat.reduceLT, evz, hw2, hwf, hwt, hk1, ha, hb, hmin, hmax]
 simp only [↓evd, evu, evf, implies_true, reduceCtorEq, ↓reduceIte, h3, hw3, h30]
 have hZk := asc_zeros k
 have hZm := asc_zeros d3
 have lk : (List.replicate k (0 : UInt8)).length = k := List.length_replicate
 have lm : (List.replicate d3 (0 : UInt8)).length = d3 := List.length_replicate
 have k1 := as_edit1 hZk (by omega)
 have k2 := as_edit2 (t := []) hZk (fun x h => by cases h) hab (by omega) (by simp; omega)
 have k3 := as_edit3 hZk hZm hab (by omega) (by omega)
 have k4 := as_toggle3 hZk hZm hab (by omega) (by omega)
 have hW4 := as_whole4 hZk hZm hab (by omega) (by omega)
 obtain ⟨q1, q2, q3, q4, q5, q6⟩ := as_counts (s := List.replicate k 0) (u := List.replicate d3 0) hab (by omega)
 rw [lk, lm] at q3 q4 q5
 rw [lk] at q6
 rw [lm] at q1
 have hun : (asE4 (List.replicate k 0) a b (List.replicate d3 0)).R.undone ((asE4 (List.replicate k 0) a b (List.replicate d3 0)).R.head : Nat) = [3] := rfl
 have hhd : (((asE4 (List.replicate k 0) a b (List.replicate d3 0)).R.head : Nat) : Int) = 4 := rfl
 have hgr : (asE4 (List.replicate k 0) a b (List.replicate d3 0)).R.grp = [1, 2, 3] := rfl
 have hl4 : (asE4 (List.replicate k 0) a b (List.replicate d3 0)).l = asL4 (List.replicate k 0) a b (List.replicate d3 0) := rfl
 have hwt4 : weightL (asE4 (List.replicate k 0) a b (List.replicate d3 0)).l = k + d3 + b - a := by rw [hl4, weight_cuts, q2, q3]; omega
 have hdd4 : deadL ((asE4 (List.replicate k 0) a b (List.replicate d3 0)).R.head : Nat) ((asE4 (List.replicate k 0) a b (List.replicate d3 0)).R.undone ((asE4 (List.replicate k 0) a b (List.replicate d3 0)).R.head : Nat)) (asE4 (List.replicate k 0) a b (List.replicate d3 0)).l = d3 + b - a := by
  rw [hun, hl4, show (((asE4 (List.replicate k 0) a b (List.replicate d3 0)).R.head : Nat) : Int) = 4 from rfl, q1]; omega
 have hll4 : (asE4 (List.replicate k 0) a b (List.replicate d3 0)).l.length = d3 + k := q3
 have hf1 := free_len (E := asE4 (List.replicate k 0) a b (List.replicate d3 0)) (gs := [1]) ⟨by simp, by simp [hgr]⟩
 have hf2 := free_len (E := asE4 (List.replicate k 0) a b (List.replicate d3 0)) (gs := [2]) ⟨by simp, by simp [hgr]⟩
 have hf3 := free_len (E := asE4 (List.replicate k 0) a b (List.replicate d3 0)) (gs := [3]) ⟨by simp, by simp [hgr]⟩
 rw [hun, hl4] at hf1 hf2 hf3
 rw [q4] at hf1
 rw [q6] at hf3
 obtain ⟨F1, f1, fl1⟩ := hf1
 obtain ⟨F2, f2, fl2⟩ := hf2
 obtain ⟨F3, f3, fl3⟩ := hf3
 rw [← fl2] at q5
 clear q1 q2 q3 q4 q6 hun hhd hl4
 generalize asE4 (List.replicate k 0) a b (List.replicate d3 0) = E at *
 rcases hal : forgetE E E.R.grp with ⟨E5, c5⟩
 obtain ⟨rfl, hg5⟩ := forget_all hW4.rok hal
 have hW5 := hW4.forget hal
 obtain ⟨hv5, hh5⟩ := forget_vis hW4 hal
 have hp5 := plain_vis hW5.known hg5
 have hpw := plain_weight hW5.known hg5
 have hdv := E.dead_vis
 have hlv : E.vis.length = E5.l.length := by rw [← hv5, hp5, List.length_map]
 rw [hdd4] at hdv
 have hw5 : weightL E5.l = k - (b - a) := by rw [hpw]; omega
 have htx5 : E5.text (E5.R.head : Nat) = E.text (E.R.head : Nat) := by rw [Eng.text_vis, Eng.text_vis, hv5]
 have hallv : (E.l.length : Int) - (E5.l.length : Int) = ((d3 + b - a : Nat) : Int) := by omega
 have hx1 : (E.l.length : Int) - (F1.l.length : Int) = 0 := by omega
 have hx2 : (E.l.length : Int) - (F2.l.length : Int) = ((b - a : Nat) : Int) := by omega
 have hx3 : (E.l.length : Int) - (F3.l.length : Int) = (d3 : Int) := by omega
 have r1 : IntKind.i64.wrap ((k : Int) + (d3 : Int)) = ((k + d3 : Nat) : Int) := by rw [wrap_id (by omega) (by omega)]; omega
 have r2 : IntKind.i64.wrap (((k + d3 : Nat) : Int) + (b : Int)) = ((k + d3 + b : Nat) : Int) := by rw [wrap_id (by omega) (by omega)]; omega
 have r3 : IntKind.i64.wrap (((k + d3 + b : Nat) : Int) - (a : Int)) = ((k + d3 + b - a : Nat) : Int) := by rw [wrap_id (by omega) (by omega)]; omega
 have r4 : IntKind.i64.wrap ((d3 : Int) + (b : Int)) = ((d3 + b : Nat) : Int) := by rw [wrap_id (by omega) (by omega)]; omega
 have r5 : IntKind.i64.wrap (((d3 + b : Nat) : Int) - (a : Int)) = ((d3 + b - a : Nat) : Int) := by rw [wrap_id (by omega) (by omega)]; omega
 have r6 : IntKind.i64.wrap ((b : Int) - (a : Int)) = ((b - a : Nat) : Int) := by rw [wrap_id (by omega) (by omega)]; omega
 have r7 : IntKind.i64.wrap ((k : Int) - ((b - a : Nat) : Int)) = ((k - (b - a) : Nat) : Int) := by rw [wrap_id (by omega) (by omega)]; omega
 have be : ∀ x : Int, (x == x) = true := by intro x; simp
 have b00 : ((0 : Int) == 0) = true := rfl
 refine (enew_at _ rfl).mono ?_
 rintro v τ ⟨e, fp0, rfl, h0, _, kk0⟩
 have hE0 := h0.keep ((Keep.refl [] τ).new (.cells (List.replicate k [AVal.int IntKind.u8 0]).flatten none)) (fun _ _ => by simp)
 have hzk := zeros_bstr τ k
 simp only [↓evd, evu, evf, implies_true, reduceCtorEq, ↓reduceIte, Nat.reduceLT, evz, z0, z1, z2]
 simp only [↓evd, evu, evf, implies_true, reduceCtorEq, ↓reduceIte, Nat.reduceAdd, Nat.reduceLT, evz, hzk]
 refine (eedit_lit hE0 (q := 1) rfl (by simp) (by intro c hc; simp at hc; subst hc; simp only; omega) k1).mono ?_
 rintro v τ1 ⟨rfl, fp1, hE1, kk1, _⟩
 simp only [↓evd, evu, evf, implies_true, reduceCtorEq, ↓reduceIte, Nat.reduceAdd, Nat.reduceLeDiff, Nat.reduceLT, evz]
 refine (eedit_lit hE1 (q := 1) rfl (by simp) (by intro c hc; simp at hc; subst hc; simp) k2).mono ?_
 rintro v τ2 ⟨rfl, fp2, hE2, kk2, _⟩
 have hE2' := hE2.keep ((Keep.refl [] τ2).new (.cells (List.replicate d3 [AVal.int IntKind.u8 0]).flatten none)) (fun _ _ => by simp)
 have hzm := zeros_bstr τ2 d3
 simp only [↓evd, evu, evf, implies_true, reduceCtorEq, ↓reduceIte, Nat.reduceLT, evz, y0, y1, y2]
 simp only [↓evd, evu, evf, implies_true, reduceCtorEq, ↓reduceIte, Nat.reduceAdd, Nat.reduceLT, evz, hzm]
 refine (eedit_lit hE2' (q := 1) rfl (by simp) (by intro c hc; simp at hc; subst hc; simp only; omega) k3).mono ?_
 rintro v τ3 ⟨rfl, fp3, hE3, kk3, _⟩
 simp only [↓evd, evu, evf, implies_true, reduceCtorEq, ↓reduceIte, Nat.reduceLT, evz]
 refine (etoggle_at hE3 k4).mono ?_
 rintro v τ4 ⟨rfl, fp4, hE4, kk4, _⟩
 have hW : τ4.W = W := kk4.1.trans (kk3.1.trans (kk2.1.trans (kk1.1.trans kk0.1)))
 clear hE3 kk4 kk3 hE2 hE2' kk2 hE1 kk1 hE0 h0 kk0 k1 k2 k3 k4 hzk hzm
 have hw4 := gcWeight_call hE4
 have hd4 := gcDead_call hE4
 rw [hwt4] at hw4
 rw [hdd4] at hd4
 simp only [↓evd, evu, evf, implies_true, reduceCtorEq, Nat.reduceEqDiff, ↓reduceIte, Nat.reduceLT, evz]
 refine MSpec.of hw4 ?_
 simp only [↓evd, evu, evf, implies_true, reduceCtorEq, ↓reduceIte, Nat.reduceLT, evz]
 refine MSpec.of hd4 ?_
 have hEa := hE4.keep ((Keep.refl [] _).junk (.cells [.int .i64 1] none) .dead) (fun y _ => by simp)
 have ga := gcFree_call hEa (gs := [1]) (by decide) f1
 rw [if_pos rfl, hx1] at ga
 simp only [↓evd, evu, evf, implies_true, reduceCtorEq, Nat.reduceEqDiff, ↓reduceIte, Nat.reduceLT, evz]
 refine mspec_seen (.cons (Sees.refl _ _) (.cons (sees_one _ _) (.nil _))) ?_
 refine MSpec.of ga ?_
 have hEb := hEa.keep ((Keep.refl [] _).junk (.cells [.int .i64 2] none) .dead) (fun y _ => by simp)
 have gb := gcFree_call hEb (gs := [2]) (by decide) f2
 rw [if_pos rfl, hx2] at gb
 simp only [↓evd, evu, evf, implies_true, reduceCtorEq, Nat.reduceEqDiff, ↓reduceIte, Nat.reduceLT, evz]
 refine mspec_seen (.cons (Sees.refl _ _) (.cons (sees_one _ _) (.nil _))) ?_
 refine MSpec.of gb ?_
 have hEc := hEb.keep ((Keep.refl [] _).junk (.cells [.int .i64 3] none) .dead) (fun y _ => by simp)
 have gc := gcFree_call hEc (gs := [3]) (by decide) f3
 rw [if_pos rfl, hx3] at gc
 simp only [↓evd, evu, evf, implies_true, reduceCtorEq, Nat.reduceEqDiff, ↓reduceIte, Nat.reduceLT, evz]
 refine mspec_seen (.cons (Sees.refl _ _) (.cons (sees_one _ _) (.nil _))) ?_
 refine MSpec.of gc ?_
 simp only [↓evd, evu, evf, implies_true, reduceCtorEq, Nat.reduceEqDiff, ↓reduceIte, Nat.reduceLT, evz]
 refine (ecopy_at hEc).mono ?_
 rintro v τ5 ⟨c, kr', fpr', rfl, hC0, hfc, kc⟩
 have hC : IsEng τ5 c E (c :: fpr') := ⟨_, _, _, hC0, rfl⟩
 have hE5 := hEc.keep kc (fun y _ => by simp)
 have hdis : ∀ y ∈ fp4, y ∉ c :: fpr' := fun y hy hm => by have := hEc.low y hy; have := hfc y hm; omega
 generalize c :: fpr' = fq at hC hdis
 have hW5' : τ5.W = W := kc.1.trans hW
 have hga := gcAll_at hC hal
 rw [hallv] at hga
 simp only [↓evd, evu, evf, implies_true, reduceCtorEq, ↓reduceIte]
 refine hga.mono ?_
 rintro v τ6 ⟨rfl, fq2, hC6, kk6, _⟩
 have hE6 := hE5.keep kk6 hdis
 have t1 := ehead_at hE6
 have t2 := etext_at hE6 (E.R.head : Nat)
 rw [textV_head hW4.rok] at t2
 have t3 := ehead_at hC6
 have t4 := etext_at hC6 (E5.R.head : Nat)
 rw [textV_head hW5.rok, htx5] at t4
 have t5 := gcWeight_call hC6
 rw [hw5] at t5
 simp only [↓evd, evu, evf, implies_true, reduceCtorEq, ↓reduceIte, Nat.reduceLT, evz]
 refine MSpec.of t1 ?_
 simp only [↓evd, evu, ↓reduceIte, Nat.reduceLT, evz]
 refine MSpec.of t2 ?_
 simp only [↓evd, evu, evf, implies_true, reduceCtorEq, Nat.reduceEqDiff, ↓reduceIte, Nat.reduceLT, evz]
 refine MSpec.of t3 ?_
 simp only [↓evd, evu, ↓reduceIte, Nat.reduceLT, evz]
 refine MSpec.of t4 ?_
 simp only [↓evd, evu, evf, implies_true, reduceCtorEq, Nat.reduceEqDiff, ↓reduceIte, Nat.reduceLT, evz, r1, r2, r3, r4, r5, r6]
 refine MSpec.of t5 ?_
 simp only [↓evd, evu, evf, implies_true, reduceCtorEq, ↓reduceIte, Nat.reduceLT, evz, r6, r7, aStr_self]
 first | exact kk6.1.trans hW5' | exact ⟨rfl, kk6.1.trans hW5'⟩
theorem gcPlain_row (W : World) (a0 a1 a2 a3 : Int) (g0 : GInt .u8 a0) (g1 : GInt .u8 a1) (g2 : GInt .u8 a2) (g3 : GInt .u8 a3) : FSpec Tryz.prog n_palinodelaw23_GcPlain [.int .u8 a0, .int .u8 a1, .int .u8 a2, .int .u8 a3] (Heap.bare W (cellsOf W)) fun v s => v = .bool true ∧ s.W = W :=
 gcPlain_fspec W a0 a1 a2 a3 (gint_u8 g0) (gint_u8 g1) (gint_u8 g2) (gint_u8 g3)
end Go.Proofs.YtioampofolilnaaGreat.M

