/- Codes of the program's functions, compiled for the abstract machine; each compiled by the kernel's word. No condition. -/
import Derived.Test.YtihifhoemfpalaaFN
set_option maxRecDepth 100000
namespace Go.Proofs.Ytihifhoemfpalaa.M
open Go Go.Mini
/-- slices.pdqsortCmpFunc[palinode/api.Interval] -/
def f_slices_pdqsortCmpFunc_api_Interval : SFunc := { ntmps := 148, results := [], body :=
(.seq (.reg none [⟨some 10, .mv (.lit (.bool true)), none, []⟩])
(.seq (.reg none [⟨some 11, .mv (.lit (.bool true)), none, []⟩])
(.block 0 (.loop (.block 1 (.seq (.reg none [⟨some 21, .mv (.tmp 2), none, []⟩,
 ⟨some 22, .mv (.tmp 1), none, []⟩,
 ⟨some 23, .bin .sub .int (.tmp 21) (.tmp 22), none, [0, 1]⟩,
 ⟨some 12, .mv (.tmp 23), none, [2, 0, 1, 2]⟩])
(.seq (.seq (.reg none [⟨some 24, .mv (.tmp 12), none, []⟩,
 ⟨some 25, .bin .leq .int (.tmp 24) (.lit (.int .i64 12)), none, [0]⟩])
(.cond (.tmp 25) (.seq (.reg none [⟨some 26, .mv (.tmp 0), none, []⟩,
 ⟨some 27, .mv (.tmp 1), none, []⟩,
 ⟨some 28, .mv (.tmp 2), none, []⟩,
 ⟨some 29, .mv (.tmp 4), none, []⟩,
 ⟨some 30, .call (.lit (.fn 25 [])) [(.tmp 26), (.tmp 27), (.tmp 28), (.tmp 29)], none, [0, 1, 2, 3]⟩])
.ret) .skip))
(.seq (.seq (.reg none [⟨some 31, .mv (.tmp 3), none, []⟩,
 ⟨some 32, .bin .eql .int (.tmp 31) (.lit (.int .i64 0)), none, [0]⟩])
(.cond (.tmp 32) (.seq (.reg none [⟨some 33, .mv (.tmp 0), none, []⟩,
 ⟨some 34, .mv (.tmp 1), none, []⟩,
 ⟨some 35, .mv (.tmp 2), none, []⟩,
 ⟨some 36, .mv (.tmp 4), none, []⟩,
 ⟨some 37, .call (.lit (.fn 26 [])) [(.tmp 33), (.tmp 34), (.tmp 35), (.tmp 36)], none, [0, 1, 2, 3]⟩])
.ret) .skip))
(.seq (.seq (.reg none [⟨some 38, .mv (.tmp 10), none, []⟩,
 ⟨some 39, .not (.tmp 38), none, [0]⟩])
(.cond (.tmp 39) (.seq (.reg none [⟨some 40, .mv (.tmp 0), none, []⟩,
 ⟨some 41, .mv (.tmp 1), none, []⟩,
 ⟨some 42, .mv (.tmp 2), none, []⟩,
 ⟨some 43, .mv (.tmp 4), none, []⟩,
 ⟨some 44, .call (.lit (.fn 27 [])) [(.tmp 40), (.tmp 41), (.tmp 42), (.tmp 43)], none, [0, 1, 2, 3]⟩])
(.reg none [⟨some 45, .mv (.tmp 3), none, []⟩,
 ⟨some 46, .bin .sub .int (.tmp 45) (.lit (.int .i64 1)), none, [0]⟩,
 ⟨some 3, .mv (.tmp 46), none, [1, 0, 1]⟩])) .skip))
(.seq (.reg none [⟨some 48, .mv (.tmp 0), none, []⟩,
 ⟨some 49, .mv (.tmp 1), none, []⟩,
 ⟨some 50, .mv (.tmp 2), none, []⟩,
 ⟨some 51, .mv (.tmp 4), none, []⟩,
 ⟨some 52, .call (.lit (.fn 28 [])) [(.tmp 48), (.tmp 49), (.tmp 50), (.tmp 51)], none, [0, 1, 2, 3]⟩,
 ⟨some 47, .mv (.tmp 52), none, [4]⟩,
 ⟨some 53, .ext (.tmp 47) 0, none, [5]⟩,
 ⟨some 54, .ext (.tmp 47) 1, none, [5]⟩,
 ⟨some 13, .mv (.tmp 53), none, [6, 4, 0, 1, 2, 3, 4, 5, 6]⟩,
 ⟨some 14, .mv (.tmp 54), none, [7, 8, 0, 1, 2, 3, 4, 5, 6, 7, 8]⟩])
(.seq (.seq (.reg none [⟨some 55, .mv (.tmp 14), none, []⟩,
 ⟨some 56, .bin .eql .int (.tmp 55) (.lit (.int .i64 2)), none, [0]⟩])
(.cond (.tmp 56) (.seq (.reg none [⟨some 57, .mv (.tmp 0), none, []⟩,
 ⟨some 58, .mv (.tmp 1), none, []⟩,
 ⟨some 59, .mv (.tmp 2), none, []⟩,
 ⟨some 60, .mv (.tmp 4), none, []⟩,
 ⟨some 61, .call (.lit (.fn 29 [])) [(.tmp 57), (.tmp 58), (.tmp 59), (.tmp 60)], none, [0, 1, 2, 3]⟩])
(.seq (.reg none [⟨some 62, .mv (.tmp 2), none, []⟩,
 ⟨some 63, .bin .sub .int (.tmp 62) (.lit (.int .i64 1)), none, [0]⟩,
 ⟨some 64, .mv (.tmp 13), none, []⟩,
 ⟨some 65, .mv (.tmp 1), none, []⟩,
 ⟨some 66, .bin .sub .int (.tmp 64) (.tmp 65), none, [2, 3]⟩,
 ⟨some 67, .bin .sub .int (.tmp 63) (.tmp 66), none, [1, 4]⟩,
 ⟨some 13, .mv (.tmp 67), none, [5, 0, 1, 2, 3, 4, 5]⟩])
(.reg none [⟨some 14, .mv (.lit (.int .i64 1)), none, []⟩]))) .skip))
(.seq (.seq (.reg none [⟨some 68, .mv (.tmp 10), none, []⟩,
 ⟨some 69, .mv (.tmp 68), none, [0]⟩,
 ⟨some 70, .mv (.tmp 11), some (69, true), [1]⟩,
 ⟨some 71, .pick (.tmp 69) (.tmp 70) (.lit (.bool false)), none, [1, 2]⟩,
 ⟨some 72, .mv (.tmp 71), none, [3, 1]⟩,
 ⟨some 73, .mv (.tmp 14), some (72, true), [4]⟩,
 ⟨some 74, .bin .eql .int (.tmp 73) (.lit (.int .i64 1)), some (72, true), [5, 4]⟩,
 ⟨some 75, .pick (.tmp 72) (.tmp 74) (.lit (.bool false)), none, [4, 6]⟩])
(.cond (.tmp 75) (.seq (.reg none [⟨some 76, .mv (.tmp 0), none, []⟩,
 ⟨some 77, .mv (.tmp 1), none, []⟩,
 ⟨some 78, .mv (.tmp 2), none, []⟩,
 ⟨some 79, .mv (.tmp 4), none, []⟩,
 ⟨some 80, .call (.lit (.fn 30 [])) [(.tmp 76), (.tmp 77), (.tmp 78), (.tmp 79)], none, [0, 1, 2, 3]⟩])
(.cond (.tmp 80) .ret .skip)) .skip))
(.seq (.seq (.reg (some [0, 1, 3, 7, 7, 7, 39, 119, 247, 7, 7, 1543, 3591, 8191, 16383, 32767, 65535]) [⟨some 81, .mv (.tmp 1), none, []⟩,
 ⟨some 82, .bin .gtr .int (.tmp 81) (.lit (.int .i64 0)), none, [0]⟩,
 ⟨some 83, .mv (.tmp 82), none, [1]⟩,
 ⟨some 84, .mv (.tmp 4), some (83, true), [2]⟩,
 ⟨some 85, .mv (.tmp 0), some (83, true), [2]⟩,
 ⟨some 86, .mv (.tmp 1), some (83, true), [2]⟩,
 ⟨some 87, .bin .sub .int (.tmp 86) (.lit (.int .i64 1)), some (83, true), [5, 2]⟩,
 ⟨some 88, .idxA 2 (.tmp 85) (.tmp 87), some (83, true), [4, 6, 2]⟩,
 ⟨some 89, .load (some 2) (.tmp 88), some (83, true), [7, 2]⟩,
 ⟨some 90, .mv (.tmp 0), some (83, true), [2]⟩,
 ⟨some 91, .mv (.tmp 13), some (83, true), [2]⟩,
 ⟨some 92, .idxA 2 (.tmp 90) (.tmp 91), some (83, true), [9, 10, 2]⟩,
 ⟨some 93, .load (some 2) (.tmp 92), some (83, true), [11, 2]⟩,
 ⟨some 94, .call (.tmp 84) [(.tmp 89), (.tmp 93)], some (83, true), [3, 8, 12, 2, 2]⟩,
 ⟨some 95, .bin .lss .int (.tmp 94) (.lit (.int .i64 0)), some (83, true), [13, 2]⟩,
 ⟨some 96, .not (.tmp 95), some (83, true), [14, 2]⟩,
 ⟨some 97, .pick (.tmp 83) (.tmp 96) (.lit (.bool false)), none, [2, 15]⟩])
(.cond (.tmp 97) (.seq (.reg none [⟨some 98, .mv (.tmp 0), none, []⟩,
 ⟨some 99, .mv (.tmp 1), none, []⟩,
 ⟨some 100, .mv (.tmp 2), none, []⟩,
 ⟨some 101, .mv (.tmp 13), none, []⟩,
 ⟨some 102, .mv (.tmp 4), none, []⟩,
 ⟨some 103, .call (.lit (.fn 31 [])) [(.tmp 98), (.tmp 99), (.tmp 100), (.tmp 101), (.tmp 102)], none, [0, 1, 2, 3, 4]⟩,
 ⟨some 15, .mv (.tmp 103), none, [5, 5, 0, 1, 2, 3, 4, 5]⟩])
(.seq (.reg none [⟨some 104, .mv (.tmp 15), none, []⟩,
 ⟨some 1, .mv (.tmp 104), none, [0, 0]⟩])
(.exit 1))) .skip))
(.seq (.reg none [⟨some 106, .mv (.tmp 0), none, []⟩,
 ⟨some 107, .mv (.tmp 1), none, []⟩,
 ⟨some 108, .mv (.tmp 2), none, []⟩,
 ⟨some 109, .mv (.tmp 13), none, []⟩,
 ⟨some 110, .mv (.tmp 4), none, []⟩,
 ⟨some 111, .call (.lit (.fn 32 [])) [(.tmp 106), (.tmp 107), (.tmp 108), (.tmp 109), (.tmp 110)], none, [0, 1, 2, 3, 4]⟩,
 ⟨some 105, .mv (.tmp 111), none, [5]⟩,
 ⟨some 112, .ext (.tmp 105) 0, none, [6]⟩,
 ⟨some 113, .ext (.tmp 105) 1, none, [6]⟩,
 ⟨some 16, .mv (.tmp 112), none, [7, 5, 0, 1, 2, 3, 4, 5, 6, 7]⟩,
 ⟨some 17, .mv (.tmp 113), none, [8, 9, 0, 1, 2, 3, 4, 5, 6, 7, 8, 9]⟩])
(.seq (.reg none [⟨some 114, .mv (.tmp 17), none, []⟩,
 ⟨some 11, .mv (.tmp 114), none, [0, 0]⟩])
(.seq (.reg none [⟨some 115, .mv (.tmp 16), none, []⟩,
 ⟨some 116, .mv (.tmp 1), none, []⟩,
 ⟨some 117, .bin .sub .int (.tmp 115) (.tmp 116), none, [0, 1]⟩,
 ⟨some 118, .mv (.tmp 2), none, []⟩,
 ⟨some 119, .mv (.tmp 16), none, []⟩,
 ⟨some 120, .bin .sub .int (.tmp 118) (.tmp 119), none, [3, 4]⟩,
 ⟨some 18, .mv (.tmp 117), none, [2, 0, 1, 2]⟩,
 ⟨some 19, .mv (.tmp 120), none, [5, 6, 0, 1, 2, 3, 4, 5, 6]⟩])
(.seq (.reg none [⟨some 121, .mv (.tmp 12), none, []⟩,
 ⟨some 122, .bin .quo .int (.tmp 121) (.lit (.int .i64 8)), none, [0]⟩,
 ⟨some 20, .mv (.tmp 122), none, [1, 0, 1]⟩])
(.seq (.reg none [⟨some 123, .mv (.tmp 18), none, []⟩,
 ⟨some 124, .mv (.tmp 19), none, []⟩,
 ⟨some 125, .bin .lss .int (.tmp 123) (.tmp 124), none, [0, 1]⟩])
(.cond (.tmp 125) (.seq (.reg none [⟨some 126, .mv (.tmp 18), none, []⟩,
 ⟨some 127, .mv (.tmp 20), none, []⟩,
 ⟨some 128, .bin .geq .int (.tmp 126) (.tmp 127), none, [0, 1]⟩,
 ⟨some 10, .mv (.tmp 128), none, [2, 0, 1, 2]⟩])
(.seq (.reg none [⟨some 129, .mv (.tmp 0), none, []⟩,
 ⟨some 130, .mv (.tmp 1), none, []⟩,
 ⟨some 131, .mv (.tmp 16), none, []⟩,
 ⟨some 132, .mv (.tmp 3), none, []⟩,
 ⟨some 133, .mv (.tmp 4), none, []⟩,
 ⟨some 134, .call (.lit (.fn 21 [])) [(.tmp 129), (.tmp 130), (.tmp 131), (.tmp 132), (.tmp 133)], none, [0, 1, 2, 3, 4]⟩])
(.reg none [⟨some 135, .mv (.tmp 16), none, []⟩,
 ⟨some 136, .bin .add .int (.tmp 135) (.lit (.int .i64 1)), none, [0]⟩,
 ⟨some 1, .mv (.tmp 136), none, [1, 0, 1]⟩]))) (.seq (.reg none [⟨some 137, .mv (.tmp 19), none, []⟩,
 ⟨some 138, .mv (.tmp 20), none, []⟩,
 ⟨some 139, .bin .geq .int (.tmp 137) (.tmp 138), none, [0, 1]⟩,
 ⟨some 10, .mv (.tmp 139), none, [2, 0, 1, 2]⟩])
(.seq (.reg none [⟨some 140, .mv (.tmp 0), none, []⟩,
 ⟨some 141, .mv (.tmp 16), none, []⟩,
 ⟨some 142, .bin .add .int (.tmp 141) (.lit (.int .i64 1)), none, [1]⟩,
 ⟨some 143, .mv (.tmp 2), none, []⟩,
 ⟨some 144, .mv (.tmp 3), none, []⟩,
 ⟨some 145, .mv (.tmp 4), none, []⟩,
 ⟨some 146, .call (.lit (.fn 21 [])) [(.tmp 140), (.tmp 142), (.tmp 143), (.tmp 144), (.tmp 145)], none, [0, 2, 3, 4, 5]⟩])
(.reg none [⟨some 147, .mv (.tmp 16), none, []⟩,
 ⟨some 2, .mv (.tmp 147), none, [0, 0]⟩])))))))))))))))))))))) }
theorem c_slices_pdqsortCmpFunc_api_Interval : cFunc Try.prog n_slices_pdqsortCmpFunc_api_Interval = some f_slices_pdqsortCmpFunc_api_Interval := by kernel_rfl
/-- math/bits.Len -/
def f_math_bits_Len : SFunc := { ntmps := 8, results := [.tmp 2], body :=
(.seq (.reg none [⟨some 2, .mv (.lit (.int .i64 0)), none, []⟩])
(.seq (.cond (.lit (.bool false)) (.seq (.reg none [⟨some 3, .mv (.tmp 0), none, []⟩,
 ⟨some 4, .cint .u32 (.tmp 3), none, [0]⟩,
 ⟨some 5, .call (.lit (.fn 33 [])) [(.tmp 4)], none, [1]⟩,
 ⟨some 2, .mv (.tmp 5), none, [2, 2, 0, 1, 2]⟩])
.ret) .skip)
(.seq (.reg none [⟨some 6, .mv (.tmp 0), none, []⟩,
 ⟨some 7, .call (.lit (.fn 34 [])) [(.tmp 6)], none, [0]⟩,
 ⟨some 2, .mv (.tmp 7), none, [1, 1, 0, 1]⟩])
.ret))) }
theorem c_math_bits_Len : cFunc Try.prog n_math_bits_Len = some f_math_bits_Len := by kernel_rfl
/-- cmp.Or[int] -/
def f_cmp_Or_int : SFunc := { ntmps := 18, results := [.tmp 2], body :=
(.seq (.reg none [⟨some 2, .mv (.lit (.int .i64 0)), none, []⟩])
(.seq (.reg none [⟨some 3, .mv (.lit (.int .i64 0)), none, []⟩])
(.seq (.seq (.reg none [⟨some 6, .mv (.tmp 0), none, []⟩,
 ⟨some 7, .len (.tmp 6), none, [0]⟩,
 ⟨some 8, .mv (.lit (.int .i64 0)), none, []⟩])
(.block 0 (.loop (.seq (.reg none [⟨some 9, .bin .lss .int (.tmp 8) (.tmp 7), none, []⟩])
(.seq (.cond (.tmp 9) .skip (.exit 0))
(.seq (.block 1 (.seq (.reg none [⟨some 10, .idxA 1 (.tmp 6) (.tmp 8), none, []⟩,
 ⟨some 11, .load none (.tmp 10), none, [0]⟩,
 ⟨some 5, .mv (.tmp 11), none, [1, 0, 1]⟩])
(.seq (.reg none [⟨some 12, .mv (.tmp 5), none, []⟩,
 ⟨some 13, .mv (.tmp 3), none, []⟩,
 ⟨some 14, .bin .neq .int (.tmp 12) (.tmp 13), none, [0, 1]⟩])
(.cond (.tmp 14) (.seq (.reg none [⟨some 15, .mv (.tmp 5), none, []⟩,
 ⟨some 2, .mv (.tmp 15), none, [0, 0]⟩])
.ret) .skip))))
(.reg none [⟨some 16, .bin .add .int (.tmp 8) (.lit (.int .i64 1)), none, []⟩,
 ⟨some 8, .mv (.tmp 16), none, [0]⟩])))))))
(.seq (.reg none [⟨some 17, .mv (.tmp 3), none, []⟩,
 ⟨some 2, .mv (.tmp 17), none, [0, 0]⟩])
.ret)))) }
theorem c_cmp_Or_int : cFunc Try.prog n_cmp_Or_int = some f_cmp_Or_int := by kernel_rfl
/-- cmp.Compare[int] -/
def f_cmp_Compare_int : SFunc := { ntmps := 20, results := [.tmp 4], body :=
(.seq (.reg none [⟨some 4, .mv (.lit (.int .i64 0)), none, []⟩])
(.seq (.reg none [⟨some 7, .mv (.tmp 0), none, []⟩,
 ⟨some 8, .call (.lit (.fn 35 [])) [(.tmp 7)], none, [0]⟩,
 ⟨some 5, .mv (.tmp 8), none, [1, 1, 0, 1]⟩])
(.seq (.reg none [⟨some 9, .mv (.tmp 1), none, []⟩,
 ⟨some 10, .call (.lit (.fn 35 [])) [(.tmp 9)], none, [0]⟩,
 ⟨some 6, .mv (.tmp 10), none, [1, 1, 0, 1]⟩])
(.seq (.seq (.reg none [⟨some 11, .mv (.tmp 5), none, []⟩])
(.cond (.tmp 11) (.seq (.seq (.reg none [⟨some 12, .mv (.tmp 6), none, []⟩])
(.cond (.tmp 12) (.seq (.reg none [⟨some 4, .mv (.lit (.int .i64 0)), none, []⟩])
.ret) .skip))
(.seq (.reg none [⟨some 4, .mv (.lit (.int .i64 (-1))), none, []⟩])
.ret)) .skip))
(.seq (.seq (.reg none [⟨some 13, .mv (.tmp 6), none, []⟩])
(.cond (.tmp 13) (.seq (.reg none [⟨some 4, .mv (.lit (.int .i64 1)), none, []⟩])
.ret) .skip))
(.seq (.seq (.reg none [⟨some 14, .mv (.tmp 0), none, []⟩,
 ⟨some 15, .mv (.tmp 1), none, []⟩,
 ⟨some 16, .bin .lss .int (.tmp 14) (.tmp 15), none, [0, 1]⟩])
(.cond (.tmp 16) (.seq (.reg none [⟨some 4, .mv (.lit (.int .i64 (-1))), none, []⟩])
.ret) .skip))
(.seq (.seq (.reg none [⟨some 17, .mv (.tmp 0), none, []⟩,
 ⟨some 18, .mv (.tmp 1), none, []⟩,
 ⟨some 19, .bin .gtr .int (.tmp 17) (.tmp 18), none, [0, 1]⟩])
(.cond (.tmp 19) (.seq (.reg none [⟨some 4, .mv (.lit (.int .i64 1)), none, []⟩])
.ret) .skip))
(.seq (.reg none [⟨some 4, .mv (.lit (.int .i64 0)), none, []⟩])
.ret)))))))) }
theorem c_cmp_Compare_int : cFunc Try.prog n_cmp_Compare_int = some f_cmp_Compare_int := by kernel_rfl
/-- slices.insertionSortCmpFunc[palinode/api.Interval] -/
def f_slices_insertionSortCmpFunc_api_Interval : SFunc := { ntmps := 53, results := [], body :=
(.seq (.reg none [⟨some 10, .mv (.tmp 1), none, []⟩,
 ⟨some 11, .bin .add .int (.tmp 10) (.lit (.int .i64 1)), none, [0]⟩,
 ⟨some 8, .mv (.tmp 11), none, [1, 0, 1]⟩])
(.block 0 (.loop (.seq (.seq (.reg none [⟨some 12, .mv (.tmp 8), none, []⟩,
 ⟨some 13, .mv (.tmp 2), none, []⟩,
 ⟨some 14, .bin .lss .int (.tmp 12) (.tmp 13), none, [0, 1]⟩])
(.cond (.tmp 14) .skip (.exit 0)))
(.seq (.block 1 (.seq (.reg none [⟨some 17, .mv (.tmp 8), none, []⟩,
 ⟨some 9, .mv (.tmp 17), none, [0, 0]⟩])
(.block 2 (.loop (.seq (.seq (.reg (some [0, 0, 3, 7, 15, 15, 15, 111, 239, 15, 15, 1039, 3599, 7695, 16383, 32767, 65535]) [⟨some 18, .mv (.tmp 9), none, []⟩,
 ⟨some 19, .mv (.tmp 1), none, []⟩,
 ⟨some 20, .bin .gtr .int (.tmp 18) (.tmp 19), none, [0, 1]⟩,
 ⟨some 21, .mv (.tmp 20), none, [2]⟩,
 ⟨some 22, .mv (.tmp 3), some (21, true), [3]⟩,
 ⟨some 23, .mv (.tmp 0), some (21, true), [3]⟩,
 ⟨some 24, .mv (.tmp 9), some (21, true), [3]⟩,
 ⟨some 25, .idxA 2 (.tmp 23) (.tmp 24), some (21, true), [5, 6, 3]⟩,
 ⟨some 26, .load (some 2) (.tmp 25), some (21, true), [7, 3]⟩,
 ⟨some 27, .mv (.tmp 0), some (21, true), [3]⟩,
 ⟨some 28, .mv (.tmp 9), some (21, true), [3]⟩,
 ⟨some 29, .bin .sub .int (.tmp 28) (.lit (.int .i64 1)), some (21, true), [10, 3]⟩,
 ⟨some 30, .idxA 2 (.tmp 27) (.tmp 29), some (21, true), [9, 11, 3]⟩,
 ⟨some 31, .load (some 2) (.tmp 30), some (21, true), [12, 3]⟩,
 ⟨some 32, .call (.tmp 22) [(.tmp 26), (.tmp 31)], some (21, true), [4, 8, 13, 3, 3]⟩,
 ⟨some 33, .bin .lss .int (.tmp 32) (.lit (.int .i64 0)), some (21, true), [14, 3]⟩,
 ⟨some 34, .pick (.tmp 21) (.tmp 33) (.lit (.bool false)), none, [3, 15]⟩])
(.cond (.tmp 34) .skip (.exit 2)))
(.seq (.block 3 (.reg (some [0, 0, 0, 0, 8, 0, 0, 64, 224, 480, 0, 0, 3072, 7168, 16355, 32739, 65535, 131071]) [⟨some 37, .mv (.tmp 0), none, []⟩,
 ⟨some 38, .mv (.tmp 9), none, []⟩,
 ⟨some 39, .mv (.tmp 0), none, []⟩,
 ⟨some 40, .mv (.tmp 9), none, []⟩,
 ⟨some 41, .bin .sub .int (.tmp 40) (.lit (.int .i64 1)), none, [3]⟩,
 ⟨some 42, .mv (.tmp 0), none, []⟩,
 ⟨some 43, .mv (.tmp 9), none, []⟩,
 ⟨some 44, .bin .sub .int (.tmp 43) (.lit (.int .i64 1)), none, [6]⟩,
 ⟨some 45, .idxA 2 (.tmp 42) (.tmp 44), none, [5, 7]⟩,
 ⟨some 46, .load (some 2) (.tmp 45), none, [8]⟩,
 ⟨some 47, .mv (.tmp 0), none, []⟩,
 ⟨some 48, .mv (.tmp 9), none, []⟩,
 ⟨some 49, .idxA 2 (.tmp 47) (.tmp 48), none, [10, 11]⟩,
 ⟨some 50, .load (some 2) (.tmp 49), none, [12]⟩,
 ⟨some 51, .idxA 2 (.tmp 37) (.tmp 38), none, [0, 1, 0, 1, 5, 6, 7, 8, 9, 13]⟩,
 ⟨none, .store 2 (.tmp 51) (.tmp 46), none, [14, 9, 0, 1, 5, 6, 7, 8, 9, 13]⟩,
 ⟨some 52, .idxA 2 (.tmp 39) (.tmp 41), none, [2, 4, 0, 1, 2, 3, 4, 5, 6, 7, 8, 9, 10, 11, 12, 13, 14, 15]⟩,
 ⟨none, .store 2 (.tmp 52) (.tmp 50), none, [16, 13, 15, 0, 1, 2, 3, 4, 5, 6, 7, 8, 9, 10, 11, 12, 13, 14, 15]⟩]))
(.reg none [⟨some 35, .mv (.tmp 9), none, []⟩,
 ⟨some 36, .bin .sub .int (.tmp 35) (.lit (.int .i64 1)), none, [0]⟩,
 ⟨some 9, .mv (.tmp 36), none, [1, 0, 1]⟩])))))))
(.reg none [⟨some 15, .mv (.tmp 8), none, []⟩,
 ⟨some 16, .bin .add .int (.tmp 15) (.lit (.int .i64 1)), none, [0]⟩,
 ⟨some 8, .mv (.tmp 16), none, [1, 0, 1]⟩])))))) }
theorem c_slices_insertionSortCmpFunc_api_Interval : cFunc Try.prog n_slices_insertionSortCmpFunc_api_Interval = some f_slices_insertionSortCmpFunc_api_Interval := by kernel_rfl
/-- math/bits.Len32 -/
def f_math_bits_Len32 : SFunc := { ntmps := 19, results := [.tmp 2], body :=
(.seq (.reg none [⟨some 2, .mv (.lit (.int .i64 0)), none, []⟩])
(.seq (.seq (.reg none [⟨some 3, .mv (.tmp 0), none, []⟩,
 ⟨some 4, .bin .geq .int (.tmp 3) (.lit (.int .u32 65536)), none, [0]⟩])
(.cond (.tmp 4) (.seq (.reg none [⟨some 5, .mv (.tmp 0), none, []⟩,
 ⟨some 6, .bin .shr .int (.tmp 5) (.lit (.int .u64 16)), none, [0]⟩,
 ⟨some 0, .mv (.tmp 6), none, [1, 0, 1]⟩])
(.reg none [⟨some 2, .mv (.lit (.int .i64 16)), none, []⟩])) .skip))
(.seq (.seq (.reg none [⟨some 7, .mv (.tmp 0), none, []⟩,
 ⟨some 8, .bin .geq .int (.tmp 7) (.lit (.int .u32 256)), none, [0]⟩])
(.cond (.tmp 8) (.seq (.reg none [⟨some 9, .mv (.tmp 0), none, []⟩,
 ⟨some 10, .bin .shr .int (.tmp 9) (.lit (.int .u64 8)), none, [0]⟩,
 ⟨some 0, .mv (.tmp 10), none, [1, 0, 1]⟩])
(.reg none [⟨some 11, .mv (.tmp 2), none, []⟩,
 ⟨some 12, .bin .add .int (.tmp 11) (.lit (.int .i64 8)), none, [0]⟩,
 ⟨some 2, .mv (.tmp 12), none, [1, 0, 1]⟩])) .skip))
(.seq (.reg none [⟨some 13, .mv (.tmp 2), none, []⟩,
 ⟨some 14, .mv (.tmp 0), none, []⟩,
 ⟨some 15, .cint .u8 (.tmp 14), none, [1]⟩,
 ⟨some 16, .idxS (.lit (.str [0, 1, 2, 2, 3, 3, 3, 3, 4, 4, 4, 4, 4, 4, 4, 4, 5, 5, 5, 5, 5, 5, 5, 5, 5, 5, 5, 5, 5, 5, 5, 5, 6, 6, 6, 6, 6, 6, 6, 6, 6, 6, 6, 6, 6, 6, 6, 6, 6, 6, 6, 6, 6, 6, 6, 6, 6, 6, 6, 6, 6, 6, 6, 6, 7, 7, 7, 7, 7, 7, 7, 7, 7, 7, 7, 7, 7, 7, 7, 7, 7, 7, 7, 7, 7, 7, 7, 7, 7, 7, 7, 7, 7, 7, 7, 7, 7, 7, 7, 7, 7, 7, 7, 7, 7, 7, 7, 7, 7, 7, 7, 7, 7, 7, 7, 7, 7, 7, 7, 7, 7, 7, 7, 7, 7, 7, 7, 7, 8, 8, 8, 8, 8, 8, 8, 8, 8, 8, 8, 8, 8, 8, 8, 8, 8, 8, 8, 8, 8, 8, 8, 8, 8, 8, 8, 8, 8, 8, 8, 8, 8, 8, 8, 8, 8, 8, 8, 8, 8, 8, 8, 8, 8, 8, 8, 8, 8, 8, 8, 8, 8, 8, 8, 8, 8, 8, 8, 8, 8, 8, 8, 8, 8, 8, 8, 8, 8, 8, 8, 8, 8, 8, 8, 8, 8, 8, 8, 8, 8, 8, 8, 8, 8, 8, 8, 8, 8, 8, 8, 8, 8, 8, 8, 8, 8, 8, 8, 8, 8, 8, 8, 8, 8, 8, 8, 8, 8, 8, 8, 8, 8, 8, 8, 8, 8, 8, 8, 8, 8, 8, 8, 8, 8, 8, 8, 8])) (.tmp 15), none, [2]⟩,
 ⟨some 17, .cint .i64 (.tmp 16), none, [3]⟩,
 ⟨some 18, .bin .add .int (.tmp 13) (.tmp 17), none, [0, 4]⟩,
 ⟨some 2, .mv (.tmp 18), none, [5, 0, 1, 2, 3, 4, 5]⟩])
.ret)))) }
theorem c_math_bits_Len32 : cFunc Try.prog n_math_bits_Len32 = some f_math_bits_Len32 := by kernel_rfl
/-- math/bits.Len64 -/
def f_math_bits_Len64 : SFunc := { ntmps := 25, results := [.tmp 2], body :=
(.seq (.reg none [⟨some 2, .mv (.lit (.int .i64 0)), none, []⟩])
(.seq (.seq (.reg none [⟨some 3, .mv (.tmp 0), none, []⟩,
 ⟨some 4, .bin .geq .int (.tmp 3) (.lit (.int .u64 4294967296)), none, [0]⟩])
(.cond (.tmp 4) (.seq (.reg none [⟨some 5, .mv (.tmp 0), none, []⟩,
 ⟨some 6, .bin .shr .int (.tmp 5) (.lit (.int .u64 32)), none, [0]⟩,
 ⟨some 0, .mv (.tmp 6), none, [1, 0, 1]⟩])
(.reg none [⟨some 2, .mv (.lit (.int .i64 32)), none, []⟩])) .skip))
(.seq (.seq (.reg none [⟨some 7, .mv (.tmp 0), none, []⟩,
 ⟨some 8, .bin .geq .int (.tmp 7) (.lit (.int .u64 65536)), none, [0]⟩])
(.cond (.tmp 8) (.seq (.reg none [⟨some 9, .mv (.tmp 0), none, []⟩,
 ⟨some 10, .bin .shr .int (.tmp 9) (.lit (.int .u64 16)), none, [0]⟩,
 ⟨some 0, .mv (.tmp 10), none, [1, 0, 1]⟩])
(.reg none [⟨some 11, .mv (.tmp 2), none, []⟩,
 ⟨some 12, .bin .add .int (.tmp 11) (.lit (.int .i64 16)), none, [0]⟩,
 ⟨some 2, .mv (.tmp 12), none, [1, 0, 1]⟩])) .skip))
(.seq (.seq (.reg none [⟨some 13, .mv (.tmp 0), none, []⟩,
 ⟨some 14, .bin .geq .int (.tmp 13) (.lit (.int .u64 256)), none, [0]⟩])
(.cond (.tmp 14) (.seq (.reg none [⟨some 15, .mv (.tmp 0), none, []⟩,
 ⟨some 16, .bin .shr .int (.tmp 15) (.lit (.int .u64 8)), none, [0]⟩,
 ⟨some 0, .mv (.tmp 16), none, [1, 0, 1]⟩])
(.reg none [⟨some 17, .mv (.tmp 2), none, []⟩,
 ⟨some 18, .bin .add .int (.tmp 17) (.lit (.int .i64 8)), none, [0]⟩,
 ⟨some 2, .mv (.tmp 18), none, [1, 0, 1]⟩])) .skip))
(.seq (.reg none [⟨some 19, .mv (.tmp 2), none, []⟩,
 ⟨some 20, .mv (.tmp 0), none, []⟩,
 ⟨some 21, .cint .u8 (.tmp 20), none, [1]⟩,
 ⟨some 22, .idxS (.lit (.str [0, 1, 2, 2, 3, 3, 3, 3, 4, 4, 4, 4, 4, 4, 4, 4, 5, 5, 5, 5, 5, 5, 5, 5, 5, 5, 5, 5, 5, 5, 5, 5, 6, 6, 6, 6, 6, 6, 6, 6, 6, 6, 6, 6, 6, 6, 6, 6, 6, 6, 6, 6, 6, 6, 6, 6, 6, 6, 6, 6, 6, 6, 6, 6, 7, 7, 7, 7, 7, 7, 7, 7, 7, 7, 7, 7, 7, 7, 7, 7, 7, 7, 7, 7, 7, 7, 7, 7, 7, 7, 7, 7, 7, 7, 7, 7, 7, 7, 7, 7, 7, 7, 7, 7, 7, 7, 7, 7, 7, 7, 7, 7, 7, 7, 7, 7, 7, 7, 7, 7, 7, 7, 7, 7, 7, 7, 7, 7, 8, 8, 8, 8, 8, 8, 8, 8, 8, 8, 8, 8, 8, 8, 8, 8, 8, 8, 8, 8, 8, 8, 8, 8, 8, 8, 8, 8, 8, 8, 8, 8, 8, 8, 8, 8, 8, 8, 8, 8, 8, 8, 8, 8, 8, 8, 8, 8, 8, 8, 8, 8, 8, 8, 8, 8, 8, 8, 8, 8, 8, 8, 8, 8, 8, 8, 8, 8, 8, 8, 8, 8, 8, 8, 8, 8, 8, 8, 8, 8, 8, 8, 8, 8, 8, 8, 8, 8, 8, 8, 8, 8, 8, 8, 8, 8, 8, 8, 8, 8, 8, 8, 8, 8, 8, 8, 8, 8, 8, 8, 8, 8, 8, 8, 8, 8, 8, 8, 8, 8, 8, 8, 8, 8, 8, 8, 8, 8])) (.tmp 21), none, [2]⟩,
 ⟨some 23, .cint .i64 (.tmp 22), none, [3]⟩,
 ⟨some 24, .bin .add .int (.tmp 19) (.tmp 23), none, [0, 4]⟩,
 ⟨some 2, .mv (.tmp 24), none, [5, 0, 1, 2, 3, 4, 5]⟩])
.ret))))) }
theorem c_math_bits_Len64 : cFunc Try.prog n_math_bits_Len64 = some f_math_bits_Len64 := by kernel_rfl
/-- cmp.isNaN[int] -/
def f_cmp_isNaN_int : SFunc := { ntmps := 6, results := [.tmp 2], body :=
(.seq (.reg none [⟨some 2, .mv (.lit (.bool false)), none, []⟩])
(.seq (.reg none [⟨some 3, .mv (.tmp 0), none, []⟩,
 ⟨some 4, .mv (.tmp 0), none, []⟩,
 ⟨some 5, .bin .neq .int (.tmp 3) (.tmp 4), none, [0, 1]⟩,
 ⟨some 2, .mv (.tmp 5), none, [2, 0, 1, 2]⟩])
.ret)) }
theorem c_cmp_isNaN_int : cFunc Try.prog n_cmp_isNaN_int = some f_cmp_isNaN_int := by kernel_rfl
end Go.Proofs.Ytihifhoemfpalaa.M
