/- Codes of the program's functions, compiled for the abstract machine; each compiled by the kernel's word. No condition. -/
import Derived.Test.YtihifhoemfpalaaProg
import Derived.KernelRfl
import Derived.Test.YtihifhoemfpalaaME
set_option maxRecDepth 100000
namespace Go.Proofs.Ytihifhoemfpalaa.M
open Go Go.Mini
/-- slices.pdqsortCmpFunc[palinode/api.Interval] -/
def f21 : SFunc := { ntmps := 148, results := [], body :=
(.seq (.reg none [⟨some 10, .mv (.lit (.bool true)), none, []⟩])
(.seq (.reg none [⟨some 11, .mv (.lit (.bool true)), none, []⟩])
(.block 0 (.loop (.block 1 (.seq (.reg none [⟨some 21, .mv (.tmp 2), none, []⟩,
 ⟨some 22, .mv (.tmp 1), none, []⟩,
 ⟨some 23, .bin .sub .int (.tmp 21) (.tmp 22), none, [0, 1]⟩,
 ⟨some 12, .mv (.tmp 23), none, [2, 0, 1, 2]⟩])
(.seq (.seq (.reg none [⟨some 24, .mv (.tmp 12), none, []⟩,
 ⟨some 25, .bin .leq .int (.tmp 24) (.lit (.int .i64 12)), none, [0]⟩])
(.cond (.tmp 25) (.seq (.reg none [⟨some 26, .mv (.tmp 0), none, []⟩,
 ⟨some 27, .mv (.tmp 1), none, []⟩,
 ⟨some 28, .mv (.tmp 2), none, []⟩,
 ⟨some 29, .mv (.tmp 4), none, []⟩,
 ⟨some 30, .call (.lit (.fn 25 [])) [(.tmp 26), (.tmp 27), (.tmp 28), (.tmp 29)], none, [0, 1, 2, 3]⟩])
.ret) .skip))
(.seq (.seq (.reg none [⟨some 31, .mv (.tmp 3), none, []⟩,
 ⟨some 32, .bin .eql .int (.tmp 31) (.lit (.int .i64 0)), none, [0]⟩])
(.cond (.tmp 32) (.seq (.reg none [⟨some 33, .mv (.tmp 0), none, []⟩,
 ⟨some 34, .mv (.tmp 1), none, []⟩,
 ⟨some 35, .mv (.tmp 2), none, []⟩,
 ⟨some 36, .mv (.tmp 4), none, []⟩,
 ⟨some 37, .call (.lit (.fn 26 [])) [(.tmp 33), (.tmp 34), (.tmp 35), (.tmp 36)], none, [0, 1, 2, 3]⟩])
.ret) .skip))
(.seq (.seq (.reg none [⟨some 38, .mv (.tmp 10), none, []⟩,
 ⟨some 39, .not (.tmp 38), none, [0]⟩])
(.cond (.tmp 39) (.seq (.reg none [⟨some 40, .mv (.tmp 0), none, []⟩,
 ⟨some 41, .mv (.tmp 1), none, []⟩,
 ⟨some 42, .mv (.tmp 2), none, []⟩,
 ⟨some 43, .mv (.tmp 4), none, []⟩,
 ⟨some 44, .call (.lit (.fn 27 [])) [(.tmp 40), (.tmp 41), (.tmp 42), (.tmp 43)], none, [0, 1, 2, 3]⟩])
(.reg none [⟨some 45, .mv (.tmp 3), none, []⟩,
 ⟨some 46, .bin .sub .int (.tmp 45) (.lit (.int .i64 1)), none, [0]⟩,
 ⟨some 3, .mv (.tmp 46), none, [1, 0, 1]⟩])) .skip))
(.seq (.reg none [⟨some 48, .mv (.tmp 0), none, []⟩,
 ⟨some 49, .mv (.tmp 1), none, []⟩,
 ⟨some 50, .mv (.tmp 2), none, []⟩,
 ⟨some 51, .mv (.tmp 4), none, []⟩,
 ⟨some 52, .call (.lit (.fn 28 [])) [(.tmp 48), (.tmp 49), (.tmp 50), (.tmp 51)], none, [0, 1, 2, 3]⟩,
 ⟨some 47, .mv (.tmp 52), none, [4]⟩,
 ⟨some 53, .ext (.tmp 47) 0, none, [5]⟩,
 ⟨some 54, .ext (.tmp 47) 1, none, [5]⟩,
 ⟨some 13, .mv (.tmp 53), none, [6, 4, 0, 1, 2, 3, 4, 5, 6]⟩,
 ⟨some 14, .mv (.tmp 54), none, [7, 8, 0, 1, 2, 3, 4, 5, 6, 7, 8]⟩])
(.seq (.seq (.reg none [⟨some 55, .mv (.tmp 14), none, []⟩,
 ⟨some 56, .bin .eql .int (.tmp 55) (.lit (.int .i64 2)), none, [0]⟩])
(.cond (.tmp 56) (.seq (.reg none [⟨some 57, .mv (.tmp 0), none, []⟩,
 ⟨some 58, .mv (.tmp 1), none, []⟩,
 ⟨some 59, .mv (.tmp 2), none, []⟩,
 ⟨some 60, .mv (.tmp 4), none, []⟩,
 ⟨some 61, .call (.lit (.fn 29 [])) [(.tmp 57), (.tmp 58), (.tmp 59), (.tmp 60)], none, [0, 1, 2, 3]⟩])
(.seq (.reg none [⟨some 62, .mv (.tmp 2), none, []⟩,
 ⟨some 63, .bin .sub .int (.tmp 62) (.lit (.int .i64 1)), none, [0]⟩,
 ⟨some 64, .mv (.tmp 13), none, []⟩,
 ⟨some 65, .mv (.tmp 1), none, []⟩,
 ⟨some 66, .bin .sub .int (.tmp 64) (.tmp 65), none, [2, 3]⟩,
 ⟨some 67, .bin .sub .int (.tmp 63) (.tmp 66), none, [1, 4]⟩,
 ⟨some 13, .mv (.tmp 67), none, [5, 0, 1, 2, 3, 4, 5]⟩])
(.reg none [⟨some 14, .mv (.lit (.int .i64 1)), none, []⟩]))) .skip))
(.seq (.seq (.reg none [⟨some 68, .mv (.tmp 10), none, []⟩,
 ⟨some 69, .mv (.tmp 68), none, [0]⟩,
 ⟨some 70, .mv (.tmp 11), some (69, true), [1]⟩,
 ⟨some 71, .pick (.tmp 69) (.tmp 70) (.lit (.bool false)), none, [1, 2]⟩,
 ⟨some 72, .mv (.tmp 71), none, [3, 1]⟩,
 ⟨some 73, .mv (.tmp 14), some (72, true), [4]⟩,
 ⟨some 74, .bin .eql .int (.tmp 73) (.lit (.int .i64 1)), some (72, true), [5, 4]⟩,
 ⟨some 75, .pick (.tmp 72) (.tmp 74) (.lit (.bool false)), none, [4, 6]⟩])
(.cond (.tmp 75) (.seq (.reg none [⟨some 76, .mv (.tmp 0), none, []⟩,
 ⟨some 77, .mv (.tmp 1), none, []⟩,
 ⟨some 78, .mv (.tmp 2), none, []⟩,
 ⟨some 79, .mv (.tmp 4), none, []⟩,
 ⟨some 80, .call (.lit (.fn 30 [])) [(.tmp 76), (.tmp 77), (.tmp 78), (.tmp 79)], none, [0, 1, 2, 3]⟩])
(.cond (.tmp 80) .ret .skip)) .skip))
(.seq (.seq (.reg (some [0, 1, 3, 7, 7, 7, 39, 119, 247, 7, 7, 1543, 3591, 8191, 16383, 32767, 65535]) [⟨some 81, .mv (.tmp 1), none, []⟩,
 ⟨some 82, .bin .gtr .int (.tmp 81) (.lit (.int .i64 0)), none, [0]⟩,
 ⟨some 83, .mv (.tmp 82), none, [1]⟩,
 ⟨some 84, .mv (.tmp 4), some (83, true), [2]⟩,
 ⟨some 85, .mv (.tmp 0), some (83, true), [2]⟩,
 ⟨some 86, .mv (.tmp 1), some (83, true), [2]⟩,
 ⟨some 87, .bin .sub .int (.tmp 86) (.lit (.int .i64 1)), some (83, true), [5, 2]⟩,
 ⟨some 88, .idxA 2 (.tmp 85) (.tmp 87), some (83, true), [4, 6, 2]⟩,
 ⟨some 89, .load (some 2) (.tmp 88), some (83, true), [7, 2]⟩,
 ⟨some 90, .mv (.tmp 0), some (83, true), [2]⟩,
 ⟨some 91, .mv (.tmp 13), some (83, true), [2]⟩,
 ⟨some 92, .idxA 2 (.tmp 90) (.tmp 91), some (83, true), [9, 10, 2]⟩,
 ⟨some 93, .load (some 2) (.tmp 92), some (83, true), [11, 2]⟩,
 ⟨some 94, .call (.tmp 84) [(.tmp 89), (.tmp 93)], some (83, true), [3, 8, 12, 2, 2]⟩,
 ⟨some 95, .bin .lss .int (.tmp 94) (.lit (.int .i64 0)), some (83, true), [13, 2]⟩,
 ⟨some 96, .not (.tmp 95), some (83, true), [14, 2]⟩,
 ⟨some 97, .pick (.tmp 83) (.tmp 96) (.lit (.bool false)), none, [2, 15]⟩])
(.cond (.tmp 97) (.seq (.reg none [⟨some 98, .mv (.tmp 0), none, []⟩,
 ⟨some 99, .mv (.tmp 1), none, []⟩,
 ⟨some 100, .mv (.tmp 2), none, []⟩,
 ⟨some 101, .mv (.tmp 13), none, []⟩,
 ⟨some 102, .mv (.tmp 4), none, []⟩,
 ⟨some 103, .call (.lit (.fn 31 [])) [(.tmp 98), (.tmp 99), (.tmp 100), (.tmp 101), (.tmp 102)], none, [0, 1, 2, 3, 4]⟩,
 ⟨some 15, .mv (.tmp 103), none, [5, 5, 0, 1, 2, 3, 4, 5]⟩])
(.seq (.reg none [⟨some 104, .mv (.tmp 15), none, []⟩,
 ⟨some 1, .mv (.tmp 104), none, [0, 0]⟩])
(.exit 1))) .skip))
(.seq (.reg none [⟨some 106, .mv (.tmp 0), none, []⟩,
 ⟨some 107, .mv (.tmp 1), none, []⟩,
 ⟨some 108, .mv (.tmp 2), none, []⟩,
 ⟨some 109, .mv (.tmp 13), none, []⟩,
 ⟨some 110, .mv (.tmp 4), none, []⟩,
 ⟨some 111, .call (.lit (.fn 32 [])) [(.tmp 106), (.tmp 107), (.tmp 108), (.tmp 109), (.tmp 110)], none, [0, 1, 2, 3, 4]⟩,
 ⟨some 105, .mv (.tmp 111), none, [5]⟩,
 ⟨some 112, .ext (.tmp 105) 0, none, [6]⟩,
 ⟨some 113, .ext (.tmp 105) 1, none, [6]⟩,
 ⟨some 16, .mv (.tmp 112), none, [7, 5, 0, 1, 2, 3, 4, 5, 6, 7]⟩,
 ⟨some 17, .mv (.tmp 113), none, [8, 9, 0, 1, 2, 3, 4, 5, 6, 7, 8, 9]⟩])
(.seq (.reg none [⟨some 114, .mv (.tmp 17), none, []⟩,
 ⟨some 11, .mv (.tmp 114), none, [0, 0]⟩])
(.seq (.reg none [⟨some 115, .mv (.tmp 16), none, []⟩,
 ⟨some 116, .mv (.tmp 1), none, []⟩,
 ⟨some 117, .bin .sub .int (.tmp 115) (.tmp 116), none, [0, 1]⟩,
 ⟨some 118, .mv (.tmp 2), none, []⟩,
 ⟨some 119, .mv (.tmp 16), none, []⟩,
 ⟨some 120, .bin .sub .int (.tmp 118) (.tmp 119), none, [3, 4]⟩,
 ⟨some 18, .mv (.tmp 117), none, [2, 0, 1, 2]⟩,
 ⟨some 19, .mv (.tmp 120), none, [5, 6, 0, 1, 2, 3, 4, 5, 6]⟩])
(.seq (.reg none [⟨some 121, .mv (.tmp 12), none, []⟩,
 ⟨some 122, .bin .quo .int (.tmp 121) (.lit (.int .i64 8)), none, [0]⟩,
 ⟨some 20, .mv (.tmp 122), none, [1, 0, 1]⟩])
(.seq (.reg none [⟨some 123, .mv (.tmp 18), none, []⟩,
 ⟨some 124, .mv (.tmp 19), none, []⟩,
 ⟨some 125, .bin .lss .int (.tmp 123) (.tmp 124), none, [0, 1]⟩])
(.cond (.tmp 125) (.seq (.reg none [⟨some 126, .mv (.tmp 18), none, []⟩,
 ⟨some 127, .mv (.tmp 20), none, []⟩,
 ⟨some 128, .bin .geq .int (.tmp 126) (.tmp 127), none, [0, 1]⟩,
 ⟨some 10, .mv (.tmp 128), none, [2, 0, 1, 2]⟩])
(.seq (.reg none [⟨some 129, .mv (.tmp 0), none, []⟩,
 ⟨some 130, .mv (.tmp 1), none, []⟩,
 ⟨some 131, .mv (.tmp 16), none, []⟩,
 ⟨some 132, .mv (.tmp 3), none, []⟩,
 ⟨some 133, .mv (.tmp 4), none, []⟩,
 ⟨some 134, .call (.lit (.fn 21 [])) [(.tmp 129), (.tmp 130), (.tmp 131), (.tmp 132), (.tmp 133)], none, [0, 1, 2, 3, 4]⟩])
(.reg none [⟨some 135, .mv (.tmp 16), none, []⟩,
 ⟨some 136, .bin .add .int (.tmp 135) (.lit (.int .i64 1)), none, [0]⟩,
 ⟨some 1, .mv (.tmp 136), none, [1, 0, 1]⟩]))) (.seq (.reg none [⟨some 137, .mv (.tmp 19), none, []⟩,
 ⟨some 138, .mv (.tmp 20), none, []⟩,
 ⟨some 139, .bin .geq .int (.tmp 137) (.tmp 138), none, [0, 1]⟩,
 ⟨some 10, .mv (.tmp 139), none, [2, 0, 1, 2]⟩])
(.seq (.reg none [⟨some 140, .mv (.tmp 0), none, []⟩,
 ⟨some 141, .mv (.tmp 16), none, []⟩,
 ⟨some 142, .bin .add .int (.tmp 141) (.lit (.int .i64 1)), none, [1]⟩,
 ⟨some 143, .mv (.tmp 2), none, []⟩,
 ⟨some 144, .mv (.tmp 3), none, []⟩,
 ⟨some 145, .mv (.tmp 4), none, []⟩,
 ⟨some 146, .call (.lit (.fn 21 [])) [(.tmp 140), (.tmp 142), (.tmp 143), (.tmp 144), (.tmp 145)], none, [0, 2, 3, 4, 5]⟩])
(.reg none [⟨some 147, .mv (.tmp 16), none, []⟩,
 ⟨some 2, .mv (.tmp 147), none, [0, 0]⟩])))))))))))))))))))))) }
theorem c21 : cFunc Try.prog 21 = some f21 := by kernel_rfl
/-- math/bits.Len -/
def f22 : SFunc := { ntmps := 8, results := [.tmp 2], body :=
(.seq (.reg none [⟨some 2, .mv (.lit (.int .i64 0)), none, []⟩])
(.seq (.cond (.lit (.bool false)) (.seq (.reg none [⟨some 3, .mv (.tmp 0), none, []⟩,
 ⟨some 4, .cint .u32 (.tmp 3), none, [0]⟩,
 ⟨some 5, .call (.lit (.fn 33 [])) [(.tmp 4)], none, [1]⟩,
 ⟨some 2, .mv (.tmp 5), none, [2, 2, 0, 1, 2]⟩])
.ret) .skip)
(.seq (.reg none [⟨some 6, .mv (.tmp 0), none, []⟩,
 ⟨some 7, .call (.lit (.fn 34 [])) [(.tmp 6)], none, [0]⟩,
 ⟨some 2, .mv (.tmp 7), none, [1, 1, 0, 1]⟩])
.ret))) }
theorem c22 : cFunc Try.prog 22 = some f22 := by kernel_rfl
/-- cmp.Or[int] -/
def f23 : SFunc := { ntmps := 18, results := [.tmp 2], body :=
(.seq (.reg none [⟨some 2, .mv (.lit (.int .i64 0)), none, []⟩])
(.seq (.reg none [⟨some 3, .mv (.lit (.int .i64 0)), none, []⟩])
(.seq (.seq (.reg none [⟨some 6, .mv (.tmp 0), none, []⟩,
 ⟨some 7, .len (.tmp 6), none, [0]⟩,
 ⟨some 8, .mv (.lit (.int .i64 0)), none, []⟩])
(.block 0 (.loop (.seq (.reg none [⟨some 9, .bin .lss .int (.tmp 8) (.tmp 7), none, []⟩])
(.seq (.cond (.tmp 9) .skip (.exit 0))
(.seq (.block 1 (.seq (.reg none [⟨some 10, .idxA 1 (.tmp 6) (.tmp 8), none, []⟩,
 ⟨some 11, .load none (.tmp 10), none, [0]⟩,
 ⟨some 5, .mv (.tmp 11), none, [1, 0, 1]⟩])
(.seq (.reg none [⟨some 12, .mv (.tmp 5), none, []⟩,
 ⟨some 13, .mv (.tmp 3), none, []⟩,
 ⟨some 14, .bin .neq .int (.tmp 12) (.tmp 13), none, [0, 1]⟩])
(.cond (.tmp 14) (.seq (.reg none [⟨some 15, .mv (.tmp 5), none, []⟩,
 ⟨some 2, .mv (.tmp 15), none, [0, 0]⟩])
.ret) .skip))))
(.reg none [⟨some 16, .bin .add .int (.tmp 8) (.lit (.int .i64 1)), none, []⟩,
 ⟨some 8, .mv (.tmp 16), none, [0]⟩])))))))
(.seq (.reg none [⟨some 17, .mv (.tmp 3), none, []⟩,
 ⟨some 2, .mv (.tmp 17), none, [0, 0]⟩])
.ret)))) }
theorem c23 : cFunc Try.prog 23 = some f23 := by kernel_rfl
/-- cmp.Compare[int] -/
def f24 : SFunc := { ntmps := 20, results := [.tmp 4], body :=
(.seq (.reg none [⟨some 4, .mv (.lit (.int .i64 0)), none, []⟩])
(.seq (.reg none [⟨some 7, .mv (.tmp 0), none, []⟩,
 ⟨some 8, .call (.lit (.fn 35 [])) [(.tmp 7)], none, [0]⟩,
 ⟨some 5, .mv (.tmp 8), none, [1, 1, 0, 1]⟩])
(.seq (.reg none [⟨some 9, .mv (.tmp 1), none, []⟩,
 ⟨some 10, .call (.lit (.fn 35 [])) [(.tmp 9)], none, [0]⟩,
 ⟨some 6, .mv (.tmp 10), none, [1, 1, 0, 1]⟩])
(.seq (.seq (.reg none [⟨some 11, .mv (.tmp 5), none, []⟩])
(.cond (.tmp 11) (.seq (.seq (.reg none [⟨some 12, .mv (.tmp 6), none, []⟩])
(.cond (.tmp 12) (.seq (.reg none [⟨some 4, .mv (.lit (.int .i64 0)), none, []⟩])
.ret) .skip))
(.seq (.reg none [⟨some 4, .mv (.lit (.int .i64 (-1))), none, []⟩])
.ret)) .skip))
(.seq (.seq (.reg none [⟨some 13, .mv (.tmp 6), none, []⟩])
(.cond (.tmp 13) (.seq (.reg none [⟨some 4, .mv (.lit (.int .i64 1)), none, []⟩])
.ret) .skip))
(.seq (.seq (.reg none [⟨some 14, .mv (.tmp 0), none, []⟩,
 ⟨some 15, .mv (.tmp 1), none, []⟩,
 ⟨some 16, .bin .lss .int (.tmp 14) (.tmp 15), none, [0, 1]⟩])
(.cond (.tmp 16) (.seq (.reg none [⟨some 4, .mv (.lit (.int .i64 (-1))), none, []⟩])
.ret) .skip))
(.seq (.seq (.reg none [⟨some 17, .mv (.tmp 0), none, []⟩,
 ⟨some 18, .mv (.tmp 1), none, []⟩,
 ⟨some 19, .bin .gtr .int (.tmp 17) (.tmp 18), none, [0, 1]⟩])
(.cond (.tmp 19) (.seq (.reg none [⟨some 4, .mv (.lit (.int .i64 1)), none, []⟩])
.ret) .skip))
(.seq (.reg none [⟨some 4, .mv (.lit (.int .i64 0)), none, []⟩])
.ret)))))))) }
theorem c24 : cFunc Try.prog 24 = some f24 := by kernel_rfl
/-- slices.insertionSortCmpFunc[palinode/api.Interval] -/
def f25 : SFunc := { ntmps := 53, results := [], body :=
(.seq (.reg none [⟨some 10, .mv (.tmp 1), none, []⟩,
 ⟨some 11, .bin .add .int (.tmp 10) (.lit (.int .i64 1)), none, [0]⟩,
 ⟨some 8, .mv (.tmp 11), none, [1, 0, 1]⟩])
(.block 0 (.loop (.seq (.seq (.reg none [⟨some 12, .mv (.tmp 8), none, []⟩,
 ⟨some 13, .mv (.tmp 2), none, []⟩,
 ⟨some 14, .bin .lss .int (.tmp 12) (.tmp 13), none, [0, 1]⟩])
(.cond (.tmp 14) .skip (.exit 0)))
(.seq (.block 1 (.seq (.reg none [⟨some 17, .mv (.tmp 8), none, []⟩,
 ⟨some 9, .mv (.tmp 17), none, [0, 0]⟩])
(.block 2 (.loop (.seq (.seq (.reg (some [0, 0, 3, 7, 15, 15, 15, 111, 239, 15, 15, 1039, 3599, 7695, 16383, 32767, 65535]) [⟨some 18, .mv (.tmp 9), none, []⟩,
 ⟨some 19, .mv (.tmp 1), none, []⟩,
 ⟨some 20, .bin .gtr .int (.tmp 18) (.tmp 19), none, [0, 1]⟩,
 ⟨some 21, .mv (.tmp 20), none, [2]⟩,
 ⟨some 22, .mv (.tmp 3), some (21, true), [3]⟩,
 ⟨some 23, .mv (.tmp 0), some (21, true), [3]⟩,
 ⟨some 24, .mv (.tmp 9), some (21, true), [3]⟩,
 ⟨some 25, .idxA 2 (.tmp 23) (.tmp 24), some (21, true), [5, 6, 3]⟩,
 ⟨some 26, .load (some 2) (.tmp 25), some (21, true), [7, 3]⟩,
 ⟨some 27, .mv (.tmp 0), some (21, true), [3]⟩,
 ⟨some 28, .mv (.tmp 9), some (21, true), [3]⟩,
 ⟨some 29, .bin .sub .int (.tmp 28) (.lit (.int .i64 1)), some (21, true), [10, 3]⟩,
 ⟨some 30, .idxA 2 (.tmp 27) (.tmp 29), some (21, true), [9, 11, 3]⟩,
 ⟨some 31, .load (some 2) (.tmp 30), some (21, true), [12, 3]⟩,
 ⟨some 32, .call (.tmp 22) [(.tmp 26), (.tmp 31)], some (21, true), [4, 8, 13, 3, 3]⟩,
 ⟨some 33, .bin .lss .int (.tmp 32) (.lit (.int .i64 0)), some (21, true), [14, 3]⟩,
 ⟨some 34, .pick (.tmp 21) (.tmp 33) (.lit (.bool false)), none, [3, 15]⟩])
(.cond (.tmp 34) .skip (.exit 2)))
(.seq (.block 3 (.reg (some [0, 0, 0, 0, 8, 0, 0, 64, 224, 480, 0, 0, 3072, 7168, 16355, 32739, 65535, 131071]) [⟨some 37, .mv (.tmp 0), none, []⟩,
 ⟨some 38, .mv (.tmp 9), none, []⟩,
 ⟨some 39, .mv (.tmp 0), none, []⟩,
 ⟨some 40, .mv (.tmp 9), none, []⟩,
 ⟨some 41, .bin .sub .int (.tmp 40) (.lit (.int .i64 1)), none, [3]⟩,
 ⟨some 42, .mv (.tmp 0), none, []⟩,
 ⟨some 43, .mv (.tmp 9), none, []⟩,
 ⟨some 44, .bin .sub .int (.tmp 43) (.lit (.int .i64 1)), none, [6]⟩,
 ⟨some 45, .idxA 2 (.tmp 42) (.tmp 44), none, [5, 7]⟩,
 ⟨some 46, .load (some 2) (.tmp 45), none, [8]⟩,
 ⟨some 47, .mv (.tmp 0), none, []⟩,
 ⟨some 48, .mv (.tmp 9), none, []⟩,
 ⟨some 49, .idxA 2 (.tmp 47) (.tmp 48), none, [10, 11]⟩,
 ⟨some 50, .load (some 2) (.tmp 49), none, [12]⟩,
 ⟨some 51, .idxA 2 (.tmp 37) (.tmp 38), none, [0, 1, 0, 1, 5, 6, 7, 8, 9, 13]⟩,
 ⟨none, .store 2 (.tmp 51) (.tmp 46), none, [14, 9, 0, 1, 5, 6, 7, 8, 9, 13]⟩,
 ⟨some 52, .idxA 2 (.tmp 39) (.tmp 41), none, [2, 4, 0, 1, 2, 3, 4, 5, 6, 7, 8, 9, 10, 11, 12, 13, 14, 15]⟩,
 ⟨none, .store 2 (.tmp 52) (.tmp 50), none, [16, 13, 15, 0, 1, 2, 3, 4, 5, 6, 7, 8, 9, 10, 11, 12, 13, 14, 15]⟩]))
(.reg none [⟨some 35, .mv (.tmp 9), none, []⟩,
 ⟨some 36, .bin .sub .int (.tmp 35) (.lit (.int .i64 1)), none, [0]⟩,
 ⟨some 9, .mv (.tmp 36), none, [1, 0, 1]⟩])))))))
(.reg none [⟨some 15, .mv (.tmp 8), none, []⟩,
 ⟨some 16, .bin .add .int (.tmp 15) (.lit (.int .i64 1)), none, [0]⟩,
 ⟨some 8, .mv (.tmp 16), none, [1, 0, 1]⟩])))))) }
theorem c25 : cFunc Try.prog 25 = some f25 := by kernel_rfl
/-- slices.heapSortCmpFunc[palinode/api.Interval] -/
def f26 : SFunc := { ntmps := 60, results := [], body :=
(.seq (.reg none [⟨some 13, .mv (.tmp 1), none, []⟩,
 ⟨some 8, .mv (.tmp 13), none, [0, 0]⟩])
(.seq (.reg none [⟨some 9, .mv (.lit (.int .i64 0)), none, []⟩])
(.seq (.reg none [⟨some 14, .mv (.tmp 2), none, []⟩,
 ⟨some 15, .mv (.tmp 1), none, []⟩,
 ⟨some 16, .bin .sub .int (.tmp 14) (.tmp 15), none, [0, 1]⟩,
 ⟨some 10, .mv (.tmp 16), none, [2, 0, 1, 2]⟩])
(.seq (.seq (.reg none [⟨some 17, .mv (.tmp 10), none, []⟩,
 ⟨some 18, .bin .sub .int (.tmp 17) (.lit (.int .i64 1)), none, [0]⟩,
 ⟨some 19, .bin .quo .int (.tmp 18) (.lit (.int .i64 2)), none, [1]⟩,
 ⟨some 11, .mv (.tmp 19), none, [2, 0, 1, 2]⟩])
(.block 0 (.loop (.seq (.seq (.reg none [⟨some 20, .mv (.tmp 11), none, []⟩,
 ⟨some 21, .bin .geq .int (.tmp 20) (.lit (.int .i64 0)), none, [0]⟩])
(.cond (.tmp 21) .skip (.exit 0)))
(.seq (.block 1 (.reg none [⟨some 24, .mv (.tmp 0), none, []⟩,
 ⟨some 25, .mv (.tmp 11), none, []⟩,
 ⟨some 26, .mv (.tmp 10), none, []⟩,
 ⟨some 27, .mv (.tmp 8), none, []⟩,
 ⟨some 28, .mv (.tmp 3), none, []⟩,
 ⟨some 29, .call (.lit (.fn 36 [])) [(.tmp 24), (.tmp 25), (.tmp 26), (.tmp 27), (.tmp 28)], none, [0, 1, 2, 3, 4]⟩]))
(.reg none [⟨some 22, .mv (.tmp 11), none, []⟩,
 ⟨some 23, .bin .sub .int (.tmp 22) (.lit (.int .i64 1)), none, [0]⟩,
 ⟨some 11, .mv (.tmp 23), none, [1, 0, 1]⟩]))))))
(.seq (.reg none [⟨some 30, .mv (.tmp 10), none, []⟩,
 ⟨some 31, .bin .sub .int (.tmp 30) (.lit (.int .i64 1)), none, [0]⟩,
 ⟨some 12, .mv (.tmp 31), none, [1, 0, 1]⟩])
(.block 2 (.loop (.seq (.seq (.reg none [⟨some 32, .mv (.tmp 12), none, []⟩,
 ⟨some 33, .bin .geq .int (.tmp 32) (.lit (.int .i64 0)), none, [0]⟩])
(.cond (.tmp 33) .skip (.exit 2)))
(.seq (.block 3 (.seq (.reg (some [0, 0, 0, 0, 0, 24, 0, 0, 0, 384, 960, 1984, 0, 0, 12288, 28672, 65475, 131011, 262143, 524287]) [⟨some 36, .mv (.tmp 0), none, []⟩,
 ⟨some 37, .mv (.tmp 8), none, []⟩,
 ⟨some 38, .mv (.tmp 0), none, []⟩,
 ⟨some 39, .mv (.tmp 8), none, []⟩,
 ⟨some 40, .mv (.tmp 12), none, []⟩,
 ⟨some 41, .bin .add .int (.tmp 39) (.tmp 40), none, [3, 4]⟩,
 ⟨some 42, .mv (.tmp 0), none, []⟩,
 ⟨some 43, .mv (.tmp 8), none, []⟩,
 ⟨some 44, .mv (.tmp 12), none, []⟩,
 ⟨some 45, .bin .add .int (.tmp 43) (.tmp 44), none, [7, 8]⟩,
 ⟨some 46, .idxA 2 (.tmp 42) (.tmp 45), none, [6, 9]⟩,
 ⟨some 47, .load (some 2) (.tmp 46), none, [10]⟩,
 ⟨some 48, .mv (.tmp 0), none, []⟩,
 ⟨some 49, .mv (.tmp 8), none, []⟩,
 ⟨some 50, .idxA 2 (.tmp 48) (.tmp 49), none, [12, 13]⟩,
 ⟨some 51, .load (some 2) (.tmp 50), none, [14]⟩,
 ⟨some 52, .idxA 2 (.tmp 36) (.tmp 37), none, [0, 1, 0, 1, 6, 7, 8, 9, 10, 11, 15]⟩,
 ⟨none, .store 2 (.tmp 52) (.tmp 47), none, [16, 11, 0, 1, 6, 7, 8, 9, 10, 11, 15]⟩,
 ⟨some 53, .idxA 2 (.tmp 38) (.tmp 41), none, [2, 5, 0, 1, 2, 3, 4, 5, 6, 7, 8, 9, 10, 11, 12, 13, 14, 15, 16, 17]⟩,
 ⟨none, .store 2 (.tmp 53) (.tmp 51), none, [18, 15, 17, 0, 1, 2, 3, 4, 5, 6, 7, 8, 9, 10, 11, 12, 13, 14, 15, 16, 17]⟩])
(.reg none [⟨some 54, .mv (.tmp 0), none, []⟩,
 ⟨some 55, .mv (.tmp 9), none, []⟩,
 ⟨some 56, .mv (.tmp 12), none, []⟩,
 ⟨some 57, .mv (.tmp 8), none, []⟩,
 ⟨some 58, .mv (.tmp 3), none, []⟩,
 ⟨some 59, .call (.lit (.fn 36 [])) [(.tmp 54), (.tmp 55), (.tmp 56), (.tmp 57), (.tmp 58)], none, [0, 1, 2, 3, 4]⟩])))
(.reg none [⟨some 34, .mv (.tmp 12), none, []⟩,
 ⟨some 35, .bin .sub .int (.tmp 34) (.lit (.int .i64 1)), none, [0]⟩,
 ⟨some 12, .mv (.tmp 35), none, [1, 0, 1]⟩])))))))))) }
theorem c26 : cFunc Try.prog 26 = some f26 := by kernel_rfl
/-- slices.breakPatternsCmpFunc[palinode/api.Interval] -/
def f27 : SFunc := { ntmps := 67, results := [], body :=
(.seq (.reg none [⟨some 13, .mv (.tmp 2), none, []⟩,
 ⟨some 14, .mv (.tmp 1), none, []⟩,
 ⟨some 15, .bin .sub .int (.tmp 13) (.tmp 14), none, [0, 1]⟩,
 ⟨some 8, .mv (.tmp 15), none, [2, 0, 1, 2]⟩])
(.seq (.reg none [⟨some 16, .mv (.tmp 8), none, []⟩,
 ⟨some 17, .bin .geq .int (.tmp 16) (.lit (.int .i64 8)), none, [0]⟩])
(.cond (.tmp 17) (.seq (.reg none [⟨some 18, .mv (.tmp 8), none, []⟩,
 ⟨some 19, .cint .u64 (.tmp 18), none, [0]⟩,
 ⟨some 9, .alloc [(.int .u64 0)], none, []⟩,
 ⟨none, .store 1 (.tmp 9) (.tmp 19), none, [2, 1, 0, 1, 2]⟩])
(.seq (.reg none [⟨some 20, .mv (.tmp 8), none, []⟩,
 ⟨some 21, .call (.lit (.fn 37 [])) [(.tmp 20)], none, [0]⟩,
 ⟨some 10, .mv (.tmp 21), none, [1, 1, 0, 1]⟩])
(.seq (.reg none [⟨some 22, .mv (.tmp 1), none, []⟩,
 ⟨some 23, .mv (.tmp 8), none, []⟩,
 ⟨some 24, .bin .quo .int (.tmp 23) (.lit (.int .i64 4)), none, [1]⟩,
 ⟨some 25, .bin .mul .int (.tmp 24) (.lit (.int .i64 2)), none, [2]⟩,
 ⟨some 26, .bin .add .int (.tmp 22) (.tmp 25), none, [0, 3]⟩,
 ⟨some 27, .bin .sub .int (.tmp 26) (.lit (.int .i64 1)), none, [4]⟩,
 ⟨some 11, .mv (.tmp 27), none, [5, 0, 1, 2, 3, 4, 5]⟩])
(.block 0 (.loop (.seq (.seq (.reg none [⟨some 28, .mv (.tmp 11), none, []⟩,
 ⟨some 29, .mv (.tmp 1), none, []⟩,
 ⟨some 30, .mv (.tmp 8), none, []⟩,
 ⟨some 31, .bin .quo .int (.tmp 30) (.lit (.int .i64 4)), none, [2]⟩,
 ⟨some 32, .bin .mul .int (.tmp 31) (.lit (.int .i64 2)), none, [3]⟩,
 ⟨some 33, .bin .add .int (.tmp 29) (.tmp 32), none, [1, 4]⟩,
 ⟨some 34, .bin .add .int (.tmp 33) (.lit (.int .i64 1)), none, [5]⟩,
 ⟨some 35, .bin .leq .int (.tmp 28) (.tmp 34), none, [0, 6]⟩])
(.cond (.tmp 35) .skip (.exit 0)))
(.seq (.block 1 (.seq (.reg none [⟨some 38, .call (.lit (.fn 38 [])) [(.tmp 9)], none, []⟩,
 ⟨some 39, .mv (.tmp 10), none, []⟩,
 ⟨some 40, .bin .sub .int (.tmp 39) (.lit (.int .u64 1)), none, [1]⟩,
 ⟨some 41, .bin .and .int (.tmp 38) (.tmp 40), none, [0, 2]⟩,
 ⟨some 42, .cint .i64 (.tmp 41), none, [3]⟩,
 ⟨some 12, .mv (.tmp 42), none, [4, 0, 0, 1, 2, 3, 4]⟩])
(.seq (.seq (.reg none [⟨some 43, .mv (.tmp 12), none, []⟩,
 ⟨some 44, .mv (.tmp 8), none, []⟩,
 ⟨some 45, .bin .geq .int (.tmp 43) (.tmp 44), none, [0, 1]⟩])
(.cond (.tmp 45) (.reg none [⟨some 46, .mv (.tmp 12), none, []⟩,
 ⟨some 47, .mv (.tmp 8), none, []⟩,
 ⟨some 48, .bin .sub .int (.tmp 46) (.tmp 47), none, [0, 1]⟩,
 ⟨some 12, .mv (.tmp 48), none, [2, 0, 1, 2]⟩]) .skip))
(.reg (some [0, 0, 0, 0, 0, 24, 0, 0, 0, 384, 960, 1984, 0, 0, 12288, 28672, 65475, 131011, 262143, 524287]) [⟨some 49, .mv (.tmp 0), none, []⟩,
 ⟨some 50, .mv (.tmp 11), none, []⟩,
 ⟨some 51, .mv (.tmp 0), none, []⟩,
 ⟨some 52, .mv (.tmp 1), none, []⟩,
 ⟨some 53, .mv (.tmp 12), none, []⟩,
 ⟨some 54, .bin .add .int (.tmp 52) (.tmp 53), none, [3, 4]⟩,
 ⟨some 55, .mv (.tmp 0), none, []⟩,
 ⟨some 56, .mv (.tmp 1), none, []⟩,
 ⟨some 57, .mv (.tmp 12), none, []⟩,
 ⟨some 58, .bin .add .int (.tmp 56) (.tmp 57), none, [7, 8]⟩,
 ⟨some 59, .idxA 2 (.tmp 55) (.tmp 58), none, [6, 9]⟩,
 ⟨some 60, .load (some 2) (.tmp 59), none, [10]⟩,
 ⟨some 61, .mv (.tmp 0), none, []⟩,
 ⟨some 62, .mv (.tmp 11), none, []⟩,
 ⟨some 63, .idxA 2 (.tmp 61) (.tmp 62), none, [12, 13]⟩,
 ⟨some 64, .load (some 2) (.tmp 63), none, [14]⟩,
 ⟨some 65, .idxA 2 (.tmp 49) (.tmp 50), none, [0, 1, 0, 1, 6, 7, 8, 9, 10, 11, 15]⟩,
 ⟨none, .store 2 (.tmp 65) (.tmp 60), none, [16, 11, 0, 1, 6, 7, 8, 9, 10, 11, 15]⟩,
 ⟨some 66, .idxA 2 (.tmp 51) (.tmp 54), none, [2, 5, 0, 1, 2, 3, 4, 5, 6, 7, 8, 9, 10, 11, 12, 13, 14, 15, 16, 17]⟩,
 ⟨none, .store 2 (.tmp 66) (.tmp 64), none, [18, 15, 17, 0, 1, 2, 3, 4, 5, 6, 7, 8, 9, 10, 11, 12, 13, 14, 15, 16, 17]⟩]))))
(.reg none [⟨some 36, .mv (.tmp 11), none, []⟩,
 ⟨some 37, .bin .add .int (.tmp 36) (.lit (.int .i64 1)), none, [0]⟩,
 ⟨some 11, .mv (.tmp 37), none, [1, 0, 1]⟩])))))))) .skip))) }
theorem c27 : cFunc Try.prog 27 = some f27 := by kernel_rfl
/-- slices.choosePivotCmpFunc[palinode/api.Interval] -/
def f28 : SFunc := { ntmps := 63, results := [.tmp 8, .tmp 9], body :=
(.seq (.reg none [⟨some 8, .mv (.lit (.int .i64 0)), none, []⟩,
 ⟨some 9, .mv (.lit (.int .i64 0)), none, [0]⟩])
(.seq (.reg none [⟨some 15, .mv (.tmp 2), none, []⟩,
 ⟨some 16, .mv (.tmp 1), none, []⟩,
 ⟨some 17, .bin .sub .int (.tmp 15) (.tmp 16), none, [0, 1]⟩,
 ⟨some 10, .mv (.tmp 17), none, [2, 0, 1, 2]⟩])
(.seq (.reg none [⟨some 11, .alloc [(.int .i64 0)], none, []⟩])
(.seq (.reg none [⟨some 18, .mv (.tmp 1), none, []⟩,
 ⟨some 19, .mv (.tmp 10), none, []⟩,
 ⟨some 20, .bin .quo .int (.tmp 19) (.lit (.int .i64 4)), none, [1]⟩,
 ⟨some 21, .bin .mul .int (.tmp 20) (.lit (.int .i64 1)), none, [2]⟩,
 ⟨some 22, .bin .add .int (.tmp 18) (.tmp 21), none, [0, 3]⟩,
 ⟨some 12, .mv (.tmp 22), none, [4, 0, 1, 2, 3, 4]⟩])
(.seq (.reg none [⟨some 23, .mv (.tmp 1), none, []⟩,
 ⟨some 24, .mv (.tmp 10), none, []⟩,
 ⟨some 25, .bin .quo .int (.tmp 24) (.lit (.int .i64 4)), none, [1]⟩,
 ⟨some 26, .bin .mul .int (.tmp 25) (.lit (.int .i64 2)), none, [2]⟩,
 ⟨some 27, .bin .add .int (.tmp 23) (.tmp 26), none, [0, 3]⟩,
 ⟨some 13, .mv (.tmp 27), none, [4, 0, 1, 2, 3, 4]⟩])
(.seq (.reg none [⟨some 28, .mv (.tmp 1), none, []⟩,
 ⟨some 29, .mv (.tmp 10), none, []⟩,
 ⟨some 30, .bin .quo .int (.tmp 29) (.lit (.int .i64 4)), none, [1]⟩,
 ⟨some 31, .bin .mul .int (.tmp 30) (.lit (.int .i64 3)), none, [2]⟩,
 ⟨some 32, .bin .add .int (.tmp 28) (.tmp 31), none, [0, 3]⟩,
 ⟨some 14, .mv (.tmp 32), none, [4, 0, 1, 2, 3, 4]⟩])
(.seq (.seq (.reg none [⟨some 33, .mv (.tmp 10), none, []⟩,
 ⟨some 34, .bin .geq .int (.tmp 33) (.lit (.int .i64 8)), none, [0]⟩])
(.cond (.tmp 34) (.seq (.seq (.reg none [⟨some 35, .mv (.tmp 10), none, []⟩,
 ⟨some 36, .bin .geq .int (.tmp 35) (.lit (.int .i64 50)), none, [0]⟩])
(.cond (.tmp 36) (.seq (.reg none [⟨some 37, .mv (.tmp 0), none, []⟩,
 ⟨some 38, .mv (.tmp 12), none, []⟩,
 ⟨some 39, .mv (.tmp 3), none, []⟩,
 ⟨some 40, .call (.lit (.fn 39 [])) [(.tmp 37), (.tmp 38), (.tmp 11), (.tmp 39)], none, [0, 1, 2]⟩,
 ⟨some 12, .mv (.tmp 40), none, [3, 3, 0, 1, 2, 3]⟩])
(.seq (.reg none [⟨some 41, .mv (.tmp 0), none, []⟩,
 ⟨some 42, .mv (.tmp 13), none, []⟩,
 ⟨some 43, .mv (.tmp 3), none, []⟩,
 ⟨some 44, .call (.lit (.fn 39 [])) [(.tmp 41), (.tmp 42), (.tmp 11), (.tmp 43)], none, [0, 1, 2]⟩,
 ⟨some 13, .mv (.tmp 44), none, [3, 3, 0, 1, 2, 3]⟩])
(.reg none [⟨some 45, .mv (.tmp 0), none, []⟩,
 ⟨some 46, .mv (.tmp 14), none, []⟩,
 ⟨some 47, .mv (.tmp 3), none, []⟩,
 ⟨some 48, .call (.lit (.fn 39 [])) [(.tmp 45), (.tmp 46), (.tmp 11), (.tmp 47)], none, [0, 1, 2]⟩,
 ⟨some 14, .mv (.tmp 48), none, [3, 3, 0, 1, 2, 3]⟩]))) .skip))
(.reg none [⟨some 49, .mv (.tmp 0), none, []⟩,
 ⟨some 50, .mv (.tmp 12), none, []⟩,
 ⟨some 51, .mv (.tmp 13), none, []⟩,
 ⟨some 52, .mv (.tmp 14), none, []⟩,
 ⟨some 53, .mv (.tmp 3), none, []⟩,
 ⟨some 54, .call (.lit (.fn 40 [])) [(.tmp 49), (.tmp 50), (.tmp 51), (.tmp 52), (.tmp 11), (.tmp 53)], none, [0, 1, 2, 3, 4]⟩,
 ⟨some 13, .mv (.tmp 54), none, [5, 5, 0, 1, 2, 3, 4, 5]⟩])) .skip))
(.seq (.reg none [⟨some 55, .load none (.tmp 11), none, []⟩])
(.block 0 (.seq (.reg none [⟨some 58, .bin .eql .int (.tmp 55) (.lit (.int .i64 0)), none, []⟩,
 ⟨some 57, .mv (.tmp 58), none, [0]⟩])
(.cond (.tmp 57) (.seq (.reg none [⟨some 59, .mv (.tmp 13), none, []⟩,
 ⟨some 8, .mv (.tmp 59), none, [0, 0]⟩,
 ⟨some 9, .mv (.lit (.int .i64 1)), none, [1, 0, 1]⟩])
.ret) (.seq (.reg none [⟨some 61, .bin .eql .int (.tmp 55) (.lit (.int .i64 12)), none, []⟩,
 ⟨some 60, .mv (.tmp 61), none, [0]⟩])
(.cond (.tmp 60) (.seq (.reg none [⟨some 62, .mv (.tmp 13), none, []⟩,
 ⟨some 8, .mv (.tmp 62), none, [0, 0]⟩,
 ⟨some 9, .mv (.lit (.int .i64 2)), none, [1, 0, 1]⟩])
.ret) (.seq (.reg none [⟨some 56, .mv (.tmp 13), none, []⟩,
 ⟨some 8, .mv (.tmp 56), none, [0, 0]⟩,
 ⟨some 9, .mv (.lit (.int .i64 0)), none, [1, 0, 1]⟩])
.ret)))))))))))))) }
theorem c28 : cFunc Try.prog 28 = some f28 := by kernel_rfl
/-- slices.reverseRangeCmpFunc[palinode/api.Interval] -/
def f29 : SFunc := { ntmps := 34, results := [], body :=
(.seq (.reg none [⟨some 10, .mv (.tmp 1), none, []⟩,
 ⟨some 8, .mv (.tmp 10), none, [0, 0]⟩])
(.seq (.reg none [⟨some 11, .mv (.tmp 2), none, []⟩,
 ⟨some 12, .bin .sub .int (.tmp 11) (.lit (.int .i64 1)), none, [0]⟩,
 ⟨some 9, .mv (.tmp 12), none, [1, 0, 1]⟩])
(.block 0 (.loop (.seq (.seq (.reg none [⟨some 13, .mv (.tmp 8), none, []⟩,
 ⟨some 14, .mv (.tmp 9), none, []⟩,
 ⟨some 15, .bin .lss .int (.tmp 13) (.tmp 14), none, [0, 1]⟩])
(.cond (.tmp 15) .skip (.exit 0)))
(.block 1 (.seq (.reg (some [0, 0, 0, 0, 0, 0, 48, 112, 0, 0, 768, 1792, 4083, 8179, 16383, 32767]) [⟨some 16, .mv (.tmp 0), none, []⟩,
 ⟨some 17, .mv (.tmp 8), none, []⟩,
 ⟨some 18, .mv (.tmp 0), none, []⟩,
 ⟨some 19, .mv (.tmp 9), none, []⟩,
 ⟨some 20, .mv (.tmp 0), none, []⟩,
 ⟨some 21, .mv (.tmp 9), none, []⟩,
 ⟨some 22, .idxA 2 (.tmp 20) (.tmp 21), none, [4, 5]⟩,
 ⟨some 23, .load (some 2) (.tmp 22), none, [6]⟩,
 ⟨some 24, .mv (.tmp 0), none, []⟩,
 ⟨some 25, .mv (.tmp 8), none, []⟩,
 ⟨some 26, .idxA 2 (.tmp 24) (.tmp 25), none, [8, 9]⟩,
 ⟨some 27, .load (some 2) (.tmp 26), none, [10]⟩,
 ⟨some 28, .idxA 2 (.tmp 16) (.tmp 17), none, [0, 1, 0, 1, 4, 5, 6, 7, 11]⟩,
 ⟨none, .store 2 (.tmp 28) (.tmp 23), none, [12, 7, 0, 1, 4, 5, 6, 7, 11]⟩,
 ⟨some 29, .idxA 2 (.tmp 18) (.tmp 19), none, [2, 3, 0, 1, 2, 3, 4, 5, 6, 7, 8, 9, 10, 11, 12, 13]⟩,
 ⟨none, .store 2 (.tmp 29) (.tmp 27), none, [14, 11, 13, 0, 1, 2, 3, 4, 5, 6, 7, 8, 9, 10, 11, 12, 13]⟩])
(.seq (.reg none [⟨some 30, .mv (.tmp 8), none, []⟩,
 ⟨some 31, .bin .add .int (.tmp 30) (.lit (.int .i64 1)), none, [0]⟩,
 ⟨some 8, .mv (.tmp 31), none, [1, 0, 1]⟩])
(.reg none [⟨some 32, .mv (.tmp 9), none, []⟩,
 ⟨some 33, .bin .sub .int (.tmp 32) (.lit (.int .i64 1)), none, [0]⟩,
 ⟨some 9, .mv (.tmp 33), none, [1, 0, 1]⟩]))))))))) }
theorem c29 : cFunc Try.prog 29 = some f29 := by kernel_rfl
/-- slices.partialInsertionSortCmpFunc[palinode/api.Interval] -/
def f30 : SFunc := { ntmps := 141, results := [.tmp 8], body :=
(.seq (.reg none [⟨some 8, .mv (.lit (.bool false)), none, []⟩])
(.seq (.reg none [⟨some 13, .mv (.tmp 1), none, []⟩,
 ⟨some 14, .bin .add .int (.tmp 13) (.lit (.int .i64 1)), none, [0]⟩,
 ⟨some 9, .mv (.tmp 14), none, [1, 0, 1]⟩])
(.seq (.seq (.reg none [⟨some 10, .mv (.lit (.int .i64 0)), none, []⟩])
(.block 0 (.loop (.seq (.seq (.reg none [⟨some 15, .mv (.tmp 10), none, []⟩,
 ⟨some 16, .bin .lss .int (.tmp 15) (.lit (.int .i64 5)), none, [0]⟩])
(.cond (.tmp 16) .skip (.exit 0)))
(.seq (.block 1 (.seq (.block 2 (.loop (.seq (.seq (.reg (some [0, 0, 3, 7, 15, 15, 15, 111, 239, 15, 15, 1039, 3599, 7695, 16383, 32767, 65535, 131071]) [⟨some 19, .mv (.tmp 9), none, []⟩,
 ⟨some 20, .mv (.tmp 2), none, []⟩,
 ⟨some 21, .bin .lss .int (.tmp 19) (.tmp 20), none, [0, 1]⟩,
 ⟨some 22, .mv (.tmp 21), none, [2]⟩,
 ⟨some 23, .mv (.tmp 3), some (22, true), [3]⟩,
 ⟨some 24, .mv (.tmp 0), some (22, true), [3]⟩,
 ⟨some 25, .mv (.tmp 9), some (22, true), [3]⟩,
 ⟨some 26, .idxA 2 (.tmp 24) (.tmp 25), some (22, true), [5, 6, 3]⟩,
 ⟨some 27, .load (some 2) (.tmp 26), some (22, true), [7, 3]⟩,
 ⟨some 28, .mv (.tmp 0), some (22, true), [3]⟩,
 ⟨some 29, .mv (.tmp 9), some (22, true), [3]⟩,
 ⟨some 30, .bin .sub .int (.tmp 29) (.lit (.int .i64 1)), some (22, true), [10, 3]⟩,
 ⟨some 31, .idxA 2 (.tmp 28) (.tmp 30), some (22, true), [9, 11, 3]⟩,
 ⟨some 32, .load (some 2) (.tmp 31), some (22, true), [12, 3]⟩,
 ⟨some 33, .call (.tmp 23) [(.tmp 27), (.tmp 32)], some (22, true), [4, 8, 13, 3, 3]⟩,
 ⟨some 34, .bin .lss .int (.tmp 33) (.lit (.int .i64 0)), some (22, true), [14, 3]⟩,
 ⟨some 35, .not (.tmp 34), some (22, true), [15, 3]⟩,
 ⟨some 36, .pick (.tmp 22) (.tmp 35) (.lit (.bool false)), none, [3, 16]⟩])
(.cond (.tmp 36) .skip (.exit 2)))
(.block 3 (.reg none [⟨some 37, .mv (.tmp 9), none, []⟩,
 ⟨some 38, .bin .add .int (.tmp 37) (.lit (.int .i64 1)), none, [0]⟩,
 ⟨some 9, .mv (.tmp 38), none, [1, 0, 1]⟩])))))
(.seq (.seq (.reg none [⟨some 39, .mv (.tmp 9), none, []⟩,
 ⟨some 40, .mv (.tmp 2), none, []⟩,
 ⟨some 41, .bin .eql .int (.tmp 39) (.tmp 40), none, [0, 1]⟩])
(.cond (.tmp 41) (.seq (.reg none [⟨some 8, .mv (.lit (.bool true)), none, []⟩])
.ret) .skip))
(.seq (.seq (.reg none [⟨some 42, .mv (.tmp 2), none, []⟩,
 ⟨some 43, .mv (.tmp 1), none, []⟩,
 ⟨some 44, .bin .sub .int (.tmp 42) (.tmp 43), none, [0, 1]⟩,
 ⟨some 45, .bin .lss .int (.tmp 44) (.lit (.int .i64 50)), none, [2]⟩])
(.cond (.tmp 45) (.seq (.reg none [⟨some 8, .mv (.lit (.bool false)), none, []⟩])
.ret) .skip))
(.seq (.reg (some [0, 0, 0, 0, 8, 0, 0, 64, 224, 480, 0, 0, 3072, 7168, 16355, 32739, 65535, 131071]) [⟨some 46, .mv (.tmp 0), none, []⟩,
 ⟨some 47, .mv (.tmp 9), none, []⟩,
 ⟨some 48, .mv (.tmp 0), none, []⟩,
 ⟨some 49, .mv (.tmp 9), none, []⟩,
 ⟨some 50, .bin .sub .int (.tmp 49) (.lit (.int .i64 1)), none, [3]⟩,
 ⟨some 51, .mv (.tmp 0), none, []⟩,
 ⟨some 52, .mv (.tmp 9), none, []⟩,
 ⟨some 53, .bin .sub .int (.tmp 52) (.lit (.int .i64 1)), none, [6]⟩,
 ⟨some 54, .idxA 2 (.tmp 51) (.tmp 53), none, [5, 7]⟩,
 ⟨some 55, .load (some 2) (.tmp 54), none, [8]⟩,
 ⟨some 56, .mv (.tmp 0), none, []⟩,
 ⟨some 57, .mv (.tmp 9), none, []⟩,
 ⟨some 58, .idxA 2 (.tmp 56) (.tmp 57), none, [10, 11]⟩,
 ⟨some 59, .load (some 2) (.tmp 58), none, [12]⟩,
 ⟨some 60, .idxA 2 (.tmp 46) (.tmp 47), none, [0, 1, 0, 1, 5, 6, 7, 8, 9, 13]⟩,
 ⟨none, .store 2 (.tmp 60) (.tmp 55), none, [14, 9, 0, 1, 5, 6, 7, 8, 9, 13]⟩,
 ⟨some 61, .idxA 2 (.tmp 48) (.tmp 50), none, [2, 4, 0, 1, 2, 3, 4, 5, 6, 7, 8, 9, 10, 11, 12, 13, 14, 15]⟩,
 ⟨none, .store 2 (.tmp 61) (.tmp 59), none, [16, 13, 15, 0, 1, 2, 3, 4, 5, 6, 7, 8, 9, 10, 11, 12, 13, 14, 15]⟩])
(.seq (.seq (.reg none [⟨some 62, .mv (.tmp 9), none, []⟩,
 ⟨some 63, .mv (.tmp 1), none, []⟩,
 ⟨some 64, .bin .sub .int (.tmp 62) (.tmp 63), none, [0, 1]⟩,
 ⟨some 65, .bin .geq .int (.tmp 64) (.lit (.int .i64 2)), none, [2]⟩])
(.cond (.tmp 65) (.seq (.reg none [⟨some 66, .mv (.tmp 9), none, []⟩,
 ⟨some 67, .bin .sub .int (.tmp 66) (.lit (.int .i64 1)), none, [0]⟩,
 ⟨some 11, .mv (.tmp 67), none, [1, 0, 1]⟩])
(.block 4 (.loop (.seq (.seq (.reg none [⟨some 68, .mv (.tmp 11), none, []⟩,
 ⟨some 69, .bin .geq .int (.tmp 68) (.lit (.int .i64 1)), none, [0]⟩])
(.cond (.tmp 69) .skip (.exit 4)))
(.seq (.block 5 (.seq (.seq (.reg (some [0, 0, 0, 6, 14, 0, 0, 64, 224, 480, 1023, 2047, 4095]) [⟨some 72, .mv (.tmp 3), none, []⟩,
 ⟨some 73, .mv (.tmp 0), none, []⟩,
 ⟨some 74, .mv (.tmp 11), none, []⟩,
 ⟨some 75, .idxA 2 (.tmp 73) (.tmp 74), none, [1, 2]⟩,
 ⟨some 76, .load (some 2) (.tmp 75), none, [3]⟩,
 ⟨some 77, .mv (.tmp 0), none, []⟩,
 ⟨some 78, .mv (.tmp 11), none, []⟩,
 ⟨some 79, .bin .sub .int (.tmp 78) (.lit (.int .i64 1)), none, [6]⟩,
 ⟨some 80, .idxA 2 (.tmp 77) (.tmp 79), none, [5, 7]⟩,
 ⟨some 81, .load (some 2) (.tmp 80), none, [8]⟩,
 ⟨some 82, .call (.tmp 72) [(.tmp 76), (.tmp 81)], none, [0, 4, 9]⟩,
 ⟨some 83, .bin .lss .int (.tmp 82) (.lit (.int .i64 0)), none, [10]⟩,
 ⟨some 84, .not (.tmp 83), none, [11]⟩])
(.cond (.tmp 84) (.exit 4) .skip))
(.reg (some [0, 0, 0, 0, 8, 0, 0, 64, 224, 480, 0, 0, 3072, 7168, 16355, 32739, 65535, 131071]) [⟨some 85, .mv (.tmp 0), none, []⟩,
 ⟨some 86, .mv (.tmp 11), none, []⟩,
 ⟨some 87, .mv (.tmp 0), none, []⟩,
 ⟨some 88, .mv (.tmp 11), none, []⟩,
 ⟨some 89, .bin .sub .int (.tmp 88) (.lit (.int .i64 1)), none, [3]⟩,
 ⟨some 90, .mv (.tmp 0), none, []⟩,
 ⟨some 91, .mv (.tmp 11), none, []⟩,
 ⟨some 92, .bin .sub .int (.tmp 91) (.lit (.int .i64 1)), none, [6]⟩,
 ⟨some 93, .idxA 2 (.tmp 90) (.tmp 92), none, [5, 7]⟩,
 ⟨some 94, .load (some 2) (.tmp 93), none, [8]⟩,
 ⟨some 95, .mv (.tmp 0), none, []⟩,
 ⟨some 96, .mv (.tmp 11), none, []⟩,
 ⟨some 97, .idxA 2 (.tmp 95) (.tmp 96), none, [10, 11]⟩,
 ⟨some 98, .load (some 2) (.tmp 97), none, [12]⟩,
 ⟨some 99, .idxA 2 (.tmp 85) (.tmp 86), none, [0, 1, 0, 1, 5, 6, 7, 8, 9, 13]⟩,
 ⟨none, .store 2 (.tmp 99) (.tmp 94), none, [14, 9, 0, 1, 5, 6, 7, 8, 9, 13]⟩,
 ⟨some 100, .idxA 2 (.tmp 87) (.tmp 89), none, [2, 4, 0, 1, 2, 3, 4, 5, 6, 7, 8, 9, 10, 11, 12, 13, 14, 15]⟩,
 ⟨none, .store 2 (.tmp 100) (.tmp 98), none, [16, 13, 15, 0, 1, 2, 3, 4, 5, 6, 7, 8, 9, 10, 11, 12, 13, 14, 15]⟩])))
(.reg none [⟨some 70, .mv (.tmp 11), none, []⟩,
 ⟨some 71, .bin .sub .int (.tmp 70) (.lit (.int .i64 1)), none, [0]⟩,
 ⟨some 11, .mv (.tmp 71), none, [1, 0, 1]⟩])))))) .skip))
(.seq (.reg none [⟨some 101, .mv (.tmp 2), none, []⟩,
 ⟨some 102, .mv (.tmp 9), none, []⟩,
 ⟨some 103, .bin .sub .int (.tmp 101) (.tmp 102), none, [0, 1]⟩,
 ⟨some 104, .bin .geq .int (.tmp 103) (.lit (.int .i64 2)), none, [2]⟩])
(.cond (.tmp 104) (.seq (.reg none [⟨some 105, .mv (.tmp 9), none, []⟩,
 ⟨some 106, .bin .add .int (.tmp 105) (.lit (.int .i64 1)), none, [0]⟩,
 ⟨some 12, .mv (.tmp 106), none, [1, 0, 1]⟩])
(.block 6 (.loop (.seq (.seq (.reg none [⟨some 107, .mv (.tmp 12), none, []⟩,
 ⟨some 108, .mv (.tmp 2), none, []⟩,
 ⟨some 109, .bin .lss .int (.tmp 107) (.tmp 108), none, [0, 1]⟩])
(.cond (.tmp 109) .skip (.exit 6)))
(.seq (.block 7 (.seq (.seq (.reg (some [0, 0, 0, 6, 14, 0, 0, 64, 224, 480, 1023, 2047, 4095]) [⟨some 112, .mv (.tmp 3), none, []⟩,
 ⟨some 113, .mv (.tmp 0), none, []⟩,
 ⟨some 114, .mv (.tmp 12), none, []⟩,
 ⟨some 115, .idxA 2 (.tmp 113) (.tmp 114), none, [1, 2]⟩,
 ⟨some 116, .load (some 2) (.tmp 115), none, [3]⟩,
 ⟨some 117, .mv (.tmp 0), none, []⟩,
 ⟨some 118, .mv (.tmp 12), none, []⟩,
 ⟨some 119, .bin .sub .int (.tmp 118) (.lit (.int .i64 1)), none, [6]⟩,
 ⟨some 120, .idxA 2 (.tmp 117) (.tmp 119), none, [5, 7]⟩,
 ⟨some 121, .load (some 2) (.tmp 120), none, [8]⟩,
 ⟨some 122, .call (.tmp 112) [(.tmp 116), (.tmp 121)], none, [0, 4, 9]⟩,
 ⟨some 123, .bin .lss .int (.tmp 122) (.lit (.int .i64 0)), none, [10]⟩,
 ⟨some 124, .not (.tmp 123), none, [11]⟩])
(.cond (.tmp 124) (.exit 6) .skip))
(.reg (some [0, 0, 0, 0, 8, 0, 0, 64, 224, 480, 0, 0, 3072, 7168, 16355, 32739, 65535, 131071]) [⟨some 125, .mv (.tmp 0), none, []⟩,
 ⟨some 126, .mv (.tmp 12), none, []⟩,
 ⟨some 127, .mv (.tmp 0), none, []⟩,
 ⟨some 128, .mv (.tmp 12), none, []⟩,
 ⟨some 129, .bin .sub .int (.tmp 128) (.lit (.int .i64 1)), none, [3]⟩,
 ⟨some 130, .mv (.tmp 0), none, []⟩,
 ⟨some 131, .mv (.tmp 12), none, []⟩,
 ⟨some 132, .bin .sub .int (.tmp 131) (.lit (.int .i64 1)), none, [6]⟩,
 ⟨some 133, .idxA 2 (.tmp 130) (.tmp 132), none, [5, 7]⟩,
 ⟨some 134, .load (some 2) (.tmp 133), none, [8]⟩,
 ⟨some 135, .mv (.tmp 0), none, []⟩,
 ⟨some 136, .mv (.tmp 12), none, []⟩,
 ⟨some 137, .idxA 2 (.tmp 135) (.tmp 136), none, [10, 11]⟩,
 ⟨some 138, .load (some 2) (.tmp 137), none, [12]⟩,
 ⟨some 139, .idxA 2 (.tmp 125) (.tmp 126), none, [0, 1, 0, 1, 5, 6, 7, 8, 9, 13]⟩,
 ⟨none, .store 2 (.tmp 139) (.tmp 134), none, [14, 9, 0, 1, 5, 6, 7, 8, 9, 13]⟩,
 ⟨some 140, .idxA 2 (.tmp 127) (.tmp 129), none, [2, 4, 0, 1, 2, 3, 4, 5, 6, 7, 8, 9, 10, 11, 12, 13, 14, 15]⟩,
 ⟨none, .store 2 (.tmp 140) (.tmp 138), none, [16, 13, 15, 0, 1, 2, 3, 4, 5, 6, 7, 8, 9, 10, 11, 12, 13, 14, 15]⟩])))
(.reg none [⟨some 110, .mv (.tmp 12), none, []⟩,
 ⟨some 111, .bin .add .int (.tmp 110) (.lit (.int .i64 1)), none, [0]⟩,
 ⟨some 12, .mv (.tmp 111), none, [1, 0, 1]⟩])))))) .skip))))))))
(.reg none [⟨some 17, .mv (.tmp 10), none, []⟩,
 ⟨some 18, .bin .add .int (.tmp 17) (.lit (.int .i64 1)), none, [0]⟩,
 ⟨some 10, .mv (.tmp 18), none, [1, 0, 1]⟩]))))))
(.seq (.reg none [⟨some 8, .mv (.lit (.bool false)), none, []⟩])
.ret)))) }
theorem c30 : cFunc Try.prog 30 = some f30 := by kernel_rfl
/-- slices.partitionEqualCmpFunc[palinode/api.Interval] -/
def f31 : SFunc := { ntmps := 90, results := [.tmp 10], body :=
(.seq (.reg none [⟨some 10, .mv (.lit (.int .i64 0)), none, []⟩])
(.seq (.reg (some [0, 0, 0, 0, 0, 0, 48, 112, 0, 0, 768, 1792, 4083, 8179, 16383, 32767]) [⟨some 13, .mv (.tmp 0), none, []⟩,
 ⟨some 14, .mv (.tmp 1), none, []⟩,
 ⟨some 15, .mv (.tmp 0), none, []⟩,
 ⟨some 16, .mv (.tmp 3), none, []⟩,
 ⟨some 17, .mv (.tmp 0), none, []⟩,
 ⟨some 18, .mv (.tmp 3), none, []⟩,
 ⟨some 19, .idxA 2 (.tmp 17) (.tmp 18), none, [4, 5]⟩,
 ⟨some 20, .load (some 2) (.tmp 19), none, [6]⟩,
 ⟨some 21, .mv (.tmp 0), none, []⟩,
 ⟨some 22, .mv (.tmp 1), none, []⟩,
 ⟨some 23, .idxA 2 (.tmp 21) (.tmp 22), none, [8, 9]⟩,
 ⟨some 24, .load (some 2) (.tmp 23), none, [10]⟩,
 ⟨some 25, .idxA 2 (.tmp 13) (.tmp 14), none, [0, 1, 0, 1, 4, 5, 6, 7, 11]⟩,
 ⟨none, .store 2 (.tmp 25) (.tmp 20), none, [12, 7, 0, 1, 4, 5, 6, 7, 11]⟩,
 ⟨some 26, .idxA 2 (.tmp 15) (.tmp 16), none, [2, 3, 0, 1, 2, 3, 4, 5, 6, 7, 8, 9, 10, 11, 12, 13]⟩,
 ⟨none, .store 2 (.tmp 26) (.tmp 24), none, [14, 11, 13, 0, 1, 2, 3, 4, 5, 6, 7, 8, 9, 10, 11, 12, 13]⟩])
(.seq (.reg none [⟨some 27, .mv (.tmp 1), none, []⟩,
 ⟨some 28, .bin .add .int (.tmp 27) (.lit (.int .i64 1)), none, [0]⟩,
 ⟨some 29, .mv (.tmp 2), none, []⟩,
 ⟨some 30, .bin .sub .int (.tmp 29) (.lit (.int .i64 1)), none, [2]⟩,
 ⟨some 11, .mv (.tmp 28), none, [1, 0, 1]⟩,
 ⟨some 12, .mv (.tmp 30), none, [3, 4, 0, 1, 2, 3, 4]⟩])
(.seq (.block 0 (.loop (.block 1 (.seq (.block 2 (.loop (.seq (.seq (.reg (some [0, 0, 3, 7, 15, 15, 15, 111, 239, 15, 15, 1551, 3599, 8191, 16383, 32767, 65535]) [⟨some 31, .mv (.tmp 11), none, []⟩,
 ⟨some 32, .mv (.tmp 12), none, []⟩,
 ⟨some 33, .bin .leq .int (.tmp 31) (.tmp 32), none, [0, 1]⟩,
 ⟨some 34, .mv (.tmp 33), none, [2]⟩,
 ⟨some 35, .mv (.tmp 4), some (34, true), [3]⟩,
 ⟨some 36, .mv (.tmp 0), some (34, true), [3]⟩,
 ⟨some 37, .mv (.tmp 1), some (34, true), [3]⟩,
 ⟨some 38, .idxA 2 (.tmp 36) (.tmp 37), some (34, true), [5, 6, 3]⟩,
 ⟨some 39, .load (some 2) (.tmp 38), some (34, true), [7, 3]⟩,
 ⟨some 40, .mv (.tmp 0), some (34, true), [3]⟩,
 ⟨some 41, .mv (.tmp 11), some (34, true), [3]⟩,
 ⟨some 42, .idxA 2 (.tmp 40) (.tmp 41), some (34, true), [9, 10, 3]⟩,
 ⟨some 43, .load (some 2) (.tmp 42), some (34, true), [11, 3]⟩,
 ⟨some 44, .call (.tmp 35) [(.tmp 39), (.tmp 43)], some (34, true), [4, 8, 12, 3, 3]⟩,
 ⟨some 45, .bin .lss .int (.tmp 44) (.lit (.int .i64 0)), some (34, true), [13, 3]⟩,
 ⟨some 46, .not (.tmp 45), some (34, true), [14, 3]⟩,
 ⟨some 47, .pick (.tmp 34) (.tmp 46) (.lit (.bool false)), none, [3, 15]⟩])
(.cond (.tmp 47) .skip (.exit 2)))
(.block 3 (.reg none [⟨some 48, .mv (.tmp 11), none, []⟩,
 ⟨some 49, .bin .add .int (.tmp 48) (.lit (.int .i64 1)), none, [0]⟩,
 ⟨some 11, .mv (.tmp 49), none, [1, 0, 1]⟩])))))
(.seq (.block 4 (.loop (.seq (.seq (.reg (some [0, 0, 3, 7, 15, 15, 15, 111, 239, 15, 15, 1551, 3599, 8191, 16383, 32767]) [⟨some 50, .mv (.tmp 11), none, []⟩,
 ⟨some 51, .mv (.tmp 12), none, []⟩,
 ⟨some 52, .bin .leq .int (.tmp 50) (.tmp 51), none, [0, 1]⟩,
 ⟨some 53, .mv (.tmp 52), none, [2]⟩,
 ⟨some 54, .mv (.tmp 4), some (53, true), [3]⟩,
 ⟨some 55, .mv (.tmp 0), some (53, true), [3]⟩,
 ⟨some 56, .mv (.tmp 1), some (53, true), [3]⟩,
 ⟨some 57, .idxA 2 (.tmp 55) (.tmp 56), some (53, true), [5, 6, 3]⟩,
 ⟨some 58, .load (some 2) (.tmp 57), some (53, true), [7, 3]⟩,
 ⟨some 59, .mv (.tmp 0), some (53, true), [3]⟩,
 ⟨some 60, .mv (.tmp 12), some (53, true), [3]⟩,
 ⟨some 61, .idxA 2 (.tmp 59) (.tmp 60), some (53, true), [9, 10, 3]⟩,
 ⟨some 62, .load (some 2) (.tmp 61), some (53, true), [11, 3]⟩,
 ⟨some 63, .call (.tmp 54) [(.tmp 58), (.tmp 62)], some (53, true), [4, 8, 12, 3, 3]⟩,
 ⟨some 64, .bin .lss .int (.tmp 63) (.lit (.int .i64 0)), some (53, true), [13, 3]⟩,
 ⟨some 65, .pick (.tmp 53) (.tmp 64) (.lit (.bool false)), none, [3, 14]⟩])
(.cond (.tmp 65) .skip (.exit 4)))
(.block 5 (.reg none [⟨some 66, .mv (.tmp 12), none, []⟩,
 ⟨some 67, .bin .sub .int (.tmp 66) (.lit (.int .i64 1)), none, [0]⟩,
 ⟨some 12, .mv (.tmp 67), none, [1, 0, 1]⟩])))))
(.seq (.seq (.reg none [⟨some 68, .mv (.tmp 11), none, []⟩,
 ⟨some 69, .mv (.tmp 12), none, []⟩,
 ⟨some 70, .bin .gtr .int (.tmp 68) (.tmp 69), none, [0, 1]⟩])
(.cond (.tmp 70) (.exit 0) .skip))
(.seq (.reg (some [0, 0, 0, 0, 0, 0, 48, 112, 0, 0, 768, 1792, 4083, 8179, 16383, 32767]) [⟨some 71, .mv (.tmp 0), none, []⟩,
 ⟨some 72, .mv (.tmp 11), none, []⟩,
 ⟨some 73, .mv (.tmp 0), none, []⟩,
 ⟨some 74, .mv (.tmp 12), none, []⟩,
 ⟨some 75, .mv (.tmp 0), none, []⟩,
 ⟨some 76, .mv (.tmp 12), none, []⟩,
 ⟨some 77, .idxA 2 (.tmp 75) (.tmp 76), none, [4, 5]⟩,
 ⟨some 78, .load (some 2) (.tmp 77), none, [6]⟩,
 ⟨some 79, .mv (.tmp 0), none, []⟩,
 ⟨some 80, .mv (.tmp 11), none, []⟩,
 ⟨some 81, .idxA 2 (.tmp 79) (.tmp 80), none, [8, 9]⟩,
 ⟨some 82, .load (some 2) (.tmp 81), none, [10]⟩,
 ⟨some 83, .idxA 2 (.tmp 71) (.tmp 72), none, [0, 1, 0, 1, 4, 5, 6, 7, 11]⟩,
 ⟨none, .store 2 (.tmp 83) (.tmp 78), none, [12, 7, 0, 1, 4, 5, 6, 7, 11]⟩,
 ⟨some 84, .idxA 2 (.tmp 73) (.tmp 74), none, [2, 3, 0, 1, 2, 3, 4, 5, 6, 7, 8, 9, 10, 11, 12, 13]⟩,
 ⟨none, .store 2 (.tmp 84) (.tmp 82), none, [14, 11, 13, 0, 1, 2, 3, 4, 5, 6, 7, 8, 9, 10, 11, 12, 13]⟩])
(.seq (.reg none [⟨some 85, .mv (.tmp 11), none, []⟩,
 ⟨some 86, .bin .add .int (.tmp 85) (.lit (.int .i64 1)), none, [0]⟩,
 ⟨some 11, .mv (.tmp 86), none, [1, 0, 1]⟩])
(.reg none [⟨some 87, .mv (.tmp 12), none, []⟩,
 ⟨some 88, .bin .sub .int (.tmp 87) (.lit (.int .i64 1)), none, [0]⟩,
 ⟨some 12, .mv (.tmp 88), none, [1, 0, 1]⟩])))))))))
(.seq (.reg none [⟨some 89, .mv (.tmp 11), none, []⟩,
 ⟨some 10, .mv (.tmp 89), none, [0, 0]⟩])
.ret))))) }
theorem c31 : cFunc Try.prog 31 = some f31 := by kernel_rfl
/-- slices.partitionCmpFunc[palinode/api.Interval] -/
def f32 : SFunc := { ntmps := 178, results := [.tmp 10, .tmp 11], body :=
(.seq (.reg none [⟨some 10, .mv (.lit (.int .i64 0)), none, []⟩,
 ⟨some 11, .mv (.lit (.bool false)), none, [0]⟩])
(.seq (.reg (some [0, 0, 0, 0, 0, 0, 48, 112, 0, 0, 768, 1792, 4083, 8179, 16383, 32767]) [⟨some 14, .mv (.tmp 0), none, []⟩,
 ⟨some 15, .mv (.tmp 1), none, []⟩,
 ⟨some 16, .mv (.tmp 0), none, []⟩,
 ⟨some 17, .mv (.tmp 3), none, []⟩,
 ⟨some 18, .mv (.tmp 0), none, []⟩,
 ⟨some 19, .mv (.tmp 3), none, []⟩,
 ⟨some 20, .idxA 2 (.tmp 18) (.tmp 19), none, [4, 5]⟩,
 ⟨some 21, .load (some 2) (.tmp 20), none, [6]⟩,
 ⟨some 22, .mv (.tmp 0), none, []⟩,
 ⟨some 23, .mv (.tmp 1), none, []⟩,
 ⟨some 24, .idxA 2 (.tmp 22) (.tmp 23), none, [8, 9]⟩,
 ⟨some 25, .load (some 2) (.tmp 24), none, [10]⟩,
 ⟨some 26, .idxA 2 (.tmp 14) (.tmp 15), none, [0, 1, 0, 1, 4, 5, 6, 7, 11]⟩,
 ⟨none, .store 2 (.tmp 26) (.tmp 21), none, [12, 7, 0, 1, 4, 5, 6, 7, 11]⟩,
 ⟨some 27, .idxA 2 (.tmp 16) (.tmp 17), none, [2, 3, 0, 1, 2, 3, 4, 5, 6, 7, 8, 9, 10, 11, 12, 13]⟩,
 ⟨none, .store 2 (.tmp 27) (.tmp 25), none, [14, 11, 13, 0, 1, 2, 3, 4, 5, 6, 7, 8, 9, 10, 11, 12, 13]⟩])
(.seq (.reg none [⟨some 28, .mv (.tmp 1), none, []⟩,
 ⟨some 29, .bin .add .int (.tmp 28) (.lit (.int .i64 1)), none, [0]⟩,
 ⟨some 30, .mv (.tmp 2), none, []⟩,
 ⟨some 31, .bin .sub .int (.tmp 30) (.lit (.int .i64 1)), none, [2]⟩,
 ⟨some 12, .mv (.tmp 29), none, [1, 0, 1]⟩,
 ⟨some 13, .mv (.tmp 31), none, [3, 4, 0, 1, 2, 3, 4]⟩])
(.seq (.block 0 (.loop (.seq (.seq (.reg (some [0, 0, 3, 7, 15, 15, 15, 111, 239, 15, 15, 1551, 3599, 8191, 16383, 32767]) [⟨some 32, .mv (.tmp 12), none, []⟩,
 ⟨some 33, .mv (.tmp 13), none, []⟩,
 ⟨some 34, .bin .leq .int (.tmp 32) (.tmp 33), none, [0, 1]⟩,
 ⟨some 35, .mv (.tmp 34), none, [2]⟩,
 ⟨some 36, .mv (.tmp 4), some (35, true), [3]⟩,
 ⟨some 37, .mv (.tmp 0), some (35, true), [3]⟩,
 ⟨some 38, .mv (.tmp 12), some (35, true), [3]⟩,
 ⟨some 39, .idxA 2 (.tmp 37) (.tmp 38), some (35, true), [5, 6, 3]⟩,
 ⟨some 40, .load (some 2) (.tmp 39), some (35, true), [7, 3]⟩,
 ⟨some 41, .mv (.tmp 0), some (35, true), [3]⟩,
 ⟨some 42, .mv (.tmp 1), some (35, true), [3]⟩,
 ⟨some 43, .idxA 2 (.tmp 41) (.tmp 42), some (35, true), [9, 10, 3]⟩,
 ⟨some 44, .load (some 2) (.tmp 43), some (35, true), [11, 3]⟩,
 ⟨some 45, .call (.tmp 36) [(.tmp 40), (.tmp 44)], some (35, true), [4, 8, 12, 3, 3]⟩,
 ⟨some 46, .bin .lss .int (.tmp 45) (.lit (.int .i64 0)), some (35, true), [13, 3]⟩,
 ⟨some 47, .pick (.tmp 35) (.tmp 46) (.lit (.bool false)), none, [3, 14]⟩])
(.cond (.tmp 47) .skip (.exit 0)))
(.block 1 (.reg none [⟨some 48, .mv (.tmp 12), none, []⟩,
 ⟨some 49, .bin .add .int (.tmp 48) (.lit (.int .i64 1)), none, [0]⟩,
 ⟨some 12, .mv (.tmp 49), none, [1, 0, 1]⟩])))))
(.seq (.block 2 (.loop (.seq (.seq (.reg (some [0, 0, 3, 7, 15, 15, 15, 111, 239, 15, 15, 1551, 3599, 8191, 16383, 32767, 65535]) [⟨some 50, .mv (.tmp 12), none, []⟩,
 ⟨some 51, .mv (.tmp 13), none, []⟩,
 ⟨some 52, .bin .leq .int (.tmp 50) (.tmp 51), none, [0, 1]⟩,
 ⟨some 53, .mv (.tmp 52), none, [2]⟩,
 ⟨some 54, .mv (.tmp 4), some (53, true), [3]⟩,
 ⟨some 55, .mv (.tmp 0), some (53, true), [3]⟩,
 ⟨some 56, .mv (.tmp 13), some (53, true), [3]⟩,
 ⟨some 57, .idxA 2 (.tmp 55) (.tmp 56), some (53, true), [5, 6, 3]⟩,
 ⟨some 58, .load (some 2) (.tmp 57), some (53, true), [7, 3]⟩,
 ⟨some 59, .mv (.tmp 0), some (53, true), [3]⟩,
 ⟨some 60, .mv (.tmp 1), some (53, true), [3]⟩,
 ⟨some 61, .idxA 2 (.tmp 59) (.tmp 60), some (53, true), [9, 10, 3]⟩,
 ⟨some 62, .load (some 2) (.tmp 61), some (53, true), [11, 3]⟩,
 ⟨some 63, .call (.tmp 54) [(.tmp 58), (.tmp 62)], some (53, true), [4, 8, 12, 3, 3]⟩,
 ⟨some 64, .bin .lss .int (.tmp 63) (.lit (.int .i64 0)), some (53, true), [13, 3]⟩,
 ⟨some 65, .not (.tmp 64), some (53, true), [14, 3]⟩,
 ⟨some 66, .pick (.tmp 53) (.tmp 65) (.lit (.bool false)), none, [3, 15]⟩])
(.cond (.tmp 66) .skip (.exit 2)))
(.block 3 (.reg none [⟨some 67, .mv (.tmp 13), none, []⟩,
 ⟨some 68, .bin .sub .int (.tmp 67) (.lit (.int .i64 1)), none, [0]⟩,
 ⟨some 13, .mv (.tmp 68), none, [1, 0, 1]⟩])))))
(.seq (.seq (.reg none [⟨some 69, .mv (.tmp 12), none, []⟩,
 ⟨some 70, .mv (.tmp 13), none, []⟩,
 ⟨some 71, .bin .gtr .int (.tmp 69) (.tmp 70), none, [0, 1]⟩])
(.cond (.tmp 71) (.seq (.reg (some [0, 0, 0, 0, 0, 0, 48, 112, 0, 0, 768, 1792, 4083, 8179, 16383, 32767]) [⟨some 72, .mv (.tmp 0), none, []⟩,
 ⟨some 73, .mv (.tmp 13), none, []⟩,
 ⟨some 74, .mv (.tmp 0), none, []⟩,
 ⟨some 75, .mv (.tmp 1), none, []⟩,
 ⟨some 76, .mv (.tmp 0), none, []⟩,
 ⟨some 77, .mv (.tmp 1), none, []⟩,
 ⟨some 78, .idxA 2 (.tmp 76) (.tmp 77), none, [4, 5]⟩,
 ⟨some 79, .load (some 2) (.tmp 78), none, [6]⟩,
 ⟨some 80, .mv (.tmp 0), none, []⟩,
 ⟨some 81, .mv (.tmp 13), none, []⟩,
 ⟨some 82, .idxA 2 (.tmp 80) (.tmp 81), none, [8, 9]⟩,
 ⟨some 83, .load (some 2) (.tmp 82), none, [10]⟩,
 ⟨some 84, .idxA 2 (.tmp 72) (.tmp 73), none, [0, 1, 0, 1, 4, 5, 6, 7, 11]⟩,
 ⟨none, .store 2 (.tmp 84) (.tmp 79), none, [12, 7, 0, 1, 4, 5, 6, 7, 11]⟩,
 ⟨some 85, .idxA 2 (.tmp 74) (.tmp 75), none, [2, 3, 0, 1, 2, 3, 4, 5, 6, 7, 8, 9, 10, 11, 12, 13]⟩,
 ⟨none, .store 2 (.tmp 85) (.tmp 83), none, [14, 11, 13, 0, 1, 2, 3, 4, 5, 6, 7, 8, 9, 10, 11, 12, 13]⟩])
(.seq (.reg none [⟨some 86, .mv (.tmp 13), none, []⟩,
 ⟨some 10, .mv (.tmp 86), none, [0, 0]⟩,
 ⟨some 11, .mv (.lit (.bool true)), none, [1, 0, 1]⟩])
.ret)) .skip))
(.seq (.reg (some [0, 0, 0, 0, 0, 0, 48, 112, 0, 0, 768, 1792, 4083, 8179, 16383, 32767]) [⟨some 87, .mv (.tmp 0), none, []⟩,
 ⟨some 88, .mv (.tmp 12), none, []⟩,
 ⟨some 89, .mv (.tmp 0), none, []⟩,
 ⟨some 90, .mv (.tmp 13), none, []⟩,
 ⟨some 91, .mv (.tmp 0), none, []⟩,
 ⟨some 92, .mv (.tmp 13), none, []⟩,
 ⟨some 93, .idxA 2 (.tmp 91) (.tmp 92), none, [4, 5]⟩,
 ⟨some 94, .load (some 2) (.tmp 93), none, [6]⟩,
 ⟨some 95, .mv (.tmp 0), none, []⟩,
 ⟨some 96, .mv (.tmp 12), none, []⟩,
 ⟨some 97, .idxA 2 (.tmp 95) (.tmp 96), none, [8, 9]⟩,
 ⟨some 98, .load (some 2) (.tmp 97), none, [10]⟩,
 ⟨some 99, .idxA 2 (.tmp 87) (.tmp 88), none, [0, 1, 0, 1, 4, 5, 6, 7, 11]⟩,
 ⟨none, .store 2 (.tmp 99) (.tmp 94), none, [12, 7, 0, 1, 4, 5, 6, 7, 11]⟩,
 ⟨some 100, .idxA 2 (.tmp 89) (.tmp 90), none, [2, 3, 0, 1, 2, 3, 4, 5, 6, 7, 8, 9, 10, 11, 12, 13]⟩,
 ⟨none, .store 2 (.tmp 100) (.tmp 98), none, [14, 11, 13, 0, 1, 2, 3, 4, 5, 6, 7, 8, 9, 10, 11, 12, 13]⟩])
(.seq (.reg none [⟨some 101, .mv (.tmp 12), none, []⟩,
 ⟨some 102, .bin .add .int (.tmp 101) (.lit (.int .i64 1)), none, [0]⟩,
 ⟨some 12, .mv (.tmp 102), none, [1, 0, 1]⟩])
(.seq (.reg none [⟨some 103, .mv (.tmp 13), none, []⟩,
 ⟨some 104, .bin .sub .int (.tmp 103) (.lit (.int .i64 1)), none, [0]⟩,
 ⟨some 13, .mv (.tmp 104), none, [1, 0, 1]⟩])
(.seq (.block 4 (.loop (.block 5 (.seq (.block 6 (.loop (.seq (.seq (.reg (some [0, 0, 3, 7, 15, 15, 15, 111, 239, 15, 15, 1551, 3599, 8191, 16383, 32767]) [⟨some 105, .mv (.tmp 12), none, []⟩,
 ⟨some 106, .mv (.tmp 13), none, []⟩,
 ⟨some 107, .bin .leq .int (.tmp 105) (.tmp 106), none, [0, 1]⟩,
 ⟨some 108, .mv (.tmp 107), none, [2]⟩,
 ⟨some 109, .mv (.tmp 4), some (108, true), [3]⟩,
 ⟨some 110, .mv (.tmp 0), some (108, true), [3]⟩,
 ⟨some 111, .mv (.tmp 12), some (108, true), [3]⟩,
 ⟨some 112, .idxA 2 (.tmp 110) (.tmp 111), some (108, true), [5, 6, 3]⟩,
 ⟨some 113, .load (some 2) (.tmp 112), some (108, true), [7, 3]⟩,
 ⟨some 114, .mv (.tmp 0), some (108, true), [3]⟩,
 ⟨some 115, .mv (.tmp 1), some (108, true), [3]⟩,
 ⟨some 116, .idxA 2 (.tmp 114) (.tmp 115), some (108, true), [9, 10, 3]⟩,
 ⟨some 117, .load (some 2) (.tmp 116), some (108, true), [11, 3]⟩,
 ⟨some 118, .call (.tmp 109) [(.tmp 113), (.tmp 117)], some (108, true), [4, 8, 12, 3, 3]⟩,
 ⟨some 119, .bin .lss .int (.tmp 118) (.lit (.int .i64 0)), some (108, true), [13, 3]⟩,
 ⟨some 120, .pick (.tmp 108) (.tmp 119) (.lit (.bool false)), none, [3, 14]⟩])
(.cond (.tmp 120) .skip (.exit 6)))
(.block 7 (.reg none [⟨some 121, .mv (.tmp 12), none, []⟩,
 ⟨some 122, .bin .add .int (.tmp 121) (.lit (.int .i64 1)), none, [0]⟩,
 ⟨some 12, .mv (.tmp 122), none, [1, 0, 1]⟩])))))
(.seq (.block 8 (.loop (.seq (.seq (.reg (some [0, 0, 3, 7, 15, 15, 15, 111, 239, 15, 15, 1551, 3599, 8191, 16383, 32767, 65535]) [⟨some 123, .mv (.tmp 12), none, []⟩,
 ⟨some 124, .mv (.tmp 13), none, []⟩,
 ⟨some 125, .bin .leq .int (.tmp 123) (.tmp 124), none, [0, 1]⟩,
 ⟨some 126, .mv (.tmp 125), none, [2]⟩,
 ⟨some 127, .mv (.tmp 4), some (126, true), [3]⟩,
 ⟨some 128, .mv (.tmp 0), some (126, true), [3]⟩,
 ⟨some 129, .mv (.tmp 13), some (126, true), [3]⟩,
 ⟨some 130, .idxA 2 (.tmp 128) (.tmp 129), some (126, true), [5, 6, 3]⟩,
 ⟨some 131, .load (some 2) (.tmp 130), some (126, true), [7, 3]⟩,
 ⟨some 132, .mv (.tmp 0), some (126, true), [3]⟩,
 ⟨some 133, .mv (.tmp 1), some (126, true), [3]⟩,
 ⟨some 134, .idxA 2 (.tmp 132) (.tmp 133), some (126, true), [9, 10, 3]⟩,
 ⟨some 135, .load (some 2) (.tmp 134), some (126, true), [11, 3]⟩,
 ⟨some 136, .call (.tmp 127) [(.tmp 131), (.tmp 135)], some (126, true), [4, 8, 12, 3, 3]⟩,
 ⟨some 137, .bin .lss .int (.tmp 136) (.lit (.int .i64 0)), some (126, true), [13, 3]⟩,
 ⟨some 138, .not (.tmp 137), some (126, true), [14, 3]⟩,
 ⟨some 139, .pick (.tmp 126) (.tmp 138) (.lit (.bool false)), none, [3, 15]⟩])
(.cond (.tmp 139) .skip (.exit 8)))
(.block 9 (.reg none [⟨some 140, .mv (.tmp 13), none, []⟩,
 ⟨some 141, .bin .sub .int (.tmp 140) (.lit (.int .i64 1)), none, [0]⟩,
 ⟨some 13, .mv (.tmp 141), none, [1, 0, 1]⟩])))))
(.seq (.seq (.reg none [⟨some 142, .mv (.tmp 12), none, []⟩,
 ⟨some 143, .mv (.tmp 13), none, []⟩,
 ⟨some 144, .bin .gtr .int (.tmp 142) (.tmp 143), none, [0, 1]⟩])
(.cond (.tmp 144) (.exit 4) .skip))
(.seq (.reg (some [0, 0, 0, 0, 0, 0, 48, 112, 0, 0, 768, 1792, 4083, 8179, 16383, 32767]) [⟨some 145, .mv (.tmp 0), none, []⟩,
 ⟨some 146, .mv (.tmp 12), none, []⟩,
 ⟨some 147, .mv (.tmp 0), none, []⟩,
 ⟨some 148, .mv (.tmp 13), none, []⟩,
 ⟨some 149, .mv (.tmp 0), none, []⟩,
 ⟨some 150, .mv (.tmp 13), none, []⟩,
 ⟨some 151, .idxA 2 (.tmp 149) (.tmp 150), none, [4, 5]⟩,
 ⟨some 152, .load (some 2) (.tmp 151), none, [6]⟩,
 ⟨some 153, .mv (.tmp 0), none, []⟩,
 ⟨some 154, .mv (.tmp 12), none, []⟩,
 ⟨some 155, .idxA 2 (.tmp 153) (.tmp 154), none, [8, 9]⟩,
 ⟨some 156, .load (some 2) (.tmp 155), none, [10]⟩,
 ⟨some 157, .idxA 2 (.tmp 145) (.tmp 146), none, [0, 1, 0, 1, 4, 5, 6, 7, 11]⟩,
 ⟨none, .store 2 (.tmp 157) (.tmp 152), none, [12, 7, 0, 1, 4, 5, 6, 7, 11]⟩,
 ⟨some 158, .idxA 2 (.tmp 147) (.tmp 148), none, [2, 3, 0, 1, 2, 3, 4, 5, 6, 7, 8, 9, 10, 11, 12, 13]⟩,
 ⟨none, .store 2 (.tmp 158) (.tmp 156), none, [14, 11, 13, 0, 1, 2, 3, 4, 5, 6, 7, 8, 9, 10, 11, 12, 13]⟩])
(.seq (.reg none [⟨some 159, .mv (.tmp 12), none, []⟩,
 ⟨some 160, .bin .add .int (.tmp 159) (.lit (.int .i64 1)), none, [0]⟩,
 ⟨some 12, .mv (.tmp 160), none, [1, 0, 1]⟩])
(.reg none [⟨some 161, .mv (.tmp 13), none, []⟩,
 ⟨some 162, .bin .sub .int (.tmp 161) (.lit (.int .i64 1)), none, [0]⟩,
 ⟨some 13, .mv (.tmp 162), none, [1, 0, 1]⟩])))))))))
(.seq (.reg (some [0, 0, 0, 0, 0, 0, 48, 112, 0, 0, 768, 1792, 4083, 8179, 16383, 32767]) [⟨some 163, .mv (.tmp 0), none, []⟩,
 ⟨some 164, .mv (.tmp 13), none, []⟩,
 ⟨some 165, .mv (.tmp 0), none, []⟩,
 ⟨some 166, .mv (.tmp 1), none, []⟩,
 ⟨some 167, .mv (.tmp 0), none, []⟩,
 ⟨some 168, .mv (.tmp 1), none, []⟩,
 ⟨some 169, .idxA 2 (.tmp 167) (.tmp 168), none, [4, 5]⟩,
 ⟨some 170, .load (some 2) (.tmp 169), none, [6]⟩,
 ⟨some 171, .mv (.tmp 0), none, []⟩,
 ⟨some 172, .mv (.tmp 13), none, []⟩,
 ⟨some 173, .idxA 2 (.tmp 171) (.tmp 172), none, [8, 9]⟩,
 ⟨some 174, .load (some 2) (.tmp 173), none, [10]⟩,
 ⟨some 175, .idxA 2 (.tmp 163) (.tmp 164), none, [0, 1, 0, 1, 4, 5, 6, 7, 11]⟩,
 ⟨none, .store 2 (.tmp 175) (.tmp 170), none, [12, 7, 0, 1, 4, 5, 6, 7, 11]⟩,
 ⟨some 176, .idxA 2 (.tmp 165) (.tmp 166), none, [2, 3, 0, 1, 2, 3, 4, 5, 6, 7, 8, 9, 10, 11, 12, 13]⟩,
 ⟨none, .store 2 (.tmp 176) (.tmp 174), none, [14, 11, 13, 0, 1, 2, 3, 4, 5, 6, 7, 8, 9, 10, 11, 12, 13]⟩])
(.seq (.reg none [⟨some 177, .mv (.tmp 13), none, []⟩,
 ⟨some 10, .mv (.tmp 177), none, [0, 0]⟩,
 ⟨some 11, .mv (.lit (.bool false)), none, [1, 0, 1]⟩])
.ret)))))))))))) }
theorem c32 : cFunc Try.prog 32 = some f32 := by kernel_rfl
/-- math/bits.Len32 -/
def f33 : SFunc := { ntmps := 19, results := [.tmp 2], body :=
(.seq (.reg none [⟨some 2, .mv (.lit (.int .i64 0)), none, []⟩])
(.seq (.seq (.reg none [⟨some 3, .mv (.tmp 0), none, []⟩,
 ⟨some 4, .bin .geq .int (.tmp 3) (.lit (.int .u32 65536)), none, [0]⟩])
(.cond (.tmp 4) (.seq (.reg none [⟨some 5, .mv (.tmp 0), none, []⟩,
 ⟨some 6, .bin .shr .int (.tmp 5) (.lit (.int .u64 16)), none, [0]⟩,
 ⟨some 0, .mv (.tmp 6), none, [1, 0, 1]⟩])
(.reg none [⟨some 2, .mv (.lit (.int .i64 16)), none, []⟩])) .skip))
(.seq (.seq (.reg none [⟨some 7, .mv (.tmp 0), none, []⟩,
 ⟨some 8, .bin .geq .int (.tmp 7) (.lit (.int .u32 256)), none, [0]⟩])
(.cond (.tmp 8) (.seq (.reg none [⟨some 9, .mv (.tmp 0), none, []⟩,
 ⟨some 10, .bin .shr .int (.tmp 9) (.lit (.int .u64 8)), none, [0]⟩,
 ⟨some 0, .mv (.tmp 10), none, [1, 0, 1]⟩])
(.reg none [⟨some 11, .mv (.tmp 2), none, []⟩,
 ⟨some 12, .bin .add .int (.tmp 11) (.lit (.int .i64 8)), none, [0]⟩,
 ⟨some 2, .mv (.tmp 12), none, [1, 0, 1]⟩])) .skip))
(.seq (.reg none [⟨some 13, .mv (.tmp 2), none, []⟩,
 ⟨some 14, .mv (.tmp 0), none, []⟩,
 ⟨some 15, .cint .u8 (.tmp 14), none, [1]⟩,
 ⟨some 16, .idxS (.lit (.str [0, 1, 2, 2, 3, 3, 3, 3, 4, 4, 4, 4, 4, 4, 4, 4, 5, 5, 5, 5, 5, 5, 5, 5, 5, 5, 5, 5, 5, 5, 5, 5, 6, 6, 6, 6, 6, 6, 6, 6, 6, 6, 6, 6, 6, 6, 6, 6, 6, 6, 6, 6, 6, 6, 6, 6, 6, 6, 6, 6, 6, 6, 6, 6, 7, 7, 7, 7, 7, 7, 7, 7, 7, 7, 7, 7, 7, 7, 7, 7, 7, 7, 7, 7, 7, 7, 7, 7, 7, 7, 7, 7, 7, 7, 7, 7, 7, 7, 7, 7, 7, 7, 7, 7, 7, 7, 7, 7, 7, 7, 7, 7, 7, 7, 7, 7, 7, 7, 7, 7, 7, 7, 7, 7, 7, 7, 7, 7, 8, 8, 8, 8, 8, 8, 8, 8, 8, 8, 8, 8, 8, 8, 8, 8, 8, 8, 8, 8, 8, 8, 8, 8, 8, 8, 8, 8, 8, 8, 8, 8, 8, 8, 8, 8, 8, 8, 8, 8, 8, 8, 8, 8, 8, 8, 8, 8, 8, 8, 8, 8, 8, 8, 8, 8, 8, 8, 8, 8, 8, 8, 8, 8, 8, 8, 8, 8, 8, 8, 8, 8, 8, 8, 8, 8, 8, 8, 8, 8, 8, 8, 8, 8, 8, 8, 8, 8, 8, 8, 8, 8, 8, 8, 8, 8, 8, 8, 8, 8, 8, 8, 8, 8, 8, 8, 8, 8, 8, 8, 8, 8, 8, 8, 8, 8, 8, 8, 8, 8, 8, 8, 8, 8, 8, 8, 8, 8])) (.tmp 15), none, [2]⟩,
 ⟨some 17, .cint .i64 (.tmp 16), none, [3]⟩,
 ⟨some 18, .bin .add .int (.tmp 13) (.tmp 17), none, [0, 4]⟩,
 ⟨some 2, .mv (.tmp 18), none, [5, 0, 1, 2, 3, 4, 5]⟩])
.ret)))) }
theorem c33 : cFunc Try.prog 33 = some f33 := by kernel_rfl
/-- math/bits.Len64 -/
def f34 : SFunc := { ntmps := 25, results := [.tmp 2], body :=
(.seq (.reg none [⟨some 2, .mv (.lit (.int .i64 0)), none, []⟩])
(.seq (.seq (.reg none [⟨some 3, .mv (.tmp 0), none, []⟩,
 ⟨some 4, .bin .geq .int (.tmp 3) (.lit (.int .u64 4294967296)), none, [0]⟩])
(.cond (.tmp 4) (.seq (.reg none [⟨some 5, .mv (.tmp 0), none, []⟩,
 ⟨some 6, .bin .shr .int (.tmp 5) (.lit (.int .u64 32)), none, [0]⟩,
 ⟨some 0, .mv (.tmp 6), none, [1, 0, 1]⟩])
(.reg none [⟨some 2, .mv (.lit (.int .i64 32)), none, []⟩])) .skip))
(.seq (.seq (.reg none [⟨some 7, .mv (.tmp 0), none, []⟩,
 ⟨some 8, .bin .geq .int (.tmp 7) (.lit (.int .u64 65536)), none, [0]⟩])
(.cond (.tmp 8) (.seq (.reg none [⟨some 9, .mv (.tmp 0), none, []⟩,
 ⟨some 10, .bin .shr .int (.tmp 9) (.lit (.int .u64 16)), none, [0]⟩,
 ⟨some 0, .mv (.tmp 10), none, [1, 0, 1]⟩])
(.reg none [⟨some 11, .mv (.tmp 2), none, []⟩,
 ⟨some 12, .bin .add .int (.tmp 11) (.lit (.int .i64 16)), none, [0]⟩,
 ⟨some 2, .mv (.tmp 12), none, [1, 0, 1]⟩])) .skip))
(.seq (.seq (.reg none [⟨some 13, .mv (.tmp 0), none, []⟩,
 ⟨some 14, .bin .geq .int (.tmp 13) (.lit (.int .u64 256)), none, [0]⟩])
(.cond (.tmp 14) (.seq (.reg none [⟨some 15, .mv (.tmp 0), none, []⟩,
 ⟨some 16, .bin .shr .int (.tmp 15) (.lit (.int .u64 8)), none, [0]⟩,
 ⟨some 0, .mv (.tmp 16), none, [1, 0, 1]⟩])
(.reg none [⟨some 17, .mv (.tmp 2), none, []⟩,
 ⟨some 18, .bin .add .int (.tmp 17) (.lit (.int .i64 8)), none, [0]⟩,
 ⟨some 2, .mv (.tmp 18), none, [1, 0, 1]⟩])) .skip))
(.seq (.reg none [⟨some 19, .mv (.tmp 2), none, []⟩,
 ⟨some 20, .mv (.tmp 0), none, []⟩,
 ⟨some 21, .cint .u8 (.tmp 20), none, [1]⟩,
 ⟨some 22, .idxS (.lit (.str [0, 1, 2, 2, 3, 3, 3, 3, 4, 4, 4, 4, 4, 4, 4, 4, 5, 5, 5, 5, 5, 5, 5, 5, 5, 5, 5, 5, 5, 5, 5, 5, 6, 6, 6, 6, 6, 6, 6, 6, 6, 6, 6, 6, 6, 6, 6, 6, 6, 6, 6, 6, 6, 6, 6, 6, 6, 6, 6, 6, 6, 6, 6, 6, 7, 7, 7, 7, 7, 7, 7, 7, 7, 7, 7, 7, 7, 7, 7, 7, 7, 7, 7, 7, 7, 7, 7, 7, 7, 7, 7, 7, 7, 7, 7, 7, 7, 7, 7, 7, 7, 7, 7, 7, 7, 7, 7, 7, 7, 7, 7, 7, 7, 7, 7, 7, 7, 7, 7, 7, 7, 7, 7, 7, 7, 7, 7, 7, 8, 8, 8, 8, 8, 8, 8, 8, 8, 8, 8, 8, 8, 8, 8, 8, 8, 8, 8, 8, 8, 8, 8, 8, 8, 8, 8, 8, 8, 8, 8, 8, 8, 8, 8, 8, 8, 8, 8, 8, 8, 8, 8, 8, 8, 8, 8, 8, 8, 8, 8, 8, 8, 8, 8, 8, 8, 8, 8, 8, 8, 8, 8, 8, 8, 8, 8, 8, 8, 8, 8, 8, 8, 8, 8, 8, 8, 8, 8, 8, 8, 8, 8, 8, 8, 8, 8, 8, 8, 8, 8, 8, 8, 8, 8, 8, 8, 8, 8, 8, 8, 8, 8, 8, 8, 8, 8, 8, 8, 8, 8, 8, 8, 8, 8, 8, 8, 8, 8, 8, 8, 8, 8, 8, 8, 8, 8, 8])) (.tmp 21), none, [2]⟩,
 ⟨some 23, .cint .i64 (.tmp 22), none, [3]⟩,
 ⟨some 24, .bin .add .int (.tmp 19) (.tmp 23), none, [0, 4]⟩,
 ⟨some 2, .mv (.tmp 24), none, [5, 0, 1, 2, 3, 4, 5]⟩])
.ret))))) }
theorem c34 : cFunc Try.prog 34 = some f34 := by kernel_rfl
end Go.Proofs.Ytihifhoemfpalaa.M
