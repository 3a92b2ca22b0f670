/- Codes of the program's functions, compiled for the abstract machine; each compiled by the kernel's word. No condition. -/
import Derived.Test.YtcchmmjjfglpgaaGreatFN
set_option maxRecDepth 100000
namespace Go.Proofs.YtcchmmjjfglpgaaGreat.M
open Go Go.Mini
/-- palinode/palinodelaw21.UndoOnly -/
def f_palinodelaw21_UndoOnly : SFunc := { ntmps := 140, results := [.tmp 6], body :=
(.seq (.reg none [⟨some 6, .mv (.lit (.bool false)), none, []⟩])
(.seq (.seq (.reg none [⟨some 19, .call (.lit (.fn 15 [])) [], none, []⟩,
 ⟨some 20, .not (.tmp 19), none, [0]⟩])
(.cond (.tmp 20) (.seq (.reg none [⟨some 6, .mv (.lit (.bool false)), none, []⟩])
.ret) .skip))
(.seq (.seq (.reg none [⟨some 21, .mv (.tmp 0), none, []⟩,
 ⟨some 22, .len (.tmp 21), none, [0]⟩,
 ⟨some 23, .bin .gtr .int (.tmp 22) (.lit (.int .i64 20)), none, [1]⟩,
 ⟨some 24, .mv (.tmp 23), none, [2]⟩,
 ⟨some 25, .mv (.tmp 1), some (24, false), [3]⟩,
 ⟨some 26, .len (.tmp 25), some (24, false), [4, 3]⟩,
 ⟨some 27, .bin .gtr .int (.tmp 26) (.lit (.int .i64 10)), some (24, false), [5, 3]⟩,
 ⟨some 28, .pick (.tmp 24) (.lit (.bool true)) (.tmp 27), none, [3, 6]⟩])
(.cond (.tmp 28) (.seq (.reg none [⟨some 6, .mv (.lit (.bool true)), none, []⟩])
.ret) .skip))
(.seq (.reg none [⟨some 29, .mv (.tmp 0), none, []⟩,
 ⟨some 30, .call (.lit (.fn 16 [])) [(.tmp 29)], none, [0]⟩,
 ⟨some 7, .mv (.tmp 30), none, [1, 1, 0, 1]⟩])
(.seq (.reg none [⟨some 31, .mv (.tmp 7), none, []⟩,
 ⟨some 32, .mv (.tmp 1), none, []⟩,
 ⟨some 33, .call (.lit (.fn 17 [])) [(.tmp 31), (.tmp 32)], none, [0, 1]⟩])
(.seq (.reg none [⟨some 34, .mv (.tmp 7), none, []⟩,
 ⟨some 35, .call (.lit (.fn 18 [])) [(.tmp 34)], none, [0]⟩,
 ⟨some 36, .mv (.tmp 7), none, []⟩,
 ⟨some 37, .call (.lit (.fn 19 [])) [(.tmp 36)], none, [2, 1]⟩,
 ⟨some 8, .mv (.tmp 35), none, [1, 3, 0, 1]⟩,
 ⟨some 9, .mv (.tmp 37), none, [3, 4, 0, 1, 2, 3, 4]⟩])
(.seq (.reg none [⟨some 38, .mv (.tmp 7), none, []⟩,
 ⟨some 39, .call (.lit (.fn 20 [])) [(.tmp 38)], none, [0]⟩,
 ⟨some 10, .mv (.tmp 39), none, [1, 1, 0, 1]⟩])
(.seq (.reg none [⟨some 41, .mv (.tmp 7), none, []⟩,
 ⟨some 42, .mv (.tmp 2), none, []⟩,
 ⟨some 43, .call (.lit (.fn 21 [])) [(.tmp 41), (.tmp 42)], none, [0, 1]⟩,
 ⟨some 40, .mv (.tmp 43), none, [2]⟩,
 ⟨some 44, .ext (.tmp 40) 0, none, [3]⟩,
 ⟨some 45, .ext (.tmp 40) 1, none, [3]⟩,
 ⟨some 11, .mv (.tmp 44), none, [4, 2, 0, 1, 2, 3, 4]⟩,
 ⟨some 12, .mv (.tmp 45), none, [5, 6, 0, 1, 2, 3, 4, 5, 6]⟩])
(.seq (.seq (.reg none [⟨some 46, .mv (.tmp 10), none, []⟩,
 ⟨some 47, .mv (.tmp 2), none, []⟩,
 ⟨some 48, .call (.lit (.fn 22 [])) [(.tmp 46), (.tmp 47)], none, [0, 1]⟩,
 ⟨some 49, .not (.tmp 48), none, [2]⟩])
(.cond (.tmp 49) (.seq (.reg none [⟨some 50, .mv (.tmp 12), none, []⟩,
 ⟨some 51, .bin .eql .int (.tmp 50) (.lit (.int .i64 210)), none, [0]⟩,
 ⟨some 52, .mv (.tmp 51), none, [1]⟩,
 ⟨some 53, .mv (.tmp 11), some (52, true), [2]⟩,
 ⟨some 54, .bin .eql .int (.tmp 53) (.lit (.int .i64 0)), some (52, true), [3, 2]⟩,
 ⟨some 55, .pick (.tmp 52) (.tmp 54) (.lit (.bool false)), none, [2, 4]⟩,
 ⟨some 56, .mv (.tmp 55), none, [5, 2]⟩,
 ⟨some 57, .mv (.tmp 7), some (56, true), [6]⟩,
 ⟨some 58, .call (.lit (.fn 18 [])) [(.tmp 57)], some (56, true), [7, 6, 6]⟩,
 ⟨some 59, .mv (.tmp 8), some (56, true), [6]⟩,
 ⟨some 60, .call (.lit (.fn 23 [])) [(.tmp 58), (.tmp 59)], some (56, true), [8, 9, 8, 6]⟩,
 ⟨some 61, .pick (.tmp 56) (.tmp 60) (.lit (.bool false)), none, [6, 10]⟩,
 ⟨some 62, .mv (.tmp 61), none, [11, 10]⟩,
 ⟨some 63, .mv (.tmp 7), some (62, true), [12]⟩,
 ⟨some 64, .call (.lit (.fn 19 [])) [(.tmp 63)], some (62, true), [13, 12, 12]⟩,
 ⟨some 65, .mv (.tmp 9), some (62, true), [12]⟩,
 ⟨some 66, .bin .eql .int (.tmp 64) (.tmp 65), some (62, true), [14, 15, 12]⟩,
 ⟨some 67, .pick (.tmp 62) (.tmp 66) (.lit (.bool false)), none, [12, 16]⟩,
 ⟨some 6, .mv (.tmp 67), none, [17, 14, 0, 1, 2, 3, 4, 5, 6, 7, 8, 9, 10, 11, 12, 13, 14, 15, 16, 17]⟩])
.ret) .skip))
(.seq (.reg none [⟨some 13, .mv (.lit .nils), none, []⟩])
(.seq (.seq (.reg none [⟨some 14, .mv (.lit (.int .i64 0)), none, []⟩])
(.block 0 (.loop (.seq (.seq (.reg none [⟨some 68, .mv (.tmp 14), none, []⟩,
 ⟨some 69, .mv (.tmp 10), none, []⟩,
 ⟨some 70, .len (.tmp 69), none, [1]⟩,
 ⟨some 71, .bin .lss .int (.tmp 68) (.tmp 70), none, [0, 2]⟩])
(.cond (.tmp 71) .skip (.exit 0)))
(.seq (.block 1 (.seq (.reg none [⟨some 74, .mv (.tmp 10), none, []⟩,
 ⟨some 75, .mv (.tmp 14), none, []⟩,
 ⟨some 76, .idxA 1 (.tmp 74) (.tmp 75), none, [0, 1]⟩,
 ⟨some 77, .load none (.tmp 76), none, [2]⟩,
 ⟨some 78, .mv (.tmp 2), none, []⟩,
 ⟨some 79, .bin .neq .int (.tmp 77) (.tmp 78), none, [3, 4]⟩])
(.cond (.tmp 79) (.reg none [⟨some 80, .mv (.tmp 13), none, []⟩,
 ⟨some 81, .mv (.tmp 10), none, []⟩,
 ⟨some 82, .mv (.tmp 14), none, []⟩,
 ⟨some 83, .idxA 1 (.tmp 81) (.tmp 82), none, [1, 2]⟩,
 ⟨some 84, .load none (.tmp 83), none, [3]⟩,
 ⟨some 85, .bslc 1 [(.int .i64 0)] 1 [(0, 1, (.tmp 84))], none, [4]⟩,
 ⟨some 86, .app 3 1 8 (.tmp 80) (.tmp 85), none, [0, 5]⟩,
 ⟨some 13, .mv (.tmp 86), none, [6, 6, 0, 1, 2, 3, 4, 5, 6]⟩]) .skip)))
(.reg none [⟨some 72, .mv (.tmp 14), none, []⟩,
 ⟨some 73, .bin .add .int (.tmp 72) (.lit (.int .i64 1)), none, [0]⟩,
 ⟨some 14, .mv (.tmp 73), none, [1, 0, 1]⟩]))))))
(.seq (.reg none [⟨some 15, .mv (.lit (.str [])), none, []⟩])
(.seq (.seq (.reg none [⟨some 87, .mv (.tmp 0), none, []⟩,
 ⟨some 88, .len (.tmp 87), none, [0]⟩,
 ⟨some 89, .bin .sub .int (.tmp 88) (.lit (.int .i64 1)), none, [1]⟩,
 ⟨some 16, .mv (.tmp 89), none, [2, 0, 1, 2]⟩])
(.block 2 (.loop (.seq (.seq (.reg none [⟨some 90, .mv (.tmp 16), none, []⟩,
 ⟨some 91, .bin .geq .int (.tmp 90) (.lit (.int .i64 0)), none, [0]⟩])
(.cond (.tmp 91) .skip (.exit 2)))
(.seq (.block 3 (.seq (.reg none [⟨some 94, .mv (.tmp 0), none, []⟩,
 ⟨some 95, .mv (.tmp 16), none, []⟩,
 ⟨some 96, .idxA 1 (.tmp 94) (.tmp 95), none, [0, 1]⟩,
 ⟨some 97, .load none (.tmp 96), none, [2]⟩,
 ⟨some 98, .bin .rem .int (.tmp 97) (.lit (.int .u8 10)), none, [3]⟩,
 ⟨some 99, .cint .i64 (.tmp 98), none, [4]⟩,
 ⟨some 100, .mv (.tmp 2), none, []⟩,
 ⟨some 101, .bin .eql .int (.tmp 99) (.tmp 100), none, [5, 6]⟩])
(.cond (.tmp 101) (.reg none [⟨some 102, .mv (.tmp 15), none, []⟩,
 ⟨some 103, .mv (.tmp 16), none, []⟩,
 ⟨some 104, .bin .rem .int (.tmp 103) (.lit (.int .i64 26)), none, [1]⟩,
 ⟨some 105, .cint .u8 (.tmp 104), none, [2]⟩,
 ⟨some 106, .bin .add .int (.lit (.int .u8 97)) (.tmp 105), none, [3]⟩,
 ⟨some 107, .bslc 1 [(.int .u8 0)] 1 [(0, 1, (.tmp 106))], none, [4]⟩,
 ⟨some 108, .bstr (.tmp 107), none, [5]⟩,
 ⟨some 109, .bin .add .str (.tmp 102) (.tmp 108), none, [0, 6]⟩,
 ⟨some 15, .mv (.tmp 109), none, [7, 0, 1, 2, 3, 4, 5, 6, 7]⟩]) .skip)))
(.reg none [⟨some 92, .mv (.tmp 16), none, []⟩,
 ⟨some 93, .bin .sub .int (.tmp 92) (.lit (.int .i64 1)), none, [0]⟩,
 ⟨some 16, .mv (.tmp 93), none, [1, 0, 1]⟩]))))))
(.seq (.reg none [⟨some 111, .mv (.tmp 7), none, []⟩,
 ⟨some 112, .mv (.tmp 7), none, []⟩,
 ⟨some 113, .call (.lit (.fn 19 [])) [(.tmp 112)], none, [1]⟩,
 ⟨some 114, .call (.lit (.fn 24 [])) [(.tmp 111), (.tmp 113)], none, [0, 2, 2]⟩,
 ⟨some 110, .mv (.tmp 114), none, [3]⟩,
 ⟨some 115, .ext (.tmp 110) 0, none, [4]⟩,
 ⟨some 116, .ext (.tmp 110) 1, none, [4]⟩,
 ⟨some 17, .mv (.tmp 115), none, [5, 3, 0, 1, 2, 3, 4, 5]⟩,
 ⟨some 18, .mv (.tmp 116), none, [6, 7, 0, 1, 2, 3, 4, 5, 6, 7]⟩])
(.seq (.reg none [⟨some 117, .mv (.tmp 12), none, []⟩,
 ⟨some 118, .bin .eql .int (.tmp 117) (.lit (.int .i64 0)), none, [0]⟩,
 ⟨some 119, .mv (.tmp 118), none, [1]⟩,
 ⟨some 120, .mv (.tmp 11), some (119, true), [2]⟩,
 ⟨some 121, .mv (.tmp 7), some (119, true), [2]⟩,
 ⟨some 122, .call (.lit (.fn 19 [])) [(.tmp 121)], some (119, true), [4, 2, 2]⟩,
 ⟨some 123, .bin .eql .int (.tmp 120) (.tmp 122), some (119, true), [3, 5, 2]⟩,
 ⟨some 124, .pick (.tmp 119) (.tmp 123) (.lit (.bool false)), none, [2, 6]⟩,
 ⟨some 125, .mv (.tmp 124), none, [7, 5]⟩,
 ⟨some 126, .mv (.tmp 7), some (125, true), [8]⟩,
 ⟨some 127, .call (.lit (.fn 18 [])) [(.tmp 126)], some (125, true), [9, 8, 8]⟩,
 ⟨some 128, .mv (.tmp 13), some (125, true), [8]⟩,
 ⟨some 129, .call (.lit (.fn 23 [])) [(.tmp 127), (.tmp 128)], some (125, true), [10, 11, 10, 8]⟩,
 ⟨some 130, .pick (.tmp 125) (.tmp 129) (.lit (.bool false)), none, [8, 12]⟩,
 ⟨some 131, .mv (.tmp 130), none, [13, 12]⟩,
 ⟨some 132, .mv (.tmp 18), some (131, true), [14]⟩,
 ⟨some 133, .bin .eql .int (.tmp 132) (.lit (.int .i64 0)), some (131, true), [15, 14]⟩,
 ⟨some 134, .pick (.tmp 131) (.tmp 133) (.lit (.bool false)), none, [14, 16]⟩,
 ⟨some 135, .mv (.tmp 134), none, [17, 14]⟩,
 ⟨some 136, .mv (.tmp 17), some (135, true), [18]⟩,
 ⟨some 137, .mv (.tmp 15), some (135, true), [18]⟩,
 ⟨some 138, .bin .eql .str (.tmp 136) (.tmp 137), some (135, true), [19, 20, 18]⟩,
 ⟨some 139, .pick (.tmp 135) (.tmp 138) (.lit (.bool false)), none, [18, 21]⟩,
 ⟨some 6, .mv (.tmp 139), none, [22, 18, 0, 1, 2, 3, 4, 5, 6, 7, 8, 9, 10, 11, 12, 13, 14, 15, 16, 17, 18, 19, 20, 21, 22]⟩])
.ret))))))))))))))) }
theorem c_palinodelaw21_UndoOnly : cFunc Tryz.prog n_palinodelaw21_UndoOnly = some f_palinodelaw21_UndoOnly := by kernel_rfl
/-- palinode/palinodelaw21.known -/
def f_palinodelaw21_known : SFunc := { ntmps := 63, results := [.tmp 0], body :=
(.seq (.reg none [⟨some 0, .mv (.lit (.bool false)), none, []⟩])
(.seq (.reg none [⟨some 10, .bslc 1 [(.int .u8 0)] 3 [(0, 1, (.lit (.int .u8 1))), (1, 1, (.lit (.int .u8 2))), (2, 1, (.lit (.int .u8 3)))], none, []⟩,
 ⟨some 11, .call (.lit (.fn 16 [])) [(.tmp 10)], none, [0]⟩,
 ⟨some 1, .mv (.tmp 11), none, [1, 1, 0, 1]⟩])
(.seq (.reg none [⟨some 13, .mv (.tmp 1), none, []⟩,
 ⟨some 14, .bslc 1 [(.int .i64 0)] 1 [(0, 1, (.lit (.int .i64 2)))], none, []⟩,
 ⟨some 15, .call (.lit (.fn 25 [])) [(.tmp 13), (.tmp 14)], none, [0, 1]⟩,
 ⟨some 12, .mv (.tmp 15), none, [2]⟩,
 ⟨some 16, .ext (.tmp 12) 0, none, [3]⟩,
 ⟨some 17, .ext (.tmp 12) 1, none, [3]⟩,
 ⟨some 2, .mv (.tmp 16), none, [4, 2, 0, 1, 2, 3, 4]⟩,
 ⟨some 3, .mv (.tmp 17), none, [5, 6, 0, 1, 2, 3, 4, 5, 6]⟩])
(.seq (.reg none [⟨some 19, .mv (.tmp 1), none, []⟩,
 ⟨some 20, .call (.lit (.fn 62 [])) [(.tmp 19)], none, [0]⟩,
 ⟨some 18, .mv (.tmp 20), none, [1]⟩,
 ⟨some 21, .ext (.tmp 18) 0, none, [2]⟩,
 ⟨some 22, .ext (.tmp 18) 1, none, [2]⟩,
 ⟨some 4, .mv (.tmp 21), none, [3, 1, 0, 1, 2, 3]⟩,
 ⟨some 5, .mv (.tmp 22), none, [4, 5, 0, 1, 2, 3, 4, 5]⟩])
(.seq (.reg none [⟨some 24, .mv (.tmp 1), none, []⟩,
 ⟨some 25, .mv (.tmp 1), none, []⟩,
 ⟨some 26, .call (.lit (.fn 19 [])) [(.tmp 25)], none, [1]⟩,
 ⟨some 27, .call (.lit (.fn 24 [])) [(.tmp 24), (.tmp 26)], none, [0, 2, 2]⟩,
 ⟨some 23, .mv (.tmp 27), none, [3]⟩,
 ⟨some 28, .ext (.tmp 23) 0, none, [4]⟩,
 ⟨some 29, .ext (.tmp 23) 1, none, [4]⟩,
 ⟨some 6, .mv (.tmp 28), none, [5, 3, 0, 1, 2, 3, 4, 5]⟩,
 ⟨some 7, .mv (.tmp 29), none, [6, 7, 0, 1, 2, 3, 4, 5, 6, 7]⟩])
(.seq (.reg none [⟨some 31, .mv (.tmp 1), none, []⟩,
 ⟨some 32, .bslc 1 [(.int .i64 0)] 2 [(0, 1, (.lit (.int .i64 1))), (1, 1, (.lit (.int .i64 9)))], none, []⟩,
 ⟨some 33, .call (.lit (.fn 17 [])) [(.tmp 31), (.tmp 32)], none, [0, 1]⟩,
 ⟨some 30, .mv (.tmp 33), none, [2]⟩,
 ⟨some 34, .ext (.tmp 30) 0, none, [3]⟩,
 ⟨some 35, .ext (.tmp 30) 1, none, [3]⟩,
 ⟨some 8, .mv (.tmp 34), none, [4, 2, 0, 1, 2, 3, 4]⟩,
 ⟨some 9, .mv (.tmp 35), none, [5, 6, 0, 1, 2, 3, 4, 5, 6]⟩])
(.seq (.reg none [⟨some 36, .mv (.tmp 3), none, []⟩,
 ⟨some 37, .bin .eql .int (.tmp 36) (.lit (.int .i64 0)), none, [0]⟩,
 ⟨some 38, .mv (.tmp 37), none, [1]⟩,
 ⟨some 39, .mv (.tmp 2), some (38, true), [2]⟩,
 ⟨some 40, .bin .eql .str (.tmp 39) (.lit (.str [99, 97])), some (38, true), [3, 2]⟩,
 ⟨some 41, .pick (.tmp 38) (.tmp 40) (.lit (.bool false)), none, [2, 4]⟩,
 ⟨some 42, .mv (.tmp 41), none, [5, 2]⟩,
 ⟨some 43, .mv (.tmp 5), some (42, true), [6]⟩,
 ⟨some 44, .bin .eql .int (.tmp 43) (.lit (.int .i64 0)), some (42, true), [7, 6]⟩,
 ⟨some 45, .pick (.tmp 42) (.tmp 44) (.lit (.bool false)), none, [6, 8]⟩,
 ⟨some 46, .mv (.tmp 45), none, [9, 6]⟩,
 ⟨some 47, .mv (.tmp 4), some (46, true), [10]⟩,
 ⟨some 48, .bin .eql .int (.tmp 47) (.lit (.int .i64 4)), some (46, true), [11, 10]⟩,
 ⟨some 49, .pick (.tmp 46) (.tmp 48) (.lit (.bool false)), none, [10, 12]⟩,
 ⟨some 50, .mv (.tmp 49), none, [13, 10]⟩,
 ⟨some 51, .mv (.tmp 6), some (50, true), [14]⟩,
 ⟨some 52, .bin .eql .str (.tmp 51) (.lit (.str [98, 97])), some (50, true), [15, 14]⟩,
 ⟨some 53, .pick (.tmp 50) (.tmp 52) (.lit (.bool false)), none, [14, 16]⟩,
 ⟨some 54, .mv (.tmp 53), none, [17, 14]⟩,
 ⟨some 55, .mv (.tmp 9), some (54, true), [18]⟩,
 ⟨some 56, .bin .eql .int (.tmp 55) (.lit (.int .i64 210)), some (54, true), [19, 18]⟩,
 ⟨some 57, .pick (.tmp 54) (.tmp 56) (.lit (.bool false)), none, [18, 20]⟩,
 ⟨some 58, .mv (.tmp 57), none, [21, 18]⟩,
 ⟨some 59, .mv (.tmp 1), some (58, true), [22]⟩,
 ⟨some 60, .call (.lit (.fn 19 [])) [(.tmp 59)], some (58, true), [23, 22, 22]⟩,
 ⟨some 61, .bin .eql .int (.tmp 60) (.lit (.int .i64 4)), some (58, true), [24, 22]⟩,
 ⟨some 62, .pick (.tmp 58) (.tmp 61) (.lit (.bool false)), none, [22, 25]⟩,
 ⟨some 0, .mv (.tmp 62), none, [26, 24, 0, 1, 2, 3, 4, 5, 6, 7, 8, 9, 10, 11, 12, 13, 14, 15, 16, 17, 18, 19, 20, 21, 22, 23, 24, 25, 26]⟩])
.ret))))))) }
theorem c_palinodelaw21_known : cFunc Tryz.prog n_palinodelaw21_known = some f_palinodelaw21_known := by kernel_rfl
/-- palinode/palinodelaw21.made -/
def f_palinodelaw21_made : SFunc := { ntmps := 31, results := [.tmp 2], body :=
(.seq (.reg none [⟨some 2, .mv (.lit .nilp), none, []⟩])
(.seq (.reg none [⟨some 5, .call (.lit (.fn 41 [])) [], none, []⟩,
 ⟨some 3, .mv (.tmp 5), none, [0, 0, 0]⟩])
(.seq (.seq (.reg none [⟨some 4, .mv (.lit (.int .i64 0)), none, []⟩])
(.block 0 (.loop (.seq (.seq (.reg none [⟨some 6, .mv (.tmp 4), none, []⟩,
 ⟨some 7, .mv (.tmp 0), none, []⟩,
 ⟨some 8, .len (.tmp 7), none, [1]⟩,
 ⟨some 9, .bin .lss .int (.tmp 6) (.tmp 8), none, [0, 2]⟩])
(.cond (.tmp 9) .skip (.exit 0)))
(.seq (.block 1 (.regA [0, 0, 2, 0, 0, 24, 56, 120, 248, 0, 512, 1536, 3584, 7680, 15872, 32256, 65024, 131071] [⟨some 12, .mv (.tmp 3), none, []⟩,
 ⟨some 13, .mv (.tmp 3), none, []⟩,
 ⟨some 14, .call (.lit (.fn 19 [])) [(.tmp 13)], none, [1]⟩,
 ⟨some 15, .mv (.tmp 0), none, []⟩,
 ⟨some 16, .mv (.tmp 4), none, []⟩,
 ⟨some 17, .idxA 1 (.tmp 15) (.tmp 16), none, [3, 4]⟩,
 ⟨some 18, .load none (.tmp 17), none, [5]⟩,
 ⟨some 19, .bin .rem .int (.tmp 18) (.lit (.int .u8 10)), none, [6]⟩,
 ⟨some 20, .cint .i64 (.tmp 19), none, [7]⟩,
 ⟨some 21, .mv (.tmp 4), none, []⟩,
 ⟨some 22, .bin .rem .int (.tmp 21) (.lit (.int .i64 26)), none, [9]⟩,
 ⟨some 23, .cint .u8 (.tmp 22), none, [10]⟩,
 ⟨some 24, .bin .add .int (.lit (.int .u8 97)) (.tmp 23), none, [11]⟩,
 ⟨some 25, .layB 0 1 [(.int .u8 0)] 1 [(0, 1, (.tmp 24))], none, [12]⟩,
 ⟨some 26, .bstr (.tmp 25), none, [13]⟩,
 ⟨some 27, .build [(.int .i64 0), (.int .i64 0), (.str [])] [(2, 1, (.tmp 26))], none, [14]⟩,
 ⟨some 28, .layB 1 3 [(.int .i64 0), (.int .i64 0), (.str [])] 1 [(0, 3, (.tmp 27))], none, [15]⟩,
 ⟨some 29, .call (.lit (.fn 42 [])) [(.tmp 12), (.tmp 14), (.tmp 20), (.lit (.int .i64 0)), (.tmp 28)], none, [0, 2, 8, 16, 2]⟩]))
(.reg none [⟨some 10, .mv (.tmp 4), none, []⟩,
 ⟨some 11, .bin .add .int (.tmp 10) (.lit (.int .i64 1)), none, [0]⟩,
 ⟨some 4, .mv (.tmp 11), none, [1, 0, 1]⟩]))))))
(.seq (.reg none [⟨some 30, .mv (.tmp 3), none, []⟩,
 ⟨some 2, .mv (.tmp 30), none, [0, 0]⟩])
.ret)))) }
theorem c_palinodelaw21_made : cFunc Tryz.prog n_palinodelaw21_made = some f_palinodelaw21_made := by kernel_rfl
/-- palinode/undo.All -/
def f_undo_All : SFunc := { ntmps := 36, results := [.tmp 4, .tmp 5], body :=
(.seq (.reg none [⟨some 4, .mv (.lit (.int .i64 0)), none, []⟩,
 ⟨some 5, .mv (.lit (.int .i64 0)), none, [0]⟩])
(.seq (.reg none [⟨some 11, .mv (.tmp 0), none, []⟩,
 ⟨some 12, .call (.lit (.fn 39 [])) [(.tmp 11)], none, [0]⟩,
 ⟨some 6, .mv (.tmp 12), none, [1, 1, 0, 1]⟩])
(.seq (.seq (.reg none [⟨some 13, .mv (.tmp 1), none, []⟩,
 ⟨some 14, .len (.tmp 13), none, [0]⟩,
 ⟨some 15, .mv (.lit (.int .i64 0)), none, []⟩])
(.block 0 (.loop (.seq (.reg none [⟨some 16, .bin .lss .int (.tmp 15) (.tmp 14), none, []⟩])
(.seq (.cond (.tmp 16) .skip (.exit 0))
(.seq (.block 1 (.seq (.reg none [⟨some 17, .idxA 1 (.tmp 13) (.tmp 15), none, []⟩,
 ⟨some 18, .load none (.tmp 17), none, [0]⟩,
 ⟨some 8, .mv (.tmp 18), none, [1, 0, 1]⟩])
(.seq (.reg none [⟨some 20, .mv (.tmp 6), none, []⟩,
 ⟨some 21, .mv (.tmp 8), none, []⟩,
 ⟨some 22, .call (.lit (.fn 43 [])) [(.tmp 20), (.tmp 21)], none, [0, 1]⟩,
 ⟨some 19, .mv (.tmp 22), none, [2]⟩,
 ⟨some 23, .ext (.tmp 19) 0, none, [3]⟩,
 ⟨some 24, .ext (.tmp 19) 1, none, [3]⟩,
 ⟨some 9, .mv (.tmp 23), none, [4, 2, 0, 1, 2, 3, 4]⟩,
 ⟨some 10, .mv (.tmp 24), none, [5, 6, 0, 1, 2, 3, 4, 5, 6]⟩])
(.seq (.reg none [⟨some 25, .mv (.tmp 10), none, []⟩,
 ⟨some 26, .bin .neq .int (.tmp 25) (.lit (.int .i64 0)), none, [0]⟩])
(.cond (.tmp 26) (.seq (.reg none [⟨some 27, .mv (.tmp 10), none, []⟩,
 ⟨some 4, .mv (.lit (.int .i64 0)), none, []⟩,
 ⟨some 5, .mv (.tmp 27), none, [0, 1, 0, 1]⟩])
.ret) .skip)))))
(.reg none [⟨some 28, .bin .add .int (.tmp 15) (.lit (.int .i64 1)), none, []⟩,
 ⟨some 15, .mv (.tmp 28), none, [0]⟩])))))))
(.seq (.reg none [⟨some 29, .mv (.tmp 0), none, []⟩,
 ⟨some 30, .mv (.tmp 6), none, []⟩,
 ⟨some 31, .nilc (.tmp 30), none, [1]⟩,
 ⟨some 32, .load (some 2) (.tmp 31), none, [2]⟩,
 ⟨some 33, .nilc (.tmp 29), none, [0, 0, 1, 2, 3]⟩,
 ⟨none, .store 2 (.tmp 33) (.tmp 32), none, [4, 3, 0, 1, 2, 3]⟩])
(.seq (.reg none [⟨some 34, .mv (.tmp 0), none, []⟩,
 ⟨some 35, .call (.lit (.fn 19 [])) [(.tmp 34)], none, [0]⟩,
 ⟨some 4, .mv (.tmp 35), none, [1, 1, 0, 1]⟩,
 ⟨some 5, .mv (.lit (.int .i64 0)), none, [2, 0, 1, 2]⟩])
.ret))))) }
theorem c_undo_All : cFunc Tryz.prog n_undo_All = some f_undo_All := by kernel_rfl
/-- (*palinode/engine.Engine).Undone -/
def f_engine_Engine_Undone : SFunc := { ntmps := 10, results := [.tmp 2], body :=
(.seq (.reg none [⟨some 2, .mv (.lit .nils), none, []⟩])
(.seq (.reg (some [0, 1, 3, 7, 0, 16, 63, 127]) [⟨some 3, .mv (.tmp 0), none, []⟩,
 ⟨some 4, .nilc (.tmp 3), none, [0]⟩,
 ⟨some 5, .fldA 1 (.tmp 4), none, [1]⟩,
 ⟨some 6, .load none (.tmp 5), none, [2]⟩,
 ⟨some 7, .mv (.tmp 0), none, []⟩,
 ⟨some 8, .call (.lit (.fn 19 [])) [(.tmp 7)], none, [4]⟩,
 ⟨some 9, .call (.lit (.fn 63 [])) [(.tmp 6), (.tmp 8)], none, [3, 5, 5]⟩,
 ⟨some 2, .mv (.tmp 9), none, [6, 6, 0, 1, 2, 3, 4, 5, 6]⟩])
.ret)) }
theorem c_engine_Engine_Undone : cFunc Tryz.prog n_engine_Engine_Undone = some f_engine_Engine_Undone := by kernel_rfl
/-- (*palinode/engine.Engine).Head -/
def f_engine_Engine_Head : SFunc := { ntmps := 8, results := [.tmp 2], body :=
(.seq (.reg none [⟨some 2, .mv (.lit (.int .i64 0)), none, []⟩])
(.seq (.reg none [⟨some 3, .mv (.tmp 0), none, []⟩,
 ⟨some 4, .nilc (.tmp 3), none, [0]⟩,
 ⟨some 5, .fldA 1 (.tmp 4), none, [1]⟩,
 ⟨some 6, .load none (.tmp 5), none, [2]⟩,
 ⟨some 7, .call (.lit (.fn 64 [])) [(.tmp 6)], none, [3]⟩,
 ⟨some 2, .mv (.tmp 7), none, [4, 4, 0, 1, 2, 3, 4]⟩])
.ret)) }
theorem c_engine_Engine_Head : cFunc Tryz.prog n_engine_Engine_Head = some f_engine_Engine_Head := by kernel_rfl
/-- (*palinode/engine.Engine).Groups -/
def f_engine_Engine_Groups : SFunc := { ntmps := 8, results := [.tmp 2], body :=
(.seq (.reg none [⟨some 2, .mv (.lit .nils), none, []⟩])
(.seq (.reg none [⟨some 3, .mv (.tmp 0), none, []⟩,
 ⟨some 4, .nilc (.tmp 3), none, [0]⟩,
 ⟨some 5, .fldA 1 (.tmp 4), none, [1]⟩,
 ⟨some 6, .load none (.tmp 5), none, [2]⟩,
 ⟨some 7, .call (.lit (.fn 65 [])) [(.tmp 6)], none, [3]⟩,
 ⟨some 2, .mv (.tmp 7), none, [4, 4, 0, 1, 2, 3, 4]⟩])
.ret)) }
theorem c_engine_Engine_Groups : cFunc Tryz.prog n_engine_Engine_Groups = some f_engine_Engine_Groups := by kernel_rfl
/-- palinode/undo.Only -/
def f_undo_Only : SFunc := { ntmps := 31, results := [.tmp 4, .tmp 5], body :=
(.seq (.reg none [⟨some 3, .box (.tmp 1), none, []⟩,
 ⟨some 4, .mv (.lit (.int .i64 0)), none, []⟩,
 ⟨some 5, .mv (.lit (.int .i64 0)), none, [1]⟩])
(.seq (.seq (.reg (some [0, 1, 0, 7, 15]) [⟨some 7, .mv (.tmp 0), none, []⟩,
 ⟨some 8, .call (.lit (.fn 20 [])) [(.tmp 7)], none, [0]⟩,
 ⟨some 9, .load none (.tmp 3), none, []⟩,
 ⟨some 10, .call (.lit (.fn 66 [])) [(.tmp 8), (.tmp 9)], none, [1, 2, 1]⟩,
 ⟨some 11, .not (.tmp 10), none, [3]⟩])
(.cond (.tmp 11) (.seq (.reg none [⟨some 4, .mv (.lit (.int .i64 0)), none, []⟩,
 ⟨some 5, .mv (.lit (.int .i64 210)), none, [0, 0]⟩])
.ret) .skip))
(.seq (.reg none [⟨some 12, .mv (.tmp 0), none, []⟩,
 ⟨some 13, .call (.lit (.fn 68 [])) [(.tmp 12)], none, [0]⟩,
 ⟨some 14, .mkfn 69 [(.tmp 3)], none, []⟩,
 ⟨some 15, .call (.lit (.fn 67 [])) [(.tmp 13), (.tmp 14)], none, [1, 2, 1]⟩,
 ⟨some 6, .mv (.tmp 15), none, [3, 3, 0, 1, 2, 3]⟩])
(.seq (.seq (.reg (some [0, 1, 0, 7]) [⟨some 16, .mv (.tmp 0), none, []⟩,
 ⟨some 17, .call (.lit (.fn 18 [])) [(.tmp 16)], none, [0]⟩,
 ⟨some 18, .load none (.tmp 3), none, []⟩,
 ⟨some 19, .call (.lit (.fn 66 [])) [(.tmp 17), (.tmp 18)], none, [1, 2, 1]⟩])
(.cond (.tmp 19) (.reg none [⟨some 20, .mv (.tmp 6), none, []⟩,
 ⟨some 21, .load none (.tmp 3), none, []⟩,
 ⟨some 22, .bslc 1 [(.int .i64 0)] 1 [(0, 1, (.tmp 21))], none, [1]⟩,
 ⟨some 23, .app 3 1 8 (.tmp 20) (.tmp 22), none, [0, 2]⟩,
 ⟨some 6, .mv (.tmp 23), none, [3, 3, 0, 1, 2, 3]⟩]) .skip))
(.seq (.reg none [⟨some 24, .mv (.tmp 6), none, []⟩,
 ⟨some 25, .call (.lit (.fn 70 [])) [(.tmp 24)], none, [0]⟩])
(.seq (.reg none [⟨some 26, .mv (.tmp 0), none, []⟩,
 ⟨some 27, .mv (.tmp 6), none, []⟩,
 ⟨some 28, .call (.lit (.fn 17 [])) [(.tmp 26), (.tmp 27)], none, [0, 1]⟩,
 ⟨some 29, .ext (.tmp 28) 0, none, [2]⟩,
 ⟨some 30, .ext (.tmp 28) 1, none, [2]⟩,
 ⟨some 4, .mv (.tmp 29), none, [3, 2, 0, 1, 2, 3, 4]⟩,
 ⟨some 5, .mv (.tmp 30), none, [4, 5, 0, 1, 2, 3, 4, 5]⟩])
.ret)))))) }
theorem c_undo_Only : cFunc Tryz.prog n_undo_Only = some f_undo_Only := by kernel_rfl
/-- palinode/palinoderef17.In -/
def f_palinoderef17_In : SFunc := { ntmps := 18, results := [.tmp 4], body :=
(.seq (.reg none [⟨some 4, .mv (.lit (.bool false)), none, []⟩])
(.seq (.seq (.reg none [⟨some 5, .mv (.lit (.int .i64 0)), none, []⟩])
(.block 0 (.loop (.seq (.seq (.reg none [⟨some 6, .mv (.tmp 5), none, []⟩,
 ⟨some 7, .mv (.tmp 0), none, []⟩,
 ⟨some 8, .len (.tmp 7), none, [1]⟩,
 ⟨some 9, .bin .lss .int (.tmp 6) (.tmp 8), none, [0, 2]⟩])
(.cond (.tmp 9) .skip (.exit 0)))
(.seq (.block 1 (.seq (.reg none [⟨some 12, .mv (.tmp 0), none, []⟩,
 ⟨some 13, .mv (.tmp 5), none, []⟩,
 ⟨some 14, .idxA 1 (.tmp 12) (.tmp 13), none, [0, 1]⟩,
 ⟨some 15, .load none (.tmp 14), none, [2]⟩,
 ⟨some 16, .mv (.tmp 1), none, []⟩,
 ⟨some 17, .bin .eql .int (.tmp 15) (.tmp 16), none, [3, 4]⟩])
(.cond (.tmp 17) (.seq (.reg none [⟨some 4, .mv (.lit (.bool true)), none, []⟩])
.ret) .skip)))
(.reg none [⟨some 10, .mv (.tmp 5), none, []⟩,
 ⟨some 11, .bin .add .int (.tmp 10) (.lit (.int .i64 1)), none, [0]⟩,
 ⟨some 5, .mv (.tmp 11), none, [1, 0, 1]⟩]))))))
(.seq (.reg none [⟨some 4, .mv (.lit (.bool false)), none, []⟩])
.ret))) }
theorem c_palinoderef17_In : cFunc Tryz.prog n_palinoderef17_In = some f_palinoderef17_In := by kernel_rfl
/-- palinode/palinodelaw21.same -/
def f_palinodelaw21_same : SFunc := { ntmps := 26, results := [.tmp 4], body :=
(.seq (.reg none [⟨some 4, .mv (.lit (.bool false)), none, []⟩])
(.seq (.seq (.reg none [⟨some 6, .mv (.tmp 0), none, []⟩,
 ⟨some 7, .len (.tmp 6), none, [0]⟩,
 ⟨some 8, .mv (.tmp 1), none, []⟩,
 ⟨some 9, .len (.tmp 8), none, [2]⟩,
 ⟨some 10, .bin .neq .int (.tmp 7) (.tmp 9), none, [1, 3]⟩])
(.cond (.tmp 10) (.seq (.reg none [⟨some 4, .mv (.lit (.bool false)), none, []⟩])
.ret) .skip))
(.seq (.seq (.reg none [⟨some 5, .mv (.lit (.int .i64 0)), none, []⟩])
(.block 0 (.loop (.seq (.seq (.reg none [⟨some 11, .mv (.tmp 5), none, []⟩,
 ⟨some 12, .mv (.tmp 0), none, []⟩,
 ⟨some 13, .len (.tmp 12), none, [1]⟩,
 ⟨some 14, .bin .lss .int (.tmp 11) (.tmp 13), none, [0, 2]⟩])
(.cond (.tmp 14) .skip (.exit 0)))
(.seq (.block 1 (.seq (.reg (some [0, 0, 3, 7, 0, 0, 48, 112, 255]) [⟨some 17, .mv (.tmp 0), none, []⟩,
 ⟨some 18, .mv (.tmp 5), none, []⟩,
 ⟨some 19, .idxA 1 (.tmp 17) (.tmp 18), none, [0, 1]⟩,
 ⟨some 20, .load none (.tmp 19), none, [2]⟩,
 ⟨some 21, .mv (.tmp 1), none, []⟩,
 ⟨some 22, .mv (.tmp 5), none, []⟩,
 ⟨some 23, .idxA 1 (.tmp 21) (.tmp 22), none, [4, 5]⟩,
 ⟨some 24, .load none (.tmp 23), none, [6]⟩,
 ⟨some 25, .bin .neq .int (.tmp 20) (.tmp 24), none, [3, 7]⟩])
(.cond (.tmp 25) (.seq (.reg none [⟨some 4, .mv (.lit (.bool false)), none, []⟩])
.ret) .skip)))
(.reg none [⟨some 15, .mv (.tmp 5), none, []⟩,
 ⟨some 16, .bin .add .int (.tmp 15) (.lit (.int .i64 1)), none, [0]⟩,
 ⟨some 5, .mv (.tmp 16), none, [1, 0, 1]⟩]))))))
(.seq (.reg none [⟨some 4, .mv (.lit (.bool true)), none, []⟩])
.ret)))) }
theorem c_palinodelaw21_same : cFunc Tryz.prog n_palinodelaw21_same = some f_palinodelaw21_same := by kernel_rfl
/-- (*palinode/engine.Engine).Text -/
def f_engine_Engine_Text : SFunc := { ntmps := 19, results := [.tmp 4, .tmp 5], body :=
(.seq (.reg none [⟨some 4, .mv (.lit (.str [])), none, []⟩,
 ⟨some 5, .mv (.lit (.int .i64 0)), none, [0]⟩])
(.seq (.seq (.reg none [⟨some 6, .mv (.tmp 0), none, []⟩,
 ⟨some 7, .mv (.tmp 1), none, []⟩,
 ⟨some 8, .call (.lit (.fn 71 [])) [(.tmp 6), (.tmp 7)], none, [0, 1]⟩,
 ⟨some 9, .not (.tmp 8), none, [2]⟩])
(.cond (.tmp 9) (.seq (.reg none [⟨some 4, .mv (.lit (.str [])), none, []⟩,
 ⟨some 5, .mv (.lit (.int .i64 190)), none, [0, 0]⟩])
.ret) .skip))
(.seq (.reg (some [0, 1, 3, 7, 0, 0, 0, 96, 255, 511, 1023]) [⟨some 10, .mv (.tmp 0), none, []⟩,
 ⟨some 11, .nilc (.tmp 10), none, [0]⟩,
 ⟨some 12, .fldA 0 (.tmp 11), none, [1]⟩,
 ⟨some 13, .load none (.tmp 12), none, [2]⟩,
 ⟨some 14, .mv (.tmp 1), none, []⟩,
 ⟨some 15, .mv (.tmp 0), none, []⟩,
 ⟨some 16, .mv (.tmp 1), none, []⟩,
 ⟨some 17, .call (.lit (.fn 73 [])) [(.tmp 15), (.tmp 16)], none, [5, 6]⟩,
 ⟨some 18, .call (.lit (.fn 72 [])) [(.tmp 13), (.tmp 14), (.tmp 17)], none, [3, 4, 7, 7]⟩,
 ⟨some 4, .mv (.tmp 18), none, [8, 8, 0, 1, 2, 3, 4, 5, 6, 7, 8]⟩,
 ⟨some 5, .mv (.lit (.int .i64 0)), none, [9, 0, 1, 2, 3, 4, 5, 6, 7, 8, 9]⟩])
.ret))) }
theorem c_engine_Engine_Text : cFunc Tryz.prog n_engine_Engine_Text = some f_engine_Engine_Text := by kernel_rfl
/-- palinode/undo.Without -/
def f_undo_Without : SFunc := { ntmps := 28, results := [.tmp 4, .tmp 5], body :=
(.seq (.reg none [⟨some 4, .mv (.lit (.str [])), none, []⟩,
 ⟨some 5, .mv (.lit (.int .i64 0)), none, [0]⟩])
(.seq (.reg none [⟨some 9, .mv (.tmp 0), none, []⟩,
 ⟨some 10, .call (.lit (.fn 20 [])) [(.tmp 9)], none, [0]⟩,
 ⟨some 6, .mv (.tmp 10), none, [1, 1, 0, 1]⟩])
(.seq (.seq (.reg none [⟨some 11, .mv (.tmp 1), none, []⟩,
 ⟨some 12, .len (.tmp 11), none, [0]⟩,
 ⟨some 13, .mv (.lit (.int .i64 0)), none, []⟩])
(.block 0 (.loop (.seq (.reg none [⟨some 14, .bin .lss .int (.tmp 13) (.tmp 12), none, []⟩])
(.seq (.cond (.tmp 14) .skip (.exit 0))
(.seq (.block 1 (.seq (.reg none [⟨some 15, .idxA 1 (.tmp 11) (.tmp 13), none, []⟩,
 ⟨some 16, .load none (.tmp 15), none, [0]⟩,
 ⟨some 8, .mv (.tmp 16), none, [1, 0, 1]⟩])
(.seq (.reg none [⟨some 17, .mv (.tmp 6), none, []⟩,
 ⟨some 18, .mv (.tmp 8), none, []⟩,
 ⟨some 19, .call (.lit (.fn 66 [])) [(.tmp 17), (.tmp 18)], none, [0, 1]⟩,
 ⟨some 20, .not (.tmp 19), none, [2]⟩])
(.cond (.tmp 20) (.seq (.reg none [⟨some 4, .mv (.lit (.str [])), none, []⟩,
 ⟨some 5, .mv (.lit (.int .i64 210)), none, [0, 0]⟩])
.ret) .skip))))
(.reg none [⟨some 21, .bin .add .int (.tmp 13) (.lit (.int .i64 1)), none, []⟩,
 ⟨some 13, .mv (.tmp 21), none, [0]⟩])))))))
(.seq (.reg none [⟨some 22, .mv (.tmp 0), none, []⟩,
 ⟨some 23, .call (.lit (.fn 36 [])) [(.tmp 22)], none, [0]⟩,
 ⟨some 24, .mv (.tmp 0), none, []⟩,
 ⟨some 25, .call (.lit (.fn 19 [])) [(.tmp 24)], none, [2, 1]⟩,
 ⟨some 26, .mv (.tmp 1), none, []⟩,
 ⟨some 27, .call (.lit (.fn 72 [])) [(.tmp 23), (.tmp 25), (.tmp 26)], none, [1, 3, 4, 3]⟩,
 ⟨some 4, .mv (.tmp 27), none, [5, 5, 0, 1, 2, 3, 4, 5]⟩,
 ⟨some 5, .mv (.lit (.int .i64 0)), none, [6, 0, 1, 2, 3, 4, 5, 6]⟩])
.ret)))) }
theorem c_undo_Without : cFunc Tryz.prog n_undo_Without = some f_undo_Without := by kernel_rfl
/-- (*palinode/engine.Engine).Atoms -/
def f_engine_Engine_Atoms : SFunc := { ntmps := 8, results := [.tmp 2], body :=
(.seq (.reg none [⟨some 2, .mv (.lit .nils), none, []⟩])
(.seq (.reg none [⟨some 3, .mv (.tmp 0), none, []⟩,
 ⟨some 4, .nilc (.tmp 3), none, [0]⟩,
 ⟨some 5, .fldA 0 (.tmp 4), none, [1]⟩,
 ⟨some 6, .load none (.tmp 5), none, [2]⟩,
 ⟨some 7, .call (.lit (.fn 83 [])) [(.tmp 6)], none, [3]⟩,
 ⟨some 2, .mv (.tmp 7), none, [4, 4, 0, 1, 2, 3, 4]⟩])
.ret)) }
theorem c_engine_Engine_Atoms : cFunc Tryz.prog n_engine_Engine_Atoms = some f_engine_Engine_Atoms := by kernel_rfl
/-- (*palinode/engine.Engine).Copy -/
def f_engine_Engine_Copy : SFunc := { ntmps := 15, results := [.tmp 2], body :=
(.seq (.reg none [⟨some 2, .mv (.lit .nilp), none, []⟩])
(.seq (.reg (some [0, 1, 3, 7, 15, 0, 32, 96, 224, 511, 1023, 2047, 4095]) [⟨some 3, .mv (.tmp 0), none, []⟩,
 ⟨some 4, .nilc (.tmp 3), none, [0]⟩,
 ⟨some 5, .fldA 0 (.tmp 4), none, [1]⟩,
 ⟨some 6, .load none (.tmp 5), none, [2]⟩,
 ⟨some 7, .call (.lit (.fn 83 [])) [(.tmp 6)], none, [3]⟩,
 ⟨some 8, .mv (.tmp 0), none, []⟩,
 ⟨some 9, .nilc (.tmp 8), none, [5]⟩,
 ⟨some 10, .fldA 1 (.tmp 9), none, [6]⟩,
 ⟨some 11, .load none (.tmp 10), none, [7]⟩,
 ⟨some 12, .call (.lit (.fn 85 [])) [(.tmp 11)], none, [8, 4]⟩,
 ⟨some 13, .build [.nils, .nilp] [(0, 1, (.tmp 7)), (1, 1, (.tmp 12))], none, [4, 9]⟩,
 ⟨some 14, .box (.tmp 13), none, [10]⟩,
 ⟨some 2, .mv (.tmp 14), none, [11, 9, 0, 1, 2, 3, 4, 5, 6, 7, 8, 9, 10, 11]⟩])
.ret)) }
theorem c_engine_Engine_Copy : cFunc Tryz.prog n_engine_Engine_Copy = some f_engine_Engine_Copy := by kernel_rfl
/-- palinode/engine.New -/
def f_engine_New : SFunc := { ntmps := 4, results := [.tmp 0], body :=
(.seq (.reg none [⟨some 0, .mv (.lit .nilp), none, []⟩])
(.seq (.reg none [⟨some 1, .call (.lit (.fn 88 [])) [], none, []⟩,
 ⟨some 2, .build [.nils, .nilp] [(1, 1, (.tmp 1))], none, [0]⟩,
 ⟨some 3, .box (.tmp 2), none, [1]⟩,
 ⟨some 0, .mv (.tmp 3), none, [2, 0, 0, 1, 2]⟩])
.ret)) }
theorem c_engine_New : cFunc Tryz.prog n_engine_New = some f_engine_New := by kernel_rfl
/-- (*palinode/engine.Engine).Edit -/
def f_engine_Engine_Edit : SFunc := { ntmps := 87, results := [.tmp 10, .tmp 11], body :=
(.seq (.reg none [⟨some 10, .mv (.lit (.int .i64 0)), none, []⟩,
 ⟨some 11, .mv (.lit (.int .i64 0)), none, [0]⟩])
(.seq (.reg none [⟨some 18, .mv (.tmp 0), none, []⟩,
 ⟨some 19, .mv (.tmp 1), none, []⟩,
 ⟨some 20, .call (.lit (.fn 24 [])) [(.tmp 18), (.tmp 19)], none, [0, 1]⟩,
 ⟨some 17, .mv (.tmp 20), none, [2]⟩,
 ⟨some 21, .ext (.tmp 17) 0, none, [3]⟩,
 ⟨some 22, .ext (.tmp 17) 1, none, [3]⟩,
 ⟨some 12, .mv (.tmp 21), none, [4, 2, 0, 1, 2, 3, 4]⟩,
 ⟨some 13, .mv (.tmp 22), none, [5, 6, 0, 1, 2, 3, 4, 5, 6]⟩])
(.seq (.seq (.reg none [⟨some 23, .mv (.tmp 13), none, []⟩,
 ⟨some 24, .bin .neq .int (.tmp 23) (.lit (.int .i64 0)), none, [0]⟩])
(.cond (.tmp 24) (.seq (.reg none [⟨some 25, .mv (.tmp 13), none, []⟩,
 ⟨some 10, .mv (.lit (.int .i64 0)), none, []⟩,
 ⟨some 11, .mv (.tmp 25), none, [0, 1, 0, 1]⟩])
.ret) .skip))
(.seq (.seq (.reg none [⟨some 26, .mv (.tmp 12), none, []⟩,
 ⟨some 27, .mv (.tmp 4), none, []⟩,
 ⟨some 28, .call (.lit (.fn 89 [])) [(.tmp 26), (.tmp 27)], none, [0, 1]⟩,
 ⟨some 14, .mv (.tmp 28), none, [2, 2, 0, 1, 2]⟩])
(.seq (.reg none [⟨some 29, .mv (.tmp 14), none, []⟩,
 ⟨some 30, .bin .neq .int (.tmp 29) (.lit (.int .i64 0)), none, [0]⟩])
(.cond (.tmp 30) (.seq (.reg none [⟨some 31, .mv (.tmp 14), none, []⟩,
 ⟨some 10, .mv (.lit (.int .i64 0)), none, []⟩,
 ⟨some 11, .mv (.tmp 31), none, [0, 1, 0, 1]⟩])
.ret) .skip)))
(.seq (.reg none [⟨some 32, .mv (.tmp 0), none, []⟩,
 ⟨some 33, .call (.lit (.fn 39 [])) [(.tmp 32)], none, [0]⟩,
 ⟨some 15, .mv (.tmp 33), none, [1, 1, 0, 1]⟩])
(.seq (.reg none [⟨some 35, .mv (.tmp 15), none, []⟩,
 ⟨some 36, .nilc (.tmp 35), none, [0]⟩,
 ⟨some 37, .fldA 1 (.tmp 36), none, [1]⟩,
 ⟨some 38, .load none (.tmp 37), none, [2]⟩,
 ⟨some 39, .mv (.tmp 2), none, []⟩,
 ⟨some 40, .call (.lit (.fn 90 [])) [(.tmp 38), (.tmp 39)], none, [3, 4]⟩,
 ⟨some 34, .mv (.tmp 40), none, [5]⟩,
 ⟨some 41, .ext (.tmp 34) 0, none, [6]⟩,
 ⟨some 42, .ext (.tmp 34) 1, none, [6]⟩,
 ⟨some 16, .mv (.tmp 41), none, [7, 5, 0, 1, 2, 3, 4, 5, 6, 7]⟩,
 ⟨some 13, .mv (.tmp 42), none, [8, 9, 0, 1, 2, 3, 4, 5, 6, 7, 8, 9]⟩])
(.seq (.block 0 (.seq (.reg none [⟨some 44, .mv (.tmp 13), none, []⟩,
 ⟨some 45, .bin .neq .int (.tmp 44) (.lit (.int .i64 0)), none, [0]⟩,
 ⟨some 43, .mv (.tmp 45), none, [1]⟩])
(.cond (.tmp 43) (.seq (.reg none [⟨some 46, .mv (.tmp 13), none, []⟩,
 ⟨some 10, .mv (.lit (.int .i64 0)), none, []⟩,
 ⟨some 11, .mv (.tmp 46), none, [0, 1, 0, 1]⟩])
.ret) (.seq (.reg none [⟨some 48, .mv (.tmp 3), none, []⟩,
 ⟨some 49, .bin .lss .int (.tmp 48) (.lit (.int .i64 0)), none, [0]⟩,
 ⟨some 50, .mv (.tmp 49), none, [1]⟩,
 ⟨some 51, .mv (.tmp 3), some (50, false), [2]⟩,
 ⟨some 52, .bin .gtr .int (.tmp 51) (.lit (.int .i64 1000000)), some (50, false), [3, 2]⟩,
 ⟨some 53, .pick (.tmp 50) (.lit (.bool true)) (.tmp 52), none, [2, 4]⟩,
 ⟨some 47, .mv (.tmp 53), none, [5, 2]⟩])
(.cond (.tmp 47) (.seq (.reg none [⟨some 10, .mv (.lit (.int .i64 0)), none, []⟩,
 ⟨some 11, .mv (.lit (.int .i64 10)), none, [0, 0]⟩])
.ret) .skip)))))
(.seq (.reg (some [0, 0, 2, 6, 14, 0, 0, 0, 192, 0, 0, 0, 0, 8190, 16383, 32767, 65535]) [⟨some 54, .mv (.tmp 15), none, []⟩,
 ⟨some 55, .mv (.tmp 0), none, []⟩,
 ⟨some 56, .nilc (.tmp 55), none, [1]⟩,
 ⟨some 57, .fldA 0 (.tmp 56), none, [2]⟩,
 ⟨some 58, .load none (.tmp 57), none, [3]⟩,
 ⟨some 59, .mv (.tmp 1), none, []⟩,
 ⟨some 60, .mv (.tmp 0), none, []⟩,
 ⟨some 61, .mv (.tmp 1), none, []⟩,
 ⟨some 62, .call (.lit (.fn 73 [])) [(.tmp 60), (.tmp 61)], none, [6, 7]⟩,
 ⟨some 63, .mv (.tmp 4), none, []⟩,
 ⟨some 64, .mv (.tmp 16), none, []⟩,
 ⟨some 65, .mv (.tmp 2), none, []⟩,
 ⟨some 66, .mv (.tmp 3), none, []⟩,
 ⟨some 67, .call (.lit (.fn 91 [])) [(.tmp 58), (.tmp 59), (.tmp 62), (.tmp 63), (.tmp 64), (.tmp 65), (.tmp 66)], none, [4, 5, 8, 9, 10, 11, 12, 8]⟩,
 ⟨some 68, .nilc (.tmp 54), none, [0, 0, 1, 2, 3, 4, 5, 6, 7, 8, 9, 10, 11, 12, 13]⟩,
 ⟨some 69, .fldA 0 (.tmp 68), none, [14, 0, 1, 2, 3, 4, 5, 6, 7, 8, 9, 10, 11, 12, 13]⟩,
 ⟨none, .store 1 (.tmp 69) (.tmp 67), none, [15, 13, 13, 0, 1, 2, 3, 4, 5, 6, 7, 8, 9, 10, 11, 12, 13]⟩])
(.seq (.block 1 (.seq (.reg none [⟨some 71, .mv (.tmp 15), none, []⟩,
 ⟨some 72, .nilc (.tmp 71), none, [0]⟩,
 ⟨some 73, .fldA 0 (.tmp 72), none, [1]⟩,
 ⟨some 74, .load none (.tmp 73), none, [2]⟩,
 ⟨some 75, .len (.tmp 74), none, [3]⟩,
 ⟨some 76, .bin .gtr .int (.tmp 75) (.lit (.int .i64 4000)), none, [4]⟩,
 ⟨some 70, .mv (.tmp 76), none, [5]⟩])
(.cond (.tmp 70) (.seq (.reg none [⟨some 10, .mv (.lit (.int .i64 0)), none, []⟩,
 ⟨some 11, .mv (.lit (.int .i64 70)), none, [0, 0]⟩])
.ret) (.seq (.reg none [⟨some 78, .mv (.tmp 15), none, []⟩,
 ⟨some 79, .call (.lit (.fn 92 [])) [(.tmp 78)], none, [0]⟩,
 ⟨some 80, .not (.tmp 79), none, [1]⟩,
 ⟨some 77, .mv (.tmp 80), none, [2, 1]⟩])
(.cond (.tmp 77) (.seq (.reg none [⟨some 10, .mv (.lit (.int .i64 0)), none, []⟩,
 ⟨some 11, .mv (.lit (.int .i64 13)), none, [0, 0]⟩])
.ret) .skip)))))
(.seq (.reg none [⟨some 81, .mv (.tmp 0), none, []⟩,
 ⟨some 82, .mv (.tmp 15), none, []⟩,
 ⟨some 83, .nilc (.tmp 82), none, [1]⟩,
 ⟨some 84, .load (some 2) (.tmp 83), none, [2]⟩,
 ⟨some 85, .nilc (.tmp 81), none, [0, 0, 1, 2, 3]⟩,
 ⟨none, .store 2 (.tmp 85) (.tmp 84), none, [4, 3, 0, 1, 2, 3]⟩])
(.seq (.reg none [⟨some 86, .mv (.tmp 16), none, []⟩,
 ⟨some 10, .mv (.tmp 86), none, [0, 0]⟩,
 ⟨some 11, .mv (.lit (.int .i64 0)), none, [1, 0, 1]⟩])
.ret))))))))))) }
theorem c_engine_Engine_Edit : cFunc Tryz.prog n_engine_Engine_Edit = some f_engine_Engine_Edit := by kernel_rfl
/-- (*palinode/engine.Engine).Toggle -/
def f_engine_Engine_Toggle : SFunc := { ntmps := 34, results := [.tmp 4, .tmp 5], body :=
(.seq (.reg none [⟨some 4, .mv (.lit (.int .i64 0)), none, []⟩,
 ⟨some 5, .mv (.lit (.int .i64 0)), none, [0]⟩])
(.seq (.reg none [⟨some 9, .mv (.tmp 0), none, []⟩,
 ⟨some 10, .call (.lit (.fn 39 [])) [(.tmp 9)], none, [0]⟩,
 ⟨some 6, .mv (.tmp 10), none, [1, 1, 0, 1]⟩])
(.seq (.reg none [⟨some 12, .mv (.tmp 6), none, []⟩,
 ⟨some 13, .nilc (.tmp 12), none, [0]⟩,
 ⟨some 14, .fldA 1 (.tmp 13), none, [1]⟩,
 ⟨some 15, .load none (.tmp 14), none, [2]⟩,
 ⟨some 16, .mv (.tmp 1), none, []⟩,
 ⟨some 17, .call (.lit (.fn 93 [])) [(.tmp 15), (.tmp 16)], none, [3, 4]⟩,
 ⟨some 11, .mv (.tmp 17), none, [5]⟩,
 ⟨some 18, .ext (.tmp 11) 0, none, [6]⟩,
 ⟨some 19, .ext (.tmp 11) 1, none, [6]⟩,
 ⟨some 7, .mv (.tmp 18), none, [7, 5, 0, 1, 2, 3, 4, 5, 6, 7]⟩,
 ⟨some 8, .mv (.tmp 19), none, [8, 9, 0, 1, 2, 3, 4, 5, 6, 7, 8, 9]⟩])
(.seq (.block 0 (.seq (.reg none [⟨some 21, .mv (.tmp 8), none, []⟩,
 ⟨some 22, .bin .neq .int (.tmp 21) (.lit (.int .i64 0)), none, [0]⟩,
 ⟨some 20, .mv (.tmp 22), none, [1]⟩])
(.cond (.tmp 20) (.seq (.reg none [⟨some 23, .mv (.tmp 8), none, []⟩,
 ⟨some 4, .mv (.lit (.int .i64 0)), none, []⟩,
 ⟨some 5, .mv (.tmp 23), none, [0, 1, 0, 1]⟩])
.ret) (.seq (.reg none [⟨some 25, .mv (.tmp 6), none, []⟩,
 ⟨some 26, .call (.lit (.fn 92 [])) [(.tmp 25)], none, [0]⟩,
 ⟨some 27, .not (.tmp 26), none, [1]⟩,
 ⟨some 24, .mv (.tmp 27), none, [2, 1]⟩])
(.cond (.tmp 24) (.seq (.reg none [⟨some 4, .mv (.lit (.int .i64 0)), none, []⟩,
 ⟨some 5, .mv (.lit (.int .i64 13)), none, [0, 0]⟩])
.ret) .skip)))))
(.seq (.reg none [⟨some 28, .mv (.tmp 0), none, []⟩,
 ⟨some 29, .mv (.tmp 6), none, []⟩,
 ⟨some 30, .nilc (.tmp 29), none, [1]⟩,
 ⟨some 31, .load (some 2) (.tmp 30), none, [2]⟩,
 ⟨some 32, .nilc (.tmp 28), none, [0, 0, 1, 2, 3]⟩,
 ⟨none, .store 2 (.tmp 32) (.tmp 31), none, [4, 3, 0, 1, 2, 3]⟩])
(.seq (.reg none [⟨some 33, .mv (.tmp 7), none, []⟩,
 ⟨some 4, .mv (.tmp 33), none, [0, 0]⟩,
 ⟨some 5, .mv (.lit (.int .i64 0)), none, [1, 0, 1]⟩])
.ret)))))) }
theorem c_engine_Engine_Toggle : cFunc Tryz.prog n_engine_Engine_Toggle = some f_engine_Engine_Toggle := by kernel_rfl
/-- palinode/undo.Last -/
def f_undo_Last : SFunc := { ntmps := 20, results := [.tmp 2, .tmp 3], body :=
(.seq (.reg none [⟨some 2, .mv (.lit (.int .i64 0)), none, []⟩,
 ⟨some 3, .mv (.lit (.int .i64 0)), none, [0]⟩])
(.seq (.reg none [⟨some 5, .mv (.tmp 0), none, []⟩,
 ⟨some 6, .call (.lit (.fn 68 [])) [(.tmp 5)], none, [0]⟩,
 ⟨some 4, .mv (.tmp 6), none, [1, 1, 0, 1]⟩])
(.seq (.seq (.reg none [⟨some 7, .mv (.tmp 4), none, []⟩,
 ⟨some 8, .len (.tmp 7), none, [0]⟩,
 ⟨some 9, .bin .eql .int (.tmp 8) (.lit (.int .i64 0)), none, [1]⟩])
(.cond (.tmp 9) (.seq (.reg none [⟨some 2, .mv (.lit (.int .i64 0)), none, []⟩,
 ⟨some 3, .mv (.lit (.int .i64 210)), none, [0, 0]⟩])
.ret) .skip))
(.seq (.reg none [⟨some 10, .mv (.tmp 0), none, []⟩,
 ⟨some 11, .mv (.tmp 4), none, []⟩,
 ⟨some 12, .mv (.tmp 4), none, []⟩,
 ⟨some 13, .len (.tmp 12), none, [2]⟩,
 ⟨some 14, .bin .sub .int (.tmp 13) (.lit (.int .i64 1)), none, [3]⟩,
 ⟨some 15, .idxA 1 (.tmp 11) (.tmp 14), none, [1, 4]⟩,
 ⟨some 16, .load none (.tmp 15), none, [5]⟩,
 ⟨some 17, .call (.lit (.fn 43 [])) [(.tmp 10), (.tmp 16)], none, [0, 6]⟩,
 ⟨some 18, .ext (.tmp 17) 0, none, [7]⟩,
 ⟨some 19, .ext (.tmp 17) 1, none, [7]⟩,
 ⟨some 2, .mv (.tmp 18), none, [8, 7, 0, 1, 2, 3, 4, 5, 6, 7, 8, 9]⟩,
 ⟨some 3, .mv (.tmp 19), none, [9, 10, 0, 1, 2, 3, 4, 5, 6, 7, 8, 9, 10]⟩])
.ret)))) }
theorem c_undo_Last : cFunc Tryz.prog n_undo_Last = some f_undo_Last := by kernel_rfl
/-- (*palinode/rev.Revs).Undone -/
def f_rev_Revs_Undone : SFunc := { ntmps := 22, results := [.tmp 4], body :=
(.seq (.reg none [⟨some 4, .mv (.lit .nils), none, []⟩])
(.seq (.seq (.reg none [⟨some 5, .mv (.tmp 0), none, []⟩,
 ⟨some 6, .mv (.tmp 1), none, []⟩,
 ⟨some 7, .call (.lit (.fn 108 [])) [(.tmp 5), (.tmp 6)], none, [0, 1]⟩,
 ⟨some 8, .not (.tmp 7), none, [2]⟩])
(.cond (.tmp 8) (.seq (.reg none [⟨some 4, .mv (.lit .nils), none, []⟩])
.ret) .skip))
(.seq (.reg (some [0, 1, 3, 7, 0, 0, 32, 96, 224, 496, 1023, 2047, 4095, 8191]) [⟨some 9, .mv (.tmp 0), none, []⟩,
 ⟨some 10, .nilc (.tmp 9), none, [0]⟩,
 ⟨some 11, .fldA 0 (.tmp 10), none, [1]⟩,
 ⟨some 12, .load none (.tmp 11), none, [2]⟩,
 ⟨some 13, .mv (.tmp 1), none, []⟩,
 ⟨some 14, .mv (.tmp 0), none, []⟩,
 ⟨some 15, .nilc (.tmp 14), none, [5]⟩,
 ⟨some 16, .fldA 1 (.tmp 15), none, [6]⟩,
 ⟨some 17, .load none (.tmp 16), none, [7]⟩,
 ⟨some 18, .bin .sub .int (.tmp 13) (.tmp 17), none, [4, 8]⟩,
 ⟨some 19, .idxA 1 (.tmp 12) (.tmp 18), none, [3, 9]⟩,
 ⟨some 20, .load none (.tmp 19), none, [10]⟩,
 ⟨some 21, .call (.lit (.fn 109 [])) [(.tmp 20)], none, [11]⟩,
 ⟨some 4, .mv (.tmp 21), none, [12, 12, 0, 1, 2, 3, 4, 5, 6, 7, 8, 9, 10, 11, 12]⟩])
.ret))) }
theorem c_rev_Revs_Undone : cFunc Tryz.prog n_rev_Revs_Undone = some f_rev_Revs_Undone := by kernel_rfl
/-- (*palinode/rev.Revs).Head -/
def f_rev_Revs_Head : SFunc := { ntmps := 14, results := [.tmp 2], body :=
(.seq (.reg none [⟨some 2, .mv (.lit (.int .i64 0)), none, []⟩])
(.seq (.reg (some [0, 1, 3, 7, 0, 16, 48, 112, 240, 511, 1023, 2047]) [⟨some 3, .mv (.tmp 0), none, []⟩,
 ⟨some 4, .nilc (.tmp 3), none, [0]⟩,
 ⟨some 5, .fldA 1 (.tmp 4), none, [1]⟩,
 ⟨some 6, .load none (.tmp 5), none, [2]⟩,
 ⟨some 7, .mv (.tmp 0), none, []⟩,
 ⟨some 8, .nilc (.tmp 7), none, [4]⟩,
 ⟨some 9, .fldA 0 (.tmp 8), none, [5]⟩,
 ⟨some 10, .load none (.tmp 9), none, [6]⟩,
 ⟨some 11, .len (.tmp 10), none, [7]⟩,
 ⟨some 12, .bin .add .int (.tmp 6) (.tmp 11), none, [3, 8]⟩,
 ⟨some 13, .bin .sub .int (.tmp 12) (.lit (.int .i64 1)), none, [9]⟩,
 ⟨some 2, .mv (.tmp 13), none, [10, 0, 1, 2, 3, 4, 5, 6, 7, 8, 9, 10]⟩])
.ret)) }
theorem c_rev_Revs_Head : cFunc Tryz.prog n_rev_Revs_Head = some f_rev_Revs_Head := by kernel_rfl
/-- (*palinode/rev.Revs).Groups -/
def f_rev_Revs_Groups : SFunc := { ntmps := 8, results := [.tmp 2], body :=
(.seq (.reg none [⟨some 2, .mv (.lit .nils), none, []⟩])
(.seq (.reg none [⟨some 3, .mv (.tmp 0), none, []⟩,
 ⟨some 4, .nilc (.tmp 3), none, [0]⟩,
 ⟨some 5, .fldA 2 (.tmp 4), none, [1]⟩,
 ⟨some 6, .load none (.tmp 5), none, [2]⟩,
 ⟨some 7, .call (.lit (.fn 109 [])) [(.tmp 6)], none, [3]⟩,
 ⟨some 2, .mv (.tmp 7), none, [4, 4, 0, 1, 2, 3, 4]⟩])
.ret)) }
theorem c_rev_Revs_Groups : cFunc Tryz.prog n_rev_Revs_Groups = some f_rev_Revs_Groups := by kernel_rfl
/-- slices.Contains[[]int,int] -/
def f_slices_Contains_int_int : SFunc := { ntmps := 9, results := [.tmp 4], body :=
(.seq (.reg none [⟨some 4, .mv (.lit (.bool false)), none, []⟩])
(.seq (.reg none [⟨some 5, .mv (.tmp 0), none, []⟩,
 ⟨some 6, .mv (.tmp 1), none, []⟩,
 ⟨some 7, .call (.lit (.fn 110 [])) [(.tmp 5), (.tmp 6)], none, [0, 1]⟩,
 ⟨some 8, .bin .geq .int (.tmp 7) (.lit (.int .i64 0)), none, [2]⟩,
 ⟨some 4, .mv (.tmp 8), none, [3, 2, 0, 1, 2, 3]⟩])
.ret)) }
theorem c_slices_Contains_int_int : cFunc Tryz.prog n_slices_Contains_int_int = some f_slices_Contains_int_int := by kernel_rfl
/-- slices.DeleteFunc[[]int,int] -/
def f_slices_DeleteFunc_int_int : SFunc := { ntmps := 42, results := [.tmp 4], body :=
(.seq (.reg none [⟨some 4, .mv (.lit .nils), none, []⟩])
(.seq (.reg none [⟨some 8, .mv (.tmp 0), none, []⟩,
 ⟨some 9, .mv (.tmp 1), none, []⟩,
 ⟨some 10, .call (.lit (.fn 111 [])) [(.tmp 8), (.tmp 9)], none, [0, 1]⟩,
 ⟨some 5, .mv (.tmp 10), none, [2, 2, 0, 1, 2]⟩])
(.seq (.seq (.reg none [⟨some 11, .mv (.tmp 5), none, []⟩,
 ⟨some 12, .bin .eql .int (.tmp 11) (.lit (.int .i64 (-1))), none, [0]⟩])
(.cond (.tmp 12) (.seq (.reg none [⟨some 13, .mv (.tmp 0), none, []⟩,
 ⟨some 4, .mv (.tmp 13), none, [0, 0]⟩])
.ret) .skip))
(.seq (.seq (.reg none [⟨some 14, .mv (.tmp 5), none, []⟩,
 ⟨some 15, .bin .add .int (.tmp 14) (.lit (.int .i64 1)), none, [0]⟩,
 ⟨some 6, .mv (.tmp 15), none, [1, 0, 1]⟩])
(.block 0 (.loop (.seq (.seq (.reg none [⟨some 16, .mv (.tmp 6), none, []⟩,
 ⟨some 17, .mv (.tmp 0), none, []⟩,
 ⟨some 18, .len (.tmp 17), none, [1]⟩,
 ⟨some 19, .bin .lss .int (.tmp 16) (.tmp 18), none, [0, 2]⟩])
(.cond (.tmp 19) .skip (.exit 0)))
(.seq (.block 1 (.seq (.reg none [⟨some 22, .mv (.tmp 0), none, []⟩,
 ⟨some 23, .mv (.tmp 6), none, []⟩,
 ⟨some 24, .idxA 1 (.tmp 22) (.tmp 23), none, [0, 1]⟩,
 ⟨some 25, .load none (.tmp 24), none, [2]⟩,
 ⟨some 7, .mv (.tmp 25), none, [3, 0, 1, 2, 3]⟩])
(.seq (.reg none [⟨some 26, .mv (.tmp 1), none, []⟩,
 ⟨some 27, .mv (.tmp 7), none, []⟩,
 ⟨some 28, .call (.tmp 26) [(.tmp 27)], none, [0, 1]⟩,
 ⟨some 29, .not (.tmp 28), none, [2]⟩])
(.cond (.tmp 29) (.seq (.reg none [⟨some 30, .mv (.tmp 0), none, []⟩,
 ⟨some 31, .mv (.tmp 5), none, []⟩,
 ⟨some 32, .mv (.tmp 7), none, []⟩,
 ⟨some 33, .idxA 1 (.tmp 30) (.tmp 31), none, [0, 1, 0, 1, 2]⟩,
 ⟨none, .store 1 (.tmp 33) (.tmp 32), none, [3, 2, 0, 1, 2]⟩])
(.reg none [⟨some 34, .mv (.tmp 5), none, []⟩,
 ⟨some 35, .bin .add .int (.tmp 34) (.lit (.int .i64 1)), none, [0]⟩,
 ⟨some 5, .mv (.tmp 35), none, [1, 0, 1]⟩])) .skip))))
(.reg none [⟨some 20, .mv (.tmp 6), none, []⟩,
 ⟨some 21, .bin .add .int (.tmp 20) (.lit (.int .i64 1)), none, [0]⟩,
 ⟨some 6, .mv (.tmp 21), none, [1, 0, 1]⟩]))))))
(.seq (.reg none [⟨some 36, .mv (.tmp 0), none, []⟩,
 ⟨some 37, .mv (.tmp 5), none, []⟩,
 ⟨some 38, .slc 1 (.tmp 36) (some (.tmp 37)) none none, none, [0, 1]⟩,
 ⟨none, .clr 1 [(.int .i64 0)] (.tmp 38), none, [2]⟩])
(.seq (.reg none [⟨some 39, .mv (.tmp 0), none, []⟩,
 ⟨some 40, .mv (.tmp 5), none, []⟩,
 ⟨some 41, .slc 1 (.tmp 39) none (some (.tmp 40)) none, none, [0, 1]⟩,
 ⟨some 4, .mv (.tmp 41), none, [2, 0, 1, 2]⟩])
.ret)))))) }
theorem c_slices_DeleteFunc_int_int : cFunc Tryz.prog n_slices_DeleteFunc_int_int = some f_slices_DeleteFunc_int_int := by kernel_rfl
/-- palinode/undo.holds -/
def f_undo_holds : SFunc := { ntmps := 19, results := [.tmp 2], body :=
(.seq (.reg none [⟨some 2, .mv (.lit .nils), none, []⟩])
(.seq (.reg none [⟨some 6, .mv (.tmp 0), none, []⟩,
 ⟨some 7, .call (.lit (.fn 20 [])) [(.tmp 6)], none, [0]⟩,
 ⟨some 3, .mv (.tmp 7), none, [1, 1, 0, 1]⟩])
(.seq (.reg none [⟨some 8, .mv (.tmp 3), none, []⟩,
 ⟨some 9, .len (.tmp 8), none, [0]⟩,
 ⟨some 10, .mslc 1 8 [(.int .i64 0)] (.tmp 9) (.tmp 9), none, [1, 1]⟩,
 ⟨some 4, .mv (.tmp 10), none, [2, 0, 1, 2]⟩])
(.seq (.reg none [⟨some 11, .mv (.tmp 4), none, []⟩,
 ⟨some 12, .mv (.tmp 3), none, []⟩,
 ⟨some 13, .copy 1 (.tmp 11) (.tmp 12), none, [0, 1]⟩])
(.seq (.reg none [⟨some 14, .mv (.tmp 0), none, []⟩,
 ⟨some 15, .call (.lit (.fn 18 [])) [(.tmp 14)], none, [0]⟩,
 ⟨some 5, .alloc [.nils], none, []⟩,
 ⟨none, .store 1 (.tmp 5) (.tmp 15), none, [2, 1, 1, 0, 1, 2]⟩])
(.seq (.reg none [⟨some 16, .mv (.tmp 4), none, []⟩,
 ⟨some 17, .mkfn 112 [(.tmp 5)], none, []⟩,
 ⟨some 18, .call (.lit (.fn 67 [])) [(.tmp 16), (.tmp 17)], none, [0, 1]⟩,
 ⟨some 2, .mv (.tmp 18), none, [2, 2, 0, 1, 2]⟩])
.ret)))))) }
theorem c_undo_holds : cFunc Tryz.prog n_undo_holds = some f_undo_holds := by kernel_rfl
/-- palinode/undo.Only$1 -/
def f_undo_Only_1 : SFunc := { ntmps := 7, results := [.tmp 3], body :=
(.seq (.reg none [⟨some 3, .mv (.lit (.bool false)), none, []⟩])
(.seq (.reg none [⟨some 4, .mv (.tmp 0), none, []⟩,
 ⟨some 5, .load none (.tmp 1), none, []⟩,
 ⟨some 6, .bin .eql .int (.tmp 4) (.tmp 5), none, [0, 1]⟩,
 ⟨some 3, .mv (.tmp 6), none, [2, 0, 1, 2]⟩])
.ret)) }
theorem c_undo_Only_1 : cFunc Tryz.prog n_undo_Only_1 = some f_undo_Only_1 := by kernel_rfl
/-- (*palinode/engine.Engine).Live -/
def f_engine_Engine_Live : SFunc := { ntmps := 11, results := [.tmp 4], body :=
(.seq (.reg none [⟨some 4, .mv (.lit (.bool false)), none, []⟩])
(.seq (.reg none [⟨some 5, .mv (.tmp 0), none, []⟩,
 ⟨some 6, .nilc (.tmp 5), none, [0]⟩,
 ⟨some 7, .fldA 1 (.tmp 6), none, [1]⟩,
 ⟨some 8, .load none (.tmp 7), none, [2]⟩,
 ⟨some 9, .mv (.tmp 1), none, []⟩,
 ⟨some 10, .call (.lit (.fn 108 [])) [(.tmp 8), (.tmp 9)], none, [3, 4]⟩,
 ⟨some 4, .mv (.tmp 10), none, [5, 5, 0, 1, 2, 3, 4, 5]⟩])
.ret)) }
theorem c_engine_Engine_Live : cFunc Tryz.prog n_engine_Engine_Live = some f_engine_Engine_Live := by kernel_rfl
/-- palinode/atom.Text -/
def f_atom_Text : SFunc := { ntmps := 25, results := [.tmp 6], body :=
(.seq (.reg none [⟨some 6, .mv (.lit (.str [])), none, []⟩])
(.seq (.reg none [⟨some 7, .allocT 153 [.nilp, .nils], none, []⟩])
(.seq (.seq (.reg none [⟨some 10, .mv (.tmp 0), none, []⟩,
 ⟨some 11, .len (.tmp 10), none, [0]⟩,
 ⟨some 12, .mv (.lit (.int .i64 0)), none, []⟩])
(.block 0 (.loop (.seq (.reg none [⟨some 13, .bin .lss .int (.tmp 12) (.tmp 11), none, []⟩])
(.seq (.cond (.tmp 13) .skip (.exit 0))
(.seq (.block 1 (.seq (.reg none [⟨some 14, .idxA 5 (.tmp 10) (.tmp 12), none, []⟩,
 ⟨some 15, .load (some 5) (.tmp 14), none, [0]⟩,
 ⟨some 9, .alloc [(.str []), (.int .i64 0), (.int .i64 0), (.int .i64 0), .nils], none, []⟩,
 ⟨none, .store 5 (.tmp 9) (.tmp 15), none, [2, 1, 0, 1, 2]⟩])
(.seq (.reg none [⟨some 16, .load (some 5) (.tmp 9), none, []⟩,
 ⟨some 17, .mv (.tmp 1), none, []⟩,
 ⟨some 18, .mv (.tmp 2), none, []⟩,
 ⟨some 19, .call (.lit (.fn 82 [])) [(.tmp 16), (.tmp 17), (.tmp 18)], none, [0, 1, 2]⟩])
(.cond (.tmp 19) (.reg none [⟨some 20, .fldA 0 (.tmp 9), none, []⟩,
 ⟨some 21, .load none (.tmp 20), none, [0]⟩,
 ⟨some 22, .call (.lit (.fn 115 [])) [(.tmp 7), (.tmp 21)], none, [1]⟩]) .skip))))
(.reg none [⟨some 23, .bin .add .int (.tmp 12) (.lit (.int .i64 1)), none, []⟩,
 ⟨some 12, .mv (.tmp 23), none, [0]⟩])))))))
(.seq (.reg none [⟨some 24, .call (.lit (.fn 116 [])) [(.tmp 7)], none, []⟩,
 ⟨some 6, .mv (.tmp 24), none, [0, 0, 0]⟩])
.ret)))) }
theorem c_atom_Text : cFunc Tryz.prog n_atom_Text = some f_atom_Text := by kernel_rfl
/-- (*palinode/engine.Engine).UndoneAt -/
def f_engine_Engine_UndoneAt : SFunc := { ntmps := 11, results := [.tmp 4], body :=
(.seq (.reg none [⟨some 4, .mv (.lit .nils), none, []⟩])
(.seq (.reg none [⟨some 5, .mv (.tmp 0), none, []⟩,
 ⟨some 6, .nilc (.tmp 5), none, [0]⟩,
 ⟨some 7, .fldA 1 (.tmp 6), none, [1]⟩,
 ⟨some 8, .load none (.tmp 7), none, [2]⟩,
 ⟨some 9, .mv (.tmp 1), none, []⟩,
 ⟨some 10, .call (.lit (.fn 63 [])) [(.tmp 8), (.tmp 9)], none, [3, 4]⟩,
 ⟨some 4, .mv (.tmp 10), none, [5, 5, 0, 1, 2, 3, 4, 5]⟩])
.ret)) }
theorem c_engine_Engine_UndoneAt : cFunc Tryz.prog n_engine_Engine_UndoneAt = some f_engine_Engine_UndoneAt := by kernel_rfl
/-- palinode/atom.Visible -/
def f_atom_Visible : SFunc := { ntmps := 23, results := [.tmp 6], body :=
(.seq (.reg none [⟨some 3, .box (.tmp 0), none, []⟩,
 ⟨some 4, .box (.tmp 1), none, []⟩,
 ⟨some 5, .box (.tmp 2), none, []⟩,
 ⟨some 6, .mv (.lit (.bool false)), none, []⟩])
(.seq (.seq (.reg none [⟨some 7, .fldA 1 (.tmp 3), none, []⟩,
 ⟨some 8, .load none (.tmp 7), none, [0]⟩,
 ⟨some 9, .load none (.tmp 4), none, []⟩,
 ⟨some 10, .bin .gtr .int (.tmp 8) (.tmp 9), none, [1, 2]⟩,
 ⟨some 11, .mv (.tmp 10), none, [3]⟩,
 ⟨some 12, .fldA 2 (.tmp 3), some (11, false), [4]⟩,
 ⟨some 13, .load none (.tmp 12), some (11, false), [5, 4]⟩,
 ⟨some 14, .load none (.tmp 5), some (11, false), [4]⟩,
 ⟨some 15, .call (.lit (.fn 123 [])) [(.tmp 13), (.tmp 14)], some (11, false), [6, 7, 4, 4]⟩,
 ⟨some 16, .not (.tmp 15), some (11, false), [8, 4]⟩,
 ⟨some 17, .pick (.tmp 11) (.lit (.bool true)) (.tmp 16), none, [4, 9]⟩])
(.cond (.tmp 17) (.seq (.reg none [⟨some 6, .mv (.lit (.bool false)), none, []⟩])
.ret) .skip))
(.seq (.reg none [⟨some 18, .fldA 4 (.tmp 3), none, []⟩,
 ⟨some 19, .load none (.tmp 18), none, [0]⟩,
 ⟨some 20, .mkfn 125 [(.tmp 4), (.tmp 5)], none, []⟩,
 ⟨some 21, .call (.lit (.fn 124 [])) [(.tmp 19), (.tmp 20)], none, [1, 2]⟩,
 ⟨some 22, .not (.tmp 21), none, [3]⟩,
 ⟨some 6, .mv (.tmp 22), none, [4, 3, 0, 1, 2, 3, 4]⟩])
.ret))) }
theorem c_atom_Visible : cFunc Tryz.prog n_atom_Visible = some f_atom_Visible := by kernel_rfl
/-- palinode/atom.Copy -/
def f_atom_Copy : SFunc := { ntmps := 28, results := [.tmp 2], body :=
(.seq (.reg none [⟨some 2, .mv (.lit .nils), none, []⟩])
(.seq (.reg none [⟨some 5, .mv (.tmp 0), none, []⟩,
 ⟨some 6, .len (.tmp 5), none, [0]⟩,
 ⟨some 7, .mslc 5 64 [(.str []), (.int .i64 0), (.int .i64 0), (.int .i64 0), .nils] (.tmp 6) (.tmp 6), none, [1, 1]⟩,
 ⟨some 3, .mv (.tmp 7), none, [2, 0, 1, 2]⟩])
(.seq (.reg none [⟨some 8, .mv (.tmp 3), none, []⟩,
 ⟨some 9, .mv (.tmp 0), none, []⟩,
 ⟨some 10, .copy 5 (.tmp 8) (.tmp 9), none, [0, 1]⟩])
(.seq (.seq (.reg none [⟨some 11, .mv (.tmp 3), none, []⟩,
 ⟨some 12, .len (.tmp 11), none, [0]⟩,
 ⟨some 13, .mv (.lit (.int .i64 0)), none, []⟩])
(.block 0 (.loop (.seq (.reg none [⟨some 14, .bin .lss .int (.tmp 13) (.tmp 12), none, []⟩])
(.seq (.cond (.tmp 14) .skip (.exit 0))
(.seq (.block 1 (.seq (.reg none [⟨some 15, .mv (.tmp 13), none, []⟩,
 ⟨some 4, .mv (.tmp 15), none, [0, 0]⟩])
(.reg none [⟨some 16, .mv (.tmp 3), none, []⟩,
 ⟨some 17, .mv (.tmp 4), none, []⟩,
 ⟨some 18, .mv (.tmp 3), none, []⟩,
 ⟨some 19, .mv (.tmp 4), none, []⟩,
 ⟨some 20, .idxA 5 (.tmp 18) (.tmp 19), none, [2, 3]⟩,
 ⟨some 21, .fldA 4 (.tmp 20), none, [4]⟩,
 ⟨some 22, .load none (.tmp 21), none, [5]⟩,
 ⟨some 23, .call (.lit (.fn 126 [])) [(.tmp 22)], none, [6]⟩,
 ⟨some 24, .idxA 5 (.tmp 16) (.tmp 17), none, [0, 1, 0, 1, 2, 3, 4, 5, 6, 7]⟩,
 ⟨some 25, .fldA 4 (.tmp 24), none, [8, 0, 1, 2, 3, 4, 5, 6, 7]⟩,
 ⟨none, .store 1 (.tmp 25) (.tmp 23), none, [9, 7, 7, 0, 1, 2, 3, 4, 5, 6, 7]⟩])))
(.reg none [⟨some 26, .bin .add .int (.tmp 13) (.lit (.int .i64 1)), none, []⟩,
 ⟨some 13, .mv (.tmp 26), none, [0]⟩])))))))
(.seq (.reg none [⟨some 27, .mv (.tmp 3), none, []⟩,
 ⟨some 2, .mv (.tmp 27), none, [0, 0]⟩])
.ret))))) }
theorem c_atom_Copy : cFunc Tryz.prog n_atom_Copy = some f_atom_Copy := by kernel_rfl
/-- (*palinode/rev.Revs).Copy -/
def f_rev_Revs_Copy : SFunc := { ntmps := 44, results := [.tmp 2], body :=
(.seq (.reg none [⟨some 2, .mv (.lit .nilp), none, []⟩])
(.seq (.reg (some [0, 1, 3, 7, 0, 16, 48, 112, 240, 0, 512, 1536, 3584, 8176, 16383, 32767, 65535]) [⟨some 6, .mv (.tmp 0), none, []⟩,
 ⟨some 7, .nilc (.tmp 6), none, [0]⟩,
 ⟨some 8, .fldA 1 (.tmp 7), none, [1]⟩,
 ⟨some 9, .load none (.tmp 8), none, [2]⟩,
 ⟨some 10, .mv (.tmp 0), none, []⟩,
 ⟨some 11, .nilc (.tmp 10), none, [4]⟩,
 ⟨some 12, .fldA 2 (.tmp 11), none, [5]⟩,
 ⟨some 13, .load none (.tmp 12), none, [6]⟩,
 ⟨some 14, .call (.lit (.fn 128 [])) [(.tmp 13)], none, [7]⟩,
 ⟨some 15, .mv (.tmp 0), none, []⟩,
 ⟨some 16, .nilc (.tmp 15), none, [9]⟩,
 ⟨some 17, .fldA 3 (.tmp 16), none, [10]⟩,
 ⟨some 18, .load none (.tmp 17), none, [11]⟩,
 ⟨some 19, .call (.lit (.fn 128 [])) [(.tmp 18)], none, [12, 8]⟩,
 ⟨some 20, .build [.nils, (.int .i64 0), (.raw (.map none)), (.raw (.map none))] [(1, 1, (.tmp 9)), (2, 1, (.tmp 14)), (3, 1, (.tmp 19))], none, [3, 8, 13]⟩,
 ⟨some 21, .box (.tmp 20), none, [14]⟩,
 ⟨some 3, .mv (.tmp 21), none, [15, 13, 0, 1, 2, 3, 4, 5, 6, 7, 8, 9, 10, 11, 12, 13, 14, 15]⟩])
(.seq (.seq (.reg none [⟨some 22, .mv (.tmp 0), none, []⟩,
 ⟨some 23, .nilc (.tmp 22), none, [0]⟩,
 ⟨some 24, .fldA 0 (.tmp 23), none, [1]⟩,
 ⟨some 25, .load none (.tmp 24), none, [2]⟩,
 ⟨some 26, .len (.tmp 25), none, [3]⟩,
 ⟨some 27, .mv (.lit (.int .i64 0)), none, []⟩])
(.block 0 (.loop (.seq (.reg none [⟨some 28, .bin .lss .int (.tmp 27) (.tmp 26), none, []⟩])
(.seq (.cond (.tmp 28) .skip (.exit 0))
(.seq (.block 1 (.seq (.reg none [⟨some 29, .idxA 1 (.tmp 25) (.tmp 27), none, []⟩,
 ⟨some 30, .load none (.tmp 29), none, [0]⟩,
 ⟨some 5, .mv (.tmp 30), none, [1, 0, 1]⟩])
(.reg (some [0, 0, 2, 6, 14, 0, 32, 96, 254, 511, 1023, 2047]) [⟨some 31, .mv (.tmp 3), none, []⟩,
 ⟨some 32, .mv (.tmp 3), none, []⟩,
 ⟨some 33, .nilc (.tmp 32), none, [1]⟩,
 ⟨some 34, .fldA 0 (.tmp 33), none, [2]⟩,
 ⟨some 35, .load none (.tmp 34), none, [3]⟩,
 ⟨some 36, .mv (.tmp 5), none, []⟩,
 ⟨some 37, .call (.lit (.fn 128 [])) [(.tmp 36)], none, [5]⟩,
 ⟨some 38, .bslc 1 [(.raw (.map none))] 1 [(0, 1, (.tmp 37))], none, [6]⟩,
 ⟨some 39, .app 142 1 8 (.tmp 35) (.tmp 38), none, [4, 7, 6]⟩,
 ⟨some 40, .nilc (.tmp 31), none, [0, 0, 1, 2, 3, 4, 5, 6, 7, 8]⟩,
 ⟨some 41, .fldA 0 (.tmp 40), none, [9, 0, 1, 2, 3, 4, 5, 6, 7, 8]⟩,
 ⟨none, .store 1 (.tmp 41) (.tmp 39), none, [10, 8, 8, 0, 1, 2, 3, 4, 5, 6, 7, 8]⟩])))
(.reg none [⟨some 42, .bin .add .int (.tmp 27) (.lit (.int .i64 1)), none, []⟩,
 ⟨some 27, .mv (.tmp 42), none, [0]⟩])))))))
(.seq (.reg none [⟨some 43, .mv (.tmp 3), none, []⟩,
 ⟨some 2, .mv (.tmp 43), none, [0, 0]⟩])
.ret)))) }
theorem c_rev_Revs_Copy : cFunc Tryz.prog n_rev_Revs_Copy = some f_rev_Revs_Copy := by kernel_rfl
/-- palinode/rev.New -/
def f_rev_New : SFunc := { ntmps := 7, results := [.tmp 0], body :=
(.seq (.reg none [⟨some 0, .mv (.lit .nilp), none, []⟩])
(.seq (.reg none [⟨some 1, .mmap, none, []⟩,
 ⟨some 2, .bslc 1 [(.raw (.map none))] 1 [(0, 1, (.tmp 1))], none, [0]⟩,
 ⟨some 3, .mmap, none, []⟩,
 ⟨some 4, .mmap, none, []⟩,
 ⟨some 5, .build [.nils, (.int .i64 0), (.raw (.map none)), (.raw (.map none))] [(0, 1, (.tmp 2)), (2, 1, (.tmp 3)), (3, 1, (.tmp 4))], none, [1, 2, 3]⟩,
 ⟨some 6, .box (.tmp 5), none, [4]⟩,
 ⟨some 0, .mv (.tmp 6), none, [5, 0, 1, 2, 3, 4, 5]⟩])
.ret)) }
theorem c_rev_New : cFunc Tryz.prog n_rev_New = some f_rev_New := by kernel_rfl
/-- palinode/edit.Check -/
def f_edit_Check : SFunc := { ntmps := 40, results := [.tmp 4], body :=
(.seq (.reg none [⟨some 2, .box (.tmp 0), none, []⟩,
 ⟨some 4, .mv (.lit (.int .i64 0)), none, []⟩])
(.seq (.block 0 (.seq (.reg none [⟨some 9, .load none (.tmp 2), none, []⟩,
 ⟨some 10, .call (.lit (.fn 135 [])) [(.tmp 9)], none, [0]⟩,
 ⟨some 11, .not (.tmp 10), none, [1]⟩,
 ⟨some 8, .mv (.tmp 11), none, [2, 1]⟩])
(.cond (.tmp 8) (.seq (.reg none [⟨some 4, .mv (.lit (.int .i64 12)), none, []⟩])
.ret) (.seq (.reg none [⟨some 13, .mv (.tmp 1), none, []⟩,
 ⟨some 14, .len (.tmp 13), none, [0]⟩,
 ⟨some 15, .bin .gtr .int (.tmp 14) (.lit (.int .i64 8)), none, [1]⟩,
 ⟨some 12, .mv (.tmp 15), none, [2]⟩])
(.cond (.tmp 12) (.seq (.reg none [⟨some 4, .mv (.lit (.int .i64 70)), none, []⟩])
.ret) .skip)))))
(.seq (.reg none [⟨some 16, .mkfn 136 [(.tmp 2)], none, []⟩,
 ⟨some 5, .alloc [(.raw .nilFunc)], none, []⟩,
 ⟨none, .store 1 (.tmp 5) (.tmp 16), none, [1, 0, 0, 1]⟩])
(.seq (.seq (.reg (some [0, 0, 3, 0, 0, 31, 0, 127, 0, 511, 0, 0, 4095, 8191, 16383, 0]) [⟨some 17, .mv (.tmp 1), none, []⟩,
 ⟨some 18, .mkfn 139 [(.tmp 2)], none, []⟩,
 ⟨some 19, .call (.lit (.fn 138 [])) [(.tmp 17), (.lit (.int .i64 10)), (.tmp 18)], none, [0, 1]⟩,
 ⟨some 20, .mv (.tmp 1), none, []⟩,
 ⟨some 21, .mkfn 140 [(.tmp 5)], none, []⟩,
 ⟨some 22, .call (.lit (.fn 138 [])) [(.tmp 20), (.lit (.int .i64 11)), (.tmp 21)], none, [3, 4, 2]⟩,
 ⟨some 23, .mv (.tmp 1), none, []⟩,
 ⟨some 24, .call (.lit (.fn 141 [])) [(.tmp 23)], none, [6, 5]⟩,
 ⟨some 25, .mv (.tmp 1), none, []⟩,
 ⟨some 26, .call (.lit (.fn 138 [])) [(.tmp 25), (.lit (.int .i64 12)), (.lit (.fn 142 []))], none, [8, 7]⟩,
 ⟨some 27, .load none (.tmp 2), none, []⟩,
 ⟨some 28, .mv (.tmp 1), none, []⟩,
 ⟨some 29, .call (.lit (.fn 143 [])) [(.tmp 27), (.tmp 28)], none, [10, 11, 9]⟩,
 ⟨some 30, .bslc 1 [(.int .i64 0)] 5 [(0, 1, (.tmp 19)), (1, 1, (.tmp 22)), (2, 1, (.tmp 24)), (3, 1, (.tmp 26)), (4, 1, (.tmp 29))], none, [2, 5, 7, 9, 12]⟩,
 ⟨some 31, .len (.tmp 30), none, [13]⟩,
 ⟨some 32, .mv (.lit (.int .i64 0)), none, []⟩])
(.block 1 (.loop (.seq (.reg none [⟨some 33, .bin .lss .int (.tmp 32) (.tmp 31), none, []⟩])
(.seq (.cond (.tmp 33) .skip (.exit 1))
(.seq (.block 2 (.seq (.reg none [⟨some 34, .idxA 1 (.tmp 30) (.tmp 32), none, []⟩,
 ⟨some 35, .load none (.tmp 34), none, [0]⟩,
 ⟨some 7, .mv (.tmp 35), none, [1, 0, 1]⟩])
(.seq (.reg none [⟨some 36, .mv (.tmp 7), none, []⟩,
 ⟨some 37, .bin .neq .int (.tmp 36) (.lit (.int .i64 0)), none, [0]⟩])
(.cond (.tmp 37) (.seq (.reg none [⟨some 38, .mv (.tmp 7), none, []⟩,
 ⟨some 4, .mv (.tmp 38), none, [0, 0]⟩])
.ret) .skip))))
(.reg none [⟨some 39, .bin .add .int (.tmp 32) (.lit (.int .i64 1)), none, []⟩,
 ⟨some 32, .mv (.tmp 39), none, [0]⟩])))))))
(.seq (.reg none [⟨some 4, .mv (.lit (.int .i64 0)), none, []⟩])
.ret))))) }
theorem c_edit_Check : cFunc Tryz.prog n_edit_Check = some f_edit_Check := by kernel_rfl
/-- (*palinode/rev.Revs).Add -/
def f_rev_Revs_Add : SFunc := { ntmps := 44, results := [.tmp 4, .tmp 5], body :=
(.seq (.reg none [⟨some 4, .mv (.lit (.int .i64 0)), none, []⟩,
 ⟨some 5, .mv (.lit (.int .i64 0)), none, [0]⟩])
(.seq (.seq (.reg none [⟨some 11, .mv (.tmp 0), none, []⟩,
 ⟨some 12, .nilc (.tmp 11), none, [0]⟩,
 ⟨some 13, .fldA 3 (.tmp 12), none, [1]⟩,
 ⟨some 14, .load none (.tmp 13), none, [2]⟩,
 ⟨some 15, .mv (.tmp 1), none, []⟩,
 ⟨some 16, .look (.agg []) true (.tmp 14) (.tmp 15), none, [3, 4]⟩,
 ⟨some 10, .mv (.tmp 16), none, [5]⟩,
 ⟨some 17, .ext (.tmp 10) 0, none, [6]⟩,
 ⟨some 18, .ext (.tmp 10) 1, none, [6]⟩,
 ⟨some 6, .alloc [], none, []⟩,
 ⟨none, .store 0 (.tmp 6) (.tmp 17), none, [9, 7, 0, 1, 2, 3, 4, 5, 6, 7, 9]⟩,
 ⟨some 7, .mv (.tmp 18), none, [8, 10, 0, 1, 2, 3, 4, 5, 6, 7, 8, 9, 10]⟩])
(.seq (.reg none [⟨some 19, .mv (.tmp 7), none, []⟩,
 ⟨some 20, .mv (.tmp 19), none, [0]⟩,
 ⟨some 21, .mv (.tmp 1), some (20, false), [1]⟩,
 ⟨some 22, .bin .lss .int (.tmp 21) (.lit (.int .i64 0)), some (20, false), [2, 1]⟩,
 ⟨some 23, .pick (.tmp 20) (.lit (.bool true)) (.tmp 22), none, [1, 3]⟩,
 ⟨some 24, .mv (.tmp 23), none, [4, 1]⟩,
 ⟨some 25, .mv (.tmp 1), some (24, false), [5]⟩,
 ⟨some 26, .bin .geq .int (.tmp 25) (.lit (.int .i64 60)), some (24, false), [6, 5]⟩,
 ⟨some 27, .pick (.tmp 24) (.lit (.bool true)) (.tmp 26), none, [5, 7]⟩])
(.cond (.tmp 27) (.seq (.reg none [⟨some 4, .mv (.lit (.int .i64 0)), none, []⟩,
 ⟨some 5, .mv (.lit (.int .i64 210)), none, [0, 0]⟩])
.ret) .skip)))
(.seq (.seq (.reg none [⟨some 29, .mv (.tmp 0), none, []⟩,
 ⟨some 30, .call (.lit (.fn 144 [])) [(.tmp 29)], none, [0]⟩,
 ⟨some 28, .mv (.tmp 30), none, [1]⟩,
 ⟨some 31, .ext (.tmp 28) 0, none, [2]⟩,
 ⟨some 32, .ext (.tmp 28) 1, none, [2]⟩,
 ⟨some 8, .mv (.tmp 31), none, [3, 1, 0, 1, 2, 3]⟩,
 ⟨some 9, .mv (.tmp 32), none, [4, 5, 0, 1, 2, 3, 4, 5]⟩])
(.seq (.reg none [⟨some 33, .mv (.tmp 9), none, []⟩,
 ⟨some 34, .bin .neq .int (.tmp 33) (.lit (.int .i64 0)), none, [0]⟩])
(.cond (.tmp 34) (.seq (.reg none [⟨some 35, .mv (.tmp 9), none, []⟩,
 ⟨some 4, .mv (.lit (.int .i64 0)), none, []⟩,
 ⟨some 5, .mv (.tmp 35), none, [0, 1, 0, 1]⟩])
.ret) .skip)))
(.seq (.reg none [⟨some 36, .mv (.tmp 0), none, []⟩,
 ⟨some 37, .nilc (.tmp 36), none, [0]⟩,
 ⟨some 38, .fldA 2 (.tmp 37), none, [1]⟩,
 ⟨some 39, .load none (.tmp 38), none, [2]⟩,
 ⟨some 40, .mv (.tmp 1), none, []⟩,
 ⟨some 41, .build [] [], none, []⟩,
 ⟨none, .mapUp (.tmp 39) (.tmp 40) (.tmp 41), none, [3, 4, 5, 0, 1, 2, 3, 4, 5]⟩])
(.seq (.reg none [⟨some 42, .mv (.tmp 0), none, []⟩,
 ⟨some 43, .call (.lit (.fn 64 [])) [(.tmp 42)], none, [0]⟩,
 ⟨some 4, .mv (.tmp 43), none, [1, 1, 0, 1]⟩,
 ⟨some 5, .mv (.lit (.int .i64 0)), none, [2, 0, 1, 2]⟩])
.ret))))) }
theorem c_rev_Revs_Add : cFunc Tryz.prog n_rev_Revs_Add = some f_rev_Revs_Add := by kernel_rfl
/-- palinode/edit.Upon -/
def f_edit_Upon : SFunc := { ntmps := 125, results := [.tmp 14], body :=
(.seq (.reg none [⟨some 14, .mv (.lit .nils), none, []⟩])
(.seq (.reg none [⟨some 25, .mv (.tmp 0), none, []⟩,
 ⟨some 26, .mv (.tmp 1), none, []⟩,
 ⟨some 27, .mv (.tmp 2), none, []⟩,
 ⟨some 28, .mv (.tmp 3), none, []⟩,
 ⟨some 29, .mv (.tmp 6), none, []⟩,
 ⟨some 30, .call (.lit (.fn 145 [])) [(.tmp 25), (.tmp 26), (.tmp 27), (.tmp 28), (.tmp 29)], none, [0, 1, 2, 3, 4]⟩,
 ⟨some 15, .mv (.tmp 30), none, [5, 5, 0, 1, 2, 3, 4, 5]⟩])
(.seq (.seq (.reg none [⟨some 31, .mv (.tmp 0), none, []⟩,
 ⟨some 32, .mv (.tmp 1), none, []⟩,
 ⟨some 33, .mv (.tmp 2), none, []⟩,
 ⟨some 34, .call (.lit (.fn 72 [])) [(.tmp 31), (.tmp 32), (.tmp 33)], none, [0, 1, 2]⟩,
 ⟨some 35, .mv (.tmp 3), none, []⟩,
 ⟨some 36, .call (.lit (.fn 89 [])) [(.tmp 34), (.tmp 35)], none, [3, 4, 3]⟩,
 ⟨some 37, .bin .neq .int (.tmp 36) (.lit (.int .i64 0)), none, [5]⟩])
(.cond (.tmp 37) (.seq (.reg none [⟨some 38, .mv (.tmp 0), none, []⟩,
 ⟨some 39, .call (.lit (.fn 83 [])) [(.tmp 38)], none, [0]⟩,
 ⟨some 14, .mv (.tmp 39), none, [1, 1, 0, 1]⟩])
.ret) .skip))
(.seq (.reg none [⟨some 40, .mv (.tmp 0), none, []⟩,
 ⟨some 41, .len (.tmp 40), none, [0]⟩,
 ⟨some 42, .mslc 5 64 [(.str []), (.int .i64 0), (.int .i64 0), (.int .i64 0), .nils] (.lit (.int .i64 0)) (.tmp 41), none, [1]⟩,
 ⟨some 16, .mv (.tmp 42), none, [2, 0, 1, 2]⟩])
(.seq (.reg none [⟨some 43, .mv (.tmp 0), none, []⟩,
 ⟨some 44, .len (.tmp 43), none, [0]⟩,
 ⟨some 45, .mslc 1 1 [(.bool false)] (.tmp 44) (.tmp 44), none, [1, 1]⟩,
 ⟨some 17, .mv (.tmp 45), none, [2, 0, 1, 2]⟩])
(.seq (.seq (.reg none [⟨some 46, .mv (.tmp 0), none, []⟩,
 ⟨some 47, .mv (.tmp 1), none, []⟩,
 ⟨some 48, .mv (.tmp 2), none, []⟩,
 ⟨some 49, .mv (.tmp 3), none, []⟩,
 ⟨some 50, .call (.lit (.fn 146 [])) [(.tmp 46), (.tmp 47), (.tmp 48), (.tmp 49)], none, [0, 1, 2, 3]⟩,
 ⟨some 51, .len (.tmp 50), none, [4]⟩,
 ⟨some 52, .mv (.lit (.int .i64 0)), none, []⟩])
(.block 0 (.loop (.seq (.reg none [⟨some 53, .bin .lss .int (.tmp 52) (.tmp 51), none, []⟩])
(.seq (.cond (.tmp 53) .skip (.exit 0))
(.seq (.block 1 (.seq (.reg none [⟨some 54, .idxA 1 (.tmp 50) (.tmp 52), none, []⟩,
 ⟨some 55, .load none (.tmp 54), none, [0]⟩,
 ⟨some 19, .mv (.tmp 55), none, [1, 0, 1]⟩])
(.reg none [⟨some 56, .mv (.tmp 17), none, []⟩,
 ⟨some 57, .mv (.tmp 19), none, []⟩,
 ⟨some 58, .idxA 1 (.tmp 56) (.tmp 57), none, [0, 1, 0, 1]⟩,
 ⟨none, .store 1 (.tmp 58) (.lit (.bool true)), none, [2, 0, 1]⟩])))
(.reg none [⟨some 59, .bin .add .int (.tmp 52) (.lit (.int .i64 1)), none, []⟩,
 ⟨some 52, .mv (.tmp 59), none, [0]⟩])))))))
(.seq (.reg none [⟨some 60, .mv (.tmp 0), none, []⟩,
 ⟨some 61, .len (.tmp 60), none, [0]⟩,
 ⟨some 62, .mslc 5 64 [(.str []), (.int .i64 0), (.int .i64 0), (.int .i64 0), .nils] (.tmp 61) (.tmp 61), none, [1, 1]⟩,
 ⟨some 20, .mv (.tmp 62), none, [2, 0, 1, 2]⟩])
(.seq (.reg none [⟨some 63, .mv (.tmp 20), none, []⟩,
 ⟨some 64, .mv (.tmp 0), none, []⟩,
 ⟨some 65, .call (.lit (.fn 83 [])) [(.tmp 64)], none, [1]⟩,
 ⟨some 66, .copy 5 (.tmp 63) (.tmp 65), none, [0, 2, 2]⟩])
(.seq (.seq (.reg none [⟨some 67, .mv (.tmp 20), none, []⟩,
 ⟨some 68, .len (.tmp 67), none, [0]⟩,
 ⟨some 69, .mv (.lit (.int .i64 0)), none, []⟩])
(.block 2 (.loop (.seq (.reg none [⟨some 70, .bin .lss .int (.tmp 69) (.tmp 68), none, []⟩])
(.seq (.cond (.tmp 70) .skip (.exit 2))
(.seq (.block 3 (.seq (.reg none [⟨some 71, .mv (.tmp 69), none, []⟩,
 ⟨some 21, .mv (.tmp 71), none, [0, 0]⟩])
(.seq (.reg none [⟨some 72, .mv (.tmp 17), none, []⟩,
 ⟨some 73, .mv (.tmp 21), none, []⟩,
 ⟨some 74, .idxA 1 (.tmp 72) (.tmp 73), none, [0, 1]⟩,
 ⟨some 75, .load none (.tmp 74), none, [2]⟩])
(.cond (.tmp 75) (.reg none [⟨some 76, .mv (.tmp 20), none, []⟩,
 ⟨some 77, .mv (.tmp 21), none, []⟩,
 ⟨some 78, .mv (.tmp 20), none, []⟩,
 ⟨some 79, .mv (.tmp 21), none, []⟩,
 ⟨some 80, .idxA 5 (.tmp 78) (.tmp 79), none, [2, 3]⟩,
 ⟨some 81, .fldA 4 (.tmp 80), none, [4]⟩,
 ⟨some 82, .load none (.tmp 81), none, [5]⟩,
 ⟨some 83, .mv (.tmp 4), none, []⟩,
 ⟨some 84, .mv (.tmp 5), none, []⟩,
 ⟨some 85, .build [(.int .i64 0), (.int .i64 0)] [(0, 1, (.tmp 83)), (1, 1, (.tmp 84))], none, [7, 8]⟩,
 ⟨some 86, .bslc 2 [(.int .i64 0), (.int .i64 0)] 1 [(0, 2, (.tmp 85))], none, [9]⟩,
 ⟨some 87, .app 133 2 16 (.tmp 82) (.tmp 86), none, [6, 10]⟩,
 ⟨some 88, .idxA 5 (.tmp 76) (.tmp 77), none, [0, 1, 0, 1, 2, 3, 4, 5, 6, 7, 8, 9, 10, 11]⟩,
 ⟨some 89, .fldA 4 (.tmp 88), none, [12, 0, 1, 2, 3, 4, 5, 6, 7, 8, 9, 10, 11]⟩,
 ⟨none, .store 1 (.tmp 89) (.tmp 87), none, [13, 11, 11, 0, 1, 2, 3, 4, 5, 6, 7, 8, 9, 10, 11]⟩]) .skip))))
(.reg none [⟨some 90, .bin .add .int (.tmp 69) (.lit (.int .i64 1)), none, []⟩,
 ⟨some 69, .mv (.tmp 90), none, [0]⟩])))))))
(.seq (.reg none [⟨some 22, .mv (.lit (.int .i64 0)), none, []⟩])
(.seq (.seq (.reg none [⟨some 91, .mv (.tmp 3), none, []⟩,
 ⟨some 92, .len (.tmp 91), none, [0]⟩,
 ⟨some 93, .mv (.lit (.int .i64 0)), none, []⟩])
(.block 4 (.loop (.seq (.reg none [⟨some 94, .bin .lss .int (.tmp 93) (.tmp 92), none, []⟩])
(.seq (.cond (.tmp 94) .skip (.exit 4))
(.seq (.block 5 (.seq (.reg none [⟨some 95, .mv (.tmp 93), none, []⟩,
 ⟨some 96, .idxA 3 (.tmp 91) (.tmp 93), none, []⟩,
 ⟨some 97, .load (some 3) (.tmp 96), none, [1]⟩,
 ⟨some 24, .alloc [(.int .i64 0), (.int .i64 0), (.str [])], none, []⟩,
 ⟨some 23, .mv (.tmp 95), none, [0, 0, 1, 2, 3]⟩,
 ⟨none, .store 3 (.tmp 24) (.tmp 97), none, [3, 2, 4, 0, 1, 2, 3, 4]⟩])
(.seq (.reg none [⟨some 98, .mv (.tmp 16), none, []⟩,
 ⟨some 99, .mv (.tmp 20), none, []⟩,
 ⟨some 100, .mv (.tmp 22), none, []⟩,
 ⟨some 101, .mv (.tmp 15), none, []⟩,
 ⟨some 102, .mv (.tmp 23), none, []⟩,
 ⟨some 103, .idxA 1 (.tmp 101) (.tmp 102), none, [3, 4]⟩,
 ⟨some 104, .load none (.tmp 103), none, [5]⟩,
 ⟨some 105, .slc 5 (.tmp 99) (some (.tmp 100)) (some (.tmp 104)) none, none, [1, 2, 6]⟩,
 ⟨some 106, .app 61 5 64 (.tmp 98) (.tmp 105), none, [0, 7]⟩,
 ⟨some 16, .mv (.tmp 106), none, [8, 8, 0, 1, 2, 3, 4, 5, 6, 7, 8]⟩])
(.seq (.reg none [⟨some 107, .mv (.tmp 16), none, []⟩,
 ⟨some 108, .fldA 2 (.tmp 24), none, []⟩,
 ⟨some 109, .load none (.tmp 108), none, [1]⟩,
 ⟨some 110, .mv (.tmp 4), none, []⟩,
 ⟨some 111, .mv (.tmp 5), none, []⟩,
 ⟨some 112, .mv (.tmp 6), none, []⟩,
 ⟨some 113, .call (.lit (.fn 147 [])) [(.lit .nils), (.lit (.int .i64 0)), (.tmp 109), (.tmp 110), (.tmp 111), (.tmp 112)], none, [2, 3, 4, 5]⟩,
 ⟨some 114, .app 61 5 64 (.tmp 107) (.tmp 113), none, [0, 6, 6]⟩,
 ⟨some 16, .mv (.tmp 114), none, [7, 7, 0, 1, 2, 3, 4, 5, 6, 7]⟩])
(.reg none [⟨some 115, .mv (.tmp 15), none, []⟩,
 ⟨some 116, .mv (.tmp 23), none, []⟩,
 ⟨some 117, .idxA 1 (.tmp 115) (.tmp 116), none, [0, 1]⟩,
 ⟨some 118, .load none (.tmp 117), none, [2]⟩,
 ⟨some 22, .mv (.tmp 118), none, [3, 0, 1, 2, 3]⟩])))))
(.reg none [⟨some 119, .bin .add .int (.tmp 93) (.lit (.int .i64 1)), none, []⟩,
 ⟨some 93, .mv (.tmp 119), none, [0]⟩])))))))
(.seq (.reg none [⟨some 120, .mv (.tmp 16), none, []⟩,
 ⟨some 121, .mv (.tmp 20), none, []⟩,
 ⟨some 122, .mv (.tmp 22), none, []⟩,
 ⟨some 123, .slc 5 (.tmp 121) (some (.tmp 122)) none none, none, [1, 2]⟩,
 ⟨some 124, .app 61 5 64 (.tmp 120) (.tmp 123), none, [0, 3]⟩,
 ⟨some 14, .mv (.tmp 124), none, [4, 4, 0, 1, 2, 3, 4]⟩])
.ret)))))))))))) }
theorem c_edit_Upon : cFunc Tryz.prog n_edit_Upon = some f_edit_Upon := by kernel_rfl
/-- (*palinode/engine.Engine).fits -/
def f_engine_Engine_fits : SFunc := { ntmps := 15, results := [.tmp 2], body :=
(.seq (.reg none [⟨some 2, .mv (.lit (.bool false)), none, []⟩])
(.seq (.reg none [⟨some 6, .mv (.tmp 0), none, []⟩,
 ⟨some 7, .mv (.tmp 0), none, []⟩,
 ⟨some 8, .call (.lit (.fn 19 [])) [(.tmp 7)], none, [1]⟩,
 ⟨some 9, .call (.lit (.fn 24 [])) [(.tmp 6), (.tmp 8)], none, [0, 2, 2]⟩,
 ⟨some 5, .mv (.tmp 9), none, [3]⟩,
 ⟨some 10, .ext (.tmp 5) 0, none, [4]⟩,
 ⟨some 11, .ext (.tmp 5) 1, none, [4]⟩,
 ⟨some 3, .mv (.tmp 10), none, [5, 3, 0, 1, 2, 3, 4, 5]⟩,
 ⟨some 4, .mv (.tmp 11), none, [6, 7, 0, 1, 2, 3, 4, 5, 6, 7]⟩])
(.seq (.reg none [⟨some 12, .mv (.tmp 3), none, []⟩,
 ⟨some 13, .lenS (.tmp 12), none, [0]⟩,
 ⟨some 14, .bin .leq .int (.tmp 13) (.lit (.int .i64 20000)), none, [1]⟩,
 ⟨some 2, .mv (.tmp 14), none, [2, 0, 1, 2]⟩])
.ret))) }
theorem c_engine_Engine_fits : cFunc Tryz.prog n_engine_Engine_fits = some f_engine_Engine_fits := by kernel_rfl
/-- (*palinode/rev.Revs).Toggle -/
def f_rev_Revs_Toggle : SFunc := { ntmps := 36, results := [.tmp 4, .tmp 5], body :=
(.seq (.reg none [⟨some 4, .mv (.lit (.int .i64 0)), none, []⟩,
 ⟨some 5, .mv (.lit (.int .i64 0)), none, [0]⟩])
(.seq (.seq (.reg none [⟨some 10, .mv (.tmp 0), none, []⟩,
 ⟨some 11, .mv (.tmp 1), none, []⟩,
 ⟨some 12, .call (.lit (.fn 129 [])) [(.tmp 10), (.tmp 11)], none, [0, 1]⟩,
 ⟨some 13, .not (.tmp 12), none, [2]⟩])
(.cond (.tmp 13) (.seq (.reg none [⟨some 4, .mv (.lit (.int .i64 0)), none, []⟩,
 ⟨some 5, .mv (.lit (.int .i64 210)), none, [0, 0]⟩])
.ret) .skip))
(.seq (.reg none [⟨some 15, .mv (.tmp 0), none, []⟩,
 ⟨some 16, .call (.lit (.fn 144 [])) [(.tmp 15)], none, [0]⟩,
 ⟨some 14, .mv (.tmp 16), none, [1]⟩,
 ⟨some 17, .ext (.tmp 14) 0, none, [2]⟩,
 ⟨some 18, .ext (.tmp 14) 1, none, [2]⟩,
 ⟨some 6, .mv (.tmp 17), none, [3, 1, 0, 1, 2, 3]⟩,
 ⟨some 7, .mv (.tmp 18), none, [4, 5, 0, 1, 2, 3, 4, 5]⟩])
(.seq (.seq (.reg none [⟨some 19, .mv (.tmp 7), none, []⟩,
 ⟨some 20, .bin .neq .int (.tmp 19) (.lit (.int .i64 0)), none, [0]⟩])
(.cond (.tmp 20) (.seq (.reg none [⟨some 21, .mv (.tmp 7), none, []⟩,
 ⟨some 4, .mv (.lit (.int .i64 0)), none, []⟩,
 ⟨some 5, .mv (.tmp 21), none, [0, 1, 0, 1]⟩])
.ret) .skip))
(.seq (.seq (.reg none [⟨some 23, .mv (.tmp 6), none, []⟩,
 ⟨some 24, .mv (.tmp 1), none, []⟩,
 ⟨some 25, .look (.agg []) true (.tmp 23) (.tmp 24), none, [0, 1]⟩,
 ⟨some 22, .mv (.tmp 25), none, [2]⟩,
 ⟨some 26, .ext (.tmp 22) 0, none, [3]⟩,
 ⟨some 27, .ext (.tmp 22) 1, none, [3]⟩,
 ⟨some 8, .alloc [], none, []⟩,
 ⟨none, .store 0 (.tmp 8) (.tmp 26), none, [6, 4, 0, 1, 2, 3, 4, 6]⟩,
 ⟨some 9, .mv (.tmp 27), none, [5, 7, 0, 1, 2, 3, 4, 5, 6, 7]⟩])
(.seq (.reg none [⟨some 28, .mv (.tmp 9), none, []⟩])
(.cond (.tmp 28) (.reg none [⟨some 29, .mv (.tmp 6), none, []⟩,
 ⟨some 30, .mv (.tmp 1), none, []⟩,
 ⟨none, .del (.tmp 29) (.tmp 30), none, [0, 1]⟩]) (.reg none [⟨some 31, .mv (.tmp 6), none, []⟩,
 ⟨some 32, .mv (.tmp 1), none, []⟩,
 ⟨some 33, .build [] [], none, []⟩,
 ⟨none, .mapUp (.tmp 31) (.tmp 32) (.tmp 33), none, [0, 1, 2, 0, 1, 2]⟩]))))
(.seq (.reg none [⟨some 34, .mv (.tmp 0), none, []⟩,
 ⟨some 35, .call (.lit (.fn 64 [])) [(.tmp 34)], none, [0]⟩,
 ⟨some 4, .mv (.tmp 35), none, [1, 1, 0, 1]⟩,
 ⟨some 5, .mv (.lit (.int .i64 0)), none, [2, 0, 1, 2]⟩])
.ret)))))) }
theorem c_rev_Revs_Toggle : cFunc Tryz.prog n_rev_Revs_Toggle = some f_rev_Revs_Toggle := by kernel_rfl
/-- (*palinode/rev.Revs).Live -/
def f_rev_Revs_Live : SFunc := { ntmps := 17, results := [.tmp 4], body :=
(.seq (.reg none [⟨some 4, .mv (.lit (.bool false)), none, []⟩])
(.seq (.reg none [⟨some 5, .mv (.tmp 1), none, []⟩,
 ⟨some 6, .mv (.tmp 0), none, []⟩,
 ⟨some 7, .nilc (.tmp 6), none, [1]⟩,
 ⟨some 8, .fldA 1 (.tmp 7), none, [2]⟩,
 ⟨some 9, .load none (.tmp 8), none, [3]⟩,
 ⟨some 10, .bin .geq .int (.tmp 5) (.tmp 9), none, [0, 4]⟩,
 ⟨some 11, .mv (.tmp 10), none, [5]⟩,
 ⟨some 12, .mv (.tmp 1), some (11, true), [6]⟩,
 ⟨some 13, .mv (.tmp 0), some (11, true), [6]⟩,
 ⟨some 14, .call (.lit (.fn 64 [])) [(.tmp 13)], some (11, true), [8, 6, 6]⟩,
 ⟨some 15, .bin .leq .int (.tmp 12) (.tmp 14), some (11, true), [7, 9, 6]⟩,
 ⟨some 16, .pick (.tmp 11) (.tmp 15) (.lit (.bool false)), none, [6, 10]⟩,
 ⟨some 4, .mv (.tmp 16), none, [11, 9, 0, 1, 2, 3, 4, 5, 6, 7, 8, 9, 10, 11]⟩])
.ret)) }
theorem c_rev_Revs_Live : cFunc Tryz.prog n_rev_Revs_Live = some f_rev_Revs_Live := by kernel_rfl
/-- (palinode/rev.set).sorted -/
def f_rev_set_sorted : SFunc := { ntmps := 13, results := [.tmp 2], body :=
(.seq (.reg none [⟨some 2, .mv (.lit .nils), none, []⟩])
(.seq (.reg none [⟨some 4, .mv (.tmp 0), none, []⟩,
 ⟨some 5, .lenM (.tmp 4), none, [0]⟩,
 ⟨some 6, .mslc 1 8 [(.int .i64 0)] (.tmp 5) (.tmp 5), none, [1, 1]⟩,
 ⟨some 3, .mv (.tmp 6), none, [2, 1, 0, 1, 2]⟩])
(.seq (.reg none [⟨some 7, .mv (.tmp 3), none, []⟩,
 ⟨some 8, .mv (.tmp 0), none, []⟩,
 ⟨some 9, .call (.lit (.fn 156 [])) [(.tmp 8)], none, [1]⟩,
 ⟨some 10, .call (.lit (.fn 155 [])) [(.tmp 9)], none, [2, 2]⟩,
 ⟨some 11, .copy 1 (.tmp 7) (.tmp 10), none, [0, 3, 3]⟩])
(.seq (.reg none [⟨some 12, .mv (.tmp 3), none, []⟩,
 ⟨some 2, .mv (.tmp 12), none, [0, 0]⟩])
.ret)))) }
theorem c_rev_set_sorted : cFunc Tryz.prog n_rev_set_sorted = some f_rev_set_sorted := by kernel_rfl
/-- slices.Index[[]int,int] -/
def f_slices_Index_int_int : SFunc := { ntmps := 19, results := [.tmp 4], body :=
(.seq (.reg none [⟨some 4, .mv (.lit (.int .i64 0)), none, []⟩])
(.seq (.seq (.reg none [⟨some 6, .mv (.tmp 0), none, []⟩,
 ⟨some 7, .len (.tmp 6), none, [0]⟩,
 ⟨some 8, .mv (.lit (.int .i64 0)), none, []⟩])
(.block 0 (.loop (.seq (.reg none [⟨some 9, .bin .lss .int (.tmp 8) (.tmp 7), none, []⟩])
(.seq (.cond (.tmp 9) .skip (.exit 0))
(.seq (.block 1 (.seq (.reg none [⟨some 10, .mv (.tmp 8), none, []⟩,
 ⟨some 5, .mv (.tmp 10), none, [0, 0]⟩])
(.seq (.reg none [⟨some 11, .mv (.tmp 1), none, []⟩,
 ⟨some 12, .mv (.tmp 0), none, []⟩,
 ⟨some 13, .mv (.tmp 5), none, []⟩,
 ⟨some 14, .idxA 1 (.tmp 12) (.tmp 13), none, [1, 2]⟩,
 ⟨some 15, .load none (.tmp 14), none, [3]⟩,
 ⟨some 16, .bin .eql .int (.tmp 11) (.tmp 15), none, [0, 4]⟩])
(.cond (.tmp 16) (.seq (.reg none [⟨some 17, .mv (.tmp 5), none, []⟩,
 ⟨some 4, .mv (.tmp 17), none, [0, 0]⟩])
.ret) .skip))))
(.reg none [⟨some 18, .bin .add .int (.tmp 8) (.lit (.int .i64 1)), none, []⟩,
 ⟨some 8, .mv (.tmp 18), none, [0]⟩])))))))
(.seq (.reg none [⟨some 4, .mv (.lit (.int .i64 (-1))), none, []⟩])
.ret))) }
theorem c_slices_Index_int_int : cFunc Tryz.prog n_slices_Index_int_int = some f_slices_Index_int_int := by kernel_rfl
/-- slices.IndexFunc[[]int,int] -/
def f_slices_IndexFunc_int_int : SFunc := { ntmps := 19, results := [.tmp 4], body :=
(.seq (.reg none [⟨some 4, .mv (.lit (.int .i64 0)), none, []⟩])
(.seq (.seq (.reg none [⟨some 6, .mv (.tmp 0), none, []⟩,
 ⟨some 7, .len (.tmp 6), none, [0]⟩,
 ⟨some 8, .mv (.lit (.int .i64 0)), none, []⟩])
(.block 0 (.loop (.seq (.reg none [⟨some 9, .bin .lss .int (.tmp 8) (.tmp 7), none, []⟩])
(.seq (.cond (.tmp 9) .skip (.exit 0))
(.seq (.block 1 (.seq (.reg none [⟨some 10, .mv (.tmp 8), none, []⟩,
 ⟨some 5, .mv (.tmp 10), none, [0, 0]⟩])
(.seq (.reg none [⟨some 11, .mv (.tmp 1), none, []⟩,
 ⟨some 12, .mv (.tmp 0), none, []⟩,
 ⟨some 13, .mv (.tmp 5), none, []⟩,
 ⟨some 14, .idxA 1 (.tmp 12) (.tmp 13), none, [1, 2]⟩,
 ⟨some 15, .load none (.tmp 14), none, [3]⟩,
 ⟨some 16, .call (.tmp 11) [(.tmp 15)], none, [0, 4]⟩])
(.cond (.tmp 16) (.seq (.reg none [⟨some 17, .mv (.tmp 5), none, []⟩,
 ⟨some 4, .mv (.tmp 17), none, [0, 0]⟩])
.ret) .skip))))
(.reg none [⟨some 18, .bin .add .int (.tmp 8) (.lit (.int .i64 1)), none, []⟩,
 ⟨some 8, .mv (.tmp 18), none, [0]⟩])))))))
(.seq (.reg none [⟨some 4, .mv (.lit (.int .i64 (-1))), none, []⟩])
.ret))) }
theorem c_slices_IndexFunc_int_int : cFunc Tryz.prog n_slices_IndexFunc_int_int = some f_slices_IndexFunc_int_int := by kernel_rfl
/-- palinode/undo.holds$1 -/
def f_undo_holds_1 : SFunc := { ntmps := 7, results := [.tmp 3], body :=
(.seq (.reg none [⟨some 3, .mv (.lit (.bool false)), none, []⟩])
(.seq (.reg none [⟨some 4, .load none (.tmp 1), none, []⟩,
 ⟨some 5, .mv (.tmp 0), none, []⟩,
 ⟨some 6, .call (.lit (.fn 66 [])) [(.tmp 4), (.tmp 5)], none, [0, 1]⟩,
 ⟨some 3, .mv (.tmp 6), none, [2, 2, 0, 1, 2]⟩])
.ret)) }
theorem c_undo_holds_1 : cFunc Tryz.prog n_undo_holds_1 = some f_undo_holds_1 := by kernel_rfl
/-- (*strings.Builder).WriteString -/
def f_strings_Builder_WriteString : SFunc := { ntmps := 19, results := [.tmp 4, .tmp 5], body :=
(.seq (.reg none [⟨some 4, .mv (.lit (.int .i64 0)), none, []⟩,
 ⟨some 5, .mv (.lit (.raw .nilIface)), none, [0]⟩])
(.seq (.reg none [⟨some 6, .mv (.tmp 0), none, []⟩,
 ⟨some 7, .call (.lit (.fn 168 [])) [(.tmp 6)], none, [0]⟩])
(.seq (.reg none [⟨some 8, .mv (.tmp 0), none, []⟩,
 ⟨some 9, .mv (.tmp 0), none, []⟩,
 ⟨some 10, .nilc (.tmp 9), none, [1]⟩,
 ⟨some 11, .fldA 1 (.tmp 10), none, [2]⟩,
 ⟨some 12, .load none (.tmp 11), none, [3]⟩,
 ⟨some 13, .mv (.tmp 1), none, []⟩,
 ⟨some 14, .app 5 1 1 (.tmp 12) (.tmp 13), none, [4, 5]⟩,
 ⟨some 15, .nilc (.tmp 8), none, [0, 0, 1, 2, 3, 4, 5, 6]⟩,
 ⟨some 16, .fldA 1 (.tmp 15), none, [7, 0, 1, 2, 3, 4, 5, 6]⟩,
 ⟨none, .store 1 (.tmp 16) (.tmp 14), none, [8, 6, 6, 0, 1, 2, 3, 4, 5, 6]⟩])
(.seq (.reg none [⟨some 17, .mv (.tmp 1), none, []⟩,
 ⟨some 18, .lenS (.tmp 17), none, [0]⟩,
 ⟨some 4, .mv (.tmp 18), none, [1, 0, 1]⟩,
 ⟨some 5, .mv (.lit (.raw .nilIface)), none, [2, 0, 1, 2]⟩])
.ret)))) }
theorem c_strings_Builder_WriteString : cFunc Tryz.prog n_strings_Builder_WriteString = some f_strings_Builder_WriteString := by kernel_rfl
/-- palinode/atom.holds -/
def f_atom_holds : SFunc := { ntmps := 13, results := [.tmp 4], body :=
(.seq (.reg none [⟨some 4, .mv (.lit (.bool false)), none, []⟩])
(.seq (.reg none [⟨some 5, .mv (.tmp 0), none, []⟩,
 ⟨some 6, .bin .eql .int (.tmp 5) (.lit (.int .i64 (-1))), none, [0]⟩,
 ⟨some 7, .mv (.tmp 6), none, [1]⟩,
 ⟨some 8, .mv (.tmp 1), some (7, false), [2]⟩,
 ⟨some 9, .mv (.tmp 0), some (7, false), [2]⟩,
 ⟨some 10, .call (.lit (.fn 66 [])) [(.tmp 8), (.tmp 9)], some (7, false), [3, 4, 2, 2]⟩,
 ⟨some 11, .not (.tmp 10), some (7, false), [5, 2]⟩,
 ⟨some 12, .pick (.tmp 7) (.lit (.bool true)) (.tmp 11), none, [2, 6]⟩,
 ⟨some 4, .mv (.tmp 12), none, [7, 5, 0, 1, 2, 3, 4, 5, 6, 7]⟩])
.ret)) }
theorem c_atom_holds : cFunc Tryz.prog n_atom_holds = some f_atom_holds := by kernel_rfl
/-- slices.ContainsFunc[[]palinode/api.Cut,palinode/api.Cut] -/
def f_slices_ContainsFunc_api_Cut_api_Cut : SFunc := { ntmps := 9, results := [.tmp 4], body :=
(.seq (.reg none [⟨some 4, .mv (.lit (.bool false)), none, []⟩])
(.seq (.reg none [⟨some 5, .mv (.tmp 0), none, []⟩,
 ⟨some 6, .mv (.tmp 1), none, []⟩,
 ⟨some 7, .call (.lit (.fn 174 [])) [(.tmp 5), (.tmp 6)], none, [0, 1]⟩,
 ⟨some 8, .bin .geq .int (.tmp 7) (.lit (.int .i64 0)), none, [2]⟩,
 ⟨some 4, .mv (.tmp 8), none, [3, 2, 0, 1, 2, 3]⟩])
.ret)) }
theorem c_slices_ContainsFunc_api_Cut_api_Cut : cFunc Tryz.prog n_slices_ContainsFunc_api_Cut_api_Cut = some f_slices_ContainsFunc_api_Cut_api_Cut := by kernel_rfl
/-- palinode/atom.Visible$1 -/
def f_atom_Visible_1 : SFunc := { ntmps := 15, results := [.tmp 4], body :=
(.seq (.reg none [⟨some 3, .box (.tmp 0), none, []⟩,
 ⟨some 4, .mv (.lit (.bool false)), none, []⟩])
(.seq (.reg none [⟨some 5, .fldA 0 (.tmp 3), none, []⟩,
 ⟨some 6, .load none (.tmp 5), none, [0]⟩,
 ⟨some 7, .load none (.tmp 1), none, []⟩,
 ⟨some 8, .bin .leq .int (.tmp 6) (.tmp 7), none, [1, 2]⟩,
 ⟨some 9, .mv (.tmp 8), none, [3]⟩,
 ⟨some 10, .fldA 1 (.tmp 3), some (9, true), [4]⟩,
 ⟨some 11, .load none (.tmp 10), some (9, true), [5, 4]⟩,
 ⟨some 12, .load none (.tmp 2), some (9, true), [4]⟩,
 ⟨some 13, .call (.lit (.fn 123 [])) [(.tmp 11), (.tmp 12)], some (9, true), [6, 7, 4, 4]⟩,
 ⟨some 14, .pick (.tmp 9) (.tmp 13) (.lit (.bool false)), none, [4, 8]⟩,
 ⟨some 4, .mv (.tmp 14), none, [9, 8, 0, 1, 2, 3, 4, 5, 6, 7, 8, 9]⟩])
.ret)) }
theorem c_atom_Visible_1 : cFunc Tryz.prog n_atom_Visible_1 = some f_atom_Visible_1 := by kernel_rfl
/-- slices.Clone[[]palinode/api.Cut,palinode/api.Cut] -/
def f_slices_Clone_api_Cut_api_Cut : SFunc := { ntmps := 8, results := [.tmp 2], body :=
(.seq (.reg none [⟨some 2, .mv (.lit .nils), none, []⟩])
(.seq (.seq (.reg none [⟨some 3, .mv (.tmp 0), none, []⟩,
 ⟨some 4, .bin .eql .slc (.tmp 3) (.lit .nils), none, [0]⟩])
(.cond (.tmp 4) (.seq (.reg none [⟨some 2, .mv (.lit .nils), none, []⟩])
.ret) .skip))
(.seq (.reg none [⟨some 5, .bslc 2 [(.int .i64 0), (.int .i64 0)] 0 [], none, []⟩,
 ⟨some 6, .mv (.tmp 0), none, []⟩,
 ⟨some 7, .app 133 2 16 (.tmp 5) (.tmp 6), none, [0, 1]⟩,
 ⟨some 2, .mv (.tmp 7), none, [2, 2, 0, 1, 2]⟩])
.ret))) }
theorem c_slices_Clone_api_Cut_api_Cut : cFunc Tryz.prog n_slices_Clone_api_Cut_api_Cut = some f_slices_Clone_api_Cut_api_Cut := by kernel_rfl
/-- (*palinode/rev.Revs).has -/
def f_rev_Revs_has : SFunc := { ntmps := 17, results := [.tmp 4], body :=
(.seq (.reg none [⟨some 4, .mv (.lit (.bool false)), none, []⟩])
(.seq (.reg none [⟨some 8, .mv (.tmp 0), none, []⟩,
 ⟨some 9, .nilc (.tmp 8), none, [0]⟩,
 ⟨some 10, .fldA 2 (.tmp 9), none, [1]⟩,
 ⟨some 11, .load none (.tmp 10), none, [2]⟩,
 ⟨some 12, .mv (.tmp 1), none, []⟩,
 ⟨some 13, .look (.agg []) true (.tmp 11) (.tmp 12), none, [3, 4]⟩,
 ⟨some 7, .mv (.tmp 13), none, [5]⟩,
 ⟨some 14, .ext (.tmp 7) 0, none, [6]⟩,
 ⟨some 15, .ext (.tmp 7) 1, none, [6]⟩,
 ⟨some 5, .alloc [], none, []⟩,
 ⟨none, .store 0 (.tmp 5) (.tmp 14), none, [9, 7, 0, 1, 2, 3, 4, 5, 6, 7, 9]⟩,
 ⟨some 6, .mv (.tmp 15), none, [8, 10, 0, 1, 2, 3, 4, 5, 6, 7, 8, 9, 10]⟩])
(.seq (.reg none [⟨some 16, .mv (.tmp 6), none, []⟩,
 ⟨some 4, .mv (.tmp 16), none, [0, 0]⟩])
.ret))) }
theorem c_rev_Revs_has : cFunc Tryz.prog n_rev_Revs_has = some f_rev_Revs_has := by kernel_rfl
/-- palinode/utf.Valid -/
def f_utf_Valid : SFunc := { ntmps := 17, results := [.tmp 2], body :=
(.seq (.reg none [⟨some 2, .mv (.lit (.bool false)), none, []⟩])
(.seq (.seq (.reg none [⟨some 3, .mv (.lit (.int .i64 0)), none, []⟩])
(.block 0 (.loop (.seq (.seq (.reg none [⟨some 5, .mv (.tmp 3), none, []⟩,
 ⟨some 6, .mv (.tmp 0), none, []⟩,
 ⟨some 7, .lenS (.tmp 6), none, [1]⟩,
 ⟨some 8, .bin .lss .int (.tmp 5) (.tmp 7), none, [0, 2]⟩])
(.cond (.tmp 8) .skip (.exit 0)))
(.block 1 (.seq (.reg none [⟨some 9, .mv (.tmp 0), none, []⟩,
 ⟨some 10, .mv (.tmp 3), none, []⟩,
 ⟨some 11, .call (.lit (.fn 176 [])) [(.tmp 9), (.tmp 10)], none, [0, 1]⟩,
 ⟨some 4, .mv (.tmp 11), none, [2, 2, 0, 1, 2]⟩])
(.seq (.seq (.reg none [⟨some 12, .mv (.tmp 4), none, []⟩,
 ⟨some 13, .bin .eql .int (.tmp 12) (.lit (.int .i64 0)), none, [0]⟩])
(.cond (.tmp 13) (.seq (.reg none [⟨some 2, .mv (.lit (.bool false)), none, []⟩])
.ret) .skip))
(.reg none [⟨some 14, .mv (.tmp 3), none, []⟩,
 ⟨some 15, .mv (.tmp 4), none, []⟩,
 ⟨some 16, .bin .add .int (.tmp 14) (.tmp 15), none, [0, 1]⟩,
 ⟨some 3, .mv (.tmp 16), none, [2, 0, 1, 2]⟩]))))))))
(.seq (.reg none [⟨some 2, .mv (.lit (.bool true)), none, []⟩])
.ret))) }
theorem c_utf_Valid : cFunc Tryz.prog n_utf_Valid = some f_utf_Valid := by kernel_rfl
/-- palinode/edit.Check$1 -/
def f_edit_Check_1 : SFunc := { ntmps := 7, results := [.tmp 3], body :=
(.seq (.reg none [⟨some 3, .mv (.lit (.bool false)), none, []⟩])
(.seq (.reg none [⟨some 4, .load none (.tmp 1), none, []⟩,
 ⟨some 5, .mv (.tmp 0), none, []⟩,
 ⟨some 6, .call (.lit (.fn 137 [])) [(.tmp 4), (.tmp 5)], none, [0, 1]⟩,
 ⟨some 3, .mv (.tmp 6), none, [2, 2, 0, 1, 2]⟩])
.ret)) }
theorem c_edit_Check_1 : cFunc Tryz.prog n_edit_Check_1 = some f_edit_Check_1 := by kernel_rfl
/-- palinode/utf.IsEdge -/
def f_utf_IsEdge : SFunc := { ntmps := 30, results := [.tmp 4], body :=
(.seq (.reg none [⟨some 4, .mv (.lit (.bool false)), none, []⟩])
(.seq (.reg none [⟨some 5, .mv (.tmp 1), none, []⟩,
 ⟨some 6, .bin .geq .int (.tmp 5) (.lit (.int .i64 0)), none, [0]⟩,
 ⟨some 7, .mv (.tmp 6), none, [1]⟩,
 ⟨some 8, .mv (.tmp 1), some (7, true), [2]⟩,
 ⟨some 9, .mv (.tmp 0), some (7, true), [2]⟩,
 ⟨some 10, .lenS (.tmp 9), some (7, true), [4, 2]⟩,
 ⟨some 11, .bin .leq .int (.tmp 8) (.tmp 10), some (7, true), [3, 5, 2]⟩,
 ⟨some 12, .pick (.tmp 7) (.tmp 11) (.lit (.bool false)), none, [2, 6]⟩,
 ⟨some 13, .mv (.tmp 12), none, [7, 2]⟩,
 ⟨some 14, .mv (.tmp 1), some (13, true), [8]⟩,
 ⟨some 15, .mv (.tmp 0), some (13, true), [8]⟩,
 ⟨some 16, .lenS (.tmp 15), some (13, true), [10, 8]⟩,
 ⟨some 17, .bin .eql .int (.tmp 14) (.tmp 16), some (13, true), [9, 11, 8]⟩,
 ⟨some 18, .mv (.tmp 17), some (13, true), [12, 8, 8]⟩,
 ⟨some 19, .mv (.tmp 0), some (18, false), [13]⟩,
 ⟨some 20, .mv (.tmp 1), some (18, false), [13]⟩,
 ⟨some 21, .idxS (.tmp 19) (.tmp 20), some (18, false), [14, 15, 13]⟩,
 ⟨some 22, .bin .and .int (.tmp 21) (.lit (.int .u8 192)), some (18, false), [16, 13]⟩,
 ⟨some 23, .bin .neq .int (.tmp 22) (.lit (.int .u8 128)), some (18, false), [17, 13]⟩,
 ⟨some 24, .pick (.tmp 18) (.lit (.bool true)) (.tmp 23), some (13, true), [13, 18, 8]⟩,
 ⟨some 25, .pick (.tmp 13) (.tmp 24) (.lit (.bool false)), none, [8, 19]⟩,
 ⟨some 26, .mv (.tmp 25), none, [20, 13]⟩,
 ⟨some 27, .mv (.tmp 0), some (26, true), [21]⟩,
 ⟨some 28, .call (.lit (.fn 135 [])) [(.tmp 27)], some (26, true), [22, 21, 21]⟩,
 ⟨some 29, .pick (.tmp 26) (.tmp 28) (.lit (.bool false)), none, [21, 23]⟩,
 ⟨some 4, .mv (.tmp 29), none, [24, 23, 0, 1, 2, 3, 4, 5, 6, 7, 8, 9, 10, 11, 12, 13, 14, 15, 16, 17, 18, 19, 20, 21, 22, 23, 24]⟩])
.ret)) }
theorem c_utf_IsEdge : cFunc Tryz.prog n_utf_IsEdge = some f_utf_IsEdge := by kernel_rfl
/-- palinode/edit.first -/
def f_edit_first : SFunc := { ntmps := 20, results := [.tmp 6], body :=
(.seq (.reg none [⟨some 6, .mv (.lit (.int .i64 0)), none, []⟩])
(.seq (.seq (.reg none [⟨some 9, .mv (.tmp 0), none, []⟩,
 ⟨some 10, .len (.tmp 9), none, [0]⟩,
 ⟨some 11, .mv (.lit (.int .i64 0)), none, []⟩])
(.block 0 (.loop (.seq (.reg none [⟨some 12, .bin .lss .int (.tmp 11) (.tmp 10), none, []⟩])
(.seq (.cond (.tmp 12) .skip (.exit 0))
(.seq (.block 1 (.seq (.reg none [⟨some 13, .idxA 3 (.tmp 9) (.tmp 11), none, []⟩,
 ⟨some 14, .load (some 3) (.tmp 13), none, [0]⟩,
 ⟨some 8, .alloc [(.int .i64 0), (.int .i64 0), (.str [])], none, []⟩,
 ⟨none, .store 3 (.tmp 8) (.tmp 14), none, [2, 1, 0, 1, 2]⟩])
(.seq (.reg none [⟨some 15, .mv (.tmp 2), none, []⟩,
 ⟨some 16, .load (some 3) (.tmp 8), none, []⟩,
 ⟨some 17, .call (.tmp 15) [(.tmp 16)], none, [0, 1]⟩])
(.cond (.tmp 17) (.seq (.reg none [⟨some 18, .mv (.tmp 1), none, []⟩,
 ⟨some 6, .mv (.tmp 18), none, [0, 0]⟩])
.ret) .skip))))
(.reg none [⟨some 19, .bin .add .int (.tmp 11) (.lit (.int .i64 1)), none, []⟩,
 ⟨some 11, .mv (.tmp 19), none, [0]⟩])))))))
(.seq (.reg none [⟨some 6, .mv (.lit (.int .i64 0)), none, []⟩])
.ret))) }
theorem c_edit_first : cFunc Tryz.prog n_edit_first = some f_edit_first := by kernel_rfl
/-- palinode/edit.Check$2 -/
def f_edit_Check_2 : SFunc := { ntmps := 21, results := [.tmp 3], body :=
(.seq (.reg none [⟨some 2, .box (.tmp 0), none, []⟩,
 ⟨some 3, .mv (.lit (.bool false)), none, []⟩])
(.seq (.reg none [⟨some 4, .fldA 0 (.tmp 2), none, []⟩,
 ⟨some 5, .load none (.tmp 4), none, [0]⟩,
 ⟨some 6, .bin .lss .int (.tmp 5) (.lit (.int .i64 0)), none, [1]⟩,
 ⟨some 7, .mv (.tmp 6), none, [2]⟩,
 ⟨some 8, .fldA 0 (.tmp 2), some (7, false), [3]⟩,
 ⟨some 9, .load none (.tmp 8), some (7, false), [4, 3]⟩,
 ⟨some 10, .fldA 1 (.tmp 2), some (7, false), [3]⟩,
 ⟨some 11, .load none (.tmp 10), some (7, false), [6, 3]⟩,
 ⟨some 12, .bin .gtr .int (.tmp 9) (.tmp 11), some (7, false), [5, 7, 3]⟩,
 ⟨some 13, .pick (.tmp 7) (.lit (.bool true)) (.tmp 12), none, [3, 8]⟩,
 ⟨some 14, .mv (.tmp 13), none, [9, 3]⟩,
 ⟨some 15, .fldA 1 (.tmp 2), some (14, false), [10]⟩,
 ⟨some 16, .load none (.tmp 15), some (14, false), [11, 10]⟩,
 ⟨some 17, .load none (.tmp 1), some (14, false), [10]⟩,
 ⟨some 18, .lenS (.tmp 17), some (14, false), [13, 10]⟩,
 ⟨some 19, .bin .gtr .int (.tmp 16) (.tmp 18), some (14, false), [12, 14, 10]⟩,
 ⟨some 20, .pick (.tmp 14) (.lit (.bool true)) (.tmp 19), none, [10, 15]⟩,
 ⟨some 3, .mv (.tmp 20), none, [16, 10, 0, 1, 2, 3, 4, 5, 6, 7, 8, 9, 10, 11, 12, 13, 14, 15, 16]⟩])
.ret)) }
theorem c_edit_Check_2 : cFunc Tryz.prog n_edit_Check_2 = some f_edit_Check_2 := by kernel_rfl
/-- palinode/edit.Check$3 -/
def f_edit_Check_3 : SFunc := { ntmps := 16, results := [.tmp 3], body :=
(.seq (.reg none [⟨some 2, .box (.tmp 0), none, []⟩,
 ⟨some 3, .mv (.lit (.bool false)), none, []⟩])
(.seq (.reg none [⟨some 4, .load none (.tmp 1), none, []⟩,
 ⟨some 5, .fldA 0 (.tmp 2), none, []⟩,
 ⟨some 6, .load none (.tmp 5), none, [1]⟩,
 ⟨some 7, .call (.tmp 4) [(.tmp 6)], none, [0, 2]⟩,
 ⟨some 8, .not (.tmp 7), none, [3]⟩,
 ⟨some 9, .mv (.tmp 8), none, [4, 3]⟩,
 ⟨some 10, .load none (.tmp 1), some (9, false), [5]⟩,
 ⟨some 11, .fldA 1 (.tmp 2), some (9, false), [5]⟩,
 ⟨some 12, .load none (.tmp 11), some (9, false), [7, 5]⟩,
 ⟨some 13, .call (.tmp 10) [(.tmp 12)], some (9, false), [6, 8, 5, 5]⟩,
 ⟨some 14, .not (.tmp 13), some (9, false), [9, 5]⟩,
 ⟨some 15, .pick (.tmp 9) (.lit (.bool true)) (.tmp 14), none, [5, 10]⟩,
 ⟨some 3, .mv (.tmp 15), none, [11, 9, 0, 1, 2, 3, 4, 5, 6, 7, 8, 9, 10, 11]⟩])
.ret)) }
theorem c_edit_Check_3 : cFunc Tryz.prog n_edit_Check_3 = some f_edit_Check_3 := by kernel_rfl
/-- palinode/edit.order -/
def f_edit_order : SFunc := { ntmps := 40, results := [.tmp 2], body :=
(.seq (.reg none [⟨some 2, .mv (.lit (.int .i64 0)), none, []⟩])
(.seq (.seq (.reg none [⟨some 3, .mv (.lit (.int .i64 1)), none, []⟩])
(.block 0 (.loop (.seq (.seq (.reg none [⟨some 6, .mv (.tmp 3), none, []⟩,
 ⟨some 7, .mv (.tmp 0), none, []⟩,
 ⟨some 8, .len (.tmp 7), none, [1]⟩,
 ⟨some 9, .bin .lss .int (.tmp 6) (.tmp 8), none, [0, 2]⟩])
(.cond (.tmp 9) .skip (.exit 0)))
(.seq (.block 1 (.seq (.regA [0, 0, 2, 7, 15, 0, 0, 96, 224, 0, 0, 1567, 4095] [⟨some 12, .mv (.tmp 0), none, []⟩,
 ⟨some 13, .mv (.tmp 3), none, []⟩,
 ⟨some 14, .bin .sub .int (.tmp 13) (.lit (.int .i64 1)), none, [1]⟩,
 ⟨some 15, .idxA 3 (.tmp 12) (.tmp 14), none, [0, 2]⟩,
 ⟨some 16, .load (some 3) (.tmp 15), none, [3]⟩,
 ⟨some 17, .mv (.tmp 0), none, []⟩,
 ⟨some 18, .mv (.tmp 3), none, []⟩,
 ⟨some 19, .idxA 3 (.tmp 17) (.tmp 18), none, [5, 6]⟩,
 ⟨some 20, .load (some 3) (.tmp 19), none, [7]⟩,
 ⟨some 4, .lay 0 [(.int .i64 0), (.int .i64 0), (.str [])], none, []⟩,
 ⟨some 5, .lay 1 [(.int .i64 0), (.int .i64 0), (.str [])], none, []⟩,
 ⟨none, .store 3 (.tmp 4) (.tmp 16), none, [9, 4, 0, 1, 2, 3, 4, 9, 10]⟩,
 ⟨none, .store 3 (.tmp 5) (.tmp 20), none, [10, 8, 11, 0, 1, 2, 3, 4, 5, 6, 7, 8, 9, 10, 11]⟩])
(.seq (.reg none [⟨some 21, .fldA 0 (.tmp 5), none, []⟩,
 ⟨some 22, .load none (.tmp 21), none, [0]⟩,
 ⟨some 23, .fldA 1 (.tmp 4), none, []⟩,
 ⟨some 24, .load none (.tmp 23), none, [2]⟩,
 ⟨some 25, .bin .lss .int (.tmp 22) (.tmp 24), none, [1, 3]⟩,
 ⟨some 26, .mv (.tmp 25), none, [4]⟩,
 ⟨some 27, .fldA 0 (.tmp 4), some (26, false), [5]⟩,
 ⟨some 28, .load none (.tmp 27), some (26, false), [6, 5]⟩,
 ⟨some 29, .fldA 0 (.tmp 5), some (26, false), [5]⟩,
 ⟨some 30, .load none (.tmp 29), some (26, false), [8, 5]⟩,
 ⟨some 31, .bin .eql .int (.tmp 28) (.tmp 30), some (26, false), [7, 9, 5]⟩,
 ⟨some 32, .mv (.tmp 31), some (26, false), [10, 5, 5]⟩,
 ⟨some 33, .fldA 1 (.tmp 4), some (32, true), [11]⟩,
 ⟨some 34, .load none (.tmp 33), some (32, true), [12, 11]⟩,
 ⟨some 35, .fldA 0 (.tmp 5), some (32, true), [11]⟩,
 ⟨some 36, .load none (.tmp 35), some (32, true), [14, 11]⟩,
 ⟨some 37, .bin .eql .int (.tmp 34) (.tmp 36), some (32, true), [13, 15, 11]⟩,
 ⟨some 38, .pick (.tmp 32) (.tmp 37) (.lit (.bool false)), some (26, false), [11, 16, 5]⟩,
 ⟨some 39, .pick (.tmp 26) (.lit (.bool true)) (.tmp 38), none, [5, 17]⟩])
(.cond (.tmp 39) (.seq (.reg none [⟨some 2, .mv (.lit (.int .i64 180)), none, []⟩])
.ret) .skip))))
(.reg none [⟨some 10, .mv (.tmp 3), none, []⟩,
 ⟨some 11, .bin .add .int (.tmp 10) (.lit (.int .i64 1)), none, [0]⟩,
 ⟨some 3, .mv (.tmp 11), none, [1, 0, 1]⟩]))))))
(.seq (.reg none [⟨some 2, .mv (.lit (.int .i64 0)), none, []⟩])
.ret))) }
theorem c_edit_order : cFunc Tryz.prog n_edit_order = some f_edit_order := by kernel_rfl
/-- palinode/edit.Check$4 -/
def f_edit_Check_4 : SFunc := { ntmps := 7, results := [.tmp 2], body :=
(.seq (.reg none [⟨some 1, .box (.tmp 0), none, []⟩,
 ⟨some 2, .mv (.lit (.bool false)), none, []⟩])
(.seq (.reg none [⟨some 3, .fldA 2 (.tmp 1), none, []⟩,
 ⟨some 4, .load none (.tmp 3), none, [0]⟩,
 ⟨some 5, .call (.lit (.fn 135 [])) [(.tmp 4)], none, [1]⟩,
 ⟨some 6, .not (.tmp 5), none, [2]⟩,
 ⟨some 2, .mv (.tmp 6), none, [3, 2, 0, 1, 2, 3]⟩])
.ret)) }
theorem c_edit_Check_4 : cFunc Tryz.prog n_edit_Check_4 = some f_edit_Check_4 := by kernel_rfl
/-- palinode/edit.long -/
def f_edit_long : SFunc := { ntmps := 50, results := [.tmp 4], body :=
(.seq (.reg none [⟨some 4, .mv (.lit (.int .i64 0)), none, []⟩])
(.seq (.reg none [⟨some 10, .mv (.tmp 0), none, []⟩,
 ⟨some 11, .lenS (.tmp 10), none, [0]⟩,
 ⟨some 12, .bin .sub .int (.lit (.int .i64 20000)) (.tmp 11), none, [1]⟩,
 ⟨some 5, .mv (.tmp 12), none, [2, 0, 1, 2]⟩])
(.seq (.seq (.reg none [⟨some 13, .mv (.tmp 1), none, []⟩,
 ⟨some 14, .len (.tmp 13), none, [0]⟩,
 ⟨some 15, .mv (.lit (.int .i64 0)), none, []⟩])
(.block 0 (.loop (.seq (.reg none [⟨some 16, .bin .lss .int (.tmp 15) (.tmp 14), none, []⟩])
(.seq (.cond (.tmp 16) .skip (.exit 0))
(.seq (.block 1 (.seq (.reg none [⟨some 17, .idxA 3 (.tmp 13) (.tmp 15), none, []⟩,
 ⟨some 18, .load (some 3) (.tmp 17), none, [0]⟩,
 ⟨some 7, .alloc [(.int .i64 0), (.int .i64 0), (.str [])], none, []⟩,
 ⟨none, .store 3 (.tmp 7) (.tmp 18), none, [2, 1, 0, 1, 2]⟩])
(.reg none [⟨some 19, .mv (.tmp 5), none, []⟩,
 ⟨some 20, .fldA 1 (.tmp 7), none, []⟩,
 ⟨some 21, .load none (.tmp 20), none, [1]⟩,
 ⟨some 22, .fldA 0 (.tmp 7), none, []⟩,
 ⟨some 23, .load none (.tmp 22), none, [3]⟩,
 ⟨some 24, .bin .sub .int (.tmp 21) (.tmp 23), none, [2, 4]⟩,
 ⟨some 25, .maxs (.tmp 24) [(.lit (.int .i64 0))], none, [5]⟩,
 ⟨some 26, .mv (.tmp 0), none, []⟩,
 ⟨some 27, .lenS (.tmp 26), none, [7]⟩,
 ⟨some 28, .mins (.tmp 25) [(.tmp 27)], none, [6, 8]⟩,
 ⟨some 29, .bin .add .int (.tmp 19) (.tmp 28), none, [0, 9]⟩,
 ⟨some 5, .mv (.tmp 29), none, [10, 0, 1, 2, 3, 4, 5, 6, 7, 8, 9, 10]⟩])))
(.reg none [⟨some 30, .bin .add .int (.tmp 15) (.lit (.int .i64 1)), none, []⟩,
 ⟨some 15, .mv (.tmp 30), none, [0]⟩])))))))
(.seq (.seq (.reg none [⟨some 31, .mv (.tmp 1), none, []⟩,
 ⟨some 32, .len (.tmp 31), none, [0]⟩,
 ⟨some 33, .mv (.lit (.int .i64 0)), none, []⟩])
(.block 2 (.loop (.seq (.reg none [⟨some 34, .bin .lss .int (.tmp 33) (.tmp 32), none, []⟩])
(.seq (.cond (.tmp 34) .skip (.exit 2))
(.seq (.block 3 (.seq (.reg none [⟨some 35, .idxA 3 (.tmp 31) (.tmp 33), none, []⟩,
 ⟨some 36, .load (some 3) (.tmp 35), none, [0]⟩,
 ⟨some 9, .alloc [(.int .i64 0), (.int .i64 0), (.str [])], none, []⟩,
 ⟨none, .store 3 (.tmp 9) (.tmp 36), none, [2, 1, 0, 1, 2]⟩])
(.seq (.seq (.reg none [⟨some 37, .fldA 2 (.tmp 9), none, []⟩,
 ⟨some 38, .load none (.tmp 37), none, [0]⟩,
 ⟨some 39, .lenS (.tmp 38), none, [1]⟩,
 ⟨some 40, .mv (.tmp 5), none, []⟩,
 ⟨some 41, .bin .gtr .int (.tmp 39) (.tmp 40), none, [2, 3]⟩])
(.cond (.tmp 41) (.seq (.reg none [⟨some 4, .mv (.lit (.int .i64 13)), none, []⟩])
.ret) .skip))
(.reg none [⟨some 42, .mv (.tmp 5), none, []⟩,
 ⟨some 43, .fldA 2 (.tmp 9), none, []⟩,
 ⟨some 44, .load none (.tmp 43), none, [1]⟩,
 ⟨some 45, .lenS (.tmp 44), none, [2]⟩,
 ⟨some 46, .bin .sub .int (.tmp 42) (.tmp 45), none, [0, 3]⟩,
 ⟨some 5, .mv (.tmp 46), none, [4, 0, 1, 2, 3, 4]⟩]))))
(.reg none [⟨some 47, .bin .add .int (.tmp 33) (.lit (.int .i64 1)), none, []⟩,
 ⟨some 33, .mv (.tmp 47), none, [0]⟩])))))))
(.seq (.seq (.reg none [⟨some 48, .mv (.tmp 5), none, []⟩,
 ⟨some 49, .bin .lss .int (.tmp 48) (.lit (.int .i64 0)), none, [0]⟩])
(.cond (.tmp 49) (.seq (.reg none [⟨some 4, .mv (.lit (.int .i64 13)), none, []⟩])
.ret) .skip))
(.seq (.reg none [⟨some 4, .mv (.lit (.int .i64 0)), none, []⟩])
.ret)))))) }
theorem c_edit_long : cFunc Tryz.prog n_edit_long = some f_edit_long := by kernel_rfl
/-- (*palinode/rev.Revs).next -/
def f_rev_Revs_next : SFunc := { ntmps := 32, results := [.tmp 2, .tmp 3], body :=
(.seq (.reg none [⟨some 2, .mv (.lit .nilm), none, []⟩,
 ⟨some 3, .mv (.lit (.int .i64 0)), none, [0]⟩])
(.seq (.seq (.reg none [⟨some 5, .mv (.tmp 0), none, []⟩,
 ⟨some 6, .call (.lit (.fn 64 [])) [(.tmp 5)], none, [0]⟩,
 ⟨some 7, .bin .geq .int (.tmp 6) (.lit (.int .i64 200)), none, [1]⟩])
(.cond (.tmp 7) (.seq (.reg none [⟨some 2, .mv (.lit .nilm), none, []⟩,
 ⟨some 3, .mv (.lit (.int .i64 70)), none, [0, 0]⟩])
.ret) .skip))
(.seq (.reg (some [0, 1, 3, 7, 0, 16, 48, 112, 240, 496, 1023, 2047, 4095, 8191]) [⟨some 8, .mv (.tmp 0), none, []⟩,
 ⟨some 9, .nilc (.tmp 8), none, [0]⟩,
 ⟨some 10, .fldA 0 (.tmp 9), none, [1]⟩,
 ⟨some 11, .load none (.tmp 10), none, [2]⟩,
 ⟨some 12, .mv (.tmp 0), none, []⟩,
 ⟨some 13, .nilc (.tmp 12), none, [4]⟩,
 ⟨some 14, .fldA 0 (.tmp 13), none, [5]⟩,
 ⟨some 15, .load none (.tmp 14), none, [6]⟩,
 ⟨some 16, .len (.tmp 15), none, [7]⟩,
 ⟨some 17, .bin .sub .int (.tmp 16) (.lit (.int .i64 1)), none, [8]⟩,
 ⟨some 18, .idxA 1 (.tmp 11) (.tmp 17), none, [3, 9]⟩,
 ⟨some 19, .load none (.tmp 18), none, [10]⟩,
 ⟨some 20, .call (.lit (.fn 128 [])) [(.tmp 19)], none, [11]⟩,
 ⟨some 4, .mv (.tmp 20), none, [12, 12, 0, 1, 2, 3, 4, 5, 6, 7, 8, 9, 10, 11, 12]⟩])
(.seq (.reg none [⟨some 21, .mv (.tmp 0), none, []⟩,
 ⟨some 22, .mv (.tmp 0), none, []⟩,
 ⟨some 23, .nilc (.tmp 22), none, [1]⟩,
 ⟨some 24, .fldA 0 (.tmp 23), none, [2]⟩,
 ⟨some 25, .load none (.tmp 24), none, [3]⟩,
 ⟨some 26, .mv (.tmp 4), none, []⟩,
 ⟨some 27, .bslc 1 [(.raw (.map none))] 1 [(0, 1, (.tmp 26))], none, [5]⟩,
 ⟨some 28, .app 142 1 8 (.tmp 25) (.tmp 27), none, [4, 6]⟩,
 ⟨some 29, .nilc (.tmp 21), none, [0, 0, 1, 2, 3, 4, 5, 6, 7]⟩,
 ⟨some 30, .fldA 0 (.tmp 29), none, [8, 0, 1, 2, 3, 4, 5, 6, 7]⟩,
 ⟨none, .store 1 (.tmp 30) (.tmp 28), none, [9, 7, 7, 0, 1, 2, 3, 4, 5, 6, 7]⟩])
(.seq (.reg none [⟨some 31, .mv (.tmp 4), none, []⟩,
 ⟨some 2, .mv (.tmp 31), none, [0, 0]⟩,
 ⟨some 3, .mv (.lit (.int .i64 0)), none, [1, 0, 1]⟩])
.ret))))) }
theorem c_rev_Revs_next : cFunc Tryz.prog n_rev_Revs_next = some f_rev_Revs_next := by kernel_rfl
/-- palinode/edit.Spots -/
def f_edit_Spots : SFunc := { ntmps := 45, results := [.tmp 10], body :=
(.seq (.reg none [⟨some 10, .mv (.lit .nils), none, []⟩])
(.seq (.seq (.reg none [⟨some 15, .mv (.tmp 0), none, []⟩,
 ⟨some 16, .mv (.tmp 1), none, []⟩,
 ⟨some 17, .mv (.tmp 2), none, []⟩,
 ⟨some 18, .call (.lit (.fn 72 [])) [(.tmp 15), (.tmp 16), (.tmp 17)], none, [0, 1, 2]⟩,
 ⟨some 19, .mv (.tmp 3), none, []⟩,
 ⟨some 20, .call (.lit (.fn 89 [])) [(.tmp 18), (.tmp 19)], none, [3, 4, 3]⟩,
 ⟨some 21, .bin .neq .int (.tmp 20) (.lit (.int .i64 0)), none, [5]⟩])
(.cond (.tmp 21) (.seq (.reg none [⟨some 10, .mv (.lit .nils), none, []⟩])
.ret) .skip))
(.seq (.reg none [⟨some 22, .mv (.tmp 0), none, []⟩,
 ⟨some 23, .mv (.tmp 1), none, []⟩,
 ⟨some 24, .mv (.tmp 2), none, []⟩,
 ⟨some 25, .call (.lit (.fn 177 [])) [(.tmp 22), (.tmp 23), (.tmp 24)], none, [0, 1, 2]⟩,
 ⟨some 11, .mv (.tmp 25), none, [3, 3, 0, 1, 2, 3]⟩])
(.seq (.reg none [⟨some 12, .mv (.lit .nils), none, []⟩])
(.seq (.seq (.reg none [⟨some 26, .mv (.tmp 3), none, []⟩,
 ⟨some 27, .len (.tmp 26), none, [0]⟩,
 ⟨some 28, .mv (.lit (.int .i64 0)), none, []⟩])
(.block 0 (.loop (.seq (.reg none [⟨some 29, .bin .lss .int (.tmp 28) (.tmp 27), none, []⟩])
(.seq (.cond (.tmp 29) .skip (.exit 0))
(.seq (.block 1 (.seq (.reg none [⟨some 30, .idxA 3 (.tmp 26) (.tmp 28), none, []⟩,
 ⟨some 31, .load (some 3) (.tmp 30), none, [0]⟩,
 ⟨some 14, .alloc [(.int .i64 0), (.int .i64 0), (.str [])], none, []⟩,
 ⟨none, .store 3 (.tmp 14) (.tmp 31), none, [2, 1, 0, 1, 2]⟩])
(.reg none [⟨some 32, .mv (.tmp 12), none, []⟩,
 ⟨some 33, .mv (.tmp 0), none, []⟩,
 ⟨some 34, .mv (.tmp 11), none, []⟩,
 ⟨some 35, .mv (.tmp 1), none, []⟩,
 ⟨some 36, .mv (.tmp 2), none, []⟩,
 ⟨some 37, .fldA 0 (.tmp 14), none, []⟩,
 ⟨some 38, .load none (.tmp 37), none, [5]⟩,
 ⟨some 39, .mv (.tmp 4), none, []⟩,
 ⟨some 40, .call (.lit (.fn 178 [])) [(.tmp 33), (.tmp 34), (.tmp 35), (.tmp 36), (.tmp 38), (.tmp 39)], none, [1, 2, 3, 4, 6, 7]⟩,
 ⟨some 41, .bslc 1 [(.int .i64 0)] 1 [(0, 1, (.tmp 40))], none, [8]⟩,
 ⟨some 42, .app 3 1 8 (.tmp 32) (.tmp 41), none, [0, 9, 8]⟩,
 ⟨some 12, .mv (.tmp 42), none, [10, 10, 0, 1, 2, 3, 4, 5, 6, 7, 8, 9, 10]⟩])))
(.reg none [⟨some 43, .bin .add .int (.tmp 28) (.lit (.int .i64 1)), none, []⟩,
 ⟨some 28, .mv (.tmp 43), none, [0]⟩])))))))
(.seq (.reg none [⟨some 44, .mv (.tmp 12), none, []⟩,
 ⟨some 10, .mv (.tmp 44), none, [0, 0]⟩])
.ret)))))) }
theorem c_edit_Spots : cFunc Tryz.prog n_edit_Spots = some f_edit_Spots := by kernel_rfl
/-- palinode/edit.Cuts -/
def f_edit_Cuts : SFunc := { ntmps := 67, results := [.tmp 8], body :=
(.seq (.reg none [⟨some 8, .mv (.lit .nils), none, []⟩])
(.seq (.seq (.reg none [⟨some 15, .mv (.tmp 0), none, []⟩,
 ⟨some 16, .mv (.tmp 1), none, []⟩,
 ⟨some 17, .mv (.tmp 2), none, []⟩,
 ⟨some 18, .call (.lit (.fn 72 [])) [(.tmp 15), (.tmp 16), (.tmp 17)], none, [0, 1, 2]⟩,
 ⟨some 19, .mv (.tmp 3), none, []⟩,
 ⟨some 20, .call (.lit (.fn 89 [])) [(.tmp 18), (.tmp 19)], none, [3, 4, 3]⟩,
 ⟨some 21, .bin .neq .int (.tmp 20) (.lit (.int .i64 0)), none, [5]⟩])
(.cond (.tmp 21) (.seq (.reg none [⟨some 8, .mv (.lit .nils), none, []⟩])
.ret) .skip))
(.seq (.reg none [⟨some 22, .mv (.tmp 0), none, []⟩,
 ⟨some 23, .mv (.tmp 1), none, []⟩,
 ⟨some 24, .mv (.tmp 2), none, []⟩,
 ⟨some 25, .call (.lit (.fn 177 [])) [(.tmp 22), (.tmp 23), (.tmp 24)], none, [0, 1, 2]⟩,
 ⟨some 9, .mv (.tmp 25), none, [3, 3, 0, 1, 2, 3]⟩])
(.seq (.reg none [⟨some 10, .mv (.lit .nils), none, []⟩])
(.seq .skip
(.seq (.seq (.reg none [⟨some 26, .mv (.tmp 0), none, []⟩,
 ⟨some 27, .len (.tmp 26), none, [0]⟩,
 ⟨some 28, .mv (.lit (.int .i64 0)), none, []⟩])
(.block 0 (.loop (.seq (.reg none [⟨some 29, .bin .lss .int (.tmp 28) (.tmp 27), none, []⟩])
(.seq (.cond (.tmp 29) .skip (.exit 0))
(.seq (.block 1 (.seq (.reg none [⟨some 30, .mv (.tmp 28), none, []⟩,
 ⟨some 31, .idxA 5 (.tmp 26) (.tmp 28), none, []⟩,
 ⟨some 32, .load (some 5) (.tmp 31), none, [1]⟩,
 ⟨some 12, .alloc [(.str []), (.int .i64 0), (.int .i64 0), (.int .i64 0), .nils], none, []⟩,
 ⟨some 11, .mv (.tmp 30), none, [0, 0, 1, 2, 3]⟩,
 ⟨none, .store 5 (.tmp 12) (.tmp 32), none, [3, 2, 4, 0, 1, 2, 3, 4]⟩])
(.seq (.seq (.reg none [⟨some 33, .load (some 5) (.tmp 12), none, []⟩,
 ⟨some 34, .mv (.tmp 1), none, []⟩,
 ⟨some 35, .mv (.tmp 2), none, []⟩,
 ⟨some 36, .call (.lit (.fn 82 [])) [(.tmp 33), (.tmp 34), (.tmp 35)], none, [0, 1, 2]⟩,
 ⟨some 37, .not (.tmp 36), none, [3]⟩])
(.cond (.tmp 37) (.exit 1) .skip))
(.seq (.reg none [⟨some 38, .mv (.tmp 3), none, []⟩,
 ⟨some 39, .len (.tmp 38), none, [0]⟩,
 ⟨some 40, .mv (.lit (.int .i64 0)), none, []⟩])
(.block 2 (.loop (.seq (.reg none [⟨some 41, .bin .lss .int (.tmp 40) (.tmp 39), none, []⟩])
(.seq (.cond (.tmp 41) .skip (.exit 2))
(.seq (.block 3 (.seq (.reg none [⟨some 42, .idxA 3 (.tmp 38) (.tmp 40), none, []⟩,
 ⟨some 43, .load (some 3) (.tmp 42), none, [0]⟩,
 ⟨some 14, .alloc [(.int .i64 0), (.int .i64 0), (.str [])], none, []⟩,
 ⟨none, .store 3 (.tmp 14) (.tmp 43), none, [2, 1, 0, 1, 2]⟩])
(.seq (.reg (some [0, 0, 3, 7, 0, 16, 63, 127, 255, 255, 1023, 2047, 255, 4351, 16383, 32767]) [⟨some 44, .mv (.tmp 9), none, []⟩,
 ⟨some 45, .mv (.tmp 11), none, []⟩,
 ⟨some 46, .idxA 1 (.tmp 44) (.tmp 45), none, [0, 1]⟩,
 ⟨some 47, .load none (.tmp 46), none, [2]⟩,
 ⟨some 48, .fldA 0 (.tmp 14), none, []⟩,
 ⟨some 49, .load none (.tmp 48), none, [4]⟩,
 ⟨some 50, .bin .geq .int (.tmp 47) (.tmp 49), none, [3, 5]⟩,
 ⟨some 51, .mv (.tmp 50), none, [6]⟩,
 ⟨some 52, .mv (.tmp 9), some (51, true), [7]⟩,
 ⟨some 53, .mv (.tmp 11), some (51, true), [7]⟩,
 ⟨some 54, .idxA 1 (.tmp 52) (.tmp 53), some (51, true), [8, 9, 7]⟩,
 ⟨some 55, .load none (.tmp 54), some (51, true), [10, 7]⟩,
 ⟨some 56, .fldA 1 (.tmp 14), some (51, true), [7]⟩,
 ⟨some 57, .load none (.tmp 56), some (51, true), [12, 7]⟩,
 ⟨some 58, .bin .lss .int (.tmp 55) (.tmp 57), some (51, true), [11, 13, 7]⟩,
 ⟨some 59, .pick (.tmp 51) (.tmp 58) (.lit (.bool false)), none, [7, 14]⟩])
(.cond (.tmp 59) (.seq (.reg none [⟨some 60, .mv (.tmp 10), none, []⟩,
 ⟨some 61, .mv (.tmp 11), none, []⟩,
 ⟨some 62, .bslc 1 [(.int .i64 0)] 1 [(0, 1, (.tmp 61))], none, [1]⟩,
 ⟨some 63, .app 3 1 8 (.tmp 60) (.tmp 62), none, [0, 2]⟩,
 ⟨some 10, .mv (.tmp 63), none, [3, 3, 0, 1, 2, 3]⟩])
(.exit 1)) .skip))))
(.reg none [⟨some 64, .bin .add .int (.tmp 40) (.lit (.int .i64 1)), none, []⟩,
 ⟨some 40, .mv (.tmp 64), none, [0]⟩]))))))))))
(.reg none [⟨some 65, .bin .add .int (.tmp 28) (.lit (.int .i64 1)), none, []⟩,
 ⟨some 28, .mv (.tmp 65), none, [0]⟩])))))))
(.seq (.reg none [⟨some 66, .mv (.tmp 10), none, []⟩,
 ⟨some 8, .mv (.tmp 66), none, [0, 0]⟩])
.ret))))))) }
theorem c_edit_Cuts : cFunc Tryz.prog n_edit_Cuts = some f_edit_Cuts := by kernel_rfl
/-- palinode/atom.Put -/
def f_atom_Put : SFunc := { ntmps := 46, results := [.tmp 12], body :=
(.seq (.reg none [⟨some 12, .mv (.lit .nils), none, []⟩])
(.seq (.reg none [⟨some 16, .mv (.tmp 1), none, []⟩,
 ⟨some 17, .maxs (.tmp 16) [(.lit (.int .i64 0))], none, [0]⟩,
 ⟨some 18, .mv (.tmp 0), none, []⟩,
 ⟨some 19, .len (.tmp 18), none, [2]⟩,
 ⟨some 20, .mins (.tmp 17) [(.tmp 19)], none, [1, 3]⟩,
 ⟨some 1, .mv (.tmp 20), none, [4, 0, 1, 2, 3, 4]⟩])
(.seq (.reg none [⟨some 21, .mv (.tmp 0), none, []⟩,
 ⟨some 22, .mv (.tmp 1), none, []⟩,
 ⟨some 23, .slc 5 (.tmp 21) none (some (.tmp 22)) none, none, [0, 1]⟩,
 ⟨some 24, .call (.lit (.fn 83 [])) [(.tmp 23)], none, [2]⟩,
 ⟨some 13, .mv (.tmp 24), none, [3, 3, 0, 1, 2, 3]⟩])
(.seq (.seq (.reg none [⟨some 25, .mv (.tmp 2), none, []⟩,
 ⟨some 26, .call (.lit (.fn 179 [])) [(.tmp 25)], none, [0]⟩,
 ⟨some 27, .iter (.tmp 26), none, [1]⟩])
(.block 0 (.loop (.seq (.reg none [⟨some 28, .next (.tmp 27), none, []⟩,
 ⟨some 29, .ext (.tmp 28) 0, none, [0]⟩])
(.seq (.cond (.tmp 29) .skip (.exit 0))
(.block 1 (.seq (.reg none [⟨some 30, .ext (.tmp 28) 2, none, []⟩,
 ⟨some 15, .mv (.tmp 30), none, [0, 0]⟩])
(.reg none [⟨some 31, .mv (.tmp 13), none, []⟩,
 ⟨some 32, .mv (.tmp 15), none, []⟩,
 ⟨some 33, .cstr (.tmp 32), none, [1]⟩,
 ⟨some 34, .mv (.tmp 3), none, []⟩,
 ⟨some 35, .mv (.tmp 4), none, []⟩,
 ⟨some 36, .mv (.tmp 5), none, []⟩,
 ⟨some 37, .build [(.str []), (.int .i64 0), (.int .i64 0), (.int .i64 0), .nils] [(0, 1, (.tmp 33)), (1, 1, (.tmp 34)), (2, 1, (.tmp 35)), (3, 1, (.tmp 36))], none, [2, 3, 4, 5]⟩,
 ⟨some 38, .bslc 5 [(.str []), (.int .i64 0), (.int .i64 0), (.int .i64 0), .nils] 1 [(0, 5, (.tmp 37))], none, [6]⟩,
 ⟨some 39, .app 61 5 64 (.tmp 31) (.tmp 38), none, [0, 7]⟩,
 ⟨some 13, .mv (.tmp 39), none, [8, 8, 0, 1, 2, 3, 4, 5, 6, 7, 8]⟩]))))))))
(.seq (.reg none [⟨some 40, .mv (.tmp 13), none, []⟩,
 ⟨some 41, .mv (.tmp 0), none, []⟩,
 ⟨some 42, .mv (.tmp 1), none, []⟩,
 ⟨some 43, .slc 5 (.tmp 41) (some (.tmp 42)) none none, none, [1, 2]⟩,
 ⟨some 44, .call (.lit (.fn 83 [])) [(.tmp 43)], none, [3]⟩,
 ⟨some 45, .app 61 5 64 (.tmp 40) (.tmp 44), none, [0, 4, 4]⟩,
 ⟨some 12, .mv (.tmp 45), none, [5, 5, 0, 1, 2, 3, 4, 5]⟩])
.ret))))) }
theorem c_atom_Put : cFunc Tryz.prog n_atom_Put = some f_atom_Put := by kernel_rfl
/-- maps.Keys[palinode/rev.set,int,struct{}] -/
def f_maps_Keys_rev_set_int_unit : SFunc := { ntmps := 4, results := [.tmp 2], body :=
(.seq (.reg none [⟨some 1, .box (.tmp 0), none, []⟩,
 ⟨some 2, .mv (.lit .nilf), none, []⟩])
(.seq (.reg none [⟨some 3, .mkfn 182 [(.tmp 1)], none, []⟩,
 ⟨some 2, .mv (.tmp 3), none, [0, 0]⟩])
.ret)) }
theorem c_maps_Keys_rev_set_int_unit : cFunc Tryz.prog n_maps_Keys_rev_set_int_unit = some f_maps_Keys_rev_set_int_unit := by kernel_rfl
/-- slices.IndexFunc[[]palinode/api.Cut,palinode/api.Cut] -/
def f_slices_IndexFunc_api_Cut_api_Cut : SFunc := { ntmps := 19, results := [.tmp 4], body :=
(.seq (.reg none [⟨some 4, .mv (.lit (.int .i64 0)), none, []⟩])
(.seq (.seq (.reg none [⟨some 6, .mv (.tmp 0), none, []⟩,
 ⟨some 7, .len (.tmp 6), none, [0]⟩,
 ⟨some 8, .mv (.lit (.int .i64 0)), none, []⟩])
(.block 0 (.loop (.seq (.reg none [⟨some 9, .bin .lss .int (.tmp 8) (.tmp 7), none, []⟩])
(.seq (.cond (.tmp 9) .skip (.exit 0))
(.seq (.block 1 (.seq (.reg none [⟨some 10, .mv (.tmp 8), none, []⟩,
 ⟨some 5, .mv (.tmp 10), none, [0, 0]⟩])
(.seq (.reg none [⟨some 11, .mv (.tmp 1), none, []⟩,
 ⟨some 12, .mv (.tmp 0), none, []⟩,
 ⟨some 13, .mv (.tmp 5), none, []⟩,
 ⟨some 14, .idxA 2 (.tmp 12) (.tmp 13), none, [1, 2]⟩,
 ⟨some 15, .load (some 2) (.tmp 14), none, [3]⟩,
 ⟨some 16, .call (.tmp 11) [(.tmp 15)], none, [0, 4]⟩])
(.cond (.tmp 16) (.seq (.reg none [⟨some 17, .mv (.tmp 5), none, []⟩,
 ⟨some 4, .mv (.tmp 17), none, [0, 0]⟩])
.ret) .skip))))
(.reg none [⟨some 18, .bin .add .int (.tmp 8) (.lit (.int .i64 1)), none, []⟩,
 ⟨some 8, .mv (.tmp 18), none, [0]⟩])))))))
(.seq (.reg none [⟨some 4, .mv (.lit (.int .i64 (-1))), none, []⟩])
.ret))) }
theorem c_slices_IndexFunc_api_Cut_api_Cut : cFunc Tryz.prog n_slices_IndexFunc_api_Cut_api_Cut = some f_slices_IndexFunc_api_Cut_api_Cut := by kernel_rfl
/-- palinode/utf.Size -/
def f_utf_Size : SFunc := { ntmps := 14, results := [.tmp 4], body :=
(.seq (.reg none [⟨some 4, .mv (.lit (.int .i64 0)), none, []⟩])
(.seq (.reg none [⟨some 8, .mv (.tmp 0), none, []⟩,
 ⟨some 9, .mv (.tmp 1), none, []⟩,
 ⟨some 10, .call (.lit (.fn 192 [])) [(.tmp 8), (.tmp 9)], none, [0, 1]⟩,
 ⟨some 7, .mv (.tmp 10), none, [2]⟩,
 ⟨some 11, .ext (.tmp 7) 0, none, [3]⟩,
 ⟨some 12, .ext (.tmp 7) 1, none, [3]⟩,
 ⟨some 5, .mv (.tmp 11), none, [4, 2, 0, 1, 2, 3, 4]⟩,
 ⟨some 6, .mv (.tmp 12), none, [5, 6, 0, 1, 2, 3, 4, 5, 6]⟩])
(.seq (.reg none [⟨some 13, .mv (.tmp 6), none, []⟩,
 ⟨some 4, .mv (.tmp 13), none, [0, 0]⟩])
.ret))) }
theorem c_utf_Size : cFunc Tryz.prog n_utf_Size = some f_utf_Size := by kernel_rfl
/-- palinode/atom.Places -/
def f_atom_Places : SFunc := { ntmps := 39, results := [.tmp 6], body :=
(.seq (.reg none [⟨some 6, .mv (.lit .nils), none, []⟩])
(.seq (.reg none [⟨some 11, .mv (.tmp 0), none, []⟩,
 ⟨some 12, .len (.tmp 11), none, [0]⟩,
 ⟨some 13, .bin .add .int (.tmp 12) (.lit (.int .i64 1)), none, [1]⟩,
 ⟨some 14, .mslc 1 8 [(.int .i64 0)] (.lit (.int .i64 0)) (.tmp 13), none, [2]⟩,
 ⟨some 7, .mv (.tmp 14), none, [3, 0, 1, 2, 3]⟩])
(.seq (.reg none [⟨some 8, .mv (.lit (.int .i64 0)), none, []⟩])
(.seq (.seq (.reg none [⟨some 15, .mv (.tmp 0), none, []⟩,
 ⟨some 16, .len (.tmp 15), none, [0]⟩,
 ⟨some 17, .mv (.lit (.int .i64 0)), none, []⟩])
(.block 0 (.loop (.seq (.reg none [⟨some 18, .bin .lss .int (.tmp 17) (.tmp 16), none, []⟩])
(.seq (.cond (.tmp 18) .skip (.exit 0))
(.seq (.block 1 (.seq (.reg none [⟨some 19, .idxA 5 (.tmp 15) (.tmp 17), none, []⟩,
 ⟨some 20, .load (some 5) (.tmp 19), none, [0]⟩,
 ⟨some 10, .alloc [(.str []), (.int .i64 0), (.int .i64 0), (.int .i64 0), .nils], none, []⟩,
 ⟨none, .store 5 (.tmp 10) (.tmp 20), none, [2, 1, 0, 1, 2]⟩])
(.seq (.reg none [⟨some 21, .mv (.tmp 7), none, []⟩,
 ⟨some 22, .mv (.tmp 8), none, []⟩,
 ⟨some 23, .bslc 1 [(.int .i64 0)] 1 [(0, 1, (.tmp 22))], none, [1]⟩,
 ⟨some 24, .app 3 1 8 (.tmp 21) (.tmp 23), none, [0, 2]⟩,
 ⟨some 7, .mv (.tmp 24), none, [3, 3, 0, 1, 2, 3]⟩])
(.seq (.reg none [⟨some 25, .load (some 5) (.tmp 10), none, []⟩,
 ⟨some 26, .mv (.tmp 1), none, []⟩,
 ⟨some 27, .mv (.tmp 2), none, []⟩,
 ⟨some 28, .call (.lit (.fn 82 [])) [(.tmp 25), (.tmp 26), (.tmp 27)], none, [0, 1, 2]⟩])
(.cond (.tmp 28) (.reg none [⟨some 29, .mv (.tmp 8), none, []⟩,
 ⟨some 30, .fldA 0 (.tmp 10), none, []⟩,
 ⟨some 31, .load none (.tmp 30), none, [1]⟩,
 ⟨some 32, .lenS (.tmp 31), none, [2]⟩,
 ⟨some 33, .bin .add .int (.tmp 29) (.tmp 32), none, [0, 3]⟩,
 ⟨some 8, .mv (.tmp 33), none, [4, 0, 1, 2, 3, 4]⟩]) .skip)))))
(.reg none [⟨some 34, .bin .add .int (.tmp 17) (.lit (.int .i64 1)), none, []⟩,
 ⟨some 17, .mv (.tmp 34), none, [0]⟩])))))))
(.seq (.reg none [⟨some 35, .mv (.tmp 7), none, []⟩,
 ⟨some 36, .mv (.tmp 8), none, []⟩,
 ⟨some 37, .bslc 1 [(.int .i64 0)] 1 [(0, 1, (.tmp 36))], none, [1]⟩,
 ⟨some 38, .app 3 1 8 (.tmp 35) (.tmp 37), none, [0, 2]⟩,
 ⟨some 6, .mv (.tmp 38), none, [3, 3, 0, 1, 2, 3]⟩])
.ret))))) }
theorem c_atom_Places : cFunc Tryz.prog n_atom_Places = some f_atom_Places := by kernel_rfl
/-- palinode/edit.spot -/
def f_edit_spot : SFunc := { ntmps := 63, results := [.tmp 12], body :=
(.seq (.reg none [⟨some 12, .mv (.lit (.int .i64 0)), none, []⟩])
(.seq (.reg none [⟨some 13, .mv (.lit (.int .i64 0)), none, []⟩])
(.seq (.seq (.reg none [⟨some 16, .mv (.tmp 0), none, []⟩,
 ⟨some 17, .len (.tmp 16), none, [0]⟩,
 ⟨some 18, .mv (.lit (.int .i64 0)), none, []⟩])
(.block 0 (.loop (.seq (.reg none [⟨some 19, .bin .lss .int (.tmp 18) (.tmp 17), none, []⟩])
(.seq (.cond (.tmp 19) .skip (.exit 0))
(.seq (.block 1 (.seq (.reg none [⟨some 20, .mv (.tmp 18), none, []⟩,
 ⟨some 21, .idxA 5 (.tmp 16) (.tmp 18), none, []⟩,
 ⟨some 22, .load (some 5) (.tmp 21), none, [1]⟩,
 ⟨some 15, .alloc [(.str []), (.int .i64 0), (.int .i64 0), (.int .i64 0), .nils], none, []⟩,
 ⟨some 14, .mv (.tmp 20), none, [0, 0, 1, 2, 3]⟩,
 ⟨none, .store 5 (.tmp 15) (.tmp 22), none, [3, 2, 4, 0, 1, 2, 3, 4]⟩])
(.seq (.reg none [⟨some 23, .mv (.tmp 1), none, []⟩,
 ⟨some 24, .mv (.tmp 14), none, []⟩,
 ⟨some 25, .idxA 1 (.tmp 23) (.tmp 24), none, [0, 1]⟩,
 ⟨some 26, .load none (.tmp 25), none, [2]⟩,
 ⟨some 27, .mv (.tmp 4), none, []⟩,
 ⟨some 28, .bin .lss .int (.tmp 26) (.tmp 27), none, [3, 4]⟩,
 ⟨some 29, .mv (.tmp 28), none, [5]⟩,
 ⟨some 30, .load (some 5) (.tmp 15), some (29, true), [6]⟩,
 ⟨some 31, .mv (.tmp 2), some (29, true), [6]⟩,
 ⟨some 32, .mv (.tmp 3), some (29, true), [6]⟩,
 ⟨some 33, .call (.lit (.fn 82 [])) [(.tmp 30), (.tmp 31), (.tmp 32)], some (29, true), [7, 8, 9, 6, 6]⟩,
 ⟨some 34, .pick (.tmp 29) (.tmp 33) (.lit (.bool false)), none, [6, 10]⟩])
(.cond (.tmp 34) (.reg none [⟨some 35, .mv (.tmp 14), none, []⟩,
 ⟨some 36, .bin .add .int (.tmp 35) (.lit (.int .i64 1)), none, [0]⟩,
 ⟨some 13, .mv (.tmp 36), none, [1, 0, 1]⟩]) .skip))))
(.reg none [⟨some 37, .bin .add .int (.tmp 18) (.lit (.int .i64 1)), none, []⟩,
 ⟨some 18, .mv (.tmp 37), none, [0]⟩])))))))
(.seq (.block 2 (.loop (.seq (.seq (.reg none [⟨some 38, .mv (.tmp 13), none, []⟩,
 ⟨some 39, .mv (.tmp 0), none, []⟩,
 ⟨some 40, .len (.tmp 39), none, [1]⟩,
 ⟨some 41, .bin .lss .int (.tmp 38) (.tmp 40), none, [0, 2]⟩,
 ⟨some 42, .mv (.tmp 41), none, [3]⟩,
 ⟨some 43, .mv (.tmp 0), some (42, true), [4]⟩,
 ⟨some 44, .mv (.tmp 13), some (42, true), [4]⟩,
 ⟨some 45, .idxA 5 (.tmp 43) (.tmp 44), some (42, true), [5, 6, 4]⟩,
 ⟨some 46, .fldA 1 (.tmp 45), some (42, true), [7, 4]⟩,
 ⟨some 47, .load none (.tmp 46), some (42, true), [8, 4]⟩,
 ⟨some 48, .mv (.tmp 2), some (42, true), [4]⟩,
 ⟨some 49, .bin .gtr .int (.tmp 47) (.tmp 48), some (42, true), [9, 10, 4]⟩,
 ⟨some 50, .pick (.tmp 42) (.tmp 49) (.lit (.bool false)), none, [4, 11]⟩,
 ⟨some 51, .mv (.tmp 50), none, [12, 4]⟩,
 ⟨some 52, .mv (.tmp 0), some (51, true), [13]⟩,
 ⟨some 53, .mv (.tmp 13), some (51, true), [13]⟩,
 ⟨some 54, .idxA 5 (.tmp 52) (.tmp 53), some (51, true), [14, 15, 13]⟩,
 ⟨some 55, .fldA 3 (.tmp 54), some (51, true), [16, 13]⟩,
 ⟨some 56, .load none (.tmp 55), some (51, true), [17, 13]⟩,
 ⟨some 57, .mv (.tmp 5), some (51, true), [13]⟩,
 ⟨some 58, .bin .leq .int (.tmp 56) (.tmp 57), some (51, true), [18, 19, 13]⟩,
 ⟨some 59, .pick (.tmp 51) (.tmp 58) (.lit (.bool false)), none, [13, 20]⟩])
(.cond (.tmp 59) .skip (.exit 2)))
(.block 3 (.reg none [⟨some 60, .mv (.tmp 13), none, []⟩,
 ⟨some 61, .bin .add .int (.tmp 60) (.lit (.int .i64 1)), none, [0]⟩,
 ⟨some 13, .mv (.tmp 61), none, [1, 0, 1]⟩])))))
(.seq (.reg none [⟨some 62, .mv (.tmp 13), none, []⟩,
 ⟨some 12, .mv (.tmp 62), none, [0, 0]⟩])
.ret))))) }
theorem c_edit_spot : cFunc Tryz.prog n_edit_spot = some f_edit_spot := by kernel_rfl
/-- palinode/utf.Clean -/
def f_utf_Clean : SFunc := { ntmps := 9, results := [.tmp 2], body :=
(.seq (.reg none [⟨some 2, .mv (.lit (.str [])), none, []⟩])
(.seq (.seq (.reg none [⟨some 3, .mv (.tmp 0), none, []⟩,
 ⟨some 4, .call (.lit (.fn 135 [])) [(.tmp 3)], none, [0]⟩])
(.cond (.tmp 4) (.seq (.reg none [⟨some 5, .mv (.tmp 0), none, []⟩,
 ⟨some 2, .mv (.tmp 5), none, [0, 0]⟩])
.ret) .skip))
(.seq (.reg none [⟨some 6, .mv (.tmp 0), none, []⟩,
 ⟨some 7, .call (.lit (.fn 194 [])) [(.tmp 6)], none, [0]⟩,
 ⟨some 8, .call (.lit (.fn 193 [])) [(.tmp 7)], none, [1, 1]⟩,
 ⟨some 2, .mv (.tmp 8), none, [2, 2, 0, 1, 2]⟩])
.ret))) }
theorem c_utf_Clean : cFunc Tryz.prog n_utf_Clean = some f_utf_Clean := by kernel_rfl
/-- palinode/utf.point -/
def f_utf_point : SFunc := { ntmps := 39, results := [.tmp 4, .tmp 5], body :=
(.seq (.reg none [⟨some 4, .mv (.lit (.int .i32 0)), none, []⟩,
 ⟨some 5, .mv (.lit (.int .i64 0)), none, [0]⟩])
(.seq (.seq (.reg none [⟨some 8, .mv (.tmp 1), none, []⟩,
 ⟨some 9, .bin .lss .int (.tmp 8) (.lit (.int .i64 0)), none, [0]⟩,
 ⟨some 10, .mv (.tmp 9), none, [1]⟩,
 ⟨some 11, .mv (.tmp 1), some (10, false), [2]⟩,
 ⟨some 12, .mv (.tmp 0), some (10, false), [2]⟩,
 ⟨some 13, .lenS (.tmp 12), some (10, false), [4, 2]⟩,
 ⟨some 14, .bin .geq .int (.tmp 11) (.tmp 13), some (10, false), [3, 5, 2]⟩,
 ⟨some 15, .pick (.tmp 10) (.lit (.bool true)) (.tmp 14), none, [2, 6]⟩])
(.cond (.tmp 15) (.seq (.reg none [⟨some 4, .mv (.lit (.int .i32 0)), none, []⟩,
 ⟨some 5, .mv (.lit (.int .i64 0)), none, [0, 0]⟩])
.ret) .skip))
(.seq (.seq (.reg none [⟨some 16, .call (.lit (.fn 198 [])) [], none, []⟩,
 ⟨some 17, .mv (.lit (.int .i64 0)), none, []⟩])
(.block 0 (.loop (.seq (.reg none [⟨some 18, .bin .lss .int (.tmp 17) (.lit (.int .i64 4)), none, []⟩])
(.seq (.cond (.tmp 18) .skip (.exit 0))
(.seq (.block 1 (.seq (.reg none [⟨some 19, .mv (.tmp 17), none, []⟩,
 ⟨some 20, .idxG 4 3 true (.tmp 16) (.tmp 17), none, []⟩,
 ⟨some 7, .alloc [(.int .u8 0), (.int .u8 0), (.int .i32 0)], none, []⟩,
 ⟨some 6, .mv (.tmp 19), none, [0, 0, 1, 2]⟩,
 ⟨none, .store 3 (.tmp 7) (.tmp 20), none, [2, 1, 3, 0, 1, 2, 3]⟩])
(.seq (.reg (some [0, 0, 3, 0, 8, 31, 0, 64, 255]) [⟨some 21, .mv (.tmp 0), none, []⟩,
 ⟨some 22, .mv (.tmp 1), none, []⟩,
 ⟨some 23, .idxS (.tmp 21) (.tmp 22), none, [0, 1]⟩,
 ⟨some 24, .fldA 0 (.tmp 7), none, []⟩,
 ⟨some 25, .load none (.tmp 24), none, [3]⟩,
 ⟨some 26, .bin .and .int (.tmp 23) (.tmp 25), none, [2, 4]⟩,
 ⟨some 27, .fldA 1 (.tmp 7), none, []⟩,
 ⟨some 28, .load none (.tmp 27), none, [6]⟩,
 ⟨some 29, .bin .eql .int (.tmp 26) (.tmp 28), none, [5, 7]⟩])
(.cond (.tmp 29) (.seq (.reg none [⟨some 30, .mv (.tmp 0), none, []⟩,
 ⟨some 31, .mv (.tmp 1), none, []⟩,
 ⟨some 32, .mv (.tmp 6), none, []⟩,
 ⟨some 33, .bin .add .int (.tmp 32) (.lit (.int .i64 1)), none, [2]⟩,
 ⟨some 34, .load (some 3) (.tmp 7), none, []⟩,
 ⟨some 35, .call (.lit (.fn 199 [])) [(.tmp 30), (.tmp 31), (.tmp 33), (.tmp 34)], none, [0, 1, 3, 4]⟩,
 ⟨some 36, .ext (.tmp 35) 0, none, [5]⟩,
 ⟨some 37, .ext (.tmp 35) 1, none, [5]⟩,
 ⟨some 4, .mv (.tmp 36), none, [6, 5, 0, 1, 2, 3, 4, 5, 6, 7]⟩,
 ⟨some 5, .mv (.tmp 37), none, [7, 8, 0, 1, 2, 3, 4, 5, 6, 7, 8]⟩])
.ret) .skip))))
(.reg none [⟨some 38, .bin .add .int (.tmp 17) (.lit (.int .i64 1)), none, []⟩,
 ⟨some 17, .mv (.tmp 38), none, [0]⟩])))))))
(.seq (.reg none [⟨some 4, .mv (.lit (.int .i32 0)), none, []⟩,
 ⟨some 5, .mv (.lit (.int .i64 0)), none, [0, 0]⟩])
.ret)))) }
theorem c_utf_point : cFunc Tryz.prog n_utf_point = some f_utf_point := by kernel_rfl
/-- palinode/utf.forms -/
def f_utf_forms : SFunc := { ntmps := 6, results := [.cell 0 (some 12)], body :=
(.seq (.reg none [⟨some 0, .alloc [(.int .u8 0), (.int .u8 0), (.int .i32 0), (.int .u8 0), (.int .u8 0), (.int .i32 0), (.int .u8 0), (.int .u8 0), (.int .i32 0), (.int .u8 0), (.int .u8 0), (.int .i32 0)], none, []⟩])
(.seq (.reg none [⟨some 1, .build [(.int .u8 0), (.int .u8 0), (.int .i32 0)] [(0, 1, (.lit (.int .u8 128))), (1, 1, (.lit (.int .u8 0))), (2, 1, (.lit (.int .i32 0)))], none, []⟩,
 ⟨some 2, .build [(.int .u8 0), (.int .u8 0), (.int .i32 0)] [(0, 1, (.lit (.int .u8 224))), (1, 1, (.lit (.int .u8 192))), (2, 1, (.lit (.int .i32 128)))], none, []⟩,
 ⟨some 3, .build [(.int .u8 0), (.int .u8 0), (.int .i32 0)] [(0, 1, (.lit (.int .u8 240))), (1, 1, (.lit (.int .u8 224))), (2, 1, (.lit (.int .i32 2048)))], none, []⟩,
 ⟨some 4, .build [(.int .u8 0), (.int .u8 0), (.int .i32 0)] [(0, 1, (.lit (.int .u8 248))), (1, 1, (.lit (.int .u8 240))), (2, 1, (.lit (.int .i32 65536)))], none, []⟩,
 ⟨some 5, .build [(.int .u8 0), (.int .u8 0), (.int .i32 0), (.int .u8 0), (.int .u8 0), (.int .i32 0), (.int .u8 0), (.int .u8 0), (.int .i32 0), (.int .u8 0), (.int .u8 0), (.int .i32 0)] [(0, 3, (.tmp 1)), (3, 3, (.tmp 2)), (6, 3, (.tmp 3)), (9, 3, (.tmp 4))], none, [0, 1, 2, 3]⟩,
 ⟨none, .store 12 (.tmp 0) (.tmp 5), none, [4, 0, 1, 2, 3, 4]⟩])
.ret)) }
theorem c_utf_forms : cFunc Tryz.prog n_utf_forms = some f_utf_forms := by kernel_rfl
/-- palinode/utf.long -/
def f_utf_long : SFunc := { ntmps := 56, results := [.tmp 8, .tmp 9], body :=
(.seq (.reg none [⟨some 7, .box (.tmp 3), none, []⟩,
 ⟨some 8, .mv (.lit (.int .i32 0)), none, []⟩,
 ⟨some 9, .mv (.lit (.int .i64 0)), none, [1]⟩])
(.seq (.seq (.reg none [⟨some 13, .mv (.tmp 0), none, []⟩,
 ⟨some 14, .lenS (.tmp 13), none, [0]⟩,
 ⟨some 15, .mv (.tmp 1), none, []⟩,
 ⟨some 16, .bin .sub .int (.tmp 14) (.tmp 15), none, [1, 2]⟩,
 ⟨some 17, .mv (.tmp 2), none, []⟩,
 ⟨some 18, .bin .lss .int (.tmp 16) (.tmp 17), none, [3, 4]⟩])
(.cond (.tmp 18) (.seq (.reg none [⟨some 8, .mv (.lit (.int .i32 0)), none, []⟩,
 ⟨some 9, .mv (.lit (.int .i64 0)), none, [0, 0]⟩])
.ret) .skip))
(.seq (.reg (some [0, 0, 3, 0, 8, 31, 63, 127]) [⟨some 19, .mv (.tmp 0), none, []⟩,
 ⟨some 20, .mv (.tmp 1), none, []⟩,
 ⟨some 21, .idxS (.tmp 19) (.tmp 20), none, [0, 1]⟩,
 ⟨some 22, .fldA 0 (.tmp 7), none, []⟩,
 ⟨some 23, .load none (.tmp 22), none, [3]⟩,
 ⟨some 24, .bin .andNot .int (.tmp 21) (.tmp 23), none, [2, 4]⟩,
 ⟨some 25, .cint .i32 (.tmp 24), none, [5]⟩,
 ⟨some 10, .mv (.tmp 25), none, [6, 0, 1, 2, 3, 4, 5, 6]⟩])
(.seq (.seq (.reg none [⟨some 11, .mv (.lit (.int .i64 1)), none, []⟩])
(.block 0 (.loop (.seq (.seq (.reg none [⟨some 26, .mv (.tmp 11), none, []⟩,
 ⟨some 27, .mv (.tmp 2), none, []⟩,
 ⟨some 28, .bin .lss .int (.tmp 26) (.tmp 27), none, [0, 1]⟩])
(.cond (.tmp 28) .skip (.exit 0)))
(.seq (.block 1 (.seq (.reg none [⟨some 31, .mv (.tmp 0), none, []⟩,
 ⟨some 32, .mv (.tmp 1), none, []⟩,
 ⟨some 33, .mv (.tmp 11), none, []⟩,
 ⟨some 34, .bin .add .int (.tmp 32) (.tmp 33), none, [1, 2]⟩,
 ⟨some 35, .idxS (.tmp 31) (.tmp 34), none, [0, 3]⟩,
 ⟨some 12, .mv (.tmp 35), none, [4, 0, 1, 2, 3, 4]⟩])
(.seq (.seq (.reg none [⟨some 36, .mv (.tmp 12), none, []⟩,
 ⟨some 37, .bin .and .int (.tmp 36) (.lit (.int .u8 192)), none, [0]⟩,
 ⟨some 38, .bin .neq .int (.tmp 37) (.lit (.int .u8 128)), none, [1]⟩])
(.cond (.tmp 38) (.seq (.reg none [⟨some 8, .mv (.lit (.int .i32 0)), none, []⟩,
 ⟨some 9, .mv (.lit (.int .i64 0)), none, [0, 0]⟩])
.ret) .skip))
(.reg none [⟨some 39, .mv (.tmp 10), none, []⟩,
 ⟨some 40, .bin .shl .int (.tmp 39) (.lit (.int .u64 6)), none, [0]⟩,
 ⟨some 41, .mv (.tmp 12), none, []⟩,
 ⟨some 42, .bin .andNot .int (.tmp 41) (.lit (.int .u8 192)), none, [2]⟩,
 ⟨some 43, .cint .i32 (.tmp 42), none, [3]⟩,
 ⟨some 44, .bin .or .int (.tmp 40) (.tmp 43), none, [1, 4]⟩,
 ⟨some 10, .mv (.tmp 44), none, [5, 0, 1, 2, 3, 4, 5]⟩]))))
(.reg none [⟨some 29, .mv (.tmp 11), none, []⟩,
 ⟨some 30, .bin .add .int (.tmp 29) (.lit (.int .i64 1)), none, [0]⟩,
 ⟨some 11, .mv (.tmp 30), none, [1, 0, 1]⟩]))))))
(.seq (.seq (.reg none [⟨some 45, .mv (.tmp 10), none, []⟩,
 ⟨some 46, .fldA 2 (.tmp 7), none, []⟩,
 ⟨some 47, .load none (.tmp 46), none, [1]⟩,
 ⟨some 48, .bin .lss .int (.tmp 45) (.tmp 47), none, [0, 2]⟩,
 ⟨some 49, .mv (.tmp 48), none, [3]⟩,
 ⟨some 50, .mv (.tmp 10), some (49, false), [4]⟩,
 ⟨some 51, .call (.lit (.fn 200 [])) [(.tmp 50)], some (49, false), [5, 4, 4]⟩,
 ⟨some 52, .not (.tmp 51), some (49, false), [6, 4]⟩,
 ⟨some 53, .pick (.tmp 49) (.lit (.bool true)) (.tmp 52), none, [4, 7]⟩])
(.cond (.tmp 53) (.seq (.reg none [⟨some 8, .mv (.lit (.int .i32 0)), none, []⟩,
 ⟨some 9, .mv (.lit (.int .i64 0)), none, [0, 0]⟩])
.ret) .skip))
(.seq (.reg none [⟨some 54, .mv (.tmp 10), none, []⟩,
 ⟨some 55, .mv (.tmp 2), none, []⟩,
 ⟨some 8, .mv (.tmp 54), none, [0, 0]⟩,
 ⟨some 9, .mv (.tmp 55), none, [1, 2, 0, 1, 2]⟩])
.ret)))))) }
theorem c_utf_long : cFunc Tryz.prog n_utf_long = some f_utf_long := by kernel_rfl
/-- palinode/utf.isPoint -/
def f_utf_isPoint : SFunc := { ntmps := 17, results := [.tmp 2], body :=
(.seq (.reg none [⟨some 2, .mv (.lit (.bool false)), none, []⟩])
(.seq (.reg none [⟨some 3, .mv (.tmp 0), none, []⟩,
 ⟨some 4, .bin .geq .int (.tmp 3) (.lit (.int .i32 0)), none, [0]⟩,
 ⟨some 5, .mv (.tmp 4), none, [1]⟩,
 ⟨some 6, .mv (.tmp 0), some (5, true), [2]⟩,
 ⟨some 7, .bin .leq .int (.tmp 6) (.lit (.int .i32 1114111)), some (5, true), [3, 2]⟩,
 ⟨some 8, .pick (.tmp 5) (.tmp 7) (.lit (.bool false)), none, [2, 4]⟩,
 ⟨some 9, .mv (.tmp 8), none, [5, 2]⟩,
 ⟨some 10, .mv (.tmp 0), some (9, true), [6]⟩,
 ⟨some 11, .bin .lss .int (.tmp 10) (.lit (.int .i32 55296)), some (9, true), [7, 6]⟩,
 ⟨some 12, .mv (.tmp 11), some (9, true), [8, 6, 6]⟩,
 ⟨some 13, .mv (.tmp 0), some (12, false), [9]⟩,
 ⟨some 14, .bin .gtr .int (.tmp 13) (.lit (.int .i32 57343)), some (12, false), [10, 9]⟩,
 ⟨some 15, .pick (.tmp 12) (.lit (.bool true)) (.tmp 14), some (9, true), [9, 11, 6]⟩,
 ⟨some 16, .pick (.tmp 9) (.tmp 15) (.lit (.bool false)), none, [6, 12]⟩,
 ⟨some 2, .mv (.tmp 16), none, [13, 9, 0, 1, 2, 3, 4, 5, 6, 7, 8, 9, 10, 11, 12, 13]⟩])
.ret)) }
theorem c_utf_isPoint : cFunc Tryz.prog n_utf_isPoint = some f_utf_isPoint := by kernel_rfl
end Go.Proofs.YtcchmmjjfglpgaaGreat.M
