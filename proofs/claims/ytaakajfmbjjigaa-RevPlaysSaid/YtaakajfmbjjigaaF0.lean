/- Codes of the program's functions, compiled for the abstract machine; each compiled by the kernel's word. No condition. -/
import Derived.Test.YtaakajfmbjjigaaFN
set_option maxRecDepth 100000
namespace Go.Proofs.Ytaakajfmbjjigaa.M
open Go Go.Mini
/-- palinode/palinodelaw19.RevTwice -/
def f_palinodelaw19_RevTwice : SFunc := { ntmps := 151, results := [.tmp 4], body :=
(.seq (.reg none [⟨some 4, .mv (.lit (.bool false)), none, []⟩])
(.seq (.seq (.reg none [⟨some 20, .call (.lit (.fn 8 [])) [], none, []⟩,
 ⟨some 21, .not (.tmp 20), none, [0]⟩])
(.cond (.tmp 21) (.seq (.reg none [⟨some 4, .mv (.lit (.bool false)), none, []⟩])
.ret) .skip))
(.seq (.seq (.reg none [⟨some 22, .mv (.tmp 0), none, []⟩,
 ⟨some 23, .len (.tmp 22), none, [0]⟩,
 ⟨some 24, .bin .gtr .int (.tmp 23) (.lit (.int .i64 20)), none, [1]⟩,
 ⟨some 25, .mv (.tmp 24), none, [2]⟩,
 ⟨some 26, .mv (.tmp 1), some (25, false), [3]⟩,
 ⟨some 27, .len (.tmp 26), some (25, false), [4, 3]⟩,
 ⟨some 28, .bin .gtr .int (.tmp 27) (.lit (.int .i64 40)), some (25, false), [5, 3]⟩,
 ⟨some 29, .pick (.tmp 25) (.lit (.bool true)) (.tmp 28), none, [3, 6]⟩])
(.cond (.tmp 29) (.seq (.reg none [⟨some 4, .mv (.lit (.bool true)), none, []⟩])
.ret) .skip))
(.seq (.reg none [⟨some 30, .call (.lit (.fn 9 [])) [], none, []⟩,
 ⟨some 5, .mv (.tmp 30), none, [0, 0, 0]⟩])
(.seq (.reg none [⟨some 6, .alloc (bitRow 12 (fun _ => false)), none, []⟩,
 ⟨some 7, .alloc (bitRow 12 (fun _ => false)), none, []⟩])
(.seq (.seq (.reg none [⟨some 8, .mv (.lit (.int .i64 0)), none, []⟩])
(.block 0 (.loop (.seq (.seq (.reg none [⟨some 31, .mv (.tmp 8), none, []⟩,
 ⟨some 32, .mv (.tmp 0), none, []⟩,
 ⟨some 33, .len (.tmp 32), none, [1]⟩,
 ⟨some 34, .bin .lss .int (.tmp 31) (.tmp 33), none, [0, 2]⟩])
(.cond (.tmp 34) .skip (.exit 0)))
(.seq (.block 1 (.seq (.reg none [⟨some 38, .mv (.tmp 5), none, []⟩,
 ⟨some 39, .mv (.tmp 0), none, []⟩,
 ⟨some 40, .mv (.tmp 8), none, []⟩,
 ⟨some 41, .idxA 1 (.tmp 39) (.tmp 40), none, [1, 2]⟩,
 ⟨some 42, .load none (.tmp 41), none, [3]⟩,
 ⟨some 43, .bin .rem .int (.tmp 42) (.lit (.int .u8 12)), none, [4]⟩,
 ⟨some 44, .cint .i64 (.tmp 43), none, [5]⟩,
 ⟨some 45, .call (.lit (.fn 10 [])) [(.tmp 38), (.tmp 44)], none, [0, 6]⟩,
 ⟨some 37, .mv (.tmp 45), none, [7]⟩,
 ⟨some 46, .ext (.tmp 37) 0, none, [8]⟩,
 ⟨some 47, .ext (.tmp 37) 1, none, [8]⟩,
 ⟨some 9, .mv (.tmp 46), none, [9, 7, 0, 1, 2, 3, 4, 5, 6, 7, 8, 9]⟩,
 ⟨some 10, .mv (.tmp 47), none, [10, 11, 0, 1, 2, 3, 4, 5, 6, 7, 8, 9, 10, 11]⟩])
(.seq (.seq (.reg none [⟨some 48, .mv (.tmp 10), none, []⟩,
 ⟨some 49, .bin .neq .int (.tmp 48) (.lit (.int .i64 0)), none, [0]⟩])
(.cond (.tmp 49) (.seq (.reg none [⟨some 4, .mv (.lit (.bool false)), none, []⟩])
.ret) .skip))
(.reg none [⟨some 50, .mv (.tmp 0), none, []⟩,
 ⟨some 51, .mv (.tmp 8), none, []⟩,
 ⟨some 52, .idxA 1 (.tmp 50) (.tmp 51), none, [0, 1]⟩,
 ⟨some 53, .load none (.tmp 52), none, [2]⟩,
 ⟨some 54, .bin .rem .int (.tmp 53) (.lit (.int .u8 12)), none, [3]⟩,
 ⟨some 55, .idxR 12 1 (.tmp 6) (.tmp 54), none, [4, 0, 1, 2, 3, 4]⟩,
 ⟨none, .store 1 (.tmp 55) (.lit (.bool true)), none, [5, 0, 1, 2, 3, 4]⟩]))))
(.reg none [⟨some 35, .mv (.tmp 8), none, []⟩,
 ⟨some 36, .bin .add .int (.tmp 35) (.lit (.int .i64 1)), none, [0]⟩,
 ⟨some 8, .mv (.tmp 36), none, [1, 0, 1]⟩]))))))
(.seq (.seq (.reg none [⟨some 11, .mv (.lit (.int .i64 0)), none, []⟩])
(.block 2 (.loop (.seq (.seq (.reg none [⟨some 56, .mv (.tmp 11), none, []⟩,
 ⟨some 57, .mv (.tmp 1), none, []⟩,
 ⟨some 58, .len (.tmp 57), none, [1]⟩,
 ⟨some 59, .bin .lss .int (.tmp 56) (.tmp 58), none, [0, 2]⟩])
(.cond (.tmp 59) .skip (.exit 2)))
(.seq (.block 3 (.seq (.reg none [⟨some 62, .mv (.tmp 1), none, []⟩,
 ⟨some 63, .mv (.tmp 11), none, []⟩,
 ⟨some 64, .idxA 1 (.tmp 62) (.tmp 63), none, [0, 1]⟩,
 ⟨some 65, .load none (.tmp 64), none, [2]⟩,
 ⟨some 66, .bin .rem .int (.tmp 65) (.lit (.int .u8 12)), none, [3]⟩,
 ⟨some 67, .cint .i64 (.tmp 66), none, [4]⟩,
 ⟨some 12, .mv (.tmp 67), none, [5, 0, 1, 2, 3, 4, 5]⟩])
(.seq (.reg none [⟨some 68, .mv (.tmp 5), none, []⟩,
 ⟨some 69, .mv (.tmp 5), none, []⟩,
 ⟨some 70, .call (.lit (.fn 12 [])) [(.tmp 69)], none, [1]⟩,
 ⟨some 71, .call (.lit (.fn 11 [])) [(.tmp 68), (.tmp 70)], none, [0, 2, 2]⟩,
 ⟨some 13, .mv (.tmp 71), none, [3, 3, 0, 1, 2, 3]⟩])
(.seq (.reg none [⟨some 72, .mv (.tmp 5), none, []⟩,
 ⟨some 73, .call (.lit (.fn 12 [])) [(.tmp 72)], none, [0]⟩,
 ⟨some 14, .mv (.tmp 73), none, [1, 1, 0, 1]⟩])
(.seq (.reg none [⟨some 75, .mv (.tmp 5), none, []⟩,
 ⟨some 76, .mv (.tmp 12), none, []⟩,
 ⟨some 77, .call (.lit (.fn 13 [])) [(.tmp 75), (.tmp 76)], none, [0, 1]⟩,
 ⟨some 74, .mv (.tmp 77), none, [2]⟩,
 ⟨some 78, .ext (.tmp 74) 0, none, [3]⟩,
 ⟨some 79, .ext (.tmp 74) 1, none, [3]⟩,
 ⟨some 15, .mv (.tmp 78), none, [4, 2, 0, 1, 2, 3, 4]⟩,
 ⟨some 16, .mv (.tmp 79), none, [5, 6, 0, 1, 2, 3, 4, 5, 6]⟩])
(.seq (.seq (.reg none [⟨some 80, .mv (.tmp 16), none, []⟩,
 ⟨some 81, .bin .eql .int (.tmp 80) (.lit (.int .i64 0)), none, [0]⟩,
 ⟨some 82, .mv (.tmp 12), none, []⟩,
 ⟨some 83, .idxR 12 1 (.tmp 6) (.tmp 82), none, [2]⟩,
 ⟨some 84, .load none (.tmp 83), none, [3]⟩,
 ⟨some 85, .bin .neq .bool (.tmp 81) (.tmp 84), none, [1, 4]⟩,
 ⟨some 86, .mv (.tmp 85), none, [5]⟩,
 ⟨some 87, .mv (.tmp 16), some (86, false), [6]⟩,
 ⟨some 88, .bin .eql .int (.tmp 87) (.lit (.int .i64 0)), some (86, false), [7, 6]⟩,
 ⟨some 89, .mv (.tmp 88), some (86, false), [8, 6, 6]⟩,
 ⟨some 90, .mv (.tmp 15), some (89, true), [9]⟩,
 ⟨some 91, .mv (.tmp 14), some (89, true), [9]⟩,
 ⟨some 92, .bin .add .int (.tmp 91) (.lit (.int .i64 1)), some (89, true), [11, 9]⟩,
 ⟨some 93, .bin .neq .int (.tmp 90) (.tmp 92), some (89, true), [10, 12, 9]⟩,
 ⟨some 94, .pick (.tmp 89) (.tmp 93) (.lit (.bool false)), some (86, false), [9, 13, 6]⟩,
 ⟨some 95, .pick (.tmp 86) (.lit (.bool true)) (.tmp 94), none, [6, 14]⟩,
 ⟨some 96, .mv (.tmp 95), none, [15, 9]⟩,
 ⟨some 97, .mv (.tmp 16), some (96, false), [16]⟩,
 ⟨some 98, .bin .neq .int (.tmp 97) (.lit (.int .i64 0)), some (96, false), [17, 16]⟩,
 ⟨some 99, .mv (.tmp 98), some (96, false), [18, 16, 16]⟩,
 ⟨some 100, .mv (.tmp 5), some (99, true), [19]⟩,
 ⟨some 101, .call (.lit (.fn 12 [])) [(.tmp 100)], some (99, true), [20, 19, 19]⟩,
 ⟨some 102, .mv (.tmp 14), some (99, true), [19]⟩,
 ⟨some 103, .bin .neq .int (.tmp 101) (.tmp 102), some (99, true), [21, 22, 19]⟩,
 ⟨some 104, .pick (.tmp 99) (.tmp 103) (.lit (.bool false)), some (96, false), [19, 23, 16]⟩,
 ⟨some 105, .pick (.tmp 96) (.lit (.bool true)) (.tmp 104), none, [16, 24]⟩,
 ⟨some 106, .mv (.tmp 105), none, [25, 21]⟩,
 ⟨some 107, .mv (.tmp 5), some (106, false), [26]⟩,
 ⟨some 108, .mv (.tmp 14), some (106, false), [26]⟩,
 ⟨some 109, .call (.lit (.fn 11 [])) [(.tmp 107), (.tmp 108)], some (106, false), [27, 28, 26, 26]⟩,
 ⟨some 110, .mv (.tmp 13), some (106, false), [26]⟩,
 ⟨some 111, .call (.lit (.fn 14 [])) [(.tmp 109), (.tmp 110)], some (106, false), [29, 30, 29, 26]⟩,
 ⟨some 112, .not (.tmp 111), some (106, false), [31, 26]⟩,
 ⟨some 113, .pick (.tmp 106) (.lit (.bool true)) (.tmp 112), none, [26, 32]⟩])
(.cond (.tmp 113) (.seq (.reg none [⟨some 4, .mv (.lit (.bool false)), none, []⟩])
.ret) .skip))
(.seq (.reg none [⟨some 114, .mv (.tmp 16), none, []⟩,
 ⟨some 115, .bin .eql .int (.tmp 114) (.lit (.int .i64 0)), none, [0]⟩])
(.cond (.tmp 115) (.reg none [⟨some 116, .mv (.tmp 12), none, []⟩,
 ⟨some 117, .mv (.tmp 12), none, []⟩,
 ⟨some 118, .idxR 12 1 (.tmp 7) (.tmp 117), none, [1]⟩,
 ⟨some 119, .load none (.tmp 118), none, [2]⟩,
 ⟨some 120, .not (.tmp 119), none, [3]⟩,
 ⟨some 121, .idxR 12 1 (.tmp 7) (.tmp 116), none, [0, 0, 1, 2, 3, 4]⟩,
 ⟨none, .store 1 (.tmp 121) (.tmp 120), none, [5, 4, 0, 1, 2, 3, 4]⟩]) .skip))))))))
(.reg none [⟨some 60, .mv (.tmp 11), none, []⟩,
 ⟨some 61, .bin .add .int (.tmp 60) (.lit (.int .i64 1)), none, [0]⟩,
 ⟨some 11, .mv (.tmp 61), none, [1, 0, 1]⟩]))))))
(.seq (.reg none [⟨some 122, .mv (.tmp 5), none, []⟩,
 ⟨some 123, .mv (.tmp 5), none, []⟩,
 ⟨some 124, .call (.lit (.fn 12 [])) [(.tmp 123)], none, [1]⟩,
 ⟨some 125, .call (.lit (.fn 11 [])) [(.tmp 122), (.tmp 124)], none, [0, 2, 2]⟩,
 ⟨some 17, .mv (.tmp 125), none, [3, 3, 0, 1, 2, 3]⟩])
(.seq (.reg none [⟨some 18, .mv (.lit (.int .i64 0)), none, []⟩])
(.seq (.seq (.reg none [⟨some 19, .mv (.lit (.int .i64 0)), none, []⟩])
(.block 4 (.loop (.seq (.seq (.reg none [⟨some 126, .mv (.tmp 19), none, []⟩,
 ⟨some 127, .bin .lss .int (.tmp 126) (.lit (.int .i64 12)), none, [0]⟩])
(.cond (.tmp 127) .skip (.exit 4)))
(.seq (.block 5 (.seq (.reg none [⟨some 130, .mv (.tmp 19), none, []⟩,
 ⟨some 131, .idxR 12 1 (.tmp 7) (.tmp 130), none, [0]⟩,
 ⟨some 132, .load none (.tmp 131), none, [1]⟩])
(.cond (.tmp 132) (.seq (.seq (.reg none [⟨some 133, .mv (.tmp 18), none, []⟩,
 ⟨some 134, .mv (.tmp 17), none, []⟩,
 ⟨some 135, .len (.tmp 134), none, [1]⟩,
 ⟨some 136, .bin .geq .int (.tmp 133) (.tmp 135), none, [0, 2]⟩,
 ⟨some 137, .mv (.tmp 136), none, [3]⟩,
 ⟨some 138, .mv (.tmp 17), some (137, false), [4]⟩,
 ⟨some 139, .mv (.tmp 18), some (137, false), [4]⟩,
 ⟨some 140, .idxA 1 (.tmp 138) (.tmp 139), some (137, false), [5, 6, 4]⟩,
 ⟨some 141, .load none (.tmp 140), some (137, false), [7, 4]⟩,
 ⟨some 142, .mv (.tmp 19), some (137, false), [4]⟩,
 ⟨some 143, .bin .neq .int (.tmp 141) (.tmp 142), some (137, false), [8, 9, 4]⟩,
 ⟨some 144, .pick (.tmp 137) (.lit (.bool true)) (.tmp 143), none, [4, 10]⟩])
(.cond (.tmp 144) (.seq (.reg none [⟨some 4, .mv (.lit (.bool false)), none, []⟩])
.ret) .skip))
(.reg none [⟨some 145, .mv (.tmp 18), none, []⟩,
 ⟨some 146, .bin .add .int (.tmp 145) (.lit (.int .i64 1)), none, [0]⟩,
 ⟨some 18, .mv (.tmp 146), none, [1, 0, 1]⟩])) .skip)))
(.reg none [⟨some 128, .mv (.tmp 19), none, []⟩,
 ⟨some 129, .bin .add .int (.tmp 128) (.lit (.int .i64 1)), none, [0]⟩,
 ⟨some 19, .mv (.tmp 129), none, [1, 0, 1]⟩]))))))
(.seq (.reg none [⟨some 147, .mv (.tmp 18), none, []⟩,
 ⟨some 148, .mv (.tmp 17), none, []⟩,
 ⟨some 149, .len (.tmp 148), none, [1]⟩,
 ⟨some 150, .bin .eql .int (.tmp 147) (.tmp 149), none, [0, 2]⟩,
 ⟨some 4, .mv (.tmp 150), none, [3, 0, 1, 2, 3]⟩])
.ret))))))))))) }
theorem c_palinodelaw19_RevTwice : cFunc Try.prog n_palinodelaw19_RevTwice = some f_palinodelaw19_RevTwice := by kernel_rfl
/-- palinode/palinodelaw19.RevMany -/
def f_palinodelaw19_RevMany : SFunc := { ntmps := 97, results := [.tmp 2], body :=
(.seq (.reg none [⟨some 2, .mv (.lit (.bool false)), none, []⟩])
(.seq (.seq (.reg none [⟨some 13, .call (.lit (.fn 8 [])) [], none, []⟩,
 ⟨some 14, .not (.tmp 13), none, [0]⟩])
(.cond (.tmp 14) (.seq (.reg none [⟨some 2, .mv (.lit (.bool false)), none, []⟩])
.ret) .skip))
(.seq (.reg none [⟨some 15, .call (.lit (.fn 9 [])) [], none, []⟩,
 ⟨some 3, .mv (.tmp 15), none, [0, 0, 0]⟩])
(.seq (.seq (.reg none [⟨some 4, .mv (.lit (.int .i64 0)), none, []⟩])
(.block 0 (.loop (.seq (.seq (.reg none [⟨some 16, .mv (.tmp 4), none, []⟩,
 ⟨some 17, .mv (.tmp 0), none, []⟩,
 ⟨some 18, .bin .rem .int (.tmp 17) (.lit (.int .u8 5)), none, [1]⟩,
 ⟨some 19, .cint .i64 (.tmp 18), none, [2]⟩,
 ⟨some 20, .bin .add .int (.lit (.int .i64 200)) (.tmp 19), none, [3]⟩,
 ⟨some 21, .bin .lss .int (.tmp 16) (.tmp 20), none, [0, 4]⟩])
(.cond (.tmp 21) .skip (.exit 0)))
(.seq (.block 1 (.seq (.reg none [⟨some 25, .mv (.tmp 3), none, []⟩,
 ⟨some 26, .mv (.tmp 4), none, []⟩,
 ⟨some 27, .bin .rem .int (.tmp 26) (.lit (.int .i64 60)), none, [1]⟩,
 ⟨some 28, .call (.lit (.fn 10 [])) [(.tmp 25), (.tmp 27)], none, [0, 2]⟩,
 ⟨some 24, .mv (.tmp 28), none, [3]⟩,
 ⟨some 29, .ext (.tmp 24) 0, none, [4]⟩,
 ⟨some 30, .ext (.tmp 24) 1, none, [4]⟩,
 ⟨some 5, .mv (.tmp 29), none, [5, 3, 0, 1, 2, 3, 4, 5]⟩,
 ⟨some 6, .mv (.tmp 30), none, [6, 7, 0, 1, 2, 3, 4, 5, 6, 7]⟩])
(.seq (.reg none [⟨some 31, .mv (.tmp 6), none, []⟩,
 ⟨some 32, .bin .eql .int (.tmp 31) (.lit (.int .i64 0)), none, [0]⟩,
 ⟨some 33, .mv (.tmp 4), none, []⟩,
 ⟨some 34, .bin .lss .int (.tmp 33) (.lit (.int .i64 200)), none, [2]⟩,
 ⟨some 35, .bin .neq .bool (.tmp 32) (.tmp 34), none, [1, 3]⟩,
 ⟨some 36, .mv (.tmp 35), none, [4]⟩,
 ⟨some 37, .mv (.tmp 6), some (36, false), [5]⟩,
 ⟨some 38, .bin .neq .int (.tmp 37) (.lit (.int .i64 0)), some (36, false), [6, 5]⟩,
 ⟨some 39, .mv (.tmp 38), some (36, false), [7, 5, 5]⟩,
 ⟨some 40, .mv (.tmp 6), some (39, true), [8]⟩,
 ⟨some 41, .bin .neq .int (.tmp 40) (.lit (.int .i64 70)), some (39, true), [9, 8]⟩,
 ⟨some 42, .pick (.tmp 39) (.tmp 41) (.lit (.bool false)), some (36, false), [8, 10, 5]⟩,
 ⟨some 43, .pick (.tmp 36) (.lit (.bool true)) (.tmp 42), none, [5, 11]⟩])
(.cond (.tmp 43) (.seq (.reg none [⟨some 2, .mv (.lit (.bool false)), none, []⟩])
.ret) .skip))))
(.reg none [⟨some 22, .mv (.tmp 4), none, []⟩,
 ⟨some 23, .bin .add .int (.tmp 22) (.lit (.int .i64 1)), none, [0]⟩,
 ⟨some 4, .mv (.tmp 23), none, [1, 0, 1]⟩]))))))
(.seq (.reg none [⟨some 45, .mv (.tmp 3), none, []⟩,
 ⟨some 46, .call (.lit (.fn 13 [])) [(.tmp 45), (.lit (.int .i64 3))], none, [0]⟩,
 ⟨some 44, .mv (.tmp 46), none, [1]⟩,
 ⟨some 47, .ext (.tmp 44) 0, none, [2]⟩,
 ⟨some 48, .ext (.tmp 44) 1, none, [2]⟩,
 ⟨some 7, .mv (.tmp 47), none, [3, 1, 0, 1, 2, 3]⟩,
 ⟨some 8, .mv (.tmp 48), none, [4, 5, 0, 1, 2, 3, 4, 5]⟩])
(.seq (.reg none [⟨some 50, .mv (.tmp 3), none, []⟩,
 ⟨some 51, .call (.lit (.fn 10 [])) [(.tmp 50), (.lit (.int .i64 60))], none, [0]⟩,
 ⟨some 49, .mv (.tmp 51), none, [1]⟩,
 ⟨some 52, .ext (.tmp 49) 0, none, [2]⟩,
 ⟨some 53, .ext (.tmp 49) 1, none, [2]⟩,
 ⟨some 9, .mv (.tmp 52), none, [3, 1, 0, 1, 2, 3]⟩,
 ⟨some 10, .mv (.tmp 53), none, [4, 5, 0, 1, 2, 3, 4, 5]⟩])
(.seq (.reg none [⟨some 55, .mv (.tmp 3), none, []⟩,
 ⟨some 56, .call (.lit (.fn 10 [])) [(.tmp 55), (.lit (.int .i64 (-1)))], none, [0]⟩,
 ⟨some 54, .mv (.tmp 56), none, [1]⟩,
 ⟨some 57, .ext (.tmp 54) 0, none, [2]⟩,
 ⟨some 58, .ext (.tmp 54) 1, none, [2]⟩,
 ⟨some 11, .mv (.tmp 57), none, [3, 1, 0, 1, 2, 3]⟩,
 ⟨some 12, .mv (.tmp 58), none, [4, 5, 0, 1, 2, 3, 4, 5]⟩])
(.seq (.reg none [⟨some 59, .mv (.tmp 3), none, []⟩,
 ⟨some 60, .call (.lit (.fn 12 [])) [(.tmp 59)], none, [0]⟩,
 ⟨some 61, .bin .eql .int (.tmp 60) (.lit (.int .i64 200)), none, [1]⟩,
 ⟨some 62, .mv (.tmp 61), none, [2, 1]⟩,
 ⟨some 63, .mv (.tmp 8), some (62, true), [3]⟩,
 ⟨some 64, .bin .eql .int (.tmp 63) (.lit (.int .i64 70)), some (62, true), [4, 3]⟩,
 ⟨some 65, .pick (.tmp 62) (.tmp 64) (.lit (.bool false)), none, [3, 5]⟩,
 ⟨some 66, .mv (.tmp 65), none, [6, 3]⟩,
 ⟨some 67, .mv (.tmp 10), some (66, true), [7]⟩,
 ⟨some 68, .bin .eql .int (.tmp 67) (.lit (.int .i64 210)), some (66, true), [8, 7]⟩,
 ⟨some 69, .pick (.tmp 66) (.tmp 68) (.lit (.bool false)), none, [7, 9]⟩,
 ⟨some 70, .mv (.tmp 69), none, [10, 7]⟩,
 ⟨some 71, .mv (.tmp 12), some (70, true), [11]⟩,
 ⟨some 72, .bin .eql .int (.tmp 71) (.lit (.int .i64 210)), some (70, true), [12, 11]⟩,
 ⟨some 73, .pick (.tmp 70) (.tmp 72) (.lit (.bool false)), none, [11, 13]⟩,
 ⟨some 74, .mv (.tmp 73), none, [14, 11]⟩,
 ⟨some 75, .mv (.tmp 3), some (74, true), [15]⟩,
 ⟨some 76, .bslc 1 [(.int .i64 0)] 2 [(0, 1, (.lit (.int .i64 3))), (1, 1, (.lit (.int .i64 3)))], some (74, true), [15]⟩,
 ⟨some 77, .call (.lit (.fn 15 [])) [(.tmp 75), (.tmp 76)], some (74, true), [16, 17, 15, 15]⟩,
 ⟨some 78, .bin .eql .int (.tmp 77) (.lit (.int .i64 210)), some (74, true), [18, 15]⟩,
 ⟨some 79, .pick (.tmp 74) (.tmp 78) (.lit (.bool false)), none, [15, 19]⟩,
 ⟨some 80, .mv (.tmp 79), none, [20, 18]⟩,
 ⟨some 81, .mv (.tmp 3), some (80, true), [21]⟩,
 ⟨some 82, .bslc 1 [(.int .i64 0)] 1 [(0, 1, (.lit (.int .i64 3)))], some (80, true), [21]⟩,
 ⟨some 83, .call (.lit (.fn 15 [])) [(.tmp 81), (.tmp 82)], some (80, true), [22, 23, 21, 21]⟩,
 ⟨some 84, .bin .eql .int (.tmp 83) (.lit (.int .i64 0)), some (80, true), [24, 21]⟩,
 ⟨some 85, .pick (.tmp 80) (.tmp 84) (.lit (.bool false)), none, [21, 25]⟩,
 ⟨some 86, .mv (.tmp 85), none, [26, 24]⟩,
 ⟨some 87, .mv (.tmp 3), some (86, true), [27]⟩,
 ⟨some 88, .call (.lit (.fn 16 [])) [(.tmp 87)], some (86, true), [28, 27, 27]⟩,
 ⟨some 89, .bin .eql .int (.tmp 88) (.lit (.int .i64 200)), some (86, true), [29, 27]⟩,
 ⟨some 90, .pick (.tmp 86) (.tmp 89) (.lit (.bool false)), none, [27, 30]⟩,
 ⟨some 91, .mv (.tmp 90), none, [31, 29]⟩,
 ⟨some 92, .mv (.tmp 3), some (91, true), [32]⟩,
 ⟨some 93, .call (.lit (.fn 17 [])) [(.tmp 92)], some (91, true), [33, 32, 32]⟩,
 ⟨some 94, .len (.tmp 93), some (91, true), [34, 32]⟩,
 ⟨some 95, .bin .eql .int (.tmp 94) (.lit (.int .i64 59)), some (91, true), [35, 32]⟩,
 ⟨some 96, .pick (.tmp 91) (.tmp 95) (.lit (.bool false)), none, [32, 36]⟩,
 ⟨some 2, .mv (.tmp 96), none, [37, 34, 0, 1, 2, 3, 4, 5, 6, 7, 8, 9, 10, 11, 12, 13, 14, 15, 16, 17, 18, 19, 20, 21, 22, 23, 24, 25, 26, 27, 28, 29, 30, 31, 32, 33, 34, 35, 36, 37]⟩])
.ret)))))))) }
theorem c_palinodelaw19_RevMany : cFunc Try.prog n_palinodelaw19_RevMany = some f_palinodelaw19_RevMany := by kernel_rfl
/-- palinode/palinodelaw19.RevForgets -/
def f_palinodelaw19_RevForgets : SFunc := { ntmps := 215, results := [.tmp 6], body :=
(.seq (.reg none [⟨some 6, .mv (.lit (.bool false)), none, []⟩])
(.seq (.seq (.reg none [⟨some 23, .call (.lit (.fn 8 [])) [], none, []⟩,
 ⟨some 24, .not (.tmp 23), none, [0]⟩])
(.cond (.tmp 24) (.seq (.reg none [⟨some 6, .mv (.lit (.bool false)), none, []⟩])
.ret) .skip))
(.seq (.seq (.reg none [⟨some 25, .mv (.tmp 0), none, []⟩,
 ⟨some 26, .len (.tmp 25), none, [0]⟩,
 ⟨some 27, .bin .gtr .int (.tmp 26) (.lit (.int .i64 20)), none, [1]⟩,
 ⟨some 28, .mv (.tmp 27), none, [2]⟩,
 ⟨some 29, .mv (.tmp 1), some (28, false), [3]⟩,
 ⟨some 30, .len (.tmp 29), some (28, false), [4, 3]⟩,
 ⟨some 31, .bin .gtr .int (.tmp 30) (.lit (.int .i64 20)), some (28, false), [5, 3]⟩,
 ⟨some 32, .pick (.tmp 28) (.lit (.bool true)) (.tmp 31), none, [3, 6]⟩])
(.cond (.tmp 32) (.seq (.reg none [⟨some 6, .mv (.lit (.bool true)), none, []⟩])
.ret) .skip))
(.seq (.reg none [⟨some 33, .call (.lit (.fn 9 [])) [], none, []⟩,
 ⟨some 7, .mv (.tmp 33), none, [0, 0, 0]⟩])
(.seq (.seq (.reg none [⟨some 8, .mv (.lit (.int .i64 0)), none, []⟩])
(.block 0 (.loop (.seq (.seq (.reg none [⟨some 34, .mv (.tmp 8), none, []⟩,
 ⟨some 35, .mv (.tmp 0), none, []⟩,
 ⟨some 36, .len (.tmp 35), none, [1]⟩,
 ⟨some 37, .bin .lss .int (.tmp 34) (.tmp 36), none, [0, 2]⟩])
(.cond (.tmp 37) .skip (.exit 0)))
(.seq (.block 1 (.reg none [⟨some 40, .mv (.tmp 7), none, []⟩,
 ⟨some 41, .mv (.tmp 0), none, []⟩,
 ⟨some 42, .mv (.tmp 8), none, []⟩,
 ⟨some 43, .idxA 1 (.tmp 41) (.tmp 42), none, [1, 2]⟩,
 ⟨some 44, .load none (.tmp 43), none, [3]⟩,
 ⟨some 45, .bin .rem .int (.tmp 44) (.lit (.int .u8 10)), none, [4]⟩,
 ⟨some 46, .cint .i64 (.tmp 45), none, [5]⟩,
 ⟨some 47, .call (.lit (.fn 10 [])) [(.tmp 40), (.tmp 46)], none, [0, 6]⟩]))
(.reg none [⟨some 38, .mv (.tmp 8), none, []⟩,
 ⟨some 39, .bin .add .int (.tmp 38) (.lit (.int .i64 1)), none, [0]⟩,
 ⟨some 8, .mv (.tmp 39), none, [1, 0, 1]⟩]))))))
(.seq (.seq (.reg none [⟨some 9, .mv (.lit (.int .i64 0)), none, []⟩])
(.block 2 (.loop (.seq (.seq (.reg none [⟨some 48, .mv (.tmp 9), none, []⟩,
 ⟨some 49, .mv (.tmp 1), none, []⟩,
 ⟨some 50, .len (.tmp 49), none, [1]⟩,
 ⟨some 51, .bin .lss .int (.tmp 48) (.tmp 50), none, [0, 2]⟩])
(.cond (.tmp 51) .skip (.exit 2)))
(.seq (.block 3 (.reg none [⟨some 54, .mv (.tmp 7), none, []⟩,
 ⟨some 55, .mv (.tmp 1), none, []⟩,
 ⟨some 56, .mv (.tmp 9), none, []⟩,
 ⟨some 57, .idxA 1 (.tmp 55) (.tmp 56), none, [1, 2]⟩,
 ⟨some 58, .load none (.tmp 57), none, [3]⟩,
 ⟨some 59, .bin .rem .int (.tmp 58) (.lit (.int .u8 10)), none, [4]⟩,
 ⟨some 60, .cint .i64 (.tmp 59), none, [5]⟩,
 ⟨some 61, .call (.lit (.fn 13 [])) [(.tmp 54), (.tmp 60)], none, [0, 6]⟩]))
(.reg none [⟨some 52, .mv (.tmp 9), none, []⟩,
 ⟨some 53, .bin .add .int (.tmp 52) (.lit (.int .i64 1)), none, [0]⟩,
 ⟨some 9, .mv (.tmp 53), none, [1, 0, 1]⟩]))))))
(.seq (.reg none [⟨some 62, .mv (.tmp 7), none, []⟩,
 ⟨some 63, .call (.lit (.fn 17 [])) [(.tmp 62)], none, [0]⟩,
 ⟨some 64, .mv (.tmp 7), none, []⟩,
 ⟨some 65, .mv (.tmp 7), none, []⟩,
 ⟨some 66, .call (.lit (.fn 12 [])) [(.tmp 65)], none, [3, 1]⟩,
 ⟨some 67, .call (.lit (.fn 11 [])) [(.tmp 64), (.tmp 66)], none, [2, 4, 4]⟩,
 ⟨some 68, .mv (.tmp 7), none, []⟩,
 ⟨some 69, .call (.lit (.fn 12 [])) [(.tmp 68)], none, [6, 5]⟩,
 ⟨some 10, .mv (.tmp 63), none, [1, 7, 0, 1]⟩,
 ⟨some 11, .mv (.tmp 67), none, [5, 8, 0, 1, 2, 3, 4, 5, 8]⟩,
 ⟨some 12, .mv (.tmp 69), none, [7, 9, 0, 1, 2, 3, 4, 5, 6, 7, 8, 9]⟩])
(.seq (.reg none [⟨some 13, .mv (.lit .nils), none, []⟩,
 ⟨some 14, .mv (.lit .nils), none, [0]⟩,
 ⟨some 15, .mv (.lit .nils), none, [1]⟩])
(.seq (.seq (.reg none [⟨some 16, .mv (.lit (.int .i64 0)), none, []⟩])
(.block 4 (.loop (.seq (.seq (.reg none [⟨some 70, .mv (.tmp 16), none, []⟩,
 ⟨some 71, .mv (.tmp 10), none, []⟩,
 ⟨some 72, .len (.tmp 71), none, [1]⟩,
 ⟨some 73, .bin .lss .int (.tmp 70) (.tmp 72), none, [0, 2]⟩])
(.cond (.tmp 73) .skip (.exit 4)))
(.seq (.block 5 (.seq (.reg none [⟨some 76, .mv (.tmp 2), none, []⟩,
 ⟨some 77, .mv (.tmp 10), none, []⟩,
 ⟨some 78, .mv (.tmp 16), none, []⟩,
 ⟨some 79, .idxA 1 (.tmp 77) (.tmp 78), none, [1, 2]⟩,
 ⟨some 80, .load none (.tmp 79), none, [3]⟩,
 ⟨some 81, .cint .u64 (.tmp 80), none, [4]⟩,
 ⟨some 82, .bin .shr .int (.tmp 76) (.tmp 81), none, [0, 5]⟩,
 ⟨some 83, .bin .and .int (.tmp 82) (.lit (.int .u16 1)), none, [6]⟩,
 ⟨some 84, .bin .eql .int (.tmp 83) (.lit (.int .u16 1)), none, [7]⟩])
(.cond (.tmp 84) (.reg none [⟨some 85, .mv (.tmp 13), none, []⟩,
 ⟨some 86, .mv (.tmp 10), none, []⟩,
 ⟨some 87, .mv (.tmp 16), none, []⟩,
 ⟨some 88, .idxA 1 (.tmp 86) (.tmp 87), none, [1, 2]⟩,
 ⟨some 89, .load none (.tmp 88), none, [3]⟩,
 ⟨some 90, .bslc 1 [(.int .i64 0)] 1 [(0, 1, (.tmp 89))], none, [4]⟩,
 ⟨some 91, .app 3 1 8 (.tmp 85) (.tmp 90), none, [0, 5]⟩,
 ⟨some 13, .mv (.tmp 91), none, [6, 6, 0, 1, 2, 3, 4, 5, 6]⟩]) (.reg none [⟨some 92, .mv (.tmp 14), none, []⟩,
 ⟨some 93, .mv (.tmp 10), none, []⟩,
 ⟨some 94, .mv (.tmp 16), none, []⟩,
 ⟨some 95, .idxA 1 (.tmp 93) (.tmp 94), none, [1, 2]⟩,
 ⟨some 96, .load none (.tmp 95), none, [3]⟩,
 ⟨some 97, .bslc 1 [(.int .i64 0)] 1 [(0, 1, (.tmp 96))], none, [4]⟩,
 ⟨some 98, .app 3 1 8 (.tmp 92) (.tmp 97), none, [0, 5]⟩,
 ⟨some 14, .mv (.tmp 98), none, [6, 6, 0, 1, 2, 3, 4, 5, 6]⟩]))))
(.reg none [⟨some 74, .mv (.tmp 16), none, []⟩,
 ⟨some 75, .bin .add .int (.tmp 74) (.lit (.int .i64 1)), none, [0]⟩,
 ⟨some 16, .mv (.tmp 75), none, [1, 0, 1]⟩]))))))
(.seq (.seq (.reg none [⟨some 17, .mv (.lit (.int .i64 0)), none, []⟩])
(.block 6 (.loop (.seq (.seq (.reg none [⟨some 99, .mv (.tmp 17), none, []⟩,
 ⟨some 100, .mv (.tmp 11), none, []⟩,
 ⟨some 101, .len (.tmp 100), none, [1]⟩,
 ⟨some 102, .bin .lss .int (.tmp 99) (.tmp 101), none, [0, 2]⟩])
(.cond (.tmp 102) .skip (.exit 6)))
(.seq (.block 7 (.seq (.reg none [⟨some 105, .mv (.tmp 2), none, []⟩,
 ⟨some 106, .mv (.tmp 11), none, []⟩,
 ⟨some 107, .mv (.tmp 17), none, []⟩,
 ⟨some 108, .idxA 1 (.tmp 106) (.tmp 107), none, [1, 2]⟩,
 ⟨some 109, .load none (.tmp 108), none, [3]⟩,
 ⟨some 110, .cint .u64 (.tmp 109), none, [4]⟩,
 ⟨some 111, .bin .shr .int (.tmp 105) (.tmp 110), none, [0, 5]⟩,
 ⟨some 112, .bin .and .int (.tmp 111) (.lit (.int .u16 1)), none, [6]⟩,
 ⟨some 113, .bin .eql .int (.tmp 112) (.lit (.int .u16 0)), none, [7]⟩])
(.cond (.tmp 113) (.reg none [⟨some 114, .mv (.tmp 15), none, []⟩,
 ⟨some 115, .mv (.tmp 11), none, []⟩,
 ⟨some 116, .mv (.tmp 17), none, []⟩,
 ⟨some 117, .idxA 1 (.tmp 115) (.tmp 116), none, [1, 2]⟩,
 ⟨some 118, .load none (.tmp 117), none, [3]⟩,
 ⟨some 119, .bslc 1 [(.int .i64 0)] 1 [(0, 1, (.tmp 118))], none, [4]⟩,
 ⟨some 120, .app 3 1 8 (.tmp 114) (.tmp 119), none, [0, 5]⟩,
 ⟨some 15, .mv (.tmp 120), none, [6, 6, 0, 1, 2, 3, 4, 5, 6]⟩]) .skip)))
(.reg none [⟨some 103, .mv (.tmp 17), none, []⟩,
 ⟨some 104, .bin .add .int (.tmp 103) (.lit (.int .i64 1)), none, [0]⟩,
 ⟨some 17, .mv (.tmp 104), none, [1, 0, 1]⟩]))))))
(.seq (.seq (.reg none [⟨some 121, .mv (.tmp 7), none, []⟩,
 ⟨some 122, .mv (.tmp 13), none, []⟩,
 ⟨some 123, .call (.lit (.fn 15 [])) [(.tmp 121), (.tmp 122)], none, [0, 1]⟩,
 ⟨some 124, .bin .neq .int (.tmp 123) (.lit (.int .i64 0)), none, [2]⟩,
 ⟨some 125, .mv (.tmp 124), none, [3, 2]⟩,
 ⟨some 126, .mv (.tmp 7), some (125, false), [4]⟩,
 ⟨some 127, .call (.lit (.fn 12 [])) [(.tmp 126)], some (125, false), [5, 4, 4]⟩,
 ⟨some 128, .mv (.tmp 12), some (125, false), [4]⟩,
 ⟨some 129, .bin .neq .int (.tmp 127) (.tmp 128), some (125, false), [6, 7, 4]⟩,
 ⟨some 130, .pick (.tmp 125) (.lit (.bool true)) (.tmp 129), none, [4, 8]⟩,
 ⟨some 131, .mv (.tmp 130), none, [9, 6]⟩,
 ⟨some 132, .mv (.tmp 7), some (131, false), [10]⟩,
 ⟨some 133, .call (.lit (.fn 16 [])) [(.tmp 132)], some (131, false), [11, 10, 10]⟩,
 ⟨some 134, .mv (.tmp 12), some (131, false), [10]⟩,
 ⟨some 135, .bin .neq .int (.tmp 133) (.tmp 134), some (131, false), [12, 13, 10]⟩,
 ⟨some 136, .pick (.tmp 131) (.lit (.bool true)) (.tmp 135), none, [10, 14]⟩,
 ⟨some 137, .mv (.tmp 136), none, [15, 12]⟩,
 ⟨some 138, .mv (.tmp 7), some (137, false), [16]⟩,
 ⟨some 139, .call (.lit (.fn 17 [])) [(.tmp 138)], some (137, false), [17, 16, 16]⟩,
 ⟨some 140, .mv (.tmp 14), some (137, false), [16]⟩,
 ⟨some 141, .call (.lit (.fn 14 [])) [(.tmp 139), (.tmp 140)], some (137, false), [18, 19, 18, 16]⟩,
 ⟨some 142, .not (.tmp 141), some (137, false), [20, 16]⟩,
 ⟨some 143, .pick (.tmp 137) (.lit (.bool true)) (.tmp 142), none, [16, 21]⟩,
 ⟨some 144, .mv (.tmp 143), none, [22, 20]⟩,
 ⟨some 145, .mv (.tmp 7), some (144, false), [23]⟩,
 ⟨some 146, .mv (.tmp 12), some (144, false), [23]⟩,
 ⟨some 147, .call (.lit (.fn 11 [])) [(.tmp 145), (.tmp 146)], some (144, false), [24, 25, 23, 23]⟩,
 ⟨some 148, .mv (.tmp 15), some (144, false), [23]⟩,
 ⟨some 149, .call (.lit (.fn 14 [])) [(.tmp 147), (.tmp 148)], some (144, false), [26, 27, 26, 23]⟩,
 ⟨some 150, .not (.tmp 149), some (144, false), [28, 23]⟩,
 ⟨some 151, .pick (.tmp 144) (.lit (.bool true)) (.tmp 150), none, [23, 29]⟩])
(.cond (.tmp 151) (.seq (.reg none [⟨some 6, .mv (.lit (.bool false)), none, []⟩])
.ret) .skip))
(.seq (.seq (.reg none [⟨some 18, .mv (.lit (.int .i64 0)), none, []⟩])
(.block 8 (.loop (.seq (.seq (.reg none [⟨some 152, .mv (.tmp 18), none, []⟩,
 ⟨some 153, .mv (.tmp 13), none, []⟩,
 ⟨some 154, .len (.tmp 153), none, [1]⟩,
 ⟨some 155, .bin .lss .int (.tmp 152) (.tmp 154), none, [0, 2]⟩])
(.cond (.tmp 155) .skip (.exit 8)))
(.seq (.block 9 (.seq (.reg none [⟨some 159, .mv (.tmp 7), none, []⟩,
 ⟨some 160, .mv (.tmp 13), none, []⟩,
 ⟨some 161, .mv (.tmp 18), none, []⟩,
 ⟨some 162, .idxA 1 (.tmp 160) (.tmp 161), none, [1, 2]⟩,
 ⟨some 163, .load none (.tmp 162), none, [3]⟩,
 ⟨some 164, .call (.lit (.fn 10 [])) [(.tmp 159), (.tmp 163)], none, [0, 4]⟩,
 ⟨some 158, .mv (.tmp 164), none, [5]⟩,
 ⟨some 165, .ext (.tmp 158) 0, none, [6]⟩,
 ⟨some 166, .ext (.tmp 158) 1, none, [6]⟩,
 ⟨some 19, .mv (.tmp 165), none, [7, 5, 0, 1, 2, 3, 4, 5, 6, 7]⟩,
 ⟨some 20, .mv (.tmp 166), none, [8, 9, 0, 1, 2, 3, 4, 5, 6, 7, 8, 9]⟩])
(.seq (.reg none [⟨some 168, .mv (.tmp 7), none, []⟩,
 ⟨some 169, .mv (.tmp 13), none, []⟩,
 ⟨some 170, .mv (.tmp 18), none, []⟩,
 ⟨some 171, .idxA 1 (.tmp 169) (.tmp 170), none, [1, 2]⟩,
 ⟨some 172, .load none (.tmp 171), none, [3]⟩,
 ⟨some 173, .call (.lit (.fn 13 [])) [(.tmp 168), (.tmp 172)], none, [0, 4]⟩,
 ⟨some 167, .mv (.tmp 173), none, [5]⟩,
 ⟨some 174, .ext (.tmp 167) 0, none, [6]⟩,
 ⟨some 175, .ext (.tmp 167) 1, none, [6]⟩,
 ⟨some 21, .mv (.tmp 174), none, [7, 5, 0, 1, 2, 3, 4, 5, 6, 7]⟩,
 ⟨some 22, .mv (.tmp 175), none, [8, 9, 0, 1, 2, 3, 4, 5, 6, 7, 8, 9]⟩])
(.seq (.reg none [⟨some 176, .mv (.tmp 20), none, []⟩,
 ⟨some 177, .bin .neq .int (.tmp 176) (.lit (.int .i64 210)), none, [0]⟩,
 ⟨some 178, .mv (.tmp 177), none, [1]⟩,
 ⟨some 179, .mv (.tmp 22), some (178, false), [2]⟩,
 ⟨some 180, .bin .neq .int (.tmp 179) (.lit (.int .i64 210)), some (178, false), [3, 2]⟩,
 ⟨some 181, .pick (.tmp 178) (.lit (.bool true)) (.tmp 180), none, [2, 4]⟩,
 ⟨some 182, .mv (.tmp 181), none, [5, 2]⟩,
 ⟨some 183, .mv (.tmp 7), some (182, false), [6]⟩,
 ⟨some 184, .mv (.tmp 13), some (182, false), [6]⟩,
 ⟨some 185, .mv (.tmp 18), some (182, false), [6]⟩,
 ⟨some 186, .mv (.tmp 18), some (182, false), [6]⟩,
 ⟨some 187, .bin .add .int (.tmp 186) (.lit (.int .i64 1)), some (182, false), [10, 6]⟩,
 ⟨some 188, .slc 1 (.tmp 184) (some (.tmp 185)) (some (.tmp 187)) none, some (182, false), [8, 9, 11, 6]⟩,
 ⟨some 189, .call (.lit (.fn 15 [])) [(.tmp 183), (.tmp 188)], some (182, false), [7, 12, 6, 6]⟩,
 ⟨some 190, .bin .neq .int (.tmp 189) (.lit (.int .i64 210)), some (182, false), [13, 6]⟩,
 ⟨some 191, .pick (.tmp 182) (.lit (.bool true)) (.tmp 190), none, [6, 14]⟩])
(.cond (.tmp 191) (.seq (.reg none [⟨some 6, .mv (.lit (.bool false)), none, []⟩])
.ret) .skip)))))
(.reg none [⟨some 156, .mv (.tmp 18), none, []⟩,
 ⟨some 157, .bin .add .int (.tmp 156) (.lit (.int .i64 1)), none, [0]⟩,
 ⟨some 18, .mv (.tmp 157), none, [1, 0, 1]⟩]))))))
(.seq (.reg none [⟨some 192, .mv (.tmp 7), none, []⟩,
 ⟨some 193, .mv (.tmp 12), none, []⟩,
 ⟨some 194, .call (.lit (.fn 18 [])) [(.tmp 192), (.tmp 193)], none, [0, 1]⟩,
 ⟨some 195, .mv (.tmp 194), none, [2, 2]⟩,
 ⟨some 196, .mv (.tmp 7), some (195, true), [3]⟩,
 ⟨some 197, .mv (.tmp 12), some (195, true), [3]⟩,
 ⟨some 198, .bin .sub .int (.tmp 197) (.lit (.int .i64 1)), some (195, true), [5, 3]⟩,
 ⟨some 199, .call (.lit (.fn 18 [])) [(.tmp 196), (.tmp 198)], some (195, true), [4, 6, 3, 3]⟩,
 ⟨some 200, .not (.tmp 199), some (195, true), [7, 3]⟩,
 ⟨some 201, .pick (.tmp 195) (.tmp 200) (.lit (.bool false)), none, [3, 8]⟩,
 ⟨some 202, .mv (.tmp 201), none, [9, 7]⟩,
 ⟨some 203, .mv (.tmp 7), some (202, true), [10]⟩,
 ⟨some 204, .mv (.tmp 12), some (202, true), [10]⟩,
 ⟨some 205, .bin .add .int (.tmp 204) (.lit (.int .i64 1)), some (202, true), [12, 10]⟩,
 ⟨some 206, .call (.lit (.fn 18 [])) [(.tmp 203), (.tmp 205)], some (202, true), [11, 13, 10, 10]⟩,
 ⟨some 207, .not (.tmp 206), some (202, true), [14, 10]⟩,
 ⟨some 208, .pick (.tmp 202) (.tmp 207) (.lit (.bool false)), none, [10, 15]⟩,
 ⟨some 209, .mv (.tmp 208), none, [16, 14]⟩,
 ⟨some 210, .mv (.tmp 7), some (209, true), [17]⟩,
 ⟨some 211, .call (.lit (.fn 12 [])) [(.tmp 210)], some (209, true), [18, 17, 17]⟩,
 ⟨some 212, .mv (.tmp 12), some (209, true), [17]⟩,
 ⟨some 213, .bin .eql .int (.tmp 211) (.tmp 212), some (209, true), [19, 20, 17]⟩,
 ⟨some 214, .pick (.tmp 209) (.tmp 213) (.lit (.bool false)), none, [17, 21]⟩,
 ⟨some 6, .mv (.tmp 214), none, [22, 19, 0, 1, 2, 3, 4, 5, 6, 7, 8, 9, 10, 11, 12, 13, 14, 15, 16, 17, 18, 19, 20, 21, 22]⟩])
.ret))))))))))))) }
theorem c_palinodelaw19_RevForgets : cFunc Try.prog n_palinodelaw19_RevForgets = some f_palinodelaw19_RevForgets := by kernel_rfl
/-- palinode/palinodelaw19.RevPlays -/
def f_palinodelaw19_RevPlays : SFunc := { ntmps := 142, results := [.tmp 2], body :=
(.seq (.reg none [⟨some 2, .mv (.lit (.bool false)), none, []⟩])
(.seq (.seq (.reg none [⟨some 13, .call (.lit (.fn 8 [])) [], none, []⟩,
 ⟨some 14, .not (.tmp 13), none, [0]⟩])
(.cond (.tmp 14) (.seq (.reg none [⟨some 2, .mv (.lit (.bool false)), none, []⟩])
.ret) .skip))
(.seq (.seq (.reg none [⟨some 15, .mv (.tmp 0), none, []⟩,
 ⟨some 16, .len (.tmp 15), none, [0]⟩,
 ⟨some 17, .bin .gtr .int (.tmp 16) (.lit (.int .i64 60)), none, [1]⟩])
(.cond (.tmp 17) (.seq (.reg none [⟨some 2, .mv (.lit (.bool true)), none, []⟩])
.ret) .skip))
(.seq (.reg none [⟨some 18, .call (.lit (.fn 9 [])) [], none, []⟩,
 ⟨some 19, .call (.lit (.fn 19 [])) [], none, [0]⟩,
 ⟨some 3, .mv (.tmp 18), none, [0, 1, 0]⟩,
 ⟨some 4, .mv (.tmp 19), none, [1, 2, 0, 1, 2]⟩])
(.seq (.seq (.reg none [⟨some 5, .mv (.lit (.int .i64 0)), none, []⟩])
(.block 0 (.loop (.seq (.seq (.reg none [⟨some 20, .mv (.tmp 5), none, []⟩,
 ⟨some 21, .mv (.tmp 0), none, []⟩,
 ⟨some 22, .len (.tmp 21), none, [1]⟩,
 ⟨some 23, .bin .lss .int (.tmp 20) (.tmp 22), none, [0, 2]⟩])
(.cond (.tmp 23) .skip (.exit 0)))
(.seq (.block 1 (.seq (.reg none [⟨some 26, .mv (.tmp 0), none, []⟩,
 ⟨some 27, .mv (.tmp 5), none, []⟩,
 ⟨some 28, .idxA 3 (.tmp 26) (.tmp 27), none, [0, 1]⟩,
 ⟨some 29, .load (some 3) (.tmp 28), none, [2]⟩,
 ⟨some 6, .alloc [(.int .i64 0), (.int .i64 0), .nils], none, []⟩,
 ⟨none, .store 3 (.tmp 6) (.tmp 29), none, [4, 3, 0, 1, 2, 3, 4]⟩])
(.seq (.reg none [⟨some 30, .mv (.tmp 3), none, []⟩,
 ⟨some 31, .call (.lit (.fn 20 [])) [(.tmp 30)], none, [0]⟩,
 ⟨some 7, .mv (.tmp 31), none, [1, 1, 0, 1]⟩])
(.seq (.reg none [⟨some 8, .mv (.lit (.int .i64 0)), none, []⟩,
 ⟨some 9, .mv (.lit (.int .i64 0)), none, [0, 0]⟩,
 ⟨some 10, .mv (.lit (.int .i64 0)), none, [1, 0, 1]⟩,
 ⟨some 11, .mv (.lit (.int .i64 0)), none, [2, 0, 1, 2]⟩])
(.seq (.block 2 (.seq (.reg none [⟨some 45, .fldA 0 (.tmp 6), none, []⟩,
 ⟨some 46, .load none (.tmp 45), none, [0]⟩,
 ⟨some 47, .bin .leq .int (.tmp 46) (.lit (.int .i64 2)), none, [1]⟩,
 ⟨some 44, .mv (.tmp 47), none, [2]⟩])
(.cond (.tmp 44) (.seq (.reg none [⟨some 49, .mv (.tmp 3), none, []⟩,
 ⟨some 50, .fldA 1 (.tmp 6), none, []⟩,
 ⟨some 51, .load none (.tmp 50), none, [1]⟩,
 ⟨some 52, .call (.lit (.fn 10 [])) [(.tmp 49), (.tmp 51)], none, [0, 2]⟩,
 ⟨some 48, .mv (.tmp 52), none, [3]⟩,
 ⟨some 53, .ext (.tmp 48) 0, none, [4]⟩,
 ⟨some 54, .ext (.tmp 48) 1, none, [4]⟩,
 ⟨some 8, .mv (.tmp 53), none, [5, 3, 0, 1, 2, 3, 4, 5]⟩,
 ⟨some 10, .mv (.tmp 54), none, [6, 7, 0, 1, 2, 3, 4, 5, 6, 7]⟩])
(.reg none [⟨some 56, .mv (.tmp 4), none, []⟩,
 ⟨some 57, .fldA 1 (.tmp 6), none, []⟩,
 ⟨some 58, .load none (.tmp 57), none, [1]⟩,
 ⟨some 59, .call (.lit (.fn 21 [])) [(.tmp 56), (.tmp 58)], none, [0, 2]⟩,
 ⟨some 55, .mv (.tmp 59), none, [3]⟩,
 ⟨some 60, .ext (.tmp 55) 0, none, [4]⟩,
 ⟨some 61, .ext (.tmp 55) 1, none, [4]⟩,
 ⟨some 9, .mv (.tmp 60), none, [5, 3, 0, 1, 2, 3, 4, 5]⟩,
 ⟨some 11, .mv (.tmp 61), none, [6, 7, 0, 1, 2, 3, 4, 5, 6, 7]⟩])) (.seq (.reg none [⟨some 63, .fldA 0 (.tmp 6), none, []⟩,
 ⟨some 64, .load none (.tmp 63), none, [0]⟩,
 ⟨some 65, .bin .leq .int (.tmp 64) (.lit (.int .i64 4)), none, [1]⟩,
 ⟨some 62, .mv (.tmp 65), none, [2]⟩])
(.cond (.tmp 62) (.seq (.reg none [⟨some 67, .mv (.tmp 3), none, []⟩,
 ⟨some 68, .fldA 1 (.tmp 6), none, []⟩,
 ⟨some 69, .load none (.tmp 68), none, [1]⟩,
 ⟨some 70, .call (.lit (.fn 13 [])) [(.tmp 67), (.tmp 69)], none, [0, 2]⟩,
 ⟨some 66, .mv (.tmp 70), none, [3]⟩,
 ⟨some 71, .ext (.tmp 66) 0, none, [4]⟩,
 ⟨some 72, .ext (.tmp 66) 1, none, [4]⟩,
 ⟨some 8, .mv (.tmp 71), none, [5, 3, 0, 1, 2, 3, 4, 5]⟩,
 ⟨some 10, .mv (.tmp 72), none, [6, 7, 0, 1, 2, 3, 4, 5, 6, 7]⟩])
(.reg none [⟨some 74, .mv (.tmp 4), none, []⟩,
 ⟨some 75, .fldA 1 (.tmp 6), none, []⟩,
 ⟨some 76, .load none (.tmp 75), none, [1]⟩,
 ⟨some 77, .call (.lit (.fn 22 [])) [(.tmp 74), (.tmp 76)], none, [0, 2]⟩,
 ⟨some 73, .mv (.tmp 77), none, [3]⟩,
 ⟨some 78, .ext (.tmp 73) 0, none, [4]⟩,
 ⟨some 79, .ext (.tmp 73) 1, none, [4]⟩,
 ⟨some 9, .mv (.tmp 78), none, [5, 3, 0, 1, 2, 3, 4, 5]⟩,
 ⟨some 11, .mv (.tmp 79), none, [6, 7, 0, 1, 2, 3, 4, 5, 6, 7]⟩])) (.seq (.seq (.reg none [⟨some 32, .fldA 2 (.tmp 6), none, []⟩,
 ⟨some 33, .load none (.tmp 32), none, [0]⟩,
 ⟨some 34, .len (.tmp 33), none, [1]⟩,
 ⟨some 35, .bin .gtr .int (.tmp 34) (.lit (.int .i64 20)), none, [2]⟩])
(.cond (.tmp 35) (.seq (.reg none [⟨some 2, .mv (.lit (.bool true)), none, []⟩])
.ret) .skip))
(.reg (some [0, 0, 2, 7, 0, 0, 32, 127, 255, 511]) [⟨some 36, .mv (.tmp 3), none, []⟩,
 ⟨some 37, .fldA 2 (.tmp 6), none, []⟩,
 ⟨some 38, .load none (.tmp 37), none, [1]⟩,
 ⟨some 39, .call (.lit (.fn 15 [])) [(.tmp 36), (.tmp 38)], none, [0, 2]⟩,
 ⟨some 40, .mv (.tmp 4), none, []⟩,
 ⟨some 41, .fldA 2 (.tmp 6), none, []⟩,
 ⟨some 42, .load none (.tmp 41), none, [5]⟩,
 ⟨some 43, .call (.lit (.fn 23 [])) [(.tmp 40), (.tmp 42)], none, [4, 6, 3]⟩,
 ⟨some 10, .mv (.tmp 39), none, [3, 7, 0, 1, 2, 3]⟩,
 ⟨some 11, .mv (.tmp 43), none, [7, 8, 0, 1, 2, 3, 4, 5, 6, 7, 8]⟩])))))))
(.seq (.reg none [⟨some 80, .mv (.tmp 7), none, []⟩,
 ⟨some 81, .call (.lit (.fn 10 [])) [(.tmp 80), (.lit (.int .i64 7))], none, [0]⟩])
(.seq (.seq (.reg (some [0, 0, 3, 7, 15, 15, 63, 127, 255, 511, 1023, 511, 2559, 6655, 14847, 32767, 65535, 131071, 262143, 524287, 262143, 1310719, 3407871, 7602175, 16777215, 33554431, 67108863, 134217727, 268435455, 134217727, 1073741823, 2147483647, 4294967295, 8589934591]) [⟨some 82, .mv (.tmp 8), none, []⟩,
 ⟨some 83, .mv (.tmp 9), none, []⟩,
 ⟨some 84, .bin .neq .int (.tmp 82) (.tmp 83), none, [0, 1]⟩,
 ⟨some 85, .mv (.tmp 84), none, [2]⟩,
 ⟨some 86, .mv (.tmp 10), some (85, false), [3]⟩,
 ⟨some 87, .mv (.tmp 11), some (85, false), [3]⟩,
 ⟨some 88, .bin .neq .int (.tmp 86) (.tmp 87), some (85, false), [4, 5, 3]⟩,
 ⟨some 89, .pick (.tmp 85) (.lit (.bool true)) (.tmp 88), none, [3, 6]⟩,
 ⟨some 90, .mv (.tmp 89), none, [7, 3]⟩,
 ⟨some 91, .mv (.tmp 3), some (90, false), [8]⟩,
 ⟨some 92, .call (.lit (.fn 12 [])) [(.tmp 91)], some (90, false), [9, 8, 8]⟩,
 ⟨some 93, .mv (.tmp 4), some (90, false), [8]⟩,
 ⟨some 94, .nilc (.tmp 93), some (90, false), [11, 8]⟩,
 ⟨some 95, .fldA 0 (.tmp 94), some (90, false), [12, 8]⟩,
 ⟨some 96, .load none (.tmp 95), some (90, false), [13, 8]⟩,
 ⟨some 97, .bin .neq .int (.tmp 92) (.tmp 96), some (90, false), [10, 14, 8]⟩,
 ⟨some 98, .pick (.tmp 90) (.lit (.bool true)) (.tmp 97), none, [8, 15]⟩,
 ⟨some 99, .mv (.tmp 98), none, [16, 10]⟩,
 ⟨some 100, .mv (.tmp 3), some (99, false), [17]⟩,
 ⟨some 101, .call (.lit (.fn 16 [])) [(.tmp 100)], some (99, false), [18, 17, 17]⟩,
 ⟨some 102, .mv (.tmp 4), some (99, false), [17]⟩,
 ⟨some 103, .nilc (.tmp 102), some (99, false), [20, 17]⟩,
 ⟨some 104, .fldA 1 (.tmp 103), some (99, false), [21, 17]⟩,
 ⟨some 105, .load none (.tmp 104), some (99, false), [22, 17]⟩,
 ⟨some 106, .bin .neq .int (.tmp 101) (.tmp 105), some (99, false), [19, 23, 17]⟩,
 ⟨some 107, .pick (.tmp 99) (.lit (.bool true)) (.tmp 106), none, [17, 24]⟩,
 ⟨some 108, .mv (.tmp 107), none, [25, 19]⟩,
 ⟨some 109, .mv (.tmp 3), some (108, false), [26]⟩,
 ⟨some 110, .call (.lit (.fn 17 [])) [(.tmp 109)], some (108, false), [27, 26, 26]⟩,
 ⟨some 111, .mv (.tmp 4), some (108, false), [26]⟩,
 ⟨some 112, .call (.lit (.fn 24 [])) [(.tmp 111)], some (108, false), [29, 28, 26]⟩,
 ⟨some 113, .call (.lit (.fn 14 [])) [(.tmp 110), (.tmp 112)], some (108, false), [28, 30, 30, 26]⟩,
 ⟨some 114, .not (.tmp 113), some (108, false), [31, 26]⟩,
 ⟨some 115, .pick (.tmp 108) (.lit (.bool true)) (.tmp 114), none, [26, 32]⟩])
(.cond (.tmp 115) (.seq (.reg none [⟨some 2, .mv (.lit (.bool false)), none, []⟩])
.ret) .skip))
(.seq (.reg none [⟨some 12, .mv (.lit (.int .i64 (-1))), none, []⟩])
(.block 3 (.loop (.seq (.seq (.reg none [⟨some 116, .mv (.tmp 12), none, []⟩,
 ⟨some 117, .mv (.tmp 4), none, []⟩,
 ⟨some 118, .nilc (.tmp 117), none, [1]⟩,
 ⟨some 119, .fldA 0 (.tmp 118), none, [2]⟩,
 ⟨some 120, .load none (.tmp 119), none, [3]⟩,
 ⟨some 121, .bin .add .int (.tmp 120) (.lit (.int .i64 1)), none, [4]⟩,
 ⟨some 122, .bin .leq .int (.tmp 116) (.tmp 121), none, [0, 5]⟩])
(.cond (.tmp 122) .skip (.exit 3)))
(.seq (.block 4 (.seq (.reg none [⟨some 125, .mv (.tmp 3), none, []⟩,
 ⟨some 126, .mv (.tmp 12), none, []⟩,
 ⟨some 127, .call (.lit (.fn 18 [])) [(.tmp 125), (.tmp 126)], none, [0, 1]⟩,
 ⟨some 128, .mv (.tmp 4), none, []⟩,
 ⟨some 129, .mv (.tmp 12), none, []⟩,
 ⟨some 130, .call (.lit (.fn 25 [])) [(.tmp 128), (.tmp 129)], none, [3, 4, 2]⟩,
 ⟨some 131, .bin .neq .bool (.tmp 127) (.tmp 130), none, [2, 5]⟩,
 ⟨some 132, .mv (.tmp 131), none, [6, 5]⟩,
 ⟨some 133, .mv (.tmp 3), some (132, false), [7]⟩,
 ⟨some 134, .mv (.tmp 12), some (132, false), [7]⟩,
 ⟨some 135, .call (.lit (.fn 11 [])) [(.tmp 133), (.tmp 134)], some (132, false), [8, 9, 7, 7]⟩,
 ⟨some 136, .mv (.tmp 4), some (132, false), [7]⟩,
 ⟨some 137, .mv (.tmp 12), some (132, false), [7]⟩,
 ⟨some 138, .call (.lit (.fn 26 [])) [(.tmp 136), (.tmp 137)], some (132, false), [11, 12, 10, 7]⟩,
 ⟨some 139, .call (.lit (.fn 14 [])) [(.tmp 135), (.tmp 138)], some (132, false), [10, 13, 13, 7]⟩,
 ⟨some 140, .not (.tmp 139), some (132, false), [14, 7]⟩,
 ⟨some 141, .pick (.tmp 132) (.lit (.bool true)) (.tmp 140), none, [7, 15]⟩])
(.cond (.tmp 141) (.seq (.reg none [⟨some 2, .mv (.lit (.bool false)), none, []⟩])
.ret) .skip)))
(.reg none [⟨some 123, .mv (.tmp 12), none, []⟩,
 ⟨some 124, .bin .add .int (.tmp 123) (.lit (.int .i64 1)), none, [0]⟩,
 ⟨some 12, .mv (.tmp 124), none, [1, 0, 1]⟩])))))))))))))
(.reg none [⟨some 24, .mv (.tmp 5), none, []⟩,
 ⟨some 25, .bin .add .int (.tmp 24) (.lit (.int .i64 1)), none, [0]⟩,
 ⟨some 5, .mv (.tmp 25), none, [1, 0, 1]⟩]))))))
(.seq (.reg none [⟨some 2, .mv (.lit (.bool true)), none, []⟩])
.ret)))))) }
theorem c_palinodelaw19_RevPlays : cFunc Try.prog n_palinodelaw19_RevPlays = some f_palinodelaw19_RevPlays := by kernel_rfl
/-- palinode/palinodelaw19.RevCopies -/
def f_palinodelaw19_RevCopies : SFunc := { ntmps := 86, results := [.tmp 4], body :=
(.seq (.reg none [⟨some 4, .mv (.lit (.bool false)), none, []⟩])
(.seq (.seq (.reg none [⟨some 11, .call (.lit (.fn 8 [])) [], none, []⟩,
 ⟨some 12, .not (.tmp 11), none, [0]⟩])
(.cond (.tmp 12) (.seq (.reg none [⟨some 4, .mv (.lit (.bool false)), none, []⟩])
.ret) .skip))
(.seq (.reg none [⟨some 13, .mv (.tmp 0), none, []⟩,
 ⟨some 14, .bin .rem .int (.tmp 13) (.lit (.int .u8 50)), none, [0]⟩,
 ⟨some 15, .cint .i64 (.tmp 14), none, [1]⟩,
 ⟨some 16, .mv (.tmp 1), none, []⟩,
 ⟨some 17, .bin .rem .int (.tmp 16) (.lit (.int .u8 50)), none, [3]⟩,
 ⟨some 18, .cint .i64 (.tmp 17), none, [4]⟩,
 ⟨some 5, .mv (.tmp 15), none, [2, 0, 1, 2]⟩,
 ⟨some 6, .mv (.tmp 18), none, [5, 6, 0, 1, 2, 3, 4, 5, 6]⟩])
(.seq (.reg none [⟨some 19, .call (.lit (.fn 9 [])) [], none, []⟩,
 ⟨some 7, .mv (.tmp 19), none, [0, 0, 0]⟩])
(.seq (.reg none [⟨some 20, .mv (.tmp 7), none, []⟩,
 ⟨some 21, .mv (.tmp 5), none, []⟩,
 ⟨some 22, .call (.lit (.fn 10 [])) [(.tmp 20), (.tmp 21)], none, [0, 1]⟩])
(.seq (.reg none [⟨some 23, .mv (.tmp 7), none, []⟩,
 ⟨some 24, .mv (.tmp 5), none, []⟩,
 ⟨some 25, .call (.lit (.fn 13 [])) [(.tmp 23), (.tmp 24)], none, [0, 1]⟩])
(.seq (.reg none [⟨some 26, .mv (.tmp 7), none, []⟩,
 ⟨some 27, .call (.lit (.fn 20 [])) [(.tmp 26)], none, [0]⟩,
 ⟨some 8, .mv (.tmp 27), none, [1, 1, 0, 1]⟩])
(.seq (.reg none [⟨some 28, .mv (.tmp 8), none, []⟩,
 ⟨some 29, .mv (.tmp 5), none, []⟩,
 ⟨some 30, .call (.lit (.fn 13 [])) [(.tmp 28), (.tmp 29)], none, [0, 1]⟩])
(.seq (.reg none [⟨some 31, .mv (.tmp 8), none, []⟩,
 ⟨some 32, .mv (.tmp 6), none, []⟩,
 ⟨some 33, .call (.lit (.fn 10 [])) [(.tmp 31), (.tmp 32)], none, [0, 1]⟩])
(.seq (.reg none [⟨some 34, .mv (.tmp 7), none, []⟩,
 ⟨some 35, .call (.lit (.fn 11 [])) [(.tmp 34), (.lit (.int .i64 2))], none, [0]⟩,
 ⟨some 9, .mv (.tmp 35), none, [1, 1, 0, 1]⟩])
(.seq (.reg none [⟨some 36, .mv (.tmp 7), none, []⟩,
 ⟨some 37, .call (.lit (.fn 17 [])) [(.tmp 36)], none, [0]⟩,
 ⟨some 10, .mv (.tmp 37), none, [1, 1, 0, 1]⟩])
(.seq (.seq (.reg none [⟨some 38, .mv (.tmp 9), none, []⟩,
 ⟨some 39, .len (.tmp 38), none, [0]⟩,
 ⟨some 40, .bin .neq .int (.tmp 39) (.lit (.int .i64 1)), none, [1]⟩,
 ⟨some 41, .mv (.tmp 40), none, [2]⟩,
 ⟨some 42, .mv (.tmp 10), some (41, false), [3]⟩,
 ⟨some 43, .len (.tmp 42), some (41, false), [4, 3]⟩,
 ⟨some 44, .bin .neq .int (.tmp 43) (.lit (.int .i64 1)), some (41, false), [5, 3]⟩,
 ⟨some 45, .pick (.tmp 41) (.lit (.bool true)) (.tmp 44), none, [3, 6]⟩])
(.cond (.tmp 45) (.seq (.reg none [⟨some 4, .mv (.lit (.bool false)), none, []⟩])
.ret) .skip))
(.seq (.reg none [⟨some 46, .mv (.tmp 9), none, []⟩,
 ⟨some 47, .mv (.tmp 10), none, []⟩,
 ⟨some 48, .idxA 1 (.tmp 46) (.lit (.int .i64 0)), none, [0, 0]⟩,
 ⟨none, .store 1 (.tmp 48) (.lit (.int .i64 59)), none, [2, 0]⟩,
 ⟨some 49, .idxA 1 (.tmp 47) (.lit (.int .i64 0)), none, [1, 0, 1, 2, 3]⟩,
 ⟨none, .store 1 (.tmp 49) (.lit (.int .i64 59)), none, [4, 3, 0, 1, 2, 3]⟩])
(.seq (.reg none [⟨some 50, .mv (.tmp 7), none, []⟩,
 ⟨some 51, .call (.lit (.fn 12 [])) [(.tmp 50)], none, [0]⟩,
 ⟨some 52, .bin .eql .int (.tmp 51) (.lit (.int .i64 2)), none, [1]⟩,
 ⟨some 53, .mv (.tmp 52), none, [2, 1]⟩,
 ⟨some 54, .mv (.tmp 8), some (53, true), [3]⟩,
 ⟨some 55, .call (.lit (.fn 12 [])) [(.tmp 54)], some (53, true), [4, 3, 3]⟩,
 ⟨some 56, .bin .eql .int (.tmp 55) (.lit (.int .i64 4)), some (53, true), [5, 3]⟩,
 ⟨some 57, .pick (.tmp 53) (.tmp 56) (.lit (.bool false)), none, [3, 6]⟩,
 ⟨some 58, .mv (.tmp 57), none, [7, 5]⟩,
 ⟨some 59, .mv (.tmp 7), some (58, true), [8]⟩,
 ⟨some 60, .call (.lit (.fn 11 [])) [(.tmp 59), (.lit (.int .i64 2))], some (58, true), [9, 8, 8]⟩,
 ⟨some 61, .len (.tmp 60), some (58, true), [10, 8]⟩,
 ⟨some 62, .bin .eql .int (.tmp 61) (.lit (.int .i64 1)), some (58, true), [11, 8]⟩,
 ⟨some 63, .pick (.tmp 58) (.tmp 62) (.lit (.bool false)), none, [8, 12]⟩,
 ⟨some 64, .mv (.tmp 63), none, [13, 10]⟩,
 ⟨some 65, .mv (.tmp 7), some (64, true), [14]⟩,
 ⟨some 66, .call (.lit (.fn 11 [])) [(.tmp 65), (.lit (.int .i64 2))], some (64, true), [15, 14, 14]⟩,
 ⟨some 67, .idxA 1 (.tmp 66) (.lit (.int .i64 0)), some (64, true), [16, 14]⟩,
 ⟨some 68, .load none (.tmp 67), some (64, true), [17, 14]⟩,
 ⟨some 69, .mv (.tmp 5), some (64, true), [14]⟩,
 ⟨some 70, .bin .eql .int (.tmp 68) (.tmp 69), some (64, true), [18, 19, 14]⟩,
 ⟨some 71, .pick (.tmp 64) (.tmp 70) (.lit (.bool false)), none, [14, 20]⟩,
 ⟨some 72, .mv (.tmp 71), none, [21, 16]⟩,
 ⟨some 73, .mv (.tmp 7), some (72, true), [22]⟩,
 ⟨some 74, .call (.lit (.fn 17 [])) [(.tmp 73)], some (72, true), [23, 22, 22]⟩,
 ⟨some 75, .idxA 1 (.tmp 74) (.lit (.int .i64 0)), some (72, true), [24, 22]⟩,
 ⟨some 76, .load none (.tmp 75), some (72, true), [25, 22]⟩,
 ⟨some 77, .mv (.tmp 5), some (72, true), [22]⟩,
 ⟨some 78, .bin .eql .int (.tmp 76) (.tmp 77), some (72, true), [26, 27, 22]⟩,
 ⟨some 79, .pick (.tmp 72) (.tmp 78) (.lit (.bool false)), none, [22, 28]⟩,
 ⟨some 80, .mv (.tmp 79), none, [29, 24]⟩,
 ⟨some 81, .mv (.tmp 8), some (80, true), [30]⟩,
 ⟨some 82, .call (.lit (.fn 11 [])) [(.tmp 81), (.lit (.int .i64 4))], some (80, true), [31, 30, 30]⟩,
 ⟨some 83, .len (.tmp 82), some (80, true), [32, 30]⟩,
 ⟨some 84, .bin .eql .int (.tmp 83) (.lit (.int .i64 0)), some (80, true), [33, 30]⟩,
 ⟨some 85, .pick (.tmp 80) (.tmp 84) (.lit (.bool false)), none, [30, 34]⟩,
 ⟨some 4, .mv (.tmp 85), none, [35, 32, 0, 1, 2, 3, 4, 5, 6, 7, 8, 9, 10, 11, 12, 13, 14, 15, 16, 17, 18, 19, 20, 21, 22, 23, 24, 25, 26, 27, 28, 29, 30, 31, 32, 33, 34, 35]⟩])
.ret)))))))))))))) }
theorem c_palinodelaw19_RevCopies : cFunc Try.prog n_palinodelaw19_RevCopies = some f_palinodelaw19_RevCopies := by kernel_rfl
/-- palinode/palinodelaw19.known -/
def f_palinodelaw19_known : SFunc := { ntmps := 103, results := [.tmp 0], body :=
(.seq (.reg none [⟨some 0, .mv (.lit (.bool false)), none, []⟩])
(.seq (.reg none [⟨some 12, .call (.lit (.fn 9 [])) [], none, []⟩,
 ⟨some 1, .mv (.tmp 12), none, [0, 0, 0]⟩])
(.seq (.seq (.reg none [⟨some 13, .mv (.tmp 1), none, []⟩,
 ⟨some 14, .bin .eql .ptr (.tmp 13) (.lit .nilp), none, [0]⟩])
(.cond (.tmp 14) (.seq (.reg none [⟨some 0, .mv (.lit (.bool false)), none, []⟩])
.ret) .skip))
(.seq (.reg none [⟨some 16, .mv (.tmp 1), none, []⟩,
 ⟨some 17, .call (.lit (.fn 10 [])) [(.tmp 16), (.lit (.int .i64 3))], none, [0]⟩,
 ⟨some 15, .mv (.tmp 17), none, [1]⟩,
 ⟨some 18, .ext (.tmp 15) 0, none, [2]⟩,
 ⟨some 19, .ext (.tmp 15) 1, none, [2]⟩,
 ⟨some 2, .mv (.tmp 18), none, [3, 1, 0, 1, 2, 3]⟩,
 ⟨some 3, .mv (.tmp 19), none, [4, 5, 0, 1, 2, 3, 4, 5]⟩])
(.seq (.reg none [⟨some 21, .mv (.tmp 1), none, []⟩,
 ⟨some 22, .call (.lit (.fn 13 [])) [(.tmp 21), (.lit (.int .i64 3))], none, [0]⟩,
 ⟨some 20, .mv (.tmp 22), none, [1]⟩,
 ⟨some 23, .ext (.tmp 20) 0, none, [2]⟩,
 ⟨some 24, .ext (.tmp 20) 1, none, [2]⟩,
 ⟨some 4, .mv (.tmp 23), none, [3, 1, 0, 1, 2, 3]⟩,
 ⟨some 5, .mv (.tmp 24), none, [4, 5, 0, 1, 2, 3, 4, 5]⟩])
(.seq (.reg none [⟨some 26, .mv (.tmp 1), none, []⟩,
 ⟨some 27, .call (.lit (.fn 13 [])) [(.tmp 26), (.lit (.int .i64 4))], none, [0]⟩,
 ⟨some 25, .mv (.tmp 27), none, [1]⟩,
 ⟨some 28, .ext (.tmp 25) 0, none, [2]⟩,
 ⟨some 29, .ext (.tmp 25) 1, none, [2]⟩,
 ⟨some 6, .mv (.tmp 28), none, [3, 1, 0, 1, 2, 3]⟩,
 ⟨some 7, .mv (.tmp 29), none, [4, 5, 0, 1, 2, 3, 4, 5]⟩])
(.seq (.reg none [⟨some 30, .mv (.tmp 1), none, []⟩,
 ⟨some 31, .call (.lit (.fn 11 [])) [(.tmp 30), (.lit (.int .i64 2))], none, [0]⟩,
 ⟨some 8, .mv (.tmp 31), none, [1, 1, 0, 1]⟩])
(.seq (.reg none [⟨some 32, .mv (.tmp 1), none, []⟩,
 ⟨some 33, .bslc 1 [(.int .i64 0)] 1 [(0, 1, (.lit (.int .i64 3)))], none, []⟩,
 ⟨some 34, .call (.lit (.fn 15 [])) [(.tmp 32), (.tmp 33)], none, [0, 1]⟩,
 ⟨some 9, .mv (.tmp 34), none, [2, 2, 0, 1, 2]⟩])
(.seq (.reg none [⟨some 36, .mv (.tmp 1), none, []⟩,
 ⟨some 37, .call (.lit (.fn 10 [])) [(.tmp 36), (.lit (.int .i64 3))], none, [0]⟩,
 ⟨some 35, .mv (.tmp 37), none, [1]⟩,
 ⟨some 38, .ext (.tmp 35) 0, none, [2]⟩,
 ⟨some 39, .ext (.tmp 35) 1, none, [2]⟩,
 ⟨some 10, .mv (.tmp 38), none, [3, 1, 0, 1, 2, 3]⟩,
 ⟨some 11, .mv (.tmp 39), none, [4, 5, 0, 1, 2, 3, 4, 5]⟩])
(.seq (.reg none [⟨some 40, .mv (.tmp 3), none, []⟩,
 ⟨some 41, .bin .eql .int (.tmp 40) (.lit (.int .i64 0)), none, [0]⟩,
 ⟨some 42, .mv (.tmp 41), none, [1]⟩,
 ⟨some 43, .mv (.tmp 2), some (42, true), [2]⟩,
 ⟨some 44, .bin .eql .int (.tmp 43) (.lit (.int .i64 1)), some (42, true), [3, 2]⟩,
 ⟨some 45, .pick (.tmp 42) (.tmp 44) (.lit (.bool false)), none, [2, 4]⟩,
 ⟨some 46, .mv (.tmp 45), none, [5, 2]⟩,
 ⟨some 47, .mv (.tmp 5), some (46, true), [6]⟩,
 ⟨some 48, .bin .eql .int (.tmp 47) (.lit (.int .i64 0)), some (46, true), [7, 6]⟩,
 ⟨some 49, .pick (.tmp 46) (.tmp 48) (.lit (.bool false)), none, [6, 8]⟩,
 ⟨some 50, .mv (.tmp 49), none, [9, 6]⟩,
 ⟨some 51, .mv (.tmp 4), some (50, true), [10]⟩,
 ⟨some 52, .bin .eql .int (.tmp 51) (.lit (.int .i64 2)), some (50, true), [11, 10]⟩,
 ⟨some 53, .pick (.tmp 50) (.tmp 52) (.lit (.bool false)), none, [10, 12]⟩,
 ⟨some 54, .mv (.tmp 53), none, [13, 10]⟩,
 ⟨some 55, .mv (.tmp 7), some (54, true), [14]⟩,
 ⟨some 56, .bin .eql .int (.tmp 55) (.lit (.int .i64 210)), some (54, true), [15, 14]⟩,
 ⟨some 57, .pick (.tmp 54) (.tmp 56) (.lit (.bool false)), none, [14, 16]⟩,
 ⟨some 58, .mv (.tmp 57), none, [17, 14]⟩,
 ⟨some 59, .mv (.tmp 8), some (58, true), [18]⟩,
 ⟨some 60, .len (.tmp 59), some (58, true), [19, 18]⟩,
 ⟨some 61, .bin .eql .int (.tmp 60) (.lit (.int .i64 1)), some (58, true), [20, 18]⟩,
 ⟨some 62, .pick (.tmp 58) (.tmp 61) (.lit (.bool false)), none, [18, 21]⟩,
 ⟨some 63, .mv (.tmp 62), none, [22, 18]⟩,
 ⟨some 64, .mv (.tmp 8), some (63, true), [23]⟩,
 ⟨some 65, .idxA 1 (.tmp 64) (.lit (.int .i64 0)), some (63, true), [24, 23]⟩,
 ⟨some 66, .load none (.tmp 65), some (63, true), [25, 23]⟩,
 ⟨some 67, .bin .eql .int (.tmp 66) (.lit (.int .i64 3)), some (63, true), [26, 23]⟩,
 ⟨some 68, .pick (.tmp 63) (.tmp 67) (.lit (.bool false)), none, [23, 27]⟩,
 ⟨some 69, .mv (.tmp 68), none, [28, 23]⟩,
 ⟨some 70, .mv (.tmp 9), some (69, true), [29]⟩,
 ⟨some 71, .bin .eql .int (.tmp 70) (.lit (.int .i64 0)), some (69, true), [30, 29]⟩,
 ⟨some 72, .pick (.tmp 69) (.tmp 71) (.lit (.bool false)), none, [29, 31]⟩,
 ⟨some 73, .mv (.tmp 72), none, [32, 29]⟩,
 ⟨some 74, .mv (.tmp 11), some (73, true), [33]⟩,
 ⟨some 75, .bin .eql .int (.tmp 74) (.lit (.int .i64 210)), some (73, true), [34, 33]⟩,
 ⟨some 76, .pick (.tmp 73) (.tmp 75) (.lit (.bool false)), none, [33, 35]⟩,
 ⟨some 77, .mv (.tmp 76), none, [36, 33]⟩,
 ⟨some 78, .mv (.tmp 1), some (77, true), [37]⟩,
 ⟨some 79, .call (.lit (.fn 16 [])) [(.tmp 78)], some (77, true), [38, 37, 37]⟩,
 ⟨some 80, .bin .eql .int (.tmp 79) (.lit (.int .i64 2)), some (77, true), [39, 37]⟩,
 ⟨some 81, .pick (.tmp 77) (.tmp 80) (.lit (.bool false)), none, [37, 40]⟩,
 ⟨some 82, .mv (.tmp 81), none, [41, 39]⟩,
 ⟨some 83, .mv (.tmp 1), some (82, true), [42]⟩,
 ⟨some 84, .call (.lit (.fn 18 [])) [(.tmp 83), (.lit (.int .i64 1))], some (82, true), [43, 42, 42]⟩,
 ⟨some 85, .not (.tmp 84), some (82, true), [44, 42]⟩,
 ⟨some 86, .pick (.tmp 82) (.tmp 85) (.lit (.bool false)), none, [42, 45]⟩,
 ⟨some 87, .mv (.tmp 86), none, [46, 44]⟩,
 ⟨some 88, .mv (.tmp 1), some (87, true), [47]⟩,
 ⟨some 89, .call (.lit (.fn 18 [])) [(.tmp 88), (.lit (.int .i64 2))], some (87, true), [48, 47, 47]⟩,
 ⟨some 90, .pick (.tmp 87) (.tmp 89) (.lit (.bool false)), none, [47, 49]⟩,
 ⟨some 91, .mv (.tmp 90), none, [50, 49]⟩,
 ⟨some 92, .mv (.tmp 1), some (91, true), [51]⟩,
 ⟨some 93, .call (.lit (.fn 17 [])) [(.tmp 92)], some (91, true), [52, 51, 51]⟩,
 ⟨some 94, .len (.tmp 93), some (91, true), [53, 51]⟩,
 ⟨some 95, .bin .eql .int (.tmp 94) (.lit (.int .i64 0)), some (91, true), [54, 51]⟩,
 ⟨some 96, .pick (.tmp 91) (.tmp 95) (.lit (.bool false)), none, [51, 55]⟩,
 ⟨some 97, .mv (.tmp 96), none, [56, 53]⟩,
 ⟨some 98, .mv (.tmp 1), some (97, true), [57]⟩,
 ⟨some 99, .call (.lit (.fn 11 [])) [(.tmp 98), (.lit (.int .i64 2))], some (97, true), [58, 57, 57]⟩,
 ⟨some 100, .len (.tmp 99), some (97, true), [59, 57]⟩,
 ⟨some 101, .bin .eql .int (.tmp 100) (.lit (.int .i64 0)), some (97, true), [60, 57]⟩,
 ⟨some 102, .pick (.tmp 97) (.tmp 101) (.lit (.bool false)), none, [57, 61]⟩,
 ⟨some 0, .mv (.tmp 102), none, [62, 59, 0, 1, 2, 3, 4, 5, 6, 7, 8, 9, 10, 11, 12, 13, 14, 15, 16, 17, 18, 19, 20, 21, 22, 23, 24, 25, 26, 27, 28, 29, 30, 31, 32, 33, 34, 35, 36, 37, 38, 39, 40, 41, 42, 43, 44, 45, 46, 47, 48, 49, 50, 51, 52, 53, 54, 55, 56, 57, 58, 59, 60, 61, 62]⟩])
.ret)))))))))) }
theorem c_palinodelaw19_known : cFunc Try.prog n_palinodelaw19_known = some f_palinodelaw19_known := by kernel_rfl
/-- palinode/rev.New -/
def f_rev_New : SFunc := { ntmps := 7, results := [.tmp 0], body :=
(.seq (.reg none [⟨some 0, .mv (.lit .nilp), none, []⟩])
(.seq (.reg none [⟨some 1, .mmap, none, []⟩,
 ⟨some 2, .bslc 1 [(.raw (.map none))] 1 [(0, 1, (.tmp 1))], none, [0]⟩,
 ⟨some 3, .mmap, none, []⟩,
 ⟨some 4, .mmap, none, []⟩,
 ⟨some 5, .build [.nils, (.int .i64 0), (.raw (.map none)), (.raw (.map none))] [(0, 1, (.tmp 2)), (2, 1, (.tmp 3)), (3, 1, (.tmp 4))], none, [1, 2, 3]⟩,
 ⟨some 6, .box (.tmp 5), none, [4]⟩,
 ⟨some 0, .mv (.tmp 6), none, [5, 0, 1, 2, 3, 4, 5]⟩])
.ret)) }
theorem c_rev_New : cFunc Try.prog n_rev_New = some f_rev_New := by kernel_rfl
/-- (*palinode/rev.Revs).Add -/
def f_rev_Revs_Add : SFunc := { ntmps := 44, results := [.tmp 4, .tmp 5], body :=
(.seq (.reg none [⟨some 4, .mv (.lit (.int .i64 0)), none, []⟩,
 ⟨some 5, .mv (.lit (.int .i64 0)), none, [0]⟩])
(.seq (.seq (.reg none [⟨some 11, .mv (.tmp 0), none, []⟩,
 ⟨some 12, .nilc (.tmp 11), none, [0]⟩,
 ⟨some 13, .fldA 3 (.tmp 12), none, [1]⟩,
 ⟨some 14, .load none (.tmp 13), none, [2]⟩,
 ⟨some 15, .mv (.tmp 1), none, []⟩,
 ⟨some 16, .look (.agg []) true (.tmp 14) (.tmp 15), none, [3, 4]⟩,
 ⟨some 10, .mv (.tmp 16), none, [5]⟩,
 ⟨some 17, .ext (.tmp 10) 0, none, [6]⟩,
 ⟨some 18, .ext (.tmp 10) 1, none, [6]⟩,
 ⟨some 6, .alloc [], none, []⟩,
 ⟨none, .store 0 (.tmp 6) (.tmp 17), none, [9, 7, 0, 1, 2, 3, 4, 5, 6, 7, 9]⟩,
 ⟨some 7, .mv (.tmp 18), none, [8, 10, 0, 1, 2, 3, 4, 5, 6, 7, 8, 9, 10]⟩])
(.seq (.reg none [⟨some 19, .mv (.tmp 7), none, []⟩,
 ⟨some 20, .mv (.tmp 19), none, [0]⟩,
 ⟨some 21, .mv (.tmp 1), some (20, false), [1]⟩,
 ⟨some 22, .bin .lss .int (.tmp 21) (.lit (.int .i64 0)), some (20, false), [2, 1]⟩,
 ⟨some 23, .pick (.tmp 20) (.lit (.bool true)) (.tmp 22), none, [1, 3]⟩,
 ⟨some 24, .mv (.tmp 23), none, [4, 1]⟩,
 ⟨some 25, .mv (.tmp 1), some (24, false), [5]⟩,
 ⟨some 26, .bin .geq .int (.tmp 25) (.lit (.int .i64 60)), some (24, false), [6, 5]⟩,
 ⟨some 27, .pick (.tmp 24) (.lit (.bool true)) (.tmp 26), none, [5, 7]⟩])
(.cond (.tmp 27) (.seq (.reg none [⟨some 4, .mv (.lit (.int .i64 0)), none, []⟩,
 ⟨some 5, .mv (.lit (.int .i64 210)), none, [0, 0]⟩])
.ret) .skip)))
(.seq (.seq (.reg none [⟨some 29, .mv (.tmp 0), none, []⟩,
 ⟨some 30, .call (.lit (.fn 27 [])) [(.tmp 29)], none, [0]⟩,
 ⟨some 28, .mv (.tmp 30), none, [1]⟩,
 ⟨some 31, .ext (.tmp 28) 0, none, [2]⟩,
 ⟨some 32, .ext (.tmp 28) 1, none, [2]⟩,
 ⟨some 8, .mv (.tmp 31), none, [3, 1, 0, 1, 2, 3]⟩,
 ⟨some 9, .mv (.tmp 32), none, [4, 5, 0, 1, 2, 3, 4, 5]⟩])
(.seq (.reg none [⟨some 33, .mv (.tmp 9), none, []⟩,
 ⟨some 34, .bin .neq .int (.tmp 33) (.lit (.int .i64 0)), none, [0]⟩])
(.cond (.tmp 34) (.seq (.reg none [⟨some 35, .mv (.tmp 9), none, []⟩,
 ⟨some 4, .mv (.lit (.int .i64 0)), none, []⟩,
 ⟨some 5, .mv (.tmp 35), none, [0, 1, 0, 1]⟩])
.ret) .skip)))
(.seq (.reg none [⟨some 36, .mv (.tmp 0), none, []⟩,
 ⟨some 37, .nilc (.tmp 36), none, [0]⟩,
 ⟨some 38, .fldA 2 (.tmp 37), none, [1]⟩,
 ⟨some 39, .load none (.tmp 38), none, [2]⟩,
 ⟨some 40, .mv (.tmp 1), none, []⟩,
 ⟨some 41, .build [] [], none, []⟩,
 ⟨none, .mapUp (.tmp 39) (.tmp 40) (.tmp 41), none, [3, 4, 5, 0, 1, 2, 3, 4, 5]⟩])
(.seq (.reg none [⟨some 42, .mv (.tmp 0), none, []⟩,
 ⟨some 43, .call (.lit (.fn 12 [])) [(.tmp 42)], none, [0]⟩,
 ⟨some 4, .mv (.tmp 43), none, [1, 1, 0, 1]⟩,
 ⟨some 5, .mv (.lit (.int .i64 0)), none, [2, 0, 1, 2]⟩])
.ret))))) }
theorem c_rev_Revs_Add : cFunc Try.prog n_rev_Revs_Add = some f_rev_Revs_Add := by kernel_rfl
/-- (*palinode/rev.Revs).Undone -/
def f_rev_Revs_Undone : SFunc := { ntmps := 22, results := [.tmp 4], body :=
(.seq (.reg none [⟨some 4, .mv (.lit .nils), none, []⟩])
(.seq (.seq (.reg none [⟨some 5, .mv (.tmp 0), none, []⟩,
 ⟨some 6, .mv (.tmp 1), none, []⟩,
 ⟨some 7, .call (.lit (.fn 18 [])) [(.tmp 5), (.tmp 6)], none, [0, 1]⟩,
 ⟨some 8, .not (.tmp 7), none, [2]⟩])
(.cond (.tmp 8) (.seq (.reg none [⟨some 4, .mv (.lit .nils), none, []⟩])
.ret) .skip))
(.seq (.reg (some [0, 1, 3, 7, 0, 0, 32, 96, 224, 496, 1023, 2047, 4095, 8191]) [⟨some 9, .mv (.tmp 0), none, []⟩,
 ⟨some 10, .nilc (.tmp 9), none, [0]⟩,
 ⟨some 11, .fldA 0 (.tmp 10), none, [1]⟩,
 ⟨some 12, .load none (.tmp 11), none, [2]⟩,
 ⟨some 13, .mv (.tmp 1), none, []⟩,
 ⟨some 14, .mv (.tmp 0), none, []⟩,
 ⟨some 15, .nilc (.tmp 14), none, [5]⟩,
 ⟨some 16, .fldA 1 (.tmp 15), none, [6]⟩,
 ⟨some 17, .load none (.tmp 16), none, [7]⟩,
 ⟨some 18, .bin .sub .int (.tmp 13) (.tmp 17), none, [4, 8]⟩,
 ⟨some 19, .idxA 1 (.tmp 12) (.tmp 18), none, [3, 9]⟩,
 ⟨some 20, .load none (.tmp 19), none, [10]⟩,
 ⟨some 21, .call (.lit (.fn 28 [])) [(.tmp 20)], none, [11]⟩,
 ⟨some 4, .mv (.tmp 21), none, [12, 12, 0, 1, 2, 3, 4, 5, 6, 7, 8, 9, 10, 11, 12]⟩])
.ret))) }
theorem c_rev_Revs_Undone : cFunc Try.prog n_rev_Revs_Undone = some f_rev_Revs_Undone := by kernel_rfl
/-- (*palinode/rev.Revs).Head -/
def f_rev_Revs_Head : SFunc := { ntmps := 14, results := [.tmp 2], body :=
(.seq (.reg none [⟨some 2, .mv (.lit (.int .i64 0)), none, []⟩])
(.seq (.reg (some [0, 1, 3, 7, 0, 16, 48, 112, 240, 511, 1023, 2047]) [⟨some 3, .mv (.tmp 0), none, []⟩,
 ⟨some 4, .nilc (.tmp 3), none, [0]⟩,
 ⟨some 5, .fldA 1 (.tmp 4), none, [1]⟩,
 ⟨some 6, .load none (.tmp 5), none, [2]⟩,
 ⟨some 7, .mv (.tmp 0), none, []⟩,
 ⟨some 8, .nilc (.tmp 7), none, [4]⟩,
 ⟨some 9, .fldA 0 (.tmp 8), none, [5]⟩,
 ⟨some 10, .load none (.tmp 9), none, [6]⟩,
 ⟨some 11, .len (.tmp 10), none, [7]⟩,
 ⟨some 12, .bin .add .int (.tmp 6) (.tmp 11), none, [3, 8]⟩,
 ⟨some 13, .bin .sub .int (.tmp 12) (.lit (.int .i64 1)), none, [9]⟩,
 ⟨some 2, .mv (.tmp 13), none, [10, 0, 1, 2, 3, 4, 5, 6, 7, 8, 9, 10]⟩])
.ret)) }
theorem c_rev_Revs_Head : cFunc Try.prog n_rev_Revs_Head = some f_rev_Revs_Head := by kernel_rfl
/-- (*palinode/rev.Revs).Toggle -/
def f_rev_Revs_Toggle : SFunc := { ntmps := 36, results := [.tmp 4, .tmp 5], body :=
(.seq (.reg none [⟨some 4, .mv (.lit (.int .i64 0)), none, []⟩,
 ⟨some 5, .mv (.lit (.int .i64 0)), none, [0]⟩])
(.seq (.seq (.reg none [⟨some 10, .mv (.tmp 0), none, []⟩,
 ⟨some 11, .mv (.tmp 1), none, []⟩,
 ⟨some 12, .call (.lit (.fn 29 [])) [(.tmp 10), (.tmp 11)], none, [0, 1]⟩,
 ⟨some 13, .not (.tmp 12), none, [2]⟩])
(.cond (.tmp 13) (.seq (.reg none [⟨some 4, .mv (.lit (.int .i64 0)), none, []⟩,
 ⟨some 5, .mv (.lit (.int .i64 210)), none, [0, 0]⟩])
.ret) .skip))
(.seq (.reg none [⟨some 15, .mv (.tmp 0), none, []⟩,
 ⟨some 16, .call (.lit (.fn 27 [])) [(.tmp 15)], none, [0]⟩,
 ⟨some 14, .mv (.tmp 16), none, [1]⟩,
 ⟨some 17, .ext (.tmp 14) 0, none, [2]⟩,
 ⟨some 18, .ext (.tmp 14) 1, none, [2]⟩,
 ⟨some 6, .mv (.tmp 17), none, [3, 1, 0, 1, 2, 3]⟩,
 ⟨some 7, .mv (.tmp 18), none, [4, 5, 0, 1, 2, 3, 4, 5]⟩])
(.seq (.seq (.reg none [⟨some 19, .mv (.tmp 7), none, []⟩,
 ⟨some 20, .bin .neq .int (.tmp 19) (.lit (.int .i64 0)), none, [0]⟩])
(.cond (.tmp 20) (.seq (.reg none [⟨some 21, .mv (.tmp 7), none, []⟩,
 ⟨some 4, .mv (.lit (.int .i64 0)), none, []⟩,
 ⟨some 5, .mv (.tmp 21), none, [0, 1, 0, 1]⟩])
.ret) .skip))
(.seq (.seq (.reg none [⟨some 23, .mv (.tmp 6), none, []⟩,
 ⟨some 24, .mv (.tmp 1), none, []⟩,
 ⟨some 25, .look (.agg []) true (.tmp 23) (.tmp 24), none, [0, 1]⟩,
 ⟨some 22, .mv (.tmp 25), none, [2]⟩,
 ⟨some 26, .ext (.tmp 22) 0, none, [3]⟩,
 ⟨some 27, .ext (.tmp 22) 1, none, [3]⟩,
 ⟨some 8, .alloc [], none, []⟩,
 ⟨none, .store 0 (.tmp 8) (.tmp 26), none, [6, 4, 0, 1, 2, 3, 4, 6]⟩,
 ⟨some 9, .mv (.tmp 27), none, [5, 7, 0, 1, 2, 3, 4, 5, 6, 7]⟩])
(.seq (.reg none [⟨some 28, .mv (.tmp 9), none, []⟩])
(.cond (.tmp 28) (.reg none [⟨some 29, .mv (.tmp 6), none, []⟩,
 ⟨some 30, .mv (.tmp 1), none, []⟩,
 ⟨none, .del (.tmp 29) (.tmp 30), none, [0, 1]⟩]) (.reg none [⟨some 31, .mv (.tmp 6), none, []⟩,
 ⟨some 32, .mv (.tmp 1), none, []⟩,
 ⟨some 33, .build [] [], none, []⟩,
 ⟨none, .mapUp (.tmp 31) (.tmp 32) (.tmp 33), none, [0, 1, 2, 0, 1, 2]⟩]))))
(.seq (.reg none [⟨some 34, .mv (.tmp 0), none, []⟩,
 ⟨some 35, .call (.lit (.fn 12 [])) [(.tmp 34)], none, [0]⟩,
 ⟨some 4, .mv (.tmp 35), none, [1, 1, 0, 1]⟩,
 ⟨some 5, .mv (.lit (.int .i64 0)), none, [2, 0, 1, 2]⟩])
.ret)))))) }
theorem c_rev_Revs_Toggle : cFunc Try.prog n_rev_Revs_Toggle = some f_rev_Revs_Toggle := by kernel_rfl
end Go.Proofs.Ytaakajfmbjjigaa.M
