/- Codes of the program's functions, compiled for the abstract machine; each compiled by the kernel's word. No condition. -/
import Derived.Test.YtihifhoemfpalaaFN
set_option maxRecDepth 100000
namespace Go.Proofs.Ytihifhoemfpalaa.M
open Go Go.Mini
/-- palinode/palinodelaw10.IntervalTells -/
def f_palinodelaw10_IntervalTells : SFunc := { ntmps := 106, results := [.tmp 8], body :=
(.seq (.reg none [⟨some 4, .box (.tmp 0), none, []⟩,
 ⟨some 5, .box (.tmp 1), none, []⟩,
 ⟨some 8, .mv (.lit (.bool false)), none, []⟩])
(.seq (.seq (.reg none [⟨some 11, .call (.lit (.fn 8 [])) [], none, []⟩,
 ⟨some 12, .not (.tmp 11), none, [0]⟩])
(.cond (.tmp 12) (.seq (.reg none [⟨some 8, .mv (.lit (.bool false)), none, []⟩])
.ret) .skip))
(.seq (.reg (some [0, 1, 0, 4, 15, 0, 32, 0, 128, 480, 31, 2047]) [⟨some 13, .fldA 0 (.tmp 4), none, []⟩,
 ⟨some 14, .load none (.tmp 13), none, [0]⟩,
 ⟨some 15, .fldA 0 (.tmp 5), none, []⟩,
 ⟨some 16, .load none (.tmp 15), none, [2]⟩,
 ⟨some 17, .maxs (.tmp 14) [(.tmp 16)], none, [1, 3]⟩,
 ⟨some 18, .fldA 1 (.tmp 4), none, []⟩,
 ⟨some 19, .load none (.tmp 18), none, [5]⟩,
 ⟨some 20, .fldA 1 (.tmp 5), none, []⟩,
 ⟨some 21, .load none (.tmp 20), none, [7]⟩,
 ⟨some 22, .mins (.tmp 19) [(.tmp 21)], none, [6, 8]⟩,
 ⟨some 9, .mv (.tmp 17), none, [4, 0, 1, 2, 3, 4]⟩,
 ⟨some 10, .mv (.tmp 22), none, [9, 10, 0, 1, 2, 3, 4, 5, 6, 7, 8, 9, 10]⟩])
(.seq (.seq (.reg none [⟨some 23, .mv (.tmp 10), none, []⟩,
 ⟨some 24, .mv (.tmp 9), none, []⟩,
 ⟨some 25, .bin .lss .int (.tmp 23) (.tmp 24), none, [0, 1]⟩])
(.cond (.tmp 25) (.reg none [⟨some 26, .mv (.tmp 9), none, []⟩,
 ⟨some 10, .mv (.tmp 26), none, [0, 0]⟩]) .skip))
(.seq (.reg (some [0, 0, 3, 0, 8, 24, 63, 127, 255, 127, 639, 2047, 4095, 8191, 16383, 32767, 16383, 131071, 262143, 524287, 1048575, 2097151, 2097151, 8388607, 2097151, 2097151, 52428799, 134217727, 268435455, 536870911, 1073741823, 1073741823, 4294967295, 1073741823, 9663676415, 1073741823, 35433480191, 129922760703, 274877906943, 549755813887, 1099511627775, 549755813887, 2748779069439, 8796093022207, 17592186044415, 35184372088831, 70368744177663, 140737488355327, 281474976710655, 281474976710655, 1125899906842623, 281474976710655, 2533274790395903, 281474976710655, 9288674231451647, 34058472181989375, 281474976710655, 72339069014638591, 281474976710655, 288511851128422399, 1081145385545629695, 2303872684376719359, 4611686018427387903, 9223372036854775807, 18446744073709551615, 36893488147419103231, 36893488147419103231, 147573952589676412927, 36893488147419103231, 332041393326771929087, 36893488147419103231, 2102928824402888884223, 36893488147419103231, 4759259971017064316927, 36893488147419103231, 33093458868234935599103, 75299609308882389696511, 151115727451828646838271, 302231454903657293676543, 604462909807314587353087]) [⟨some 27, .load (some 2) (.tmp 4), none, []⟩,
 ⟨some 28, .mv (.tmp 2), none, []⟩,
 ⟨some 29, .call (.lit (.fn 9 [])) [(.tmp 27), (.tmp 28)], none, [0, 1]⟩,
 ⟨some 30, .fldA 0 (.tmp 4), none, []⟩,
 ⟨some 31, .load none (.tmp 30), none, [3]⟩,
 ⟨some 32, .bin .leq .int (.lit (.int .i64 0)) (.tmp 31), none, [4]⟩,
 ⟨some 33, .mv (.tmp 32), none, [5, 2]⟩,
 ⟨some 34, .fldA 0 (.tmp 4), some (33, true), [6]⟩,
 ⟨some 35, .load none (.tmp 34), some (33, true), [7, 6]⟩,
 ⟨some 36, .fldA 1 (.tmp 4), some (33, true), [6]⟩,
 ⟨some 37, .load none (.tmp 36), some (33, true), [9, 6]⟩,
 ⟨some 38, .bin .leq .int (.tmp 35) (.tmp 37), some (33, true), [8, 10, 6]⟩,
 ⟨some 39, .pick (.tmp 33) (.tmp 38) (.lit (.bool false)), none, [6, 11]⟩,
 ⟨some 40, .mv (.tmp 39), none, [12, 6]⟩,
 ⟨some 41, .fldA 1 (.tmp 4), some (40, true), [13]⟩,
 ⟨some 42, .load none (.tmp 41), some (40, true), [14, 13]⟩,
 ⟨some 43, .mv (.tmp 2), some (40, true), [13]⟩,
 ⟨some 44, .bin .leq .int (.tmp 42) (.tmp 43), some (40, true), [15, 16, 13]⟩,
 ⟨some 45, .pick (.tmp 40) (.tmp 44) (.lit (.bool false)), none, [13, 17]⟩,
 ⟨some 46, .bin .eql .bool (.tmp 29) (.tmp 45), none, [2, 18]⟩,
 ⟨some 47, .mv (.tmp 46), none, [19, 13]⟩,
 ⟨some 48, .load (some 2) (.tmp 4), some (47, true), [20]⟩,
 ⟨some 49, .load (some 2) (.tmp 5), some (47, true), [20]⟩,
 ⟨some 50, .call (.lit (.fn 10 [])) [(.tmp 48), (.tmp 49)], some (47, true), [21, 22, 20, 20]⟩,
 ⟨some 51, .mv (.tmp 9), some (47, true), [20]⟩,
 ⟨some 52, .mv (.tmp 10), some (47, true), [20]⟩,
 ⟨some 53, .build [(.int .i64 0), (.int .i64 0)] [(0, 1, (.tmp 51)), (1, 1, (.tmp 52))], some (47, true), [24, 25, 20]⟩,
 ⟨some 54, .bin .eql (.flat [.int, .int]) (.tmp 50) (.tmp 53), some (47, true), [23, 26, 20]⟩,
 ⟨some 55, .pick (.tmp 47) (.tmp 54) (.lit (.bool false)), none, [20, 27]⟩,
 ⟨some 56, .mv (.tmp 55), none, [28, 23]⟩,
 ⟨some 57, .load (some 2) (.tmp 4), some (56, true), [29]⟩,
 ⟨some 58, .load (some 2) (.tmp 5), some (56, true), [29]⟩,
 ⟨some 59, .call (.lit (.fn 11 [])) [(.tmp 57), (.tmp 58)], some (56, true), [30, 31, 29, 29]⟩,
 ⟨some 60, .fldA 1 (.tmp 4), some (56, true), [29]⟩,
 ⟨some 61, .load none (.tmp 60), some (56, true), [33, 29]⟩,
 ⟨some 62, .fldA 0 (.tmp 5), some (56, true), [29]⟩,
 ⟨some 63, .load none (.tmp 62), some (56, true), [35, 29]⟩,
 ⟨some 64, .bin .geq .int (.tmp 61) (.tmp 63), some (56, true), [34, 36, 29]⟩,
 ⟨some 65, .mv (.tmp 64), some (56, true), [37, 32, 29]⟩,
 ⟨some 66, .fldA 1 (.tmp 5), some (65, true), [38]⟩,
 ⟨some 67, .load none (.tmp 66), some (65, true), [39, 38]⟩,
 ⟨some 68, .fldA 0 (.tmp 4), some (65, true), [38]⟩,
 ⟨some 69, .load none (.tmp 68), some (65, true), [41, 38]⟩,
 ⟨some 70, .bin .geq .int (.tmp 67) (.tmp 69), some (65, true), [40, 42, 38]⟩,
 ⟨some 71, .pick (.tmp 65) (.tmp 70) (.lit (.bool false)), some (56, true), [38, 43, 29]⟩,
 ⟨some 72, .bin .eql .bool (.tmp 59) (.tmp 71), some (56, true), [32, 44, 29]⟩,
 ⟨some 73, .pick (.tmp 56) (.tmp 72) (.lit (.bool false)), none, [29, 45]⟩,
 ⟨some 74, .mv (.tmp 73), none, [46, 38]⟩,
 ⟨some 75, .load (some 2) (.tmp 4), some (74, true), [47]⟩,
 ⟨some 76, .load (some 2) (.tmp 5), some (74, true), [47]⟩,
 ⟨some 77, .call (.lit (.fn 12 [])) [(.tmp 75), (.tmp 76)], some (74, true), [48, 49, 47, 47]⟩,
 ⟨some 78, .fldA 0 (.tmp 4), some (74, true), [47]⟩,
 ⟨some 79, .load none (.tmp 78), some (74, true), [51, 47]⟩,
 ⟨some 80, .fldA 0 (.tmp 5), some (74, true), [47]⟩,
 ⟨some 81, .load none (.tmp 80), some (74, true), [53, 47]⟩,
 ⟨some 82, .mins (.tmp 79) [(.tmp 81)], some (74, true), [52, 54, 47]⟩,
 ⟨some 83, .fldA 1 (.tmp 4), some (74, true), [47]⟩,
 ⟨some 84, .load none (.tmp 83), some (74, true), [56, 47]⟩,
 ⟨some 85, .fldA 1 (.tmp 5), some (74, true), [47]⟩,
 ⟨some 86, .load none (.tmp 85), some (74, true), [58, 47]⟩,
 ⟨some 87, .maxs (.tmp 84) [(.tmp 86)], some (74, true), [57, 59, 47]⟩,
 ⟨some 88, .build [(.int .i64 0), (.int .i64 0)] [(0, 1, (.tmp 82)), (1, 1, (.tmp 87))], some (74, true), [55, 60, 47]⟩,
 ⟨some 89, .bin .eql (.flat [.int, .int]) (.tmp 77) (.tmp 88), some (74, true), [50, 61, 47]⟩,
 ⟨some 90, .pick (.tmp 74) (.tmp 89) (.lit (.bool false)), none, [47, 62]⟩,
 ⟨some 91, .mv (.tmp 90), none, [63, 50]⟩,
 ⟨some 92, .load (some 2) (.tmp 4), some (91, true), [64]⟩,
 ⟨some 93, .mv (.tmp 3), some (91, true), [64]⟩,
 ⟨some 94, .call (.lit (.fn 13 [])) [(.tmp 92), (.tmp 93)], some (91, true), [65, 66, 64, 64]⟩,
 ⟨some 95, .fldA 0 (.tmp 4), some (91, true), [64]⟩,
 ⟨some 96, .load none (.tmp 95), some (91, true), [68, 64]⟩,
 ⟨some 97, .mv (.tmp 3), some (91, true), [64]⟩,
 ⟨some 98, .bin .add .int (.tmp 96) (.tmp 97), some (91, true), [69, 70, 64]⟩,
 ⟨some 99, .fldA 1 (.tmp 4), some (91, true), [64]⟩,
 ⟨some 100, .load none (.tmp 99), some (91, true), [72, 64]⟩,
 ⟨some 101, .mv (.tmp 3), some (91, true), [64]⟩,
 ⟨some 102, .bin .add .int (.tmp 100) (.tmp 101), some (91, true), [73, 74, 64]⟩,
 ⟨some 103, .build [(.int .i64 0), (.int .i64 0)] [(0, 1, (.tmp 98)), (1, 1, (.tmp 102))], some (91, true), [71, 75, 64]⟩,
 ⟨some 104, .bin .eql (.flat [.int, .int]) (.tmp 94) (.tmp 103), some (91, true), [67, 76, 64]⟩,
 ⟨some 105, .pick (.tmp 91) (.tmp 104) (.lit (.bool false)), none, [64, 77]⟩,
 ⟨some 8, .mv (.tmp 105), none, [78, 67, 0, 1, 2, 3, 4, 5, 6, 7, 8, 9, 10, 11, 12, 13, 14, 15, 16, 17, 18, 19, 20, 21, 22, 23, 24, 25, 26, 27, 28, 29, 30, 31, 32, 33, 34, 35, 36, 37, 38, 39, 40, 41, 42, 43, 44, 45, 46, 47, 48, 49, 50, 51, 52, 53, 54, 55, 56, 57, 58, 59, 60, 61, 62, 63, 64, 65, 66, 67, 68, 69, 70, 71, 72, 73, 74, 75, 76, 77, 78]⟩])
.ret))))) }
theorem c_palinodelaw10_IntervalTells : cFunc Try.prog n_palinodelaw10_IntervalTells = some f_palinodelaw10_IntervalTells := by kernel_rfl
/-- palinode/palinodelaw10.IntervalMerges -/
def f_palinodelaw10_IntervalMerges : SFunc := { ntmps := 118, results := [.tmp 2], body :=
(.seq (.reg none [⟨some 2, .mv (.lit (.bool false)), none, []⟩])
(.seq (.seq (.reg none [⟨some 10, .call (.lit (.fn 8 [])) [], none, []⟩,
 ⟨some 11, .not (.tmp 10), none, [0]⟩])
(.cond (.tmp 11) (.seq (.reg none [⟨some 2, .mv (.lit (.bool false)), none, []⟩])
.ret) .skip))
(.seq (.seq (.reg none [⟨some 12, .mv (.tmp 0), none, []⟩,
 ⟨some 13, .len (.tmp 12), none, [0]⟩,
 ⟨some 14, .bin .gtr .int (.tmp 13) (.lit (.int .i64 40)), none, [1]⟩])
(.cond (.tmp 14) (.seq (.reg none [⟨some 2, .mv (.lit (.bool true)), none, []⟩])
.ret) .skip))
(.seq (.reg none [⟨some 3, .alloc (bitRow 100 (fun _ => false)), none, []⟩])
(.seq (.seq (.reg none [⟨some 4, .mv (.lit (.int .i64 0)), none, []⟩])
(.block 0 (.loop (.seq (.seq (.reg none [⟨some 15, .mv (.tmp 4), none, []⟩,
 ⟨some 16, .mv (.tmp 0), none, []⟩,
 ⟨some 17, .len (.tmp 16), none, [1]⟩,
 ⟨some 18, .bin .lss .int (.tmp 15) (.tmp 17), none, [0, 2]⟩])
(.cond (.tmp 18) .skip (.exit 0)))
(.seq (.block 1 (.seq (.seq (.reg none [⟨some 21, .mv (.tmp 0), none, []⟩,
 ⟨some 22, .mv (.tmp 4), none, []⟩,
 ⟨some 23, .idxA 2 (.tmp 21) (.tmp 22), none, [0, 1]⟩,
 ⟨some 24, .fldA 0 (.tmp 23), none, [2]⟩,
 ⟨some 25, .load none (.tmp 24), none, [3]⟩,
 ⟨some 26, .bin .lss .int (.tmp 25) (.lit (.int .i64 0)), none, [4]⟩,
 ⟨some 27, .mv (.tmp 26), none, [5]⟩,
 ⟨some 28, .mv (.tmp 0), some (27, false), [6]⟩,
 ⟨some 29, .mv (.tmp 4), some (27, false), [6]⟩,
 ⟨some 30, .idxA 2 (.tmp 28) (.tmp 29), some (27, false), [7, 8, 6]⟩,
 ⟨some 31, .fldA 1 (.tmp 30), some (27, false), [9, 6]⟩,
 ⟨some 32, .load none (.tmp 31), some (27, false), [10, 6]⟩,
 ⟨some 33, .bin .gtr .int (.tmp 32) (.lit (.int .i64 99)), some (27, false), [11, 6]⟩,
 ⟨some 34, .pick (.tmp 27) (.lit (.bool true)) (.tmp 33), none, [6, 12]⟩])
(.cond (.tmp 34) (.seq (.reg none [⟨some 2, .mv (.lit (.bool true)), none, []⟩])
.ret) .skip))
(.seq (.reg none [⟨some 35, .mv (.tmp 0), none, []⟩,
 ⟨some 36, .mv (.tmp 4), none, []⟩,
 ⟨some 37, .idxA 2 (.tmp 35) (.tmp 36), none, [0, 1]⟩,
 ⟨some 38, .fldA 0 (.tmp 37), none, [2]⟩,
 ⟨some 39, .load none (.tmp 38), none, [3]⟩,
 ⟨some 5, .mv (.tmp 39), none, [4, 0, 1, 2, 3, 4]⟩])
(.block 2 (.loop (.seq (.seq (.reg none [⟨some 40, .mv (.tmp 5), none, []⟩,
 ⟨some 41, .mv (.tmp 0), none, []⟩,
 ⟨some 42, .mv (.tmp 4), none, []⟩,
 ⟨some 43, .idxA 2 (.tmp 41) (.tmp 42), none, [1, 2]⟩,
 ⟨some 44, .fldA 1 (.tmp 43), none, [3]⟩,
 ⟨some 45, .load none (.tmp 44), none, [4]⟩,
 ⟨some 46, .bin .lss .int (.tmp 40) (.tmp 45), none, [0, 5]⟩])
(.cond (.tmp 46) .skip (.exit 2)))
(.seq (.block 3 (.reg none [⟨some 49, .mv (.tmp 5), none, []⟩,
 ⟨some 50, .idxR 100 1 (.tmp 3) (.tmp 49), none, [0, 0]⟩,
 ⟨none, .store 1 (.tmp 50) (.lit (.bool true)), none, [1, 0]⟩]))
(.reg none [⟨some 47, .mv (.tmp 5), none, []⟩,
 ⟨some 48, .bin .add .int (.tmp 47) (.lit (.int .i64 1)), none, [0]⟩,
 ⟨some 5, .mv (.tmp 48), none, [1, 0, 1]⟩]))))))))
(.reg none [⟨some 19, .mv (.tmp 4), none, []⟩,
 ⟨some 20, .bin .add .int (.tmp 19) (.lit (.int .i64 1)), none, [0]⟩,
 ⟨some 4, .mv (.tmp 20), none, [1, 0, 1]⟩]))))))
(.seq (.reg none [⟨some 51, .mv (.tmp 0), none, []⟩,
 ⟨some 52, .call (.lit (.fn 14 [])) [(.tmp 51)], none, [0]⟩,
 ⟨some 6, .mv (.tmp 52), none, [1, 1, 0, 1]⟩])
(.seq (.seq (.reg none [⟨some 7, .mv (.lit (.int .i64 0)), none, []⟩])
(.block 4 (.loop (.seq (.seq (.reg none [⟨some 53, .mv (.tmp 7), none, []⟩,
 ⟨some 54, .mv (.tmp 6), none, []⟩,
 ⟨some 55, .len (.tmp 54), none, [1]⟩,
 ⟨some 56, .bin .lss .int (.tmp 53) (.tmp 55), none, [0, 2]⟩])
(.cond (.tmp 56) .skip (.exit 4)))
(.seq (.block 5 (.seq (.seq (.reg (some [0, 0, 3, 7, 15, 0, 0, 96, 224, 480, 1023, 2047, 4095, 8191, 16383, 32767, 32767, 131071, 262143, 524287, 32767, 32767, 2129919, 7372799, 15761407, 32538623, 67108863, 134217727, 268435455]) [⟨some 59, .mv (.tmp 6), none, []⟩,
 ⟨some 60, .mv (.tmp 7), none, []⟩,
 ⟨some 61, .idxA 2 (.tmp 59) (.tmp 60), none, [0, 1]⟩,
 ⟨some 62, .fldA 1 (.tmp 61), none, [2]⟩,
 ⟨some 63, .load none (.tmp 62), none, [3]⟩,
 ⟨some 64, .mv (.tmp 6), none, []⟩,
 ⟨some 65, .mv (.tmp 7), none, []⟩,
 ⟨some 66, .idxA 2 (.tmp 64) (.tmp 65), none, [5, 6]⟩,
 ⟨some 67, .fldA 0 (.tmp 66), none, [7]⟩,
 ⟨some 68, .load none (.tmp 67), none, [8]⟩,
 ⟨some 69, .bin .lss .int (.tmp 63) (.tmp 68), none, [4, 9]⟩,
 ⟨some 70, .mv (.tmp 69), none, [10]⟩,
 ⟨some 71, .mv (.tmp 7), some (70, false), [11]⟩,
 ⟨some 72, .bin .gtr .int (.tmp 71) (.lit (.int .i64 0)), some (70, false), [12, 11]⟩,
 ⟨some 73, .mv (.tmp 72), some (70, false), [13, 11, 11]⟩,
 ⟨some 74, .mv (.tmp 6), some (73, true), [14]⟩,
 ⟨some 75, .mv (.tmp 7), some (73, true), [14]⟩,
 ⟨some 76, .idxA 2 (.tmp 74) (.tmp 75), some (73, true), [15, 16, 14]⟩,
 ⟨some 77, .fldA 0 (.tmp 76), some (73, true), [17, 14]⟩,
 ⟨some 78, .load none (.tmp 77), some (73, true), [18, 14]⟩,
 ⟨some 79, .mv (.tmp 6), some (73, true), [14]⟩,
 ⟨some 80, .mv (.tmp 7), some (73, true), [14]⟩,
 ⟨some 81, .bin .sub .int (.tmp 80) (.lit (.int .i64 1)), some (73, true), [21, 14]⟩,
 ⟨some 82, .idxA 2 (.tmp 79) (.tmp 81), some (73, true), [20, 22, 14]⟩,
 ⟨some 83, .fldA 1 (.tmp 82), some (73, true), [23, 14]⟩,
 ⟨some 84, .load none (.tmp 83), some (73, true), [24, 14]⟩,
 ⟨some 85, .bin .leq .int (.tmp 78) (.tmp 84), some (73, true), [19, 25, 14]⟩,
 ⟨some 86, .pick (.tmp 73) (.tmp 85) (.lit (.bool false)), some (70, false), [14, 26, 11]⟩,
 ⟨some 87, .pick (.tmp 70) (.lit (.bool true)) (.tmp 86), none, [11, 27]⟩])
(.cond (.tmp 87) (.seq (.reg none [⟨some 2, .mv (.lit (.bool false)), none, []⟩])
.ret) .skip))
(.seq (.reg none [⟨some 88, .mv (.tmp 6), none, []⟩,
 ⟨some 89, .mv (.tmp 7), none, []⟩,
 ⟨some 90, .idxA 2 (.tmp 88) (.tmp 89), none, [0, 1]⟩,
 ⟨some 91, .fldA 0 (.tmp 90), none, [2]⟩,
 ⟨some 92, .load none (.tmp 91), none, [3]⟩,
 ⟨some 8, .mv (.tmp 92), none, [4, 0, 1, 2, 3, 4]⟩])
(.block 6 (.loop (.seq (.seq (.reg none [⟨some 93, .mv (.tmp 8), none, []⟩,
 ⟨some 94, .mv (.tmp 6), none, []⟩,
 ⟨some 95, .mv (.tmp 7), none, []⟩,
 ⟨some 96, .idxA 2 (.tmp 94) (.tmp 95), none, [1, 2]⟩,
 ⟨some 97, .fldA 1 (.tmp 96), none, [3]⟩,
 ⟨some 98, .load none (.tmp 97), none, [4]⟩,
 ⟨some 99, .bin .lss .int (.tmp 93) (.tmp 98), none, [0, 5]⟩])
(.cond (.tmp 99) .skip (.exit 6)))
(.seq (.block 7 (.seq (.seq (.reg none [⟨some 102, .mv (.tmp 8), none, []⟩,
 ⟨some 103, .idxR 100 1 (.tmp 3) (.tmp 102), none, [0]⟩,
 ⟨some 104, .load none (.tmp 103), none, [1]⟩,
 ⟨some 105, .not (.tmp 104), none, [2]⟩])
(.cond (.tmp 105) (.seq (.reg none [⟨some 2, .mv (.lit (.bool false)), none, []⟩])
.ret) .skip))
(.reg none [⟨some 106, .mv (.tmp 8), none, []⟩,
 ⟨some 107, .idxR 100 1 (.tmp 3) (.tmp 106), none, [0, 0]⟩,
 ⟨none, .store 1 (.tmp 107) (.lit (.bool false)), none, [1, 0]⟩])))
(.reg none [⟨some 100, .mv (.tmp 8), none, []⟩,
 ⟨some 101, .bin .add .int (.tmp 100) (.lit (.int .i64 1)), none, [0]⟩,
 ⟨some 8, .mv (.tmp 101), none, [1, 0, 1]⟩]))))))))
(.reg none [⟨some 57, .mv (.tmp 7), none, []⟩,
 ⟨some 58, .bin .add .int (.tmp 57) (.lit (.int .i64 1)), none, [0]⟩,
 ⟨some 7, .mv (.tmp 58), none, [1, 0, 1]⟩]))))))
(.seq (.seq (.reg none [⟨some 9, .mv (.lit (.int .i64 0)), none, []⟩])
(.block 8 (.loop (.seq (.seq (.reg none [⟨some 108, .mv (.tmp 9), none, []⟩,
 ⟨some 109, .bin .lss .int (.tmp 108) (.lit (.int .i64 100)), none, [0]⟩])
(.cond (.tmp 109) .skip (.exit 8)))
(.seq (.block 9 (.seq (.reg none [⟨some 112, .mv (.tmp 9), none, []⟩,
 ⟨some 113, .idxR 100 1 (.tmp 3) (.tmp 112), none, [0]⟩,
 ⟨some 114, .load none (.tmp 113), none, [1]⟩])
(.cond (.tmp 114) (.seq (.reg none [⟨some 2, .mv (.lit (.bool false)), none, []⟩])
.ret) .skip)))
(.reg none [⟨some 110, .mv (.tmp 9), none, []⟩,
 ⟨some 111, .bin .add .int (.tmp 110) (.lit (.int .i64 1)), none, [0]⟩,
 ⟨some 9, .mv (.tmp 111), none, [1, 0, 1]⟩]))))))
(.seq (.reg none [⟨some 115, .mv (.tmp 0), none, []⟩,
 ⟨some 116, .mv (.tmp 6), none, []⟩,
 ⟨some 117, .call (.lit (.fn 15 [])) [(.tmp 115), (.tmp 116)], none, [0, 1]⟩,
 ⟨some 2, .mv (.tmp 117), none, [2, 2, 0, 1, 2]⟩])
.ret))))))))) }
theorem c_palinodelaw10_IntervalMerges : cFunc Try.prog n_palinodelaw10_IntervalMerges = some f_palinodelaw10_IntervalMerges := by kernel_rfl
/-- palinode/palinodelaw10.IntervalTwice -/
def f_palinodelaw10_IntervalTwice : SFunc := { ntmps := 79, results := [.tmp 4], body :=
(.seq (.reg none [⟨some 4, .mv (.lit (.bool false)), none, []⟩])
(.seq (.seq (.reg none [⟨some 11, .call (.lit (.fn 8 [])) [], none, []⟩,
 ⟨some 12, .not (.tmp 11), none, [0]⟩])
(.cond (.tmp 12) (.seq (.reg none [⟨some 4, .mv (.lit (.bool false)), none, []⟩])
.ret) .skip))
(.seq (.seq (.reg none [⟨some 13, .mv (.tmp 0), none, []⟩,
 ⟨some 14, .len (.tmp 13), none, [0]⟩,
 ⟨some 15, .bin .gtr .int (.tmp 14) (.lit (.int .i64 40)), none, [1]⟩])
(.cond (.tmp 15) (.seq (.reg none [⟨some 4, .mv (.lit (.bool true)), none, []⟩])
.ret) .skip))
(.seq (.reg none [⟨some 5, .mv (.lit .nils), none, []⟩])
(.seq (.seq (.reg none [⟨some 6, .mv (.lit (.int .i64 0)), none, []⟩])
(.block 0 (.loop (.seq (.seq (.reg none [⟨some 16, .mv (.tmp 6), none, []⟩,
 ⟨some 17, .mv (.tmp 0), none, []⟩,
 ⟨some 18, .len (.tmp 17), none, [1]⟩,
 ⟨some 19, .bin .lss .int (.tmp 16) (.tmp 18), none, [0, 2]⟩])
(.cond (.tmp 19) .skip (.exit 0)))
(.seq (.block 1 (.reg none [⟨some 22, .mv (.tmp 5), none, []⟩,
 ⟨some 23, .mv (.tmp 0), none, []⟩,
 ⟨some 24, .mv (.tmp 6), none, []⟩,
 ⟨some 25, .mv (.tmp 1), none, []⟩,
 ⟨some 26, .cint .i64 (.tmp 25), none, [3]⟩,
 ⟨some 27, .bin .add .int (.tmp 24) (.tmp 26), none, [2, 4]⟩,
 ⟨some 28, .mv (.tmp 0), none, []⟩,
 ⟨some 29, .len (.tmp 28), none, [6]⟩,
 ⟨some 30, .bin .rem .int (.tmp 27) (.tmp 29), none, [5, 7]⟩,
 ⟨some 31, .idxA 2 (.tmp 23) (.tmp 30), none, [1, 8]⟩,
 ⟨some 32, .load (some 2) (.tmp 31), none, [9]⟩,
 ⟨some 33, .bslc 2 [(.int .i64 0), (.int .i64 0)] 1 [(0, 2, (.tmp 32))], none, [10]⟩,
 ⟨some 34, .app 23 2 16 (.tmp 22) (.tmp 33), none, [0, 11]⟩,
 ⟨some 5, .mv (.tmp 34), none, [12, 12, 0, 1, 2, 3, 4, 5, 6, 7, 8, 9, 10, 11, 12]⟩]))
(.reg none [⟨some 20, .mv (.tmp 6), none, []⟩,
 ⟨some 21, .bin .add .int (.tmp 20) (.lit (.int .i64 1)), none, [0]⟩,
 ⟨some 6, .mv (.tmp 21), none, [1, 0, 1]⟩]))))))
(.seq (.reg none [⟨some 35, .mv (.tmp 0), none, []⟩,
 ⟨some 36, .call (.lit (.fn 14 [])) [(.tmp 35)], none, [0]⟩,
 ⟨some 37, .mv (.tmp 5), none, []⟩,
 ⟨some 38, .call (.lit (.fn 14 [])) [(.tmp 37)], none, [2, 1]⟩,
 ⟨some 7, .mv (.tmp 36), none, [1, 3, 0, 1]⟩,
 ⟨some 8, .mv (.tmp 38), none, [3, 4, 0, 1, 2, 3, 4]⟩])
(.seq (.reg none [⟨some 39, .mv (.tmp 7), none, []⟩,
 ⟨some 40, .call (.lit (.fn 14 [])) [(.tmp 39)], none, [0]⟩,
 ⟨some 9, .mv (.tmp 40), none, [1, 1, 0, 1]⟩])
(.seq (.seq (.reg none [⟨some 41, .mv (.tmp 7), none, []⟩,
 ⟨some 42, .len (.tmp 41), none, [0]⟩,
 ⟨some 43, .mv (.tmp 8), none, []⟩,
 ⟨some 44, .len (.tmp 43), none, [2]⟩,
 ⟨some 45, .bin .neq .int (.tmp 42) (.tmp 44), none, [1, 3]⟩,
 ⟨some 46, .mv (.tmp 45), none, [4]⟩,
 ⟨some 47, .mv (.tmp 7), some (46, false), [5]⟩,
 ⟨some 48, .len (.tmp 47), some (46, false), [6, 5]⟩,
 ⟨some 49, .mv (.tmp 9), some (46, false), [5]⟩,
 ⟨some 50, .len (.tmp 49), some (46, false), [8, 5]⟩,
 ⟨some 51, .bin .neq .int (.tmp 48) (.tmp 50), some (46, false), [7, 9, 5]⟩,
 ⟨some 52, .pick (.tmp 46) (.lit (.bool true)) (.tmp 51), none, [5, 10]⟩])
(.cond (.tmp 52) (.seq (.reg none [⟨some 4, .mv (.lit (.bool false)), none, []⟩])
.ret) .skip))
(.seq (.seq (.reg none [⟨some 10, .mv (.lit (.int .i64 0)), none, []⟩])
(.block 2 (.loop (.seq (.seq (.reg none [⟨some 53, .mv (.tmp 10), none, []⟩,
 ⟨some 54, .mv (.tmp 7), none, []⟩,
 ⟨some 55, .len (.tmp 54), none, [1]⟩,
 ⟨some 56, .bin .lss .int (.tmp 53) (.tmp 55), none, [0, 2]⟩])
(.cond (.tmp 56) .skip (.exit 2)))
(.seq (.block 3 (.seq (.reg (some [0, 0, 3, 7, 0, 0, 48, 112, 255, 511, 1023, 1023, 4095, 8191, 1023, 1023, 50175, 115711, 262143, 524287]) [⟨some 59, .mv (.tmp 7), none, []⟩,
 ⟨some 60, .mv (.tmp 10), none, []⟩,
 ⟨some 61, .idxA 2 (.tmp 59) (.tmp 60), none, [0, 1]⟩,
 ⟨some 62, .load (some 2) (.tmp 61), none, [2]⟩,
 ⟨some 63, .mv (.tmp 8), none, []⟩,
 ⟨some 64, .mv (.tmp 10), none, []⟩,
 ⟨some 65, .idxA 2 (.tmp 63) (.tmp 64), none, [4, 5]⟩,
 ⟨some 66, .load (some 2) (.tmp 65), none, [6]⟩,
 ⟨some 67, .bin .neq (.flat [.int, .int]) (.tmp 62) (.tmp 66), none, [3, 7]⟩,
 ⟨some 68, .mv (.tmp 67), none, [8]⟩,
 ⟨some 69, .mv (.tmp 7), some (68, false), [9]⟩,
 ⟨some 70, .mv (.tmp 10), some (68, false), [9]⟩,
 ⟨some 71, .idxA 2 (.tmp 69) (.tmp 70), some (68, false), [10, 11, 9]⟩,
 ⟨some 72, .load (some 2) (.tmp 71), some (68, false), [12, 9]⟩,
 ⟨some 73, .mv (.tmp 9), some (68, false), [9]⟩,
 ⟨some 74, .mv (.tmp 10), some (68, false), [9]⟩,
 ⟨some 75, .idxA 2 (.tmp 73) (.tmp 74), some (68, false), [14, 15, 9]⟩,
 ⟨some 76, .load (some 2) (.tmp 75), some (68, false), [16, 9]⟩,
 ⟨some 77, .bin .neq (.flat [.int, .int]) (.tmp 72) (.tmp 76), some (68, false), [13, 17, 9]⟩,
 ⟨some 78, .pick (.tmp 68) (.lit (.bool true)) (.tmp 77), none, [9, 18]⟩])
(.cond (.tmp 78) (.seq (.reg none [⟨some 4, .mv (.lit (.bool false)), none, []⟩])
.ret) .skip)))
(.reg none [⟨some 57, .mv (.tmp 10), none, []⟩,
 ⟨some 58, .bin .add .int (.tmp 57) (.lit (.int .i64 1)), none, [0]⟩,
 ⟨some 10, .mv (.tmp 58), none, [1, 0, 1]⟩]))))))
(.seq (.reg none [⟨some 4, .mv (.lit (.bool true)), none, []⟩])
.ret)))))))))) }
theorem c_palinodelaw10_IntervalTwice : cFunc Try.prog n_palinodelaw10_IntervalTwice = some f_palinodelaw10_IntervalTwice := by kernel_rfl
/-- palinode/palinodelaw10.IntervalLaws -/
def f_palinodelaw10_IntervalLaws : SFunc := { ntmps := 136, results := [.tmp 6], body :=
(.seq (.reg none [⟨some 3, .box (.tmp 0), none, []⟩,
 ⟨some 4, .box (.tmp 1), none, []⟩,
 ⟨some 6, .mv (.lit (.bool false)), none, []⟩])
(.seq (.seq (.reg none [⟨some 10, .call (.lit (.fn 8 [])) [], none, []⟩,
 ⟨some 11, .not (.tmp 10), none, [0]⟩])
(.cond (.tmp 11) (.seq (.reg none [⟨some 6, .mv (.lit (.bool false)), none, []⟩])
.ret) .skip))
(.seq (.seq (.reg none [⟨some 12, .fldA 0 (.tmp 3), none, []⟩,
 ⟨some 13, .load none (.tmp 12), none, [0]⟩,
 ⟨some 14, .fldA 1 (.tmp 3), none, []⟩,
 ⟨some 15, .load none (.tmp 14), none, [2]⟩,
 ⟨some 16, .bin .gtr .int (.tmp 13) (.tmp 15), none, [1, 3]⟩,
 ⟨some 17, .mv (.tmp 16), none, [4]⟩,
 ⟨some 18, .fldA 0 (.tmp 4), some (17, false), [5]⟩,
 ⟨some 19, .load none (.tmp 18), some (17, false), [6, 5]⟩,
 ⟨some 20, .fldA 1 (.tmp 4), some (17, false), [5]⟩,
 ⟨some 21, .load none (.tmp 20), some (17, false), [8, 5]⟩,
 ⟨some 22, .bin .gtr .int (.tmp 19) (.tmp 21), some (17, false), [7, 9, 5]⟩,
 ⟨some 23, .pick (.tmp 17) (.lit (.bool true)) (.tmp 22), none, [5, 10]⟩,
 ⟨some 24, .mv (.tmp 23), none, [11, 5]⟩,
 ⟨some 25, .fldA 0 (.tmp 3), some (24, false), [12]⟩,
 ⟨some 26, .load none (.tmp 25), some (24, false), [13, 12]⟩,
 ⟨some 27, .bin .lss .int (.tmp 26) (.lit (.int .i64 (-100000))), some (24, false), [14, 12]⟩,
 ⟨some 28, .pick (.tmp 24) (.lit (.bool true)) (.tmp 27), none, [12, 15]⟩,
 ⟨some 29, .mv (.tmp 28), none, [16, 12]⟩,
 ⟨some 30, .fldA 0 (.tmp 4), some (29, false), [17]⟩,
 ⟨some 31, .load none (.tmp 30), some (29, false), [18, 17]⟩,
 ⟨some 32, .bin .lss .int (.tmp 31) (.lit (.int .i64 (-100000))), some (29, false), [19, 17]⟩,
 ⟨some 33, .pick (.tmp 29) (.lit (.bool true)) (.tmp 32), none, [17, 20]⟩,
 ⟨some 34, .mv (.tmp 33), none, [21, 17]⟩,
 ⟨some 35, .fldA 1 (.tmp 3), some (34, false), [22]⟩,
 ⟨some 36, .load none (.tmp 35), some (34, false), [23, 22]⟩,
 ⟨some 37, .bin .gtr .int (.tmp 36) (.lit (.int .i64 100000)), some (34, false), [24, 22]⟩,
 ⟨some 38, .pick (.tmp 34) (.lit (.bool true)) (.tmp 37), none, [22, 25]⟩,
 ⟨some 39, .mv (.tmp 38), none, [26, 22]⟩,
 ⟨some 40, .fldA 1 (.tmp 4), some (39, false), [27]⟩,
 ⟨some 41, .load none (.tmp 40), some (39, false), [28, 27]⟩,
 ⟨some 42, .bin .gtr .int (.tmp 41) (.lit (.int .i64 100000)), some (39, false), [29, 27]⟩,
 ⟨some 43, .pick (.tmp 39) (.lit (.bool true)) (.tmp 42), none, [27, 30]⟩])
(.cond (.tmp 43) (.seq (.reg none [⟨some 6, .mv (.lit (.bool true)), none, []⟩])
.ret) .skip))
(.seq (.regA [0, 0, 3, 0, 0, 31, 0, 0, 255, 511] [⟨some 44, .load (some 2) (.tmp 3), none, []⟩,
 ⟨some 45, .load (some 2) (.tmp 4), none, []⟩,
 ⟨some 46, .call (.lit (.fn 10 [])) [(.tmp 44), (.tmp 45)], none, [0, 1]⟩,
 ⟨some 47, .load (some 2) (.tmp 3), none, []⟩,
 ⟨some 48, .load (some 2) (.tmp 4), none, []⟩,
 ⟨some 49, .call (.lit (.fn 12 [])) [(.tmp 47), (.tmp 48)], none, [3, 4, 2]⟩,
 ⟨some 7, .lay 0 [(.int .i64 0), (.int .i64 0)], none, []⟩,
 ⟨some 8, .lay 1 [(.int .i64 0), (.int .i64 0)], none, []⟩,
 ⟨none, .store 2 (.tmp 7) (.tmp 46), none, [6, 2, 5, 0, 1, 2, 6, 7]⟩,
 ⟨none, .store 2 (.tmp 8) (.tmp 49), none, [7, 5, 8, 0, 1, 2, 3, 4, 5, 6, 7, 8]⟩])
(.seq (.reg none [⟨some 50, .load (some 2) (.tmp 3), none, []⟩,
 ⟨some 51, .mv (.tmp 2), none, []⟩,
 ⟨some 52, .cint .i64 (.tmp 51), none, [1]⟩,
 ⟨some 53, .call (.lit (.fn 13 [])) [(.tmp 50), (.tmp 52)], none, [0, 2]⟩,
 ⟨some 54, .mv (.tmp 2), none, []⟩,
 ⟨some 55, .cint .i64 (.tmp 54), none, [4]⟩,
 ⟨some 56, .neg (.tmp 55), none, [5]⟩,
 ⟨some 57, .call (.lit (.fn 13 [])) [(.tmp 53), (.tmp 56)], none, [3, 6, 3]⟩,
 ⟨some 9, .alloc [(.int .i64 0), (.int .i64 0)], none, []⟩,
 ⟨none, .store 2 (.tmp 9) (.tmp 57), none, [8, 7, 7, 0, 1, 2, 3, 4, 5, 6, 7, 8]⟩])
(.seq (.reg (some [0, 0, 0, 6, 15, 31, 63, 63, 255, 63, 63, 2047, 4095, 8191, 16383, 32767, 65535, 32767, 163839, 524287, 1048575, 2097151, 4194303, 8388607, 4194303, 20971519, 67108863, 134217727, 268435455, 536870911, 1073741823, 536870911, 2684354559, 8589934591, 17179869183, 34359738367, 68719476735, 34359738367, 171798691839, 549755813887, 1099511627775, 2199023255551, 4398046511103, 2199023255551, 10995116277759, 35184372088831, 70368744177663, 140737488355327, 281474976710655, 281474976710655, 1125899906842623, 2251799813685247, 4503599627370495, 9007199254740991, 18014398509481983, 36028797018963967, 36028797018963967, 144115188075855871, 288230376151711743, 576460752303423487, 1152921504606846975, 1152921504606846975, 4611686018427387903, 9223372036854775807, 18446744073709551615, 36893488147419103231, 36893488147419103231, 147573952589676412927, 36893488147419103231, 590295810358705651711, 1180591620717411303423, 2361183241434822606847, 4722366482869645213695, 4722366482869645213695, 18889465931478580854783, 4722366482869645213695, 75557863725914323419135, 151115727451828646838271, 302231454903657293676543]) [⟨some 58, .load (some 2) (.tmp 8), none, []⟩,
 ⟨some 59, .load (some 2) (.tmp 4), none, []⟩,
 ⟨some 60, .load (some 2) (.tmp 3), none, []⟩,
 ⟨some 61, .call (.lit (.fn 12 [])) [(.tmp 59), (.tmp 60)], none, [1, 2]⟩,
 ⟨some 62, .bin .eql (.flat [.int, .int]) (.tmp 58) (.tmp 61), none, [0, 3]⟩,
 ⟨some 63, .mv (.tmp 62), none, [4, 3]⟩,
 ⟨some 64, .load (some 2) (.tmp 3), some (63, true), [5]⟩,
 ⟨some 65, .load (some 2) (.tmp 4), some (63, true), [5]⟩,
 ⟨some 66, .call (.lit (.fn 11 [])) [(.tmp 64), (.tmp 65)], some (63, true), [6, 7, 5, 5]⟩,
 ⟨some 67, .load (some 2) (.tmp 4), some (63, true), [5]⟩,
 ⟨some 68, .load (some 2) (.tmp 3), some (63, true), [5]⟩,
 ⟨some 69, .call (.lit (.fn 11 [])) [(.tmp 67), (.tmp 68)], some (63, true), [9, 10, 8, 5]⟩,
 ⟨some 70, .bin .eql .bool (.tmp 66) (.tmp 69), some (63, true), [8, 11, 5]⟩,
 ⟨some 71, .pick (.tmp 63) (.tmp 70) (.lit (.bool false)), none, [5, 12]⟩,
 ⟨some 72, .mv (.tmp 71), none, [13, 11]⟩,
 ⟨some 73, .fldA 0 (.tmp 8), some (72, true), [14]⟩,
 ⟨some 74, .load none (.tmp 73), some (72, true), [15, 14]⟩,
 ⟨some 75, .fldA 0 (.tmp 3), some (72, true), [14]⟩,
 ⟨some 76, .load none (.tmp 75), some (72, true), [17, 14]⟩,
 ⟨some 77, .bin .leq .int (.tmp 74) (.tmp 76), some (72, true), [16, 18, 14]⟩,
 ⟨some 78, .pick (.tmp 72) (.tmp 77) (.lit (.bool false)), none, [14, 19]⟩,
 ⟨some 79, .mv (.tmp 78), none, [20, 14]⟩,
 ⟨some 80, .fldA 1 (.tmp 8), some (79, true), [21]⟩,
 ⟨some 81, .load none (.tmp 80), some (79, true), [22, 21]⟩,
 ⟨some 82, .fldA 1 (.tmp 4), some (79, true), [21]⟩,
 ⟨some 83, .load none (.tmp 82), some (79, true), [24, 21]⟩,
 ⟨some 84, .bin .geq .int (.tmp 81) (.tmp 83), some (79, true), [23, 25, 21]⟩,
 ⟨some 85, .pick (.tmp 79) (.tmp 84) (.lit (.bool false)), none, [21, 26]⟩,
 ⟨some 86, .mv (.tmp 85), none, [27, 21]⟩,
 ⟨some 87, .fldA 0 (.tmp 7), some (86, true), [28]⟩,
 ⟨some 88, .load none (.tmp 87), some (86, true), [29, 28]⟩,
 ⟨some 89, .fldA 1 (.tmp 7), some (86, true), [28]⟩,
 ⟨some 90, .load none (.tmp 89), some (86, true), [31, 28]⟩,
 ⟨some 91, .bin .eql .int (.tmp 88) (.tmp 90), some (86, true), [30, 32, 28]⟩,
 ⟨some 92, .mv (.tmp 91), some (86, true), [33, 28, 28]⟩,
 ⟨some 93, .fldA 0 (.tmp 7), some (92, false), [34]⟩,
 ⟨some 94, .load none (.tmp 93), some (92, false), [35, 34]⟩,
 ⟨some 95, .fldA 0 (.tmp 3), some (92, false), [34]⟩,
 ⟨some 96, .load none (.tmp 95), some (92, false), [37, 34]⟩,
 ⟨some 97, .bin .geq .int (.tmp 94) (.tmp 96), some (92, false), [36, 38, 34]⟩,
 ⟨some 98, .mv (.tmp 97), some (92, false), [39, 34, 34]⟩,
 ⟨some 99, .fldA 1 (.tmp 7), some (98, true), [40]⟩,
 ⟨some 100, .load none (.tmp 99), some (98, true), [41, 40]⟩,
 ⟨some 101, .fldA 1 (.tmp 4), some (98, true), [40]⟩,
 ⟨some 102, .load none (.tmp 101), some (98, true), [43, 40]⟩,
 ⟨some 103, .bin .leq .int (.tmp 100) (.tmp 102), some (98, true), [42, 44, 40]⟩,
 ⟨some 104, .pick (.tmp 98) (.tmp 103) (.lit (.bool false)), some (92, false), [40, 45, 34]⟩,
 ⟨some 105, .mv (.tmp 104), some (92, false), [46, 40, 34]⟩,
 ⟨some 106, .load (some 2) (.tmp 3), some (105, true), [47]⟩,
 ⟨some 107, .load (some 2) (.tmp 4), some (105, true), [47]⟩,
 ⟨some 108, .call (.lit (.fn 11 [])) [(.tmp 106), (.tmp 107)], some (105, true), [48, 49, 47, 47]⟩,
 ⟨some 109, .pick (.tmp 105) (.tmp 108) (.lit (.bool false)), some (92, false), [47, 50, 34]⟩,
 ⟨some 110, .pick (.tmp 92) (.lit (.bool true)) (.tmp 109), some (86, true), [34, 51, 28]⟩,
 ⟨some 111, .pick (.tmp 86) (.tmp 110) (.lit (.bool false)), none, [28, 52]⟩,
 ⟨some 112, .mv (.tmp 111), none, [53, 50]⟩,
 ⟨some 113, .load (some 2) (.tmp 9), some (112, true), [54]⟩,
 ⟨some 114, .load (some 2) (.tmp 3), some (112, true), [54]⟩,
 ⟨some 115, .bin .eql (.flat [.int, .int]) (.tmp 113) (.tmp 114), some (112, true), [55, 56, 54]⟩,
 ⟨some 116, .pick (.tmp 112) (.tmp 115) (.lit (.bool false)), none, [54, 57]⟩,
 ⟨some 117, .mv (.tmp 116), none, [58, 54]⟩,
 ⟨some 118, .load (some 2) (.tmp 3), some (117, true), [59]⟩,
 ⟨some 119, .load (some 2) (.tmp 3), some (117, true), [59]⟩,
 ⟨some 120, .call (.lit (.fn 11 [])) [(.tmp 118), (.tmp 119)], some (117, true), [60, 61, 59, 59]⟩,
 ⟨some 121, .pick (.tmp 117) (.tmp 120) (.lit (.bool false)), none, [59, 62]⟩,
 ⟨some 122, .mv (.tmp 121), none, [63, 62]⟩,
 ⟨some 123, .load (some 2) (.tmp 3), some (122, true), [64]⟩,
 ⟨some 124, .load (some 2) (.tmp 3), some (122, true), [64]⟩,
 ⟨some 125, .call (.lit (.fn 12 [])) [(.tmp 123), (.tmp 124)], some (122, true), [65, 66, 64, 64]⟩,
 ⟨some 126, .load (some 2) (.tmp 3), some (122, true), [64]⟩,
 ⟨some 127, .bin .eql (.flat [.int, .int]) (.tmp 125) (.tmp 126), some (122, true), [67, 68, 64]⟩,
 ⟨some 128, .pick (.tmp 122) (.tmp 127) (.lit (.bool false)), none, [64, 69]⟩,
 ⟨some 129, .mv (.tmp 128), none, [70, 67]⟩,
 ⟨some 130, .load (some 2) (.tmp 3), some (129, true), [71]⟩,
 ⟨some 131, .load (some 2) (.tmp 3), some (129, true), [71]⟩,
 ⟨some 132, .call (.lit (.fn 10 [])) [(.tmp 130), (.tmp 131)], some (129, true), [72, 73, 71, 71]⟩,
 ⟨some 133, .load (some 2) (.tmp 3), some (129, true), [71]⟩,
 ⟨some 134, .bin .eql (.flat [.int, .int]) (.tmp 132) (.tmp 133), some (129, true), [74, 75, 71]⟩,
 ⟨some 135, .pick (.tmp 129) (.tmp 134) (.lit (.bool false)), none, [71, 76]⟩,
 ⟨some 6, .mv (.tmp 135), none, [77, 74, 0, 1, 2, 3, 4, 5, 6, 7, 8, 9, 10, 11, 12, 13, 14, 15, 16, 17, 18, 19, 20, 21, 22, 23, 24, 25, 26, 27, 28, 29, 30, 31, 32, 33, 34, 35, 36, 37, 38, 39, 40, 41, 42, 43, 44, 45, 46, 47, 48, 49, 50, 51, 52, 53, 54, 55, 56, 57, 58, 59, 60, 61, 62, 63, 64, 65, 66, 67, 68, 69, 70, 71, 72, 73, 74, 75, 76, 77]⟩])
.ret)))))) }
theorem c_palinodelaw10_IntervalLaws : cFunc Try.prog n_palinodelaw10_IntervalLaws = some f_palinodelaw10_IntervalLaws := by kernel_rfl
/-- palinode/palinodelaw10.IntervalMoved -/
def f_palinodelaw10_IntervalMoved : SFunc := { ntmps := 88, results := [.tmp 4], body :=
(.seq (.reg none [⟨some 4, .mv (.lit (.bool false)), none, []⟩])
(.seq (.seq (.reg none [⟨some 10, .call (.lit (.fn 8 [])) [], none, []⟩,
 ⟨some 11, .not (.tmp 10), none, [0]⟩])
(.cond (.tmp 11) (.seq (.reg none [⟨some 4, .mv (.lit (.bool false)), none, []⟩])
.ret) .skip))
(.seq (.seq (.reg none [⟨some 12, .mv (.tmp 0), none, []⟩,
 ⟨some 13, .len (.tmp 12), none, [0]⟩,
 ⟨some 14, .bin .gtr .int (.tmp 13) (.lit (.int .i64 40)), none, [1]⟩])
(.cond (.tmp 14) (.seq (.reg none [⟨some 4, .mv (.lit (.bool true)), none, []⟩])
.ret) .skip))
(.seq (.reg none [⟨some 5, .mv (.lit .nils), none, []⟩])
(.seq (.seq (.reg none [⟨some 6, .mv (.lit (.int .i64 0)), none, []⟩])
(.block 0 (.loop (.seq (.seq (.reg none [⟨some 15, .mv (.tmp 6), none, []⟩,
 ⟨some 16, .mv (.tmp 0), none, []⟩,
 ⟨some 17, .len (.tmp 16), none, [1]⟩,
 ⟨some 18, .bin .lss .int (.tmp 15) (.tmp 17), none, [0, 2]⟩])
(.cond (.tmp 18) .skip (.exit 0)))
(.seq (.block 1 (.seq (.seq (.reg none [⟨some 21, .mv (.tmp 0), none, []⟩,
 ⟨some 22, .mv (.tmp 6), none, []⟩,
 ⟨some 23, .idxA 2 (.tmp 21) (.tmp 22), none, [0, 1]⟩,
 ⟨some 24, .fldA 0 (.tmp 23), none, [2]⟩,
 ⟨some 25, .load none (.tmp 24), none, [3]⟩,
 ⟨some 26, .bin .lss .int (.tmp 25) (.lit (.int .i64 (-100000))), none, [4]⟩,
 ⟨some 27, .mv (.tmp 26), none, [5]⟩,
 ⟨some 28, .mv (.tmp 0), some (27, false), [6]⟩,
 ⟨some 29, .mv (.tmp 6), some (27, false), [6]⟩,
 ⟨some 30, .idxA 2 (.tmp 28) (.tmp 29), some (27, false), [7, 8, 6]⟩,
 ⟨some 31, .fldA 0 (.tmp 30), some (27, false), [9, 6]⟩,
 ⟨some 32, .load none (.tmp 31), some (27, false), [10, 6]⟩,
 ⟨some 33, .bin .gtr .int (.tmp 32) (.lit (.int .i64 100000)), some (27, false), [11, 6]⟩,
 ⟨some 34, .pick (.tmp 27) (.lit (.bool true)) (.tmp 33), none, [6, 12]⟩,
 ⟨some 35, .mv (.tmp 34), none, [13, 6]⟩,
 ⟨some 36, .mv (.tmp 0), some (35, false), [14]⟩,
 ⟨some 37, .mv (.tmp 6), some (35, false), [14]⟩,
 ⟨some 38, .idxA 2 (.tmp 36) (.tmp 37), some (35, false), [15, 16, 14]⟩,
 ⟨some 39, .fldA 1 (.tmp 38), some (35, false), [17, 14]⟩,
 ⟨some 40, .load none (.tmp 39), some (35, false), [18, 14]⟩,
 ⟨some 41, .bin .lss .int (.tmp 40) (.lit (.int .i64 (-100000))), some (35, false), [19, 14]⟩,
 ⟨some 42, .pick (.tmp 35) (.lit (.bool true)) (.tmp 41), none, [14, 20]⟩,
 ⟨some 43, .mv (.tmp 42), none, [21, 14]⟩,
 ⟨some 44, .mv (.tmp 0), some (43, false), [22]⟩,
 ⟨some 45, .mv (.tmp 6), some (43, false), [22]⟩,
 ⟨some 46, .idxA 2 (.tmp 44) (.tmp 45), some (43, false), [23, 24, 22]⟩,
 ⟨some 47, .fldA 1 (.tmp 46), some (43, false), [25, 22]⟩,
 ⟨some 48, .load none (.tmp 47), some (43, false), [26, 22]⟩,
 ⟨some 49, .bin .gtr .int (.tmp 48) (.lit (.int .i64 100000)), some (43, false), [27, 22]⟩,
 ⟨some 50, .pick (.tmp 43) (.lit (.bool true)) (.tmp 49), none, [22, 28]⟩])
(.cond (.tmp 50) (.seq (.reg none [⟨some 4, .mv (.lit (.bool true)), none, []⟩])
.ret) .skip))
(.reg none [⟨some 51, .mv (.tmp 5), none, []⟩,
 ⟨some 52, .mv (.tmp 0), none, []⟩,
 ⟨some 53, .mv (.tmp 6), none, []⟩,
 ⟨some 54, .idxA 2 (.tmp 52) (.tmp 53), none, [1, 2]⟩,
 ⟨some 55, .load (some 2) (.tmp 54), none, [3]⟩,
 ⟨some 56, .mv (.tmp 1), none, []⟩,
 ⟨some 57, .cint .i64 (.tmp 56), none, [5]⟩,
 ⟨some 58, .call (.lit (.fn 13 [])) [(.tmp 55), (.tmp 57)], none, [4, 6]⟩,
 ⟨some 59, .bslc 2 [(.int .i64 0), (.int .i64 0)] 1 [(0, 2, (.tmp 58))], none, [7]⟩,
 ⟨some 60, .app 23 2 16 (.tmp 51) (.tmp 59), none, [0, 8, 7]⟩,
 ⟨some 5, .mv (.tmp 60), none, [9, 9, 0, 1, 2, 3, 4, 5, 6, 7, 8, 9]⟩])))
(.reg none [⟨some 19, .mv (.tmp 6), none, []⟩,
 ⟨some 20, .bin .add .int (.tmp 19) (.lit (.int .i64 1)), none, [0]⟩,
 ⟨some 6, .mv (.tmp 20), none, [1, 0, 1]⟩]))))))
(.seq (.reg none [⟨some 61, .mv (.tmp 0), none, []⟩,
 ⟨some 62, .call (.lit (.fn 14 [])) [(.tmp 61)], none, [0]⟩,
 ⟨some 63, .mv (.tmp 5), none, []⟩,
 ⟨some 64, .call (.lit (.fn 14 [])) [(.tmp 63)], none, [2, 1]⟩,
 ⟨some 7, .mv (.tmp 62), none, [1, 3, 0, 1]⟩,
 ⟨some 8, .mv (.tmp 64), none, [3, 4, 0, 1, 2, 3, 4]⟩])
(.seq (.seq (.reg none [⟨some 65, .mv (.tmp 7), none, []⟩,
 ⟨some 66, .len (.tmp 65), none, [0]⟩,
 ⟨some 67, .mv (.tmp 8), none, []⟩,
 ⟨some 68, .len (.tmp 67), none, [2]⟩,
 ⟨some 69, .bin .neq .int (.tmp 66) (.tmp 68), none, [1, 3]⟩])
(.cond (.tmp 69) (.seq (.reg none [⟨some 4, .mv (.lit (.bool false)), none, []⟩])
.ret) .skip))
(.seq (.seq (.reg none [⟨some 9, .mv (.lit (.int .i64 0)), none, []⟩])
(.block 2 (.loop (.seq (.seq (.reg none [⟨some 70, .mv (.tmp 9), none, []⟩,
 ⟨some 71, .mv (.tmp 7), none, []⟩,
 ⟨some 72, .len (.tmp 71), none, [1]⟩,
 ⟨some 73, .bin .lss .int (.tmp 70) (.tmp 72), none, [0, 2]⟩])
(.cond (.tmp 73) .skip (.exit 2)))
(.seq (.block 3 (.seq (.reg (some [0, 0, 3, 7, 0, 16, 63, 0, 0, 384, 896, 2047]) [⟨some 76, .mv (.tmp 7), none, []⟩,
 ⟨some 77, .mv (.tmp 9), none, []⟩,
 ⟨some 78, .idxA 2 (.tmp 76) (.tmp 77), none, [0, 1]⟩,
 ⟨some 79, .load (some 2) (.tmp 78), none, [2]⟩,
 ⟨some 80, .mv (.tmp 1), none, []⟩,
 ⟨some 81, .cint .i64 (.tmp 80), none, [4]⟩,
 ⟨some 82, .call (.lit (.fn 13 [])) [(.tmp 79), (.tmp 81)], none, [3, 5]⟩,
 ⟨some 83, .mv (.tmp 8), none, []⟩,
 ⟨some 84, .mv (.tmp 9), none, []⟩,
 ⟨some 85, .idxA 2 (.tmp 83) (.tmp 84), none, [7, 8]⟩,
 ⟨some 86, .load (some 2) (.tmp 85), none, [9]⟩,
 ⟨some 87, .bin .neq (.flat [.int, .int]) (.tmp 82) (.tmp 86), none, [6, 10]⟩])
(.cond (.tmp 87) (.seq (.reg none [⟨some 4, .mv (.lit (.bool false)), none, []⟩])
.ret) .skip)))
(.reg none [⟨some 74, .mv (.tmp 9), none, []⟩,
 ⟨some 75, .bin .add .int (.tmp 74) (.lit (.int .i64 1)), none, [0]⟩,
 ⟨some 9, .mv (.tmp 75), none, [1, 0, 1]⟩]))))))
(.seq (.reg none [⟨some 4, .mv (.lit (.bool true)), none, []⟩])
.ret))))))))) }
theorem c_palinodelaw10_IntervalMoved : cFunc Try.prog n_palinodelaw10_IntervalMoved = some f_palinodelaw10_IntervalMoved := by kernel_rfl
/-- palinode/palinodelaw10.known -/
def f_palinodelaw10_known : SFunc := { ntmps := 55, results := [.tmp 0], body :=
(.seq (.reg none [⟨some 0, .mv (.lit (.bool false)), none, []⟩])
(.seq (.reg none [⟨some 4, .build [(.int .i64 0), (.int .i64 0)] [(0, 1, (.lit (.int .i64 0))), (1, 1, (.lit (.int .i64 2)))], none, []⟩,
 ⟨some 5, .build [(.int .i64 0), (.int .i64 0)] [(0, 1, (.lit (.int .i64 2))), (1, 1, (.lit (.int .i64 3)))], none, []⟩,
 ⟨some 1, .alloc [(.int .i64 0), (.int .i64 0)], none, []⟩,
 ⟨some 2, .alloc [(.int .i64 0), (.int .i64 0)], none, []⟩,
 ⟨none, .store 2 (.tmp 1) (.tmp 4), none, [2, 0, 0, 2, 3]⟩,
 ⟨none, .store 2 (.tmp 2) (.tmp 5), none, [3, 1, 4, 0, 1, 2, 3, 4]⟩])
(.seq (.reg none [⟨some 6, .load (some 2) (.tmp 2), none, []⟩,
 ⟨some 7, .load (some 2) (.tmp 1), none, []⟩,
 ⟨some 8, .build [(.int .i64 0), (.int .i64 0)] [(0, 1, (.lit (.int .i64 9))), (1, 1, (.lit (.int .i64 8)))], none, []⟩,
 ⟨some 9, .bslc 2 [(.int .i64 0), (.int .i64 0)] 3 [(0, 2, (.tmp 6)), (2, 2, (.tmp 7)), (4, 2, (.tmp 8))], none, [0, 1, 2]⟩,
 ⟨some 10, .call (.lit (.fn 14 [])) [(.tmp 9)], none, [3]⟩,
 ⟨some 3, .mv (.tmp 10), none, [4, 4, 0, 1, 2, 3, 4]⟩])
(.seq (.reg none [⟨some 11, .load (some 2) (.tmp 1), none, []⟩,
 ⟨some 12, .call (.lit (.fn 9 [])) [(.tmp 11), (.lit (.int .i64 2))], none, [0]⟩,
 ⟨some 13, .mv (.tmp 12), none, [1, 1]⟩,
 ⟨some 14, .load (some 2) (.tmp 1), some (13, true), [2]⟩,
 ⟨some 15, .call (.lit (.fn 9 [])) [(.tmp 14), (.lit (.int .i64 1))], some (13, true), [3, 2, 2]⟩,
 ⟨some 16, .not (.tmp 15), some (13, true), [4, 2]⟩,
 ⟨some 17, .pick (.tmp 13) (.tmp 16) (.lit (.bool false)), none, [2, 5]⟩,
 ⟨some 18, .mv (.tmp 17), none, [6, 4]⟩,
 ⟨some 19, .load (some 2) (.tmp 1), some (18, true), [7]⟩,
 ⟨some 20, .load (some 2) (.tmp 2), some (18, true), [7]⟩,
 ⟨some 21, .call (.lit (.fn 11 [])) [(.tmp 19), (.tmp 20)], some (18, true), [8, 9, 7, 7]⟩,
 ⟨some 22, .pick (.tmp 18) (.tmp 21) (.lit (.bool false)), none, [7, 10]⟩,
 ⟨some 23, .mv (.tmp 22), none, [11, 10]⟩,
 ⟨some 24, .load (some 2) (.tmp 1), some (23, true), [12]⟩,
 ⟨some 25, .load (some 2) (.tmp 2), some (23, true), [12]⟩,
 ⟨some 26, .call (.lit (.fn 10 [])) [(.tmp 24), (.tmp 25)], some (23, true), [13, 14, 12, 12]⟩,
 ⟨some 27, .build [(.int .i64 0), (.int .i64 0)] [(0, 1, (.lit (.int .i64 2))), (1, 1, (.lit (.int .i64 2)))], some (23, true), [12]⟩,
 ⟨some 28, .bin .eql (.flat [.int, .int]) (.tmp 26) (.tmp 27), some (23, true), [15, 16, 12]⟩,
 ⟨some 29, .pick (.tmp 23) (.tmp 28) (.lit (.bool false)), none, [12, 17]⟩,
 ⟨some 30, .mv (.tmp 29), none, [18, 15]⟩,
 ⟨some 31, .load (some 2) (.tmp 1), some (30, true), [19]⟩,
 ⟨some 32, .load (some 2) (.tmp 2), some (30, true), [19]⟩,
 ⟨some 33, .call (.lit (.fn 12 [])) [(.tmp 31), (.tmp 32)], some (30, true), [20, 21, 19, 19]⟩,
 ⟨some 34, .build [(.int .i64 0), (.int .i64 0)] [(0, 1, (.lit (.int .i64 0))), (1, 1, (.lit (.int .i64 3)))], some (30, true), [19]⟩,
 ⟨some 35, .bin .eql (.flat [.int, .int]) (.tmp 33) (.tmp 34), some (30, true), [22, 23, 19]⟩,
 ⟨some 36, .pick (.tmp 30) (.tmp 35) (.lit (.bool false)), none, [19, 24]⟩,
 ⟨some 37, .mv (.tmp 36), none, [25, 22]⟩,
 ⟨some 38, .load (some 2) (.tmp 1), some (37, true), [26]⟩,
 ⟨some 39, .call (.lit (.fn 13 [])) [(.tmp 38), (.lit (.int .i64 1))], some (37, true), [27, 26, 26]⟩,
 ⟨some 40, .build [(.int .i64 0), (.int .i64 0)] [(0, 1, (.lit (.int .i64 1))), (1, 1, (.lit (.int .i64 3)))], some (37, true), [26]⟩,
 ⟨some 41, .bin .eql (.flat [.int, .int]) (.tmp 39) (.tmp 40), some (37, true), [28, 29, 26]⟩,
 ⟨some 42, .pick (.tmp 37) (.tmp 41) (.lit (.bool false)), none, [26, 30]⟩,
 ⟨some 43, .mv (.tmp 42), none, [31, 28]⟩,
 ⟨some 44, .mv (.tmp 3), some (43, true), [32]⟩,
 ⟨some 45, .len (.tmp 44), some (43, true), [33, 32]⟩,
 ⟨some 46, .bin .eql .int (.tmp 45) (.lit (.int .i64 1)), some (43, true), [34, 32]⟩,
 ⟨some 47, .pick (.tmp 43) (.tmp 46) (.lit (.bool false)), none, [32, 35]⟩,
 ⟨some 48, .mv (.tmp 47), none, [36, 32]⟩,
 ⟨some 49, .mv (.tmp 3), some (48, true), [37]⟩,
 ⟨some 50, .idxA 2 (.tmp 49) (.lit (.int .i64 0)), some (48, true), [38, 37]⟩,
 ⟨some 51, .load (some 2) (.tmp 50), some (48, true), [39, 37]⟩,
 ⟨some 52, .build [(.int .i64 0), (.int .i64 0)] [(0, 1, (.lit (.int .i64 0))), (1, 1, (.lit (.int .i64 3)))], some (48, true), [37]⟩,
 ⟨some 53, .bin .eql (.flat [.int, .int]) (.tmp 51) (.tmp 52), some (48, true), [40, 41, 37]⟩,
 ⟨some 54, .pick (.tmp 48) (.tmp 53) (.lit (.bool false)), none, [37, 42]⟩,
 ⟨some 0, .mv (.tmp 54), none, [43, 37, 0, 1, 2, 3, 4, 5, 6, 7, 8, 9, 10, 11, 12, 13, 14, 15, 16, 17, 18, 19, 20, 21, 22, 23, 24, 25, 26, 27, 28, 29, 30, 31, 32, 33, 34, 35, 36, 37, 38, 39, 40, 41, 42, 43]⟩])
.ret)))) }
theorem c_palinodelaw10_known : cFunc Try.prog n_palinodelaw10_known = some f_palinodelaw10_known := by kernel_rfl
/-- palinode/interval.Is -/
def f_interval_Is : SFunc := { ntmps := 21, results := [.tmp 4], body :=
(.seq (.reg none [⟨some 2, .box (.tmp 0), none, []⟩,
 ⟨some 4, .mv (.lit (.bool false)), none, []⟩])
(.seq (.reg none [⟨some 5, .fldA 0 (.tmp 2), none, []⟩,
 ⟨some 6, .load none (.tmp 5), none, [0]⟩,
 ⟨some 7, .bin .geq .int (.tmp 6) (.lit (.int .i64 0)), none, [1]⟩,
 ⟨some 8, .mv (.tmp 7), none, [2]⟩,
 ⟨some 9, .fldA 0 (.tmp 2), some (8, true), [3]⟩,
 ⟨some 10, .load none (.tmp 9), some (8, true), [4, 3]⟩,
 ⟨some 11, .fldA 1 (.tmp 2), some (8, true), [3]⟩,
 ⟨some 12, .load none (.tmp 11), some (8, true), [6, 3]⟩,
 ⟨some 13, .bin .leq .int (.tmp 10) (.tmp 12), some (8, true), [5, 7, 3]⟩,
 ⟨some 14, .pick (.tmp 8) (.tmp 13) (.lit (.bool false)), none, [3, 8]⟩,
 ⟨some 15, .mv (.tmp 14), none, [9, 3]⟩,
 ⟨some 16, .fldA 1 (.tmp 2), some (15, true), [10]⟩,
 ⟨some 17, .load none (.tmp 16), some (15, true), [11, 10]⟩,
 ⟨some 18, .mv (.tmp 1), some (15, true), [10]⟩,
 ⟨some 19, .bin .leq .int (.tmp 17) (.tmp 18), some (15, true), [12, 13, 10]⟩,
 ⟨some 20, .pick (.tmp 15) (.tmp 19) (.lit (.bool false)), none, [10, 14]⟩,
 ⟨some 4, .mv (.tmp 20), none, [15, 10, 0, 1, 2, 3, 4, 5, 6, 7, 8, 9, 10, 11, 12, 13, 14, 15]⟩])
.ret)) }
theorem c_interval_Is : cFunc Try.prog n_interval_Is = some f_interval_Is := by kernel_rfl
/-- palinode/interval.Meet -/
def f_interval_Meet : SFunc := { ntmps := 20, results := [.cell 4 (some 2)], body :=
(.seq (.reg none [⟨some 2, .box (.tmp 0), none, []⟩,
 ⟨some 3, .box (.tmp 1), none, []⟩,
 ⟨some 4, .alloc [(.int .i64 0), (.int .i64 0)], none, []⟩])
(.seq (.reg none [⟨some 6, .fldA 0 (.tmp 2), none, []⟩,
 ⟨some 7, .load none (.tmp 6), none, [0]⟩,
 ⟨some 8, .fldA 0 (.tmp 3), none, []⟩,
 ⟨some 9, .load none (.tmp 8), none, [2]⟩,
 ⟨some 10, .maxs (.tmp 7) [(.tmp 9)], none, [1, 3]⟩,
 ⟨some 5, .mv (.tmp 10), none, [4, 0, 1, 2, 3, 4]⟩])
(.seq (.reg none [⟨some 11, .mv (.tmp 5), none, []⟩,
 ⟨some 12, .fldA 1 (.tmp 2), none, []⟩,
 ⟨some 13, .load none (.tmp 12), none, [1]⟩,
 ⟨some 14, .fldA 1 (.tmp 3), none, []⟩,
 ⟨some 15, .load none (.tmp 14), none, [3]⟩,
 ⟨some 16, .mins (.tmp 13) [(.tmp 15)], none, [2, 4]⟩,
 ⟨some 17, .mv (.tmp 5), none, []⟩,
 ⟨some 18, .maxs (.tmp 16) [(.tmp 17)], none, [5, 6]⟩,
 ⟨some 19, .build [(.int .i64 0), (.int .i64 0)] [(0, 1, (.tmp 11)), (1, 1, (.tmp 18))], none, [0, 7]⟩,
 ⟨none, .store 2 (.tmp 4) (.tmp 19), none, [8, 0, 1, 2, 3, 4, 5, 6, 7, 8]⟩])
.ret))) }
theorem c_interval_Meet : cFunc Try.prog n_interval_Meet = some f_interval_Meet := by kernel_rfl
/-- palinode/interval.Touch -/
def f_interval_Touch : SFunc := { ntmps := 17, results := [.tmp 4], body :=
(.seq (.reg none [⟨some 2, .box (.tmp 0), none, []⟩,
 ⟨some 3, .box (.tmp 1), none, []⟩,
 ⟨some 4, .mv (.lit (.bool false)), none, []⟩])
(.seq (.reg none [⟨some 5, .fldA 1 (.tmp 2), none, []⟩,
 ⟨some 6, .load none (.tmp 5), none, [0]⟩,
 ⟨some 7, .fldA 0 (.tmp 3), none, []⟩,
 ⟨some 8, .load none (.tmp 7), none, [2]⟩,
 ⟨some 9, .bin .geq .int (.tmp 6) (.tmp 8), none, [1, 3]⟩,
 ⟨some 10, .mv (.tmp 9), none, [4]⟩,
 ⟨some 11, .fldA 1 (.tmp 3), some (10, true), [5]⟩,
 ⟨some 12, .load none (.tmp 11), some (10, true), [6, 5]⟩,
 ⟨some 13, .fldA 0 (.tmp 2), some (10, true), [5]⟩,
 ⟨some 14, .load none (.tmp 13), some (10, true), [8, 5]⟩,
 ⟨some 15, .bin .geq .int (.tmp 12) (.tmp 14), some (10, true), [7, 9, 5]⟩,
 ⟨some 16, .pick (.tmp 10) (.tmp 15) (.lit (.bool false)), none, [5, 10]⟩,
 ⟨some 4, .mv (.tmp 16), none, [11, 5, 0, 1, 2, 3, 4, 5, 6, 7, 8, 9, 10, 11]⟩])
.ret)) }
theorem c_interval_Touch : cFunc Try.prog n_interval_Touch = some f_interval_Touch := by kernel_rfl
/-- palinode/interval.Join -/
def f_interval_Join : SFunc := { ntmps := 16, results := [.cell 4 (some 2)], body :=
(.seq (.reg none [⟨some 2, .box (.tmp 0), none, []⟩,
 ⟨some 3, .box (.tmp 1), none, []⟩,
 ⟨some 4, .alloc [(.int .i64 0), (.int .i64 0)], none, []⟩])
(.seq (.reg none [⟨some 5, .fldA 0 (.tmp 2), none, []⟩,
 ⟨some 6, .load none (.tmp 5), none, [0]⟩,
 ⟨some 7, .fldA 0 (.tmp 3), none, []⟩,
 ⟨some 8, .load none (.tmp 7), none, [2]⟩,
 ⟨some 9, .mins (.tmp 6) [(.tmp 8)], none, [1, 3]⟩,
 ⟨some 10, .fldA 1 (.tmp 2), none, []⟩,
 ⟨some 11, .load none (.tmp 10), none, [5]⟩,
 ⟨some 12, .fldA 1 (.tmp 3), none, []⟩,
 ⟨some 13, .load none (.tmp 12), none, [7]⟩,
 ⟨some 14, .maxs (.tmp 11) [(.tmp 13)], none, [6, 8]⟩,
 ⟨some 15, .build [(.int .i64 0), (.int .i64 0)] [(0, 1, (.tmp 9)), (1, 1, (.tmp 14))], none, [4, 9]⟩,
 ⟨none, .store 2 (.tmp 4) (.tmp 15), none, [10, 0, 1, 2, 3, 4, 5, 6, 7, 8, 9, 10]⟩])
.ret)) }
theorem c_interval_Join : cFunc Try.prog n_interval_Join = some f_interval_Join := by kernel_rfl
/-- palinode/interval.Shift -/
def f_interval_Shift : SFunc := { ntmps := 14, results := [.cell 4 (some 2)], body :=
(.seq (.reg none [⟨some 2, .box (.tmp 0), none, []⟩,
 ⟨some 4, .alloc [(.int .i64 0), (.int .i64 0)], none, []⟩])
(.seq (.reg none [⟨some 5, .fldA 0 (.tmp 2), none, []⟩,
 ⟨some 6, .load none (.tmp 5), none, [0]⟩,
 ⟨some 7, .mv (.tmp 1), none, []⟩,
 ⟨some 8, .bin .add .int (.tmp 6) (.tmp 7), none, [1, 2]⟩,
 ⟨some 9, .fldA 1 (.tmp 2), none, []⟩,
 ⟨some 10, .load none (.tmp 9), none, [4]⟩,
 ⟨some 11, .mv (.tmp 1), none, []⟩,
 ⟨some 12, .bin .add .int (.tmp 10) (.tmp 11), none, [5, 6]⟩,
 ⟨some 13, .build [(.int .i64 0), (.int .i64 0)] [(0, 1, (.tmp 8)), (1, 1, (.tmp 12))], none, [3, 7]⟩,
 ⟨none, .store 2 (.tmp 4) (.tmp 13), none, [8, 0, 1, 2, 3, 4, 5, 6, 7, 8]⟩])
.ret)) }
theorem c_interval_Shift : cFunc Try.prog n_interval_Shift = some f_interval_Shift := by kernel_rfl
/-- palinode/interval.Merge -/
def f_interval_Merge : SFunc := { ntmps := 9, results := [.tmp 2], body :=
(.seq (.reg none [⟨some 2, .mv (.lit .nils), none, []⟩])
(.seq (.reg none [⟨some 3, .mv (.tmp 0), none, []⟩,
 ⟨some 4, .call (.lit (.fn 16 [])) [(.tmp 3), (.lit (.fn 17 []))], none, [0]⟩,
 ⟨some 0, .mv (.tmp 4), none, [1, 1, 0, 1]⟩])
(.seq (.reg none [⟨some 5, .mv (.tmp 0), none, []⟩,
 ⟨some 6, .call (.lit (.fn 18 [])) [(.tmp 5), (.lit (.fn 19 []))], none, [0]⟩])
(.seq (.reg none [⟨some 7, .mv (.tmp 0), none, []⟩,
 ⟨some 8, .call (.lit (.fn 20 [])) [(.tmp 7), (.lit (.fn 11 [])), (.lit (.fn 12 []))], none, [0]⟩,
 ⟨some 2, .mv (.tmp 8), none, [1, 1, 0, 1]⟩])
.ret)))) }
theorem c_interval_Merge : cFunc Try.prog n_interval_Merge = some f_interval_Merge := by kernel_rfl
/-- palinode/palinodelaw10.covers -/
def f_palinodelaw10_covers : SFunc := { ntmps := 65, results := [.tmp 4], body :=
(.seq (.reg none [⟨some 4, .mv (.lit (.bool false)), none, []⟩])
(.seq (.seq (.reg none [⟨some 5, .mv (.lit (.int .i64 0)), none, []⟩])
(.block 0 (.loop (.seq (.seq (.reg none [⟨some 8, .mv (.tmp 5), none, []⟩,
 ⟨some 9, .mv (.tmp 0), none, []⟩,
 ⟨some 10, .len (.tmp 9), none, [1]⟩,
 ⟨some 11, .bin .lss .int (.tmp 8) (.tmp 10), none, [0, 2]⟩])
(.cond (.tmp 11) .skip (.exit 0)))
(.seq (.block 1 (.seq (.reg (some [0, 0, 3, 7, 15, 0, 0, 96, 224, 480, 1023, 2047]) [⟨some 14, .mv (.tmp 0), none, []⟩,
 ⟨some 15, .mv (.tmp 5), none, []⟩,
 ⟨some 16, .idxA 2 (.tmp 14) (.tmp 15), none, [0, 1]⟩,
 ⟨some 17, .fldA 0 (.tmp 16), none, [2]⟩,
 ⟨some 18, .load none (.tmp 17), none, [3]⟩,
 ⟨some 19, .mv (.tmp 0), none, []⟩,
 ⟨some 20, .mv (.tmp 5), none, []⟩,
 ⟨some 21, .idxA 2 (.tmp 19) (.tmp 20), none, [5, 6]⟩,
 ⟨some 22, .fldA 1 (.tmp 21), none, [7]⟩,
 ⟨some 23, .load none (.tmp 22), none, [8]⟩,
 ⟨some 24, .bin .gtr .int (.tmp 18) (.tmp 23), none, [4, 9]⟩,
 ⟨some 6, .mv (.tmp 24), none, [10, 0, 1, 2, 3, 4, 5, 6, 7, 8, 9, 10]⟩])
(.seq (.seq (.reg none [⟨some 7, .mv (.lit (.int .i64 0)), none, []⟩])
(.block 2 (.loop (.seq (.seq (.reg none [⟨some 25, .mv (.tmp 7), none, []⟩,
 ⟨some 26, .mv (.tmp 1), none, []⟩,
 ⟨some 27, .len (.tmp 26), none, [1]⟩,
 ⟨some 28, .bin .lss .int (.tmp 25) (.tmp 27), none, [0, 2]⟩])
(.cond (.tmp 28) .skip (.exit 2)))
(.seq (.block 3 (.reg (some [0, 1, 3, 3, 15, 31, 63, 3, 3, 387, 899, 1923, 4095, 8191, 16383, 16383, 65535, 131071, 262143, 16383, 16383, 1589247, 3686399, 7880703, 16777215, 33554431, 67108863, 134217727]) [⟨some 31, .mv (.tmp 6), none, []⟩,
 ⟨some 32, .mv (.tmp 31), none, [0]⟩,
 ⟨some 33, .mv (.tmp 1), some (32, false), [1]⟩,
 ⟨some 34, .mv (.tmp 7), some (32, false), [1]⟩,
 ⟨some 35, .idxA 2 (.tmp 33) (.tmp 34), some (32, false), [2, 3, 1]⟩,
 ⟨some 36, .fldA 0 (.tmp 35), some (32, false), [4, 1]⟩,
 ⟨some 37, .load none (.tmp 36), some (32, false), [5, 1]⟩,
 ⟨some 38, .mv (.tmp 0), some (32, false), [1]⟩,
 ⟨some 39, .mv (.tmp 5), some (32, false), [1]⟩,
 ⟨some 40, .idxA 2 (.tmp 38) (.tmp 39), some (32, false), [7, 8, 1]⟩,
 ⟨some 41, .fldA 0 (.tmp 40), some (32, false), [9, 1]⟩,
 ⟨some 42, .load none (.tmp 41), some (32, false), [10, 1]⟩,
 ⟨some 43, .bin .leq .int (.tmp 37) (.tmp 42), some (32, false), [6, 11, 1]⟩,
 ⟨some 44, .mv (.tmp 43), some (32, false), [12, 1, 1]⟩,
 ⟨some 45, .mv (.tmp 0), some (44, true), [13]⟩,
 ⟨some 46, .mv (.tmp 5), some (44, true), [13]⟩,
 ⟨some 47, .idxA 2 (.tmp 45) (.tmp 46), some (44, true), [14, 15, 13]⟩,
 ⟨some 48, .fldA 1 (.tmp 47), some (44, true), [16, 13]⟩,
 ⟨some 49, .load none (.tmp 48), some (44, true), [17, 13]⟩,
 ⟨some 50, .mv (.tmp 1), some (44, true), [13]⟩,
 ⟨some 51, .mv (.tmp 7), some (44, true), [13]⟩,
 ⟨some 52, .idxA 2 (.tmp 50) (.tmp 51), some (44, true), [19, 20, 13]⟩,
 ⟨some 53, .fldA 1 (.tmp 52), some (44, true), [21, 13]⟩,
 ⟨some 54, .load none (.tmp 53), some (44, true), [22, 13]⟩,
 ⟨some 55, .bin .leq .int (.tmp 49) (.tmp 54), some (44, true), [18, 23, 13]⟩,
 ⟨some 56, .pick (.tmp 44) (.tmp 55) (.lit (.bool false)), some (32, false), [13, 24, 1]⟩,
 ⟨some 57, .pick (.tmp 32) (.lit (.bool true)) (.tmp 56), none, [1, 25]⟩,
 ⟨some 6, .mv (.tmp 57), none, [26, 13, 0, 1, 2, 3, 4, 5, 6, 7, 8, 9, 10, 11, 12, 13, 14, 15, 16, 17, 18, 19, 20, 21, 22, 23, 24, 25, 26]⟩]))
(.reg none [⟨some 29, .mv (.tmp 7), none, []⟩,
 ⟨some 30, .bin .add .int (.tmp 29) (.lit (.int .i64 1)), none, [0]⟩,
 ⟨some 7, .mv (.tmp 30), none, [1, 0, 1]⟩]))))))
(.seq (.reg none [⟨some 58, .mv (.tmp 6), none, []⟩,
 ⟨some 59, .not (.tmp 58), none, [0]⟩])
(.cond (.tmp 59) (.seq (.reg none [⟨some 4, .mv (.lit (.bool false)), none, []⟩])
.ret) .skip)))))
(.reg none [⟨some 12, .mv (.tmp 5), none, []⟩,
 ⟨some 13, .bin .add .int (.tmp 12) (.lit (.int .i64 1)), none, [0]⟩,
 ⟨some 5, .mv (.tmp 13), none, [1, 0, 1]⟩]))))))
(.seq (.reg none [⟨some 60, .mv (.tmp 1), none, []⟩,
 ⟨some 61, .len (.tmp 60), none, [0]⟩,
 ⟨some 62, .mv (.tmp 0), none, []⟩,
 ⟨some 63, .len (.tmp 62), none, [2]⟩,
 ⟨some 64, .bin .leq .int (.tmp 61) (.tmp 63), none, [1, 3]⟩,
 ⟨some 4, .mv (.tmp 64), none, [4, 0, 1, 2, 3, 4]⟩])
.ret))) }
theorem c_palinodelaw10_covers : cFunc Try.prog n_palinodelaw10_covers = some f_palinodelaw10_covers := by kernel_rfl
/-- palinode/interval.kept[palinode/api.Interval] -/
def f_interval_kept_api_Interval : SFunc := { ntmps := 23, results := [.tmp 4], body :=
(.seq (.reg none [⟨some 4, .mv (.lit .nils), none, []⟩])
(.seq (.reg none [⟨some 5, .mv (.lit .nils), none, []⟩])
(.seq (.seq (.reg none [⟨some 8, .mv (.tmp 0), none, []⟩,
 ⟨some 9, .len (.tmp 8), none, [0]⟩,
 ⟨some 10, .mv (.lit (.int .i64 0)), none, []⟩])
(.block 0 (.loop (.seq (.reg none [⟨some 11, .bin .lss .int (.tmp 10) (.tmp 9), none, []⟩])
(.seq (.cond (.tmp 11) .skip (.exit 0))
(.seq (.block 1 (.seq (.reg none [⟨some 12, .idxA 2 (.tmp 8) (.tmp 10), none, []⟩,
 ⟨some 13, .load (some 2) (.tmp 12), none, [0]⟩,
 ⟨some 7, .alloc [(.int .i64 0), (.int .i64 0)], none, []⟩,
 ⟨none, .store 2 (.tmp 7) (.tmp 13), none, [2, 1, 0, 1, 2]⟩])
(.seq (.reg none [⟨some 14, .mv (.tmp 1), none, []⟩,
 ⟨some 15, .load (some 2) (.tmp 7), none, []⟩,
 ⟨some 16, .call (.tmp 14) [(.tmp 15)], none, [0, 1]⟩])
(.cond (.tmp 16) (.reg none [⟨some 17, .mv (.tmp 5), none, []⟩,
 ⟨some 18, .load (some 2) (.tmp 7), none, []⟩,
 ⟨some 19, .bslc 2 [(.int .i64 0), (.int .i64 0)] 1 [(0, 2, (.tmp 18))], none, [1]⟩,
 ⟨some 20, .app 23 2 16 (.tmp 17) (.tmp 19), none, [0, 2]⟩,
 ⟨some 5, .mv (.tmp 20), none, [3, 3, 0, 1, 2, 3]⟩]) .skip))))
(.reg none [⟨some 21, .bin .add .int (.tmp 10) (.lit (.int .i64 1)), none, []⟩,
 ⟨some 10, .mv (.tmp 21), none, [0]⟩])))))))
(.seq (.reg none [⟨some 22, .mv (.tmp 5), none, []⟩,
 ⟨some 4, .mv (.tmp 22), none, [0, 0]⟩])
.ret)))) }
theorem c_interval_kept_api_Interval : cFunc Try.prog n_interval_kept_api_Interval = some f_interval_kept_api_Interval := by kernel_rfl
/-- palinode/interval.Merge$1 -/
def f_interval_Merge_1 : SFunc := { ntmps := 8, results := [.tmp 2], body :=
(.seq (.reg none [⟨some 1, .box (.tmp 0), none, []⟩,
 ⟨some 2, .mv (.lit (.bool false)), none, []⟩])
(.seq (.reg none [⟨some 3, .fldA 0 (.tmp 1), none, []⟩,
 ⟨some 4, .load none (.tmp 3), none, [0]⟩,
 ⟨some 5, .fldA 1 (.tmp 1), none, []⟩,
 ⟨some 6, .load none (.tmp 5), none, [2]⟩,
 ⟨some 7, .bin .leq .int (.tmp 4) (.tmp 6), none, [1, 3]⟩,
 ⟨some 2, .mv (.tmp 7), none, [4, 0, 1, 2, 3, 4]⟩])
.ret)) }
theorem c_interval_Merge_1 : cFunc Try.prog n_interval_Merge_1 = some f_interval_Merge_1 := by kernel_rfl
/-- slices.SortFunc[[]palinode/api.Interval,palinode/api.Interval] -/
def f_slices_SortFunc_api_Interval_api_Interval : SFunc := { ntmps := 14, results := [], body :=
(.seq (.reg none [⟨some 5, .mv (.tmp 0), none, []⟩,
 ⟨some 6, .len (.tmp 5), none, [0]⟩,
 ⟨some 4, .mv (.tmp 6), none, [1, 0, 1]⟩])
(.reg none [⟨some 7, .mv (.tmp 0), none, []⟩,
 ⟨some 8, .mv (.tmp 4), none, []⟩,
 ⟨some 9, .mv (.tmp 4), none, []⟩,
 ⟨some 10, .cint .u64 (.tmp 9), none, [2]⟩,
 ⟨some 11, .call (.lit (.fn 22 [])) [(.tmp 10)], none, [3]⟩,
 ⟨some 12, .mv (.tmp 1), none, []⟩,
 ⟨some 13, .call (.lit (.fn 21 [])) [(.tmp 7), (.lit (.int .i64 0)), (.tmp 8), (.tmp 11), (.tmp 12)], none, [0, 1, 4, 5, 4]⟩])) }
theorem c_slices_SortFunc_api_Interval_api_Interval : cFunc Try.prog n_slices_SortFunc_api_Interval_api_Interval = some f_slices_SortFunc_api_Interval_api_Interval := by kernel_rfl
/-- palinode/interval.Cmp -/
def f_interval_Cmp : SFunc := { ntmps := 17, results := [.tmp 4], body :=
(.seq (.reg none [⟨some 2, .box (.tmp 0), none, []⟩,
 ⟨some 3, .box (.tmp 1), none, []⟩,
 ⟨some 4, .mv (.lit (.int .i64 0)), none, []⟩])
(.seq (.reg (some [0, 1, 0, 4, 15, 0, 32, 0, 128, 511, 1023, 2047, 4095]) [⟨some 5, .fldA 0 (.tmp 2), none, []⟩,
 ⟨some 6, .load none (.tmp 5), none, [0]⟩,
 ⟨some 7, .fldA 0 (.tmp 3), none, []⟩,
 ⟨some 8, .load none (.tmp 7), none, [2]⟩,
 ⟨some 9, .call (.lit (.fn 24 [])) [(.tmp 6), (.tmp 8)], none, [1, 3]⟩,
 ⟨some 10, .fldA 1 (.tmp 2), none, []⟩,
 ⟨some 11, .load none (.tmp 10), none, [5]⟩,
 ⟨some 12, .fldA 1 (.tmp 3), none, []⟩,
 ⟨some 13, .load none (.tmp 12), none, [7]⟩,
 ⟨some 14, .call (.lit (.fn 24 [])) [(.tmp 11), (.tmp 13)], none, [6, 8, 4]⟩,
 ⟨some 15, .bslc 1 [(.int .i64 0)] 2 [(0, 1, (.tmp 9)), (1, 1, (.tmp 14))], none, [4, 9]⟩,
 ⟨some 16, .call (.lit (.fn 23 [])) [(.tmp 15)], none, [10, 9]⟩,
 ⟨some 4, .mv (.tmp 16), none, [11, 11, 0, 1, 2, 3, 4, 5, 6, 7, 8, 9, 10, 11]⟩])
.ret)) }
theorem c_interval_Cmp : cFunc Try.prog n_interval_Cmp = some f_interval_Cmp := by kernel_rfl
/-- palinode/interval.Folded[palinode/api.Interval] -/
def f_interval_Folded_api_Interval : SFunc := { ntmps := 47, results := [.tmp 6], body :=
(.seq (.reg none [⟨some 6, .mv (.lit .nils), none, []⟩])
(.seq (.reg none [⟨some 7, .mv (.lit .nils), none, []⟩])
(.seq (.seq (.reg none [⟨some 11, .mv (.tmp 0), none, []⟩,
 ⟨some 12, .len (.tmp 11), none, [0]⟩,
 ⟨some 13, .mv (.lit (.int .i64 0)), none, []⟩])
(.block 0 (.loop (.seq (.reg none [⟨some 14, .bin .lss .int (.tmp 13) (.tmp 12), none, []⟩])
(.seq (.cond (.tmp 14) .skip (.exit 0))
(.seq (.block 1 (.seq (.reg none [⟨some 15, .idxA 2 (.tmp 11) (.tmp 13), none, []⟩,
 ⟨some 16, .load (some 2) (.tmp 15), none, [0]⟩,
 ⟨some 9, .alloc [(.int .i64 0), (.int .i64 0)], none, []⟩,
 ⟨none, .store 2 (.tmp 9) (.tmp 16), none, [2, 1, 0, 1, 2]⟩])
(.seq (.seq (.reg none [⟨some 17, .mv (.tmp 7), none, []⟩,
 ⟨some 18, .len (.tmp 17), none, [0]⟩,
 ⟨some 19, .bin .sub .int (.tmp 18) (.lit (.int .i64 1)), none, [1]⟩,
 ⟨some 10, .mv (.tmp 19), none, [2, 0, 1, 2]⟩])
(.seq (.reg (some [0, 1, 3, 7, 7, 7, 55, 119, 7, 511, 1023]) [⟨some 20, .mv (.tmp 10), none, []⟩,
 ⟨some 21, .bin .geq .int (.tmp 20) (.lit (.int .i64 0)), none, [0]⟩,
 ⟨some 22, .mv (.tmp 21), none, [1]⟩,
 ⟨some 23, .mv (.tmp 1), some (22, true), [2]⟩,
 ⟨some 24, .mv (.tmp 7), some (22, true), [2]⟩,
 ⟨some 25, .mv (.tmp 10), some (22, true), [2]⟩,
 ⟨some 26, .idxA 2 (.tmp 24) (.tmp 25), some (22, true), [4, 5, 2]⟩,
 ⟨some 27, .load (some 2) (.tmp 26), some (22, true), [6, 2]⟩,
 ⟨some 28, .load (some 2) (.tmp 9), some (22, true), [2]⟩,
 ⟨some 29, .call (.tmp 23) [(.tmp 27), (.tmp 28)], some (22, true), [3, 7, 8, 2, 2]⟩,
 ⟨some 30, .pick (.tmp 22) (.tmp 29) (.lit (.bool false)), none, [2, 9]⟩])
(.cond (.tmp 30) (.seq (.reg (some [0, 0, 0, 0, 0, 24, 56, 0, 252, 511, 1023]) [⟨some 31, .mv (.tmp 7), none, []⟩,
 ⟨some 32, .mv (.tmp 10), none, []⟩,
 ⟨some 33, .mv (.tmp 2), none, []⟩,
 ⟨some 34, .mv (.tmp 7), none, []⟩,
 ⟨some 35, .mv (.tmp 10), none, []⟩,
 ⟨some 36, .idxA 2 (.tmp 34) (.tmp 35), none, [3, 4]⟩,
 ⟨some 37, .load (some 2) (.tmp 36), none, [5]⟩,
 ⟨some 38, .load (some 2) (.tmp 9), none, []⟩,
 ⟨some 39, .call (.tmp 33) [(.tmp 37), (.tmp 38)], none, [2, 6, 7]⟩,
 ⟨some 40, .idxA 2 (.tmp 31) (.tmp 32), none, [0, 1, 0, 1, 2, 3, 4, 5, 6, 7, 8]⟩,
 ⟨none, .store 2 (.tmp 40) (.tmp 39), none, [9, 8, 8, 0, 1, 2, 3, 4, 5, 6, 7, 8]⟩])
(.exit 1)) .skip)))
(.reg none [⟨some 41, .mv (.tmp 7), none, []⟩,
 ⟨some 42, .load (some 2) (.tmp 9), none, []⟩,
 ⟨some 43, .bslc 2 [(.int .i64 0), (.int .i64 0)] 1 [(0, 2, (.tmp 42))], none, [1]⟩,
 ⟨some 44, .app 23 2 16 (.tmp 41) (.tmp 43), none, [0, 2]⟩,
 ⟨some 7, .mv (.tmp 44), none, [3, 3, 0, 1, 2, 3]⟩]))))
(.reg none [⟨some 45, .bin .add .int (.tmp 13) (.lit (.int .i64 1)), none, []⟩,
 ⟨some 13, .mv (.tmp 45), none, [0]⟩])))))))
(.seq (.reg none [⟨some 46, .mv (.tmp 7), none, []⟩,
 ⟨some 6, .mv (.tmp 46), none, [0, 0]⟩])
.ret)))) }
theorem c_interval_Folded_api_Interval : cFunc Try.prog n_interval_Folded_api_Interval = some f_interval_Folded_api_Interval := by kernel_rfl
end Go.Proofs.Ytihifhoemfpalaa.M
