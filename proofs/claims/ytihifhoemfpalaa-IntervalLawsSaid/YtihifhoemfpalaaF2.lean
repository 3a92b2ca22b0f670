/- Codes of the program's functions, compiled for the abstract machine; each compiled by the kernel's word. No condition. -/
import Derived.Test.YtihifhoemfpalaaProg
import Derived.KernelRfl
import Derived.Test.YtihifhoemfpalaaME
set_option maxRecDepth 100000
namespace Go.Proofs.Ytihifhoemfpalaa.M
open Go Go.Mini
/-- cmp.isNaN[int] -/
def f35 : SFunc := { ntmps := 6, results := [.tmp 2], body :=
(.seq (.reg none [⟨some 2, .mv (.lit (.bool false)), none, []⟩])
(.seq (.reg none [⟨some 3, .mv (.tmp 0), none, []⟩,
 ⟨some 4, .mv (.tmp 0), none, []⟩,
 ⟨some 5, .bin .neq .int (.tmp 3) (.tmp 4), none, [0, 1]⟩,
 ⟨some 2, .mv (.tmp 5), none, [2, 0, 1, 2]⟩])
.ret)) }
theorem c35 : cFunc Try.prog 35 = some f35 := by kernel_rfl
/-- slices.siftDownCmpFunc[palinode/api.Interval] -/
def f36 : SFunc := { ntmps := 82, results := [], body :=
(.seq (.reg none [⟨some 12, .mv (.tmp 1), none, []⟩,
 ⟨some 10, .mv (.tmp 12), none, [0, 0]⟩])
(.block 0 (.loop (.block 1 (.seq (.reg none [⟨some 13, .mv (.tmp 10), none, []⟩,
 ⟨some 14, .bin .mul .int (.lit (.int .i64 2)) (.tmp 13), none, [0]⟩,
 ⟨some 15, .bin .add .int (.tmp 14) (.lit (.int .i64 1)), none, [1]⟩,
 ⟨some 11, .mv (.tmp 15), none, [2, 0, 1, 2]⟩])
(.seq (.seq (.reg none [⟨some 16, .mv (.tmp 11), none, []⟩,
 ⟨some 17, .mv (.tmp 2), none, []⟩,
 ⟨some 18, .bin .geq .int (.tmp 16) (.tmp 17), none, [0, 1]⟩])
(.cond (.tmp 18) (.exit 0) .skip))
(.seq (.seq (.reg (some [0, 1, 0, 7, 15, 31, 31, 31, 31, 415, 991, 2015, 31, 31, 31, 24607, 57375, 127007, 258079, 524287, 1048575, 2097151]) [⟨some 19, .mv (.tmp 11), none, []⟩,
 ⟨some 20, .bin .add .int (.tmp 19) (.lit (.int .i64 1)), none, [0]⟩,
 ⟨some 21, .mv (.tmp 2), none, []⟩,
 ⟨some 22, .bin .lss .int (.tmp 20) (.tmp 21), none, [1, 2]⟩,
 ⟨some 23, .mv (.tmp 22), none, [3]⟩,
 ⟨some 24, .mv (.tmp 4), some (23, true), [4]⟩,
 ⟨some 25, .mv (.tmp 0), some (23, true), [4]⟩,
 ⟨some 26, .mv (.tmp 3), some (23, true), [4]⟩,
 ⟨some 27, .mv (.tmp 11), some (23, true), [4]⟩,
 ⟨some 28, .bin .add .int (.tmp 26) (.tmp 27), some (23, true), [7, 8, 4]⟩,
 ⟨some 29, .idxA 2 (.tmp 25) (.tmp 28), some (23, true), [6, 9, 4]⟩,
 ⟨some 30, .load (some 2) (.tmp 29), some (23, true), [10, 4]⟩,
 ⟨some 31, .mv (.tmp 0), some (23, true), [4]⟩,
 ⟨some 32, .mv (.tmp 3), some (23, true), [4]⟩,
 ⟨some 33, .mv (.tmp 11), some (23, true), [4]⟩,
 ⟨some 34, .bin .add .int (.tmp 32) (.tmp 33), some (23, true), [13, 14, 4]⟩,
 ⟨some 35, .bin .add .int (.tmp 34) (.lit (.int .i64 1)), some (23, true), [15, 4]⟩,
 ⟨some 36, .idxA 2 (.tmp 31) (.tmp 35), some (23, true), [12, 16, 4]⟩,
 ⟨some 37, .load (some 2) (.tmp 36), some (23, true), [17, 4]⟩,
 ⟨some 38, .call (.tmp 24) [(.tmp 30), (.tmp 37)], some (23, true), [5, 11, 18, 4, 4]⟩,
 ⟨some 39, .bin .lss .int (.tmp 38) (.lit (.int .i64 0)), some (23, true), [19, 4]⟩,
 ⟨some 40, .pick (.tmp 23) (.tmp 39) (.lit (.bool false)), none, [4, 20]⟩])
(.cond (.tmp 40) (.reg none [⟨some 41, .mv (.tmp 11), none, []⟩,
 ⟨some 42, .bin .add .int (.tmp 41) (.lit (.int .i64 1)), none, [0]⟩,
 ⟨some 11, .mv (.tmp 42), none, [1, 0, 1]⟩]) .skip))
(.seq (.seq (.reg (some [0, 0, 0, 0, 12, 30, 62, 0, 0, 0, 768, 1920, 3968, 8191, 16383, 32767]) [⟨some 43, .mv (.tmp 4), none, []⟩,
 ⟨some 44, .mv (.tmp 0), none, []⟩,
 ⟨some 45, .mv (.tmp 3), none, []⟩,
 ⟨some 46, .mv (.tmp 10), none, []⟩,
 ⟨some 47, .bin .add .int (.tmp 45) (.tmp 46), none, [2, 3]⟩,
 ⟨some 48, .idxA 2 (.tmp 44) (.tmp 47), none, [1, 4]⟩,
 ⟨some 49, .load (some 2) (.tmp 48), none, [5]⟩,
 ⟨some 50, .mv (.tmp 0), none, []⟩,
 ⟨some 51, .mv (.tmp 3), none, []⟩,
 ⟨some 52, .mv (.tmp 11), none, []⟩,
 ⟨some 53, .bin .add .int (.tmp 51) (.tmp 52), none, [8, 9]⟩,
 ⟨some 54, .idxA 2 (.tmp 50) (.tmp 53), none, [7, 10]⟩,
 ⟨some 55, .load (some 2) (.tmp 54), none, [11]⟩,
 ⟨some 56, .call (.tmp 43) [(.tmp 49), (.tmp 55)], none, [0, 6, 12]⟩,
 ⟨some 57, .bin .lss .int (.tmp 56) (.lit (.int .i64 0)), none, [13]⟩,
 ⟨some 58, .not (.tmp 57), none, [14]⟩])
(.cond (.tmp 58) .ret .skip))
(.seq (.reg (some [0, 0, 0, 6, 0, 0, 0, 96, 0, 0, 0, 1536, 3840, 7936, 0, 0, 0, 98304, 245760, 507904, 1048335, 2096911, 4194303, 8388607]) [⟨some 59, .mv (.tmp 0), none, []⟩,
 ⟨some 60, .mv (.tmp 3), none, []⟩,
 ⟨some 61, .mv (.tmp 10), none, []⟩,
 ⟨some 62, .bin .add .int (.tmp 60) (.tmp 61), none, [1, 2]⟩,
 ⟨some 63, .mv (.tmp 0), none, []⟩,
 ⟨some 64, .mv (.tmp 3), none, []⟩,
 ⟨some 65, .mv (.tmp 11), none, []⟩,
 ⟨some 66, .bin .add .int (.tmp 64) (.tmp 65), none, [5, 6]⟩,
 ⟨some 67, .mv (.tmp 0), none, []⟩,
 ⟨some 68, .mv (.tmp 3), none, []⟩,
 ⟨some 69, .mv (.tmp 11), none, []⟩,
 ⟨some 70, .bin .add .int (.tmp 68) (.tmp 69), none, [9, 10]⟩,
 ⟨some 71, .idxA 2 (.tmp 67) (.tmp 70), none, [8, 11]⟩,
 ⟨some 72, .load (some 2) (.tmp 71), none, [12]⟩,
 ⟨some 73, .mv (.tmp 0), none, []⟩,
 ⟨some 74, .mv (.tmp 3), none, []⟩,
 ⟨some 75, .mv (.tmp 10), none, []⟩,
 ⟨some 76, .bin .add .int (.tmp 74) (.tmp 75), none, [15, 16]⟩,
 ⟨some 77, .idxA 2 (.tmp 73) (.tmp 76), none, [14, 17]⟩,
 ⟨some 78, .load (some 2) (.tmp 77), none, [18]⟩,
 ⟨some 79, .idxA 2 (.tmp 59) (.tmp 62), none, [0, 3, 0, 1, 2, 3, 8, 9, 10, 11, 12, 13, 19]⟩,
 ⟨none, .store 2 (.tmp 79) (.tmp 72), none, [20, 13, 0, 1, 2, 3, 8, 9, 10, 11, 12, 13, 19]⟩,
 ⟨some 80, .idxA 2 (.tmp 63) (.tmp 66), none, [4, 7, 0, 1, 2, 3, 4, 5, 6, 7, 8, 9, 10, 11, 12, 13, 14, 15, 16, 17, 18, 19, 20, 21]⟩,
 ⟨none, .store 2 (.tmp 80) (.tmp 78), none, [22, 19, 21, 0, 1, 2, 3, 4, 5, 6, 7, 8, 9, 10, 11, 12, 13, 14, 15, 16, 17, 18, 19, 20, 21]⟩])
(.reg none [⟨some 81, .mv (.tmp 11), none, []⟩,
 ⟨some 10, .mv (.tmp 81), none, [0, 0]⟩])))))))))) }
theorem c36 : cFunc Try.prog 36 = some f36 := by kernel_rfl
/-- slices.nextPowerOfTwo -/
def f37 : SFunc := { ntmps := 7, results := [.tmp 2], body :=
(.seq (.reg none [⟨some 2, .mv (.lit (.int .u64 0)), none, []⟩])
(.seq (.reg none [⟨some 3, .mv (.tmp 0), none, []⟩,
 ⟨some 4, .cint .u64 (.tmp 3), none, [0]⟩,
 ⟨some 5, .call (.lit (.fn 22 [])) [(.tmp 4)], none, [1]⟩,
 ⟨some 6, .bin .shl .int (.lit (.int .u64 1)) (.tmp 5), none, [2]⟩,
 ⟨some 2, .mv (.tmp 6), none, [3, 2, 0, 1, 2, 3]⟩])
.ret)) }
theorem c37 : cFunc Try.prog 37 = some f37 := by kernel_rfl
/-- (*slices.xorshift).Next -/
def f38 : SFunc := { ntmps := 33, results := [.tmp 2], body :=
(.seq (.reg none [⟨some 2, .mv (.lit (.int .u64 0)), none, []⟩])
(.seq (.reg (some [0, 1, 3, 0, 8, 24, 56, 127, 255, 511]) [⟨some 3, .mv (.tmp 0), none, []⟩,
 ⟨some 4, .nilc (.tmp 3), none, [0]⟩,
 ⟨some 5, .load none (.tmp 4), none, [1]⟩,
 ⟨some 6, .mv (.tmp 0), none, []⟩,
 ⟨some 7, .nilc (.tmp 6), none, [3]⟩,
 ⟨some 8, .load none (.tmp 7), none, [4]⟩,
 ⟨some 9, .bin .shl .int (.tmp 8) (.lit (.int .u64 13)), none, [5]⟩,
 ⟨some 10, .bin .xor .int (.tmp 5) (.tmp 9), none, [2, 6]⟩,
 ⟨some 11, .nilc (.tmp 3), none, [0, 0, 1, 2, 3, 4, 5, 6, 7]⟩,
 ⟨none, .store 1 (.tmp 11) (.tmp 10), none, [8, 7, 0, 1, 2, 3, 4, 5, 6, 7]⟩])
(.seq (.reg (some [0, 1, 3, 0, 8, 24, 56, 127, 255, 511]) [⟨some 12, .mv (.tmp 0), none, []⟩,
 ⟨some 13, .nilc (.tmp 12), none, [0]⟩,
 ⟨some 14, .load none (.tmp 13), none, [1]⟩,
 ⟨some 15, .mv (.tmp 0), none, []⟩,
 ⟨some 16, .nilc (.tmp 15), none, [3]⟩,
 ⟨some 17, .load none (.tmp 16), none, [4]⟩,
 ⟨some 18, .bin .shr .int (.tmp 17) (.lit (.int .u64 7)), none, [5]⟩,
 ⟨some 19, .bin .xor .int (.tmp 14) (.tmp 18), none, [2, 6]⟩,
 ⟨some 20, .nilc (.tmp 12), none, [0, 0, 1, 2, 3, 4, 5, 6, 7]⟩,
 ⟨none, .store 1 (.tmp 20) (.tmp 19), none, [8, 7, 0, 1, 2, 3, 4, 5, 6, 7]⟩])
(.seq (.reg (some [0, 1, 3, 0, 8, 24, 56, 127, 255, 511]) [⟨some 21, .mv (.tmp 0), none, []⟩,
 ⟨some 22, .nilc (.tmp 21), none, [0]⟩,
 ⟨some 23, .load none (.tmp 22), none, [1]⟩,
 ⟨some 24, .mv (.tmp 0), none, []⟩,
 ⟨some 25, .nilc (.tmp 24), none, [3]⟩,
 ⟨some 26, .load none (.tmp 25), none, [4]⟩,
 ⟨some 27, .bin .shl .int (.tmp 26) (.lit (.int .u64 17)), none, [5]⟩,
 ⟨some 28, .bin .xor .int (.tmp 23) (.tmp 27), none, [2, 6]⟩,
 ⟨some 29, .nilc (.tmp 21), none, [0, 0, 1, 2, 3, 4, 5, 6, 7]⟩,
 ⟨none, .store 1 (.tmp 29) (.tmp 28), none, [8, 7, 0, 1, 2, 3, 4, 5, 6, 7]⟩])
(.seq (.reg none [⟨some 30, .mv (.tmp 0), none, []⟩,
 ⟨some 31, .nilc (.tmp 30), none, [0]⟩,
 ⟨some 32, .load none (.tmp 31), none, [1]⟩,
 ⟨some 2, .mv (.tmp 32), none, [2, 0, 1, 2]⟩])
.ret))))) }
theorem c38 : cFunc Try.prog 38 = some f38 := by kernel_rfl
/-- slices.medianAdjacentCmpFunc[palinode/api.Interval] -/
def f39 : SFunc := { ntmps := 18, results := [.tmp 8], body :=
(.seq (.reg none [⟨some 8, .mv (.lit (.int .i64 0)), none, []⟩])
(.seq (.reg none [⟨some 9, .mv (.tmp 0), none, []⟩,
 ⟨some 10, .mv (.tmp 1), none, []⟩,
 ⟨some 11, .bin .sub .int (.tmp 10) (.lit (.int .i64 1)), none, [1]⟩,
 ⟨some 12, .mv (.tmp 1), none, []⟩,
 ⟨some 13, .mv (.tmp 1), none, []⟩,
 ⟨some 14, .bin .add .int (.tmp 13) (.lit (.int .i64 1)), none, [4]⟩,
 ⟨some 15, .mv (.tmp 2), none, []⟩,
 ⟨some 16, .mv (.tmp 3), none, []⟩,
 ⟨some 17, .call (.lit (.fn 40 [])) [(.tmp 9), (.tmp 11), (.tmp 12), (.tmp 14), (.tmp 15), (.tmp 16)], none, [0, 2, 3, 5, 6, 7]⟩,
 ⟨some 8, .mv (.tmp 17), none, [8, 8, 0, 1, 2, 3, 4, 5, 6, 7, 8]⟩])
.ret)) }
theorem c39 : cFunc Try.prog 39 = some f39 := by kernel_rfl
/-- slices.medianCmpFunc[palinode/api.Interval] -/
def f40 : SFunc := { ntmps := 41, results := [.tmp 12], body :=
(.seq (.reg none [⟨some 12, .mv (.lit (.int .i64 0)), none, []⟩])
(.seq (.reg none [⟨some 14, .mv (.tmp 0), none, []⟩,
 ⟨some 15, .mv (.tmp 1), none, []⟩,
 ⟨some 16, .mv (.tmp 2), none, []⟩,
 ⟨some 17, .mv (.tmp 4), none, []⟩,
 ⟨some 18, .mv (.tmp 5), none, []⟩,
 ⟨some 19, .call (.lit (.fn 41 [])) [(.tmp 14), (.tmp 15), (.tmp 16), (.tmp 17), (.tmp 18)], none, [0, 1, 2, 3, 4]⟩,
 ⟨some 13, .mv (.tmp 19), none, [5]⟩,
 ⟨some 20, .ext (.tmp 13) 0, none, [6]⟩,
 ⟨some 21, .ext (.tmp 13) 1, none, [6]⟩,
 ⟨some 1, .mv (.tmp 20), none, [7, 5, 0, 1, 2, 3, 4, 5, 6, 7]⟩,
 ⟨some 2, .mv (.tmp 21), none, [8, 9, 0, 1, 2, 3, 4, 5, 6, 7, 8, 9]⟩])
(.seq (.reg none [⟨some 23, .mv (.tmp 0), none, []⟩,
 ⟨some 24, .mv (.tmp 2), none, []⟩,
 ⟨some 25, .mv (.tmp 3), none, []⟩,
 ⟨some 26, .mv (.tmp 4), none, []⟩,
 ⟨some 27, .mv (.tmp 5), none, []⟩,
 ⟨some 28, .call (.lit (.fn 41 [])) [(.tmp 23), (.tmp 24), (.tmp 25), (.tmp 26), (.tmp 27)], none, [0, 1, 2, 3, 4]⟩,
 ⟨some 22, .mv (.tmp 28), none, [5]⟩,
 ⟨some 29, .ext (.tmp 22) 0, none, [6]⟩,
 ⟨some 30, .ext (.tmp 22) 1, none, [6]⟩,
 ⟨some 2, .mv (.tmp 29), none, [7, 5, 0, 1, 2, 3, 4, 5, 6, 7]⟩,
 ⟨some 3, .mv (.tmp 30), none, [8, 9, 0, 1, 2, 3, 4, 5, 6, 7, 8, 9]⟩])
(.seq (.reg none [⟨some 32, .mv (.tmp 0), none, []⟩,
 ⟨some 33, .mv (.tmp 1), none, []⟩,
 ⟨some 34, .mv (.tmp 2), none, []⟩,
 ⟨some 35, .mv (.tmp 4), none, []⟩,
 ⟨some 36, .mv (.tmp 5), none, []⟩,
 ⟨some 37, .call (.lit (.fn 41 [])) [(.tmp 32), (.tmp 33), (.tmp 34), (.tmp 35), (.tmp 36)], none, [0, 1, 2, 3, 4]⟩,
 ⟨some 31, .mv (.tmp 37), none, [5]⟩,
 ⟨some 38, .ext (.tmp 31) 0, none, [6]⟩,
 ⟨some 39, .ext (.tmp 31) 1, none, [6]⟩,
 ⟨some 1, .mv (.tmp 38), none, [7, 5, 0, 1, 2, 3, 4, 5, 6, 7]⟩,
 ⟨some 2, .mv (.tmp 39), none, [8, 9, 0, 1, 2, 3, 4, 5, 6, 7, 8, 9]⟩])
(.seq (.reg none [⟨some 40, .mv (.tmp 2), none, []⟩,
 ⟨some 12, .mv (.tmp 40), none, [0, 0]⟩])
.ret))))) }
theorem c40 : cFunc Try.prog 40 = some f40 := by kernel_rfl
/-- slices.order2CmpFunc[palinode/api.Interval] -/
def f41 : SFunc := { ntmps := 32, results := [.tmp 10, .tmp 11], body :=
(.seq (.reg none [⟨some 10, .mv (.lit (.int .i64 0)), none, []⟩,
 ⟨some 11, .mv (.lit (.int .i64 0)), none, [0]⟩])
(.seq (.seq (.reg (some [0, 0, 0, 6, 14, 0, 0, 96, 224, 511, 1023]) [⟨some 12, .mv (.tmp 4), none, []⟩,
 ⟨some 13, .mv (.tmp 0), none, []⟩,
 ⟨some 14, .mv (.tmp 2), none, []⟩,
 ⟨some 15, .idxA 2 (.tmp 13) (.tmp 14), none, [1, 2]⟩,
 ⟨some 16, .load (some 2) (.tmp 15), none, [3]⟩,
 ⟨some 17, .mv (.tmp 0), none, []⟩,
 ⟨some 18, .mv (.tmp 1), none, []⟩,
 ⟨some 19, .idxA 2 (.tmp 17) (.tmp 18), none, [5, 6]⟩,
 ⟨some 20, .load (some 2) (.tmp 19), none, [7]⟩,
 ⟨some 21, .call (.tmp 12) [(.tmp 16), (.tmp 20)], none, [0, 4, 8]⟩,
 ⟨some 22, .bin .lss .int (.tmp 21) (.lit (.int .i64 0)), none, [9]⟩])
(.cond (.tmp 22) (.seq (.reg none [⟨some 23, .mv (.tmp 3), none, []⟩,
 ⟨some 24, .nilc (.tmp 23), none, [0]⟩,
 ⟨some 25, .load none (.tmp 24), none, [1]⟩,
 ⟨some 26, .bin .add .int (.tmp 25) (.lit (.int .i64 1)), none, [2]⟩,
 ⟨some 27, .nilc (.tmp 23), none, [0, 0, 1, 2, 3]⟩,
 ⟨none, .store 1 (.tmp 27) (.tmp 26), none, [4, 3, 0, 1, 2, 3]⟩])
(.seq (.reg none [⟨some 28, .mv (.tmp 2), none, []⟩,
 ⟨some 29, .mv (.tmp 1), none, []⟩,
 ⟨some 10, .mv (.tmp 28), none, [0, 0]⟩,
 ⟨some 11, .mv (.tmp 29), none, [1, 2, 0, 1, 2]⟩])
.ret)) .skip))
(.seq (.reg none [⟨some 30, .mv (.tmp 1), none, []⟩,
 ⟨some 31, .mv (.tmp 2), none, []⟩,
 ⟨some 10, .mv (.tmp 30), none, [0, 0]⟩,
 ⟨some 11, .mv (.tmp 31), none, [1, 2, 0, 1, 2]⟩])
.ret))) }
theorem c41 : cFunc Try.prog 41 = some f41 := by kernel_rfl
end Go.Proofs.Ytihifhoemfpalaa.M
