/- Codes of the program's functions, compiled for the abstract machine; each compiled by the kernel's word. No condition. -/
import Derived.Test.YtaakajfmbjjigaaFN
set_option maxRecDepth 100000
namespace Go.Proofs.Ytaakajfmbjjigaa.M
open Go Go.Mini
/-- palinode/palinodelaw19.same -/
def f_palinodelaw19_same : SFunc := { ntmps := 26, results := [.tmp 4], body :=
(.seq (.reg none [⟨some 4, .mv (.lit (.bool false)), none, []⟩])
(.seq (.seq (.reg none [⟨some 6, .mv (.tmp 0), none, []⟩,
 ⟨some 7, .len (.tmp 6), none, [0]⟩,
 ⟨some 8, .mv (.tmp 1), none, []⟩,
 ⟨some 9, .len (.tmp 8), none, [2]⟩,
 ⟨some 10, .bin .neq .int (.tmp 7) (.tmp 9), none, [1, 3]⟩])
(.cond (.tmp 10) (.seq (.reg none [⟨some 4, .mv (.lit (.bool false)), none, []⟩])
.ret) .skip))
(.seq (.seq (.reg none [⟨some 5, .mv (.lit (.int .i64 0)), none, []⟩])
(.block 0 (.loop (.seq (.seq (.reg none [⟨some 11, .mv (.tmp 5), none, []⟩,
 ⟨some 12, .mv (.tmp 0), none, []⟩,
 ⟨some 13, .len (.tmp 12), none, [1]⟩,
 ⟨some 14, .bin .lss .int (.tmp 11) (.tmp 13), none, [0, 2]⟩])
(.cond (.tmp 14) .skip (.exit 0)))
(.seq (.block 1 (.seq (.reg (some [0, 0, 3, 7, 0, 0, 48, 112, 255]) [⟨some 17, .mv (.tmp 0), none, []⟩,
 ⟨some 18, .mv (.tmp 5), none, []⟩,
 ⟨some 19, .idxA 1 (.tmp 17) (.tmp 18), none, [0, 1]⟩,
 ⟨some 20, .load none (.tmp 19), none, [2]⟩,
 ⟨some 21, .mv (.tmp 1), none, []⟩,
 ⟨some 22, .mv (.tmp 5), none, []⟩,
 ⟨some 23, .idxA 1 (.tmp 21) (.tmp 22), none, [4, 5]⟩,
 ⟨some 24, .load none (.tmp 23), none, [6]⟩,
 ⟨some 25, .bin .neq .int (.tmp 20) (.tmp 24), none, [3, 7]⟩])
(.cond (.tmp 25) (.seq (.reg none [⟨some 4, .mv (.lit (.bool false)), none, []⟩])
.ret) .skip)))
(.reg none [⟨some 15, .mv (.tmp 5), none, []⟩,
 ⟨some 16, .bin .add .int (.tmp 15) (.lit (.int .i64 1)), none, [0]⟩,
 ⟨some 5, .mv (.tmp 16), none, [1, 0, 1]⟩]))))))
(.seq (.reg none [⟨some 4, .mv (.lit (.bool true)), none, []⟩])
.ret)))) }
theorem c_palinodelaw19_same : cFunc Try.prog n_palinodelaw19_same = some f_palinodelaw19_same := by kernel_rfl
/-- (*palinode/rev.Revs).Floor -/
def f_rev_Revs_Floor : SFunc := { ntmps := 7, results := [.tmp 2], body :=
(.seq (.reg none [⟨some 2, .mv (.lit (.int .i64 0)), none, []⟩])
(.seq (.reg none [⟨some 3, .mv (.tmp 0), none, []⟩,
 ⟨some 4, .nilc (.tmp 3), none, [0]⟩,
 ⟨some 5, .fldA 1 (.tmp 4), none, [1]⟩,
 ⟨some 6, .load none (.tmp 5), none, [2]⟩,
 ⟨some 2, .mv (.tmp 6), none, [3, 0, 1, 2, 3]⟩])
.ret)) }
theorem c_rev_Revs_Floor : cFunc Try.prog n_rev_Revs_Floor = some f_rev_Revs_Floor := by kernel_rfl
/-- (*palinode/rev.Revs).Groups -/
def f_rev_Revs_Groups : SFunc := { ntmps := 8, results := [.tmp 2], body :=
(.seq (.reg none [⟨some 2, .mv (.lit .nils), none, []⟩])
(.seq (.reg none [⟨some 3, .mv (.tmp 0), none, []⟩,
 ⟨some 4, .nilc (.tmp 3), none, [0]⟩,
 ⟨some 5, .fldA 2 (.tmp 4), none, [1]⟩,
 ⟨some 6, .load none (.tmp 5), none, [2]⟩,
 ⟨some 7, .call (.lit (.fn 28 [])) [(.tmp 6)], none, [3]⟩,
 ⟨some 2, .mv (.tmp 7), none, [4, 4, 0, 1, 2, 3, 4]⟩])
.ret)) }
theorem c_rev_Revs_Groups : cFunc Try.prog n_rev_Revs_Groups = some f_rev_Revs_Groups := by kernel_rfl
/-- (*palinode/rev.Revs).Live -/
def f_rev_Revs_Live : SFunc := { ntmps := 17, results := [.tmp 4], body :=
(.seq (.reg none [⟨some 4, .mv (.lit (.bool false)), none, []⟩])
(.seq (.reg none [⟨some 5, .mv (.tmp 1), none, []⟩,
 ⟨some 6, .mv (.tmp 0), none, []⟩,
 ⟨some 7, .nilc (.tmp 6), none, [1]⟩,
 ⟨some 8, .fldA 1 (.tmp 7), none, [2]⟩,
 ⟨some 9, .load none (.tmp 8), none, [3]⟩,
 ⟨some 10, .bin .geq .int (.tmp 5) (.tmp 9), none, [0, 4]⟩,
 ⟨some 11, .mv (.tmp 10), none, [5]⟩,
 ⟨some 12, .mv (.tmp 1), some (11, true), [6]⟩,
 ⟨some 13, .mv (.tmp 0), some (11, true), [6]⟩,
 ⟨some 14, .call (.lit (.fn 12 [])) [(.tmp 13)], some (11, true), [8, 6, 6]⟩,
 ⟨some 15, .bin .leq .int (.tmp 12) (.tmp 14), some (11, true), [7, 9, 6]⟩,
 ⟨some 16, .pick (.tmp 11) (.tmp 15) (.lit (.bool false)), none, [6, 10]⟩,
 ⟨some 4, .mv (.tmp 16), none, [11, 9, 0, 1, 2, 3, 4, 5, 6, 7, 8, 9, 10, 11]⟩])
.ret)) }
theorem c_rev_Revs_Live : cFunc Try.prog n_rev_Revs_Live = some f_rev_Revs_Live := by kernel_rfl
/-- palinode/palinoderef20.NewRevs -/
def f_palinoderef20_NewRevs : SFunc := { ntmps := 4, results := [.tmp 0], body :=
(.seq (.reg none [⟨some 0, .mv (.lit .nilp), none, []⟩])
(.seq (.reg none [⟨some 1, .bslc 1 [.nils] 1 [(0, 1, (.lit .nils))], none, []⟩,
 ⟨some 2, .build ([(.int .i64 0), (.int .i64 0)] ++ (bitRow 120 (fun _ => false) ++ ([.nils]))) [(122, 1, (.tmp 1))], none, [0]⟩,
 ⟨some 3, .box (.tmp 2), none, [1]⟩,
 ⟨some 0, .mv (.tmp 3), none, [2, 0, 1, 2]⟩])
.ret)) }
theorem c_palinoderef20_NewRevs : cFunc Try.prog n_palinoderef20_NewRevs = some f_palinoderef20_NewRevs := by kernel_rfl
/-- (*palinode/rev.Revs).Copy -/
def f_rev_Revs_Copy : SFunc := { ntmps := 44, results := [.tmp 2], body :=
(.seq (.reg none [⟨some 2, .mv (.lit .nilp), none, []⟩])
(.seq (.reg (some [0, 1, 3, 7, 0, 16, 48, 112, 240, 0, 512, 1536, 3584, 8176, 16383, 32767, 65535]) [⟨some 6, .mv (.tmp 0), none, []⟩,
 ⟨some 7, .nilc (.tmp 6), none, [0]⟩,
 ⟨some 8, .fldA 1 (.tmp 7), none, [1]⟩,
 ⟨some 9, .load none (.tmp 8), none, [2]⟩,
 ⟨some 10, .mv (.tmp 0), none, []⟩,
 ⟨some 11, .nilc (.tmp 10), none, [4]⟩,
 ⟨some 12, .fldA 2 (.tmp 11), none, [5]⟩,
 ⟨some 13, .load none (.tmp 12), none, [6]⟩,
 ⟨some 14, .call (.lit (.fn 30 [])) [(.tmp 13)], none, [7]⟩,
 ⟨some 15, .mv (.tmp 0), none, []⟩,
 ⟨some 16, .nilc (.tmp 15), none, [9]⟩,
 ⟨some 17, .fldA 3 (.tmp 16), none, [10]⟩,
 ⟨some 18, .load none (.tmp 17), none, [11]⟩,
 ⟨some 19, .call (.lit (.fn 30 [])) [(.tmp 18)], none, [12, 8]⟩,
 ⟨some 20, .build [.nils, (.int .i64 0), (.raw (.map none)), (.raw (.map none))] [(1, 1, (.tmp 9)), (2, 1, (.tmp 14)), (3, 1, (.tmp 19))], none, [3, 8, 13]⟩,
 ⟨some 21, .box (.tmp 20), none, [14]⟩,
 ⟨some 3, .mv (.tmp 21), none, [15, 13, 0, 1, 2, 3, 4, 5, 6, 7, 8, 9, 10, 11, 12, 13, 14, 15]⟩])
(.seq (.seq (.reg none [⟨some 22, .mv (.tmp 0), none, []⟩,
 ⟨some 23, .nilc (.tmp 22), none, [0]⟩,
 ⟨some 24, .fldA 0 (.tmp 23), none, [1]⟩,
 ⟨some 25, .load none (.tmp 24), none, [2]⟩,
 ⟨some 26, .len (.tmp 25), none, [3]⟩,
 ⟨some 27, .mv (.lit (.int .i64 0)), none, []⟩])
(.block 0 (.loop (.seq (.reg none [⟨some 28, .bin .lss .int (.tmp 27) (.tmp 26), none, []⟩])
(.seq (.cond (.tmp 28) .skip (.exit 0))
(.seq (.block 1 (.seq (.reg none [⟨some 29, .idxA 1 (.tmp 25) (.tmp 27), none, []⟩,
 ⟨some 30, .load none (.tmp 29), none, [0]⟩,
 ⟨some 5, .mv (.tmp 30), none, [1, 0, 1]⟩])
(.reg (some [0, 0, 2, 6, 14, 0, 32, 96, 254, 511, 1023, 2047]) [⟨some 31, .mv (.tmp 3), none, []⟩,
 ⟨some 32, .mv (.tmp 3), none, []⟩,
 ⟨some 33, .nilc (.tmp 32), none, [1]⟩,
 ⟨some 34, .fldA 0 (.tmp 33), none, [2]⟩,
 ⟨some 35, .load none (.tmp 34), none, [3]⟩,
 ⟨some 36, .mv (.tmp 5), none, []⟩,
 ⟨some 37, .call (.lit (.fn 30 [])) [(.tmp 36)], none, [5]⟩,
 ⟨some 38, .bslc 1 [(.raw (.map none))] 1 [(0, 1, (.tmp 37))], none, [6]⟩,
 ⟨some 39, .app 57 1 8 (.tmp 35) (.tmp 38), none, [4, 7, 6]⟩,
 ⟨some 40, .nilc (.tmp 31), none, [0, 0, 1, 2, 3, 4, 5, 6, 7, 8]⟩,
 ⟨some 41, .fldA 0 (.tmp 40), none, [9, 0, 1, 2, 3, 4, 5, 6, 7, 8]⟩,
 ⟨none, .store 1 (.tmp 41) (.tmp 39), none, [10, 8, 8, 0, 1, 2, 3, 4, 5, 6, 7, 8]⟩])))
(.reg none [⟨some 42, .bin .add .int (.tmp 27) (.lit (.int .i64 1)), none, []⟩,
 ⟨some 27, .mv (.tmp 42), none, [0]⟩])))))))
(.seq (.reg none [⟨some 43, .mv (.tmp 3), none, []⟩,
 ⟨some 2, .mv (.tmp 43), none, [0, 0]⟩])
.ret)))) }
theorem c_rev_Revs_Copy : cFunc Try.prog n_rev_Revs_Copy = some f_rev_Revs_Copy := by kernel_rfl
/-- (*palinode/palinoderef20.Revs).Add -/
def f_palinoderef20_Revs_Add : SFunc := { ntmps := 39, results := [.tmp 4, .tmp 5], body :=
(.seq (.reg none [⟨some 4, .mv (.lit (.int .i64 0)), none, []⟩,
 ⟨some 5, .mv (.lit (.int .i64 0)), none, [0]⟩])
(.seq (.seq (.reg none [⟨some 6, .mv (.tmp 1), none, []⟩,
 ⟨some 7, .call (.lit (.fn 31 [])) [(.tmp 6)], none, [0]⟩,
 ⟨some 8, .not (.tmp 7), none, [1]⟩,
 ⟨some 9, .mv (.tmp 8), none, [2, 1]⟩,
 ⟨some 10, .mv (.tmp 0), some (9, false), [3]⟩,
 ⟨some 11, .mv (.tmp 1), some (9, false), [3]⟩,
 ⟨some 12, .nilc (.tmp 10), some (9, false), [4, 3]⟩,
 ⟨some 13, .fldA 62 (.tmp 12), some (9, false), [6, 3]⟩,
 ⟨some 14, .idxR 60 1 (.tmp 13) (.tmp 11), some (9, false), [7, 5, 3]⟩,
 ⟨some 15, .load none (.tmp 14), some (9, false), [8, 3]⟩,
 ⟨some 16, .pick (.tmp 9) (.lit (.bool true)) (.tmp 15), none, [3, 9]⟩])
(.cond (.tmp 16) (.seq (.reg none [⟨some 4, .mv (.lit (.int .i64 0)), none, []⟩,
 ⟨some 5, .mv (.lit (.int .i64 210)), none, [0, 0]⟩])
.ret) .skip))
(.seq (.seq (.reg none [⟨some 17, .mv (.tmp 0), none, []⟩,
 ⟨some 18, .nilc (.tmp 17), none, [0]⟩,
 ⟨some 19, .fldA 0 (.tmp 18), none, [1]⟩,
 ⟨some 20, .load none (.tmp 19), none, [2]⟩,
 ⟨some 21, .bin .eql .int (.tmp 20) (.lit (.int .i64 200)), none, [3]⟩])
(.cond (.tmp 21) (.seq (.reg none [⟨some 4, .mv (.lit (.int .i64 0)), none, []⟩,
 ⟨some 5, .mv (.lit (.int .i64 70)), none, [0, 0]⟩])
.ret) .skip))
(.seq (.reg none [⟨some 22, .mv (.tmp 0), none, []⟩,
 ⟨some 23, .mv (.tmp 1), none, []⟩,
 ⟨some 24, .nilc (.tmp 22), none, [0]⟩,
 ⟨some 25, .fldA 2 (.tmp 24), none, [2]⟩,
 ⟨some 26, .idxR 60 1 (.tmp 25) (.tmp 23), none, [3, 1, 0, 1]⟩,
 ⟨none, .store 1 (.tmp 26) (.lit (.bool true)), none, [4, 0, 1]⟩])
(.seq (.reg (some [0, 0, 2, 6, 14, 0, 32, 96, 224, 510, 1022, 2047, 4095, 8191]) [⟨some 27, .mv (.tmp 0), none, []⟩,
 ⟨some 28, .mv (.tmp 0), none, []⟩,
 ⟨some 29, .nilc (.tmp 28), none, [1]⟩,
 ⟨some 30, .fldA 122 (.tmp 29), none, [2]⟩,
 ⟨some 31, .load none (.tmp 30), none, [3]⟩,
 ⟨some 32, .mv (.tmp 0), none, []⟩,
 ⟨some 33, .nilc (.tmp 32), none, [5]⟩,
 ⟨some 34, .fldA 0 (.tmp 33), none, [6]⟩,
 ⟨some 35, .load none (.tmp 34), none, [7]⟩,
 ⟨some 36, .idxA 1 (.tmp 31) (.tmp 35), none, [4, 8]⟩,
 ⟨some 37, .load none (.tmp 36), none, [9]⟩,
 ⟨some 38, .call (.lit (.fn 32 [])) [(.tmp 27), (.tmp 37)], none, [0, 10]⟩,
 ⟨some 4, .mv (.tmp 38), none, [11, 11, 0, 1, 2, 3, 4, 5, 6, 7, 8, 9, 10, 11]⟩,
 ⟨some 5, .mv (.lit (.int .i64 0)), none, [12, 0, 1, 2, 3, 4, 5, 6, 7, 8, 9, 10, 11, 12]⟩])
.ret))))) }
theorem c_palinoderef20_Revs_Add : cFunc Try.prog n_palinoderef20_Revs_Add = some f_palinoderef20_Revs_Add := by kernel_rfl
/-- (*palinode/palinoderef20.Revs).Toggle -/
def f_palinoderef20_Revs_Toggle : SFunc := { ntmps := 29, results := [.tmp 4, .tmp 5], body :=
(.seq (.reg none [⟨some 4, .mv (.lit (.int .i64 0)), none, []⟩,
 ⟨some 5, .mv (.lit (.int .i64 0)), none, [0]⟩])
(.seq (.seq (.reg none [⟨some 6, .mv (.tmp 0), none, []⟩,
 ⟨some 7, .mv (.tmp 1), none, []⟩,
 ⟨some 8, .call (.lit (.fn 33 [])) [(.tmp 6), (.tmp 7)], none, [0, 1]⟩,
 ⟨some 9, .not (.tmp 8), none, [2]⟩])
(.cond (.tmp 9) (.seq (.reg none [⟨some 4, .mv (.lit (.int .i64 0)), none, []⟩,
 ⟨some 5, .mv (.lit (.int .i64 210)), none, [0, 0]⟩])
.ret) .skip))
(.seq (.seq (.reg none [⟨some 10, .mv (.tmp 0), none, []⟩,
 ⟨some 11, .nilc (.tmp 10), none, [0]⟩,
 ⟨some 12, .fldA 0 (.tmp 11), none, [1]⟩,
 ⟨some 13, .load none (.tmp 12), none, [2]⟩,
 ⟨some 14, .bin .eql .int (.tmp 13) (.lit (.int .i64 200)), none, [3]⟩])
(.cond (.tmp 14) (.seq (.reg none [⟨some 4, .mv (.lit (.int .i64 0)), none, []⟩,
 ⟨some 5, .mv (.lit (.int .i64 70)), none, [0, 0]⟩])
.ret) .skip))
(.seq (.reg (some [0, 0, 2, 6, 14, 0, 32, 96, 224, 510, 1022, 0, 4094, 8191, 16383, 32767]) [⟨some 15, .mv (.tmp 0), none, []⟩,
 ⟨some 16, .mv (.tmp 0), none, []⟩,
 ⟨some 17, .nilc (.tmp 16), none, [1]⟩,
 ⟨some 18, .fldA 122 (.tmp 17), none, [2]⟩,
 ⟨some 19, .load none (.tmp 18), none, [3]⟩,
 ⟨some 20, .mv (.tmp 0), none, []⟩,
 ⟨some 21, .nilc (.tmp 20), none, [5]⟩,
 ⟨some 22, .fldA 0 (.tmp 21), none, [6]⟩,
 ⟨some 23, .load none (.tmp 22), none, [7]⟩,
 ⟨some 24, .idxA 1 (.tmp 19) (.tmp 23), none, [4, 8]⟩,
 ⟨some 25, .load none (.tmp 24), none, [9]⟩,
 ⟨some 26, .mv (.tmp 1), none, []⟩,
 ⟨some 27, .call (.lit (.fn 34 [])) [(.tmp 25), (.tmp 26)], none, [10, 11]⟩,
 ⟨some 28, .call (.lit (.fn 32 [])) [(.tmp 15), (.tmp 27)], none, [0, 12, 12]⟩,
 ⟨some 4, .mv (.tmp 28), none, [13, 13, 0, 1, 2, 3, 4, 5, 6, 7, 8, 9, 10, 11, 12, 13]⟩,
 ⟨some 5, .mv (.lit (.int .i64 0)), none, [14, 0, 1, 2, 3, 4, 5, 6, 7, 8, 9, 10, 11, 12, 13, 14]⟩])
.ret)))) }
theorem c_palinoderef20_Revs_Toggle : cFunc Try.prog n_palinoderef20_Revs_Toggle = some f_palinoderef20_Revs_Toggle := by kernel_rfl
/-- (*palinode/palinoderef20.Revs).Forget -/
def f_palinoderef20_Revs_Forget : SFunc := { ntmps := 94, results := [.tmp 4], body :=
(.seq (.reg none [⟨some 4, .mv (.lit (.int .i64 0)), none, []⟩])
(.seq (.seq (.reg none [⟨some 5, .mv (.lit (.int .i64 0)), none, []⟩])
(.block 0 (.loop (.seq (.seq (.reg none [⟨some 10, .mv (.tmp 5), none, []⟩,
 ⟨some 11, .mv (.tmp 1), none, []⟩,
 ⟨some 12, .len (.tmp 11), none, [1]⟩,
 ⟨some 13, .bin .lss .int (.tmp 10) (.tmp 12), none, [0, 2]⟩])
(.cond (.tmp 13) .skip (.exit 0)))
(.seq (.block 1 (.seq (.reg (some [0, 0, 0, 6, 14, 31, 63, 127, 255, 255, 1023, 255, 255, 6399, 14591, 32767, 65535]) [⟨some 16, .mv (.tmp 0), none, []⟩,
 ⟨some 17, .mv (.tmp 1), none, []⟩,
 ⟨some 18, .mv (.tmp 5), none, []⟩,
 ⟨some 19, .idxA 1 (.tmp 17) (.tmp 18), none, [1, 2]⟩,
 ⟨some 20, .load none (.tmp 19), none, [3]⟩,
 ⟨some 21, .call (.lit (.fn 33 [])) [(.tmp 16), (.tmp 20)], none, [0, 4]⟩,
 ⟨some 22, .not (.tmp 21), none, [5]⟩,
 ⟨some 23, .mv (.tmp 22), none, [6, 5]⟩,
 ⟨some 24, .mv (.tmp 1), some (23, false), [7]⟩,
 ⟨some 25, .mv (.tmp 5), some (23, false), [7]⟩,
 ⟨some 26, .slc 1 (.tmp 24) none (some (.tmp 25)) none, some (23, false), [8, 9, 7]⟩,
 ⟨some 27, .mv (.tmp 1), some (23, false), [7]⟩,
 ⟨some 28, .mv (.tmp 5), some (23, false), [7]⟩,
 ⟨some 29, .idxA 1 (.tmp 27) (.tmp 28), some (23, false), [11, 12, 7]⟩,
 ⟨some 30, .load none (.tmp 29), some (23, false), [13, 7]⟩,
 ⟨some 31, .call (.lit (.fn 35 [])) [(.tmp 26), (.tmp 30)], some (23, false), [10, 14, 7, 7]⟩,
 ⟨some 32, .pick (.tmp 23) (.lit (.bool true)) (.tmp 31), none, [7, 15]⟩])
(.cond (.tmp 32) (.seq (.reg none [⟨some 4, .mv (.lit (.int .i64 210)), none, []⟩])
.ret) .skip)))
(.reg none [⟨some 14, .mv (.tmp 5), none, []⟩,
 ⟨some 15, .bin .add .int (.tmp 14) (.lit (.int .i64 1)), none, [0]⟩,
 ⟨some 5, .mv (.tmp 15), none, [1, 0, 1]⟩]))))))
(.seq (.reg none [⟨some 6, .mv (.lit .nils), none, []⟩])
(.seq (.reg (some [0, 1, 3, 7, 0, 16, 48, 112, 255, 511, 1023]) [⟨some 33, .mv (.tmp 0), none, []⟩,
 ⟨some 34, .nilc (.tmp 33), none, [0]⟩,
 ⟨some 35, .fldA 122 (.tmp 34), none, [1]⟩,
 ⟨some 36, .load none (.tmp 35), none, [2]⟩,
 ⟨some 37, .mv (.tmp 0), none, []⟩,
 ⟨some 38, .nilc (.tmp 37), none, [4]⟩,
 ⟨some 39, .fldA 0 (.tmp 38), none, [5]⟩,
 ⟨some 40, .load none (.tmp 39), none, [6]⟩,
 ⟨some 41, .idxA 1 (.tmp 36) (.tmp 40), none, [3, 7]⟩,
 ⟨some 42, .load none (.tmp 41), none, [8]⟩,
 ⟨some 7, .mv (.tmp 42), none, [9, 0, 1, 2, 3, 4, 5, 6, 7, 8, 9]⟩])
(.seq (.seq (.reg none [⟨some 8, .mv (.lit (.int .i64 0)), none, []⟩])
(.block 2 (.loop (.seq (.seq (.reg none [⟨some 43, .mv (.tmp 8), none, []⟩,
 ⟨some 44, .mv (.tmp 7), none, []⟩,
 ⟨some 45, .len (.tmp 44), none, [1]⟩,
 ⟨some 46, .bin .lss .int (.tmp 43) (.tmp 45), none, [0, 2]⟩])
(.cond (.tmp 46) .skip (.exit 2)))
(.seq (.block 3 (.seq (.reg none [⟨some 49, .mv (.tmp 1), none, []⟩,
 ⟨some 50, .mv (.tmp 7), none, []⟩,
 ⟨some 51, .mv (.tmp 8), none, []⟩,
 ⟨some 52, .idxA 1 (.tmp 50) (.tmp 51), none, [1, 2]⟩,
 ⟨some 53, .load none (.tmp 52), none, [3]⟩,
 ⟨some 54, .call (.lit (.fn 35 [])) [(.tmp 49), (.tmp 53)], none, [0, 4]⟩,
 ⟨some 55, .not (.tmp 54), none, [5]⟩])
(.cond (.tmp 55) (.reg none [⟨some 56, .mv (.tmp 6), none, []⟩,
 ⟨some 57, .mv (.tmp 7), none, []⟩,
 ⟨some 58, .mv (.tmp 8), none, []⟩,
 ⟨some 59, .idxA 1 (.tmp 57) (.tmp 58), none, [1, 2]⟩,
 ⟨some 60, .load none (.tmp 59), none, [3]⟩,
 ⟨some 61, .bslc 1 [(.int .i64 0)] 1 [(0, 1, (.tmp 60))], none, [4]⟩,
 ⟨some 62, .app 3 1 8 (.tmp 56) (.tmp 61), none, [0, 5]⟩,
 ⟨some 6, .mv (.tmp 62), none, [6, 6, 0, 1, 2, 3, 4, 5, 6]⟩]) .skip)))
(.reg none [⟨some 47, .mv (.tmp 8), none, []⟩,
 ⟨some 48, .bin .add .int (.tmp 47) (.lit (.int .i64 1)), none, [0]⟩,
 ⟨some 8, .mv (.tmp 48), none, [1, 0, 1]⟩]))))))
(.seq (.reg (some [0, 1, 3, 7, 0, 16, 48, 112, 0, 511, 1023]) [⟨some 63, .mv (.tmp 0), none, []⟩,
 ⟨some 64, .nilc (.tmp 63), none, [0]⟩,
 ⟨some 65, .fldA 122 (.tmp 64), none, [1]⟩,
 ⟨some 66, .load none (.tmp 65), none, [2]⟩,
 ⟨some 67, .mv (.tmp 0), none, []⟩,
 ⟨some 68, .nilc (.tmp 67), none, [4]⟩,
 ⟨some 69, .fldA 0 (.tmp 68), none, [5]⟩,
 ⟨some 70, .load none (.tmp 69), none, [6]⟩,
 ⟨some 71, .mv (.tmp 6), none, []⟩,
 ⟨some 72, .idxA 1 (.tmp 66) (.tmp 70), none, [3, 7, 0, 1, 2, 3, 4, 5, 6, 7, 8]⟩,
 ⟨none, .store 1 (.tmp 72) (.tmp 71), none, [9, 8, 0, 1, 2, 3, 4, 5, 6, 7, 8]⟩])
(.seq (.seq (.reg none [⟨some 9, .mv (.lit (.int .i64 0)), none, []⟩])
(.block 4 (.loop (.seq (.seq (.reg none [⟨some 73, .mv (.tmp 9), none, []⟩,
 ⟨some 74, .mv (.tmp 1), none, []⟩,
 ⟨some 75, .len (.tmp 74), none, [1]⟩,
 ⟨some 76, .bin .lss .int (.tmp 73) (.tmp 75), none, [0, 2]⟩])
(.cond (.tmp 76) .skip (.exit 4)))
(.seq (.block 5 (.reg (some [0, 0, 0, 6, 14, 1, 33, 127, 255]) [⟨some 79, .mv (.tmp 0), none, []⟩,
 ⟨some 80, .mv (.tmp 1), none, []⟩,
 ⟨some 81, .mv (.tmp 9), none, []⟩,
 ⟨some 82, .idxA 1 (.tmp 80) (.tmp 81), none, [1, 2]⟩,
 ⟨some 83, .load none (.tmp 82), none, [3]⟩,
 ⟨some 84, .nilc (.tmp 79), none, [0]⟩,
 ⟨some 85, .fldA 62 (.tmp 84), none, [5]⟩,
 ⟨some 86, .idxR 60 1 (.tmp 85) (.tmp 83), none, [6, 4, 0, 1, 2, 3, 4]⟩,
 ⟨none, .store 1 (.tmp 86) (.lit (.bool true)), none, [7, 0, 1, 2, 3, 4]⟩]))
(.reg none [⟨some 77, .mv (.tmp 9), none, []⟩,
 ⟨some 78, .bin .add .int (.tmp 77) (.lit (.int .i64 1)), none, [0]⟩,
 ⟨some 9, .mv (.tmp 78), none, [1, 0, 1]⟩]))))))
(.seq (.reg none [⟨some 87, .mv (.tmp 0), none, []⟩,
 ⟨some 88, .mv (.tmp 0), none, []⟩,
 ⟨some 89, .nilc (.tmp 88), none, [1]⟩,
 ⟨some 90, .fldA 0 (.tmp 89), none, [2]⟩,
 ⟨some 91, .load none (.tmp 90), none, [3]⟩,
 ⟨some 92, .nilc (.tmp 87), none, [0, 0, 1, 2, 3, 4]⟩,
 ⟨some 93, .fldA 1 (.tmp 92), none, [5, 0, 1, 2, 3, 4]⟩,
 ⟨none, .store 1 (.tmp 93) (.tmp 91), none, [6, 4, 0, 1, 2, 3, 4]⟩])
(.seq (.reg none [⟨some 4, .mv (.lit (.int .i64 0)), none, []⟩])
.ret))))))))) }
theorem c_palinoderef20_Revs_Forget : cFunc Try.prog n_palinoderef20_Revs_Forget = some f_palinoderef20_Revs_Forget := by kernel_rfl
/-- (*palinode/palinoderef20.Revs).Groups -/
def f_palinoderef20_Revs_Groups : SFunc := { ntmps := 17, results := [.tmp 2], body :=
(.seq (.reg none [⟨some 2, .mv (.lit .nils), none, []⟩])
(.seq (.reg none [⟨some 3, .mv (.lit .nils), none, []⟩])
(.seq (.seq (.reg none [⟨some 4, .mv (.lit (.int .i64 0)), none, []⟩])
(.block 0 (.loop (.seq (.seq (.reg none [⟨some 5, .mv (.tmp 4), none, []⟩,
 ⟨some 6, .bin .lss .int (.tmp 5) (.lit (.int .i64 60)), none, [0]⟩])
(.cond (.tmp 6) .skip (.exit 0)))
(.seq (.block 1 (.seq (.reg none [⟨some 9, .mv (.tmp 0), none, []⟩,
 ⟨some 10, .mv (.tmp 4), none, []⟩,
 ⟨some 11, .call (.lit (.fn 33 [])) [(.tmp 9), (.tmp 10)], none, [0, 1]⟩])
(.cond (.tmp 11) (.reg none [⟨some 12, .mv (.tmp 3), none, []⟩,
 ⟨some 13, .mv (.tmp 4), none, []⟩,
 ⟨some 14, .bslc 1 [(.int .i64 0)] 1 [(0, 1, (.tmp 13))], none, [1]⟩,
 ⟨some 15, .app 3 1 8 (.tmp 12) (.tmp 14), none, [0, 2]⟩,
 ⟨some 3, .mv (.tmp 15), none, [3, 3, 0, 1, 2, 3]⟩]) .skip)))
(.reg none [⟨some 7, .mv (.tmp 4), none, []⟩,
 ⟨some 8, .bin .add .int (.tmp 7) (.lit (.int .i64 1)), none, [0]⟩,
 ⟨some 4, .mv (.tmp 8), none, [1, 0, 1]⟩]))))))
(.seq (.reg none [⟨some 16, .mv (.tmp 3), none, []⟩,
 ⟨some 2, .mv (.tmp 16), none, [0, 0]⟩])
.ret)))) }
theorem c_palinoderef20_Revs_Groups : cFunc Try.prog n_palinoderef20_Revs_Groups = some f_palinoderef20_Revs_Groups := by kernel_rfl
/-- (*palinode/palinoderef20.Revs).Live -/
def f_palinoderef20_Revs_Live : SFunc := { ntmps := 19, results := [.tmp 4], body :=
(.seq (.reg none [⟨some 4, .mv (.lit (.bool false)), none, []⟩])
(.seq (.reg none [⟨some 5, .mv (.tmp 1), none, []⟩,
 ⟨some 6, .mv (.tmp 0), none, []⟩,
 ⟨some 7, .nilc (.tmp 6), none, [1]⟩,
 ⟨some 8, .fldA 1 (.tmp 7), none, [2]⟩,
 ⟨some 9, .load none (.tmp 8), none, [3]⟩,
 ⟨some 10, .bin .geq .int (.tmp 5) (.tmp 9), none, [0, 4]⟩,
 ⟨some 11, .mv (.tmp 10), none, [5]⟩,
 ⟨some 12, .mv (.tmp 1), some (11, true), [6]⟩,
 ⟨some 13, .mv (.tmp 0), some (11, true), [6]⟩,
 ⟨some 14, .nilc (.tmp 13), some (11, true), [8, 6]⟩,
 ⟨some 15, .fldA 0 (.tmp 14), some (11, true), [9, 6]⟩,
 ⟨some 16, .load none (.tmp 15), some (11, true), [10, 6]⟩,
 ⟨some 17, .bin .leq .int (.tmp 12) (.tmp 16), some (11, true), [7, 11, 6]⟩,
 ⟨some 18, .pick (.tmp 11) (.tmp 17) (.lit (.bool false)), none, [6, 12]⟩,
 ⟨some 4, .mv (.tmp 18), none, [13, 6, 0, 1, 2, 3, 4, 5, 6, 7, 8, 9, 10, 11, 12, 13]⟩])
.ret)) }
theorem c_palinoderef20_Revs_Live : cFunc Try.prog n_palinoderef20_Revs_Live = some f_palinoderef20_Revs_Live := by kernel_rfl
/-- (*palinode/palinoderef20.Revs).Undone -/
def f_palinoderef20_Revs_Undone : SFunc := { ntmps := 16, results := [.tmp 4], body :=
(.seq (.reg none [⟨some 4, .mv (.lit .nils), none, []⟩])
(.seq (.seq (.reg none [⟨some 5, .mv (.tmp 0), none, []⟩,
 ⟨some 6, .mv (.tmp 1), none, []⟩,
 ⟨some 7, .call (.lit (.fn 25 [])) [(.tmp 5), (.tmp 6)], none, [0, 1]⟩,
 ⟨some 8, .not (.tmp 7), none, [2]⟩])
(.cond (.tmp 8) (.seq (.reg none [⟨some 4, .mv (.lit .nils), none, []⟩])
.ret) .skip))
(.seq (.reg none [⟨some 9, .mv (.tmp 0), none, []⟩,
 ⟨some 10, .nilc (.tmp 9), none, [0]⟩,
 ⟨some 11, .fldA 122 (.tmp 10), none, [1]⟩,
 ⟨some 12, .load none (.tmp 11), none, [2]⟩,
 ⟨some 13, .mv (.tmp 1), none, []⟩,
 ⟨some 14, .idxA 1 (.tmp 12) (.tmp 13), none, [3, 4]⟩,
 ⟨some 15, .load none (.tmp 14), none, [5]⟩,
 ⟨some 4, .mv (.tmp 15), none, [6, 0, 1, 2, 3, 4, 5, 6]⟩])
.ret))) }
theorem c_palinoderef20_Revs_Undone : cFunc Try.prog n_palinoderef20_Revs_Undone = some f_palinoderef20_Revs_Undone := by kernel_rfl
/-- (*palinode/rev.Revs).next -/
def f_rev_Revs_next : SFunc := { ntmps := 32, results := [.tmp 2, .tmp 3], body :=
(.seq (.reg none [⟨some 2, .mv (.lit .nilm), none, []⟩,
 ⟨some 3, .mv (.lit (.int .i64 0)), none, [0]⟩])
(.seq (.seq (.reg none [⟨some 5, .mv (.tmp 0), none, []⟩,
 ⟨some 6, .call (.lit (.fn 12 [])) [(.tmp 5)], none, [0]⟩,
 ⟨some 7, .bin .geq .int (.tmp 6) (.lit (.int .i64 200)), none, [1]⟩])
(.cond (.tmp 7) (.seq (.reg none [⟨some 2, .mv (.lit .nilm), none, []⟩,
 ⟨some 3, .mv (.lit (.int .i64 70)), none, [0, 0]⟩])
.ret) .skip))
(.seq (.reg (some [0, 1, 3, 7, 0, 16, 48, 112, 240, 496, 1023, 2047, 4095, 8191]) [⟨some 8, .mv (.tmp 0), none, []⟩,
 ⟨some 9, .nilc (.tmp 8), none, [0]⟩,
 ⟨some 10, .fldA 0 (.tmp 9), none, [1]⟩,
 ⟨some 11, .load none (.tmp 10), none, [2]⟩,
 ⟨some 12, .mv (.tmp 0), none, []⟩,
 ⟨some 13, .nilc (.tmp 12), none, [4]⟩,
 ⟨some 14, .fldA 0 (.tmp 13), none, [5]⟩,
 ⟨some 15, .load none (.tmp 14), none, [6]⟩,
 ⟨some 16, .len (.tmp 15), none, [7]⟩,
 ⟨some 17, .bin .sub .int (.tmp 16) (.lit (.int .i64 1)), none, [8]⟩,
 ⟨some 18, .idxA 1 (.tmp 11) (.tmp 17), none, [3, 9]⟩,
 ⟨some 19, .load none (.tmp 18), none, [10]⟩,
 ⟨some 20, .call (.lit (.fn 30 [])) [(.tmp 19)], none, [11]⟩,
 ⟨some 4, .mv (.tmp 20), none, [12, 12, 0, 1, 2, 3, 4, 5, 6, 7, 8, 9, 10, 11, 12]⟩])
(.seq (.reg none [⟨some 21, .mv (.tmp 0), none, []⟩,
 ⟨some 22, .mv (.tmp 0), none, []⟩,
 ⟨some 23, .nilc (.tmp 22), none, [1]⟩,
 ⟨some 24, .fldA 0 (.tmp 23), none, [2]⟩,
 ⟨some 25, .load none (.tmp 24), none, [3]⟩,
 ⟨some 26, .mv (.tmp 4), none, []⟩,
 ⟨some 27, .bslc 1 [(.raw (.map none))] 1 [(0, 1, (.tmp 26))], none, [5]⟩,
 ⟨some 28, .app 57 1 8 (.tmp 25) (.tmp 27), none, [4, 6]⟩,
 ⟨some 29, .nilc (.tmp 21), none, [0, 0, 1, 2, 3, 4, 5, 6, 7]⟩,
 ⟨some 30, .fldA 0 (.tmp 29), none, [8, 0, 1, 2, 3, 4, 5, 6, 7]⟩,
 ⟨none, .store 1 (.tmp 30) (.tmp 28), none, [9, 7, 7, 0, 1, 2, 3, 4, 5, 6, 7]⟩])
(.seq (.reg none [⟨some 31, .mv (.tmp 4), none, []⟩,
 ⟨some 2, .mv (.tmp 31), none, [0, 0]⟩,
 ⟨some 3, .mv (.lit (.int .i64 0)), none, [1, 0, 1]⟩])
.ret))))) }
theorem c_rev_Revs_next : cFunc Try.prog n_rev_Revs_next = some f_rev_Revs_next := by kernel_rfl
/-- (palinode/rev.set).sorted -/
def f_rev_set_sorted : SFunc := { ntmps := 13, results := [.tmp 2], body :=
(.seq (.reg none [⟨some 2, .mv (.lit .nils), none, []⟩])
(.seq (.reg none [⟨some 4, .mv (.tmp 0), none, []⟩,
 ⟨some 5, .lenM (.tmp 4), none, [0]⟩,
 ⟨some 6, .mslc 1 8 [(.int .i64 0)] (.tmp 5) (.tmp 5), none, [1, 1]⟩,
 ⟨some 3, .mv (.tmp 6), none, [2, 1, 0, 1, 2]⟩])
(.seq (.reg none [⟨some 7, .mv (.tmp 3), none, []⟩,
 ⟨some 8, .mv (.tmp 0), none, []⟩,
 ⟨some 9, .call (.lit (.fn 37 [])) [(.tmp 8)], none, [1]⟩,
 ⟨some 10, .call (.lit (.fn 36 [])) [(.tmp 9)], none, [2, 2]⟩,
 ⟨some 11, .copy 1 (.tmp 7) (.tmp 10), none, [0, 3, 3]⟩])
(.seq (.reg none [⟨some 12, .mv (.tmp 3), none, []⟩,
 ⟨some 2, .mv (.tmp 12), none, [0, 0]⟩])
.ret)))) }
theorem c_rev_set_sorted : cFunc Try.prog n_rev_set_sorted = some f_rev_set_sorted := by kernel_rfl
/-- (*palinode/rev.Revs).has -/
def f_rev_Revs_has : SFunc := { ntmps := 17, results := [.tmp 4], body :=
(.seq (.reg none [⟨some 4, .mv (.lit (.bool false)), none, []⟩])
(.seq (.reg none [⟨some 8, .mv (.tmp 0), none, []⟩,
 ⟨some 9, .nilc (.tmp 8), none, [0]⟩,
 ⟨some 10, .fldA 2 (.tmp 9), none, [1]⟩,
 ⟨some 11, .load none (.tmp 10), none, [2]⟩,
 ⟨some 12, .mv (.tmp 1), none, []⟩,
 ⟨some 13, .look (.agg []) true (.tmp 11) (.tmp 12), none, [3, 4]⟩,
 ⟨some 7, .mv (.tmp 13), none, [5]⟩,
 ⟨some 14, .ext (.tmp 7) 0, none, [6]⟩,
 ⟨some 15, .ext (.tmp 7) 1, none, [6]⟩,
 ⟨some 5, .alloc [], none, []⟩,
 ⟨none, .store 0 (.tmp 5) (.tmp 14), none, [9, 7, 0, 1, 2, 3, 4, 5, 6, 7, 9]⟩,
 ⟨some 6, .mv (.tmp 15), none, [8, 10, 0, 1, 2, 3, 4, 5, 6, 7, 8, 9, 10]⟩])
(.seq (.reg none [⟨some 16, .mv (.tmp 6), none, []⟩,
 ⟨some 4, .mv (.tmp 16), none, [0, 0]⟩])
.ret))) }
theorem c_rev_Revs_has : cFunc Try.prog n_rev_Revs_has = some f_rev_Revs_has := by kernel_rfl
/-- palinode/palinoderef20.there -/
def f_palinoderef20_there : SFunc := { ntmps := 9, results := [.tmp 2], body :=
(.seq (.reg none [⟨some 2, .mv (.lit (.bool false)), none, []⟩])
(.seq (.reg none [⟨some 3, .mv (.tmp 0), none, []⟩,
 ⟨some 4, .bin .geq .int (.tmp 3) (.lit (.int .i64 0)), none, [0]⟩,
 ⟨some 5, .mv (.tmp 4), none, [1]⟩,
 ⟨some 6, .mv (.tmp 0), some (5, true), [2]⟩,
 ⟨some 7, .bin .lss .int (.tmp 6) (.lit (.int .i64 60)), some (5, true), [3, 2]⟩,
 ⟨some 8, .pick (.tmp 5) (.tmp 7) (.lit (.bool false)), none, [2, 4]⟩,
 ⟨some 2, .mv (.tmp 8), none, [5, 2, 0, 1, 2, 3, 4, 5]⟩])
.ret)) }
theorem c_palinoderef20_there : cFunc Try.prog n_palinoderef20_there = some f_palinoderef20_there := by kernel_rfl
/-- (*palinode/palinoderef20.Revs).next -/
def f_palinoderef20_Revs_next : SFunc := { ntmps := 26, results := [.tmp 4], body :=
(.seq (.reg none [⟨some 4, .mv (.lit (.int .i64 0)), none, []⟩])
(.seq (.reg none [⟨some 5, .mv (.tmp 0), none, []⟩,
 ⟨some 6, .nilc (.tmp 5), none, [0]⟩,
 ⟨some 7, .fldA 0 (.tmp 6), none, [1]⟩,
 ⟨some 8, .load none (.tmp 7), none, [2]⟩,
 ⟨some 9, .bin .add .int (.tmp 8) (.lit (.int .i64 1)), none, [3]⟩,
 ⟨some 10, .nilc (.tmp 5), none, [0, 0, 1, 2, 3, 4]⟩,
 ⟨some 11, .fldA 0 (.tmp 10), none, [5, 0, 1, 2, 3, 4]⟩,
 ⟨none, .store 1 (.tmp 11) (.tmp 9), none, [6, 4, 0, 1, 2, 3, 4]⟩])
(.seq (.reg none [⟨some 12, .mv (.tmp 0), none, []⟩,
 ⟨some 13, .mv (.tmp 0), none, []⟩,
 ⟨some 14, .nilc (.tmp 13), none, [1]⟩,
 ⟨some 15, .fldA 122 (.tmp 14), none, [2]⟩,
 ⟨some 16, .load none (.tmp 15), none, [3]⟩,
 ⟨some 17, .mv (.tmp 1), none, []⟩,
 ⟨some 18, .bslc 1 [.nils] 1 [(0, 1, (.tmp 17))], none, [5]⟩,
 ⟨some 19, .app 30 1 24 (.tmp 16) (.tmp 18), none, [4, 6]⟩,
 ⟨some 20, .nilc (.tmp 12), none, [0, 0, 1, 2, 3, 4, 5, 6, 7]⟩,
 ⟨some 21, .fldA 122 (.tmp 20), none, [8, 0, 1, 2, 3, 4, 5, 6, 7]⟩,
 ⟨none, .store 1 (.tmp 21) (.tmp 19), none, [9, 7, 7, 0, 1, 2, 3, 4, 5, 6, 7]⟩])
(.seq (.reg none [⟨some 22, .mv (.tmp 0), none, []⟩,
 ⟨some 23, .nilc (.tmp 22), none, [0]⟩,
 ⟨some 24, .fldA 0 (.tmp 23), none, [1]⟩,
 ⟨some 25, .load none (.tmp 24), none, [2]⟩,
 ⟨some 4, .mv (.tmp 25), none, [3, 0, 1, 2, 3]⟩])
.ret)))) }
theorem c_palinoderef20_Revs_next : cFunc Try.prog n_palinoderef20_Revs_next = some f_palinoderef20_Revs_next := by kernel_rfl
/-- (*palinode/palinoderef20.Revs).Is -/
def f_palinoderef20_Revs_Is : SFunc := { ntmps := 24, results := [.tmp 4], body :=
(.seq (.reg none [⟨some 4, .mv (.lit (.bool false)), none, []⟩])
(.seq (.reg none [⟨some 5, .mv (.tmp 1), none, []⟩,
 ⟨some 6, .call (.lit (.fn 31 [])) [(.tmp 5)], none, [0]⟩,
 ⟨some 7, .mv (.tmp 6), none, [1, 1]⟩,
 ⟨some 8, .mv (.tmp 0), some (7, true), [2]⟩,
 ⟨some 9, .mv (.tmp 1), some (7, true), [2]⟩,
 ⟨some 10, .nilc (.tmp 8), some (7, true), [3, 2]⟩,
 ⟨some 11, .fldA 2 (.tmp 10), some (7, true), [5, 2]⟩,
 ⟨some 12, .idxR 60 1 (.tmp 11) (.tmp 9), some (7, true), [6, 4, 2]⟩,
 ⟨some 13, .load none (.tmp 12), some (7, true), [7, 2]⟩,
 ⟨some 14, .pick (.tmp 7) (.tmp 13) (.lit (.bool false)), none, [2, 8]⟩,
 ⟨some 15, .mv (.tmp 14), none, [9, 2]⟩,
 ⟨some 16, .mv (.tmp 0), some (15, true), [10]⟩,
 ⟨some 17, .mv (.tmp 1), some (15, true), [10]⟩,
 ⟨some 18, .nilc (.tmp 16), some (15, true), [11, 10]⟩,
 ⟨some 19, .fldA 62 (.tmp 18), some (15, true), [13, 10]⟩,
 ⟨some 20, .idxR 60 1 (.tmp 19) (.tmp 17), some (15, true), [14, 12, 10]⟩,
 ⟨some 21, .load none (.tmp 20), some (15, true), [15, 10]⟩,
 ⟨some 22, .not (.tmp 21), some (15, true), [16, 10]⟩,
 ⟨some 23, .pick (.tmp 15) (.tmp 22) (.lit (.bool false)), none, [10, 17]⟩,
 ⟨some 4, .mv (.tmp 23), none, [18, 10, 0, 1, 2, 3, 4, 5, 6, 7, 8, 9, 10, 11, 12, 13, 14, 15, 16, 17, 18]⟩])
.ret)) }
theorem c_palinoderef20_Revs_Is : cFunc Try.prog n_palinoderef20_Revs_Is = some f_palinoderef20_Revs_Is := by kernel_rfl
/-- palinode/palinoderef20.toggled -/
def f_palinoderef20_toggled : SFunc := { ntmps := 50, results := [.tmp 4], body :=
(.seq (.reg none [⟨some 4, .mv (.lit .nils), none, []⟩])
(.seq (.reg none [⟨some 5, .mv (.lit .nils), none, []⟩])
(.seq (.reg none [⟨some 8, .mv (.tmp 0), none, []⟩,
 ⟨some 9, .mv (.tmp 1), none, []⟩,
 ⟨some 10, .call (.lit (.fn 35 [])) [(.tmp 8), (.tmp 9)], none, [0, 1]⟩,
 ⟨some 11, .not (.tmp 10), none, [2]⟩,
 ⟨some 6, .mv (.tmp 11), none, [3, 2, 0, 1, 2, 3]⟩])
(.seq (.seq (.reg none [⟨some 7, .mv (.lit (.int .i64 0)), none, []⟩])
(.block 0 (.loop (.seq (.seq (.reg none [⟨some 12, .mv (.tmp 7), none, []⟩,
 ⟨some 13, .mv (.tmp 0), none, []⟩,
 ⟨some 14, .len (.tmp 13), none, [1]⟩,
 ⟨some 15, .bin .lss .int (.tmp 12) (.tmp 14), none, [0, 2]⟩])
(.cond (.tmp 15) .skip (.exit 0)))
(.seq (.block 1 (.seq (.seq (.reg none [⟨some 18, .mv (.tmp 6), none, []⟩,
 ⟨some 19, .mv (.tmp 18), none, [0]⟩,
 ⟨some 20, .mv (.tmp 0), some (19, true), [1]⟩,
 ⟨some 21, .mv (.tmp 7), some (19, true), [1]⟩,
 ⟨some 22, .idxA 1 (.tmp 20) (.tmp 21), some (19, true), [2, 3, 1]⟩,
 ⟨some 23, .load none (.tmp 22), some (19, true), [4, 1]⟩,
 ⟨some 24, .mv (.tmp 1), some (19, true), [1]⟩,
 ⟨some 25, .bin .gtr .int (.tmp 23) (.tmp 24), some (19, true), [5, 6, 1]⟩,
 ⟨some 26, .pick (.tmp 19) (.tmp 25) (.lit (.bool false)), none, [1, 7]⟩])
(.cond (.tmp 26) (.seq (.reg none [⟨some 27, .mv (.tmp 5), none, []⟩,
 ⟨some 28, .mv (.tmp 1), none, []⟩,
 ⟨some 29, .bslc 1 [(.int .i64 0)] 1 [(0, 1, (.tmp 28))], none, [1]⟩,
 ⟨some 30, .app 3 1 8 (.tmp 27) (.tmp 29), none, [0, 2]⟩,
 ⟨some 5, .mv (.tmp 30), none, [3, 3, 0, 1, 2, 3]⟩])
(.reg none [⟨some 6, .mv (.lit (.bool false)), none, []⟩])) .skip))
(.seq (.reg none [⟨some 31, .mv (.tmp 0), none, []⟩,
 ⟨some 32, .mv (.tmp 7), none, []⟩,
 ⟨some 33, .idxA 1 (.tmp 31) (.tmp 32), none, [0, 1]⟩,
 ⟨some 34, .load none (.tmp 33), none, [2]⟩,
 ⟨some 35, .mv (.tmp 1), none, []⟩,
 ⟨some 36, .bin .neq .int (.tmp 34) (.tmp 35), none, [3, 4]⟩])
(.cond (.tmp 36) (.reg none [⟨some 37, .mv (.tmp 5), none, []⟩,
 ⟨some 38, .mv (.tmp 0), none, []⟩,
 ⟨some 39, .mv (.tmp 7), none, []⟩,
 ⟨some 40, .idxA 1 (.tmp 38) (.tmp 39), none, [1, 2]⟩,
 ⟨some 41, .load none (.tmp 40), none, [3]⟩,
 ⟨some 42, .bslc 1 [(.int .i64 0)] 1 [(0, 1, (.tmp 41))], none, [4]⟩,
 ⟨some 43, .app 3 1 8 (.tmp 37) (.tmp 42), none, [0, 5]⟩,
 ⟨some 5, .mv (.tmp 43), none, [6, 6, 0, 1, 2, 3, 4, 5, 6]⟩]) .skip))))
(.reg none [⟨some 16, .mv (.tmp 7), none, []⟩,
 ⟨some 17, .bin .add .int (.tmp 16) (.lit (.int .i64 1)), none, [0]⟩,
 ⟨some 7, .mv (.tmp 17), none, [1, 0, 1]⟩]))))))
(.seq (.seq (.reg none [⟨some 44, .mv (.tmp 6), none, []⟩])
(.cond (.tmp 44) (.reg none [⟨some 45, .mv (.tmp 5), none, []⟩,
 ⟨some 46, .mv (.tmp 1), none, []⟩,
 ⟨some 47, .bslc 1 [(.int .i64 0)] 1 [(0, 1, (.tmp 46))], none, [1]⟩,
 ⟨some 48, .app 3 1 8 (.tmp 45) (.tmp 47), none, [0, 2]⟩,
 ⟨some 5, .mv (.tmp 48), none, [3, 3, 0, 1, 2, 3]⟩]) .skip))
(.seq (.reg none [⟨some 49, .mv (.tmp 5), none, []⟩,
 ⟨some 4, .mv (.tmp 49), none, [0, 0]⟩])
.ret)))))) }
theorem c_palinoderef20_toggled : cFunc Try.prog n_palinoderef20_toggled = some f_palinoderef20_toggled := by kernel_rfl
/-- palinode/palinoderef17.In -/
def f_palinoderef17_In : SFunc := { ntmps := 18, results := [.tmp 4], body :=
(.seq (.reg none [⟨some 4, .mv (.lit (.bool false)), none, []⟩])
(.seq (.seq (.reg none [⟨some 5, .mv (.lit (.int .i64 0)), none, []⟩])
(.block 0 (.loop (.seq (.seq (.reg none [⟨some 6, .mv (.tmp 5), none, []⟩,
 ⟨some 7, .mv (.tmp 0), none, []⟩,
 ⟨some 8, .len (.tmp 7), none, [1]⟩,
 ⟨some 9, .bin .lss .int (.tmp 6) (.tmp 8), none, [0, 2]⟩])
(.cond (.tmp 9) .skip (.exit 0)))
(.seq (.block 1 (.seq (.reg none [⟨some 12, .mv (.tmp 0), none, []⟩,
 ⟨some 13, .mv (.tmp 5), none, []⟩,
 ⟨some 14, .idxA 1 (.tmp 12) (.tmp 13), none, [0, 1]⟩,
 ⟨some 15, .load none (.tmp 14), none, [2]⟩,
 ⟨some 16, .mv (.tmp 1), none, []⟩,
 ⟨some 17, .bin .eql .int (.tmp 15) (.tmp 16), none, [3, 4]⟩])
(.cond (.tmp 17) (.seq (.reg none [⟨some 4, .mv (.lit (.bool true)), none, []⟩])
.ret) .skip)))
(.reg none [⟨some 10, .mv (.tmp 5), none, []⟩,
 ⟨some 11, .bin .add .int (.tmp 10) (.lit (.int .i64 1)), none, [0]⟩,
 ⟨some 5, .mv (.tmp 11), none, [1, 0, 1]⟩]))))))
(.seq (.reg none [⟨some 4, .mv (.lit (.bool false)), none, []⟩])
.ret))) }
theorem c_palinoderef17_In : cFunc Try.prog n_palinoderef17_In = some f_palinoderef17_In := by kernel_rfl
/-- maps.Keys[palinode/rev.set,int,struct{}] -/
def f_maps_Keys_rev_set_int_unit : SFunc := { ntmps := 4, results := [.tmp 2], body :=
(.seq (.reg none [⟨some 1, .box (.tmp 0), none, []⟩,
 ⟨some 2, .mv (.lit .nilf), none, []⟩])
(.seq (.reg none [⟨some 3, .mkfn 41 [(.tmp 1)], none, []⟩,
 ⟨some 2, .mv (.tmp 3), none, [0, 0]⟩])
.ret)) }
theorem c_maps_Keys_rev_set_int_unit : cFunc Try.prog n_maps_Keys_rev_set_int_unit = some f_maps_Keys_rev_set_int_unit := by kernel_rfl
end Go.Proofs.Ytaakajfmbjjigaa.M
