/- A part of the seat's proofs over the abstract machine. No condition. -/
import Derived.Test.YtaakajfmbjjigaaFT
import Derived.Test.YtaakajfmbjjigaaMF
set_option maxRecDepth 100000
namespace Go.Proofs.Ytaakajfmbjjigaa.M
open Go Go.Mini
noncomputable abbrev fgB : Code := (Try.f15.body).getD .skip
def un : Code → Code
  | .block _ c => c
  | .loop c => c
  | c => c
def fg0 : SCode := (.reg none [⟨some 4, .mv (.lit (.int .i64 0)), none, []⟩])
theorem fg0_c : cCode Try.prog 77 (sl (fgB)) = some fg0 := by kernel_rfl
def fg1 : SCode := (.reg none [⟨some 12, .mmap, none, []⟩,
 ⟨some 5, .mv (.tmp 12), none, [0, 0]⟩])
theorem fg1_c : cCode Try.prog 77 (sl (sr (fgB))) = some fg1 := by kernel_rfl
def fg2 : SCode := (.seq (.reg none [⟨some 13, .mv (.tmp 1), none, []⟩,
 ⟨some 14, .len (.tmp 13), none, [0]⟩,
 ⟨some 15, .mv (.lit (.int .i64 0)), none, []⟩])
(.block 0 (.loop (.seq (.reg none [⟨some 16, .bin .lss .int (.tmp 15) (.tmp 14), none, []⟩])
(.seq (.cond (.tmp 16) .skip (.exit 0))
(.seq (.block 1 (.seq (.reg none [⟨some 17, .idxA 1 (.tmp 13) (.tmp 15), none, []⟩,
 ⟨some 18, .load none (.tmp 17), none, [0]⟩,
 ⟨some 7, .mv (.tmp 18), none, [1, 0, 1]⟩])
(.seq (.seq (.reg none [⟨some 20, .mv (.tmp 5), none, []⟩,
 ⟨some 21, .mv (.tmp 7), none, []⟩,
 ⟨some 22, .look (.agg []) true (.tmp 20) (.tmp 21), none, [0, 1]⟩,
 ⟨some 19, .mv (.tmp 22), none, [2]⟩,
 ⟨some 23, .ext (.tmp 19) 0, none, [3]⟩,
 ⟨some 24, .ext (.tmp 19) 1, none, [3]⟩,
 ⟨some 8, .alloc [], none, []⟩,
 ⟨none, .store 0 (.tmp 8) (.tmp 23), none, [6, 4, 0, 1, 2, 3, 4, 6]⟩,
 ⟨some 9, .mv (.tmp 24), none, [5, 7, 0, 1, 2, 3, 4, 5, 6, 7]⟩])
(.seq (.reg none [⟨some 25, .mv (.tmp 9), none, []⟩,
 ⟨some 26, .mv (.tmp 25), none, [0]⟩,
 ⟨some 27, .mv (.tmp 0), some (26, false), [1]⟩,
 ⟨some 28, .mv (.tmp 7), some (26, false), [1]⟩,
 ⟨some 29, .call (.lit (.fn 29 [])) [(.tmp 27), (.tmp 28)], some (26, false), [2, 3, 1, 1]⟩,
 ⟨some 30, .not (.tmp 29), some (26, false), [4, 1]⟩,
 ⟨some 31, .pick (.tmp 26) (.lit (.bool true)) (.tmp 30), none, [1, 5]⟩])
(.cond (.tmp 31) (.seq (.reg none [⟨some 4, .mv (.lit (.int .i64 210)), none, []⟩])
.ret) .skip)))
(.reg none [⟨some 32, .mv (.tmp 5), none, []⟩,
 ⟨some 33, .mv (.tmp 7), none, []⟩,
 ⟨some 34, .build [] [], none, []⟩,
 ⟨none, .mapUp (.tmp 32) (.tmp 33) (.tmp 34), none, [0, 1, 2, 0, 1, 2]⟩]))))
(.reg none [⟨some 35, .bin .add .int (.tmp 15) (.lit (.int .i64 1)), none, []⟩,
 ⟨some 15, .mv (.tmp 35), none, [0]⟩])))))))
theorem fg2_c : cCode Try.prog 77 (sl (sr (sr (fgB)))) = some fg2 := by kernel_rfl
def fg3 : SCode := (.reg (some [0, 1, 3, 7, 0, 16, 48, 112, 240, 496, 1023, 2047, 4095]) [⟨some 36, .mv (.tmp 0), none, []⟩,
 ⟨some 37, .nilc (.tmp 36), none, [0]⟩,
 ⟨some 38, .fldA 0 (.tmp 37), none, [1]⟩,
 ⟨some 39, .load none (.tmp 38), none, [2]⟩,
 ⟨some 40, .mv (.tmp 0), none, []⟩,
 ⟨some 41, .nilc (.tmp 40), none, [4]⟩,
 ⟨some 42, .fldA 0 (.tmp 41), none, [5]⟩,
 ⟨some 43, .load none (.tmp 42), none, [6]⟩,
 ⟨some 44, .len (.tmp 43), none, [7]⟩,
 ⟨some 45, .bin .sub .int (.tmp 44) (.lit (.int .i64 1)), none, [8]⟩,
 ⟨some 46, .idxA 1 (.tmp 39) (.tmp 45), none, [3, 9]⟩,
 ⟨some 47, .load none (.tmp 46), none, [10]⟩,
 ⟨some 10, .mv (.tmp 47), none, [11, 0, 1, 2, 3, 4, 5, 6, 7, 8, 9, 10, 11]⟩])
theorem fg3_c : cCode Try.prog 77 (sl (sr (sr (sr (fgB))))) = some fg3 := by kernel_rfl
def fg4 : SCode := (.reg none [⟨some 48, .mv (.tmp 0), none, []⟩,
 ⟨some 49, .mv (.tmp 0), none, []⟩,
 ⟨some 50, .call (.lit (.fn 12 [])) [(.tmp 49)], none, [1]⟩,
 ⟨some 51, .nilc (.tmp 48), none, [0, 0, 1, 2]⟩,
 ⟨some 52, .fldA 1 (.tmp 51), none, [3, 0, 1, 2]⟩,
 ⟨none, .store 1 (.tmp 52) (.tmp 50), none, [4, 2, 2, 0, 1, 2]⟩])
theorem fg4_c : cCode Try.prog 77 (sl (sr (sr (sr (sr (fgB)))))) = some fg4 := by kernel_rfl
def fg5 : SCode := (.reg none [⟨some 53, .mv (.tmp 0), none, []⟩,
 ⟨some 54, .mv (.tmp 10), none, []⟩,
 ⟨some 55, .bslc 1 [(.raw (.map none))] 1 [(0, 1, (.tmp 54))], none, [1]⟩,
 ⟨some 56, .nilc (.tmp 53), none, [0, 0, 1, 2]⟩,
 ⟨some 57, .fldA 0 (.tmp 56), none, [3, 0, 1, 2]⟩,
 ⟨none, .store 1 (.tmp 57) (.tmp 55), none, [4, 2, 0, 1, 2]⟩])
theorem fg5_c : cCode Try.prog 77 (sl (sr (sr (sr (sr (sr (fgB))))))) = some fg5 := by kernel_rfl
noncomputable abbrev fgM : Code := sl (sr (sr (sr (sr (sr (sr (fgB)))))))
noncomputable abbrev fgT : Code := sr (sr (sr (sr (sr (sr (sr (fgB)))))))
def fgt : SCode := (.seq (.reg none [⟨some 4, .mv (.lit (.int .i64 0)), none, []⟩])
.ret)
theorem fgt_c : cCode Try.prog 77 fgT = some fgt := by kernel_rfl
def fgr : SCode := (.seq (.reg none [⟨some 64, .mv (.tmp 10), none, []⟩,
 ⟨some 65, .mv (.tmp 11), none, []⟩,
 ⟨none, .del (.tmp 64) (.tmp 65), none, [0, 1]⟩])
(.seq (.reg none [⟨some 66, .mv (.tmp 0), none, []⟩,
 ⟨some 67, .nilc (.tmp 66), none, [0]⟩,
 ⟨some 68, .fldA 2 (.tmp 67), none, [1]⟩,
 ⟨some 69, .load none (.tmp 68), none, [2]⟩,
 ⟨some 70, .mv (.tmp 11), none, []⟩,
 ⟨none, .del (.tmp 69) (.tmp 70), none, [3, 4]⟩])
(.reg none [⟨some 71, .mv (.tmp 0), none, []⟩,
 ⟨some 72, .nilc (.tmp 71), none, [0]⟩,
 ⟨some 73, .fldA 3 (.tmp 72), none, [1]⟩,
 ⟨some 74, .load none (.tmp 73), none, [2]⟩,
 ⟨some 75, .mv (.tmp 11), none, []⟩,
 ⟨some 76, .build [] [], none, []⟩,
 ⟨none, .mapUp (.tmp 74) (.tmp 75) (.tmp 76), none, [3, 4, 5, 0, 1, 2, 3, 4, 5]⟩])))
theorem fgr_c : cCode Try.prog 77 (sr (un (sr (sr (un (un (sr fgM))))))) = some fgr := by kernel_rfl
theorem fg_shape : fgB = .seq (sl (fgB)) (.seq (sl (sr (fgB))) (.seq (sl (sr (sr (fgB)))) (.seq (sl (sr (sr (sr (fgB))))) (.seq (sl (sr (sr (sr (sr (fgB)))))) (.seq (sl (sr (sr (sr (sr (sr (fgB))))))) (.seq fgM fgT)))))) := by kernel_rfl
theorem fg_fn : Try.prog.funcs[n_rev_Revs_Forget]? = some Try.f15 := Try.func15
theorem fg_body : Try.f15.body = some fgB := rfl
theorem fg_res : cRes Try.prog Try.f15.ntmps Try.f15.results.toList = some [.tmp 4] := by kernel_rfl
noncomputable abbrev fgF : Func := Try.f15
theorem fg_n : fgF.ntmps = 77 := rfl
theorem fg_name : (fgF.name == "runtime.NumGoroutine") = false := by kernel_rfl
theorem fg_set : Try.prog.underlying 57 = some (.map 3 61) := by kernel_rfl
end Go.Proofs.Ytaakajfmbjjigaa.M
