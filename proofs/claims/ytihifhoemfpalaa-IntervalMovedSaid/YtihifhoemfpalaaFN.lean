/- A part of the seat's proofs over the abstract machine. No condition. -/
import Derived.Test.YtihifhoemfpalaaProg
import Derived.KernelRfl
import Derived.Test.YtihifhoemfpalaaMF
namespace Go.Proofs.Ytihifhoemfpalaa.M
open Go Go.Mini
abbrev n_main_main : Nat := 0
abbrev n_gosem_cut : Nat := 1
abbrev n_gosem_cut_init : Nat := 2
abbrev n_palinodelaw10_IntervalTells : Nat := 3
abbrev n_palinodelaw10_IntervalMerges : Nat := 4
abbrev n_palinodelaw10_IntervalTwice : Nat := 5
abbrev n_palinodelaw10_IntervalLaws : Nat := 6
abbrev n_palinodelaw10_IntervalMoved : Nat := 7
abbrev n_palinodelaw10_known : Nat := 8
abbrev n_interval_Is : Nat := 9
abbrev n_interval_Meet : Nat := 10
abbrev n_interval_Touch : Nat := 11
abbrev n_interval_Join : Nat := 12
abbrev n_interval_Shift : Nat := 13
abbrev n_interval_Merge : Nat := 14
abbrev n_palinodelaw10_covers : Nat := 15
abbrev n_interval_kept_api_Interval : Nat := 16
abbrev n_interval_Merge_1 : Nat := 17
abbrev n_slices_SortFunc_api_Interval_api_Interval : Nat := 18
abbrev n_interval_Cmp : Nat := 19
abbrev n_interval_Folded_api_Interval : Nat := 20
abbrev n_slices_pdqsortCmpFunc_api_Interval : Nat := 21
abbrev n_math_bits_Len : Nat := 22
abbrev n_cmp_Or_int : Nat := 23
abbrev n_cmp_Compare_int : Nat := 24
abbrev n_slices_insertionSortCmpFunc_api_Interval : Nat := 25
abbrev n_slices_heapSortCmpFunc_api_Interval : Nat := 26
abbrev n_slices_breakPatternsCmpFunc_api_Interval : Nat := 27
abbrev n_slices_choosePivotCmpFunc_api_Interval : Nat := 28
abbrev n_slices_reverseRangeCmpFunc_api_Interval : Nat := 29
abbrev n_slices_partialInsertionSortCmpFunc_api_Interval : Nat := 30
abbrev n_slices_partitionEqualCmpFunc_api_Interval : Nat := 31
abbrev n_slices_partitionCmpFunc_api_Interval : Nat := 32
abbrev n_math_bits_Len32 : Nat := 33
abbrev n_math_bits_Len64 : Nat := 34
abbrev n_cmp_isNaN_int : Nat := 35
abbrev n_slices_siftDownCmpFunc_api_Interval : Nat := 36
abbrev n_slices_nextPowerOfTwo : Nat := 37
abbrev n_slices_xorshift_Next : Nat := 38
abbrev n_slices_medianAdjacentCmpFunc_api_Interval : Nat := 39
abbrev n_slices_medianCmpFunc_api_Interval : Nat := 40
abbrev n_slices_order2CmpFunc_api_Interval : Nat := 41
abbrev n_runtime_boundsError_Error : Nat := 42
abbrev n_runtime_boundsError_RuntimeError : Nat := 43
abbrev n_runtime_errorString_Error : Nat := 44
abbrev n_runtime_errorString_RuntimeError : Nat := 45
abbrev n_runtime_plainError_Error : Nat := 46
abbrev n_runtime_plainError_RuntimeError : Nat := 47
abbrev n_runtime_errorAddressString_Error : Nat := 48
abbrev n_runtime_errorAddressString_RuntimeError : Nat := 49
abbrev n_runtime_TypeAssertionError_Error : Nat := 50
abbrev n_runtime_TypeAssertionError_RuntimeError : Nat := 51
abbrev n_runtime_PanicNilError_Error : Nat := 52
abbrev n_runtime_PanicNilError_RuntimeError : Nat := 53
abbrev n_internal_abi_Type_Align : Nat := 54
abbrev n_internal_runtime_maps_unhashableTypeError_Error : Nat := 55
abbrev n_internal_runtime_maps_unhashableTypeError_RuntimeError : Nat := 56
abbrev n_internal_abi_Kind_String : Nat := 57
theorem mixed : Try.prog.follows .mixedOrders = true := by kernel_rfl
end Go.Proofs.Ytihifhoemfpalaa.M
