/- A part of the seat's proofs over the abstract machine. No condition. -/
import Derived.Test.YtaakajfmbjjigaaProg
import Derived.KernelRfl
import Derived.Test.YtaakajfmbjjigaaMF
namespace Go.Proofs.Ytaakajfmbjjigaa.M
open Go Go.Mini
abbrev n_main_main : Nat := 0
abbrev n_gosem_cut : Nat := 1
abbrev n_gosem_cut_init : Nat := 2
abbrev n_palinodelaw19_RevTwice : Nat := 3
abbrev n_palinodelaw19_RevMany : Nat := 4
abbrev n_palinodelaw19_RevForgets : Nat := 5
abbrev n_palinodelaw19_RevPlays : Nat := 6
abbrev n_palinodelaw19_RevCopies : Nat := 7
abbrev n_palinodelaw19_known : Nat := 8
abbrev n_rev_New : Nat := 9
abbrev n_rev_Revs_Add : Nat := 10
abbrev n_rev_Revs_Undone : Nat := 11
abbrev n_rev_Revs_Head : Nat := 12
abbrev n_rev_Revs_Toggle : Nat := 13
abbrev n_palinodelaw19_same : Nat := 14
abbrev n_rev_Revs_Forget : Nat := 15
abbrev n_rev_Revs_Floor : Nat := 16
abbrev n_rev_Revs_Groups : Nat := 17
abbrev n_rev_Revs_Live : Nat := 18
abbrev n_palinoderef20_NewRevs : Nat := 19
abbrev n_rev_Revs_Copy : Nat := 20
abbrev n_palinoderef20_Revs_Add : Nat := 21
abbrev n_palinoderef20_Revs_Toggle : Nat := 22
abbrev n_palinoderef20_Revs_Forget : Nat := 23
abbrev n_palinoderef20_Revs_Groups : Nat := 24
abbrev n_palinoderef20_Revs_Live : Nat := 25
abbrev n_palinoderef20_Revs_Undone : Nat := 26
abbrev n_rev_Revs_next : Nat := 27
abbrev n_rev_set_sorted : Nat := 28
abbrev n_rev_Revs_has : Nat := 29
abbrev n_maps_Clone_rev_set_int_unit : Nat := 30
abbrev n_palinoderef20_there : Nat := 31
abbrev n_palinoderef20_Revs_next : Nat := 32
abbrev n_palinoderef20_Revs_Is : Nat := 33
abbrev n_palinoderef20_toggled : Nat := 34
abbrev n_palinoderef17_In : Nat := 35
abbrev n_slices_Sorted_int : Nat := 36
abbrev n_maps_Keys_rev_set_int_unit : Nat := 37
abbrev n_maps_clone : Nat := 38
abbrev n_slices_Collect_int : Nat := 39
abbrev n_slices_Sort_int_int : Nat := 40
abbrev n_maps_Keys_rev_set_int_unit_1 : Nat := 41
abbrev n_slices_AppendSeq_int_int : Nat := 42
abbrev n_slices_pdqsortOrdered_int : Nat := 43
abbrev n_math_bits_Len : Nat := 44
abbrev n_slices_insertionSortOrdered_int : Nat := 45
abbrev n_slices_heapSortOrdered_int : Nat := 46
abbrev n_slices_breakPatternsOrdered_int : Nat := 47
abbrev n_slices_choosePivotOrdered_int : Nat := 48
abbrev n_slices_reverseRangeOrdered_int : Nat := 49
abbrev n_slices_partialInsertionSortOrdered_int : Nat := 50
abbrev n_cmp_Less_int : Nat := 51
abbrev n_slices_partitionEqualOrdered_int : Nat := 52
abbrev n_slices_partitionOrdered_int : Nat := 53
abbrev n_math_bits_Len32 : Nat := 54
abbrev n_math_bits_Len64 : Nat := 55
abbrev n_slices_siftDownOrdered_int : Nat := 56
abbrev n_slices_nextPowerOfTwo : Nat := 57
abbrev n_slices_xorshift_Next : Nat := 58
abbrev n_slices_medianAdjacentOrdered_int : Nat := 59
abbrev n_slices_medianOrdered_int : Nat := 60
abbrev n_cmp_isNaN_int : Nat := 61
abbrev n_slices_order2Ordered_int : Nat := 62
abbrev n_runtime_boundsError_Error : Nat := 63
abbrev n_runtime_boundsError_RuntimeError : Nat := 64
abbrev n_runtime_errorString_Error : Nat := 65
abbrev n_runtime_errorString_RuntimeError : Nat := 66
abbrev n_runtime_plainError_Error : Nat := 67
abbrev n_runtime_plainError_RuntimeError : Nat := 68
abbrev n_runtime_errorAddressString_Error : Nat := 69
abbrev n_runtime_errorAddressString_RuntimeError : Nat := 70
abbrev n_runtime_TypeAssertionError_Error : Nat := 71
abbrev n_runtime_TypeAssertionError_RuntimeError : Nat := 72
abbrev n_runtime_PanicNilError_Error : Nat := 73
abbrev n_runtime_PanicNilError_RuntimeError : Nat := 74
abbrev n_internal_abi_Type_Align : Nat := 75
abbrev n_internal_runtime_maps_unhashableTypeError_Error : Nat := 76
abbrev n_internal_runtime_maps_unhashableTypeError_RuntimeError : Nat := 77
abbrev n_api_Errno_Error : Nat := 78
abbrev n_internal_abi_Kind_String : Nat := 79
theorem mixed : Try.prog.follows .mixedOrders = true := by kernel_rfl
end Go.Proofs.Ytaakajfmbjjigaa.M
