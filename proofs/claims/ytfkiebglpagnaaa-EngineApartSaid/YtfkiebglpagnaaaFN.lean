/- The numbers of the program's functions. No condition. -/
import Derived.Test.YtfkiebglpagnaaaProg
import Derived.KernelRfl
import Derived.Test.YtfkiebglpagnaaaMB
namespace Go.Proofs.Ytfkiebglpagnaaa.M
open Go Go.Mini
abbrev n_palinodelaw20_EngineApart : Nat := 3
abbrev n_palinodelaw20_known : Nat := 4
abbrev n_palinoderef1_Valid : Nat := 5
abbrev n_palinoderef1_IsEdge : Nat := 6
abbrev n_engine_New : Nat := 7
abbrev n_engine_Engine_Edit : Nat := 8
abbrev n_engine_Engine_Text : Nat := 9
abbrev n_engine_Engine_Head : Nat := 10
abbrev n_engine_Engine_Toggle : Nat := 11
abbrev n_engine_Engine_Atoms : Nat := 12
abbrev n_palinoderef1_Size : Nat := 13
abbrev n_rev_New : Nat := 14
abbrev n_edit_Check : Nat := 15
abbrev n_engine_Engine_Copy : Nat := 16
abbrev n_rev_Revs_Add : Nat := 17
abbrev n_edit_Upon : Nat := 18
abbrev n_engine_Engine_UndoneAt : Nat := 19
abbrev n_engine_Engine_fits : Nat := 20
abbrev n_engine_Engine_Live : Nat := 21
abbrev n_atom_Text : Nat := 22
abbrev n_rev_Revs_Head : Nat := 23
abbrev n_rev_Revs_Toggle : Nat := 24
abbrev n_atom_Copy : Nat := 25
abbrev n_utf_Valid : Nat := 26
abbrev n_edit_Check_1 : Nat := 27
abbrev n_utf_IsEdge : Nat := 28
abbrev n_edit_first : Nat := 29
abbrev n_edit_Check_2 : Nat := 30
abbrev n_edit_Check_3 : Nat := 31
abbrev n_edit_order : Nat := 32
abbrev n_edit_Check_4 : Nat := 33
abbrev n_edit_long : Nat := 34
abbrev n_rev_Revs_Copy : Nat := 35
abbrev n_rev_Revs_next : Nat := 36
abbrev n_edit_Spots : Nat := 37
abbrev n_edit_Cuts : Nat := 38
abbrev n_atom_Put : Nat := 39
abbrev n_rev_Revs_Undone : Nat := 40
abbrev n_rev_Revs_Live : Nat := 41
abbrev n_atom_Visible : Nat := 42
abbrev n_strings_Builder_WriteString : Nat := 43
abbrev n_strings_Builder_String : Nat := 44
abbrev n_rev_Revs_has : Nat := 45
abbrev n_slices_Clone_api_Cut_api_Cut : Nat := 46
abbrev n_utf_Size : Nat := 47
abbrev n_maps_Clone_rev_set_int_unit : Nat := 48
abbrev n_atom_Places : Nat := 49
abbrev n_edit_spot : Nat := 50
abbrev n_utf_Clean : Nat := 51
abbrev n_rev_set_sorted : Nat := 52
abbrev n_atom_holds : Nat := 53
abbrev n_slices_ContainsFunc_api_Cut_api_Cut : Nat := 54
abbrev n_atom_Visible_1 : Nat := 55
abbrev n_strings_Builder_copyCheck : Nat := 56
abbrev n_utf_point : Nat := 57
abbrev n_slices_Sorted_int : Nat := 61
abbrev n_maps_Keys_rev_set_int_unit : Nat := 62
abbrev n_slices_Contains_int_int : Nat := 63
abbrev n_slices_IndexFunc_api_Cut_api_Cut : Nat := 64
abbrev n_utf_forms : Nat := 66
abbrev n_utf_long : Nat := 67
abbrev n_utf_isPoint : Nat := 68
abbrev n_maps_Keys_rev_set_int_unit_1 : Nat := 72
abbrev n_slices_Index_int_int : Nat := 73
theorem mixed : Try.prog.follows .mixedOrders = true := by kernel_rfl
end Go.Proofs.Ytfkiebglpagnaaa.M
