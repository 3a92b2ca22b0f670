/- A part of the seat's proofs over the abstract machine. No condition. -/
import Derived.Test.YtaakajfmbjjigaaFT
import Derived.Test.YtaakajfmbjjigaaLays
import Derived.Test.YtaakajfmbjjigaaMF
import Derived.Test.YtaakajfmbjjigaaMF
set_option linter.unusedVariables false
set_option maxRecDepth 100000
namespace Go.Proofs.Ytaakajfmbjjigaa.M
open Go Go.Mini Go.RowKit Go.Sort Go.Shelf Go.Proofs
abbrev t_u8 : TypeId := 5
abbrev t_int : TypeId := 3
theorem clone_call {σ : Heap} {m : Nat} {es : List (Int × AVal)} (hm : σ.get m = some (.map es)) : ACall Try.prog n_maps_Clone_rev_set_int_unit [.mp (.new m)] σ (.mp (.new σ.next)) (σ.new (.map es)) :=
  acall_of_afun (clone_afun Try.cloneL hm) ⟨_, Try.func30, by kernel_rfl, by kernel_rfl⟩
def extClone : List AVal → Heap → Option (AVal × Heap)
  | [.mp (.new m)], σ => match σ.get m with
    | some (.map es) => some (.mp (.new σ.next), σ.new (.map es))
    | _ => none
  | _, _ => none
theorem extClone_ok {l : List AVal} {σ σ' : Heap} {v : AVal} (h : extClone l σ = some (v, σ')) : ACall Try.prog n_maps_Clone_rev_set_int_unit l σ v σ' := by
  unfold extClone at h
  split at h
  · split at h
    · rename_i hm; cases h; exact clone_call hm
    · cases h
  · cases h
theorem sortsL (m : Nat) : AnyZI.SortsIn Try.prog Try.sortedL_ren Fence.wide m :=
  ⟨fun blk off cap ss W hH hblk hsz => callsIn_wide.2 (AnyM.slices_Sort_int Try.sortL blk off cap ss W hH hblk hsz),
   fun p cap W => callsIn_wide.2 (AnyM.slices_Sort_int_none Try.sortL p cap W)⟩
theorem sorted_call {σ : Heap} {q m : Nat} {opn : Option TypeId} {es : List (Int × AVal)} (hq : σ.get q = some (.cells [.mp (.new m)] opn)) (hm : σ.get m = some (.map es)) (hw : ∀ p ∈ es, (Lit.int .i64 p.1).wf = true) (hsz : es.length ≤ 1000000) (hd : σ.F0.dr = false) :
    ACall Try.prog n_slices_Sorted_int [.fn n_maps_Keys_rev_set_int_unit_1 [.ptr (.new q) 0]] σ (if es = [] then .nils else .slc (.new σ.next) 0 es.length (.gr 1)) (if es = [] then σ else σ.new (.cells (keyCells es) (some t_int))) :=
  acall_of_afun (sorted_afun { Try.keysL with } Try.sortedL sortsL (enters_of Try.func40 (by kernel_rfl) rfl) (enters_of Try.func41 (by kernel_rfl) rfl) Try.underlying3 hq hm hw hsz hd) ⟨_, Try.func36, by kernel_rfl, by kernel_rfl⟩
def extSorted : List AVal → Heap → Option (AVal × Heap)
  | [.fn g [.ptr (.new q) 0]], σ => if g = n_maps_Keys_rev_set_int_unit_1 then match σ.get q with
    | some (.cells [.mp (.new m)] _) => match σ.get m with
      | some (.map es) => if es.all (fun p => (Lit.int .i64 p.1).wf) = true ∧ es.length ≤ 1000000 ∧ σ.F0.dr = false then
          (match es with
            | [] => some (.nils, σ)
            | x :: r => some (.slc (.new σ.next) 0 (x :: r).length (.gr 1), σ.new (.cells (keyCells (x :: r)) (some t_int))))
        else none
      | _ => none
    | _ => none
    else none
  | _, _ => none
theorem extSorted_ok {l : List AVal} {σ σ' : Heap} {v : AVal} (h : extSorted l σ = some (v, σ')) : ACall Try.prog n_slices_Sorted_int l σ v σ' := by
  unfold extSorted at h
  split at h
  · split at h
    · rename_i hg; subst hg
      split at h
      · rename_i hq
        split at h
        · rename_i hm
          split at h
          · rename_i hc
            have := sorted_call hq hm (fun p hp => List.all_eq_true.1 hc.1 p hp) hc.2.1 hc.2.2
            split at h
            · cases h; exact this
            · cases h; exact this
          · cases h
        · cases h
      · cases h
    · cases h
  · cases h
def ext : Caller := fun f l σ =>
  if f = n_maps_Clone_rev_set_int_unit then extClone l σ else
  if f = n_slices_Sorted_int then extSorted l σ else none
theorem ext_ok : CallOk Try.prog ext := by
  intro f l σ v σ' h
  unfold ext at h
  split at h
  · rename_i e; subst e; exact extClone_ok h
  split at h
  · rename_i e; subst e; exact extSorted_ok h
  cases h
end Go.Proofs.Ytaakajfmbjjigaa.M
