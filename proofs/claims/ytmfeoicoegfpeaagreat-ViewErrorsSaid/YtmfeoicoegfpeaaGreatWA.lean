/- A part of the seat's proofs over the abstract machine. No condition. -/
import Derived.Test.YtmfeoicoegfpeaaGreatFA
import Derived.Test.YtmfeoicoegfpeaaGreatLays
import Derived.Test.YtmfeoicoegfpeaaGreatMB
set_option linter.unusedSimpArgs false
set_option linter.unusedVariables false
set_option maxRecDepth 100000
namespace Go.Proofs.YtmfeoicoegfpeaaGreat.M
open Go Go.Mini Go.RowKit Go.Sort Go.Shelf Go.Proofs
abbrev t_u8 : TypeId := 5
abbrev t_int : TypeId := 3
abbrev t_Builder : TypeId := 91
theorem copyCheck_fresh_call {σ : Heap} {k : Nat} {buf : AVal} (hg : σ.get k = some (.tcells t_Builder [.nilp, buf])) : ACall Tryz.prog n_strings_Builder_copyCheck [.ptr (.new k) 0] σ (.tup []) (σ.set k (.tcells t_Builder [.ptr (.new k) 0, buf])) :=
  acall_of_afun (copyCheck_fresh Tryz.lays240 Tryz.Builder_X72_240 hg) ⟨_, Tryz.func95, by kernel_rfl, by kernel_rfl⟩
theorem copyCheck_used_call {σ : Heap} {k : Nat} {T : TypeId} {buf : AVal} (hg : σ.get k = some (.tcells T [.ptr (.new k) 0, buf])) : ACall Tryz.prog n_strings_Builder_copyCheck [.ptr (.new k) 0] σ (.tup []) σ :=
  acall_of_afun (copyCheck_used Tryz.lays240 Tryz.Builder_X72_240 hg) ⟨_, Tryz.func95, by kernel_rfl, by kernel_rfl⟩
theorem bldString_call {σ : Heap} {k g : Nat} {T : TypeId} {p : AVal} {l : List UInt8} (h0 : l ≠ []) (hm : l.length ≤ maxRoom) (hg : σ.get k = some (.tcells T [p, .slc (.new g) 0 l.length (.gr 1)])) (hb : σ.get g = some (.cells (byteCells l) (some t_u8))) :
    ACall Tryz.prog n_strings_Builder_String [.ptr (.new k) 0] σ (.str l) (σ.set g .dead) :=
  acall_of_afun (bldString_full Tryz.lays169 Tryz.Builder_Extra_169 h0 hm hg hb) ⟨_, Tryz.func45, by kernel_rfl, by kernel_rfl⟩
theorem bldString_nil_call {σ : Heap} {k : Nat} {T : TypeId} {p : AVal} (hg : σ.get k = some (.tcells T [p, .nils])) : ACall Tryz.prog n_strings_Builder_String [.ptr (.new k) 0] σ (.str []) σ :=
  acall_of_afun (bldString_nil Tryz.lays169 Tryz.Builder_Extra_169 hg) ⟨_, Tryz.func45, by kernel_rfl, by kernel_rfl⟩
def extCopyCheck : List AVal → Heap → Option (AVal × Heap)
  | [.ptr (.new k) 0], σ => match σ.get k with
    | some (.tcells T [.nilp, buf]) => if T = t_Builder then some (.tup [], σ.set k (.tcells t_Builder [.ptr (.new k) 0, buf])) else none
    | some (.tcells _ [.ptr (.new j) 0, _]) => if j = k then some (.tup [], σ) else none
    | _ => none
  | _, _ => none
theorem extCopyCheck_ok {l : List AVal} {σ σ' : Heap} {v : AVal} (h : extCopyCheck l σ = some (v, σ')) : ACall Tryz.prog n_strings_Builder_copyCheck l σ v σ' := by
  unfold extCopyCheck at h
  split at h
  · split at h
    · rename_i hg
      split at h
      · rename_i ht; subst ht; cases h; exact copyCheck_fresh_call hg
      · cases h
    · rename_i hg
      split at h
      · rename_i hj; subst hj; cases h; exact copyCheck_used_call hg
      · cases h
    · cases h
  · cases h
def extString : List AVal → Heap → Option (AVal × Heap)
  | [.ptr (.new k) 0], σ => match σ.get k with
    | some (.tcells _ [_, .nils]) => some (.str [], σ)
    | some (.tcells _ [_, .slc (.new g) 0 n (.gr 1)]) => match σ.get g with
      | some (.cells cs (some e)) => match asBytes cs with
        | some l => if e = t_u8 ∧ n = l.length ∧ l ≠ [] ∧ l.length ≤ maxRoom ∧ sames0 cs (byteCells l) = true then some (.str l, σ.set g .dead) else none
        | none => none
      | _ => none
    | _ => none
  | _, _ => none
theorem extString_ok {l : List AVal} {σ σ' : Heap} {v : AVal} (h : extString l σ = some (v, σ')) : ACall Tryz.prog n_strings_Builder_String l σ v σ' := by
  unfold extString at h
  split at h
  · split at h
    · rename_i hg; cases h; exact bldString_nil_call hg
    · rename_i hg
      split at h
      · rename_i hb
        split at h
        · split at h
          · rename_i hc
            obtain ⟨rfl, rfl, h0, hm, hs⟩ := hc
            cases h
            rw [sames0_eq hs] at hb
            exact bldString_call h0 hm hg hb
          · cases h
        · cases h
      · cases h
    · cases h
  · cases h
theorem clone_call {σ : Heap} {m : Nat} {es : List (Int × AVal)} (hm : σ.get m = some (.map es)) : ACall Tryz.prog n_maps_Clone_rev_set_int_unit [.mp (.new m)] σ (.mp (.new σ.next)) (σ.new (.map es)) :=
  acall_of_afun (clone_afun Tryz.cloneL hm) ⟨_, Tryz.func109, by kernel_rfl, by kernel_rfl⟩
def extClone : List AVal → Heap → Option (AVal × Heap)
  | [.mp (.new m)], σ => match σ.get m with
    | some (.map es) => some (.mp (.new σ.next), σ.new (.map es))
    | _ => none
  | _, _ => none
theorem extClone_ok {l : List AVal} {σ σ' : Heap} {v : AVal} (h : extClone l σ = some (v, σ')) : ACall Tryz.prog n_maps_Clone_rev_set_int_unit l σ v σ' := by
  unfold extClone at h
  split at h
  · split at h
    · rename_i hm; cases h; exact clone_call hm
    · cases h
  · cases h
theorem sortsL (m : Nat) : AnyZI.SortsIn Tryz.prog Tryz.sortedL_ren Fence.wide m :=
  ⟨fun blk off cap ss W hH hblk hsz => callsIn_wide.2 (AnyM.slices_Sort_int Tryz.sortL blk off cap ss W hH hblk hsz),
   fun p cap W => callsIn_wide.2 (AnyM.slices_Sort_int_none Tryz.sortL p cap W)⟩
theorem sorted_call {σ : Heap} {q m : Nat} {opn : Option TypeId} {es : List (Int × AVal)} (hq : σ.get q = some (.cells [.mp (.new m)] opn)) (hm : σ.get m = some (.map es)) (hw : ∀ p ∈ es, (Lit.int .i64 p.1).wf = true) (hsz : es.length ≤ 1000000) (hd : σ.F0.dr = false) :
    ACall Tryz.prog n_slices_Sorted_int [.fn n_maps_Keys_rev_set_int_unit_1 [.ptr (.new q) 0]] σ (if es = [] then .nils else .slc (.new σ.next) 0 es.length (.gr 1)) (if es = [] then σ else σ.new (.cells (keyCells es) (some t_int))) :=
  acall_of_afun (sorted_afun { Tryz.keysL with } Tryz.sortedL sortsL (enters_of Tryz.func194 (by kernel_rfl) rfl) (enters_of Tryz.func195 (by kernel_rfl) rfl) Tryz.underlying3 hq hm hw hsz hd) ⟨_, Tryz.func184, by kernel_rfl, by kernel_rfl⟩
def extSorted : List AVal → Heap → Option (AVal × Heap)
  | [.fn g [.ptr (.new q) 0]], σ => if g = n_maps_Keys_rev_set_int_unit_1 then match σ.get q with
    | some (.cells [.mp (.new m)] _) => match σ.get m with
      | some (.map es) => if es.all (fun p => (Lit.int .i64 p.1).wf) = true ∧ es.length ≤ 1000000 ∧ σ.F0.dr = false then
          (match es with
            | [] => some (.nils, σ)
            | x :: r => some (.slc (.new σ.next) 0 (x :: r).length (.gr 1), σ.new (.cells (keyCells (x :: r)) (some t_int))))
        else none
      | _ => none
    | _ => none
    else none
  | _, _ => none
theorem extSorted_ok {l : List AVal} {σ σ' : Heap} {v : AVal} (h : extSorted l σ = some (v, σ')) : ACall Tryz.prog n_slices_Sorted_int l σ v σ' := by
  unfold extSorted at h
  split at h
  · split at h
    · rename_i hg; subst hg
      split at h
      · rename_i hq
        split at h
        · rename_i hm
          split at h
          · rename_i hc
            have := sorted_call hq hm (fun p hp => List.all_eq_true.1 hc.1 p hp) hc.2.1 hc.2.2
            split at h
            · cases h; exact this
            · cases h; exact this
          · cases h
        · cases h
      · cases h
    · cases h
  · cases h
def ext : Caller := fun f l σ =>
  if f = n_strings_Builder_copyCheck then extCopyCheck l σ else
  if f = n_strings_Builder_String then extString l σ else
  if f = n_maps_Clone_rev_set_int_unit then extClone l σ else
  if f = n_slices_Sorted_int then extSorted l σ else none
theorem ext_ok : CallOk Tryz.prog ext := by
  intro f l σ v σ' h
  unfold ext at h
  split at h
  · rename_i e; subst e; exact extCopyCheck_ok h
  split at h
  · rename_i e; subst e; exact extString_ok h
  split at h
  · rename_i e; subst e; exact extClone_ok h
  split at h
  · rename_i e; subst e; exact extSorted_ok h
  cases h
end Go.Proofs.YtmfeoicoegfpeaaGreat.M
namespace Go.Proofs.YtmfeoicoegfpeaaGreat.M
open Go Go.Mini
noncomputable abbrev fgB : Code := (Tryz.f85.body).getD .skip
def fg0 : SCode := (.reg none [⟨some 4, .mv (.lit (.int .i64 0)), none, []⟩])
theorem fg0_c : cCode Tryz.prog 77 (sl (fgB)) = some fg0 := by kernel_rfl
def fg1 : SCode := (.reg none [⟨some 12, .mmap, none, []⟩,
 ⟨some 5, .mv (.tmp 12), none, [0, 0]⟩])
theorem fg1_c : cCode Tryz.prog 77 (sl (sr (fgB))) = some fg1 := by kernel_rfl
def fg2 : SCode := (.seq (.reg none [⟨some 13, .mv (.tmp 1), none, []⟩,
 ⟨some 14, .len (.tmp 13), none, [0]⟩,
 ⟨some 15, .mv (.lit (.int .i64 0)), none, []⟩])
(.block 0 (.loop (.seq (.reg none [⟨some 16, .bin .lss .int (.tmp 15) (.tmp 14), none, []⟩])
(.seq (.cond (.tmp 16) .skip (.exit 0))
(.seq (.block 1 (.seq (.reg none [⟨some 17, .idxA 1 (.tmp 13) (.tmp 15), none, []⟩,
 ⟨some 18, .load none (.tmp 17), none, [0]⟩,
 ⟨some 7, .mv (.tmp 18), none, [1, 0, 1]⟩])
(.seq (.seq (.reg none [⟨some 20, .mv (.tmp 5), none, []⟩,
 ⟨some 21, .mv (.tmp 7), none, []⟩,
 ⟨some 22, .look (.agg []) true (.tmp 20) (.tmp 21), none, [0, 1]⟩,
 ⟨some 19, .mv (.tmp 22), none, [2]⟩,
 ⟨some 23, .ext (.tmp 19) 0, none, [3]⟩,
 ⟨some 24, .ext (.tmp 19) 1, none, [3]⟩,
 ⟨some 8, .alloc [], none, []⟩,
 ⟨none, .store 0 (.tmp 8) (.tmp 23), none, [6, 4, 0, 1, 2, 3, 4, 6]⟩,
 ⟨some 9, .mv (.tmp 24), none, [5, 7, 0, 1, 2, 3, 4, 5, 6, 7]⟩])
(.seq (.reg none [⟨some 25, .mv (.tmp 9), none, []⟩,
 ⟨some 26, .mv (.tmp 25), none, [0]⟩,
 ⟨some 27, .mv (.tmp 0), some (26, false), [1]⟩,
 ⟨some 28, .mv (.tmp 7), some (26, false), [1]⟩,
 ⟨some 29, .call (.lit (.fn 121 [])) [(.tmp 27), (.tmp 28)], some (26, false), [2, 3, 1, 1]⟩,
 ⟨some 30, .not (.tmp 29), some (26, false), [4, 1]⟩,
 ⟨some 31, .pick (.tmp 26) (.lit (.bool true)) (.tmp 30), none, [1, 5]⟩])
(.cond (.tmp 31) (.seq (.reg none [⟨some 4, .mv (.lit (.int .i64 210)), none, []⟩])
.ret) .skip)))
(.reg none [⟨some 32, .mv (.tmp 5), none, []⟩,
 ⟨some 33, .mv (.tmp 7), none, []⟩,
 ⟨some 34, .build [] [], none, []⟩,
 ⟨none, .mapUp (.tmp 32) (.tmp 33) (.tmp 34), none, [0, 1, 2, 0, 1, 2]⟩]))))
(.reg none [⟨some 35, .bin .add .int (.tmp 15) (.lit (.int .i64 1)), none, []⟩,
 ⟨some 15, .mv (.tmp 35), none, [0]⟩])))))))
theorem fg2_c : cCode Tryz.prog 77 (sl (sr (sr (fgB)))) = some fg2 := by kernel_rfl
def fg3 : SCode := (.reg (some [0, 1, 3, 7, 0, 16, 48, 112, 240, 496, 1023, 2047, 4095]) [⟨some 36, .mv (.tmp 0), none, []⟩,
 ⟨some 37, .nilc (.tmp 36), none, [0]⟩,
 ⟨some 38, .fldA 0 (.tmp 37), none, [1]⟩,
 ⟨some 39, .load none (.tmp 38), none, [2]⟩,
 ⟨some 40, .mv (.tmp 0), none, []⟩,
 ⟨some 41, .nilc (.tmp 40), none, [4]⟩,
 ⟨some 42, .fldA 0 (.tmp 41), none, [5]⟩,
 ⟨some 43, .load none (.tmp 42), none, [6]⟩,
 ⟨some 44, .len (.tmp 43), none, [7]⟩,
 ⟨some 45, .bin .sub .int (.tmp 44) (.lit (.int .i64 1)), none, [8]⟩,
 ⟨some 46, .idxA 1 (.tmp 39) (.tmp 45), none, [3, 9]⟩,
 ⟨some 47, .load none (.tmp 46), none, [10]⟩,
 ⟨some 10, .mv (.tmp 47), none, [11, 0, 1, 2, 3, 4, 5, 6, 7, 8, 9, 10, 11]⟩])
theorem fg3_c : cCode Tryz.prog 77 (sl (sr (sr (sr (fgB))))) = some fg3 := by kernel_rfl
def fg4 : SCode := (.reg none [⟨some 48, .mv (.tmp 0), none, []⟩,
 ⟨some 49, .mv (.tmp 0), none, []⟩,
 ⟨some 50, .call (.lit (.fn 46 [])) [(.tmp 49)], none, [1]⟩,
 ⟨some 51, .nilc (.tmp 48), none, [0, 0, 1, 2]⟩,
 ⟨some 52, .fldA 1 (.tmp 51), none, [3, 0, 1, 2]⟩,
 ⟨none, .store 1 (.tmp 52) (.tmp 50), none, [4, 2, 2, 0, 1, 2]⟩])
theorem fg4_c : cCode Tryz.prog 77 (sl (sr (sr (sr (sr (fgB)))))) = some fg4 := by kernel_rfl
def fg5 : SCode := (.reg none [⟨some 53, .mv (.tmp 0), none, []⟩,
 ⟨some 54, .mv (.tmp 10), none, []⟩,
 ⟨some 55, .bslc 1 [(.raw (.map none))] 1 [(0, 1, (.tmp 54))], none, [1]⟩,
 ⟨some 56, .nilc (.tmp 53), none, [0, 0, 1, 2]⟩,
 ⟨some 57, .fldA 0 (.tmp 56), none, [3, 0, 1, 2]⟩,
 ⟨none, .store 1 (.tmp 57) (.tmp 55), none, [4, 2, 0, 1, 2]⟩])
theorem fg5_c : cCode Tryz.prog 77 (sl (sr (sr (sr (sr (sr (fgB))))))) = some fg5 := by kernel_rfl
noncomputable abbrev fgM : Code := sl (sr (sr (sr (sr (sr (sr (fgB)))))))
noncomputable abbrev fgT : Code := sr (sr (sr (sr (sr (sr (sr (fgB)))))))
theorem fg_shape : fgB = .seq (sl (fgB)) (.seq (sl (sr (fgB))) (.seq (sl (sr (sr (fgB)))) (.seq (sl (sr (sr (sr (fgB))))) (.seq (sl (sr (sr (sr (sr (fgB)))))) (.seq (sl (sr (sr (sr (sr (sr (fgB))))))) (.seq fgM fgT)))))) := by kernel_rfl
theorem fg_fn : Tryz.prog.funcs[n_rev_Revs_Forget]? = some Tryz.f85 := Tryz.func85
theorem fg_body : Tryz.f85.body = some fgB := rfl
theorem fg_res : cRes Tryz.prog Tryz.f85.ntmps Tryz.f85.results.toList = some [.tmp 4] := by kernel_rfl
noncomputable abbrev fgF : Func := Tryz.f85
theorem fg_n : fgF.ntmps = 77 := rfl
theorem fg_name : (fgF.name == "runtime.NumGoroutine") = false := by kernel_rfl
end Go.Proofs.YtmfeoicoegfpeaaGreat.M
namespace Go.Proofs.YtmfeoicoegfpeaaGreat.M
open Go Go.Mini
attribute [local congr] go1_congr goM_congr goG_congr goV_congr
structure Cut where
  rev : Int
  group : Int
  deriving DecidableEq
structure Atom where
  text : List UInt8
  rev : Int
  group : Int
  rank : Int
  cuts : List Cut
  deriving DecidableEq
def eCut (c : Cut) : AVal := .agg [.int .i64 c.rev, .int .i64 c.group]
def eCuts (l : List Cut) : AVal := .fsl 2 (l.map eCut)
def eAtom (a : Atom) : AVal := .agg [.str a.text, .int .i64 a.rev, .int .i64 a.group, .int .i64 a.rank, eCuts a.cuts]
def eAtoms (l : List Atom) : AVal := .fsl 5 (l.map eAtom)
structure Chg where
  frm : Int
  to : Int
  text : List UInt8
  deriving DecidableEq
def eChg (c : Chg) : AVal := .agg [.int .i64 c.frm, .int .i64 c.to, .str c.text]
def eChgs (l : List Chg) : AVal := .fsl 3 (l.map eChg)
theorem drawwp_congr {P : Program} {tab : List Nat} {i : Nat} {ops : List SOper} {past : List Ev} {K : Mini.Frame → Heap → Prop} {fr fr' : Mini.Frame} {σ σ' : Heap} (h : fr = fr') (h' : σ = σ') : drawwp P tab i ops past K fr σ = drawwp P tab i ops past K fr' σ' := by rw [h, h']
def ints (l : List Int) : AVal := .fsl 1 (l.map (.int .i64 ·))
theorem wrap_id {x : Int} (h1 : -9223372036854775808 ≤ x) (h2 : x < 9223372036854775808) : IntKind.i64.wrap x = x := by
  have e1 : (2 : Int) ^ 64 = 18446744073709551616 := by decide
  have e2 : (2 : Int) ^ (64 - 1) = 9223372036854775808 := by decide
  simp only [IntKind.wrap, IntKind.bits, IntKind.signed, Bool.true_and, decide_eq_true_eq, e1, e2]
  split <;> omega
theorem lt_next {k n : Nat} (h : k < n) : (n = k) = False := eq_false (by omega)
theorem lt_next_add {k n j : Nat} (h : k < n) : (n + j = k) = False := eq_false (by omega)
theorem lt_next2 {k n : Nat} (h : k < n) : (n + 1 + 1 = k) = False := eq_false (by omega)
theorem lt_next3 {k n : Nat} (h : k < n) : (n + 1 + 1 + 1 = k) = False := eq_false (by omega)
theorem aLen_fsl (k : Nat) (els : List AVal) : aLen (.fsl k els) = some (.int .i64 els.length) := rfl
theorem aLen_nils : aLen .nils = some (.int .i64 (0 : Nat)) := rfl
theorem aLen_emp0 : aLen .emp0 = some (.int .i64 (0 : Nat)) := rfl
theorem aLen_emp : aLen .emp = some (.int .i64 (0 : Nat)) := rfl
theorem aLen_slc (i : Mini.Id) (off len : Nat) (c : Cap) : aLen (.slc i off len c) = some (.int .i64 len) := rfl

def uents (l : List Int) : List (Int × AVal) := l.map fun g => (g, .agg [])
def insS (n : Int) : List Int → List Int
  | [] => [n]
  | m :: l => if m = n then n :: l else if n < m then n :: m :: l else m :: insS n l
theorem put_set (n : Int) : ∀ l : List Int, mapPut n (.agg []) (uents l) = uents (insS n l)
  | [] => rfl
  | m :: l => by
    simp only [uents, List.map_cons, mapPut, insS]
    split
    · rfl
    · split
      · rfl
      · have := put_set n l; simp only [uents] at this; rw [this]; rfl
theorem del_set (n : Int) : ∀ l : List Int, mapDel n (uents l) = uents (l.erase n)
  | [] => rfl
  | m :: l => by
    simp only [uents, List.map_cons, mapDel, List.erase_cons]
    by_cases h : m = n
    · subst h; simp
    · have hb : (m == n) = false := by simpa using h
      rw [if_neg h, hb]
      have := del_set n l; simp only [uents] at this; simp [this]
theorem mem_insS {x n : Int} : ∀ {l : List Int}, x ∈ insS n l ↔ x = n ∨ x ∈ l
  | [] => by simp [insS]
  | m :: l => by
    simp only [insS]
    split
    · rename_i h; subst h; simp
    · split
      · simp
      · simp only [List.mem_cons, mem_insS (l := l)]
        constructor
        · rintro (h | h | h)
          · exact .inr (.inl h)
          · exact .inl h
          · exact .inr (.inr h)
        · rintro (h | h | h)
          · exact .inr (.inl h)
          · exact .inl h
          · exact .inr (.inr h)
def Rise (l : List Int) : Prop := l.Pairwise (· < ·) ∧ ∀ g ∈ l, 0 ≤ g ∧ g < 60
theorem Rise.nil : Rise [] := ⟨.nil, fun _ h => by cases h⟩
theorem pair_insS {n : Int} : ∀ {l : List Int}, l.Pairwise (· < ·) → (insS n l).Pairwise (· < ·)
  | [], _ => by simp [insS]
  | m :: l, h => by
    simp only [insS]
    have h1 := fun x (hx : x ∈ l) => List.rel_of_pairwise_cons h hx
    split
    · rename_i e; subst e; exact h
    · split
      · rename_i hlt
        refine .cons ?_ h
        intro x hx
        rcases List.mem_cons.1 hx with rfl | hx
        · exact hlt
        · exact Int.lt_trans hlt (h1 x hx)
      · refine .cons ?_ (pair_insS h.of_cons)
        intro x hx
        rcases mem_insS.1 hx with rfl | hx
        · omega
        · exact h1 x hx
theorem Rise.ins {l : List Int} {n : Int} (h : Rise l) (h0 : 0 ≤ n) (h1 : n < 60) : Rise (insS n l) :=
  ⟨pair_insS h.1, fun g hg => by rcases mem_insS.1 hg with rfl | hg; exact ⟨h0, h1⟩; exact h.2 g hg⟩
theorem Rise.erase {l : List Int} (n : Int) (h : Rise l) : Rise (l.erase n) := ⟨h.1.sublist List.erase_sublist, fun g hg => h.2 g (List.mem_of_mem_erase hg)⟩
theorem Rise.nodup {l : List Int} (h : Rise l) : l.Nodup := h.1.imp fun h => by omega
structure Revs where
  und : List (List Int)
  floor : Nat
  grp : List Int
  gone : List Int
def Revs.head (R : Revs) : Nat := R.floor + R.und.length - 1
def Revs.top (R : Revs) : List Int := R.und.getLastD []
structure Revs.Ok (R : Revs) : Prop where
  one : R.und ≠ []
  few : R.floor + R.und.length ≤ 201
  rise : ∀ s ∈ R.und, Rise s
  grp : Rise R.grp
  gone : Rise R.gone
abbrev t_set : TypeId := 109
def Keep (fp : List Nat) (σ τ : Heap) : Prop := τ.W = σ.W ∧ τ.F0 = σ.F0 ∧ σ.next ≤ τ.next ∧ ∀ q, q < σ.next → q ∉ fp → τ.get q = σ.get q
theorem Keep.refl (fp : List Nat) (σ : Heap) : Keep fp σ σ := ⟨rfl, rfl, Nat.le_refl _, fun _ _ _ => rfl⟩
def Fresh (fp : List Nat) (σ : Heap) (fp' : List Nat) : Prop := ∀ x ∈ fp', x ∈ fp ∨ σ.next ≤ x
theorem Keep.trans {fp fp' : List Nat} {σ τ ρ : Heap} (h : Keep fp σ τ) (h' : Keep fp' τ ρ) (hf : Fresh fp σ fp') : Keep fp σ ρ :=
  ⟨h'.1.trans h.1, h'.2.1.trans h.2.1, Nat.le_trans h.2.2.1 h'.2.2.1, fun q hq hn => by
    rw [h'.2.2.2 q (Nat.lt_of_lt_of_le hq h.2.2.1) (fun hm => by rcases hf q hm with h1 | h1; exact hn h1; omega), h.2.2.2 q hq hn]⟩
theorem Fresh.trans {fp fp' fp'' : List Nat} {σ τ : Heap} (h : Fresh fp σ fp') (hk : σ.next ≤ τ.next) (h' : Fresh fp' τ fp'') : Fresh fp σ fp'' := fun x hx => by
  rcases h' x hx with h1 | h1
  · exact h x h1
  · exact .inr (Nat.le_trans hk h1)
theorem Keep.mono {fp fp' : List Nat} {σ τ : Heap} (h : Keep fp σ τ) (hs : ∀ x ∈ fp, x < σ.next → x ∈ fp') : Keep fp' σ τ := ⟨h.1, h.2.1, h.2.2.1, fun q hq hn => h.2.2.2 q hq fun hm => hn (hs q hm hq)⟩
theorem Keep.new {fp : List Nat} {σ τ : Heap} (h : Keep fp σ τ) (b : ABlk) : Keep fp σ (τ.new b) := ⟨h.1, h.2.1, Nat.le_succ_of_le h.2.2.1, fun q hq hn => by rw [Heap.get_new, if_neg (by have := h.2.2.1; omega)]; exact h.2.2.2 q hq hn⟩
theorem Keep.set {fp : List Nat} {σ τ : Heap} (h : Keep fp σ τ) {j : Nat} (hj : j ∈ fp ∨ σ.next ≤ j) (b : ABlk) : Keep fp σ (τ.set j b) := ⟨h.1, h.2.1, h.2.2.1, fun q hq hn => by
  rw [Heap.get_set, if_neg (fun e => by subst e; rcases hj with h | h; exact hn h; omega)]; exact h.2.2.2 q hq hn⟩
def mps (ms : List Nat) : List AVal := ms.map fun m => .mp (.new m)
def SetRow (σ : Heap) (K : Nat) (cap : Cap) (ms : List Nat) : Prop := ∃ cs opn, σ.get K = some (.cells cs opn) ∧ cs.take ms.length = mps ms ∧ ((cap = .gr 1 ∧ opn = some t_set ∧ cs.length = ms.length) ∨ ∃ c, cap = .ex c ∧ ms.length ≤ c ∧ cs.length = c)
theorem mps_len (ms : List Nat) : (mps ms).length = ms.length := by simp [mps]
theorem mps_flat : ∀ ms : List Nat, (mps ms).flatMap AVal.cells = mps ms
  | [] => rfl
  | m :: ms => by have := mps_flat ms; simp only [mps, List.map_cons, List.flatMap_cons, AVal.cells] at *; rw [this]; rfl
theorem mps_one (ms : List Nat) : ∀ z ∈ mps ms, z.cells.length = 1 := by
  intro z hz; simp only [mps, List.mem_map] at hz; obtain ⟨m, _, rfl⟩ := hz; rfl
theorem SetRow.row {σ : Heap} {K : Nat} {cap : Cap} {ms : List Nat} (h : SetRow σ K cap ms) (hK : K < σ.next) : Row 0 σ t_set 1 (.slc (.new K) 0 ms.length cap) (mps ms) := by
  obtain ⟨cs, opn, h1, h2, h3⟩ := h
  refine ⟨mps_one ms, .inr ⟨K, cap, cs, opn, by rw [mps_len], h1, by rw [mps_flat, mps_len, Nat.mul_one]; exact h2, Nat.zero_le _, hK, ?_⟩⟩
  rw [mps_len]
  rcases h3 with ⟨a, b, c⟩ | ⟨c, a, b, d⟩
  · exact .inl ⟨a, b, by omega⟩
  · exact .inr ⟨c, a, b, by omega⟩
theorem SetRow.cell {σ : Heap} {K : Nat} {cap : Cap} {ms : List Nat} (h : SetRow σ K cap ms) {i m : Nat} (hi : ms[i]? = some m) : σ.cell (.new K) i = some (.mp (.new m)) := by
  obtain ⟨cs, opn, h1, h2, h3⟩ := h
  have hlt := (List.getElem?_eq_some_iff.1 hi).1
  have : (cs.take ms.length)[i]? = some (.mp (.new m)) := by rw [h2]; simp [mps, hi]
  rw [List.getElem?_take, if_pos hlt] at this
  simp only [Heap.cell, h1, this]
structure RevsAt (σ : Heap) (k : Nat) (R : Revs) (K : Nat) (cap : Cap) (ms : List Nat) (mg mf : Nat) : Prop where
  blk : σ.get k = some (.cells [.slc (.new K) 0 ms.length cap, .int .i64 (R.floor : Nat), .mp (.new mg), .mp (.new mf)] none)
  row : SetRow σ K cap ms
  len : ms.length = R.und.length
  maps : ∀ (i : Nat) (m : Nat) (s : List Int), ms[i]? = some m → R.und[i]? = some s → σ.get m = some (.map (uents s))
  grp : σ.get mg = some (.map (uents R.grp))
  gone : σ.get mf = some (.map (uents R.gone))
  nodup : (k :: K :: mg :: mf :: ms).Nodup
  low : ∀ x ∈ k :: K :: mg :: mf :: ms, x < σ.next
  ok : R.Ok
  dr : σ.F0.dr = false
def IsRevs (σ : Heap) (k : Nat) (R : Revs) (fp : List Nat) : Prop := ∃ K cap ms mg mf, RevsAt σ k R K cap ms mg mf ∧ fp = k :: K :: mg :: mf :: ms
theorem RevsAt.at {σ τ : Heap} {k : Nat} {R : Revs} {K : Nat} {cap : Cap} {ms : List Nat} {mg mf : Nat} (h : RevsAt σ k R K cap ms mg mf) (hn : σ.next ≤ τ.next) (hF : τ.F0 = σ.F0) (hk : ∀ q ∈ k :: K :: mg :: mf :: ms, τ.get q = σ.get q) : RevsAt τ k R K cap ms mg mf where
  blk := by rw [hk k (by simp)]; exact h.blk
  row := by
    obtain ⟨cs, opn, h1, h2⟩ := h.row
    exact ⟨cs, opn, by rw [hk K (by simp)]; exact h1, h2⟩
  len := h.len
  maps := fun i m s h1 h2 => by rw [hk m (by have := List.mem_of_getElem? h1; simp [this])]; exact h.maps i m s h1 h2
  grp := by rw [hk mg (by simp)]; exact h.grp
  gone := by rw [hk mf (by simp)]; exact h.gone
  nodup := h.nodup
  low := fun x hx => Nat.lt_of_lt_of_le (h.low x hx) hn
  ok := h.ok
  dr := by rw [hF]; exact h.dr
theorem IsRevs.keep {σ τ : Heap} {k : Nat} {R : Revs} {fp fp' : List Nat} (h : IsRevs σ k R fp) (hk : Keep fp' σ τ) (hd : ∀ x ∈ fp, x ∉ fp') : IsRevs τ k R fp := by
  obtain ⟨K, cap, ms, mg, mf, h, rfl⟩ := h
  exact ⟨K, cap, ms, mg, mf, h.at hk.2.2.1 hk.2.1 fun q hq => hk.2.2.2 q (h.low q hq) (hd q hq), rfl⟩
theorem evz : type_of% (And.intro (And.intro (And.intro (And.intro @ints.eq_1 @eCut.eq_1) (And.intro @eCuts.eq_1 @eAtom.eq_1)) (And.intro (And.intro @eAtoms.eq_1 @eChg.eq_1) (And.intro @eChgs.eq_1 (And.intro @aLen_fsl @aLen_nils)))) (And.intro (And.intro (And.intro @aLen_slc @aLen_emp) (And.intro @aLen_emp0 @put_set)) (And.intro (And.intro @del_set @lt_next) (And.intro @lt_next_add (And.intro @lt_next2 @lt_next3))))) := (And.intro (And.intro (And.intro (And.intro @ints.eq_1 @eCut.eq_1) (And.intro @eCuts.eq_1 @eAtom.eq_1)) (And.intro (And.intro @eAtoms.eq_1 @eChg.eq_1) (And.intro @eChgs.eq_1 (And.intro @aLen_fsl @aLen_nils)))) (And.intro (And.intro (And.intro @aLen_slc @aLen_emp) (And.intro @aLen_emp0 @put_set)) (And.intro (And.intro @del_set @lt_next) (And.intro @lt_next_add (And.intro @lt_next2 @lt_next3)))))
end Go.Proofs.YtmfeoicoegfpeaaGreat.M
namespace Go.Proofs.YtmfeoicoegfpeaaGreat.M
open Go Go.Mini
def runs (call : Caller) (k : Nat) : Nat → SCode → Mini.Frame → Heap → Option (Mini.Frame × Heap)
  | 0, _, fr, σ => some (fr, σ)
  | m + 1, .seq a b, fr, σ => match codeC call k a fr σ with
    | some (.normal, fr', σ') => runs call k m b fr' σ'
    | _ => none
  | _ + 1, _, _, _ => none
def restC : Nat → SCode → SCode
  | 0, c => c
  | m + 1, .seq _ b => restC m b
  | _ + 1, c => c
theorem runs_ok {P : Program} {call : Caller} (hc : CallOk P call) (k : Nat) : ∀ (m : Nat) (c : SCode) (fr : Mini.Frame) (σ : Heap) (fr' : Mini.Frame) (σ' : Heap), runs call k m c fr σ = some (fr', σ') → ∀ Q : SExit → Mini.Frame → Heap → Prop, awp P (restC m c) Q fr' σ' → awp P c Q fr σ
  | 0, c, fr, σ, fr', σ', h, Q, hq => by cases h; exact hq
  | m + 1, c, fr, σ, fr', σ', h, Q, hq => by
    cases c with
    | seq a b =>
      simp only [runs] at h
      split at h
      · rename_i f1 s1 h1
        exact codeC_ok hc k a _ _ _ _ _ h1 _ (runs_ok hc k m b _ _ _ _ h Q hq)
      · cases h
    | _ => cases h
theorem run_end {P : Program} {call : Caller} (hc : CallOk P call) {k : Nat} {c : SCode} {fr : Mini.Frame} {σ : Heap} {res : List SRes} {W : World}
    (h : (codeC call k c fr σ).map (fun p => (ends p.1, resOf res p.2.1 p.2.2, p.2.2.W)) = some (true, some (.bool true), W)) {Q : SExit → Mini.Frame → Heap → Prop} (hQ : ∀ e fr s, ends e = true → resOf res fr s = some (.bool true) → s.W = W → Q e fr s) : awp P c Q fr σ := by
  rw [Option.map_eq_some_iff] at h
  obtain ⟨⟨e, fr', σ'⟩, h1, h2⟩ := h
  simp only [Prod.mk.injEq] at h2
  exact codeC_ok hc k c _ _ _ _ _ h1 _ (hQ e fr' σ' h2.1 h2.2.1 h2.2.2)
end Go.Proofs.YtmfeoicoegfpeaaGreat.M
set_option maxRecDepth 1000000
set_option maxHeartbeats 0
namespace Go.Proofs.YtmfeoicoegfpeaaGreat.M
open Go Go.Mini
namespace Kn
abbrev I (n : Int) : AVal := .int .i64 n
abbrev p (k : Nat) : AVal := .ptr (.new k) 0
abbrev N : AVal := .nils
abbrev Z : AVal := .nilp
abbrev C (l : List AVal) : ABlk := .cells l none
abbrev g (k n c : Nat) : AVal := .slc (.new k) 0 n (.gr c)
abbrev e (k n c : Nat) : AVal := .slc (.new k) 0 n (.ex c)
def trOf : Nat → List ABlk → Trie ABlk → Trie ABlk
  | _, [], t => t
  | i, b :: l, t => trOf (i + 1) l (t.set i b)
def mkH (W : World) (F : Nat → Nat → Option Value) (l : List ABlk) : Heap := ⟨W, ⟨F, false⟩, trOf 0 l .nil, l.length⟩
def mkF : List (Nat × AVal) → Mini.Frame → Mini.Frame
  | [], f => f
  | (t, v) :: l, f => mkF l (f.put t v)
end Kn
open Kn
def tblK : List (Nat × SFunc) := [(n_palinodelaw26_known, f_palinodelaw26_known), (n_view_New, f_view_New), (n_view_View_Do, f_view_View_Do), (n_view_View_Text, f_view_View_Text), (n_view_View_Head, f_view_View_Head), (n_view_View_Spans, f_view_View_Spans), (n_view_View_Breaks, f_view_View_Breaks), (n_view_View_Selection, f_view_View_Selection), (n_view_View_Convert, f_view_View_Convert), (n_engine_New, f_engine_New), (n_view_View_told, f_view_View_told), (n_view_View_Copy, f_view_View_Copy), (n_view_edits, f_view_edits), (n_view_View_edits, f_view_View_edits), (n_view_View_follows, f_view_View_follows), (n_view_View_marks, f_view_View_marks), (n_rope_Rope_String, f_rope_Rope_String), (n_engine_Engine_Head, f_engine_Engine_Head), (n_view_copied_api_Span, f_view_copied_api_Span), (n_view_copied_int, f_view_copied_int), (n_view_copied_api_Region, f_view_copied_api_Region), (n_metric_Convert, f_metric_Convert), (n_rev_New, f_rev_New), (n_engine_Engine_Text, f_engine_Engine_Text), (n_rope_New, f_rope_New), (n_engine_Engine_Copy, f_engine_Engine_Copy), (n_engine_Engine_Edit, f_engine_Engine_Edit), (n_engine_Engine_Toggle, f_engine_Engine_Toggle), (n_carets_Type, f_carets_Type), (n_diff_Between, f_diff_Between), (n_region_Move, f_region_Move), (n_spans_Edit, f_spans_Edit), (n_breaks_Edit, f_breaks_Edit), (n_region_Make, f_region_Make), (n_utf_IsEdge, f_utf_IsEdge), (n_tree_Seq_rope_piece_rope_counts_All, f_tree_Seq_rope_piece_rope_counts_All), (n_strings_Builder_WriteString, f_strings_Builder_WriteString), (n_rev_Revs_Head, f_rev_Revs_Head), (n_count_Is, f_count_Is), (n_metric_To, f_metric_To), (n_metric_From, f_metric_From), (n_engine_Engine_Live, f_engine_Engine_Live), (n_atom_Text, f_atom_Text), (n_engine_Engine_UndoneAt, f_engine_Engine_UndoneAt), (n_utf_Clean, f_utf_Clean), (n_rope_made, f_rope_made), (n_atom_Copy, f_atom_Copy), (n_rev_Revs_Copy, f_rev_Revs_Copy), (n_edit_Check, f_edit_Check), (n_rev_Revs_Add, f_rev_Revs_Add), (n_edit_Upon, f_edit_Upon), (n_engine_Engine_fits, f_engine_Engine_fits), (n_rev_Revs_Toggle, f_rev_Revs_Toggle), (n_region_Span, f_region_Span), (n_delta_NewMaker, f_delta_NewMaker), (n_diff_each, f_diff_each), (n_diff_Between_1, f_diff_Between_1), (n_delta_Maker_Copy, f_delta_Maker_Copy), (n_delta_Maker_Put, f_delta_Maker_Put), (n_delta_Maker_Delta, f_delta_Maker_Delta), (n_delta_Is, f_delta_Is), (n_region_every_api_Region, f_region_every_api_Region), (n_region_Move_1, f_region_Move_1), (n_interval_Is, f_interval_Is), (n_region_count, f_region_count), (n_offset_Move, f_offset_Move), (n_region_apart, f_region_apart), (n_spans_Is, f_spans_Is), (n_spans_told, f_spans_told), (n_breaks_Is, f_breaks_Is), (n_delta_Size, f_delta_Size), (n_region_inside, f_region_inside), (n_region_edges, f_region_edges), (n_utf_Valid, f_utf_Valid), (n_tree_Seq_rope_piece_rope_counts_Len, f_tree_Seq_rope_piece_rope_counts_Len), (n_tree_node_rope_piece_rope_counts_all, f_tree_node_rope_piece_rope_counts_all), (n_metric_Whole, f_metric_Whole), (n_rope_Rope_Upto, f_rope_Rope_Upto), (n_count_To, f_count_To), (n_count_Get, f_count_Get), (n_metric_told_int, f_metric_told_int), (n_count_From, f_count_From), (n_rev_Revs_Live, f_rev_Revs_Live), (n_atom_Visible, f_atom_Visible), (n_rev_Revs_Undone, f_rev_Revs_Undone), (n_tree_Make_rope_piece_rope_counts, f_tree_Make_rope_piece_rope_counts), (n_slices_Clone_api_Cut_api_Cut, f_slices_Clone_api_Cut_api_Cut), (n_edit_Check_1, f_edit_Check_1), (n_edit_first, f_edit_first), (n_edit_Check_2, f_edit_Check_2), (n_edit_Check_3, f_edit_Check_3), (n_edit_order, f_edit_order), (n_edit_Check_4, f_edit_Check_4), (n_edit_long, f_edit_long), (n_rev_Revs_next, f_rev_Revs_next), (n_edit_Spots, f_edit_Spots), (n_edit_Cuts, f_edit_Cuts), (n_atom_Put, f_atom_Put), (n_rev_Revs_has, f_rev_Revs_has), (n_engine_Engine_Atoms, f_engine_Engine_Atoms), (n_delta_IsCopy, f_delta_IsCopy), (n_delta_elem, f_delta_elem), (n_slices_ContainsFunc_api_Region_api_Region, f_slices_ContainsFunc_api_Region_api_Region), (n_region_every_api_Region_1, f_region_every_api_Region_1), (n_slices_Clone_api_Region_api_Region, f_slices_Clone_api_Region_api_Region), (n_slices_SortStableFunc_api_Region_api_Region, f_slices_SortStableFunc_api_Region_api_Region), (n_interval_Folded_api_Region, f_interval_Folded_api_Region), (n_spans_row_int_sorted, f_spans_row_int_sorted), (n_delta_sums, f_delta_sums), (n_slices_Contains_int_int, f_slices_Contains_int_int), (n_slices_ContainsFunc_api_Cut_api_Cut, f_slices_ContainsFunc_api_Cut_api_Cut), (n_region_inside_1, f_region_inside_1), (n_region_edges_1, f_region_edges_1), (n_utf_Size, f_utf_Size), (n_rope_Rope_Counts, f_rope_Rope_Counts), (n_tree_Seq_rope_piece_rope_counts_Seek, f_tree_Seq_rope_piece_rope_counts_Seek), (n_rope_Rope_Upto_1, f_rope_Rope_Upto_1), (n_tree_Seq_rope_piece_rope_counts_At, f_tree_Seq_rope_piece_rope_counts_At), (n_count_Of, f_count_Of), (n_count_Plus, f_count_Plus), (n_count_of, f_count_of), (n_atom_holds, f_atom_holds), (n_atom_Visible_1, f_atom_Visible_1), (n_rev_set_sorted, f_rev_set_sorted), (n_utf_isPoint, f_utf_isPoint), (n_utf_point, f_utf_point), (n_tree_spread_rope_piece_tree_node_rope_piece_rope_counts, f_tree_spread_rope_piece_tree_node_rope_piece_rope_counts), (n_tree_leaf_rope_piece_rope_counts, f_tree_leaf_rope_piece_rope_counts), (n_atom_Places, f_atom_Places), (n_edit_spot, f_edit_spot), (n_slices_IndexFunc_api_Region_api_Region, f_slices_IndexFunc_api_Region_api_Region), (n_slices_stableCmpFunc_api_Region, f_slices_stableCmpFunc_api_Region), (n_slices_SortStableFunc_spans_row_int_spans_run_int, f_slices_SortStableFunc_spans_row_int_spans_run_int), (n_slices_Index_int_int, f_slices_Index_int_int), (n_slices_IndexFunc_api_Cut_api_Cut, f_slices_IndexFunc_api_Cut_api_Cut), (n_tree_Seq_rope_piece_rope_counts_Sum, f_tree_Seq_rope_piece_rope_counts_Sum), (n_count_units, f_count_units), (n_maps_Keys_rev_set_int_unit, f_maps_Keys_rev_set_int_unit), (n_utf_forms, f_utf_forms), (n_utf_long, f_utf_long), (n_slices_insertionSortCmpFunc_api_Region, f_slices_insertionSortCmpFunc_api_Region), (n_slices_stableCmpFunc_spans_run_int, f_slices_stableCmpFunc_spans_run_int), (n_slices_insertionSortCmpFunc_spans_run_int, f_slices_insertionSortCmpFunc_spans_run_int), (n_rope_piece_Sum, f_rope_piece_Sum), (n_rope_counts_Plus, f_rope_counts_Plus)]
theorem tblK_ok : TblOk Tryz.prog tblK := List.forall_mem_cons.2 ⟨c_palinodelaw26_known, List.forall_mem_cons.2 ⟨c_view_New, List.forall_mem_cons.2 ⟨c_view_View_Do, List.forall_mem_cons.2 ⟨c_view_View_Text, List.forall_mem_cons.2 ⟨c_view_View_Head, List.forall_mem_cons.2 ⟨c_view_View_Spans, List.forall_mem_cons.2 ⟨c_view_View_Breaks, List.forall_mem_cons.2 ⟨c_view_View_Selection, List.forall_mem_cons.2 ⟨c_view_View_Convert, List.forall_mem_cons.2 ⟨c_engine_New, List.forall_mem_cons.2 ⟨c_view_View_told, List.forall_mem_cons.2 ⟨c_view_View_Copy, List.forall_mem_cons.2 ⟨c_view_edits, List.forall_mem_cons.2 ⟨c_view_View_edits, List.forall_mem_cons.2 ⟨c_view_View_follows, List.forall_mem_cons.2 ⟨c_view_View_marks, List.forall_mem_cons.2 ⟨c_rope_Rope_String, List.forall_mem_cons.2 ⟨c_engine_Engine_Head, List.forall_mem_cons.2 ⟨c_view_copied_api_Span, List.forall_mem_cons.2 ⟨c_view_copied_int, List.forall_mem_cons.2 ⟨c_view_copied_api_Region, List.forall_mem_cons.2 ⟨c_metric_Convert, List.forall_mem_cons.2 ⟨c_rev_New, List.forall_mem_cons.2 ⟨c_engine_Engine_Text, List.forall_mem_cons.2 ⟨c_rope_New, List.forall_mem_cons.2 ⟨c_engine_Engine_Copy, List.forall_mem_cons.2 ⟨c_engine_Engine_Edit, List.forall_mem_cons.2 ⟨c_engine_Engine_Toggle, List.forall_mem_cons.2 ⟨c_carets_Type, List.forall_mem_cons.2 ⟨c_diff_Between, List.forall_mem_cons.2 ⟨c_region_Move, List.forall_mem_cons.2 ⟨c_spans_Edit, List.forall_mem_cons.2 ⟨c_breaks_Edit, List.forall_mem_cons.2 ⟨c_region_Make, List.forall_mem_cons.2 ⟨c_utf_IsEdge, List.forall_mem_cons.2 ⟨c_tree_Seq_rope_piece_rope_counts_All, List.forall_mem_cons.2 ⟨c_strings_Builder_WriteString, List.forall_mem_cons.2 ⟨c_rev_Revs_Head, List.forall_mem_cons.2 ⟨c_count_Is, List.forall_mem_cons.2 ⟨c_metric_To, List.forall_mem_cons.2 ⟨c_metric_From, List.forall_mem_cons.2 ⟨c_engine_Engine_Live, List.forall_mem_cons.2 ⟨c_atom_Text, List.forall_mem_cons.2 ⟨c_engine_Engine_UndoneAt, List.forall_mem_cons.2 ⟨c_utf_Clean, List.forall_mem_cons.2 ⟨c_rope_made, List.forall_mem_cons.2 ⟨c_atom_Copy, List.forall_mem_cons.2 ⟨c_rev_Revs_Copy, List.forall_mem_cons.2 ⟨c_edit_Check, List.forall_mem_cons.2 ⟨c_rev_Revs_Add, List.forall_mem_cons.2 ⟨c_edit_Upon, List.forall_mem_cons.2 ⟨c_engine_Engine_fits, List.forall_mem_cons.2 ⟨c_rev_Revs_Toggle, List.forall_mem_cons.2 ⟨c_region_Span, List.forall_mem_cons.2 ⟨c_delta_NewMaker, List.forall_mem_cons.2 ⟨c_diff_each, List.forall_mem_cons.2 ⟨c_diff_Between_1, List.forall_mem_cons.2 ⟨c_delta_Maker_Copy, List.forall_mem_cons.2 ⟨c_delta_Maker_Put, List.forall_mem_cons.2 ⟨c_delta_Maker_Delta, List.forall_mem_cons.2 ⟨c_delta_Is, List.forall_mem_cons.2 ⟨c_region_every_api_Region, List.forall_mem_cons.2 ⟨c_region_Move_1, List.forall_mem_cons.2 ⟨c_interval_Is, List.forall_mem_cons.2 ⟨c_region_count, List.forall_mem_cons.2 ⟨c_offset_Move, List.forall_mem_cons.2 ⟨c_region_apart, List.forall_mem_cons.2 ⟨c_spans_Is, List.forall_mem_cons.2 ⟨c_spans_told, List.forall_mem_cons.2 ⟨c_breaks_Is, List.forall_mem_cons.2 ⟨c_delta_Size, List.forall_mem_cons.2 ⟨c_region_inside, List.forall_mem_cons.2 ⟨c_region_edges, List.forall_mem_cons.2 ⟨c_utf_Valid, List.forall_mem_cons.2 ⟨c_tree_Seq_rope_piece_rope_counts_Len, List.forall_mem_cons.2 ⟨c_tree_node_rope_piece_rope_counts_all, List.forall_mem_cons.2 ⟨c_metric_Whole, List.forall_mem_cons.2 ⟨c_rope_Rope_Upto, List.forall_mem_cons.2 ⟨c_count_To, List.forall_mem_cons.2 ⟨c_count_Get, List.forall_mem_cons.2 ⟨c_metric_told_int, List.forall_mem_cons.2 ⟨c_count_From, List.forall_mem_cons.2 ⟨c_rev_Revs_Live, List.forall_mem_cons.2 ⟨c_atom_Visible, List.forall_mem_cons.2 ⟨c_rev_Revs_Undone, List.forall_mem_cons.2 ⟨c_tree_Make_rope_piece_rope_counts, List.forall_mem_cons.2 ⟨c_slices_Clone_api_Cut_api_Cut, List.forall_mem_cons.2 ⟨c_edit_Check_1, List.forall_mem_cons.2 ⟨c_edit_first, List.forall_mem_cons.2 ⟨c_edit_Check_2, List.forall_mem_cons.2 ⟨c_edit_Check_3, List.forall_mem_cons.2 ⟨c_edit_order, List.forall_mem_cons.2 ⟨c_edit_Check_4, List.forall_mem_cons.2 ⟨c_edit_long, List.forall_mem_cons.2 ⟨c_rev_Revs_next, List.forall_mem_cons.2 ⟨c_edit_Spots, List.forall_mem_cons.2 ⟨c_edit_Cuts, List.forall_mem_cons.2 ⟨c_atom_Put, List.forall_mem_cons.2 ⟨c_rev_Revs_has, List.forall_mem_cons.2 ⟨c_engine_Engine_Atoms, List.forall_mem_cons.2 ⟨c_delta_IsCopy, List.forall_mem_cons.2 ⟨c_delta_elem, List.forall_mem_cons.2 ⟨c_slices_ContainsFunc_api_Region_api_Region, List.forall_mem_cons.2 ⟨c_region_every_api_Region_1, List.forall_mem_cons.2 ⟨c_slices_Clone_api_Region_api_Region, List.forall_mem_cons.2 ⟨c_slices_SortStableFunc_api_Region_api_Region, List.forall_mem_cons.2 ⟨c_interval_Folded_api_Region, List.forall_mem_cons.2 ⟨c_spans_row_int_sorted, List.forall_mem_cons.2 ⟨c_delta_sums, List.forall_mem_cons.2 ⟨c_slices_Contains_int_int, List.forall_mem_cons.2 ⟨c_slices_ContainsFunc_api_Cut_api_Cut, List.forall_mem_cons.2 ⟨c_region_inside_1, List.forall_mem_cons.2 ⟨c_region_edges_1, List.forall_mem_cons.2 ⟨c_utf_Size, List.forall_mem_cons.2 ⟨c_rope_Rope_Counts, List.forall_mem_cons.2 ⟨c_tree_Seq_rope_piece_rope_counts_Seek, List.forall_mem_cons.2 ⟨c_rope_Rope_Upto_1, List.forall_mem_cons.2 ⟨c_tree_Seq_rope_piece_rope_counts_At, List.forall_mem_cons.2 ⟨c_count_Of, List.forall_mem_cons.2 ⟨c_count_Plus, List.forall_mem_cons.2 ⟨c_count_of, List.forall_mem_cons.2 ⟨c_atom_holds, List.forall_mem_cons.2 ⟨c_atom_Visible_1, List.forall_mem_cons.2 ⟨c_rev_set_sorted, List.forall_mem_cons.2 ⟨c_utf_isPoint, List.forall_mem_cons.2 ⟨c_utf_point, List.forall_mem_cons.2 ⟨c_tree_spread_rope_piece_tree_node_rope_piece_rope_counts, List.forall_mem_cons.2 ⟨c_tree_leaf_rope_piece_rope_counts, List.forall_mem_cons.2 ⟨c_atom_Places, List.forall_mem_cons.2 ⟨c_edit_spot, List.forall_mem_cons.2 ⟨c_slices_IndexFunc_api_Region_api_Region, List.forall_mem_cons.2 ⟨c_slices_stableCmpFunc_api_Region, List.forall_mem_cons.2 ⟨c_slices_SortStableFunc_spans_row_int_spans_run_int, List.forall_mem_cons.2 ⟨c_slices_Index_int_int, List.forall_mem_cons.2 ⟨c_slices_IndexFunc_api_Cut_api_Cut, List.forall_mem_cons.2 ⟨c_tree_Seq_rope_piece_rope_counts_Sum, List.forall_mem_cons.2 ⟨c_count_units, List.forall_mem_cons.2 ⟨c_maps_Keys_rev_set_int_unit, List.forall_mem_cons.2 ⟨c_utf_forms, List.forall_mem_cons.2 ⟨c_utf_long, List.forall_mem_cons.2 ⟨c_slices_insertionSortCmpFunc_api_Region, List.forall_mem_cons.2 ⟨c_slices_stableCmpFunc_spans_run_int, List.forall_mem_cons.2 ⟨c_slices_insertionSortCmpFunc_spans_run_int, List.forall_mem_cons.2 ⟨c_rope_piece_Sum, List.forall_mem_cons.2 ⟨c_rope_counts_Plus, fun _ h => by cases h⟩⟩⟩⟩⟩⟩⟩⟩⟩⟩⟩⟩⟩⟩⟩⟩⟩⟩⟩⟩⟩⟩⟩⟩⟩⟩⟩⟩⟩⟩⟩⟩⟩⟩⟩⟩⟩⟩⟩⟩⟩⟩⟩⟩⟩⟩⟩⟩⟩⟩⟩⟩⟩⟩⟩⟩⟩⟩⟩⟩⟩⟩⟩⟩⟩⟩⟩⟩⟩⟩⟩⟩⟩⟩⟩⟩⟩⟩⟩⟩⟩⟩⟩⟩⟩⟩⟩⟩⟩⟩⟩⟩⟩⟩⟩⟩⟩⟩⟩⟩⟩⟩⟩⟩⟩⟩⟩⟩⟩⟩⟩⟩⟩⟩⟩⟩⟩⟩⟩⟩⟩⟩⟩⟩⟩⟩⟩⟩⟩⟩⟩⟩⟩⟩⟩⟩⟩⟩⟩⟩⟩⟩⟩⟩⟩
end Go.Proofs.YtmfeoicoegfpeaaGreat.M
namespace Go.Proofs.YtmfeoicoegfpeaaGreat.M
open Go Go.Mini
attribute [local congr] go1_congr goM_congr goG_congr goV_congr drawwp_congr
section
variable {σ : Heap} {k : Nat} {R : Revs} {K : Nat} {cap : Cap} {ms : List Nat} {mg mf : Nat}
theorem RevsAt.pos (h : RevsAt σ k R K cap ms mg mf) : 0 < ms.length ∧ ms.length + R.floor ≤ 201 := by
  have h1 := h.ok.one
  have h2 := h.ok.few
  have h3 := h.len
  have : 0 < R.und.length := List.length_pos_iff.2 h1
  omega
def Revs.live (R : Revs) (n : Int) : Bool := decide ((R.floor : Int) ≤ n) && decide (n ≤ R.head)
def Revs.push (R : Revs) (s : List Int) : Revs := { R with und := R.und ++ [s] }
structure Pushed (σ τ : Heap) (k : Nat) (R : Revs) (s : List Int) (K : Nat) (ms : List Nat) (mg mf : Nat) (K' : Nat) (cap' : Cap) : Prop where
  at_ : RevsAt τ k (R.push s) K' cap' (ms ++ [σ.next]) mg mf
  keep : Keep [k, K] σ τ
  new : K' = K ∨ σ.next < K'
end
section
variable {σ : Heap} {k : Nat} {R : Revs} {K : Nat} {cap : Cap} {ms : List Nat} {mg mf : Nat}
theorem RevsAt.new (h : RevsAt σ k R K cap ms mg mf) (b : ABlk) : RevsAt (σ.new b) k R K cap ms mg mf :=
  h.at (by simp) rfl fun q hq => by have := h.low q hq; rw [Heap.get_new, if_neg (by omega)]
theorem Row1.set {j : Nat} (h : SetRow σ K cap ms) (hj : j ≠ K) (b : ABlk) : SetRow (σ.set j b) K cap ms := by
  obtain ⟨cs, opn, h1, h2⟩ := h; exact ⟨cs, opn, by rw [Heap.get_set, if_neg hj]; exact h1, h2⟩
end
def Revs.at (R : Revs) (n : Int) : List Int := (R.und[(n - R.floor).toNat]?).getD []
section
variable {σ : Heap} {k : Nat} {R : Revs} {K : Nat} {cap : Cap} {ms : List Nat} {mg mf : Nat}
end
def Revs.new : Revs := ⟨[[]], 0, [], []⟩
def delAll (s ks : List Int) : List Int := s.filter fun x => decide (x ∉ ks)
def goneAll (s ks : List Int) : List Int := ks.foldr insS s
def Good (R : Revs) (l : List Int) : Prop := l.Nodup ∧ ∀ g ∈ l, g ∈ R.grp
instance (R : Revs) (l : List Int) : Decidable (Good R l) := inferInstanceAs (Decidable (_ ∧ _))
theorem Rise.delAll {s : List Int} (h : Rise s) (ks : List Int) : Rise (delAll s ks) := ⟨h.1.sublist List.filter_sublist, fun g hg => h.2 g (List.mem_filter.1 hg).1⟩
theorem Rise.goneAll {s : List Int} (h : Rise s) : ∀ {ks : List Int}, (∀ g ∈ ks, 0 ≤ g ∧ g < 60) → Rise (goneAll s ks)
  | [], _ => h
  | k :: ks, hk => by
    have := Rise.goneAll h (ks := ks) fun g hg => hk g (List.mem_cons_of_mem _ hg)
    exact this.ins (hk k (List.mem_cons_self ..)).1 (hk k (List.mem_cons_self ..)).2
theorem fg_six {Q : SExit → Mini.Frame → Heap → Prop} {R : Exit → Act → World → Prop} {φ : Phi} {fr : Mini.Frame} {σ : Heap} {a : Act} {w : World} (hf : FR φ 77 fr a) (hr : Rel φ σ w)
    (h : awp Tryz.prog (.seq fg0 (.seq fg1 (.seq fg2 (.seq fg3 (.seq fg4 fg5))))) Q fr σ)
    (hN : ∀ (φ' : Phi) fr' σ' a' w', φ.le φ' → FR φ' 77 fr' a' → Rel φ' σ' w' → Q .normal fr' σ' → (Code.seq fgM fgT).wp Tryz.prog R a' w')
    (hR : ∀ (φ' : Phi) fr' σ' a' w', φ.le φ' → FR φ' 77 fr' a' → Rel φ' σ' w' → Q .ret fr' σ' → R .ret a' w') (hX : ∀ id fr' σ', ¬ Q (.exit id) fr' σ') : fgB.wp Tryz.prog R a w := by
  have hz : ∀ {φ1 : Phi}, φ.le φ1 → ∀ (φ' : Phi) fr' σ' a' w', φ1.le φ' → FR φ' 77 fr' a' → Rel φ' σ' w' → (Q .ret fr' σ' → R .ret a' w') ∧ ∀ id, Q (.exit id) fr' σ' → R (.exit id) a' w' :=
    fun h1 φ' fr' σ' a' w' h2 h3 h4 => ⟨hR φ' fr' σ' a' w' (Phi.le_trans h1 h2) h3 h4, fun id hq => (hX _ _ _ hq).elim⟩
  rw [fg_shape]
  refine wp_first mixed fg0_c hf hr (K := awp Tryz.prog (.seq fg1 (.seq fg2 (.seq fg3 (.seq fg4 fg5)))) Q) (Z := Q) h ?_ (hz (Phi.le_refl _))
  intro φ1 f1 s1 a1 w1 l1 hf1 hr1 h1
  refine wp_first mixed fg1_c hf1 hr1 (K := awp Tryz.prog (.seq fg2 (.seq fg3 (.seq fg4 fg5))) Q) (Z := Q) h1 ?_ (hz l1)
  intro φ2 f2 s2 a2 w2 l2 hf2 hr2 h2
  have l2 := Phi.le_trans l1 l2
  refine wp_first mixed fg2_c hf2 hr2 (K := awp Tryz.prog (.seq fg3 (.seq fg4 fg5)) Q) (Z := Q) h2 ?_ (hz l2)
  intro φ3 f3 s3 a3 w3 l3 hf3 hr3 h3
  have l3 := Phi.le_trans l2 l3
  refine wp_first mixed fg3_c hf3 hr3 (K := awp Tryz.prog (.seq fg4 fg5) Q) (Z := Q) h3 ?_ (hz l3)
  intro φ4 f4 s4 a4 w4 l4 hf4 hr4 h4
  have l4 := Phi.le_trans l3 l4
  refine wp_first mixed fg4_c hf4 hr4 (K := awp Tryz.prog fg5 Q) (Z := Q) h4 ?_ (hz l4)
  intro φ5 f5 s5 a5 w5 l5 hf5 hr5 h5
  have l5 := Phi.le_trans l4 l5
  have h5' : awp Tryz.prog fg5 (thn (Q .normal) Q) f5 s5 := awp_mono h5 fun e f s hq => by cases e <;> exact hq
  refine wp_first mixed fg5_c hf5 hr5 (K := Q .normal) (Z := Q) h5' ?_ (hz l5)
  intro φ6 f6 s6 a6 w6 l6 hf6 hr6 h6
  exact hN φ6 f6 s6 a6 w6 (Phi.le_trans l5 l6) hf6 hr6 h6
structure FgI (σ1 : Heap) (k m mg mf sn : Nat) (R : Revs) (ks : List Int) (fr : Mini.Frame) (τ : Heap) : Prop where
  f0 : fr.get 0 = .ptr (.new k) 0
  f10 : fr.get 10 = .mp (.new m)
  W : τ.W = σ1.W
  F : τ.F0 = σ1.F0
  next : τ.next = σ1.next + 1
  top : τ.get m = some (.map (uents (delAll R.top ks)))
  grp : τ.get mg = some (.map (uents (delAll R.grp ks)))
  gone : τ.get mf = some (.map (uents (goneAll R.gone ks)))
  rest : ∀ q, q ≠ m → q ≠ mg → q ≠ mf → q ≠ sn → q ≠ σ1.next → τ.get q = σ1.get q
end Go.Proofs.YtmfeoicoegfpeaaGreat.M
set_option maxRecDepth 1000000
set_option maxHeartbeats 0
namespace Go.Proofs.YtmfeoicoegfpeaaGreat.M
open Go Go.Mini
open Kn
def tblV : List (Nat × SFunc) := [(n_view_New, f_view_New), (n_view_View_Do, f_view_View_Do), (n_view_View_Text, f_view_View_Text), (n_view_View_Head, f_view_View_Head), (n_view_View_Spans, f_view_View_Spans), (n_view_View_Breaks, f_view_View_Breaks), (n_view_View_Selection, f_view_View_Selection), (n_engine_New, f_engine_New), (n_view_View_told, f_view_View_told), (n_view_View_Copy, f_view_View_Copy), (n_view_edits, f_view_edits), (n_view_View_edits, f_view_View_edits), (n_view_View_follows, f_view_View_follows), (n_view_View_marks, f_view_View_marks), (n_rope_Rope_String, f_rope_Rope_String), (n_engine_Engine_Head, f_engine_Engine_Head), (n_view_copied_api_Span, f_view_copied_api_Span), (n_view_copied_int, f_view_copied_int), (n_view_copied_api_Region, f_view_copied_api_Region), (n_rev_New, f_rev_New), (n_engine_Engine_Text, f_engine_Engine_Text), (n_rope_New, f_rope_New), (n_engine_Engine_Copy, f_engine_Engine_Copy), (n_engine_Engine_Edit, f_engine_Engine_Edit), (n_engine_Engine_Toggle, f_engine_Engine_Toggle), (n_carets_Type, f_carets_Type), (n_diff_Between, f_diff_Between), (n_region_Move, f_region_Move), (n_spans_Edit, f_spans_Edit), (n_breaks_Edit, f_breaks_Edit), (n_engine_Engine_Forget, f_engine_Engine_Forget), (n_region_Make, f_region_Make), (n_utf_IsEdge, f_utf_IsEdge), (n_spans_Put, f_spans_Put), (n_tree_Seq_rope_piece_rope_counts_All, f_tree_Seq_rope_piece_rope_counts_All), (n_strings_Builder_WriteString, f_strings_Builder_WriteString), (n_rev_Revs_Head, f_rev_Revs_Head), (n_engine_Engine_Live, f_engine_Engine_Live), (n_atom_Text, f_atom_Text), (n_engine_Engine_UndoneAt, f_engine_Engine_UndoneAt), (n_utf_Clean, f_utf_Clean), (n_rope_made, f_rope_made), (n_atom_Copy, f_atom_Copy), (n_rev_Revs_Copy, f_rev_Revs_Copy), (n_edit_Check, f_edit_Check), (n_rev_Revs_Add, f_rev_Revs_Add), (n_edit_Upon, f_edit_Upon), (n_engine_Engine_fits, f_engine_Engine_fits), (n_rev_Revs_Toggle, f_rev_Revs_Toggle), (n_region_Span, f_region_Span), (n_delta_NewMaker, f_delta_NewMaker), (n_diff_each, f_diff_each), (n_diff_Between_1, f_diff_Between_1), (n_delta_Maker_Put, f_delta_Maker_Put), (n_delta_Maker_Delta, f_delta_Maker_Delta), (n_delta_Is, f_delta_Is), (n_region_every_api_Region, f_region_every_api_Region), (n_region_Move_1, f_region_Move_1), (n_interval_Is, f_interval_Is), (n_region_count, f_region_count), (n_offset_Move, f_offset_Move), (n_region_apart, f_region_apart), (n_spans_Is, f_spans_Is), (n_spans_told, f_spans_told), (n_breaks_Is, f_breaks_Is), (n_delta_Size, f_delta_Size), (n_engine_Engine_Undone, f_engine_Engine_Undone), (n_region_inside, f_region_inside), (n_region_edges, f_region_edges), (n_utf_Valid, f_utf_Valid), (n_spans_within, f_spans_within), (n_tree_Seq_rope_piece_rope_counts_Len, f_tree_Seq_rope_piece_rope_counts_Len), (n_tree_node_rope_piece_rope_counts_all, f_tree_node_rope_piece_rope_counts_all), (n_rev_Revs_Live, f_rev_Revs_Live), (n_atom_Visible, f_atom_Visible), (n_rev_Revs_Undone, f_rev_Revs_Undone), (n_tree_Make_rope_piece_rope_counts, f_tree_Make_rope_piece_rope_counts), (n_slices_Clone_api_Cut_api_Cut, f_slices_Clone_api_Cut_api_Cut), (n_edit_Check_1, f_edit_Check_1), (n_edit_first, f_edit_first), (n_edit_Check_2, f_edit_Check_2), (n_edit_Check_3, f_edit_Check_3), (n_edit_order, f_edit_order), (n_edit_Check_4, f_edit_Check_4), (n_edit_long, f_edit_long), (n_rev_Revs_next, f_rev_Revs_next), (n_edit_Spots, f_edit_Spots), (n_edit_Cuts, f_edit_Cuts), (n_atom_Put, f_atom_Put), (n_rev_Revs_has, f_rev_Revs_has), (n_engine_Engine_Atoms, f_engine_Engine_Atoms), (n_delta_IsCopy, f_delta_IsCopy), (n_delta_elem, f_delta_elem), (n_slices_ContainsFunc_api_Region_api_Region, f_slices_ContainsFunc_api_Region_api_Region), (n_region_every_api_Region_1, f_region_every_api_Region_1), (n_slices_Clone_api_Region_api_Region, f_slices_Clone_api_Region_api_Region), (n_slices_SortStableFunc_api_Region_api_Region, f_slices_SortStableFunc_api_Region_api_Region), (n_interval_Folded_api_Region, f_interval_Folded_api_Region), (n_spans_row_int_sorted, f_spans_row_int_sorted), (n_delta_sums, f_delta_sums), (n_slices_Contains_int_int, f_slices_Contains_int_int), (n_slices_ContainsFunc_api_Cut_api_Cut, f_slices_ContainsFunc_api_Cut_api_Cut), (n_region_inside_1, f_region_inside_1), (n_region_edges_1, f_region_edges_1), (n_utf_Size, f_utf_Size), (n_count_Of, f_count_Of), (n_count_Plus, f_count_Plus), (n_count_of, f_count_of), (n_atom_holds, f_atom_holds), (n_rev_set_sorted, f_rev_set_sorted), (n_utf_isPoint, f_utf_isPoint), (n_utf_point, f_utf_point), (n_tree_spread_rope_piece_tree_node_rope_piece_rope_counts, f_tree_spread_rope_piece_tree_node_rope_piece_rope_counts), (n_tree_leaf_rope_piece_rope_counts, f_tree_leaf_rope_piece_rope_counts), (n_atom_Places, f_atom_Places), (n_edit_spot, f_edit_spot), (n_slices_IndexFunc_api_Region_api_Region, f_slices_IndexFunc_api_Region_api_Region), (n_slices_stableCmpFunc_api_Region, f_slices_stableCmpFunc_api_Region), (n_slices_SortStableFunc_spans_row_int_spans_run_int, f_slices_SortStableFunc_spans_row_int_spans_run_int), (n_slices_Index_int_int, f_slices_Index_int_int), (n_slices_IndexFunc_api_Cut_api_Cut, f_slices_IndexFunc_api_Cut_api_Cut), (n_count_units, f_count_units), (n_maps_Keys_rev_set_int_unit, f_maps_Keys_rev_set_int_unit), (n_utf_forms, f_utf_forms), (n_utf_long, f_utf_long), (n_slices_insertionSortCmpFunc_api_Region, f_slices_insertionSortCmpFunc_api_Region), (n_slices_stableCmpFunc_spans_run_int, f_slices_stableCmpFunc_spans_run_int), (n_slices_insertionSortCmpFunc_spans_run_int, f_slices_insertionSortCmpFunc_spans_run_int), (n_rope_piece_Sum, f_rope_piece_Sum), (n_rope_counts_Plus, f_rope_counts_Plus)]
theorem tblV_ok : TblOk Tryz.prog tblV := List.forall_mem_cons.2 ⟨c_view_New, List.forall_mem_cons.2 ⟨c_view_View_Do, List.forall_mem_cons.2 ⟨c_view_View_Text, List.forall_mem_cons.2 ⟨c_view_View_Head, List.forall_mem_cons.2 ⟨c_view_View_Spans, List.forall_mem_cons.2 ⟨c_view_View_Breaks, List.forall_mem_cons.2 ⟨c_view_View_Selection, List.forall_mem_cons.2 ⟨c_engine_New, List.forall_mem_cons.2 ⟨c_view_View_told, List.forall_mem_cons.2 ⟨c_view_View_Copy, List.forall_mem_cons.2 ⟨c_view_edits, List.forall_mem_cons.2 ⟨c_view_View_edits, List.forall_mem_cons.2 ⟨c_view_View_follows, List.forall_mem_cons.2 ⟨c_view_View_marks, List.forall_mem_cons.2 ⟨c_rope_Rope_String, List.forall_mem_cons.2 ⟨c_engine_Engine_Head, List.forall_mem_cons.2 ⟨c_view_copied_api_Span, List.forall_mem_cons.2 ⟨c_view_copied_int, List.forall_mem_cons.2 ⟨c_view_copied_api_Region, List.forall_mem_cons.2 ⟨c_rev_New, List.forall_mem_cons.2 ⟨c_engine_Engine_Text, List.forall_mem_cons.2 ⟨c_rope_New, List.forall_mem_cons.2 ⟨c_engine_Engine_Copy, List.forall_mem_cons.2 ⟨c_engine_Engine_Edit, List.forall_mem_cons.2 ⟨c_engine_Engine_Toggle, List.forall_mem_cons.2 ⟨c_carets_Type, List.forall_mem_cons.2 ⟨c_diff_Between, List.forall_mem_cons.2 ⟨c_region_Move, List.forall_mem_cons.2 ⟨c_spans_Edit, List.forall_mem_cons.2 ⟨c_breaks_Edit, List.forall_mem_cons.2 ⟨c_engine_Engine_Forget, List.forall_mem_cons.2 ⟨c_region_Make, List.forall_mem_cons.2 ⟨c_utf_IsEdge, List.forall_mem_cons.2 ⟨c_spans_Put, List.forall_mem_cons.2 ⟨c_tree_Seq_rope_piece_rope_counts_All, List.forall_mem_cons.2 ⟨c_strings_Builder_WriteString, List.forall_mem_cons.2 ⟨c_rev_Revs_Head, List.forall_mem_cons.2 ⟨c_engine_Engine_Live, List.forall_mem_cons.2 ⟨c_atom_Text, List.forall_mem_cons.2 ⟨c_engine_Engine_UndoneAt, List.forall_mem_cons.2 ⟨c_utf_Clean, List.forall_mem_cons.2 ⟨c_rope_made, List.forall_mem_cons.2 ⟨c_atom_Copy, List.forall_mem_cons.2 ⟨c_rev_Revs_Copy, List.forall_mem_cons.2 ⟨c_edit_Check, List.forall_mem_cons.2 ⟨c_rev_Revs_Add, List.forall_mem_cons.2 ⟨c_edit_Upon, List.forall_mem_cons.2 ⟨c_engine_Engine_fits, List.forall_mem_cons.2 ⟨c_rev_Revs_Toggle, List.forall_mem_cons.2 ⟨c_region_Span, List.forall_mem_cons.2 ⟨c_delta_NewMaker, List.forall_mem_cons.2 ⟨c_diff_each, List.forall_mem_cons.2 ⟨c_diff_Between_1, List.forall_mem_cons.2 ⟨c_delta_Maker_Put, List.forall_mem_cons.2 ⟨c_delta_Maker_Delta, List.forall_mem_cons.2 ⟨c_delta_Is, List.forall_mem_cons.2 ⟨c_region_every_api_Region, List.forall_mem_cons.2 ⟨c_region_Move_1, List.forall_mem_cons.2 ⟨c_interval_Is, List.forall_mem_cons.2 ⟨c_region_count, List.forall_mem_cons.2 ⟨c_offset_Move, List.forall_mem_cons.2 ⟨c_region_apart, List.forall_mem_cons.2 ⟨c_spans_Is, List.forall_mem_cons.2 ⟨c_spans_told, List.forall_mem_cons.2 ⟨c_breaks_Is, List.forall_mem_cons.2 ⟨c_delta_Size, List.forall_mem_cons.2 ⟨c_engine_Engine_Undone, List.forall_mem_cons.2 ⟨c_region_inside, List.forall_mem_cons.2 ⟨c_region_edges, List.forall_mem_cons.2 ⟨c_utf_Valid, List.forall_mem_cons.2 ⟨c_spans_within, List.forall_mem_cons.2 ⟨c_tree_Seq_rope_piece_rope_counts_Len, List.forall_mem_cons.2 ⟨c_tree_node_rope_piece_rope_counts_all, List.forall_mem_cons.2 ⟨c_rev_Revs_Live, List.forall_mem_cons.2 ⟨c_atom_Visible, List.forall_mem_cons.2 ⟨c_rev_Revs_Undone, List.forall_mem_cons.2 ⟨c_tree_Make_rope_piece_rope_counts, List.forall_mem_cons.2 ⟨c_slices_Clone_api_Cut_api_Cut, List.forall_mem_cons.2 ⟨c_edit_Check_1, List.forall_mem_cons.2 ⟨c_edit_first, List.forall_mem_cons.2 ⟨c_edit_Check_2, List.forall_mem_cons.2 ⟨c_edit_Check_3, List.forall_mem_cons.2 ⟨c_edit_order, List.forall_mem_cons.2 ⟨c_edit_Check_4, List.forall_mem_cons.2 ⟨c_edit_long, List.forall_mem_cons.2 ⟨c_rev_Revs_next, List.forall_mem_cons.2 ⟨c_edit_Spots, List.forall_mem_cons.2 ⟨c_edit_Cuts, List.forall_mem_cons.2 ⟨c_atom_Put, List.forall_mem_cons.2 ⟨c_rev_Revs_has, List.forall_mem_cons.2 ⟨c_engine_Engine_Atoms, List.forall_mem_cons.2 ⟨c_delta_IsCopy, List.forall_mem_cons.2 ⟨c_delta_elem, List.forall_mem_cons.2 ⟨c_slices_ContainsFunc_api_Region_api_Region, List.forall_mem_cons.2 ⟨c_region_every_api_Region_1, List.forall_mem_cons.2 ⟨c_slices_Clone_api_Region_api_Region, List.forall_mem_cons.2 ⟨c_slices_SortStableFunc_api_Region_api_Region, List.forall_mem_cons.2 ⟨c_interval_Folded_api_Region, List.forall_mem_cons.2 ⟨c_spans_row_int_sorted, List.forall_mem_cons.2 ⟨c_delta_sums, List.forall_mem_cons.2 ⟨c_slices_Contains_int_int, List.forall_mem_cons.2 ⟨c_slices_ContainsFunc_api_Cut_api_Cut, List.forall_mem_cons.2 ⟨c_region_inside_1, List.forall_mem_cons.2 ⟨c_region_edges_1, List.forall_mem_cons.2 ⟨c_utf_Size, List.forall_mem_cons.2 ⟨c_count_Of, List.forall_mem_cons.2 ⟨c_count_Plus, List.forall_mem_cons.2 ⟨c_count_of, List.forall_mem_cons.2 ⟨c_atom_holds, List.forall_mem_cons.2 ⟨c_rev_set_sorted, List.forall_mem_cons.2 ⟨c_utf_isPoint, List.forall_mem_cons.2 ⟨c_utf_point, List.forall_mem_cons.2 ⟨c_tree_spread_rope_piece_tree_node_rope_piece_rope_counts, List.forall_mem_cons.2 ⟨c_tree_leaf_rope_piece_rope_counts, List.forall_mem_cons.2 ⟨c_atom_Places, List.forall_mem_cons.2 ⟨c_edit_spot, List.forall_mem_cons.2 ⟨c_slices_IndexFunc_api_Region_api_Region, List.forall_mem_cons.2 ⟨c_slices_stableCmpFunc_api_Region, List.forall_mem_cons.2 ⟨c_slices_SortStableFunc_spans_row_int_spans_run_int, List.forall_mem_cons.2 ⟨c_slices_Index_int_int, List.forall_mem_cons.2 ⟨c_slices_IndexFunc_api_Cut_api_Cut, List.forall_mem_cons.2 ⟨c_count_units, List.forall_mem_cons.2 ⟨c_maps_Keys_rev_set_int_unit, List.forall_mem_cons.2 ⟨c_utf_forms, List.forall_mem_cons.2 ⟨c_utf_long, List.forall_mem_cons.2 ⟨c_slices_insertionSortCmpFunc_api_Region, List.forall_mem_cons.2 ⟨c_slices_stableCmpFunc_spans_run_int, List.forall_mem_cons.2 ⟨c_slices_insertionSortCmpFunc_spans_run_int, List.forall_mem_cons.2 ⟨c_rope_piece_Sum, List.forall_mem_cons.2 ⟨c_rope_counts_Plus, fun _ h => by cases h⟩⟩⟩⟩⟩⟩⟩⟩⟩⟩⟩⟩⟩⟩⟩⟩⟩⟩⟩⟩⟩⟩⟩⟩⟩⟩⟩⟩⟩⟩⟩⟩⟩⟩⟩⟩⟩⟩⟩⟩⟩⟩⟩⟩⟩⟩⟩⟩⟩⟩⟩⟩⟩⟩⟩⟩⟩⟩⟩⟩⟩⟩⟩⟩⟩⟩⟩⟩⟩⟩⟩⟩⟩⟩⟩⟩⟩⟩⟩⟩⟩⟩⟩⟩⟩⟩⟩⟩⟩⟩⟩⟩⟩⟩⟩⟩⟩⟩⟩⟩⟩⟩⟩⟩⟩⟩⟩⟩⟩⟩⟩⟩⟩⟩⟩⟩⟩⟩⟩⟩⟩⟩⟩⟩⟩⟩⟩⟩⟩⟩
def extForget : Caller := fun f l σ => match codeC (callC ext tblV 50 60) 50 (.seq fg0 (.seq fg1 (.seq fg2 (.seq fg3 (.seq fg4 fg5))))) (Mini.Frame.ofArgs 0 l) σ with
  | some (.ret, fr, τ) => match fr.get 4 with
    | .int .i64 n => if n = 210 ∧ l.length ≤ 77 then some (.int .i64 210, τ) else none
    | _ => none
  | _ => none
theorem extForget_ok {l : List AVal} {σ τ : Heap} {v : AVal} (h : extForget 0 l σ = some (v, τ)) : ACall Tryz.prog n_rev_Revs_Forget l σ v τ := by
  unfold extForget at h
  split at h
  · rename_i fr1 σ1 h1
    split at h
    · rename_i n h4
      split at h
      · rename_i hn
        obtain ⟨rfl, hl⟩ := hn
        cases h
        have hO := codeC_ok (callC_ok mixed ext_ok tblV_ok 50 60) 50 _ _ _ _ _ _ h1
        refine acall_of_afun (afun_of_wp fg_fn fg_body fg_res (by rw [fg_n]; exact hl) ?_) ⟨_, fg_fn, by rw [fg_body]; rfl, fg_name⟩
        intro φ a w hfr hr
        refine fg_six hfr hr (hO (fun e f s => e = .ret ∧ f = fr1 ∧ s = τ) ⟨rfl, rfl, rfl⟩) (fun _ _ _ _ _ _ _ _ hq => by cases hq.1) ?_ (fun _ _ _ hq => by cases hq.1)
        rintro φ' fr' σ' a' w' hle hf' hr' ⟨_, rfl, rfl⟩
        exact ⟨.inr rfl, φ', _, hle, hf', hr', by simp only [resOf, rvals, Option.map_some, h4]⟩
      · cases h
    · cases h
  · cases h
def extV : Caller := fun f l σ => if f = n_palinodelaw26_known then (match l with | [] => if σ.F0.dr = false then some (.bool true, σ) else none | _ => none) else if f = n_rev_Revs_Forget then extForget 0 l σ else ext f l σ
end Go.Proofs.YtmfeoicoegfpeaaGreat.M

