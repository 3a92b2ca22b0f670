/- A part of the seat's proofs over the abstract machine. No condition. -/
import Derived.Test.YtkjikdohnomajaaGreatFA
import Derived.Test.YtkjikdohnomajaaGreatLays
import Derived.Test.YtkjikdohnomajaaGreatMB
set_option linter.unusedSimpArgs false
set_option linter.unusedVariables false
set_option maxRecDepth 100000
namespace Go.Proofs.YtkjikdohnomajaaGreat.M
open Go Go.Mini Go.RowKit Go.Sort Go.Shelf Go.Proofs
abbrev t_u8 : TypeId := 5
abbrev t_int : TypeId := 3
abbrev t_Builder : TypeId := 142
theorem copyCheck_fresh_call {σ : Heap} {k : Nat} {buf : AVal} (hg : σ.get k = some (.tcells t_Builder [.nilp, buf])) : ACall Tryz.prog n_strings_Builder_copyCheck [.ptr (.new k) 0] σ (.tup []) (σ.set k (.tcells t_Builder [.ptr (.new k) 0, buf])) :=
  acall_of_afun (copyCheck_fresh Tryz.lays240 Tryz.Builder_X72_240 hg) ⟨_, Tryz.func128, by kernel_rfl, by kernel_rfl⟩
theorem copyCheck_used_call {σ : Heap} {k : Nat} {T : TypeId} {buf : AVal} (hg : σ.get k = some (.tcells T [.ptr (.new k) 0, buf])) : ACall Tryz.prog n_strings_Builder_copyCheck [.ptr (.new k) 0] σ (.tup []) σ :=
  acall_of_afun (copyCheck_used Tryz.lays240 Tryz.Builder_X72_240 hg) ⟨_, Tryz.func128, by kernel_rfl, by kernel_rfl⟩
theorem bldString_call {σ : Heap} {k g : Nat} {T : TypeId} {p : AVal} {l : List UInt8} (h0 : l ≠ []) (hm : l.length ≤ maxRoom) (hg : σ.get k = some (.tcells T [p, .slc (.new g) 0 l.length (.gr 1)])) (hb : σ.get g = some (.cells (byteCells l) (some t_u8))) :
    ACall Tryz.prog n_strings_Builder_String [.ptr (.new k) 0] σ (.str l) (σ.set g .dead) :=
  acall_of_afun (bldString_full Tryz.lays169 Tryz.Builder_Extra_169 h0 hm hg hb) ⟨_, Tryz.func99, by kernel_rfl, by kernel_rfl⟩
theorem bldString_nil_call {σ : Heap} {k : Nat} {T : TypeId} {p : AVal} (hg : σ.get k = some (.tcells T [p, .nils])) : ACall Tryz.prog n_strings_Builder_String [.ptr (.new k) 0] σ (.str []) σ :=
  acall_of_afun (bldString_nil Tryz.lays169 Tryz.Builder_Extra_169 hg) ⟨_, Tryz.func99, by kernel_rfl, by kernel_rfl⟩
def extCopyCheck : List AVal → Heap → Option (AVal × Heap)
  | [.ptr (.new k) 0], σ => match σ.get k with
    | some (.tcells T [.nilp, buf]) => if T = t_Builder then some (.tup [], σ.set k (.tcells t_Builder [.ptr (.new k) 0, buf])) else none
    | some (.tcells _ [.ptr (.new j) 0, _]) => if j = k then some (.tup [], σ) else none
    | _ => none
  | _, _ => none
theorem extCopyCheck_ok {l : List AVal} {σ σ' : Heap} {v : AVal} (h : extCopyCheck l σ = some (v, σ')) : ACall Tryz.prog n_strings_Builder_copyCheck l σ v σ' := by
  unfold extCopyCheck at h
  split at h
  · split at h
    · rename_i hg
      split at h
      · rename_i ht; subst ht; cases h; exact copyCheck_fresh_call hg
      · cases h
    · rename_i hg
      split at h
      · rename_i hj; subst hj; cases h; exact copyCheck_used_call hg
      · cases h
    · cases h
  · cases h
def extString : List AVal → Heap → Option (AVal × Heap)
  | [.ptr (.new k) 0], σ => match σ.get k with
    | some (.tcells _ [_, .nils]) => some (.str [], σ)
    | some (.tcells _ [_, .slc (.new g) 0 n (.gr 1)]) => match σ.get g with
      | some (.cells cs (some e)) => match asBytes cs with
        | some l => if e = t_u8 ∧ n = l.length ∧ l ≠ [] ∧ l.length ≤ maxRoom ∧ sames0 cs (byteCells l) = true then some (.str l, σ.set g .dead) else none
        | none => none
      | _ => none
    | _ => none
  | _, _ => none
theorem extString_ok {l : List AVal} {σ σ' : Heap} {v : AVal} (h : extString l σ = some (v, σ')) : ACall Tryz.prog n_strings_Builder_String l σ v σ' := by
  unfold extString at h
  split at h
  · split at h
    · rename_i hg; cases h; exact bldString_nil_call hg
    · rename_i hg
      split at h
      · rename_i hb
        split at h
        · split at h
          · rename_i hc
            obtain ⟨rfl, rfl, h0, hm, hs⟩ := hc
            cases h
            rw [sames0_eq hs] at hb
            exact bldString_call h0 hm hg hb
          · cases h
        · cases h
      · cases h
    · cases h
  · cases h
theorem clone_call {σ : Heap} {m : Nat} {es : List (Int × AVal)} (hm : σ.get m = some (.map es)) : ACall Tryz.prog n_maps_Clone_rev_set_int_unit [.mp (.new m)] σ (.mp (.new σ.next)) (σ.new (.map es)) :=
  acall_of_afun (clone_afun Tryz.cloneL hm) ⟨_, Tryz.func121, by kernel_rfl, by kernel_rfl⟩
def extClone : List AVal → Heap → Option (AVal × Heap)
  | [.mp (.new m)], σ => match σ.get m with
    | some (.map es) => some (.mp (.new σ.next), σ.new (.map es))
    | _ => none
  | _, _ => none
theorem extClone_ok {l : List AVal} {σ σ' : Heap} {v : AVal} (h : extClone l σ = some (v, σ')) : ACall Tryz.prog n_maps_Clone_rev_set_int_unit l σ v σ' := by
  unfold extClone at h
  split at h
  · split at h
    · rename_i hm; cases h; exact clone_call hm
    · cases h
  · cases h
theorem sortsL (m : Nat) : AnyZI.SortsIn Tryz.prog Tryz.sortedL_ren Fence.wide m :=
  ⟨fun blk off cap ss W hH hblk hsz => callsIn_wide.2 (AnyM.slices_Sort_int Tryz.sortL blk off cap ss W hH hblk hsz),
   fun p cap W => callsIn_wide.2 (AnyM.slices_Sort_int_none Tryz.sortL p cap W)⟩
theorem sorted_call {σ : Heap} {q m : Nat} {opn : Option TypeId} {es : List (Int × AVal)} (hq : σ.get q = some (.cells [.mp (.new m)] opn)) (hm : σ.get m = some (.map es)) (hw : ∀ p ∈ es, (Lit.int .i64 p.1).wf = true) (hsz : es.length ≤ 1000000) (hd : σ.F0.dr = false) :
    ACall Tryz.prog n_slices_Sorted_int [.fn n_maps_Keys_rev_set_int_unit_1 [.ptr (.new q) 0]] σ (if es = [] then .nils else .slc (.new σ.next) 0 es.length (.gr 1)) (if es = [] then σ else σ.new (.cells (keyCells es) (some t_int))) :=
  acall_of_afun (sorted_afun { Tryz.keysL with } Tryz.sortedL sortsL (enters_of Tryz.func61 (by kernel_rfl) rfl) (enters_of Tryz.func170 (by kernel_rfl) rfl) Tryz.underlying3 hq hm hw hsz hd) ⟨_, Tryz.func125, by kernel_rfl, by kernel_rfl⟩
def extSorted : List AVal → Heap → Option (AVal × Heap)
  | [.fn g [.ptr (.new q) 0]], σ => if g = n_maps_Keys_rev_set_int_unit_1 then match σ.get q with
    | some (.cells [.mp (.new m)] _) => match σ.get m with
      | some (.map es) => if es.all (fun p => (Lit.int .i64 p.1).wf) = true ∧ es.length ≤ 1000000 ∧ σ.F0.dr = false then
          (match es with
            | [] => some (.nils, σ)
            | x :: r => some (.slc (.new σ.next) 0 (x :: r).length (.gr 1), σ.new (.cells (keyCells (x :: r)) (some t_int))))
        else none
      | _ => none
    | _ => none
    else none
  | _, _ => none
theorem extSorted_ok {l : List AVal} {σ σ' : Heap} {v : AVal} (h : extSorted l σ = some (v, σ')) : ACall Tryz.prog n_slices_Sorted_int l σ v σ' := by
  unfold extSorted at h
  split at h
  · split at h
    · rename_i hg; subst hg
      split at h
      · rename_i hq
        split at h
        · rename_i hm
          split at h
          · rename_i hc
            have := sorted_call hq hm (fun p hp => List.all_eq_true.1 hc.1 p hp) hc.2.1 hc.2.2
            split at h
            · cases h; exact this
            · cases h; exact this
          · cases h
        · cases h
      · cases h
    · cases h
  · cases h
def ext : Caller := fun f l σ =>
  if f = n_strings_Builder_copyCheck then extCopyCheck l σ else
  if f = n_strings_Builder_String then extString l σ else
  if f = n_maps_Clone_rev_set_int_unit then extClone l σ else
  if f = n_slices_Sorted_int then extSorted l σ else none
theorem ext_ok : CallOk Tryz.prog ext := by
  intro f l σ v σ' h
  unfold ext at h
  split at h
  · rename_i e; subst e; exact extCopyCheck_ok h
  split at h
  · rename_i e; subst e; exact extString_ok h
  split at h
  · rename_i e; subst e; exact extClone_ok h
  split at h
  · rename_i e; subst e; exact extSorted_ok h
  cases h
end Go.Proofs.YtkjikdohnomajaaGreat.M
namespace Go.Proofs.YtkjikdohnomajaaGreat.M
open Go Go.Mini
attribute [local congr] go1_congr goM_congr goG_congr goV_congr
structure Cut where
  rev : Int
  group : Int
  deriving DecidableEq
structure Atom where
  text : List UInt8
  rev : Int
  group : Int
  rank : Int
  cuts : List Cut
  deriving DecidableEq
def eCut (c : Cut) : AVal := .agg [.int .i64 c.rev, .int .i64 c.group]
def eCuts (l : List Cut) : AVal := .fsl 2 (l.map eCut)
def eAtom (a : Atom) : AVal := .agg [.str a.text, .int .i64 a.rev, .int .i64 a.group, .int .i64 a.rank, eCuts a.cuts]
def eAtoms (l : List Atom) : AVal := .fsl 5 (l.map eAtom)
theorem eCuts_pure (l : List Cut) : (eCuts l).pure = true := by simp only [eCuts, AVal.pure]; exact pures_map _ _ (fun _ _ => rfl)
theorem eAtom_pure (a : Atom) : (eAtom a).pure = true := by simp only [eAtom, AVal.pure, AVal.pures, eCuts_pure]; rfl
theorem eAtoms_pure (l : List Atom) : (eAtoms l).pure = true := by simp only [eAtoms, AVal.pure]; exact pures_map _ _ (fun _ _ => eAtom_pure _)

structure Chg where
  frm : Int
  to : Int
  text : List UInt8
  deriving DecidableEq
def eChg (c : Chg) : AVal := .agg [.int .i64 c.frm, .int .i64 c.to, .str c.text]
def eChgs (l : List Chg) : AVal := .fsl 3 (l.map eChg)
theorem eChgs_pure (l : List Chg) : (eChgs l).pure = true := by simp only [eChgs, AVal.pure]; exact pures_map _ _ (fun _ _ => rfl)
theorem drawwp_congr {P : Program} {tab : List Nat} {i : Nat} {ops : List SOper} {past : List Ev} {K : Mini.Frame → Heap → Prop} {fr fr' : Mini.Frame} {σ σ' : Heap} (h : fr = fr') (h' : σ = σ') : drawwp P tab i ops past K fr σ = drawwp P tab i ops past K fr' σ' := by rw [h, h']
def ints (l : List Int) : AVal := .fsl 1 (l.map (.int .i64 ·))
theorem ints_pure (l : List Int) : (ints l).pure = true := by simp only [ints, AVal.pure]; exact pures_map _ _ (fun _ _ => rfl)
theorem wrap_id {x : Int} (h1 : -9223372036854775808 ≤ x) (h2 : x < 9223372036854775808) : IntKind.i64.wrap x = x := by
  have e1 : (2 : Int) ^ 64 = 18446744073709551616 := by decide
  have e2 : (2 : Int) ^ (64 - 1) = 9223372036854775808 := by decide
  simp only [IntKind.wrap, IntKind.bits, IntKind.signed, Bool.true_and, decide_eq_true_eq, e1, e2]
  split <;> omega
theorem wrap_succ {i : Nat} (h : i ≤ 4611686018427387904) : IntKind.i64.wrap ((i : Int) + 1) = ((i + 1 : Nat) : Int) := by rw [wrap_id (by omega) (by omega)]; rfl
theorem bare_call {f : FuncId} {args : List AVal} {v : AVal} (ha : AVal.pures args = true) (hv : v.pure = true) (h : ∀ W F, MSpec Tryz.prog f args (Heap.bare W F) fun u σ' => ∃ τ, Sees σ' u τ v ∧ τ.W = W ∧ τ.F0 = F) (σ : Heap) : ACall Tryz.prog f args σ v σ :=
  acall_bare ha hv (fun W F => by obtain ⟨u, σ', h1, h2⟩ := h W F; exact ⟨u, σ', h1, h2⟩) σ
theorem seen {W : World} {F : FB} {σ' : Heap} {u v : AVal} (he : u = v) (h1 : σ'.W = W) (h2 : σ'.F0 = F) : ∃ τ, Sees σ' u τ v ∧ τ.W = W ∧ τ.F0 = F := ⟨σ', he ▸ Sees.refl _ _, h1, h2⟩
theorem map_get {α β : Type} (f : α → β) (l : List α) (i : Nat) (h : i < l.length) : (l.map f)[i]? = some (f l[i]) := by simp [h]
theorem exact_call {f : FuncId} {args : List AVal} {v : AVal} {σ τ : Heap} (h : MSpec Tryz.prog f args σ fun u σ' => u = v ∧ σ' = τ) : ACall Tryz.prog f args σ v τ := by
  obtain ⟨u, σ', h, rfl, rfl⟩ := h; exact h
theorem gc_call {f : FuncId} {args : List AVal} {v : AVal} {σ : Heap} (hv : v.pure = true) (h : MSpec Tryz.prog f args σ fun u τ => u = v ∧ τ.W = σ.W ∧ τ.F0 = σ.F0 ∧ ∀ k, k < σ.next → τ.get k = σ.get k) : ACall Tryz.prog f args σ v σ := by
  obtain ⟨u, τ, h, rfl, h1, h2, h3⟩ := h
  exact acall_gc h hv h1 h2 h3
theorem acall_see {f : FuncId} {args : List AVal} {u v : AVal} {σ σ1 τ : Heap} (h : ACall Tryz.prog f args σ u σ1) (hs : Sees σ1 u τ v) : ACall Tryz.prog f args σ v τ := by
  intro φ w vs hvs hr o a next Q hn
  refine h φ w vs hvs hr o a next Q ?_
  intro φ1 v' w' hle hv' hr'
  obtain ⟨φ2, hle2, hv2, hr2⟩ := hs φ1 w' v' hv' hr'
  exact hn φ2 v' w' (Phi.le_trans hle hle2) hv2 hr2
theorem lt_next {k n : Nat} (h : k < n) : (n = k) = False := eq_false (by omega)
theorem lt_next_add {k n j : Nat} (h : k < n) : (n + j = k) = False := eq_false (by omega)
theorem lt_next2 {k n : Nat} (h : k < n) : (n + 1 + 1 = k) = False := eq_false (by omega)
theorem lt_next3 {k n : Nat} (h : k < n) : (n + 1 + 1 + 1 = k) = False := eq_false (by omega)
theorem aLen_fsl (k : Nat) (els : List AVal) : aLen (.fsl k els) = some (.int .i64 els.length) := rfl
theorem aLen_nils : aLen .nils = some (.int .i64 (0 : Nat)) := rfl
theorem aLen_emp0 : aLen .emp0 = some (.int .i64 (0 : Nat)) := rfl
theorem aLen_emp : aLen .emp = some (.int .i64 (0 : Nat)) := rfl
theorem aLen_slc (i : Mini.Id) (off len : Nat) (c : Cap) : aLen (.slc i off len c) = some (.int .i64 len) := rfl

def uents (l : List Int) : List (Int × AVal) := l.map fun g => (g, .agg [])
def insS (n : Int) : List Int → List Int
  | [] => [n]
  | m :: l => if m = n then n :: l else if n < m then n :: m :: l else m :: insS n l
theorem put_set (n : Int) : ∀ l : List Int, mapPut n (.agg []) (uents l) = uents (insS n l)
  | [] => rfl
  | m :: l => by
    simp only [uents, List.map_cons, mapPut, insS]
    split
    · rfl
    · split
      · rfl
      · have := put_set n l; simp only [uents] at this; rw [this]; rfl
theorem del_set (n : Int) : ∀ l : List Int, mapDel n (uents l) = uents (l.erase n)
  | [] => rfl
  | m :: l => by
    simp only [uents, List.map_cons, mapDel, List.erase_cons]
    by_cases h : m = n
    · subst h; simp
    · have hb : (m == n) = false := by simpa using h
      rw [if_neg h, hb]
      have := del_set n l; simp only [uents] at this; simp [this]
theorem find_set (n : Int) : ∀ l : List Int, mapFind n (uents l) = if n ∈ l then some (.agg []) else none
  | [] => rfl
  | m :: l => by
    have ih := find_set n l
    simp only [uents, List.map_cons, mapFind] at ih ⊢
    by_cases h : m = n
    · subst h; simp
    · rw [if_neg h, ih]; simp [Ne.symm h]
theorem look_set {σ : Heap} {m : Nat} {l : List Int} {g : Int} (h : σ.get m = some (.map (uents l))) : aLook (.agg []) true (.mp (.new m)) (.int .i64 g) σ = some (.tup [.agg [], .bool (decide (g ∈ l))]) := by
  simp only [aLook, h, find_set]
  by_cases hg : g ∈ l <;> simp [hg]
theorem lenM_set {σ : Heap} {m : Nat} {l : List Int} (h : σ.get m = some (.map (uents l))) : aLenM (.mp (.new m)) σ = some (.int .i64 (l.length : Nat)) := by
  simp only [aLenM, h, uents, List.length_map]
theorem mem_insS {x n : Int} : ∀ {l : List Int}, x ∈ insS n l ↔ x = n ∨ x ∈ l
  | [] => by simp [insS]
  | m :: l => by
    simp only [insS]
    split
    · rename_i h; subst h; simp
    · split
      · simp
      · simp only [List.mem_cons, mem_insS (l := l)]
        constructor
        · rintro (h | h | h)
          · exact .inr (.inl h)
          · exact .inl h
          · exact .inr (.inr h)
        · rintro (h | h | h)
          · exact .inr (.inl h)
          · exact .inl h
          · exact .inr (.inr h)
def Rise (l : List Int) : Prop := l.Pairwise (· < ·) ∧ ∀ g ∈ l, 0 ≤ g ∧ g < 60
theorem Rise.nil : Rise [] := ⟨.nil, fun _ h => by cases h⟩
theorem pair_insS {n : Int} : ∀ {l : List Int}, l.Pairwise (· < ·) → (insS n l).Pairwise (· < ·)
  | [], _ => by simp [insS]
  | m :: l, h => by
    simp only [insS]
    have h1 := fun x (hx : x ∈ l) => List.rel_of_pairwise_cons h hx
    split
    · rename_i e; subst e; exact h
    · split
      · rename_i hlt
        refine .cons ?_ h
        intro x hx
        rcases List.mem_cons.1 hx with rfl | hx
        · exact hlt
        · exact Int.lt_trans hlt (h1 x hx)
      · refine .cons ?_ (pair_insS h.of_cons)
        intro x hx
        rcases mem_insS.1 hx with rfl | hx
        · omega
        · exact h1 x hx
theorem Rise.ins {l : List Int} {n : Int} (h : Rise l) (h0 : 0 ≤ n) (h1 : n < 60) : Rise (insS n l) :=
  ⟨pair_insS h.1, fun g hg => by rcases mem_insS.1 hg with rfl | hg; exact ⟨h0, h1⟩; exact h.2 g hg⟩
theorem Rise.erase {l : List Int} (n : Int) (h : Rise l) : Rise (l.erase n) := ⟨h.1.sublist List.erase_sublist, fun g hg => h.2 g (List.mem_of_mem_erase hg)⟩
theorem Rise.nodup {l : List Int} (h : Rise l) : l.Nodup := h.1.imp fun h => by omega
theorem Rise.mem_erase {l : List Int} (h : Rise l) {x n : Int} : x ∈ l.erase n ↔ x ≠ n ∧ x ∈ l := h.nodup.mem_erase_iff
theorem rise_ext {l m : List Int} (hl : Rise l) (hm : Rise m) (h : ∀ x, x ∈ l ↔ x ∈ m) : l = m := by
  have hp : l.Perm m := (List.perm_ext_iff_of_nodup hl.nodup hm.nodup).2 h
  exact hp.eq_of_pairwise (fun a b _ _ h1 h2 => by omega) hl.1 hm.1
theorem rise_len {l : List Int} (h : Rise l) : l.length ≤ 60 := by
  have key : ∀ (l : List Int) (a : Int), (∀ x ∈ l, a ≤ x ∧ x < 60) → l.Pairwise (· < ·) → a ≤ 60 → (l.length : Int) ≤ 60 - a := by
    intro l
    induction l with
    | nil => intro a _ _ ha; simp; omega
    | cons x l ih =>
      intro a h1 h2 ha
      have hx := h1 x (List.mem_cons_self ..)
      have := ih (x + 1) (fun y hy => by have := List.rel_of_pairwise_cons h2 hy; have := (h1 y (List.mem_cons_of_mem _ hy)).2; omega) h2.of_cons (by omega)
      simp only [List.length_cons]; omega
  have := key l 0 h.2 h.1 (by omega)
  omega

structure Revs where
  und : List (List Int)
  floor : Nat
  grp : List Int
  gone : List Int
def Revs.head (R : Revs) : Nat := R.floor + R.und.length - 1
def Revs.top (R : Revs) : List Int := R.und.getLastD []
structure Revs.Ok (R : Revs) : Prop where
  one : R.und ≠ []
  few : R.floor + R.und.length ≤ 201
  rise : ∀ s ∈ R.und, Rise s
  grp : Rise R.grp
  gone : Rise R.gone
abbrev t_set : TypeId := 112
def Keep (fp : List Nat) (σ τ : Heap) : Prop := τ.W = σ.W ∧ τ.F0 = σ.F0 ∧ σ.next ≤ τ.next ∧ ∀ q, q < σ.next → q ∉ fp → τ.get q = σ.get q
theorem Keep.refl (fp : List Nat) (σ : Heap) : Keep fp σ σ := ⟨rfl, rfl, Nat.le_refl _, fun _ _ _ => rfl⟩
def Fresh (fp : List Nat) (σ : Heap) (fp' : List Nat) : Prop := ∀ x ∈ fp', x ∈ fp ∨ σ.next ≤ x
theorem Keep.trans {fp fp' : List Nat} {σ τ ρ : Heap} (h : Keep fp σ τ) (h' : Keep fp' τ ρ) (hf : Fresh fp σ fp') : Keep fp σ ρ :=
  ⟨h'.1.trans h.1, h'.2.1.trans h.2.1, Nat.le_trans h.2.2.1 h'.2.2.1, fun q hq hn => by
    rw [h'.2.2.2 q (Nat.lt_of_lt_of_le hq h.2.2.1) (fun hm => by rcases hf q hm with h1 | h1; exact hn h1; omega), h.2.2.2 q hq hn]⟩
theorem Fresh.trans {fp fp' fp'' : List Nat} {σ τ : Heap} (h : Fresh fp σ fp') (hk : σ.next ≤ τ.next) (h' : Fresh fp' τ fp'') : Fresh fp σ fp'' := fun x hx => by
  rcases h' x hx with h1 | h1
  · exact h x h1
  · exact .inr (Nat.le_trans hk h1)
theorem Keep.mono {fp fp' : List Nat} {σ τ : Heap} (h : Keep fp σ τ) (hs : ∀ x ∈ fp, x < σ.next → x ∈ fp') : Keep fp' σ τ := ⟨h.1, h.2.1, h.2.2.1, fun q hq hn => h.2.2.2 q hq fun hm => hn (hs q hm hq)⟩
theorem Keep.new {fp : List Nat} {σ τ : Heap} (h : Keep fp σ τ) (b : ABlk) : Keep fp σ (τ.new b) := ⟨h.1, h.2.1, Nat.le_succ_of_le h.2.2.1, fun q hq hn => by rw [Heap.get_new, if_neg (by have := h.2.2.1; omega)]; exact h.2.2.2 q hq hn⟩
theorem Keep.set {fp : List Nat} {σ τ : Heap} (h : Keep fp σ τ) {j : Nat} (hj : j ∈ fp ∨ σ.next ≤ j) (b : ABlk) : Keep fp σ (τ.set j b) := ⟨h.1, h.2.1, h.2.2.1, fun q hq hn => by
  rw [Heap.get_set, if_neg (fun e => by subst e; rcases hj with h | h; exact hn h; omega)]; exact h.2.2.2 q hq hn⟩
def mps (ms : List Nat) : List AVal := ms.map fun m => .mp (.new m)
def SetRow (σ : Heap) (K : Nat) (cap : Cap) (ms : List Nat) : Prop := ∃ cs opn, σ.get K = some (.cells cs opn) ∧ cs.take ms.length = mps ms ∧ ((cap = .gr 1 ∧ opn = some t_set ∧ cs.length = ms.length) ∨ ∃ c, cap = .ex c ∧ ms.length ≤ c ∧ cs.length = c)
theorem mps_len (ms : List Nat) : (mps ms).length = ms.length := by simp [mps]
theorem mps_flat : ∀ ms : List Nat, (mps ms).flatMap AVal.cells = mps ms
  | [] => rfl
  | m :: ms => by have := mps_flat ms; simp only [mps, List.map_cons, List.flatMap_cons, AVal.cells] at *; rw [this]; rfl
theorem mps_one (ms : List Nat) : ∀ z ∈ mps ms, z.cells.length = 1 := by
  intro z hz; simp only [mps, List.mem_map] at hz; obtain ⟨m, _, rfl⟩ := hz; rfl
theorem SetRow.row {σ : Heap} {K : Nat} {cap : Cap} {ms : List Nat} (h : SetRow σ K cap ms) (hK : K < σ.next) : Row 0 σ t_set 1 (.slc (.new K) 0 ms.length cap) (mps ms) := by
  obtain ⟨cs, opn, h1, h2, h3⟩ := h
  refine ⟨mps_one ms, .inr ⟨K, cap, cs, opn, by rw [mps_len], h1, by rw [mps_flat, mps_len, Nat.mul_one]; exact h2, Nat.zero_le _, hK, ?_⟩⟩
  rw [mps_len]
  rcases h3 with ⟨a, b, c⟩ | ⟨c, a, b, d⟩
  · exact .inl ⟨a, b, by omega⟩
  · exact .inr ⟨c, a, b, by omega⟩
theorem Row.setRow {σ : Heap} {x : AVal} {ms : List Nat} (h : Row 0 σ t_set 1 x (mps ms)) (h0 : ms ≠ []) : ∃ K cap, x = .slc (.new K) 0 ms.length cap ∧ SetRow σ K cap ms ∧ K < σ.next := by
  rcases h.2 with ⟨_, h1⟩ | ⟨K, cap, cs, opn, h1, h2, h3, h4, h5, h6⟩
  · exact absurd (by simpa [mps] using h1) h0
  · rw [mps_len] at h1 h6
    refine ⟨K, cap, h1, ⟨cs, opn, h2, by rw [mps_flat, mps_len, Nat.mul_one] at h3; exact h3, ?_⟩, h5⟩
    rcases h6 with ⟨a, b, c⟩ | ⟨c, a, b, d⟩
    · exact .inl ⟨a, b, by omega⟩
    · exact .inr ⟨c, a, b, by omega⟩
theorem SetRow.cell {σ : Heap} {K : Nat} {cap : Cap} {ms : List Nat} (h : SetRow σ K cap ms) {i m : Nat} (hi : ms[i]? = some m) : σ.cell (.new K) i = some (.mp (.new m)) := by
  obtain ⟨cs, opn, h1, h2, h3⟩ := h
  have hlt := (List.getElem?_eq_some_iff.1 hi).1
  have : (cs.take ms.length)[i]? = some (.mp (.new m)) := by rw [h2]; simp [mps, hi]
  rw [List.getElem?_take, if_pos hlt] at this
  simp only [Heap.cell, h1, this]
structure RevsAt (σ : Heap) (k : Nat) (R : Revs) (K : Nat) (cap : Cap) (ms : List Nat) (mg mf : Nat) : Prop where
  blk : σ.get k = some (.cells [.slc (.new K) 0 ms.length cap, .int .i64 (R.floor : Nat), .mp (.new mg), .mp (.new mf)] none)
  row : SetRow σ K cap ms
  len : ms.length = R.und.length
  maps : ∀ (i : Nat) (m : Nat) (s : List Int), ms[i]? = some m → R.und[i]? = some s → σ.get m = some (.map (uents s))
  grp : σ.get mg = some (.map (uents R.grp))
  gone : σ.get mf = some (.map (uents R.gone))
  nodup : (k :: K :: mg :: mf :: ms).Nodup
  low : ∀ x ∈ k :: K :: mg :: mf :: ms, x < σ.next
  ok : R.Ok
  dr : σ.F0.dr = false
def IsRevs (σ : Heap) (k : Nat) (R : Revs) (fp : List Nat) : Prop := ∃ K cap ms mg mf, RevsAt σ k R K cap ms mg mf ∧ fp = k :: K :: mg :: mf :: ms
theorem RevsAt.at {σ τ : Heap} {k : Nat} {R : Revs} {K : Nat} {cap : Cap} {ms : List Nat} {mg mf : Nat} (h : RevsAt σ k R K cap ms mg mf) (hn : σ.next ≤ τ.next) (hF : τ.F0 = σ.F0) (hk : ∀ q ∈ k :: K :: mg :: mf :: ms, τ.get q = σ.get q) : RevsAt τ k R K cap ms mg mf where
  blk := by rw [hk k (by simp)]; exact h.blk
  row := by
    obtain ⟨cs, opn, h1, h2⟩ := h.row
    exact ⟨cs, opn, by rw [hk K (by simp)]; exact h1, h2⟩
  len := h.len
  maps := fun i m s h1 h2 => by rw [hk m (by have := List.mem_of_getElem? h1; simp [this])]; exact h.maps i m s h1 h2
  grp := by rw [hk mg (by simp)]; exact h.grp
  gone := by rw [hk mf (by simp)]; exact h.gone
  nodup := h.nodup
  low := fun x hx => Nat.lt_of_lt_of_le (h.low x hx) hn
  ok := h.ok
  dr := by rw [hF]; exact h.dr
theorem IsRevs.keep {σ τ : Heap} {k : Nat} {R : Revs} {fp fp' : List Nat} (h : IsRevs σ k R fp) (hk : Keep fp' σ τ) (hd : ∀ x ∈ fp, x ∉ fp') : IsRevs τ k R fp := by
  obtain ⟨K, cap, ms, mg, mf, h, rfl⟩ := h
  exact ⟨K, cap, ms, mg, mf, h.at hk.2.2.1 hk.2.1 fun q hq => hk.2.2.2 q (h.low q hq) (hd q hq), rfl⟩
theorem evz : type_of% (And.intro (And.intro (And.intro (And.intro @ints.eq_1 @eCut.eq_1) (And.intro @eCuts.eq_1 @eAtom.eq_1)) (And.intro (And.intro @eAtoms.eq_1 @eChg.eq_1) (And.intro @eChgs.eq_1 (And.intro @aLen_fsl @aLen_nils)))) (And.intro (And.intro (And.intro @aLen_slc @aLen_emp) (And.intro @aLen_emp0 @put_set)) (And.intro (And.intro @del_set @lt_next) (And.intro @lt_next_add (And.intro @lt_next2 @lt_next3))))) := (And.intro (And.intro (And.intro (And.intro @ints.eq_1 @eCut.eq_1) (And.intro @eCuts.eq_1 @eAtom.eq_1)) (And.intro (And.intro @eAtoms.eq_1 @eChg.eq_1) (And.intro @eChgs.eq_1 (And.intro @aLen_fsl @aLen_nils)))) (And.intro (And.intro (And.intro @aLen_slc @aLen_emp) (And.intro @aLen_emp0 @put_set)) (And.intro (And.intro @del_set @lt_next) (And.intro @lt_next_add (And.intro @lt_next2 @lt_next3)))))
end Go.Proofs.YtkjikdohnomajaaGreat.M
namespace Go.Proofs.YtkjikdohnomajaaGreat.M
open Go Go.Mini
attribute [local congr] go1_congr goM_congr goG_congr goV_congr drawwp_congr
section
variable {σ : Heap} {k : Nat} {R : Revs} {K : Nat} {cap : Cap} {ms : List Nat} {mg mf : Nat}
theorem RevsAt.pos (h : RevsAt σ k R K cap ms mg mf) : 0 < ms.length ∧ ms.length + R.floor ≤ 201 := by
  have h1 := h.ok.one
  have h2 := h.ok.few
  have h3 := h.len
  have : 0 < R.und.length := List.length_pos_iff.2 h1
  omega
theorem RevsAt.head_eq (h : RevsAt σ k R K cap ms mg mf) : R.head = R.floor + ms.length - 1 := by simp only [Revs.head, h.len]
theorem head_call (h : RevsAt σ k R K cap ms mg mf) : ACall Tryz.prog n_rev_Revs_Head [.ptr (.new k) 0] σ (.int .i64 (R.head : Nat)) σ := by
  refine exact_call (spec_of_awp mixed c_rev_Revs_Head (tl rfl) ?_)
  unfold f_rev_Revs_Head
  have hk := h.blk
  have hp := h.pos
  have he := h.head_eq
  have hw : IntKind.i64.wrap ((R.floor : Int) + (ms.length : Int)) = ((R.floor + ms.length : Nat) : Int) := by rw [wrap_id (by omega) (by omega)]; omega
  have hw2 : IntKind.i64.wrap (((R.floor + ms.length : Nat) : Int) - 1) = ((R.floor + ms.length - 1 : Nat) : Int) := by rw [wrap_id (by omega) (by omega)]; omega
  simp +decide only [↓evd, evw, evz, reduceCtorEq, ↓reduceIte]
  with_reducible refine draw_of_grow (fun _ => True) (ms := [false, false, false, false, false, false, false, false, false, false, false, false]) (by kernel_rfl) ?_
  simp +decide only [↓evd, evw, evz, reduceCtorEq, ↓reduceIte, hk, hw, hw2, he]
def Revs.live (R : Revs) (n : Int) : Bool := decide ((R.floor : Int) ≤ n) && decide (n ≤ R.head)
theorem live_call (h : RevsAt σ k R K cap ms mg mf) (n : Int) : ACall Tryz.prog n_rev_Revs_Live [.ptr (.new k) 0, .int .i64 n] σ (.bool (R.live n)) σ := by
  refine exact_call (spec_of_awp mixed c_rev_Revs_Live (tl rfl) ?_)
  unfold f_rev_Revs_Live
  have hk := h.blk
  by_cases h1 : (R.floor : Int) ≤ n
  · simp +decide only [↓evd, evw, evz, reduceCtorEq, ↓reduceIte, hk, h1]
    refine MSpec.of (head_call h) ?_
    simp +decide only [↓evd, evw, evz, reduceCtorEq, ↓reduceIte, Revs.live, h1]
  · simp +decide only [↓evd, evw, evz, reduceCtorEq, ↓reduceIte, hk, h1, Revs.live]
theorem has_call (h : RevsAt σ k R K cap ms mg mf) (g : Int) : ACall Tryz.prog n_rev_Revs_has [.ptr (.new k) 0, .int .i64 g] σ (.bool (decide (g ∈ R.grp))) σ := by
  refine gc_call rfl (spec_of_awp mixed c_rev_Revs_has (tl rfl) ?_)
  unfold f_rev_Revs_has
  have hk := h.blk
  have hg := h.grp
  simp +decide only [↓evd, evw, evz, reduceCtorEq, ↓reduceIte, hk, look_set (g := g) hg]
  intro q hq
  rw [if_neg (by omega), if_neg (by omega)]
def Revs.push (R : Revs) (s : List Int) : Revs := { R with und := R.und ++ [s] }
theorem RevsAt.last (h : RevsAt σ k R K cap ms mg mf) : ∃ m, ms[ms.length - 1]? = some m ∧ σ.get m = some (.map (uents R.top)) ∧ R.und[R.und.length - 1]? = some R.top := by
  have hp := h.pos
  have hl := h.len
  have h1 : ms.length - 1 < ms.length := by omega
  have h2 : R.und.length - 1 < R.und.length := by omega
  have h3 : R.und[R.und.length - 1]? = some R.top := by
    simp only [Revs.top, ← List.getLast?_eq_getElem?, List.getLastD_eq_getLast?]
    cases he : R.und.getLast? with
    | none => rw [List.getLast?_eq_none_iff] at he; exact absurd he h.ok.one
    | some s => rfl
  exact ⟨ms[ms.length - 1], List.getElem?_eq_getElem h1, h.maps _ _ _ (List.getElem?_eq_getElem h1) (by rw [hl]; exact h3), h3⟩
theorem next_many (h : RevsAt σ k R K cap ms mg mf) (hh : 200 ≤ R.head) : ACall Tryz.prog n_rev_Revs_next [.ptr (.new k) 0] σ (.tup [.nilm, .int .i64 70]) σ := by
  refine exact_call (spec_of_awp mixed c_rev_Revs_next (tl rfl) ?_)
  unfold f_rev_Revs_next
  simp +decide only [↓evd, evw, evz, reduceCtorEq, ↓reduceIte]
  refine MSpec.of (head_call h) ?_
  have hc : (200 : Int) ≤ (R.head : Int) := by omega
  simp +decide only [↓evd, evw, evz, reduceCtorEq, ↓reduceIte, hc]
structure Pushed (σ τ : Heap) (k : Nat) (R : Revs) (s : List Int) (K : Nat) (ms : List Nat) (mg mf : Nat) (K' : Nat) (cap' : Cap) : Prop where
  at_ : RevsAt τ k (R.push s) K' cap' (ms ++ [σ.next]) mg mf
  keep : Keep [k, K] σ τ
  new : K' = K ∨ σ.next < K'
set_option maxHeartbeats 1000000 in
theorem next_spec (h : RevsAt σ k R K cap ms mg mf) (hh : R.head < 200) : MSpec Tryz.prog n_rev_Revs_next [.ptr (.new k) 0] σ fun v τ => v = .tup [.mp (.new σ.next), .int .i64 0] ∧ ∃ K' cap', Pushed σ τ k R R.top K ms mg mf K' cap' := by
  refine spec_of_awp mixed c_rev_Revs_next (tl rfl) ?_
  unfold f_rev_Revs_next
  have hk := h.blk
  have hp := h.pos
  have he := h.head_eq
  obtain ⟨m, hm1, hm2, hm3⟩ := h.last
  have hcell := h.row.cell hm1
  have hKl := h.low K (by simp)
  have hkl := h.low k (by simp)
  have hml := h.low m (by have := List.mem_of_getElem? hm1; simp [this])
  have hgl := h.low mg (by simp)
  have hfl := h.low mf (by simp)
  obtain ⟨cs, opn, hc1, hc2, hc3⟩ := h.row
  clear hc3
  simp only [Heap.cell, hc1] at hcell
  have hnd := h.nodup
  simp only [List.nodup_cons, List.mem_cons, not_or] at hnd
  have hkK : k ≠ K := hnd.1.1
  have hw : IntKind.i64.wrap ((ms.length : Int) - 1) = ((ms.length - 1 : Nat) : Int) := by rw [wrap_id (by omega) (by omega)]; omega
  have hlt : ((ms.length - 1 : Nat) : Int) < (ms.length : Int) := by omega
  have hrow : Row 0 ((σ.new (.map (uents R.top))).new (.cells [.mp (.new σ.next)] none)) t_set 1 (.slc (.new K) 0 ms.length cap) (mps ms) := (((h.row.row hKl).new _).new _)
  have hsrc := src_one (σ := (σ.new (.map (uents R.top))).new (.cells [.mp (.new σ.next)] none)) (K := σ.next + 1) (k := 1) (cs := [.mp (.new σ.next)]) (opn := none) (z := .mp (.new σ.next)) (cap := .ex 1) (by simp +decide only [↓evd, evw, evz, reduceCtorEq, ↓reduceIte]) rfl rfl
  obtain ⟨x', ρ, g1, g2, g3, g4, g5⟩ := row_app2 (bytes := 8) hrow (Nat.zero_le _) hsrc.1 hsrc.2 (by intro z hz; simp at hz; subst hz; rfl) rfl (by omega) (by omega) (by unfold maxRoom; rw [mps_len]; simp; omega)
  have e1 : mps ms ++ [AVal.mp (.new σ.next)] = mps (ms ++ [σ.next]) := by simp [mps]
  rw [e1] at g2
  obtain ⟨K', cap', rfl, g6, g7⟩ := Row.setRow g2 (by simp)
  have g8 : ∀ q, q < σ.next + 2 → q ≠ K → ρ.get q = ((σ.new (.map (uents R.top))).new (.cells [.mp (.new σ.next)] none)).get q := fun q hq hn => g4 q (by simpa using hq) (fun K o n c e => by cases e; exact hn)
  have hkr : ρ.get k = some (.cells [.slc (.new K) 0 ms.length cap, .int .i64 (R.floor : Nat), .mp (.new mg), .mp (.new mf)] none) := by
    rw [g8 k (by omega) hkK]; simp +decide only [↓evd, evw, evz, reduceCtorEq, ↓reduceIte, hk, hkl]
  have hnew : K' = K ∨ σ.next + 2 ≤ K' := by
    rcases g5 _ _ _ _ rfl with h1 | ⟨o, n, c, h1⟩
    · exact .inr (by simpa using h1)
    · cases h1; exact .inl rfl
  have hn2 : σ.next + 2 ≤ ρ.next := by have := g3.2.2.1; simpa using this
  have hk' : k ≠ K' := by rcases hnew with h1 | h1; rw [h1]; exact hkK; omega
  simp +decide only [↓evd, evw, evz, reduceCtorEq, ↓reduceIte]
  refine MSpec.of (head_call h) ?_
  have hc : ¬ (200 : Int) ≤ (R.head : Int) := by omega
  simp +decide only [↓evd, evw, evz, reduceCtorEq, ↓reduceIte, hc]
  with_reducible refine draw_of_grow (fun _ => True) (ms := [false, false, false, true, false, false, false, true, false, false, false, true, true, false]) (by kernel_rfl) ?_
  simp +decide only [↓evd, evw, evz, reduceCtorEq, ↓reduceIte, hk, hw, hlt, hc1, hcell]
  refine MSpec.of (clone_call hm2) ?_
  simp +decide only [↓evd, evw, evz, reduceCtorEq, ↓reduceIte, hk, hkl, g1, hkr]
  refine ⟨K', cap', ?_, ?_, ?_⟩
  · have hold : ∀ q, q < σ.next → q ≠ K → q ≠ k → (ρ.set k (.cells [.slc (.new K') 0 (ms ++ [σ.next]).length cap', .int .i64 (R.floor : Nat), .mp (.new mg), .mp (.new mf)] none)).get q = σ.get q := by
      intro q hq h1 h2
      rw [Heap.get_set, if_neg (fun e => h2 e.symm), g8 q (by omega) h1, Heap.get_new, if_neg (by simp; omega), Heap.get_new, if_neg (by omega)]
    refine ⟨?_, ?_, by simp [Revs.push, h.len], ?_, ?_, ?_, ?_, ?_, ?_, ?_⟩
    · rw [Heap.get_set, if_pos rfl]; rfl
    · obtain ⟨cs', opn', a1, a2⟩ := g6
      exact ⟨cs', opn', by rw [Heap.get_set, if_neg hk']; exact a1, a2⟩
    · intro i q s h1 h2
      simp only [Revs.push] at h2
      by_cases hi : i < ms.length
      · rw [List.getElem?_append_left hi] at h1
        rw [List.getElem?_append_left (by rw [← h.len]; exact hi)] at h2
        have hq := List.mem_of_getElem? h1
        rw [hold q (h.low q (by simp [hq])) (fun e => by subst e; exact hnd.2.1.2.2 hq) (fun e => by subst e; exact hnd.1.2.2.2 hq)]
        exact h.maps i q s h1 h2
      · have hi2 : i = ms.length := by have := (List.getElem?_eq_some_iff.1 h1).1; simp at this; omega
        subst hi2
        simp only [List.getElem?_concat_length, Option.some.injEq] at h1
        rw [h.len] at h2
        simp only [List.getElem?_concat_length, Option.some.injEq] at h2
        subst h1; subst h2
        rw [Heap.get_set, if_neg (by omega), g8 _ (by omega) (by omega), Heap.get_new, if_neg (by simp), Heap.get_new, if_pos rfl]
    · rw [hold mg hgl (fun e => hnd.2.1.1 e.symm) (fun e => hnd.1.2.1 e.symm)]; exact h.grp
    · rw [hold mf hfl (fun e => hnd.2.1.2.1 e.symm) (fun e => hnd.1.2.2.1 e.symm)]; exact h.gone
    · have hn := h.nodup
      have key : (k :: K' :: mg :: mf :: ms).Nodup := by
        rcases hnew with h1 | h1
        · rw [h1]; exact hn
        · simp only [List.nodup_cons, List.mem_cons, not_or] at hn ⊢
          refine ⟨⟨hk', hn.1.2⟩, ⟨by omega, by omega, fun hm => ?_⟩, hn.2.2⟩
          have := h.low K' (by simp [hm]); omega
      have : (k :: K' :: mg :: mf :: (ms ++ [σ.next])) = (k :: K' :: mg :: mf :: ms) ++ [σ.next] := rfl
      rw [this, List.nodup_append]
      refine ⟨key, by simp, fun a ha b hb => ?_⟩
      simp only [List.mem_singleton] at hb; subst hb
      intro e; subst e
      rcases List.mem_cons.1 ha with h1 | ha
      · omega
      · rcases List.mem_cons.1 ha with h1 | ha
        · rcases hnew with h2 | h2 <;> omega
        · have := h.low σ.next (List.mem_cons_of_mem _ (List.mem_cons_of_mem _ ha)); omega
    · intro x hx
      simp only [Heap.set_next]
      simp only [List.mem_cons, List.mem_append, List.mem_singleton, List.not_mem_nil, or_false] at hx
      rcases hx with rfl | rfl | rfl | rfl | hx | rfl
      · omega
      · exact g7
      · omega
      · omega
      · have := h.low x (by simp [hx]); omega
      · omega
    · refine ⟨by simp [Revs.push], ?_, ?_, h.ok.grp, h.ok.gone⟩
      · have := h.len; simp [Revs.push]; omega
      · intro s hs
        simp only [Revs.push, List.mem_append, List.mem_singleton] at hs
        rcases hs with hs | rfl
        · exact h.ok.rise s hs
        · exact h.ok.rise _ (List.mem_of_getElem? hm3)
    · rw [Heap.set_F0, g3.2.1]; exact h.dr
  · refine ⟨g3.1, g3.2.1, by simp only [Heap.set_next]; omega, fun q hq hn => ?_⟩
    simp only [List.mem_cons, List.not_mem_nil, or_false, not_or] at hn
    rw [Heap.get_set, if_neg (fun e => hn.1 e.symm), g8 q (by omega) hn.2, Heap.get_new, if_neg (by simp; omega), Heap.get_new, if_neg (by omega)]
  · rcases hnew with h1 | h1
    · exact .inl h1
    · exact .inr (by omega)
end
def addR (R : Revs) (g : Int) : Revs × Int × Int :=
  if g ∈ R.gone ∨ g < 0 ∨ 60 ≤ g then (R, 0, 210) else if 200 ≤ R.head then (R, 0, 70) else ({ R.push R.top with grp := insS g R.grp }, (R.head : Int) + 1, 0)
def flip (g : Int) (s : List Int) : List Int := if g ∈ s then s.erase g else insS g s
def toggleR (R : Revs) (g : Int) : Revs × Int × Int :=
  if g ∉ R.grp then (R, 0, 210) else if 200 ≤ R.head then (R, 0, 70) else (R.push (flip g R.top), (R.head : Int) + 1, 0)
section
variable {σ : Heap} {k : Nat} {R : Revs} {K : Nat} {cap : Cap} {ms : List Nat} {mg mf : Nat}
theorem RevsAt.junk (h : RevsAt σ k R K cap ms mg mf) (b c : ABlk) : RevsAt ((σ.new b).set σ.next c) k R K cap ms mg mf :=
  h.at (by simp) rfl fun q hq => by have := h.low q hq; rw [Heap.get_set, if_neg (by omega), Heap.get_new, if_neg (by omega)]
theorem RevsAt.new (h : RevsAt σ k R K cap ms mg mf) (b : ABlk) : RevsAt (σ.new b) k R K cap ms mg mf :=
  h.at (by simp) rfl fun q hq => by have := h.low q hq; rw [Heap.get_new, if_neg (by omega)]
theorem Row1.set {j : Nat} (h : SetRow σ K cap ms) (hj : j ≠ K) (b : ABlk) : SetRow (σ.set j b) K cap ms := by
  obtain ⟨cs, opn, h1, h2⟩ := h; exact ⟨cs, opn, by rw [Heap.get_set, if_neg hj]; exact h1, h2⟩
theorem RevsAt.setGrp (h : RevsAt σ k R K cap ms mg mf) {l : List Int} (hl : Rise l) : RevsAt (σ.set mg (.map (uents l))) k { R with grp := l } K cap ms mg mf := by
  have hnd := h.nodup
  simp only [List.nodup_cons, List.mem_cons, not_or] at hnd
  refine ⟨?_, Row1.set h.row (fun e => hnd.2.1.1 e.symm) _, h.len, fun i m s h1 h2 => ?_, by rw [Heap.get_set, if_pos rfl], ?_, h.nodup, h.low, ⟨h.ok.one, h.ok.few, h.ok.rise, hl, h.ok.gone⟩, h.dr⟩
  · rw [Heap.get_set, if_neg (fun e => hnd.1.2.1 e.symm)]; exact h.blk
  · rw [Heap.get_set, if_neg (fun e => by subst e; exact hnd.2.2.1.2 (List.mem_of_getElem? h1))]; exact h.maps i m s h1 h2
  · rw [Heap.get_set, if_neg (fun e => hnd.2.2.1.1 e)]; exact h.gone
theorem nodup_last {l : List Nat} (h : l.Nodup) {i j x : Nat} (hi : l[i]? = some x) (hj : l[j]? = some x) : i = j := by
  obtain ⟨h1, e1⟩ := List.getElem?_eq_some_iff.1 hi
  obtain ⟨h2, e2⟩ := List.getElem?_eq_some_iff.1 hj
  have hp := List.pairwise_iff_getElem.1 h
  rcases Nat.lt_trichotomy i j with hij | hij | hij
  · exact absurd (e1.trans e2.symm) (hp i j h1 h2 hij)
  · exact hij
  · exact absurd (e2.trans e1.symm) (hp j i h2 h1 hij)
theorem RevsAt.setTop {s0 s : List Int} {q : Nat} (h : RevsAt σ k (R.push s0) K cap (ms ++ [q]) mg mf) (hs : Rise s) : RevsAt (σ.set q (.map (uents s))) k (R.push s) K cap (ms ++ [q]) mg mf := by
  have hnd := h.nodup
  simp only [List.nodup_cons, List.mem_cons, List.mem_append, not_or, List.not_mem_nil, not_false_eq_true, and_true] at hnd
  have hl : ms.length = R.und.length := by have := h.len; simp [Revs.push] at this; exact this
  refine ⟨?_, Row1.set h.row (fun e => hnd.2.1.2.2.2 e.symm) _, by simp [Revs.push, hl], fun i m s' h1 h2 => ?_, ?_, ?_, h.nodup, h.low, ⟨by simp [Revs.push], by simpa [Revs.push] using h.ok.few, ?_, h.ok.grp, h.ok.gone⟩, h.dr⟩
  · rw [Heap.get_set, if_neg (fun e => hnd.1.2.2.2.2 e.symm)]; exact h.blk
  · have hnm : (ms ++ [q]).Nodup := hnd.2.2.2.2
    by_cases hi : i = ms.length
    · subst hi
      simp only [List.getElem?_concat_length, Option.some.injEq] at h1
      simp only [Revs.push] at h2
      rw [hl] at h2
      simp only [List.getElem?_concat_length, Option.some.injEq] at h2
      subst h1; subst h2
      rw [Heap.get_set, if_pos rfl]
    · have hilt : i < ms.length := by have := (List.getElem?_eq_some_iff.1 h1).1; simp at this; omega
      have hq : q ≠ m := fun e => by
        subst e; exact hi (nodup_last hnm h1 (by simp))
      rw [Heap.get_set, if_neg hq]
      refine h.maps i m s' h1 ?_
      simp only [Revs.push] at h2 ⊢
      rw [List.getElem?_append_left (by omega)] at h2 ⊢
      exact h2
  · rw [Heap.get_set, if_neg (fun e => hnd.2.2.1.2.2 e.symm)]; exact h.grp
  · rw [Heap.get_set, if_neg (fun e => hnd.2.2.2.1.2 e.symm)]; exact h.gone
  · intro x hx
    simp only [Revs.push, List.mem_append, List.mem_singleton] at hx
    rcases hx with hx | rfl
    · exact h.ok.rise x (by simp [Revs.push, hx])
    · exact hs
theorem head_push (s : List Int) (h : R.und ≠ []) : (R.push s).head = R.head + 1 := by
  have := List.length_pos_iff.2 h
  simp only [Revs.head, Revs.push, List.length_append, List.length_cons, List.length_nil]; omega
end
theorem Keep.junk {fp : List Nat} {σ τ : Heap} (h : Keep fp σ τ) (b c : ABlk) : Keep fp σ ((τ.new b).set τ.next c) := (h.new b).set (.inr h.2.2.1) c
theorem mem_bool {g : Int} {l : List Int} (h : g ∈ l) : decide (g ∈ l) = true := by simpa using h
theorem not_mem_bool {g : Int} {l : List Int} (h : g ∉ l) : decide (g ∈ l) = false := by simpa using h
set_option maxHeartbeats 1000000 in
theorem add_spec {σ : Heap} {k : Nat} {R : Revs} {fp : List Nat} (h : IsRevs σ k R fp) (g : Int) : MSpec Tryz.prog n_rev_Revs_Add [.ptr (.new k) 0, .int .i64 g] σ fun v τ => v = .tup [.int .i64 (addR R g).2.1, .int .i64 (addR R g).2.2] ∧ ∃ fp', IsRevs τ k (addR R g).1 fp' ∧ Keep fp σ τ ∧ Fresh fp σ fp' := by
  obtain ⟨K, cap, ms, mg, mf, h, rfl⟩ := h
  have hk := h.blk
  have hf := h.gone
  have hkl := h.low k (by simp)
  refine spec_of_awp mixed c_rev_Revs_Add (tl rfl) ?_
  unfold f_rev_Revs_Add
  have hbad : (g ∈ R.gone ∨ g < 0 ∨ 60 ≤ g) → addR R g = (R, 0, 210) := fun hb => by simp only [addR, if_pos hb]
  have fin : IsRevs ((σ.new (.cells [] none)).set σ.next (.cells [] none)) k R (k :: K :: mg :: mf :: ms) ∧ Keep (k :: K :: mg :: mf :: ms) σ ((σ.new (.cells [] none)).set σ.next (.cells [] none)) ∧ Fresh (k :: K :: mg :: mf :: ms) σ (k :: K :: mg :: mf :: ms) :=
    ⟨⟨K, cap, ms, mg, mf, h.junk _ _, rfl⟩, (Keep.refl _ _).junk _ _, fun x hx => .inl hx⟩
  by_cases h1 : g ∈ R.gone
  · rw [hbad (.inl h1)]
    simp +decide only [↓evd, evw, evz, reduceCtorEq, ↓reduceIte, hk, look_set (g := g) hf, mem_bool h1]
    exact ⟨_, fin⟩
  by_cases h2 : g < 0
  · rw [hbad (.inr (.inl h2))]
    simp +decide only [↓evd, evw, evz, reduceCtorEq, ↓reduceIte, hk, look_set (g := g) hf, not_mem_bool h1, h2]
    exact ⟨_, fin⟩
  by_cases h3 : 60 ≤ g
  · rw [hbad (.inr (.inr h3))]
    simp +decide only [↓evd, evw, evz, reduceCtorEq, ↓reduceIte, hk, look_set (g := g) hf, not_mem_bool h1, h2, h3]
    exact ⟨_, fin⟩
  have hnb : ¬ (g ∈ R.gone ∨ g < 0 ∨ 60 ≤ g) := by rintro (h | h | h); exact h1 h; exact h2 h; exact h3 h
  have hj := h.junk (.cells [] none) (.cells [] none)
  by_cases h4 : 200 ≤ R.head
  · have : addR R g = (R, 0, 70) := by simp only [addR, if_neg hnb, if_pos h4]
    rw [this]
    simp +decide only [↓evd, evw, evz, reduceCtorEq, ↓reduceIte, hk, look_set (g := g) hf, not_mem_bool h1, h2, h3]
    refine MSpec.of (next_many hj h4) ?_
    have hb : ((70 : Int) != 0) = true := rfl
    simp +decide only [↓evd, evw, evz, reduceCtorEq, ↓reduceIte, hb]
    exact ⟨_, fin⟩
  · have : addR R g = ({ R.push R.top with grp := insS g R.grp }, (R.head : Int) + 1, 0) := by simp only [addR, if_neg hnb, if_neg h4]
    rw [this]
    simp +decide only [↓evd, evw, evz, reduceCtorEq, ↓reduceIte, hk, look_set (g := g) hf, not_mem_bool h1, h2, h3]
    refine (next_spec hj (by omega)).mono ?_
    rintro v τ ⟨rfl, K', cap', hP⟩
    have hb : ((0 : Int) != 0) = false := rfl
    have hk2 := hP.at_.blk
    have hg2 := hP.at_.grp
    have h5 := hP.at_.setGrp (l := insS g R.grp) (h.ok.grp.ins (by omega) (by omega))
    have hhd := head_call h5
    have he : ({ R.push R.top with grp := insS g R.grp } : Revs).head = R.head + 1 := head_push _ h.ok.one
    rw [he] at hhd
    have hg3 : (R.push R.top).grp = R.grp := rfl
    rw [hg3] at hg2
    simp +decide only [↓evd, evw, evz, reduceCtorEq, ↓reduceIte, hb, hk2, hg2]
    refine MSpec.of hhd ?_
    simp +decide only [↓evd, evw, evz, reduceCtorEq, ↓reduceIte]
    refine ⟨by rfl, _, ⟨K', cap', _, mg, mf, h5, rfl⟩, ?_, ?_⟩
    · have hk3 : Keep (k :: K :: mg :: mf :: ms) σ τ := by
        have hkj : Keep [] σ ((σ.new (.cells [] none)).set σ.next (.cells [] none)) := (Keep.refl _ _).junk _ _
        refine ((hkj.mono (fp' := k :: K :: mg :: mf :: ms) (fun x hx => by cases hx)).trans hP.keep ?_)
        intro x hx
        simp only [List.mem_cons, List.not_mem_nil, or_false] at hx
        rcases hx with rfl | rfl <;> exact .inl (by simp)
      exact hk3.set (.inl (by simp)) _
    · intro x hx
      simp only [List.mem_cons, List.mem_append, List.not_mem_nil, or_false] at hx
      rcases hx with rfl | rfl | rfl | rfl | hx | rfl
      · exact .inl (by simp)
      · rcases hP.new with h6 | h6
        · exact .inl (by simp [h6])
        · simp at h6; exact .inr (by omega)
      · exact .inl (by simp)
      · exact .inl (by simp)
      · exact .inl (by simp [hx])
      · exact .inr (by simp)
theorem Rise.flip {s : List Int} {g : Int} (h : Rise s) (h0 : 0 ≤ g) (h1 : g < 60) : Rise (flip g s) := by
  unfold M.flip; split
  · exact h.erase g
  · exact h.ins h0 h1
set_option maxHeartbeats 1000000 in
theorem toggle_spec {σ : Heap} {k : Nat} {R : Revs} {fp : List Nat} (h : IsRevs σ k R fp) (g : Int) : MSpec Tryz.prog n_rev_Revs_Toggle [.ptr (.new k) 0, .int .i64 g] σ fun v τ => v = .tup [.int .i64 (toggleR R g).2.1, .int .i64 (toggleR R g).2.2] ∧ ∃ fp', IsRevs τ k (toggleR R g).1 fp' ∧ Keep fp σ τ ∧ Fresh fp σ fp' := by
  obtain ⟨K, cap, ms, mg, mf, h, rfl⟩ := h
  refine spec_of_awp mixed c_rev_Revs_Toggle (tl rfl) ?_
  unfold f_rev_Revs_Toggle
  have fin : IsRevs σ k R (k :: K :: mg :: mf :: ms) ∧ Keep (k :: K :: mg :: mf :: ms) σ σ ∧ Fresh (k :: K :: mg :: mf :: ms) σ (k :: K :: mg :: mf :: ms) :=
    ⟨⟨K, cap, ms, mg, mf, h, rfl⟩, Keep.refl _ _, fun x hx => .inl hx⟩
  simp +decide only [↓evd, evw, evz, reduceCtorEq, ↓reduceIte]
  refine MSpec.of (has_call h g) ?_
  by_cases h1 : g ∈ R.grp
  case neg =>
    have : toggleR R g = (R, 0, 210) := by simp only [toggleR, if_pos h1]
    rw [this]
    simp +decide only [↓evd, evw, evz, reduceCtorEq, ↓reduceIte, not_mem_bool h1]
    exact ⟨_, fin⟩
  have hgb := h.ok.grp.2 g h1
  have hn1 : ¬ g ∉ R.grp := fun h => h h1
  by_cases h4 : 200 ≤ R.head
  · have : toggleR R g = (R, 0, 70) := by simp only [toggleR, if_neg hn1, if_pos h4]
    rw [this]
    have hb : ((70 : Int) != 0) = true := rfl
    simp +decide only [↓evd, evw, evz, reduceCtorEq, ↓reduceIte, mem_bool h1]
    refine MSpec.of (next_many h h4) ?_
    simp +decide only [↓evd, evw, evz, reduceCtorEq, ↓reduceIte, hb]
    exact ⟨_, fin⟩
  · have : toggleR R g = (R.push (flip g R.top), (R.head : Int) + 1, 0) := by simp only [toggleR, if_neg hn1, if_neg h4]
    rw [this]
    have hb : ((0 : Int) != 0) = false := rfl
    simp +decide only [↓evd, evw, evz, reduceCtorEq, ↓reduceIte, mem_bool h1]
    refine (next_spec h (by omega)).mono ?_
    rintro v τ ⟨rfl, K', cap', hP⟩
    have hA := hP.at_
    obtain ⟨m, hm1, hm2, hm3⟩ := hA.last
    have hl : ms.length = R.und.length := h.len
    simp only [List.length_append, List.length_cons, List.length_nil, Nat.add_sub_cancel, List.getElem?_concat_length, Option.some.injEq] at hm1
    subst hm1
    have htop : (R.push R.top).top = R.top := by simp [Revs.top, Revs.push]
    rw [htop] at hm2
    have hlow := hA.low σ.next (by simp)
    have hAj := hA.junk (.cells [] none) (.cells [] none)
    have hrt : Rise R.top := h.ok.rise _ (by obtain ⟨_, _, _, h3⟩ := h.last; exact List.mem_of_getElem? h3)
    have h5 := hAj.setTop (s := flip g R.top) (hrt.flip hgb.1 hgb.2)
    have hhd := head_call h5
    rw [head_push _ h.ok.one] at hhd
    have hK2 : Keep (k :: K :: mg :: mf :: ms) σ (((τ.new (.cells [] none)).set τ.next (.cells [] none)).set σ.next (.map (uents (flip g R.top)))) := by
      have a1 := hP.keep.mono (fp' := k :: K :: mg :: mf :: ms) (fun x hx _ => by simp only [List.mem_cons, List.not_mem_nil, or_false] at hx; rcases hx with rfl | rfl <;> simp)
      exact (a1.junk _ _).set (.inr (Nat.le_refl _)) _
    have hF : Fresh (k :: K :: mg :: mf :: ms) σ (k :: K' :: mg :: mf :: (ms ++ [σ.next])) := by
      intro x hx
      simp only [List.mem_cons, List.mem_append, List.not_mem_nil, or_false] at hx
      rcases hx with rfl | rfl | rfl | rfl | hx | rfl
      · exact .inl (by simp)
      · rcases hP.new with h6 | h6
        · exact .inl (by simp [h6])
        · exact .inr (by omega)
      · exact .inl (by simp)
      · exact .inl (by simp)
      · exact .inl (by simp [hx])
      · exact .inr (Nat.le_refl _)
    have hne : τ.next ≠ σ.next := by omega
    by_cases h6 : g ∈ R.top
    · have hfl : flip g R.top = R.top.erase g := by simp only [M.flip, if_pos h6]
      rw [hfl] at h5 hhd hK2
      simp +decide only [↓evd, evw, evz, reduceCtorEq, ↓reduceIte, hb, look_set (g := g) hm2, mem_bool h6, hm2, hlow, hne]
      refine MSpec.of hhd ?_
      simp +decide only [↓evd, evw, evz, reduceCtorEq, ↓reduceIte]
      rw [hfl]
      exact ⟨by rfl, _, ⟨K', cap', _, mg, mf, h5, rfl⟩, hK2, hF⟩
    · have hfl : flip g R.top = insS g R.top := by simp only [M.flip, if_neg h6]
      rw [hfl] at h5 hhd hK2
      simp +decide only [↓evd, evw, evz, reduceCtorEq, ↓reduceIte, hb, look_set (g := g) hm2, not_mem_bool h6, hm2, hlow, hne]
      refine MSpec.of hhd ?_
      simp +decide only [↓evd, evw, evz, reduceCtorEq, ↓reduceIte]
      rw [hfl]
      exact ⟨by rfl, _, ⟨K', cap', _, mg, mf, h5, rfl⟩, hK2, hF⟩

theorem keyCells_uents (l : List Int) : keyCells (uents l) = l.map (AVal.int .i64 ·) := by simp [keyCells, uents]
theorem ints_cells (l : List Int) : (l.map (AVal.int .i64 ·)).flatMap AVal.cells = l.map (AVal.int .i64 ·) := by
  induction l with
  | nil => rfl
  | cons x l ih => simp only [List.map_cons, List.flatMap_cons, AVal.cells, ih]; rfl
theorem ints_row (l : List Int) : ∀ z ∈ l.map (AVal.int .i64 ·), z.cells.length = 1 := by
  intro z hz; rw [List.mem_map] at hz; obtain ⟨x, _, rfl⟩ := hz; rfl
theorem ints_cell (l : List Int) : (l.map (AVal.int .i64 ·)).all AVal.isCell = true := by
  rw [List.all_eq_true]; intro z hz; rw [List.mem_map] at hz; obtain ⟨x, _, rfl⟩ := hz; rfl
theorem wf_i64 {g : Int} (h0 : 0 ≤ g) (h1 : g < 60) : (Lit.int .i64 g).wf = true := by
  simp only [Lit.wf, Bool.and_eq_true, decide_eq_true_eq, IntKind.min, IntKind.max, IntKind.signed, IntKind.bits]; simp; omega
theorem sees_ints {σ : Heap} {K n : Nat} {cap : Cap} {l : List Int} {opn : Option TypeId} (hg : σ.get K = some (.cells (l.map (AVal.int .i64 ·)) opn)) (hn : n = l.length) (hc : ∀ c, cap = .ex c → n ≤ c) : Sees σ (.slc (.new K) 0 n cap) (σ.set K .dead) (ints l) := by
  subst hn
  refine Sees.own (els := l.map (AVal.int .i64 ·)) hg (by simp) (ints_row l) ?_ hc
  rw [ints_cells, List.drop_zero, List.take_of_length_le (by simp)]
theorem repl_len (n : Nat) (zs : List AVal) : (repl n zs).length = n * zs.length := by
  induction n with
  | zero => simp [repl]
  | succ n ih => simp only [repl, List.replicate_succ, List.flatten_cons, List.length_append] at *; rw [ih, Nat.add_mul]; omega
theorem copy_cells {σ : Heap} {a b n : Nat} {zs ys : List AVal} {opn : Option TypeId} {cap cap' : Cap} (ha : σ.get a = some (.cells zs none)) (hb : σ.get b = some (.cells ys opn)) (hz : zs.length = n) (hy : ys.length = n) (hn : 0 < n) (hc : ys.all AVal.isCell = true) :
    aCopy 1 (.slc (.new a) 0 n cap) (.slc (.new b) 0 n cap') σ = some (.int .i64 (n : Nat), σ.set a (.cells ys none)) := by
  have h1 := cellsFrom_whole hb
  rw [hy] at h1
  simp only [aCopy, aSLen, aLenOf, Nat.min_self, srcCells, slcCells, Nat.le_refl, if_true, Nat.mul_one, h1, if_neg (show ¬ n = 0 by omega), storeAt, ha]
  rw [if_pos (by simp only [hc, Bool.and_true, decide_eq_true_eq]; omega)]
  simp only [Option.map_some, over, List.take_zero, List.nil_append, Nat.zero_add, List.drop_eq_nil_of_le (show zs.length ≤ ys.length by omega), List.append_nil]
theorem sorted_spec {σ : Heap} {m : Nat} {l : List Int} (hm : σ.get m = some (.map (uents l))) (hml : m < σ.next) (hl : Rise l) (hd : σ.F0.dr = false) :
    MSpec Tryz.prog n_rev_set_sorted [.mp (.new m)] σ fun v τ => v = .slc (.new σ.next) 0 l.length (.ex l.length) ∧ τ.get σ.next = some (.cells (l.map (AVal.int .i64 ·)) none) ∧ σ.next < τ.next ∧ Keep [] σ τ := by
  refine spec_of_awp mixed c_rev_set_sorted (tl rfl) ?_
  unfold f_rev_set_sorted
  have hlen := rise_len hl
  have hm2 : l.length * 8 ≤ maxRoom := by unfold maxRoom; omega
  have hm3 : (l.length : Int) ≤ 2 ^ 62 := by omega
  simp +decide only [↓evd, evw, evz, reduceCtorEq, ↓reduceIte, lenM_set hm, hm2, hm3]
  refine MSpec.of (exact_call (τ := (σ.new (.cells (List.replicate l.length [AVal.int IntKind.i64 0]).flatten none)).new (.cells [.mp (.new m)] none)) (v := .fn n_maps_Keys_rev_set_int_unit_1 [.ptr (.new (σ.next + 1)) 0]) (spec_of_awp mixed c_maps_Keys_rev_set_int_unit (tl rfl) (by unfold f_maps_Keys_rev_set_int_unit; simp +decide only [↓evd, evw, evz, reduceCtorEq, ↓reduceIte]))) ?_
  simp +decide only [↓evd, evw, evz, reduceCtorEq, ↓reduceIte]
  have hs := sorted_call (σ := (σ.new (.cells (List.replicate l.length [AVal.int IntKind.i64 0]).flatten none)).new (.cells [.mp (.new m)] none)) (q := σ.next + 1) (m := m) (opn := none) (es := uents l) (by simp +decide only [↓evd, evw, evz, reduceCtorEq, ↓reduceIte]) (by simp +decide only [↓evd, evw, evz, reduceCtorEq, ↓reduceIte, hml, hm])
    (fun p hp => by simp only [uents, List.mem_map] at hp; obtain ⟨g, hg, rfl⟩ := hp; exact wf_i64 (hl.2 g hg).1 (hl.2 g hg).2) (by simp only [uents, List.length_map]; omega) hd
  by_cases h0 : l = []
  · subst h0
    simp only [uents, List.map_nil, if_true] at hs
    refine MSpec.of hs ?_
    simp +decide only [↓evd, evw, evz, reduceCtorEq, ↓reduceIte, aCopy, aSLen, aLenOf, srcCells, slcCells, Nat.min_self]
    have hlt : σ.next < σ.next + 1 + 1 := by omega
    simp +decide only [↓evd, evw, evz, reduceCtorEq, ↓reduceIte, hlt]
    exact ⟨if_neg (by omega), ((Keep.refl [] σ).new _).new _⟩
  · have h1 : uents l ≠ [] := by simpa [uents] using h0
    have hpos : 0 < l.length := List.length_pos_iff.2 h0
    rw [if_neg h1, if_neg h1, keyCells_uents] at hs
    simp only [Heap.new_next, uents, List.length_map] at hs
    have hcp := copy_cells (σ := ((σ.new (.cells (List.replicate l.length [AVal.int IntKind.i64 0]).flatten none)).new (.cells [.mp (.new m)] none)).new (.cells (l.map (AVal.int .i64 ·)) (some t_int))) (a := σ.next) (b := σ.next + 1 + 1) (n := l.length) (zs := (List.replicate l.length [AVal.int IntKind.i64 0]).flatten) (ys := l.map (AVal.int .i64 ·)) (opn := some t_int) (cap := .ex l.length) (cap' := .gr 1)
      (by simp +decide only [↓evd, evw, evz, reduceCtorEq, ↓reduceIte, show (σ.next + 1 + 1 = σ.next) = False from eq_false (by omega), show (σ.next + 1 = σ.next) = False from eq_false (by omega)]) (by simp +decide only [↓evd, evw, evz, reduceCtorEq, ↓reduceIte]) (by simp) (by simp) hpos (ints_cell l)
    refine MSpec.of hs ?_
    simp +decide only [↓evd, evw, evz, reduceCtorEq, ↓reduceIte, hcp]
    refine ⟨by omega, ?_⟩
    exact ((((Keep.refl [] σ).new _).new _).new _).set (.inr (Nat.le_refl _)) _
def Revs.at (R : Revs) (n : Int) : List Int := (R.und[(n - R.floor).toNat]?).getD []
def Revs.undone (R : Revs) (n : Int) : List Int := if R.live n then R.at n else []
theorem keeps_new {S : Nat → Prop} {σ : Heap} (h : ∀ q, S q → q < σ.next) (b : ABlk) : Keeps S σ (σ.new b) := ⟨rfl, fun q hq => by have := h q hq; rw [Heap.get_new, if_neg (by omega)]⟩
section
variable {σ : Heap} {k : Nat} {R : Revs} {K : Nat} {cap : Cap} {ms : List Nat} {mg mf : Nat}
theorem RevsAt.set_at (h : RevsAt σ k R K cap ms mg mf) {n : Int} (hl : R.live n = true) : ∃ (i m : Nat), n - R.floor = (i : Nat) ∧ i < ms.length ∧ ms[i]? = some m ∧ R.und[i]? = some (R.at n) ∧ σ.get m = some (.map (uents (R.at n))) ∧ m < σ.next ∧ Rise (R.at n) := by
  simp only [Revs.live, Bool.and_eq_true, decide_eq_true_eq] at hl
  have hp := h.pos
  have he := h.head_eq
  have hi : (n - R.floor).toNat < ms.length := by omega
  have hi2 : (n - R.floor).toNat < R.und.length := by rw [← h.len]; exact hi
  have h1 : R.und[(n - R.floor).toNat]? = some (R.at n) := by simp only [Revs.at, List.getElem?_eq_getElem hi2, Option.getD_some]
  refine ⟨(n - R.floor).toNat, ms[(n - R.floor).toNat], by omega, hi, List.getElem?_eq_getElem hi, h1, h.maps _ _ _ (List.getElem?_eq_getElem hi) h1, h.low _ ?_, h.ok.rise _ (List.mem_of_getElem? h1)⟩
  have := List.getElem_mem hi
  simp [this]
theorem undone_spec (h : RevsAt σ k R K cap ms mg mf) (n : Int) (hl : R.live n = true) : MSpec Tryz.prog n_rev_Revs_Undone [.ptr (.new k) 0, .int .i64 n] σ fun v τ => v = .slc (.new σ.next) 0 (R.at n).length (.ex (R.at n).length) ∧ τ.get σ.next = some (.cells ((R.at n).map (AVal.int .i64 ·)) none) ∧ σ.next < τ.next ∧ Keep [] σ τ := by
  refine spec_of_awp mixed c_rev_Revs_Undone (tl rfl) ?_
  unfold f_rev_Revs_Undone
  have hk := h.blk
  have hp := h.pos
  obtain ⟨i, m, e, hi, hm1, hm2, hm3, hm4, hm5⟩ := h.set_at hl
  have hw : IntKind.i64.wrap (n - (R.floor : Int)) = (i : Int) := by rw [e, wrap_id (by omega) (by omega)]
  have hlt : (i : Int) < (ms.length : Int) := by omega
  have hcell := h.row.cell hm1
  obtain ⟨cs, opn, hc1, hc2, hc3⟩ := h.row
  clear hc3
  simp only [Heap.cell, hc1] at hcell
  simp +decide only [↓evd, evw, evz, reduceCtorEq, ↓reduceIte]
  refine MSpec.of (live_call h n) ?_
  simp +decide only [↓evd, evw, evz, reduceCtorEq, ↓reduceIte, hl]
  with_reducible refine draw_of_grow (fun _ => True) (ms := [false, false, false, true, false, false, false, false, true, false, false, true, true, false]) (by kernel_rfl) ?_
  simp +decide only [↓evd, evw, evz, reduceCtorEq, ↓reduceIte, hk, hw, hlt, hc1, hcell]
  refine (sorted_spec hm3 hm4 hm5 h.dr).mono ?_
  rintro v τ ⟨rfl, h1, h2, h3⟩
  simp +decide only [↓evd, evw, evz, reduceCtorEq, ↓reduceIte]
  exact ⟨h1, h2, h3⟩
theorem undone_dead (h : RevsAt σ k R K cap ms mg mf) (n : Int) (hl : R.live n = false) : ACall Tryz.prog n_rev_Revs_Undone [.ptr (.new k) 0, .int .i64 n] σ .nils σ := by
  refine exact_call (spec_of_awp mixed c_rev_Revs_Undone (tl rfl) ?_)
  unfold f_rev_Revs_Undone
  simp +decide only [↓evd, evw, evz, reduceCtorEq, ↓reduceIte]
  refine MSpec.of (live_call h n) ?_
  simp +decide only [↓evd, evw, evz, reduceCtorEq, ↓reduceIte, hl]
theorem told_call {f : FuncId} {args : List AVal} {l : List Int} (h : MSpec Tryz.prog f args σ fun v τ => v = .slc (.new σ.next) 0 l.length (.ex l.length) ∧ τ.get σ.next = some (.cells (l.map (AVal.int .i64 ·)) none) ∧ σ.next < τ.next ∧ Keep [] σ τ) : ACall Tryz.prog f args σ (ints l) σ := by
  obtain ⟨v, τ, h, rfl, h1, h2, h3⟩ := h
  refine acall_gc (acall_see h (sees_ints h1 rfl (fun c hc => by cases hc; exact Nat.le_refl _))) (ints_pure _) h3.1 h3.2.1 fun q hq => ?_
  rw [Heap.get_set, if_neg (by omega)]
  exact h3.2.2.2 q hq (by simp)
theorem undone_call (h : RevsAt σ k R K cap ms mg mf) (n : Int) : ACall Tryz.prog n_rev_Revs_Undone [.ptr (.new k) 0, .int .i64 n] σ (ints (R.undone n)) σ := by
  unfold Revs.undone
  cases hl : R.live n with
  | true => exact told_call (undone_spec h n hl)
  | false => exact acall_see (undone_dead h n hl) (Sees.nils σ 1)
theorem groups_spec (h : RevsAt σ k R K cap ms mg mf) : MSpec Tryz.prog n_rev_Revs_Groups [.ptr (.new k) 0] σ fun v τ => v = .slc (.new σ.next) 0 R.grp.length (.ex R.grp.length) ∧ τ.get σ.next = some (.cells (R.grp.map (AVal.int .i64 ·)) none) ∧ σ.next < τ.next ∧ Keep [] σ τ := by
  refine spec_of_awp mixed c_rev_Revs_Groups (tl rfl) ?_
  unfold f_rev_Revs_Groups
  have hk := h.blk
  simp +decide only [↓evd, evw, evz, reduceCtorEq, ↓reduceIte, hk]
  refine (sorted_spec h.grp (h.low mg (by simp)) h.ok.grp h.dr).mono ?_
  rintro v τ ⟨rfl, h1, h2, h3⟩
  simp +decide only [↓evd, evw, evz, reduceCtorEq, ↓reduceIte]
  exact ⟨h1, h2, h3⟩
theorem groups_call (h : RevsAt σ k R K cap ms mg mf) : ACall Tryz.prog n_rev_Revs_Groups [.ptr (.new k) 0] σ (ints R.grp) σ := told_call (groups_spec h)
end
def Revs.new : Revs := ⟨[[]], 0, [], []⟩
theorem new_spec (σ : Heap) (hd : σ.F0.dr = false) : MSpec Tryz.prog n_rev_New [] σ fun v τ => v = .ptr (.new (σ.next + 4)) 0 ∧ RevsAt τ (σ.next + 4) Revs.new (σ.next + 1) (.ex 1) [σ.next] (σ.next + 2) (σ.next + 3) ∧ Keep [] σ τ := by
  refine spec_of_awp mixed c_rev_New (tl rfl) ?_
  unfold f_rev_New
  simp +decide only [↓evd, evw, evz, reduceCtorEq, ↓reduceIte]
  refine ⟨?_, ((((((Keep.refl [] σ).new _).new _).new _).new _).new _)⟩
  have e1 : ∀ i j : Nat, i ≠ j → (σ.next + i = σ.next + j) = False := fun i j h => eq_false (by omega)
  have e2 : ∀ i : Nat, i ≠ 0 → (σ.next + i = σ.next) = False := fun i h => eq_false (by omega)
  refine ⟨?_, ⟨[.mp (.new σ.next)], none, ?_, rfl, .inr ⟨1, rfl, by simp, rfl⟩⟩, rfl, fun i m s h1 h2 => ?_, ?_, ?_, ?_, ?_, ⟨by simp [Revs.new], by simp [Revs.new], ?_, Rise.nil, Rise.nil⟩, hd⟩
  · simp +decide only [↓evd, evw, evz, reduceCtorEq, ↓reduceIte, e1, e2]; rfl
  · simp [Heap.get_new]; rw [if_neg (by omega), if_neg (by omega)]
  · cases i with
    | zero => simp [Revs.new] at h1 h2; subst h1; subst h2; simp [Heap.get_new, uents]; omega
    | succ i => simp at h1
  · simp [Heap.get_new, uents, Revs.new]; omega
  · simp [Heap.get_new, uents, Revs.new]
  · simp
  · simp; omega
  · intro s hs; simp [Revs.new] at hs; subst hs; exact Rise.nil
end Go.Proofs.YtkjikdohnomajaaGreat.M
namespace Go.Proofs.YtkjikdohnomajaaGreat.M
open Go Go.Mini
attribute [local congr] go1_congr goM_congr goG_congr goV_congr drawwp_congr
set_option maxHeartbeats 4000000 in
theorem copyRevs_spec {σ : Heap} {k : Nat} {R : Revs} {K : Nat} {cap : Cap} {ms : List Nat} {mg mf : Nat} (h : RevsAt σ k R K cap ms mg mf) :
    MSpec Tryz.prog n_rev_Revs_Copy [.ptr (.new k) 0] σ fun v τ => v = .ptr (.new (σ.next + 2)) 0 ∧ (∃ fp, IsRevs τ (σ.next + 2) R fp ∧ ∀ x ∈ fp, σ.next ≤ x) ∧ Keep [] σ τ := by
  refine spec_of_awp mixed c_rev_Revs_Copy (tl rfl) ?_
  unfold f_rev_Revs_Copy
  have hk := h.blk
  have hp := h.pos
  have hkl := h.low k (by simp)
  have hgl := h.low mg (by simp)
  have hfl := h.low mf (by simp)
  have hKl := h.low K (by simp)
  have hlen := h.len
  have hrow := h.row
  obtain ⟨cs, opn, hc1, hc2, hc3⟩ := h.row
  clear hc3
  have hclf := clone_call (σ := σ.new (.map (uents R.grp))) (m := mf) (es := uents R.gone) (by simp +decide only [↓evd, evw, evz, reduceCtorEq, ↓reduceIte, hfl]; exact h.gone)
  simp +decide only [↓evd, evw, evz, reduceCtorEq, ↓reduceIte]
  with_reducible refine draw_of_grow (fun q => q < σ.next) (ms := [false, false, false, false, false, false, false, false, false, false, false, false, false, false, false, false, false]) (by kernel_rfl) ?_
  simp +decide only [↓evd, evw, evz, reduceCtorEq, ↓reduceIte, hk, hkl]
  refine MSpec.of (clone_call h.grp) ?_
  refine ⟨.inr (keeps_new (fun q hq => hq) _), ?_⟩
  simp +decide only [↓evd, evw, evz, reduceCtorEq, ↓reduceIte, hk, hkl]
  refine MSpec.of hclf ?_
  refine ⟨.inr (keeps_new (fun q hq => Nat.lt_succ_of_lt hq) _), ?_⟩
  simp +decide only [↓evd, evw, evz, reduceCtorEq, ↓reduceIte, hk, hkl]
  refine ⟨.inr (keeps_new (fun q hq => Nat.lt_succ_of_lt (Nat.lt_succ_of_lt hq)) _), ?_⟩
  simp +decide only [↓evd, evw, evz, reduceCtorEq, ↓reduceIte, hk, hkl]
  refine awp_loop (fun m fr τ => ∃ i us ms', m + i = ms.length ∧ fr.get 3 = .ptr (.new (σ.next + 1 + 1)) 0 ∧ fr.get 25 = .slc (.new K) 0 ms.length cap ∧ fr.get 26 = .int .i64 (ms.length : Nat) ∧ fr.get 27 = .int .i64 (i : Nat) ∧
    τ.get (σ.next + 1 + 1) = some (.cells [us, .int .i64 (R.floor : Nat), .mp (.new σ.next), .mp (.new (σ.next + 1))] none) ∧ Own (σ.next + 3) τ t_set 1 us (mps ms') ∧ ms'.length = i ∧ (∀ (j q : Nat) (s : List Int), ms'[j]? = some q → R.und[j]? = some s → τ.get q = some (.map (uents s))) ∧
    (∀ q ∈ ms', σ.next + 3 ≤ q ∧ q < τ.next) ∧ ms'.Nodup ∧ (∀ K o n c, us = .slc (.new K) o n c → K ∉ ms') ∧ τ.get σ.next = some (.map (uents R.grp)) ∧ τ.get (σ.next + 1) = some (.map (uents R.gone)) ∧ σ.next + 3 ≤ τ.next ∧ Keep [] σ τ) ?_ (m := ms.length) ?_
  · rintro m fr τ ⟨i, us, ms', hi, e3, e25, e26, e27, hb, hO, hl, hmap, hlow, hnd, hKm, hg, hf, hn, hkeep⟩
    by_cases hlt : i < ms.length
    · have hlt' : (i : Int) < (ms.length : Int) := by omega
      have hs := wrap_succ (i := i) (by omega)
      have hm1 : ms[i]? = some ms[i] := List.getElem?_eq_getElem hlt
      have hcell := hrow.cell hm1
      simp only [Heap.cell, hc1] at hcell
      have hKt : τ.get K = some (.cells cs opn) := by rw [hkeep.2.2.2 K hKl (by simp)]; exact hc1
      have hu : i < R.und.length := by omega
      have hmi := h.maps i ms[i] R.und[i] hm1 (List.getElem?_eq_getElem hu)
      have hml := h.low ms[i] (by have := List.getElem_mem hlt; simp [this])
      have hmt : τ.get ms[i] = some (.map (uents R.und[i])) := by rw [hkeep.2.2.2 _ hml (by simp)]; exact hmi
      generalize ms[i] = q at hm1 hcell hmi hml hmt
      have hc2lt : σ.next + 1 + 1 < τ.next := by omega
      have hsrc := src_one (σ := (τ.new (.map (uents R.und[i]))).new (.cells [.mp (.new τ.next)] none)) (K := τ.next + 1) (k := 1) (cs := [.mp (.new τ.next)]) (opn := none) (z := .mp (.new τ.next)) (cap := .ex 1) (by simp +decide only [↓evd, evw, evz, reduceCtorEq, ↓reduceIte]) rfl rfl
      obtain ⟨x', ρ, g1, g2, g3, g4, g5⟩ := own_app2 (bytes := 8) ((hO.new (.map (uents R.und[i]))).new (.cells [.mp (.new τ.next)] none)) (by simp; omega) hsrc.1 hsrc.2 (by intro z hz; simp at hz; subst hz; rfl) rfl (by omega) (by omega) (by unfold maxRoom; rw [mps_len]; simp; omega)
      have e1 : mps ms' ++ [AVal.mp (.new τ.next)] = mps (ms' ++ [τ.next]) := by simp [mps]
      rw [e1] at g2
      have g8 : ∀ q, q < τ.next + 2 → (∀ K o n c, us = .slc (.new K) o n c → q ≠ K) → ρ.get q = ((τ.new (.map (uents R.und[i]))).new (.cells [.mp (.new τ.next)] none)).get q := fun q hq hn => g4 q (by simpa using hq) hn
      have hUK : ∀ {K o n c}, us = .slc (.new K) o n c → σ.next + 3 ≤ K ∧ K < τ.next := fun e => hO.low e
      have hold : ∀ q, q < τ.next → (∀ K o n c, us = .slc (.new K) o n c → q ≠ K) → ρ.get q = τ.get q := fun q hq hn => by
        rw [g8 q (by omega) hn, Heap.get_new, if_neg (by simp; omega), Heap.get_new, if_neg (by omega)]
      have hcr : ρ.get (σ.next + 1 + 1) = some (.cells [us, .int .i64 (R.floor : Nat), .mp (.new σ.next), .mp (.new (σ.next + 1))] none) := by
        rw [hold _ hc2lt (fun K o n c e => by have := hUK e; omega)]; exact hb
      obtain ⟨K', rfl⟩ : ∃ K', x' = .slc (.new K') 0 (mps (ms' ++ [τ.next])).length (.gr 1) := by
        rcases g2.2 with ⟨_, h1⟩ | ⟨K', h1, _⟩
        · exact absurd h1 (by simp [mps])
        · exact ⟨K', h1⟩
      have hn2 : τ.next + 2 ≤ ρ.next := by have := g3.2.2.1; simpa using this
      simp +decide only [↓evd, evw, evz, reduceCtorEq, ↓reduceIte, e3, e25, e26, e27, hlt', hKt, hcell]
      with_reducible refine draw_of_grow (fun q => q < τ.next) (ms := [false, false, false, false, false, false, false, false, true, false, false, true]) (by kernel_rfl) ?_
      simp +decide only [↓evd, evw, evz, reduceCtorEq, ↓reduceIte, e3, e25, e26, e27, hb, hc2lt]
      refine MSpec.of (clone_call hmt) ?_
      refine ⟨.inr (keeps_new (fun q hq => hq) _), ?_⟩
      simp +decide only [↓evd, evw, evz, reduceCtorEq, ↓reduceIte, e3, e25, e26, e27, hb, hc2lt]
      refine ⟨.inr (keeps_new (fun q hq => Nat.lt_succ_of_lt hq) _), ?_⟩
      simp +decide only [↓evd, evw, evz, reduceCtorEq, ↓reduceIte, e3, e25, e26, e27, hb, hc2lt, g1, hcr, hs]
      refine ⟨m - 1, by omega, i + 1, .slc (.new K') 0 (mps (ms' ++ [τ.next])).length (.gr 1), ms' ++ [τ.next], by omega, rfl, ?_⟩
      have hset : ∀ q, q ≠ σ.next + 1 + 1 → (ρ.set (σ.next + 1 + 1) (.cells [.slc (.new K') 0 (mps (ms' ++ [τ.next])).length (.gr 1), .int .i64 (R.floor : Nat), .mp (.new σ.next), .mp (.new (σ.next + 1))] none)).get q = ρ.get q := fun q hq => by rw [Heap.get_set, if_neg (fun e => hq e.symm)]
      refine ⟨?_, g2.set (fun K o n c e => by have := g2.low e; omega) _, by simp [hl], ?_, ?_, ?_, ?_, ?_, ?_, ?_, ?_⟩
      · first | rfl | trivial
      · intro j q s h1 h2
        by_cases hj : j < ms'.length
        · rw [List.getElem?_append_left hj] at h1
          have hq := List.mem_of_getElem? h1
          have := hlow q hq
          rw [if_neg (by omega), hold q (by omega) (fun K o n c e hh => hKm _ _ _ _ e (by subst hh; exact hq))]
          exact hmap j q s h1 h2
        · have hj2 : j = ms'.length := by have := (List.getElem?_eq_some_iff.1 h1).1; simp at this; omega
          subst hj2
          simp only [List.getElem?_concat_length, Option.some.injEq] at h1
          subst h1
          rw [hl, List.getElem?_eq_getElem hu, Option.some.injEq] at h2
          subst h2
          rw [if_neg (by omega), g8 _ (by omega) (fun K o n c e => by have := hUK e; omega), Heap.get_new, if_neg (by simp), Heap.get_new, if_pos rfl]
      · intro q hq
        try simp only [Heap.set_next]
        rcases List.mem_append.1 hq with hq | hq
        · have := hlow q hq; omega
        · simp only [List.mem_singleton] at hq; subst hq; omega
      · rw [List.nodup_append]
        refine ⟨hnd, by simp, fun a ha b hb => ?_⟩
        simp only [List.mem_singleton] at hb; subst hb
        have := hlow a ha; omega
      · intro K o n c e hm
        rcases g5 K o n c e with h1 | ⟨o', n', c', h1⟩
        · simp only [Heap.new_next] at h1
          rcases List.mem_append.1 hm with hm | hm
          · have := hlow K hm; omega
          · simp only [List.mem_singleton] at hm; omega
        · rcases List.mem_append.1 hm with hm | hm
          · exact hKm _ _ _ _ h1 hm
          · simp only [List.mem_singleton] at hm; have := hUK h1; omega
      · rw [if_neg (by omega), hold _ (by omega) (fun K o n c e => by have := hUK e; omega)]; exact hg
      · rw [if_neg (by omega), hold _ (by omega) (fun K o n c e => by have := hUK e; omega)]; exact hf
      · first | omega | (simp only [Heap.set_next]; omega)
      · refine ⟨g3.1.trans hkeep.1, g3.2.1.trans hkeep.2.1, by simp only [Heap.set_next]; omega, fun q hq _ => ?_⟩
        rw [hset q (by omega), hold q (by omega) (fun K o n c e => by have := hUK e; omega)]
        exact hkeep.2.2.2 q hq (by simp)
    · have hlt' : ¬ (i : Int) < (ms.length : Int) := by omega
      have hi2 : i = ms.length := by omega
      simp +decide only [↓evd, evw, evz, reduceCtorEq, ↓reduceIte, e3, e25, e26, e27, hlt']
      have h0 : ms' ≠ [] := by intro e; subst e; simp at hl; omega
      rcases hO.2 with ⟨_, h1⟩ | ⟨K', rfl, hK1, hK2, hK3⟩
      · exact absurd (by simpa [mps] using h1) h0
      · refine ⟨⟨_, ⟨K', .gr 1, ms', σ.next, σ.next + 1, ⟨?_, ⟨_, _, hK1, ?_, .inl ⟨rfl, rfl, ?_⟩⟩, by omega, hmap, hg, hf, ?_, ?_, h.ok, ?_⟩, rfl⟩, ?_⟩, hkeep⟩
        · rw [mps_len] at hb; exact hb
        · rw [mps_flat, List.take_of_length_le (by rw [mps_len]; exact Nat.le_refl _)]
        · rw [mps_flat, mps_len]
        · have a1 := hKm _ _ _ _ rfl
          have a2 : ∀ x, x < σ.next + 3 → x ∉ ms' := fun x hx hm => by have := hlow x hm; omega
          simp only [List.nodup_cons, List.mem_cons, not_or]
          exact ⟨⟨by omega, by omega, by omega, a2 _ (by omega)⟩, ⟨by omega, by omega, a1⟩, ⟨by omega, a2 _ (by omega)⟩, a2 _ (by omega), hnd⟩
        · intro x hx
          simp only [List.mem_cons] at hx
          rcases hx with rfl | rfl | rfl | rfl | hx
          · omega
          · exact hK3
          · omega
          · omega
          · exact (hlow x hx).2
        · rw [hkeep.2.1]; exact h.dr
        · intro x hx
          simp only [List.mem_cons] at hx
          rcases hx with rfl | rfl | rfl | rfl | hx
          · omega
          · omega
          · omega
          · omega
          · have := (hlow x hx).1; omega
  · refine ⟨0, .nils, [], by omega, ?_⟩
    simp +decide only [↓evd, evw, evz, reduceCtorEq, ↓reduceIte]
    refine ⟨Own.nil _ _ _ _, ?_⟩
    (repeat' (first | exact ((((Keep.refl [] σ).new _).new _).new _) | apply And.intro)) <;> first
      | (intro j q s h1; simp at h1; done)
      | (intro q hq; cases hq; done)
      | exact List.nodup_nil
      | (intro K o n c e; cases e; done)
      | omega
      | exact rfl
      | rfl
      | (rw [if_neg (by omega), if_neg (by omega)])
      | (rw [if_neg (by omega)])
      | (intro q hq _; rw [if_neg (by omega), if_neg (by omega), if_neg (by omega)])
      | exact (((Keep.refl [] σ).new _).new _).new _
end Go.Proofs.YtkjikdohnomajaaGreat.M
namespace Go.Proofs.YtkjikdohnomajaaGreat.M
open Go Go.Mini
noncomputable abbrev fgB : Code := (Tryz.f42.body).getD .skip
def un : Code → Code
  | .block _ c => c
  | .loop c => c
  | c => c
def fg0 : SCode := (.reg none [⟨some 4, .mv (.lit (.int .i64 0)), none, []⟩])
theorem fg0_c : cCode Tryz.prog 77 (sl (fgB)) = some fg0 := by kernel_rfl
def fg1 : SCode := (.reg none [⟨some 12, .mmap, none, []⟩,
 ⟨some 5, .mv (.tmp 12), none, [0, 0]⟩])
theorem fg1_c : cCode Tryz.prog 77 (sl (sr (fgB))) = some fg1 := by kernel_rfl
def fg2 : SCode := (.seq (.reg none [⟨some 13, .mv (.tmp 1), none, []⟩,
 ⟨some 14, .len (.tmp 13), none, [0]⟩,
 ⟨some 15, .mv (.lit (.int .i64 0)), none, []⟩])
(.block 0 (.loop (.seq (.reg none [⟨some 16, .bin .lss .int (.tmp 15) (.tmp 14), none, []⟩])
(.seq (.cond (.tmp 16) .skip (.exit 0))
(.seq (.block 1 (.seq (.reg none [⟨some 17, .idxA 1 (.tmp 13) (.tmp 15), none, []⟩,
 ⟨some 18, .load none (.tmp 17), none, [0]⟩,
 ⟨some 7, .mv (.tmp 18), none, [1, 0, 1]⟩])
(.seq (.seq (.reg none [⟨some 20, .mv (.tmp 5), none, []⟩,
 ⟨some 21, .mv (.tmp 7), none, []⟩,
 ⟨some 22, .look (.agg []) true (.tmp 20) (.tmp 21), none, [0, 1]⟩,
 ⟨some 19, .mv (.tmp 22), none, [2]⟩,
 ⟨some 23, .ext (.tmp 19) 0, none, [3]⟩,
 ⟨some 24, .ext (.tmp 19) 1, none, [3]⟩,
 ⟨some 8, .alloc [], none, []⟩,
 ⟨none, .store 0 (.tmp 8) (.tmp 23), none, [6, 4, 0, 1, 2, 3, 4, 6]⟩,
 ⟨some 9, .mv (.tmp 24), none, [5, 7, 0, 1, 2, 3, 4, 5, 6, 7]⟩])
(.seq (.reg none [⟨some 25, .mv (.tmp 9), none, []⟩,
 ⟨some 26, .mv (.tmp 25), none, [0]⟩,
 ⟨some 27, .mv (.tmp 0), some (26, false), [1]⟩,
 ⟨some 28, .mv (.tmp 7), some (26, false), [1]⟩,
 ⟨some 29, .call (.lit (.fn 87 [])) [(.tmp 27), (.tmp 28)], some (26, false), [2, 3, 1, 1]⟩,
 ⟨some 30, .not (.tmp 29), some (26, false), [4, 1]⟩,
 ⟨some 31, .pick (.tmp 26) (.lit (.bool true)) (.tmp 30), none, [1, 5]⟩])
(.cond (.tmp 31) (.seq (.reg none [⟨some 4, .mv (.lit (.int .i64 210)), none, []⟩])
.ret) .skip)))
(.reg none [⟨some 32, .mv (.tmp 5), none, []⟩,
 ⟨some 33, .mv (.tmp 7), none, []⟩,
 ⟨some 34, .build [] [], none, []⟩,
 ⟨none, .mapUp (.tmp 32) (.tmp 33) (.tmp 34), none, [0, 1, 2, 0, 1, 2]⟩]))))
(.reg none [⟨some 35, .bin .add .int (.tmp 15) (.lit (.int .i64 1)), none, []⟩,
 ⟨some 15, .mv (.tmp 35), none, [0]⟩])))))))
theorem fg2_c : cCode Tryz.prog 77 (sl (sr (sr (fgB)))) = some fg2 := by kernel_rfl
def fg3 : SCode := (.reg (some [0, 1, 3, 7, 0, 16, 48, 112, 240, 496, 1023, 2047, 4095]) [⟨some 36, .mv (.tmp 0), none, []⟩,
 ⟨some 37, .nilc (.tmp 36), none, [0]⟩,
 ⟨some 38, .fldA 0 (.tmp 37), none, [1]⟩,
 ⟨some 39, .load none (.tmp 38), none, [2]⟩,
 ⟨some 40, .mv (.tmp 0), none, []⟩,
 ⟨some 41, .nilc (.tmp 40), none, [4]⟩,
 ⟨some 42, .fldA 0 (.tmp 41), none, [5]⟩,
 ⟨some 43, .load none (.tmp 42), none, [6]⟩,
 ⟨some 44, .len (.tmp 43), none, [7]⟩,
 ⟨some 45, .bin .sub .int (.tmp 44) (.lit (.int .i64 1)), none, [8]⟩,
 ⟨some 46, .idxA 1 (.tmp 39) (.tmp 45), none, [3, 9]⟩,
 ⟨some 47, .load none (.tmp 46), none, [10]⟩,
 ⟨some 10, .mv (.tmp 47), none, [11, 0, 1, 2, 3, 4, 5, 6, 7, 8, 9, 10, 11]⟩])
theorem fg3_c : cCode Tryz.prog 77 (sl (sr (sr (sr (fgB))))) = some fg3 := by kernel_rfl
def fg4 : SCode := (.reg none [⟨some 48, .mv (.tmp 0), none, []⟩,
 ⟨some 49, .mv (.tmp 0), none, []⟩,
 ⟨some 50, .call (.lit (.fn 38 [])) [(.tmp 49)], none, [1]⟩,
 ⟨some 51, .nilc (.tmp 48), none, [0, 0, 1, 2]⟩,
 ⟨some 52, .fldA 1 (.tmp 51), none, [3, 0, 1, 2]⟩,
 ⟨none, .store 1 (.tmp 52) (.tmp 50), none, [4, 2, 2, 0, 1, 2]⟩])
theorem fg4_c : cCode Tryz.prog 77 (sl (sr (sr (sr (sr (fgB)))))) = some fg4 := by kernel_rfl
def fg5 : SCode := (.reg none [⟨some 53, .mv (.tmp 0), none, []⟩,
 ⟨some 54, .mv (.tmp 10), none, []⟩,
 ⟨some 55, .bslc 1 [(.raw (.map none))] 1 [(0, 1, (.tmp 54))], none, [1]⟩,
 ⟨some 56, .nilc (.tmp 53), none, [0, 0, 1, 2]⟩,
 ⟨some 57, .fldA 0 (.tmp 56), none, [3, 0, 1, 2]⟩,
 ⟨none, .store 1 (.tmp 57) (.tmp 55), none, [4, 2, 0, 1, 2]⟩])
theorem fg5_c : cCode Tryz.prog 77 (sl (sr (sr (sr (sr (sr (fgB))))))) = some fg5 := by kernel_rfl
noncomputable abbrev fgM : Code := sl (sr (sr (sr (sr (sr (sr (fgB)))))))
noncomputable abbrev fgT : Code := sr (sr (sr (sr (sr (sr (sr (fgB)))))))
def fgt : SCode := (.seq (.reg none [⟨some 4, .mv (.lit (.int .i64 0)), none, []⟩])
.ret)
theorem fgt_c : cCode Tryz.prog 77 fgT = some fgt := by kernel_rfl
def fgr : SCode := (.seq (.reg none [⟨some 64, .mv (.tmp 10), none, []⟩,
 ⟨some 65, .mv (.tmp 11), none, []⟩,
 ⟨none, .del (.tmp 64) (.tmp 65), none, [0, 1]⟩])
(.seq (.reg none [⟨some 66, .mv (.tmp 0), none, []⟩,
 ⟨some 67, .nilc (.tmp 66), none, [0]⟩,
 ⟨some 68, .fldA 2 (.tmp 67), none, [1]⟩,
 ⟨some 69, .load none (.tmp 68), none, [2]⟩,
 ⟨some 70, .mv (.tmp 11), none, []⟩,
 ⟨none, .del (.tmp 69) (.tmp 70), none, [3, 4]⟩])
(.reg none [⟨some 71, .mv (.tmp 0), none, []⟩,
 ⟨some 72, .nilc (.tmp 71), none, [0]⟩,
 ⟨some 73, .fldA 3 (.tmp 72), none, [1]⟩,
 ⟨some 74, .load none (.tmp 73), none, [2]⟩,
 ⟨some 75, .mv (.tmp 11), none, []⟩,
 ⟨some 76, .build [] [], none, []⟩,
 ⟨none, .mapUp (.tmp 74) (.tmp 75) (.tmp 76), none, [3, 4, 5, 0, 1, 2, 3, 4, 5]⟩])))
theorem fgr_c : cCode Tryz.prog 77 (sr (un (sr (sr (un (un (sr fgM))))))) = some fgr := by kernel_rfl
theorem fg_shape : fgB = .seq (sl (fgB)) (.seq (sl (sr (fgB))) (.seq (sl (sr (sr (fgB)))) (.seq (sl (sr (sr (sr (fgB))))) (.seq (sl (sr (sr (sr (sr (fgB)))))) (.seq (sl (sr (sr (sr (sr (sr (fgB))))))) (.seq fgM fgT)))))) := by kernel_rfl
theorem fg_fn : Tryz.prog.funcs[n_rev_Revs_Forget]? = some Tryz.f42 := Tryz.func42
theorem fg_body : Tryz.f42.body = some fgB := rfl
theorem fg_res : cRes Tryz.prog Tryz.f42.ntmps Tryz.f42.results.toList = some [.tmp 4] := by kernel_rfl
noncomputable abbrev fgF : Func := Tryz.f42
theorem fg_n : fgF.ntmps = 77 := rfl
theorem fg_name : (fgF.name == "runtime.NumGoroutine") = false := by kernel_rfl
theorem fg_set : Tryz.prog.underlying 112 = some (.map 3 122) := by kernel_rfl
end Go.Proofs.YtkjikdohnomajaaGreat.M
namespace Go.Proofs.YtkjikdohnomajaaGreat.M
open Go Go.Mini
attribute [local congr] go1_congr goM_congr goG_congr goV_congr drawwp_congr
def delAll (s ks : List Int) : List Int := s.filter fun x => decide (x ∉ ks)
def goneAll (s ks : List Int) : List Int := ks.foldr insS s
def Good (R : Revs) (l : List Int) : Prop := l.Nodup ∧ ∀ g ∈ l, g ∈ R.grp
instance (R : Revs) (l : List Int) : Decidable (Good R l) := inferInstanceAs (Decidable (_ ∧ _))
def forgetR (R : Revs) (l : List Int) : Revs × Int := if Good R l then (⟨[delAll R.top l], R.head, delAll R.grp l, goneAll R.gone l⟩, 0) else (R, 210)
theorem mem_goneAll {s : List Int} {x : Int} : ∀ {ks : List Int}, x ∈ goneAll s ks ↔ x ∈ ks ∨ x ∈ s
  | [] => by simp [goneAll]
  | k :: ks => by
    have := mem_goneAll (s := s) (x := x) (ks := ks)
    simp only [goneAll, List.foldr_cons, mem_insS, List.mem_cons] at this ⊢
    rw [this, or_assoc]
theorem Rise.delAll {s : List Int} (h : Rise s) (ks : List Int) : Rise (delAll s ks) := ⟨h.1.sublist List.filter_sublist, fun g hg => h.2 g (List.mem_filter.1 hg).1⟩
theorem mem_delAll {s ks : List Int} {x : Int} : x ∈ delAll s ks ↔ x ∈ s ∧ x ∉ ks := by simp [delAll, List.mem_filter]
theorem Rise.goneAll {s : List Int} (h : Rise s) : ∀ {ks : List Int}, (∀ g ∈ ks, 0 ≤ g ∧ g < 60) → Rise (goneAll s ks)
  | [], _ => h
  | k :: ks, hk => by
    have := Rise.goneAll h (ks := ks) fun g hg => hk g (List.mem_cons_of_mem _ hg)
    exact this.ins (hk k (List.mem_cons_self ..)).1 (hk k (List.mem_cons_self ..)).2
theorem delAll_cons {s ks : List Int} (hs : Rise s) (g : Int) : delAll s (g :: ks) = (delAll s ks).erase g := by
  refine rise_ext (hs.delAll _) ((hs.delAll _).erase g) fun x => ?_
  rw [(hs.delAll ks).mem_erase, mem_delAll, mem_delAll, List.mem_cons, not_or]
  constructor
  · rintro ⟨h1, h2, h3⟩; exact ⟨h2, h1, h3⟩
  · rintro ⟨h2, h1, h3⟩; exact ⟨h1, h2, h3⟩
theorem delAll_nil (s : List Int) : delAll s [] = s := by simp [delAll]
theorem RevsAt.keep0 {σ τ : Heap} {k : Nat} {R : Revs} {K : Nat} {cap : Cap} {ms : List Nat} {mg mf : Nat} (h : RevsAt σ k R K cap ms mg mf) (hk : Keep [] σ τ) : RevsAt τ k R K cap ms mg mf :=
  h.at hk.2.2.1 hk.2.1 fun q hq => hk.2.2.2 q (h.low q hq) (by simp)
set_option maxHeartbeats 1000000 in
theorem fg_pre {σ : Heap} {k : Nat} {R : Revs} {K : Nat} {cap : Cap} {ms : List Nat} {mg mf : Nat} (h : RevsAt σ k R K cap ms mg mf) (l : List Int) (hl : l.length ≤ 1000000) {m : Nat} (hm : ms[ms.length - 1]? = some m) :
    awp Tryz.prog (.seq fg0 (.seq fg1 (.seq fg2 (.seq fg3 (.seq fg4 fg5))))) (fun e fr τ => (e = .ret ∧ ¬ Good R l ∧ fr.get 4 = .int .i64 210 ∧ Keep [] σ τ) ∨
      (e = .normal ∧ Good R l ∧ fr.get 0 = .ptr (.new k) 0 ∧ fr.get 10 = .mp (.new m) ∧ fr.get 5 = .mp (.new σ.next) ∧ (∃ acc, τ.get σ.next = some (.map (uents acc)) ∧ ∀ x, x ∈ acc ↔ x ∈ l) ∧
        (∃ K2, τ.get k = some (.cells [.slc (.new K2) 0 1 (.ex 1), .int .i64 (R.head : Nat), .mp (.new mg), .mp (.new mf)] none) ∧ τ.get K2 = some (.cells [.mp (.new m)] none) ∧ σ.next < K2 ∧ K2 < τ.next) ∧ Keep [k] σ τ))
      (Frame.ofArgs 0 [.ptr (.new k) 0, ints l]) σ := by
  unfold fg0 fg1 fg2 fg3 fg4 fg5
  simp +decide only [↓evd, evw, evz, reduceCtorEq, ↓reduceIte]
  refine awp_loop (fun q fr τ => ∃ i acc, q + i = l.length ∧ fr.get 0 = .ptr (.new k) 0 ∧ fr.get 5 = .mp (.new σ.next) ∧ fr.get 13 = ints l ∧ fr.get 14 = .int .i64 (l.length : Nat) ∧ fr.get 15 = .int .i64 (i : Nat) ∧ τ.get σ.next = some (.map (uents acc)) ∧
    (∀ x, x ∈ acc ↔ x ∈ l.take i) ∧ (l.take i).Nodup ∧ (∀ x ∈ l.take i, x ∈ R.grp) ∧ σ.next < τ.next ∧ Keep [] σ τ) ?_ (m := l.length) ?_
  · rintro q fr τ ⟨i, acc, hi, e0, e5, e13, e14, e15, hacc, hmem, hnd, hgr, hn, hkeep⟩
    have hA := h.keep0 hkeep
    by_cases hlt : i < l.length
    · have hlt' : (i : Int) < (l.length : Int) := by omega
      have hg := map_get (AVal.int .i64 ·) l i hlt
      have hs := wrap_succ (i := i) (by omega)
      have htk := List.take_succ_eq_append_getElem hlt
      have hbadm : l[i] ∈ l.take i → ¬ Good R l := fun hm hg => by
        have h1 : (l.take (i + 1)).Nodup := hg.1.sublist (List.take_sublist _ _)
        rw [htk, List.nodup_append] at h1
        exact h1.2.2 _ hm _ (by simp) rfl
      have hbadg : l[i] ∉ R.grp → ¬ Good R l := fun hm hg => hm (hg.2 _ (List.getElem_mem hlt))
      generalize l[i] = g at hg htk hbadm hbadg
      by_cases h1 : g ∈ acc
      · simp +decide only [↓evd, evw, evz, reduceCtorEq, ↓reduceIte, e0, e5, e13, e14, e15, hlt', hg, look_set (g := g) hacc, mem_bool h1]
        refine .inl ⟨hbadm ((hmem g).1 h1), ?_⟩
        exact hkeep.junk _ _
      have hAj := hA.junk (.cells [] none) (.cells [] none)
      have hlow : σ.next < τ.next := hn
      by_cases h2 : g ∈ R.grp
      case neg =>
        simp +decide only [↓evd, evw, evz, reduceCtorEq, ↓reduceIte, e0, e5, e13, e14, e15, hlt', hg, look_set (g := g) hacc, not_mem_bool h1]
        refine MSpec.of (has_call hAj g) ?_
        simp +decide only [↓evd, evw, evz, reduceCtorEq, ↓reduceIte, not_mem_bool h2]
        refine .inl ⟨hbadg h2, ?_⟩
        exact hkeep.junk _ _
      simp +decide only [↓evd, evw, evz, reduceCtorEq, ↓reduceIte, e0, e5, e13, e14, e15, hlt', hg, look_set (g := g) hacc, not_mem_bool h1]
      refine MSpec.of (has_call hAj g) ?_
      simp +decide only [↓evd, evw, evz, reduceCtorEq, ↓reduceIte, mem_bool h2, e0, e5, e13, e14, e15, hlow, hacc, hs]
      refine ⟨q - 1, by omega, i + 1, insS g acc, by omega, rfl, rfl, ?_, ?_, ?_, by omega, ?_⟩
      · intro x; rw [mem_insS, htk, List.mem_append, List.mem_singleton, hmem x]; exact or_comm
      · rw [htk, List.nodup_append]
        refine ⟨hnd, by simp, fun a ha b hb => ?_⟩
        simp only [List.mem_singleton] at hb; subst hb
        intro e; subst e; exact h1 ((hmem a).2 ha)
      · intro x hx; rw [htk] at hx
        rcases List.mem_append.1 hx with hx | hx
        · exact hgr x hx
        · simp only [List.mem_singleton] at hx; subst hx; exact h2
      · exact (hkeep.junk _ _).set (.inr (Nat.le_refl _)) _
    · have hlt' : ¬ (i : Int) < (l.length : Int) := by omega
      have hil : l.take i = l := List.take_of_length_le (by omega)
      rw [hil] at hmem hnd hgr
      have hk := hA.blk
      have hp := hA.pos
      have hcell := hA.row.cell hm
      obtain ⟨cs, opn, hc1, hc2, hc3⟩ := hA.row
      clear hc3
      simp only [Heap.cell, hc1] at hcell
      have hw : IntKind.i64.wrap ((ms.length : Int) - 1) = ((ms.length - 1 : Nat) : Int) := by rw [wrap_id (by omega) (by omega)]; omega
      have hltn : ((ms.length - 1 : Nat) : Int) < (ms.length : Int) := by omega
      have hkl := hA.low k (by simp)
      have hkl0 := h.low k (by simp)
      have hks : (k = σ.next) = False := eq_false (by omega)
      have hkt : (k = τ.next) = False := eq_false (by omega)
      simp +decide only [↓evd, evw, evz, reduceCtorEq, ↓reduceIte, e0, e5, e13, e14, e15, hlt']
      with_reducible refine draw_of_grow (fun _ => True) (ms := [false, false, false, false, false, false, false, false, false, false, false, false, false]) (by kernel_rfl) ?_
      simp +decide only [↓evd, evw, evz, reduceCtorEq, ↓reduceIte, e0, e5, e13, e14, e15, hk, hw, hltn, hc1, hcell]
      refine MSpec.of (head_call hA) ?_
      simp +decide only [↓evd, evw, evz, reduceCtorEq, ↓reduceIte, hk, e0, e5, hkl, hks]
      refine ⟨⟨hnd, hgr⟩, ⟨acc, ?_, hmem⟩, ⟨τ.next, ?_, ?_, hn, ?_⟩, ?_⟩
      · rw [if_neg (by omega)]; exact hacc
      · rfl
      · rw [if_neg (by omega), if_pos rfl]
      · omega
      · refine ((hkeep.mono (fun x hx => by cases hx)).set (.inl (by simp)) _).new _ |>.set (.inl (by simp)) _
  · refine ⟨0, [], by omega, ?_⟩
    simp +decide only [↓evd, evw, evz, reduceCtorEq, ↓reduceIte]
    (repeat' (first | exact (Keep.refl [] σ).new _ | apply And.intro)) <;> first | rfl | omega | (intro x; simp; done) | (intro x hx; simp at hx; done) | (simp; done)
theorem fg_six {Q : SExit → Mini.Frame → Heap → Prop} {R : Exit → Act → World → Prop} {φ : Phi} {fr : Mini.Frame} {σ : Heap} {a : Act} {w : World} (hf : FR φ 77 fr a) (hr : Rel φ σ w)
    (h : awp Tryz.prog (.seq fg0 (.seq fg1 (.seq fg2 (.seq fg3 (.seq fg4 fg5))))) Q fr σ)
    (hN : ∀ (φ' : Phi) fr' σ' a' w', φ.le φ' → FR φ' 77 fr' a' → Rel φ' σ' w' → Q .normal fr' σ' → (Code.seq fgM fgT).wp Tryz.prog R a' w')
    (hR : ∀ (φ' : Phi) fr' σ' a' w', φ.le φ' → FR φ' 77 fr' a' → Rel φ' σ' w' → Q .ret fr' σ' → R .ret a' w') (hX : ∀ id fr' σ', ¬ Q (.exit id) fr' σ') : fgB.wp Tryz.prog R a w := by
  have hz : ∀ {φ1 : Phi}, φ.le φ1 → ∀ (φ' : Phi) fr' σ' a' w', φ1.le φ' → FR φ' 77 fr' a' → Rel φ' σ' w' → (Q .ret fr' σ' → R .ret a' w') ∧ ∀ id, Q (.exit id) fr' σ' → R (.exit id) a' w' :=
    fun h1 φ' fr' σ' a' w' h2 h3 h4 => ⟨hR φ' fr' σ' a' w' (Phi.le_trans h1 h2) h3 h4, fun id hq => (hX _ _ _ hq).elim⟩
  rw [fg_shape]
  refine wp_first mixed fg0_c hf hr (K := awp Tryz.prog (.seq fg1 (.seq fg2 (.seq fg3 (.seq fg4 fg5)))) Q) (Z := Q) h ?_ (hz (Phi.le_refl _))
  intro φ1 f1 s1 a1 w1 l1 hf1 hr1 h1
  refine wp_first mixed fg1_c hf1 hr1 (K := awp Tryz.prog (.seq fg2 (.seq fg3 (.seq fg4 fg5))) Q) (Z := Q) h1 ?_ (hz l1)
  intro φ2 f2 s2 a2 w2 l2 hf2 hr2 h2
  have l2 := Phi.le_trans l1 l2
  refine wp_first mixed fg2_c hf2 hr2 (K := awp Tryz.prog (.seq fg3 (.seq fg4 fg5)) Q) (Z := Q) h2 ?_ (hz l2)
  intro φ3 f3 s3 a3 w3 l3 hf3 hr3 h3
  have l3 := Phi.le_trans l2 l3
  refine wp_first mixed fg3_c hf3 hr3 (K := awp Tryz.prog (.seq fg4 fg5) Q) (Z := Q) h3 ?_ (hz l3)
  intro φ4 f4 s4 a4 w4 l4 hf4 hr4 h4
  have l4 := Phi.le_trans l3 l4
  refine wp_first mixed fg4_c hf4 hr4 (K := awp Tryz.prog fg5 Q) (Z := Q) h4 ?_ (hz l4)
  intro φ5 f5 s5 a5 w5 l5 hf5 hr5 h5
  have l5 := Phi.le_trans l4 l5
  have h5' : awp Tryz.prog fg5 (thn (Q .normal) Q) f5 s5 := awp_mono h5 fun e f s hq => by cases e <;> exact hq
  refine wp_first mixed fg5_c hf5 hr5 (K := Q .normal) (Z := Q) h5' ?_ (hz l5)
  intro φ6 f6 s6 a6 w6 l6 hf6 hr6 h6
  exact hN φ6 f6 s6 a6 w6 (Phi.le_trans l5 l6) hf6 hr6 h6
structure FgI (σ1 : Heap) (k m mg mf sn : Nat) (R : Revs) (ks : List Int) (fr : Mini.Frame) (τ : Heap) : Prop where
  f0 : fr.get 0 = .ptr (.new k) 0
  f10 : fr.get 10 = .mp (.new m)
  W : τ.W = σ1.W
  F : τ.F0 = σ1.F0
  next : τ.next = σ1.next + 1
  top : τ.get m = some (.map (uents (delAll R.top ks)))
  grp : τ.get mg = some (.map (uents (delAll R.grp ks)))
  gone : τ.get mf = some (.map (uents (goneAll R.gone ks)))
  rest : ∀ q, q ≠ m → q ≠ mg → q ≠ mf → q ≠ sn → q ≠ σ1.next → τ.get q = σ1.get q
set_option maxHeartbeats 1000000 in
theorem forget_spec {σ : Heap} {k : Nat} {R : Revs} {fp : List Nat} (h : IsRevs σ k R fp) (l : List Int) (hl : l.length ≤ 1000000) :
    MSpec Tryz.prog n_rev_Revs_Forget [.ptr (.new k) 0, ints l] σ fun v τ => v = .int .i64 (forgetR R l).2 ∧ ∃ fp', IsRevs τ k (forgetR R l).1 fp' ∧ Keep fp σ τ ∧ Fresh fp σ fp' := by
  obtain ⟨K, cap, ms, mg, mf, h, rfl⟩ := h
  obtain ⟨m, hm1, hm2, hm3⟩ := h.last
  obtain ⟨e, fr1, σ1, hQ, hO⟩ := awp_out _ _ _ _ (fg_pre h l hl hm1)
  rcases hQ with ⟨rfl, hg, h4, hk⟩ | ⟨rfl, hg, h0, h10, h5, ⟨acc, hacc, hmem⟩, ⟨K2, hb, hK, hK1, hK2⟩, hk⟩
  · have hf : forgetR R l = (R, 210) := by simp only [forgetR, if_neg hg]
    rw [hf]
    refine ⟨.int .i64 210, σ1, acall_of_afun (afun_of_wp fg_fn fg_body fg_res (by rw [fg_n]; exact Nat.le_of_ble_eq_true rfl) ?_) ⟨_, fg_fn, by rw [fg_body]; rfl, fg_name⟩, rfl, _, ⟨K, cap, ms, mg, mf, h.keep0 hk, rfl⟩, hk.mono (fun x hx => by cases hx), fun x hx => .inl hx⟩
    intro φ a w hfr hr
    refine fg_six hfr hr (hO (fun e f s => e = .ret ∧ f = fr1 ∧ s = σ1) ⟨rfl, rfl, rfl⟩) (fun _ _ _ _ _ _ _ _ hq => by cases hq.1) ?_ (fun _ _ _ hq => by cases hq.1)
    rintro φ' fr' σ' a' w' hle hf' hr' ⟨_, rfl, rfl⟩
    exact ⟨.inr rfl, φ', _, hle, hf', hr', by simp only [resOf, rvals, Option.map_some, h4]⟩
  · have hf : forgetR R l = (⟨[delAll R.top l], R.head, delAll R.grp l, goneAll R.gone l⟩, 0) := by simp only [forgetR, if_pos hg]
    rw [hf]
    have hnd := h.nodup
    simp only [List.nodup_cons, List.mem_cons, not_or] at hnd
    have hmm : m ∈ ms := List.mem_of_getElem? hm1
    have hkl := h.low k (by simp)
    have hml := h.low m (by simp [hmm])
    have hgl := h.low mg (by simp)
    have hfl := h.low mf (by simp)
    have hmk : m ≠ k := fun e => hnd.1.2.2.2 (e ▸ hmm)
    have hgk : mg ≠ k := fun e => hnd.1.2.1 e.symm
    have hfk : mf ≠ k := fun e => hnd.1.2.2.1 e.symm
    have hmg : m ≠ mg := fun e => hnd.2.2.1.2 (e ▸ hmm)
    have hmf : m ≠ mf := fun e => hnd.2.2.2.1 (e ▸ hmm)
    have hgf : mg ≠ mf := fun e => hnd.2.2.1.1 e
    have o1 : σ1.get m = some (.map (uents R.top)) := by rw [hk.2.2.2 m hml (by simp [hmk])]; exact hm2
    have o2 : σ1.get mg = some (.map (uents R.grp)) := by rw [hk.2.2.2 mg hgl (by simp [hgk])]; exact h.grp
    have o3 : σ1.get mf = some (.map (uents R.gone)) := by rw [hk.2.2.2 mf hfl (by simp [hfk])]; exact h.gone
    have hrt : Rise R.top := h.ok.rise _ (List.mem_of_getElem? hm3)
    let σF : Heap := ((((σ1.set σ.next .dead).new .dead).set m (.map (uents (delAll R.top l)))).set mg (.map (uents (delAll R.grp l)))).set mf (.map (uents (goneAll R.gone l)))
    have hFm : σF.get m = some (.map (uents (delAll R.top l))) := by
      show (Heap.set (Heap.set (Heap.set _ _ _) _ _) _ _).get m = _
      rw [Heap.get_set, if_neg (fun e => hmf e.symm), Heap.get_set, if_neg (fun e => hmg e.symm), Heap.get_set, if_pos rfl]
    have hFg : σF.get mg = some (.map (uents (delAll R.grp l))) := by
      show (Heap.set (Heap.set (Heap.set _ _ _) _ _) _ _).get mg = _
      rw [Heap.get_set, if_neg (fun e => hgf e.symm), Heap.get_set, if_pos rfl]
    have hFf : σF.get mf = some (.map (uents (goneAll R.gone l))) := by
      show (Heap.set (Heap.set (Heap.set _ _ _) _ _) _ _).get mf = _
      rw [Heap.get_set, if_pos rfl]
    have hFq : ∀ q, q ≠ m → q ≠ mg → q ≠ mf → σF.get q = if σ1.next = q then some .dead else if σ.next = q then some .dead else σ1.get q := by
      intro q a1 a2 a3
      show (Heap.set (Heap.set (Heap.set _ _ _) _ _) _ _).get q = _
      rw [Heap.get_set, if_neg (fun e => a3 e.symm), Heap.get_set, if_neg (fun e => a2 e.symm), Heap.get_set, if_neg (fun e => a1 e.symm), Heap.get_new, Heap.get_set]
      rfl
    have hFn : σF.next = σ1.next + 1 := rfl
    have hkeepF : Keep (k :: K :: mg :: mf :: ms) σ σF := by
      have a1 := hk.mono (fp' := k :: K :: mg :: mf :: ms) (fun x hx _ => by simp only [List.mem_cons, List.not_mem_nil, or_false] at hx; subst hx; simp)
      exact ((((a1.set (.inr (Nat.le_refl _)) _).new _).set (.inl (by simp [hmm])) _).set (.inl (by simp)) _).set (.inl (by simp)) _
    refine ⟨.int .i64 0, σF, acall_of_afun (afun_of_wp fg_fn fg_body fg_res (by rw [fg_n]; exact Nat.le_of_ble_eq_true rfl) ?_) ⟨_, fg_fn, by rw [fg_body]; rfl, fg_name⟩, rfl, _, ⟨K2, .ex 1, [m], mg, mf, ?_, rfl⟩, hkeepF, ?_⟩
    · intro φ a w hfr hr
      refine fg_six hfr hr (hO (fun e f s => e = .normal ∧ f = fr1 ∧ s = σ1) ⟨rfl, rfl, rfl⟩) ?_ (fun _ _ _ _ _ _ _ _ hq => by cases hq.1) (fun _ _ _ hq => by cases hq.1)
      rintro φ1 fr' σ' a1 w1 hle hf1 hr1 ⟨_, rfl, rfl⟩
      refine wp_seq (mapRange mixed fgr_c fg_set (by decide) (by decide) hf1 hr1 h5 hacc (FgI σ' k m mg mf σ.next R) (by omega) ?_ ?_ ?_ ?_ ?_)
      · intro ks fr τ t v ht hI
        have h1 : t ≠ 0 ∧ t ≠ 10 := by rcases ht with rfl | rfl | rfl | rfl | rfl | rfl | rfl <;> exact ⟨by decide, by decide⟩
        exact { hI with f0 := by rw [Frame.get_put, if_neg h1.1]; exact hI.f0, f10 := by rw [Frame.get_put, if_neg h1.2]; exact hI.f10 }
      · intro ks fr τ b hI
        exact { hI with
          top := by rw [Heap.get_set, if_neg (by omega)]; exact hI.top
          grp := by rw [Heap.get_set, if_neg (by omega)]; exact hI.grp
          gone := by rw [Heap.get_set, if_neg (by omega)]; exact hI.gone
          rest := fun q a1 a2 a3 a4 a5 => by rw [Heap.get_set, if_neg (fun e => a5 e.symm)]; exact hI.rest q a1 a2 a3 a4 a5 }
      · intro b1 b2
        have hq : ∀ q, q ≠ σ.next → q ≠ σ'.next → ((σ'.set σ.next b1).new b2).get q = σ'.get q := fun q a1 a2 => by
          rw [Heap.get_new, if_neg (fun e => a2 e.symm), Heap.get_set, if_neg (fun e => a1 e.symm)]
        exact ⟨h0, h10, rfl, rfl, rfl, by rw [hq m (by omega) (by omega), delAll_nil]; exact o1, by rw [hq mg (by omega) (by omega), delAll_nil]; exact o2, by rw [hq mf (by omega) (by omega)]; exact o3, fun q _ _ _ a4 a5 => hq q a4 a5⟩
      · intro ks g fr τ hni hin hI hA
        have i1 := hI.top
        have i2 := hI.grp
        have i3 := hI.gone
        have i0 := hI.f0
        have i10 := hI.f10
        have hkm' : k ≠ m := fun e => hmk e.symm
        have hkg' : k ≠ mg := fun e => hgk e.symm
        have hkf' : k ≠ mf := fun e => hfk e.symm
        have hkb : τ.get k = some (.cells [.slc (.new K2) 0 1 (.ex 1), .int .i64 (R.head : Nat), .mp (.new mg), .mp (.new mf)] none) := by
          rw [hI.rest k hkm' hkg' hkf' (by omega) (by omega)]; exact hb
        unfold fgr
        simp +decide only [↓evd, evw, evz, reduceCtorEq, ↓reduceIte, i0, i10, hA, i1, i2, i3, hkb, hmg, hmf, hgf, hmk, hgk, hfk]
        have e1 := delAll_cons (ks := ks) hrt g
        have e2 := delAll_cons (ks := ks) h.ok.grp g
        refine ⟨⟨by simp +decide only [↓evd, evw, evz, reduceCtorEq, ↓reduceIte, i0], by simp +decide only [↓evd, evw, evz, reduceCtorEq, ↓reduceIte, i10], hI.W, hI.F, hI.next, ?_, ?_, ?_, ?_⟩, ?_, ?_⟩
        · rw [Heap.get_set, if_neg (fun e => hmf e.symm), Heap.get_set, if_neg (fun e => hmg e.symm), Heap.get_set, if_pos rfl, e1]
        · rw [Heap.get_set, if_neg (fun e => hgf e.symm), Heap.get_set, if_pos rfl, e2]
        · rw [Heap.get_set, if_pos rfl]; rfl
        · intro q a1 a2 a3 a4 a5
          rw [Heap.get_set, if_neg (fun e => a3 e.symm), Heap.get_set, if_neg (fun e => a2 e.symm), Heap.get_set, if_neg (fun e => a1 e.symm)]
          exact hI.rest q a1 a2 a3 a4 a5
        · rw [if_neg (by omega), if_neg (by omega), if_neg (by omega)]
        · rw [if_neg (by omega), if_neg (by omega), if_neg (by omega)]
      · intro φ' fr τ a' w' ks hle' hf' hr' hI hks
        have hkl' : ∀ x, x ∈ ks ↔ x ∈ l := fun x => by
          rw [hks x]
          simp only [uents, List.map_map, List.mem_map, Function.comp_apply]
          constructor
          · rintro ⟨g, hg1, rfl⟩; exact (hmem g).1 hg1
          · intro hx; exact ⟨x, (hmem x).2 hx, rfl⟩
        have hlr : ∀ g ∈ l, 0 ≤ g ∧ g < 60 := fun g hgl => h.ok.grp.2 g (hg.2 g hgl)
        have e1 : delAll R.top ks = delAll R.top l := rise_ext (hrt.delAll _) (hrt.delAll _) fun x => by rw [mem_delAll, mem_delAll, hkl' x]
        have e2 : delAll R.grp ks = delAll R.grp l := rise_ext (h.ok.grp.delAll _) (h.ok.grp.delAll _) fun x => by rw [mem_delAll, mem_delAll, hkl' x]
        have e3 : goneAll R.gone ks = goneAll R.gone l := rise_ext (h.ok.gone.goneAll fun g hg' => hlr g ((hkl' g).1 hg')) (h.ok.gone.goneAll hlr) fun x => by rw [mem_goneAll, mem_goneAll, hkl' x]
        have hr2 : Rel φ' σF w' := by
          refine ((hr'.kill σ.next).kill σ'.next).congr hI.W.symm hI.F.symm (by show σ'.next + 1 = τ.next; rw [hI.next]) fun q => ?_
          by_cases q1 : q = m
          · subst q1; rw [hFm, Heap.get_set, if_neg (by omega), Heap.get_set, if_neg (by omega), hI.top, e1]
          by_cases q2 : q = mg
          · subst q2; rw [hFg, Heap.get_set, if_neg (by omega), Heap.get_set, if_neg (by omega), hI.grp, e2]
          by_cases q3 : q = mf
          · subst q3; rw [hFf, Heap.get_set, if_neg (by omega), Heap.get_set, if_neg (by omega), hI.gone, e3]
          rw [hFq q q1 q2 q3, Heap.get_set, Heap.get_set]
          by_cases q4 : σ'.next = q
          · rw [if_pos q4, if_pos q4]
          · rw [if_neg q4, if_neg q4]
            by_cases q5 : σ.next = q
            · rw [if_pos q5, if_pos q5]
            · rw [if_neg q5, if_neg q5]; exact (hI.rest q q1 q2 q3 (fun e => q5 e.symm) (fun e => q4 e.symm)).symm
        show Code.wp Tryz.prog fgT _ a' w'
        refine awp_sound mixed fgT fgt (fun e f s => e = .ret ∧ f.get 4 = .int .i64 0 ∧ s = σF) _ φ' fr σF a' w' fgt_c ?_ hf' hr2 ?_
        · unfold fgt; simp +decide only [↓evd, evw, evz, reduceCtorEq, ↓reduceIte]
        · rintro φ2 f2 s2 se e2 a2 w2 g1 g2 g3 g4 ⟨rfl, g5, rfl⟩
          cases g2
          exact ⟨.inr rfl, φ2, f2, Phi.le_trans (Phi.le_trans hle hle') g1, g3, g4, by simp only [resOf, rvals, Option.map_some, g5]⟩
    · have hK2' : K2 ≠ m ∧ K2 ≠ mg ∧ K2 ≠ mf ∧ K2 ≠ k := ⟨by omega, by omega, by omega, by omega⟩
      refine ⟨?_, ⟨[.mp (.new m)], none, ?_, rfl, .inr ⟨1, rfl, by simp, rfl⟩⟩, rfl, fun i q s h1 h2 => ?_, hFg, hFf, ?_, ?_, ⟨by simp, ?_, ?_, h.ok.grp.delAll _, h.ok.gone.goneAll fun g hgl => h.ok.grp.2 g (hg.2 g hgl)⟩, ?_⟩
      · rw [hFq k (fun e => hmk e.symm) (fun e => hgk e.symm) (fun e => hfk e.symm), if_neg (by omega), if_neg (by omega)]; exact hb
      · rw [hFq K2 hK2'.1 hK2'.2.1 hK2'.2.2.1, if_neg (by omega), if_neg (by omega)]; exact hK
      · cases i with
        | zero =>
          simp only [List.getElem?_cons_zero, Option.some.injEq] at h1 h2
          subst h1; subst h2; exact hFm
        | succ i => simp at h1
      · simp only [List.nodup_cons, List.mem_cons, not_or, List.not_mem_nil, not_false_eq_true, and_true, List.nodup_nil]
        exact ⟨⟨fun e => hK2'.2.2.2 e.symm, fun e => hgk e.symm, fun e => hfk e.symm, fun e => hmk e.symm⟩, ⟨hK2'.2.1, hK2'.2.2.1, hK2'.1⟩, ⟨hgf, fun e => hmg e.symm⟩, fun e => hmf e.symm⟩
      · intro x hx
        simp only [List.mem_cons, List.not_mem_nil, or_false] at hx
        rw [hFn]
        rcases hx with rfl | rfl | rfl | rfl | rfl <;> omega
      · have := h.pos; have := h.head_eq; simp; omega
      · intro s hs; simp only [List.mem_singleton] at hs; subst hs; exact hrt.delAll _
      · show σ1.F0.dr = false
        rw [hk.2.1]; exact h.dr
    · intro x hx
      simp only [List.mem_cons, List.not_mem_nil, or_false] at hx
      rcases hx with rfl | rfl | rfl | rfl | rfl
      · exact .inl (by simp)
      · exact .inr (by omega)
      · exact .inl (by simp)
      · exact .inl (by simp)
      · exact .inl (by simp [hmm])
section
variable {σ : Heap} {k : Nat} {R R' : Revs} {fp : List Nat}
theorem add_at (h : IsRevs σ k R fp) {g n c : Int} (e : addR R g = (R', n, c)) : MSpec Tryz.prog n_rev_Revs_Add [.ptr (.new k) 0, .int .i64 g] σ fun v τ => v = .tup [.int .i64 n, .int .i64 c] ∧ ∃ fp', IsRevs τ k R' fp' ∧ Keep fp σ τ ∧ Fresh fp σ fp' := by
  have := add_spec h g; rw [e] at this; exact this
theorem toggle_at (h : IsRevs σ k R fp) {g n c : Int} (e : toggleR R g = (R', n, c)) : MSpec Tryz.prog n_rev_Revs_Toggle [.ptr (.new k) 0, .int .i64 g] σ fun v τ => v = .tup [.int .i64 n, .int .i64 c] ∧ ∃ fp', IsRevs τ k R' fp' ∧ Keep fp σ τ ∧ Fresh fp σ fp' := by
  have := toggle_spec h g; rw [e] at this; exact this
theorem forget_at (h : IsRevs σ k R fp) {l : List Int} {c : Int} (hl : l.length ≤ 1000000) (e : forgetR R l = (R', c)) : MSpec Tryz.prog n_rev_Revs_Forget [.ptr (.new k) 0, ints l] σ fun v τ => v = .int .i64 c ∧ ∃ fp', IsRevs τ k R' fp' ∧ Keep fp σ τ ∧ Fresh fp σ fp' := by
  have := forget_spec h l hl; rw [e] at this; exact this
theorem IsRevs.low (h : IsRevs σ k R fp) : ∀ x ∈ fp, x < σ.next := by obtain ⟨K, cap, ms, mg, mf, h, rfl⟩ := h; exact h.low
end
theorem new_at (σ : Heap) (hd : σ.F0.dr = false) : MSpec Tryz.prog n_rev_New [] σ fun v τ => v = .ptr (.new (σ.next + 4)) 0 ∧ (∃ fp, IsRevs τ (σ.next + 4) Revs.new fp ∧ ∀ x ∈ fp, σ.next ≤ x) ∧ Keep [] σ τ := by
  refine (new_spec σ hd).mono ?_
  rintro v τ ⟨rfl, h, hk⟩
  refine ⟨rfl, ⟨_, ⟨_, _, _, _, _, h, rfl⟩, ?_⟩, hk⟩
  intro x hx
  simp only [List.mem_cons, List.not_mem_nil, or_false] at hx
  rcases hx with rfl | rfl | rfl | rfl | rfl <;> omega
theorem live_at {σ : Heap} {k : Nat} {R : Revs} {fp : List Nat} (h : IsRevs σ k R fp) (n : Int) : ACall Tryz.prog n_rev_Revs_Live [.ptr (.new k) 0, .int .i64 n] σ (.bool (R.live n)) σ := by obtain ⟨_, _, _, _, _, h, _⟩ := h; exact live_call h n
theorem head_at {σ : Heap} {k : Nat} {R : Revs} {fp : List Nat} (h : IsRevs σ k R fp) : ACall Tryz.prog n_rev_Revs_Head [.ptr (.new k) 0] σ (.int .i64 (R.head : Nat)) σ := by obtain ⟨_, _, _, _, _, h, _⟩ := h; exact head_call h
theorem undone_at {σ : Heap} {k : Nat} {R : Revs} {fp : List Nat} (h : IsRevs σ k R fp) (n : Int) : ACall Tryz.prog n_rev_Revs_Undone [.ptr (.new k) 0, .int .i64 n] σ (ints (R.undone n)) σ := by obtain ⟨_, _, _, _, _, h, _⟩ := h; exact undone_call h n
theorem groups_at {σ : Heap} {k : Nat} {R : Revs} {fp : List Nat} (h : IsRevs σ k R fp) : ACall Tryz.prog n_rev_Revs_Groups [.ptr (.new k) 0] σ (ints R.grp) σ := by obtain ⟨_, _, _, _, _, h, _⟩ := h; exact groups_call h
theorem copy_at {σ : Heap} {k : Nat} {R : Revs} {fp : List Nat} (h : IsRevs σ k R fp) : MSpec Tryz.prog n_rev_Revs_Copy [.ptr (.new k) 0] σ fun v τ => v = .ptr (.new (σ.next + 2)) 0 ∧ (∃ fp, IsRevs τ (σ.next + 2) R fp ∧ ∀ x ∈ fp, σ.next ≤ x) ∧ Keep [] σ τ := by obtain ⟨_, _, _, _, _, h, _⟩ := h; exact copyRevs_spec h
theorem IsRevs.ok {σ : Heap} {k : Nat} {R : Revs} {fp : List Nat} (h : IsRevs σ k R fp) : R.Ok := by obtain ⟨_, _, _, _, _, h, _⟩ := h; exact h.ok
theorem add_good {R : Revs} {g : Int} (h1 : g ∉ R.gone) (h2 : 0 ≤ g) (h3 : g < 60) (h4 : R.head < 200) : addR R g = ({ R.push R.top with grp := insS g R.grp }, (R.head : Int) + 1, 0) := by
  have hnb : ¬ (g ∈ R.gone ∨ g < 0 ∨ 60 ≤ g) := by rintro (h | h | h); exact h1 h; omega; omega
  simp only [addR, if_neg hnb, if_neg (show ¬ 200 ≤ R.head by omega)]
theorem add_many {R : Revs} {g : Int} (h1 : g ∉ R.gone) (h2 : 0 ≤ g) (h3 : g < 60) (h4 : 200 ≤ R.head) : addR R g = (R, 0, 70) := by
  have hnb : ¬ (g ∈ R.gone ∨ g < 0 ∨ 60 ≤ g) := by rintro (h | h | h); exact h1 h; omega; omega
  simp only [addR, if_neg hnb, if_pos h4]
theorem add_bad {R : Revs} {g : Int} (h : g ∈ R.gone ∨ g < 0 ∨ 60 ≤ g) : addR R g = (R, 0, 210) := by simp only [addR, if_pos h]
theorem mem_flip {s : List Int} {g x : Int} (hs : Rise s) : x ∈ flip g s ↔ if x = g then g ∉ s else x ∈ s := by
  unfold flip
  by_cases h : g ∈ s
  · rw [if_pos h, hs.mem_erase]
    by_cases e : x = g
    · simp [e, h]
    · simp [e]
  · rw [if_neg h, mem_insS]
    by_cases e : x = g
    · simp [e, h]
    · simp [e]
theorem Revs.Ok.top {R : Revs} (h : R.Ok) : R.undone R.head = R.top ∧ Rise R.top ∧ R.live R.head = true := by
  have h1 := h.one
  have hl := List.length_pos_iff.2 h1
  have hh : R.head = R.floor + R.und.length - 1 := rfl
  have hlv : R.live R.head = true := by simp only [Revs.live, Bool.and_eq_true, decide_eq_true_eq]; omega
  have ht : R.at R.head = R.top := by
    have e1 : (((R.head : Nat) : Int) - (R.floor : Int)).toNat = R.und.length - 1 := by simp only [Revs.head]; omega
    simp only [Revs.at, Revs.top, e1, List.getLastD_eq_getLast?, ← List.getLast?_eq_getElem?]
  refine ⟨by simp only [Revs.undone, hlv, if_true, ht], ?_, hlv⟩
  rw [← ht]
  unfold Revs.at
  cases he : R.und[(((R.head : Nat) : Int) - (R.floor : Int)).toNat]? with
  | none => exact Rise.nil
  | some s => exact h.rise s (List.mem_of_getElem? he)
theorem live_iff {R : Revs} {n : Int} : R.live n = true ↔ (R.floor : Int) ≤ n ∧ n ≤ ((R.floor + R.und.length - 1 : Nat) : Int) := by
  simp only [Revs.live, Bool.and_eq_true, decide_eq_true_eq]; exact Iff.rfl
theorem top_push (R : Revs) (s : List Int) : (R.push s).top = s := by simp [Revs.top, Revs.push]
theorem Own.sees2 {B k : Nat} {e : TypeId} {σ : Heap} {x : AVal} {els : List AVal} (h : Own B σ e k x els) : ∃ τ, Sees σ x τ (.fsl k els) ∧ (τ = σ ∨ ∃ K, x = .slc (.new K) 0 els.length (.gr k) ∧ τ = σ.set K .dead ∧ B ≤ K) := by
  rcases h.2 with ⟨rfl, rfl⟩ | ⟨K, rfl, hg, hBK, hKn⟩
  · exact ⟨σ, Sees.nils σ k, .inl rfl⟩
  · refine ⟨σ.set K .dead, Sees.own hg rfl h.1 ?_ (fun c hc => by cases hc), .inr ⟨K, rfl, rfl, hBK⟩⟩
    rw [List.drop_zero, List.take_of_length_le (by rw [flat_len h.1]; omega)]
theorem Own.move {B k : Nat} {e : TypeId} {σ τ : Heap} {x : AVal} {els : List AVal} (h : Own B σ e k x els) (hn : σ.next ≤ τ.next) (hg : ∀ K o n c, x = .slc (.new K) o n c → τ.get K = σ.get K) : Own B τ e k x els := by
  refine ⟨h.1, ?_⟩
  rcases h.2 with h2 | ⟨K, h1, h2, h3, h4⟩
  · exact .inl h2
  · exact .inr ⟨K, h1, by rw [hg _ _ _ _ h1]; exact h2, h3, Nat.lt_of_lt_of_le h4 hn⟩
theorem own_int {B : Nat} {σ : Heap} {x : AVal} {l : List Int} (h : Own B σ t_int 1 x (l.map (AVal.int .i64 ·))) (hB : B ≤ σ.next) (hl : l.length ≤ 1000000) (n : Int) :
    ∃ x' σ', aApp t_int 1 8 x (.slc (.new σ.next) 0 1 (.ex 1)) (σ.new (.cells [.int .i64 n] none)) = some (x', σ') ∧ Own B σ' t_int 1 x' ((l ++ [n]).map (AVal.int .i64 ·)) ∧ σ'.W = σ.W ∧ σ'.F0 = σ.F0 ∧ σ.next < σ'.next ∧
      (∀ q, q < σ.next → (∀ K o n c, x = .slc (.new K) o n c → q ≠ K) → σ'.get q = σ.get q) ∧ (∀ K o n c, x' = .slc (.new K) o n c → σ.next ≤ K ∨ ∃ o n c, x = .slc (.new K) o n c) := by
  have hsrc := src_one (σ := σ.new (.cells [.int .i64 n] none)) (K := σ.next) (k := 1) (cs := [.int .i64 n]) (opn := none) (z := .int .i64 n) (cap := .ex 1) (by rw [Heap.get_new, if_pos rfl]) rfl rfl
  obtain ⟨x', ρ, g1, g2, g3, g4, g5⟩ := own_app2 (bytes := 8) (h.new (.cells [.int .i64 n] none)) (Nat.le_succ_of_le hB) hsrc.1 hsrc.2 (by intro z hz; simp at hz; subst hz; rfl) rfl (by omega) (by omega) (by unfold maxRoom; simp; omega)
  refine ⟨x', ρ, g1, by rw [List.map_append]; exact g2, g3.1, g3.2.1, by have := g3.2.2.1; simp at this; omega, fun q hq hn => ?_, fun K o n' c e => ?_⟩
  · rw [g4 q (by simp; omega) hn, Heap.get_new, if_neg (by omega)]
  · rcases g5 K o n' c e with h1 | h1
    · exact .inl (Nat.le_of_succ_le h1)
    · exact .inr h1
def uid : AVal → List Nat
  | .slc (.new K) _ _ _ => [K]
  | _ => []
theorem mem_uid {u : AVal} {K : Nat} : K ∈ uid u ↔ ∃ o n c, u = .slc (.new K) o n c := by
  unfold uid
  split
  · simp only [List.mem_singleton, AVal.slc.injEq, Id.new.injEq]
    constructor
    · rintro rfl; exact ⟨_, _, _, rfl, rfl, rfl, rfl⟩
    · rintro ⟨_, _, _, h, _⟩; exact h.symm
  · rename_i h
    simp only [List.not_mem_nil, false_iff]
    rintro ⟨o, n, c, rfl⟩
    exact h _ _ _ _ rfl
theorem Row.move {B k : Nat} {e : TypeId} {σ τ : Heap} {x : AVal} {els : List AVal} (h : Row B σ e k x els) (hn : σ.next ≤ τ.next) (hg : ∀ K ∈ uid x, τ.get K = σ.get K) : Row B τ e k x els := by
  refine ⟨h.1, ?_⟩
  rcases h.2 with h2 | ⟨K, cap, cs, opn, h1, h2, h3, h4, h5, h6⟩
  · exact .inl h2
  · exact .inr ⟨K, cap, cs, opn, h1, by rw [hg K (mem_uid.2 ⟨_, _, _, h1⟩)]; exact h2, h3, h4, Nat.lt_of_lt_of_le h5 hn, h6⟩
end Go.Proofs.YtkjikdohnomajaaGreat.M
namespace Go.Proofs.YtkjikdohnomajaaGreat.M
open Go Go.Mini
theorem Xwp_congr {P : Program} {n : Nat} {sc : SCode} {Q : SExit → Mini.Frame → Heap → Prop} {fr fr' : Mini.Frame} {σ σ' : Heap} (h : fr = fr') (h' : σ = σ') : Xwp P n sc Q fr σ = Xwp P n sc Q fr' σ' := by rw [h, h']
attribute [local congr] go1_congr goM_congr goG_congr goV_congr drawwp_congr Xwp_congr
theorem toggle_of {R : Revs} {g : Int} (h1 : g ∈ R.grp) (h4 : R.head < 200) : toggleR R g = (R.push (flip g R.top), (R.head : Int) + 1, 0) := by
  simp only [toggleR, if_neg (show ¬ g ∉ R.grp from fun h => h h1), if_neg (show ¬ 200 ≤ R.head by omega)]
theorem toggle_bad {R : Revs} {g : Int} (h1 : g ∉ R.grp) : toggleR R g = (R, 0, 210) := by simp only [toggleR, if_pos h1]
theorem forget_good {R : Revs} {l : List Int} (h : Good R l) : forgetR R l = (⟨[delAll R.top l], R.head, delAll R.grp l, goneAll R.gone l⟩, 0) := by simp only [forgetR, if_pos h]
theorem forget_bad {R : Revs} {l : List Int} (h : ¬ Good R l) : forgetR R l = (R, 210) := by simp only [forgetR, if_neg h]
end Go.Proofs.YtkjikdohnomajaaGreat.M
namespace Go.Proofs.YtkjikdohnomajaaGreat.M
open Go Go.Mini
attribute [local congr] go1_congr goM_congr goG_congr goV_congr
def idxI (x : Int) : List Int → Nat → Int
  | [], _ => -1
  | y :: r, i => if x = y then i else idxI x r (i + 1)
theorem index_call (σ : Heap) (l : List Int) (x : Int) (hl : l.length ≤ 4611686018427387904) : ACall Tryz.prog n_slices_Index_int_int [ints l, .int .i64 x] σ (.int .i64 (idxI x l 0)) σ := by
  refine bare_call (by simp only [AVal.pures, ints_pure]; rfl) rfl (fun W F => spec_of_awp mixed c_slices_Index_int_int (tl rfl) ?_) σ
  unfold f_slices_Index_int_int
  simp +decide only [↓evd, evw, evz, reduceCtorEq, ↓reduceIte]
  refine awp_loop (fun m fr τ => ∃ i, m + i = l.length ∧ fr.get 0 = ints l ∧ fr.get 1 = .int .i64 x ∧ fr.get 7 = .int .i64 l.length ∧ fr.get 8 = .int .i64 (i : Nat) ∧ τ = ⟨W, F, .nil, 0⟩ ∧ idxI x (l.drop i) i = idxI x l 0) ?_ (m := l.length) ?_
  · rintro m fr τ ⟨i, hi, e0, e1, e7, e8, rfl, hs⟩
    by_cases hlt : i < l.length
    · have hlt' : (i : Int) < (l.length : Int) := by omega
      have hg := map_get (AVal.int .i64 ·) l i hlt
      have hw := wrap_succ (i := i) (by omega)
      rw [List.drop_eq_getElem_cons hlt, idxI] at hs
      by_cases hx : x = l[i]
      · have hb : (x == l[i]) = true := by simpa using hx
        rw [if_pos hx] at hs
        simp +decide only [↓evd, evw, evz, reduceCtorEq, ↓reduceIte, e0, e1, e7, e8, hlt', hg, hb]
        exact seen (by rw [← hs]) rfl rfl
      · have hb : (x == l[i]) = false := by simpa using hx
        rw [if_neg hx] at hs
        simp +decide only [↓evd, evw, evz, reduceCtorEq, ↓reduceIte, e0, e1, e7, e8, hlt', hg, hb, hw]
        exact ⟨m - 1, by omega, i + 1, by omega, by (repeat' apply And.intro) <;> first | rfl | assumption⟩
    · have hlt' : ¬ (i : Int) < (l.length : Int) := by omega
      simp +decide only [↓evd, evw, evz, reduceCtorEq, ↓reduceIte, e7, e8, hlt']
      rw [List.drop_eq_nil_of_le (by omega)] at hs
      exact seen (by rw [← hs]; rfl) rfl rfl
  · exact ⟨0, by omega, by first | (simp +decide only [↓evd, evw, evz, reduceCtorEq, ↓reduceIte]; done) | (simp +decide only [↓evd, evw, evz, reduceCtorEq, ↓reduceIte]; first | rfl | (repeat' apply And.intro) <;> rfl)⟩
theorem idxI_mem (x : Int) : ∀ (l : List Int) (i : Nat), decide (0 ≤ idxI x l i) = decide (x ∈ l)
  | [], i => by simp [idxI]
  | y :: r, i => by
    simp only [idxI]
    split
    · rename_i h; subst h; simp
    · rename_i h; rw [idxI_mem x r (i + 1)]; simp [h]
theorem contains_call (σ : Heap) (l : List Int) (x : Int) (hl : l.length ≤ 4611686018427387904) : ACall Tryz.prog n_slices_Contains_int_int [ints l, .int .i64 x] σ (.bool (decide (x ∈ l))) σ := by
  refine bare_call (by simp only [AVal.pures, ints_pure]; rfl) rfl (fun W F => spec_of_awp mixed c_slices_Contains_int_int (tl rfl) ?_) σ
  unfold f_slices_Contains_int_int
  simp +decide only [↓evd, evw, evz, reduceCtorEq, ↓reduceIte]
  refine MSpec.of (index_call _ _ _ hl) ?_
  simp +decide only [↓evd, evw, evz, reduceCtorEq, ↓reduceIte]
  exact seen (by rw [idxI_mem]) rfl rfl
def holds (u : List Int) (g : Int) : Bool := decide (g = -1) || !decide (g ∈ u)
theorem holds_call (σ : Heap) (g : Int) (u : List Int) (hl : u.length ≤ 4611686018427387904) : ACall Tryz.prog n_atom_holds [.int .i64 g, ints u] σ (.bool (holds u g)) σ := by
  refine bare_call (by simp only [AVal.pures, ints_pure]; rfl) rfl (fun W F => spec_of_awp mixed c_atom_holds (tl rfl) ?_) σ
  unfold f_atom_holds
  by_cases h : g = -1
  · have hb : (g == -1) = true := by simpa using h
    simp +decide only [↓evd, evw, evz, reduceCtorEq, ↓reduceIte, hb]
    exact seen (by simp [holds, h]) rfl rfl
  · have hb : (g == -1) = false := by simpa using h
    simp +decide only [↓evd, evw, evz, reduceCtorEq, ↓reduceIte, hb]
    refine MSpec.of (contains_call _ _ _ hl) ?_
    simp +decide only [↓evd, evw, evz, reduceCtorEq, ↓reduceIte]
    exact seen (by simp [holds, h]) rfl rfl

def idxF (p : Cut → Bool) : List Cut → Nat → Int
  | [], _ => -1
  | y :: r, i => if p y then i else idxF p r (i + 1)
theorem indexFunc_call (σ : Heap) (l : List Cut) (g : FuncId) (caps : List AVal) (p : Cut → Bool) (hl : l.length ≤ 4611686018427387904) (hp : ∀ c ∈ l, ACall Tryz.prog g (eCut c :: caps) σ (.bool (p c)) σ) :
    ACall Tryz.prog n_slices_IndexFunc_api_Cut_api_Cut [eCuts l, .fn g caps] σ (.int .i64 (idxF p l 0)) σ := by
  obtain ⟨v, σ', h, e1, e2⟩ := spec_of_awp (P := Tryz.prog) (σ := σ) (args := [eCuts l, .fn g caps]) (R := fun v σ' => v = .int .i64 (idxF p l 0) ∧ σ' = σ) mixed c_slices_IndexFunc_api_Cut_api_Cut (tl rfl) (by
    unfold f_slices_IndexFunc_api_Cut_api_Cut
    simp +decide only [↓evd, evw, evz, reduceCtorEq, ↓reduceIte, eCuts]
    refine awp_loop (fun m fr τ => ∃ i, m + i = l.length ∧ fr.get 0 = eCuts l ∧ fr.get 1 = .fn g caps ∧ fr.get 7 = .int .i64 l.length ∧ fr.get 8 = .int .i64 (i : Nat) ∧ τ = σ ∧ idxF p (l.drop i) i = idxF p l 0) ?_ (m := l.length) ?_
    · rintro m fr τ ⟨i, hi, e0, e1, e7, e8, rfl, hs⟩
      by_cases hlt : i < l.length
      · have hlt' : (i : Int) < (l.length : Int) := by omega
        have hg := map_get eCut l i hlt
        have hw := wrap_succ (i := i) (by omega)
        rw [List.drop_eq_getElem_cons hlt, idxF] at hs
        simp +decide only [↓evd, evw, evz, reduceCtorEq, ↓reduceIte, e0, e1, e7, e8, hlt', eCuts, hg, eCut]
        refine MSpec.of (hp l[i] (List.getElem_mem hlt)) ?_
        cases hx : p l[i]
        · rw [hx] at hs
          simp +decide only [↓evd, evw, evz, reduceCtorEq, ↓reduceIte, e0, e1, e7, e8, hw]
          exact ⟨m - 1, by omega, i + 1, by omega, by (repeat' apply And.intro) <;> first | rfl | assumption⟩
        · rw [hx] at hs
          simp +decide only [↓evd, evw, evz, reduceCtorEq, ↓reduceIte]
          rw [← hs]; rfl
      · have hlt' : ¬ (i : Int) < (l.length : Int) := by omega
        simp +decide only [↓evd, evw, evz, reduceCtorEq, ↓reduceIte, e7, e8, hlt']
        rw [List.drop_eq_nil_of_le (by omega)] at hs
        rw [← hs]; rfl
    · exact ⟨0, by omega, by first | (simp +decide only [↓evd, evw, evz, reduceCtorEq, ↓reduceIte]; done) | (simp +decide only [↓evd, evw, evz, reduceCtorEq, ↓reduceIte]; first | rfl | (repeat' apply And.intro) <;> rfl)⟩)
  subst e1; subst e2; exact h
theorem idxF_any (p : Cut → Bool) : ∀ (l : List Cut) (i : Nat), decide (0 ≤ idxF p l i) = l.any p
  | [], i => by simp [idxF]
  | y :: r, i => by
    simp only [idxF, List.any_cons]
    split
    · rename_i h; simp [h]
    · rename_i h; rw [idxF_any p r (i + 1)]; simp [h]
theorem containsFunc_call (σ : Heap) (l : List Cut) (g : FuncId) (caps : List AVal) (p : Cut → Bool) (hl : l.length ≤ 4611686018427387904) (hp : ∀ c ∈ l, ACall Tryz.prog g (eCut c :: caps) σ (.bool (p c)) σ) :
    ACall Tryz.prog n_slices_ContainsFunc_api_Cut_api_Cut [eCuts l, .fn g caps] σ (.bool (l.any p)) σ := by
  refine exact_call (spec_of_awp mixed c_slices_ContainsFunc_api_Cut_api_Cut (tl rfl) ?_)
  unfold f_slices_ContainsFunc_api_Cut_api_Cut
  simp +decide only [↓evd, evw, evz, reduceCtorEq, ↓reduceIte]
  refine MSpec.of (indexFunc_call _ _ _ _ _ hl hp) ?_
  simp +decide only [↓evd, evw, evz, reduceCtorEq, ↓reduceIte, idxF_any]
def cutHolds (rev : Int) (u : List Int) (c : Cut) : Bool := decide (c.rev ≤ rev) && holds u c.group
def visible (rev : Int) (u : List Int) (a : Atom) : Bool := decide (a.rev ≤ rev) && holds u a.group && !a.cuts.any (cutHolds rev u)
theorem new_get {σ : Heap} {b : ABlk} {k : Nat} (h : k < σ.next) : (σ.new b).get k = σ.get k := by rw [Heap.get_new, if_neg (by omega)]
theorem visible_1_call (σ : Heap) (c : Cut) (rev : Int) (u : List Int) (i j : Nat) (hi : σ.get i = some (.cells [.int .i64 rev] none)) (hj : σ.get j = some (.cells [ints u] none)) (hi' : i < σ.next) (hj' : j < σ.next) (hl : u.length ≤ 4611686018427387904) :
    ACall Tryz.prog n_atom_Visible_1 [eCut c, .ptr (.new i) 0, .ptr (.new j) 0] σ (.bool (cutHolds rev u c)) σ := by
  refine gc_call rfl (spec_of_awp mixed c_atom_Visible_1 (tl rfl) ?_)
  unfold f_atom_Visible_1
  have ni : σ.next ≠ i := by omega
  have nj : σ.next ≠ j := by omega
  by_cases h : c.rev ≤ rev
  · simp +decide only [↓evd, evw, evz, reduceCtorEq, ↓reduceIte, eCut, hi, hj, ni, nj, h]
    refine MSpec.of (holds_call _ _ _ hl) ?_
    simp +decide only [↓evd, evw, evz, reduceCtorEq, ↓reduceIte]
    exact ⟨by simp [cutHolds, h], fun k hk => if_neg (by omega)⟩
  · simp +decide only [↓evd, evw, evz, reduceCtorEq, ↓reduceIte, eCut, hi, hj, ni, nj, h]
    exact ⟨by simp [cutHolds, h], fun k hk => if_neg (by omega)⟩
set_option maxHeartbeats 1000000 in
theorem visible_call (σ : Heap) (a : Atom) (rev : Int) (u : List Int) (hl : u.length ≤ 4611686018427387904) (hc : a.cuts.length ≤ 4611686018427387904) :
    ACall Tryz.prog n_atom_Visible [eAtom a, .int .i64 rev, ints u] σ (.bool (visible rev u a)) σ := by
  refine bare_call (by simp only [AVal.pures, ints_pure, eAtom_pure]; rfl) rfl (fun W F => spec_of_awp mixed c_atom_Visible (tl rfl) ?_) σ
  unfold f_atom_Visible
  by_cases h : rev < a.rev
  · simp +decide only [↓evd, evw, evz, reduceCtorEq, ↓reduceIte, eAtom, h]
    exact seen (by simp only [visible]; rw [decide_eq_false (by omega)]; rfl) rfl rfl
  · simp +decide only [↓evd, evw, evz, reduceCtorEq, ↓reduceIte, eAtom, h]
    refine MSpec.of (holds_call _ _ _ hl) ?_
    cases hh : holds u a.group
    · simp +decide only [↓evd, evw, evz, reduceCtorEq, ↓reduceIte, hh]
      exact seen (by simp only [visible, hh, Bool.and_false, Bool.false_and]) rfl rfl
    · simp +decide only [↓evd, evw, evz, reduceCtorEq, ↓reduceIte, hh]
      refine MSpec.of (containsFunc_call _ _ _ _ (cutHolds rev u) hc fun c _ => visible_1_call _ c rev u 1 2 (by simp +decide only [↓evd, evw, evz, reduceCtorEq, ↓reduceIte]) (by simp +decide only [↓evd, evw, evz, reduceCtorEq, ↓reduceIte]) (by simp +decide only [↓evd, evw, evz, reduceCtorEq, ↓reduceIte]) (by simp +decide only [↓evd, evw, evz, reduceCtorEq, ↓reduceIte]) hl) ?_
      simp +decide only [↓evd, evw, evz, reduceCtorEq, ↓reduceIte]
      exact seen (by simp only [visible, hh, Bool.and_true]; rw [decide_eq_true (by omega)]; rfl) rfl rfl
theorem byteCells_flat : ∀ s : List UInt8, (byteCells s).flatMap AVal.cells = byteCells s
  | [] => rfl
  | b :: s => by have := byteCells_flat s; simp only [byteCells, List.map_cons, List.flatMap_cons, AVal.cells] at *; rw [this]; rfl
theorem byteCells_len (s : List UInt8) : (byteCells s).length = s.length := by simp [byteCells]
theorem byteCells_app (s t : List UInt8) : byteCells (s ++ t) = byteCells s ++ byteCells t := by simp [byteCells]
theorem byteCells_one (s : List UInt8) : ∀ e ∈ byteCells s, e.cells.length = 1 := by
  intro e he; simp only [byteCells, List.mem_map] at he; obtain ⟨b, _, rfl⟩ := he; rfl
theorem byteCells_cell (s : List UInt8) : (byteCells s).all AVal.isCell = true := by
  rw [List.all_eq_true]; intro e he; simp only [byteCells, List.mem_map] at he; obtain ⟨b, _, rfl⟩ := he; rfl
def IsBld (σ : Heap) (k : Nat) (l : List UInt8) : Prop := k < σ.next ∧ ∃ p buf, σ.get k = some (.tcells t_Builder [p, buf]) ∧ ((p = .nilp ∧ l = []) ∨ p = .ptr (.new k) 0) ∧ Own (k + 1) σ t_u8 1 buf (byteCells l) ∧ (l = [] → buf = .nils)
theorem isBld_new (σ : Heap) : IsBld (σ.new (.tcells t_Builder [.nilp, .nils])) σ.next [] := ⟨by simp, .nilp, .nils, by rw [Heap.get_new, if_pos rfl], .inl ⟨rfl, rfl⟩, Own.nil _ _ _ _, fun _ => rfl⟩
theorem isBld_alloc {σ : Heap} {k : Nat} {l : List UInt8} (h : IsBld σ k l) (b : ABlk) : IsBld (σ.new b) k l := by
  obtain ⟨h0, p, buf, h1, h2, h3, h4⟩ := h
  exact ⟨by simp only [Heap.new_next]; omega, p, buf, by rw [Heap.get_new, if_neg (by omega)]; exact h1, h2, h3.new b, h4⟩
theorem isBld_var {σ : Heap} {k : Nat} {l : List UInt8} (h : IsBld σ k l) (b c : ABlk) : IsBld ((σ.new b).set σ.next c) k l := by
  have hk := h.1
  obtain ⟨h0, p, buf, h1, h2, h3, h4⟩ := isBld_alloc h b
  refine ⟨h0, p, buf, by rw [Heap.get_set, if_neg (by omega)]; exact h1, h2, h3.set (fun K o n c e => ?_) c, h4⟩
  obtain ⟨_, p', buf', g1, _, g3, _⟩ := h
  rw [Heap.get_new, if_neg (by omega), g1] at h1
  cases h1
  have := g3.low e; omega
theorem own_kind {B : Nat} {σ : Heap} {e : TypeId} {k : Nat} {x : AVal} {els : List AVal} (h : Own B σ e k x els) : x.isCell = true := by
  rcases h.2 with ⟨rfl, _⟩ | ⟨K, rfl, _⟩ <;> rfl
set_option maxHeartbeats 2000000 in
theorem writeString_spec (σ : Heap) (k : Nat) (l s : List UInt8) (hb : IsBld σ k l) (hroom : l.length + s.length ≤ maxRoom) :
    MSpec Tryz.prog n_strings_Builder_WriteString [.ptr (.new k) 0, .str s] σ fun v τ => v = .tup [.int .i64 s.length, .raw .nilIface] ∧ IsBld τ k (l ++ s) ∧ Ext k σ τ := by
  obtain ⟨hk, p, buf, hg, hp, ho, hnil⟩ := hb
  refine spec_of_awp mixed c_strings_Builder_WriteString (tl rfl) ?_
  unfold f_strings_Builder_WriteString
  simp +decide only [↓evd, evw, evz, reduceCtorEq, ↓reduceIte]
  obtain ⟨σ1, hcall, hE1, hg1, ho1⟩ : ∃ σ1, ACall Tryz.prog n_strings_Builder_copyCheck [.ptr (.new k) 0] σ (.tup []) σ1 ∧ (Ext k σ σ1 ∧ σ1.next = σ.next) ∧ σ1.get k = some (.tcells t_Builder [.ptr (.new k) 0, buf]) ∧ Own (k + 1) σ1 t_u8 1 buf (byteCells l) := by
    rcases hp with ⟨rfl, _⟩ | rfl
    · exact ⟨_, copyCheck_fresh_call hg, ⟨(Ext.refl k σ).set (Nat.le_refl _) _, rfl⟩, by rw [Heap.get_set, if_pos rfl], ho.set (fun K o n c e => by have := ho.low e; omega) _⟩
    · exact ⟨σ, copyCheck_used_call hg, ⟨Ext.refl k σ, rfl⟩, hg, ho⟩
  refine MSpec.of hcall ?_
  obtain ⟨x', σ2, g1, g2, g3, g4⟩ := own_app (bytes := 1) (y := .str s) (ys := byteCells s) ho1 (by rw [hE1.2]; omega) (by simp only [aLenOf, byteCells_len]) (by
    rw [byteCells_flat, byteCells_len]; simp [srcCells]) (byteCells_one s) (by rw [byteCells_flat]; exact byteCells_cell s) (by omega) (by omega) (by rw [byteCells_len, byteCells_len]; omega)
  have hg2 : σ2.get k = some (.tcells t_Builder [.ptr (.new k) 0, buf]) := by rw [g3.2.2.2 k (by omega)]; exact hg1
  have fin : Own (k + 1) (σ2.set k (.tcells t_Builder [.ptr (.new k) 0, x'])) t_u8 1 x' (byteCells (l ++ s)) ∧ Ext k σ (σ2.set k (.tcells t_Builder [.ptr (.new k) 0, x'])) := by
    refine ⟨?_, ?_⟩
    · rw [byteCells_app]
      exact g2.set (fun K o n c e => by have := g2.low e; omega) _
    · exact (hE1.1.trans ⟨g3.1, g3.2.1, g3.2.2.1, fun q hq => g3.2.2.2 q (by omega)⟩).set (Nat.le_refl _) _
  have hnext : k < σ2.next := by have := g3.2.2.1; omega
  have hnil' : l ++ s = [] → x' = .nils := by
    intro h
    obtain ⟨h1, h2⟩ := List.append_eq_nil_iff.1 h
    subst h2
    rw [hnil h1] at g1
    have e : aApp t_u8 1 1 .nils (.str []) σ1 = some (.nils, σ1) := rfl
    rw [e] at g1
    cases g1; rfl
  rcases (show x' = .nils ∨ ∃ K n, x' = .slc (.new K) 0 n (.gr 1) from by
    rcases g2.2 with ⟨h, _⟩ | ⟨K, h, _⟩
    · exact .inl h
    · exact .inr ⟨K, _, h⟩) with rfl | ⟨K, n, rfl⟩
  · simp +decide only [↓evd, evw, evz, reduceCtorEq, ↓reduceIte, hg1, g1, hg2]
    exact ⟨⟨hnext, _, _, by rw [Heap.get_set, if_pos rfl], .inr rfl, fin.1, hnil'⟩, fin.2⟩
  · simp +decide only [↓evd, evw, evz, reduceCtorEq, ↓reduceIte, hg1, g1, hg2]
    exact ⟨⟨hnext, _, _, by rw [Heap.get_set, if_pos rfl], .inr rfl, fin.1, hnil'⟩, fin.2⟩
theorem bldString_spec (σ : Heap) (k : Nat) (l : List UInt8) (hb : IsBld σ k l) (hroom : l.length ≤ maxRoom) :
    MSpec Tryz.prog n_strings_Builder_String [.ptr (.new k) 0] σ fun v τ => v = .str l ∧ Ext k σ τ := by
  obtain ⟨hk, p, buf, hg, hp, ho, hnil⟩ := hb
  rcases ho.2 with ⟨rfl, h0⟩ | ⟨K, rfl, hK, h1, h2⟩
  · have : l = [] := by simpa [byteCells] using h0
    subst this
    exact MSpec.of (bldString_nil_call hg) ⟨rfl, Ext.refl _ _⟩
  · rw [byteCells_len] at hg
    rw [byteCells_flat] at hK
    by_cases h0 : l = []
    · have := hnil h0; cases this
    · exact MSpec.of (bldString_call h0 hroom hg hK) ⟨rfl, (Ext.refl _ _).set (by omega) _⟩

def atomsText (rev : Int) (u : List Int) : List Atom → List UInt8
  | [] => []
  | a :: r => (if visible rev u a then a.text else []) ++ atomsText rev u r
def Fits (l : List Atom) : Prop := l.length ≤ 1000000 ∧ (∀ a ∈ l, a.cuts.length ≤ 1000000) ∧ (l.map fun a => a.text.length).sum ≤ maxRoom
theorem atomsText_len (rev : Int) (u : List Int) : ∀ l : List Atom, (atomsText rev u l).length ≤ (l.map fun a => a.text.length).sum
  | [] => by simp [atomsText]
  | a :: r => by
    have := atomsText_len rev u r
    simp only [atomsText, List.length_append, List.map_cons, List.sum_cons]
    split <;> simp <;> omega
set_option maxHeartbeats 4000000 in
theorem text_call (σ : Heap) (l : List Atom) (rev : Int) (u : List Int) (hu : u.length ≤ 1000000) (hl : Fits l) : ACall Tryz.prog n_atom_Text [eAtoms l, .int .i64 rev, ints u] σ (.str (atomsText rev u l)) σ := by
  refine bare_call (by simp only [AVal.pures, ints_pure, eAtoms_pure]; rfl) rfl (fun W F => spec_of_awp mixed c_atom_Text (tl rfl) ?_) σ
  obtain ⟨hl1, hl2, hl3⟩ := hl
  unfold f_atom_Text
  simp +decide only [↓evd, evw, evz, reduceCtorEq, ↓reduceIte, eAtoms]
  refine awp_loop (fun m fr τ => ∃ i acc, m + i = l.length ∧ fr.get 1 = .int .i64 rev ∧ fr.get 2 = ints u ∧ fr.get 7 = .ptr (.new 0) 0 ∧ fr.get 10 = eAtoms l ∧ fr.get 11 = .int .i64 l.length ∧ fr.get 12 = .int .i64 (i : Nat) ∧ IsBld τ 0 acc ∧ τ.W = W ∧ τ.F0 = F ∧
    acc ++ atomsText rev u (l.drop i) = atomsText rev u l ∧ acc.length + ((l.drop i).map fun a => a.text.length).sum ≤ maxRoom) ?_ (m := l.length) ?_
  · rintro m fr τ ⟨i, acc, hi, e1, e2, e7, e10, e11, e12, hB, hW, hF, hs, hr⟩
    by_cases hlt : i < l.length
    · have hlt' : (i : Int) < (l.length : Int) := by omega
      have hg := map_get eAtom l i hlt
      have hw := wrap_succ (i := i) (by omega)
      rw [List.drop_eq_getElem_cons hlt] at hs hr
      simp only [List.map_cons, List.sum_cons] at hr
      simp +decide only [↓evd, evw, evz, reduceCtorEq, ↓reduceIte, e1, e2, e7, e10, e11, e12, hlt', eAtoms, hg, eAtom]
      refine MSpec.of (visible_call _ l[i] rev u (by omega) (by have := hl2 _ (List.getElem_mem hlt); omega)) ?_
      have hB' := isBld_var hB (.cells [.str [], .int .i64 0, .int .i64 0, .int .i64 0, .nils] none) (.cells [.str l[i].text, .int .i64 l[i].rev, .int .i64 l[i].group, .int .i64 l[i].rank, eCuts l[i].cuts] none)
      cases hv : visible rev u l[i]
      · simp +decide only [↓evd, evw, evz, reduceCtorEq, ↓reduceIte, hv, e1, e2, e7, e10, e11, e12, hw]
        rw [atomsText, hv] at hs
        exact ⟨m - 1, by omega, i + 1, acc, by omega, rfl, hB', hW, hF, hs, by omega⟩
      · simp +decide only [↓evd, evw, evz, reduceCtorEq, ↓reduceIte, hv, e1, e2, e7, e10, e11, e12, hw]
        refine (writeString_spec _ 0 acc l[i].text hB' (by omega)).mono ?_
        rintro v ρ ⟨rfl, hB2, hE⟩
        simp +decide only [↓evd, evw, evz, reduceCtorEq, ↓reduceIte, e1, e2, e7, e10, e11, e12, hw]
        rw [atomsText, hv] at hs
        refine ⟨m - 1, by omega, i + 1, acc ++ l[i].text, by omega, rfl, hB2, hE.1.trans hW, hE.2.1.trans hF, by rw [List.append_assoc]; exact hs, by rw [List.length_append]; omega⟩
    · have hlt' : ¬ (i : Int) < (l.length : Int) := by omega
      simp +decide only [↓evd, evw, evz, reduceCtorEq, ↓reduceIte, e7, e11, e12, hlt']
      rw [List.drop_eq_nil_of_le (by omega), atomsText, List.append_nil] at hs
      refine (bldString_spec _ 0 acc hB (by omega)).mono ?_
      rintro v ρ ⟨rfl, hE⟩
      simp +decide only [↓evd, evw, evz, reduceCtorEq, ↓reduceIte]
      exact seen (by rw [hs]) (hE.1.trans hW) (hE.2.1.trans hF)
  · refine ⟨0, [], by omega, ?_⟩
    simp +decide only [↓evd, evw, evz, reduceCtorEq, ↓reduceIte]
    first | exact ⟨rfl, isBld_new ⟨W, F, .nil, 0⟩, by simpa using hl3⟩ | exact ⟨isBld_new ⟨W, F, .nil, 0⟩, by simpa using hl3⟩
theorem asBytes_app (s : List UInt8) : asBytes (byteCells s) = some s := by
  induction s with
  | nil => rfl
  | cons b s ih =>
    have e : byteCells (b :: s) = .int .u8 b.toNat :: byteCells s := rfl
    have hb := b.toNat_lt
    rw [e]
    simp only [asBytes, asByte, ih]
    simp [hb]
def places (rev : Int) (u : List Int) : List Atom → Nat → List Int
  | [], n => [(n : Int)]
  | a :: r, n => (n : Int) :: places rev u r (n + (if visible rev u a then a.text.length else 0))
theorem row_ints {B : Nat} {σ : Heap} {e : TypeId} {x : AVal} {l : List Int} (h : Row B σ e 1 x (l.map (AVal.int .i64 ·))) : ∃ τ, Sees σ x τ (ints l) ∧ τ.W = σ.W ∧ τ.F0 = σ.F0 :=
  let ⟨τ, h1, h2, h3, _⟩ := h.sees; ⟨τ, h1, h2, h3⟩
set_option maxHeartbeats 4000000 in
theorem places_call (σ : Heap) (l : List Atom) (rev : Int) (u : List Int) (hu : u.length ≤ 1000000) (hl : Fits l) : ACall Tryz.prog n_atom_Places [eAtoms l, .int .i64 rev, ints u] σ (ints (places rev u l 0)) σ := by
  refine bare_call (by simp only [AVal.pures, ints_pure, eAtoms_pure]; rfl) (ints_pure _) (fun W F => spec_of_awp mixed c_atom_Places (tl rfl) ?_) σ
  obtain ⟨hl1, hl2, hl3⟩ := hl
  unfold f_atom_Places
  have hw0 := wrap_succ (i := l.length) (by omega)
  have hm1 : (0 : Int) ≤ ((l.length + 1 : Nat) : Int) := by omega
  have hm2 : (l.length + 1) * 8 ≤ maxRoom := by unfold maxRoom; omega
  have hm3 : ((l.length + 1 : Nat) : Int) ≤ 2 ^ 62 := by omega
  simp +decide only [↓evd, evw, evz, reduceCtorEq, ↓reduceIte, hw0, hm1, hm2, hm3]
  refine awp_loop (fun m fr τ => ∃ i acc n, m + i = l.length ∧ fr.get 1 = .int .i64 rev ∧ fr.get 2 = ints u ∧ fr.get 8 = .int .i64 (n : Nat) ∧ fr.get 15 = eAtoms l ∧ fr.get 16 = .int .i64 l.length ∧ fr.get 17 = .int .i64 (i : Nat) ∧ Row 0 τ t_int 1 (fr.get 7) (acc.map (AVal.int .i64 ·)) ∧ τ.W = W ∧ τ.F0 = F ∧
    acc ++ places rev u (l.drop i) n = places rev u l 0 ∧ acc.length = i ∧ n + ((l.drop i).map fun a => a.text.length).sum ≤ maxRoom) ?_ (m := l.length) ?_
  · rintro m fr τ ⟨i, acc, n, hi, e1, e2, e8, e15, e16, e17, hR, hW, hF, hs, ha, hr⟩
    have hroom : maxRoom = 68719476736 := rfl
    by_cases hlt : i < l.length
    · have hlt' : (i : Int) < (l.length : Int) := by omega
      have hg := map_get eAtom l i hlt
      have hw := wrap_succ (i := i) (by omega)
      rw [List.drop_eq_getElem_cons hlt] at hs hr
      simp only [List.map_cons, List.sum_cons] at hr
      have hR1 := (hR.var (.cells [.str [], .int .i64 0, .int .i64 0, .int .i64 0, .nils] none) (.cells [.str l[i].text, .int .i64 l[i].rev, .int .i64 l[i].group, .int .i64 l[i].rank, .fsl 2 (l[i].cuts.map eCut)] none)).new (.cells [.int .i64 (n : Nat)] none)
      have hsrc := src_one (σ := ((τ.new (.cells [.str [], .int .i64 0, .int .i64 0, .int .i64 0, .nils] none)).set τ.next (.cells [.str l[i].text, .int .i64 l[i].rev, .int .i64 l[i].group, .int .i64 l[i].rank, .fsl 2 (l[i].cuts.map eCut)] none)).new (.cells [.int .i64 (n : Nat)] none)) (K := τ.next + 1) (k := 1) (cs := [.int .i64 (n : Nat)]) (opn := none) (z := .int .i64 (n : Nat)) (cap := .ex 1)
        (by simp +decide only [↓evd, evw, evz, reduceCtorEq, ↓reduceIte]) rfl rfl
      obtain ⟨x', ρ, g1, g2, g3, g4⟩ := row_app (bytes := 8) hR1 (Nat.zero_le _) hsrc.1 hsrc.2 (by intro z hz; simp at hz; subst hz; rfl) rfl (by omega) (by omega) (by simp; omega)
      have hne : τ.next + 1 ≠ τ.next := by omega
      have hkeep : ρ.get τ.next = some (.cells [.str l[i].text, .int .i64 l[i].rev, .int .i64 l[i].group, .int .i64 l[i].rank, .fsl 2 (l[i].cuts.map eCut)] none) := by
        rw [g4 τ.next (by simp; omega) (fun K o n c e => by have := hR.low e; omega)]
        simp +decide only [↓evd, evw, evz, reduceCtorEq, ↓reduceIte, hne]
      simp +decide only [↓evd, evw, evz, reduceCtorEq, ↓reduceIte, e1, e2, e8, e15, e16, e17, hlt', hg, g1, hkeep]
      refine MSpec.of (visible_call _ l[i] rev u (by omega) (by have := hl2 _ (List.getElem_mem hlt); omega)) ?_
      have hR2 : Row 0 ρ t_int 1 x' ((acc ++ [(n : Int)]).map (AVal.int .i64 ·)) := by rw [List.map_append]; exact g2
      cases hv : visible rev u l[i]
      · simp +decide only [↓evd, evw, evz, reduceCtorEq, ↓reduceIte, hv, e1, e2, e8, e15, e16, e17, hw, hkeep]
        simp only [places, hv] at hs
        exact ⟨m - 1, by omega, i + 1, acc ++ [(n : Int)], n, by omega, rfl, rfl, hR2, g3.1.trans hW, g3.2.1.trans hF, by rw [List.append_assoc]; exact hs, by simp [ha], by omega⟩
      · have hwn : IntKind.i64.wrap ((n : Int) + (l[i].text.length : Int)) = ((n + l[i].text.length : Nat) : Int) := by rw [wrap_id (by omega) (by omega)]; rfl
        simp +decide only [↓evd, evw, evz, reduceCtorEq, ↓reduceIte, hv, e1, e2, e8, e15, e16, e17, hw, hkeep, hwn]
        simp only [places, hv] at hs
        exact ⟨m - 1, by omega, i + 1, acc ++ [(n : Int)], n + l[i].text.length, by omega, rfl, rfl, hR2, g3.1.trans hW, g3.2.1.trans hF, by rw [List.append_assoc]; exact hs, by simp [ha], by omega⟩
    · have hlt' : ¬ (i : Int) < (l.length : Int) := by omega
      have hsrc := src_one (σ := τ.new (.cells [.int .i64 (n : Nat)] none)) (K := τ.next) (k := 1) (cs := [.int .i64 (n : Nat)]) (opn := none) (z := .int .i64 (n : Nat)) (cap := .ex 1) (by simp +decide only [↓evd, evw, evz, reduceCtorEq, ↓reduceIte]) rfl rfl
      obtain ⟨x', ρ, g1, g2, g3, g4⟩ := row_app (bytes := 8) (hR.new (.cells [.int .i64 (n : Nat)] none)) (Nat.zero_le _) hsrc.1 hsrc.2 (by intro z hz; simp at hz; subst hz; rfl) rfl (by omega) (by omega) (by simp; omega)
      simp +decide only [↓evd, evw, evz, reduceCtorEq, ↓reduceIte, e8, e16, e17, hlt', g1]
      rw [List.drop_eq_nil_of_le (by omega), places] at hs
      have hR2 : Row 0 ρ t_int 1 x' ((places rev u l 0).map (AVal.int .i64 ·)) := by rw [← hs, List.map_append]; exact g2
      obtain ⟨τ', h1, h2, h3⟩ := row_ints hR2
      exact ⟨τ', h1, h2.trans (g3.1.trans hW), h3.trans (g3.2.1.trans hF)⟩
  · refine ⟨0, [], 0, by omega, ?_⟩
    simp +decide only [↓evd, evw, evz, reduceCtorEq, ↓reduceIte]
    first | exact ⟨rfl, rfl, Row.make (Nat.zero_le _) _ _ _ _ _ (by simp), by simpa using hl3⟩ | exact ⟨rfl, Row.make (Nat.zero_le _) _ _ _ _ _ (by simp), by simpa using hl3⟩ | exact ⟨Row.make (Nat.zero_le _) _ _ _ _ _ (by simp), by simpa using hl3⟩
theorem cuts_row (l : List Cut) : ∀ z ∈ l.map eCut, z.cells.length = 2 := by
  intro z hz; rw [List.mem_map] at hz; obtain ⟨x, _, rfl⟩ := hz; rfl
theorem cuts_cell (l : List Cut) : ((l.map eCut).flatMap AVal.cells).all AVal.isCell = true := by
  induction l with
  | nil => rfl
  | cons c l ih => simp only [List.map_cons, List.flatMap_cons, List.all_append, ih, Bool.and_true]; rfl
theorem atoms_row (l : List Atom) : ∀ z ∈ l.map eAtom, z.cells.length = 5 := by
  intro z hz; rw [List.mem_map] at hz; obtain ⟨x, _, rfl⟩ := hz; rfl
theorem atoms_cell (l : List Atom) : ((l.map eAtom).flatMap AVal.cells).all AVal.isCell = true := by
  induction l with
  | nil => rfl
  | cons c l ih => simp only [List.map_cons, List.flatMap_cons, List.all_append, ih, Bool.and_true]; rfl
abbrev t_Cut : TypeId := 130
set_option maxHeartbeats 1000000 in
theorem clone_cuts_call (σ : Heap) (l : List Cut) (hl : l.length ≤ 1000000) : ACall Tryz.prog n_slices_Clone_api_Cut_api_Cut [eCuts l] σ (eCuts l) σ := by
  cases l with
  | nil =>
    refine acall_empty (l := []) (r := []) ?_ ?_
    · refine bare_call rfl rfl (fun W F => spec_of_awp mixed c_slices_Clone_api_Cut_api_Cut (tl rfl) ?_) σ
      unfold f_slices_Clone_api_Cut_api_Cut
      simp +decide only [↓evd, evw, evz, reduceCtorEq, ↓reduceIte]
      exact ⟨_, Sees.nils _ _, rfl, rfl⟩
    · refine bare_call rfl rfl (fun W F => spec_of_awp mixed c_slices_Clone_api_Cut_api_Cut (tl rfl) ?_) σ
      unfold f_slices_Clone_api_Cut_api_Cut
      simp +decide only [↓evd, evw, evz, reduceCtorEq, ↓reduceIte]
      have e : aApp t_Cut 2 16 (.slc (.new 0) 0 0 (.ex 0)) .emp ((⟨W, F, .nil, 0⟩ : Heap).new (.cells [] none)) = some (.slc (.new 0) 0 0 (.ex 0), (⟨W, F, .nil, 0⟩ : Heap).new (.cells [] none)) := rfl
      simp only [e, ↓evd, evw, evz, reduceCtorEq, ↓reduceIte]
      obtain ⟨τ, h1, h2, h3, _⟩ := (Row.make (B := 0) (σ := ⟨W, F, .nil, 0⟩) (Nat.zero_le _) t_Cut 2 0 [] none rfl).sees
      exact ⟨τ, h1, h2, h3⟩
  | cons c l =>
    refine bare_call (by simp only [AVal.pures, eCuts_pure]; rfl) (eCuts_pure _) (fun W F => spec_of_awp mixed c_slices_Clone_api_Cut_api_Cut (tl rfl) ?_) σ
    unfold f_slices_Clone_api_Cut_api_Cut
    obtain ⟨x', ρ, g1, g2, g3, _⟩ := row_app (e := t_Cut) (bytes := 16) (Row.make (B := 0) (σ := ⟨W, F, .nil, 0⟩) (Nat.zero_le _) t_Cut 2 0 [] none rfl) (Nat.zero_le _) rfl (src_fsl _ 2 ((c :: l).map eCut)).2
      (cuts_row _) (cuts_cell _) (by omega) (by omega) (by have : maxRoom = 68719476736 := rfl; simp only [List.length_map]; simp only [List.length_cons, List.length_nil] at *; omega)
    simp only [List.map_cons, eCut] at g1
    simp +decide only [↓evd, evw, evz, reduceCtorEq, ↓reduceIte, g1]
    obtain ⟨τ, h1, h2, h3, _⟩ := g2.sees
    exact ⟨τ, h1, h2.trans g3.1, h3.trans g3.2.1⟩
set_option maxHeartbeats 4000000 in
theorem copy_call (σ : Heap) (l : List Atom) (hl : l.length ≤ 1000000) (hc : ∀ a ∈ l, a.cuts.length ≤ 1000000) : ACall Tryz.prog n_atom_Copy [eAtoms l] σ (eAtoms l) σ := by
  refine bare_call (by simp only [AVal.pures, eAtoms_pure]; rfl) (eAtoms_pure _) (fun W F => spec_of_awp mixed c_atom_Copy (tl rfl) ?_) σ
  unfold f_atom_Copy
  have hm0 : (0 : Int) ≤ (l.length : Int) := by omega
  have hm2 : l.length * 64 ≤ maxRoom := by unfold maxRoom; omega
  have hm3 : (l.length : Int) ≤ 2 ^ 62 := by omega
  obtain ⟨σ1, g1, g2, g3, g4, g5, _⟩ := copy_whole (σ := (⟨W, F, .nil, 0⟩ : Heap).new (.cells (List.replicate l.length [AVal.str [], AVal.int IntKind.i64 0, AVal.int IntKind.i64 0, AVal.int IntKind.i64 0, AVal.nils]).flatten none)) (K := 0) (k := 5) (els := l.map eAtom) (cap := .ex l.length)
    (by rw [Heap.get_new, if_pos rfl]) (atoms_row l) (by show (repl l.length _).length = _; rw [repl_len, List.length_map]; rfl) (atoms_cell l)
  rw [List.length_map] at g1
  simp +decide only [↓evd, evw, evz, reduceCtorEq, ↓reduceIte, hm0, hm2, hm3]
  simp +decide only [↓evd, evw, evz, reduceCtorEq, ↓reduceIte, g1]
  refine awp_loop (fun m fr τ => ∃ i, m + i = l.length ∧ fr.get 3 = .slc (.new 0) 0 l.length (.ex l.length) ∧ fr.get 12 = .int .i64 l.length ∧ fr.get 13 = .int .i64 (i : Nat) ∧ τ.get 0 = some (.cells ((l.map eAtom).flatMap AVal.cells) none) ∧ τ.W = W ∧ τ.F0 = F) ?_ (m := l.length) ?_
  · rintro m fr τ ⟨i, hi, e3, e12, e13, hg, hW, hF⟩
    by_cases hlt : i < l.length
    · have hlt' : (i : Int) < (l.length : Int) := by omega
      have hw := wrap_succ (i := i) (by omega)
      have hge := map_get eAtom l i hlt
      have hcell := flat_cell (atoms_row l) hge (j := 4) (by omega)
      have hcell' : ((l.map eAtom).flatMap AVal.cells)[i * 5 + 4]? = some (eCuts l[i].cuts) := by rw [hcell]; rfl
      have hlen : i * 5 + 4 + 1 ≤ ((l.map eAtom).flatMap AVal.cells).length := by rw [flat_len (atoms_row l), List.length_map]; omega
      have hov := over_same _ _ _ hcell'
      simp +decide only [↓evd, evw, evz, reduceCtorEq, ↓reduceIte, e3, e12, e13, hlt', hg, hcell']
      refine MSpec.of (clone_cuts_call _ l[i].cuts (hc _ (List.getElem_mem hlt))) ?_
      have hlen' : decide (i * 5 + 4 + 1 ≤ ((l.map eAtom).flatMap AVal.cells).length) = true := by simpa using hlen
      simp only [over, eCuts, List.length_cons, List.length_nil, Nat.zero_add] at hov
      simp +decide only [↓evd, evw, evz, reduceCtorEq, ↓reduceIte, e3, e12, e13, hlt', hg, hw, hlen']
      exact ⟨m - 1, by omega, i + 1, by omega, rfl, by rw [hov], hW, hF⟩
    · have hlt' : ¬ (i : Int) < (l.length : Int) := by omega
      simp +decide only [↓evd, evw, evz, reduceCtorEq, ↓reduceIte, e3, e12, e13, hlt']
      refine ⟨τ.set 0 .dead, ?_, hW, hF⟩
      refine Sees.own (els := l.map eAtom) hg (List.length_map _) (atoms_row l) ?_ (fun c hc => by cases hc; exact Nat.le_refl _)
      rw [List.drop_zero, List.take_of_length_le (by rw [flat_len (atoms_row l), List.length_map]; omega)]
  · refine ⟨0, by omega, ?_⟩
    simp +decide only [↓evd, evw, evz, reduceCtorEq, ↓reduceIte]
    first | exact ⟨rfl, g2, g3, g4⟩ | exact ⟨g2, g3, g4⟩
end Go.Proofs.YtkjikdohnomajaaGreat.M
namespace Go.Proofs.YtkjikdohnomajaaGreat.M
open Go Go.Mini
theorem fin_byte {p : Nat → Prop} (h : ∀ c : Fin 256, p c.val) (b : UInt8) : p b.toNat := h ⟨b.toNat, b.toNat_lt⟩
theorem and192 (b : UInt8) : bitOp .and .u8 (b.toNat : Int) 192 = ((b.toNat / 64 * 64 : Nat) : Int) := fin_byte (p := fun n => bitOp .and .u8 (n : Int) 192 = ((n / 64 * 64 : Nat) : Int)) (by decide +kernel) b
theorem and128 (b : UInt8) : bitOp .and .u8 (b.toNat : Int) 128 = ((b.toNat / 128 * 128 : Nat) : Int) := fin_byte (p := fun n => bitOp .and .u8 (n : Int) 128 = ((n / 128 * 128 : Nat) : Int)) (by decide +kernel) b
theorem and224 (b : UInt8) : bitOp .and .u8 (b.toNat : Int) 224 = ((b.toNat / 32 * 32 : Nat) : Int) := fin_byte (p := fun n => bitOp .and .u8 (n : Int) 224 = ((n / 32 * 32 : Nat) : Int)) (by decide +kernel) b
theorem and240 (b : UInt8) : bitOp .and .u8 (b.toNat : Int) 240 = ((b.toNat / 16 * 16 : Nat) : Int) := fin_byte (p := fun n => bitOp .and .u8 (n : Int) 240 = ((n / 16 * 16 : Nat) : Int)) (by decide +kernel) b
theorem and248 (b : UInt8) : bitOp .and .u8 (b.toNat : Int) 248 = ((b.toNat / 8 * 8 : Nat) : Int) := fin_byte (p := fun n => bitOp .and .u8 (n : Int) 248 = ((n / 8 * 8 : Nat) : Int)) (by decide +kernel) b
theorem not192 (b : UInt8) : bitOp .andNot .u8 (b.toNat : Int) 192 = ((b.toNat % 64 : Nat) : Int) := fin_byte (p := fun n => bitOp .andNot .u8 (n : Int) 192 = ((n % 64 : Nat) : Int)) (by decide +kernel) b
theorem not128 (b : UInt8) : bitOp .andNot .u8 (b.toNat : Int) 128 = ((b.toNat % 128 : Nat) : Int) := fin_byte (p := fun n => bitOp .andNot .u8 (n : Int) 128 = ((n % 128 : Nat) : Int)) (by decide +kernel) b
theorem not224 (b : UInt8) : bitOp .andNot .u8 (b.toNat : Int) 224 = ((b.toNat % 32 : Nat) : Int) := fin_byte (p := fun n => bitOp .andNot .u8 (n : Int) 224 = ((n % 32 : Nat) : Int)) (by decide +kernel) b
theorem not240 (b : UInt8) : bitOp .andNot .u8 (b.toNat : Int) 240 = ((b.toNat % 16 : Nat) : Int) := fin_byte (p := fun n => bitOp .andNot .u8 (n : Int) 240 = ((n % 16 : Nat) : Int)) (by decide +kernel) b
theorem not248 (b : UInt8) : bitOp .andNot .u8 (b.toNat : Int) 248 = ((b.toNat % 8 : Nat) : Int) := fin_byte (p := fun n => bitOp .andNot .u8 (n : Int) 248 = ((n % 8 : Nat) : Int)) (by decide +kernel) b
theorem wrap32 {x : Nat} (h : x < 2147483648) : IntKind.i32.wrap (x : Int) = (x : Int) := by
  have e1 : (2 : Int) ^ 32 = 4294967296 := by decide
  have e2 : (2 : Int) ^ (32 - 1) = 2147483648 := by decide
  simp only [IntKind.wrap, IntKind.bits, IntKind.signed, Bool.true_and, decide_eq_true_eq, e1, e2]
  split <;> omega
theorem or6 {x y : Nat} (hx : x < 33554432) (hy : y < 64) : bitOp .or .i32 ((x * 64 : Nat) : Int) (y : Int) = ((x * 64 + y : Nat) : Int) := by
  have h1 : (BitVec.ofInt 32 ((x * 64 : Nat) : Int)).toNat = x * 64 := by
    rw [BitVec.toNat_ofInt]; norm_cast; exact Nat.mod_eq_of_lt (by omega)
  have h2 : (BitVec.ofInt 32 (y : Int)).toNat = y := by
    rw [BitVec.toNat_ofInt]; norm_cast; exact Nat.mod_eq_of_lt (by omega)
  have h3 : (BitVec.ofInt 32 ((x * 64 : Nat) : Int) ||| BitVec.ofInt 32 (y : Int)).toNat = x * 64 + y := by
    rw [BitVec.toNat_or, h1, h2]
    have := Nat.shiftLeft_add_eq_or_of_lt (b := y) (i := 6) (by simpa using hy) x
    rw [Nat.shiftLeft_eq] at this
    exact this.symm
  simp only [bitOp]
  show IntKind.i32.wrap (((BitVec.ofInt 32 ((x * 64 : Nat) : Int) ||| BitVec.ofInt 32 (y : Int)).toNat : Nat) : Int) = _
  rw [h3, wrap32 (by omega)]
theorem shl6 {x : Nat} (hx : x < 33554432) : IntKind.i32.wrap ((x : Int) * 2 ^ (min 6 (IntKind.bits .i32))) = ((x * 64 : Nat) : Int) := by
  have e : (2 : Int) ^ (min 6 (IntKind.bits .i32)) = 64 := by decide
  rw [e, show (x : Int) * 64 = ((x * 64 : Nat) : Int) by push_cast; rfl, wrap32 (by omega)]

def isPt (x : Nat) : Bool := decide (x ≤ 1114111) && (decide (x < 55296) || decide (57343 < x))
def conts : Nat → Nat → List UInt8 → Option Nat
  | v, 0, _ => some v
  | v, k + 1, b :: r => if b.toNat / 64 = 2 then conts (v * 64 + b.toNat % 64) k r else none
  | _, _ + 1, [] => none
def ptN (v n least : Nat) (r : List UInt8) : Nat × Nat := match conts v (n - 1) r with
  | some x => if x < least || !isPt x then (0, 0) else (x, n)
  | none => (0, 0)
def pt : List UInt8 → Nat × Nat
  | [] => (0, 0)
  | a :: r =>
    if a.toNat < 128 then (a.toNat, 1)
    else if a.toNat / 32 = 6 then ptN (a.toNat % 32) 2 128 r
    else if a.toNat / 16 = 14 then ptN (a.toNat % 16) 3 2048 r
    else if a.toNat / 8 = 30 then ptN (a.toNat % 8) 4 65536 r
    else (0, 0)
theorem conts_short : ∀ (k v : Nat) (r : List UInt8), r.length < k → conts v k r = none
  | 0, _, _, h => by omega
  | k + 1, v, [], _ => rfl
  | k + 1, v, b :: r, h => by
    simp only [conts]
    split
    · exact conts_short k _ r (by simpa using h)
    · rfl
end Go.Proofs.YtkjikdohnomajaaGreat.M
namespace Go.Proofs.YtkjikdohnomajaaGreat.M
open Go Go.Mini
attribute [local congr] go1_congr goM_congr goG_congr goV_congr
theorem isPoint_call (σ : Heap) (x : Nat) : ACall Tryz.prog n_utf_isPoint [.int .i32 (x : Int)] σ (.bool (isPt x)) σ := by
  refine bare_call rfl rfl (fun W F => spec_of_awp mixed c_utf_isPoint (tl rfl) ?_) σ
  unfold f_utf_isPoint
  have h0 : (0 : Int) ≤ (x : Int) := by omega
  by_cases h1 : (x : Int) ≤ 1114111
  · by_cases h2 : (x : Int) < 55296
    · simp only [↓evd, evu, evf, implies_true, reduceCtorEq, Nat.reduceEqDiff, ↓reduceIte, Nat.reduceAdd, Nat.reduceLeDiff, Nat.reduceLT, Nat.reduceMul, Int.reduceLT, Int.reduceLE, Int.reduceToNat, evz, h0, h1, h2]
      exact seen (by simp only [isPt]; rw [decide_eq_true (show x ≤ 1114111 by omega), decide_eq_true (show x < 55296 by omega)]; rfl) rfl rfl
    · simp only [↓evd, evu, evf, implies_true, reduceCtorEq, Nat.reduceEqDiff, ↓reduceIte, Nat.reduceAdd, Nat.reduceLeDiff, Nat.reduceLT, Nat.reduceMul, Int.reduceLT, Int.reduceLE, Int.reduceToNat, evz, h0, h1, h2]
      refine seen ?_ rfl rfl
      simp only [isPt]; rw [decide_eq_true (show x ≤ 1114111 by omega), decide_eq_false (show ¬ x < 55296 by omega)]
      simp only [Bool.true_and, Bool.false_or, AVal.bool.injEq, decide_eq_decide]; omega
  · simp only [↓evd, evu, evf, implies_true, reduceCtorEq, Nat.reduceEqDiff, ↓reduceIte, Nat.reduceAdd, Nat.reduceLeDiff, Nat.reduceLT, Nat.reduceMul, Int.reduceLT, Int.reduceLE, Int.reduceToNat, evz, h0, h1]
    exact seen (by simp only [isPt]; rw [decide_eq_false (show ¬ x ≤ 1114111 by omega)]; rfl) rfl rfl
set_option maxHeartbeats 4000000 in
theorem long_call (σ : Heap) (s : List UInt8) (at' n mask first least v : Nat) (hs : s.length ≤ maxRoom) (ha : at' < s.length) (hn1 : 1 ≤ n) (hn4 : n ≤ 4) (hv : v < 128)
    (hm : bitOp .andNot .u8 (s[at'].toNat : Int) mask = (v : Int)) :
    ACall Tryz.prog n_utf_long [.str s, .int .i64 (at' : Int), .int .i64 (n : Int), .agg [.int .u8 (mask : Int), .int .u8 (first : Int), .int .i32 (least : Int)]] σ (.tup [.int .i32 ((ptN v n least (s.drop (at' + 1))).1 : Int), .int .i64 ((ptN v n least (s.drop (at' + 1))).2 : Int)]) σ := by
  refine bare_call rfl rfl (fun W F => spec_of_awp mixed c_utf_long (tl rfl) ?_) σ
  unfold f_utf_long
  have hroom : maxRoom = 68719476736 := rfl
  have hw0 : IntKind.i64.wrap ((s.length : Int) - (at' : Int)) = ((s.length - at' : Nat) : Int) := by rw [wrap_id (by omega) (by omega)]; omega
  by_cases hlen : s.length - at' < n
  · have hlen' : ((s.length - at' : Nat) : Int) < (n : Int) := by omega
    simp only [↓evd, evu, evf, implies_true, reduceCtorEq, Nat.reduceEqDiff, ↓reduceIte, Nat.reduceAdd, Nat.reduceLeDiff, Nat.reduceLT, Nat.reduceMul, Int.reduceLT, Int.reduceLE, Int.reduceToNat, evz, hw0, hlen']
    refine seen ?_ rfl rfl
    simp only [ptN]
    rw [conts_short _ _ _ (by rw [List.length_drop]; omega)]; rfl
  · have hlen' : ¬ ((s.length - at' : Nat) : Int) < (n : Int) := by omega
    have hga : s[at']? = some s[at'] := List.getElem?_eq_getElem ha
    have hz : (0 : Int) ≤ (at' : Int) := by omega
    simp only [↓evd, evu, evf, implies_true, reduceCtorEq, Nat.reduceEqDiff, ↓reduceIte, Nat.reduceAdd, Nat.reduceLeDiff, Nat.reduceLT, Nat.reduceMul, Int.reduceLT, Int.reduceLE, Int.reduceToNat, evz, hw0, hlen']
    refine draw_of_grow (fun k => k < 1) (ms := [false, false, false, false, false, false, false, false]) (by kernel_rfl) ?_
    have hw1 := wrap32 (x := v) (by omega)
    simp only [↓evd, evu, evf, implies_true, reduceCtorEq, Nat.reduceEqDiff, ↓reduceIte, Nat.reduceAdd, Nat.reduceLeDiff, Nat.reduceLT, Nat.reduceMul, Int.reduceLT, Int.reduceLE, Int.reduceToNat, evz, aIdxS, hz, hga, hm, hw1]
    refine awp_loop (fun m fr τ => ∃ i x, m + i = n ∧ 1 ≤ i ∧ i ≤ n ∧ fr.get 0 = .str s ∧ fr.get 1 = .int .i64 (at' : Int) ∧ fr.get 2 = .int .i64 (n : Int) ∧ fr.get 7 = .ptr (.new 0) 0 ∧ fr.get 10 = .int .i32 (x : Nat) ∧ fr.get 11 = .int .i64 (i : Nat) ∧ x < 128 * 64 ^ (i - 1) ∧
      τ = (⟨W, F, .nil, 0⟩ : Heap).new (.cells [.int .u8 (mask : Int), .int .u8 (first : Int), .int .i32 (least : Int)] none) ∧ conts x (n - i) (s.drop (at' + i)) = conts v (n - 1) (s.drop (at' + 1))) ?_ (m := n - 1) ?_
    · rintro m fr τ ⟨i, x, hi, hi1, hi2, e0, e1, e2, e7, e10, e11, hx, rfl, hc⟩
      have hx25 : x < 33554432 := by
        have : i - 1 ≤ 3 := by omega
        have : 64 ^ (i - 1) ≤ 64 ^ 3 := Nat.pow_le_pow_right (by omega) this
        have : (64 : Nat) ^ 3 = 262144 := by decide
        omega
      by_cases hlt : i < n
      · have hlt' : (i : Int) < (n : Int) := by omega
        have hai : at' + i < s.length := by omega
        have hw2 : IntKind.i64.wrap ((at' : Int) + (i : Int)) = ((at' + i : Nat) : Int) := by rw [wrap_id (by omega) (by omega)]; omega
        have hgi : s[at' + i]? = some s[at' + i] := List.getElem?_eq_getElem hai
        have hw := wrap_succ (i := i) (by omega)
        obtain ⟨k, hk⟩ : ∃ k, n - i = k + 1 := ⟨n - i - 1, by omega⟩
        rw [List.drop_eq_getElem_cons hai, hk, conts] at hc
        by_cases hb : s[at' + i].toNat / 64 = 2
        · rw [if_pos hb] at hc
          have hb' : (((s[at' + i].toNat / 64 * 64 : Nat) : Int) != 128) = false := by rw [hb]; rfl
          have hs6 := shl6 hx25
          have hs7 := wrap32 (x := s[at' + i].toNat % 64) (by omega)
          have hs8 := or6 hx25 (y := s[at' + i].toNat % 64) (Nat.mod_lt _ (by omega))
          simp only [↓evd, evu, evf, implies_true, reduceCtorEq, Nat.reduceEqDiff, ↓reduceIte, Nat.reduceAdd, Nat.reduceLeDiff, Nat.reduceLT, Nat.reduceMul, Int.reduceLT, Int.reduceLE, Int.reduceToNat, evz, aIdxS, e0, e1, e2, e7, e10, e11, hlt', hw2, hgi, and192, not192, hb', hs6, hs7, hs8, hw]
          refine ⟨m - 1, by omega, i + 1, x * 64 + s[at' + i].toNat % 64, by omega, by omega, by omega, rfl, rfl, ?_, ?_⟩
          · obtain ⟨j, rfl⟩ : ∃ j, i = j + 1 := ⟨i - 1, by omega⟩
            simp only [Nat.add_sub_cancel] at hx ⊢
            rw [Nat.pow_succ]
            have : s[at' + (j + 1)].toNat % 64 < 64 := Nat.mod_lt _ (by omega)
            omega
          · have e : n - (i + 1) = k := by omega
            rw [e]; exact hc
        · rw [if_neg hb] at hc
          have hb' : (((s[at' + i].toNat / 64 * 64 : Nat) : Int) != 128) = true := by
            rw [bne_iff_ne]; intro h; apply hb; omega
          simp only [↓evd, evu, evf, implies_true, reduceCtorEq, Nat.reduceEqDiff, ↓reduceIte, Nat.reduceAdd, Nat.reduceLeDiff, Nat.reduceLT, Nat.reduceMul, Int.reduceLT, Int.reduceLE, Int.reduceToNat, evz, aIdxS, e0, e1, e2, e7, e10, e11, hlt', hw2, hgi, and192, hb']
          refine seen ?_ rfl rfl
          simp only [ptN]; rw [← hc]; rfl
      · have hlt' : ¬ (i : Int) < (n : Int) := by omega
        have hin : n - i = 0 := by omega
        rw [hin, conts] at hc
        by_cases hl : x < least
        · have hl' : (x : Int) < (least : Int) := by omega
          simp only [↓evd, evu, evf, implies_true, reduceCtorEq, Nat.reduceEqDiff, ↓reduceIte, Nat.reduceAdd, Nat.reduceLeDiff, Nat.reduceLT, Nat.reduceMul, Int.reduceLT, Int.reduceLE, Int.reduceToNat, evz, e0, e1, e2, e7, e10, e11, hlt', hl']
          refine seen ?_ rfl rfl
          simp only [ptN]; rw [← hc]; simp [hl]
        · have hl' : ¬ (x : Int) < (least : Int) := by omega
          simp only [↓evd, evu, evf, implies_true, reduceCtorEq, Nat.reduceEqDiff, ↓reduceIte, Nat.reduceAdd, Nat.reduceLeDiff, Nat.reduceLT, Nat.reduceMul, Int.reduceLT, Int.reduceLE, Int.reduceToNat, evz, e0, e1, e2, e7, e10, e11, hlt', hl']
          refine MSpec.of (isPoint_call _ x) ?_
          cases hp : isPt x
          · simp only [↓evd, evu, evf, implies_true, reduceCtorEq, Nat.reduceEqDiff, ↓reduceIte, Nat.reduceAdd, Nat.reduceLeDiff, Nat.reduceLT, Nat.reduceMul, Int.reduceLT, Int.reduceLE, Int.reduceToNat, evz, hp, e2, e10]
            refine seen ?_ rfl rfl
            simp only [ptN]; rw [← hc]; simp [hl, hp]
          · simp only [↓evd, evu, evf, implies_true, reduceCtorEq, Nat.reduceEqDiff, ↓reduceIte, Nat.reduceAdd, Nat.reduceLeDiff, Nat.reduceLT, Nat.reduceMul, Int.reduceLT, Int.reduceLE, Int.reduceToNat, evz, hp, e2, e10]
            refine seen ?_ rfl rfl
            simp only [ptN]; rw [← hc]; simp [hl, hp]
    · refine ⟨1, v, by omega, by omega, by omega, ?_⟩
      simp only [↓evd, evu, evf, implies_true, reduceCtorEq, Nat.reduceEqDiff, ↓reduceIte, Nat.reduceAdd, Nat.reduceLeDiff, Nat.reduceLT, Nat.reduceMul, Int.reduceLT, Int.reduceLE, Int.reduceToNat, evz]
      simpa using hv
def formCells : List AVal := [.int .u8 128, .int .u8 0, .int .i32 0, .int .u8 224, .int .u8 192, .int .i32 128, .int .u8 240, .int .u8 224, .int .i32 2048, .int .u8 248, .int .u8 240, .int .i32 65536]
theorem forms_call (σ : Heap) : ACall Tryz.prog n_utf_forms [] σ (.agg formCells) σ := by
  refine bare_call rfl rfl (fun W F => spec_of_awp mixed c_utf_forms (tl rfl) ?_) σ
  unfold f_utf_forms
  simp only [↓evd, evu, evf, implies_true, reduceCtorEq, Nat.reduceEqDiff, ↓reduceIte, Nat.reduceAdd, Nat.reduceLeDiff, Nat.reduceLT, Nat.reduceMul, Int.reduceLT, Int.reduceLE, Int.reduceToNat, evz, Nat.reduceSub, Nat.reduceLeDiff]
  exact seen rfl rfl rfl
def ptAt (s : List UInt8) (i : Int) : Nat × Nat := if i < 0 then (0, 0) else pt (s.drop i.toNat)
set_option maxHeartbeats 8000000 in
theorem point_call (σ : Heap) (s : List UInt8) (at' : Int) (hs : s.length ≤ maxRoom) : ACall Tryz.prog n_utf_point [.str s, .int .i64 at'] σ (.tup [.int .i32 ((ptAt s at').1 : Int), .int .i64 ((ptAt s at').2 : Int)]) σ := by
  refine bare_call rfl rfl (fun W F => spec_of_awp mixed c_utf_point (tl rfl) ?_) σ
  unfold f_utf_point
  by_cases h0 : at' < 0
  · simp only [↓evd, evu, evf, implies_true, reduceCtorEq, Nat.reduceEqDiff, ↓reduceIte, Nat.reduceAdd, Nat.reduceLeDiff, Nat.reduceLT, Nat.reduceMul, Int.reduceLT, Int.reduceLE, Int.reduceToNat, evz, h0]
    exact seen (by simp [ptAt, h0]) rfl rfl
  by_cases h1 : (s.length : Int) ≤ at'
  · simp only [↓evd, evu, evf, implies_true, reduceCtorEq, Nat.reduceEqDiff, ↓reduceIte, Nat.reduceAdd, Nat.reduceLeDiff, Nat.reduceLT, Nat.reduceMul, Int.reduceLT, Int.reduceLE, Int.reduceToNat, evz, h0, h1]
    refine seen ?_ rfl rfl
    simp only [ptAt, if_neg h0]
    rw [List.drop_eq_nil_of_le (by omega)]; rfl
  obtain ⟨j, rfl⟩ : ∃ j : Nat, at' = (j : Int) := ⟨at'.toNat, by omega⟩
  have hj : j < s.length := by omega
  have hgj : s[j]? = some s[j] := List.getElem?_eq_getElem hj
  have hpt : ptAt s (j : Int) = pt (s[j] :: s.drop (j + 1)) := by
    simp only [ptAt, if_neg h0, Int.toNat_natCast]; rw [List.drop_eq_getElem_cons hj]
  rw [hpt]
  have hroom : maxRoom = 68719476736 := rfl
  have hb := s[j].toNat_lt
  simp only [↓evd, evu, evf, implies_true, reduceCtorEq, Nat.reduceEqDiff, ↓reduceIte, Nat.reduceAdd, Nat.reduceLeDiff, Nat.reduceLT, Nat.reduceMul, Int.reduceLT, Int.reduceLE, Int.reduceToNat, evz, h0, h1]
  refine MSpec.of (forms_call _) ?_
  simp only [↓evd, evu, evf, implies_true, reduceCtorEq, Nat.reduceEqDiff, ↓reduceIte, Nat.reduceAdd, Nat.reduceLeDiff, Nat.reduceLT, Nat.reduceMul, Int.reduceLT, Int.reduceLE, Int.reduceToNat, evz]
  refine awp_loop_unroll ?_
  have w1 : IntKind.i64.wrap (1 : Int) = 1 := by decide
  have w2 : IntKind.i64.wrap ((1 : Int) + 1) = 2 := by decide
  have w3 : IntKind.i64.wrap ((2 : Int) + 1) = 3 := by decide
  have w4 : IntKind.i64.wrap ((3 : Int) + 1) = 4 := by decide
  have hj0 : (0 : Int) ≤ (j : Int) := by omega
  simp only [↓evd, evu, evf, implies_true, reduceCtorEq, Nat.reduceEqDiff, ↓reduceIte, Nat.reduceAdd, Nat.reduceLeDiff, Nat.reduceLT, Nat.reduceMul, Int.reduceLT, Int.reduceLE, Int.reduceToNat, evz, aIdxG, formCells, Nat.reduceSub]
  refine draw_of_grow (fun k => k < 1) (ms := [false, false, false, false, false, false, false, false, false]) (by kernel_rfl) ?_
  by_cases c1 : s[j].toNat < 128
  · have e1 : (((s[j].toNat / 128 * 128 : Nat) : Int) == 0) = true := by rw [beq_iff_eq]; omega
    have n1 : bitOp .andNot .u8 (s[j].toNat : Int) (128 : Nat) = ((s[j].toNat : Nat) : Int) := by
      have := not128 s[j]; rw [Nat.mod_eq_of_lt c1] at this; exact this
    simp only [↓evd, evu, evf, implies_true, reduceCtorEq, Nat.reduceEqDiff, ↓reduceIte, Nat.reduceAdd, Nat.reduceLeDiff, Nat.reduceLT, Nat.reduceMul, Int.reduceLT, Int.reduceLE, Int.reduceToNat, evz, hj0, hgj, and128, e1, w1]
    refine MSpec.of (long_call _ s j 1 128 0 0 s[j].toNat hs hj (by omega) (by omega) c1 n1) ?_
    simp only [↓evd, evu, evf, implies_true, reduceCtorEq, Nat.reduceEqDiff, ↓reduceIte, Nat.reduceAdd, Nat.reduceLeDiff, Nat.reduceLT, Nat.reduceMul, Int.reduceLT, Int.reduceLE, Int.reduceToNat, evz]
    refine seen ?_ rfl rfl
    rw [pt, if_pos c1, ptN]
    have hp : isPt s[j].toNat = true := by simp only [isPt]; rw [decide_eq_true (by omega), decide_eq_true (by omega)]; rfl
    simp [conts, hp]
  have e1 : (((s[j].toNat / 128 * 128 : Nat) : Int) == 0) = false := by rw [beq_eq_false_iff_ne]; omega
  simp only [↓evd, evu, evf, implies_true, reduceCtorEq, Nat.reduceEqDiff, ↓reduceIte, Nat.reduceAdd, Nat.reduceLeDiff, Nat.reduceLT, Nat.reduceMul, Int.reduceLT, Int.reduceLE, Int.reduceToNat, evz, hj0, hgj, and128, e1, w1]
  refine awp_loop_unroll ?_
  simp only [↓evd, evu, evf, implies_true, reduceCtorEq, Nat.reduceEqDiff, ↓reduceIte, Nat.reduceAdd, Nat.reduceLeDiff, Nat.reduceLT, Nat.reduceMul, Int.reduceLT, Int.reduceLE, Int.reduceToNat, evz, aIdxG, formCells, Nat.reduceSub]
  refine draw_of_grow (fun k => k < 2) (ms := [false, false, false, false, false, false, false, false, false]) (by kernel_rfl) ?_
  by_cases c2 : s[j].toNat / 32 = 6
  · have e2 : (((s[j].toNat / 32 * 32 : Nat) : Int) == 192) = true := by rw [beq_iff_eq]; omega
    simp only [↓evd, evu, evf, implies_true, reduceCtorEq, Nat.reduceEqDiff, ↓reduceIte, Nat.reduceAdd, Nat.reduceLeDiff, Nat.reduceLT, Nat.reduceMul, Int.reduceLT, Int.reduceLE, Int.reduceToNat, evz, hj0, hgj, and224, e2, w2]
    refine MSpec.of (long_call _ s j 2 224 192 128 (s[j].toNat % 32) hs hj (by omega) (by omega) (by omega) (not224 s[j])) ?_
    simp only [↓evd, evu, evf, implies_true, reduceCtorEq, Nat.reduceEqDiff, ↓reduceIte, Nat.reduceAdd, Nat.reduceLeDiff, Nat.reduceLT, Nat.reduceMul, Int.reduceLT, Int.reduceLE, Int.reduceToNat, evz]
    refine seen ?_ rfl rfl
    rw [pt, if_neg c1, if_pos c2]
  have e2 : (((s[j].toNat / 32 * 32 : Nat) : Int) == 192) = false := by rw [beq_eq_false_iff_ne]; omega
  simp only [↓evd, evu, evf, implies_true, reduceCtorEq, Nat.reduceEqDiff, ↓reduceIte, Nat.reduceAdd, Nat.reduceLeDiff, Nat.reduceLT, Nat.reduceMul, Int.reduceLT, Int.reduceLE, Int.reduceToNat, evz, hj0, hgj, and224, e2, w2]
  refine awp_loop_unroll ?_
  simp only [↓evd, evu, evf, implies_true, reduceCtorEq, Nat.reduceEqDiff, ↓reduceIte, Nat.reduceAdd, Nat.reduceLeDiff, Nat.reduceLT, Nat.reduceMul, Int.reduceLT, Int.reduceLE, Int.reduceToNat, evz, aIdxG, formCells, Nat.reduceSub]
  refine draw_of_grow (fun k => k < 3) (ms := [false, false, false, false, false, false, false, false, false]) (by kernel_rfl) ?_
  by_cases c3 : s[j].toNat / 16 = 14
  · have e3 : (((s[j].toNat / 16 * 16 : Nat) : Int) == 224) = true := by rw [beq_iff_eq]; omega
    simp only [↓evd, evu, evf, implies_true, reduceCtorEq, Nat.reduceEqDiff, ↓reduceIte, Nat.reduceAdd, Nat.reduceLeDiff, Nat.reduceLT, Nat.reduceMul, Int.reduceLT, Int.reduceLE, Int.reduceToNat, evz, hj0, hgj, and240, e3, w3]
    refine MSpec.of (long_call _ s j 3 240 224 2048 (s[j].toNat % 16) hs hj (by omega) (by omega) (by omega) (not240 s[j])) ?_
    simp only [↓evd, evu, evf, implies_true, reduceCtorEq, Nat.reduceEqDiff, ↓reduceIte, Nat.reduceAdd, Nat.reduceLeDiff, Nat.reduceLT, Nat.reduceMul, Int.reduceLT, Int.reduceLE, Int.reduceToNat, evz]
    refine seen ?_ rfl rfl
    rw [pt, if_neg c1, if_neg c2, if_pos c3]
  have e3 : (((s[j].toNat / 16 * 16 : Nat) : Int) == 224) = false := by rw [beq_eq_false_iff_ne]; omega
  simp only [↓evd, evu, evf, implies_true, reduceCtorEq, Nat.reduceEqDiff, ↓reduceIte, Nat.reduceAdd, Nat.reduceLeDiff, Nat.reduceLT, Nat.reduceMul, Int.reduceLT, Int.reduceLE, Int.reduceToNat, evz, hj0, hgj, and240, e3, w3]
  refine awp_loop_unroll ?_
  simp only [↓evd, evu, evf, implies_true, reduceCtorEq, Nat.reduceEqDiff, ↓reduceIte, Nat.reduceAdd, Nat.reduceLeDiff, Nat.reduceLT, Nat.reduceMul, Int.reduceLT, Int.reduceLE, Int.reduceToNat, evz, aIdxG, formCells, Nat.reduceSub]
  refine draw_of_grow (fun k => k < 4) (ms := [false, false, false, false, false, false, false, false, false]) (by kernel_rfl) ?_
  by_cases c4 : s[j].toNat / 8 = 30
  · have e4 : (((s[j].toNat / 8 * 8 : Nat) : Int) == 240) = true := by rw [beq_iff_eq]; omega
    simp only [↓evd, evu, evf, implies_true, reduceCtorEq, Nat.reduceEqDiff, ↓reduceIte, Nat.reduceAdd, Nat.reduceLeDiff, Nat.reduceLT, Nat.reduceMul, Int.reduceLT, Int.reduceLE, Int.reduceToNat, evz, hj0, hgj, and248, e4, w4]
    refine MSpec.of (long_call _ s j 4 248 240 65536 (s[j].toNat % 8) hs hj (by omega) (by omega) (by omega) (not248 s[j])) ?_
    simp only [↓evd, evu, evf, implies_true, reduceCtorEq, Nat.reduceEqDiff, ↓reduceIte, Nat.reduceAdd, Nat.reduceLeDiff, Nat.reduceLT, Nat.reduceMul, Int.reduceLT, Int.reduceLE, Int.reduceToNat, evz]
    refine seen ?_ rfl rfl
    rw [pt, if_neg c1, if_neg c2, if_neg c3, if_pos c4]
  have e4 : (((s[j].toNat / 8 * 8 : Nat) : Int) == 240) = false := by rw [beq_eq_false_iff_ne]; omega
  simp only [↓evd, evu, evf, implies_true, reduceCtorEq, Nat.reduceEqDiff, ↓reduceIte, Nat.reduceAdd, Nat.reduceLeDiff, Nat.reduceLT, Nat.reduceMul, Int.reduceLT, Int.reduceLE, Int.reduceToNat, evz, hj0, hgj, and248, e4, w4]
  refine awp_loop_unroll ?_
  simp only [↓evd, evu, evf, implies_true, reduceCtorEq, Nat.reduceEqDiff, ↓reduceIte, Nat.reduceAdd, Nat.reduceLeDiff, Nat.reduceLT, Nat.reduceMul, Int.reduceLT, Int.reduceLE, Int.reduceToNat, evz]
  refine seen ?_ rfl rfl
  rw [pt, if_neg c1, if_neg c2, if_neg c3, if_neg c4]; rfl
theorem size_call (σ : Heap) (s : List UInt8) (at' : Int) (hs : s.length ≤ maxRoom) : ACall Tryz.prog n_utf_Size [.str s, .int .i64 at'] σ (.int .i64 ((ptAt s at').2 : Int)) σ := by
  refine bare_call rfl rfl (fun W F => spec_of_awp mixed c_utf_Size (tl rfl) ?_) σ
  unfold f_utf_Size
  simp +decide only [↓evd, evw, evz, reduceCtorEq, ↓reduceIte]
  refine MSpec.of (point_call _ _ _ hs) ?_
  simp +decide only [↓evd, evw, evz, reduceCtorEq, ↓reduceIte]
  exact seen rfl rfl rfl
theorem ptN_le (v n least : Nat) (r : List UInt8) (hn : 1 ≤ n) : (ptN v n least r).2 ≤ r.length + 1 := by
  simp only [ptN]
  split
  · split
    · simp
    · rename_i h _
      by_cases hl : r.length < n - 1
      · rw [conts_short _ _ _ hl] at h; cases h
      · show n ≤ _; omega
  · simp
theorem pt_le (s : List UInt8) : (pt s).2 ≤ s.length := by
  cases s with
  | nil => simp [pt]
  | cons a r =>
    simp only [pt, List.length_cons]
    split
    · show 1 ≤ _; omega
    · split
      · exact ptN_le _ _ _ _ (by omega)
      · split
        · exact ptN_le _ _ _ _ (by omega)
        · split
          · exact ptN_le _ _ _ _ (by omega)
          · simp
def ptsF : Nat → List UInt8 → Option (List (List UInt8))
  | _, [] => some []
  | 0, _ :: _ => none
  | f + 1, a :: r => if (pt (a :: r)).2 = 0 then none else (ptsF f ((a :: r).drop (pt (a :: r)).2)).map ((a :: r).take (pt (a :: r)).2 :: ·)
def pts (s : List UInt8) : Option (List (List UInt8)) := ptsF s.length s
def valid (s : List UInt8) : Bool := (pts s).isSome
theorem ptsF_eq : ∀ (n : Nat) (s : List UInt8), s.length ≤ n → ∀ f, s.length ≤ f → ptsF f s = ptsF s.length s := by
  intro n
  induction n with
  | zero => intro s hs f hf; have : s = [] := List.eq_nil_of_length_eq_zero (by omega); subst this; cases f <;> rfl
  | succ n ih =>
    intro s hs f hf
    cases s with
    | nil => cases f <;> rfl
    | cons a r =>
      cases f with
      | zero => simp at hf
      | succ f =>
        simp only [List.length_cons, ptsF]
        split
        · rfl
        · rename_i hne
          have hd : ((a :: r).drop (pt (a :: r)).2).length ≤ r.length := by rw [List.length_drop, List.length_cons]; omega
          simp only [List.length_cons] at hs hf
          rw [ih _ (by omega) f (by omega), ih _ (by omega) r.length hd]
theorem pts_nil : pts [] = some [] := rfl
theorem pts_step {s : List UInt8} (h : s ≠ []) : pts s = if (pt s).2 = 0 then none else (pts (s.drop (pt s).2)).map (s.take (pt s).2 :: ·) := by
  cases s with
  | nil => exact absurd rfl h
  | cons a r =>
    simp only [pts, List.length_cons, ptsF]
    split
    · rfl
    · have hd : ((a :: r).drop (pt (a :: r)).2).length ≤ r.length := by rw [List.length_drop, List.length_cons]; omega
      rw [ptsF_eq r.length _ hd r.length hd]
theorem valid_step {s : List UInt8} (h : s ≠ []) : valid s = if (pt s).2 = 0 then false else valid (s.drop (pt s).2) := by
  simp only [valid]; rw [pts_step h]
  split <;> simp
set_option maxHeartbeats 1000000 in
theorem valid_call (σ : Heap) (s : List UInt8) (hs : s.length ≤ maxRoom) : ACall Tryz.prog n_utf_Valid [.str s] σ (.bool (valid s)) σ := by
  refine bare_call rfl rfl (fun W F => spec_of_awp mixed c_utf_Valid (tl rfl) ?_) σ
  unfold f_utf_Valid
  have hroom : maxRoom = 68719476736 := rfl
  simp +decide only [↓evd, evw, evz, reduceCtorEq, ↓reduceIte]
  refine awp_loop (fun m fr τ => ∃ i, m + i = s.length ∧ fr.get 0 = .str s ∧ fr.get 3 = .int .i64 (i : Nat) ∧ τ = ⟨W, F, .nil, 0⟩ ∧ valid (s.drop i) = valid s) ?_ (m := s.length) ?_
  · rintro m fr τ ⟨i, hi, e0, e3, rfl, hv⟩
    by_cases hlt : i < s.length
    · have hlt' : (i : Int) < (s.length : Int) := by omega
      have hne : s.drop i ≠ [] := by intro h; have := congrArg List.length h; simp at this; omega
      have hle := pt_le (s.drop i)
      rw [List.length_drop] at hle
      rw [valid_step hne] at hv
      have hpa : ptAt s (i : Int) = pt (s.drop i) := by simp only [ptAt]; rw [if_neg (by omega), Int.toNat_natCast]
      simp +decide only [↓evd, evw, evz, reduceCtorEq, ↓reduceIte, e0, e3, hlt']
      refine MSpec.of (size_call _ s i hs) ?_
      rw [hpa]
      by_cases hz : (pt (s.drop i)).2 = 0
      · have hb : (((pt (s.drop i)).2 : Int) == 0) = true := by rw [hz]; rfl
        rw [if_pos hz] at hv
        simp +decide only [↓evd, evw, evz, reduceCtorEq, ↓reduceIte, hb]
        exact seen (by rw [← hv]) rfl rfl
      · have hb : (((pt (s.drop i)).2 : Int) == 0) = false := by rw [beq_eq_false_iff_ne]; omega
        rw [if_neg hz, List.drop_drop] at hv
        have hw : IntKind.i64.wrap ((i : Int) + ((pt (s.drop i)).2 : Int)) = ((i + (pt (s.drop i)).2 : Nat) : Int) := by rw [wrap_id (by omega) (by omega)]; omega
        simp +decide only [↓evd, evw, evz, reduceCtorEq, ↓reduceIte, hb, e0, e3, hw]
        exact ⟨m - (pt (s.drop i)).2, by omega, i + (pt (s.drop i)).2, by omega, rfl, hv⟩
    · have hlt' : ¬ (i : Int) < (s.length : Int) := by omega
      rw [List.drop_eq_nil_of_le (by omega)] at hv
      simp +decide only [↓evd, evw, evz, reduceCtorEq, ↓reduceIte, e0, e3, hlt']
      exact seen (by rw [← hv]; rfl) rfl rfl
  · exact ⟨0, by omega, by first | (simp +decide only [↓evd, evw, evz, reduceCtorEq, ↓reduceIte]; done) | (simp +decide only [↓evd, evw, evz, reduceCtorEq, ↓reduceIte]; first | rfl | (repeat' apply And.intro) <;> rfl)⟩
def isEdge (s : List UInt8) (i : Int) : Bool := decide (0 ≤ i) && decide (i ≤ s.length) && (decide (i = s.length) || (match s[i.toNat]? with | some b => !decide (b.toNat / 64 = 2) | none => false)) && valid s
set_option maxHeartbeats 1000000 in
theorem isEdge_call (σ : Heap) (s : List UInt8) (i : Int) (hs : s.length ≤ maxRoom) : ACall Tryz.prog n_utf_IsEdge [.str s, .int .i64 i] σ (.bool (isEdge s i)) σ := by
  refine bare_call rfl rfl (fun W F => spec_of_awp mixed c_utf_IsEdge (tl rfl) ?_) σ
  unfold f_utf_IsEdge
  by_cases h1 : 0 ≤ i
  · by_cases h2 : i ≤ (s.length : Int)
    · by_cases h3 : i = (s.length : Int)
      · have hb : (i == (s.length : Int)) = true := by simpa using h3
        simp +decide only [↓evd, evw, evz, reduceCtorEq, ↓reduceIte, h1, h2, hb]
        refine MSpec.of (valid_call _ s hs) ?_
        simp +decide only [↓evd, evw, evz, reduceCtorEq, ↓reduceIte]
        refine seen ?_ rfl rfl
        simp only [isEdge, decide_eq_true h1, decide_eq_true h2, decide_eq_true h3]; rfl
      · have hb : (i == (s.length : Int)) = false := by simpa using h3
        have hlt : i.toNat < s.length := by omega
        have hg : s[i.toNat]? = some s[i.toNat] := List.getElem?_eq_getElem hlt
        by_cases hc : s[i.toNat].toNat / 64 = 2
        · have hb' : (((s[i.toNat].toNat / 64 * 64 : Nat) : Int) != 128) = false := by rw [hc]; rfl
          simp +decide only [↓evd, evw, evz, reduceCtorEq, ↓reduceIte, h1, h2, hb, hg, and192, hb']
          refine seen ?_ rfl rfl
          simp only [isEdge, decide_eq_false h3, hg, decide_eq_true hc]; simp
        · have hb' : (((s[i.toNat].toNat / 64 * 64 : Nat) : Int) != 128) = true := by
            rw [bne_iff_ne]; intro h; apply hc; omega
          simp +decide only [↓evd, evw, evz, reduceCtorEq, ↓reduceIte, h1, h2, hb, hg, and192, hb']
          refine MSpec.of (valid_call _ s hs) ?_
          simp +decide only [↓evd, evw, evz, reduceCtorEq, ↓reduceIte]
          refine seen ?_ rfl rfl
          simp only [isEdge, decide_eq_true h1, decide_eq_true h2, decide_eq_false h3, hg, decide_eq_false hc]; rfl
    · simp +decide only [↓evd, evw, evz, reduceCtorEq, ↓reduceIte, h1, h2]
      exact seen (by simp only [isEdge, decide_eq_false h2]; simp) rfl rfl
  · simp +decide only [↓evd, evw, evz, reduceCtorEq, ↓reduceIte, h1]
    exact seen (by simp only [isEdge, decide_eq_false h1]; simp) rfl rfl
theorem clean_call (σ : Heap) (s : List UInt8) (hs : s.length ≤ maxRoom) (hv : valid s = true) : ACall Tryz.prog n_utf_Clean [.str s] σ (.str s) σ := by
  refine bare_call rfl rfl (fun W F => spec_of_awp mixed c_utf_Clean (tl rfl) ?_) σ
  unfold f_utf_Clean
  simp +decide only [↓evd, evw, evz, reduceCtorEq, ↓reduceIte]
  refine MSpec.of (valid_call _ s hs) ?_
  simp +decide only [↓evd, evw, evz, reduceCtorEq, ↓reduceIte, hv]
  exact seen rfl rfl rfl
end Go.Proofs.YtkjikdohnomajaaGreat.M
namespace Go.Proofs.YtkjikdohnomajaaGreat.M
open Go Go.Mini
attribute [local congr] go1_congr goM_congr goG_congr goV_congr drawwp_congr
theorem Keep.get {σ τ : Heap} (h : Keep [] σ τ) {k : Nat} (hk : k < σ.next) : τ.get k = σ.get k := h.2.2.2 k hk (by simp)
set_option maxHeartbeats 1000000 in
theorem first_call (σ : Heap) (l : List Chg) (code : Int) (g : FuncId) (caps : List AVal) (p : Chg → Bool) (hl : l.length ≤ 1000000) (hp : ∀ c ∈ l, ∀ τ, Keep [] σ τ → ACall Tryz.prog g (eChg c :: caps) τ (.bool (p c)) τ) :
    ACall Tryz.prog n_edit_first [eChgs l, .int .i64 code, .fn g caps] σ (.int .i64 (if l.any p then code else 0)) σ := by
  refine gc_call rfl (spec_of_awp mixed c_edit_first (tl rfl) ?_)
  unfold f_edit_first
  simp +decide only [↓evd, evw, evz, reduceCtorEq, ↓reduceIte]
  refine awp_loop (fun m fr τ => ∃ i, m + i = l.length ∧ fr.get 1 = .int .i64 code ∧ fr.get 2 = .fn g caps ∧ fr.get 9 = eChgs l ∧ fr.get 10 = .int .i64 l.length ∧ fr.get 11 = .int .i64 (i : Nat) ∧ (l.drop i).any p = l.any p ∧ Keep [] σ τ) ?_ (m := l.length) ?_
  · rintro m fr τ ⟨i, hi, e1, e2, e9, e10, e11, hs, hK⟩
    by_cases hlt : i < l.length
    · have hlt' : (i : Int) < (l.length : Int) := by omega
      have hg := map_get eChg l i hlt
      have hw := wrap_succ (i := i) (by omega)
      rw [List.drop_eq_getElem_cons hlt, List.any_cons] at hs
      have hm := List.getElem_mem hlt
      generalize l[i] = c at hg hs hm
      have hK2 := hK.junk (.cells [.int .i64 0, .int .i64 0, .str []] none) (.cells [.int .i64 c.frm, .int .i64 c.to, .str c.text] none)
      have hc := hp c hm _ hK2
      simp +decide only [↓evd, evw, evz, reduceCtorEq, ↓reduceIte, e1, e2, e9, e10, e11, hlt', hg]
      refine MSpec.of hc ?_
      cases hx : p c
      · rw [hx, Bool.false_or] at hs
        simp +decide only [↓evd, evw, evz, reduceCtorEq, ↓reduceIte, e1, e2, e9, e10, e11, hw]
        exact ⟨m - 1, by omega, i + 1, by omega, rfl, hs, hK2⟩
      · rw [hx, Bool.true_or] at hs
        simp +decide only [↓evd, evw, evz, reduceCtorEq, ↓reduceIte, e1]
        rw [← hs]
        exact ⟨rfl, hK2.1, hK2.2.1, fun k hk => by rw [if_neg (by have := hK.2.2.1; omega), if_neg (by have := hK.2.2.1; omega)]; exact hK.get hk⟩
    · have hlt' : ¬ (i : Int) < (l.length : Int) := by omega
      rw [List.drop_eq_nil_of_le (by omega)] at hs
      simp +decide only [↓evd, evw, evz, reduceCtorEq, ↓reduceIte, e10, e11, hlt']
      rw [← hs]
      exact ⟨rfl, hK.1, hK.2.1, fun k hk => hK.get hk⟩
  · refine ⟨0, by omega, ?_⟩
    simp +decide only [↓evd, evw, evz, reduceCtorEq, ↓reduceIte]
    exact Keep.refl _ _
section
variable {σ : Heap} {b : Nat} {s : List UInt8}
theorem check1_call (hb : σ.get b = some (.cells [.str s] none)) (i : Int) (hs : s.length ≤ maxRoom) : ACall Tryz.prog n_edit_Check_1 [.int .i64 i, .ptr (.new b) 0] σ (.bool (isEdge s i)) σ := by
  refine exact_call (spec_of_awp mixed c_edit_Check_1 (tl rfl) ?_)
  unfold f_edit_Check_1
  simp +decide only [↓evd, evw, evz, reduceCtorEq, ↓reduceIte, hb]
  refine MSpec.of (isEdge_call _ s i hs) ?_
  simp +decide only [↓evd, evw, evz, reduceCtorEq, ↓reduceIte]
def chgOut (s : List UInt8) (c : Chg) : Bool := decide (c.frm < 0) || decide (c.to < c.frm) || decide ((s.length : Int) < c.to)
theorem check2_call (hb : σ.get b = some (.cells [.str s] none)) (hbn : b < σ.next) (c : Chg) : ACall Tryz.prog n_edit_Check_2 [eChg c, .ptr (.new b) 0] σ (.bool (chgOut s c)) σ := by
  refine gc_call rfl (spec_of_awp mixed c_edit_Check_2 (tl rfl) ?_)
  unfold f_edit_Check_2
  have hne : (σ.next = b) = False := eq_false (by omega)
  have hk : ∀ k, k < σ.next → (if σ.next = k then some (ABlk.cells [.int .i64 c.frm, .int .i64 c.to, .str c.text] none) else σ.get k) = σ.get k := fun k hk => if_neg (by omega)
  by_cases h1 : c.frm < 0
  · simp +decide only [↓evd, evw, evz, reduceCtorEq, ↓reduceIte, hb, hne, h1, chgOut, Bool.true_or]
    exact hk
  · by_cases h2 : c.to < c.frm
    · simp +decide only [↓evd, evw, evz, reduceCtorEq, ↓reduceIte, hb, hne, h1, h2, chgOut, Bool.true_or, Bool.false_or]
      exact hk
    · simp +decide only [↓evd, evw, evz, reduceCtorEq, ↓reduceIte, hb, hne, h1, h2, chgOut, Bool.false_or]
      exact hk
def chgIn (s : List UInt8) (c : Chg) : Bool := !isEdge s c.frm || !isEdge s c.to
theorem check3_call {f : Nat} (hf : σ.get f = some (.cells [.fn n_edit_Check_1 [.ptr (.new b) 0]] none)) (hfn : f < σ.next) (hb : σ.get b = some (.cells [.str s] none)) (hbn : b < σ.next) (c : Chg) (hs : s.length ≤ maxRoom) : ACall Tryz.prog n_edit_Check_3 [eChg c, .ptr (.new f) 0] σ (.bool (chgIn s c)) σ := by
  refine gc_call rfl (spec_of_awp mixed c_edit_Check_3 (tl rfl) ?_)
  unfold f_edit_Check_3
  have hne : (σ.next = f) = False := eq_false (by omega)
  have hk : ∀ k, k < σ.next → (if σ.next = k then some (ABlk.cells [.int .i64 c.frm, .int .i64 c.to, .str c.text] none) else σ.get k) = σ.get k := fun k hk => if_neg (by omega)
  have hb' : (σ.new (.cells [.int .i64 c.frm, .int .i64 c.to, .str c.text] none)).get b = some (.cells [.str s] none) := by rw [Heap.get_new, if_neg (by omega)]; exact hb
  simp +decide only [↓evd, evw, evz, reduceCtorEq, ↓reduceIte, hf, hne]
  refine MSpec.of (check1_call hb' c.frm hs) ?_
  cases h1 : isEdge s c.frm
  · simp +decide only [↓evd, evw, evz, reduceCtorEq, ↓reduceIte, chgIn, h1, Bool.true_or]
    exact hk
  · simp +decide only [↓evd, evw, evz, reduceCtorEq, ↓reduceIte, hf, hne]
    refine MSpec.of (check1_call hb' c.to hs) ?_
    simp +decide only [↓evd, evw, evz, reduceCtorEq, ↓reduceIte, chgIn, h1, Bool.false_or]
    exact hk
theorem check4_call (σ : Heap) (c : Chg) (hc : c.text.length ≤ maxRoom) : ACall Tryz.prog n_edit_Check_4 [eChg c] σ (.bool (!valid c.text)) σ := by
  refine gc_call rfl (spec_of_awp mixed c_edit_Check_4 (tl rfl) ?_)
  unfold f_edit_Check_4
  simp +decide only [↓evd, evw, evz, reduceCtorEq, ↓reduceIte]
  refine MSpec.of (valid_call _ c.text hc) ?_
  simp +decide only [↓evd, evw, evz, reduceCtorEq, ↓reduceIte]
  exact fun k hk => if_neg (by omega)
end
def chgBad (x y : Chg) : Bool := decide (y.frm < x.to) || (decide (x.frm = y.frm) && decide (x.to = y.frm))
def disorder : List Chg → Bool
  | x :: y :: l => chgBad x y || disorder (y :: l)
  | _ => false
set_option maxHeartbeats 2000000 in
theorem order_call (σ : Heap) (l : List Chg) (hl : l.length ≤ 1000000) : ACall Tryz.prog n_edit_order [eChgs l] σ (.int .i64 (if disorder l then 180 else 0)) σ := by
  refine gc_call rfl (spec_of_awp mixed c_edit_order (tl rfl) ?_)
  unfold f_edit_order
  simp +decide only [↓evd, evw, evz, reduceCtorEq, ↓reduceIte]
  refine awp_loop (fun m fr τ => ∃ i, m + i = l.length + 1 ∧ 1 ≤ i ∧ fr.get 0 = eChgs l ∧ fr.get 3 = .int .i64 (i : Nat) ∧ disorder (l.drop (i - 1)) = disorder l ∧ Keep [] σ τ) ?_ (m := l.length) ?_
  · rintro m fr τ ⟨i, hi, h1, e0, e3, hs, hK⟩
    by_cases hlt : i < l.length
    · have hlt' : (i : Int) < (l.length : Int) := by omega
      have hw := wrap_succ (i := i) (by omega)
      have hwm : IntKind.i64.wrap ((i : Int) - 1) = ((i - 1 : Nat) : Int) := by rw [wrap_id (by omega) (by omega)]; omega
      have hg := map_get eChg l i hlt
      have hg1 := map_get eChg l (i - 1) (by omega)
      rw [List.drop_eq_getElem_cons (show i - 1 < l.length by omega), show i - 1 + 1 = i by omega, List.drop_eq_getElem_cons hlt, disorder] at hs
      have hs2 : disorder (l[i] :: l.drop (i + 1)) = disorder (l.drop i) := by rw [← List.drop_eq_getElem_cons hlt]
      rw [hs2] at hs
      generalize l[i] = y at hg hs
      generalize l[i - 1] = x at hg1 hs
      simp +decide only [↓evd, evw, evz, reduceCtorEq, ↓reduceIte, e0, e3, hlt']
      with_reducible refine draw_of_grow (fun _ => False) (ms := [false, false, false, false, false, false, false, false, false, true, true, false, true]) (by kernel_rfl) ?_
      have ne1 : (τ.next + 1 = τ.next) = False := eq_false (by omega)
      have ne2 : (τ.next = τ.next + 1) = False := eq_false (by omega)
      have hK2 : Keep [] σ ((((τ.new (.cells [.int .i64 0, .int .i64 0, .str []] none)).new (.cells [.int .i64 0, .int .i64 0, .str []] none)).set τ.next (.cells [.int .i64 x.frm, .int .i64 x.to, .str x.text] none)).set (τ.next + 1) (.cells [.int .i64 y.frm, .int .i64 y.to, .str y.text] none)) :=
        (((hK.new _).new _).set (.inr hK.2.2.1) _).set (.inr (Nat.le_succ_of_le hK.2.2.1)) _
      have hbad : chgBad x y = true → (if disorder l = true then (180 : Int) else 0) = 180 := fun h => by rw [← hs, h]; rfl
      have hfin : ∀ k, k < σ.next → ((((τ.new (.cells [.int .i64 0, .int .i64 0, .str []] none)).new (.cells [.int .i64 0, .int .i64 0, .str []] none)).set τ.next (.cells [.int .i64 x.frm, .int .i64 x.to, .str x.text] none)).set (τ.next + 1) (.cells [.int .i64 y.frm, .int .i64 y.to, .str y.text] none)).get k = σ.get k := fun k hk => hK2.get hk
      simp +decide only [↓evd, evw, evz, reduceCtorEq, ↓reduceIte] at hfin
      simp +decide only [↓evd, evw, evz, reduceCtorEq, ↓reduceIte, e0, e3, hwm, hg, hg1, Nat.add_zero, ne1, ne2]
      refine ⟨.inr ⟨rfl, fun _ h => h.elim⟩, ?_⟩
      by_cases c1 : y.frm < x.to
      · have := hbad (by simp [chgBad, c1])
        simp +decide only [↓evd, evw, evz, reduceCtorEq, ↓reduceIte, e0, e3, hwm, hg, hg1, Nat.add_zero, ne1, ne2, c1]
        exact ⟨by rw [this], hK.1, hK.2.1, hfin⟩
      by_cases c2 : x.frm = y.frm
      · have b2 : (x.frm == y.frm) = true := by simpa using c2
        by_cases c3 : x.to = y.frm
        · have b3 : (x.to == y.frm) = true := by simpa using c3
          have := hbad (by simp [chgBad, c2, c3])
          simp +decide only [↓evd, evw, evz, reduceCtorEq, ↓reduceIte, e0, e3, hwm, hg, hg1, Nat.add_zero, ne1, ne2, c1, b2, b3]
          exact ⟨by rw [this], hK.1, hK.2.1, hfin⟩
        · have b3 : (x.to == y.frm) = false := by simpa using c3
          have hb : chgBad x y = false := by simp [chgBad, c1, c3]
          rw [hb, Bool.false_or] at hs
          simp +decide only [↓evd, evw, evz, reduceCtorEq, ↓reduceIte, e0, e3, hwm, hg, hg1, Nat.add_zero, ne1, ne2, c1, b2, b3, hw]
          exact ⟨m - 1, by omega, i + 1, by omega, by omega, rfl, hs, hK2⟩
      · have b2 : (x.frm == y.frm) = false := by simpa using c2
        have hb : chgBad x y = false := by simp [chgBad, c1, c2]
        rw [hb, Bool.false_or] at hs
        simp +decide only [↓evd, evw, evz, reduceCtorEq, ↓reduceIte, e0, e3, hwm, hg, hg1, Nat.add_zero, ne1, ne2, c1, b2, hw]
        exact ⟨m - 1, by omega, i + 1, by omega, by omega, rfl, hs, hK2⟩
    · have hlt' : ¬ (i : Int) < (l.length : Int) := by omega
      have hd : disorder (l.drop (i - 1)) = false := by
        have : (l.drop (i - 1)).length ≤ 1 := by simp; omega
        match l.drop (i - 1), this with
        | [], _ => rfl
        | [_], _ => rfl
      rw [hd] at hs
      simp +decide only [↓evd, evw, evz, reduceCtorEq, ↓reduceIte, e0, e3, hlt']
      rw [← hs]
      exact ⟨rfl, hK.1, hK.2.1, fun k hk => hK.get hk⟩
  · refine ⟨1, by omega, Nat.le_refl _, ?_⟩
    simp +decide only [↓evd, evw, evz, reduceCtorEq, ↓reduceIte]
    exact ⟨rfl, Keep.refl _ _⟩
def gain0 (c : Chg) : Int := if IntKind.i64.wrap (c.to - c.frm) < 0 then 0 else IntKind.i64.wrap (c.to - c.frm)
def gain (n : Nat) (c : Chg) : Int := if (n : Int) < gain0 c then n else gain0 c
def gains (n : Nat) (l : List Chg) : Int := (l.map (gain n)).sum
def longR : List Chg → Int → Int
  | [], r => if r < 0 then 13 else 0
  | c :: l, r => if r < c.text.length then 13 else longR l (r - c.text.length)
def longI (s : List UInt8) (l : List Chg) : Int := longR l (20000 - s.length + gains s.length l)
theorem gain_le (n : Nat) (c : Chg) : 0 ≤ gain n c ∧ gain n c ≤ n := by
  have : 0 ≤ gain0 c := by unfold gain0; split <;> omega
  unfold gain; split <;> omega
theorem gains_le (n : Nat) : ∀ l : List Chg, 0 ≤ gains n l ∧ gains n l ≤ n * l.length
  | [] => by simp [gains]
  | c :: l => by
    have h1 := gain_le n c
    have h2 := gains_le n l
    simp only [gains, List.map_cons, List.sum_cons, List.length_cons] at *
    have : (n : Int) * ((l.length + 1 : Nat) : Int) = n * l.length + n := by rw [Int.natCast_add, Int.mul_add]; simp
    omega
def ChgFits (c : Chg) : Prop := c.text.length ≤ maxRoom
set_option maxHeartbeats 2000000 in
theorem editLong_call (σ : Heap) (s : List UInt8) (l : List Chg) (hs : s.length ≤ maxRoom) (hl : l.length ≤ 1000) (hc : ∀ c ∈ l, ChgFits c) : ACall Tryz.prog n_edit_long [.str s, eChgs l] σ (.int .i64 (longI s l)) σ := by
  refine gc_call rfl (spec_of_awp mixed c_edit_long (tl rfl) ?_)
  unfold f_edit_long
  have hroom : maxRoom = 68719476736 := rfl
  have hw0 : IntKind.i64.wrap (20000 - (s.length : Int)) = 20000 - (s.length : Int) := wrap_id (by omega) (by omega)
  simp +decide only [↓evd, evw, evz, reduceCtorEq, ↓reduceIte, hw0]
  refine awp_loop (fun m fr τ => ∃ i, m + i = l.length ∧ fr.get 0 = .str s ∧ fr.get 1 = eChgs l ∧ fr.get 5 = .int .i64 (20000 - s.length + gains s.length (l.take i)) ∧ fr.get 13 = eChgs l ∧ fr.get 14 = .int .i64 l.length ∧ fr.get 15 = .int .i64 (i : Nat) ∧ Keep [] σ τ) ?_ (m := l.length) ?_
  · rintro m fr τ ⟨i, hi, e0, e1, e5, e13, e14, e15, hK⟩
    by_cases hlt : i < l.length
    · have hlt' : (i : Int) < (l.length : Int) := by omega
      have hg := map_get eChg l i hlt
      have hw := wrap_succ (i := i) (by omega)
      have ht : gains s.length (l.take (i + 1)) = gains s.length (l.take i) + gain s.length l[i] := by
        simp only [gains]; rw [List.take_succ_eq_append_getElem hlt, List.map_append, List.sum_append]; simp only [List.map_cons, List.map_nil, List.sum_cons, List.sum_nil, Int.add_zero]
      have hb := gains_le s.length (l.take i)
      have hb2 : (s.length : Int) * ((l.take i).length : Nat) ≤ 68719476736 * 1000 := Int.mul_le_mul (by omega) (by simp; omega) (by omega) (by omega)
      generalize l[i] = c at hg ht
      have hgn := gain_le s.length c
      have hw2 : IntKind.i64.wrap (20000 - (s.length : Int) + gains s.length (l.take i) + gain s.length c) = 20000 - (s.length : Int) + gains s.length (l.take (i + 1)) := by rw [wrap_id (by omega) (by omega), ht]; omega
      have h0 : (if IntKind.i64.wrap (c.to - c.frm) < 0 then 0 else IntKind.i64.wrap (c.to - c.frm)) = gain0 c := rfl
      have h1 : (if (s.length : Int) < gain0 c then (s.length : Int) else gain0 c) = gain s.length c := rfl
      simp +decide only [↓evd, evw, evz, reduceCtorEq, ↓reduceIte, e0, e1, e5, e13, e14, e15, hlt', hg, h0, h1, hw2, hw]
      exact ⟨m - 1, by omega, i + 1, by omega, rfl, rfl, hK.junk _ _⟩
    · have hlt' : ¬ (i : Int) < (l.length : Int) := by omega
      rw [List.take_of_length_le (by omega)] at e5
      have hb := gains_le s.length l
      have hb2 : (s.length : Int) * (l.length : Nat) ≤ 68719476736 * 1000 := Int.mul_le_mul (by omega) (by omega) (by omega) (by omega)
      simp +decide only [↓evd, evw, evz, reduceCtorEq, ↓reduceIte, e0, e1, e5, e13, e14, e15, hlt']
      have hli : longI s l = longR l (20000 - s.length + gains s.length l) := rfl
      have hr0 : -68719476736 ≤ (20000 - (s.length : Int) + gains s.length l) ∧ (20000 - (s.length : Int) + gains s.length l) ≤ 68719476736 * 1001 := by omega
      generalize (20000 - (s.length : Int) + gains s.length l) = r0 at hli e5 hr0
      clear e0 e1 e13 e14 e15 hb hb2 hlt hlt' hi hw0
      refine awp_loop (fun m fr ρ => ∃ i r, m + i = l.length ∧ fr.get 5 = .int .i64 r ∧ fr.get 31 = eChgs l ∧ fr.get 32 = .int .i64 l.length ∧ fr.get 33 = .int .i64 (i : Nat) ∧ longR (l.drop i) r = longI s l ∧ -68719476736 ≤ r ∧ r ≤ 68719476736 * 1001 ∧ Keep [] σ ρ) ?_ (m := l.length) ?_
      · clear e5 hK
        rintro m fr ρ ⟨i, r, hi, e5, e31, e32, e33, hs2, hr1, hr2, hK⟩
        by_cases hlt : i < l.length
        · have hlt' : (i : Int) < (l.length : Int) := by omega
          have hg := map_get eChg l i hlt
          have hw := wrap_succ (i := i) (by omega)
          have hcl := hc _ (List.getElem_mem hlt)
          rw [List.drop_eq_getElem_cons hlt, longR] at hs2
          generalize l[i] = c at hg hs2 hcl
          unfold ChgFits at hcl
          have hK2 := hK.junk (.cells [.int .i64 0, .int .i64 0, .str []] none) (.cells [.int .i64 c.frm, .int .i64 c.to, .str c.text] none)
          by_cases hx : r < (c.text.length : Int)
          · rw [if_pos hx] at hs2
            simp +decide only [↓evd, evw, evz, reduceCtorEq, ↓reduceIte, e5, e31, e32, e33, hlt', hg, hx]
            rw [← hs2]
            exact ⟨rfl, hK2.1, hK2.2.1, fun k hk => by rw [if_neg (by have := hK.2.2.1; omega), if_neg (by have := hK.2.2.1; omega)]; exact hK.get hk⟩
          · rw [if_neg hx] at hs2
            have hw2 : IntKind.i64.wrap (r - (c.text.length : Int)) = r - (c.text.length : Int) := wrap_id (by omega) (by omega)
            simp +decide only [↓evd, evw, evz, reduceCtorEq, ↓reduceIte, e5, e31, e32, e33, hlt', hg, hx, hw, hw2]
            exact ⟨m - 1, by omega, i + 1, _, by omega, rfl, rfl, hs2, by omega, by omega, hK2⟩
        · have hlt' : ¬ (i : Int) < (l.length : Int) := by omega
          rw [List.drop_eq_nil_of_le (by omega), longR] at hs2
          by_cases hx : r < 0
          · rw [if_pos hx] at hs2
            simp +decide only [↓evd, evw, evz, reduceCtorEq, ↓reduceIte, e5, e31, e32, e33, hlt', hx]
            rw [← hs2]
            exact ⟨rfl, hK.1, hK.2.1, fun k hk => hK.get hk⟩
          · rw [if_neg hx] at hs2
            simp +decide only [↓evd, evw, evz, reduceCtorEq, ↓reduceIte, e5, e31, e32, e33, hlt', hx]
            rw [← hs2]
            exact ⟨rfl, hK.1, hK.2.1, fun k hk => hK.get hk⟩
      · refine ⟨0, r0, by omega, ?_⟩
        simp +decide only [↓evd, evw, evz, reduceCtorEq, ↓reduceIte, e5]
        exact ⟨hli.symm, hr0.1, hr0.2, hK⟩
  · refine ⟨0, by omega, ?_⟩
    simp +decide only [↓evd, evw, evz, reduceCtorEq, ↓reduceIte]
    simp only [List.take_zero, gains, List.map_nil, List.sum_nil, Int.add_zero]
    exact ⟨trivial, Keep.refl _ _⟩
def firstNZ : List Int → Int
  | [] => 0
  | e :: l => if e = 0 then firstNZ l else e
def errs (s : List UInt8) (l : List Chg) : List Int := [if l.any (chgOut s) then 10 else 0, if l.any (chgIn s) then 11 else 0, if disorder l then 180 else 0, if l.any (fun c => !valid c.text) then 12 else 0, longI s l]
def check (s : List UInt8) (l : List Chg) : Int := if valid s = false then 12 else if 8 < l.length then 70 else firstNZ (errs s l)
set_option maxHeartbeats 4000000 in
theorem check_call (σ : Heap) (s : List UInt8) (l : List Chg) (hs : s.length ≤ maxRoom) (hl : l.length ≤ 1000000) (hc : ∀ c ∈ l, ChgFits c) : ACall Tryz.prog n_edit_Check [.str s, eChgs l] σ (.int .i64 (check s l)) σ := by
  refine bare_call (by simp only [AVal.pures, eChgs_pure]; rfl) rfl (fun W F => spec_of_awp mixed c_edit_Check (tl rfl) ?_) σ
  unfold f_edit_Check
  simp +decide only [↓evd, evw, evz, reduceCtorEq, ↓reduceIte]
  refine MSpec.of (valid_call _ s hs) ?_
  cases hv : valid s
  · simp +decide only [↓evd, evw, evz, reduceCtorEq, ↓reduceIte, hv]
    exact seen (by simp [check, hv]) rfl rfl
  by_cases h8 : (8 : Int) < l.length
  · simp +decide only [↓evd, evw, evz, reduceCtorEq, ↓reduceIte, hv, h8]
    exact seen (by rw [check, hv, if_neg (by simp), if_pos (by omega)]) rfl rfl
  have h8' : l.length ≤ 8 := by omega
  simp +decide only [↓evd, evw, evz, reduceCtorEq, ↓reduceIte, hv, h8]
  with_reducible refine draw_of_grow (fun _ => True) (ms := [false, false, false, false, false, false, false, false, false, false, false, false, false, true, false, false]) (by kernel_rfl) ?_
  simp +decide only [↓evd, evw, evz, reduceCtorEq, ↓reduceIte]
  generalize hτ : Heap.set _ 1 _ = τ
  have hb : τ.get 0 = some (.cells [.str s] none) := by rw [← hτ]; simp +decide only [↓evd, evw, evz, reduceCtorEq, ↓reduceIte]
  have hf : τ.get 1 = some (.cells [.fn n_edit_Check_1 [.ptr (.new 0) 0]] none) := by rw [← hτ]; simp +decide only [↓evd, evw, evz, reduceCtorEq, ↓reduceIte]
  have hn : τ.next = 2 := by rw [← hτ]; simp +decide only [↓evd, evw, evz, reduceCtorEq, ↓reduceIte]
  have hW : τ.W = W := by rw [← hτ]; simp +decide only [↓evd, evw, evz, reduceCtorEq, ↓reduceIte]
  have hF : τ.F0 = F := by rw [← hτ]; simp +decide only [↓evd, evw, evz, reduceCtorEq, ↓reduceIte]
  clear hτ
  have k1 := first_call τ l 10 n_edit_Check_2 [.ptr (.new 0) 0] (chgOut s) hl fun c _ ρ hK => check2_call (by rw [hK.get (by omega)]; exact hb) (by have := hK.2.2.1; omega) c
  have k2 := first_call τ l 11 n_edit_Check_3 [.ptr (.new 1) 0] (chgIn s) hl fun c _ ρ hK => check3_call (b := 0) (by rw [hK.get (by omega)]; exact hf) (by have := hK.2.2.1; omega) (by rw [hK.get (by omega)]; exact hb) (by have := hK.2.2.1; omega) c hs
  have k3 := order_call τ l hl
  have k4 := first_call τ l 12 n_edit_Check_4 [] (fun c => !valid c.text) hl fun c hcl ρ _ => check4_call ρ c (hc c hcl)
  have k5 := editLong_call τ s l hs (by omega) hc
  have hck : check s l = firstNZ (errs s l) := by rw [check, hv, if_neg (by simp), if_neg (by omega)]
  unfold errs at hck
  generalize (if l.any (chgOut s) then (10 : Int) else 0) = e1 at k1 hck
  generalize (if l.any (chgIn s) then (11 : Int) else 0) = e2 at k2 hck
  generalize (if disorder l then (180 : Int) else 0) = e3 at k3 hck
  generalize (if l.any (fun c => !valid c.text) then (12 : Int) else 0) = e4 at k4 hck
  generalize longI s l = e5 at k5 hck
  refine MSpec.of k1 ⟨.inr Keeps.rfl, ?_⟩
  simp +decide only [↓evd, evw, evz, reduceCtorEq, ↓reduceIte]
  refine MSpec.of k2 ⟨.inr Keeps.rfl, ?_⟩
  simp +decide only [↓evd, evw, evz, reduceCtorEq, ↓reduceIte]
  refine MSpec.of k3 ⟨.inr Keeps.rfl, ?_⟩
  simp +decide only [↓evd, evw, evz, reduceCtorEq, ↓reduceIte]
  refine MSpec.of k4 ⟨.inr Keeps.rfl, ?_⟩
  simp +decide only [↓evd, evw, evz, reduceCtorEq, ↓reduceIte, hb]
  refine MSpec.of k5 ⟨.inr Keeps.rfl, ?_⟩
  simp +decide only [↓evd, evw, evz, reduceCtorEq, ↓reduceIte]
  clear k1 k2 k3 k4 k5 hb hf
  generalize hes : [e1, e2, e3, e4, e5] = es at hck
  have hel : es.length = 5 := by rw [← hes]; rfl
  have hec : ([.int .i64 e1, .int .i64 e2, .int .i64 e3, .int .i64 e4, .int .i64 e5] : List AVal) = es.map (AVal.int .i64 ·) := by rw [← hes]; rfl
  rw [hec]
  clear hes hec
  refine awp_loop (fun m fr ρ => ∃ i, m + i = 5 ∧ fr.get 30 = .slc (.new 2) 0 5 (.ex 5) ∧ fr.get 31 = .int .i64 (5 : Nat) ∧ fr.get 32 = .int .i64 (i : Nat) ∧ firstNZ (es.drop i) = check s l ∧ ρ.get 2 = some (.cells (es.map (AVal.int .i64 ·)) none) ∧ ρ.W = W ∧ ρ.F0 = F) ?_ (m := 5) ?_
  · rintro m fr ρ ⟨i, hi, e30, e31, e32, hz, hg, hW, hF⟩
    by_cases hlt : i < 5
    · have hlt' : (i : Int) < (5 : Int) := by omega
      have hlt2 : (i : Int) < ((5 : Nat) : Int) := by omega
      have hw := wrap_succ (i := i) (by omega)
      have hget := map_get (AVal.int .i64 ·) es i (by omega)
      rw [List.drop_eq_getElem_cons (by omega), firstNZ] at hz
      generalize es[i] = e at hget hz
      by_cases h0 : e = 0
      · have hb : (e != 0) = false := by simpa using h0
        rw [if_pos h0] at hz
        simp +decide only [↓evd, evw, evz, reduceCtorEq, ↓reduceIte, e30, e31, e32, hlt', hlt2, hg, hget, hb, hw]
        exact ⟨m - 1, by omega, i + 1, by omega, rfl, hz, hW, hF⟩
      · have hb : (e != 0) = true := by simpa using h0
        rw [if_neg h0] at hz
        simp +decide only [↓evd, evw, evz, reduceCtorEq, ↓reduceIte, e30, e31, e32, hlt', hlt2, hg, hget, hb]
        exact seen (by rw [hz]) hW hF
    · have hlt' : ¬ (i : Int) < (5 : Int) := by omega
      have hlt2 : ¬ (i : Int) < ((5 : Nat) : Int) := by omega
      rw [List.drop_eq_nil_of_le (by omega), firstNZ] at hz
      simp +decide only [↓evd, evw, evz, reduceCtorEq, ↓reduceIte, e30, e31, e32, hlt', hlt2]
      exact seen (by rw [← hz]) hW hF
  · refine ⟨0, by omega, ?_⟩
    simp +decide only [↓evd, evw, evz, reduceCtorEq, ↓reduceIte, hn]
    exact ⟨hck.symm, hW, hF⟩
def spotF (rev : Int) (u : List Int) (at' : Int) : List Atom → List Int → Nat → Nat → Nat
  | a :: l, p :: ps, i, acc => spotF rev u at' l ps (i + 1) (if p < at' ∧ visible rev u a = true then i + 1 else acc)
  | _, _, _, acc => acc
def spotG (rev rank : Int) : List Atom → Nat → Nat
  | a :: l, k => if rev < a.rev ∧ a.rank ≤ rank then spotG rev rank l (k + 1) else k
  | [], k => k
def spot (l : List Atom) (ps : List Int) (rev : Int) (u : List Int) (at' rank : Int) : Nat :=
  spotG rev rank (l.drop (spotF rev u at' l ps 0 0)) (spotF rev u at' l ps 0 0)
theorem spotF_nil (rev : Int) (u : List Int) (at' : Int) (ps : List Int) (i acc : Nat) : spotF rev u at' [] ps i acc = acc := by simp [spotF]
theorem spotF_le (rev : Int) (u : List Int) (at' : Int) : ∀ (l : List Atom) (ps : List Int) (i acc : Nat), acc ≤ i → spotF rev u at' l ps i acc ≤ i + l.length
  | [], ps, i, acc, h => by simp [spotF]; exact h
  | a :: l, [], i, acc, h => by simp [spotF]; omega
  | a :: l, p :: ps, i, acc, h => by
    simp only [spotF, List.length_cons]
    have := spotF_le rev u at' l ps (i + 1) (if p < at' ∧ visible rev u a = true then i + 1 else acc) (by split <;> omega)
    omega
theorem spotG_le (rev rank : Int) : ∀ (l : List Atom) (k : Nat), spotG rev rank l k ≤ k + l.length
  | [], k => by simp [spotG]
  | a :: l, k => by
    simp only [spotG, List.length_cons]
    split
    · have := spotG_le rev rank l (k + 1); omega
    · omega
theorem spot_le (l : List Atom) (ps : List Int) (rev : Int) (u : List Int) (at' rank : Int) : spot l ps rev u at' rank ≤ l.length := by
  have h1 := spotF_le rev u at' l ps 0 0 (Nat.le_refl _)
  have h2 := spotG_le rev rank (l.drop (spotF rev u at' l ps 0 0)) (spotF rev u at' l ps 0 0)
  simp only [List.length_drop] at h2
  unfold spot; omega
set_option maxHeartbeats 4000000 in
theorem spot_call (σ : Heap) (l : List Atom) (ps : List Int) (rev : Int) (u : List Int) (at' rank : Int) (hps : ps.length = l.length + 1) (hu : u.length ≤ 1000000) (hl : Fits l) :
    ACall Tryz.prog n_edit_spot [eAtoms l, ints ps, .int .i64 rev, ints u, .int .i64 at', .int .i64 rank] σ (.int .i64 (spot l ps rev u at' rank : Nat)) σ := by
  refine gc_call rfl (spec_of_awp mixed c_edit_spot (tl rfl) ?_)
  obtain ⟨hl1, hl2, hl3⟩ := hl
  unfold f_edit_spot
  simp +decide only [↓evd, evw, evz, reduceCtorEq, ↓reduceIte]
  refine awp_loop (fun m fr τ => ∃ i acc, m + i = l.length ∧ fr.get 0 = eAtoms l ∧ fr.get 1 = ints ps ∧ fr.get 2 = .int .i64 rev ∧ fr.get 3 = ints u ∧ fr.get 4 = .int .i64 at' ∧ fr.get 5 = .int .i64 rank ∧ fr.get 13 = .int .i64 (acc : Nat) ∧ fr.get 16 = eAtoms l ∧ fr.get 17 = .int .i64 l.length ∧ fr.get 18 = .int .i64 (i : Nat) ∧
    spotF rev u at' (l.drop i) (ps.drop i) i acc = spotF rev u at' l ps 0 0 ∧ Keep [] σ τ) ?_ (m := l.length) ?_
  · rintro m fr τ ⟨i, acc, hi, e0, e1, e2, e3, e4, e5, e13, e16, e17, e18, hs, hK⟩
    by_cases hlt : i < l.length
    · have hlt' : (i : Int) < (l.length : Int) := by omega
      have hg := map_get eAtom l i hlt
      have hgp := map_get (AVal.int .i64 ·) ps i (by omega)
      have hw := wrap_succ (i := i) (by omega)
      have hca := hl2 _ (List.getElem_mem hlt)
      rw [List.drop_eq_getElem_cons hlt, List.drop_eq_getElem_cons (show i < ps.length by omega), spotF] at hs
      generalize l[i] = a at hg hs hca
      generalize ps[i] = p at hgp hs
      have hK2 := hK.junk (.cells [.str [], .int .i64 0, .int .i64 0, .int .i64 0, .nils] none) (.cells [.str a.text, .int .i64 a.rev, .int .i64 a.group, .int .i64 a.rank, eCuts a.cuts] none)
      have hvis := fun ρ => visible_call ρ a rev u (by omega) (by omega)
      by_cases h1 : p < at'
      · simp +decide only [↓evd, evw, evz, reduceCtorEq, ↓reduceIte, e0, e1, e2, e3, e4, e5, e13, e16, e17, e18, hlt', hg, hgp, h1]
        refine MSpec.of (hvis _) ?_
        cases hv : visible rev u a
        · rw [if_neg (by rw [hv]; simp)] at hs
          simp +decide only [↓evd, evw, evz, reduceCtorEq, ↓reduceIte, e0, e1, e2, e3, e4, e5, e13, e16, e17, e18, hw]
          exact ⟨m - 1, by omega, i + 1, acc, by omega, rfl, rfl, hs, hK2⟩
        · rw [if_pos ⟨h1, hv⟩] at hs
          simp +decide only [↓evd, evw, evz, reduceCtorEq, ↓reduceIte, e0, e1, e2, e3, e4, e5, e13, e16, e17, e18, hw]
          exact ⟨m - 1, by omega, i + 1, i + 1, by omega, rfl, rfl, hs, hK2⟩
      · rw [if_neg (fun h => h1 h.1)] at hs
        simp +decide only [↓evd, evw, evz, reduceCtorEq, ↓reduceIte, e0, e1, e2, e3, e4, e5, e13, e16, e17, e18, hlt', hg, hgp, h1, hw]
        exact ⟨m - 1, by omega, i + 1, acc, by omega, rfl, rfl, hs, hK2⟩
    · have hlt' : ¬ (i : Int) < (l.length : Int) := by omega
      rw [List.drop_eq_nil_of_le (show l.length ≤ i by omega), spotF_nil] at hs
      have hle := spotF_le rev u at' l ps 0 0 (Nat.le_refl _)
      have hsp : spot l ps rev u at' rank = spotG rev rank (l.drop acc) acc := by rw [hs]; rfl
      rw [← hs] at hle
      simp +decide only [↓evd, evw, evz, reduceCtorEq, ↓reduceIte, e0, e1, e2, e3, e4, e5, e13, e16, e17, e18, hlt']
      refine awp_loop (fun m fr τ => ∃ k, m + k = l.length ∧ fr.get 0 = eAtoms l ∧ fr.get 2 = .int .i64 rev ∧ fr.get 5 = .int .i64 rank ∧ fr.get 13 = .int .i64 (k : Nat) ∧ spotG rev rank (l.drop k) k = spot l ps rev u at' rank ∧ Keep [] σ τ) ?_ (m := l.length - acc) ?_
      · clear e0 e1 e2 e3 e4 e5 e13 e16 e17 e18 hK hlt hlt' hi hs hsp hle
        rintro m fr τ ⟨k, hi, e0, e2, e5, e13, hs, hK⟩
        by_cases hlt : k < l.length
        · have hlt' : (k : Int) < (l.length : Int) := by omega
          have hg := map_get eAtom l k hlt
          have hw := wrap_succ (i := k) (by omega)
          rw [List.drop_eq_getElem_cons hlt, spotG] at hs
          generalize l[k] = a at hg hs
          by_cases h1 : rev < a.rev
          · by_cases h2 : a.rank ≤ rank
            · rw [if_pos ⟨h1, h2⟩] at hs
              simp +decide only [↓evd, evw, evz, reduceCtorEq, ↓reduceIte, e0, e2, e5, e13, hlt', hg, h1, h2, hw]
              exact ⟨m - 1, by omega, k + 1, by omega, rfl, hs, hK⟩
            · rw [if_neg (fun h => h2 h.2)] at hs
              simp +decide only [↓evd, evw, evz, reduceCtorEq, ↓reduceIte, e0, e2, e5, e13, hlt', hg, h1, h2]
              exact ⟨by rw [hs], hK.1, hK.2.1, fun q hq => hK.get hq⟩
          · rw [if_neg (fun h => h1 h.1)] at hs
            simp +decide only [↓evd, evw, evz, reduceCtorEq, ↓reduceIte, e0, e2, e5, e13, hlt', hg, h1]
            exact ⟨by rw [hs], hK.1, hK.2.1, fun q hq => hK.get hq⟩
        · have hlt' : ¬ (k : Int) < (l.length : Int) := by omega
          rw [List.drop_eq_nil_of_le (by omega), spotG] at hs
          simp +decide only [↓evd, evw, evz, reduceCtorEq, ↓reduceIte, e0, e2, e5, e13, hlt']
          exact ⟨by rw [hs], hK.1, hK.2.1, fun q hq => hK.get hq⟩
      · refine ⟨acc, by omega, ?_⟩
        simp +decide only [↓evd, evw, evz, reduceCtorEq, ↓reduceIte, e0, e2, e5, e13]
        exact ⟨hsp.symm, hK⟩
  · refine ⟨0, 0, by omega, ?_⟩
    simp +decide only [↓evd, evw, evz, reduceCtorEq, ↓reduceIte]
    exact Keep.refl _ _
theorem places_len (rev : Int) (u : List Int) : ∀ (l : List Atom) (n : Nat), (places rev u l n).length = l.length + 1
  | [], n => rfl
  | a :: l, n => by simp only [places, List.length_cons, places_len rev u l]
def spots (l : List Atom) (rev : Int) (u : List Int) (cs : List Chg) (rank : Int) : List Int :=
  if check (atomsText rev u l) cs = 0 then cs.map fun c => ((spot l (places rev u l 0) rev u c.frm rank : Nat) : Int) else []
set_option maxHeartbeats 4000000 in
theorem spots_call (σ : Heap) (l : List Atom) (rev : Int) (u : List Int) (cs : List Chg) (rank : Int) (hu : u.length ≤ 1000000) (hl : Fits l) (hcl : cs.length ≤ 1000000) (hc : ∀ c ∈ cs, ChgFits c) :
    ACall Tryz.prog n_edit_Spots [eAtoms l, .int .i64 rev, ints u, eChgs cs, .int .i64 rank] σ (ints (spots l rev u cs rank)) σ := by
  refine bare_call (by simp only [AVal.pures, eAtoms_pure, ints_pure, eChgs_pure]; rfl) (ints_pure _) (fun W F => spec_of_awp mixed c_edit_Spots (tl rfl) ?_) σ
  unfold f_edit_Spots
  have ht := atomsText_len rev u l
  have ht2 := hl.2.2
  simp +decide only [↓evd, evw, evz, reduceCtorEq, ↓reduceIte]
  refine MSpec.of (text_call _ l rev u hu hl) ?_
  simp +decide only [↓evd, evw, evz, reduceCtorEq, ↓reduceIte]
  refine MSpec.of (check_call _ (atomsText rev u l) cs (by omega) hcl hc) ?_
  by_cases h0 : check (atomsText rev u l) cs = 0
  case neg =>
    have hb : (check (atomsText rev u l) cs != 0) = true := by simpa using h0
    simp +decide only [↓evd, evw, evz, reduceCtorEq, ↓reduceIte, hb]
    rw [spots, if_neg h0]
    exact ⟨_, Sees.nils _ 1, rfl, rfl⟩
  have hb : (check (atomsText rev u l) cs != 0) = false := by simpa using h0
  have hsp : spots l rev u cs rank = cs.map fun c => ((spot l (places rev u l 0) rev u c.frm rank : Nat) : Int) := if_pos h0
  rw [hsp]
  have hpl := places_len rev u l 0
  simp +decide only [↓evd, evw, evz, reduceCtorEq, ↓reduceIte, hb]
  refine MSpec.of (places_call _ l rev u hu hl) ?_
  have hpf : ∀ c : Chg, ∀ ρ, ACall Tryz.prog n_edit_spot [eAtoms l, ints (places rev u l 0), .int .i64 rev, ints u, .int .i64 c.frm, .int .i64 rank] ρ (.int .i64 (spot l (places rev u l 0) rev u c.frm rank : Nat)) ρ := fun c ρ => spot_call ρ l (places rev u l 0) rev u c.frm rank hpl hu hl
  simp +decide only [↓evd, evw, evz, reduceCtorEq, ↓reduceIte]
  generalize places rev u l 0 = ps at hpf hpl
  refine awp_loop (fun m fr τ => ∃ i, m + i = cs.length ∧ fr.get 0 = eAtoms l ∧ fr.get 1 = .int .i64 rev ∧ fr.get 2 = ints u ∧ fr.get 4 = .int .i64 rank ∧ fr.get 11 = ints ps ∧ fr.get 26 = eChgs cs ∧ fr.get 27 = .int .i64 cs.length ∧ fr.get 28 = .int .i64 (i : Nat) ∧
    Own 0 τ t_int 1 (fr.get 12) (((cs.take i).map fun c => ((spot l ps rev u c.frm rank : Nat) : Int)).map (AVal.int .i64 ·)) ∧ τ.W = W ∧ τ.F0 = F) ?_ (m := cs.length) ?_
  · rintro m fr τ ⟨i, hi, e0, e1, e2, e4, e11, e26, e27, e28, hO, hW, hF⟩
    by_cases hlt : i < cs.length
    · have hlt' : (i : Int) < (cs.length : Int) := by omega
      have hg := map_get eChg cs i hlt
      have hw := wrap_succ (i := i) (by omega)
      have t1 := List.take_succ_eq_append_getElem hlt
      generalize cs[i] = c at hg t1
      have hO2 := (hO.new (.cells [.int .i64 0, .int .i64 0, .str []] none)).set (j := τ.next) (fun K o n c e => by have := (hO.low e).2; omega) (.cells [.int .i64 c.frm, .int .i64 c.to, .str c.text] none)
      obtain ⟨x1, ρ1, a1, a2, a3, a4, a5, a6, a7⟩ := own_int hO2 (Nat.zero_le _) (by simp; omega) ((spot l ps rev u c.frm rank : Nat) : Int)
      simp +decide only [↓evd, evw, evz, reduceCtorEq, ↓reduceIte] at a1 a3 a4
      simp +decide only [↓evd, evw, evz, reduceCtorEq, ↓reduceIte, e0, e1, e2, e4, e11, e26, e27, e28, hlt', hg]
      refine MSpec.of (hpf c _) ?_
      simp +decide only [↓evd, evw, evz, reduceCtorEq, ↓reduceIte, e0, e1, e2, e4, e11, e26, e27, e28, a1, hw]
      refine ⟨m - 1, by omega, i + 1, by omega, rfl, ?_, a3.trans hW, a4.trans hF⟩
      rw [t1, List.map_append]
      exact a2
    · have hlt' : ¬ (i : Int) < (cs.length : Int) := by omega
      rw [List.take_of_length_le (by omega)] at hO
      simp +decide only [↓evd, evw, evz, reduceCtorEq, ↓reduceIte, e0, e1, e2, e4, e11, e26, e27, e28, hlt']
      obtain ⟨τ', s1, s2, s3, _⟩ := Own.sees hO
      exact ⟨τ', s1, s2.trans hW, s3.trans hF⟩
  · refine ⟨0, by omega, ?_⟩
    simp +decide only [↓evd, evw, evz, reduceCtorEq, ↓reduceIte]
    exact Own.nil _ _ _ _
def cutHit (cs : List Chg) (p : Int) : Bool := cs.any fun c => decide (c.frm ≤ p) && decide (p < c.to)
def cutsF (rev : Int) (u : List Int) (cs : List Chg) : List Atom → List Int → Nat → List Int
  | a :: l, p :: ps, i => (if visible rev u a && cutHit cs p then [(i : Int)] else []) ++ cutsF rev u cs l ps (i + 1)
  | _, _, _ => []
theorem cutsF_nil (rev : Int) (u : List Int) (cs : List Chg) (ps : List Int) (i : Nat) : cutsF rev u cs [] ps i = [] := by simp [cutsF]
def cuts (l : List Atom) (rev : Int) (u : List Int) (cs : List Chg) : List Int :=
  if check (atomsText rev u l) cs = 0 then cutsF rev u cs l (places rev u l 0) 0 else []
theorem Own.var2 {B k : Nat} {e : TypeId} {σ : Heap} {x : AVal} {els : List AVal} (h : Own B σ e k x els) (b c : ABlk) : Own B ((σ.new b).set σ.next c) e k x els :=
  (h.new b).set (fun K o n c' hx => by have := (h.low hx).2; omega) c
set_option maxHeartbeats 8000000 in
theorem cuts_call (σ : Heap) (l : List Atom) (rev : Int) (u : List Int) (cs : List Chg) (hu : u.length ≤ 1000000) (hl : Fits l) (hcl : cs.length ≤ 1000000) (hc : ∀ c ∈ cs, ChgFits c) :
    ACall Tryz.prog n_edit_Cuts [eAtoms l, .int .i64 rev, ints u, eChgs cs] σ (ints (cuts l rev u cs)) σ := by
  refine bare_call (by simp only [AVal.pures, eAtoms_pure, ints_pure, eChgs_pure]; rfl) (ints_pure _) (fun W F => spec_of_awp mixed c_edit_Cuts (tl rfl) ?_) σ
  unfold f_edit_Cuts
  have ht := atomsText_len rev u l
  have ht2 := hl.2.2
  simp +decide only [↓evd, evw, evz, reduceCtorEq, ↓reduceIte]
  refine MSpec.of (text_call _ l rev u hu hl) ?_
  simp +decide only [↓evd, evw, evz, reduceCtorEq, ↓reduceIte]
  refine MSpec.of (check_call _ (atomsText rev u l) cs (by omega) hcl hc) ?_
  by_cases h0 : check (atomsText rev u l) cs = 0
  case neg =>
    have hb : (check (atomsText rev u l) cs != 0) = true := by simpa using h0
    simp +decide only [↓evd, evw, evz, reduceCtorEq, ↓reduceIte, hb]
    rw [cuts, if_neg h0]
    exact ⟨_, Sees.nils _ 1, rfl, rfl⟩
  have hb : (check (atomsText rev u l) cs != 0) = false := by simpa using h0
  have hsp : cuts l rev u cs = cutsF rev u cs l (places rev u l 0) 0 := if_pos h0
  rw [hsp]
  have hpl := places_len rev u l 0
  simp +decide only [↓evd, evw, evz, reduceCtorEq, ↓reduceIte, hb]
  refine MSpec.of (places_call _ l rev u hu hl) ?_
  simp +decide only [↓evd, evw, evz, reduceCtorEq, ↓reduceIte]
  generalize places rev u l 0 = ps at hpl
  obtain ⟨hl1, hl2, hl3⟩ := hl
  refine awp_loop (fun m fr τ => ∃ i acc, m + i = l.length ∧ fr.get 1 = .int .i64 rev ∧ fr.get 2 = ints u ∧ fr.get 3 = eChgs cs ∧ fr.get 9 = ints ps ∧ fr.get 26 = eAtoms l ∧ fr.get 27 = .int .i64 l.length ∧ fr.get 28 = .int .i64 (i : Nat) ∧
    Own 0 τ t_int 1 (fr.get 10) (acc.map (AVal.int .i64 ·)) ∧ acc.length ≤ i ∧ acc ++ cutsF rev u cs (l.drop i) (ps.drop i) i = cutsF rev u cs l ps 0 ∧ τ.W = W ∧ τ.F0 = F) ?_ (m := l.length) ?_
  · rintro m fr τ ⟨i, acc, hi, e1, e2, e3, e9, e26, e27, e28, hO, hal, hs, hW, hF⟩
    by_cases hlt : i < l.length
    · have hlt' : (i : Int) < (l.length : Int) := by omega
      have hg := map_get eAtom l i hlt
      have hgp := map_get (AVal.int .i64 ·) ps i (by omega)
      have hw := wrap_succ (i := i) (by omega)
      have hca := hl2 _ (List.getElem_mem hlt)
      have hltp : (i : Int) < (ps.length : Int) := by omega
      rw [List.drop_eq_getElem_cons hlt, List.drop_eq_getElem_cons (show i < ps.length by omega), cutsF] at hs
      generalize l[i] = a at hg hs hca
      generalize ps[i] = p at hgp hs
      have hvis := fun ρ => visible_call ρ a rev u (by omega) (by omega)
      have hO2 := Own.var2 hO (.cells [.str [], .int .i64 0, .int .i64 0, .int .i64 0, .nils] none) (.cells [.str a.text, .int .i64 a.rev, .int .i64 a.group, .int .i64 a.rank, eCuts a.cuts] none)
      simp +decide only [↓evd, evw, evz, reduceCtorEq, ↓reduceIte, e1, e2, e3, e9, e26, e27, e28, hlt', hg]
      refine MSpec.of (hvis _) ?_
      cases hv : visible rev u a
      · rw [hv, Bool.false_and, if_neg (by simp), List.nil_append] at hs
        simp +decide only [↓evd, evw, evz, reduceCtorEq, ↓reduceIte, e1, e2, e3, e9, e26, e27, e28, hw]
        exact ⟨m - 1, by omega, i + 1, acc, by omega, rfl, hO2, by omega, hs, hW, hF⟩
      rw [hv, Bool.true_and] at hs
      simp +decide only [↓evd, evw, evz, reduceCtorEq, ↓reduceIte, e1, e2, e3, e9, e26, e27, e28]
      simp +decide only [↓evd, evw, evz, reduceCtorEq, ↓reduceIte] at hO2
      generalize hx10 : fr.get 10 = x10 at hO2
      refine awp_loop (fun m' fr ρ => ∃ j, m' + j = cs.length ∧ fr.get 1 = .int .i64 rev ∧ fr.get 2 = ints u ∧ fr.get 3 = eChgs cs ∧ fr.get 9 = ints ps ∧ fr.get 26 = eAtoms l ∧ fr.get 27 = .int .i64 l.length ∧ fr.get 28 = .int .i64 (i : Nat) ∧ fr.get 11 = .int .i64 (i : Nat) ∧ fr.get 10 = x10 ∧ fr.get 38 = eChgs cs ∧ fr.get 39 = .int .i64 cs.length ∧ fr.get 40 = .int .i64 (j : Nat) ∧
        Own 0 ρ t_int 1 x10 (acc.map (AVal.int .i64 ·)) ∧ cutHit (cs.drop j) p = cutHit cs p ∧ ρ.W = W ∧ ρ.F0 = F) ?_ (m := cs.length) ?_
      · clear e1 e2 e3 e9 e26 e27 e28 hO hO2 hW hF hx10
        rintro m' fr ρ ⟨j, hj, e1, e2, e3, e9, e26, e27, e28, e11, e10, e38, e39, e40, hO, hh, hW, hF⟩
        by_cases hlt : j < cs.length
        · have hjt' : (j : Int) < (cs.length : Int) := by omega
          have hg := map_get eChg cs j hlt
          have hwj := wrap_succ (i := j) (by omega)
          rw [List.drop_eq_getElem_cons hlt, cutHit, List.any_cons] at hh
          generalize cs[j] = c at hg hh
          have hO2 := Own.var2 hO (.cells [.int .i64 0, .int .i64 0, .str []] none) (.cells [.int .i64 c.frm, .int .i64 c.to, .str c.text] none)
          obtain ⟨x1, ρ1, a1, a2, a3, a4, a5, a6, a7⟩ := own_int hO2 (Nat.zero_le _) (by omega) (i : Int)
          simp +decide only [↓evd, evw, evz, reduceCtorEq, ↓reduceIte] at a1 a3 a4
          simp +decide only [↓evd, evw, evz, reduceCtorEq, ↓reduceIte, e1, e2, e3, e9, e26, e27, e28, e11, e10, e38, e39, e40, hjt', hg]
          with_reducible refine draw_of_grow (fun _ => True) (ms := [false, false, false, false, false, false, false, false, false, false, false, false, false, false, false, false]) (by kernel_rfl) ?_
          by_cases c1 : c.frm ≤ p
          · by_cases c2 : p < c.to
            · have hit : cutHit cs p = true := by rw [← hh]; simp [c1, c2]
              rw [if_pos hit] at hs
              simp +decide only [↓evd, evw, evz, reduceCtorEq, ↓reduceIte, e1, e2, e3, e9, e26, e27, e28, e11, e10, e38, e39, e40, hltp, hgp, c1, c2, a1, hw]
              refine ⟨m - 1, by omega, i + 1, acc ++ [(i : Int)], by omega, rfl, a2, by simp; omega, ?_, a3.trans hW, a4.trans hF⟩
              rw [List.append_assoc]; exact hs
            · have hh' : cutHit (cs.drop (j + 1)) p = cutHit cs p := by rw [← hh]; simp [c2, cutHit]
              simp +decide only [↓evd, evw, evz, reduceCtorEq, ↓reduceIte, e1, e2, e3, e9, e26, e27, e28, e11, e10, e38, e39, e40, hltp, hgp, c1, c2, hwj]
              exact ⟨m' - 1, by omega, j + 1, by omega, rfl, hO2, hh', hW, hF⟩
          · have hh' : cutHit (cs.drop (j + 1)) p = cutHit cs p := by rw [← hh]; simp [c1, cutHit]
            simp +decide only [↓evd, evw, evz, reduceCtorEq, ↓reduceIte, e1, e2, e3, e9, e26, e27, e28, e11, e10, e38, e39, e40, hltp, hgp, c1, hwj]
            exact ⟨m' - 1, by omega, j + 1, by omega, rfl, hO2, hh', hW, hF⟩
        · have hjt' : ¬ (j : Int) < (cs.length : Int) := by omega
          rw [List.drop_eq_nil_of_le (by omega)] at hh
          have hit : cutHit cs p = false := by rw [← hh]; rfl
          rw [hit, if_neg (by simp), List.nil_append] at hs
          simp +decide only [↓evd, evw, evz, reduceCtorEq, ↓reduceIte, e1, e2, e3, e9, e26, e27, e28, e11, e10, e38, e39, e40, hjt', hw]
          exact ⟨m - 1, by omega, i + 1, acc, by omega, rfl, hO, by omega, hs, hW, hF⟩
      · refine ⟨0, by omega, ?_⟩
        simp +decide only [↓evd, evw, evz, reduceCtorEq, ↓reduceIte, e1, e2, e3, e9, e26, e27, e28, hx10]
        exact ⟨hO2, hW, hF⟩
    · have hlt' : ¬ (i : Int) < (l.length : Int) := by omega
      rw [List.drop_eq_nil_of_le (show l.length ≤ i by omega), cutsF_nil, List.append_nil] at hs
      rw [hs] at hO
      simp +decide only [↓evd, evw, evz, reduceCtorEq, ↓reduceIte, e1, e2, e3, e9, e26, e27, e28, hlt']
      obtain ⟨τ', s1, s2, s3, _⟩ := Own.sees hO
      exact ⟨τ', s1, s2.trans hW, s3.trans hF⟩
  · refine ⟨0, [], by omega, ?_⟩
    simp +decide only [↓evd, evw, evz, reduceCtorEq, ↓reduceIte]
    exact Own.nil _ _ _ _
end Go.Proofs.YtkjikdohnomajaaGreat.M
namespace Go.Proofs.YtkjikdohnomajaaGreat.M
open Go Go.Mini
theorem byte_at {s : List UInt8} {i k : Nat} {b : UInt8} (h : (s.drop i)[k]? = some b) : (ByteArray.mk s.toArray).get! (i + k) = b := by
  rw [List.getElem?_drop] at h
  obtain ⟨hlt, he⟩ := List.getElem?_eq_some_iff.1 h
  simp only [ByteArray.get!]
  simp [hlt, he]
theorem byte_lt {s : List UInt8} {i k : Nat} {b : UInt8} (h : (s.drop i)[k]? = some b) : i + k < s.length := by
  rw [List.getElem?_drop] at h
  exact (List.getElem?_eq_some_iff.1 h).1
theorem isPt_valid (c : Nat) : Utf8.valid (c : Int) = isPt c := by
  rw [Bool.eq_iff_iff]
  simp only [Utf8.valid, isPt, Bool.or_eq_true, Bool.and_eq_true, decide_eq_true_eq]
  omega
theorem conts_one {v : Nat} {r : List UInt8} {x : Nat} (h : conts v 1 r = some x) : ∃ b t, r = b :: t ∧ b.toNat / 64 = 2 ∧ x = v * 64 + b.toNat % 64 := by
  cases r with
  | nil => simp [conts] at h
  | cons b t =>
    simp only [conts] at h
    split at h
    · rename_i hb; cases h; exact ⟨b, t, rfl, hb, rfl⟩
    · cases h
theorem conts_two {v : Nat} {r : List UInt8} {x : Nat} (h : conts v 2 r = some x) : ∃ b c t, r = b :: c :: t ∧ b.toNat / 64 = 2 ∧ c.toNat / 64 = 2 ∧ x = (v * 64 + b.toNat % 64) * 64 + c.toNat % 64 := by
  cases r with
  | nil => simp [conts] at h
  | cons b t =>
    rw [conts] at h
    split at h
    · rename_i hb
      obtain ⟨c, t', rfl, h1, h2⟩ := conts_one h
      exact ⟨b, c, t', rfl, hb, h1, h2⟩
    · cases h
theorem conts_three {v : Nat} {r : List UInt8} {x : Nat} (h : conts v 3 r = some x) : ∃ b c d t, r = b :: c :: d :: t ∧ b.toNat / 64 = 2 ∧ c.toNat / 64 = 2 ∧ d.toNat / 64 = 2 ∧ x = ((v * 64 + b.toNat % 64) * 64 + c.toNat % 64) * 64 + d.toNat % 64 := by
  cases r with
  | nil => simp [conts] at h
  | cons b t =>
    rw [conts] at h
    split at h
    · rename_i hb
      obtain ⟨c, d, t', rfl, h1, h2, h3⟩ := conts_two h
      exact ⟨b, c, d, t', rfl, hb, h1, h2, h3⟩
    · cases h
theorem ptN_some {v n least : Nat} {r : List UInt8} (h : (ptN v n least r).2 ≠ 0) : ∃ x, conts v (n - 1) r = some x ∧ least ≤ x ∧ isPt x = true ∧ ptN v n least r = (x, n) := by
  unfold ptN at h ⊢
  cases hc : conts v (n - 1) r with
  | none => rw [hc] at h; simp at h
  | some x =>
    rw [hc] at h
    simp only at h ⊢
    split at h
    · simp at h
    · rename_i hx
      rw [if_neg hx]
      simp only [Bool.or_eq_true, decide_eq_true_eq, Bool.not_eq_true', not_or, Bool.not_eq_false] at hx
      exact ⟨x, rfl, by omega, hx.2, rfl⟩
theorem pt_shapes {r : List UInt8} (h : (pt r).2 ≠ 0) :
    (∃ a t, r = a :: t ∧ a.toNat < 128 ∧ pt r = (a.toNat, 1)) ∨
    (∃ a b t x, r = a :: b :: t ∧ a.toNat / 32 = 6 ∧ b.toNat / 64 = 2 ∧ x = a.toNat % 32 * 64 + b.toNat % 64 ∧ 128 ≤ x ∧ isPt x = true ∧ pt r = (x, 2)) ∨
    (∃ a b c t x, r = a :: b :: c :: t ∧ a.toNat / 16 = 14 ∧ b.toNat / 64 = 2 ∧ c.toNat / 64 = 2 ∧ x = (a.toNat % 16 * 64 + b.toNat % 64) * 64 + c.toNat % 64 ∧ 2048 ≤ x ∧ isPt x = true ∧ pt r = (x, 3)) ∨
    (∃ a b c d t x, r = a :: b :: c :: d :: t ∧ a.toNat / 8 = 30 ∧ b.toNat / 64 = 2 ∧ c.toNat / 64 = 2 ∧ d.toNat / 64 = 2 ∧ x = ((a.toNat % 8 * 64 + b.toNat % 64) * 64 + c.toNat % 64) * 64 + d.toNat % 64 ∧ 65536 ≤ x ∧ isPt x = true ∧ pt r = (x, 4)) := by
  cases r with
  | nil => simp [pt] at h
  | cons a t =>
    rw [pt] at h
    split at h
    · rename_i h1; exact .inl ⟨a, t, rfl, h1, by rw [pt, if_pos h1]⟩
    · rename_i h1
      split at h
      · rename_i h2
        obtain ⟨x, g1, g2, g3, g4⟩ := ptN_some h
        obtain ⟨b, t', rfl, g5, g6⟩ := conts_one g1
        exact .inr (.inl ⟨a, b, t', x, rfl, h2, g5, g6, g2, g3, by rw [pt, if_neg h1, if_pos h2, g4]⟩)
      · rename_i h2
        split at h
        · rename_i h3
          obtain ⟨x, g1, g2, g3, g4⟩ := ptN_some h
          obtain ⟨b, c, t', rfl, g5, g6, g7⟩ := conts_two g1
          exact .inr (.inr (.inl ⟨a, b, c, t', x, rfl, h3, g5, g6, g7, g2, g3, by rw [pt, if_neg h1, if_neg h2, if_pos h3, g4]⟩))
        · rename_i h3
          split at h
          · rename_i h4
            obtain ⟨x, g1, g2, g3, g4⟩ := ptN_some h
            obtain ⟨b, c, d, t', rfl, g5, g6, g7, g8⟩ := conts_three g1
            exact .inr (.inr (.inr ⟨a, b, c, d, t', x, rfl, h4, g5, g6, g7, g8, g2, g3, by rw [pt, if_neg h1, if_neg h2, if_neg h3, if_pos h4, g4]⟩))
          · simp at h
theorem decode_pt {s : List UInt8} {i : Nat} (h : (pt (s.drop i)).2 ≠ 0) : Utf8.decode ⟨s.toArray⟩ i = pt (s.drop i) := by
  have hsz : (ByteArray.mk s.toArray).size = s.length := by simp [ByteArray.size]
  rcases pt_shapes h with ⟨a, t, hr, h1, hp⟩ | ⟨a, b, t, x, hr, h1, h2, hx, hx1, hx2, hp⟩ | ⟨a, b, c, t, x, hr, h1, h2, h3, hx, hx1, hx2, hp⟩ | ⟨a, b, c, d, t, x, hr, h1, h2, h3, h4, hx, hx1, hx2, hp⟩
  all_goals
    rw [hp]
    have g0 : (ByteArray.mk s.toArray).get! (i + 0) = a := byte_at (by rw [hr]; rfl)
    unfold Utf8.decode
    simp only [g0]
  · rw [if_pos h1]
  · have g1 : (ByteArray.mk s.toArray).get! (i + 1) = b := byte_at (by rw [hr]; rfl)
    have l1 : i + 1 < s.length := byte_lt (b := b) (by rw [hr]; rfl)
    simp only [g1, hsz]
    have e0 : ¬ a.toNat < 128 := by omega
    have e1 : (a.toNat / 32 == 6) = true := by simpa using h1
    have e2 : (b.toNat / 64 == 2) = true := by simpa using h2
    simp only [e0, e1, e2, l1, decide_true, Bool.and_true, if_true, if_false, ← hx]
    rw [if_pos hx1]
  · have g1 : (ByteArray.mk s.toArray).get! (i + 1) = b := byte_at (by rw [hr]; rfl)
    have l1 : i + 1 < s.length := byte_lt (b := b) (by rw [hr]; rfl)
    have g2 : (ByteArray.mk s.toArray).get! (i + 2) = c := byte_at (by rw [hr]; rfl)
    have l2 : i + 2 < s.length := byte_lt (b := c) (by rw [hr]; rfl)
    simp only [g1, g2, hsz]
    have e0 : ¬ a.toNat < 128 := by omega
    have e1 : (a.toNat / 32 == 6) = false := by simp; omega
    have e1' : (a.toNat / 16 == 14) = true := by simpa using h1
    have e2 : (b.toNat / 64 == 2) = true := by simpa using h2
    have e3 : (c.toNat / 64 == 2) = true := by simpa using h3
    have hx' : a.toNat % 16 * 4096 + b.toNat % 64 * 64 + c.toNat % 64 = x := by omega
    have hv : Utf8.valid ((x : Nat) : Int) = true := by rw [isPt_valid]; exact hx2
    simp only [e0, e1, e1', e2, e3, l1, l2, decide_true, Bool.and_true, Bool.false_and, if_true, if_false, hx', hv, Bool.false_eq_true]
    rw [if_pos (by simpa using hx1)]
  · have g1 : (ByteArray.mk s.toArray).get! (i + 1) = b := byte_at (by rw [hr]; rfl)
    have l1 : i + 1 < s.length := byte_lt (b := b) (by rw [hr]; rfl)
    have g2 : (ByteArray.mk s.toArray).get! (i + 2) = c := byte_at (by rw [hr]; rfl)
    have l2 : i + 2 < s.length := byte_lt (b := c) (by rw [hr]; rfl)
    have g3 : (ByteArray.mk s.toArray).get! (i + 3) = d := byte_at (by rw [hr]; rfl)
    have l3 : i + 3 < s.length := byte_lt (b := d) (by rw [hr]; rfl)
    simp only [g1, g2, g3, hsz]
    have e0 : ¬ a.toNat < 128 := by omega
    have e1 : (a.toNat / 32 == 6) = false := by simp; omega
    have e1' : (a.toNat / 16 == 14) = false := by simp; omega
    have e1'' : (a.toNat / 8 == 30) = true := by simpa using h1
    have e2 : (b.toNat / 64 == 2) = true := by simpa using h2
    have e3 : (c.toNat / 64 == 2) = true := by simpa using h3
    have e4 : (d.toNat / 64 == 2) = true := by simpa using h4
    have hx' : a.toNat % 8 * 262144 + b.toNat % 64 * 4096 + c.toNat % 64 * 64 + d.toNat % 64 = x := by omega
    have hv : Utf8.valid ((x : Nat) : Int) = true := by rw [isPt_valid]; exact hx2
    simp only [e0, e1, e1', e1'', e2, e3, e4, l1, l2, l3, decide_true, Bool.and_true, Bool.false_and, if_true, if_false, hx', hv, Bool.false_eq_true]
    rw [if_pos (by simpa using hx1)]
theorem ofNat_of {n : Nat} {b : UInt8} (h : n = b.toNat) : UInt8.ofNat n = b := by rw [h]; exact UInt8.ofNat_toNat
theorem encode_pt {r : List UInt8} (h : (pt r).2 ≠ 0) : (Utf8.encode ((pt r).1 : Nat)).data.toList = r.take (pt r).2 := by
  rcases pt_shapes h with ⟨a, t, hr, h1, hp⟩ | ⟨a, b, t, x, hr, h1, h2, hx, hx1, hx2, hp⟩ | ⟨a, b, c, t, x, hr, h1, h2, h3, hx, hx1, hx2, hp⟩ | ⟨a, b, c, d, t, x, hr, h1, h2, h3, h4, hx, hx1, hx2, hp⟩
  · rw [hp, hr]
    have hv : Utf8.valid ((a.toNat : Nat) : Int) = true := by simp [Utf8.valid]; omega
    simp only [Utf8.encode, hv, if_true, Int.toNat_natCast]
    rw [if_pos h1, ofNat_of rfl]; rfl
  · rw [hp, hr]
    have hv : Utf8.valid ((x : Nat) : Int) = true := by rw [isPt_valid]; exact hx2
    have hb1 := a.toNat_lt
    have hb2 := b.toNat_lt
    simp only [Utf8.encode, hv, if_true, Int.toNat_natCast]
    rw [if_neg (by omega), if_pos (by omega), ofNat_of (b := a) (by omega), ofNat_of (b := b) (by omega)]; rfl
  · rw [hp, hr]
    have hv : Utf8.valid ((x : Nat) : Int) = true := by rw [isPt_valid]; exact hx2
    have hb1 := a.toNat_lt
    have hb2 := b.toNat_lt
    have hb3 := c.toNat_lt
    simp only [Utf8.encode, hv, if_true, Int.toNat_natCast]
    rw [if_neg (by omega), if_neg (by omega), if_pos (by omega), ofNat_of (b := a) (by omega), ofNat_of (b := b) (by omega), ofNat_of (b := c) (by omega)]; rfl
  · rw [hp, hr]
    have hv : Utf8.valid ((x : Nat) : Int) = true := by rw [isPt_valid]; exact hx2
    have hb1 := a.toNat_lt
    have hb2 := b.toNat_lt
    have hb3 := c.toNat_lt
    have hb4 := d.toNat_lt
    simp only [Utf8.encode, hv, if_true, Int.toNat_natCast]
    rw [if_neg (by omega), if_neg (by omega), if_neg (by omega), ofNat_of (b := a) (by omega), ofNat_of (b := b) (by omega), ofNat_of (b := c) (by omega), ofNat_of (b := d) (by omega)]; rfl
end Go.Proofs.YtkjikdohnomajaaGreat.M
namespace Go.Proofs.YtkjikdohnomajaaGreat.M
open Go Go.Mini
attribute [local congr] go1_congr goM_congr goG_congr goV_congr drawwp_congr
abbrev t_Atom : TypeId := 85
def newAtoms (rev group rank : Int) (ps : List (List UInt8)) : List Atom := ps.map fun b => ⟨b, rev, group, rank, []⟩
theorem copy_nil_spec (σ : Heap) : MSpec Tryz.prog n_atom_Copy [.nils] σ fun v τ => v = .slc (.new σ.next) 0 0 (.ex 0) ∧ τ = σ.new (.cells [] none) := by
  refine spec_of_awp mixed c_atom_Copy (tl rfl) ?_
  unfold f_atom_Copy
  have h0 : ((0 : Int) ≤ 2 ^ 62) = True := eq_true (by decide)
  have hz : (0 ≤ maxRoom) = True := eq_true (Nat.zero_le _)
  simp +decide only [↓evd, evw, evz, reduceCtorEq, ↓reduceIte, h0, hz]
  simp +decide only [↓evd, evw, evz, reduceCtorEq, ↓reduceIte, aCopy, aSLen, aLenOf, srcCells, slcCells, Nat.min_self]
  refine awp_loop_unroll ?_
  simp +decide only [↓evd, evw, evz, reduceCtorEq, ↓reduceIte]
def flatR : List Atom → List AVal → List AVal
  | a :: l, z :: zs => .str a.text :: .int .i64 a.rev :: .int .i64 a.group :: .int .i64 a.rank :: z :: flatR l zs
  | _, _ => []
theorem flatR_len : ∀ {l : List Atom} {zs : List AVal}, zs.length = l.length → (flatR l zs).length = l.length * 5
  | [], [], _ => rfl
  | a :: l, z :: zs, h => by
    simp only [flatR, List.length_cons] at h ⊢
    rw [flatR_len (by omega)]; omega
theorem flatR_get : ∀ {l : List Atom} {zs : List AVal} {j : Nat}, zs.length = l.length → (flatR l zs)[j * 5 + 4]? = zs[j]?
  | [], [], j, _ => rfl
  | a :: l, z :: zs, 0, _ => rfl
  | a :: l, z :: zs, j + 1, h => by
    have := flatR_get (l := l) (zs := zs) (j := j) (by simpa using h)
    rw [show (j + 1) * 5 + 4 = (j * 5 + 4) + 1 + 1 + 1 + 1 + 1 by omega]
    simp only [flatR, List.getElem?_cons_succ]
    exact this
theorem flatR_set : ∀ {l : List Atom} {zs : List AVal} {j : Nat} {x : AVal}, zs.length = l.length → (flatR l zs).set (j * 5 + 4) x = flatR l (zs.set j x)
  | [], [], j, x, _ => rfl
  | a :: l, z :: zs, 0, x, _ => rfl
  | a :: l, z :: zs, j + 1, x, h => by
    have := flatR_set (l := l) (zs := zs) (j := j) (x := x) (by simpa using h)
    rw [show (j + 1) * 5 + 4 = (j * 5 + 4) + 1 + 1 + 1 + 1 + 1 by omega]
    simp only [flatR, List.set_cons_succ]
    rw [this]
theorem flatR_full : ∀ l : List Atom, flatR l (l.map fun a => eCuts a.cuts) = (l.map eAtom).flatMap AVal.cells
  | [] => rfl
  | a :: l => by simp only [List.map_cons, flatR, List.flatMap_cons, flatR_full l]; rfl
def CutLst (x : AVal) (cs : List Cut) : Prop := x = eCuts cs ∨ (x = .nils ∧ cs = [])
theorem CutLst.sees {x : AVal} {cs : List Cut} (h : CutLst x cs) (σ : Heap) : Sees σ x σ (eCuts cs) := by
  rcases h with rfl | ⟨rfl, rfl⟩
  · exact Sees.refl _ _
  · exact Sees.nils σ 2
def seenCuts (l : List Atom) (zs : List AVal) (j : Nat) : List AVal := (l.take j).map (fun a => eCuts a.cuts) ++ zs.drop j
theorem seenCuts_len {l : List Atom} {zs : List AVal} (h : zs.length = l.length) (j : Nat) : (seenCuts l zs j).length = l.length := by simp [seenCuts]; omega
theorem seenCuts_all {l : List Atom} {zs : List AVal} (h : zs.length = l.length) : seenCuts l zs l.length = l.map fun a => eCuts a.cuts := by
  simp only [seenCuts, List.take_length, List.drop_eq_nil_of_le (Nat.le_of_eq h), List.append_nil]
theorem seenCuts_succ {l : List Atom} {zs : List AVal} (h : zs.length = l.length) {j : Nat} (hj : j < l.length) : (seenCuts l zs j).set j (eCuts l[j].cuts) = seenCuts l zs (j + 1) := by
  have e : ((l.take j).map fun a => eCuts a.cuts).length = j := by simp; omega
  simp only [seenCuts]
  rw [List.set_append_right _ _ (by omega), e, Nat.sub_self, List.drop_eq_getElem_cons (show j < zs.length by omega), List.set_cons_zero, List.take_succ_eq_append_getElem hj, List.map_append, List.append_assoc]; rfl
theorem seenCuts_get {l : List Atom} {zs : List AVal} (h : zs.length = l.length) {j : Nat} (hj : j < l.length) : (seenCuts l zs j)[j]? = zs[j]? := by
  have e : ((l.take j).map fun a => eCuts a.cuts).length = j := by simp; omega
  simp only [seenCuts]
  rw [List.getElem?_append_right (by omega), e, Nat.sub_self, List.getElem?_drop, Nat.add_zero]
theorem sees_atoms {σ : Heap} {K n : Nat} {cap : Cap} {l : List Atom} {zs : List AVal} {opn : Option TypeId} (hn : n = l.length) (hz : zs.length = l.length) (hc : ∀ (j : Nat) (a : Atom) (z : AVal), l[j]? = some a → zs[j]? = some z → CutLst z a.cuts)
    (w : List AVal) (hg : σ.get K = some (.cells (flatR l zs ++ w) opn)) (hcap : ∀ c, cap = .ex c → n ≤ c) : ∃ ρ, Sees σ (.slc (.new K) 0 n cap) ρ (eAtoms l) ∧ ρ.W = σ.W ∧ ρ.F0 = σ.F0 ∧ ρ.next = σ.next ∧ ∀ q, q ≠ K → ρ.get q = σ.get q := by
  have step : ∀ j, j ≤ l.length → ∃ τ, Sees σ (.slc (.new K) 0 n cap) τ (.slc (.new K) 0 n cap) ∧ τ.get K = some (.cells (flatR l (seenCuts l zs j) ++ w) opn) ∧ τ.W = σ.W ∧ τ.F0 = σ.F0 ∧ τ.next = σ.next ∧ ∀ q, q ≠ K → τ.get q = σ.get q := by
    intro j
    induction j with
    | zero => intro _; exact ⟨σ, Sees.refl _ _, hg, rfl, rfl, rfl, fun _ _ => rfl⟩
    | succ j ih =>
      intro hj
      obtain ⟨τ, h1, h2, h3⟩ := ih (by omega)
      have hlz : j < zs.length := by omega
      have hx := hc j _ _ (List.getElem?_eq_getElem (show j < l.length by omega)) (List.getElem?_eq_getElem hlz)
      have hfl := flatR_len (seenCuts_len (zs := zs) hz j)
      have hget : (flatR l (seenCuts l zs j) ++ w)[j * 5 + 4]? = some zs[j] := by rw [List.getElem?_append_left (by omega), flatR_get (seenCuts_len hz j), seenCuts_get hz (by omega), List.getElem?_eq_getElem hlz]
      have hs := Sees.cell (off := 0) (n := n) (cap := cap) h2 hget (hx.sees τ) h2
      refine ⟨_, h1.trans hs, ?_, h3.1, h3.2.1, h3.2.2.1, fun q hq => ?_⟩
      · rw [Heap.get_set, if_pos rfl, List.set_append_left _ _ (by omega), flatR_set (seenCuts_len hz j), seenCuts_succ hz (by omega)]
      · rw [Heap.get_set, if_neg (fun e => hq e.symm)]; exact h3.2.2.2 q hq
  obtain ⟨τ, h1, h2, h3⟩ := step l.length (Nat.le_refl _)
  rw [seenCuts_all hz, flatR_full] at h2
  refine ⟨_, h1.trans (Sees.own h2 (by simp [hn]) (atoms_row l) ?_ hcap), h3.1, h3.2.1, h3.2.2.1, fun q hq => ?_⟩
  · have hfl : ((l.map eAtom).flatMap AVal.cells).length = n * 5 := by rw [flat_len (atoms_row l), List.length_map, hn]
    rw [List.drop_zero, List.take_append_of_le_length (by omega), List.take_of_length_le (by omega)]
  · rw [Heap.get_set, if_neg (fun e => hq e.symm)]; exact h3.2.2.2 q hq
def rawA (rev group rank : Int) (b : List UInt8) : AVal := .agg [.str b, .int .i64 rev, .int .i64 group, .int .i64 rank, .nils]
theorem rawA_flat (rev group rank : Int) : ∀ l : List (List UInt8), (l.map (rawA rev group rank)).flatMap AVal.cells = flatR (newAtoms rev group rank l) (List.replicate l.length .nils)
  | [] => rfl
  | b :: l => by simp only [List.map_cons, List.flatMap_cons, rawA_flat rev group rank l, newAtoms, List.length_cons, List.replicate_succ, flatR]; rfl
theorem row_sees {σ : Heap} {B : Nat} {x : AVal} {rev group rank : Int} {ps : List (List UInt8)} (h : Row B σ t_Atom 5 x (ps.map (rawA rev group rank))) : ∃ ρ, Sees σ x ρ (eAtoms (newAtoms rev group rank ps)) ∧ ρ.W = σ.W ∧ ρ.F0 = σ.F0 := by
  rcases h.2 with ⟨rfl, h0⟩ | ⟨K, cap, cs, opn, rfl, hg, ht, hB, hK, hcap⟩
  · have : ps = [] := by simpa using h0
    subst this
    exact ⟨σ, Sees.nils σ 5, rfl, rfl⟩
  · rw [rawA_flat] at ht
    have hcs : cs = flatR (newAtoms rev group rank ps) (List.replicate ps.length .nils) ++ cs.drop ((ps.map (rawA rev group rank)).length * 5) := by rw [← ht, List.take_append_drop]
    rw [hcs] at hg
    obtain ⟨ρ, h1, h2, h3, _⟩ := sees_atoms (n := (ps.map (rawA rev group rank)).length) (cap := cap) (l := newAtoms rev group rank ps) (zs := List.replicate ps.length .nils) (by simp [newAtoms]) (by simp [newAtoms])
      (fun j a z ha hz => by
        simp only [newAtoms, List.getElem?_map, Option.map_eq_some_iff] at ha
        obtain ⟨b, _, rfl⟩ := ha
        have := List.mem_of_getElem? hz
        exact .inr ⟨List.eq_of_mem_replicate this, rfl⟩) _ hg (by
        rcases hcap with ⟨rfl, _⟩ | ⟨c, rfl, hc, _⟩
        · intro c hc; cases hc
        · intro c' hc'; cases hc'; exact hc)
    exact ⟨ρ, h1, h2, h3⟩
set_option maxHeartbeats 4000000 in
theorem put_call (σ : Heap) (s : List UInt8) (rev group rank : Int) (ps : List (List UInt8)) (hs : s.length ≤ 1000000) (hp : pts s = some ps) :
    ACall Tryz.prog n_atom_Put [.nils, .int .i64 0, .str s, .int .i64 rev, .int .i64 group, .int .i64 rank] σ (eAtoms (newAtoms rev group rank ps)) σ := by
  refine bare_call rfl (eAtoms_pure _) (fun W F => spec_of_awp mixed c_atom_Put (tl rfl) ?_) σ
  unfold f_atom_Put
  have hv : valid s = true := by simp [valid, hp]
  have hroom : maxRoom = 68719476736 := rfl
  have q1 : aSlc 5 .nils none (some (.int .i64 0)) none = some .nils := rfl
  have q2 : aSlc 5 .nils (some (.int .i64 0)) none none = some .nils := rfl
  simp +decide only [↓evd, evw, evz, reduceCtorEq, ↓reduceIte, q1]
  refine (copy_nil_spec _).mono ?_
  rintro v τ ⟨rfl, rfl⟩
  simp +decide only [↓evd, evw, evz, reduceCtorEq, ↓reduceIte]
  refine MSpec.of (clean_call _ s (by omega) hv) ?_
  simp +decide only [↓evd, evw, evz, reduceCtorEq, ↓reduceIte]
  refine awp_loop (fun m fr τ => ∃ pos done rest, m + pos = s.length ∧ ps = done ++ rest ∧ pts (s.drop pos) = some rest ∧ done.length ≤ pos ∧ fr.get 0 = .nils ∧ fr.get 1 = .int .i64 0 ∧ fr.get 3 = .int .i64 rev ∧ fr.get 4 = .int .i64 group ∧ fr.get 5 = .int .i64 rank ∧ fr.get 27 = .ptr (.new 1) 0 ∧ τ.get 1 = some (.iter s pos) ∧
    Row 0 τ t_Atom 5 (fr.get 13) (done.map (rawA rev group rank)) ∧ (∀ K o n c, fr.get 13 = .slc (.new K) o n c → K ≠ 1) ∧ 1 < τ.next ∧ τ.W = W ∧ τ.F0 = F) ?_ (m := s.length) ?_
  · rintro m fr τ ⟨pos, done, rest, hm, hps, hrest, hdl, e0, e1, e3, e4, e5, e27, hit, hR, hne, hn1, hW, hF⟩
    by_cases hlt : pos < s.length
    · have hne0 : s.drop pos ≠ [] := by intro h; have := congrArg List.length h; simp at this; omega
      have hst := pts_step hne0
      rw [hrest] at hst
      by_cases h0 : (pt (s.drop pos)).2 = 0
      · rw [if_pos h0] at hst; cases hst
      rw [if_neg h0] at hst
      have hdec := decode_pt h0
      have henc := encode_pt h0
      have hple := pt_le (s.drop pos)
      rw [List.length_drop] at hple
      cases hr2 : pts ((s.drop pos).drop (pt (s.drop pos)).2) with
      | none => rw [hr2] at hst; simp at hst
      | some rest2 =>
        rw [hr2, Option.map_some, Option.some.injEq] at hst
        rw [List.drop_drop] at hr2
        have hnx : aNext (.ptr (.new 1) 0) τ = some (.tup [.bool true, .int .i64 (pos : Nat), .int .i32 ((pt (s.drop pos)).1 : Nat)], τ.set 1 (.iter s (pos + (pt (s.drop pos)).2))) := by
          simp only [aNext, hit, if_pos hlt, hdec]
        generalize (pt (s.drop pos)).1 = c at hnx henc
        generalize hb : (s.drop pos).take (pt (s.drop pos)).2 = b at henc hst
        generalize (pt (s.drop pos)).2 = w at hnx h0 hple hr2
        have hR2 := (hR.set (j := 1) (fun K o n c e => (hne K o n c e).symm) (.iter s (pos + w))).new (.cells [.str b, .int .i64 rev, .int .i64 group, .int .i64 rank, .nils] none)
        have hsrc := src_one (σ := (τ.set 1 (.iter s (pos + w))).new (.cells [.str b, .int .i64 rev, .int .i64 group, .int .i64 rank, .nils] none)) (K := τ.next) (k := 5) (cs := [.str b, .int .i64 rev, .int .i64 group, .int .i64 rank, .nils]) (opn := none) (z := rawA rev group rank b) (cap := .ex 1) (by simp [Heap.get_new]) rfl rfl
        obtain ⟨x', ρ, g1, g2, g3, g4, g5⟩ := row_app2 (bytes := 64) hR2 (Nat.zero_le _) hsrc.1 hsrc.2 (by intro z hz; simp at hz; subst hz; rfl) rfl (by omega) (by omega) (by simp; omega)
        have hit2 : ρ.get 1 = some (.iter s (pos + w)) := by
          rw [g4 1 (by simp; omega) (fun K o n c e => (hne K o n c e).symm), Heap.get_new, if_neg (by simp; omega), Heap.get_set, if_pos rfl]
        simp +decide only [↓evd, evw, evz, reduceCtorEq, ↓reduceIte, e0, e1, e3, e4, e5, e27, hnx, henc, g1]
        refine ⟨m - w, by omega, pos + w, done ++ [b], rest2, by omega, by rw [hps, hst]; simp, hr2, by simp; omega, hit2, by rw [List.map_append]; exact g2, fun K o n c e => ?_, ?_, g3.1.trans hW, g3.2.1.trans hF⟩
        · rcases g5 K o n c e with h | ⟨o', n', c', h⟩
          · simp at h; omega
          · exact hne _ _ _ _ h
        · have := g3.2.2.1; simp at this; omega
    · rw [List.drop_eq_nil_of_le (by omega), pts_nil] at hrest
      cases hrest
      rw [List.append_nil] at hps
      subst hps
      have hnx : aNext (.ptr (.new 1) 0) τ = some (.tup [.bool false], τ) := by simp only [aNext, hit, if_neg hlt]
      simp +decide only [↓evd, evw, evz, reduceCtorEq, ↓reduceIte, e0, e1, e3, e4, e5, e27, hnx, q2]
      refine (copy_nil_spec _).mono ?_
      rintro v τ' ⟨rfl, rfl⟩
      obtain ⟨x', ρ, g1, g2, g3, g4, g5⟩ := row_app2 (bytes := 64) (y := .slc (.new τ.next) 0 0 (.ex 0)) (ys := []) (hR.new (.cells [] none)) (Nat.zero_le _) rfl rfl (fun _ h => nomatch h) rfl (by omega) (by omega) (by simp; omega)
      rw [List.append_nil] at g2
      simp +decide only [↓evd, evw, evz, reduceCtorEq, ↓reduceIte, g1]
      obtain ⟨ρ', s1, s2, s3⟩ := row_sees g2
      exact ⟨ρ', s1, s2.trans (g3.1.trans hW), s3.trans (g3.2.1.trans hF)⟩
  · refine ⟨0, [], ps, by omega, rfl, hp, Nat.le_refl _, ?_⟩
    simp +decide only [↓evd, evw, evz, reduceCtorEq, ↓reduceIte]
    refine ⟨(Row.make (B := 0) (σ := ⟨W, F, .nil, 0⟩) (Nat.zero_le _) t_Atom 5 0 [] none rfl).new _, ?_⟩
    intro K o n c e
    cases e; omega
theorem Sees.nils0 (σ : Heap) : Sees σ .nils σ .emp0 := by
  intro φ w x hx hr; cases hx; exact ⟨φ, φ.le_refl, .emp0 _, hr⟩
theorem Sees.slc0 (σ : Heap) (i : Mini.Id) (off : Nat) : Sees σ (.slc i off 0 (.ex 0)) σ .emp0 := by
  intro φ w x hx hr; cases hx; exact ⟨φ, φ.le_refl, .emp0 _, hr⟩
theorem clone_none (σ : Heap) : ACall Tryz.prog n_slices_Clone_api_Cut_api_Cut [eCuts []] σ .emp0 σ := by
  refine acall_empty (l := []) (r := []) ?_ ?_
  · refine bare_call rfl rfl (fun W F => spec_of_awp mixed c_slices_Clone_api_Cut_api_Cut (tl rfl) ?_) σ
    unfold f_slices_Clone_api_Cut_api_Cut
    simp +decide only [↓evd, evw, evz, reduceCtorEq, ↓reduceIte]
    exact ⟨_, Sees.nils0 _, rfl, rfl⟩
  · refine bare_call rfl rfl (fun W F => spec_of_awp mixed c_slices_Clone_api_Cut_api_Cut (tl rfl) ?_) σ
    unfold f_slices_Clone_api_Cut_api_Cut
    simp +decide only [↓evd, evw, evz, reduceCtorEq, ↓reduceIte]
    have e : aApp t_Cut 2 16 (.slc (.new 0) 0 0 (.ex 0)) .emp ((⟨W, F, .nil, 0⟩ : Heap).new (.cells [] none)) = some (.slc (.new 0) 0 0 (.ex 0), (⟨W, F, .nil, 0⟩ : Heap).new (.cells [] none)) := rfl
    simp only [e, ↓evd, evw, evz, reduceCtorEq, ↓reduceIte]
    exact ⟨_, Sees.slc0 _ _ _, rfl, rfl⟩
theorem clone_own (σ : Heap) (c : Cut) (l : List Cut) (hl : (c :: l).length ≤ 1000000) : MSpec Tryz.prog n_slices_Clone_api_Cut_api_Cut [eCuts (c :: l)] σ fun v τ => Row σ.next τ t_Cut 2 v ((c :: l).map eCut) ∧ Keep [] σ τ := by
  refine spec_of_awp mixed c_slices_Clone_api_Cut_api_Cut (tl rfl) ?_
  unfold f_slices_Clone_api_Cut_api_Cut
  obtain ⟨x', ρ, g1, g2, g3, g4, g5⟩ := row_app2 (e := t_Cut) (bytes := 16) (Row.make (B := σ.next) (σ := σ) (Nat.le_refl _) t_Cut 2 0 [] none rfl) (Nat.le_succ _) rfl (src_fsl _ 2 ((c :: l).map eCut)).2
    (cuts_row _) (cuts_cell _) (by omega) (by omega) (by have : maxRoom = 68719476736 := rfl; simp only [List.length_map]; simp only [List.length_cons, List.length_nil] at *; omega)
  simp only [List.map_cons, eCut] at g1
  simp +decide only [↓evd, evw, evz, reduceCtorEq, ↓reduceIte, g1]
  refine ⟨g2, g3.1, g3.2.1, Nat.le_trans (Nat.le_succ _) g3.2.2.1, fun q hq _ => ?_⟩
  rw [g4 q (by simp; omega) (fun K o n c e => by cases e; omega), Heap.get_new, if_neg (by omega)]
def CutOwn (B : Nat) (σ : Heap) (z : AVal) (cs : List Cut) : Prop := (z = .emp0 ∧ cs = []) ∨ (cs ≠ [] ∧ Row B σ t_Cut 2 z (cs.map eCut))
theorem clone_cut (σ : Heap) (l : List Cut) (hl : l.length ≤ 1000000) : MSpec Tryz.prog n_slices_Clone_api_Cut_api_Cut [eCuts l] σ fun v τ => CutOwn σ.next τ v l ∧ Keep [] σ τ := by
  cases l with
  | nil => exact ⟨_, _, clone_none σ, .inl ⟨rfl, rfl⟩, Keep.refl _ _⟩
  | cons c l => exact (clone_own σ c l hl).mono fun v τ h => ⟨.inr ⟨by simp, h.1⟩, h.2⟩
theorem CutOwn.cells {B : Nat} {σ : Heap} {z : AVal} {cs : List Cut} (h : CutOwn B σ z cs) : z = .emp0 ∨ ∃ K n cap, z = .slc (.new K) 0 n cap ∧ B ≤ K ∧ K < σ.next := by
  rcases h with ⟨h, _⟩ | ⟨h0, h⟩
  · exact .inl h
  · rcases h.2 with ⟨_, h1⟩ | ⟨K, cap, cs', opn, h1, h2, h3, h4, h5, h6⟩
    · simp at h1; exact absurd h1 h0
    · exact .inr ⟨K, _, cap, h1, h4, h5⟩
theorem CutOwn.move {B : Nat} {σ τ : Heap} {z : AVal} {cs : List Cut} (h : CutOwn B σ z cs) (hn : σ.next ≤ τ.next) (hg : ∀ K ∈ uid z, τ.get K = σ.get K) : CutOwn B τ z cs := by
  rcases h with h | ⟨h0, h⟩
  · exact .inl h
  · exact .inr ⟨h0, Row.move h hn hg⟩
theorem CutOwn.low {B : Nat} {σ : Heap} {z : AVal} {cs : List Cut} (h : CutOwn B σ z cs) : ∀ K ∈ uid z, B ≤ K ∧ K < σ.next := by
  intro K hK
  obtain ⟨o, n, c, e⟩ := mem_uid.1 hK
  rcases h with ⟨h, _⟩ | ⟨_, h⟩
  · rw [h] at e; cases e
  · exact h.low e
theorem CutOwn.mono {B B' : Nat} {σ : Heap} {z : AVal} {cs : List Cut} (h : CutOwn B' σ z cs) (hB : B ≤ B') : CutOwn B σ z cs := by
  rcases h with h | ⟨h0, h, h2⟩
  · exact .inl h
  · refine .inr ⟨h0, h, ?_⟩
    rcases h2 with h2 | ⟨K, cap, cs', opn, h1, h2, h3, h4, h5⟩
    · exact .inl h2
    · exact .inr ⟨K, cap, cs', opn, h1, h2, h3, Nat.le_trans hB h4, h5⟩
theorem over_set {α : Type} {l : List α} {j : Nat} {x : α} (h : j < l.length) : l.take j ++ [x] ++ l.drop (j + 1) = l.set j x := by
  rw [List.set_eq_take_append_cons_drop, if_pos h, List.append_assoc]; rfl
structure AtomsOwn (B : Nat) (τ : Heap) (K : Nat) (l : List Atom) (zs : List AVal) (i : Nat) : Prop where
  len : zs.length = l.length
  blk : τ.get K = some (.cells (flatR l zs) none)
  low : K < B
  own : ∀ (j : Nat) (a : Atom) (z : AVal), j < i → l[j]? = some a → zs[j]? = some z → CutOwn B τ z a.cuts
  rest : ∀ (j : Nat) (a : Atom) (z : AVal), i ≤ j → l[j]? = some a → zs[j]? = some z → z = eCuts a.cuts
  apart : ∀ (j j' : Nat) (z z' : AVal), j < j' → j' < i → zs[j]? = some z → zs[j']? = some z' → ∀ k ∈ uid z, k ∉ uid z'
theorem AtomsOwn.step {B : Nat} {τ τ1 : Heap} {K : Nat} {l : List Atom} {zs : List AVal} {i : Nat} {v : AVal} (h : AtomsOwn B τ K l zs i) (hi : i < l.length) (hB : B ≤ τ.next) (hv : CutOwn τ.next τ1 v l[i].cuts) (hk : Keep [] τ τ1) :
    AtomsOwn B (τ1.set K (.cells (flatR l (zs.set i v)) none)) K l (zs.set i v) (i + 1) where
  len := by rw [List.length_set]; exact h.len
  blk := by rw [Heap.get_set, if_pos rfl]
  low := h.low
  own := by
    intro j a z hj ha hz
    have hlow := h.low
    by_cases e : j = i
    · subst e
      have hlt : j < zs.length := by rw [h.len]; exact hi
      rw [List.getElem?_set_self hlt] at hz
      cases hz
      rw [List.getElem?_eq_getElem hi] at ha
      cases ha
      refine (hv.mono hB).move (Nat.le_refl _) fun k hk2 => ?_
      have := (hv.low k hk2).1
      rw [Heap.get_set, if_neg (by omega)]
    · rw [List.getElem?_set_ne (fun h => e h.symm)] at hz
      have h1 := h.own j a z (by omega) ha hz
      refine h1.move (by simpa using hk.2.2.1) fun k hk2 => ?_
      have := h1.low k hk2
      rw [Heap.get_set, if_neg (by omega)]
      exact hk.get this.2
  rest := by
    intro j a z hj ha hz
    rw [List.getElem?_set_ne (by omega)] at hz
    exact h.rest j a z (by omega) ha hz
  apart := by
    intro j j' z z' hjj hj' hz hz' k hk1 hk2
    by_cases e : j' = i
    · subst e
      have hlt : j' < zs.length := by rw [h.len]; exact hi
      rw [List.getElem?_set_self hlt] at hz'
      cases hz'
      rw [List.getElem?_set_ne (by omega)] at hz
      have h1 := (hv.low k hk2).1
      have h2 := (h.own j l[j] z hjj (List.getElem?_eq_getElem (by omega)) hz).low k hk1
      omega
    · rw [List.getElem?_set_ne (by omega)] at hz hz'
      exact h.apart j j' z z' hjj (by omega) hz hz' k hk1 hk2
set_option maxHeartbeats 4000000 in
theorem copy_own (σ : Heap) (l : List Atom) (hl : l.length ≤ 1000000) (hc : ∀ a ∈ l, a.cuts.length ≤ 1000000) : MSpec Tryz.prog n_atom_Copy [eAtoms l] σ fun v τ => v = .slc (.new σ.next) 0 l.length (.ex l.length) ∧ Keep [] σ τ ∧ σ.next < τ.next ∧ ∃ zs, AtomsOwn (σ.next + 1) τ σ.next l zs l.length := by
  refine spec_of_awp mixed c_atom_Copy (tl rfl) ?_
  unfold f_atom_Copy
  have hm0 : (0 : Int) ≤ (l.length : Int) := by omega
  have hm2 : l.length * 64 ≤ maxRoom := by unfold maxRoom; omega
  have hm3 : (l.length : Int) ≤ 2 ^ 62 := by omega
  obtain ⟨σ1, g1, g2, g3, g4, g5, g6⟩ := copy_whole (σ := σ.new (.cells (List.replicate l.length [AVal.str [], AVal.int IntKind.i64 0, AVal.int IntKind.i64 0, AVal.int IntKind.i64 0, AVal.nils]).flatten none)) (K := σ.next) (k := 5) (els := l.map eAtom) (cap := .ex l.length)
    (by rw [Heap.get_new, if_pos rfl]) (atoms_row l) (by show (repl l.length _).length = _; rw [repl_len, List.length_map]; rfl) (atoms_cell l)
  rw [List.length_map] at g1
  simp +decide only [↓evd, evw, evz, reduceCtorEq, ↓reduceIte, hm0, hm2, hm3]
  simp +decide only [↓evd, evw, evz, reduceCtorEq, ↓reduceIte, g1]
  refine awp_loop (fun m fr τ => ∃ i zs, m + i = l.length ∧ i ≤ l.length ∧ fr.get 3 = .slc (.new σ.next) 0 l.length (.ex l.length) ∧ fr.get 12 = .int .i64 l.length ∧ fr.get 13 = .int .i64 (i : Nat) ∧ AtomsOwn (σ.next + 1) τ σ.next l zs i ∧ σ.next < τ.next ∧ Keep [] σ τ) ?_ (m := l.length) ?_
  · rintro m fr τ ⟨i, zs, hi, hil, e3, e12, e13, hA, hn, hK⟩
    by_cases hlt : i < l.length
    · have hlt' : (i : Int) < (l.length : Int) := by omega
      have hw := wrap_succ (i := i) (by omega)
      have hg := hA.blk
      have hlz : i < zs.length := by rw [hA.len]; exact hlt
      have hz : zs[i]? = some (eCuts l[i].cuts) := by rw [List.getElem?_eq_getElem hlz, hA.rest i l[i] zs[i] (Nat.le_refl _) (List.getElem?_eq_getElem hlt) (List.getElem?_eq_getElem hlz)]
      have hcell : (flatR l zs)[i * 5 + 4]? = some (eCuts l[i].cuts) := by rw [flatR_get hA.len, hz]
      have hlen2 := flatR_len (l := l) (zs := zs) hA.len
      have hlen' : decide (i * 5 + 4 + 1 ≤ (flatR l zs).length) = true := by rw [hlen2]; simp; omega
      simp +decide only [↓evd, evw, evz, reduceCtorEq, ↓reduceIte, e3, e12, e13, hlt', hg, hcell]
      refine (clone_cut τ l[i].cuts (hc _ (List.getElem_mem hlt))).mono ?_
      rintro v τ1 ⟨hv, hk⟩
      have hst := hA.step hlt hn hv hk
      have hg1 : τ1.get σ.next = some (.cells (flatR l zs) none) := by rw [hk.get hn]; exact hg
      have hov := over_set (l := flatR l zs) (j := i * 5 + 4) (x := v) (by omega)
      rw [flatR_set hA.len] at hov
      have hKn : Keep [] σ (τ1.set σ.next (.cells (flatR l (zs.set i v)) none)) := (hK.trans hk (fun x hx => nomatch hx)).set (.inr (Nat.le_refl _)) _
      have hn1 : σ.next < τ1.next := Nat.lt_of_lt_of_le hn hk.2.2.1
      rcases hv.cells with rfl | ⟨K, n, cap, rfl, _⟩
      all_goals
        simp +decide only [↓evd, evw, evz, reduceCtorEq, ↓reduceIte, e3, e12, e13, hlt', hg1, hlen', hov, hw]
        exact ⟨m - 1, by omega, i + 1, _, by omega, by omega, rfl, hst, hn1, hKn⟩
    · have hlt' : ¬ (i : Int) < (l.length : Int) := by omega
      have : i = l.length := by omega
      subst this
      simp +decide only [↓evd, evw, evz, reduceCtorEq, ↓reduceIte, e3, e12, e13, hlt']
      exact ⟨hK, hn, zs, hA⟩
  · refine ⟨0, l.map fun a => eCuts a.cuts, by omega, Nat.zero_le _, ?_⟩
    simp +decide only [↓evd, evw, evz, reduceCtorEq, ↓reduceIte]
    refine ⟨⟨by simp, by have h := flatR_full l; simp only [eCuts] at h; rw [h]; exact g2, by omega, fun j a z hj => by omega, fun j a z _ ha hz => ?_, fun j j' z z' _ h => by omega⟩, by rw [g5]; simp, g3, g4, by rw [g5]; simp, fun q hq _ => ?_⟩
    · rw [List.getElem?_map, ha] at hz; cases hz; rfl
    · rw [g6 q (by omega), Heap.get_new, if_neg (by omega)]
end Go.Proofs.YtkjikdohnomajaaGreat.M
namespace Go.Proofs.YtkjikdohnomajaaGreat.M
open Go Go.Mini
theorem spotF_mono (rev : Int) (u : List Int) {at1 at2 : Int} (h : at1 ≤ at2) : ∀ (l : List Atom) (ps : List Int) (i acc1 acc2 : Nat), acc1 ≤ acc2 → acc1 ≤ i → spotF rev u at1 l ps i acc1 ≤ spotF rev u at2 l ps i acc2
  | [], ps, i, acc1, acc2, h1, _ => by simp [spotF]; exact h1
  | a :: l, [], i, acc1, acc2, h1, _ => by simp [spotF]; exact h1
  | a :: l, p :: ps, i, acc1, acc2, h1, h2 => by
    simp only [spotF]
    refine spotF_mono rev u h l ps (i + 1) _ _ ?_ ?_
    · by_cases c1 : p < at1 ∧ visible rev u a = true
      · rw [if_pos c1, if_pos ⟨by omega, c1.2⟩]; exact Nat.le_refl _
      · rw [if_neg c1]; split <;> omega
    · split <;> omega
theorem spotF_vis (rev : Int) (u : List Int) (at' : Int) : ∀ (l : List Atom) (ps : List Int) (i acc : Nat), spotF rev u at' l ps i acc = acc ∨ ∃ (j : Nat) (a : Atom), l[j]? = some a ∧ spotF rev u at' l ps i acc = i + j + 1 ∧ visible rev u a = true
  | [], ps, i, acc => by simp [spotF]
  | a :: l, [], i, acc => by simp [spotF]
  | a :: l, p :: ps, i, acc => by
    simp only [spotF]
    rcases spotF_vis rev u at' l ps (i + 1) (if p < at' ∧ visible rev u a = true then i + 1 else acc) with h | ⟨j, b, h1, h2, h3⟩
    · by_cases c1 : p < at' ∧ visible rev u a = true
      · rw [if_pos c1] at h ⊢
        exact .inr ⟨0, a, rfl, h, c1.2⟩
      · rw [if_neg c1] at h ⊢
        exact .inl h
    · exact .inr ⟨j + 1, b, h1, by omega, h3⟩
theorem spotG_ge (rev rank : Int) : ∀ (l : List Atom) (k : Nat), k ≤ spotG rev rank l k
  | [], k => by simp [spotG]
  | a :: l, k => by
    simp only [spotG]
    split
    · have := spotG_ge rev rank l (k + 1); omega
    · omega
theorem spotG_stop (rev rank : Int) : ∀ (l : List Atom) (k j : Nat) (a : Atom), l[j]? = some a → a.rev ≤ rev → spotG rev rank l k ≤ k + j
  | [], k, j, a, h, _ => by simp at h
  | b :: l, k, 0, a, h, h2 => by
    simp at h; subst h
    rw [spotG, if_neg (by omega)]; omega
  | b :: l, k, j + 1, a, h, h2 => by
    simp only [spotG]
    split
    · have := spotG_stop rev rank l (k + 1) j a (by simpa using h) h2; omega
    · omega
theorem visible_rev {rev : Int} {u : List Int} {a : Atom} (h : visible rev u a = true) : a.rev ≤ rev := by
  simp only [visible, Bool.and_eq_true, decide_eq_true_eq] at h
  exact h.1.1
theorem spot_mono (l : List Atom) (ps : List Int) (rev : Int) (u : List Int) {at1 at2 : Int} (rank : Int) (h : at1 ≤ at2) : spot l ps rev u at1 rank ≤ spot l ps rev u at2 rank := by
  have h1 := spotF_mono rev u h l ps 0 0 0 (Nat.le_refl _) (Nat.le_refl _)
  have h2 := spotF_vis rev u at2 l ps 0 0
  unfold spot
  generalize spotF rev u at1 l ps 0 0 = k1 at h1
  generalize spotF rev u at2 l ps 0 0 = k2 at h1 h2
  by_cases e : k1 = k2
  · subst e; exact Nat.le_refl _
  · rcases h2 with h2 | ⟨j, a, g1, g2, g3⟩
    · omega
    · have hg := spotG_ge rev rank (l.drop k2) k2
      have hj : (l.drop k1)[j - k1]? = some a := by rw [List.getElem?_drop, show k1 + (j - k1) = j by omega]; exact g1
      have hs := spotG_stop rev rank (l.drop k1) k1 (j - k1) a hj (visible_rev g3)
      omega
theorem frm_sorted {s : List UInt8} : ∀ {l : List Chg}, l.any (chgOut s) = false → disorder l = false → (l.map Chg.frm).Pairwise (· ≤ ·)
  | [], _, _ => .nil
  | [x], _, _ => by simp
  | x :: y :: l, h1, h2 => by
    simp only [List.any_cons, Bool.or_eq_false_iff] at h1
    rw [disorder, Bool.or_eq_false_iff] at h2
    have ih := frm_sorted (s := s) (l := y :: l) (by simp only [List.any_cons, h1.2.1, h1.2.2]; rfl) h2.2
    have h3 : x.frm ≤ y.frm := by
      have a1 := h1.1
      have a2 := h2.1
      simp only [chgOut, chgBad, Bool.or_eq_false_iff, decide_eq_false_iff_not] at a1 a2
      omega
    rw [List.map_cons]
    refine .cons ?_ ih
    intro z hz
    rw [List.map_cons, List.mem_cons] at hz
    rcases hz with rfl | hz
    · exact h3
    · rw [List.map_cons] at ih
      exact Int.le_trans h3 (List.rel_of_pairwise_cons ih hz)
theorem firstNZ_zero : ∀ {l : List Int}, firstNZ l = 0 → ∀ e ∈ l, e = 0
  | [], _, e, h => by cases h
  | x :: l, h, e, he => by
    rw [firstNZ] at h
    split at h
    · rename_i h0
      rcases List.mem_cons.1 he with rfl | he
      · exact h0
      · exact firstNZ_zero h e he
    · rename_i h0; exact absurd h h0
theorem check_zero {s : List UInt8} {l : List Chg} (h : check s l = 0) : valid s = true ∧ l.length ≤ 8 ∧ l.any (chgOut s) = false ∧ l.any (chgIn s) = false ∧ disorder l = false ∧ (∀ c ∈ l, valid c.text = true) ∧ longI s l = 0 := by
  unfold check at h
  split at h
  · cases h
  rename_i hv
  split at h
  · cases h
  rename_i h8
  have hz := firstNZ_zero h
  have e1 := hz _ (show (if l.any (chgOut s) then (10 : Int) else 0) ∈ errs s l by simp [errs])
  have e2 := hz _ (show (if l.any (chgIn s) then (11 : Int) else 0) ∈ errs s l by simp [errs])
  have e3 := hz _ (show (if disorder l then (180 : Int) else 0) ∈ errs s l by simp [errs])
  have e4 := hz _ (show (if l.any (fun c => !valid c.text) then (12 : Int) else 0) ∈ errs s l by simp [errs])
  have e5 := hz _ (show longI s l ∈ errs s l by simp [errs])
  refine ⟨by simpa using hv, by omega, ?_, ?_, ?_, ?_, e5⟩
  · cases hb : l.any (chgOut s) with
    | false => rfl
    | true => rw [hb] at e1; cases e1
  · cases hb : l.any (chgIn s) with
    | false => rfl
    | true => rw [hb] at e2; cases e2
  · cases hb : disorder l with
    | false => rfl
    | true => rw [hb] at e3; cases e3
  · intro c hc
    cases hb : l.any (fun c => !valid c.text) with
    | false =>
      rw [List.any_eq_false] at hb
      simpa using hb c hc
    | true => rw [hb] at e4; cases e4
end Go.Proofs.YtkjikdohnomajaaGreat.M
namespace Go.Proofs.YtkjikdohnomajaaGreat.M
open Go Go.Mini
attribute [local congr] go1_congr goM_congr goG_congr goV_congr drawwp_congr
def spotsN (l : List Atom) (rev : Int) (u : List Int) (cs : List Chg) (rank : Int) : List Nat := cs.map fun c => spot l (places rev u l 0) rev u c.frm rank
theorem spots_eq {l : List Atom} {rev : Int} {u : List Int} {cs : List Chg} (rank : Int) (h : check (atomsText rev u l) cs = 0) : spots l rev u cs rank = (spotsN l rev u cs rank).map fun n : Nat => (n : Int) := by
  rw [spots, if_pos h, spotsN, List.map_map]; rfl
theorem spotsN_sorted {l : List Atom} {rev : Int} {u : List Int} {cs : List Chg} (rank : Int) (h : check (atomsText rev u l) cs = 0) : (spotsN l rev u cs rank).Pairwise (· ≤ ·) ∧ ∀ k ∈ spotsN l rev u cs rank, k ≤ l.length := by
  obtain ⟨_, _, h1, _, h2, _, _⟩ := check_zero h
  have hs := frm_sorted h1 h2
  constructor
  · rw [spotsN, List.pairwise_map]
    rw [List.pairwise_map] at hs
    exact hs.imp fun hle => spot_mono l _ rev u rank hle
  · intro k hk
    rw [spotsN, List.mem_map] at hk
    obtain ⟨c, _, rfl⟩ := hk
    exact spot_le l _ rev u _ rank
theorem cutsF_lt (rev : Int) (u : List Int) (cs : List Chg) : ∀ (l : List Atom) (ps : List Int) (i : Nat) (x : Int), x ∈ cutsF rev u cs l ps i → ∃ j : Nat, x = (j : Int) ∧ i ≤ j ∧ j < i + l.length
  | [], ps, i, x, h => by simp [cutsF] at h
  | a :: l, [], i, x, h => by simp [cutsF] at h
  | a :: l, p :: ps, i, x, h => by
    rw [cutsF, List.mem_append] at h
    rcases h with h | h
    · split at h
      · simp at h; exact ⟨i, h, Nat.le_refl _, by simp⟩
      · cases h
    · obtain ⟨j, h1, h2, h3⟩ := cutsF_lt rev u cs l ps (i + 1) x h
      exact ⟨j, h1, by omega, by simp only [List.length_cons]; omega⟩
theorem cuts_lt {l : List Atom} {rev : Int} {u : List Int} {cs : List Chg} {x : Int} (h : x ∈ cuts l rev u cs) : ∃ j : Nat, x = (j : Int) ∧ j < l.length := by
  unfold cuts at h
  split at h
  · obtain ⟨j, h1, _, h3⟩ := cutsF_lt _ _ _ _ _ _ _ h
    exact ⟨j, h1, by omega⟩
  · cases h
theorem cutsF_len (rev : Int) (u : List Int) (cs : List Chg) : ∀ (l : List Atom) (ps : List Int) (i : Nat), (cutsF rev u cs l ps i).length ≤ l.length
  | [], ps, i => by simp [cutsF]
  | a :: l, [], i => by simp [cutsF]
  | a :: l, p :: ps, i => by
    rw [cutsF, List.length_append, List.length_cons]
    have := cutsF_len rev u cs l ps (i + 1)
    split <;> simp <;> omega
theorem cuts_len (l : List Atom) (rev : Int) (u : List Int) (cs : List Chg) : (cuts l rev u cs).length ≤ l.length := by
  unfold cuts; split
  · exact cutsF_len _ _ _ _ _ _
  · simp
def marked (ct : List Int) (c : Cut) : List Atom → Nat → List Atom
  | a :: l, i => (if (i : Int) ∈ ct then { a with cuts := a.cuts ++ [c] } else a) :: marked ct c l (i + 1)
  | [], _ => []
theorem marked_len (ct : List Int) (c : Cut) : ∀ (l : List Atom) (i : Nat), (marked ct c l i).length = l.length
  | [], _ => rfl
  | a :: l, i => by simp only [marked, List.length_cons, marked_len ct c l (i + 1)]
theorem marked_get (ct : List Int) (c : Cut) : ∀ (l : List Atom) (i j : Nat), (marked ct c l i)[j]? = (l[j]?).map fun a => if ((i + j : Nat) : Int) ∈ ct then { a with cuts := a.cuts ++ [c] } else a
  | [], i, j => by simp [marked]
  | a :: l, i, 0 => by simp [marked]
  | a :: l, i, j + 1 => by
    simp only [marked, List.getElem?_cons_succ]
    rw [marked_get ct c l (i + 1) j, show i + 1 + j = i + (j + 1) by omega]
def merged (new : List UInt8 → List Atom) (l : List Atom) : List (Nat × List UInt8) → Nat → List Atom
  | (k, t) :: r, at' => (l.take k).drop at' ++ new t ++ merged new l r k
  | [], at' => l.drop at'
def ptsOf (s : List UInt8) : List (List UInt8) := (pts s).getD []
def upon (l : List Atom) (rev : Int) (u : List Int) (cs : List Chg) (rev' group rank : Int) : List Atom :=
  if check (atomsText rev u l) cs = 0 then
    merged (fun t => newAtoms rev' group rank (ptsOf t)) (marked (cuts l rev u cs) ⟨rev', group⟩ l 0) ((spotsN l rev u cs rank).zip (cs.map Chg.text)) 0
  else l
end Go.Proofs.YtkjikdohnomajaaGreat.M
namespace Go.Proofs.YtkjikdohnomajaaGreat.M
open Go Go.Mini
theorem cut_app {B : Nat} {σ : Heap} {z : AVal} {cs : List Cut} (h : CutOwn B σ z cs) (hB : B ≤ σ.next) (hl : cs.length ≤ 1000000) (c : Cut) :
    ∃ x' σ', aApp t_Cut 2 16 z (.slc (.new σ.next) 0 1 (.ex 1)) (σ.new (.cells [.int .i64 c.rev, .int .i64 c.group] none)) = some (x', σ') ∧ CutOwn B σ' x' (cs ++ [c]) ∧ σ'.W = σ.W ∧ σ'.F0 = σ.F0 ∧ σ.next < σ'.next ∧
      (∀ q, q < σ.next → q ∉ uid z → σ'.get q = σ.get q) ∧ (∀ K ∈ uid x', σ.next ≤ K ∨ K ∈ uid z) := by
  have hroom : maxRoom = 68719476736 := rfl
  have hsrc := src_one (σ := σ.new (.cells [.int .i64 c.rev, .int .i64 c.group] none)) (K := σ.next) (k := 2) (cs := [.int .i64 c.rev, .int .i64 c.group]) (opn := none) (z := eCut c) (cap := .ex 1) (by rw [Heap.get_new, if_pos rfl]) rfl rfl
  have fin : ∀ {y : AVal} (els : List Cut), (∀ K ∈ uid y, K ∈ uid z) → els = cs → Row B σ t_Cut 2 y (els.map eCut) → aApp t_Cut 2 16 z (.slc (.new σ.next) 0 1 (.ex 1)) (σ.new (.cells [.int .i64 c.rev, .int .i64 c.group] none)) = aApp t_Cut 2 16 y (.slc (.new σ.next) 0 1 (.ex 1)) (σ.new (.cells [.int .i64 c.rev, .int .i64 c.group] none)) →
      ∃ x' σ', aApp t_Cut 2 16 z (.slc (.new σ.next) 0 1 (.ex 1)) (σ.new (.cells [.int .i64 c.rev, .int .i64 c.group] none)) = some (x', σ') ∧ CutOwn B σ' x' (cs ++ [c]) ∧ σ'.W = σ.W ∧ σ'.F0 = σ.F0 ∧ σ.next < σ'.next ∧
      (∀ q, q < σ.next → q ∉ uid z → σ'.get q = σ.get q) ∧ (∀ K ∈ uid x', σ.next ≤ K ∨ K ∈ uid z) := by
    intro y els hy he hR heq
    subst he
    obtain ⟨x', ρ, g1, g2, g3, g4, g5⟩ := row_app2 (bytes := 16) (hR.new (.cells [.int .i64 c.rev, .int .i64 c.group] none)) (Nat.le_succ_of_le hB) hsrc.1 hsrc.2 (by intro z hz; simp at hz; subst hz; rfl) rfl (by omega) (by omega) (by simp; omega)
    refine ⟨x', ρ, heq.trans g1, .inr ⟨by simp, by rw [List.map_append]; exact g2⟩, g3.1, g3.2.1, by have := g3.2.2.1; simp at this; omega, fun q hq hn => ?_, fun K hK => ?_⟩
    · rw [g4 q (by simp; omega) (fun K o n c e hk => hn (hy q (mem_uid.2 ⟨o, n, c, by rw [hk]; exact e⟩))), Heap.get_new, if_neg (by omega)]
    · obtain ⟨o, n, c', e⟩ := mem_uid.1 hK
      rcases g5 K o n c' e with h1 | ⟨o', n', c'', h1⟩
      · exact .inl (Nat.le_of_succ_le h1)
      · exact .inr (hy K (mem_uid.2 ⟨_, _, _, h1⟩))
  rcases h with ⟨rfl, rfl⟩ | ⟨h0, h⟩
  · exact fin (y := .nils) [] (fun K hK => nomatch hK) rfl (Row.nil B σ t_Cut 2) rfl
  · exact fin cs (fun K hK => hK) rfl h rfl
theorem flatR_cuts : ∀ {l : List Atom} {zs : List AVal} {i : Nat} {a : Atom} {ks : List Cut}, l[i]? = some a → flatR (l.set i { a with cuts := ks }) zs = flatR l zs
  | [], _, _, _, _, h => by simp at h
  | b :: l, [], 0, a, ks, h => rfl
  | b :: l, [], i + 1, a, ks, h => rfl
  | b :: l, z :: zs, 0, a, ks, h => by
    simp at h; subst h; rfl
  | b :: l, z :: zs, i + 1, a, ks, h => by
    simp only [List.set_cons_succ, flatR]
    rw [flatR_cuts (by simpa using h)]
theorem AtomsOwn.mark {B : Nat} {τ σ' : Heap} {K : Nat} {l : List Atom} {zs : List AVal} {i : Nat} {a : Atom} {z x' : AVal} {ks : List Cut} (h : AtomsOwn B τ K l zs l.length) (hB : B ≤ τ.next) (ha : l[i]? = some a) (hz : zs[i]? = some z)
    (hx : CutOwn B σ' x' ks) (hn : τ.next ≤ σ'.next) (hg : ∀ q, q < τ.next → q ∉ uid z → σ'.get q = τ.get q) (hu : ∀ k ∈ uid x', τ.next ≤ k ∨ k ∈ uid z) :
    AtomsOwn B (σ'.set K (.cells (flatR l (zs.set i x')) none)) K (l.set i { a with cuts := ks }) (zs.set i x') (l.set i { a with cuts := ks }).length where
  len := by rw [List.length_set, List.length_set]; exact h.len
  blk := by rw [Heap.get_set, if_pos rfl, flatR_cuts ha]
  low := h.low
  own := by
    intro j b y _ hb hy
    have hlow := h.low
    have hil := (List.getElem?_eq_some_iff.1 ha).1
    have hiz := (List.getElem?_eq_some_iff.1 hz).1
    by_cases e : j = i
    · subst e
      rw [List.getElem?_set_self hil] at hb
      rw [List.getElem?_set_self hiz] at hy
      cases hb; cases hy
      refine hx.move (Nat.le_refl _) fun k hk => ?_
      have := (hx.low k hk).1
      rw [Heap.get_set, if_neg (by omega)]
    · rw [List.getElem?_set_ne (fun h => e h.symm)] at hb hy
      have hjl := (List.getElem?_eq_some_iff.1 hb).1
      have h1 := h.own j b y hjl hb hy
      refine h1.move hn fun k hk => ?_
      have h2 := h1.low k hk
      rw [Heap.get_set, if_neg (by omega)]
      refine hg k h2.2 fun hk2 => ?_
      rcases Nat.lt_or_gt_of_ne e with e | e
      · exact h.apart j i y z e hil hy hz k hk hk2
      · exact h.apart i j z y e hjl hz hy k hk2 hk
  rest := by
    intro j b y hj hb hy
    have := (List.getElem?_eq_some_iff.1 hb).1
    omega
  apart := by
    intro j j' y y' hjj hj' hy hy' k hk hk'
    rw [List.length_set] at hj'
    have hil := (List.getElem?_eq_some_iff.1 ha).1
    have hiz := (List.getElem?_eq_some_iff.1 hz).1
    by_cases e : j = i
    · subst e
      rw [List.getElem?_set_self hiz] at hy
      cases hy
      rw [List.getElem?_set_ne (by omega)] at hy'
      rcases hu k hk with h1 | h1
      · have := ((h.own j' l[j'] y' hj' (List.getElem?_eq_getElem hj') hy').low k hk').2; omega
      · exact h.apart j j' z y' hjj hj' hz hy' k h1 hk'
    · rw [List.getElem?_set_ne (fun h => e h.symm)] at hy
      have hjl : j < l.length := by omega
      by_cases e' : j' = i
      · subst e'
        rw [List.getElem?_set_self hiz] at hy'
        cases hy'
        rcases hu k hk' with h1 | h1
        · have := ((h.own j l[j] y hjl (List.getElem?_eq_getElem hjl) hy).low k hk).2; omega
        · exact h.apart j j' y z hjj hj' hy hz k hk h1
      · rw [List.getElem?_set_ne (fun h => e' h.symm)] at hy'
        exact h.apart j j' y y' hjj hj' hy hy' k hk hk'
theorem Row.sees2 {B k : Nat} {e : TypeId} {σ : Heap} {x : AVal} {els : List AVal} (h : Row B σ e k x els) : ∃ τ, Sees σ x τ (.fsl k els) ∧ τ.W = σ.W ∧ τ.F0 = σ.F0 ∧ τ.next = σ.next ∧ ∀ q, q ∉ uid x → τ.get q = σ.get q := by
  rcases h.2 with ⟨rfl, rfl⟩ | ⟨K, cap, cs, opn, rfl, hg, ht, hBK, hKn, hcap⟩
  · exact ⟨σ, Sees.nils σ k, rfl, rfl, rfl, fun _ _ => rfl⟩
  · refine ⟨σ.set K .dead, Sees.own hg rfl h.1 (by rw [List.drop_zero, ht]) ?_, rfl, rfl, rfl, fun q hq => by rw [Heap.get_set, if_neg (fun e => hq (by rw [e]; exact mem_uid.2 ⟨_, _, _, rfl⟩))]⟩
    rcases hcap with ⟨rfl, _⟩ | ⟨c, rfl, h1, _⟩
    · intro c hc; cases hc
    · intro c' hc; cases hc; exact h1
theorem CutOwn.sees {B : Nat} {σ : Heap} {z : AVal} {cs : List Cut} (h : CutOwn B σ z cs) : ∃ τ, Sees σ z τ (eCuts cs) ∧ τ.W = σ.W ∧ τ.F0 = σ.F0 ∧ τ.next = σ.next ∧ ∀ q, q ∉ uid z → τ.get q = σ.get q := by
  rcases h with ⟨rfl, rfl⟩ | ⟨_, h⟩
  · exact ⟨σ, Sees.emp0 σ 2, rfl, rfl, rfl, fun _ _ => rfl⟩
  · exact Row.sees2 h
theorem AtomsOwn.sees {B : Nat} {σ : Heap} {K n : Nat} {cap : Cap} {l : List Atom} {zs : List AVal} (h : AtomsOwn B σ K l zs l.length) : ∃ ρ, Sees σ (.slc (.new K) 0 n cap) ρ (.slc (.new K) 0 n cap) ∧ ρ.get K = some (.cells ((l.map eAtom).flatMap AVal.cells) none) ∧ ρ.W = σ.W ∧ ρ.F0 = σ.F0 ∧ ρ.next = σ.next ∧ ∀ q, q < B → q ≠ K → ρ.get q = σ.get q := by
  have hz := h.len
  have step : ∀ j, j ≤ l.length → ∃ τ, Sees σ (.slc (.new K) 0 n cap) τ (.slc (.new K) 0 n cap) ∧ τ.get K = some (.cells (flatR l (seenCuts l zs j)) none) ∧ (∀ (i : Nat) (a : Atom) (z : AVal), j ≤ i → l[i]? = some a → zs[i]? = some z → CutOwn B τ z a.cuts) ∧ τ.W = σ.W ∧ τ.F0 = σ.F0 ∧ τ.next = σ.next ∧ ∀ q, q < B → q ≠ K → τ.get q = σ.get q := by
    intro j
    induction j with
    | zero => intro _; exact ⟨σ, Sees.refl _ _, h.blk, fun i a z _ ha hz => h.own i a z (List.getElem?_eq_some_iff.1 ha).1 ha hz, rfl, rfl, rfl, fun _ _ _ => rfl⟩
    | succ j ih =>
      intro hj
      obtain ⟨τ, h1, h2, h3, h4⟩ := ih (by omega)
      have hlz : j < zs.length := by omega
      have hjl : j < l.length := by omega
      have hx := h3 j _ _ (Nat.le_refl _) (List.getElem?_eq_getElem hjl) (List.getElem?_eq_getElem hlz)
      have hget : (flatR l (seenCuts l zs j))[j * 5 + 4]? = some zs[j] := by rw [flatR_get (seenCuts_len hz j), seenCuts_get hz hjl, List.getElem?_eq_getElem hlz]
      obtain ⟨τ1, s1, s2, s3, s4, s5⟩ := hx.sees
      have hKB := h.low
      have hnK : ∀ q, q < B → q ∉ uid zs[j] := fun q hq hm => by have := (hx.low q hm).1; omega
      have h2' : τ1.get K = some (.cells (flatR l (seenCuts l zs j)) none) := by rw [s5 K (hnK K hKB)]; exact h2
      have hs := Sees.cell (off := 0) (n := n) (cap := cap) h2 hget s1 h2'
      refine ⟨_, h1.trans hs, ?_, ?_, s2.trans h4.1, s3.trans h4.2.1, s4.trans h4.2.2.1, fun q hq hqK => ?_⟩
      · rw [Heap.get_set, if_pos rfl, flatR_set (seenCuts_len hz j), seenCuts_succ hz hjl]
      · intro i a z hi ha hzi
        have h5 := h3 i a z (by omega) ha hzi
        refine h5.move (by rw [Heap.set_next, s4]; exact Nat.le_refl _) fun k hk => ?_
        have h6 := (h5.low k hk).1
        rw [Heap.get_set, if_neg (by omega)]
        refine s5 k fun hk2 => ?_
        exact h.apart j i zs[j] z (by omega) (List.getElem?_eq_some_iff.1 ha).1 (List.getElem?_eq_getElem hlz) hzi k hk2 hk
      · rw [Heap.get_set, if_neg (fun e => hqK e.symm), s5 q (hnK q hq)]
        exact h4.2.2.2 q hq hqK
  obtain ⟨τ, h1, h2, _, h4⟩ := step l.length (Nat.le_refl _)
  rw [seenCuts_all hz, flatR_full] at h2
  exact ⟨τ, h1, h2, h4⟩
def markTo (ct : List Int) (c : Cut) (l : List Atom) (i : Nat) : List Atom := (marked ct c l 0).take i ++ l.drop i
theorem markTo_all (ct : List Int) (c : Cut) (l : List Atom) : markTo ct c l l.length = marked ct c l 0 := by
  simp only [markTo, List.drop_length, List.append_nil]
  exact List.take_of_length_le (by rw [marked_len]; exact Nat.le_refl _)
theorem markTo_len (ct : List Int) (c : Cut) (l : List Atom) {i : Nat} (h : i ≤ l.length) : (markTo ct c l i).length = l.length := by
  simp only [markTo, List.length_append, List.length_take, marked_len, List.length_drop]; omega
theorem markTo_get (ct : List Int) (c : Cut) (l : List Atom) {i : Nat} (h : i < l.length) : (markTo ct c l i)[i]? = some l[i] := by
  have e : ((marked ct c l 0).take i).length = i := by simp [marked_len]; omega
  rw [markTo, List.getElem?_append_right (by omega), e, Nat.sub_self, List.getElem?_drop, Nat.add_zero, List.getElem?_eq_getElem h]
theorem markTo_succ (ct : List Int) (c : Cut) (l : List Atom) {i : Nat} (h : i < l.length) : markTo ct c l (i + 1) = (markTo ct c l i).set i (if (i : Int) ∈ ct then { l[i] with cuts := l[i].cuts ++ [c] } else l[i]) := by
  have e : ((marked ct c l 0).take i).length = i := by simp [marked_len]; omega
  have hm : i < (marked ct c l 0).length := by rw [marked_len]; exact h
  have hg := marked_get ct c l 0 i
  rw [List.getElem?_eq_getElem hm, List.getElem?_eq_getElem h, Option.map_some, Option.some.injEq, Nat.zero_add] at hg
  rw [← hg]
  simp only [markTo]
  rw [List.set_append_right _ _ (by omega), e, Nat.sub_self, List.drop_eq_getElem_cons h, List.set_cons_zero, List.take_succ_eq_append_getElem hm, List.append_assoc]; rfl
theorem markTo_skip (ct : List Int) (c : Cut) (l : List Atom) {i : Nat} (h : i < l.length) (hn : (i : Int) ∉ ct) : markTo ct c l (i + 1) = markTo ct c l i := by
  rw [markTo_succ ct c l h, if_neg hn]
  apply List.ext_getElem?
  intro j
  by_cases e : j = i
  · subst e
    rw [List.getElem?_set_self (by rw [markTo_len ct c l (by omega)]; exact h), markTo_get ct c l h]
  · rw [List.getElem?_set_ne (fun h => e h.symm)]
theorem flat_drop {k : Nat} : ∀ {els : List AVal} (lo : Nat), (∀ z ∈ els, z.cells.length = k) → (els.flatMap AVal.cells).drop (lo * k) = (els.drop lo).flatMap AVal.cells
  | els, 0, _ => by simp
  | [], lo + 1, _ => by simp
  | z :: els, lo + 1, h => by
    have hz := h z (by simp)
    rw [List.flatMap_cons, List.drop_succ_cons, Nat.add_mul, Nat.one_mul, Nat.add_comm, ← List.drop_drop, List.drop_left' hz]
    exact flat_drop lo fun y hy => h y (List.mem_cons_of_mem _ hy)
theorem flat_take {k : Nat} : ∀ {els : List AVal} (lo : Nat), (∀ z ∈ els, z.cells.length = k) → (els.flatMap AVal.cells).take (lo * k) = (els.take lo).flatMap AVal.cells
  | els, 0, _ => by simp
  | [], lo + 1, _ => by simp
  | z :: els, lo + 1, h => by
    have hz := h z (by simp)
    rw [List.flatMap_cons, List.take_succ_cons, List.flatMap_cons, Nat.add_mul, Nat.one_mul, Nat.add_comm, List.take_append, List.take_of_length_le (by omega), hz, Nat.add_sub_cancel_left]
    rw [flat_take lo fun y hy => h y (List.mem_cons_of_mem _ hy)]
theorem src_part {σ : Heap} {K lo hi n k : Nat} {els : List AVal} {opn : Option TypeId} (hg : σ.get K = some (.cells (els.flatMap AVal.cells) opn)) (he : ∀ z ∈ els, z.cells.length = k) (hn : els.length = n) (h1 : lo ≤ hi) (h2 : hi ≤ n) :
    aSlc k (.slc (.new K) 0 n (.ex n)) (some (.int .i64 (lo : Nat))) (some (.int .i64 (hi : Nat))) none = some (.slc (.new K) (if n = lo then 0 else lo * k) (hi - lo) (.ex (n - lo))) ∧
    (lo = lo → aSlc k (.slc (.new K) 0 n (.ex n)) (some (.int .i64 (lo : Nat))) none none = some (.slc (.new K) (if n = lo then 0 else lo * k) (n - lo) (.ex (n - lo)))) ∧
    aLenOf (.slc (.new K) (if n = lo then 0 else lo * k) (hi - lo) (.ex (n - lo))) = some ((els.take hi).drop lo).length ∧
    srcCells σ k ((els.take hi).drop lo).length (.slc (.new K) (if n = lo then 0 else lo * k) (hi - lo) (.ex (n - lo))) = some (((els.take hi).drop lo).flatMap AVal.cells) := by
  have b1 : aBound (some (.int .i64 (hi : Nat))) n n = some hi := by simp only [aBound]; rw [if_pos (by simp; omega)]; rfl
  have b2 : aBound (some (.int .i64 (lo : Nat))) 0 hi = some lo := by simp only [aBound]; rw [if_pos (by simp; omega)]; rfl
  have b2' : aBound (some (.int .i64 (lo : Nat))) 0 n = some lo := by simp only [aBound]; rw [if_pos (by simp; omega)]; rfl
  have b3 : aBound none n n = some n := rfl
  have hl : ((els.take hi).drop lo).length = hi - lo := by simp; omega
  refine ⟨?_, fun _ => ?_, ?_, ?_⟩
  · simp only [aSlc, b3, b1, b2, Nat.zero_add, Option.isSome_none, Bool.false_and, Bool.false_eq_true, if_false]
  · simp only [aSlc, b3, b2', Nat.zero_add, Option.isSome_none, Bool.false_and, Bool.false_eq_true, if_false]
  · rw [hl]; rfl
  · rw [hl]
    have hfl := flat_len he
    have hlen : (els.flatMap AVal.cells).length = n * k := by rw [hfl, hn]
    have hmul := Nat.mul_le_mul_right k h2
    have hoff : ∀ off, off + (hi - lo) * k ≤ n * k → cellsFrom σ (.new K) off ((hi - lo) * k) = some (((els.flatMap AVal.cells).drop off).take ((hi - lo) * k)) := fun off ho => cellsFrom_get hg _ _ (by omega)
    simp only [srcCells, slcCells, Nat.le_refl, if_true]
    by_cases e : n = lo
    · have : hi - lo = 0 := by omega
      rw [if_pos e, this, Nat.zero_mul]
      have h0 : ((els.take hi).drop lo) = [] := List.eq_nil_of_length_eq_zero (by omega)
      rw [h0]; rfl
    · rw [if_neg e, hoff _ (by rw [← Nat.add_mul, show lo + (hi - lo) = hi by omega]; exact hmul), flat_drop lo he, flat_take (hi - lo) (fun z hz => he z (List.mem_of_mem_drop hz)), List.take_drop, show lo + (hi - lo) = hi by omega]
theorem merged_cons (new : List UInt8 → List Atom) (l : List Atom) (k : Nat) (t : List UInt8) (r : List (Nat × List UInt8)) (at' : Nat) : merged new l ((k, t) :: r) at' = (l.take k).drop at' ++ new t ++ merged new l r k := rfl
theorem pts_len : ∀ (n : Nat) (s : List UInt8) (ps : List (List UInt8)), s.length ≤ n → pts s = some ps → ps.length ≤ s.length
  | 0, s, ps, h, hp => by
    have : s = [] := List.eq_nil_of_length_eq_zero (by omega)
    subst this; cases hp; simp
  | n + 1, s, ps, h, hp => by
    cases s with
    | nil => cases hp; simp
    | cons a r =>
      rw [pts_step (by simp)] at hp
      split at hp
      · cases hp
      · rename_i h0
        rw [Option.map_eq_some_iff] at hp
        obtain ⟨q, hq, rfl⟩ := hp
        have := pts_len n _ q (by rw [List.length_drop]; omega) hq
        have h2 := pt_le (a :: r)
        rw [List.length_drop] at this
        simp only [List.length_cons] at *; omega
end Go.Proofs.YtkjikdohnomajaaGreat.M

