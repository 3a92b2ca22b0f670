/- The abstract machine: values, heaps, codes, the compiler from the model's code. No condition. -/
import Derived.Orders
import Derived.Calls
import Derived.MapKept
import Derived.Laws.Sem
import Derived.Laws.World
import Derived.Laws.Entries
import Derived.Laws.Slices
set_option linter.unusedVariables false
set_option linter.unusedSimpArgs false
namespace Go.Mini
open Go

/-! ### Tries: finite maps from numbers -/
inductive Trie (α : Type) : Type where
  | nil
  | node (l : Trie α) (v : Option α) (r : Trie α)

namespace Trie
variable {α : Type}
def get : Trie α → Nat → Option α
  | .nil, _ => none
  | .node l v r, n => match n with
    | 0 => v
    | n + 1 => if n % 2 = 0 then l.get (n / 2) else r.get (n / 2)
def setF : Nat → Trie α → Nat → α → Trie α
  | 0, t, _, _ => t
  | f + 1, .nil, n, x => match n with
    | 0 => .node .nil (some x) .nil
    | n + 1 => if n % 2 = 0 then .node (setF f .nil (n / 2) x) none .nil else .node .nil none (setF f .nil (n / 2) x)
  | f + 1, .node l v r, n, x => match n with
    | 0 => .node l (some x) r
    | n + 1 => if n % 2 = 0 then .node (setF f l (n / 2) x) v r else .node l v (setF f r (n / 2) x)
def set (t : Trie α) (n : Nat) (x : α) : Trie α := setF (n + 1) t n x

theorem get_setF : ∀ (f : Nat) (t : Trie α) (n m : Nat) (x : α), n < f → (setF f t n x).get m = if n = m then some x else t.get m := by
  intro f
  induction f with
  | zero => intro t n m x h; omega
  | succ f ih =>
    intro t n m x h
    cases t with
    | nil =>
      cases n with
      | zero => cases m <;> simp [setF, get]
      | succ n =>
        cases m with
        | zero => simp only [setF]; split <;> simp [get]
        | succ m =>
          simp only [setF]
          split <;> rename_i hn
          · simp only [get]
            split <;> rename_i hm
            · rw [ih _ _ _ _ (by omega)]; simp only [get]
              by_cases e : n = m
              · subst e; simp
              · rw [if_neg (by omega), if_neg (by omega)]
            · rw [if_neg (by omega)]
          · simp only [get]
            split <;> rename_i hm
            · rw [if_neg (by omega)]
            · rw [ih _ _ _ _ (by omega)]; simp only [get]
              by_cases e : n = m
              · subst e; simp
              · rw [if_neg (by omega), if_neg (by omega)]
    | node l v r =>
      cases n with
      | zero => cases m <;> simp [setF, get]
      | succ n =>
        cases m with
        | zero => simp only [setF]; split <;> simp [get]
        | succ m =>
          simp only [setF]
          split <;> rename_i hn
          · simp only [get]
            split <;> rename_i hm
            · rw [ih _ _ _ _ (by omega)]
              by_cases e : n = m
              · subst e; simp
              · rw [if_neg (by omega), if_neg (by omega)]
            · rw [if_neg (by omega)]
          · simp only [get]
            split <;> rename_i hm
            · rw [if_neg (by omega)]
            · rw [ih _ _ _ _ (by omega)]
              by_cases e : n = m
              · subst e; simp
              · rw [if_neg (by omega), if_neg (by omega)]
theorem get_set (t : Trie α) (n m : Nat) (x : α) : (t.set n x).get m = if n = m then some x else t.get m := get_setF _ _ _ _ _ (by omega)
end Trie

/-! ### Abstract values -/
inductive Id where
  | old (b : Nat)
  | new (k : Nat)
  deriving DecidableEq

inductive Cap where
  | ex (c : Nat)
  | gr (k : Nat)
  deriving DecidableEq

inductive AVal : Type where
  | bool (b : Bool)
  | int (k : IntKind) (n : Int)
  | str (s : List UInt8)
  | nilp
  | ptr (i : Id) (off : Nat)
  | nils
  | slc (i : Id) (off len : Nat) (cap : Cap)
  | emp
  | nilm
  | mp (i : Id)
  | nilf
  | fn (f : FuncId) (caps : List AVal)
  | agg (l : List AVal)
  | tup (l : List AVal)
  | raw (v : Value)
  /-- a slice whose elements never change: each element's cells are k many -/
  | fsl (k : Nat) (els : List AVal)
  /-- a place in memory that never changes: its cells, and those behind it -/
  | fptr (cs : List AVal)
  /-- an empty slice without room -/
  | emp0

def AVal.isCell : AVal → Bool
  | .agg _ | .tup _ | .raw _ => false
  | _ => true
def AVal.cells : AVal → List AVal
  | .agg l => l
  | v => [v]
def AVal.isRaw : AVal → Bool
  | .raw _ => true
  | _ => false

def AVal.undef : AVal := .tup []

/-- where the new ids lie: the block, and how many cells it has -/
structure Phi where
  m : Nat → Option (Nat × Nat)
  /-- ids that are kept free for a later block -/
  res : Nat → Prop
  /-- cells that never change -/
  F : Nat → Nat → Option Value
instance : CoeFun Phi fun _ => Nat → Option (Nat × Nat) := ⟨Phi.m⟩
def Phi.bare (F : Nat → Nat → Option Value) : Phi := ⟨fun _ => none, fun _ => False, F⟩
/-- more ids lie somewhere, more cells never change -/
def Phi.sub (φ φ' : Phi) : Prop := (∀ k x, φ k = some x → φ' k = some x) ∧ ∀ b j v, φ.F b j = some v → φ'.F b j = some v
theorem Phi.sub_refl (φ : Phi) : φ.sub φ := ⟨fun _ _ h => h, fun _ _ _ h => h⟩
theorem Phi.sub_trans {φ φ' φ'' : Phi} (h : φ.sub φ') (h' : φ'.sub φ'') : φ.sub φ'' := ⟨fun k x e => h'.1 k x (h.1 k x e), fun b j v e => h'.2 b j v (h.2 b j v e)⟩
/-- .. and the same ids are kept free -/
def Phi.le (φ φ' : Phi) : Prop := φ.sub φ' ∧ φ'.res = φ.res
theorem Phi.le_refl (φ : Phi) : φ.le φ := ⟨φ.sub_refl, rfl⟩
theorem Phi.le_trans {φ φ' φ'' : Phi} (h : φ.le φ') (h' : φ'.le φ'') : φ.le φ'' := ⟨Phi.sub_trans h.1 h'.1, h'.2.trans h.2⟩
def Id.real (φ : Phi) : Id → Option Nat
  | .old b => some b
  | .new k => (φ k).map (·.1)
theorem Id.real_mono0 {φ φ' : Phi} (h : φ.sub φ') {i : Id} {b : Nat} (e : i.real φ = some b) : i.real φ' = some b := by
  cases i with
  | old b' => exact e
  | new k =>
    simp only [Id.real, Option.map_eq_some_iff] at *
    obtain ⟨x, hx, rfl⟩ := e
    exact ⟨x, h.1 k x hx, rfl⟩

/-- cells that never change, with these values -/
def Phi.holds (φ : Phi) (b off : Nat) (vs : List Value) : Prop := ∀ j v, vs[j]? = some v → φ.F b (off + j) = some v
theorem Phi.holds_mono {φ φ' : Phi} (h : φ.sub φ') {b off : Nat} {vs : List Value} (hv : φ.holds b off vs) : φ'.holds b off vs := fun j v e => h.2 _ _ _ (hv j v e)

mutual
inductive VR (φ : Phi) : AVal → Value → Prop where
  | bool (b) : VR φ (.bool b) (.bool b)
  | int (k n) : VR φ (.int k n) (.int k n)
  | str (s : List UInt8) : VR φ (.str s) (.string ⟨s.toArray⟩)
  | nilp : VR φ .nilp (.pointer none)
  | ptr {i b} (off) : i.real φ = some b → VR φ (.ptr i off) (.pointer (some ⟨b, off, none⟩))
  | nils : VR φ .nils (.slice none 0 0)
  | slcE {i b} (off len c) : i.real φ = some b → VR φ (.slc i off len (.ex c)) (.slice (some ⟨b, off, none⟩) len c)
  | slcG {k' b sz k} (off len c) : φ k' = some (b, sz) → off + c * k = sz → len ≤ c → VR φ (.slc (.new k') off len (.gr k)) (.slice (some ⟨b, off, none⟩) len c)
  | emp (a c) : VR φ .emp (.slice (some a) 0 c)
  | nilm : VR φ .nilm (.map none)
  | mp {i b} : i.real φ = some b → VR φ (.mp i) (.map (some b))
  | nilf : VR φ .nilf .nilFunc
  | fn (f) {l : List AVal} {vs : List Value} : VRs φ l vs → VR φ (.fn f l) (.func (.func f) #[] vs.toArray)
  | agg {l : List AVal} {vs : List Value} : VRs φ l vs → VR φ (.agg l) (.agg vs.toArray)
  | tup {l : List AVal} {vs : List Value} : VRs φ l vs → VR φ (.tup l) (.tuple vs.toArray)
  | raw (v) : VR φ (.raw v) v
  | fsl {k : Nat} {els : List AVal} {vs : List Value} {b off : Nat} (c : Nat) : VRs φ (els.flatMap AVal.cells) vs → φ.holds b off vs → (∀ e ∈ els, e.cells.length = k) → els.length ≤ c → VR φ (.fsl k els) (.slice (some ⟨b, off, none⟩) els.length c)
  | fslN (k) (a c) : (a = none → c = 0) → VR φ (.fsl k []) (.slice a 0 c)
  | fptr {cs : List AVal} {vs : List Value} {b off : Nat} : VRs φ cs vs → φ.holds b off vs → VR φ (.fptr cs) (.pointer (some ⟨b, off, none⟩))
  | emp0 (a) : VR φ .emp0 (.slice a 0 0)
inductive VRs (φ : Phi) : List AVal → List Value → Prop where
  | nil : VRs φ [] []
  | cons {a v l vs} : VR φ a v → VRs φ l vs → VRs φ (a :: l) (v :: vs)
end

theorem VR.mono0 {φ φ' : Phi} (h : φ.sub φ') {a : AVal} {v : Value} (hv : VR φ a v) : VR φ' a v := by
  refine VR.rec (motive_1 := fun a v _ => VR φ' a v) (motive_2 := fun l vs _ => VRs φ' l vs) ?_ ?_ ?_ ?_ ?_ ?_ ?_ ?_ ?_ ?_ ?_ ?_ ?_ ?_ ?_ ?_ ?_ ?_ ?_ ?_ ?_ ?_ hv
  · exact fun b => .bool b
  · exact fun k n => .int k n
  · exact fun s => .str s
  · exact .nilp
  · exact fun off e => .ptr off (Id.real_mono0 h e)
  · exact .nils
  · exact fun off len c e => .slcE off len c (Id.real_mono0 h e)
  · exact fun off len c e hs hl => .slcG off len c (h.1 _ _ e) hs hl
  · exact fun a c => .emp a c
  · exact .nilm
  · exact fun e => .mp (Id.real_mono0 h e)
  · exact .nilf
  · exact fun f _ _ _ ih => .fn f ih
  · exact fun _ ih => .agg ih
  · exact fun _ ih => .tup ih
  · exact fun v => .raw v
  · exact fun c _ hh he hc ih => .fsl c ih (Phi.holds_mono h hh) he hc
  · exact fun k a c h => .fslN k a c h
  · exact fun _ hh ih => .fptr ih (Phi.holds_mono h hh)
  · exact fun a => .emp0 a
  · exact .nil
  · exact fun _ _ ih1 ih2 => .cons ih1 ih2

theorem VRs.mono0 {φ φ' : Phi} (h : φ.sub φ') : ∀ {l : List AVal} {vs : List Value}, VRs φ l vs → VRs φ' l vs
  | [], _, hv => by cases hv; exact .nil
  | _ :: _, _, hv => by cases hv with | cons h1 h2 => exact .cons (h1.mono0 h) (VRs.mono0 h h2)

theorem VRs.length {φ : Phi} : ∀ {l : List AVal} {vs : List Value}, VRs φ l vs → l.length = vs.length
  | [], _, h => by cases h; rfl
  | _ :: _, _, h => by cases h with | cons _ h2 => simp [VRs.length h2]
theorem VRs.get {φ : Phi} : ∀ {l : List AVal} {vs : List Value} (_ : VRs φ l vs) (i : Nat) (a : AVal), l[i]? = some a → ∃ v, vs[i]? = some v ∧ VR φ a v
  | [], _, _, i, a, e => by simp at e
  | x :: l, _, h, i, a, e => by
    cases h with
    | cons h1 h2 => cases i with
      | zero => simp at e; subst e; exact ⟨_, rfl, h1⟩
      | succ i => simp at e; obtain ⟨v, hv, hr⟩ := VRs.get h2 i a e; exact ⟨v, by simpa using hv, hr⟩
theorem VRs.append {φ : Phi} : ∀ {l : List AVal} {vs : List Value} {l' : List AVal} {vs' : List Value}, VRs φ l vs → VRs φ l' vs' → VRs φ (l ++ l') (vs ++ vs')
  | [], _, _, _, h, h' => by cases h; exact h'
  | _ :: _, _, _, _, h, h' => by cases h with | cons h1 h2 => exact .cons h1 (VRs.append h2 h')
theorem VRs.take {φ : Phi} : ∀ {l : List AVal} {vs : List Value} (n : Nat), VRs φ l vs → VRs φ (l.take n) (vs.take n)
  | [], _, n, h => by cases h; simp; exact .nil
  | _ :: _, _, 0, h => by simp; exact .nil
  | _ :: _, _, n + 1, h => by cases h with | cons h1 h2 => exact .cons h1 (VRs.take n h2)
theorem VRs.drop {φ : Phi} : ∀ {l : List AVal} {vs : List Value} (n : Nat), VRs φ l vs → VRs φ (l.drop n) (vs.drop n)
  | [], _, n, h => by cases h; simp; exact .nil
  | _ :: _, _, 0, h => by simpa using h
  | _ :: _, _, n + 1, h => by cases h with | cons h1 h2 => exact VRs.drop n h2
theorem VRs.set {φ : Phi} : ∀ {l : List AVal} {vs : List Value} (_ : VRs φ l vs) (i : Nat) {a : AVal} {v : Value}, VR φ a v → VRs φ (l.set i a) (vs.set i v)
  | [], _, h, i, a, v, hv => by cases h; simp; exact .nil
  | x :: l, _, h, i, a, v, hv => by
    cases h with
    | cons h1 h2 => cases i with
      | zero => exact .cons hv h2
      | succ i => exact .cons h1 (VRs.set h2 i hv)
theorem VRs.replicate {φ : Phi} {a : AVal} {v : Value} (h : VR φ a v) : ∀ n : Nat, VRs φ (List.replicate n a) (List.replicate n v)
  | 0 => .nil
  | n + 1 => .cons h (VRs.replicate h n)
theorem VRs.of_get {φ : Phi} : ∀ {l : List AVal} {vs : List Value}, l.length = vs.length → (∀ (i : Nat) (a : AVal) (v : Value), l[i]? = some a → vs[i]? = some v → VR φ a v) → VRs φ l vs
  | [], [], _, _ => .nil
  | a :: l, v :: vs, h, hg => .cons (hg 0 a v rfl rfl) (VRs.of_get (by simpa using h) fun i a' v' e e' => hg (i + 1) a' v' (by simpa using e) (by simpa using e'))
  | [], _ :: _, h, _ => by simp at h
  | _ :: _, [], h, _ => by simp at h

/-- what an old value is -/
def ofVal : Value → AVal
  | .bool b => .bool b
  | .int k n => .int k n
  | .string s => .str s.data.toList
  | .pointer none => .nilp
  | .pointer (some ⟨b, off, none⟩) => .ptr (.old b) off
  | .slice none 0 0 => .nils
  | .slice (some ⟨b, off, none⟩) len c => .slc (.old b) off len (.ex c)
  | v => .raw v
theorem ofVal_VR (φ : Phi) (v : Value) : VR φ (ofVal v) v := by
  unfold ofVal
  split
  · exact .bool _
  · exact .int _ _
  · rename_i s; have := VR.str (φ := φ) s.data.toList; simpa using this
  · exact .nilp
  · exact .ptr _ rfl
  · exact .nils
  · exact .slcE _ _ _ rfl
  · exact .raw _

/-! ### The abstract heap -/
inductive ABlk where
  | cells (cs : List AVal) (opn : Option TypeId)
  | map (es : List (Int × AVal))
  | iter (s : List UInt8) (pos : Nat)
  | dead
  /-- cells of a known type's variable -/
  | tcells (T : TypeId) (cs : List AVal)
  /-- just this object -/
  | exact (o : Obj)

/-- the first world's cells that never change, and whether it is known that the tape was read forward -/
structure FB where
  f : Nat → Nat → Option Value
  dr : Bool
instance : CoeFun FB fun _ => Nat → Nat → Option Value := ⟨FB.f⟩
structure Heap where
  W : World
  /-- cells of the first world that never change -/
  F0 : FB
  tr : Trie ABlk
  next : Nat

def Heap.get (σ : Heap) (k : Nat) : Option ABlk := σ.tr.get k
def Heap.set (σ : Heap) (k : Nat) (b : ABlk) : Heap := { σ with tr := σ.tr.set k b }
def Heap.new (σ : Heap) (b : ABlk) : Heap := { σ with tr := σ.tr.set σ.next b, next := σ.next + 1 }
theorem Heap.get_set (σ : Heap) (k m : Nat) (b : ABlk) : (σ.set k b).get m = if k = m then some b else σ.get m := Trie.get_set ..
theorem Heap.get_new (σ : Heap) (m : Nat) (b : ABlk) : (σ.new b).get m = if σ.next = m then some b else σ.get m := Trie.get_set ..
@[simp] theorem Heap.set_W (σ : Heap) (k : Nat) (b : ABlk) : (σ.set k b).W = σ.W := rfl
@[simp] theorem Heap.new_W (σ : Heap) (b : ABlk) : (σ.new b).W = σ.W := rfl
@[simp] theorem Heap.set_F0 (σ : Heap) (k : Nat) (b : ABlk) : (σ.set k b).F0 = σ.F0 := rfl
@[simp] theorem Heap.new_F0 (σ : Heap) (b : ABlk) : (σ.new b).F0 = σ.F0 := rfl
@[simp] theorem Heap.set_next (σ : Heap) (k : Nat) (b : ABlk) : (σ.set k b).next = σ.next := rfl
@[simp] theorem Heap.new_next (σ : Heap) (b : ABlk) : (σ.new b).next = σ.next + 1 := rfl

def Heap.cell (σ : Heap) (i : Id) (off : Nat) : Option AVal :=
  match i with
  | .old b => if b < σ.W.heap.size then (σ.W.cell? ⟨b, off, none⟩).map ofVal else none
  | .new k => match σ.get k with
    | some (.cells cs _) => cs[off]?
    | some (.tcells _ cs) => cs[off]?
    | _ => none

/-- entries in the model's order -/
inductive EntRel (φ : Phi) : List (Int × AVal) → List MapEntry → Prop where
  | nil : EntRel φ [] []
  | cons {n : Int} {a : AVal} {e : MapEntry} {es : List (Int × AVal)} {es' : List MapEntry} : e.key = .int .i64 n → VR φ a e.val → EntRel φ es es' → EntRel φ ((n, a) :: es) (e :: es')
theorem EntRel.mono0 {φ φ' : Phi} (h : φ.sub φ') {es : List (Int × AVal)} {es' : List MapEntry} (he : EntRel φ es es') : EntRel φ' es es' := by
  induction he with
  | nil => exact .nil
  | cons h1 h2 _ ih => exact .cons h1 (h2.mono0 h) ih
/-- an abstract map (sorted by key) against the model's -/
def MapRel (φ : Phi) (es : List (Int × AVal)) (es' : List MapEntry) : Prop :=
  es.Pairwise (fun x y => x.1 < y.1) ∧ ∃ es0, es0.Perm es ∧ EntRel φ es0 es'

inductive BRel (φ : Phi) (sz : Nat) : ABlk → Obj → Prop where
  | cells {cs : List AVal} {opn : Option TypeId} {cs' : Array Value} {T : TypeId} {fz : Nat × Nat} :
      cs'.size = sz → cs.length ≤ sz → (opn = none → cs.length = sz) → (∀ T', opn = some T' → T' = T) → VRs φ cs (cs'.toList.take cs.length) →
      (∀ off, off < sz → (fz.1 ≤ off && off < fz.2) = false) → BRel φ sz (.cells cs opn) (.cells cs' T fz)
  | map {es : List (Int × AVal)} {es' : Array MapEntry} {clock : Nat} : MapRel φ es es'.toList → MapKept.Stamped es' clock → BRel φ sz (.map es) (.map es' clock)
  | iter (s : List UInt8) (pos : Nat) : BRel φ sz (.iter s pos) (.stringIter ⟨s.toArray⟩ pos)
  | dead (o : Obj) : BRel φ sz .dead o
  | tcells {cs : List AVal} {cs' : Array Value} {T : TypeId} {fz : Nat × Nat} : cs'.size = sz → VRs φ cs cs'.toList → (∀ off, off < sz → (fz.1 ≤ off && off < fz.2) = false) → BRel φ sz (.tcells T cs) (.cells cs' T fz)
  | exact (o : Obj) : BRel φ sz (.exact o) o

def Heap.live (σ : Heap) (k : Nat) : Prop := ∃ b, σ.get k = some b ∧ b ≠ .dead

structure Rel (φ : Phi) (σ : Heap) (w : World) : Prop where
  size : σ.W.heap.size ≤ w.heap.size
  old : ∀ b, b < σ.W.heap.size → w.heap[b]? = σ.W.heap[b]?
  new : ∀ k b sz, φ k = some (b, sz) → σ.W.heap.size ≤ b ∧ ∃ o, w.heap[b]? = some o ∧ ∀ blk, σ.get k = some blk → BRel φ sz blk o
  inj : ∀ k k' b sz sz', φ k = some (b, sz) → φ k' = some (b, sz') → σ.live k → σ.live k' → k = k'
  fresh : ∀ k, σ.next ≤ k → φ k = none
  resv : ∀ k, φ.res k → φ k = none ∧ k < σ.next
  tape : w.tape = σ.W.tape
  os : w.os = σ.W.os
  output : w.output = σ.W.output
  /-- what never changes is as it was -/
  frz : ∀ b j v, φ.F b j = some v → w.cell? ⟨b, j, none⟩ = some v
  /-- what may change is apart from it -/
  apart : ∀ k b sz j, φ k = some (b, sz) → σ.live k → φ.F b j = none
  /-- of the first world's cells no more are known never to change -/
  base : ∀ b j v, b < σ.W.heap.size → φ.F b j = some v → σ.F0.f b j = some v
  /-- the tape was read forward -/
  drawn : σ.F0.dr = true → σ.W.drawn ≤ w.drawn

theorem BRel.mono0 {φ φ' : Phi} (h : φ.sub φ') {sz : Nat} {b : ABlk} {o : Obj} (hb : BRel φ sz b o) : BRel φ' sz b o := by
  cases hb with
  | cells h1 h2 h3 hT h4 h5 => exact .cells h1 h2 h3 hT (h4.mono0 h) h5
  | map hm hs => exact .map ⟨hm.1, hm.2.imp fun _ h2 => ⟨h2.1, h2.2.mono0 h⟩⟩ hs
  | iter s pos => exact .iter s pos
  | dead o => exact .dead o
  | tcells h1 h2 h3 => exact .tcells h1 (h2.mono0 h) h3
  | exact o => exact .exact o

theorem Id.real_mono {φ φ' : Phi} (h : φ.le φ') {i : Id} {b : Nat} (e : i.real φ = some b) : i.real φ' = some b := Id.real_mono0 h.1 e
theorem VR.mono {φ φ' : Phi} (h : φ.le φ') {a : AVal} {v : Value} (hv : VR φ a v) : VR φ' a v := hv.mono0 h.1
theorem VRs.mono {φ φ' : Phi} (h : φ.le φ') {l : List AVal} {vs : List Value} (hv : VRs φ l vs) : VRs φ' l vs := VRs.mono0 h.1 hv
theorem EntRel.mono {φ φ' : Phi} (h : φ.le φ') {es : List (Int × AVal)} {es' : List MapEntry} (he : EntRel φ es es') : EntRel φ' es es' := he.mono0 h.1
theorem BRel.mono {φ φ' : Phi} (h : φ.le φ') {sz : Nat} {b : ABlk} {o : Obj} (hb : BRel φ sz b o) : BRel φ' sz b o := hb.mono0 h.1
end Go.Mini
set_option linter.unusedVariables false
set_option linter.unusedSimpArgs false
namespace Go.Mini
open Go

theorem heap_alloc (w : World) (o : Obj) (b : Nat) : (w.alloc o).heap[b]? = if b = w.heap.size then some o else w.heap[b]? := by
  simp only [World.alloc, Array.getElem?_push]

theorem heap_setCell {w : World} {b : Nat} {off : Nat} {v : Value} {cs : Array Value} {T : TypeId} {fz : Nat × Nat} (h : w.heap[b]? = some (.cells cs T fz)) (b' : Nat) :
    (w.setCell ⟨b, off, none⟩ v).heap[b']? = if b' = b then some (.cells (cs.setIfInBounds off v) T fz) else w.heap[b']? := by
  simp only [World.setCell, Array.getElem?_modify]
  by_cases e : b = b'
  · subst e; simp [h]
  · rw [if_neg e, if_neg (fun h => e h.symm)]

/-- phi with one new id more -/
def Phi.put (φ : Phi) (k : Nat) (x : Nat × Nat) : Phi := { φ with m := fun j => if j = k then some x else φ j }
theorem Phi.put_same (φ : Phi) (k : Nat) (x : Nat × Nat) : φ.put k x k = some x := by simp [Phi.put]
theorem Phi.put_other (φ : Phi) {k j : Nat} (x : Nat × Nat) (h : j ≠ k) : φ.put k x j = φ j := by simp [Phi.put, h]
theorem Phi.le_put {φ : Phi} {k : Nat} (x : Nat × Nat) (h : φ k = none) : φ.le (φ.put k x) := by
  refine ⟨⟨fun j y e => ?_, fun _ _ _ e => e⟩, rfl⟩
  by_cases hj : j = k
  · subst hj; rw [h] at e; cases e
  · rw [Phi.put_other _ _ hj]; exact e

theorem Rel.lt {φ : Phi} {σ : Heap} {w : World} (hr : Rel φ σ w) {k b sz : Nat} (h : φ k = some (b, sz)) : b < w.heap.size := by
  obtain ⟨_, o, ho, _⟩ := hr.new k b sz h
  exact (Array.getElem?_eq_some_iff.1 ho).1

theorem Rel.drew {φ : Phi} {σ : Heap} {w : World} (hr : Rel φ σ w) : Rel φ σ w.drew :=
  { hr with drawn := fun h => Nat.le_succ_of_le (hr.drawn h) }

/-- a new block, its abstract twin at the next id -/
theorem Rel.alloc {φ : Phi} {σ : Heap} {w : World} (hr : Rel φ σ w) {blk : ABlk} {o : Obj} {sz : Nat}
    (hb : BRel (φ.put σ.next (w.heap.size, sz)) sz blk o) :
    φ.le (φ.put σ.next (w.heap.size, sz)) ∧ Rel (φ.put σ.next (w.heap.size, sz)) (σ.new blk) (w.alloc o) := by
  have hnone := hr.fresh σ.next (Nat.le_refl _)
  have hle := Phi.le_put (w.heap.size, sz) hnone
  refine ⟨hle, ?_⟩
  constructor
  · simp only [Heap.new_W, World.size_alloc]; have := hr.size; omega
  · intro b h
    simp only [Heap.new_W] at h ⊢
    have := hr.size
    rw [heap_alloc, if_neg (by omega)]; exact hr.old b h
  · intro k b sz' e
    simp only [Heap.new_W]
    by_cases hk : k = σ.next
    · subst hk
      rw [Phi.put_same] at e
      simp only [Option.some.injEq, Prod.mk.injEq] at e
      obtain ⟨rfl, rfl⟩ := e
      refine ⟨hr.size, o, by rw [heap_alloc, if_pos rfl], ?_⟩
      intro blk' hg
      rw [Heap.get_new, if_pos rfl] at hg
      cases hg
      exact hb
    · rw [Phi.put_other _ _ hk] at e
      obtain ⟨h1, o', ho', h2⟩ := hr.new k b sz' e
      refine ⟨h1, o', ?_, ?_⟩
      · have := (Array.getElem?_eq_some_iff.1 ho').1
        rw [heap_alloc, if_neg (by omega)]; exact ho'
      · intro blk' hg
        rw [Heap.get_new, if_neg (fun h => hk h.symm)] at hg
        exact (h2 blk' hg).mono hle
  · intro k k' b sz1 sz2 e e' hl hl'
    have live : ∀ j, j ≠ σ.next → (σ.new blk).live j → σ.live j := by
      intro j hj ⟨x, hx, hd⟩
      rw [Heap.get_new, if_neg (fun h => hj h.symm)] at hx
      exact ⟨x, hx, hd⟩
    by_cases hk : k = σ.next <;> by_cases hk' : k' = σ.next
    · rw [hk, hk']
    · subst hk
      rw [Phi.put_same] at e; rw [Phi.put_other _ _ hk'] at e'
      simp only [Option.some.injEq, Prod.mk.injEq] at e
      have := hr.lt e'; omega
    · subst hk'
      rw [Phi.put_same] at e'; rw [Phi.put_other _ _ hk] at e
      simp only [Option.some.injEq, Prod.mk.injEq] at e'
      have := hr.lt e; omega
    · rw [Phi.put_other _ _ hk] at e; rw [Phi.put_other _ _ hk'] at e'
      exact hr.inj k k' b sz1 sz2 e e' (live k hk hl) (live k' hk' hl')
  · intro k h
    simp only [Heap.new_next] at h
    rw [Phi.put_other _ _ (by omega)]; exact hr.fresh k (by omega)
  · intro k h
    have := hr.resv k h
    rw [Phi.put_other _ _ (by omega)]
    exact ⟨this.1, by simp only [Heap.new_next]; omega⟩
  · exact hr.tape
  · exact hr.os
  · exact hr.output
  · intro b j v e
    have h := hr.frz b j v e
    have hb : b < w.heap.size := World.block_lt_of_cell? w ⟨b, j, none⟩ h
    simp only [World.cell?, heap_alloc]
    rw [if_neg (by omega)]
    exact h
  · intro k b sz' j e hl
    by_cases hk : k = σ.next
    · subst hk
      rw [Phi.put_same] at e
      simp only [Option.some.injEq, Prod.mk.injEq] at e
      obtain ⟨rfl, rfl⟩ := e
      cases hF : φ.F w.heap.size j with
      | none => exact hF
      | some v => have := World.block_lt_of_cell? w ⟨w.heap.size, j, none⟩ (hr.frz _ _ _ hF); simp only at this; omega
    · rw [Phi.put_other _ _ hk] at e
      refine hr.apart k b sz' j e ?_
      obtain ⟨x, hx, hd⟩ := hl
      rw [Heap.get_new, if_neg (fun h => hk h.symm)] at hx
      exact ⟨x, hx, hd⟩
  · exact hr.base
  · exact hr.drawn

theorem cell?_cells {w : World} {b : Nat} {cs : Array Value} {T : TypeId} {fz : Nat × Nat} (h : w.heap[b]? = some (.cells cs T fz)) (off : Nat) :
    w.cell? ⟨b, off, none⟩ = cs[off]? := by simp [World.cell?, h]

theorem take_getElem? {α : Type} (l : List α) (n i : Nat) (x : α) (h : (l.take n)[i]? = some x) : l[i]? = some x := by
  rw [List.getElem?_take] at h
  split at h
  · exact h
  · cases h

/-- a cell that is known -/
theorem Rel.cell {φ : Phi} {σ : Heap} {w : World} (hr : Rel φ σ w) {i : Id} {off b : Nat} {a : AVal} (h : σ.cell i off = some a) (hi : i.real φ = some b) :
    ∃ v, w.cell? ⟨b, off, none⟩ = some v ∧ VR φ a v := by
  cases i with
  | old b' =>
    simp only [Id.real, Option.some.injEq] at hi
    subst hi
    simp only [Heap.cell] at h
    split at h
    · rename_i hb
      rw [Option.map_eq_some_iff] at h
      obtain ⟨v, hv, rfl⟩ := h
      refine ⟨v, ?_, ofVal_VR φ v⟩
      have := hr.old b' hb
      unfold World.cell? at hv ⊢
      simp only at hv ⊢
      rw [this]; exact hv
    · cases h
  | new k =>
    simp only [Id.real, Option.map_eq_some_iff] at hi
    obtain ⟨⟨b', sz⟩, hk, rfl⟩ := hi
    simp only [Heap.cell] at h
    split at h
    · rename_i cs opn hg
      obtain ⟨_, o, ho, hb⟩ := hr.new k b' sz hk
      cases hb _ hg with
      | cells h1 h2 h3 hT h4 h5 =>
        obtain ⟨v, hv, hvr⟩ := h4.get off a h
        refine ⟨v, ?_, hvr⟩
        rw [cell?_cells ho]
        have := take_getElem? _ _ _ _ hv
        simpa using this
    · rename_i T cs hg
      obtain ⟨_, o, ho, hb⟩ := hr.new k b' sz hk
      cases hb _ hg with
      | tcells h1 h2 h3 =>
        obtain ⟨v, hv, hvr⟩ := h2.get off a h
        refine ⟨v, ?_, hvr⟩
        rw [cell?_cells ho]
        simpa using hv
    · cases h

/-- what changes one block's object alone -/
theorem Rel.change {φ : Phi} {σ : Heap} {w w' : World} (hr : Rel φ σ w) {k b sz : Nat} {blk blk' : ABlk} {o : Obj} (hk : φ k = some (b, sz))
    (hg : σ.get k = some blk) (hd : blk ≠ .dead)
    (hw : ∀ b', w'.heap[b']? = if b' = b then some o else w.heap[b']?) (hs : w'.heap.size = w.heap.size)
    (ht : w'.tape = w.tape) (hos : w'.os = w.os) (hout : w'.output = w.output) (hdr : w.drawn ≤ w'.drawn)
    (hb : BRel φ sz blk' o) : Rel φ (σ.set k blk') w' := by
  have hlive : σ.live k := ⟨blk, hg, hd⟩
  have live : ∀ j, (σ.set k blk').live j → σ.live j := by
    intro j ⟨x, hx, hdx⟩
    rw [Heap.get_set] at hx
    by_cases e : k = j
    · subst e; exact hlive
    · rw [if_neg e] at hx; exact ⟨x, hx, hdx⟩
  constructor
  · simp only [Heap.set_W]; rw [hs]; exact hr.size
  · intro b' h
    simp only [Heap.set_W] at h ⊢
    have := (hr.new k b sz hk).1
    rw [hw, if_neg (by omega)]; exact hr.old b' h
  · intro j b' sz' e
    simp only [Heap.set_W]
    obtain ⟨h1, o', ho', h2⟩ := hr.new j b' sz' e
    refine ⟨h1, ?_⟩
    by_cases hbb : b' = b
    · subst hbb
      refine ⟨o, by rw [hw, if_pos rfl], ?_⟩
      intro x hx
      rw [Heap.get_set] at hx
      by_cases hjk : k = j
      · subst hjk
        rw [if_pos rfl] at hx; cases hx
        rw [hk] at e; simp only [Option.some.injEq, Prod.mk.injEq, true_and] at e
        subst e; exact hb
      · rw [if_neg hjk] at hx
        cases hdx : x with
        | dead => exact .dead o
        | _ => exact absurd (hr.inj k j b' sz sz' hk e hlive ⟨x, hx, by rw [hdx]; intro h; cases h⟩) hjk
    · refine ⟨o', by rw [hw, if_neg hbb]; exact ho', ?_⟩
      intro x hx
      rw [Heap.get_set] at hx
      by_cases hjk : k = j
      · subst hjk
        rw [hk] at e; simp only [Option.some.injEq, Prod.mk.injEq] at e
        exact absurd e.1.symm hbb
      · rw [if_neg hjk] at hx; exact h2 x hx
  · intro j j' b' sz1 sz2 e e' hl hl'
    exact hr.inj j j' b' sz1 sz2 e e' (live j hl) (live j' hl')
  · intro j h; exact hr.fresh j h
  · exact hr.resv
  · exact ht.trans hr.tape
  · exact hos.trans hr.os
  · exact hout.trans hr.output
  · intro b' j v e
    have hne : b' ≠ b := by
      rintro rfl
      rw [hr.apart k b' sz j hk hlive] at e; cases e
    have h := hr.frz b' j v e
    simp only [World.cell?] at h ⊢
    rw [hw, if_neg hne]; exact h
  · intro j b' sz' i e hl
    exact hr.apart j b' sz' i e (live j hl)
  · exact hr.base
  · exact fun h => Nat.le_trans (hr.drawn h) hdr

/-- a block's real object -/
theorem Rel.block {φ : Phi} {σ : Heap} {w : World} (hr : Rel φ σ w) {k b sz : Nat} {cs : List AVal} {opn : Option TypeId} (hk : φ k = some (b, sz)) (hg : σ.get k = some (.cells cs opn)) :
    ∃ (cs' : Array Value) (T : TypeId) (fz : Nat × Nat), w.heap[b]? = some (.cells cs' T fz) ∧ cs'.size = sz ∧ cs.length ≤ sz ∧ (opn = none → cs.length = sz) ∧ (∀ T', opn = some T' → T' = T) ∧
      VRs φ cs (cs'.toList.take cs.length) ∧ ∀ off, off < sz → (fz.1 ≤ off && off < fz.2) = false := by
  obtain ⟨_, o, ho, hb⟩ := hr.new k b sz hk
  cases hb _ hg with
  | cells h1 h2 h3 hT h4 h5 => exact ⟨_, _, _, ho, h1, h2, h3, hT, h4, h5⟩

theorem toList_setIfInBounds {α : Type} (a : Array α) (i : Nat) (x : α) : (a.setIfInBounds i x).toList = a.toList.set i x := by simp

/-- one cell stored -/
theorem Rel.store {φ : Phi} {σ : Heap} {w : World} (hr : Rel φ σ w) {k b sz off : Nat} {cs : List AVal} {opn : Option TypeId} {a : AVal} {v : Value} (hk : φ k = some (b, sz))
    (hg : σ.get k = some (.cells cs opn)) (hoff : off < cs.length) (hv : VR φ a v) :
    (∃ u, w.cell? ⟨b, off, none⟩ = some u) ∧ w.frozen? ⟨b, off, none⟩ = false ∧ Rel φ (σ.set k (.cells (cs.set off a) opn)) (w.setCell ⟨b, off, none⟩ v) := by
  obtain ⟨cs', T, fz, ho, h1, h2, h3, hT, h4, h5⟩ := hr.block hk hg
  refine ⟨?_, ?_, ?_⟩
  · rw [cell?_cells ho]
    exact ⟨cs'[off]'(by omega), by simp⟩
  · simp only [World.frozen?, ho]
    exact h5 off (by omega)
  · refine hr.change hk hg (by intro h; cases h) (o := .cells (cs'.setIfInBounds off v) T fz) (heap_setCell ho) (by simp) rfl rfl rfl (Nat.le_refl _) ?_
    refine .cells (by simpa using h1) (by simpa using h2) (by simpa using h3) hT ?_ h5
    rw [toList_setIfInBounds, List.length_set, List.take_set]
    exact VRs.set h4 off hv

theorem Rel.blockT {φ : Phi} {σ : Heap} {w : World} (hr : Rel φ σ w) {k b sz : Nat} {T : TypeId} {cs : List AVal} (hk : φ k = some (b, sz)) (hg : σ.get k = some (.tcells T cs)) :
    ∃ (cs' : Array Value) (fz : Nat × Nat), w.heap[b]? = some (.cells cs' T fz) ∧ cs'.size = sz ∧ VRs φ cs cs'.toList ∧ ∀ off, off < sz → (fz.1 ≤ off && off < fz.2) = false := by
  obtain ⟨_, o, ho, hb⟩ := hr.new k b sz hk
  cases hb _ hg with
  | tcells h1 h2 h3 => exact ⟨_, _, ho, h1, h2, h3⟩
theorem Rel.storeT {φ : Phi} {σ : Heap} {w : World} (hr : Rel φ σ w) {k b sz off : Nat} {T : TypeId} {cs : List AVal} {a : AVal} {v : Value} (hk : φ k = some (b, sz))
    (hg : σ.get k = some (.tcells T cs)) (hoff : off < cs.length) (hv : VR φ a v) :
    (∃ u, w.cell? ⟨b, off, none⟩ = some u) ∧ w.frozen? ⟨b, off, none⟩ = false ∧ Rel φ (σ.set k (.tcells T (cs.set off a))) (w.setCell ⟨b, off, none⟩ v) := by
  obtain ⟨cs', fz, ho, h1, h2, h3⟩ := hr.blockT hk hg
  have hl := h2.length
  simp only [Array.length_toList] at hl
  refine ⟨?_, ?_, ?_⟩
  · rw [cell?_cells ho]
    exact ⟨cs'[off]'(by omega), by simp⟩
  · simp only [World.frozen?, ho]
    exact h3 off (by omega)
  · refine hr.change hk hg (by intro h; cases h) (o := .cells (cs'.setIfInBounds off v) T fz) (heap_setCell ho) (by simp) rfl rfl rfl (Nat.le_refl _) ?_
    refine .tcells (by simpa using h1) ?_ h3
    rw [toList_setIfInBounds]
    exact VRs.set h2 off hv

end Go.Mini
set_option linter.unusedVariables false
set_option linter.unusedSimpArgs false
namespace Go.Mini
open Go

/-! ### Frames, operands -/
abbrev Frame := Trie AVal
def Frame.get (fr : Frame) (t : Nat) : AVal := (Trie.get fr t).getD .undef
def Frame.put (fr : Frame) (t : Nat) (v : AVal) : Frame := Trie.set fr t v
theorem Frame.get_put (fr : Frame) (t s : Nat) (v : AVal) : (fr.put t v).get s = if t = s then v else fr.get s := by
  simp only [Frame.get, Frame.put, Trie.get_set]
  split <;> rfl
def Frame.putO (fr : Frame) (t : Option Nat) (v : AVal) : Frame :=
  match t with
  | some t => fr.put t v
  | none => fr
def Frame.ofArgs : Nat → List AVal → Frame
  | _, [] => .nil
  | n, a :: l => (Frame.ofArgs (n + 1) l).put n a

inductive Opd where
  | tmp (t : Nat)
  | lit (a : AVal)
def Opd.ev (fr : Frame) : Opd → AVal
  | .tmp t => fr.get t
  | .lit a => a

/-! ### Equality -/
inductive EqK where
  | int | str | bool | ptr | slc | map | fn
  | flat (ks : List EqK)
  | no

def aEq0 : EqK → AVal → AVal → Option Bool
  | .int, .int k a, .int k' b => if k = k' then some (a == b) else none
  | .str, .str a, .str b => some (a == b)
  | .bool, .bool a, .bool b => some (a == b)
  | _, _, _ => none
def aEqs : List EqK → List AVal → List AVal → Option Bool
  | [], [], [] => some true
  | e :: es, x :: xs, y :: ys => match aEq0 e x y with
    | some true => aEqs es xs ys
    | some false => some false
    | none => none
  | _, _, _ => none
def aEq (e : EqK) (x y : AVal) : Option Bool :=
  match e, x, y with
  | .bool, .bool a, .bool b => some (a == b)
  | .ptr, .nilp, .nilp => some true
  | .ptr, .nilp, .ptr _ _ => some false
  | .ptr, .ptr _ _, .nilp => some false
  | .slc, .nils, .nils => some true
  | .slc, .nils, .slc _ _ _ _ => some false
  | .slc, .nils, .emp => some false
  | .slc, .slc _ _ _ _, .nils => some false
  | .slc, .emp, .nils => some false
  | .slc, .fsl _ els, .nils => if els.isEmpty then none else some false
  | .map, .nilm, .nilm => some true
  | .map, .nilm, .mp _ => some false
  | .map, .mp _, .nilm => some false
  | .fn, .nilf, .nilf => some true
  | .fn, .nilf, .fn _ _ => some false
  | .fn, .fn _ _, .nilf => some false
  | .flat ks, .agg xs, .agg ys => aEqs ks xs ys
  | _, _, _ => none

def bitOp (op : BinOp) (k : IntKind) (x y : Int) : Int :=
  let a := BitVec.ofInt k.bits x
  let b := BitVec.ofInt k.bits y
  k.wrap (match op with
    | .and => a &&& b
    | .or => a ||| b
    | .xor => a ^^^ b
    | _ => a &&& ~~~b).toNat
def aInt (op : BinOp) (k : IntKind) (a b : Int) : Option AVal :=
  match op with
  | .add => some (.int k (k.wrap (a + b)))
  | .sub => some (.int k (k.wrap (a - b)))
  | .mul => some (.int k (k.wrap (a * b)))
  | .quo => if b = 0 then none else some (.int k (k.wrap (a.tdiv b)))
  | .rem => if b = 0 then none else some (.int k (a.tmod b))
  | .and => some (.int k (bitOp .and k a b))
  | .or => some (.int k (bitOp .or k a b))
  | .xor => some (.int k (bitOp .xor k a b))
  | .andNot => some (.int k (bitOp .andNot k a b))
  | .eql => some (.bool (a == b))
  | .neq => some (.bool (a != b))
  | .lss => some (.bool (a < b))
  | .leq => some (.bool (a ≤ b))
  | .gtr => some (.bool (a > b))
  | .geq => some (.bool (a ≥ b))
  | _ => none
def aStr (op : BinOp) (s t : List UInt8) : Option AVal :=
  match op with
  | .add => if s.length + t.length ≤ 2 ^ 62 then some (.str (s ++ t)) else none
  | .eql => some (.bool (s == t))
  | .neq => some (.bool (s != t))
  | _ => none
def aBin (op : BinOp) (e : EqK) (x y : AVal) : Option AVal :=
  match x, y with
  | .int k a, .int k' b => match op with
    | .shl => if b < 0 then none else some (.int k (k.wrap (a * 2 ^ (min b.toNat k.bits))))
    | .shr => if b < 0 then none else some (.int k (a.fdiv (2 ^ (min b.toNat k.bits))))
    | _ => if k = k' then aInt op k a b else none
  | .str s, .str t => aStr op s t
  | x, y => match op with
    | .eql => (aEq e x y).map .bool
    | .neq => (aEq e x y).map fun b => .bool (!b)
    | _ => none

/-! ### Operations -/
inductive SOp where
  | call (f : Opd) (args : List Opd)
  -- plain
  | mv (x : Opd)
  | pick (c a b : Opd)
  | nilc (x : Opd)
  | bin (op : BinOp) (e : EqK) (x y : Opd)
  | not (x : Opd)
  | neg (x : Opd)
  | cint (k : IntKind) (x : Opd)
  | cstr (x : Opd)
  | mkfn (f : FuncId) (caps : List Opd)
  | fld (n : Option Nat) (off : Nat) (x : Opd)
  | fldA (off : Nat) (x : Opd)
  | idxA (k : Nat) (x i : Opd)
  | idxR (n k : Nat) (x i : Opd)
  | idxS (x i : Opd)
  | idxG (n k : Nat) (agg : Bool) (x i : Opd)
  | build (zero : List AVal) (parts : List (Nat × Nat × Opd))
  | ext (x : Opd) (i : Nat)
  | len (x : Opd)
  | lenS (x : Opd)
  | lenC (n : Nat)
  | slc (k : Nat) (x : Opd) (lo hi mx : Option Opd)
  | slcS (x : Opd) (lo hi : Option Opd)
  | slcR (n k : Nat) (x : Opd) (lo hi mx : Option Opd)
  | maxs (x : Opd) (l : List Opd)
  | mins (x : Opd) (l : List Opd)
  -- reads
  | load (n : Option Nat) (x : Opd)
  | look (zero : AVal) (ok : Bool) (x k : Opd)
  | lenM (x : Opd)
  | bstr (x : Opd)
  /-- a new variable whose id was kept free -/
  | lay (k : Nat) (zs : List AVal)
  /-- a new slice with its elements, whose id was kept free -/
  | layB (q k : Nat) (zs : List AVal) (len : Nat) (parts : List (Nat × Nat × Opd))
  -- what makes memory
  | alloc (zs : List AVal)
  | allocT (T : TypeId) (zs : List AVal)
  | box (x : Opd)
  | bslc (k : Nat) (zs : List AVal) (len : Nat) (parts : List (Nat × Nat × Opd))
  | mslc (k bytes : Nat) (zs : List AVal) (l c : Opd)
  | mmap
  | iter (x : Opd)
  | bytes (e : TypeId) (x : Opd)
  -- what changes memory
  | store (n : Nat) (a x : Opd)
  | app (e : TypeId) (k bytes : Nat) (x y : Opd)
  | copy (k : Nat) (x y : Opd)
  | mapUp (m k v : Opd)
  | del (m k : Opd)
  | clr (k : Nat) (zs : List AVal) (x : Opd)
  | next (x : Opd)

structure SOper where
  dst : Option Nat
  op : SOp
  guard : Option (Nat × Bool)
  after : List Nat

inductive SCode where
  | skip
  | reg (tab : Option (List Nat)) (ops : List SOper)
  /-- a drawn region whose new variables' ids are kept free ahead -/
  | regA (tab : List Nat) (ops : List SOper)
  | seq (a b : SCode)
  | cond (c : Opd) (a b : SCode)
  | block (id : Nat) (c : SCode)
  | loop (c : SCode)
  | exit (id : Nat)
  | ret

/-! ### What they do -/
def cellsFrom (σ : Heap) (i : Id) (off : Nat) : Nat → Option (List AVal)
  | 0 => some []
  | n + 1 => match σ.cell i off, cellsFrom σ i (off + 1) n with
    | some a, some l => some (a :: l)
    | _, _ => none
def aLoad (n : Option Nat) (x : AVal) (σ : Heap) : Option AVal :=
  match x with
  | .ptr i off => match n with
    | none => σ.cell i off
    | some n => (cellsFrom σ i off n).map .agg
  | .fptr cs => match n with
    | none => cs[0]?
    | some n => if n ≤ cs.length then some (.agg (cs.take n)) else none
  | _ => none

/-- cells laid over a list -/
def over {α : Type} (l : List α) (off : Nat) (xs : List α) : List α := l.take off ++ xs ++ l.drop (off + xs.length)
def storeAt (σ : Heap) (k off : Nat) (xs : List AVal) : Option Heap :=
  match σ.get k with
  | some (.cells cs opn) => if off + xs.length ≤ cs.length && xs.all AVal.isCell then some (σ.set k (.cells (over cs off xs) opn)) else none
  | some (.tcells T cs) => if off + xs.length ≤ cs.length && xs.all AVal.isCell then some (σ.set k (.tcells T (over cs off xs))) else none
  | _ => none
def aStore (n : Nat) (a x : AVal) (σ : Heap) : Option Heap :=
  match a with
  | .ptr (.new k) off => if x.cells.length = n && !x.isRaw then storeAt σ k off x.cells else none
  | _ => none

def aFill : List AVal → List (Nat × Nat × AVal) → Option (List AVal)
  | cs, [] => some cs
  | cs, (off, size, v) :: rest =>
    if v.cells.length = size && off + size ≤ cs.length && !v.isRaw then aFill (over cs off v.cells) rest else none

def aPart (n : Option Nat) (cs : List AVal) (off : Nat) : Option AVal :=
  match n with
  | none => cs[off]?
  | some n => if off + n ≤ cs.length then some (.agg ((cs.drop off).take n)) else none

def aIdx (k : Nat) (x i : AVal) : Option AVal :=
  match x, i with
  | .slc b off len _, .int _ j => if 0 ≤ j && j < len then some (.ptr b (off + j.toNat * k)) else none
  | .fsl k' els, .int _ j => if k' = k && decide (0 ≤ j) then (els[j.toNat]?).map fun e => .fptr e.cells else none
  | _, _ => none
def aIdxR (n k : Nat) (x i : AVal) : Option AVal :=
  match x, i with
  | .ptr b off, .int _ j => if 0 ≤ j && j < n then some (.ptr b (off + j.toNat * k)) else none
  | _, _ => none
def aIdxS (x i : AVal) : Option AVal :=
  match x, i with
  | .str s, .int _ j => if 0 ≤ j then (s[j.toNat]?).map fun b => .int .u8 b.toNat else none
  | _, _ => none
def aIdxG (n k : Nat) (agg : Bool) (x i : AVal) : Option AVal :=
  match x, i with
  | .agg cs, .int _ j => if 0 ≤ j && j < n then aPart (if agg then some k else none) cs (j.toNat * k) else none
  | _, _ => none

def aBound (x : Option AVal) (d y : Nat) : Option Nat :=
  match x with
  | none => some d
  | some (.int _ i) => if 0 ≤ i && i ≤ y then some i.toNat else none
  | _ => none
/-- s[lo:hi:mx] of a slice -/
def aSlc (k : Nat) (x : AVal) (lo hi mx : Option AVal) : Option AVal :=
  match x with
  | .nils => match aBound mx 0 0, aBound hi 0 0, aBound lo 0 0 with
    | some _, some _, some _ => if mx.isSome && hi.isNone then none else some .nils
    | _, _, _ => none
  | .slc b off len (.ex c) =>
    if mx.isSome && hi.isNone then none else
    match aBound mx c c with
    | some m => match aBound hi len m with
      | some h => match aBound lo 0 h with
        | some l => some (.slc b (if m = l then off else off + l * k) (h - l) (.ex (m - l)))
        | none => none
      | none => none
    | none => none
  | .slc b off len (.gr k') =>
    if k' ≠ k then none else
    match mx with
    | some m => if hi.isNone then none else match aBound (some m) len len with
      | some m => match aBound hi len m with
        | some h => match aBound lo 0 h with
          | some l => some (.slc b (if m = l then off else off + l * k) (h - l) (.ex (m - l)))
          | none => none
        | none => none
      | none => none
    | none => match aBound hi len len with
      | some h => match aBound lo 0 h with
        | some l => if l = 0 then some (.slc b off h (.gr k)) else if l < len then some (.slc b (off + l * k) (h - l) (.gr k)) else some .emp
        | none => none
      | none => none
  | .fsl k' els =>
    if k' ≠ k || (mx.isSome && hi.isNone) then none else
    match aBound mx els.length els.length with
    | some m => match aBound hi els.length m with
      | some h => match aBound lo 0 h with
        | some l => if mx.isSome && m = 0 then some .emp0 else some (.fsl k ((els.take h).drop l))
        | none => none
      | none => none
    | none => none
  | _ => none
def aSlcS (x : AVal) (lo hi : Option AVal) : Option AVal :=
  match x with
  | .str s => match aBound hi s.length s.length with
    | some h => match aBound lo 0 h with
      | some l => some (.str ((s.take h).drop l))
      | none => none
    | none => none
  | _ => none
def aSlcR (n k : Nat) (x : AVal) (lo hi mx : Option AVal) : Option AVal :=
  match x with
  | .ptr b off =>
    if mx.isSome && hi.isNone then none else
    match aBound mx n n with
    | some m => match aBound hi n m with
      | some h => match aBound lo 0 h with
        | some l => some (.slc b (if m = l then off else off + l * k) (h - l) (.ex (m - l)))
        | none => none
      | none => none
    | none => none
  | _ => none
def aLen : AVal → Option AVal
  | .nils => some (.int .i64 0)
  | .emp => some (.int .i64 0)
  | .emp0 => some (.int .i64 0)
  | .slc _ _ len _ => some (.int .i64 len)
  | .fsl _ els => some (.int .i64 els.length)
  | _ => none
def aLenS : AVal → Option AVal
  | .str s => some (.int .i64 s.length)
  | _ => none
def aMax2 : AVal → AVal → Option AVal
  | .int k x, .int k' y => if k = k' then some (.int k (if y > x then y else x)) else none
  | _, _ => none
def aMin2 : AVal → AVal → Option AVal
  | .int k x, .int k' y => if k = k' then some (.int k (if y < x then y else x)) else none
  | _, _ => none
def foldO (f : AVal → AVal → Option AVal) : AVal → List AVal → Option AVal
  | x, [] => some x
  | x, y :: l => match f x y with
    | some z => foldO f z l
    | none => none

def mapFind (n : Int) : List (Int × AVal) → Option AVal
  | [] => none
  | (m, a) :: l => if m = n then some a else mapFind n l
def mapPut (n : Int) (a : AVal) : List (Int × AVal) → List (Int × AVal)
  | [] => [(n, a)]
  | (m, b) :: l => if m = n then (n, a) :: l else if n < m then (n, a) :: (m, b) :: l else (m, b) :: mapPut n a l
def mapDel (n : Int) : List (Int × AVal) → List (Int × AVal)
  | [] => []
  | (m, b) :: l => if m = n then l else (m, b) :: mapDel n l
def aLook (zero : AVal) (ok : Bool) (x k : AVal) (σ : Heap) : Option AVal :=
  match k with
  | .int .i64 n => match (match x with
      | .nilm => some []
      | .mp (.new m) => match σ.get m with
        | some (.map es) => some es
        | _ => none
      | _ => none) with
    | some es => match mapFind n es with
      | some a => some (if ok then .tup [a, .bool true] else a)
      | none => some (if ok then .tup [zero, .bool false] else zero)
    | none => none
  | _ => none
def aLenM (x : AVal) (σ : Heap) : Option AVal :=
  match x with
  | .nilm => some (.int .i64 0)
  | .mp (.new m) => match σ.get m with
    | some (.map es) => some (.int .i64 es.length)
    | _ => none
  | _ => none

def asByte : AVal → Option UInt8
  | .int .u8 n => some (UInt8.ofNat n.toNat)
  | _ => none
def asBytes : List AVal → Option (List UInt8)
  | [] => some []
  | a :: l => match asByte a, asBytes l with
    | some b, some bs => some (b :: bs)
    | _, _ => none
/-- the cells of a slice's first n elements -/
def slcCells (σ : Heap) (k n : Nat) (x : AVal) : Option (List AVal) :=
  match x with
  | .nils => if n = 0 then some [] else none
  | .emp => if n = 0 then some [] else none
  | .emp0 => if n = 0 then some [] else none
  | .slc i off len _ => if n ≤ len then cellsFrom σ i off (n * k) else none
  | .fsl k' els => if k' = k && n ≤ els.length then some ((els.take n).flatMap AVal.cells) else none
  | _ => none
def aBstr (x : AVal) (σ : Heap) : Option AVal :=
  match x with
  | .nils => some (.str [])
  | .slc _ _ len _ => match slcCells σ 1 len x with
    | some cs => (asBytes cs).map .str
    | none => none
  | .fsl k els => if k = 1 then (asBytes (els.flatMap AVal.cells)).map .str else none
  | _ => none
def byteCells (s : List UInt8) : List AVal := s.map fun b => .int .u8 b.toNat
def repl (n : Nat) (zs : List AVal) : List AVal := (List.replicate n zs).flatten
def aLenOf : AVal → Option Nat
  | .nils => some 0
  | .emp => some 0
  | .emp0 => some 0
  | .slc _ _ len _ => some len
  | .fsl _ els => some els.length
  | .str s => some s.length
  | _ => none
/-- the cells of what is appended or copied -/
def srcCells (σ : Heap) (k n : Nat) (y : AVal) : Option (List AVal) :=
  match y with
  | .str s => if n ≤ s.length && k = 1 then some (byteCells (s.take n)) else none
  | y => slcCells σ k n y

def maxRoom : Nat := 2 ^ 36
/-- append(x, y...) -/
def aApp (e : TypeId) (k bytes : Nat) (x y : AVal) (σ : Heap) : Option (AVal × Heap) :=
  match aLenOf y with
  | none => none
  | some m =>
    match srcCells σ k m y with
    | none => none
    | some ys =>
      if !(ys.all AVal.isCell) || bytes = 0 || k = 0 then none else
      match x with
      | .nils => if m = 0 then some (.nils, σ) else
        if m * bytes ≤ maxRoom then some (.slc (.new σ.next) 0 m (.gr k), σ.new (.cells ys (some e))) else none
      | .emp0 => if m = 0 then some (.emp0, σ) else
        if m * bytes ≤ maxRoom then some (.slc (.new σ.next) 0 m (.gr k), σ.new (.cells ys (some e))) else none
      | .fsl k' els => if m = 0 then some (.fsl k' els, σ) else none
      | .slc i off len (.ex c) =>
        if len + m ≤ c then
          if m = 0 then some (x, σ) else
          match i with
          | .new b => (storeAt σ b (off + len * k) ys).map fun σ' => (.slc i off (len + m) (.ex c), σ')
          | .old _ => none
        else if (len + m) * bytes ≤ maxRoom then
          match cellsFrom σ i off (len * k) with
          | some xs => some (.slc (.new σ.next) 0 (len + m) (.gr k), σ.new (.cells (xs ++ ys) (some e)))
          | none => none
        else none
      | .slc (.new b) off len (.gr k') =>
        if m = 0 then some (x, σ) else
        if k' = k && (len + m) * bytes ≤ maxRoom then
          match σ.get b, cellsFrom σ (.new b) off (len * k) with
          | some (.cells cs (some e')), some xs =>
            if off = 0 && cs.length = len * k && decide (e' = e) then some (.slc (.new σ.next) 0 (len + m) (.gr k), (σ.set b .dead).new (.cells (xs ++ ys) (some e))) else none
          | _, _ => none
        else none
      | _ => none
def aSLen : AVal → Option Nat
  | .nils => some 0
  | .emp => some 0
  | .slc _ _ len _ => some len
  | _ => none
def aCopy (k : Nat) (x y : AVal) (σ : Heap) : Option (AVal × Heap) :=
  match aSLen x, aLenOf y with
  | some d, some s =>
    match srcCells σ k (min s d) y with
    | some ys => if min s d = 0 then some (.int .i64 0, σ) else
      match x with
      | .slc (.new b) off _ _ => (storeAt σ b off ys).map fun σ' => (.int .i64 (min s d : Nat), σ')
      | _ => none
    | none => none
  | _, _ => none
def aNext (x : AVal) (σ : Heap) : Option (AVal × Heap) :=
  match x with
  | .ptr (.new k) 0 => match σ.get k with
    | some (.iter s pos) =>
      if pos < s.length then
        let (c, width) := Utf8.decode ⟨s.toArray⟩ pos
        some (.tup [.bool true, .int .i64 pos, .int .i32 c], σ.set k (.iter s (pos + width)))
      else some (.tup [.bool false], σ)
    | _ => none
  | _ => none

def evs (fr : Frame) (l : List Opd) : List AVal := l.map (Opd.ev fr)
def evO (fr : Frame) (x : Option Opd) : Option AVal := x.map (Opd.ev fr)
def evParts (fr : Frame) (l : List (Nat × Nat × Opd)) : List (Nat × Nat × AVal) := l.map fun (a, b, x) => (a, b, x.ev fr)

/-! ### Equal values, by a test -/
def AVal.same0 : AVal → AVal → Bool
  | .bool a, .bool b => a == b
  | .int k a, .int k' b => decide (k = k') && decide (a = b)
  | .str s, .str t => s == t
  | .nilp, .nilp => true
  | .ptr i o, .ptr j p => decide (i = j) && o == p
  | .nils, .nils => true
  | .slc i a b c, .slc i' a' b' c' => decide (i = i') && a == a' && b == b' && decide (c = c')
  | .emp, .emp => true
  | .nilm, .nilm => true
  | .mp i, .mp j => decide (i = j)
  | .nilf, .nilf => true
  | .fn f l, .fn g m => decide (f = g) && l.isEmpty && m.isEmpty
  | _, _ => false
def sames0 : List AVal → List AVal → Bool
  | [], [] => true
  | a :: l, b :: m => a.same0 b && sames0 l m
  | _, _ => false
def AVal.same : AVal → AVal → Bool
  | .agg l, .agg m => sames0 l m
  | .tup l, .tup m => sames0 l m
  | a, b => a.same0 b
theorem AVal.same0_eq {a b : AVal} (h : a.same0 b = true) : a = b := by
  unfold AVal.same0 at h
  split at h <;> simp only [Bool.and_eq_true, beq_iff_eq, decide_eq_true_eq, List.isEmpty_iff, reduceCtorEq, Bool.false_eq_true] at h <;> first | rfl | skip
  · rw [h]
  · rw [h.1, h.2]
  · rw [h]
  · rw [h.1, h.2]
  · obtain ⟨⟨⟨h1, h2⟩, h3⟩, h4⟩ := h; rw [h1, h2, h3, h4]
  · rw [h]
  · obtain ⟨⟨h1, h2⟩, h3⟩ := h; rw [h1, h2, h3]
theorem sames0_eq : ∀ {l m : List AVal}, sames0 l m = true → l = m
  | [], [], _ => rfl
  | a :: l, b :: m, h => by
    simp only [sames0, Bool.and_eq_true] at h
    rw [AVal.same0_eq h.1, sames0_eq h.2]
  | [], _ :: _, h => by simp [sames0] at h
  | _ :: _, [], h => by simp [sames0] at h
theorem AVal.same_eq {a b : AVal} (h : a.same b = true) : a = b := by
  unfold AVal.same at h
  split at h
  · rw [sames0_eq h]
  · rw [sames0_eq h]
  · exact AVal.same0_eq h

/-- an operation but a call -/
def aop (o : SOp) (fr : Frame) (σ : Heap) : Option (AVal × Heap) :=
  let p (v : Option AVal) : Option (AVal × Heap) := v.map fun v => (v, σ)
  match o with
  | .lay k zs => match σ.get k with
    | some (.cells cs none) => if sames0 cs zs then some (.ptr (.new k) 0, σ) else none
    | _ => none
  | .layB q k zs len parts => match σ.get q with
    | some (.cells cs none) => match aFill (repl len zs) (evParts fr parts) with
      | some cs' => if sames0 cs cs' && decide (cs'.length = len * k) then some (.slc (.new q) 0 len (.ex len), σ) else none
      | none => none
    | _ => none
  | .mv x => some (x.ev fr, σ)
  | .pick c a b => match c.ev fr with
    | .bool true => some (a.ev fr, σ)
    | .bool false => some (b.ev fr, σ)
    | _ => none
  | .nilc x => match x.ev fr with
    | .ptr i off => some (.ptr i off, σ)
    | .fn f c => some (.fn f c, σ)
    | .mp i => some (.mp i, σ)
    | .nilm => some (.nilm, σ)
    | .fptr cs => some (.fptr cs, σ)
    | _ => none
  | .bin op e x y => p (aBin op e (x.ev fr) (y.ev fr))
  | .not x => match x.ev fr with
    | .bool b => some (.bool (!b), σ)
    | _ => none
  | .neg x => match x.ev fr with
    | .int k n => some (.int k (k.wrap (0 - n)), σ)
    | _ => none
  | .cint k x => match x.ev fr with
    | .int _ n => some (.int k (k.wrap n), σ)
    | _ => none
  | .cstr x => match x.ev fr with
    | .int _ n => some (.str (Utf8.encode n).data.toList, σ)
    | .str s => some (.str s, σ)
    | _ => none
  | .mkfn f caps => some (.fn f (evs fr caps), σ)
  | .fld n off x => match x.ev fr with
    | .agg cs => p (aPart n cs off)
    | _ => none
  | .fldA off x => match x.ev fr with
    | .ptr i o => some (.ptr i (o + off), σ)
    | .fptr cs => some (.fptr (cs.drop off), σ)
    | _ => none
  | .idxA k x i => p (aIdx k (x.ev fr) (i.ev fr))
  | .idxR n k x i => p (aIdxR n k (x.ev fr) (i.ev fr))
  | .idxS x i => p (aIdxS (x.ev fr) (i.ev fr))
  | .idxG n k agg x i => p (aIdxG n k agg (x.ev fr) (i.ev fr))
  | .build zero parts => p ((aFill zero (evParts fr parts)).map .agg)
  | .ext x i => match x.ev fr with
    | .tup l => p (l[i]?)
    | _ => none
  | .len x => p (aLen (x.ev fr))
  | .lenS x => p (aLenS (x.ev fr))
  | .lenC n => some (.int .i64 n, σ)
  | .slc k x lo hi mx => p (aSlc k (x.ev fr) (evO fr lo) (evO fr hi) (evO fr mx))
  | .slcS x lo hi => p (aSlcS (x.ev fr) (evO fr lo) (evO fr hi))
  | .slcR n k x lo hi mx => p (aSlcR n k (x.ev fr) (evO fr lo) (evO fr hi) (evO fr mx))
  | .maxs x l => p (foldO aMax2 (x.ev fr) (evs fr l))
  | .mins x l => p (foldO aMin2 (x.ev fr) (evs fr l))
  | .load n x => p (aLoad n (x.ev fr) σ)
  | .look zero ok x k => p (aLook zero ok (x.ev fr) (k.ev fr) σ)
  | .lenM x => p (aLenM (x.ev fr) σ)
  | .bstr x => p (aBstr (x.ev fr) σ)
  | .alloc zs => some (.ptr (.new σ.next) 0, σ.new (.cells zs none))
  | .allocT T zs => some (.ptr (.new σ.next) 0, σ.new (.tcells T zs))
  | .box x => if (x.ev fr).isRaw then none else some (.ptr (.new σ.next) 0, σ.new (.cells (x.ev fr).cells none))
  | .bslc k zs len parts => match aFill (repl len zs) (evParts fr parts) with
    | some cs => if cs.length = len * k then some (.slc (.new σ.next) 0 len (.ex len), σ.new (.cells cs none)) else none
    | none => none
  | .mslc k bytes zs l c => match l.ev fr, c.ev fr with
    | .int .i64 l, .int .i64 c =>
      if 0 ≤ l && l ≤ c && c.toNat * bytes ≤ maxRoom && c ≤ 2 ^ 62 && zs.length = k then
        some (.slc (.new σ.next) 0 l.toNat (.ex c.toNat), σ.new (.cells (repl c.toNat zs) none))
      else none
    | _, _ => none
  | .mmap => some (.mp (.new σ.next), σ.new (.map []))
  | .iter x => match x.ev fr with
    | .str s => some (.ptr (.new σ.next) 0, σ.new (.iter s 0))
    | _ => none
  | .bytes e x => match x.ev fr with
    | .str s => if s.length ≤ maxRoom then some (.slc (.new σ.next) 0 s.length (.gr 1), σ.new (.cells (byteCells s) (some e))) else none
    | _ => none
  | .store n a x => (aStore n (a.ev fr) (x.ev fr) σ).map fun σ' => (.undef, σ')
  | .app e k bytes x y => aApp e k bytes (x.ev fr) (y.ev fr) σ
  | .copy k x y => aCopy k (x.ev fr) (y.ev fr) σ
  | .mapUp m k v => match m.ev fr, k.ev fr with
    | .mp (.new b), .int .i64 n => match σ.get b with
      | some (.map es) => some (.undef, σ.set b (.map (mapPut n (v.ev fr) es)))
      | _ => none
    | _, _ => none
  | .del m k => match m.ev fr, k.ev fr with
    | .mp (.new b), .int .i64 n => match σ.get b with
      | some (.map es) => some (.undef, σ.set b (.map (mapDel n es)))
      | _ => none
    | _, _ => none
  | .clr k zs x => match x.ev fr with
    | .nils => some (.undef, σ)
    | .emp => some (.undef, σ)
    | .slc (.new b) off len _ => if zs.length = k then (storeAt σ b off (repl len zs)).map fun σ' => (.undef, σ') else none
    | _ => none
  | .next x => aNext (x.ev fr) σ
  | .call _ _ => none

/-! ### What is known of a real frame -/
structure FR (φ : Phi) (n : Nat) (fr : Frame) (a : Act) : Prop where
  size : a.tmps.size = n
  tmps : ∀ t, t < n → VR φ (fr.get t) (a.tmps.getD t Go.undef)
  defers : a.defers = []
theorem FR.mono {φ φ' : Phi} {n : Nat} {fr : Frame} {a : Act} (h : φ.le φ') (hf : FR φ n fr a) : FR φ' n fr a :=
  ⟨hf.size, fun t ht => (hf.tmps t ht).mono h, hf.defers⟩
theorem VR.undef (φ : Phi) : VR φ .undef Go.undef := by
  have := VR.tup (φ := φ) (l := []) (vs := []) .nil
  exact this
theorem FR.put {φ : Phi} {n : Nat} {fr : Frame} {a : Act} (hf : FR φ n fr a) {t : Option Nat} {x : AVal} {v : Value} (hv : VR φ x v) :
    FR φ n (fr.putO t x) (a.put t v) := by
  cases t with
  | none => exact hf
  | some t =>
    refine ⟨by simp [Act.put, hf.size], ?_, hf.defers⟩
    intro s hs
    simp only [Frame.putO, Frame.get_put, Act.put]
    by_cases e : t = s
    · subst e
      rw [if_pos rfl]
      have : t < a.tmps.size := by rw [hf.size]; exact hs
      simpa [Array.getD_eq_getD_getElem?, this] using hv
    · rw [if_neg e]
      have := hf.tmps s hs
      simpa [Array.getD_eq_getD_getElem?, Array.getElem?_setIfInBounds_ne e] using this

end Go.Mini
set_option linter.unusedVariables false
set_option linter.unusedSimpArgs false
namespace Go.Mini
open Go

/-- plain values: one level of agg or tuple -/
def ofVal1 : Value → AVal
  | .agg cs => .agg (cs.toList.map ofVal)
  | .tuple cs => .tup (cs.toList.map ofVal)
  | .nilFunc => .nilf
  | .map none => .nilm
  | v => ofVal v
theorem VRs.ofVal (φ : Phi) : ∀ l : List Value, VRs φ (l.map Mini.ofVal) l
  | [] => .nil
  | v :: l => .cons (ofVal_VR φ v) (VRs.ofVal φ l)
theorem ofVal1_VR (φ : Phi) (v : Value) : VR φ (ofVal1 v) v := by
  unfold ofVal1
  split
  · have := VR.agg (VRs.ofVal φ (Array.toList ‹_›)); simpa using this
  · have := VR.tup (VRs.ofVal φ (Array.toList ‹_›)); simpa using this
  · exact .nilf
  · exact .nilm
  · exact ofVal_VR φ _

theorem Rel.congr {φ : Phi} {σ τ : Heap} {w : World} (hr : Rel φ σ w) (hW : τ.W = σ.W) (hF : τ.F0 = σ.F0) (hn : τ.next = σ.next) (hg : ∀ k, τ.get k = σ.get k) : Rel φ τ w := by
  have hl : ∀ k, τ.live k → σ.live k := fun k ⟨b, hb, hd⟩ => ⟨b, by rw [← hg]; exact hb, hd⟩
  constructor
  · rw [hW]; exact hr.size
  · rw [hW]; exact hr.old
  · intro k b sz e
    obtain ⟨h1, o, ho, h2⟩ := hr.new k b sz e
    rw [hW]
    exact ⟨h1, o, ho, fun blk hb => h2 blk (by rw [← hg]; exact hb)⟩
  · exact fun k k' b sz sz' e e' hk hk' => hr.inj k k' b sz sz' e e' (hl k hk) (hl k' hk')
  · rw [hn]; exact hr.fresh
  · rw [hn]; exact hr.resv
  · rw [hW]; exact hr.tape
  · rw [hW]; exact hr.os
  · rw [hW]; exact hr.output
  · exact hr.frz
  · exact fun k b sz j e h => hr.apart k b sz j e (hl k h)
  · rw [hW, hF]; exact hr.base
  · rw [hW, hF]; exact hr.drawn

section
variable {P : Program} {φ : Phi} {σ : Heap} {w : World}

theorem loadCells_ok (hr : Rel φ σ w) {i : Id} {b : Nat} (hi : i.real φ = some b) : ∀ (n off o j : Nat) (l : List AVal) (acc : Array Value), cellsFrom σ i off n = some l → off = o + j →
    ∃ vs : List Value, (loadCellsFrom ⟨b, o, none⟩ j n acc).run P w = .ok (acc ++ vs.toArray) w ∧ VRs φ l vs := by
  intro n
  induction n with
  | zero =>
    intro off o j l acc h e
    simp only [cellsFrom, Option.some.injEq] at h
    subst h
    exact ⟨[], by simp [loadCellsFrom], .nil⟩
  | succ n ih =>
    intro off o j l acc h e
    simp only [cellsFrom] at h
    split at h
    · rename_i a l' ha hl
      simp only [Option.some.injEq] at h
      subst h
      obtain ⟨v, hv, hvr⟩ := hr.cell ha hi
      obtain ⟨vs, hvs, hvrs⟩ := ih (off + 1) o (j + 1) l' (acc.push v) hl (by omega)
      refine ⟨v :: vs, ?_, .cons hvr hvrs⟩
      have hadd : (⟨b, o, none⟩ : Addr).add j = ⟨b, o + j, none⟩ := Addr.add_lit b o j
      simp only [loadCellsFrom, Sem.run_bind, run_load, hadd, ← e, hv, Result.andThen_ok, hvs]
      simp
    · cases h

/-- cells that never change are read -/
theorem loadF_ok (hr : Rel φ σ w) : ∀ (vs : List Value) (b o j : Nat) (acc : Array Value), (∀ i v, vs[i]? = some v → φ.F b (o + (j + i)) = some v) →
    (loadCellsFrom ⟨b, o, none⟩ j vs.length acc).run P w = .ok (acc ++ vs.toArray) w
  | [], b, o, j, acc, h => by simp [loadCellsFrom]
  | v :: vs, b, o, j, acc, h => by
    have h0 := hr.frz _ _ _ (h 0 v rfl)
    have hadd : (⟨b, o, none⟩ : Addr).add j = ⟨b, o + j, none⟩ := Addr.add_lit b o j
    have ih := loadF_ok hr vs b o (j + 1) (acc.push v) (fun i u e => by
      have := h (i + 1) u (by simpa using e)
      rwa [show j + 1 + i = j + (i + 1) by omega])
    simp only [Nat.add_zero] at h0
    simp only [List.length_cons, loadCellsFrom, Sem.run_bind, run_load, hadd, h0, Result.andThen_ok, ih]
    simp
theorem loadF_none {t : TypeId} {d : TypeDesc} (hu : P.underlying t = some d) (hd : (match d with | .struct _ | .array _ _ => true | _ => false) = false)
    (hr : Rel φ σ w) {b off : Nat} {v : Value} (h : φ.F b off = some v) : (loadVar t ⟨b, off, none⟩).run P w = .ok v w := by
  have hv := hr.frz _ _ _ h
  have : (isAgg t).run P w = .ok false w := by
    simp only [isAgg, Sem.run_bind, run_underlying hu, Result.andThen_ok]
    cases d <;> simp_all
  simp [loadVar, this, hv]
theorem loadF_some {t : TypeId} {d : TypeDesc} {ti : TypeInfo} (hu : P.underlying t = some d) (hd : (match d with | .struct _ | .array _ _ => true | _ => false) = true) (hti : P.info? t = some ti)
    (hr : Rel φ σ w) {b off : Nat} {vs : List Value} (hl : vs.length = ti.size) (h : φ.holds b off vs) : (loadVar t ⟨b, off, none⟩).run P w = .ok (.agg vs.toArray) w := by
  have hvs := loadF_ok (P := P) hr vs b off 0 #[] (fun i v e => by rw [Nat.zero_add]; exact h i v e)
  have h1 : (isAgg t).run P w = .ok true w := by
    simp only [isAgg, Sem.run_bind, run_underlying hu, Result.andThen_ok]
    cases d <;> simp_all
  have h2 : (sizeOf t).run P w = .ok ti.size w := by simp [sizeOf, typeInfo, hti]
  simp [loadVar, h1, h2, loadCells, ← hl, hvs]

theorem loadVar_none {t : TypeId} {d : TypeDesc} (hu : P.underlying t = some d) (hd : (match d with | .struct _ | .array _ _ => true | _ => false) = false)
    (hr : Rel φ σ w) {i : Id} {b off : Nat} {a : AVal} (hi : i.real φ = some b) (h : σ.cell i off = some a) :
    ∃ v, (loadVar t ⟨b, off, none⟩).run P w = .ok v w ∧ VR φ a v := by
  obtain ⟨v, hv, hvr⟩ := hr.cell h hi
  refine ⟨v, ?_, hvr⟩
  have : (isAgg t).run P w = .ok false w := by
    simp only [isAgg, Sem.run_bind, run_underlying hu, Result.andThen_ok]
    cases d <;> simp_all
  simp [loadVar, this, hv]

theorem loadVar_some {t : TypeId} {d : TypeDesc} {ti : TypeInfo} (hu : P.underlying t = some d) (hd : (match d with | .struct _ | .array _ _ => true | _ => false) = true) (hti : P.info? t = some ti)
    (hr : Rel φ σ w) {i : Id} {b off : Nat} {l : List AVal} (hi : i.real φ = some b) (h : cellsFrom σ i off ti.size = some l) :
    ∃ v, (loadVar t ⟨b, off, none⟩).run P w = .ok v w ∧ VR φ (.agg l) v := by
  obtain ⟨vs, hvs, hvrs⟩ := loadCells_ok (P := P) hr hi ti.size off off 0 l #[] h (by omega)
  refine ⟨.agg vs.toArray, ?_, .agg hvrs⟩
  have h1 : (isAgg t).run P w = .ok true w := by
    simp only [isAgg, Sem.run_bind, run_underlying hu, Result.andThen_ok]
    cases d <;> simp_all
  have h2 : (sizeOf t).run P w = .ok ti.size w := by simp [sizeOf, typeInfo, hti]
  simp [loadVar, h1, h2, loadCells, hvs]

theorem VR.cells {a : AVal} {v : Value} (h : VR φ a v) (hn : a.isRaw = false) : VRs φ a.cells v.cells.toList := by
  cases h with
  | agg h => simpa [AVal.cells, Value.cells] using h
  | raw v => simp [AVal.isRaw] at hn
  | bool b => exact .cons (.bool b) .nil
  | int k n => exact .cons (.int k n) .nil
  | str s => exact .cons (.str s) .nil
  | nilp => exact .cons .nilp .nil
  | ptr off e => exact .cons (.ptr off e) .nil
  | nils => exact .cons .nils .nil
  | slcE off len c e => exact .cons (.slcE off len c e) .nil
  | slcG off len c e1 e2 e3 => exact .cons (.slcG off len c e1 e2 e3) .nil
  | emp a c => exact .cons (.emp a c) .nil
  | nilm => exact .cons .nilm .nil
  | mp e => exact .cons (.mp e) .nil
  | nilf => exact .cons .nilf .nil
  | fn f e => exact .cons (.fn f e) .nil
  | tup e => exact .cons (.tup e) .nil
  | fsl c h1 h2 h3 h4 => exact .cons (.fsl c h1 h2 h3 h4) .nil
  | fslN k a c h => exact .cons (.fslN k a c h) .nil
  | fptr h1 h2 => exact .cons (.fptr h1 h2) .nil
  | emp0 a => exact .cons (.emp0 a) .nil
theorem VR.oneCell {a : AVal} {v : Value} (h : VR φ a v) (hn : a.isCell = true) : v.oneCell' = true := by
  cases h <;> simp_all [AVal.isCell, Value.oneCell']

theorem over_nil {α : Type} (l : List α) (off : Nat) : over l off ([] : List α) = l := by simp [over]
theorem over_length {α : Type} (l xs : List α) (off : Nat) (h : off + xs.length ≤ l.length) : (over l off xs).length = l.length := by
  simp [over]; omega
theorem over_get {α : Type} (l xs : List α) (off j : Nat) (h : off + xs.length ≤ l.length) : (over l off xs)[j]? = if off ≤ j ∧ j < off + xs.length then xs[j - off]? else l[j]? := by
  have ht : (List.take off l).length = off := by simp; omega
  unfold over
  rw [List.append_assoc]
  by_cases h1 : j < off
  · rw [List.getElem?_append_left (by omega), if_neg (by omega), List.getElem?_take, if_pos h1]
  · rw [List.getElem?_append_right (by omega), ht]
    by_cases h2 : j < off + xs.length
    · rw [List.getElem?_append_left (by omega), if_pos (by omega)]
    · rw [List.getElem?_append_right (by omega), if_neg (by omega), List.getElem?_drop]
      congr 1; omega
theorem over_cons {α : Type} (l xs : List α) (off : Nat) (x : α) (h : off + (xs.length + 1) ≤ l.length) : over (l.set off x) (off + 1) xs = over l off (x :: xs) := by
  apply List.ext_getElem?
  intro j
  rw [over_get _ _ _ _ (by simp; omega), over_get _ _ _ _ (by simp; omega)]
  simp only [List.length_cons]
  by_cases h2 : j = off
  · subst h2
    rw [if_neg (by omega), if_pos (by omega), List.getElem?_set_self (by omega)]
    simp
  · rw [List.getElem?_set_ne (fun e => h2 e.symm)]
    by_cases h3 : off + 1 ≤ j ∧ j < off + 1 + xs.length
    · rw [if_pos h3, if_pos (by omega)]
      have : j - off = (j - (off + 1)) + 1 := by omega
      rw [this]; simp
    · rw [if_neg h3, if_neg (by omega)]

theorem storeCells_ok : ∀ (xs : List AVal) (vs : List Value) (σ : Heap) (w : World) (k b sz off o j : Nat) (cs : List AVal) (opn : Option TypeId), VRs φ xs vs → Rel φ σ w → φ k = some (b, sz) →
    σ.get k = some (.cells cs opn) → off = o + j → off + xs.length ≤ cs.length → xs.all AVal.isCell = true →
    ∃ w', (storeCells ⟨b, o, none⟩ vs j).run P w = .ok () w' ∧ Rel φ (σ.set k (.cells (over cs off xs) opn)) w' := by
  intro xs
  induction xs with
  | nil =>
    intro vs σ w k b sz off o j cs opn hv hr hk hg e hl hc
    cases hv
    refine ⟨w, by simp [storeCells], hr.congr rfl rfl rfl ?_⟩
    intro m
    rw [Heap.get_set, over_nil]
    split
    · rename_i h; subst h; exact hg.symm
    · rfl
  | cons x xs ih =>
    intro vs σ w k b sz off o j cs opn hv hr hk hg e hl hc
    cases hv with
    | @cons _ v _ vs h1 h2 =>
      simp only [List.length_cons] at hl
      simp only [List.all_cons, Bool.and_eq_true] at hc
      obtain ⟨⟨u, hu⟩, hf, hr'⟩ := hr.store (off := off) hk hg (by omega) h1
      have hadd : (⟨b, o, none⟩ : Addr).add j = ⟨b, off, none⟩ := by rw [e]; exact Addr.add_lit b o j
      obtain ⟨w', hw', hr''⟩ := ih vs _ _ k b sz (off + 1) o (j + 1) (cs.set off x) opn h2 hr' hk (by rw [Heap.get_set, if_pos rfl]) (by omega) (by simp; omega) hc.2
      refine ⟨w', ?_, hr''.congr rfl rfl rfl ?_⟩
      · simp only [storeCells, Sem.run_bind, hadd, run_store _ _ _ _ _ (h1.oneCell hc.1), hu, hf]
        simpa using hw'
      · intro m
        simp only [Heap.get_set]
        split
        · rw [over_cons cs xs off x (by omega)]
        · rfl

theorem storeCells_okT : ∀ (xs : List AVal) (vs : List Value) (σ : Heap) (w : World) (k b sz off o j : Nat) (T : TypeId) (cs : List AVal), VRs φ xs vs → Rel φ σ w → φ k = some (b, sz) →
    σ.get k = some (.tcells T cs) → off = o + j → off + xs.length ≤ cs.length → xs.all AVal.isCell = true →
    ∃ w', (storeCells ⟨b, o, none⟩ vs j).run P w = .ok () w' ∧ Rel φ (σ.set k (.tcells T (over cs off xs))) w' := by
  intro xs
  induction xs with
  | nil =>
    intro vs σ w k b sz off o j T cs hv hr hk hg e hl hc
    cases hv
    refine ⟨w, by simp [storeCells], hr.congr rfl rfl rfl ?_⟩
    intro m
    rw [Heap.get_set, over_nil]
    split
    · rename_i h; subst h; exact hg.symm
    · rfl
  | cons x xs ih =>
    intro vs σ w k b sz off o j T cs hv hr hk hg e hl hc
    cases hv with
    | @cons _ v _ vs h1 h2 =>
      simp only [List.length_cons] at hl
      simp only [List.all_cons, Bool.and_eq_true] at hc
      obtain ⟨⟨u, hu⟩, hf, hr'⟩ := hr.storeT (off := off) hk hg (by omega) h1
      have hadd : (⟨b, o, none⟩ : Addr).add j = ⟨b, off, none⟩ := by rw [e]; exact Addr.add_lit b o j
      obtain ⟨w', hw', hr''⟩ := ih vs _ _ k b sz (off + 1) o (j + 1) T (cs.set off x) h2 hr' hk (by rw [Heap.get_set, if_pos rfl]) (by omega) (by simp; omega) hc.2
      refine ⟨w', ?_, hr''.congr rfl rfl rfl ?_⟩
      · simp only [storeCells, Sem.run_bind, hadd, run_store _ _ _ _ _ (h1.oneCell hc.1), hu, hf]
        simpa using hw'
      · intro m
        simp only [Heap.get_set]
        split
        · rw [over_cons cs xs off x (by omega)]
        · rfl
theorem storeAt_ok {σ' : Heap} {k off b sz : Nat} {xs : List AVal} {vs : List Value} (h : storeAt σ k off xs = some σ') (hv : VRs φ xs vs) (hr : Rel φ σ w) (hk : φ k = some (b, sz)) :
    ∃ w', (storeCells ⟨b, off, none⟩ vs 0).run P w = .ok () w' ∧ Rel φ σ' w' := by
  unfold storeAt at h
  split at h
  · rename_i cs opn hg
    split at h
    · rename_i hc
      simp only [Bool.and_eq_true, decide_eq_true_eq] at hc
      simp only [Option.some.injEq] at h
      subst h
      exact storeCells_ok xs vs σ w k b sz off off 0 cs opn hv hr hk hg (by omega) hc.1 hc.2
    · cases h
  · rename_i T cs hg
    split at h
    · rename_i hc
      simp only [Bool.and_eq_true, decide_eq_true_eq] at hc
      simp only [Option.some.injEq] at h
      subst h
      exact storeCells_okT xs vs σ w k b sz off off 0 T cs hv hr hk hg (by omega) hc.1 hc.2
    · cases h
  · cases h

theorem storeAt_eq {σ' : Heap} {k off : Nat} {xs : List AVal} (h : storeAt σ k off xs = some σ') : σ'.W = σ.W ∧ σ'.next = σ.next := by
  unfold storeAt at h
  split at h
  · split at h
    · cases h; exact ⟨rfl, rfl⟩
    · cases h
  · split at h
    · cases h; exact ⟨rfl, rfl⟩
    · cases h
  · cases h

/-! ### Rows of elements -/
theorem flatMap_take {k : Nat} : ∀ (els : List AVal) (m : Nat), (∀ e ∈ els, e.cells.length = k) → m ≤ els.length → (els.take m).flatMap AVal.cells = (els.flatMap AVal.cells).take (m * k) ∧ ((els.take m).flatMap AVal.cells).length = m * k
  | els, 0, _, _ => by simp
  | [], m + 1, _, h => by simp at h
  | e :: els, m + 1, he, h => by
    obtain ⟨h1, h2⟩ := flatMap_take els m (fun x hx => he x (List.mem_cons_of_mem _ hx)) (by simpa using h)
    have h0 := he e (List.mem_cons_self ..)
    have hs : (m + 1) * k = e.cells.length + m * k := by rw [h0, Nat.add_mul]; omega
    constructor
    · rw [List.take_succ_cons, List.flatMap_cons, List.flatMap_cons, h1, hs, List.take_length_add_append]
    · rw [List.take_succ_cons, List.flatMap_cons, List.length_append, h2, hs]
theorem flatMap_drop {k : Nat} : ∀ (els : List AVal) (m : Nat), (∀ e ∈ els, e.cells.length = k) → (els.drop m).flatMap AVal.cells = (els.flatMap AVal.cells).drop (m * k)
  | els, 0, _ => by simp
  | [], m + 1, _ => by simp
  | e :: els, m + 1, he => by
    have h0 := he e (List.mem_cons_self ..)
    have hs : (m + 1) * k = e.cells.length + m * k := by rw [h0, Nat.add_mul]; omega
    rw [List.drop_succ_cons, List.flatMap_cons, flatMap_drop els m (fun x hx => he x (List.mem_cons_of_mem _ hx)), hs, List.drop_length_add_append]
theorem flatMap_get {k : Nat} (els : List AVal) (j : Nat) (he : ∀ e ∈ els, e.cells.length = k) {e : AVal} (hj : els[j]? = some e) : ((els.flatMap AVal.cells).drop (j * k)).take k = e.cells := by
  have hlt := (List.getElem?_eq_some_iff.1 hj).1
  rw [← flatMap_drop els j he, List.drop_eq_getElem_cons hlt, (List.getElem?_eq_some_iff.1 hj).2, List.flatMap_cons]
  have h0 := he e (List.mem_of_getElem? hj)
  rw [← h0, List.take_left]
theorem VRs.flat_len {k : Nat} {els : List AVal} {vs : List Value} (h : VRs φ (els.flatMap AVal.cells) vs) (he : ∀ e ∈ els, e.cells.length = k) : vs.length = els.length * k := by
  have := (flatMap_take els els.length he (Nat.le_refl _)).2
  rw [List.take_length] at this
  rw [← h.length, this]
end
end Go.Mini
set_option linter.unusedVariables false
set_option linter.unusedSimpArgs false
namespace Go.Mini
open Go

inductive Kind where
  | pure | read | eff
  deriving DecidableEq
def SOp.kind : SOp → Kind
  | .load _ _ | .look _ _ _ _ | .lenM _ | .bstr _ | .lay _ _ | .layB _ _ _ _ _ => .read
  | .alloc _ | .allocT _ _ | .box _ | .bslc _ _ _ _ | .mslc _ _ _ _ _ | .mmap | .iter _ | .bytes _ _ | .store _ _ _ | .app _ _ _ _ _ | .copy _ _ _ | .mapUp _ _ _ | .del _ _ | .clr _ _ _ | .next _ | .call _ _ => .eff
  | _ => .pure

def Opd.tmps : Opd → List Nat
  | .tmp t => [t]
  | .lit _ => []
def oTmps (x : Option Opd) : List Nat := match x with
  | some x => x.tmps
  | none => []
def lTmps (l : List Opd) : List Nat := l.flatMap Opd.tmps
def pTmps (l : List (Nat × Nat × Opd)) : List Nat := l.flatMap fun p => p.2.2.tmps
def SOp.tmps : SOp → List Nat
  | .mv x | .nilc x | .not x | .neg x | .cint _ x | .cstr x | .fld _ _ x | .fldA _ x | .ext x _ | .len x | .lenS x | .load _ x | .lenM x | .bstr x | .box x | .iter x | .bytes _ x | .clr _ _ x | .next x => x.tmps
  | .pick c a b => c.tmps ++ a.tmps ++ b.tmps
  | .bin _ _ x y | .idxA _ x y | .idxR _ _ x y | .idxS x y | .idxG _ _ _ x y | .look _ _ x y | .mslc _ _ _ x y | .store _ x y | .app _ _ _ x y | .copy _ x y | .del x y => x.tmps ++ y.tmps
  | .mkfn _ l => lTmps l
  | .build _ p | .bslc _ _ _ p | .layB _ _ _ _ p => pTmps p
  | .lenC _ | .alloc _ | .allocT _ _ | .mmap | .lay _ _ => []
  | .slc _ x lo hi mx | .slcR _ _ x lo hi mx => x.tmps ++ oTmps lo ++ oTmps hi ++ oTmps mx
  | .slcS x lo hi => x.tmps ++ oTmps lo ++ oTmps hi
  | .maxs x l | .mins x l => x.tmps ++ lTmps l
  | .mapUp m k v => m.tmps ++ k.tmps ++ v.tmps
  | .call f l => f.tmps ++ lTmps l
def SOper.looks (o : SOper) : List Nat := o.op.tmps ++ (match o.guard with
  | some (t, _) => [t]
  | none => [])


/-- of each operation, what surely comes ahead of it: a bit for each -/
def ancOf (acc : List Nat) (l : List Nat) : Nat := l.foldl (fun s j => s ||| 2 ^ j ||| acc.getD j 0) 0
def ancsFrom : List Nat → List SOper → List Nat
  | acc, [] => acc
  | acc, o :: os => ancsFrom (acc ++ [ancOf acc o.after]) os
def ancs (ops : List SOper) : List Nat := ancsFrom [] ops
def bef (tab : List Nat) (i j : Nat) : Bool := (tab.getD i 0).testBit j
theorem ancOf_bit (acc : List Nat) : ∀ (l : List Nat) (s i : Nat), (l.foldl (fun s j => s ||| 2 ^ j ||| acc.getD j 0) s).testBit i = true → s.testBit i = true ∨ ∃ j ∈ l, j = i ∨ (acc.getD j 0).testBit i = true
  | [], s, i, h => .inl h
  | j :: l, s, i, h => by
    rcases ancOf_bit acc l _ i h with h | ⟨k, hk, h⟩
    · rw [Nat.testBit_or, Nat.testBit_or, Nat.testBit_two_pow, Bool.or_eq_true, Bool.or_eq_true] at h
      rcases h with (h | h) | h
      · exact .inl h
      · exact .inr ⟨j, List.mem_cons_self .., .inl (by simpa using h)⟩
      · exact .inr ⟨j, List.mem_cons_self .., .inr h⟩
    · exact .inr ⟨k, List.mem_cons_of_mem _ hk, h⟩
def isEff (o : SOp) : Bool := match o.kind with
  | .eff => true
  | _ => false
def meet (t : Option Nat) (l : List Nat) : Bool := match t with
  | some t => l.contains t
  | none => false
def pairOk (tab : List Nat) (i j : Nat) (x y : SOper) : Bool :=
  bef tab i j || !((isEff x.op && isEff y.op) || meet y.dst (x.looks ++ x.dst.toList) || meet x.dst y.looks)
def drawOkFrom (tab : List Nat) (i : Nat) : List SOper → List SOper → Bool
  | _, [] => true
  | past, o :: os => o.after.all (· < i) && ((past.zipIdx).all fun (p, j) => pairOk tab i j o p) && drawOkFrom tab (i + 1) (past ++ [o]) os
def drawOk (ops : List SOper) : Bool := drawOkFrom (ancs ops) 0 [] ops

/-! ### New variables whose ids are kept free -/
def SOp.inst (b : Nat) : SOp → SOp
  | .lay j zs => .lay (b + j) zs
  | .layB j k zs m parts => .layB (b + j) k zs m parts
  | o => o
def instOps (b : Nat) (ops : List SOper) : List SOper := ops.map fun o => { o with op := o.op.inst b }
/-- of each id that is kept free: its cells, if they are known ahead -/
def SOp.laid : SOp → List (Option (List AVal))
  | .lay _ zs => [some zs]
  | .layB _ _ _ _ _ => [none]
  | _ => []
def resvs (ops : List SOper) : List (Option (List AVal)) := ops.flatMap fun o => o.op.laid
def Heap.resv (σ : Heap) : List (List AVal) → Heap
  | [] => σ
  | zs :: l => (σ.new (.cells zs none)).resv l
/-- the same, where some cells aren't known ahead -/
def Heap.resvE : List (Option (List AVal)) → (Heap → Prop) → Heap → Prop
  | [], K, σ => K σ
  | some zs :: l, K, σ => Heap.resvE l K (σ.new (.cells zs none))
  | none :: l, K, σ => ∃ zs, Heap.resvE l K (σ.new (.cells zs none))
theorem resvE_iff : ∀ {l : List (Option (List AVal))} {K : Heap → Prop} {σ : Heap}, Heap.resvE l K σ → ∃ css : List (List AVal), css.length = l.length ∧ K (σ.resv css) ∧ ∀ K' : Heap → Prop, K' (σ.resv css) → Heap.resvE l K' σ
  | [], K, σ, h => ⟨[], rfl, h, fun K' h' => h'⟩
  | some zs :: l, K, σ, h => by
    obtain ⟨css, h1, h2, h3⟩ := resvE_iff (l := l) h
    exact ⟨zs :: css, by simp [h1], h2, fun K' h' => h3 K' h'⟩
  | none :: l, K, σ, h => by
    obtain ⟨zs, h⟩ := h
    obtain ⟨css, h1, h2, h3⟩ := resvE_iff (l := l) h
    exact ⟨zs :: css, by simp [h1], h2, fun K' h' => ⟨zs, h3 K' h'⟩⟩
def layOps : Nat → List SOper → List SOper
  | _, [] => []
  | j, o :: os => match o.op with
    | .alloc zs => { o with op := .lay j zs } :: layOps (j + 1) os
    | .bslc k zs len parts => { o with op := .layB j k zs len parts } :: layOps (j + 1) os
    | _ => o :: layOps j os
theorem resvE_of : ∀ {l : List (Option (List AVal))} {K : Heap → Prop} {σ : Heap}, K (σ.resv (l.map (·.getD []))) → Heap.resvE l K σ
  | [], K, σ, h => h
  | some zs :: l, K, σ, h => resvE_of (l := l) h
  | none :: l, K, σ, h => ⟨[], resvE_of (l := l) h⟩
/-- an operation that makes memory, and the one in its place whose id was kept free -/
def LayOf (y so : SOp) (k : Nat) : Prop := (∃ zs, y = .alloc zs ∧ so = .lay k zs) ∨ ∃ n zs len parts, y = .bslc n zs len parts ∧ so = .layB k n zs len parts
def IsLay (so : SOp) (k : Nat) : Prop := (∃ zs, so = .lay k zs) ∨ ∃ n zs len parts, so = .layB k n zs len parts
theorem LayOf.is {y so : SOp} {k : Nat} (h : LayOf y so k) : IsLay so k := by
  rcases h with ⟨zs, _, h⟩ | ⟨n, zs, len, parts, _, h⟩
  · exact .inl ⟨zs, h⟩
  · exact .inr ⟨n, zs, len, parts, h⟩
theorem IsLay.kind {so : SOp} {k : Nat} (h : IsLay so k) : so.kind = .read := by
  rcases h with ⟨zs, rfl⟩ | ⟨n, zs, len, parts, rfl⟩ <;> rfl
theorem IsLay.one {so : SOp} {k k' : Nat} (h : IsLay so k) (h' : IsLay so k') : k = k' := by
  rcases h with ⟨zs, rfl⟩ | ⟨n, zs, len, parts, rfl⟩ <;> rcases h' with ⟨zs', h'⟩ | ⟨n', zs', len', parts', h'⟩ <;> cases h' <;> rfl
end Go.Mini
set_option linter.unusedVariables false
set_option linter.unusedSimpArgs false
namespace Go.Mini
open Go

def isAggD : TypeDesc → Bool
  | .struct _ | .array _ _ => true
  | _ => false

section
variable (P : Program)
def cSize (t : TypeId) : Option Nat := (P.info? t).map (·.size)
/-- none: one cell; some n: n cells -/
def cAgg (t : TypeId) : Option (Option Nat) :=
  match P.underlying t, P.info? t with
  | some d, some i => some (if isAggD d then some i.size else none)
  | _, _ => none
def cZero (t : TypeId) : Option Value := (P.info? t).bind (·.zero)
def zcells (z : Value) : List AVal := z.cells.toList.map ofVal

def cOpd (n : Nat) : Operand → Option Opd
  | .tmp t => if t < n then some (.tmp t) else none
  | .const v => some (.lit (ofVal1 v))
  | .func f => some (.lit (.fn f []))
  | .global g => some (.lit (.ptr (.old g) 0))
def cOpds (n : Nat) : List Operand → Option (List Opd)
  | [] => some []
  | x :: l => match cOpd n x, cOpds n l with
    | some a, some b => some (a :: b)
    | _, _ => none
def cOpdO (n : Nat) : Option Operand → Option (Option Opd)
  | none => some none
  | some x => (cOpd n x).map some

def fieldK (f : Field) (i : Nat) : Option EqK :=
  if f.name == "_" || f.offset != i then none else match P.underlying f.type with
  | some (.int _) => some .int
  | some .string => some .str
  | some .bool => some .bool
  | _ => none
def flatFields : List Field → Nat → Option (List EqK)
  | [], _ => some []
  | f :: l, i => match fieldK P f i, flatFields l (i + 1) with
    | some k, some r => some (k :: r)
    | _, _ => none
def cEq (t : TypeId) : EqK :=
  match P.underlying t with
  | some (.int _) => .int
  | some .string => .str
  | some .bool => .bool
  | some (.pointer _) => .ptr
  | some (.slice _) => .slc
  | some (.map _ _) => .map
  | some (.func _ _ _) => .fn
  | some (.struct fs) => match flatFields P fs.toList 0 with
    | some ks => if !P.stoodInHeld t && !P.eqGuardType P.depth t then .flat ks else .no
    | none => .no
  | _ => .no

def cParts (n : Nat) (place : Nat → Option (Nat × Nat)) : List (Nat × Operand) → Option (List (Nat × Nat × Opd))
  | [] => some []
  | (i, x) :: l => match place i, cOpd n x, cParts n place l with
    | some (off, size), some a, some r => some ((off, size, a) :: r)
    | _, _, _ => none
def structPlaces : List Field → Option (List (Nat × Nat))
  | [] => some []
  | f :: l => match cSize P f.type, structPlaces l with
    | some s, some r => some ((f.offset, s) :: r)
    | _, _ => none

def cCall (n : Nat) (c : Call) : Option SOp :=
  match c.callee with
  | .value f => match cOpd n f, cOpds n c.args.toList with
    | some f, some l => some (.call f l)
    | _, _ => none
  | .invoke _ _ => none
  | .builtin b => match b, cOpds n c.args.toList, c.argTypes.toList with
    | .len, some [x], [t] => match P.underlying t with
      | some .string => some (.lenS x)
      | some (.slice _) => some (.len x)
      | some (.array k _) => some (.lenC k)
      | some (.map _ _) => some (.lenM x)
      | _ => none
    | .append, some [x, y], [t, u] => match P.underlying t, P.underlying u with
      | some (.slice e), some d => match d, P.info? e with
        | .int _, _ => none
        | _, some i => match i.zero with
          | some z => if z.cells.size = i.size then some (.app e i.size i.bytes x y) else none
          | none => none
        | _, _ => none
      | _, _ => none
    | .copy, some [x, y], [t, _] => match P.underlying t with
      | some (.slice e) => (cSize P e).map fun k => .copy k x y
      | _ => none
    | .delete, some [m, k], [t, _] => match P.underlying t with
      | some (.map kt _) => match P.underlying kt with
        | some (.int .i64) => some (.del m k)
        | _ => none
      | _ => none
    | .clear, some [x], [t] => match P.underlying t with
      | some (.slice e) => match P.info? e with
        | some i => match i.zero with
          | some z => if z.cells.size = i.size then some (.clr i.size (zcells z) x) else none
          | none => none
        | none => none
      | _ => none
    | .max, some (x :: l), _ => some (.maxs x l)
    | .min, some (x :: l), _ => some (.mins x l)
    | _, _, _ => none

/-- a struct that points to itself: strings.Builder -/
def isBld (t : TypeId) : Bool :=
  match P.underlying t with
  | some (.struct fs) => match fs.toList with
    | [f, _] => match P.underlying f.type with
      | some (.pointer e) => decide (e = t)
      | _ => false
    | _ => false
  | _ => false
def cOp (n : Nat) (o : Op) : Option SOp :=
  match o with
  | .move x | .assign x => (cOpd n x).map .mv
  | .pick c a b => match cOpd n c, cOpd n a, cOpd n b with
    | some c, some a, some b => some (.pick c a b)
    | _, _, _ => none
  | .alloc t => (cZero P t).map fun z => if isBld P t then .allocT t (zcells z) else .alloc (zcells z)
  | .box _ x => (cOpd n x).map .box
  | .build t parts => match P.underlying t, cZero P t with
    | some (.struct fs), some z => match structPlaces P fs.toList with
      | some pl => (cParts n (pl[·]?) parts.toList).map fun p => .build (zcells z) p
      | none => none
    | some (.array _ e), some z => match cSize P e with
      | some s => (cParts n (fun i => some (i * s, s)) parts.toList).map fun p => .build (zcells z) p
      | none => none
    | _, _ => none
  | .buildSlice t len parts => match P.underlying t with
    | some (.slice e) => match P.info? e with
      | some i => match i.zero with
        | some z => if z.cells.size = i.size && len * i.size ≤ 2 ^ 24 then (cParts n (fun j => some (j * i.size, i.size)) parts.toList).map fun p => .bslc i.size (zcells z) len p else none
        | none => none
      | none => none
    | _ => none
  | .load t a => match cAgg P t, cOpd n a with
    | some k, some a => some (.load k a)
    | _, _ => none
  | .store t a x => match cSize P t, cOpd n a, cOpd n x with
    | some k, some a, some x => some (.store k a x)
    | _, _, _ => none
  | .nilCheck x => (cOpd n x).map .nilc
  | .binOp op t x y _ => match cOpd n x, cOpd n y with
    | some x, some y => some (.bin op (cEq P t) x y)
    | _, _ => none
  | .unOp .not _ x => (cOpd n x).map .not
  | .unOp .neg _ x => (cOpd n x).map .neg
  | .convert s d x => match P.underlying s, P.underlying d, cOpd n x with
    | some _, some (.int k), some x => some (.cint k x)
    | some (.int _), some .string, some x => some (.cstr x)
    | some .string, some .string, some x => some (.cstr x)
    | some (.slice e), some .string, some x => match P.underlying e with
      | some (.int .u8) => some (.bstr x)
      | _ => none
    | some .string, some (.slice e), some x => match P.underlying e with
      | some (.int .u8) => some (.bytes e x)
      | _ => none
    | _, _, _ => none
  | .makeFunc (.func f) first captured => if first.size = 0 then (cOpds n captured.toList).map (.mkfn f) else none
  | .makeMap t r => match P.underlying t with
    | some (.map k _) => match P.underlying k, r with
      | some (.int .i64), none => some .mmap
      | some (.int .i64), some (.const (.int _ _)) => some .mmap
      | _, _ => none
    | _ => none
  | .makeSlice t l c => match P.underlying t, cOpd n l, cOpd n c with
    | some (.slice e), some l, some c => match P.info? e with
      | some i => match i.zero with
        | some z => if z.cells.size = i.size then some (.mslc i.size i.bytes (zcells z) l c) else none
        | none => none
      | none => none
    | _, _, _ => none
  | .slice t x lo hi mx => match cOpd n x, cOpdO n lo, cOpdO n hi, cOpdO n mx with
    | some x, some lo, some hi, some mx => match P.underlying t with
      | some (.slice e) => (cSize P e).map fun k => .slc k x lo hi mx
      | some .string => if mx.isSome then none else some (.slcS x lo hi)
      | some (.array m e) => (cSize P e).map fun k => .slcR m k x lo hi mx
      | _ => none
    | _, _, _, _ => none
  | .fieldAddr s x f => match P.underlying s, cOpd n x with
    | some (.struct fs), some x => match fs[f]? with
      | some fd => match cSize P fd.type with
        | some 0 => none
        | some _ => some (.fldA fd.offset x)
        | none => none
      | none => none
    | _, _ => none
  | .field t x f => match P.underlying t, cOpd n x with
    | some (.struct fs), some x => match fs[f]? with
      | some fd => (cAgg P fd.type).map fun k => .fld k fd.offset x
      | none => none
    | _, _ => none
  | .indexAddr t x i => match P.underlying t, cOpd n x, cOpd n i with
    | some (.slice e), some x, some i => (cSize P e).map fun k => .idxA k x i
    | some (.array m e), some x, some i => (cSize P e).map fun k => .idxR m k x i
    | _, _, _ => none
  | .index t x i => match P.underlying t, cOpd n x, cOpd n i with
    | some .string, some x, some i => some (.idxS x i)
    | some (.array m e), some x, some i => match cAgg P e, cSize P e with
      | some k, some s => some (.idxG m s k.isSome x i)
      | _, _ => none
    | _, _, _ => none
  | .lookup t x k ok => match P.underlying t, cOpd n x, cOpd n k with
    | some (.map kt e), some x, some k => match P.underlying kt, cZero P e with
      | some (.int .i64), some z => some (.look (ofVal1 z) ok x k)
      | _, _ => none
    | _, _, _ => none
  | .mapUpdate t m k v | .insert t m k v => match P.underlying t, cOpd n m, cOpd n k, cOpd n v with
    | some (.map kt _), some m, some k, some v => match P.underlying kt with
      | some (.int .i64) => some (.mapUp m k v)
      | _ => none
    | _, _, _, _ => none
  | .range t x => match P.underlying t with
    | some .string => (cOpd n x).map .iter
    | _ => none
  | .next x true => (cOpd n x).map .next
  | .extract x i => (cOpd n x).map (.ext · i)
  | .call c => cCall P n c
  | _ => none

def cDst (n : Nat) : Option Tmp → Bool
  | none => true
  | some t => t < n
def cOper (n : Nat) (ops : Array Oper) (o : Oper) : Option SOper :=
  match cOp P n o.op with
  | none => none
  | some s =>
    if !cDst n o.dst then none else
    let after := (o.after.toList.filter fun e => Region.binds .any e).map (·.on)
    match o.guard with
    | none => some { dst := o.dst, op := s, guard := none, after }
    | some (j, want) => match ((ops[j]?).bind (·.dst)) with
      | some t => if t < n then some { dst := o.dst, op := s, guard := some (t, want), after } else none
      | none => none
def cOpers (n : Nat) (ops : Array Oper) : List Oper → Option (List SOper)
  | [] => some []
  | o :: l => match cOper P n ops o, cOpers n ops l with
    | some a, some r => some (a :: r)
    | _, _ => none
def cCode (n : Nat) : Code → Option SCode
  | .skip => some .skip
  | .region _ ops draw => match cOpers P n ops ops.toList with
    | some l => if draw then (if drawOk l && l.all (fun o => o.looks.all (· < n)) then some (.reg (some (ancs l)) l) else if drawOk (layOps 0 l) && l.all (fun o => o.looks.all (· < n)) then some (.regA (ancs (layOps 0 l)) (layOps 0 l)) else none) else some (.reg none l)
    | none => none
  | .seq a b => match cCode n a, cCode n b with
    | some a, some b => some (.seq a b)
    | _, _ => none
  | .cond c a b => match cOpd n c, cCode n a, cCode n b with
    | some c, some a, some b => some (.cond c a b)
    | _, _, _ => none
  | .block id c => (cCode n c).map (.block id)
  | .loop c => (cCode n c).map .loop
  | .scope c => cCode n c
  | .label _ => some .skip
  | .exit id => some (.exit id)
  | .ret => some .ret
  | _ => none

inductive SRes where
  | tmp (t : Nat)
  | cell (t : Nat) (n : Option Nat)
structure SFunc where
  ntmps : Nat
  results : List SRes
  body : SCode
def cRes (n : Nat) : List ResultVar → Option (List SRes)
  | [] => some []
  | .tmp t :: l => if t < n then (cRes n l).map (.tmp t :: ·) else none
  | .cell t ty :: l => match cAgg P ty, cRes n l with
    | some k, some r => if t < n then some (.cell t k :: r) else none
    | _, _ => none
def cFunc (f : FuncId) : Option SFunc :=
  match P.funcs[f]? with
  | some fn => match fn.body with
    | some c => match cCode P fn.ntmps c, cRes P fn.ntmps fn.results.toList with
      | some b, some r => if fn.name == "runtime.NumGoroutine" then none else some { ntmps := fn.ntmps, results := r, body := b }
      | _, _ => none
    | none => none
  | none => none
end
end Go.Mini
