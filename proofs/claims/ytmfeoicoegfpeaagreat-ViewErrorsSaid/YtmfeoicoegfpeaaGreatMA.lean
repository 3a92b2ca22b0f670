/- The abstract machine: values, heaps, codes, its operations against the model's, their evaluation. No condition. -/
import Derived.Orders
import Derived.Calls
import Derived.MapKept
import Derived.Laws.Sem
import Derived.Laws.World
import Derived.Laws.Entries
import Derived.Laws.Slices
import Derived.Laws.StructEq
import Derived.Laws.NewFold
import Derived.Laws.BytesString
import Derived.Laws.IdiomStrings
set_option linter.unusedSimpArgs false
set_option linter.unusedVariables false
set_option maxRecDepth 100000
namespace Go.Mini
open Go

inductive Trie (α : Type) : Type where
  | nil
  | node (l : Trie α) (v : Option α) (r : Trie α)

namespace Trie
variable {α : Type}
def get : Trie α → Nat → Option α
  | .nil, _ => none
  | .node l v r, n => match n with
    | 0 => v
    | n + 1 => if n % 2 = 0 then l.get (n / 2) else r.get (n / 2)
def setF : Nat → Trie α → Nat → α → Trie α
  | 0, t, _, _ => t
  | f + 1, .nil, n, x => match n with
    | 0 => .node .nil (some x) .nil
    | n + 1 => if n % 2 = 0 then .node (setF f .nil (n / 2) x) none .nil else .node .nil none (setF f .nil (n / 2) x)
  | f + 1, .node l v r, n, x => match n with
    | 0 => .node l (some x) r
    | n + 1 => if n % 2 = 0 then .node (setF f l (n / 2) x) v r else .node l v (setF f r (n / 2) x)
def set (t : Trie α) (n : Nat) (x : α) : Trie α := setF (n + 1) t n x

theorem get_setF : ∀ (f : Nat) (t : Trie α) (n m : Nat) (x : α), n < f → (setF f t n x).get m = if n = m then some x else t.get m := by
  intro f
  induction f with
  | zero => intro t n m x h; omega
  | succ f ih =>
    intro t n m x h
    cases t with
    | nil =>
      cases n with
      | zero => cases m <;> simp [setF, get]
      | succ n =>
        cases m with
        | zero => simp only [setF]; split <;> simp [get]
        | succ m =>
          simp only [setF]
          split <;> rename_i hn
          · simp only [get]
            split <;> rename_i hm
            · rw [ih _ _ _ _ (by omega)]; simp only [get]
              by_cases e : n = m
              · subst e; simp
              · rw [if_neg (by omega), if_neg (by omega)]
            · rw [if_neg (by omega)]
          · simp only [get]
            split <;> rename_i hm
            · rw [if_neg (by omega)]
            · rw [ih _ _ _ _ (by omega)]; simp only [get]
              by_cases e : n = m
              · subst e; simp
              · rw [if_neg (by omega), if_neg (by omega)]
    | node l v r =>
      cases n with
      | zero => cases m <;> simp [setF, get]
      | succ n =>
        cases m with
        | zero => simp only [setF]; split <;> simp [get]
        | succ m =>
          simp only [setF]
          split <;> rename_i hn
          · simp only [get]
            split <;> rename_i hm
            · rw [ih _ _ _ _ (by omega)]
              by_cases e : n = m
              · subst e; simp
              · rw [if_neg (by omega), if_neg (by omega)]
            · rw [if_neg (by omega)]
          · simp only [get]
            split <;> rename_i hm
            · rw [if_neg (by omega)]
            · rw [ih _ _ _ _ (by omega)]
              by_cases e : n = m
              · subst e; simp
              · rw [if_neg (by omega), if_neg (by omega)]
theorem get_set (t : Trie α) (n m : Nat) (x : α) : (t.set n x).get m = if n = m then some x else t.get m := get_setF _ _ _ _ _ (by omega)
end Trie

inductive Id where
  | old (b : Nat)
  | new (k : Nat)
  deriving DecidableEq

inductive Cap where
  | ex (c : Nat)
  | gr (k : Nat)
  deriving DecidableEq

inductive AVal : Type where
  | bool (b : Bool)
  | int (k : IntKind) (n : Int)
  | str (s : List UInt8)
  | nilp
  | ptr (i : Id) (off : Nat)
  | nils
  | slc (i : Id) (off len : Nat) (cap : Cap)
  | emp
  | nilm
  | mp (i : Id)
  | nilf
  | fn (f : FuncId) (caps : List AVal)
  | agg (l : List AVal)
  | tup (l : List AVal)
  | raw (v : Value)
  /-- a slice whose elements never change: each element's cells are k many -/
  | fsl (k : Nat) (els : List AVal)
  /-- a place in memory that never changes: its cells, and those behind it -/
  | fptr (cs : List AVal)
  /-- an empty slice without room -/
  | emp0

def AVal.isCell : AVal → Bool
  | .agg _ | .tup _ | .raw _ => false
  | _ => true
def AVal.cells : AVal → List AVal
  | .agg l => l
  | v => [v]
def AVal.isRaw : AVal → Bool
  | .raw _ => true
  | _ => false

def AVal.undef : AVal := .tup []

structure Phi where
  m : Nat → Option (Nat × Nat)
  /-- ids that are kept free for a later block -/
  res : Nat → Prop
  /-- cells that never change -/
  F : Nat → Nat → Option Value
instance : CoeFun Phi fun _ => Nat → Option (Nat × Nat) := ⟨Phi.m⟩
def Phi.bare (F : Nat → Nat → Option Value) : Phi := ⟨fun _ => none, fun _ => False, F⟩
def Phi.sub (φ φ' : Phi) : Prop := (∀ k x, φ k = some x → φ' k = some x) ∧ ∀ b j v, φ.F b j = some v → φ'.F b j = some v
theorem Phi.sub_refl (φ : Phi) : φ.sub φ := ⟨fun _ _ h => h, fun _ _ _ h => h⟩
theorem Phi.sub_trans {φ φ' φ'' : Phi} (h : φ.sub φ') (h' : φ'.sub φ'') : φ.sub φ'' := ⟨fun k x e => h'.1 k x (h.1 k x e), fun b j v e => h'.2 b j v (h.2 b j v e)⟩
def Phi.le (φ φ' : Phi) : Prop := φ.sub φ' ∧ φ'.res = φ.res
theorem Phi.le_refl (φ : Phi) : φ.le φ := ⟨φ.sub_refl, rfl⟩
theorem Phi.le_trans {φ φ' φ'' : Phi} (h : φ.le φ') (h' : φ'.le φ'') : φ.le φ'' := ⟨Phi.sub_trans h.1 h'.1, h'.2.trans h.2⟩
def Id.real (φ : Phi) : Id → Option Nat
  | .old b => some b
  | .new k => (φ k).map (·.1)
theorem Id.real_mono0 {φ φ' : Phi} (h : φ.sub φ') {i : Id} {b : Nat} (e : i.real φ = some b) : i.real φ' = some b := by
  cases i with
  | old b' => exact e
  | new k =>
    simp only [Id.real, Option.map_eq_some_iff] at *
    obtain ⟨x, hx, rfl⟩ := e
    exact ⟨x, h.1 k x hx, rfl⟩

def Phi.holds (φ : Phi) (b off : Nat) (vs : List Value) : Prop := ∀ j v, vs[j]? = some v → φ.F b (off + j) = some v
theorem Phi.holds_mono {φ φ' : Phi} (h : φ.sub φ') {b off : Nat} {vs : List Value} (hv : φ.holds b off vs) : φ'.holds b off vs := fun j v e => h.2 _ _ _ (hv j v e)

mutual
inductive VR (φ : Phi) : AVal → Value → Prop where
  | bool (b) : VR φ (.bool b) (.bool b)
  | int (k n) : VR φ (.int k n) (.int k n)
  | str (s : List UInt8) : VR φ (.str s) (.string ⟨s.toArray⟩)
  | nilp : VR φ .nilp (.pointer none)
  | ptr {i b} (off) : i.real φ = some b → VR φ (.ptr i off) (.pointer (some ⟨b, off, none⟩))
  | nils : VR φ .nils (.slice none 0 0)
  | slcE {i b} (off len c) : i.real φ = some b → VR φ (.slc i off len (.ex c)) (.slice (some ⟨b, off, none⟩) len c)
  | slcG {k' b sz k} (off len c) : φ k' = some (b, sz) → off + c * k = sz → len ≤ c → VR φ (.slc (.new k') off len (.gr k)) (.slice (some ⟨b, off, none⟩) len c)
  | emp (a c) : VR φ .emp (.slice (some a) 0 c)
  | nilm : VR φ .nilm (.map none)
  | mp {i b} : i.real φ = some b → VR φ (.mp i) (.map (some b))
  | nilf : VR φ .nilf .nilFunc
  | fn (f) {l : List AVal} {vs : List Value} : VRs φ l vs → VR φ (.fn f l) (.func (.func f) #[] vs.toArray)
  | agg {l : List AVal} {vs : List Value} : VRs φ l vs → VR φ (.agg l) (.agg vs.toArray)
  | tup {l : List AVal} {vs : List Value} : VRs φ l vs → VR φ (.tup l) (.tuple vs.toArray)
  | raw (v) : VR φ (.raw v) v
  | fsl {k : Nat} {els : List AVal} {vs : List Value} {b off : Nat} (c : Nat) : VRs φ (els.flatMap AVal.cells) vs → φ.holds b off vs → (∀ e ∈ els, e.cells.length = k) → els.length ≤ c → VR φ (.fsl k els) (.slice (some ⟨b, off, none⟩) els.length c)
  | fslN (k) (a c) : (a = none → c = 0) → VR φ (.fsl k []) (.slice a 0 c)
  | fptr {cs : List AVal} {vs : List Value} {b off : Nat} : VRs φ cs vs → φ.holds b off vs → VR φ (.fptr cs) (.pointer (some ⟨b, off, none⟩))
  | emp0 (a) : VR φ .emp0 (.slice a 0 0)
inductive VRs (φ : Phi) : List AVal → List Value → Prop where
  | nil : VRs φ [] []
  | cons {a v l vs} : VR φ a v → VRs φ l vs → VRs φ (a :: l) (v :: vs)
end

theorem VR.mono0 {φ φ' : Phi} (h : φ.sub φ') {a : AVal} {v : Value} (hv : VR φ a v) : VR φ' a v := by
  refine VR.rec (motive_1 := fun a v _ => VR φ' a v) (motive_2 := fun l vs _ => VRs φ' l vs) ?_ ?_ ?_ ?_ ?_ ?_ ?_ ?_ ?_ ?_ ?_ ?_ ?_ ?_ ?_ ?_ ?_ ?_ ?_ ?_ ?_ ?_ hv
  · exact fun b => .bool b
  · exact fun k n => .int k n
  · exact fun s => .str s
  · exact .nilp
  · exact fun off e => .ptr off (Id.real_mono0 h e)
  · exact .nils
  · exact fun off len c e => .slcE off len c (Id.real_mono0 h e)
  · exact fun off len c e hs hl => .slcG off len c (h.1 _ _ e) hs hl
  · exact fun a c => .emp a c
  · exact .nilm
  · exact fun e => .mp (Id.real_mono0 h e)
  · exact .nilf
  · exact fun f _ _ _ ih => .fn f ih
  · exact fun _ ih => .agg ih
  · exact fun _ ih => .tup ih
  · exact fun v => .raw v
  · exact fun c _ hh he hc ih => .fsl c ih (Phi.holds_mono h hh) he hc
  · exact fun k a c h => .fslN k a c h
  · exact fun _ hh ih => .fptr ih (Phi.holds_mono h hh)
  · exact fun a => .emp0 a
  · exact .nil
  · exact fun _ _ ih1 ih2 => .cons ih1 ih2

theorem VRs.mono0 {φ φ' : Phi} (h : φ.sub φ') : ∀ {l : List AVal} {vs : List Value}, VRs φ l vs → VRs φ' l vs
  | [], _, hv => by cases hv; exact .nil
  | _ :: _, _, hv => by cases hv with | cons h1 h2 => exact .cons (h1.mono0 h) (VRs.mono0 h h2)

theorem VRs.length {φ : Phi} : ∀ {l : List AVal} {vs : List Value}, VRs φ l vs → l.length = vs.length
  | [], _, h => by cases h; rfl
  | _ :: _, _, h => by cases h with | cons _ h2 => simp [VRs.length h2]
theorem VRs.get {φ : Phi} : ∀ {l : List AVal} {vs : List Value} (_ : VRs φ l vs) (i : Nat) (a : AVal), l[i]? = some a → ∃ v, vs[i]? = some v ∧ VR φ a v
  | [], _, _, i, a, e => by simp at e
  | x :: l, _, h, i, a, e => by
    cases h with
    | cons h1 h2 => cases i with
      | zero => simp at e; subst e; exact ⟨_, rfl, h1⟩
      | succ i => simp at e; obtain ⟨v, hv, hr⟩ := VRs.get h2 i a e; exact ⟨v, by simpa using hv, hr⟩
theorem VRs.append {φ : Phi} : ∀ {l : List AVal} {vs : List Value} {l' : List AVal} {vs' : List Value}, VRs φ l vs → VRs φ l' vs' → VRs φ (l ++ l') (vs ++ vs')
  | [], _, _, _, h, h' => by cases h; exact h'
  | _ :: _, _, _, _, h, h' => by cases h with | cons h1 h2 => exact .cons h1 (VRs.append h2 h')
theorem VRs.take {φ : Phi} : ∀ {l : List AVal} {vs : List Value} (n : Nat), VRs φ l vs → VRs φ (l.take n) (vs.take n)
  | [], _, n, h => by cases h; simp; exact .nil
  | _ :: _, _, 0, h => by simp; exact .nil
  | _ :: _, _, n + 1, h => by cases h with | cons h1 h2 => exact .cons h1 (VRs.take n h2)
theorem VRs.drop {φ : Phi} : ∀ {l : List AVal} {vs : List Value} (n : Nat), VRs φ l vs → VRs φ (l.drop n) (vs.drop n)
  | [], _, n, h => by cases h; simp; exact .nil
  | _ :: _, _, 0, h => by simpa using h
  | _ :: _, _, n + 1, h => by cases h with | cons h1 h2 => exact VRs.drop n h2
theorem VRs.set {φ : Phi} : ∀ {l : List AVal} {vs : List Value} (_ : VRs φ l vs) (i : Nat) {a : AVal} {v : Value}, VR φ a v → VRs φ (l.set i a) (vs.set i v)
  | [], _, h, i, a, v, hv => by cases h; simp; exact .nil
  | x :: l, _, h, i, a, v, hv => by
    cases h with
    | cons h1 h2 => cases i with
      | zero => exact .cons hv h2
      | succ i => exact .cons h1 (VRs.set h2 i hv)
theorem VRs.replicate {φ : Phi} {a : AVal} {v : Value} (h : VR φ a v) : ∀ n : Nat, VRs φ (List.replicate n a) (List.replicate n v)
  | 0 => .nil
  | n + 1 => .cons h (VRs.replicate h n)
def ofVal : Value → AVal
  | .bool b => .bool b
  | .int k n => .int k n
  | .string s => .str s.data.toList
  | .pointer none => .nilp
  | .pointer (some ⟨b, off, none⟩) => .ptr (.old b) off
  | .slice none 0 0 => .nils
  | .slice (some ⟨b, off, none⟩) len c => .slc (.old b) off len (.ex c)
  | v => .raw v
theorem ofVal_VR (φ : Phi) (v : Value) : VR φ (ofVal v) v := by
  unfold ofVal
  split
  · exact .bool _
  · exact .int _ _
  · rename_i s; have := VR.str (φ := φ) s.data.toList; simpa using this
  · exact .nilp
  · exact .ptr _ rfl
  · exact .nils
  · exact .slcE _ _ _ rfl
  · exact .raw _

inductive ABlk where
  | cells (cs : List AVal) (opn : Option TypeId)
  | map (es : List (Int × AVal))
  | iter (s : List UInt8) (pos : Nat)
  | dead
  /-- cells of a known type's variable -/
  | tcells (T : TypeId) (cs : List AVal)
  /-- just this object -/
  | exact (o : Obj)

structure FB where
  f : Nat → Nat → Option Value
  dr : Bool
instance : CoeFun FB fun _ => Nat → Nat → Option Value := ⟨FB.f⟩
structure Heap where
  W : World
  /-- cells of the first world that never change -/
  F0 : FB
  tr : Trie ABlk
  next : Nat

def Heap.get (σ : Heap) (k : Nat) : Option ABlk := σ.tr.get k
def Heap.set (σ : Heap) (k : Nat) (b : ABlk) : Heap := { σ with tr := σ.tr.set k b }
def Heap.new (σ : Heap) (b : ABlk) : Heap := { σ with tr := σ.tr.set σ.next b, next := σ.next + 1 }
theorem Heap.get_set (σ : Heap) (k m : Nat) (b : ABlk) : (σ.set k b).get m = if k = m then some b else σ.get m := Trie.get_set ..
theorem Heap.get_new (σ : Heap) (m : Nat) (b : ABlk) : (σ.new b).get m = if σ.next = m then some b else σ.get m := Trie.get_set ..
@[simp] theorem Heap.set_W (σ : Heap) (k : Nat) (b : ABlk) : (σ.set k b).W = σ.W := rfl
@[simp] theorem Heap.new_W (σ : Heap) (b : ABlk) : (σ.new b).W = σ.W := rfl
@[simp] theorem Heap.set_F0 (σ : Heap) (k : Nat) (b : ABlk) : (σ.set k b).F0 = σ.F0 := rfl
@[simp] theorem Heap.new_F0 (σ : Heap) (b : ABlk) : (σ.new b).F0 = σ.F0 := rfl
@[simp] theorem Heap.set_next (σ : Heap) (k : Nat) (b : ABlk) : (σ.set k b).next = σ.next := rfl
@[simp] theorem Heap.new_next (σ : Heap) (b : ABlk) : (σ.new b).next = σ.next + 1 := rfl

def Heap.cell (σ : Heap) (i : Id) (off : Nat) : Option AVal :=
  match i with
  | .old b => if b < σ.W.heap.size then (σ.W.cell? ⟨b, off, none⟩).map ofVal else none
  | .new k => match σ.get k with
    | some (.cells cs _) => cs[off]?
    | some (.tcells _ cs) => cs[off]?
    | _ => none

inductive EntRel (φ : Phi) : List (Int × AVal) → List MapEntry → Prop where
  | nil : EntRel φ [] []
  | cons {n : Int} {a : AVal} {e : MapEntry} {es : List (Int × AVal)} {es' : List MapEntry} : e.key = .int .i64 n → VR φ a e.val → EntRel φ es es' → EntRel φ ((n, a) :: es) (e :: es')
theorem EntRel.mono0 {φ φ' : Phi} (h : φ.sub φ') {es : List (Int × AVal)} {es' : List MapEntry} (he : EntRel φ es es') : EntRel φ' es es' := by
  induction he with
  | nil => exact .nil
  | cons h1 h2 _ ih => exact .cons h1 (h2.mono0 h) ih
def MapRel (φ : Phi) (es : List (Int × AVal)) (es' : List MapEntry) : Prop :=
  es.Pairwise (fun x y => x.1 < y.1) ∧ ∃ es0, es0.Perm es ∧ EntRel φ es0 es'

inductive BRel (φ : Phi) (sz : Nat) : ABlk → Obj → Prop where
  | cells {cs : List AVal} {opn : Option TypeId} {cs' : Array Value} {T : TypeId} {fz : Nat × Nat} :
      cs'.size = sz → cs.length ≤ sz → (opn = none → cs.length = sz) → (∀ T', opn = some T' → T' = T) → VRs φ cs (cs'.toList.take cs.length) →
      (∀ off, off < sz → (fz.1 ≤ off && off < fz.2) = false) → BRel φ sz (.cells cs opn) (.cells cs' T fz)
  | map {es : List (Int × AVal)} {es' : Array MapEntry} {clock : Nat} : MapRel φ es es'.toList → MapKept.Stamped es' clock → BRel φ sz (.map es) (.map es' clock)
  | iter (s : List UInt8) (pos : Nat) : BRel φ sz (.iter s pos) (.stringIter ⟨s.toArray⟩ pos)
  | dead (o : Obj) : BRel φ sz .dead o
  | tcells {cs : List AVal} {cs' : Array Value} {T : TypeId} {fz : Nat × Nat} : cs'.size = sz → VRs φ cs cs'.toList → (∀ off, off < sz → (fz.1 ≤ off && off < fz.2) = false) → BRel φ sz (.tcells T cs) (.cells cs' T fz)
  | exact (o : Obj) : BRel φ sz (.exact o) o

def Heap.live (σ : Heap) (k : Nat) : Prop := ∃ b, σ.get k = some b ∧ b ≠ .dead

structure Rel (φ : Phi) (σ : Heap) (w : World) : Prop where
  size : σ.W.heap.size ≤ w.heap.size
  old : ∀ b, b < σ.W.heap.size → w.heap[b]? = σ.W.heap[b]?
  new : ∀ k b sz, φ k = some (b, sz) → σ.W.heap.size ≤ b ∧ ∃ o, w.heap[b]? = some o ∧ ∀ blk, σ.get k = some blk → BRel φ sz blk o
  inj : ∀ k k' b sz sz', φ k = some (b, sz) → φ k' = some (b, sz') → σ.live k → σ.live k' → k = k'
  fresh : ∀ k, σ.next ≤ k → φ k = none
  resv : ∀ k, φ.res k → φ k = none ∧ k < σ.next
  tape : w.tape = σ.W.tape
  os : w.os = σ.W.os
  output : w.output = σ.W.output
  /-- what never changes is as it was -/
  frz : ∀ b j v, φ.F b j = some v → w.cell? ⟨b, j, none⟩ = some v
  /-- what may change is apart from it -/
  apart : ∀ k b sz j, φ k = some (b, sz) → σ.live k → φ.F b j = none
  /-- of the first world's cells no more are known never to change -/
  base : ∀ b j v, b < σ.W.heap.size → φ.F b j = some v → σ.F0.f b j = some v
  /-- the tape was read forward -/
  drawn : σ.F0.dr = true → σ.W.drawn ≤ w.drawn

theorem BRel.mono0 {φ φ' : Phi} (h : φ.sub φ') {sz : Nat} {b : ABlk} {o : Obj} (hb : BRel φ sz b o) : BRel φ' sz b o := by
  cases hb with
  | cells h1 h2 h3 hT h4 h5 => exact .cells h1 h2 h3 hT (h4.mono0 h) h5
  | map hm hs => exact .map ⟨hm.1, hm.2.imp fun _ h2 => ⟨h2.1, h2.2.mono0 h⟩⟩ hs
  | iter s pos => exact .iter s pos
  | dead o => exact .dead o
  | tcells h1 h2 h3 => exact .tcells h1 (h2.mono0 h) h3
  | exact o => exact .exact o

theorem VR.mono {φ φ' : Phi} (h : φ.le φ') {a : AVal} {v : Value} (hv : VR φ a v) : VR φ' a v := hv.mono0 h.1
theorem VRs.mono {φ φ' : Phi} (h : φ.le φ') {l : List AVal} {vs : List Value} (hv : VRs φ l vs) : VRs φ' l vs := VRs.mono0 h.1 hv
theorem EntRel.mono {φ φ' : Phi} (h : φ.le φ') {es : List (Int × AVal)} {es' : List MapEntry} (he : EntRel φ es es') : EntRel φ' es es' := he.mono0 h.1
theorem BRel.mono {φ φ' : Phi} (h : φ.le φ') {sz : Nat} {b : ABlk} {o : Obj} (hb : BRel φ sz b o) : BRel φ' sz b o := hb.mono0 h.1
theorem heap_alloc (w : World) (o : Obj) (b : Nat) : (w.alloc o).heap[b]? = if b = w.heap.size then some o else w.heap[b]? := by
  simp only [World.alloc, Array.getElem?_push]

theorem heap_setCell {w : World} {b : Nat} {off : Nat} {v : Value} {cs : Array Value} {T : TypeId} {fz : Nat × Nat} (h : w.heap[b]? = some (.cells cs T fz)) (b' : Nat) :
    (w.setCell ⟨b, off, none⟩ v).heap[b']? = if b' = b then some (.cells (cs.setIfInBounds off v) T fz) else w.heap[b']? := by
  simp only [World.setCell, Array.getElem?_modify]
  by_cases e : b = b'
  · subst e; simp [h]
  · rw [if_neg e, if_neg (fun h => e h.symm)]

def Phi.put (φ : Phi) (k : Nat) (x : Nat × Nat) : Phi := { φ with m := fun j => if j = k then some x else φ j }
theorem Phi.put_same (φ : Phi) (k : Nat) (x : Nat × Nat) : φ.put k x k = some x := by simp [Phi.put]
theorem Phi.put_other (φ : Phi) {k j : Nat} (x : Nat × Nat) (h : j ≠ k) : φ.put k x j = φ j := by simp [Phi.put, h]
theorem Phi.le_put {φ : Phi} {k : Nat} (x : Nat × Nat) (h : φ k = none) : φ.le (φ.put k x) := by
  refine ⟨⟨fun j y e => ?_, fun _ _ _ e => e⟩, rfl⟩
  by_cases hj : j = k
  · subst hj; rw [h] at e; cases e
  · rw [Phi.put_other _ _ hj]; exact e

theorem Rel.lt {φ : Phi} {σ : Heap} {w : World} (hr : Rel φ σ w) {k b sz : Nat} (h : φ k = some (b, sz)) : b < w.heap.size := by
  obtain ⟨_, o, ho, _⟩ := hr.new k b sz h
  exact (Array.getElem?_eq_some_iff.1 ho).1

theorem Rel.drew {φ : Phi} {σ : Heap} {w : World} (hr : Rel φ σ w) : Rel φ σ w.drew :=
  { hr with drawn := fun h => Nat.le_succ_of_le (hr.drawn h) }

theorem Rel.alloc {φ : Phi} {σ : Heap} {w : World} (hr : Rel φ σ w) {blk : ABlk} {o : Obj} {sz : Nat}
    (hb : BRel (φ.put σ.next (w.heap.size, sz)) sz blk o) :
    φ.le (φ.put σ.next (w.heap.size, sz)) ∧ Rel (φ.put σ.next (w.heap.size, sz)) (σ.new blk) (w.alloc o) := by
  have hnone := hr.fresh σ.next (Nat.le_refl _)
  have hle := Phi.le_put (w.heap.size, sz) hnone
  refine ⟨hle, ?_⟩
  constructor
  · simp only [Heap.new_W, World.size_alloc]; have := hr.size; omega
  · intro b h
    simp only [Heap.new_W] at h ⊢
    have := hr.size
    rw [heap_alloc, if_neg (by omega)]; exact hr.old b h
  · intro k b sz' e
    simp only [Heap.new_W]
    by_cases hk : k = σ.next
    · subst hk
      rw [Phi.put_same] at e
      simp only [Option.some.injEq, Prod.mk.injEq] at e
      obtain ⟨rfl, rfl⟩ := e
      refine ⟨hr.size, o, by rw [heap_alloc, if_pos rfl], ?_⟩
      intro blk' hg
      rw [Heap.get_new, if_pos rfl] at hg
      cases hg
      exact hb
    · rw [Phi.put_other _ _ hk] at e
      obtain ⟨h1, o', ho', h2⟩ := hr.new k b sz' e
      refine ⟨h1, o', ?_, ?_⟩
      · have := (Array.getElem?_eq_some_iff.1 ho').1
        rw [heap_alloc, if_neg (by omega)]; exact ho'
      · intro blk' hg
        rw [Heap.get_new, if_neg (fun h => hk h.symm)] at hg
        exact (h2 blk' hg).mono hle
  · intro k k' b sz1 sz2 e e' hl hl'
    have live : ∀ j, j ≠ σ.next → (σ.new blk).live j → σ.live j := by
      intro j hj ⟨x, hx, hd⟩
      rw [Heap.get_new, if_neg (fun h => hj h.symm)] at hx
      exact ⟨x, hx, hd⟩
    by_cases hk : k = σ.next <;> by_cases hk' : k' = σ.next
    · rw [hk, hk']
    · subst hk
      rw [Phi.put_same] at e; rw [Phi.put_other _ _ hk'] at e'
      simp only [Option.some.injEq, Prod.mk.injEq] at e
      have := hr.lt e'; omega
    · subst hk'
      rw [Phi.put_same] at e'; rw [Phi.put_other _ _ hk] at e
      simp only [Option.some.injEq, Prod.mk.injEq] at e'
      have := hr.lt e; omega
    · rw [Phi.put_other _ _ hk] at e; rw [Phi.put_other _ _ hk'] at e'
      exact hr.inj k k' b sz1 sz2 e e' (live k hk hl) (live k' hk' hl')
  · intro k h
    simp only [Heap.new_next] at h
    rw [Phi.put_other _ _ (by omega)]; exact hr.fresh k (by omega)
  · intro k h
    have := hr.resv k h
    rw [Phi.put_other _ _ (by omega)]
    exact ⟨this.1, by simp only [Heap.new_next]; omega⟩
  · exact hr.tape
  · exact hr.os
  · exact hr.output
  · intro b j v e
    have h := hr.frz b j v e
    have hb : b < w.heap.size := World.block_lt_of_cell? w ⟨b, j, none⟩ h
    simp only [World.cell?, heap_alloc]
    rw [if_neg (by omega)]
    exact h
  · intro k b sz' j e hl
    by_cases hk : k = σ.next
    · subst hk
      rw [Phi.put_same] at e
      simp only [Option.some.injEq, Prod.mk.injEq] at e
      obtain ⟨rfl, rfl⟩ := e
      cases hF : φ.F w.heap.size j with
      | none => exact hF
      | some v => have := World.block_lt_of_cell? w ⟨w.heap.size, j, none⟩ (hr.frz _ _ _ hF); simp only at this; omega
    · rw [Phi.put_other _ _ hk] at e
      refine hr.apart k b sz' j e ?_
      obtain ⟨x, hx, hd⟩ := hl
      rw [Heap.get_new, if_neg (fun h => hk h.symm)] at hx
      exact ⟨x, hx, hd⟩
  · exact hr.base
  · exact hr.drawn

theorem cell?_cells {w : World} {b : Nat} {cs : Array Value} {T : TypeId} {fz : Nat × Nat} (h : w.heap[b]? = some (.cells cs T fz)) (off : Nat) :
    w.cell? ⟨b, off, none⟩ = cs[off]? := by simp [World.cell?, h]

theorem take_getElem? {α : Type} (l : List α) (n i : Nat) (x : α) (h : (l.take n)[i]? = some x) : l[i]? = some x := by
  rw [List.getElem?_take] at h
  split at h
  · exact h
  · cases h

theorem Rel.cell {φ : Phi} {σ : Heap} {w : World} (hr : Rel φ σ w) {i : Id} {off b : Nat} {a : AVal} (h : σ.cell i off = some a) (hi : i.real φ = some b) :
    ∃ v, w.cell? ⟨b, off, none⟩ = some v ∧ VR φ a v := by
  cases i with
  | old b' =>
    simp only [Id.real, Option.some.injEq] at hi
    subst hi
    simp only [Heap.cell] at h
    split at h
    · rename_i hb
      rw [Option.map_eq_some_iff] at h
      obtain ⟨v, hv, rfl⟩ := h
      refine ⟨v, ?_, ofVal_VR φ v⟩
      have := hr.old b' hb
      unfold World.cell? at hv ⊢
      simp only at hv ⊢
      rw [this]; exact hv
    · cases h
  | new k =>
    simp only [Id.real, Option.map_eq_some_iff] at hi
    obtain ⟨⟨b', sz⟩, hk, rfl⟩ := hi
    simp only [Heap.cell] at h
    split at h
    · rename_i cs opn hg
      obtain ⟨_, o, ho, hb⟩ := hr.new k b' sz hk
      cases hb _ hg with
      | cells h1 h2 h3 hT h4 h5 =>
        obtain ⟨v, hv, hvr⟩ := h4.get off a h
        refine ⟨v, ?_, hvr⟩
        rw [cell?_cells ho]
        have := take_getElem? _ _ _ _ hv
        simpa using this
    · rename_i T cs hg
      obtain ⟨_, o, ho, hb⟩ := hr.new k b' sz hk
      cases hb _ hg with
      | tcells h1 h2 h3 =>
        obtain ⟨v, hv, hvr⟩ := h2.get off a h
        refine ⟨v, ?_, hvr⟩
        rw [cell?_cells ho]
        simpa using hv
    · cases h

theorem Rel.change {φ : Phi} {σ : Heap} {w w' : World} (hr : Rel φ σ w) {k b sz : Nat} {blk blk' : ABlk} {o : Obj} (hk : φ k = some (b, sz))
    (hg : σ.get k = some blk) (hd : blk ≠ .dead)
    (hw : ∀ b', w'.heap[b']? = if b' = b then some o else w.heap[b']?) (hs : w'.heap.size = w.heap.size)
    (ht : w'.tape = w.tape) (hos : w'.os = w.os) (hout : w'.output = w.output) (hdr : w.drawn ≤ w'.drawn)
    (hb : BRel φ sz blk' o) : Rel φ (σ.set k blk') w' := by
  have hlive : σ.live k := ⟨blk, hg, hd⟩
  have live : ∀ j, (σ.set k blk').live j → σ.live j := by
    intro j ⟨x, hx, hdx⟩
    rw [Heap.get_set] at hx
    by_cases e : k = j
    · subst e; exact hlive
    · rw [if_neg e] at hx; exact ⟨x, hx, hdx⟩
  constructor
  · simp only [Heap.set_W]; rw [hs]; exact hr.size
  · intro b' h
    simp only [Heap.set_W] at h ⊢
    have := (hr.new k b sz hk).1
    rw [hw, if_neg (by omega)]; exact hr.old b' h
  · intro j b' sz' e
    simp only [Heap.set_W]
    obtain ⟨h1, o', ho', h2⟩ := hr.new j b' sz' e
    refine ⟨h1, ?_⟩
    by_cases hbb : b' = b
    · subst hbb
      refine ⟨o, by rw [hw, if_pos rfl], ?_⟩
      intro x hx
      rw [Heap.get_set] at hx
      by_cases hjk : k = j
      · subst hjk
        rw [if_pos rfl] at hx; cases hx
        rw [hk] at e; simp only [Option.some.injEq, Prod.mk.injEq, true_and] at e
        subst e; exact hb
      · rw [if_neg hjk] at hx
        cases hdx : x with
        | dead => exact .dead o
        | _ => exact absurd (hr.inj k j b' sz sz' hk e hlive ⟨x, hx, by rw [hdx]; intro h; cases h⟩) hjk
    · refine ⟨o', by rw [hw, if_neg hbb]; exact ho', ?_⟩
      intro x hx
      rw [Heap.get_set] at hx
      by_cases hjk : k = j
      · subst hjk
        rw [hk] at e; simp only [Option.some.injEq, Prod.mk.injEq] at e
        exact absurd e.1.symm hbb
      · rw [if_neg hjk] at hx; exact h2 x hx
  · intro j j' b' sz1 sz2 e e' hl hl'
    exact hr.inj j j' b' sz1 sz2 e e' (live j hl) (live j' hl')
  · intro j h; exact hr.fresh j h
  · exact hr.resv
  · exact ht.trans hr.tape
  · exact hos.trans hr.os
  · exact hout.trans hr.output
  · intro b' j v e
    have hne : b' ≠ b := by
      rintro rfl
      rw [hr.apart k b' sz j hk hlive] at e; cases e
    have h := hr.frz b' j v e
    simp only [World.cell?] at h ⊢
    rw [hw, if_neg hne]; exact h
  · intro j b' sz' i e hl
    exact hr.apart j b' sz' i e (live j hl)
  · exact hr.base
  · exact fun h => Nat.le_trans (hr.drawn h) hdr

theorem Rel.block {φ : Phi} {σ : Heap} {w : World} (hr : Rel φ σ w) {k b sz : Nat} {cs : List AVal} {opn : Option TypeId} (hk : φ k = some (b, sz)) (hg : σ.get k = some (.cells cs opn)) :
    ∃ (cs' : Array Value) (T : TypeId) (fz : Nat × Nat), w.heap[b]? = some (.cells cs' T fz) ∧ cs'.size = sz ∧ cs.length ≤ sz ∧ (opn = none → cs.length = sz) ∧ (∀ T', opn = some T' → T' = T) ∧
      VRs φ cs (cs'.toList.take cs.length) ∧ ∀ off, off < sz → (fz.1 ≤ off && off < fz.2) = false := by
  obtain ⟨_, o, ho, hb⟩ := hr.new k b sz hk
  cases hb _ hg with
  | cells h1 h2 h3 hT h4 h5 => exact ⟨_, _, _, ho, h1, h2, h3, hT, h4, h5⟩

theorem toList_setIfInBounds {α : Type} (a : Array α) (i : Nat) (x : α) : (a.setIfInBounds i x).toList = a.toList.set i x := by simp

theorem Rel.store {φ : Phi} {σ : Heap} {w : World} (hr : Rel φ σ w) {k b sz off : Nat} {cs : List AVal} {opn : Option TypeId} {a : AVal} {v : Value} (hk : φ k = some (b, sz))
    (hg : σ.get k = some (.cells cs opn)) (hoff : off < cs.length) (hv : VR φ a v) :
    (∃ u, w.cell? ⟨b, off, none⟩ = some u) ∧ w.frozen? ⟨b, off, none⟩ = false ∧ Rel φ (σ.set k (.cells (cs.set off a) opn)) (w.setCell ⟨b, off, none⟩ v) := by
  obtain ⟨cs', T, fz, ho, h1, h2, h3, hT, h4, h5⟩ := hr.block hk hg
  refine ⟨?_, ?_, ?_⟩
  · rw [cell?_cells ho]
    exact ⟨cs'[off]'(by omega), by simp⟩
  · simp only [World.frozen?, ho]
    exact h5 off (by omega)
  · refine hr.change hk hg (by intro h; cases h) (o := .cells (cs'.setIfInBounds off v) T fz) (heap_setCell ho) (by simp) rfl rfl rfl (Nat.le_refl _) ?_
    refine .cells (by simpa using h1) (by simpa using h2) (by simpa using h3) hT ?_ h5
    rw [toList_setIfInBounds, List.length_set, List.take_set]
    exact VRs.set h4 off hv

theorem Rel.blockT {φ : Phi} {σ : Heap} {w : World} (hr : Rel φ σ w) {k b sz : Nat} {T : TypeId} {cs : List AVal} (hk : φ k = some (b, sz)) (hg : σ.get k = some (.tcells T cs)) :
    ∃ (cs' : Array Value) (fz : Nat × Nat), w.heap[b]? = some (.cells cs' T fz) ∧ cs'.size = sz ∧ VRs φ cs cs'.toList ∧ ∀ off, off < sz → (fz.1 ≤ off && off < fz.2) = false := by
  obtain ⟨_, o, ho, hb⟩ := hr.new k b sz hk
  cases hb _ hg with
  | tcells h1 h2 h3 => exact ⟨_, _, ho, h1, h2, h3⟩
theorem Rel.storeT {φ : Phi} {σ : Heap} {w : World} (hr : Rel φ σ w) {k b sz off : Nat} {T : TypeId} {cs : List AVal} {a : AVal} {v : Value} (hk : φ k = some (b, sz))
    (hg : σ.get k = some (.tcells T cs)) (hoff : off < cs.length) (hv : VR φ a v) :
    (∃ u, w.cell? ⟨b, off, none⟩ = some u) ∧ w.frozen? ⟨b, off, none⟩ = false ∧ Rel φ (σ.set k (.tcells T (cs.set off a))) (w.setCell ⟨b, off, none⟩ v) := by
  obtain ⟨cs', fz, ho, h1, h2, h3⟩ := hr.blockT hk hg
  have hl := h2.length
  simp only [Array.length_toList] at hl
  refine ⟨?_, ?_, ?_⟩
  · rw [cell?_cells ho]
    exact ⟨cs'[off]'(by omega), by simp⟩
  · simp only [World.frozen?, ho]
    exact h3 off (by omega)
  · refine hr.change hk hg (by intro h; cases h) (o := .cells (cs'.setIfInBounds off v) T fz) (heap_setCell ho) (by simp) rfl rfl rfl (Nat.le_refl _) ?_
    refine .tcells (by simpa using h1) ?_ h3
    rw [toList_setIfInBounds]
    exact VRs.set h2 off hv

abbrev Frame := Trie AVal
def Frame.get (fr : Frame) (t : Nat) : AVal := (Trie.get fr t).getD .undef
def Frame.put (fr : Frame) (t : Nat) (v : AVal) : Frame := Trie.set fr t v
theorem Frame.get_put (fr : Frame) (t s : Nat) (v : AVal) : (fr.put t v).get s = if t = s then v else fr.get s := by
  simp only [Frame.get, Frame.put, Trie.get_set]
  split <;> rfl
def Frame.putO (fr : Frame) (t : Option Nat) (v : AVal) : Frame :=
  match t with
  | some t => fr.put t v
  | none => fr
def Frame.ofArgs : Nat → List AVal → Frame
  | _, [] => .nil
  | n, a :: l => (Frame.ofArgs (n + 1) l).put n a

def ofVal1 : Value → AVal
  | .agg cs => .agg (cs.toList.map ofVal)
  | .tuple cs => .tup (cs.toList.map ofVal)
  | .nilFunc => .nilf
  | .map none => .nilm
  | v => ofVal v
def conc0 : AVal → Option Value
  | .int k n => some (.int k n)
  | .bool b => some (.bool b)
  | .str s => some (.string ⟨s.toArray⟩)
  | _ => none
def concs : List AVal → Option (List Value)
  | [] => some []
  | x :: l => match conc0 x, concs l with
    | some v, some r => some (v :: r)
    | _, _ => none
def conc : AVal → Option Value
  | .agg l => (concs l).map fun vs => .agg vs.toArray
  | x => conc0 x
inductive Opd where
  | tmp (t : Nat)
  | lit (a : AVal)
  /-- the method of what an interface value holds, bound to it and to its arguments; tbl: by the dynamic type -/
  | meth (tbl : List (Nat × Nat)) (t : Nat) (ts : List Nat)
def Opd.ev (fr : Frame) : Opd → AVal
  | .tmp t => fr.get t
  | .lit a => a
  | .meth tbl t ts => match fr.get t with
    | .raw (.iface T v) => match tbl.lookup T with
      | some g => .fn g (ofVal1 v :: ts.map fr.get)
      | none => .undef
    | _ => .undef

inductive EqK where
  | int | str | bool | ptr | slc | map | fn
  | flat (ks : List EqK)
  | no

def aEq0 : EqK → AVal → AVal → Option Bool
  | .int, .int k a, .int k' b => if k = k' then some (a == b) else none
  | .str, .str a, .str b => some (a == b)
  | .bool, .bool a, .bool b => some (a == b)
  | _, _, _ => none
def aEqs : List EqK → List AVal → List AVal → Option Bool
  | [], [], [] => some true
  | e :: es, x :: xs, y :: ys => match aEq0 e x y with
    | some true => aEqs es xs ys
    | some false => some false
    | none => none
  | _, _, _ => none
def aEq (e : EqK) (x y : AVal) : Option Bool :=
  match e, x, y with
  | .bool, .bool a, .bool b => some (a == b)
  | .ptr, .nilp, .nilp => some true
  | .ptr, .nilp, .ptr _ _ => some false
  | .ptr, .ptr _ _, .nilp => some false
  | .slc, .nils, .nils => some true
  | .slc, .nils, .slc _ _ _ _ => some false
  | .slc, .nils, .emp => some false
  | .slc, .slc _ _ _ _, .nils => some false
  | .slc, .emp, .nils => some false
  | .slc, .fsl _ els, .nils => if els.isEmpty then none else some false
  | .map, .nilm, .nilm => some true
  | .map, .nilm, .mp _ => some false
  | .map, .mp _, .nilm => some false
  | .fn, .nilf, .nilf => some true
  | .fn, .nilf, .fn _ _ => some false
  | .fn, .fn _ _, .nilf => some false
  | .flat ks, .agg xs, .agg ys => aEqs ks xs ys
  | _, _, _ => none

def bitOp (op : BinOp) (k : IntKind) (x y : Int) : Int :=
  let a := BitVec.ofInt k.bits x
  let b := BitVec.ofInt k.bits y
  k.wrap (match op with
    | .and => a &&& b
    | .or => a ||| b
    | .xor => a ^^^ b
    | _ => a &&& ~~~b).toNat
def aInt (op : BinOp) (k : IntKind) (a b : Int) : Option AVal :=
  match op with
  | .add => some (.int k (k.wrap (a + b)))
  | .sub => some (.int k (k.wrap (a - b)))
  | .mul => some (.int k (k.wrap (a * b)))
  | .quo => if b = 0 then none else some (.int k (k.wrap (a.tdiv b)))
  | .rem => if b = 0 then none else some (.int k (a.tmod b))
  | .and => some (.int k (bitOp .and k a b))
  | .or => some (.int k (bitOp .or k a b))
  | .xor => some (.int k (bitOp .xor k a b))
  | .andNot => some (.int k (bitOp .andNot k a b))
  | .eql => some (.bool (a == b))
  | .neq => some (.bool (a != b))
  | .lss => some (.bool (a < b))
  | .leq => some (.bool (a ≤ b))
  | .gtr => some (.bool (a > b))
  | .geq => some (.bool (a ≥ b))
  | _ => none
def aStr (op : BinOp) (s t : List UInt8) : Option AVal :=
  match op with
  | .add => if s.length + t.length ≤ 2 ^ 62 then some (.str (s ++ t)) else none
  | .eql => some (.bool (s == t))
  | .neq => some (.bool (s != t))
  | _ => none
def aBin (op : BinOp) (e : EqK) (x y : AVal) : Option AVal :=
  match x, y with
  | .int k a, .int k' b => match op with
    | .shl => if b < 0 then none else some (.int k (k.wrap (a * 2 ^ (min b.toNat k.bits))))
    | .shr => if b < 0 then none else some (.int k (a.fdiv (2 ^ (min b.toNat k.bits))))
    | _ => if k = k' then aInt op k a b else none
  | .str s, .str t => aStr op s t
  | x, y => match op with
    | .eql => (aEq e x y).map .bool
    | .neq => (aEq e x y).map fun b => .bool (!b)
    | _ => none

inductive SOp where
  | call (f : Opd) (args : List Opd)
  | mv (x : Opd)
  | pick (c a b : Opd)
  | nilc (x : Opd)
  | bin (op : BinOp) (e : EqK) (x y : Opd)
  | not (x : Opd)
  | neg (x : Opd)
  | cint (k : IntKind) (x : Opd)
  | cstr (x : Opd)
  | mkfn (f : FuncId) (caps : List Opd)
  | fld (n : Option Nat) (off : Nat) (x : Opd)
  | fldA (off : Nat) (x : Opd)
  | idxA (k : Nat) (x i : Opd)
  | idxR (n k : Nat) (x i : Opd)
  | idxS (x i : Opd)
  | idxG (n k : Nat) (agg : Bool) (x i : Opd)
  | build (zero : List AVal) (parts : List (Nat × Nat × Opd))
  | ext (x : Opd) (i : Nat)
  | len (x : Opd)
  | lenS (x : Opd)
  | lenC (n : Nat)
  | slc (k : Nat) (x : Opd) (lo hi mx : Option Opd)
  | slcS (x : Opd) (lo hi : Option Opd)
  | slcR (n k : Nat) (x : Opd) (lo hi mx : Option Opd)
  | maxs (x : Opd) (l : List Opd)
  | mins (x : Opd) (l : List Opd)
  | load (n : Option Nat) (x : Opd)
  | look (zero : AVal) (ok : Bool) (x k : Opd)
  | lenM (x : Opd)
  | bstr (x : Opd)
  /-- a new variable whose id was kept free -/
  | lay (k : Nat) (zs : List AVal)
  /-- a new slice with its elements, whose id was kept free -/
  | layB (q k : Nat) (zs : List AVal) (len : Nat) (parts : List (Nat × Nat × Opd))
  | alloc (zs : List AVal)
  | allocT (T : TypeId) (zs : List AVal)
  | box (x : Opd)
  | bslc (k : Nat) (zs : List AVal) (len : Nat) (parts : List (Nat × Nat × Opd))
  | mslc (k bytes : Nat) (zs : List AVal) (l c : Opd)
  | mmap
  | iter (x : Opd)
  | bytes (e : TypeId) (x : Opd)
  | store (n : Nat) (a x : Opd)
  | app (e : TypeId) (k bytes : Nat) (x y : Opd)
  | copy (k : Nat) (x y : Opd)
  | mapUp (m k v : Opd)
  | del (m k : Opd)
  | clr (k : Nat) (zs : List AVal) (x : Opd)
  | next (x : Opd)
  /-- what has no law here: never run -/
  | bad
  /-- an interface value of a static type -/
  | mkif (T : Nat) (x : Opd)

structure SOper where
  dst : Option Nat
  op : SOp
  guard : Option (Nat × Bool)
  after : List Nat

inductive SCode where
  | skip
  | reg (tab : Option (List Nat)) (ops : List SOper)
  /-- a drawn region whose new variables' ids are kept free ahead -/
  | regA (tab : List Nat) (ops : List SOper)
  | seq (a b : SCode)
  | cond (c : Opd) (a b : SCode)
  | block (id : Nat) (c : SCode)
  | loop (c : SCode)
  | exit (id : Nat)
  | ret

def cellsFrom (σ : Heap) (i : Id) (off : Nat) : Nat → Option (List AVal)
  | 0 => some []
  | n + 1 => match σ.cell i off, cellsFrom σ i (off + 1) n with
    | some a, some l => some (a :: l)
    | _, _ => none
def aLoad (n : Option Nat) (x : AVal) (σ : Heap) : Option AVal :=
  match x with
  | .ptr i off => match n with
    | none => σ.cell i off
    | some n => (cellsFrom σ i off n).map .agg
  | .fptr cs => match n with
    | none => cs[0]?
    | some n => if n ≤ cs.length then some (.agg (cs.take n)) else none
  | _ => none

def over {α : Type} (l : List α) (off : Nat) (xs : List α) : List α := l.take off ++ xs ++ l.drop (off + xs.length)
def storeAt (σ : Heap) (k off : Nat) (xs : List AVal) : Option Heap :=
  match σ.get k with
  | some (.cells cs opn) => if off + xs.length ≤ cs.length && xs.all AVal.isCell then some (σ.set k (.cells (over cs off xs) opn)) else none
  | some (.tcells T cs) => if off + xs.length ≤ cs.length && xs.all AVal.isCell then some (σ.set k (.tcells T (over cs off xs))) else none
  | _ => none
def aStore (n : Nat) (a x : AVal) (σ : Heap) : Option Heap :=
  match a with
  | .ptr (.new k) off => if x.cells.length = n && !x.isRaw then storeAt σ k off x.cells else none
  | _ => none

def aFill : List AVal → List (Nat × Nat × AVal) → Option (List AVal)
  | cs, [] => some cs
  | cs, (off, size, v) :: rest =>
    if v.cells.length = size && off + size ≤ cs.length && !v.isRaw then aFill (over cs off v.cells) rest else none

def aPart (n : Option Nat) (cs : List AVal) (off : Nat) : Option AVal :=
  match n with
  | none => cs[off]?
  | some n => if off + n ≤ cs.length then some (.agg ((cs.drop off).take n)) else none

def aIdx (k : Nat) (x i : AVal) : Option AVal :=
  match x, i with
  | .slc b off len _, .int _ j => if 0 ≤ j && j < len then some (.ptr b (off + j.toNat * k)) else none
  | .fsl k' els, .int _ j => if k' = k && decide (0 ≤ j) then (els[j.toNat]?).map fun e => .fptr e.cells else none
  | _, _ => none
def aIdxR (n k : Nat) (x i : AVal) : Option AVal :=
  match x, i with
  | .ptr b off, .int _ j => if 0 ≤ j && j < n then some (.ptr b (off + j.toNat * k)) else none
  | _, _ => none
def aIdxS (x i : AVal) : Option AVal :=
  match x, i with
  | .str s, .int _ j => if 0 ≤ j then (s[j.toNat]?).map fun b => .int .u8 b.toNat else none
  | _, _ => none
def aIdxG (n k : Nat) (agg : Bool) (x i : AVal) : Option AVal :=
  match x, i with
  | .agg cs, .int _ j => if 0 ≤ j && j < n then aPart (if agg then some k else none) cs (j.toNat * k) else none
  | _, _ => none

def aBound (x : Option AVal) (d y : Nat) : Option Nat :=
  match x with
  | none => some d
  | some (.int _ i) => if 0 ≤ i && i ≤ y then some i.toNat else none
  | _ => none
def aSlc (k : Nat) (x : AVal) (lo hi mx : Option AVal) : Option AVal :=
  match x with
  | .nils => match aBound mx 0 0, aBound hi 0 0, aBound lo 0 0 with
    | some _, some _, some _ => if mx.isSome && hi.isNone then none else some .nils
    | _, _, _ => none
  | .slc b off len (.ex c) =>
    if mx.isSome && hi.isNone then none else
    match aBound mx c c with
    | some m => match aBound hi len m with
      | some h => match aBound lo 0 h with
        | some l => some (.slc b (if m = l then off else off + l * k) (h - l) (.ex (m - l)))
        | none => none
      | none => none
    | none => none
  | .slc b off len (.gr k') =>
    if k' ≠ k then none else
    match mx with
    | some m => if hi.isNone then none else match aBound (some m) len len with
      | some m => match aBound hi len m with
        | some h => match aBound lo 0 h with
          | some l => some (.slc b (if m = l then off else off + l * k) (h - l) (.ex (m - l)))
          | none => none
        | none => none
      | none => none
    | none => match aBound hi len len with
      | some h => match aBound lo 0 h with
        | some l => if l = 0 then some (.slc b off h (.gr k)) else if l < len then some (.slc b (off + l * k) (h - l) (.gr k)) else some .emp
        | none => none
      | none => none
  | .fsl k' els =>
    if k' ≠ k || (mx.isSome && hi.isNone) then none else
    match aBound mx els.length els.length with
    | some m => match aBound hi els.length m with
      | some h => match aBound lo 0 h with
        | some l => if mx.isSome && m = 0 then some .emp0 else some (.fsl k ((els.take h).drop l))
        | none => none
      | none => none
    | none => none
  | _ => none
def aSlcS (x : AVal) (lo hi : Option AVal) : Option AVal :=
  match x with
  | .str s => match aBound hi s.length s.length with
    | some h => match aBound lo 0 h with
      | some l => some (.str ((s.take h).drop l))
      | none => none
    | none => none
  | _ => none
def aSlcR (n k : Nat) (x : AVal) (lo hi mx : Option AVal) : Option AVal :=
  match x with
  | .ptr b off =>
    if mx.isSome && hi.isNone then none else
    match aBound mx n n with
    | some m => match aBound hi n m with
      | some h => match aBound lo 0 h with
        | some l => some (.slc b (if m = l then off else off + l * k) (h - l) (.ex (m - l)))
        | none => none
      | none => none
    | none => none
  | _ => none
def aLen : AVal → Option AVal
  | .nils => some (.int .i64 0)
  | .emp => some (.int .i64 0)
  | .emp0 => some (.int .i64 0)
  | .slc _ _ len _ => some (.int .i64 len)
  | .fsl _ els => some (.int .i64 els.length)
  | _ => none
def aLenS : AVal → Option AVal
  | .str s => some (.int .i64 s.length)
  | _ => none
def aMax2 : AVal → AVal → Option AVal
  | .int k x, .int k' y => if k = k' then some (.int k (if y > x then y else x)) else none
  | _, _ => none
def aMin2 : AVal → AVal → Option AVal
  | .int k x, .int k' y => if k = k' then some (.int k (if y < x then y else x)) else none
  | _, _ => none
def foldO (f : AVal → AVal → Option AVal) : AVal → List AVal → Option AVal
  | x, [] => some x
  | x, y :: l => match f x y with
    | some z => foldO f z l
    | none => none

def mapFind (n : Int) : List (Int × AVal) → Option AVal
  | [] => none
  | (m, a) :: l => if m = n then some a else mapFind n l
def mapPut (n : Int) (a : AVal) : List (Int × AVal) → List (Int × AVal)
  | [] => [(n, a)]
  | (m, b) :: l => if m = n then (n, a) :: l else if n < m then (n, a) :: (m, b) :: l else (m, b) :: mapPut n a l
def mapDel (n : Int) : List (Int × AVal) → List (Int × AVal)
  | [] => []
  | (m, b) :: l => if m = n then l else (m, b) :: mapDel n l
def aLook (zero : AVal) (ok : Bool) (x k : AVal) (σ : Heap) : Option AVal :=
  match k with
  | .int .i64 n => match (match x with
      | .nilm => some []
      | .mp (.new m) => match σ.get m with
        | some (.map es) => some es
        | _ => none
      | _ => none) with
    | some es => match mapFind n es with
      | some a => some (if ok then .tup [a, .bool true] else a)
      | none => some (if ok then .tup [zero, .bool false] else zero)
    | none => none
  | _ => none
def aLenM (x : AVal) (σ : Heap) : Option AVal :=
  match x with
  | .nilm => some (.int .i64 0)
  | .mp (.new m) => match σ.get m with
    | some (.map es) => some (.int .i64 es.length)
    | _ => none
  | _ => none

def asByte : AVal → Option UInt8
  | .int .u8 n => some (UInt8.ofNat n.toNat)
  | _ => none
def asBytes : List AVal → Option (List UInt8)
  | [] => some []
  | a :: l => match asByte a, asBytes l with
    | some b, some bs => some (b :: bs)
    | _, _ => none
def slcCells (σ : Heap) (k n : Nat) (x : AVal) : Option (List AVal) :=
  match x with
  | .nils => if n = 0 then some [] else none
  | .emp => if n = 0 then some [] else none
  | .emp0 => if n = 0 then some [] else none
  | .slc i off len _ => if n ≤ len then cellsFrom σ i off (n * k) else none
  | .fsl k' els => if k' = k && n ≤ els.length then some ((els.take n).flatMap AVal.cells) else none
  | _ => none
def aBstr (x : AVal) (σ : Heap) : Option AVal :=
  match x with
  | .nils => some (.str [])
  | .slc _ _ len _ => match slcCells σ 1 len x with
    | some cs => (asBytes cs).map .str
    | none => none
  | .fsl k els => if k = 1 then (asBytes (els.flatMap AVal.cells)).map .str else none
  | _ => none
def byteCells (s : List UInt8) : List AVal := s.map fun b => .int .u8 b.toNat
def repl (n : Nat) (zs : List AVal) : List AVal := (List.replicate n zs).flatten
def aLenOf : AVal → Option Nat
  | .nils => some 0
  | .emp => some 0
  | .emp0 => some 0
  | .slc _ _ len _ => some len
  | .fsl _ els => some els.length
  | .str s => some s.length
  | _ => none
def srcCells (σ : Heap) (k n : Nat) (y : AVal) : Option (List AVal) :=
  match y with
  | .str s => if n ≤ s.length && k = 1 then some (byteCells (s.take n)) else none
  | y => slcCells σ k n y

def maxRoom : Nat := 2 ^ 36
def aApp (e : TypeId) (k bytes : Nat) (x y : AVal) (σ : Heap) : Option (AVal × Heap) :=
  match aLenOf y with
  | none => none
  | some m =>
    match srcCells σ k m y with
    | none => none
    | some ys =>
      if !(ys.all AVal.isCell) || bytes = 0 || k = 0 then none else
      match x with
      | .nils => if m = 0 then some (.nils, σ) else
        if m * bytes ≤ maxRoom then some (.slc (.new σ.next) 0 m (.gr k), σ.new (.cells ys (some e))) else none
      | .emp0 => if m = 0 then some (.emp0, σ) else
        if m * bytes ≤ maxRoom then some (.slc (.new σ.next) 0 m (.gr k), σ.new (.cells ys (some e))) else none
      | .fsl k' els => if m = 0 then some (.fsl k' els, σ) else none
      | .slc i off len (.ex c) =>
        if len + m ≤ c then
          if m = 0 then some (x, σ) else
          match i with
          | .new b => (storeAt σ b (off + len * k) ys).map fun σ' => (.slc i off (len + m) (.ex c), σ')
          | .old _ => none
        else if (len + m) * bytes ≤ maxRoom then
          match cellsFrom σ i off (len * k) with
          | some xs => some (.slc (.new σ.next) 0 (len + m) (.gr k), σ.new (.cells (xs ++ ys) (some e)))
          | none => none
        else none
      | .slc (.new b) off len (.gr k') =>
        if m = 0 then some (x, σ) else
        if k' = k && (len + m) * bytes ≤ maxRoom then
          match σ.get b, cellsFrom σ (.new b) off (len * k) with
          | some (.cells cs (some e')), some xs =>
            if off = 0 && cs.length = len * k && decide (e' = e) then some (.slc (.new σ.next) 0 (len + m) (.gr k), (σ.set b .dead).new (.cells (xs ++ ys) (some e))) else none
          | _, _ => none
        else none
      | _ => none
def aSLen : AVal → Option Nat
  | .nils => some 0
  | .emp => some 0
  | .slc _ _ len _ => some len
  | _ => none
def aCopy (k : Nat) (x y : AVal) (σ : Heap) : Option (AVal × Heap) :=
  match aSLen x, aLenOf y with
  | some d, some s =>
    match srcCells σ k (min s d) y with
    | some ys => if min s d = 0 then some (.int .i64 0, σ) else
      match x with
      | .slc (.new b) off _ _ => (storeAt σ b off ys).map fun σ' => (.int .i64 (min s d : Nat), σ')
      | _ => none
    | none => none
  | _, _ => none
def aNext (x : AVal) (σ : Heap) : Option (AVal × Heap) :=
  match x with
  | .ptr (.new k) 0 => match σ.get k with
    | some (.iter s pos) =>
      if pos < s.length then
        let (c, width) := Utf8.decode ⟨s.toArray⟩ pos
        some (.tup [.bool true, .int .i64 pos, .int .i32 c], σ.set k (.iter s (pos + width)))
      else some (.tup [.bool false], σ)
    | _ => none
  | _ => none

def evs (fr : Frame) (l : List Opd) : List AVal := l.map (Opd.ev fr)
def evO (fr : Frame) (x : Option Opd) : Option AVal := x.map (Opd.ev fr)
def evParts (fr : Frame) (l : List (Nat × Nat × Opd)) : List (Nat × Nat × AVal) := l.map fun (a, b, x) => (a, b, x.ev fr)

def AVal.same0 : AVal → AVal → Bool
  | .bool a, .bool b => a == b
  | .int k a, .int k' b => decide (k = k') && decide (a = b)
  | .str s, .str t => s == t
  | .nilp, .nilp => true
  | .ptr i o, .ptr j p => decide (i = j) && o == p
  | .nils, .nils => true
  | .slc i a b c, .slc i' a' b' c' => decide (i = i') && a == a' && b == b' && decide (c = c')
  | .emp, .emp => true
  | .nilm, .nilm => true
  | .mp i, .mp j => decide (i = j)
  | .nilf, .nilf => true
  | .fn f l, .fn g m => decide (f = g) && l.isEmpty && m.isEmpty
  | _, _ => false
def sames0 : List AVal → List AVal → Bool
  | [], [] => true
  | a :: l, b :: m => a.same0 b && sames0 l m
  | _, _ => false
def AVal.same : AVal → AVal → Bool
  | .agg l, .agg m => sames0 l m
  | .tup l, .tup m => sames0 l m
  | a, b => a.same0 b
theorem AVal.same0_eq {a b : AVal} (h : a.same0 b = true) : a = b := by
  unfold AVal.same0 at h
  split at h <;> simp only [Bool.and_eq_true, beq_iff_eq, decide_eq_true_eq, List.isEmpty_iff, reduceCtorEq, Bool.false_eq_true] at h <;> first | rfl | skip
  · rw [h]
  · rw [h.1, h.2]
  · rw [h]
  · rw [h.1, h.2]
  · obtain ⟨⟨⟨h1, h2⟩, h3⟩, h4⟩ := h; rw [h1, h2, h3, h4]
  · rw [h]
  · obtain ⟨⟨h1, h2⟩, h3⟩ := h; rw [h1, h2, h3]
theorem sames0_eq : ∀ {l m : List AVal}, sames0 l m = true → l = m
  | [], [], _ => rfl
  | a :: l, b :: m, h => by
    simp only [sames0, Bool.and_eq_true] at h
    rw [AVal.same0_eq h.1, sames0_eq h.2]
  | [], _ :: _, h => by simp [sames0] at h
  | _ :: _, [], h => by simp [sames0] at h
theorem AVal.same_eq {a b : AVal} (h : a.same b = true) : a = b := by
  unfold AVal.same at h
  split at h
  · rw [sames0_eq h]
  · rw [sames0_eq h]
  · exact AVal.same0_eq h

def aop (o : SOp) (fr : Frame) (σ : Heap) : Option (AVal × Heap) :=
  let p (v : Option AVal) : Option (AVal × Heap) := v.map fun v => (v, σ)
  match o with
  | .lay k zs => match σ.get k with
    | some (.cells cs none) => if sames0 cs zs then some (.ptr (.new k) 0, σ) else none
    | _ => none
  | .layB q k zs len parts => match σ.get q with
    | some (.cells cs none) => match aFill (repl len zs) (evParts fr parts) with
      | some cs' => if sames0 cs cs' && decide (cs'.length = len * k) then some (.slc (.new q) 0 len (.ex len), σ) else none
      | none => none
    | _ => none
  | .mv x => some (x.ev fr, σ)
  | .pick c a b => match c.ev fr with
    | .bool true => some (a.ev fr, σ)
    | .bool false => some (b.ev fr, σ)
    | _ => none
  | .nilc x => match x.ev fr with
    | .ptr i off => some (.ptr i off, σ)
    | .fn f c => some (.fn f c, σ)
    | .mp i => some (.mp i, σ)
    | .nilm => some (.nilm, σ)
    | .fptr cs => some (.fptr cs, σ)
    | _ => none
  | .bin op e x y => p (aBin op e (x.ev fr) (y.ev fr))
  | .not x => match x.ev fr with
    | .bool b => some (.bool (!b), σ)
    | _ => none
  | .neg x => match x.ev fr with
    | .int k n => some (.int k (k.wrap (0 - n)), σ)
    | _ => none
  | .cint k x => match x.ev fr with
    | .int _ n => some (.int k (k.wrap n), σ)
    | _ => none
  | .cstr x => match x.ev fr with
    | .int _ n => some (.str (Utf8.encode n).data.toList, σ)
    | .str s => some (.str s, σ)
    | _ => none
  | .mkfn f caps => some (.fn f (evs fr caps), σ)
  | .fld n off x => match x.ev fr with
    | .agg cs => p (aPart n cs off)
    | _ => none
  | .fldA off x => match x.ev fr with
    | .ptr i o => some (.ptr i (o + off), σ)
    | .fptr cs => some (.fptr (cs.drop off), σ)
    | _ => none
  | .idxA k x i => p (aIdx k (x.ev fr) (i.ev fr))
  | .idxR n k x i => p (aIdxR n k (x.ev fr) (i.ev fr))
  | .idxS x i => p (aIdxS (x.ev fr) (i.ev fr))
  | .idxG n k agg x i => p (aIdxG n k agg (x.ev fr) (i.ev fr))
  | .build zero parts => p ((aFill zero (evParts fr parts)).map .agg)
  | .ext x i => match x.ev fr with
    | .tup l => p (l[i]?)
    | _ => none
  | .len x => p (aLen (x.ev fr))
  | .lenS x => p (aLenS (x.ev fr))
  | .lenC n => some (.int .i64 n, σ)
  | .slc k x lo hi mx => p (aSlc k (x.ev fr) (evO fr lo) (evO fr hi) (evO fr mx))
  | .slcS x lo hi => p (aSlcS (x.ev fr) (evO fr lo) (evO fr hi))
  | .slcR n k x lo hi mx => p (aSlcR n k (x.ev fr) (evO fr lo) (evO fr hi) (evO fr mx))
  | .maxs x l => p (foldO aMax2 (x.ev fr) (evs fr l))
  | .mins x l => p (foldO aMin2 (x.ev fr) (evs fr l))
  | .load n x => p (aLoad n (x.ev fr) σ)
  | .look zero ok x k => p (aLook zero ok (x.ev fr) (k.ev fr) σ)
  | .lenM x => p (aLenM (x.ev fr) σ)
  | .bstr x => p (aBstr (x.ev fr) σ)
  | .alloc zs => some (.ptr (.new σ.next) 0, σ.new (.cells zs none))
  | .allocT T zs => some (.ptr (.new σ.next) 0, σ.new (.tcells T zs))
  | .box x => if (x.ev fr).isRaw then none else some (.ptr (.new σ.next) 0, σ.new (.cells (x.ev fr).cells none))
  | .bslc k zs len parts => match aFill (repl len zs) (evParts fr parts) with
    | some cs => if cs.length = len * k then some (.slc (.new σ.next) 0 len (.ex len), σ.new (.cells cs none)) else none
    | none => none
  | .mslc k bytes zs l c => match l.ev fr, c.ev fr with
    | .int .i64 l, .int .i64 c =>
      if 0 ≤ l && l ≤ c && c.toNat * bytes ≤ maxRoom && c ≤ 2 ^ 62 && zs.length = k then
        some (.slc (.new σ.next) 0 l.toNat (.ex c.toNat), σ.new (.cells (repl c.toNat zs) none))
      else none
    | _, _ => none
  | .bad => none
  | .mkif T x => p ((conc (x.ev fr)).map fun v => .raw (.iface T v))
  | .mmap => some (.mp (.new σ.next), σ.new (.map []))
  | .iter x => match x.ev fr with
    | .str s => some (.ptr (.new σ.next) 0, σ.new (.iter s 0))
    | _ => none
  | .bytes e x => match x.ev fr with
    | .str s => if s.length ≤ maxRoom then some (.slc (.new σ.next) 0 s.length (.gr 1), σ.new (.cells (byteCells s) (some e))) else none
    | _ => none
  | .store n a x => (aStore n (a.ev fr) (x.ev fr) σ).map fun σ' => (.undef, σ')
  | .app e k bytes x y => aApp e k bytes (x.ev fr) (y.ev fr) σ
  | .copy k x y => aCopy k (x.ev fr) (y.ev fr) σ
  | .mapUp m k v => match m.ev fr, k.ev fr with
    | .mp (.new b), .int .i64 n => match σ.get b with
      | some (.map es) => some (.undef, σ.set b (.map (mapPut n (v.ev fr) es)))
      | _ => none
    | _, _ => none
  | .del m k => match m.ev fr, k.ev fr with
    | .mp (.new b), .int .i64 n => match σ.get b with
      | some (.map es) => some (.undef, σ.set b (.map (mapDel n es)))
      | _ => none
    | _, _ => none
  | .clr k zs x => match x.ev fr with
    | .nils => some (.undef, σ)
    | .emp => some (.undef, σ)
    | .slc (.new b) off len _ => if zs.length = k then (storeAt σ b off (repl len zs)).map fun σ' => (.undef, σ') else none
    | _ => none
  | .next x => aNext (x.ev fr) σ
  | .call _ _ => none

structure FR (φ : Phi) (n : Nat) (fr : Frame) (a : Act) : Prop where
  size : a.tmps.size = n
  tmps : ∀ t, t < n → VR φ (fr.get t) (a.tmps.getD t Go.undef)
  defers : a.defers = []
theorem FR.mono {φ φ' : Phi} {n : Nat} {fr : Frame} {a : Act} (h : φ.le φ') (hf : FR φ n fr a) : FR φ' n fr a :=
  ⟨hf.size, fun t ht => (hf.tmps t ht).mono h, hf.defers⟩
theorem VR.undef (φ : Phi) : VR φ .undef Go.undef := by
  have := VR.tup (φ := φ) (l := []) (vs := []) .nil
  exact this
theorem FR.put {φ : Phi} {n : Nat} {fr : Frame} {a : Act} (hf : FR φ n fr a) {t : Option Nat} {x : AVal} {v : Value} (hv : VR φ x v) :
    FR φ n (fr.putO t x) (a.put t v) := by
  cases t with
  | none => exact hf
  | some t =>
    refine ⟨by simp [Act.put, hf.size], ?_, hf.defers⟩
    intro s hs
    simp only [Frame.putO, Frame.get_put, Act.put]
    by_cases e : t = s
    · subst e
      rw [if_pos rfl]
      have : t < a.tmps.size := by rw [hf.size]; exact hs
      simpa [Array.getD_eq_getD_getElem?, this] using hv
    · rw [if_neg e]
      have := hf.tmps s hs
      simpa [Array.getD_eq_getD_getElem?, Array.getElem?_setIfInBounds_ne e] using this

theorem VRs.ofVal (φ : Phi) : ∀ l : List Value, VRs φ (l.map Mini.ofVal) l
  | [] => .nil
  | v :: l => .cons (ofVal_VR φ v) (VRs.ofVal φ l)
theorem ofVal1_VR (φ : Phi) (v : Value) : VR φ (ofVal1 v) v := by
  unfold ofVal1
  split
  · have := VR.agg (VRs.ofVal φ (Array.toList ‹_›)); simpa using this
  · have := VR.tup (VRs.ofVal φ (Array.toList ‹_›)); simpa using this
  · exact .nilf
  · exact .nilm
  · exact ofVal_VR φ _

theorem Rel.congr {φ : Phi} {σ τ : Heap} {w : World} (hr : Rel φ σ w) (hW : τ.W = σ.W) (hF : τ.F0 = σ.F0) (hn : τ.next = σ.next) (hg : ∀ k, τ.get k = σ.get k) : Rel φ τ w := by
  have hl : ∀ k, τ.live k → σ.live k := fun k ⟨b, hb, hd⟩ => ⟨b, by rw [← hg]; exact hb, hd⟩
  constructor
  · rw [hW]; exact hr.size
  · rw [hW]; exact hr.old
  · intro k b sz e
    obtain ⟨h1, o, ho, h2⟩ := hr.new k b sz e
    rw [hW]
    exact ⟨h1, o, ho, fun blk hb => h2 blk (by rw [← hg]; exact hb)⟩
  · exact fun k k' b sz sz' e e' hk hk' => hr.inj k k' b sz sz' e e' (hl k hk) (hl k' hk')
  · rw [hn]; exact hr.fresh
  · rw [hn]; exact hr.resv
  · rw [hW]; exact hr.tape
  · rw [hW]; exact hr.os
  · rw [hW]; exact hr.output
  · exact hr.frz
  · exact fun k b sz j e h => hr.apart k b sz j e (hl k h)
  · rw [hW, hF]; exact hr.base
  · rw [hW, hF]; exact hr.drawn

section
variable {P : Program} {φ : Phi} {σ : Heap} {w : World}

theorem loadCells_ok (hr : Rel φ σ w) {i : Id} {b : Nat} (hi : i.real φ = some b) : ∀ (n off o j : Nat) (l : List AVal) (acc : Array Value), cellsFrom σ i off n = some l → off = o + j →
    ∃ vs : List Value, (loadCellsFrom ⟨b, o, none⟩ j n acc).run P w = .ok (acc ++ vs.toArray) w ∧ VRs φ l vs := by
  intro n
  induction n with
  | zero =>
    intro off o j l acc h e
    simp only [cellsFrom, Option.some.injEq] at h
    subst h
    exact ⟨[], by simp [loadCellsFrom], .nil⟩
  | succ n ih =>
    intro off o j l acc h e
    simp only [cellsFrom] at h
    split at h
    · rename_i a l' ha hl
      simp only [Option.some.injEq] at h
      subst h
      obtain ⟨v, hv, hvr⟩ := hr.cell ha hi
      obtain ⟨vs, hvs, hvrs⟩ := ih (off + 1) o (j + 1) l' (acc.push v) hl (by omega)
      refine ⟨v :: vs, ?_, .cons hvr hvrs⟩
      have hadd : (⟨b, o, none⟩ : Addr).add j = ⟨b, o + j, none⟩ := Addr.add_lit b o j
      simp only [loadCellsFrom, Sem.run_bind, run_load, hadd, ← e, hv, Result.andThen_ok, hvs]
      simp
    · cases h

theorem loadF_ok (hr : Rel φ σ w) : ∀ (vs : List Value) (b o j : Nat) (acc : Array Value), (∀ i v, vs[i]? = some v → φ.F b (o + (j + i)) = some v) →
    (loadCellsFrom ⟨b, o, none⟩ j vs.length acc).run P w = .ok (acc ++ vs.toArray) w
  | [], b, o, j, acc, h => by simp [loadCellsFrom]
  | v :: vs, b, o, j, acc, h => by
    have h0 := hr.frz _ _ _ (h 0 v rfl)
    have hadd : (⟨b, o, none⟩ : Addr).add j = ⟨b, o + j, none⟩ := Addr.add_lit b o j
    have ih := loadF_ok hr vs b o (j + 1) (acc.push v) (fun i u e => by
      have := h (i + 1) u (by simpa using e)
      rwa [show j + 1 + i = j + (i + 1) by omega])
    simp only [Nat.add_zero] at h0
    simp only [List.length_cons, loadCellsFrom, Sem.run_bind, run_load, hadd, h0, Result.andThen_ok, ih]
    simp
theorem VR.cells {a : AVal} {v : Value} (h : VR φ a v) (hn : a.isRaw = false) : VRs φ a.cells v.cells.toList := by
  cases h with
  | agg h => simpa [AVal.cells, Value.cells] using h
  | raw v => simp [AVal.isRaw] at hn
  | bool b => exact .cons (.bool b) .nil
  | int k n => exact .cons (.int k n) .nil
  | str s => exact .cons (.str s) .nil
  | nilp => exact .cons .nilp .nil
  | ptr off e => exact .cons (.ptr off e) .nil
  | nils => exact .cons .nils .nil
  | slcE off len c e => exact .cons (.slcE off len c e) .nil
  | slcG off len c e1 e2 e3 => exact .cons (.slcG off len c e1 e2 e3) .nil
  | emp a c => exact .cons (.emp a c) .nil
  | nilm => exact .cons .nilm .nil
  | mp e => exact .cons (.mp e) .nil
  | nilf => exact .cons .nilf .nil
  | fn f e => exact .cons (.fn f e) .nil
  | tup e => exact .cons (.tup e) .nil
  | fsl c h1 h2 h3 h4 => exact .cons (.fsl c h1 h2 h3 h4) .nil
  | fslN k a c h => exact .cons (.fslN k a c h) .nil
  | fptr h1 h2 => exact .cons (.fptr h1 h2) .nil
  | emp0 a => exact .cons (.emp0 a) .nil
theorem VR.oneCell {a : AVal} {v : Value} (h : VR φ a v) (hn : a.isCell = true) : v.oneCell' = true := by
  cases h <;> simp_all [AVal.isCell, Value.oneCell']

theorem over_nil {α : Type} (l : List α) (off : Nat) : over l off ([] : List α) = l := by simp [over]
theorem over_length {α : Type} (l xs : List α) (off : Nat) (h : off + xs.length ≤ l.length) : (over l off xs).length = l.length := by
  simp [over]; omega
theorem over_get {α : Type} (l xs : List α) (off j : Nat) (h : off + xs.length ≤ l.length) : (over l off xs)[j]? = if off ≤ j ∧ j < off + xs.length then xs[j - off]? else l[j]? := by
  have ht : (List.take off l).length = off := by simp; omega
  unfold over
  rw [List.append_assoc]
  by_cases h1 : j < off
  · rw [List.getElem?_append_left (by omega), if_neg (by omega), List.getElem?_take, if_pos h1]
  · rw [List.getElem?_append_right (by omega), ht]
    by_cases h2 : j < off + xs.length
    · rw [List.getElem?_append_left (by omega), if_pos (by omega)]
    · rw [List.getElem?_append_right (by omega), if_neg (by omega), List.getElem?_drop]
      congr 1; omega
theorem over_cons {α : Type} (l xs : List α) (off : Nat) (x : α) (h : off + (xs.length + 1) ≤ l.length) : over (l.set off x) (off + 1) xs = over l off (x :: xs) := by
  apply List.ext_getElem?
  intro j
  rw [over_get _ _ _ _ (by simp; omega), over_get _ _ _ _ (by simp; omega)]
  simp only [List.length_cons]
  by_cases h2 : j = off
  · subst h2
    rw [if_neg (by omega), if_pos (by omega), List.getElem?_set_self (by omega)]
    simp
  · rw [List.getElem?_set_ne (fun e => h2 e.symm)]
    by_cases h3 : off + 1 ≤ j ∧ j < off + 1 + xs.length
    · rw [if_pos h3, if_pos (by omega)]
      have : j - off = (j - (off + 1)) + 1 := by omega
      rw [this]; simp
    · rw [if_neg h3, if_neg (by omega)]

theorem storeCells_ok : ∀ (xs : List AVal) (vs : List Value) (σ : Heap) (w : World) (k b sz off o j : Nat) (cs : List AVal) (opn : Option TypeId), VRs φ xs vs → Rel φ σ w → φ k = some (b, sz) →
    σ.get k = some (.cells cs opn) → off = o + j → off + xs.length ≤ cs.length → xs.all AVal.isCell = true →
    ∃ w', (storeCells ⟨b, o, none⟩ vs j).run P w = .ok () w' ∧ Rel φ (σ.set k (.cells (over cs off xs) opn)) w' := by
  intro xs
  induction xs with
  | nil =>
    intro vs σ w k b sz off o j cs opn hv hr hk hg e hl hc
    cases hv
    refine ⟨w, by simp [storeCells], hr.congr rfl rfl rfl ?_⟩
    intro m
    rw [Heap.get_set, over_nil]
    split
    · rename_i h; subst h; exact hg.symm
    · rfl
  | cons x xs ih =>
    intro vs σ w k b sz off o j cs opn hv hr hk hg e hl hc
    cases hv with
    | @cons _ v _ vs h1 h2 =>
      simp only [List.length_cons] at hl
      simp only [List.all_cons, Bool.and_eq_true] at hc
      obtain ⟨⟨u, hu⟩, hf, hr'⟩ := hr.store (off := off) hk hg (by omega) h1
      have hadd : (⟨b, o, none⟩ : Addr).add j = ⟨b, off, none⟩ := by rw [e]; exact Addr.add_lit b o j
      obtain ⟨w', hw', hr''⟩ := ih vs _ _ k b sz (off + 1) o (j + 1) (cs.set off x) opn h2 hr' hk (by rw [Heap.get_set, if_pos rfl]) (by omega) (by simp; omega) hc.2
      refine ⟨w', ?_, hr''.congr rfl rfl rfl ?_⟩
      · simp only [storeCells, Sem.run_bind, hadd, run_store _ _ _ _ _ (h1.oneCell hc.1), hu, hf]
        simpa using hw'
      · intro m
        simp only [Heap.get_set]
        split
        · rw [over_cons cs xs off x (by omega)]
        · rfl

theorem storeCells_okT : ∀ (xs : List AVal) (vs : List Value) (σ : Heap) (w : World) (k b sz off o j : Nat) (T : TypeId) (cs : List AVal), VRs φ xs vs → Rel φ σ w → φ k = some (b, sz) →
    σ.get k = some (.tcells T cs) → off = o + j → off + xs.length ≤ cs.length → xs.all AVal.isCell = true →
    ∃ w', (storeCells ⟨b, o, none⟩ vs j).run P w = .ok () w' ∧ Rel φ (σ.set k (.tcells T (over cs off xs))) w' := by
  intro xs
  induction xs with
  | nil =>
    intro vs σ w k b sz off o j T cs hv hr hk hg e hl hc
    cases hv
    refine ⟨w, by simp [storeCells], hr.congr rfl rfl rfl ?_⟩
    intro m
    rw [Heap.get_set, over_nil]
    split
    · rename_i h; subst h; exact hg.symm
    · rfl
  | cons x xs ih =>
    intro vs σ w k b sz off o j T cs hv hr hk hg e hl hc
    cases hv with
    | @cons _ v _ vs h1 h2 =>
      simp only [List.length_cons] at hl
      simp only [List.all_cons, Bool.and_eq_true] at hc
      obtain ⟨⟨u, hu⟩, hf, hr'⟩ := hr.storeT (off := off) hk hg (by omega) h1
      have hadd : (⟨b, o, none⟩ : Addr).add j = ⟨b, off, none⟩ := by rw [e]; exact Addr.add_lit b o j
      obtain ⟨w', hw', hr''⟩ := ih vs _ _ k b sz (off + 1) o (j + 1) T (cs.set off x) h2 hr' hk (by rw [Heap.get_set, if_pos rfl]) (by omega) (by simp; omega) hc.2
      refine ⟨w', ?_, hr''.congr rfl rfl rfl ?_⟩
      · simp only [storeCells, Sem.run_bind, hadd, run_store _ _ _ _ _ (h1.oneCell hc.1), hu, hf]
        simpa using hw'
      · intro m
        simp only [Heap.get_set]
        split
        · rw [over_cons cs xs off x (by omega)]
        · rfl
theorem storeAt_ok {σ' : Heap} {k off b sz : Nat} {xs : List AVal} {vs : List Value} (h : storeAt σ k off xs = some σ') (hv : VRs φ xs vs) (hr : Rel φ σ w) (hk : φ k = some (b, sz)) :
    ∃ w', (storeCells ⟨b, off, none⟩ vs 0).run P w = .ok () w' ∧ Rel φ σ' w' := by
  unfold storeAt at h
  split at h
  · rename_i cs opn hg
    split at h
    · rename_i hc
      simp only [Bool.and_eq_true, decide_eq_true_eq] at hc
      simp only [Option.some.injEq] at h
      subst h
      exact storeCells_ok xs vs σ w k b sz off off 0 cs opn hv hr hk hg (by omega) hc.1 hc.2
    · cases h
  · rename_i T cs hg
    split at h
    · rename_i hc
      simp only [Bool.and_eq_true, decide_eq_true_eq] at hc
      simp only [Option.some.injEq] at h
      subst h
      exact storeCells_okT xs vs σ w k b sz off off 0 T cs hv hr hk hg (by omega) hc.1 hc.2
    · cases h
  · cases h

theorem flatMap_take {k : Nat} : ∀ (els : List AVal) (m : Nat), (∀ e ∈ els, e.cells.length = k) → m ≤ els.length → (els.take m).flatMap AVal.cells = (els.flatMap AVal.cells).take (m * k) ∧ ((els.take m).flatMap AVal.cells).length = m * k
  | els, 0, _, _ => by simp
  | [], m + 1, _, h => by simp at h
  | e :: els, m + 1, he, h => by
    obtain ⟨h1, h2⟩ := flatMap_take els m (fun x hx => he x (List.mem_cons_of_mem _ hx)) (by simpa using h)
    have h0 := he e (List.mem_cons_self ..)
    have hs : (m + 1) * k = e.cells.length + m * k := by rw [h0, Nat.add_mul]; omega
    constructor
    · rw [List.take_succ_cons, List.flatMap_cons, List.flatMap_cons, h1, hs, List.take_length_add_append]
    · rw [List.take_succ_cons, List.flatMap_cons, List.length_append, h2, hs]
theorem flatMap_drop {k : Nat} : ∀ (els : List AVal) (m : Nat), (∀ e ∈ els, e.cells.length = k) → (els.drop m).flatMap AVal.cells = (els.flatMap AVal.cells).drop (m * k)
  | els, 0, _ => by simp
  | [], m + 1, _ => by simp
  | e :: els, m + 1, he => by
    have h0 := he e (List.mem_cons_self ..)
    have hs : (m + 1) * k = e.cells.length + m * k := by rw [h0, Nat.add_mul]; omega
    rw [List.drop_succ_cons, List.flatMap_cons, flatMap_drop els m (fun x hx => he x (List.mem_cons_of_mem _ hx)), hs, List.drop_length_add_append]
theorem flatMap_get {k : Nat} (els : List AVal) (j : Nat) (he : ∀ e ∈ els, e.cells.length = k) {e : AVal} (hj : els[j]? = some e) : ((els.flatMap AVal.cells).drop (j * k)).take k = e.cells := by
  have hlt := (List.getElem?_eq_some_iff.1 hj).1
  rw [← flatMap_drop els j he, List.drop_eq_getElem_cons hlt, (List.getElem?_eq_some_iff.1 hj).2, List.flatMap_cons]
  have h0 := he e (List.mem_of_getElem? hj)
  rw [← h0, List.take_left]
theorem VRs.flat_len {k : Nat} {els : List AVal} {vs : List Value} (h : VRs φ (els.flatMap AVal.cells) vs) (he : ∀ e ∈ els, e.cells.length = k) : vs.length = els.length * k := by
  have := (flatMap_take els els.length he (Nat.le_refl _)).2
  rw [List.take_length] at this
  rw [← h.length, this]
end
inductive Kind where
  | pure | read | eff
  deriving DecidableEq
def SOp.kind : SOp → Kind
  | .load _ _ | .look _ _ _ _ | .lenM _ | .bstr _ | .lay _ _ | .layB _ _ _ _ _ => .read
  | .alloc _ | .allocT _ _ | .box _ | .bslc _ _ _ _ | .mslc _ _ _ _ _ | .mmap | .iter _ | .bytes _ _ | .store _ _ _ | .app _ _ _ _ _ | .copy _ _ _ | .mapUp _ _ _ | .del _ _ | .clr _ _ _ | .next _ | .call _ _ => .eff
  | _ => .pure

def Opd.tmps : Opd → List Nat
  | .tmp t => [t]
  | .lit _ => []
  | .meth _ t ts => t :: ts
def oTmps (x : Option Opd) : List Nat := match x with
  | some x => x.tmps
  | none => []
def lTmps (l : List Opd) : List Nat := l.flatMap Opd.tmps
def pTmps (l : List (Nat × Nat × Opd)) : List Nat := l.flatMap fun p => p.2.2.tmps
def SOp.tmps : SOp → List Nat
  | .mv x | .nilc x | .not x | .neg x | .cint _ x | .cstr x | .fld _ _ x | .fldA _ x | .ext x _ | .len x | .lenS x | .load _ x | .lenM x | .bstr x | .box x | .iter x | .bytes _ x | .clr _ _ x | .next x | .mkif _ x => x.tmps
  | .pick c a b => c.tmps ++ a.tmps ++ b.tmps
  | .bin _ _ x y | .idxA _ x y | .idxR _ _ x y | .idxS x y | .idxG _ _ _ x y | .look _ _ x y | .mslc _ _ _ x y | .store _ x y | .app _ _ _ x y | .copy _ x y | .del x y => x.tmps ++ y.tmps
  | .mkfn _ l => lTmps l
  | .build _ p | .bslc _ _ _ p | .layB _ _ _ _ p => pTmps p
  | .lenC _ | .alloc _ | .allocT _ _ | .mmap | .bad | .lay _ _ => []
  | .slc _ x lo hi mx | .slcR _ _ x lo hi mx => x.tmps ++ oTmps lo ++ oTmps hi ++ oTmps mx
  | .slcS x lo hi => x.tmps ++ oTmps lo ++ oTmps hi
  | .maxs x l | .mins x l => x.tmps ++ lTmps l
  | .mapUp m k v => m.tmps ++ k.tmps ++ v.tmps
  | .call f l => f.tmps ++ lTmps l
def SOper.looks (o : SOper) : List Nat := o.op.tmps ++ (match o.guard with
  | some (t, _) => [t]
  | none => [])


def ancOf (acc : List Nat) (l : List Nat) : Nat := l.foldl (fun s j => s ||| 2 ^ j ||| acc.getD j 0) 0
def ancsFrom : List Nat → List SOper → List Nat
  | acc, [] => acc
  | acc, o :: os => ancsFrom (acc ++ [ancOf acc o.after]) os
def ancs (ops : List SOper) : List Nat := ancsFrom [] ops
def bef (tab : List Nat) (i j : Nat) : Bool := (tab.getD i 0).testBit j
theorem ancOf_bit (acc : List Nat) : ∀ (l : List Nat) (s i : Nat), (l.foldl (fun s j => s ||| 2 ^ j ||| acc.getD j 0) s).testBit i = true → s.testBit i = true ∨ ∃ j ∈ l, j = i ∨ (acc.getD j 0).testBit i = true
  | [], s, i, h => .inl h
  | j :: l, s, i, h => by
    rcases ancOf_bit acc l _ i h with h | ⟨k, hk, h⟩
    · rw [Nat.testBit_or, Nat.testBit_or, Nat.testBit_two_pow, Bool.or_eq_true, Bool.or_eq_true] at h
      rcases h with (h | h) | h
      · exact .inl h
      · exact .inr ⟨j, List.mem_cons_self .., .inl (by simpa using h)⟩
      · exact .inr ⟨j, List.mem_cons_self .., .inr h⟩
    · exact .inr ⟨k, List.mem_cons_of_mem _ hk, h⟩
def isEff (o : SOp) : Bool := match o.kind with
  | .eff => true
  | _ => false
def meet (t : Option Nat) (l : List Nat) : Bool := match t with
  | some t => l.contains t
  | none => false
def pairOk (tab : List Nat) (i j : Nat) (x y : SOper) : Bool :=
  bef tab i j || !((isEff x.op && isEff y.op) || meet y.dst (x.looks ++ x.dst.toList) || meet x.dst y.looks)
def drawOkFrom (tab : List Nat) (i : Nat) : List SOper → List SOper → Bool
  | _, [] => true
  | past, o :: os => o.after.all (· < i) && ((past.zipIdx).all fun (p, j) => pairOk tab i j o p) && drawOkFrom tab (i + 1) (past ++ [o]) os
def drawOk (ops : List SOper) : Bool := drawOkFrom (ancs ops) 0 [] ops

def SOp.inst (b : Nat) : SOp → SOp
  | .lay j zs => .lay (b + j) zs
  | .layB j k zs m parts => .layB (b + j) k zs m parts
  | o => o
def instOps (b : Nat) (ops : List SOper) : List SOper := ops.map fun o => { o with op := o.op.inst b }
def SOp.laid : SOp → List (Option (List AVal))
  | .lay _ zs => [some zs]
  | .layB _ _ _ _ _ => [none]
  | _ => []
def resvs (ops : List SOper) : List (Option (List AVal)) := ops.flatMap fun o => o.op.laid
def Heap.resv (σ : Heap) : List (List AVal) → Heap
  | [] => σ
  | zs :: l => (σ.new (.cells zs none)).resv l
def Heap.resvE : List (Option (List AVal)) → (Heap → Prop) → Heap → Prop
  | [], K, σ => K σ
  | some zs :: l, K, σ => Heap.resvE l K (σ.new (.cells zs none))
  | none :: l, K, σ => ∃ zs, Heap.resvE l K (σ.new (.cells zs none))
theorem resvE_iff : ∀ {l : List (Option (List AVal))} {K : Heap → Prop} {σ : Heap}, Heap.resvE l K σ → ∃ css : List (List AVal), css.length = l.length ∧ K (σ.resv css) ∧ ∀ K' : Heap → Prop, K' (σ.resv css) → Heap.resvE l K' σ
  | [], K, σ, h => ⟨[], rfl, h, fun K' h' => h'⟩
  | some zs :: l, K, σ, h => by
    obtain ⟨css, h1, h2, h3⟩ := resvE_iff (l := l) h
    exact ⟨zs :: css, by simp [h1], h2, fun K' h' => h3 K' h'⟩
  | none :: l, K, σ, h => by
    obtain ⟨zs, h⟩ := h
    obtain ⟨css, h1, h2, h3⟩ := resvE_iff (l := l) h
    exact ⟨zs :: css, by simp [h1], h2, fun K' h' => ⟨zs, h3 K' h'⟩⟩
def layOps : Nat → List SOper → List SOper
  | _, [] => []
  | j, o :: os => match o.op with
    | .alloc zs => { o with op := .lay j zs } :: layOps (j + 1) os
    | .bslc k zs len parts => { o with op := .layB j k zs len parts } :: layOps (j + 1) os
    | .mslc k by' zs (.lit (.int .i64 l)) (.lit (.int .i64 c)) => if l = c ∧ 0 ≤ l ∧ l.toNat * by' ≤ maxRoom ∧ l ≤ 2 ^ 62 then { o with op := .layB j k zs l.toNat [] } :: layOps (j + 1) os else o :: layOps j os
    | _ => o :: layOps j os
def LayOf (y so : SOp) (k : Nat) : Prop := (∃ zs, y = .alloc zs ∧ so = .lay k zs) ∨ (∃ n zs len parts, y = .bslc n zs len parts ∧ so = .layB k n zs len parts) ∨ ∃ n by' zs, ∃ len : Nat, y = .mslc n by' zs (.lit (.int .i64 (len : Nat))) (.lit (.int .i64 (len : Nat))) ∧ len * by' ≤ maxRoom ∧ (len : Int) ≤ 2 ^ 62 ∧ so = .layB k n zs len []
def IsLay (so : SOp) (k : Nat) : Prop := (∃ zs, so = .lay k zs) ∨ ∃ n zs len parts, so = .layB k n zs len parts
theorem LayOf.is {y so : SOp} {k : Nat} (h : LayOf y so k) : IsLay so k := by
  rcases h with ⟨zs, _, h⟩ | ⟨n, zs, len, parts, _, h⟩ | ⟨n, b, zs, len, _, _, _, h⟩
  · exact .inl ⟨zs, h⟩
  · exact .inr ⟨n, zs, len, parts, h⟩
  · exact .inr ⟨n, zs, len, [], h⟩
theorem IsLay.kind {so : SOp} {k : Nat} (h : IsLay so k) : so.kind = .read := by
  rcases h with ⟨zs, rfl⟩ | ⟨n, zs, len, parts, rfl⟩ <;> rfl
theorem IsLay.one {so : SOp} {k k' : Nat} (h : IsLay so k) (h' : IsLay so k') : k = k' := by
  rcases h with ⟨zs, rfl⟩ | ⟨n, zs, len, parts, rfl⟩ <;> rcases h' with ⟨zs', h'⟩ | ⟨n', zs', len', parts', h'⟩ <;> cases h' <;> rfl
def isAggD : TypeDesc → Bool
  | .struct _ | .array _ _ => true
  | _ => false

section
variable (P : Program)
def cSize (t : TypeId) : Option Nat := (P.info? t).map (·.size)
def cAgg (t : TypeId) : Option (Option Nat) :=
  match P.underlying t, P.info? t with
  | some d, some i => some (if isAggD d then some i.size else none)
  | _, _ => none
def cZero (t : TypeId) : Option Value := (P.info? t).bind (·.zero)
def zcells (z : Value) : List AVal := z.cells.toList.map ofVal

def cOpd (n : Nat) : Operand → Option Opd
  | .tmp t => if t < n then some (.tmp t) else none
  | .const v => some (.lit (ofVal1 v))
  | .func f => some (.lit (.fn f []))
  | .global g => some (.lit (.ptr (.old g) 0))
def cOpds (n : Nat) : List Operand → Option (List Opd)
  | [] => some []
  | x :: l => match cOpd n x, cOpds n l with
    | some a, some b => some (a :: b)
    | _, _ => none
def cOpdO (n : Nat) : Option Operand → Option (Option Opd)
  | none => some none
  | some x => (cOpd n x).map some

def fieldK (f : Field) (i : Nat) : Option EqK :=
  if f.name == "_" || f.offset != i then none else match P.underlying f.type with
  | some (.int _) => some .int
  | some .string => some .str
  | some .bool => some .bool
  | _ => none
def flatFields : List Field → Nat → Option (List EqK)
  | [], _ => some []
  | f :: l, i => match fieldK P f i, flatFields l (i + 1) with
    | some k, some r => some (k :: r)
    | _, _ => none
def cEq (t : TypeId) : EqK :=
  match P.underlying t with
  | some (.int _) => .int
  | some .string => .str
  | some .bool => .bool
  | some (.pointer _) => .ptr
  | some (.slice _) => .slc
  | some (.map _ _) => .map
  | some (.func _ _ _) => .fn
  | some (.struct fs) => match flatFields P fs.toList 0 with
    | some ks => if !P.stoodInHeld t && !P.eqGuardType P.depth t then .flat ks else .no
    | none => .no
  | _ => .no

def cParts (n : Nat) (place : Nat → Option (Nat × Nat)) : List (Nat × Operand) → Option (List (Nat × Nat × Opd))
  | [] => some []
  | (i, x) :: l => match place i, cOpd n x, cParts n place l with
    | some (off, size), some a, some r => some ((off, size, a) :: r)
    | _, _, _ => none
def structPlaces : List Field → Option (List (Nat × Nat))
  | [] => some []
  | f :: l => match cSize P f.type, structPlaces l with
    | some s, some r => some ((f.offset, s) :: r)
    | _, _ => none

def noPtr : TypeDesc → Bool
  | .pointer _ => false
  | .interface _ => false
  | _ => true
def methOf (name : String) (T : Nat) : Option (Nat × Nat) :=
  match P.info? T, P.underlying T with
  | some ti, some d => match ti.methods.find? (·.name == name) with
    | some m => match m.func with
      | some (f, false) => if m.path.toList.isEmpty && noPtr d then some (T, f) else none
      | _ => none
    | none => none
  | _, _ => none
def meths (name : String) : List (Nat × Nat) := (List.range P.types.size).filterMap (methOf P name)
def tmpsOf (n : Nat) : List Operand → Option (List Nat)
  | [] => some []
  | .tmp t :: l => if t < n then (tmpsOf n l).map (t :: ·) else none
  | _ :: _ => none
def cInvoke (n : Nat) (r : Operand) (name : String) (l : List Operand) : SOp :=
  match r, tmpsOf n l with
  | .tmp t, some ts => if t < n then .call (.meth (meths P name) t ts) [] else .bad
  | _, _ => .bad
theorem cInvoke_or (n : Nat) (r : Operand) (name : String) (l : List Operand) : cInvoke P n r name l = .bad ∨ ∃ t ts, r = .tmp t ∧ tmpsOf n l = some ts ∧ t < n ∧ cInvoke P n r name l = .call (.meth (meths P name) t ts) [] := by
  unfold cInvoke
  split
  · split
    · rename_i t ts h1 h2; exact .inr ⟨_, _, rfl, h1, h2, rfl⟩
    · exact .inl rfl
  · exact .inl rfl
def cCall (n : Nat) (c : Call) : Option SOp :=
  match c.callee with
  | .value f => match cOpd n f, cOpds n c.args.toList with
    | some f, some l => some (.call f l)
    | _, _ => none
  | .invoke r m => some (cInvoke P n r m c.args.toList)
  | .builtin b => match b, cOpds n c.args.toList, c.argTypes.toList with
    | .len, some [x], [t] => match P.underlying t with
      | some .string => some (.lenS x)
      | some (.slice _) => some (.len x)
      | some (.array k _) => some (.lenC k)
      | some (.map _ _) => some (.lenM x)
      | _ => none
    | .append, some [x, y], [t, u] => match P.underlying t, P.underlying u with
      | some (.slice e), some d => match d, P.info? e with
        | .int _, _ => none
        | _, some i => match i.zero with
          | some z => if z.cells.size = i.size then some (.app e i.size i.bytes x y) else none
          | none => none
        | _, _ => none
      | _, _ => none
    | .copy, some [x, y], [t, _] => match P.underlying t with
      | some (.slice e) => (cSize P e).map fun k => .copy k x y
      | _ => none
    | .delete, some [m, k], [t, _] => match P.underlying t with
      | some (.map kt _) => match P.underlying kt with
        | some (.int .i64) => some (.del m k)
        | _ => none
      | _ => none
    | .clear, some [x], [t] => match P.underlying t with
      | some (.slice e) => match P.info? e with
        | some i => match i.zero with
          | some z => if z.cells.size = i.size then some (.clr i.size (zcells z) x) else none
          | none => none
        | none => none
      | _ => none
    | .max, some (x :: l), _ => some (.maxs x l)
    | .min, some (x :: l), _ => some (.mins x l)
    | _, _, _ => none

def isBld (t : TypeId) : Bool :=
  match P.underlying t with
  | some (.struct fs) => match fs.toList with
    | [f, _] => match P.underlying f.type with
      | some (.pointer e) => decide (e = t)
      | _ => false
    | _ => false
  | _ => false
def cOp (n : Nat) (o : Op) : Option SOp :=
  match o with
  | .move x | .assign x => (cOpd n x).map .mv
  | .pick c a b => match cOpd n c, cOpd n a, cOpd n b with
    | some c, some a, some b => some (.pick c a b)
    | _, _, _ => none
  | .alloc t => (cZero P t).map fun z => if isBld P t then .allocT t (zcells z) else .alloc (zcells z)
  | .box _ x => (cOpd n x).map .box
  | .build t parts => match P.underlying t, cZero P t with
    | some (.struct fs), some z => match structPlaces P fs.toList with
      | some pl => (cParts n (pl[·]?) parts.toList).map fun p => .build (zcells z) p
      | none => none
    | some (.array _ e), some z => match cSize P e with
      | some s => (cParts n (fun i => some (i * s, s)) parts.toList).map fun p => .build (zcells z) p
      | none => none
    | _, _ => none
  | .buildSlice t len parts => match P.underlying t with
    | some (.slice e) => match P.info? e with
      | some i => match i.zero with
        | some z => if z.cells.size = i.size && len * i.size ≤ 2 ^ 24 then (cParts n (fun j => some (j * i.size, i.size)) parts.toList).map fun p => .bslc i.size (zcells z) len p else none
        | none => none
      | none => none
    | _ => none
  | .load t a => match cAgg P t, cOpd n a with
    | some k, some a => some (.load k a)
    | _, _ => none
  | .store t a x => match cSize P t, cOpd n a, cOpd n x with
    | some k, some a, some x => some (.store k a x)
    | _, _, _ => none
  | .nilCheck x => (cOpd n x).map .nilc
  | .binOp op t x y _ => match cOpd n x, cOpd n y with
    | some x, some y => some (.bin op (cEq P t) x y)
    | _, _ => none
  | .unOp .not _ x => (cOpd n x).map .not
  | .unOp .neg _ x => (cOpd n x).map .neg
  | .convert s d x => match P.underlying s, P.underlying d, cOpd n x with
    | some _, some (.int k), some x => some (.cint k x)
    | some (.int _), some .string, some x => some (.cstr x)
    | some .string, some .string, some x => some (.cstr x)
    | some (.slice e), some .string, some x => match P.underlying e with
      | some (.int .u8) => some (.bstr x)
      | _ => none
    | some .string, some (.slice e), some x => match P.underlying e with
      | some (.int .u8) => some (.bytes e x)
      | _ => none
    | _, _, _ => none
  | .makeFunc (.func f) first captured => if first.size = 0 then (cOpds n captured.toList).map (.mkfn f) else none
  | .makeMap t r => match P.underlying t with
    | some (.map k _) => match P.underlying k, r with
      | some (.int .i64), none => some .mmap
      | some (.int .i64), some (.const (.int _ _)) => some .mmap
      | _, _ => none
    | _ => none
  | .makeSlice t l c => match P.underlying t, cOpd n l, cOpd n c with
    | some (.slice e), some l, some c => match P.info? e with
      | some i => match i.zero with
        | some z => if z.cells.size = i.size then some (.mslc i.size i.bytes (zcells z) l c) else none
        | none => none
      | none => none
    | _, _, _ => none
  | .slice t x lo hi mx => match cOpd n x, cOpdO n lo, cOpdO n hi, cOpdO n mx with
    | some x, some lo, some hi, some mx => match P.underlying t with
      | some (.slice e) => (cSize P e).map fun k => .slc k x lo hi mx
      | some .string => if mx.isSome then none else some (.slcS x lo hi)
      | some (.array m e) => (cSize P e).map fun k => .slcR m k x lo hi mx
      | _ => none
    | _, _, _, _ => none
  | .fieldAddr s x f => match P.underlying s, cOpd n x with
    | some (.struct fs), some x => match fs[f]? with
      | some fd => match cSize P fd.type with
        | some 0 => none
        | some _ => some (.fldA fd.offset x)
        | none => none
      | none => none
    | _, _ => none
  | .field t x f => match P.underlying t, cOpd n x with
    | some (.struct fs), some x => match fs[f]? with
      | some fd => (cAgg P fd.type).map fun k => .fld k fd.offset x
      | none => none
    | _, _ => none
  | .indexAddr t x i => match P.underlying t, cOpd n x, cOpd n i with
    | some (.slice e), some x, some i => (cSize P e).map fun k => .idxA k x i
    | some (.array m e), some x, some i => (cSize P e).map fun k => .idxR m k x i
    | _, _, _ => none
  | .index t x i => match P.underlying t, cOpd n x, cOpd n i with
    | some .string, some x, some i => some (.idxS x i)
    | some (.array m e), some x, some i => match cAgg P e, cSize P e with
      | some k, some s => some (.idxG m s k.isSome x i)
      | _, _ => none
    | _, _, _ => none
  | .lookup t x k ok => match P.underlying t, cOpd n x, cOpd n k with
    | some (.map kt e), some x, some k => match P.underlying kt, cZero P e with
      | some (.int .i64), some z => some (.look (ofVal1 z) ok x k)
      | _, _ => none
    | _, _, _ => none
  | .mapUpdate t m k v | .insert t m k v => match P.underlying t, cOpd n m, cOpd n k, cOpd n v with
    | some (.map kt _), some m, some k, some v => match P.underlying kt with
      | some (.int .i64) => some (.mapUp m k v)
      | _ => none
    | _, _, _, _ => none
  | .range t x => match P.underlying t with
    | some .string => (cOpd n x).map .iter
    | _ => none
  | .next x true => (cOpd n x).map .next
  | .extract x i => (cOpd n x).map (.ext · i)
  | .call c => cCall P n c
  | .makeInterface T x => some (match P.underlying T, cOpd n x with
    | some d, some y => if noPtr d then .mkif T y else .bad
    | _, _ => .bad)
  | _ => none

def cDst (n : Nat) : Option Tmp → Bool
  | none => true
  | some t => t < n
def cOper (n : Nat) (ops : Array Oper) (o : Oper) : Option SOper :=
  match cOp P n o.op with
  | none => none
  | some s =>
    if !cDst n o.dst then none else
    let after := (o.after.toList.filter fun e => Region.binds .any e).map (·.on)
    match o.guard with
    | none => some { dst := o.dst, op := s, guard := none, after }
    | some (j, want) => match ((ops[j]?).bind (·.dst)) with
      | some t => if t < n then some { dst := o.dst, op := s, guard := some (t, want), after } else none
      | none => none
def cOpers (n : Nat) (ops : Array Oper) : List Oper → Option (List SOper)
  | [] => some []
  | o :: l => match cOper P n ops o, cOpers n ops l with
    | some a, some r => some (a :: r)
    | _, _ => none
def cCode (n : Nat) : Code → Option SCode
  | .skip => some .skip
  | .region _ ops draw => match cOpers P n ops ops.toList with
    | some l => if draw then (if drawOk l && l.all (fun o => o.looks.all (· < n)) then some (.reg (some (ancs l)) l) else if drawOk (layOps 0 l) && l.all (fun o => o.looks.all (· < n)) then some (.regA (ancs (layOps 0 l)) (layOps 0 l)) else none) else some (.reg none l)
    | none => none
  | .seq a b => match cCode n a, cCode n b with
    | some a, some b => some (.seq a b)
    | _, _ => none
  | .cond c a b => match cOpd n c, cCode n a, cCode n b with
    | some c, some a, some b => some (.cond c a b)
    | _, _, _ => none
  | .block id c => (cCode n c).map (.block id)
  | .loop c => (cCode n c).map .loop
  | .scope c => cCode n c
  | .label _ => some .skip
  | .exit id => some (.exit id)
  | .ret => some .ret
  | _ => none

inductive SRes where
  | tmp (t : Nat)
  | cell (t : Nat) (n : Option Nat)
structure SFunc where
  ntmps : Nat
  results : List SRes
  body : SCode
def cRes (n : Nat) : List ResultVar → Option (List SRes)
  | [] => some []
  | .tmp t :: l => if t < n then (cRes n l).map (.tmp t :: ·) else none
  | .cell t ty :: l => match cAgg P ty, cRes n l with
    | some k, some r => if t < n then some (.cell t k :: r) else none
    | _, _ => none
def cFunc (f : FuncId) : Option SFunc :=
  match P.funcs[f]? with
  | some fn => match fn.body with
    | some c => match cCode P fn.ntmps c, cRes P fn.ntmps fn.results.toList with
      | some b, some r => if fn.name == "runtime.NumGoroutine" then none else some { ntmps := fn.ntmps, results := r, body := b }
      | _, _ => none
    | none => none
  | none => none
end
end Go.Mini
set_option maxHeartbeats 4000000
namespace Go.Mini
open Go

section
variable {P : Program} {φ : Phi} {σ : Heap} {w : World} {n : Nat} {fr : Frame} {a : Act}

theorem cOpd_ok {X : Operand} {x : Opd} (h : cOpd n X = some x) (hf : FR φ n fr a) : VR φ (x.ev fr) (a.eval X) := by
  cases X with
  | tmp t =>
    simp only [cOpd] at h
    split at h
    · cases h; exact hf.tmps t ‹_›
    · cases h
  | const v => cases h; exact ofVal1_VR φ v
  | global g => cases h; exact .ptr 0 rfl
  | func f => cases h; exact .fn f .nil
theorem cOpds_ok (hf : FR φ n fr a) : ∀ {X : List Operand} {x : List Opd}, cOpds n X = some x → VRs φ (evs fr x) (X.map a.eval)
  | [], _, h => by cases h; exact .nil
  | Y :: l, x, h => by
    simp only [cOpds] at h
    split at h
    · rename_i y r h1 h2
      cases h
      exact .cons (cOpd_ok h1 hf) (cOpds_ok hf h2)
    · cases h
def Doing (P : Program) (s : Sem Next) (w : World) (φ : Phi) (x : AVal) (σ' : Heap) : Prop :=
  ∃ v w' φ', (s.run P w = .ok (.value v) w' ∨ (s.run P w = .ok .skip w' ∧ v = Go.undef)) ∧ φ.le φ' ∧ VR φ' x v ∧ Rel φ' σ' w'
theorem Doing.val {s : Sem Next} {x : AVal} {v : Value} (h : s.run P w = .ok (.value v) w) (hv : VR φ x v) (hr : Rel φ σ w) : Doing P s w φ x σ :=
  ⟨v, w, φ, .inl h, Phi.le_refl φ, hv, hr⟩
theorem aInt_ok {op : BinOp} {k : IntKind} {x y : Int} {z : AVal} (h : aInt op k x y = some z) (t : TypeId) : ∃ v, (binOp op t (.int k x) (.int k y)).run P w = .ok v w ∧ VR φ z v := by
  cases op <;> simp only [aInt] at h
  case add => cases h; exact ⟨_, by simp [go_sem], .int _ _⟩
  case sub => cases h; exact ⟨_, by simp [go_sem], .int _ _⟩
  case mul => cases h; exact ⟨_, by simp [go_sem], .int _ _⟩
  case quo => split at h; · cases h
              · rename_i hy; cases h; exact ⟨_, by simp [go_sem, hy], .int _ _⟩
  case rem => split at h; · cases h
              · rename_i hy; cases h; exact ⟨_, by simp [go_sem, hy], .int _ _⟩
  case and => cases h; exact ⟨_, by rw [binOp_and]; rfl, .int _ _⟩
  case or => cases h; exact ⟨_, by rw [binOp_or]; rfl, .int _ _⟩
  case xor => cases h; exact ⟨_, by rw [binOp_xor]; rfl, .int _ _⟩
  case andNot => cases h; exact ⟨_, by rw [binOp_andNot]; rfl, .int _ _⟩
  case eql => cases h; exact ⟨_, by simp [go_sem], .bool _⟩
  case neq => cases h; exact ⟨_, by simp [go_sem], .bool _⟩
  case lss => cases h; exact ⟨_, by simp [go_sem], .bool _⟩
  case leq => cases h; exact ⟨_, by simp [go_sem], .bool _⟩
  case gtr => cases h; exact ⟨_, by simp [go_sem], .bool _⟩
  case geq => cases h; exact ⟨_, by simp [go_sem], .bool _⟩
  case shl => cases h
  case shr => cases h

theorem bytes_toList (s : List UInt8) : (⟨s.toArray⟩ : ByteArray).toList = s := by
  rw [ByteArray.toList_eq]
theorem bytes_append (s t : List UInt8) : (⟨s.toArray⟩ : ByteArray) ++ ⟨t.toArray⟩ = ⟨(s ++ t).toArray⟩ := by
  apply ByteArray.ext
  simp [ByteArray.data_append]
theorem bytes_size (s : List UInt8) : (⟨s.toArray⟩ : ByteArray).size = s.length := by simp [ByteArray.size]

theorem aStr_ok {op : BinOp} {s t : List UInt8} {z : AVal} (h : aStr op s t = some z) (ty : TypeId) : ∃ v, (binOp op ty (.string ⟨s.toArray⟩) (.string ⟨t.toArray⟩)).run P w = .ok v w ∧ VR φ z v := by
  cases op <;> simp only [aStr] at h <;> try (cases h; done)
  case add =>
    split at h
    · rename_i hl
      cases h
      refine ⟨.string ⟨(s ++ t).toArray⟩, ?_, .str _⟩
      simp only [binOp, Op.stringOp, bytes_size, bytes_append]
      rw [if_neg (by rw [IntKind.max_i64]; omega)]
      rfl
    · cases h
  case eql => cases h; exact ⟨_, by simp only [binOp, Op.stringOp, bytes_toList]; rfl, .bool _⟩
  case neq => cases h; exact ⟨_, by simp only [binOp, Op.stringOp, bytes_toList]; rfl, .bool _⟩

theorem part_plain {t : TypeId} {d : TypeDesc} (hu : P.underlying t = some d) (hd : isAggD d = false) {cs : Array Value} {off : Nat} {v : Value} (hv : cs[off]? = some v) :
    (part t cs off).run P w = .ok v w := by
  have : (isAgg t).run P w = .ok false w := by
    simp only [isAgg, Sem.run_bind, run_underlying hu, Result.andThen_ok]
    cases d <;> simp_all [isAggD]
  simp [part, this, hv]

theorem aEq0_ok {e : EqK} {x y : AVal} {u v : Value} {b : Bool} (h : aEq0 e x y = some b) (hx : VR φ x u) (hy : VR φ y v) (d : Nat) {f : Field} {i : Nat} (hf : fieldK P f i = some e) :
    (Op.equalIn (d + 1) f.type u v).run P w = .ok b w ∧ f.name ≠ "_" ∧ f.offset = i ∧ ∃ D, P.underlying f.type = some D ∧ isAggD D = false := by
  unfold fieldK at hf
  split at hf
  · cases hf
  · rename_i hn
    simp only [Bool.or_eq_true, beq_iff_eq, bne_iff_ne, ne_eq, not_or, Decidable.not_not] at hn
    split at hf
    · rename_i k hk
      cases hf
      cases x <;> cases y <;> simp only [aEq0] at h <;> try (cases h; done)
      split at h
      · rename_i hkk; subst hkk
        cases h
        cases hx; cases hy
        exact ⟨run_equalIn_int w d f.type _ k _ _ hk, hn.1, hn.2, _, hk, rfl⟩
      · cases h
    · rename_i hk
      cases hf
      cases x <;> cases y <;> simp only [aEq0] at h <;> try (cases h; done)
      cases h
      cases hx; cases hy
      refine ⟨?_, hn.1, hn.2, _, hk, rfl⟩
      rw [run_equalIn_string w d f.type _ _ hk, bytes_toList, bytes_toList]
    · rename_i hk
      cases hf
      cases x <;> cases y <;> simp only [aEq0] at h <;> try (cases h; done)
      cases h
      cases hx; cases hy
      exact ⟨run_equalIn_bool' w d f.type _ _ hk, hn.1, hn.2, _, hk, rfl⟩
    · cases hf

theorem aEqs_ok (d : Nat) : ∀ (fs : List Field) (ks : List EqK) (i : Nat) (xs ys : List AVal) (us vs : List Value) (b : Bool) (U V : Array Value), flatFields P fs i = some ks → aEqs ks xs ys = some b →
    VRs φ xs us → VRs φ ys vs → U.toList.drop i = us → V.toList.drop i = vs → (Op.eqFields (d + 1) U V fs).run P w = .ok b w := by
  intro fs
  induction fs with
  | nil =>
    intro ks i xs ys us vs b U V hk h hx hy hU hV
    cases hk
    cases xs <;> cases ys <;> simp only [aEqs] at h <;> try (cases h; done)
    cases h
    simp [Op.eqFields]
  | cons f fs ih =>
    intro ks i xs ys us vs b U V hk h hx hy hU hV
    simp only [flatFields] at hk
    split at hk
    · rename_i e r he hr
      cases hk
      cases xs <;> cases ys <;> simp only [aEqs] at h <;> try (cases h; done)
      rename_i x xs y ys
      cases hx with
      | @cons _ u _ us hx1 hx2 =>
        cases hy with
        | @cons _ v _ vs hy1 hy2 =>
          have hu : U[i]? = some u := by
            have := congrArg (fun l => l[0]?) hU
            simpa using this
          have hv : V[i]? = some v := by
            have := congrArg (fun l => l[0]?) hV
            simpa using this
          have hU' : U.toList.drop (i + 1) = us := by
            have := congrArg List.tail hU
            simpa using this
          have hV' : V.toList.drop (i + 1) = vs := by
            have := congrArg List.tail hV
            simpa using this
          cases h0 : aEq0 e x y with
          | none => rw [h0] at h; cases h
          | some c =>
            rw [h0] at h
            obtain ⟨h1, h2, h3, D, hD, hA⟩ := aEq0_ok (w := w) h0 hx1 hy1 d he
            have p1 : (part f.type U f.offset).run P w = .ok u w := part_plain hD hA (by rw [h3]; exact hu)
            have p2 : (part f.type V f.offset).run P w = .ok v w := part_plain hD hA (by rw [h3]; exact hv)
            simp only [Op.eqFields]
            rw [if_pos h2]
            simp only [Sem.run_bind, p1, p2, h1, Result.andThen_ok]
            cases c with
            | false => cases h; simp
            | true => simp only [Bool.not_true, Bool.false_eq_true, if_false]; exact ih r (i + 1) xs ys us vs b U V hr h hx2 hy2 hU' hV'
    · cases hk

theorem aEq_ok {t : TypeId} {x y : AVal} {u v : Value} {b : Bool} (h : aEq (cEq P t) x y = some b) (hx : VR φ x u) (hy : VR φ y v) :
    (Op.equal t u v).run P w = .ok b w := by
  unfold Op.equal Op.maxDepth
  generalize hd : (9999 : Nat) = d
  have e10 : (10000 : Nat) = d + 1 := by omega
  rw [e10]
  unfold cEq at h
  cases hu : P.underlying t with
  | none => rw [hu] at h; simp [aEq] at h
  | some D =>
    rw [hu] at h
    cases D
    case bool =>
      cases x <;> cases y <;> simp only [aEq] at h <;> try (cases h; done)
      cases h; cases hx; cases hy
      exact run_equalIn_bool' w d t _ _ hu
    case pointer e =>
      cases x <;> cases y <;> simp only [aEq] at h <;> try (cases h; done)
      all_goals (cases h; cases hx; cases hy; simp [Op.equalIn, run_underlying hu])
    case slice e =>
      cases x <;> cases y <;> simp only [aEq] at h <;> try (cases h; done)
      case fsl.nils k els =>
        split at h
        · cases h
        · rename_i hne
          cases h; cases hy
          cases hx with
          | fslN => exact absurd rfl hne
          | fsl => simp [Op.equalIn, run_underlying hu]
      all_goals (cases h; cases hx <;> cases hy <;> simp [Op.equalIn, run_underlying hu])
    case map k e =>
      cases x <;> cases y <;> simp only [aEq] at h <;> try (cases h; done)
      all_goals (cases h; cases hx; cases hy; simp [Op.equalIn, run_underlying hu])
    case func a b c =>
      cases x <;> cases y <;> simp only [aEq] at h <;> try (cases h; done)
      all_goals (cases h; cases hx; cases hy; simp [Op.equalIn, run_underlying hu])
    case struct fs =>
      simp only at h
      split at h
      · rename_i ks hks
        split at h
        · rename_i hg
          simp only [Bool.and_eq_true, Bool.not_eq_true'] at hg
          cases x <;> cases y <;> simp only [aEq] at h <;> try (cases h; done)
          cases hx with
          | agg hxs => cases hy with
            | agg hys =>
              have hfo : P.fieldsOf t = fs := by simp [Program.fieldsOf, hu]
              rw [run_equalIn_agg w d t _ _ (by rw [hfo]; exact hu) hg.1, hfo]
              have hd' : d = 9998 + 1 := by omega
              rw [hd']
              exact aEqs_ok 9998 fs.toList ks 0 _ _ _ _ b _ _ hks h hxs hys (by simp) (by simp)
        · simp [aEq] at h
      · simp [aEq] at h
    all_goals (simp [aEq] at h)
end
section
variable {P : Program} {φ : Phi} {σ : Heap} {w : World} {n : Nat} {fr : Frame} {a : Act}

theorem eqGuard_ok {op : BinOp} {t : TypeId} {X Y : Operand} {x y : AVal} {u v : Value} {b : Bool} (h : aEq (cEq P t) x y = some b) (hx : VR φ x u) (hy : VR φ y v) :
    (eqGuard op t X Y u v).run P w = .ok () w := by
  cases hx
  case agg hxs =>
    cases hy
    case agg hys =>
      apply run_eqGuard_agg
      unfold cEq at h
      cases hu : P.underlying t with
      | none => rw [hu] at h; simp [aEq] at h
      | some D =>
        rw [hu] at h
        cases D <;> (try (simp [aEq] at h; done))
        simp only at h
        split at h
        · split at h
          · rename_i hg; simp only [Bool.and_eq_true, Bool.not_eq_true'] at hg; exact hg.2
          · simp [aEq] at h
        · simp [aEq] at h
    all_goals (cases hc : cEq P t <;> rw [hc] at h <;> simp [aEq] at h)
  case raw => cases hc : cEq P t <;> rw [hc] at h <;> simp [aEq] at h
  all_goals (simp [go_sem])

theorem aBin_ok {op : BinOp} {t : TypeId} {X Y : Operand} {x y z : AVal} {u v : Value} (h : aBin op (cEq P t) x y = some z) (hx : VR φ x u) (hy : VR φ y v) :
    ∃ r, (do eqGuard op t X Y u v; binOp op t u v : Sem Value).run P w = .ok r w ∧ VR φ z r := by
  unfold aBin at h
  split at h
  · rename_i k p k' q
    cases hx; cases hy
    simp only [Sem.run_bind, eqGuard_at_int, Sem.run_pure, Result.andThen_ok]
    split at h
    · split at h
      · cases h
      · rename_i hq; cases h
        refine ⟨_, ?_, .int _ _⟩
        simp only [binOp, Op.shift, if_neg hq]; rfl
    · split at h
      · cases h
      · rename_i hq; cases h
        refine ⟨_, ?_, .int _ _⟩
        simp only [binOp, Op.shift, if_neg hq]; rfl
    · split at h
      · rename_i hk; subst hk
        exact aInt_ok h t
      · cases h
  · rename_i s r
    cases hx; cases hy
    simp only [Sem.run_bind, eqGuard_at_string, Sem.run_pure, Result.andThen_ok]
    exact aStr_ok h t
  · rename_i hne1 hne2
    split at h
    · simp only [Option.map_eq_some_iff] at h
      obtain ⟨b, hb, rfl⟩ := h
      refine ⟨.bool b, ?_, .bool b⟩
      simp only [Sem.run_bind, eqGuard_ok hb hx hy, Result.andThen_ok]
      have he := aEq_ok (w := w) hb hx hy
      cases hx <;> cases hy <;> first
        | (exfalso; exact hne1 _ _ _ _ rfl rfl)
        | (exfalso; exact hne2 _ _ rfl rfl)
        | (simp only [binOp]; simp [he]; done)
        | (exfalso; cases hc : cEq P t <;> rw [hc] at hb <;> simp [aEq] at hb)
    · simp only [Option.map_eq_some_iff] at h
      obtain ⟨b, hb, rfl⟩ := h
      refine ⟨.bool (!b), ?_, .bool _⟩
      simp only [Sem.run_bind, eqGuard_ok hb hx hy, Result.andThen_ok]
      have he := aEq_ok (w := w) hb hx hy
      cases hx <;> cases hy <;> first
        | (exfalso; exact hne1 _ _ _ _ rfl rfl)
        | (exfalso; exact hne2 _ _ rfl rfl)
        | (simp only [binOp]; simp [he]; done)
        | (exfalso; cases hc : cEq P t <;> rw [hc] at hb <;> simp [aEq] at hb)
    · cases h
end
end Go.Mini
namespace Go.Mini
open Go

section
variable {P : Program} {φ : Phi} {σ : Heap} {w : World} {n : Nat} {fr : Frame} {a : Act}

theorem cAgg_ok {t : TypeId} {k : Option Nat} (h : cAgg P t = some k) : (isAgg t).run P w = .ok k.isSome w ∧ ∀ m, k = some m → (sizeOf t).run P w = .ok m w := by
  unfold cAgg at h
  split at h
  · rename_i d i hd hi
    cases h
    constructor
    · simp only [isAgg, Sem.run_bind, run_underlying hd, Result.andThen_ok]
      cases d <;> simp [isAggD]
    · intro m hm
      split at hm
      · cases hm; simp [sizeOf, typeInfo, hi]
      · cases hm
  · cases h
theorem cSize_ok {t : TypeId} {k : Nat} (h : cSize P t = some k) (w : World) : (sizeOf t).run P w = .ok k w := by
  simp only [cSize, Option.map_eq_some_iff] at h
  obtain ⟨i, hi, rfl⟩ := h
  simp [sizeOf, typeInfo, hi]
theorem cZero_ok {t : TypeId} {z : Value} (h : cZero P t = some z) (w : World) : (zeroValue t).run P w = .ok z w := by
  simp only [cZero, Option.bind_eq_some_iff] at h
  obtain ⟨i, hi, hz⟩ := h
  simp [zeroValue, typeInfo, hi, hz]

theorem aPart_ok {t : TypeId} {k : Option Nat} (h : cAgg P t = some k) {cs : List AVal} {off : Nat} {z : AVal} (hz : aPart k cs off = some z) {vs : List Value} (hv : VRs φ cs vs) :
    ∃ v, (part t vs.toArray off).run P w = .ok v w ∧ VR φ z v := by
  obtain ⟨h1, h2⟩ := cAgg_ok (w := w) h
  cases k with
  | none =>
    obtain ⟨v, hvv, hr⟩ := hv.get off z hz
    exact ⟨v, by simp [part, h1, hvv], hr⟩
  | some m =>
    simp only [aPart] at hz
    split at hz
    · rename_i hl
      cases hz
      refine ⟨.agg ((vs.drop off).take m).toArray, ?_, .agg ((hv.drop off).take m)⟩
      simp only [part, Sem.run_bind, h1, Option.isSome_some, Result.andThen_ok, if_true, h2 m rfl, Sem.run_pure]
      congr 2
      apply Array.ext'
      simp [List.extract_eq_take_drop]
    · cases hz

theorem foldl_over (l : List Value) : ∀ (cs : Array Value) (off j : Nat), off + j + l.length ≤ cs.size →
    ((l.zipIdx j).foldl (fun cs (c, j) => cs.setIfInBounds (off + j) c) cs).toList = over cs.toList (off + j) l := by
  induction l with
  | nil => intro cs off j _; simp [over_nil]
  | cons c l ih =>
    intro cs off j h
    simp only [List.length_cons] at h
    simp only [List.zipIdx_cons, List.foldl_cons]
    rw [ih _ off (j + 1) (by simp; omega), toList_setIfInBounds]
    have : off + (j + 1) = off + j + 1 := by omega
    rw [this, over_cons _ _ _ _ (by simp; omega)]
theorem VRs.over {cs xs : List AVal} {vs us : List Value} (h : VRs φ cs vs) (hx : VRs φ xs us) (off : Nat) : VRs φ (Mini.over cs off xs) (Mini.over vs off us) := by
  unfold Mini.over
  rw [← hx.length]
  exact ((h.take off).append hx).append (h.drop _)

theorem fill_ok (place : Nat → Option (Nat × Nat)) (hf : FR φ n fr a) : ∀ (l : List (Nat × Operand)) (pl : List (Nat × Nat × Opd)) (cs : List AVal) (vs : Array Value) (z : List AVal),
    cParts n place l = some pl → aFill cs (evParts fr pl) = some z → VRs φ cs vs.toList →
    ∃ us : Array Value, Instr.fill place vs (l.map fun (i, x) => (i, a.eval x)) = some us ∧ VRs φ z us.toList := by
  intro l
  induction l with
  | nil =>
    intro pl cs vs z hp hz hv
    cases hp
    simp only [evParts, List.map_nil, aFill, Option.some.injEq] at hz
    subst hz
    exact ⟨vs, rfl, hv⟩
  | cons p l ih =>
    intro pl cs vs z hp hz hv
    obtain ⟨i, X⟩ := p
    simp only [cParts] at hp
    split at hp
    · rename_i off size x r h1 h2 h3
      cases hp
      simp only [evParts, List.map_cons, aFill] at hz
      split at hz
      · rename_i hc
        simp only [Bool.and_eq_true, decide_eq_true_eq, Bool.not_eq_true'] at hc
        have hX := cOpd_ok h2 hf
        have hcs := hX.cells hc.2
        have hlen := hcs.length
        have hvl := hv.length
        have hfold := foldl_over (a.eval X).cells.toList vs off 0 (by simp at hlen hvl ⊢; omega)
        have hE : ((a.eval X).cells.zipIdx.foldl (fun cs (c, j) => cs.setIfInBounds (off + j) c) vs).toList = over vs.toList off (a.eval X).cells.toList := by
          rw [← Array.foldl_toList, Array.toList_zipIdx]
          simpa using hfold
        obtain ⟨us, hu, hur⟩ := ih r _ ((a.eval X).cells.zipIdx.foldl (fun cs (c, j) => cs.setIfInBounds (off + j) c) vs) z h3 hz (by rw [hE]; exact hv.over hcs off)
        refine ⟨us, ?_, hur⟩
        simp only [List.map_cons, Instr.fill, h1]
        rw [if_neg]
        · exact hu
        · simp at hlen hvl ⊢; omega
      · cases hz
    · cases hp

theorem structPlaces_ok : ∀ (fs : List Field) (pl : List (Nat × Nat)), structPlaces P fs = some pl →
    (fs.mapM (fun f => (do pure (f.offset, ← sizeOf f.type) : Sem (Nat × Nat)))).run P w = .ok pl w := by
  intro fs
  induction fs with
  | nil => intro pl h; cases h; simp
  | cons f fs ih =>
    intro pl h
    simp only [structPlaces] at h
    split at h
    · rename_i s r h1 h2
      cases h
      simp only [List.mapM_cons, Sem.run_bind, cSize_ok h1, Result.andThen_ok, Sem.run_pure, ih r h2]
    · cases h
end
section
variable {P : Program} {φ : Phi} {σ : Heap} {w : World} {n : Nat} {fr : Frame} {a : Act}

theorem aBound_ok {x : AVal} {v : Value} {d y m : Nat} (h : aBound (some x) d y = some m) (hx : VR φ x v) (code : BoundsCode) : (Instr.sliceBound v y code).run P w = .ok m w ∧ m ≤ y := by
  simp only [aBound] at h
  split at h
  · cases ‹some _ = none›
  · rename_i k i e
    cases e
    split at h
    · rename_i hc
      simp only [Bool.and_eq_true, decide_eq_true_eq] at hc
      cases h
      cases hx
      exact ⟨run_sliceBound w k i y code hc.1 hc.2, by omega⟩
    · cases h
  · cases h

inductive VRO (φ : Phi) : Option AVal → Option Value → Prop where
  | none : VRO φ none none
  | some {x v} : VR φ x v → VRO φ (some x) (some v)
theorem cOpdO_vro {X : Option Operand} {x : Option Opd} (h : cOpdO n X = some x) (hf : FR φ n fr a) : VRO φ (evO fr x) (X.map a.eval) := by
  cases X with
  | none => cases h; exact .none
  | some Y =>
    simp only [cOpdO, Option.map_eq_some_iff] at h
    obtain ⟨y, hy, rfl⟩ := h
    exact .some (cOpd_ok hy hf)

theorem bounds_ok {len cap l h m : Nat} {lo hi mx : Option AVal} {lo' hi' mx' : Option Value} (isSlice : Bool) (vl : VRO φ lo lo') (vh : VRO φ hi hi') (vm : VRO φ mx mx') (hn : (mx.isSome && hi.isNone) = false)
    (hm : aBound mx cap cap = some m) (hh : aBound hi len m = some h) (hl : aBound lo 0 h = some l) :
    (Instr.sliceBounds isSlice len cap lo' hi' mx').run P w = .ok (l, h, m) w ∧ (lo = none → l = 0) ∧ l ≤ max h 0 ∧ (hi ≠ none → h ≤ m) ∧ m ≤ cap ∧ (hi = none → h = len) ∧ (mx = none → m = cap) := by
  unfold Instr.sliceBounds
  cases vm with
  | none =>
    simp only [aBound, Option.some.injEq] at hm
    subst hm
    cases vh with
    | none =>
      simp only [aBound, Option.some.injEq] at hh
      subst hh
      cases vl with
      | none =>
        simp only [aBound, Option.some.injEq] at hl
        subst hl
        simp
      | some vl =>
        have := (aBound_ok (P := P) (w := w) hl vl .sliceB)
        simp [this.1, this.2]
    | some vh =>
      have h1 := (aBound_ok (P := P) (w := w) hh vh (if isSlice then .sliceAcap else .sliceAlen))
      cases vl with
      | none =>
        simp only [aBound, Option.some.injEq] at hl
        subst hl
        simp [h1.1, h1.2]
      | some vl =>
        have h2 := (aBound_ok (P := P) (w := w) hl vl .sliceB)
        simp [h1.1, h1.2, h2.1, h2.2]
  | some vm =>
    have h0 := (aBound_ok (P := P) (w := w) hm vm (if isSlice then .slice3Acap else .slice3Alen))
    cases vh with
    | none => simp at hn
    | some vh =>
      have h1 := (aBound_ok (P := P) (w := w) hh vh .slice3B)
      cases vl with
      | none =>
        simp only [aBound, Option.some.injEq] at hl
        subst hl
        simp [h0.1, h0.2, h1.1, h1.2]
      | some vl =>
        have h2 := (aBound_ok (P := P) (w := w) hl vl .slice3C)
        simp [h0.1, h0.2, h1.1, h1.2, h2.1, h2.2]

theorem Addr.add_eq (b o k : Nat) : (⟨b, o, none⟩ : Addr).add k = ⟨b, o + k, none⟩ := Addr.add_lit b o k

theorem slcE_cut {i : Id} {b : Nat} (hi : i.real φ = some b) (off l h m k : Nat) :
    VR φ (.slc i (if m = l then off else off + l * k) (h - l) (.ex (m - l))) (.slice (if m = l then some ⟨b, off, none⟩ else (some (⟨b, off, none⟩ : Addr)).map (·.add (l * k))) (h - l) (m - l)) := by
  split
  · exact .slcE _ _ _ hi
  · simp only [Option.map_some, Addr.add_eq]; exact .slcE _ _ _ hi

theorem aSlc_ok {t e : TypeId} {k : Nat} (hu : P.underlying t = some (.slice e)) (hk : cSize P e = some k) {x z : AVal} {v : Value} {lo hi mx : Option AVal} {lo' hi' mx' : Option Value}
    (h : aSlc k x lo hi mx = some z) (hx : VR φ x v) (vl : VRO φ lo lo') (vh : VRO φ hi hi') (vm : VRO φ mx mx') :
    ∃ r, (Instr.sliceAt t v lo' hi' mx').run P w = .ok r w ∧ VR φ z r := by
  have hat : (Instr.sliceAt t v lo' hi' mx').run P w = (Instr.slice t v lo' hi' mx').run P w := by simp [Instr.sliceAt, run_underlying hu]
  rw [hat]
  unfold aSlc at h
  split at h
  · -- nil
    cases hx
    split at h
    · rename_i m hh l e1 e2 e3
      split at h
      · cases h
      · rename_i hn
        cases h
        have em : m = 0 := by
          cases mx with
          | none => simp [aBound] at e1; exact e1.symm
          | some x => cases vm with | some vm => have := (aBound_ok (P := P) (w := w) e1 vm .slice3B).2; omega
        have eh : hh = 0 := by
          cases hi with
          | none => simp [aBound] at e2; exact e2.symm
          | some x => cases vh with | some vh => have := (aBound_ok (P := P) (w := w) e2 vh .slice3B).2; omega
        have el : l = 0 := by
          cases lo with
          | none => simp [aBound] at e3; exact e3.symm
          | some x => cases vl with | some vl => have := (aBound_ok (P := P) (w := w) e3 vl .slice3B).2; omega
        subst em; subst eh; subst el
        have hb := bounds_ok (P := P) (w := w) true vl vh vm (eq_false_of_ne_true hn) e1 e2 e3
        refine ⟨.slice none 0 0, ?_, .nils⟩
        simp [Instr.slice, run_underlying hu, hb.1, cSize_ok hk]
    · cases h
  · -- exact
    rename_i i off len c
    cases hx with
    | slcE _ _ _ hib =>
      rename_i b
      split at h
      · cases h
      · rename_i hn
        split at h
        · rename_i m e1
          split at h
          · rename_i hh e2
            split at h
            · rename_i l e3
              cases h
              have hb := bounds_ok (P := P) (w := w) true vl vh vm (eq_false_of_ne_true hn) e1 e2 e3
              refine ⟨_, ?_, slcE_cut hib off l hh m k⟩
              simp [Instr.slice, run_underlying hu, hb.1, cSize_ok hk]
            · cases h
          · cases h
        · cases h
  · -- grown
    rename_i i off len k'
    split at h
    · cases h
    · rename_i hkk
      simp only [Decidable.not_not] at hkk
      subst hkk
      cases hx with
      | slcG _ _ c hφ hsz hlc =>
        rename_i kid b sz
        have hib : (Id.new kid).real φ = some b := by simp [Id.real, hφ]
        split at h
        · rename_i m0
          split at h
          · cases h
          · rename_i hn
            split at h
            · rename_i m e1
              split at h
              · rename_i hh e2
                split at h
                · rename_i l e3
                  cases h
                  have e1' : aBound (some m0) c c = some m := by
                    cases m0 <;> simp only [aBound] at e1 ⊢ <;> try (cases e1; done)
                    split at e1
                    · rename_i hc
                      simp only [Bool.and_eq_true, decide_eq_true_eq] at hc
                      rw [if_pos (by simp only [Bool.and_eq_true, decide_eq_true_eq]; omega)]; exact e1
                    · cases e1
                  have hb := bounds_ok (P := P) (w := w) true vl vh vm (by simp only [Option.isSome_some, Bool.true_and]; exact eq_false_of_ne_true hn) e1' e2 e3
                  refine ⟨_, ?_, slcE_cut hib off l hh m k'⟩
                  simp [Instr.slice, run_underlying hu, hb.1, cSize_ok hk]
                · cases h
              · cases h
            · cases h
        · split at h
          · rename_i hh e2
            split at h
            · rename_i l e3
              have e2' : aBound hi len c = some hh ∧ hh ≤ len := by
                cases vh with
                | none => simp only [aBound, Option.some.injEq] at e2 ⊢; omega
                | some vh =>
                  have hle := (aBound_ok (P := P) (w := w) e2 vh .slice3B).2
                  rename_i xx _
                  cases xx <;> simp only [aBound] at e2 ⊢ <;> try (cases e2; done)
                  split at e2
                  · rename_i hc
                    simp only [Bool.and_eq_true, decide_eq_true_eq] at hc
                    rw [if_pos (by simp only [Bool.and_eq_true, decide_eq_true_eq]; omega)]; exact ⟨e2, hle⟩
                  · cases e2
              have hb := bounds_ok (P := P) (w := w) true vl vh vm (by simp) (m := c) (by rfl) e2'.1 e3
              have hlh : l ≤ hh := by have := hb.2.2.1; omega
              have hrun : (Instr.slice t (.slice (some ⟨b, off, none⟩) len c) lo' hi' mx').run P w = .ok (.slice (if c = l then some ⟨b, off, none⟩ else (some (⟨b, off, none⟩ : Addr)).map (·.add (l * k'))) (hh - l) (c - l)) w := by
                simp [Instr.slice, run_underlying hu, hb.1, cSize_ok hk]
              rw [hrun]
              split at h
              · rename_i hl0
                subst hl0
                cases h
                refine ⟨_, rfl, ?_⟩
                have : (if c = 0 then some ⟨b, off, none⟩ else (some (⟨b, off, none⟩ : Addr)).map (·.add (0 * k'))) = some ⟨b, off, none⟩ := by
                  split <;> simp [Addr.add]
                rw [this]
                exact .slcG _ _ _ hφ (by simpa using hsz) (by omega)
              · split at h
                · rename_i hl0 hll
                  cases h
                  refine ⟨_, rfl, ?_⟩
                  rw [if_neg (by omega), Option.map_some, Addr.add_eq]
                  refine .slcG _ _ _ hφ ?_ (by omega)
                  rw [← hsz]
                  have : c = l + (c - l) := by omega
                  generalize c - l = q at *
                  subst this
                  rw [Nat.add_mul]; omega
                · rename_i hl0 hll
                  cases h
                  refine ⟨_, rfl, ?_⟩
                  have e0 : hh - l = 0 := by omega
                  rw [e0]
                  split
                  · exact .emp _ _
                  · exact .emp _ _
            · cases h
          · cases h
  · -- never changes
    rename_i k' els
    split at h
    · cases h
    · rename_i hkn
      simp only [Bool.or_eq_true, decide_eq_true_eq, not_or, Decidable.not_not, Bool.not_eq_true] at hkn
      obtain ⟨rfl, hn⟩ := hkn
      split at h
      · rename_i m e1
        split at h
        · rename_i hh e2
          split at h
          · rename_i l e3
            have hm : m ≤ els.length := by
              cases mx with
              | none => simp only [aBound, Option.some.injEq] at e1; omega
              | some x => cases vm with | some vm => exact (aBound_ok (P := P) (w := w) e1 vm .slice3B).2
            have hhm : hh ≤ m := by
              cases hi with
              | none =>
                simp only [aBound, Option.some.injEq] at e2
                cases mx with
                | none => simp only [aBound, Option.some.injEq] at e1; omega
                | some x => simp at hn
              | some x => cases vh with | some vh => exact (aBound_ok (P := P) (w := w) e2 vh .slice3B).2
            have hlh : l ≤ hh := by
              cases lo with
              | none => simp only [aBound, Option.some.injEq] at e3; omega
              | some x => cases vl with | some vl => exact (aBound_ok (P := P) (w := w) e3 vl .slice3B).2
            have real : ∀ (a : Option Addr) (c : Nat), els.length ≤ c → ∃ m', hh ≤ m' ∧ m' ≤ c ∧ (mx.isSome = true → m' = m) ∧ (Instr.slice t (.slice a els.length c) lo' hi' mx').run P w = .ok (.slice (if m' = l then a else a.map (·.add (l * k'))) (hh - l) (m' - l)) w := by
              intro a c hc
              cases mx with
              | none =>
                have hb := bounds_ok (P := P) (w := w) (len := els.length) (cap := c) true vl vh vm (by simp) (m := c) (by rfl) (by
                  cases hi with
                  | none => exact e2
                  | some x =>
                    cases x <;> simp only [aBound] at e2 ⊢ <;> try (cases e2; done)
                    split at e2
                    · rename_i hq
                      simp only [Bool.and_eq_true, decide_eq_true_eq] at hq
                      rw [if_pos (by simp only [Bool.and_eq_true, decide_eq_true_eq]; omega)]; exact e2
                    · cases e2) e3
                exact ⟨c, by omega, Nat.le_refl _, by simp, by simp [Instr.slice, run_underlying hu, hb.1, cSize_ok hk]⟩
              | some x =>
                have e1' : aBound (some x) c c = some m := by
                  cases x <;> simp only [aBound] at e1 ⊢ <;> try (cases e1; done)
                  split at e1
                  · rename_i hq
                    simp only [Bool.and_eq_true, decide_eq_true_eq] at hq
                    rw [if_pos (by simp only [Bool.and_eq_true, decide_eq_true_eq]; omega)]; exact e1
                  · cases e1
                have hb := bounds_ok (P := P) (w := w) (len := els.length) (cap := c) true vl vh vm hn e1' e2 e3
                exact ⟨m, hhm, by omega, fun _ => rfl, by simp [Instr.slice, run_underlying hu, hb.1, cSize_ok hk]⟩
            have cut : ∀ a c, ((els.take hh).drop l) = [] → (a = none → c = 0) → VR φ (.fsl k' ((els.take hh).drop l)) (.slice a (hh - l) c) := by
              intro a c he hac
              have : hh - l = 0 := by
                have := congrArg List.length he
                simp at this; omega
              rw [he, this]; exact .fslN _ _ _ hac
            cases hx with
            | fslN _ a c hac =>
              obtain ⟨m', h1, hmc, h2, hrun⟩ := real a c (by simp)
              simp only [List.length_nil] at *
              refine ⟨_, hrun, ?_⟩
              split at h
              · rename_i hz
                simp only [Bool.and_eq_true, decide_eq_true_eq] at hz
                cases h
                have := h2 hz.1
                have e1 : hh - l = 0 := by omega
                have e2 : m' - l = 0 := by omega
                rw [e1, e2]; exact .emp0 _
              · cases h
                refine cut _ _ (by simp) fun hnone => ?_
                have : a = none := by
                  split at hnone
                  · exact hnone
                  · simpa using hnone
                have := hac this; omega
            | @fsl _ _ vs b off c hv hhs he hc =>
              obtain ⟨m', h1, hmc, h2, hrun⟩ := real (some ⟨b, off, none⟩) c hc
              refine ⟨_, hrun, ?_⟩
              split at h
              · rename_i hz
                simp only [Bool.and_eq_true, decide_eq_true_eq] at hz
                cases h
                have := h2 hz.1
                have e1 : hh - l = 0 := by omega
                have e2 : m' - l = 0 := by omega
                rw [e1, e2]; exact .emp0 _
              · cases h
                by_cases hml : m' = l
                · exact cut _ _ (by apply List.drop_eq_nil_of_le; simp; omega) (by rw [if_pos hml]; intro h; cases h)
                · rw [if_neg hml, Option.map_some, Addr.add_eq]
                  have hlen : ((els.take hh).drop l).length = hh - l := by simp; omega
                  rw [← hlen]
                  have he' : ∀ e ∈ (els.take hh).drop l, e.cells.length = k' := fun e hm => he e (List.mem_of_mem_take (List.mem_of_mem_drop hm))
                  refine .fsl (vs := (vs.take (hh * k')).drop (l * k')) _ ?_ ?_ he' (by rw [hlen]; omega)
                  · rw [flatMap_drop _ _ (fun e hm => he e (List.mem_of_mem_take hm)), (flatMap_take els hh he (by omega)).1]
                    exact (hv.take _).drop _
                  · intro j v e
                    rw [List.getElem?_drop] at e
                    have := hhs _ v (take_getElem? _ _ _ _ e)
                    rwa [Nat.add_assoc]
          · cases h
        · cases h
      · cases h
  · cases h

theorem aSlcS_ok {t : TypeId} (hu : P.underlying t = some .string) {x z : AVal} {v : Value} {lo hi : Option AVal} {lo' hi' : Option Value}
    (h : aSlcS x lo hi = some z) (hx : VR φ x v) (vl : VRO φ lo lo') (vh : VRO φ hi hi') :
    ∃ r, (Instr.sliceAt t v lo' hi' none).run P w = .ok r w ∧ VR φ z r := by
  unfold aSlcS at h
  split at h
  · rename_i s
    cases hx
    split at h
    · rename_i hh e2
      split at h
      · rename_i l e3
        cases h
        have hb := bounds_ok (P := P) (w := w) false vl vh (VRO.none (φ := φ)) (by simp) (m := s.length) (by rfl) e2 e3
        refine ⟨.string ⟨((s.take hh).drop l).toArray⟩, ?_, .str _⟩
        have hs := bytes_size s
        simp only [Instr.sliceAt, Instr.slice, Sem.run_bind, run_underlying hu, Result.andThen_ok, hs, Option.isSome_none, Bool.false_eq_true, if_false, hb.1, Sem.run_pure]
        congr 2
        apply ByteArray.ext
        apply Array.ext'
        have hlh : l ≤ hh := by have := hb.2.2.1; omega
        have : ((⟨s.toArray⟩ : ByteArray).extract l hh).data.toList = (s.drop l).take (hh - l) := by
          rw [ByteArray.data_extract]
          simp [List.extract_eq_take_drop]
        rw [this]
        simp only [List.drop_take]
      · cases h
    · cases h
  · cases h

theorem aSlcR_ok {t e : TypeId} {m0 k : Nat} (hu : P.underlying t = some (.array m0 e)) (hk : cSize P e = some k) {x z : AVal} {v : Value} {lo hi mx : Option AVal} {lo' hi' mx' : Option Value}
    (h : aSlcR m0 k x lo hi mx = some z) (hx : VR φ x v) (vl : VRO φ lo lo') (vh : VRO φ hi hi') (vm : VRO φ mx mx') :
    ∃ r, (Instr.sliceAt t v lo' hi' mx').run P w = .ok r w ∧ VR φ z r := by
  unfold aSlcR at h
  split at h
  · rename_i i off
    cases hx with
    | ptr _ hib =>
      rename_i b
      split at h
      · cases h
      · rename_i hn
        split at h
        · rename_i m e1
          split at h
          · rename_i hh e2
            split at h
            · rename_i l e3
              cases h
              have hb := bounds_ok (P := P) (w := w) false vl vh vm (eq_false_of_ne_true hn) e1 e2 e3
              refine ⟨_, ?_, slcE_cut hib off l hh m k⟩
              simp only [Instr.sliceAt, Sem.run_bind, run_underlying hu, Result.andThen_ok, Instr.sureAddr, Sem.run_pure, hb.1, cSize_ok hk]
              congr 2
              split <;> rfl
            · cases h
          · cases h
        · cases h
  · cases h

theorem aIdx_ok {t e : TypeId} {k : Nat} (hu : P.underlying t = some (.slice e)) (hk : cSize P e = some k) {x i z : AVal} {v u : Value} (h : aIdx k x i = some z) (hx : VR φ x v) (hi : VR φ i u) :
    ∃ r, (Instr.indexAt t v u).run P w = .ok r w ∧ VR φ z r := by
  unfold aIdx at h
  split at h
  · rename_i b off len cap kk j
    split at h
    · rename_i hc
      simp only [Bool.and_eq_true, decide_eq_true_eq] at hc
      cases h
      cases hi
      have key : ∀ (bb : Nat) (c : Nat), (Instr.indexAt t (.slice (some ⟨bb, off, none⟩) len c) (.int kk j)).run P w = .ok (.pointer (some ⟨bb, off + j.toNat * k, none⟩)) w := by
        intro bb c
        have he : P.elem t = e := by simp [Program.elem, hu]
        rw [run_indexAt_slice w t _ len c kk j (by rw [he]; exact hu), if_pos hc, he, cSize_ok hk, Result.andThen_ok, Addr.add_eq]
      cases hx with
      | slcE _ _ _ hib => exact ⟨_, key _ _, .ptr _ hib⟩
      | slcG _ _ _ hφ _ _ => exact ⟨_, key _ _, .ptr _ (by simp [Id.real, hφ])⟩
    · cases h
  · rename_i k' els kk j
    split at h
    · rename_i hc
      simp only [Bool.and_eq_true, decide_eq_true_eq] at hc
      obtain ⟨rfl, h0⟩ := hc
      rw [Option.map_eq_some_iff] at h
      obtain ⟨el, hel, rfl⟩ := h
      have hlt := (List.getElem?_eq_some_iff.1 hel).1
      cases hi
      cases hx with
      | fslN => simp at hel
      | @fsl _ _ vs b off c hv hh he hc =>
        have hE : P.elem t = e := by simp [Program.elem, hu]
        refine ⟨.pointer (some ⟨b, off + j.toNat * k', none⟩), ?_, ?_⟩
        · rw [run_indexAt_slice w t _ els.length c kk j (by rw [hE]; exact hu), if_pos ⟨h0, by omega⟩, hE, cSize_ok hk, Result.andThen_ok, Addr.add_eq]
        · refine .fptr (vs := (vs.drop (j.toNat * k')).take k') ?_ ?_
          · rw [← flatMap_get els j.toNat he hel]
            exact (hv.drop _).take _
          · intro i v e
            have e := take_getElem? _ _ _ _ e
            rw [List.getElem?_drop] at e
            have := hh _ v e
            rwa [Nat.add_assoc]
    · cases h
  · cases h
theorem aIdxR_ok {t e : TypeId} {m k : Nat} (hu : P.underlying t = some (.array m e)) (hk : cSize P e = some k) {x i z : AVal} {v u : Value} (h : aIdxR m k x i = some z) (hx : VR φ x v) (hi : VR φ i u) :
    ∃ r, (Instr.indexAt t v u).run P w = .ok r w ∧ VR φ z r := by
  unfold aIdxR at h
  split at h
  · rename_i b off kk j
    split at h
    · rename_i hc
      simp only [Bool.and_eq_true, decide_eq_true_eq] at hc
      cases h
      cases hi
      cases hx with
      | ptr _ hib =>
        have he : P.elem t = e := by simp [Program.elem, hu]
        have hl : P.arrayLen t = m := by simp [Program.arrayLen, hu]
        refine ⟨_, ?_, .ptr _ hib⟩
        rw [run_indexAt_array w t _ kk j (by rw [he, hl]; exact hu), hl, if_pos hc, he, cSize_ok hk, Result.andThen_ok, Addr.add_eq]
    · cases h
  · cases h
theorem aIdxS_ok {t : TypeId} (hu : P.underlying t = some .string) {x i z : AVal} {v u : Value} (h : aIdxS x i = some z) (hx : VR φ x v) (hi : VR φ i u) :
    ∃ r, (Instr.index t v u).run P w = .ok r w ∧ VR φ z r := by
  unfold aIdxS at h
  split at h
  · rename_i s kk j
    split at h
    · rename_i hc
      rw [Option.map_eq_some_iff] at h
      obtain ⟨b, hb, rfl⟩ := h
      cases hi; cases hx
      refine ⟨.int .u8 b.toNat, ?_, .int _ _⟩
      have hg : (⟨s.toArray⟩ : ByteArray)[j.toNat]? = some b := by
        have : j.toNat < s.length := by
          rcases Nat.lt_or_ge j.toNat s.length with h | h
          · exact h
          · simp [h] at hb
        have h2 : j.toNat < (⟨s.toArray⟩ : ByteArray).size := by rw [bytes_size]; exact this
        rw [getElem?_pos (⟨s.toArray⟩ : ByteArray) j.toNat h2]
        simp only [Option.some.injEq]
        rw [List.getElem?_eq_getElem this] at hb
        have : (⟨s.toArray⟩ : ByteArray)[j.toNat] = s[j.toNat] := by
          show (s.toArray)[j.toNat] = s[j.toNat]
          simp
        rw [this]; simpa using hb
      simp only [Instr.index, Sem.run_bind, asIntOf, Sem.run_pure, Result.andThen_ok, run_underlying hu, if_pos hc, hg]
    · cases h
  · cases h
theorem aIdxG_ok {t e : TypeId} {m s : Nat} {k : Option Nat} (hu : P.underlying t = some (.array m e)) (hk : cAgg P e = some k) (hs : cSize P e = some s) {x i z : AVal} {v u : Value} (h : aIdxG m s k.isSome x i = some z) (hx : VR φ x v) (hi : VR φ i u) :
    ∃ r, (Instr.index t v u).run P w = .ok r w ∧ VR φ z r := by
  unfold aIdxG at h
  split at h
  · rename_i cs kk j
    split at h
    · rename_i hc
      simp only [Bool.and_eq_true, decide_eq_true_eq] at hc
      cases hi
      cases hx with
      | agg hxs =>
        have hks : (if k.isSome = true then some s else none) = k := by
          cases k with
          | none => rfl
          | some q =>
            have h1 := (cAgg_ok (w := w) hk).2 q rfl
            rw [cSize_ok hs w] at h1
            cases h1; rfl
        rw [hks] at h
        obtain ⟨r, hr, hvr⟩ := aPart_ok (w := w) hk h hxs
        refine ⟨r, ?_, hvr⟩
        simp only [Instr.index, Sem.run_bind, asIntOf, Sem.run_pure, Result.andThen_ok, run_underlying hu]
        rw [if_pos hc]
        simp only [Sem.run_bind, cSize_ok hs, Result.andThen_ok, hr]
    · cases h
  · cases h
end
section
variable {P : Program} {φ : Phi} {σ : Heap} {w : World} {n : Nat} {fr : Frame} {a : Act}

structure Wrote (w w' : World) (b : Nat) (o : Obj) : Prop where
  heap : ∀ b', w'.heap[b']? = if b' = b then some o else w.heap[b']?
  size : w'.heap.size = w.heap.size
  tape : w'.tape = w.tape
  os : w'.os = w.os
  output : w'.output = w.output
  drawn : w.drawn = w'.drawn
theorem storeCells_real : ∀ (vs : List Value) (w : World) (b o j : Nat) (cs : Array Value) (T : TypeId) (fz : Nat × Nat), w.heap[b]? = some (.cells cs T fz) →
    (∀ off, off < cs.size → (fz.1 ≤ off && off < fz.2) = false) → o + j + vs.length ≤ cs.size → (∀ v ∈ vs, v.oneCell' = true) →
    ∃ w', (storeCells ⟨b, o, none⟩ vs j).run P w = .ok () w' ∧ Wrote w w' b (.cells (over cs.toList (o + j) vs).toArray T fz) := by
  intro vs
  induction vs with
  | nil =>
    intro w b o j cs T fz hb hz hl hc
    refine ⟨w, by simp [storeCells], ⟨?_, rfl, rfl, rfl, rfl, rfl⟩⟩
    intro b'
    split
    · rename_i h; subst h; rw [hb, over_nil]
    · rfl
  | cons v vs ih =>
    intro w b o j cs T fz hb hz hl hc
    simp only [List.length_cons] at hl
    have hoff : o + j < cs.size := by omega
    have hadd : (⟨b, o, none⟩ : Addr).add j = ⟨b, o + j, none⟩ := Addr.add_lit b o j
    have hcell : w.cell? ⟨b, o + j, none⟩ = some cs[o + j] := by rw [cell?_cells hb]; simp
    have hfr : w.frozen? ⟨b, o + j, none⟩ = false := by simp only [World.frozen?, hb]; exact hz _ hoff
    have hs := heap_setCell (off := o + j) (v := v) hb
    obtain ⟨w', hw', hW⟩ := ih (w.setCell ⟨b, o + j, none⟩ v) b o (j + 1) (cs.setIfInBounds (o + j) v) T fz (by rw [hs, if_pos rfl]) (by simpa using hz) (by simp; omega) (fun x hx => hc x (List.mem_cons_of_mem _ hx))
    refine ⟨w', ?_, ?_⟩
    · simp only [storeCells, Sem.run_bind, hadd, run_store _ _ _ _ _ (hc v (List.mem_cons_self ..)), hcell, hfr]
      simpa using hw'
    · have e : over (cs.setIfInBounds (o + j) v).toList (o + (j + 1)) vs = over cs.toList (o + j) (v :: vs) := by
        rw [toList_setIfInBounds]
        exact over_cons _ _ _ _ (by simp; omega)
      rw [e] at hW
      refine ⟨?_, by rw [hW.size]; simp, hW.tape, hW.os, hW.output, hW.drawn⟩
      intro b'
      rw [hW.heap]
      split
      · rfl
      · rename_i hne; rw [hs, if_neg hne]

theorem Rel.kill (hr : Rel φ σ w) (k : Nat) : Rel φ (σ.set k .dead) w := by
  have hl : ∀ j, (σ.set k .dead).live j → σ.live j := by
    intro j ⟨x, hx, hd⟩
    rw [Heap.get_set] at hx
    split at hx
    · cases hx; exact absurd rfl hd
    · exact ⟨x, hx, hd⟩
  constructor
  · exact hr.size
  · exact hr.old
  · intro j b sz e
    obtain ⟨h1, o, ho, h2⟩ := hr.new j b sz e
    refine ⟨h1, o, ho, ?_⟩
    intro x hx
    rw [Heap.get_set] at hx
    split at hx
    · cases hx; exact .dead o
    · exact h2 x hx
  · exact fun j j' b sz sz' e e' h h' => hr.inj j j' b sz sz' e e' (hl j h) (hl j' h')
  · exact hr.fresh
  · exact hr.resv
  · exact hr.tape
  · exact hr.os
  · exact hr.output
  · exact hr.frz
  · exact fun j b sz i e h => hr.apart j b sz i e (hl j h)
  · exact hr.base
  · exact hr.drawn

theorem Rel.move (hr : Rel φ σ w) {k b sz : Nat} {cs : List AVal} {opn : Option TypeId} {w' : World} {blk : ABlk} {o : Obj} (hk : φ k = some (b, sz)) (hg : σ.get k = some (.cells cs opn)) (hW : Wrote w w' b o)
    (hb : BRel (φ.put σ.next (b, sz)) sz blk o) :
    φ.le (φ.put σ.next (b, sz)) ∧ Rel (φ.put σ.next (b, sz)) ((σ.set k .dead).new blk) w' := by
  have hnone := hr.fresh σ.next (Nat.le_refl _)
  have hle := Phi.le_put (b, sz) hnone
  have hkn : k ≠ σ.next := by intro h; rw [h, hnone] at hk; cases hk
  have hlive : σ.live k := ⟨_, hg, by intro h; cases h⟩
  have get : ∀ j, ((σ.set k .dead).new blk).get j = if σ.next = j then some blk else if k = j then some .dead else σ.get j := by
    intro j; rw [Heap.get_new, Heap.get_set]; rfl
  have live : ∀ j, j ≠ σ.next → ((σ.set k .dead).new blk).live j → σ.live j ∧ j ≠ k := by
    intro j hj ⟨x, hx, hd⟩
    rw [get, if_neg (fun h => hj h.symm)] at hx
    split at hx
    · cases hx; exact absurd rfl hd
    · rename_i h; exact ⟨⟨x, hx, hd⟩, fun h' => h h'.symm⟩
  refine ⟨hle, ?_⟩
  constructor
  · show σ.W.heap.size ≤ _; rw [hW.size]; exact hr.size
  · intro b' h
    have h : b' < σ.W.heap.size := h
    have := (hr.new k b sz hk).1
    rw [hW.heap, if_neg (by omega)]; exact hr.old b' h
  · intro j b' sz' e
    by_cases hj : j = σ.next
    · subst hj
      rw [Phi.put_same] at e
      simp only [Option.some.injEq, Prod.mk.injEq] at e
      obtain ⟨rfl, rfl⟩ := e
      refine ⟨(hr.new k b sz hk).1, o, by rw [hW.heap, if_pos rfl], ?_⟩
      intro x hx
      rw [get, if_pos rfl] at hx
      cases hx; exact hb
    · rw [Phi.put_other _ _ hj] at e
      obtain ⟨h1, o', ho', h2⟩ := hr.new j b' sz' e
      refine ⟨h1, ?_⟩
      by_cases hbb : b' = b
      · subst hbb
        refine ⟨o, by rw [hW.heap, if_pos rfl], ?_⟩
        intro x hx
        rw [get, if_neg (fun h => hj h.symm)] at hx
        split at hx
        · cases hx; exact .dead o
        · rename_i hkj
          cases hdx : x with
          | dead => exact .dead o
          | _ => exact absurd (hr.inj k j b' sz sz' hk e hlive ⟨x, hx, by rw [hdx]; intro h; cases h⟩) hkj
      · refine ⟨o', by rw [hW.heap, if_neg hbb]; exact ho', ?_⟩
        intro x hx
        rw [get, if_neg (fun h => hj h.symm)] at hx
        split at hx
        · cases hx; exact .dead o'
        · exact (h2 x hx).mono hle
  · intro j j' b' s1 s2 e e' hl hl'
    by_cases hj : j = σ.next <;> by_cases hj' : j' = σ.next
    · rw [hj, hj']
    · subst hj
      rw [Phi.put_same] at e; rw [Phi.put_other _ _ hj'] at e'
      simp only [Option.some.injEq, Prod.mk.injEq] at e
      obtain ⟨rfl, rfl⟩ := e
      have := live j' hj' hl'
      exact absurd (hr.inj k j' b sz s2 hk e' hlive this.1).symm this.2
    · subst hj'
      rw [Phi.put_same] at e'; rw [Phi.put_other _ _ hj] at e
      simp only [Option.some.injEq, Prod.mk.injEq] at e'
      obtain ⟨rfl, rfl⟩ := e'
      have := live j hj hl
      exact absurd (hr.inj k j b sz s1 hk e hlive this.1).symm this.2
    · rw [Phi.put_other _ _ hj] at e; rw [Phi.put_other _ _ hj'] at e'
      exact hr.inj j j' b' s1 s2 e e' (live j hj hl).1 (live j' hj' hl').1
  · intro j h
    have h : σ.next + 1 ≤ j := h
    rw [Phi.put_other _ _ (by omega)]; exact hr.fresh j (by omega)
  · intro j h
    have := hr.resv j h
    rw [Phi.put_other _ _ (by omega)]
    exact ⟨this.1, by simp only [Heap.new_next, Heap.set_next]; omega⟩
  · exact hW.tape.trans hr.tape
  · exact hW.os.trans hr.os
  · exact hW.output.trans hr.output
  · intro b' j v e
    have hne : b' ≠ b := by
      rintro rfl
      have e' : φ.F b' j = some v := e
      rw [hr.apart k b' sz j hk hlive] at e'; cases e'
    have h := hr.frz b' j v e
    simp only [World.cell?] at h ⊢
    rw [hW.heap, if_neg hne]; exact h
  · intro j b' s1 i e hl
    by_cases hj : j = σ.next
    · subst hj
      rw [Phi.put_same] at e
      simp only [Option.some.injEq, Prod.mk.injEq] at e
      obtain ⟨rfl, rfl⟩ := e
      exact hr.apart k b sz i hk hlive
    · rw [Phi.put_other _ _ hj] at e
      exact hr.apart j b' s1 i e (live j hj hl).1
  · exact hr.base
  · rw [← hW.drawn]; exact hr.drawn

theorem aLenOf_ok {y : AVal} {v : Value} {m : Nat} (h : aLenOf y = some m) (hy : VR φ y v) : (Builtin.lenOf v).run P w = .ok m w := by
  cases hy <;> simp only [aLenOf] at h <;> try (cases h; done)
  all_goals (cases h; simp [Builtin.lenOf, bytes_size])

theorem slcCells_ok (hr : Rel φ σ w) {k m : Nat} {y : AVal} {v : Value} {cs : List AVal} (h : slcCells σ k m y = some cs) (hy : VR φ y v) :
    ∃ vs : List Value, (Builtin.firstCells k m v).run P w = .ok vs.toArray w ∧ VRs φ cs vs := by
  have key : ∀ (i : Id) (b off len c : Nat), i.real φ = some b → cellsFrom σ i off (m * k) = some cs →
      ∃ vs : List Value, (Builtin.firstCells k m (.slice (some ⟨b, off, none⟩) len c)).run P w = .ok vs.toArray w ∧ VRs φ cs vs := by
    intro i b off len c hi hc
    obtain ⟨vs, h1, h2⟩ := loadCells_ok (P := P) hr hi (m * k) off off 0 cs #[] hc (by omega)
    exact ⟨vs, by simpa [Builtin.firstCells, loadCells] using h1, h2⟩
  cases hy <;> simp only [slcCells] at h <;> try (cases h; done)
  case nils =>
    split at h
    · cases h; exact ⟨[], by simp [Builtin.firstCells], .nil⟩
    · cases h
  case slcE hi =>
    split at h
    · exact key _ _ _ _ _ hi h
    · cases h
  case slcG hφ _ _ =>
    split at h
    · exact key _ _ _ _ _ (by simp [Id.real, hφ]) h
    · cases h
  case emp =>
    split at h
    · rename_i hm; subst hm
      cases h
      exact ⟨[], by simp [Builtin.firstCells, loadCells, loadCellsFrom], .nil⟩
    · cases h
  case emp0 a =>
    split at h
    · rename_i hm; subst hm
      cases h
      exact ⟨[], by cases a <;> simp [Builtin.firstCells, loadCells, loadCellsFrom], .nil⟩
    · cases h
  case fslN k' a c _ =>
    split at h
    · rename_i hm
      simp only [List.length_nil, Bool.and_eq_true, decide_eq_true_eq, Nat.le_zero] at hm
      obtain ⟨_, rfl⟩ := hm
      cases h
      exact ⟨[], by cases a <;> simp [Builtin.firstCells, loadCells, loadCellsFrom], .nil⟩
    · cases h
  case fsl k' els vs b off c hv hh he hc =>
    split at h
    · rename_i hm
      simp only [Bool.and_eq_true, decide_eq_true_eq] at hm
      obtain ⟨rfl, hm⟩ := hm
      cases h
      obtain ⟨h1, h2⟩ := flatMap_take els m he hm
      have hl := hv.flat_len he
      have hlen : (vs.take (m * k')).length = m * k' := by
        rw [List.length_take, hl]
        have := Nat.mul_le_mul_right k' hm
        omega
      have hld := loadF_ok (P := P) hr (vs.take (m * k')) b off 0 #[] (fun i v e => by
        rw [Nat.zero_add]; exact hh i v (take_getElem? _ _ _ _ e))
      refine ⟨vs.take (m * k'), ?_, ?_⟩
      · rw [hlen] at hld
        simpa [Builtin.firstCells, loadCells] using hld
      · rw [h1]; exact hv.take _
    · cases h

theorem VRs.bytes : ∀ s : List UInt8, VRs φ (byteCells s) (s.map fun b => Value.int .u8 b.toNat)
  | [] => .nil
  | b :: s => .cons (.int _ _) (VRs.bytes s)
theorem srcCells_ok (hr : Rel φ σ w) {k m : Nat} {y : AVal} {v : Value} {cs : List AVal} (h : srcCells σ k m y = some cs) (hy : VR φ y v) :
    ∃ vs : List Value, (Builtin.firstCells k m v).run P w = .ok vs.toArray w ∧ VRs φ cs vs := by
  unfold srcCells at h
  split at h
  · rename_i s
    split at h
    · rename_i hc
      simp only [Bool.and_eq_true, decide_eq_true_eq] at hc
      cases h
      cases hy
      refine ⟨(s.take m).map fun b => Value.int .u8 b.toNat, ?_, VRs.bytes _⟩
      simp only [Builtin.firstCells, Sem.run_pure]
      congr 1
      apply Array.ext'
      simp [ByteArray.data_extract, List.extract_eq_take_drop]
    · cases h
  · exact slcCells_ok hr h hy

theorem cellsFrom_length : ∀ (n : Nat) (σ : Heap) (i : Id) (off : Nat) (l : List AVal), cellsFrom σ i off n = some l → l.length = n
  | 0, _, _, _, l, h => by cases h; rfl
  | n + 1, σ, i, off, l, h => by
    simp only [cellsFrom] at h
    split at h
    · rename_i a r ha hr
      cases h
      simp [cellsFrom_length n σ i (off + 1) r hr]
    · cases h
theorem slcCells_length {k m : Nat} {y : AVal} {cs : List AVal} (h : slcCells σ k m y = some cs) {v : Value} (hy : VR φ y v) : cs.length = m * k := by
  cases hy <;> simp only [slcCells] at h <;> try (cases h; done)
  case fsl he hc =>
    split at h
    · rename_i hm
      simp only [Bool.and_eq_true, decide_eq_true_eq] at hm
      obtain ⟨rfl, hm⟩ := hm
      cases h
      exact (flatMap_take _ _ he hm).2
    · cases h
  case fslN =>
    split at h
    · rename_i hm
      simp only [List.length_nil, Bool.and_eq_true, decide_eq_true_eq, Nat.le_zero] at hm
      cases h
      simp [hm.2]
    · cases h
  all_goals
    split at h
    · first
        | exact cellsFrom_length _ _ _ _ _ h
        | (rename_i hm; cases h; simp [hm])
    · cases h
theorem srcCells_length {k m : Nat} {y : AVal} {cs : List AVal} (h : srcCells σ k m y = some cs) {v : Value} (hy : VR φ y v) : cs.length = m * k := by
  unfold srcCells at h
  split at h
  · split at h
    · rename_i hc
      simp only [Bool.and_eq_true, decide_eq_true_eq] at hc
      cases h
      simp only [byteCells, List.length_map, List.length_take, hc.2, Nat.mul_one]; exact Nat.min_eq_left hc.1
    · cases h
  · exact slcCells_length h hy
theorem VRs.oneCell : ∀ {l : List AVal} {vs : List Value}, VRs φ l vs → l.all AVal.isCell = true → ∀ v ∈ vs, v.oneCell' = true
  | [], _, h, _, v, hv => by cases h; cases hv
  | a :: l, _, h, hc, v, hv => by
    cases h with
    | cons h1 h2 =>
      simp only [List.all_cons, Bool.and_eq_true] at hc
      cases hv with
      | head => exact h1.oneCell hc.1
      | tail _ hm => exact VRs.oneCell h2 hc.2 v hm

theorem zeroCells_size (z : Array Value) (m : Nat) : (Builtin.zeroCells z m).size = m * z.size := by simp [Builtin.zeroCells]

theorem grow_ok (hr : Rel φ σ w) {xs ys : List AVal} {us vs : List Value} (hx : VRs φ xs us) (hy : VRs φ ys vs) (e : TypeId) (rest : Array Value) (k c m : Nat) (hsz : us.length + vs.length + rest.size = c * k) (hm : m ≤ c) :
    ∃ φ', φ.le φ' ∧ VR φ' (.slc (.new σ.next) 0 m (.gr k)) (.slice (some ⟨w.heap.size, 0, none⟩) m c) ∧
      Rel φ' (σ.new (.cells (xs ++ ys) (some e))) (w.alloc (.cells (us.toArray ++ vs.toArray ++ rest) e)) := by
  have hl1 := hx.length
  have hl2 := hy.length
  have hle := Phi.le_put (w.heap.size, c * k) (hr.fresh σ.next (Nat.le_refl _))
  obtain ⟨h1, h2⟩ := hr.alloc (blk := .cells (xs ++ ys) (some e)) (o := .cells (us.toArray ++ vs.toArray ++ rest) e) (sz := c * k) (by
    refine .cells (by simp; omega) (by simp; omega) (by intro h; cases h) (by intro T' h; cases h; rfl) ?_ (by intro off _; simp)
    have : (us.toArray ++ vs.toArray ++ rest).toList.take (xs ++ ys).length = us ++ vs := by
      simp only [Array.toList_append, List.length_append, hl1, hl2]
      exact List.take_left' (by simp)
    rw [this]
    exact (hx.mono hle).append (hy.mono hle))
  exact ⟨_, h1, .slcG 0 m c (Phi.put_same ..) (by omega) hm, h2⟩

theorem nextslicecap_le (need c : Nat) (h : c < need) : Builtin.nextslicecap need c ≤ 4 * need + 1024 := by
  unfold Builtin.nextslicecap
  split
  · omega
  · split
    · omega
    · have h1 : ∀ r x, x ≤ need + need / 4 + 192 → Builtin.growBy need r x ≤ need + need / 4 + 192 := by
        intro r
        induction r with
        | zero => intro x hx; simpa [Builtin.growBy] using hx
        | succ r ih =>
          intro x hx
          simp only [Builtin.growBy]
          split
          · exact hx
          · apply ih; omega
      have := h1 4 c (by omega)
      omega

theorem run_appendCap (need old : Nat) (e : TypeId) : ∃ c, need ≤ c ∧ (choose (.appendCap need old e)).run P w = .ok c w.drew :=
  ⟨_, Nat.le_add_right .., by simp [run_choose_drew, Question.forced, Question.cut]; rfl⟩
end
end Go.Mini
set_option maxHeartbeats 4000000
namespace Go.Mini
open Go

section
variable {P : Program} {φ : Phi} {σ : Heap} {w : World} {n : Nat} {fr : Frame} {a : Act}

def DoingV (P : Program) (s : Sem Value) (w : World) (φ : Phi) (x : AVal) (σ' : Heap) : Prop :=
  ∃ v w' φ', s.run P w = .ok v w' ∧ φ.le φ' ∧ VR φ' x v ∧ Rel φ' σ' w'
theorem DoingV.doing {s : Sem Value} {x : AVal} {σ' : Heap} (h : DoingV P s w φ x σ') : Doing P (do pure (.value (← s))) w φ x σ' := by
  obtain ⟨v, w', φ', h1, h2, h3, h4⟩ := h
  exact ⟨v, w', φ', .inl (by simp [h1]), h2, h3, h4⟩

def isIntD : TypeDesc → Bool
  | .int _ => true
  | _ => false
theorem append_fits {t e u ty : TypeId} {D : TypeDesc} {ti : TypeInfo} (hu : P.underlying t = some (.slice e)) (hD : P.underlying u = some D) (hn : isIntD D = false) (hti : P.info? e = some ti)
    {base : Option Addr} {sLen sCap : Nat} {x : Value} {m : Nat} {new : Array Value} (hm : (Builtin.lenOf x).run P w = .ok m w) (hnew : (Builtin.firstCells ti.size m x).run P w = .ok new w) (h : sLen + m ≤ sCap) :
    (Builtin.append_ #[t, u] ty #[.slice base sLen sCap, x]).run P w = (match base with
          | some a => ((storeCells (a.add (sLen * ti.size)) new.toList).run P w).andThen fun _ w => .ok (.slice base (sLen + m) sCap) w
          | none => .ok (.slice base (sLen + m) sCap) w) := by
  have hsz : (sizeOf e).run P w = .ok ti.size w := by simp [sizeOf, typeInfo, hti]
  cases D <;> simp only [isIntD, Bool.true_eq_false] at hn
  all_goals
    simp only [Builtin.append_, List.getElem?_toArray, List.getElem?_cons_zero, List.getElem?_cons_succ, Sem.run_bind, run_underlying hu, run_underlying hD, Result.andThen_ok, hsz, Sem.run_pure, Bool.false_eq_true, if_false, hm, Bool.not_false, if_true, if_pos h, hnew]
    cases base <;> simp
theorem append_grows {t e u ty : TypeId} {D : TypeDesc} {ti : TypeInfo} {z : Value} (hu : P.underlying t = some (.slice e)) (hD : P.underlying u = some D) (hn : isIntD D = false) (hti : P.info? e = some ti)
    (hz : ti.zero = some z) (hb0 : ti.bytes ≠ 0) {base : Option Addr} {sLen sCap : Nat} {x : Value} {m : Nat} {old new : Array Value} (hm : (Builtin.lenOf x).run P w = .ok m w)
    (hold : (Builtin.firstCells ti.size sLen (.slice base sLen sCap)).run P w.drew = .ok old w.drew) (hnew : (Builtin.firstCells ti.size m x).run P w.drew = .ok new w.drew)
    (h : ¬ sLen + m ≤ sCap) (hsmall : (sLen + m) * ti.bytes ≤ maxRoom) :
    ∃ c, sLen + m ≤ c ∧ (Builtin.append_ #[t, u] ty #[.slice base sLen sCap, x]).run P w =
      .ok (.slice (some ⟨w.heap.size, 0, none⟩) (sLen + m) c) (w.drew.alloc (.cells (old ++ new ++ Builtin.zeroCells z.cells (c - (sLen + m))) e)) := by
  have hsz : (sizeOf e).run P w = .ok ti.size w := by simp [sizeOf, typeInfo, hti]
  have hinfo : ∀ w, (typeInfo e).run P w = .ok ti w := by intro w; simp [typeInfo, hti]
  have hzero : ∀ w, (zeroValue e).run P w = .ok z w := by intro w; simp [zeroValue, typeInfo, hti, hz]
  obtain ⟨c, hc, hrun⟩ := run_appendCap (P := P) (w := w) (sLen + m) sCap e
  refine ⟨c, hc, ?_⟩
  have hnext : ¬ Builtin.nextslicecap (sLen + m) sCap * ti.bytes > 2 ^ 48 := by
    have h1 := nextslicecap_le (sLen + m) sCap (by omega)
    have h2 : (4 * (sLen + m) + 1024) * ti.bytes ≤ 2 ^ 48 := by
      have h3 : sLen + m ≥ 1 := by omega
      have h4 : (4 * (sLen + m) + 1024) ≤ 1028 * (sLen + m) := by omega
      have h5 := Nat.mul_le_mul_right ti.bytes h4
      have h6 : 1028 * (sLen + m) * ti.bytes = 1028 * ((sLen + m) * ti.bytes) := Nat.mul_assoc ..
      unfold maxRoom at hsmall
      omega
    have := Nat.mul_le_mul_right ti.bytes h1
    omega
  cases D <;> simp only [isIntD, Bool.true_eq_false] at hn
  all_goals
    simp only [Builtin.append_, List.getElem?_toArray, List.getElem?_cons_zero, List.getElem?_cons_succ, Sem.run_bind, run_underlying hu, run_underlying hD, Result.andThen_ok, hsz, Sem.run_pure, Bool.false_eq_true, if_false, hm, Bool.not_false, if_true, if_neg h, hinfo, false_or, hb0, and_false, hnext, hrun, run_askRoom, hold, hnew, hzero, newRow, run_newObj_alloc]
    rfl

theorem take_app {α : Type} (l : List α) (xs : List α) (off : Nat) (h : off + xs.length ≤ l.length) : (over l off xs).take (off + xs.length) = l.take off ++ xs := by
  unfold over
  exact List.take_left' (by simp; omega)

theorem aApp_ok {t e u ty : TypeId} {D : TypeDesc} {ti : TypeInfo} {zv : Value} (hu : P.underlying t = some (.slice e)) (hD : P.underlying u = some D) (hn : isIntD D = false) (hti : P.info? e = some ti)
    (hz : ti.zero = some zv) (hzs : zv.cells.size = ti.size) {x y z : AVal} {v r : Value} {σ' : Heap} (h : aApp e ti.size ti.bytes x y σ = some (z, σ')) (hx : VR φ x v) (hy : VR φ y r) (hr : Rel φ σ w) :
    DoingV P (Builtin.append_ #[t, u] ty #[v, r]) w φ z σ' := by
  unfold aApp at h
  split at h
  · cases h
  · rename_i m hm
    split at h
    · cases h
    · rename_i ys hys
      split at h
      · cases h
      · rename_i hc
        simp only [Bool.or_eq_true, Bool.not_eq_true', decide_eq_true_eq, not_or, Bool.not_eq_false] at hc
        obtain ⟨⟨hcell, hb0⟩, hk0⟩ := hc
        have hlen := srcCells_length hys hy
        have hmr : ∀ w : World, (Builtin.lenOf r).run P w = .ok m w := fun w => aLenOf_ok hm hy
        obtain ⟨vs, hvs, hvr⟩ := srcCells_ok (P := P) hr hys hy
        obtain ⟨vs', hvs', hvr'⟩ := srcCells_ok (P := P) hr.drew hys hy
        have hvl := hvr.length
        have hvl' := hvr'.length
        split at h
        · -- nil
          cases hx
          split at h
          · rename_i hm0
            cases h
            subst hm0
            refine ⟨_, w, φ, ?_, Phi.le_refl φ, .nils, hr⟩
            rw [append_fits hu hD hn hti (hmr w) hvs (by omega)]
          · split at h
            · rename_i hm0 hsm
              cases h
              obtain ⟨c, hc1, hrun⟩ := append_grows (ty := ty) (base := none) (sLen := 0) (sCap := 0) (old := #[]) hu hD hn hti hz hb0 (hmr w) (by simp [Builtin.firstCells]) hvs' (by omega) (by simpa using hsm)
              obtain ⟨φ', h1, h2, h3⟩ := grow_ok hr.drew (us := []) .nil hvr' e (Builtin.zeroCells zv.cells (c - (0 + m))) ti.size c m (by
                rw [zeroCells_size, hzs, ← hvl', hlen]
                simp only [List.length_nil, Nat.zero_add]
                rw [← Nat.add_mul]; congr 1; omega) (by omega)
              exact ⟨_, _, φ', hrun, h1, by simpa using h2, by simpa using h3⟩
            · cases h
        · -- no room at all
          cases hx with
          | emp0 a =>
          split at h
          · rename_i hm0
            cases h
            subst hm0
            have : vs = [] := by
              cases vs with
              | nil => rfl
              | cons a l => simp [hlen] at hvl
            subst this
            refine ⟨_, w, φ, ?_, Phi.le_refl φ, .emp0 a, hr⟩
            rw [append_fits hu hD hn hti (hmr w) hvs (by omega)]
            cases a <;> simp [storeCells]
          · split at h
            · rename_i hm0 hsm
              cases h
              obtain ⟨c, hc1, hrun⟩ := append_grows (ty := ty) (base := a) (sLen := 0) (sCap := 0) (old := #[]) hu hD hn hti hz hb0 (hmr w) (by cases a <;> simp [Builtin.firstCells, loadCells, loadCellsFrom]) hvs' (by omega) (by simpa using hsm)
              obtain ⟨φ', h1, h2, h3⟩ := grow_ok hr.drew (us := []) .nil hvr' e (Builtin.zeroCells zv.cells (c - (0 + m))) ti.size c m (by
                rw [zeroCells_size, hzs, ← hvl', hlen]
                simp only [List.length_nil, Nat.zero_add]
                rw [← Nat.add_mul]; congr 1; omega) (by omega)
              exact ⟨_, _, φ', hrun, h1, by simpa using h2, by simpa using h3⟩
            · cases h
        · -- never changes: nothing is put behind it
          split at h
          · rename_i hm0
            cases h
            subst hm0
            have : vs = [] := by
              cases vs with
              | nil => rfl
              | cons a l => simp [hlen] at hvl
            subst this
            refine ⟨v, w, φ, ?_, Phi.le_refl φ, hx, hr⟩
            cases hx with
            | fslN _ a c _ =>
              rw [append_fits hu hD hn hti (hmr w) hvs (by omega)]
              cases a <;> simp [storeCells]
            | fsl c h1 h2 h3 h4 =>
              rw [append_fits hu hD hn hti (hmr w) hvs (by omega)]
              simp [storeCells]
          · cases h
        · -- exact
          rename_i i off len c
          cases hx with
          | slcE _ _ _ hib =>
            rename_i b
            split at h
            · rename_i hfit
              have hrun := append_fits (ty := ty) (base := some ⟨b, off, none⟩) hu hD hn hti (hmr w) hvs hfit
              split at h
              · rename_i hm0
                cases h
                subst hm0
                have : vs = [] := by
                  cases vs with
                  | nil => rfl
                  | cons a l => simp [hlen] at hvl
                subst this
                exact ⟨_, w, φ, by rw [hrun]; simp [storeCells], Phi.le_refl φ, .slcE _ _ _ hib, hr⟩
              · split at h
                · rename_i kk
                  rw [Option.map_eq_some_iff] at h
                  obtain ⟨σ1, hs, he⟩ := h
                  simp only [Prod.mk.injEq] at he
                  obtain ⟨rfl, rfl⟩ := he
                  simp only [Id.real, Option.map_eq_some_iff] at hib
                  obtain ⟨⟨b', sz⟩, hφ, rfl⟩ := hib
                  obtain ⟨w', hw', hr'⟩ := storeAt_ok (P := P) hs hvr hr hφ
                  refine ⟨_, w', φ, ?_, Phi.le_refl φ, .slcE (b := b') _ _ _ (by simp [Id.real, hφ]), hr'⟩
                  rw [hrun]
                  simp only [Addr.add_eq]
                  rw [hw']
                  rfl
                · cases h
            · split at h
              · rename_i hfit hsm
                split at h
                · rename_i xs hxs
                  cases h
                  obtain ⟨us, hus, hur⟩ := loadCells_ok (P := P) hr.drew hib (len * ti.size) off off 0 xs #[] hxs (by omega)
                  have hul := hur.length
                  have hxl := cellsFrom_length _ _ _ _ _ hxs
                  obtain ⟨c', hc1, hrun⟩ := append_grows (ty := ty) (base := some ⟨b, off, none⟩) (sLen := len) (sCap := c) (old := us.toArray) hu hD hn hti hz hb0 (hmr w) (by simpa [Builtin.firstCells, loadCells] using hus) hvs' (by omega) hsm
                  obtain ⟨φ', h1, h2, h3⟩ := grow_ok hr.drew hur hvr' e (Builtin.zeroCells zv.cells (c' - (len + m))) ti.size c' (len + m) (by
                    rw [zeroCells_size, hzs, ← hvl', hlen, ← hul, hxl]
                    rw [← Nat.add_mul, ← Nat.add_mul]; congr 1; omega) (by omega)
                  exact ⟨_, _, φ', hrun, h1, by simpa using h2, by simpa using h3⟩
                · cases h
              · cases h
        · -- grown
          rename_i kk off len k'
          cases hx with
          | slcG _ _ c hφ hsz hlc =>
            rename_i b sz
            have hib : (Id.new kk).real φ = some b := by simp [Id.real, hφ]
            split at h
            · rename_i hm0
              cases h
              subst hm0
              have : vs = [] := by
                cases vs with
                | nil => rfl
                | cons a l => simp [hlen] at hvl
              subst this
              have hrun := append_fits (ty := ty) (base := some ⟨b, off, none⟩) hu hD hn hti (hmr w) hvs (by omega : len + 0 ≤ c)
              exact ⟨_, w, φ, by rw [hrun]; simp [storeCells], Phi.le_refl φ, .slcG _ _ _ hφ hsz hlc, hr⟩
            · rename_i hm0
              split at h
              · rename_i hk
                simp only [Bool.and_eq_true, decide_eq_true_eq] at hk
                obtain ⟨hkk, hsm⟩ := hk
                subst hkk
                split at h
                · rename_i cs e' xs hg hxs
                  split at h
                  · rename_i hoff
                    simp only [Bool.and_eq_true, decide_eq_true_eq] at hoff
                    obtain ⟨⟨rfl, hcl⟩, he'⟩ := hoff
                    rw [he'] at hg
                    cases h
                    have hxl := cellsFrom_length _ _ _ _ _ hxs
                    by_cases hfit : len + m ≤ c
                    · have hrun := append_fits (ty := ty) (base := some ⟨b, 0, none⟩) hu hD hn hti (hmr w) hvs hfit
                      obtain ⟨cs', T, fz, ho, h1, h2, h3, hT, h4, h5⟩ := hr.block hφ hg
                      have hcm : (len + m) * ti.size ≤ sz := by
                        rw [← hsz, Nat.zero_add]; exact Nat.mul_le_mul_right _ hfit
                      rw [Nat.add_mul] at hcm
                      have hvlen : vs.length = m * ti.size := by omega
                      obtain ⟨w', hw', hW⟩ := storeCells_real (P := P) vs w b (len * ti.size) 0 cs' T fz ho (by rw [h1]; exact h5) (by omega) (hvr.oneCell hcell)
                      rw [Nat.add_zero] at hW
                      obtain ⟨us, hus, hur⟩ := loadCells_ok (P := P) hr hib (len * ti.size) 0 0 0 xs #[] hxs (by omega)
                      have hxs' : VRs φ xs (cs'.toList.take (len * ti.size)) := by
                        have hxcs : xs = cs := by
                          have : ∀ n off l, cellsFrom σ (.new kk) off n = some l → l = (cs.drop off).take n := by
                            intro n
                            induction n with
                            | zero => intro off l h; cases h; simp
                            | succ n ih =>
                              intro off l h
                              simp only [cellsFrom] at h
                              split at h
                              · rename_i a r ha hr'
                                cases h
                                simp only [Heap.cell, hg] at ha
                                have hlt : off < cs.length := by
                                  rcases Nat.lt_or_ge off cs.length with h | h
                                  · exact h
                                  · rw [List.getElem?_eq_none h] at ha; cases ha
                                rw [ih _ _ hr', List.drop_eq_getElem_cons hlt, List.take_succ_cons]
                                rw [List.getElem?_eq_getElem hlt] at ha
                                cases ha; rfl
                              · cases h
                          have := this _ _ _ hxs
                          rw [this, List.drop_zero, List.take_of_length_le (by omega)]
                        rw [hxcs, ← hcl]; exact h4
                      have hle := Phi.le_put (b, sz) (hr.fresh σ.next (Nat.le_refl _))
                      obtain ⟨g1, g2⟩ := hr.move (blk := .cells (xs ++ ys) (some e)) hφ hg hW (by
                        refine .cells ?_ ?_ (by intro h; cases h) (by intro T' h; cases h; exact hT _ rfl) ?_ h5
                        · simp only [List.size_toArray]
                          rw [over_length _ _ _ (by simp; omega)]
                          simpa using h1
                        · simp; omega
                        · have : (over cs'.toList (len * ti.size) vs).toArray.toList.take (xs ++ ys).length = cs'.toList.take (len * ti.size) ++ vs := by
                            simp only [List.length_append, hxl, hvl]
                            exact take_app _ _ _ (by simp; omega)
                          rw [this]
                          exact (hxs'.mono hle).append (hvr.mono hle))
                      refine ⟨_, w', _, ?_, g1, .slcG 0 (len + m) c (Phi.put_same ..) (by omega) hfit, g2⟩
                      rw [hrun]
                      simp only [Addr.add_eq, Nat.zero_add]
                      rw [hw']
                      rfl
                    · obtain ⟨us, hus, hur⟩ := loadCells_ok (P := P) hr.drew hib (len * ti.size) 0 0 0 xs #[] hxs (by omega)
                      have hul := hur.length
                      obtain ⟨c', hc1, hrun⟩ := append_grows (ty := ty) (base := some ⟨b, 0, none⟩) (sLen := len) (sCap := c) (old := us.toArray) hu hD hn hti hz hb0 (hmr w) (by simpa [Builtin.firstCells, loadCells] using hus) hvs' (by omega) hsm
                      obtain ⟨φ', g1, g2, g3⟩ := grow_ok (hr.drew.kill kk) hur hvr' e (Builtin.zeroCells zv.cells (c' - (len + m))) ti.size c' (len + m) (by
                        rw [zeroCells_size, hzs, ← hvl', hlen, ← hul, hxl]
                        rw [← Nat.add_mul, ← Nat.add_mul]; congr 1; omega) (by omega)
                      exact ⟨_, _, φ', hrun, g1, by simpa using g2, by simpa using g3⟩
                  · cases h
                · cases h
              · cases h
        · cases h
end
end Go.Mini
namespace Go.Mini
open Go

section
variable {P : Program} {φ : Phi} {σ : Heap} {w : World} {n : Nat} {fr : Frame} {a : Act}

theorem VRs.nil_inv {vs : List Value} (h : VRs φ [] vs) : vs = [] := by cases h; rfl

theorem aCopy_ok {t u e ty : TypeId} {k : Nat} (hu : P.underlying t = some (.slice e)) (hk : cSize P e = some k) {x y z : AVal} {v r : Value} {σ' : Heap} (h : aCopy k x y σ = some (z, σ')) (hx : VR φ x v) (hy : VR φ y r) (hr : Rel φ σ w) :
    DoingV P (Builtin.copy_ #[t, u] ty #[v, r]) w φ z σ' := by
  unfold aCopy at h
  split at h
  · rename_i d s hd hs
    split at h
    · rename_i ys hys
      obtain ⟨vs, hvs, hvr⟩ := srcCells_ok (P := P) hr hys hy
      have hls := aLenOf_ok (P := P) (w := w) hs hy
      have hlen := srcCells_length hys hy
      have hcopy : ∀ (base : Option Addr) (c : Nat), (Builtin.copy_ #[t, u] ty #[.slice base d c, r]).run P w = (match base with
          | some a => ((storeCells a vs).run P w).andThen fun _ w => .ok (goInt (min s d : Nat)) w
          | none => .ok (goInt (min s d : Nat)) w) := by
        intro base c
        have hvs : (Builtin.firstCells k (Nat.min s d) r).run P w = .ok vs.toArray w := hvs
        simp only [Builtin.copy_, List.getElem?_toArray, List.getElem?_cons_zero, List.getElem?_cons_succ, Sem.run_bind, run_underlying hu, Result.andThen_ok, hls, cSize_ok hk, hvs]
        cases base <;> simp [Nat.min_def]
      split at h
      · rename_i hm0
        cases h
        have : vs = [] := by
          have : ys = [] := by
            cases ys with
            | nil => rfl
            | cons a l => rw [hm0] at hlen; simp at hlen
          subst this; exact hvr.nil_inv
        subst this
        have hz : VR φ (.int .i64 0) (goInt (min s d : Nat)) := by rw [hm0]; exact .int _ _
        refine ⟨_, w, φ, ?_, Phi.le_refl φ, hz, hr⟩
        cases hx <;> simp only [aSLen] at hd <;> try (cases hd; done)
        all_goals (cases hd; rw [hcopy]; try simp [storeCells])
      · split at h
        · rename_i b off len cap hm0
          rw [Option.map_eq_some_iff] at h
          obtain ⟨σ1, hst, he⟩ := h
          simp only [Prod.mk.injEq] at he
          obtain ⟨rfl, rfl⟩ := he
          simp only [aSLen, Option.some.injEq] at hd
          subst hd
          cases hx with
          | slcE _ _ _ hib =>
            simp only [Id.real, Option.map_eq_some_iff] at hib
            obtain ⟨⟨b', sz⟩, hφ, rfl⟩ := hib
            obtain ⟨w', hw', hr'⟩ := storeAt_ok (P := P) hst hvr hr hφ
            exact ⟨_, w', φ, by rw [hcopy]; simp only; rw [hw']; rfl, Phi.le_refl φ, .int _ _, hr'⟩
          | slcG _ _ _ hφ _ _ =>
            obtain ⟨w', hw', hr'⟩ := storeAt_ok (P := P) hst hvr hr hφ
            exact ⟨_, w', φ, by rw [hcopy]; simp only; rw [hw']; rfl, Phi.le_refl φ, .int _ _, hr'⟩
        · cases h
    · cases h
  · cases h

theorem findNow_ok {es0 : List (Int × AVal)} {es' : List MapEntry} (h : EntRel φ es0 es') (key : Int) : ∀ i : Nat,
    (Instr.findNow (.int .i64) (.int .i64 key) es' i = some none ∧ ∀ a, (key, a) ∉ es0) ∨
    ∃ (j : Nat) (x : AVal) (e : MapEntry), Instr.findNow (.int .i64) (.int .i64 key) es' i = some (some (i + j, e.val)) ∧ es0[j]? = some (key, x) ∧ es'[j]? = some e ∧ VR φ x e.val ∧ e.key = .int .i64 key := by
  induction h with
  | nil => intro i; exact .inl ⟨rfl, by simp⟩
  | @cons m x e es es' hk hv hes ih =>
    intro i
    simp only [Instr.findNow, hk, Instr.sameNow, if_true]
    by_cases hkm : key = m
    · subst hkm
      refine .inr ⟨0, x, e, by simp, rfl, rfl, hv, hk⟩
    · have : (key == m) = false := by simpa using hkm
      simp only [this]
      rcases ih (i + 1) with ⟨h1, h2⟩ | ⟨j, x', e', h1, h2, h3, h4, h5⟩
      · exact .inl ⟨h1, fun a hm => by
          cases hm with
          | head => exact hkm rfl
          | tail _ hm => exact h2 a hm⟩
      · refine .inr ⟨j + 1, x', e', ?_, by simpa using h2, by simpa using h3, h4, h5⟩
        rw [h1]; congr 3; omega

theorem mapFind_some {key : Int} {x : AVal} : ∀ {es : List (Int × AVal)}, es.Pairwise (fun x y => x.1 < y.1) → (key, x) ∈ es → mapFind key es = some x
  | [], _, h => by cases h
  | (m, y) :: es, hp, h => by
    rw [List.pairwise_cons] at hp
    simp only [mapFind]
    cases h with
    | head => simp
    | tail _ hm =>
      have := hp.1 _ hm
      rw [if_neg (by simp at this; omega)]
      exact mapFind_some hp.2 hm
theorem mapFind_none {key : Int} : ∀ {es : List (Int × AVal)}, (∀ a, (key, a) ∉ es) → mapFind key es = none
  | [], _ => rfl
  | (m, y) :: es, h => by
    simp only [mapFind]
    rw [if_neg (fun e => h y (by rw [e]; exact List.mem_cons_self ..))]
    exact mapFind_none fun a hm => h a (List.mem_cons_of_mem _ hm)

theorem checkKey_ok {kt : TypeId} {k : IntKind} (h : P.underlying kt = some (.int k)) (b : Bool) (m : Nat) (v : Value) : (Instr.checkKey b (m + 1) kt v).run P w = .ok () w := by
  simp only [Instr.checkKey, Sem.run_bind, run_underlying h, Result.andThen_ok]
  cases v <;> rfl

theorem mapBlock (hr : Rel φ σ w) {k b sz : Nat} {es : List (Int × AVal)} (hk : φ k = some (b, sz)) (hg : σ.get k = some (.map es)) :
    ∃ (es' : Array MapEntry) (clock : Nat), w.heap[b]? = some (.map es' clock) ∧ MapRel φ es es'.toList ∧ MapKept.Stamped es' clock := by
  obtain ⟨_, o, ho, hb⟩ := hr.new k b sz hk
  cases hb _ hg with
  | map h hs => exact ⟨_, _, ho, h, hs⟩

theorem run_getObj_map {b : Nat} {es' : Array MapEntry} {clock : Nat} (h : w.heap[b]? = some (.map es' clock)) : (getObj b).run P w = .ok (.map es' clock) w := by
  simp [getObj, Sem.run, h]
theorem run_setObj_map {b : Nat} {es' es2 : Array MapEntry} {c1 c2 : Nat} (h : w.heap[b]? = some (.map es' c1)) :
    ∃ w', (setObj b (.map es2 c2)).run P w = .ok () w' ∧ Wrote w w' b (.map es2 c2) := by
  refine ⟨{ w with heap := w.heap.setIfInBounds b (.map es2 c2) }, by simp [setObj, Sem.run, h], ?_, by simp, rfl, rfl, rfl, rfl⟩
  intro b'
  have hlt := (Array.getElem?_eq_some_iff.1 h).1
  by_cases e : b' = b
  · subst e; simp [hlt]
  · rw [if_neg e]
    simp [Array.getElem?_setIfInBounds_ne (fun h => e h.symm)]

theorem aLook_ok {t kt e : TypeId} {zv : Value} (hu : P.underlying t = some (.map kt e)) (hk : P.underlying kt = some (.int .i64)) (hz : cZero P e = some zv) {ok : Bool} {x key z : AVal} {v u : Value}
    (h : aLook (ofVal1 zv) ok x key σ = some z) (hx : VR φ x v) (hkey : VR φ key u) (hr : Rel φ σ w) :
    ∃ r, (Instr.lookup t v u ok).run P w = .ok r w ∧ VR φ z r := by
  unfold aLook at h
  split at h
  · rename_i m
    cases hkey
    split at h
    · rename_i es hes
      have hent : ∃ es' : Array MapEntry, MapRel φ es es'.toList ∧ ∀ (f : Array MapEntry → Sem Value), (do
          let es ← match v with
            | .map none => pure #[]
            | .map (some r) => do
              let .map es _ ← getObj r | stuck "Lookup: map expected"
              pure es
            | _ => stuck "Lookup: map expected"
          f es : Sem Value).run P w = (f es').run P w := by
        split at hes
        · cases hes
          cases hx
          exact ⟨#[], ⟨.nil, [], .refl _, .nil⟩, fun f => by simp⟩
        · rename_i kk
          split at hes
          · rename_i es0 hg
            cases hes
            cases hx with
            | mp hib =>
              simp only [Id.real, Option.map_eq_some_iff] at hib
              obtain ⟨⟨b', sz⟩, hφ, rfl⟩ := hib
              obtain ⟨es', clock, ho, hm, _⟩ := mapBlock hr hφ hg
              exact ⟨es', hm, fun f => by simp [run_getObj_map ho]⟩
          · cases hes
        · cases hes
      obtain ⟨es', ⟨hsort, es0, hperm, hrel⟩, hrun⟩ := hent
      have hlook : (Instr.lookup t v (.int .i64 m) ok).run P w = (do
          Instr.checkKey es'.isEmpty 10000 kt (.int .i64 m)
          let (v, o) ← match ← Instr.findKey kt (.int .i64 m) es'.toList with
            | some (_, v) => pure (v, true)
            | none => pure (← zeroValue e, false)
          pure (if ok then .tuple #[v, .bool o] else v) : Sem Value).run P w := by
        unfold Instr.lookup
        simp only [Sem.run_bind, run_underlying hu, Result.andThen_ok]
        have := hrun (fun es => do
          Instr.checkKey es.isEmpty 10000 kt (.int .i64 m)
          let (v, o) ← match ← Instr.findKey kt (.int .i64 m) es.toList with
            | some (_, v) => pure (v, true)
            | none => pure (← zeroValue e, false)
          pure (if ok then .tuple #[v, .bool o] else v))
        simp only [Sem.run_bind] at this
        exact this
      rw [hlook]
      simp only [Sem.run_bind, checkKey_ok hk, Result.andThen_ok, Instr.findKey, run_underlying hk]
      rcases findNow_ok hrel m 0 with ⟨h1, h2⟩ | ⟨j, x', e', h1, h2, h3, h4, h5⟩
      · have : mapFind m es = none := mapFind_none fun a hm => h2 a (hperm.mem_iff.2 hm)
        rw [this] at h
        cases h
        simp only [h1, Sem.run_pure, Result.andThen_ok, Sem.run_bind, cZero_ok hz]
        cases ok
        · exact ⟨_, rfl, ofVal1_VR φ zv⟩
        · exact ⟨_, rfl, VR.tup (vs := [zv, .bool false]) (.cons (ofVal1_VR φ zv) (.cons (.bool _) .nil))⟩
      · have : mapFind m es = some x' := mapFind_some hsort (hperm.mem_iff.1 (List.mem_of_getElem? h2))
        rw [this] at h
        cases h
        simp only [h1, Sem.run_pure, Result.andThen_ok]
        cases ok
        · exact ⟨_, rfl, h4⟩
        · exact ⟨_, rfl, VR.tup (vs := [e'.val, .bool true]) (.cons h4 (.cons (.bool _) .nil))⟩
    · cases h
  · cases h
end
section
variable {P : Program} {φ : Phi} {σ : Heap} {w : World} {n : Nat} {fr : Frame} {a : Act}

theorem EntRel.length {es : List (Int × AVal)} {es' : List MapEntry} (h : EntRel φ es es') : es.length = es'.length := by
  induction h with
  | nil => rfl
  | cons _ _ _ ih => simp [ih]
theorem EntRel.set {es : List (Int × AVal)} {es' : List MapEntry} (h : EntRel φ es es') {n : Int} {x : AVal} {e : MapEntry} (hk : e.key = .int .i64 n) (hv : VR φ x e.val) : ∀ j : Nat, EntRel φ (es.set j (n, x)) (es'.set j e) := by
  induction h with
  | nil => intro j; exact .nil
  | cons h1 h2 h3 ih =>
    intro j
    cases j with
    | zero => exact .cons hk hv h3
    | succ j => exact .cons h1 h2 (ih j)
theorem EntRel.snoc {es : List (Int × AVal)} {es' : List MapEntry} (h : EntRel φ es es') {n : Int} {x : AVal} {e : MapEntry} (hk : e.key = .int .i64 n) (hv : VR φ x e.val) : EntRel φ (es ++ [(n, x)]) (es' ++ [e]) := by
  induction h with
  | nil => exact .cons hk hv .nil
  | cons h1 h2 _ ih => exact .cons h1 h2 ih
theorem EntRel.erase {es : List (Int × AVal)} {es' : List MapEntry} (h : EntRel φ es es') : ∀ j : Nat, EntRel φ (es.eraseIdx j) (es'.eraseIdx j) := by
  induction h with
  | nil => intro j; simp; exact .nil
  | cons h1 h2 h3 ih =>
    intro j
    cases j with
    | zero => exact h3
    | succ j => exact .cons h1 h2 (ih j)

abbrev Sorted (es : List (Int × AVal)) : Prop := es.Pairwise (fun x y => x.1 < y.1)
theorem mapPut_keys {n : Int} {x : AVal} : ∀ {es : List (Int × AVal)} {p : Int × AVal}, p ∈ mapPut n x es → p = (n, x) ∨ p ∈ es
  | [], p, h => by simp [mapPut] at h; exact .inl h
  | (m, y) :: es, p, h => by
    simp only [mapPut] at h
    split at h
    · cases h with
      | head => exact .inl rfl
      | tail _ h => exact .inr (List.mem_cons_of_mem _ h)
    · split at h
      · cases h with
        | head => exact .inl rfl
        | tail _ h => exact .inr h
      · cases h with
        | head => exact .inr (List.mem_cons_self ..)
        | tail _ h => rcases mapPut_keys h with h | h
                      · exact .inl h
                      · exact .inr (List.mem_cons_of_mem _ h)
theorem mapPut_sorted {n : Int} {x : AVal} : ∀ {es : List (Int × AVal)}, Sorted es → Sorted (mapPut n x es)
  | [], _ => by simp [mapPut, Sorted]
  | (m, y) :: es, h => by
    have h' := h
    simp only [Sorted, List.pairwise_cons] at h
    simp only [mapPut]
    split
    · rename_i e; subst e
      simp only [Sorted, List.pairwise_cons]; exact h
    · split
      · rename_i h1 h2
        simp only [Sorted, List.pairwise_cons]
        refine ⟨?_, h⟩
        intro p hp
        cases hp with
        | head => exact h2
        | tail _ hp => have := h.1 p hp; omega
      · rename_i h1 h2
        simp only [Sorted, List.pairwise_cons]
        refine ⟨?_, mapPut_sorted h.2⟩
        intro p hp
        rcases mapPut_keys hp with rfl | hp
        · show m < n; omega
        · exact h.1 p hp
theorem mapPut_new {n : Int} {x : AVal} : ∀ {es : List (Int × AVal)}, (∀ y, (n, y) ∉ es) → (mapPut n x es).Perm (es ++ [(n, x)])
  | [], _ => .refl _
  | (m, y) :: es, h => by
    simp only [mapPut]
    rw [if_neg (fun e => h y (by rw [e]; exact List.mem_cons_self ..))]
    split
    · exact (List.perm_append_comm (l₁ := [(n, x)]) (l₂ := (m, y) :: es))
    · exact .cons _ (mapPut_new fun z hz => h z (List.mem_cons_of_mem _ hz))
theorem mapPut_old {n : Int} {x y : AVal} : ∀ {es : List (Int × AVal)}, Sorted es → (n, y) ∈ es → ∀ es0 : List (Int × AVal), es0.Perm es → ∀ j : Nat, es0[j]? = some (n, y) → (es0.set j (n, x)).Perm (mapPut n x es) := by
  have key : ∀ (es : List (Int × AVal)), Sorted es → (n, y) ∈ es → ∃ l r, es = l ++ (n, y) :: r ∧ mapPut n x es = l ++ (n, x) :: r := by
    intro es
    induction es with
    | nil => intro _ h; cases h
    | cons p es ih =>
      intro hs hm
      obtain ⟨m, z⟩ := p
      simp only [Sorted, List.pairwise_cons] at hs
      cases hm with
      | head => exact ⟨[], es, rfl, by simp [mapPut]⟩
      | tail _ hm =>
        have hlt : m < n := hs.1 _ hm
        obtain ⟨l, r, h1, h2⟩ := ih hs.2 hm
        refine ⟨(m, z) :: l, r, by rw [h1]; rfl, ?_⟩
        simp only [mapPut]
        rw [if_neg (by omega), if_neg (by omega), h2]; rfl
  intro es hs hm es0 hp j hj
  obtain ⟨l, r, h1, h2⟩ := key es hs hm
  have hlt : j < es0.length := by
    rcases Nat.lt_or_ge j es0.length with h | h
    · exact h
    · rw [List.getElem?_eq_none h] at hj; cases hj
  have e0 : es0 = es0.take j ++ (n, y) :: es0.drop (j + 1) := by
    rw [List.getElem?_eq_getElem hlt] at hj
    have := List.take_append_drop j es0
    rw [List.drop_eq_getElem_cons hlt] at this
    simp only [Option.some.injEq] at hj
    rw [hj] at this; exact this.symm
  have e1 : es0.set j (n, x) = es0.take j ++ (n, x) :: es0.drop (j + 1) := by
    rw [List.set_eq_take_append_cons_drop, if_pos hlt]
  rw [e1, h2]
  rw [e0, h1] at hp
  have hp' : (es0.take j ++ es0.drop (j + 1)).Perm (l ++ r) := by
    have a1 := (List.perm_middle (a := (n, y)) (l₁ := es0.take j) (l₂ := es0.drop (j + 1))).symm.trans (hp.trans (List.perm_middle (a := (n, y)) (l₁ := l) (l₂ := r)))
    exact List.Perm.cons_inv a1
  exact (List.perm_middle (a := (n, x))).trans ((hp'.cons _).trans (List.perm_middle (a := (n, x))).symm)
theorem mapDel_mem {n : Int} : ∀ {es : List (Int × AVal)} {p : Int × AVal}, p ∈ mapDel n es → p ∈ es
  | [], _, h => by cases h
  | (m, y) :: es, p, h => by
    simp only [mapDel] at h
    split at h
    · exact List.mem_cons_of_mem _ h
    · cases h with
      | head => exact List.mem_cons_self ..
      | tail _ h => exact List.mem_cons_of_mem _ (mapDel_mem h)
theorem mapDel_sorted {n : Int} : ∀ {es : List (Int × AVal)}, Sorted es → Sorted (mapDel n es)
  | [], h => h
  | (m, y) :: es, h => by
    simp only [Sorted, List.pairwise_cons] at h
    simp only [mapDel]
    split
    · exact h.2
    · simp only [Sorted, List.pairwise_cons]
      exact ⟨fun p hp => h.1 p (mapDel_mem hp), mapDel_sorted h.2⟩
theorem mapDel_none {n : Int} : ∀ {es : List (Int × AVal)}, (∀ y, (n, y) ∉ es) → mapDel n es = es
  | [], _ => rfl
  | (m, y) :: es, h => by
    simp only [mapDel]
    rw [if_neg (fun e => h y (by rw [e]; exact List.mem_cons_self ..)), mapDel_none fun z hz => h z (List.mem_cons_of_mem _ hz)]
theorem mapDel_old {n : Int} {y : AVal} : ∀ {es : List (Int × AVal)}, Sorted es → (n, y) ∈ es → ∀ es0 : List (Int × AVal), es0.Perm es → ∀ j : Nat, es0[j]? = some (n, y) → (es0.eraseIdx j).Perm (mapDel n es) := by
  have key : ∀ (es : List (Int × AVal)), Sorted es → (n, y) ∈ es → ∃ l r, es = l ++ (n, y) :: r ∧ mapDel n es = l ++ r := by
    intro es
    induction es with
    | nil => intro _ h; cases h
    | cons p es ih =>
      intro hs hm
      obtain ⟨m, z⟩ := p
      simp only [Sorted, List.pairwise_cons] at hs
      cases hm with
      | head => exact ⟨[], es, rfl, by simp [mapDel]⟩
      | tail _ hm =>
        have hlt : m < n := hs.1 _ hm
        obtain ⟨l, r, h1, h2⟩ := ih hs.2 hm
        refine ⟨(m, z) :: l, r, by rw [h1]; rfl, ?_⟩
        simp only [mapDel]
        rw [if_neg (by omega), h2]; rfl
  intro es hs hm es0 hp j hj
  obtain ⟨l, r, h1, h2⟩ := key es hs hm
  have hlt : j < es0.length := by
    rcases Nat.lt_or_ge j es0.length with h | h
    · exact h
    · rw [List.getElem?_eq_none h] at hj; cases hj
  have e0 : es0 = es0.take j ++ (n, y) :: es0.drop (j + 1) := by
    rw [List.getElem?_eq_getElem hlt] at hj
    have := List.take_append_drop j es0
    rw [List.drop_eq_getElem_cons hlt] at this
    simp only [Option.some.injEq] at hj
    rw [hj] at this; exact this.symm
  rw [List.eraseIdx_eq_take_drop_succ, h2]
  rw [e0, h1] at hp
  have a1 := (List.perm_middle (a := (n, y)) (l₁ := es0.take j) (l₂ := es0.drop (j + 1))).symm.trans (hp.trans (List.perm_middle (a := (n, y)) (l₁ := l) (l₂ := r)))
  exact List.Perm.cons_inv a1

theorem EntRel.keys {es : List (Int × AVal)} {es' : List MapEntry} (h : EntRel φ es es') : ∀ e ∈ es', ∃ z ∈ es, e.key = .int .i64 z.1 := by
  induction h with
  | nil => intro e he; cases he
  | cons h1 h2 _ ih =>
    intro e he
    cases he with
    | head => exact ⟨_, List.mem_cons_self .., h1⟩
    | tail _ he => obtain ⟨z, hz, e⟩ := ih e he; exact ⟨z, List.mem_cons_of_mem _ hz, e⟩
theorem Wrote.rel {w' : World} (hr : Rel φ σ w) {k b sz : Nat} {blk blk' : ABlk} {o : Obj} (hk : φ k = some (b, sz)) (hg : σ.get k = some blk) (hd : blk ≠ .dead) (hW : Wrote w w' b o) (hb : BRel φ sz blk' o) : Rel φ (σ.set k blk') w' :=
  hr.change hk hg hd hW.heap hW.size hW.tape hW.os hW.output (by rw [hW.drawn]; exact Nat.le_refl _) hb

theorem keyThatStays_ok (m : Int) : (Instr.keyThatStays (.int .i64 m) (.int .i64 m)).run P w = .ok (.int .i64 m) w := by
  simp [Instr.keyThatStays, Instr.sameBits]

theorem mapUp_ok {t kt e : TypeId} (hu : P.underlying t = some (.map kt e)) (hk : P.underlying kt = some (.int .i64)) {b : Nat} {m : Int} {x : AVal} {es : List (Int × AVal)} {v u y : Value}
    (hx : VR φ (.mp (.new b)) v) (hkey : VR φ (.int .i64 m) u) (hy : VR φ x y) (hg : σ.get b = some (.map es)) (hr : Rel φ σ w) :
    ∃ w', (Instr.mapUpdate t v u y).run P w = .ok () w' ∧ Rel φ (σ.set b (.map (mapPut m x es))) w' := by
  cases hkey
  cases hx with
  | mp hib =>
    simp only [Id.real, Option.map_eq_some_iff] at hib
    obtain ⟨⟨b', sz⟩, hφ, rfl⟩ := hib
    obtain ⟨es', clock, ho, ⟨hsort, es0, hperm, hrel⟩, hst⟩ := mapBlock hr hφ hg
    simp only [Instr.mapUpdate, Sem.run_bind, run_underlying hu, Result.andThen_ok, run_getObj_map ho, checkKey_ok hk, Instr.findKey, run_underlying hk]
    rcases findNow_ok hrel m 0 with ⟨h1, h2⟩ | ⟨j, x', e', h1, h2, h3, h4, h5⟩
    · obtain ⟨w', hw', hW⟩ := run_setObj_map (P := P) (es2 := es'.push { key := .int .i64 m, val := y, born := clock }) (c2 := clock + 1) ho
      refine ⟨w', by simp only [h1, Sem.run_pure, Result.andThen_ok]; exact hw', hW.rel hr hφ hg (by intro h; cases h) (.map ⟨mapPut_sorted hsort, es0 ++ [(m, x)], ?_, ?_⟩ (MapKept.stamped_push hst fun z hz => by
        obtain ⟨q, hq, e⟩ := EntRel.keys hrel z hz
        rw [e]; intro h; obtain ⟨q1, q2⟩ := q; cases h; exact h2 q2 hq))⟩
      · exact (hperm.append_right _).trans (mapPut_new fun z hz => h2 z (hperm.mem_iff.2 hz)).symm
      · rw [Array.toList_push]; exact hrel.snoc rfl hy
    · have hj : es'[j]? = some e' := by simpa using h3
      obtain ⟨w', hw', hW⟩ := run_setObj_map (P := P) (es2 := es'.modify j fun e => { e with key := .int .i64 m, val := y }) (c2 := clock) ho
      refine ⟨w', ?_, hW.rel hr hφ hg (by intro h; cases h) (.map ⟨mapPut_sorted hsort, es0.set j (m, x), ?_, ?_⟩ (MapKept.stamped_modify hst j _ (fun _ _ => rfl) fun q _ hq => by
        rw [hj] at hq; cases hq; exact h5.symm))⟩
      · simp only [h1, Sem.run_pure, Result.andThen_ok, Nat.zero_add, Sem.run_bind, hj, Option.map_some, Option.getD_some, h5, keyThatStays_ok]
        exact hw'
      · exact mapPut_old hsort (hperm.mem_iff.1 (List.mem_of_getElem? h2)) es0 hperm j h2
      · have : (es'.modify j fun e => { e with key := .int .i64 m, val := y }).toList = es'.toList.set j { e' with key := .int .i64 m, val := y } := by
          apply List.ext_getElem?
          intro i
          simp only [Array.getElem?_toList, Array.getElem?_modify]
          rw [List.getElem?_set]
          by_cases hij : j = i
          · subst hij
            have hlt := (Array.getElem?_eq_some_iff.1 hj).1
            have := (Array.getElem?_eq_some_iff.1 hj).2
            simp [hj, hlt, this]
          · simp [hij]
        rw [this]
        exact hrel.set (e := { e' with key := .int .i64 m, val := y }) rfl hy j

theorem del_ok {t kt e ty : TypeId} {u' : TypeId} (hu : P.underlying t = some (.map kt e)) (hk : P.underlying kt = some (.int .i64)) {b : Nat} {m : Int} {es : List (Int × AVal)} {v u : Value}
    (hx : VR φ (.mp (.new b)) v) (hkey : VR φ (.int .i64 m) u) (hg : σ.get b = some (.map es)) (hr : Rel φ σ w) :
    ∃ w', (Builtin.delete_ #[t, u'] ty #[v, u]).run P w = .ok (.tuple #[]) w' ∧ Rel φ (σ.set b (.map (mapDel m es))) w' := by
  cases hkey
  cases hx with
  | mp hib =>
    simp only [Id.real, Option.map_eq_some_iff] at hib
    obtain ⟨⟨b', sz⟩, hφ, rfl⟩ := hib
    obtain ⟨es', clock, ho, ⟨hsort, es0, hperm, hrel⟩, hst⟩ := mapBlock hr hφ hg
    simp only [Builtin.delete_, List.getElem?_toArray, List.getElem?_cons_zero, List.getElem?_cons_succ, Sem.run_bind, run_underlying hu, Result.andThen_ok, run_getObj_map ho, checkKey_ok hk, Instr.findKey, run_underlying hk]
    rcases findNow_ok hrel m 0 with ⟨h1, h2⟩ | ⟨j, x', e', h1, h2, h3, h4, h5⟩
    · obtain ⟨w', hw', hW⟩ := run_setObj_map (P := P) (es2 := es') (c2 := clock) ho
      refine ⟨w', by simp only [h1, Sem.run_pure, Result.andThen_ok, Sem.run_bind, hw'], hW.rel hr hφ hg (by intro h; cases h) (.map ?_ hst)⟩
      rw [mapDel_none fun z hz => h2 z (hperm.mem_iff.2 hz)]
      exact ⟨hsort, es0, hperm, hrel⟩
    · have hlt : j < es'.size := by
        have : j < es'.toList.length := by
          rcases Nat.lt_or_ge j es'.toList.length with h | h
          · exact h
          · rw [List.getElem?_eq_none h] at h3; cases h3
        simpa using this
      obtain ⟨w', hw', hW⟩ := run_setObj_map (P := P) (es2 := es'.eraseIdxIfInBounds j) (c2 := clock) ho
      refine ⟨w', ?_, hW.rel hr hφ hg (by intro h; cases h) (.map ⟨mapDel_sorted hsort, es0.eraseIdx j, ?_, ?_⟩ (MapKept.stamped_erase hst j))⟩
      · simp only [h1, Sem.run_pure, Result.andThen_ok, Nat.zero_add, Sem.run_bind, hw']
      · exact mapDel_old hsort (hperm.mem_iff.1 (List.mem_of_getElem? h2)) es0 hperm j h2
      · have : (es'.eraseIdxIfInBounds j).toList = es'.toList.eraseIdx j := by
          simp [Array.eraseIdxIfInBounds, hlt]
        rw [this]
        exact hrel.erase j
end
section
variable {P : Program} {φ : Phi} {σ : Heap} {w : World} {n : Nat} {fr : Frame} {a : Act}

theorem zcells_VRs (φ : Phi) (z : Value) : VRs φ (zcells z) z.cells.toList := VRs.ofVal φ _

theorem new_ok (hr : Rel φ σ w) {cs : List AVal} {vs : Array Value} (h : VRs φ cs vs.toList) (e : TypeId) :
    ∃ φ', φ.le φ' ∧ φ' σ.next = some (w.heap.size, vs.size) ∧ Rel φ' (σ.new (.cells cs none)) (w.alloc (.cells vs e)) := by
  have hle := Phi.le_put (w.heap.size, vs.size) (hr.fresh σ.next (Nat.le_refl _))
  have hl := h.length
  obtain ⟨h1, h2⟩ := hr.alloc (blk := .cells cs none) (o := .cells vs e) (sz := vs.size) (by
    refine .cells rfl (by simp at hl; omega) (by intro _; simpa using hl) (by intro _ h; cases h) ?_ (by intro off _; simp)
    rw [hl, List.take_length]; exact h.mono hle)
  exact ⟨_, h1, Phi.put_same .., h2⟩

theorem place_ok (hr : Rel φ σ w) {k : Nat} (hk : φ.res k) {cs : List AVal} (hg : σ.get k = some (.cells cs none)) {vs : Array Value} (h : VRs φ cs vs.toList) (e : TypeId) :
    ∃ φ' : Phi, φ.sub φ' ∧ (∀ j, φ'.res j ↔ (φ.res j ∧ j ≠ k)) ∧ φ' k = some (w.heap.size, vs.size) ∧ Rel φ' σ (w.alloc (.cells vs e)) := by
  obtain ⟨hn, hlt⟩ := hr.resv k hk
  have hsub := (Phi.le_put (w.heap.size, vs.size) hn).1
  have hl := h.length
  have hput : ∀ j x, (φ.put k (w.heap.size, vs.size)).m j = some x → (j = k ∧ x = (w.heap.size, vs.size)) ∨ (j ≠ k ∧ φ j = some x) := by
    intro j x e
    by_cases hj : j = k
    · subst hj; rw [Phi.put_same] at e; cases e; exact .inl ⟨rfl, rfl⟩
    · rw [Phi.put_other _ _ hj] at e; exact .inr ⟨hj, e⟩
  refine ⟨⟨(φ.put k (w.heap.size, vs.size)).m, fun j => φ.res j ∧ j ≠ k, φ.F⟩, hsub, fun j => Iff.rfl, Phi.put_same .., ?_⟩
  constructor
  · simp only [World.size_alloc]; have := hr.size; omega
  · intro b hb
    have := hr.size
    rw [heap_alloc, if_neg (by omega)]; exact hr.old b hb
  · intro j b sz e'
    rcases hput j (b, sz) e' with ⟨rfl, hx⟩ | ⟨hj, hx⟩
    · cases hx
      refine ⟨hr.size, .cells vs e, by rw [heap_alloc, if_pos rfl], fun blk hb => ?_⟩
      rw [hg] at hb; cases hb
      refine .cells rfl (by simp at hl; omega) (by intro _; simpa using hl) (by intro _ h; cases h) ?_ (by intro off _; simp)
      rw [hl, List.take_length]; exact VRs.mono0 (φ' := ⟨(φ.put j (w.heap.size, vs.size)).m, fun i => φ.res i ∧ i ≠ j, φ.F⟩) hsub h
    · obtain ⟨h1, o', ho', h2⟩ := hr.new j b sz hx
      refine ⟨h1, o', ?_, fun blk hb => BRel.mono0 (φ' := ⟨(φ.put k (w.heap.size, vs.size)).m, fun j => φ.res j ∧ j ≠ k, φ.F⟩) hsub (h2 blk hb)⟩
      have := (Array.getElem?_eq_some_iff.1 ho').1
      rw [heap_alloc, if_neg (by omega)]; exact ho'
  · intro j j' b s1 s2 e1 e2 hl1 hl2
    rcases hput j _ e1 with ⟨hj, hx⟩ | ⟨hj, hx⟩ <;> rcases hput j' _ e2 with ⟨hj', hx'⟩ | ⟨hj', hx'⟩
    · rw [hj, hj']
    · cases hx; have := hr.lt hx'; omega
    · cases hx'; have := hr.lt hx; omega
    · exact hr.inj j j' b s1 s2 hx hx' hl1 hl2
  · intro j hj
    show (φ.put k (w.heap.size, vs.size)).m j = none
    rw [Phi.put_other _ _ (by omega)]; exact hr.fresh j hj
  · intro j ⟨h1, h2⟩
    refine ⟨?_, (hr.resv j h1).2⟩
    show (φ.put k (w.heap.size, vs.size)).m j = none
    rw [Phi.put_other _ _ h2]; exact (hr.resv j h1).1
  · exact hr.tape
  · exact hr.os
  · exact hr.output
  · intro b j v e
    have h := hr.frz b j v e
    have hb : b < w.heap.size := World.block_lt_of_cell? w ⟨b, j, none⟩ h
    simp only [World.cell?, heap_alloc]
    rw [if_neg (by omega)]
    exact h
  · intro j b sz i e hl
    rcases hput j _ e with ⟨rfl, hx⟩ | ⟨hj, hx⟩
    · cases hx
      show φ.F _ _ = none
      cases hF : φ.F w.heap.size i with
      | none => rfl
      | some v => have := World.block_lt_of_cell? w ⟨w.heap.size, i, none⟩ (hr.frz _ _ _ hF); simp only at this; omega
    · exact hr.apart j b sz i hx hl
  · exact hr.base
  · exact hr.drawn
theorem lay_ok {t : TypeId} {z : Value} (hz : cZero P t = some z) (hr : Rel φ σ w) {k : Nat} (hk : φ.res k) (hg : σ.get k = some (.cells (zcells z) none)) :
    ∃ v w' φ', (Instr.alloc t true (.tuple #[])).run P w = .ok v w' ∧ φ.sub φ' ∧ (∀ j, φ'.res j ↔ (φ.res j ∧ j ≠ k)) ∧ VR φ' (.ptr (.new k) 0) v ∧ Rel φ' σ w' := by
  obtain ⟨φ', h1, h2, h3, h4⟩ := place_ok hr hk hg (zcells_VRs φ z) t
  refine ⟨_, _, φ', ?_, h1, h2, .ptr 0 (by simp [Id.real, h3]; rfl), h4⟩
  simp [Instr.alloc, cZero_ok hz, newVar, newRow, run_newObj_alloc]
theorem Rel.keep (hr : Rel φ σ w) (zs : List AVal) : Rel ⟨φ.m, fun k => φ.res k ∨ k = σ.next, φ.F⟩ (σ.new (.cells zs none)) w := by
  have hg : ∀ k x, φ k = some x → (σ.new (.cells zs none)).get k = σ.get k := by
    intro k x e
    have : k ≠ σ.next := fun h => by subst h; rw [hr.fresh _ (Nat.le_refl _)] at e; cases e
    rw [Heap.get_new, if_neg (fun h => this h.symm)]
  constructor
  · exact hr.size
  · exact hr.old
  · intro k b sz e
    obtain ⟨h1, o, h2, h3⟩ := hr.new k b sz e
    exact ⟨h1, o, h2, fun blk hb => BRel.mono0 (φ := φ) (φ' := ⟨φ.m, fun k => φ.res k ∨ k = σ.next, φ.F⟩) ⟨fun _ _ e => e, fun _ _ _ e => e⟩ (h3 blk (by rw [← hg k _ e]; exact hb))⟩
  · intro k k' b s1 s2 e1 e2 hl1 hl2
    have l1 : σ.live k := by obtain ⟨x, hx, hd⟩ := hl1; exact ⟨x, by rw [← hg k _ e1]; exact hx, hd⟩
    have l2 : σ.live k' := by obtain ⟨x, hx, hd⟩ := hl2; exact ⟨x, by rw [← hg k' _ e2]; exact hx, hd⟩
    exact hr.inj k k' b s1 s2 e1 e2 l1 l2
  · intro k h; simp only [Heap.new_next] at h; exact hr.fresh k (by omega)
  · intro k h
    simp only [Heap.new_next]
    rcases h with h | h
    · have := hr.resv k h; exact ⟨this.1, by omega⟩
    · subst h; exact ⟨hr.fresh _ (Nat.le_refl _), by omega⟩
  · exact hr.tape
  · exact hr.os
  · exact hr.output
  · exact hr.frz
  · intro k b sz j e hl
    refine hr.apart k b sz j e ?_
    obtain ⟨x, hx, hd⟩ := hl; exact ⟨x, by rw [← hg k _ e]; exact hx, hd⟩
  · exact hr.base
  · exact hr.drawn
theorem Rel.less {R : Nat → Prop} (hr : Rel φ σ w) (h : ∀ k, R k → φ.res k) : Rel ⟨φ.m, R, φ.F⟩ σ w where
  size := hr.size
  old := hr.old
  new := fun k b sz e => by
    obtain ⟨h1, o, h2, h3⟩ := hr.new k b sz e
    exact ⟨h1, o, h2, fun blk hb => BRel.mono0 (φ := φ) (φ' := ⟨φ.m, R, φ.F⟩) ⟨fun _ _ e => e, fun _ _ _ e => e⟩ (h3 blk hb)⟩
  inj := hr.inj
  fresh := hr.fresh
  resv := fun k hk => hr.resv k (h k hk)
  tape := hr.tape
  os := hr.os
  output := hr.output
  frz := hr.frz
  apart := hr.apart
  base := hr.base
  drawn := hr.drawn

theorem alloc_ok {t : TypeId} {z : Value} (hz : cZero P t = some z) (hr : Rel φ σ w) : DoingV P (Instr.alloc t true (.tuple #[])) w φ (.ptr (.new σ.next) 0) (σ.new (.cells (zcells z) none)) := by
  obtain ⟨φ', h1, h2, h3⟩ := new_ok hr (zcells_VRs φ z) t
  refine ⟨_, _, φ', ?_, h1, .ptr 0 (by simp [Id.real, h2]; rfl), h3⟩
  simp [Instr.alloc, cZero_ok hz, newVar, newRow, run_newObj_alloc]
theorem newT_ok (hr : Rel φ σ w) {cs : List AVal} {vs : Array Value} (h : VRs φ cs vs.toList) (e : TypeId) :
    ∃ φ' : Phi, φ.le φ' ∧ φ' σ.next = some (w.heap.size, vs.size) ∧ Rel φ' (σ.new (.tcells e cs)) (w.alloc (.cells vs e)) := by
  have hle := Phi.le_put (w.heap.size, vs.size) (hr.fresh σ.next (Nat.le_refl _))
  obtain ⟨h1, h2⟩ := hr.alloc (blk := .tcells e cs) (o := .cells vs e) (sz := vs.size) (.tcells rfl (h.mono hle) (by intro off _; simp))
  exact ⟨_, h1, Phi.put_same .., h2⟩
theorem allocT_ok {t : TypeId} {z : Value} (hz : cZero P t = some z) (hr : Rel φ σ w) : DoingV P (Instr.alloc t true (.tuple #[])) w φ (.ptr (.new σ.next) 0) (σ.new (.tcells t (zcells z))) := by
  obtain ⟨φ', h1, h2, h3⟩ := newT_ok hr (zcells_VRs φ z) t
  refine ⟨_, _, φ', ?_, h1, .ptr 0 (by simp [Id.real, h2]; rfl), h3⟩
  simp [Instr.alloc, cZero_ok hz, newVar, newRow, run_newObj_alloc]
theorem box_ok {t : TypeId} {x : AVal} {v : Value} (hx : VR φ x v) (hn : x.isRaw = false) (hr : Rel φ σ w) : DoingV P (Instr.box t v) w φ (.ptr (.new σ.next) 0) (σ.new (.cells x.cells none)) := by
  obtain ⟨φ', h1, h2, h3⟩ := new_ok hr (hx.cells hn) t
  refine ⟨_, _, φ', ?_, h1, .ptr 0 (by simp [Id.real, h2]; rfl), h3⟩
  simp [Instr.box, newVar, newRow, run_newObj_alloc]

theorem repl_VRs {zs : List AVal} {vs : List Value} (h : VRs φ zs vs) : ∀ m : Nat, VRs φ (repl m zs) ((List.replicate m vs).flatten)
  | 0 => .nil
  | m + 1 => by
    have := h.append (repl_VRs h m)
    simpa [repl, List.replicate_succ] using this
theorem range_mod (z : Array Value) (m : Nat) : ((Array.range (m * z.size)).map (z[· % z.size]!)).toList = (List.replicate m z.toList).flatten := by
  induction m with
  | zero => simp
  | succ m ih =>
    have e : Array.range ((m + 1) * z.size) = Array.range (m * z.size) ++ (Array.range z.size).map (m * z.size + ·) := by
      apply Array.ext'
      simp only [Array.toList_range, Array.toList_append, Array.toList_map]
      rw [Nat.succ_mul, List.range_add]
    rw [e, Array.map_append, Array.toList_append, ih, List.replicate_succ', List.flatten_append]
    congr 1
    simp only [Array.map_map, List.flatten_singleton, List.flatten_cons, List.flatten_nil, List.append_nil]
    apply List.ext_getElem?
    intro i
    simp only [Array.toList_map, Array.toList_range, List.getElem?_map]
    by_cases hi : i < z.size
    · rw [List.getElem?_range hi]
      simp only [Option.map_some, Function.comp]
      have : (m * z.size + i) % z.size = i := by
        rw [Nat.mul_comm, Nat.mul_add_mod, Nat.mod_eq_of_lt hi]
      rw [this]
      simp [hi]
    · rw [List.getElem?_eq_none (by simp; omega), List.getElem?_eq_none (by simp; omega)]; rfl

theorem bslc_ok {t e : TypeId} {len : Nat} {ti : TypeInfo} {z : Value} (hu : P.underlying t = some (.slice e)) (hti : P.info? e = some ti) (hz : ti.zero = some z) (hzs : z.cells.size = ti.size) (hsm : len * ti.size ≤ 2 ^ 24)
    {parts : List (Nat × Operand)} {pl : List (Nat × Nat × Opd)} (hp : cParts n (fun j => some (j * ti.size, ti.size)) parts = some pl) (hf : FR φ n fr a) {cs : List AVal}
    (hfill : aFill (repl len (zcells z)) (evParts fr pl) = some cs) (hcs : cs.length = len * ti.size) (hr : Rel φ σ w) :
    DoingV P (Instr.buildSlice t len (parts.map fun (i, x) => (i, a.eval x)).toArray) w φ (.slc (.new σ.next) 0 len (.ex len)) (σ.new (.cells cs none)) := by
  have hzero : ∀ w : World, (zeroValue e).run P w = .ok z w := fun w => cZero_ok (by simp [cZero, hti, hz]) w
  have hsz : ∀ w : World, (sizeOf e).run P w = .ok ti.size w := fun w => cSize_ok (by simp [cSize, hti]) w
  have hinit : ∀ (zz : Array Value), (zz = if len * ti.size = 0 then #[] else z.cells) → VRs φ (repl len (zcells z)) ((Array.range (len * ti.size)).map (zz[· % zz.size]!)).toList := by
    intro zz hzz
    by_cases h0 : len * ti.size = 0
    · have hr0 : repl len (zcells z) = [] := by
        have : (repl len (zcells z)).length = 0 := by
          simp only [repl, zcells, List.length_flatten, List.map_replicate, List.length_map, Array.length_toList, hzs, List.sum_replicate_nat]; exact h0
        exact List.length_eq_zero_iff.1 this
      rw [hr0, h0]; simp; exact .nil
    · rw [hzz, if_neg h0, ← hzs, range_mod]
      exact repl_VRs (zcells_VRs φ z) len
  obtain ⟨us, hus, hur⟩ := fill_ok (fun i => some (i * ti.size, ti.size)) hf parts pl _ ((Array.range (len * ti.size)).map ((if len * ti.size = 0 then #[] else z.cells)[· % (if len * ti.size = 0 then (#[] : Array Value) else z.cells).size]!)) cs hp hfill (hinit _ rfl)
  obtain ⟨φ', h1, h2, h3⟩ := new_ok hr hur e
  refine ⟨_, _, φ', ?_, h1, .slcE (b := w.heap.size) 0 len len (by simp [Id.real, h2]), h3⟩
  have hpt : (parts.map fun (i, x) => (i, a.eval x)).toArray.toList = parts.map fun (i, x) => (i, a.eval x) := rfl
  by_cases h0 : len * ti.size = 0
  · simp only [if_pos h0] at hus
    simp only [Instr.buildSlice, Sem.run_bind, run_underlying hu, Result.andThen_ok, hsz, if_neg (show ¬ len * ti.size > 2 ^ 24 by omega), Sem.run_pure, if_pos h0, hpt, hus, newRow, run_newObj_alloc]
  · simp only [if_neg h0] at hus
    simp only [Instr.buildSlice, Sem.run_bind, run_underlying hu, Result.andThen_ok, hsz, if_neg (show ¬ len * ti.size > 2 ^ 24 by omega), Sem.run_pure, if_neg h0, hzero, hpt, hus, newRow, run_newObj_alloc]

theorem layB_ok {t e : TypeId} {len : Nat} {ti : TypeInfo} {z : Value} (hu : P.underlying t = some (.slice e)) (hti : P.info? e = some ti) (hz : ti.zero = some z) (hzs : z.cells.size = ti.size) (hsm : len * ti.size ≤ 2 ^ 24)
    {parts : List (Nat × Operand)} {pl : List (Nat × Nat × Opd)} (hp : cParts n (fun j => some (j * ti.size, ti.size)) parts = some pl) (hf : FR φ n fr a) {cs : List AVal}
    (hfill : aFill (repl len (zcells z)) (evParts fr pl) = some cs) (hcs : cs.length = len * ti.size) (hr : Rel φ σ w) {q : Nat} (hq : φ.res q) (hg : σ.get q = some (.cells cs none)) :
    ∃ v w' φ', (Instr.buildSlice t len (parts.map fun (i, x) => (i, a.eval x)).toArray).run P w = .ok v w' ∧ φ.sub φ' ∧ (∀ j, φ'.res j ↔ (φ.res j ∧ j ≠ q)) ∧ VR φ' (.slc (.new q) 0 len (.ex len)) v ∧ Rel φ' σ w' := by
  have hzero : ∀ w : World, (zeroValue e).run P w = .ok z w := fun w => cZero_ok (by simp [cZero, hti, hz]) w
  have hsz : ∀ w : World, (sizeOf e).run P w = .ok ti.size w := fun w => cSize_ok (by simp [cSize, hti]) w
  have hinit : ∀ (zz : Array Value), (zz = if len * ti.size = 0 then #[] else z.cells) → VRs φ (repl len (zcells z)) ((Array.range (len * ti.size)).map (zz[· % zz.size]!)).toList := by
    intro zz hzz
    by_cases h0 : len * ti.size = 0
    · have hr0 : repl len (zcells z) = [] := by
        have : (repl len (zcells z)).length = 0 := by
          simp only [repl, zcells, List.length_flatten, List.map_replicate, List.length_map, Array.length_toList, hzs, List.sum_replicate_nat]; exact h0
        exact List.length_eq_zero_iff.1 this
      rw [hr0, h0]; simp; exact .nil
    · rw [hzz, if_neg h0, ← hzs, range_mod]
      exact repl_VRs (zcells_VRs φ z) len
  obtain ⟨us, hus, hur⟩ := fill_ok (fun i => some (i * ti.size, ti.size)) hf parts pl _ ((Array.range (len * ti.size)).map ((if len * ti.size = 0 then #[] else z.cells)[· % (if len * ti.size = 0 then (#[] : Array Value) else z.cells).size]!)) cs hp hfill (hinit _ rfl)
  obtain ⟨φ', h1, h2, h3, h4⟩ := place_ok hr hq hg hur e
  refine ⟨_, _, φ', ?_, h1, h2, .slcE (b := w.heap.size) 0 len len (by simp [Id.real, h3]), h4⟩
  have hpt : (parts.map fun (i, x) => (i, a.eval x)).toArray.toList = parts.map fun (i, x) => (i, a.eval x) := rfl
  by_cases h0 : len * ti.size = 0
  · simp only [if_pos h0] at hus
    simp only [Instr.buildSlice, Sem.run_bind, run_underlying hu, Result.andThen_ok, hsz, if_neg (show ¬ len * ti.size > 2 ^ 24 by omega), Sem.run_pure, if_pos h0, hpt, hus, newRow, run_newObj_alloc]
  · simp only [if_neg h0] at hus
    simp only [Instr.buildSlice, Sem.run_bind, run_underlying hu, Result.andThen_ok, hsz, if_neg (show ¬ len * ti.size > 2 ^ 24 by omega), Sem.run_pure, if_neg h0, hzero, hpt, hus, newRow, run_newObj_alloc]

theorem mslc_ok {t e : TypeId} {l c : Int} {ti : TypeInfo} {z : Value} (hu : P.underlying t = some (.slice e)) (hti : P.info? e = some ti) (hz : ti.zero = some z) (hzs : z.cells.size = ti.size)
    {u v : Value} (hl : VR φ (.int .i64 l) u) (hc : VR φ (.int .i64 c) v) (h0 : 0 ≤ l) (h1 : l ≤ c) (h2 : c.toNat * ti.bytes ≤ maxRoom) (h3 : c ≤ 2 ^ 62) (hr : Rel φ σ w) :
    DoingV P (Instr.makeSlice t u v) w φ (.slc (.new σ.next) 0 l.toNat (.ex c.toNat)) (σ.new (.cells (repl c.toNat (zcells z)) none)) := by
  cases hl; cases hc
  have hzero : ∀ w : World, (zeroValue e).run P w = .ok z w := fun w => cZero_ok (by simp [cZero, hti, hz]) w
  have hsz : ∀ w : World, (sizeOf e).run P w = .ok ti.size w := fun w => cSize_ok (by simp [cSize, hti]) w
  have hinfo : ∀ w : World, (typeInfo e).run P w = .ok ti w := by intro w; simp [typeInfo, hti]
  have wl : IntKind.i64.wrap l = l := by rw [IntKind.wrap_i64]; omega
  have wc : IntKind.i64.wrap c = c := by rw [IntKind.wrap_i64]; omega
  have hb : (ti.bytes : Int) * c ≤ 2 ^ 36 := by
    unfold maxRoom at h2
    have : (c.toNat : Int) = c := Int.toNat_of_nonneg (by omega)
    rw [← this, Int.mul_comm]
    exact_mod_cast h2
  have hc0 : 0 ≤ (ti.bytes : Int) * c := Int.mul_nonneg (by omega) (by omega)
  obtain ⟨φ', g1, g2, g3⟩ := new_ok hr (cs := repl c.toNat (zcells z)) (vs := (Array.range (c.toNat * ti.size)).map ((if c.toNat * ti.size = 0 then #[] else z.cells)[· % (if c.toNat * ti.size = 0 then (#[] : Array Value) else z.cells).size]!)) (by
    by_cases h0 : c.toNat * ti.size = 0
    · have hr0 : repl c.toNat (zcells z) = [] := by
        have : (repl c.toNat (zcells z)).length = 0 := by
          simp only [repl, zcells, List.length_flatten, List.map_replicate, List.length_map, Array.length_toList, hzs, List.sum_replicate_nat]; exact h0
        exact List.length_eq_zero_iff.1 this
      rw [hr0, h0]; simp; exact .nil
    · rw [if_neg h0, ← hzs, range_mod]
      exact repl_VRs (zcells_VRs φ z) _) e
  refine ⟨_, _, φ', ?_, g1, .slcE (b := w.heap.size) 0 _ _ (by simp [Id.real, g2]), g3⟩
  simp only [Instr.makeSlice, Sem.run_bind, run_underlying hu, Result.andThen_ok, asInt, asIntOf, Sem.run_pure, hinfo, wl, wc]
  have hcond : ((decide (c < 0) || decide ((ti.bytes : Int) * c > 2 ^ 48)) || decide (l < 0) || decide (l > c)) = false := by
    simp only [Bool.or_eq_false_iff, decide_eq_false_iff_not]
    refine ⟨⟨⟨by omega, by omega⟩, by omega⟩, by omega⟩
  rw [hcond]
  by_cases h0 : c.toNat * ti.size = 0
  · simp only [Bool.false_eq_true, if_false, Sem.run_pure, Result.andThen_ok, run_askRoom, hsz, Sem.run_bind, if_pos h0, newRow, run_newObj_alloc]
  · simp only [Bool.false_eq_true, if_false, Sem.run_pure, Result.andThen_ok, run_askRoom, hsz, Sem.run_bind, if_neg h0, hzero, newRow, run_newObj_alloc]
theorem layM_ok {t e : TypeId} {len : Nat} {ti : TypeInfo} {z : Value} (hu : P.underlying t = some (.slice e)) (hti : P.info? e = some ti) (hz : ti.zero = some z) (hzs : z.cells.size = ti.size)
    {u v : Value} (hl : VR φ (.int .i64 (len : Nat)) u) (hc : VR φ (.int .i64 (len : Nat)) v) (h2 : len * ti.bytes ≤ maxRoom) (h3 : (len : Int) ≤ 2 ^ 62) (hr : Rel φ σ w) {q : Nat} (hq : φ.res q) (hg : σ.get q = some (.cells (repl len (zcells z)) none)) :
    ∃ x w' φ', (Instr.makeSlice t u v).run P w = .ok x w' ∧ φ.sub φ' ∧ (∀ j, φ'.res j ↔ (φ.res j ∧ j ≠ q)) ∧ VR φ' (.slc (.new q) 0 len (.ex len)) x ∧ Rel φ' σ w' := by
  cases hl; cases hc
  have hzero : ∀ w : World, (zeroValue e).run P w = .ok z w := fun w => cZero_ok (by simp [cZero, hti, hz]) w
  have hsz : ∀ w : World, (sizeOf e).run P w = .ok ti.size w := fun w => cSize_ok (by simp [cSize, hti]) w
  have hinfo : ∀ w : World, (typeInfo e).run P w = .ok ti w := by intro w; simp [typeInfo, hti]
  have wc : IntKind.i64.wrap (len : Int) = (len : Int) := by rw [IntKind.wrap_i64]; omega
  have hb : (ti.bytes : Int) * (len : Int) ≤ 2 ^ 36 := by
    unfold maxRoom at h2
    rw [Int.mul_comm]
    exact_mod_cast h2
  obtain ⟨φ', g1, g0, g2, g3⟩ := place_ok hr hq hg (vs := (Array.range (len * ti.size)).map ((if len * ti.size = 0 then #[] else z.cells)[· % (if len * ti.size = 0 then (#[] : Array Value) else z.cells).size]!)) (by
    by_cases h0 : len * ti.size = 0
    · have hr0 : repl len (zcells z) = [] := by
        have : (repl len (zcells z)).length = 0 := by
          simp only [repl, zcells, List.length_flatten, List.map_replicate, List.length_map, Array.length_toList, hzs, List.sum_replicate_nat]; exact h0
        exact List.length_eq_zero_iff.1 this
      rw [hr0, h0]; simp; exact .nil
    · rw [if_neg h0, ← hzs, range_mod]
      exact repl_VRs (zcells_VRs φ z) _) e
  refine ⟨_, _, φ', ?_, g1, g0, .slcE (b := w.heap.size) 0 len len (by simp [Id.real, g2]), g3⟩
  simp only [Instr.makeSlice, Sem.run_bind, run_underlying hu, Result.andThen_ok, asInt, asIntOf, Sem.run_pure, hinfo, wc]
  have hcond : ((decide ((len : Int) < 0) || decide ((ti.bytes : Int) * (len : Int) > 2 ^ 48)) || decide ((len : Int) < 0) || decide ((len : Int) > (len : Int))) = false := by
    simp only [Bool.or_eq_false_iff, decide_eq_false_iff_not]
    refine ⟨⟨⟨by omega, by omega⟩, by omega⟩, by omega⟩
  rw [hcond]
  simp only [Int.toNat_natCast]
  by_cases h0 : len * ti.size = 0
  · simp only [Bool.false_eq_true, if_false, Sem.run_pure, Result.andThen_ok, run_askRoom, hsz, Sem.run_bind, if_pos h0, newRow, run_newObj_alloc]
  · simp only [Bool.false_eq_true, if_false, Sem.run_pure, Result.andThen_ok, run_askRoom, hsz, Sem.run_bind, if_neg h0, hzero, newRow, run_newObj_alloc]
end
section
variable {P : Program} {φ : Phi} {σ : Heap} {w : World} {n : Nat} {fr : Frame} {a : Act}

theorem asBytes_ints : ∀ {cs : List AVal} {bs : List UInt8} {vs : List Value}, asBytes cs = some bs → VRs φ cs vs → ∃ ns : List Int, vs = ns.map (Value.int .u8) ∧ ns.map (fun n => UInt8.ofNat n.toNat) = bs
  | [], bs, vs, h, hv => by cases h; cases hv; exact ⟨[], rfl, rfl⟩
  | x :: cs, bs, vs, h, hv => by
    simp only [asBytes] at h
    split at h
    · rename_i b r hb hr
      cases h
      cases hv with
      | cons h1 h2 =>
        obtain ⟨ns, rfl, hns⟩ := asBytes_ints hr h2
        cases x <;> simp only [asByte] at hb <;> try (cases hb; done)
        rename_i k m
        cases k <;> simp only [asByte] at hb <;> try (cases hb; done)
        cases hb
        cases h1
        exact ⟨m :: ns, rfl, by simp [hns]⟩
    · cases h
theorem foldl_push (ns : List Int) : ∀ r : ByteArray, ns.foldl (fun r n => r.push (UInt8.ofNat n.toNat)) r = ⟨r.data ++ (ns.map fun n => UInt8.ofNat n.toNat).toArray⟩ := by
  induction ns with
  | nil => intro r; simp
  | cons n ns ih => intro r; simp only [List.foldl_cons]; rw [ih]; simp [ByteArray.push]

theorem aBstr_ok {src dst e : TypeId} (hs : P.underlying src = some (.slice e)) (he : P.underlying e = some (.int .u8)) (hd : P.underlying dst = some .string) {x z : AVal} {v : Value} (h : aBstr x σ = some z) (hx : VR φ x v) (hr : Rel φ σ w) :
    ∃ r, (convert src dst v).run P w = .ok r w ∧ VR φ z r := by
  unfold aBstr at h
  split at h
  · cases h; cases hx
    refine ⟨.string ⟨([] : List UInt8).toArray⟩, ?_, .str _⟩
    rw [run_convert_bytes_string w src dst e none 0 0 hs he hd]
    simp [Conv.bytesToString]
    rfl
  · rename_i i off len cap
    split at h
    · rename_i cs hcs
      rw [Option.map_eq_some_iff] at h
      obtain ⟨bs, hbs, rfl⟩ := h
      have key : ∀ (b c : Nat), i.real φ = some b → (convert src dst (.slice (some ⟨b, off, none⟩) len c)).run P w = .ok (.string ⟨bs.toArray⟩) w := by
        intro b c hib
        simp only [slcCells, Nat.le_refl, if_true, Nat.mul_one] at hcs
        obtain ⟨vs, h1, h2⟩ := loadCells_ok (P := P) hr hib len off off 0 cs #[] hcs (by omega)
        obtain ⟨ns, rfl, hns⟩ := asBytes_ints hbs h2
        rw [run_convert_bytes_string w src dst e _ _ _ hs he hd, run_bytesToString w _ len c ns (by simpa [loadCells] using h1), foldl_push, hns]
        simp
      cases hx with
      | slcE _ _ _ hib => exact ⟨_, key _ _ hib, .str _⟩
      | slcG _ _ _ hφ _ _ => exact ⟨_, key _ _ (by simp [Id.real, hφ]), .str _⟩
    · cases h
  · rename_i k els
    split at h
    · rename_i hk
      subst hk
      rw [Option.map_eq_some_iff] at h
      obtain ⟨bs, hbs, rfl⟩ := h
      cases hx with
      | fslN _ a c _ =>
        cases hbs
        refine ⟨.string ⟨([] : List UInt8).toArray⟩, ?_, .str _⟩
        rw [run_convert_bytes_string w src dst e a 0 c hs he hd]
        cases a with
        | none => simp [Conv.bytesToString]; rfl
        | some a => rw [run_bytesToString w a 0 c [] (by simp [loadCells, loadCellsFrom])]; rfl
      | @fsl _ _ vs b off c hv hh he' hc =>
        have hl := hv.flat_len he'
        have hld := loadF_ok (P := P) hr vs b off 0 #[] (fun i v e => by rw [Nat.zero_add]; exact hh i v e)
        obtain ⟨ns, rfl, hns⟩ := asBytes_ints hbs hv
        refine ⟨_, ?_, .str _⟩
        rw [run_convert_bytes_string w src dst e _ _ _ hs he hd, run_bytesToString w _ els.length c ns (by rw [hl, Nat.mul_one] at hld; simpa [loadCells] using hld), foldl_push, hns]
        simp
    · cases h
  · cases h

theorem bytes_ok {src dst e : TypeId} (hs : P.underlying src = some .string) (hd : P.underlying dst = some (.slice e)) (he : P.underlying e = some (.int .u8)) (s : List UInt8) (hr : Rel φ σ w) :
    DoingV P (convert src dst (.string ⟨s.toArray⟩)) w φ (.slc (.new σ.next) 0 s.length (.gr 1)) (σ.new (.cells (byteCells s) (some e))) := by
  have hrun := run_bytes_of_string w src dst e ⟨s.toArray⟩ hs hd he
  have hcap : s.length ≤ grownCap w (⟨s.toArray⟩ : ByteArray).size 0 e := by
    rw [bytes_size]; unfold grownCap; simp only [Question.cut]; exact Nat.le_add_right ..
  generalize hc : grownCap w (⟨s.toArray⟩ : ByteArray).size 0 e = c at hrun hcap
  have hsz : (bytesRow ⟨s.toArray⟩ c).size = c := by simp [bytesRow, bytes_size]; omega
  have hle := Phi.le_put (w.heap.size, c) (hr.fresh σ.next (Nat.le_refl _))
  obtain ⟨h1, h2⟩ := hr.drew.alloc (blk := .cells (byteCells s) (some e)) (o := .cells (bytesRow ⟨s.toArray⟩ c) e ((bytesRow ⟨s.toArray⟩ c).size, (bytesRow ⟨s.toArray⟩ c).size + 1)) (sz := c) (by
    refine .cells hsz (by simpa [byteCells] using hcap) (by intro h; cases h) (by intro T' h; cases h; rfl) ?_ ?_
    · have : (bytesRow ⟨s.toArray⟩ c).toList.take (byteCells s).length = s.map fun b => Value.int .u8 b.toNat := by
        have h1 : (bytesRow ⟨s.toArray⟩ c).toList = (s.map fun b => Value.int .u8 b.toNat) ++ (Array.replicate (c - (⟨s.toArray⟩ : ByteArray).size) (Value.int .u8 0)).toList := by
          simp [bytesRow]
        rw [h1]
        exact List.take_left' (by simp only [byteCells, List.length_map])
      rw [this]; exact VRs.bytes s
    · intro off hoff
      rw [hsz]
      simp; omega)
  refine ⟨_, _, _, hrun, h1, ?_, h2⟩
  have := VR.slcG (φ := φ.put σ.next (w.drew.heap.size, c)) (k := 1) 0 s.length c (Phi.put_same ..) (by omega) hcap
  rw [bytes_size]
  exact this

theorem iter_ok {t : TypeId} (hu : P.underlying t = some .string) {s : List UInt8} {v : Value} (hx : VR φ (.str s) v) (hr : Rel φ σ w) : DoingV P (Instr.range t v) w φ (.ptr (.new σ.next) 0) (σ.new (.iter s 0)) := by
  cases hx
  obtain ⟨h1, h2⟩ := hr.alloc (blk := .iter s 0) (o := .stringIter ⟨s.toArray⟩ 0) (sz := 0) (.iter s 0)
  refine ⟨_, _, _, ?_, h1, .ptr (b := w.heap.size) 0 (by simp [Id.real, Phi.put_same]), h2⟩
  simp [Instr.range, run_underlying hu, run_newObj_alloc]

theorem run_setObj_iter {b : Nat} {s : ByteArray} {p p' : Nat} (h : w.heap[b]? = some (.stringIter s p)) :
    ∃ w', (setObj b (.stringIter s p')).run P w = .ok () w' ∧ Wrote w w' b (.stringIter s p') := by
  refine ⟨{ w with heap := w.heap.setIfInBounds b (.stringIter s p') }, by simp [setObj, Sem.run, h], ?_, by simp, rfl, rfl, rfl, rfl⟩
  intro b'
  have hlt := (Array.getElem?_eq_some_iff.1 h).1
  by_cases e : b' = b
  · subst e; simp [hlt]
  · rw [if_neg e]
    simp [Array.getElem?_setIfInBounds_ne (fun h => e h.symm)]

theorem aNext_ok {x z : AVal} {v : Value} {σ' : Heap} (ty : TypeId) (h : aNext x σ = some (z, σ')) (hx : VR φ x v) (hr : Rel φ σ w) : DoingV P (Instr.next v true ty) w φ z σ' := by
  unfold aNext at h
  split at h
  · rename_i k
    split at h
    · rename_i s pos hg
      cases hx with
      | ptr _ hib =>
        simp only [Id.real, Option.map_eq_some_iff] at hib
        obtain ⟨⟨b, sz⟩, hφ, rfl⟩ := hib
        obtain ⟨_, o, ho, hb⟩ := hr.new k b sz hφ
        cases hb _ hg with
        | iter _ _ =>
          have hget : (getObj b).run P w = .ok (.stringIter ⟨s.toArray⟩ pos) w := by simp [getObj, Sem.run, ho]
          have hs := bytes_size s
          split at h
          · rename_i hlt
            obtain ⟨w', hw', hW⟩ := run_setObj_iter (P := P) (p' := pos + (Utf8.decode ⟨s.toArray⟩ pos).2) ho
            cases h
            refine ⟨.tuple #[.bool true, goInt pos, .int .i32 (Utf8.decode ⟨s.toArray⟩ pos).1], w', φ, ?_, Phi.le_refl φ, ?_, hW.rel hr hφ hg (by intro h; cases h) (.iter _ _)⟩
            · simp only [Instr.next, Sem.run_bind, hget, Result.andThen_ok, hs, if_pos hlt, hw', Sem.run_pure]
            · exact VR.tup (vs := [.bool true, goInt pos, .int .i32 (Utf8.decode ⟨s.toArray⟩ pos).1]) (.cons (.bool _) (.cons (.int _ _) (.cons (.int _ _) .nil)))
          · rename_i hlt
            cases h
            refine ⟨.tuple #[.bool false], w, φ, ?_, Phi.le_refl φ, VR.tup (vs := [.bool false]) (.cons (.bool _) .nil), hr⟩
            simp only [Instr.next, Sem.run_bind, hget, Result.andThen_ok, hs, if_neg hlt, Sem.run_pure]
    · cases h
  · cases h

theorem zeroCells_toList (z : Array Value) (m : Nat) : (Builtin.zeroCells z m).toList = (List.replicate m z.toList).flatten := by
  unfold Builtin.zeroCells
  exact range_mod z m

theorem clr_ok {t e ty : TypeId} {z : Value} {ti : TypeInfo} (hu : P.underlying t = some (.slice e)) (hti : P.info? e = some ti) (hz : ti.zero = some z) {b off len : Nat} {cap : Cap} {v : Value} {σ' : Heap}
    (hx : VR φ (.slc (.new b) off len cap) v) (h : storeAt σ b off (repl len (zcells z)) = some σ') (hr : Rel φ σ w) :
    ∃ w', (Builtin.clear_ #[t] ty #[v]).run P w = .ok (.tuple #[]) w' ∧ Rel φ σ' w' := by
  have hzero : ∀ w : World, (zeroValue e).run P w = .ok z w := fun w => cZero_ok (by simp [cZero, hti, hz]) w
  have key : ∀ (b' sz c : Nat), φ b = some (b', sz) → ∃ w', (Builtin.clear_ #[t] ty #[.slice (some ⟨b', off, none⟩) len c]).run P w = .ok (.tuple #[]) w' ∧ Rel φ σ' w' := by
    intro b' sz c hφ
    obtain ⟨w', hw', hr'⟩ := storeAt_ok (P := P) h (repl_VRs (zcells_VRs φ z) len) hr hφ
    cases len with
    | zero =>
      have hw'' : w' = w := by simpa [storeCells] using hw'.symm
      subst hw''
      exact ⟨w', by simp [Builtin.clear_, run_underlying hu], hr'⟩
    | succ len =>
      refine ⟨w', ?_, hr'⟩
      simp only [Builtin.clear_, List.getElem?_toArray, List.getElem?_cons_zero, Sem.run_bind, run_underlying hu, Result.andThen_ok, hzero, zeroCells_toList, hw', Sem.run_pure]
  cases hx with
  | slcE _ _ _ hib =>
    simp only [Id.real, Option.map_eq_some_iff] at hib
    obtain ⟨⟨b', sz⟩, hφ, rfl⟩ := hib
    exact key _ _ _ hφ
  | slcG _ _ _ hφ _ _ => exact key _ _ _ hφ
end
end Go.Mini
set_option maxHeartbeats 4000000
namespace Go.Mini
open Go

section
variable {P : Program} {φ : Phi} {σ σ' : Heap} {w : World} {n : Nat} {fr : Frame} {a : Act} {x : AVal}

theorem DoingV.of {s : Sem Value} {v : Value} (h : s.run P w = .ok v w) (hv : VR φ x v) (hr : Rel φ σ w) : DoingV P s w φ x σ := ⟨v, w, φ, h, Phi.le_refl φ, hv, hr⟩

theorem fold_ok {f : AVal → AVal → Option AVal} {g : Value → Value → Sem Value} (hfg : ∀ x y z u v, f x y = some z → VR φ x u → VR φ y v → ∃ r, (g u v).run P w = .ok r w ∧ VR φ z r) :
    ∀ (l : List AVal) (vs : List Value) (x z : AVal) (u : Value), foldO f x l = some z → VR φ x u → VRs φ l vs → ∃ r, (vs.foldlM g u).run P w = .ok r w ∧ VR φ z r := by
  intro l
  induction l with
  | nil => intro vs x z u h hx hl; cases h; cases hl; exact ⟨u, by simp, hx⟩
  | cons y l ih =>
    intro vs x z u h hx hl
    simp only [foldO] at h
    split at h
    · rename_i q hq
      cases hl with
      | @cons _ v _ vs h1 h2 =>
        obtain ⟨r, hr, hv⟩ := hfg _ _ _ _ _ hq hx h1
        obtain ⟨r', hr', hv'⟩ := ih vs q z r h hv h2
        exact ⟨r', by simp only [List.foldlM_cons, Sem.run_bind, hr, Result.andThen_ok, hr'], hv'⟩
    · cases h
theorem aMax2_ok (x y z : AVal) (u v : Value) (h : aMax2 x y = some z) (hx : VR φ x u) (hy : VR φ y v) : ∃ r, (Builtin.max2 u v).run P w = .ok r w ∧ VR φ z r := by
  unfold aMax2 at h
  split at h
  · split at h
    · rename_i hk; subst hk; cases h; cases hx; cases hy; exact ⟨_, rfl, .int _ _⟩
    · cases h
  · cases h
theorem aMin2_ok (x y z : AVal) (u v : Value) (h : aMin2 x y = some z) (hx : VR φ x u) (hy : VR φ y v) : ∃ r, (Builtin.min2 u v).run P w = .ok r w ∧ VR φ z r := by
  unfold aMin2 at h
  split at h
  · split at h
    · rename_i hk; subst hk; cases h; cases hx; cases hy; exact ⟨_, rfl, .int _ _⟩
    · cases h
  · cases h
theorem conc0_ok {x : AVal} {v u : Value} (h : VR φ x v) (hc : conc0 x = some u) : u = v := by
  cases h <;> simp [conc0] at hc <;> exact hc.symm
theorem concs_ok : ∀ {l : List AVal} {vs us : List Value}, VRs φ l vs → concs l = some us → us = vs
  | [], _, _, h, hc => by cases h; cases hc; rfl
  | x :: l, _, us, h, hc => by
    cases h with
    | cons h1 h2 =>
      simp only [concs] at hc
      split at hc
      · rename_i a b ha hb
        cases hc
        rw [conc0_ok h1 ha, concs_ok h2 hb]
      · cases hc
theorem conc_ok {x : AVal} {v u : Value} (h : VR φ x v) (hc : conc x = some u) : u = v := by
  cases x
  case agg l =>
    cases h with
    | agg hl =>
      simp only [conc, Option.map_eq_some_iff] at hc
      obtain ⟨vs, h1, rfl⟩ := hc
      rw [concs_ok hl h1]
  all_goals exact conc0_ok h hc
theorem not_int {d : TypeDesc} (h : ∀ k : IntKind, d = .int k → False) : isIntD d = false := by
  cases d <;> first | rfl | exact (h _ rfl).elim

theorem run_call_builtin {b : Builtin} {args : Array Operand} {argTypes : Array TypeId} {type : TypeId} {dst : Option Tmp} {pos : String} {after : Array Edge} {guard : Option (Nat × Bool)} (ρ : Operand → Value) :
    execOp ρ { dst, op := .call { callee := .builtin b, args, argTypes }, type, pos, after, guard } = builtin b argTypes type (args.map fun | .const _ => true | _ => false) (args.map ρ) := rfl

theorem cOpds_map (hf : FR φ n fr a) {args : Array Operand} {l : List Opd} (h : cOpds n args.toList = some l) : ∃ vs : List Value, args.map a.eval = vs.toArray ∧ VRs φ (evs fr l) vs :=
  ⟨args.toList.map a.eval, by apply Array.ext'; simp, cOpds_ok hf h⟩

theorem toArray_of_toList {α : Type} {a : Array α} {l : List α} (h : a.toList = l) : a = l.toArray := by rw [← h]

theorem call_ok {c : Call} {so : SOp} {type : TypeId} {dst : Option Tmp} {pos : String} {after : Array Edge} {guard : Option (Nat × Bool)} (hc : cCall P n c = some so) (hf : FR φ n fr a) (hr : Rel φ σ w) (he : aop so fr σ = some (x, σ')) :
    Doing P (execOp a.eval { dst, op := .call c, type, pos, after, guard }) w φ x σ' := by
  obtain ⟨callee, args, argTypes⟩ := c
  unfold cCall at hc
  cases callee with
  | value f =>
    simp only at hc
    split at hc
    · cases hc; simp [aop] at he
    · cases hc
  | invoke r m =>
    simp only [Option.some.injEq] at hc
    rcases cInvoke_or P n r m args.toList with e | ⟨t, ts, _, _, _, e⟩ <;> rw [e] at hc <;> subst hc <;> simp [aop] at he
  | builtin b =>
    simp only at hc
    rw [run_call_builtin]
    split at hc
    · -- len
      rename_i X t hX hT
      obtain ⟨vs, hvs, hvr⟩ := cOpds_map hf hX
      rw [hvs, toArray_of_toList hT]
      cases hvr with
      | @cons _ v _ _ hv hnil =>
      cases hnil
      simp only [builtin]
      apply DoingV.doing
      split at hc
      · rename_i hu
        cases hc
        simp only [aop, Option.map_eq_some_iff] at he
        obtain ⟨z, hz, he⟩ := he
        cases he
        change VR φ (X.ev fr) v at hv
        generalize X.ev fr = y at hz hv
        cases hv <;> simp only [aLenS] at hz <;> try (cases hz; done)
        case str s => cases hz; exact .of (v := goInt s.length) (by simp [Builtin.len_, run_underlying hu, bytes_size]) (.int _ _) hr
      · rename_i e hu
        cases hc
        simp only [aop, Option.map_eq_some_iff] at he
        obtain ⟨z, hz, he⟩ := he
        cases he
        change VR φ (X.ev fr) v at hv
        generalize X.ev fr = y at hz hv
        cases hv <;> simp only [aLen] at hz <;> try (cases hz; done)
        all_goals (cases hz; exact .of (v := goInt _) (by simp [Builtin.len_, run_underlying hu]) (.int _ _) hr)
      · rename_i k e hu
        cases hc
        simp only [aop] at he
        cases he
        refine .of (v := goInt k) ?_ (.int _ _) hr
        simp [Builtin.len_, run_underlying hu]
      · rename_i kt e hu
        cases hc
        simp only [aop, Option.map_eq_some_iff] at he
        obtain ⟨z, hz, he⟩ := he
        cases he
        change VR φ (X.ev fr) v at hv
        generalize X.ev fr = y at hz hv
        unfold aLenM at hz
        split at hz
        · cases hz; cases hv
          exact .of (v := goInt 0) (by simp [Builtin.len_, run_underlying hu]) (.int _ _) hr
        · rename_i m
          split at hz
          · rename_i es hg
            cases hz
            cases hv with
            | mp hib =>
              simp only [Id.real, Option.map_eq_some_iff] at hib
              obtain ⟨⟨b', sz⟩, hφ, rfl⟩ := hib
              obtain ⟨es', clock, ho, ⟨hsort, es0, hperm, hrel⟩, _⟩ := mapBlock hr hφ hg
              refine .of (v := goInt es'.size) ?_ ?_ hr
              · simp [Builtin.len_, run_underlying hu, run_getObj_map ho]
              · have : es.length = es'.size := by rw [← hperm.length_eq, hrel.length]; simp
                rw [this]; exact .int _ _
          · cases hz
        · cases hz
      · cases hc
    · -- append
      rename_i X Y t u hX hT
      obtain ⟨vs, hvs, hvr⟩ := cOpds_map hf hX
      rw [hvs, toArray_of_toList hT]
      cases hvr with
      | @cons _ v _ _ hv hvr =>
      cases hvr with
      | @cons _ v' _ _ hv' hnil =>
      cases hnil
      simp only [builtin]
      apply DoingV.doing
      split at hc
      · rename_i e d hu hd
        split at hc
        · cases hc
        · rename_i ti hd2 hti
          split at hc
          · rename_i z hz
            split at hc
            · rename_i hzs
              cases hc
              exact aApp_ok hu hd (not_int hd2) hti hz hzs he hv hv' hr
            · cases hc
          · cases hc
        · cases hc
      · cases hc
    · -- copy
      rename_i X Y t u hX hT
      obtain ⟨vs, hvs, hvr⟩ := cOpds_map hf hX
      rw [hvs, toArray_of_toList hT]
      cases hvr with
      | @cons _ v _ _ hv hvr =>
      cases hvr with
      | @cons _ v' _ _ hv' hnil =>
      cases hnil
      simp only [builtin]
      apply DoingV.doing
      split at hc
      · rename_i e hu
        rw [Option.map_eq_some_iff] at hc
        obtain ⟨k, hk, rfl⟩ := hc
        exact aCopy_ok hu hk he hv hv' hr
      · cases hc
    · -- delete
      rename_i X Y t u hX hT
      obtain ⟨vs, hvs, hvr⟩ := cOpds_map hf hX
      rw [hvs, toArray_of_toList hT]
      cases hvr with
      | @cons _ v _ _ hv hvr =>
      cases hvr with
      | @cons _ v' _ _ hv' hnil =>
      cases hnil
      simp only [builtin]
      apply DoingV.doing
      split at hc
      · rename_i kt e hu
        split at hc
        · rename_i hk
          cases hc
          simp only [aop] at he
          split at he
          · rename_i b m hm hkk
            split at he
            · rename_i es hg
              cases he
              rw [hm] at hv; rw [hkk] at hv'
              obtain ⟨w', hw', hr'⟩ := del_ok (u' := u) (ty := type) hu hk hv hv' hg hr
              exact ⟨_, w', φ, hw', Phi.le_refl φ, VR.undef φ, hr'⟩
            · cases he
          · cases he
        · cases hc
      · cases hc
    · -- clear
      rename_i X t hX hT
      obtain ⟨vs, hvs, hvr⟩ := cOpds_map hf hX
      rw [hvs, toArray_of_toList hT]
      cases hvr with
      | @cons _ v _ _ hv hnil =>
      cases hnil
      simp only [builtin]
      apply DoingV.doing
      split at hc
      · rename_i e hu
        split at hc
        · rename_i ti hti
          split at hc
          · rename_i z hz
            split at hc
            · rename_i hzs
              cases hc
              simp only [aop] at he
              split at he
              · rename_i hx
                rw [hx] at hv; cases hv; cases he
                refine ⟨_, w, φ, ?_, Phi.le_refl φ, VR.undef φ, hr⟩
                simp [Builtin.clear_, run_underlying hu]; rfl
              · rename_i hx
                rw [hx] at hv; cases hv; cases he
                refine ⟨_, w, φ, ?_, Phi.le_refl φ, VR.undef φ, hr⟩
                simp [Builtin.clear_, run_underlying hu]; rfl
              · rename_i b off len cap hx
                rw [hx] at hv
                split at he
                · rw [Option.map_eq_some_iff] at he
                  obtain ⟨σ1, hs, he⟩ := he
                  cases he
                  obtain ⟨w', hw', hr'⟩ := clr_ok (ty := type) hu hti hz hv hs hr
                  exact ⟨_, w', φ, hw', Phi.le_refl φ, VR.undef φ, hr'⟩
                · cases he
              · cases he
            · cases hc
          · cases hc
        · cases hc
      · cases hc
    · -- max
      rename_i X l hX
      obtain ⟨vs, hvs, hvr⟩ := cOpds_map hf hX
      rw [hvs]
      cases hvr with
      | @cons _ v _ vs hv hvr =>
      simp only [builtin]
      apply DoingV.doing
      cases hc
      simp only [aop, Option.map_eq_some_iff] at he
      obtain ⟨z, hz, he⟩ := he
      cases he
      obtain ⟨r, hr1, hr2⟩ := fold_ok (P := P) (w := w) (g := Builtin.max2) aMax2_ok _ _ _ _ _ hz hv hvr
      exact .of (by simpa [Builtin.max_] using hr1) hr2 hr
    · -- min
      rename_i X l hX
      obtain ⟨vs, hvs, hvr⟩ := cOpds_map hf hX
      rw [hvs]
      cases hvr with
      | @cons _ v _ vs hv hvr =>
      simp only [builtin]
      apply DoingV.doing
      cases hc
      simp only [aop, Option.map_eq_some_iff] at he
      obtain ⟨z, hz, he⟩ := he
      cases he
      obtain ⟨r, hr1, hr2⟩ := fold_ok (P := P) (w := w) (g := Builtin.min2) aMin2_ok _ _ _ _ _ hz hv hvr
      exact .of (by simpa [Builtin.min_] using hr1) hr2 hr
    · cases hc

theorem aop_ok {o : Oper} {so : SOp} (hc : cOp P n o.op = some so) (hf : FR φ n fr a) (hr : Rel φ σ w) (he : aop so fr σ = some (x, σ')) : Doing P (execOp a.eval o) w φ x σ' := by
  obtain ⟨dst, op, type, pos, after, guard⟩ := o
  simp only at hc
  cases op <;> simp only [cOp] at hc <;> try (cases hc; done)
  case move X =>
    rw [Option.map_eq_some_iff] at hc
    obtain ⟨y, hy, rfl⟩ := hc
    cases he
    exact .val rfl (cOpd_ok hy hf) hr
  case assign X =>
    rw [Option.map_eq_some_iff] at hc
    obtain ⟨y, hy, rfl⟩ := hc
    cases he
    exact .val rfl (cOpd_ok hy hf) hr
  case pick C A B =>
    split at hc
    · rename_i c p q h1 h2 h3
      cases hc
      simp only [aop] at he
      have hcv := cOpd_ok h1 hf
      split at he
      · rename_i hb
        cases he
        rw [hb] at hcv
        generalize hg : a.eval C = cv at hcv
        cases hcv
        exact .val (by simp [execOp, hg, asBool]) (cOpd_ok h2 hf) hr
      · rename_i hb
        cases he
        rw [hb] at hcv
        generalize hg : a.eval C = cv at hcv
        cases hcv
        exact .val (by simp [execOp, hg, asBool]) (cOpd_ok h3 hf) hr
      · cases he
    · cases hc
  case alloc t =>
    rw [Option.map_eq_some_iff] at hc
    obtain ⟨z, hz, rfl⟩ := hc
    split at he
    · cases he
      exact (allocT_ok hz hr).doing
    · cases he
      exact (alloc_ok hz hr).doing
  case box t X =>
    rw [Option.map_eq_some_iff] at hc
    obtain ⟨y, hy, rfl⟩ := hc
    simp only [aop] at he
    split at he
    · cases he
    · rename_i hn
      cases he
      exact (box_ok (cOpd_ok hy hf) (by simpa using hn) hr).doing
  case build t parts =>
    split at hc
    · rename_i fs z hu hz
      split at hc
      · rename_i pl hpl
        rw [Option.map_eq_some_iff] at hc
        obtain ⟨p, hp, rfl⟩ := hc
        simp only [aop, Option.map_map, Option.map_eq_some_iff] at he
        obtain ⟨cs, hcs, he⟩ := he
        cases he
        obtain ⟨us, hus, hur⟩ := fill_ok (pl[·]?) hf parts.toList p (zcells z) z.cells cs hp hcs (zcells_VRs φ z)
        refine DoingV.doing (.of (v := .agg us) ?_ (by have := VR.agg hur; simpa using this) hr)
        have hpl' := structPlaces_ok (w := w) fs.toList pl hpl
        have hmap : (parts.map fun (i, x) => (i, a.eval x)).toList = parts.toList.map fun (i, x) => (i, a.eval x) := by simp
        have hpl2 : (fs.mapM (fun f => (do pure (f.offset, ← sizeOf f.type) : Sem (Nat × Nat)))).run P w = .ok pl.toArray w := by
          rw [Array.mapM_eq_mapM_toList, Sem.run_map, hpl']; rfl
        simp only [Instr.build, Sem.run_bind, cZero_ok hz, run_underlying hu, Result.andThen_ok, hmap]
        rw [hpl2]
        simp only [Result.andThen_ok, List.getElem?_toArray, hus, Sem.run_pure]
      · cases hc
    · rename_i m e z hu hz
      split at hc
      · rename_i s hs
        rw [Option.map_eq_some_iff] at hc
        obtain ⟨p, hp, rfl⟩ := hc
        simp only [aop, Option.map_map, Option.map_eq_some_iff] at he
        obtain ⟨cs, hcs, he⟩ := he
        cases he
        obtain ⟨us, hus, hur⟩ := fill_ok (fun i => some (i * s, s)) hf parts.toList p (zcells z) z.cells cs hp hcs (zcells_VRs φ z)
        refine DoingV.doing (.of (v := .agg us) ?_ (by have := VR.agg hur; simpa using this) hr)
        have hmap : (parts.map fun (i, x) => (i, a.eval x)).toList = parts.toList.map fun (i, x) => (i, a.eval x) := by simp
        simp only [Instr.build, Sem.run_bind, cZero_ok hz, run_underlying hu, Result.andThen_ok, hmap, cSize_ok hs, hus, Sem.run_pure]
      · cases hc
    · cases hc
  case buildSlice t len parts =>
    split at hc
    · rename_i e hu
      split at hc
      · rename_i ti hti
        split at hc
        · rename_i z hz
          split at hc
          · rename_i hcond
            simp only [Bool.and_eq_true, decide_eq_true_eq] at hcond
            rw [Option.map_eq_some_iff] at hc
            obtain ⟨p, hp, rfl⟩ := hc
            simp only [aop] at he
            split at he
            · rename_i cs hcs
              split at he
              · rename_i hl
                cases he
                have := bslc_ok hu hti hz hcond.1 hcond.2 hp hf hcs hl hr
                have hmap : (parts.map fun (i, x) => (i, a.eval x)) = (parts.toList.map fun (i, x) => (i, a.eval x)).toArray := by apply Array.ext'; simp
                simp only [execOp, hmap]
                exact this.doing
              · cases he
            · cases he
          · cases hc
        · cases hc
      · cases hc
    · cases hc
  case load t A =>
    split at hc
    · rename_i k y hk hy
      cases hc
      simp only [aop, Option.map_eq_some_iff] at he
      obtain ⟨z, hz, he⟩ := he
      cases he
      have hv := cOpd_ok hy hf
      unfold aLoad at hz
      split at hz
      · rename_i i off hx
        rw [hx] at hv
        generalize hg : a.eval A = cv at hv
        cases hv with
        | ptr _ hib =>
          obtain ⟨h1, h2⟩ := cAgg_ok (w := w) hk
          cases k with
          | none =>
            obtain ⟨v, hv, hvr⟩ := hr.cell hz hib
            refine DoingV.doing (.of (v := v) ?_ hvr hr)
            simp [hg, Instr.loadAt, Instr.sureAddr, loadVar, h1, hv]
          | some m =>
            rw [Option.map_eq_some_iff] at hz
            obtain ⟨l, hl, rfl⟩ := hz
            obtain ⟨vs, hvs, hvrs⟩ := loadCells_ok (P := P) hr hib m off off 0 l #[] hl (by omega)
            refine DoingV.doing (.of (v := .agg vs.toArray) ?_ (.agg hvrs) hr)
            simp [hg, Instr.loadAt, Instr.sureAddr, loadVar, h1, h2 m rfl, loadCells, hvs]
      · rename_i cs hx
        rw [hx] at hv
        generalize hg : a.eval A = cv at hv
        cases hv with
        | @fptr _ vs b off hvs hh =>
          obtain ⟨h1, h2⟩ := cAgg_ok (w := w) hk
          cases k with
          | none =>
            obtain ⟨v, hv, hvr⟩ := hvs.get 0 _ hz
            have hc := hr.frz _ _ _ (hh 0 v hv)
            rw [Nat.add_zero] at hc
            refine DoingV.doing (.of (v := v) ?_ hvr hr)
            simp [hg, Instr.loadAt, Instr.sureAddr, loadVar, h1, hc]
          | some m =>
            simp only at hz
            split at hz
            · rename_i hm
              cases hz
              have hl := hvs.length
              have hld := loadF_ok (P := P) hr (vs.take m) b off 0 #[] (fun i v e => by
                rw [Nat.zero_add]; exact hh i v (take_getElem? _ _ _ _ e))
              have hlen : (vs.take m).length = m := by rw [List.length_take]; omega
              rw [hlen] at hld
              refine DoingV.doing (.of (v := .agg (vs.take m).toArray) ?_ (.agg (hvs.take m)) hr)
              simp [hg, Instr.loadAt, Instr.sureAddr, loadVar, h1, h2 m rfl, loadCells, hld]
            · cases hz
      · cases hz
    · cases hc
  case store t A X =>
    split at hc
    · rename_i k y z hk hy hz
      cases hc
      simp only [aop, Option.map_eq_some_iff] at he
      obtain ⟨σ1, hs, he⟩ := he
      cases he
      have hv := cOpd_ok hy hf
      have hx := cOpd_ok hz hf
      unfold aStore at hs
      split at hs
      · rename_i kk off hxy
        split at hs
        · rename_i hcond
          simp only [Bool.and_eq_true, decide_eq_true_eq, Bool.not_eq_true'] at hcond
          rw [hxy] at hv
          generalize hg : a.eval A = cv at hv
          cases hv with
          | ptr _ hib =>
            simp only [Id.real, Option.map_eq_some_iff] at hib
            obtain ⟨⟨b', sz⟩, hφ, rfl⟩ := hib
            have hcs := hx.cells hcond.2
            obtain ⟨w', hw', hr'⟩ := storeAt_ok (P := P) hs hcs hr hφ
            refine ⟨Go.undef, w', φ, .inr ⟨?_, rfl⟩, Phi.le_refl φ, VR.undef φ, hr'⟩
            have hsz := hcs.length
            have hne : ¬ ((a.eval X).cells.size ≠ k) := by simp at hsz ⊢; omega
            simp only [execOp, hg, Instr.storeAt, Instr.sureAddr, Sem.run_bind, Sem.run_pure, Result.andThen_ok, storeVar, cSize_ok hk]
            rw [if_neg hne]
            simp only [Sem.run_pure, Result.andThen_ok, hw']
        · cases hs
      · cases hs
    · cases hc
  case nilCheck X =>
    rw [Option.map_eq_some_iff] at hc
    obtain ⟨y, hy, rfl⟩ := hc
    have hv := cOpd_ok hy hf
    simp only [aop] at he
    generalize hg : a.eval X = cv at hv
    have hv2 := hv
    split at he <;> rename_i hx <;> try (rw [hx] at hv hv2; cases he; cases hv; refine .val ?_ hv2 hr; simp [execOp, hg])
    cases he
  case binOp op t X Y ty =>
    split at hc
    · rename_i y z hy hz
      cases hc
      simp only [aop, Option.map_eq_some_iff] at he
      obtain ⟨r, hb, he⟩ := he
      cases he
      obtain ⟨v, h1, h2⟩ := aBin_ok (w := w) (X := X) (Y := Y) hb (cOpd_ok hy hf) (cOpd_ok hz hf)
      exact DoingV.doing (.of h1 h2 hr)
    · cases hc
  case unOp op t X =>
    cases op <;> simp only [cOp] at hc <;> try (cases hc; done)
    case not =>
      rw [Option.map_eq_some_iff] at hc
      obtain ⟨y, hy, rfl⟩ := hc
      have hv := cOpd_ok hy hf
      simp only [aop] at he
      split at he
      · rename_i b hx
        cases he
        rw [hx] at hv
        generalize hg : a.eval X = cv at hv
        cases hv
        exact DoingV.doing (.of (v := .bool !b) (by simp [hg, Op.unary]) (.bool _) hr)
      · cases he
    case neg =>
      rw [Option.map_eq_some_iff] at hc
      obtain ⟨y, hy, rfl⟩ := hc
      have hv := cOpd_ok hy hf
      simp only [aop] at he
      split at he
      · rename_i k m hx
        cases he
        rw [hx] at hv
        generalize hg : a.eval X = cv at hv
        cases hv
        exact DoingV.doing (.of (v := .int k (k.wrap (0 - m))) (by simp [hg, Op.unary, Op.intArith]) (.int _ _) hr)
      · cases he
  case convert s d X =>
    split at hc
    · rename_i D k y hs hd hy
      cases hc
      have hv := cOpd_ok hy hf
      simp only [aop] at he
      split at he
      · rename_i k' m hx
        cases he
        rw [hx] at hv
        generalize hg : a.eval X = cv at hv
        cases hv
        refine DoingV.doing (.of (v := .int k (k.wrap m)) ?_ (.int _ _) hr)
        simp only [hg, convert, Sem.run_bind, run_underlying hs, run_underlying hd, Result.andThen_ok]
        cases D <;> simp [Conv.intToInt]
      · cases he
    · rename_i k y hs hd hy
      cases hc
      have hv := cOpd_ok hy hf
      simp only [aop] at he
      split at he
      · rename_i k' m hx
        cases he
        rw [hx] at hv
        generalize hg : a.eval X = cv at hv
        cases hv
        refine DoingV.doing (.of (v := .string (Utf8.encode m)) ?_ ?_ hr)
        · simp [hg, convert, run_underlying hs, run_underlying hd, Conv.intToString]
        · have := VR.str (φ := φ) (Utf8.encode m).data.toList; simpa using this
      · rename_i s' hx
        cases he
        rw [hx] at hv
        generalize hg : a.eval X = cv at hv
        cases hv
        exact DoingV.doing (.of (v := .string ⟨s'.toArray⟩) (by simp [hg, convert, run_underlying hs, run_underlying hd]) (.str _) hr)
      · cases he
    · rename_i y hs hd hy
      cases hc
      have hv := cOpd_ok hy hf
      simp only [aop] at he
      split at he
      · rename_i k' m hx
        cases he
        rw [hx] at hv
        generalize hg : a.eval X = cv at hv
        cases hv
        refine DoingV.doing (.of (v := .string (Utf8.encode m)) ?_ ?_ hr)
        · simp [hg, convert, run_underlying hs, run_underlying hd, Conv.intToString]
        · have := VR.str (φ := φ) (Utf8.encode m).data.toList; simpa using this
      · rename_i s' hx
        cases he
        rw [hx] at hv
        generalize hg : a.eval X = cv at hv
        cases hv
        exact DoingV.doing (.of (v := .string ⟨s'.toArray⟩) (by simp [hg, convert, run_underlying hs, run_underlying hd]) (.str _) hr)
      · cases he
    · rename_i e y hs hd hy
      split at hc
      · rename_i hE
        cases hc
        have hv := cOpd_ok hy hf
        simp only [aop, Option.map_eq_some_iff] at he
        obtain ⟨z, hz, he⟩ := he
        cases he
        obtain ⟨r, h1, h2⟩ := aBstr_ok (P := P) hs hE hd hz hv hr
        exact DoingV.doing (.of h1 h2 hr)
      · cases hc
    · rename_i e y hs hd hy
      split at hc
      · rename_i hE
        cases hc
        have hv := cOpd_ok hy hf
        simp only [aop] at he
        split at he
        · rename_i s' hx
          split at he
          · cases he
            rw [hx] at hv
            generalize hg : a.eval X = cv at hv
            cases hv
            have := bytes_ok (P := P) hs hd hE s' hr
            simp only [execOp, hg]
            exact this.doing
          · cases he
        · cases he
      · cases hc
    · cases hc
  case makeFunc fn first captured =>
    cases fn <;> simp only [cOp] at hc <;> try (cases hc; done)
    rename_i f
    split at hc
    · rename_i h0
      rw [Option.map_eq_some_iff] at hc
      obtain ⟨l, hl, rfl⟩ := hc
      cases he
      obtain ⟨vs, hvs, hvr⟩ := cOpds_map hf hl
      refine DoingV.doing (.of (v := .func (.func f) #[] vs.toArray) ?_ (.fn f hvr) hr)
      have : first.map a.eval = #[] := by
        apply Array.eq_empty_of_size_eq_zero; simpa using h0
      simp [Instr.makeFunc, this, hvs]
    · cases hc
  case makeMap t r =>
    split at hc
    · rename_i k e hu
      have key : ∀ r' : Option Value, (r' = none ∨ ∃ k m, r' = some (.int k m)) → aop .mmap fr σ = some (x, σ') → DoingV P (Instr.makeMap t r') w φ x σ' := by
        intro r' hr' he
        cases he
        obtain ⟨h1, h2⟩ := hr.alloc (blk := .map []) (o := .map #[] 0) (sz := 0) (.map ⟨.nil, [], .refl _, .nil⟩ (MapKept.stamped_empty 0))
        refine ⟨_, _, _, ?_, h1, .mp (b := w.heap.size) (by simp [Id.real, Phi.put_same]), h2⟩
        rcases hr' with rfl | ⟨k, m, rfl⟩
        · simp [Instr.makeMap, run_newObj_alloc]
        · simp [Instr.makeMap, run_underlying hu, asInt, asIntOf, run_newObj_alloc]
      split at hc
      · cases hc; exact (key _ (.inl rfl) he).doing
      · cases hc; exact (key _ (.inr ⟨_, _, rfl⟩) he).doing
      · cases hc
    · cases hc
  case makeSlice t L C =>
    split at hc
    · rename_i e l c hu hl hcc
      split at hc
      · rename_i ti hti
        split at hc
        · rename_i z hz
          split at hc
          · rename_i hzs
            cases hc
            have hv := cOpd_ok hl hf
            have hv' := cOpd_ok hcc hf
            simp only [aop] at he
            split at he
            · rename_i l' c' e1 e2
              split at he
              · rename_i hcond
                simp only [Bool.and_eq_true, decide_eq_true_eq] at hcond
                cases he
                rw [e1] at hv; rw [e2] at hv'
                exact (mslc_ok hu hti hz hzs hv hv' hcond.1.1.1.1 hcond.1.1.1.2 hcond.1.1.2 hcond.1.2 hr).doing
              · cases he
            · cases he
          · cases hc
        · cases hc
      · cases hc
    · cases hc
  case slice t X lo hi mx =>
    split at hc
    · rename_i y l h m hy hl hh hm
      have hv := cOpd_ok hy hf
      have vl := cOpdO_vro hl hf
      have vh := cOpdO_vro hh hf
      have vm := cOpdO_vro hm hf
      split at hc
      · rename_i e hu
        rw [Option.map_eq_some_iff] at hc
        obtain ⟨k, hk, rfl⟩ := hc
        simp only [aop, Option.map_eq_some_iff] at he
        obtain ⟨z, hz, he⟩ := he
        cases he
        obtain ⟨r, h1, h2⟩ := aSlc_ok (w := w) hu hk hz hv vl vh vm
        exact DoingV.doing (.of h1 h2 hr)
      · rename_i hu
        split at hc
        · cases hc
        · rename_i hmx
          cases hc
          simp only [aop, Option.map_eq_some_iff] at he
          obtain ⟨z, hz, he⟩ := he
          cases he
          have : mx = none := by cases mx <;> simp_all [cOpdO]
          subst this
          obtain ⟨r, h1, h2⟩ := aSlcS_ok (w := w) hu hz hv vl vh
          exact DoingV.doing (.of h1 h2 hr)
      · rename_i m' e hu
        rw [Option.map_eq_some_iff] at hc
        obtain ⟨k, hk, rfl⟩ := hc
        simp only [aop, Option.map_eq_some_iff] at he
        obtain ⟨z, hz, he⟩ := he
        cases he
        obtain ⟨r, h1, h2⟩ := aSlcR_ok (w := w) hu hk hz hv vl vh vm
        exact DoingV.doing (.of h1 h2 hr)
      · cases hc
    · cases hc
  case fieldAddr s X f =>
    split at hc
    · rename_i fs y hu hy
      split at hc
      · rename_i fd hfd
        split at hc
        · cases hc
        · rename_i k h0 hk
          cases hc
          have hv := cOpd_ok hy hf
          simp only [aop] at he
          split at he
          · rename_i i off hx
            cases he
            rw [hx] at hv
            generalize hg : a.eval X = cv at hv
            cases hv with
            | ptr _ hib =>
              refine DoingV.doing (.of (v := .pointer (some ⟨_, off + fd.offset, none⟩)) ?_ (.ptr _ hib) hr)
              have hk0 : k ≠ 0 := by intro h; subst h; exact h0 rfl
              simp only [hg, Instr.fieldAt, Sem.run_bind, run_underlying hu, Result.andThen_ok, hfd, Instr.sureAddr, Sem.run_pure, fieldPlace, cSize_ok hk, if_neg hk0, Addr.add_eq]
          · rename_i cs hx
            cases he
            rw [hx] at hv
            generalize hg : a.eval X = cv at hv
            cases hv with
            | @fptr _ vs b off hvs hh =>
              refine DoingV.doing (.of (v := .pointer (some ⟨b, off + fd.offset, none⟩)) ?_ (.fptr (hvs.drop fd.offset) ?_) hr)
              · have hk0 : k ≠ 0 := by intro h; subst h; exact h0 rfl
                simp only [hg, Instr.fieldAt, Sem.run_bind, run_underlying hu, Result.andThen_ok, hfd, Instr.sureAddr, Sem.run_pure, fieldPlace, cSize_ok hk, if_neg hk0, Addr.add_eq]
              · intro j v e
                rw [List.getElem?_drop] at e
                rw [Nat.add_assoc]
                exact hh _ v e
          · cases he
        · cases hc
      · cases hc
    · cases hc
  case field t X f =>
    split at hc
    · rename_i fs y hu hy
      split at hc
      · rename_i fd hfd
        rw [Option.map_eq_some_iff] at hc
        obtain ⟨k, hk, rfl⟩ := hc
        have hv := cOpd_ok hy hf
        simp only [aop] at he
        split at he
        · rename_i cs hx
          rw [Option.map_eq_some_iff] at he
          obtain ⟨z, hz, he⟩ := he
          cases he
          rw [hx] at hv
          generalize hg : a.eval X = cv at hv
          cases hv with
          | agg hcs =>
            obtain ⟨r, h1, h2⟩ := aPart_ok (w := w) hk hz hcs
            refine DoingV.doing (.of (v := r) ?_ h2 hr)
            simp only [hg, Instr.field, Sem.run_bind, run_underlying hu, Result.andThen_ok, hfd, asAgg, Sem.run_pure, h1]
        · cases he
      · cases hc
    · cases hc
  case indexAddr t X I =>
    split at hc
    · rename_i e y i hu hy hi
      rw [Option.map_eq_some_iff] at hc
      obtain ⟨k, hk, rfl⟩ := hc
      simp only [aop, Option.map_eq_some_iff] at he
      obtain ⟨z, hz, he⟩ := he
      cases he
      obtain ⟨r, h1, h2⟩ := aIdx_ok (w := w) hu hk hz (cOpd_ok hy hf) (cOpd_ok hi hf)
      exact DoingV.doing (.of h1 h2 hr)
    · rename_i m e y i hu hy hi
      rw [Option.map_eq_some_iff] at hc
      obtain ⟨k, hk, rfl⟩ := hc
      simp only [aop, Option.map_eq_some_iff] at he
      obtain ⟨z, hz, he⟩ := he
      cases he
      obtain ⟨r, h1, h2⟩ := aIdxR_ok (w := w) hu hk hz (cOpd_ok hy hf) (cOpd_ok hi hf)
      exact DoingV.doing (.of h1 h2 hr)
    · cases hc
  case index t X I =>
    split at hc
    · rename_i y i hu hy hi
      cases hc
      simp only [aop, Option.map_eq_some_iff] at he
      obtain ⟨z, hz, he⟩ := he
      cases he
      obtain ⟨r, h1, h2⟩ := aIdxS_ok (w := w) hu hz (cOpd_ok hy hf) (cOpd_ok hi hf)
      exact DoingV.doing (.of h1 h2 hr)
    · rename_i m e y i hu hy hi
      split at hc
      · rename_i k s hk hs
        cases hc
        simp only [aop, Option.map_eq_some_iff] at he
        obtain ⟨z, hz, he⟩ := he
        cases he
        obtain ⟨r, h1, h2⟩ := aIdxG_ok (w := w) hu hk hs hz (cOpd_ok hy hf) (cOpd_ok hi hf)
        exact DoingV.doing (.of h1 h2 hr)
      · cases hc
    · cases hc
  case lookup t X K ok =>
    split at hc
    · rename_i kt e y k hu hy hk
      split at hc
      · rename_i z hkt hz
        cases hc
        simp only [aop, Option.map_eq_some_iff] at he
        obtain ⟨q, hq, he⟩ := he
        cases he
        obtain ⟨r, h1, h2⟩ := aLook_ok (P := P) hu hkt hz hq (cOpd_ok hy hf) (cOpd_ok hk hf) hr
        exact DoingV.doing (.of h1 h2 hr)
      · cases hc
    · cases hc
  case mapUpdate t M K V =>
    split at hc
    · rename_i kt e m k v hu hm hk hv
      split at hc
      · rename_i hkt
        cases hc
        have h1 := cOpd_ok hm hf
        have h2 := cOpd_ok hk hf
        have h3 := cOpd_ok hv hf
        simp only [aop] at he
        split at he
        · rename_i b j e1 e2
          split at he
          · rename_i es hg
            cases he
            rw [e1] at h1; rw [e2] at h2
            obtain ⟨w', hw', hr'⟩ := mapUp_ok (P := P) hu hkt h1 h2 h3 hg hr
            exact ⟨Go.undef, w', φ, .inr ⟨by simp [execOp, hw'], rfl⟩, Phi.le_refl φ, VR.undef φ, hr'⟩
          · cases he
        · cases he
      · cases hc
    · cases hc
  case insert t M K V =>
    split at hc
    · rename_i kt e m k v hu hm hk hv
      split at hc
      · rename_i hkt
        cases hc
        have h1 := cOpd_ok hm hf
        have h2 := cOpd_ok hk hf
        have h3 := cOpd_ok hv hf
        simp only [aop] at he
        split at he
        · rename_i b j e1 e2
          split at he
          · rename_i es hg
            cases he
            rw [e1] at h1; rw [e2] at h2
            obtain ⟨w', hw', hr'⟩ := mapUp_ok (P := P) hu hkt h1 h2 h3 hg hr
            exact ⟨Go.undef, w', φ, .inr ⟨by simp [execOp, hw'], rfl⟩, Phi.le_refl φ, VR.undef φ, hr'⟩
          · cases he
        · cases he
      · cases hc
    · cases hc
  case range t X =>
    split at hc
    · rename_i hu
      rw [Option.map_eq_some_iff] at hc
      obtain ⟨y, hy, rfl⟩ := hc
      have hv := cOpd_ok hy hf
      simp only [aop] at he
      split at he
      · rename_i s hx
        cases he
        rw [hx] at hv
        exact (iter_ok hu hv hr).doing
      · cases he
    · cases hc
  case next X b =>
    cases b <;> simp only at hc <;> try (cases hc; done)
    rw [Option.map_eq_some_iff] at hc
    obtain ⟨y, hy, rfl⟩ := hc
    exact (aNext_ok type he (cOpd_ok hy hf) hr).doing
  case extract X i =>
    rw [Option.map_eq_some_iff] at hc
    obtain ⟨y, hy, rfl⟩ := hc
    have hv := cOpd_ok hy hf
    simp only [aop] at he
    split at he
    · rename_i l hx
      rw [Option.map_eq_some_iff] at he
      obtain ⟨z, hz, he⟩ := he
      cases he
      rw [hx] at hv
      generalize hg : a.eval X = cv at hv
      cases hv with
      | tup hl =>
        obtain ⟨v, h1, h2⟩ := hl.get i _ hz
        refine DoingV.doing (.of (v := v) ?_ h2 hr)
        simp [hg, Instr.extract, h1]
    · cases he
  case call c => exact call_ok hc hf hr he
  case makeInterface T X =>
    simp only [Option.some.injEq] at hc
    split at hc
    · rename_i d y hu hy
      split at hc
      · rename_i hd
        subst hc
        have hv := cOpd_ok hy hf
        simp only [aop, Option.map_eq_some_iff] at he
        obtain ⟨z, ⟨u, hz, rfl⟩, he⟩ := he
        cases he
        have hu2 := conc_ok hv hz
        subst hu2
        refine DoingV.doing (.of (v := .iface T (a.eval X)) ?_ (VR.raw _) hr)
        cases d <;> first | (simp [noPtr] at hd; done) | simp [Instr.makeInterface, run_underlying hu]
      · subst hc; simp [aop] at he
    · subst hc; simp [aop] at he
end
def ACall (P : Program) (f : FuncId) (args : List AVal) (σ : Heap) (v : AVal) (σ' : Heap) : Prop :=
  ∀ φ w vs, VRs φ args vs → Rel φ σ w → ∀ (o : Oper) (a : Act) (next : Act → World → Prop) (Q : Exit → Act → World → Prop),
    (∀ φ' v' w', φ.le φ' → VR φ' v v' → Rel φ' σ' w' → next (a.put o.dst v') w') → o.upon P a next Q ((callFunc f vs.toArray).run P w)

inductive SExit where
  | normal
  | exit (id : Nat)
  | ret

def wantd (g : Option (Nat × Bool)) (fr : Frame) : Option Bool :=
  match g with
  | none => some true
  | some (t, want) => match fr.get t with
    | .bool b => some (b == want)
    | .tup _ => some false
    | _ => none

section
variable (P : Program)
def opwp (o : SOp) (fr : Frame) (σ : Heap) (K : AVal → Heap → Prop) : Prop :=
  match o with
  | .call f args => match f.ev fr with
    | .fn g caps => ∃ v σ', ACall P g (evs fr args ++ caps) σ v σ' ∧ K v σ'
    | _ => False
  | o => match aop o fr σ with
    | some (v, σ') => K v σ'
    | none => False
def opswp : List SOper → (Frame → Heap → Prop) → Frame → Heap → Prop
  | [], K, fr, σ => K fr σ
  | o :: os, K, fr, σ => match wantd o.guard fr with
    | some true => opwp P o.op fr σ fun v σ' => opswp os K (fr.putO o.dst v) σ'
    | some false => opswp os K (fr.putO o.dst .undef) σ
    | none => False

def Does (o : SOp) (fr : Frame) (σ : Heap) (v : AVal) (σ' : Heap) : Prop :=
  match o with
  | .call f args => match f.ev fr with
    | .fn g caps => ACall P g (evs fr args ++ caps) σ v σ'
    | _ => False
  | o => aop o fr σ = some (v, σ')
end
theorem opwp_does {P : Program} {o : SOp} {fr : Frame} {σ : Heap} {K : AVal → Heap → Prop} (h : opwp P o fr σ K) : ∃ v σ', Does P o fr σ v σ' ∧ K v σ' := by
  unfold opwp at h
  split at h
  · split at h
    · rename_i hx
      obtain ⟨v, σ', h1, h2⟩ := h
      exact ⟨v, σ', by simpa [Does, hx] using h1, h2⟩
    · cases h
  · rename_i hne
    split at h
    · rename_i v σ' he
      refine ⟨v, σ', ?_, h⟩
      unfold Does
      split
      · exact absurd rfl (hne _ _)
      · exact he
    · cases h

section
variable {P : Program} {φ : Phi} {σ σ' : Heap} {w : World} {n : Nat} {fr : Frame} {a : Act} {x : AVal}

theorem cOper_ok {ops : Array Oper} {o : Oper} {so : SOper} (h : cOper P n ops o = some so) : cOp P n o.op = some so.op ∧ so.dst = o.dst ∧ (∀ t, o.dst = some t → t < n) ∧
    so.after = (o.after.toList.filter fun e => Region.binds .any e).map (·.on) ∧
    ((o.guard = none ∧ so.guard = none) ∨ ∃ j want o' t, o.guard = some (j, want) ∧ ops[j]? = some o' ∧ o'.dst = some t ∧ t < n ∧ so.guard = some (t, want)) := by
  unfold cOper at h
  split at h
  · cases h
  · rename_i s hs
    split at h
    · cases h
    · rename_i hd
      have hd' : ∀ t, o.dst = some t → t < n := by
        intro t ht
        simp [cDst, ht] at hd; exact hd
      simp only at h
      split at h
      · rename_i hg
        cases h
        exact ⟨hs, rfl, hd', rfl, .inl ⟨hg, rfl⟩⟩
      · rename_i j want hg
        split at h
        · rename_i t ht
          split at h
          · rename_i hlt
            cases h
            rw [Option.bind_eq_some_iff] at ht
            obtain ⟨o', h1, h2⟩ := ht
            exact ⟨hs, rfl, hd', rfl, .inr ⟨j, want, o', t, hg, h1, h2, hlt, rfl⟩⟩
          · cases h
        · cases h

theorem wantd_ok {ops : Array Oper} {o : Oper} {so : SOper} (h : cOper P n ops o = some so) {b : Bool} (hw : wantd so.guard fr = some b)
    (hsz : a.tmps.size = n) (hv : ∀ t want, so.guard = some (t, want) → VR φ (fr.get t) (a.tmps.getD t Go.undef)) : Region.wanted o (yielded ops a.tmps) = b := by
  obtain ⟨_, _, _, _, hg⟩ := cOper_ok h
  rcases hg with ⟨h1, h2⟩ | ⟨j, want, o', t, h1, h2, h3, h4, h5⟩
  · rw [h2] at hw
    simp only [wantd, Option.some.injEq] at hw
    subst hw
    simp [Region.wanted, h1]
  · rw [h5] at hw
    have hvr := hv t want h5
    simp only [wantd] at hw
    have hlt : t < a.tmps.size := by rw [hsz]; exact h4
    have hget : a.tmps[t]? = some (a.tmps.getD t Go.undef) := by simp [Array.getD_eq_getD_getElem?, hlt]
    have hy : yielded ops a.tmps j = match a.tmps.getD t Go.undef with | .bool b => some b | _ => none := by
      simp only [yielded, h2, Option.bind_some, h3, hget]
      cases a.tmps.getD t Go.undef <;> rfl
    generalize a.tmps.getD t Go.undef = cv at hvr hy
    split at hw
    · rename_i c hc
      rw [hc] at hvr
      cases hvr
      cases hw
      simp only [Region.wanted, h1, hy]
      cases c <;> cases want <;> rfl
    · rename_i l hc
      rw [hc] at hvr
      cases hvr
      cases hw
      simp [Region.wanted, h1, hy]
    · cases hw

theorem cOp_call {op : Op} {f : Opd} {args : List Opd} (h : cOp P n op = some (.call f args)) : ∃ c, op = .call c ∧ ((∃ F, c.callee = .value F ∧ cOpd n F = some f ∧ cOpds n c.args.toList = some args) ∨ ∃ t m ts, c.callee = .invoke (.tmp t) m ∧ tmpsOf n c.args.toList = some ts ∧ t < n ∧ f = .meth (meths P m) t ts ∧ args = []) := by
  cases op
  case call c =>
    obtain ⟨callee, as, ts⟩ := c
    simp only [cOp, cCall] at h
    cases callee with
    | value F =>
      simp only at h
      split at h
      · rename_i x y h1 h2
        cases h
        exact ⟨_, rfl, .inl ⟨F, rfl, h1, h2⟩⟩
      · cases h
    | invoke r m =>
      simp only [Option.some.injEq] at h
      rcases cInvoke_or P n r m as.toList with e | ⟨t, ts, hr, hts, ht, e⟩ <;> rw [e] at h <;> cases h
      subst hr
      exact ⟨_, rfl, .inr ⟨t, m, ts, rfl, hts, ht, rfl, rfl⟩⟩
    | builtin b =>
      simp only at h
      repeat' split at h
      all_goals first
        | (cases h; done)
        | (rw [Option.map_eq_some_iff] at h; obtain ⟨_, _, h⟩ := h; cases h; done)
  all_goals
    simp only [cOp] at h
    repeat' split at h
    all_goals first
      | (cases h; done)
      | (rename_i heq; cases heq; done)
      | (rename_i heq _; cases heq; done)
      | (rw [Option.map_eq_some_iff] at h; obtain ⟨_, _, h⟩ := h; cases h; done)

theorem lookup_mem {T g : Nat} : ∀ {l : List (Nat × Nat)}, l.lookup T = some g → (T, g) ∈ l
  | [], h => by cases h
  | (a, b) :: l, h => by
    simp only [List.lookup] at h
    split at h
    · rename_i e; cases h; have := eq_of_beq e; subst this; exact List.mem_cons_self ..
    · exact List.mem_cons_of_mem _ (lookup_mem h)
theorem meths_ok {name : String} {T g : Nat} (h : (meths P name).lookup T = some g) : ∃ ti d m, P.info? T = some ti ∧ P.underlying T = some d ∧ ti.methods.find? (·.name == name) = some m ∧ m.func = some (g, false) ∧ m.path.toList = [] ∧ noPtr d = true := by
  have hm := lookup_mem h
  simp only [meths, List.mem_filterMap] at hm
  obtain ⟨T', _, hm⟩ := hm
  simp only [methOf] at hm
  split at hm
  · rename_i ti d h1 h2
    split at hm
    · rename_i m h3
      split at hm
      · rename_i f h4
        split at hm
        · rename_i h5
          simp only [Bool.and_eq_true, List.isEmpty_iff] at h5
          cases hm
          exact ⟨ti, d, m, h1, h2, h3, h4, h5.1, h5.2⟩
        · cases hm
      · cases hm
    · cases hm
  · cases hm
theorem tmps_VRs (hf : FR φ n fr a) : ∀ {l : List Operand} {ts : List Nat}, tmpsOf n l = some ts → VRs φ (ts.map fr.get) (l.map a.eval)
  | [], _, h => by cases h; exact .nil
  | .tmp t :: l, _, h => by
    simp only [tmpsOf] at h
    split at h
    · rename_i ht
      rw [Option.map_eq_some_iff] at h
      obtain ⟨ts, h1, rfl⟩ := h
      exact .cons (hf.tmps t ht) (tmps_VRs hf h1)
    · cases h
  | .const _ :: l, _, h => by cases h
  | .func _ :: l, _, h => by cases h
  | .global _ :: l, _, h => by cases h
theorem invoke_does {fr' : Frame} (hf : FR φ n fr' a) (hr : Rel φ σ w) {c : Call} {t : Nat} {m : String} {ts : List Nat} (hcal : c.callee = .invoke (.tmp t) m) (hts : tmpsOf n c.args.toList = some ts) (ht : t < n) {g : FuncId} {caps : List AVal}
    (hx : Opd.ev fr' (.meth (meths P m) t ts) = .fn g caps) {v : AVal} (hd : ACall P g (evs fr' [] ++ caps) σ v σ') {dst : Option Tmp} {type : TypeId} {pos : String} {after : Array Edge} {guard : Option (Nat × Bool)} {next : Act → World → Prop} {Q : Exit → Act → World → Prop}
    (hn : ∀ φ' v' w', φ.le φ' → VR φ' v v' → Rel φ' σ' w' → next (a.put dst v') w') : Oper.wp P { dst := dst, op := .call c, type := type, pos := pos, after := after, guard := guard } a w next Q := by
  obtain ⟨callee, as, tys⟩ := c
  simp only at hcal hts
  subst hcal
  simp only [Opd.ev] at hx
  split at hx
  · rename_i T u hg
    split at hx
    · rename_i g' hl
      simp only [AVal.fn.injEq] at hx
      obtain ⟨rfl, rfl⟩ := hx
      have hv := hf.tmps t ht
      rw [hg] at hv
      have hcv2 : a.eval (.tmp t) = .iface T u := by
        show a.tmps.getD t undef = _
        generalize a.tmps.getD t undef = z at hv
        cases hv; rfl
      obtain ⟨ti, d, mm, h1, h2, h3, h4, h5, h6⟩ := meths_ok hl
      have hvs := tmps_VRs hf hts
      have hm : (method (P.types.size + Made.depth) T u m).run P w = .ok (g', u) w := by
        have hsz : ∃ q, P.types.size + Made.depth = q + 1 := ⟨P.types.size + Made.depth - 1, by unfold Made.depth; omega⟩
        obtain ⟨q, hq⟩ := hsz
        rw [hq]
        cases d <;> first | (simp [noPtr] at h6; done) | simp [method, typeInfo, h1, h3, h4, h5, follow, receiverAt, run_underlying h2, Place.get]
      have hrun : (execOp a.eval { dst := dst, op := .call { callee := .invoke (.tmp t) m, args := as, argTypes := tys }, type, pos, after, guard }).run P w = (callFunc g' (u :: as.toList.map a.eval).toArray).run P w := by
        have h0 : (#[Value.iface T u] ++ as.map a.eval)[0]? = some (.iface T u) := by rw [Array.getElem?_append_left (by simp)]; rfl
        have h7 : (#[Value.iface T u] ++ as.map a.eval).extract 1 (#[Value.iface T u] ++ as.map a.eval).size = as.map a.eval := by
          apply Array.ext'
          simp
          exact List.take_of_length_le (by simp)
        have h8 : #[u] ++ as.map a.eval = (u :: as.toList.map a.eval).toArray := by apply Array.ext'; simp
        simp only [execOp, resolve, hcv2, pure_bind, invoke, h0, callMethod, h7, Sem.run_bind, run_program, Result.andThen_ok, hm, h8]
      unfold Oper.wp
      rw [hrun]
      exact hd φ w (u :: as.toList.map a.eval) (.cons (ofVal1_VR φ u) hvs) hr _ a next Q hn
    · cases hx
  · cases hx
theorem does_ok {o : Oper} {so : SOp} (hc : cOp P n o.op = some so) {fr' : Frame} (hf : FR φ n fr' a) (hr : Rel φ σ w) {v : AVal} (hd : Does P so fr' σ v σ') {next : Act → World → Prop} {Q : Exit → Act → World → Prop}
    (hn : ∀ φ' v' w', φ.le φ' → VR φ' v v' → Rel φ' σ' w' → next (a.put o.dst v') w') : o.wp P a w next Q := by
  unfold Does at hd
  split at hd
  · rename_i f args
    split at hd
    · rename_i g caps hx
      obtain ⟨dst, op, type, pos, after, guard⟩ := o
      obtain ⟨c, rfl, hcc⟩ := cOp_call hc
      rcases hcc with ⟨F, hcal, hF, has⟩ | ⟨t, m, ts, hcal, hts, ht, rfl, rfl⟩
      rotate_left
      · exact invoke_does hf hr hcal hts ht hx hd hn
      obtain ⟨callee, as, ts⟩ := c
      simp only at hcal has
      subst hcal
      have hv := cOpd_ok hF hf
      obtain ⟨vs, hvs, hvr⟩ := cOpds_map hf has
      rw [hx] at hv
      generalize hg : a.eval F = cv at hv
      cases hv with
      | @fn _ _ us hcaps =>
        have hrun : execOp a.eval { dst := dst, op := .call { callee := .value F, args := as, argTypes := ts }, type, pos, after, guard } = callFunc g (vs ++ us).toArray := by
          simp only [execOp, resolve, hg, Deferred.ofValue, hvs]
          simp only [pure_bind, invoke]
          congr 1
          apply Array.ext'
          simp
        unfold Oper.wp
        rw [hrun]
        exact hd φ w (vs ++ us) (hvr.append hcaps) hr _ a next Q hn
    · cases hd
  · rename_i hne
    obtain ⟨v', w', φ', h1, h2, h3, h4⟩ := aop_ok (o := o) hc hf hr hd
    unfold Oper.wp
    rcases h1 with h1 | ⟨h1, rfl⟩
    · rw [h1]; exact hn φ' v' w' h2 h3 h4
    · rw [h1]; exact hn φ' _ w' h2 h3 h4
theorem cOp_lay {op : Op} {so : SOp} (h : cOp P n op = some so) (k : Nat) : ¬ IsLay so k := by
  rintro (⟨zs, rfl⟩ | ⟨m, zs, len, parts, rfl⟩)
  all_goals
    cases op
    case call c =>
      obtain ⟨callee, as, ts⟩ := c
      simp only [cOp, cCall] at h
      cases callee with
      | value F =>
        simp only at h
        split at h
        · cases h
        · cases h
      | invoke r m =>
        simp only [Option.some.injEq] at h
        rcases cInvoke_or P n r m as.toList with e | ⟨t, ts, _, _, _, e⟩ <;> rw [e] at h <;> cases h
      | builtin b =>
        simp only at h
        repeat' split at h
        all_goals first
          | (cases h; done)
          | (rw [Option.map_eq_some_iff] at h; obtain ⟨_, _, h⟩ := h; cases h; done)
    all_goals
      simp only [cOp] at h
      repeat' split at h
      all_goals first
        | (cases h; done)
        | (rename_i heq; cases heq; done)
        | (rename_i heq _; cases heq; done)
        | (rw [Option.map_eq_some_iff] at h; obtain ⟨_, _, h⟩ := h; cases h; done)
theorem lay_does {o : Oper} {zs : List AVal} {k : Nat} (hc : cOp P n o.op = some (.alloc zs)) (hr : Rel φ σ w) (hk : φ.res k) (hg : σ.get k = some (.cells zs none)) {next : Act → World → Prop} {Q : Exit → Act → World → Prop}
    (hn : ∀ (φ' : Phi) v' w', φ.sub φ' → (∀ j, φ'.res j ↔ (φ.res j ∧ j ≠ k)) → VR φ' (.ptr (.new k) 0) v' → Rel φ' σ w' → next (a.put o.dst v') w') : o.wp P a w next Q := by
  obtain ⟨dst, op, type, pos, after, guard⟩ := o
  simp only at hc
  cases op
  case alloc t =>
    simp only [cOp, Option.map_eq_some_iff] at hc
    obtain ⟨z, hz, he⟩ := hc
    split at he
    · cases he
    cases he
    obtain ⟨v, w', φ', h1, h2, h3, h4, h5⟩ := lay_ok hz hr hk hg
    unfold Oper.wp
    have : (execOp a.eval { dst := dst, op := .alloc t, type := type, pos := pos, after := after, guard := guard }).run P w = .ok (.value v) w' := by
      simp only [execOp]
      simp [h1]
    rw [this]
    exact hn φ' v w' h2 h3 h4 h5
  case call c =>
    exfalso
    obtain ⟨callee, as, ts⟩ := c
    simp only [cOp, cCall] at hc
    cases callee with
    | value F =>
      simp only at hc
      split at hc
      · cases hc
      · cases hc
    | invoke r m =>
      simp only [Option.some.injEq] at hc
      rcases cInvoke_or P n r m as.toList with e | ⟨t, ts, _, _, _, e⟩ <;> rw [e] at hc <;> cases hc
    | builtin b =>
      simp only at hc
      repeat' split at hc
      all_goals first
        | (cases hc; done)
        | (rw [Option.map_eq_some_iff] at hc; obtain ⟨_, _, hc⟩ := hc; cases hc; done)
  all_goals
    exfalso
    simp only [cOp] at hc
    repeat' split at hc
    all_goals first
      | (cases hc; done)
      | (rename_i heq; cases heq; done)
      | (rename_i heq _; cases heq; done)
      | (rw [Option.map_eq_some_iff] at hc; obtain ⟨_, _, hc⟩ := hc; cases hc; done)
theorem layB_does {o : Oper} {zs : List AVal} {k len q : Nat} {pl : List (Nat × Nat × Opd)} {cs : List AVal} (hc : cOp P n o.op = some (.bslc k zs len pl)) (hf : FR φ n fr a) (hr : Rel φ σ w) (hq : φ.res q) (hg : σ.get q = some (.cells cs none))
    (hfill : aFill (repl len zs) (evParts fr pl) = some cs) (hcs : cs.length = len * k) {next : Act → World → Prop} {Q : Exit → Act → World → Prop}
    (hn : ∀ (φ' : Phi) v' w', φ.sub φ' → (∀ j, φ'.res j ↔ (φ.res j ∧ j ≠ q)) → VR φ' (.slc (.new q) 0 len (.ex len)) v' → Rel φ' σ w' → next (a.put o.dst v') w') : o.wp P a w next Q := by
  obtain ⟨dst, op, type, pos, after, guard⟩ := o
  simp only at hc
  cases op
  case buildSlice t l parts =>
    simp only [cOp] at hc
    split at hc
    · rename_i e hu
      split at hc
      · rename_i ti hti
        split at hc
        · rename_i z hz
          split at hc
          · rename_i hcond
            simp only [Bool.and_eq_true, decide_eq_true_eq] at hcond
            rw [Option.map_eq_some_iff] at hc
            obtain ⟨p, hp, he⟩ := hc
            cases he
            obtain ⟨v, w', φ', h1, h2, h3, h4, h5⟩ := layB_ok (P := P) (w := w) hu hti hz hcond.1 hcond.2 hp hf hfill hcs hr hq hg
            unfold Oper.wp
            have hmap : (parts.map fun (i, x) => (i, a.eval x)) = (parts.toList.map fun (i, x) => (i, a.eval x)).toArray := by apply Array.ext'; simp
            have : (execOp a.eval { dst := dst, op := .buildSlice t len parts, type := type, pos := pos, after := after, guard := guard }).run P w = .ok (.value v) w' := by
              simp only [execOp, hmap]
              simp [h1]
            rw [this]
            exact hn φ' v w' h2 h3 h4 h5
          · cases hc
        · cases hc
      · cases hc
    · cases hc
  case call c =>
    exfalso
    obtain ⟨callee, as, ts⟩ := c
    simp only [cOp, cCall] at hc
    cases callee with
    | value F =>
      simp only at hc
      split at hc
      · cases hc
      · cases hc
    | invoke r m =>
      simp only [Option.some.injEq] at hc
      rcases cInvoke_or P n r m as.toList with e | ⟨t, ts, _, _, _, e⟩ <;> rw [e] at hc <;> cases hc
    | builtin b =>
      simp only at hc
      repeat' split at hc
      all_goals first
        | (cases hc; done)
        | (rw [Option.map_eq_some_iff] at hc; obtain ⟨_, _, hc⟩ := hc; cases hc; done)
  all_goals
    exfalso
    simp only [cOp] at hc
    repeat' split at hc
    all_goals first
      | contradiction
      | (cases hc; done)
      | (rename_i heq; cases heq; done)
      | (rename_i heq _; cases heq; done)
      | (rw [Option.map_eq_some_iff] at hc; obtain ⟨_, _, hc⟩ := hc; cases hc; done)
theorem layM_does {o : Oper} {zs : List AVal} {k by' len q : Nat} (hc : cOp P n o.op = some (.mslc k by' zs (.lit (.int .i64 (len : Nat))) (.lit (.int .i64 (len : Nat))))) (hf : FR φ n fr a) (hr : Rel φ σ w) (hq : φ.res q) (hg : σ.get q = some (.cells (repl len zs) none))
    (h2 : len * by' ≤ maxRoom) (h3 : (len : Int) ≤ 2 ^ 62) {next : Act → World → Prop} {Q : Exit → Act → World → Prop}
    (hn : ∀ (φ' : Phi) v' w', φ.sub φ' → (∀ j, φ'.res j ↔ (φ.res j ∧ j ≠ q)) → VR φ' (.slc (.new q) 0 len (.ex len)) v' → Rel φ' σ w' → next (a.put o.dst v') w') : o.wp P a w next Q := by
  obtain ⟨dst, op, type, pos, after, guard⟩ := o
  simp only at hc
  cases op
  case makeSlice t l c =>
    simp only [cOp] at hc
    split at hc
    · rename_i e l' c' hu hl hcc
      split at hc
      · rename_i ti hti
        split at hc
        · rename_i z hz
          split at hc
          · rename_i hzs
            cases hc
            have hv := cOpd_ok hl hf
            have hv' := cOpd_ok hcc hf
            obtain ⟨v, w', φ', g1, g2, g3, g4, g5⟩ := layM_ok (P := P) (w := w) hu hti hz hzs hv hv' h2 h3 hr hq hg
            unfold Oper.wp
            have : (execOp a.eval { dst := dst, op := .makeSlice t l c, type := type, pos := pos, after := after, guard := guard }).run P w = .ok (.value v) w' := by
              simp only [execOp]
              simp [g1]
            rw [this]
            exact hn φ' v w' g2 g3 g4 g5
          · cases hc
        · cases hc
      · cases hc
    · cases hc
  case call c =>
    exfalso
    obtain ⟨callee, as, ts⟩ := c
    simp only [cOp, cCall] at hc
    cases callee with
    | value F =>
      simp only at hc
      split at hc
      · cases hc
      · cases hc
    | invoke r m =>
      simp only [Option.some.injEq] at hc
      rcases cInvoke_or P n r m as.toList with e | ⟨t, ts, _, _, _, e⟩ <;> rw [e] at hc <;> cases hc
    | builtin b =>
      simp only at hc
      repeat' split at hc
      all_goals first
        | (cases hc; done)
        | (rw [Option.map_eq_some_iff] at hc; obtain ⟨_, _, hc⟩ := hc; cases hc; done)
  all_goals
    exfalso
    simp only [cOp] at hc
    repeat' split at hc
    all_goals first
      | contradiction
      | (cases hc; done)
      | (rename_i heq; cases heq; done)
      | (rename_i heq _; cases heq; done)
      | (rw [Option.map_eq_some_iff] at hc; obtain ⟨_, _, hc⟩ := hc; cases hc; done)
end
end Go.Mini

