/- The abstract machine: values, heaps, codes, its operations against the model's, their evaluation. No condition. -/
import Derived.Test.YtmfeoicoegfpeaaGreatMA
import Derived.Below
import Derived.ChangeArms
import Derived.ChangeReads
import Derived.Shelf.Strings.Builder1
import Derived.Shelf.SlMaps.Clone
import Derived.Shelf.SlIterI.Nil
import Derived.Shelf.SlIterI.Sorted
import Derived.Laws.IdiomRangeMap
set_option linter.unusedSimpArgs false
set_option linter.unusedVariables false
set_option maxRecDepth 100000
namespace Go.Mini
open Go

theorem ev_congr {fr fr' : Frame} {x : Opd} (h : ∀ t ∈ x.tmps, fr.get t = fr'.get t) : x.ev fr = x.ev fr' := by
  cases x with
  | tmp t => exact h t (List.mem_cons_self ..)
  | lit a => rfl
  | meth tbl t ts =>
    have h2 : ts.map fr.get = ts.map fr'.get := List.map_congr_left fun s hs => h s (List.mem_cons_of_mem _ hs)
    simp only [Opd.ev, h t (List.mem_cons_self ..), h2]
theorem evO_congr {fr fr' : Frame} {x : Option Opd} (h : ∀ t ∈ oTmps x, fr.get t = fr'.get t) : evO fr x = evO fr' x := by
  cases x with
  | none => rfl
  | some x => simp only [evO, Option.map_some]; rw [ev_congr h]
theorem evs_congr {fr fr' : Frame} : ∀ {l : List Opd}, (∀ t ∈ lTmps l, fr.get t = fr'.get t) → evs fr l = evs fr' l
  | [], _ => rfl
  | x :: l, h => by
    simp only [lTmps, List.flatMap_cons, List.mem_append] at h
    show x.ev fr :: evs fr l = x.ev fr' :: evs fr' l
    rw [ev_congr fun t ht => h t (.inl ht), evs_congr fun t ht => h t (.inr ht)]
theorem evParts_congr {fr fr' : Frame} : ∀ {l : List (Nat × Nat × Opd)}, (∀ t ∈ pTmps l, fr.get t = fr'.get t) → evParts fr l = evParts fr' l
  | [], _ => rfl
  | (i, j, x) :: l, h => by
    simp only [pTmps, List.flatMap_cons, List.mem_append] at h
    show (i, j, x.ev fr) :: evParts fr l = (i, j, x.ev fr') :: evParts fr' l
    rw [ev_congr fun t ht => h t (.inl ht), evParts_congr fun t ht => h t (.inr ht)]

theorem aop_congr {o : SOp} {fr fr' : Frame} (h : ∀ t ∈ o.tmps, fr.get t = fr'.get t) (σ : Heap) : aop o fr σ = aop o fr' σ := by
  cases o <;> simp only [SOp.tmps, List.mem_append] at h <;> simp only [aop] <;> first
    | rfl
    | (rw [ev_congr h]; done)
    | (rw [evs_congr h]; done)
    | (rw [evParts_congr h]; done)
    | (rw [ev_congr fun t ht => h t (.inl ht), ev_congr fun t ht => h t (.inr ht)]; done)
    | (rw [ev_congr fun t ht => h t (.inl ht), evs_congr fun t ht => h t (.inr ht)]; done)
    | (rw [ev_congr fun t ht => h t (.inl (.inl ht)), ev_congr fun t ht => h t (.inl (.inr ht)), ev_congr fun t ht => h t (.inr ht)]; done)
    | (rw [ev_congr fun t ht => h t (.inl (.inl ht)), evO_congr fun t ht => h t (.inl (.inr ht)), evO_congr fun t ht => h t (.inr ht)]; done)
    | (rw [ev_congr fun t ht => h t (.inl (.inl (.inl ht))), evO_congr fun t ht => h t (.inl (.inl (.inr ht))), evO_congr fun t ht => h t (.inl (.inr ht)), evO_congr fun t ht => h t (.inr ht)]; done)
theorem does_congr {P : Program} {o : SOp} {fr fr' : Frame} (h : ∀ t ∈ o.tmps, fr.get t = fr'.get t) {σ σ' : Heap} {v : AVal} (hd : Does P o fr σ v σ') : Does P o fr' σ v σ' := by
  cases o
  case call f l =>
    simp only [SOp.tmps, List.mem_append] at h
    simp only [Does] at hd ⊢
    rw [← ev_congr fun t ht => h t (.inl ht), ← evs_congr fun t ht => h t (.inr ht)]; exact hd
  all_goals (simp only [Does] at hd ⊢; rw [← aop_congr h]; exact hd)
theorem wantd_congr {g : Option (Nat × Bool)} {fr fr' : Frame} (h : ∀ t w, g = some (t, w) → fr.get t = fr'.get t) : wantd g fr = wantd g fr' := by
  cases g with
  | none => rfl
  | some p => obtain ⟨t, w⟩ := p; simp only [wantd, h t w rfl]

theorem aop_pure {o : SOp} (hk : o.kind = .pure) {fr : Frame} {σ σ' : Heap} {v : AVal} (h : aop o fr σ = some (v, σ')) (τ : Heap) : σ' = σ ∧ aop o fr τ = some (v, τ) := by
  cases o <;> simp only [SOp.kind] at hk <;> try (cases hk; done)
  all_goals simp only [aop] at h ⊢
  all_goals first
    | (cases h; done)
    | (cases h; exact ⟨rfl, rfl⟩)
    | (simp only [Option.map_eq_some_iff] at h ⊢; obtain ⟨z, hz, h⟩ := h; cases h; exact ⟨rfl, _, hz, rfl⟩)
    | (split at h <;> first | (cases h; exact ⟨rfl, rfl⟩) | (cases h; done) | (simp only [Option.map_eq_some_iff] at h ⊢; obtain ⟨z, hz, h⟩ := h; cases h; exact ⟨rfl, _, hz, rfl⟩))
theorem aop_read {o : SOp} (hk : o.kind = .read) {fr : Frame} {σ σ' : Heap} {v : AVal} (h : aop o fr σ = some (v, σ')) : σ' = σ := by
  cases o <;> simp only [SOp.kind] at hk <;> try (cases hk; done)
  case lay =>
    simp only [aop] at h
    split at h
    · split at h
      · cases h; rfl
      · cases h
    · cases h
  case layB =>
    simp only [aop] at h
    split at h
    · split at h
      · split at h
        · cases h; rfl
        · cases h
      · cases h
    · cases h
  all_goals
    simp only [aop, Option.map_eq_some_iff] at h
    obtain ⟨z, hz, h⟩ := h; cases h; rfl

structure Ev where
  i : Nat
  o : SOp
  fr : Frame
  v : AVal
  σ : Heap

section
variable (P : Program)
def drawwp (tab : List Nat) : Nat → List SOper → List Ev → (Frame → Heap → Prop) → Frame → Heap → Prop
  | _, [], _, K, fr, σ => K fr σ
  | i, o :: os, past, K, fr, σ => match wantd o.guard fr with
    | none => False
    | some false => drawwp tab (i + 1) os past K (fr.putO o.dst .undef) σ
    | some true => match o.op.kind with
      | .pure => match aop o.op fr σ with
        | some (v, _) => drawwp tab (i + 1) os past K (fr.putO o.dst v) σ
        | none => False
      | .read => match aop o.op fr σ with
        | some (v, _) => (∀ e ∈ past, isEff e.o = true → bef tab i e.i = false → aop o.op fr e.σ = some (v, e.σ)) ∧
            drawwp tab (i + 1) os (⟨i, o.op, fr, v, σ⟩ :: past) K (fr.putO o.dst v) σ
        | none => False
      | .eff => opwp P o.op fr σ fun v σ' => (∀ e ∈ past, isEff e.o = false → bef tab i e.i = false → aop e.o e.fr σ' = some (e.v, σ')) ∧
          drawwp tab (i + 1) os (⟨i, o.op, fr, v, σ⟩ :: past) K (fr.putO o.dst v) σ'
end

structure Met where
  fr : Frame
  σ : Heap
  w : Bool
  v : AVal
structure Trace (P : Program) (tab : List Nat) (i0 : Nat) (ops : List SOper) (T : Nat → Met) : Prop where
  wanted : ∀ i o, ops[i]? = some o → wantd o.guard (T i).fr = some (T i).w
  next : ∀ i o, ops[i]? = some o → (T (i + 1)).fr = (T i).fr.putO o.dst (T i).v
  skip : ∀ i o, ops[i]? = some o → (T i).w = false → (T i).v = .undef ∧ (T (i + 1)).σ = (T i).σ
  quiet : ∀ i o, ops[i]? = some o → (T i).w = true → isEff o.op = false → aop o.op (T i).fr (T i).σ = some ((T i).v, (T i).σ) ∧ (T (i + 1)).σ = (T i).σ
  loud : ∀ i o, ops[i]? = some o → (T i).w = true → isEff o.op = true → Does P o.op (T i).fr (T i).σ (T i).v (T (i + 1)).σ
  behind : ∀ i j x y, ops[i]? = some x → ops[j]? = some y → j < i → (T i).w = true → (T j).w = true → x.op.kind = .read → isEff y.op = true → bef tab (i0 + i) (i0 + j) = false → aop x.op (T i).fr (T j).σ = some ((T i).v, (T j).σ)
  ahead : ∀ i j x y, ops[i]? = some x → ops[j]? = some y → i < j → (T i).w = true → (T j).w = true → x.op.kind = .read → isEff y.op = true → bef tab (i0 + j) (i0 + i) = false → aop x.op (T i).fr (T (j + 1)).σ = some ((T i).v, (T (j + 1)).σ)

theorem isEff_kind {o : SOp} : isEff o = true ↔ o.kind = .eff := by
  unfold isEff; cases o.kind <;> simp

theorem trace_of {P : Program} {tab : List Nat} {K : Frame → Heap → Prop} : ∀ (ops : List SOper) (i0 : Nat) (past : List Ev) (fr : Frame) (σ : Heap), drawwp P tab i0 ops past K fr σ →
    ∃ T : Nat → Met, Trace P tab i0 ops T ∧ (T 0).fr = fr ∧ (T 0).σ = σ ∧ K (T ops.length).fr (T ops.length).σ ∧
      (∀ e ∈ past, isEff e.o = true → ∀ i x, ops[i]? = some x → (T i).w = true → x.op.kind = .read → bef tab (i0 + i) e.i = false → aop x.op (T i).fr e.σ = some ((T i).v, e.σ)) ∧
      (∀ e ∈ past, isEff e.o = false → ∀ i x, ops[i]? = some x → (T i).w = true → isEff x.op = true → bef tab (i0 + i) e.i = false → aop e.o e.fr (T (i + 1)).σ = some (e.v, (T (i + 1)).σ)) := by
  intro ops
  induction ops with
  | nil =>
    intro i0 past fr σ h
    exact ⟨fun _ => ⟨fr, σ, false, .undef⟩, ⟨by simp, by simp, by simp, by simp, by simp, by simp, by simp⟩, rfl, rfl, h, by simp, by simp⟩
  | cons o os ih =>
    intro i0 past fr σ h
    have step : ∀ (b : Bool) (v : AVal) (σ' : Heap) (past' : List Ev), wantd o.guard fr = some b → drawwp P tab (i0 + 1) os past' K (fr.putO o.dst v) σ' →
        (b = false → v = .undef ∧ σ' = σ) → (b = true → isEff o.op = false → aop o.op fr σ = some (v, σ) ∧ σ' = σ) → (b = true → isEff o.op = true → Does P o.op fr σ v σ') →
        (∀ e ∈ past, e ∈ past') → (b = true → o.op.kind ≠ .pure → (⟨i0, o.op, fr, v, σ⟩ : Ev) ∈ past') →
        (∀ e ∈ past, isEff e.o = true → b = true → o.op.kind = .read → bef tab i0 e.i = false → aop o.op fr e.σ = some (v, e.σ)) →
        (∀ e ∈ past, isEff e.o = false → b = true → isEff o.op = true → bef tab i0 e.i = false → aop e.o e.fr σ' = some (e.v, σ')) →
        ∃ T : Nat → Met, Trace P tab i0 (o :: os) T ∧ (T 0).fr = fr ∧ (T 0).σ = σ ∧ K (T (o :: os).length).fr (T (o :: os).length).σ ∧
          (∀ e ∈ past, isEff e.o = true → ∀ i x, (o :: os)[i]? = some x → (T i).w = true → x.op.kind = .read → bef tab (i0 + i) e.i = false → aop x.op (T i).fr e.σ = some ((T i).v, e.σ)) ∧
          (∀ e ∈ past, isEff e.o = false → ∀ i x, (o :: os)[i]? = some x → (T i).w = true → isEff x.op = true → bef tab (i0 + i) e.i = false → aop e.o e.fr (T (i + 1)).σ = some (e.v, (T (i + 1)).σ)) := by
      intro b v σ' past' hb hd hs hq hl hin hin' hpe hpr
      obtain ⟨T, hT, h1, h2, h3, h4, h5⟩ := ih (i0 + 1) past' _ _ hd
      have sh : ∀ i, i0 + 1 + i = i0 + (i + 1) := by intro i; omega
      refine ⟨fun i => match i with | 0 => ⟨fr, σ, b, v⟩ | i + 1 => T i, ⟨?_, ?_, ?_, ?_, ?_, ?_, ?_⟩, rfl, rfl, h3, ?_, ?_⟩
      · intro i x hx
        cases i with
        | zero => simp at hx; subst hx; exact hb
        | succ i => exact hT.wanted i x (by simpa using hx)
      · intro i x hx
        cases i with
        | zero => simp at hx; subst hx; exact h1
        | succ i => exact hT.next i x (by simpa using hx)
      · intro i x hx
        cases i with
        | zero => simp at hx; subst hx; intro hw; exact ⟨(hs hw).1, h2.trans (hs hw).2⟩
        | succ i => exact hT.skip i x (by simpa using hx)
      · intro i x hx
        cases i with
        | zero => simp at hx; subst hx; intro hw he; exact ⟨(hq hw he).1, h2.trans (hq hw he).2⟩
        | succ i => exact hT.quiet i x (by simpa using hx)
      · intro i x hx
        cases i with
        | zero => simp at hx; subst hx; intro hw he; have := hl hw he; show Does P _ _ _ _ (T 0).σ; rw [h2]; exact this
        | succ i => exact hT.loud i x (by simpa using hx)
      · intro i j x y hx hy hij hwi hwj hk he hbf
        cases i with
        | zero => omega
        | succ i =>
          have hx : os[i]? = some x := by simpa using hx
          cases j with
          | zero =>
            simp at hy; subst hy
            exact h4 ⟨i0, o.op, fr, v, σ⟩ (hin' hwj (by rw [isEff_kind.1 he]; intro h; cases h)) he i x hx hwi hk (by rw [sh]; exact hbf)
          | succ j => exact hT.behind i j x y hx (by simpa using hy) (by omega) hwi hwj hk he (by rw [sh, sh]; exact hbf)
      · intro i j x y hx hy hij hwi hwj hk he hbf
        cases j with
        | zero => omega
        | succ j =>
          have hy : os[j]? = some y := by simpa using hy
          cases i with
          | zero =>
            simp at hx; subst hx
            exact h5 ⟨i0, o.op, fr, v, σ⟩ (hin' hwi (by rw [hk]; intro h; cases h)) (by unfold isEff; rw [hk]) j y hy hwj he (by rw [sh]; exact hbf)
          | succ i => exact hT.ahead i j x y (by simpa using hx) hy (by omega) hwi hwj hk he (by rw [sh, sh]; exact hbf)
      · intro e he hee i x hx hw hk hbf
        cases i with
        | zero => simp at hx; subst hx; exact hpe e he hee hw hk hbf
        | succ i => exact h4 e (hin e he) hee i x (by simpa using hx) hw hk (by rw [sh]; exact hbf)
      · intro e he hee i x hx hw hk hbf
        cases i with
        | zero => simp at hx; subst hx; show aop e.o e.fr (T 0).σ = some (e.v, (T 0).σ); rw [h2]; exact hpr e he hee hw hk hbf
        | succ i => exact h5 e (hin e he) hee i x (by simpa using hx) hw hk (by rw [sh]; exact hbf)
    simp only [drawwp] at h
    split at h
    · cases h
    · rename_i hw
      exact step false .undef σ past hw h (fun _ => ⟨rfl, rfl⟩) (fun h => by cases h) (fun h => by cases h) (fun e he => he) (fun h => by cases h) (fun _ _ _ h => by cases h) (fun _ _ _ h => by cases h)
    · rename_i hw
      split at h
      · rename_i hk
        have hne : isEff o.op = false := by unfold isEff; rw [hk]
        split at h
        · rename_i v σ' ha
          have := aop_pure hk ha σ
          exact step true v σ past hw h (fun h => by cases h) (fun _ _ => ⟨this.2, rfl⟩) (fun _ h => by rw [hne] at h; cases h) (fun e he => he) (fun _ h => absurd hk h)
            (fun _ _ _ _ h => by rw [hk] at h; cases h) (fun _ _ _ _ h => by rw [hne] at h; cases h)
        · cases h
      · rename_i hk
        have hne : isEff o.op = false := by unfold isEff; rw [hk]
        split at h
        · rename_i v σ' ha
          have hσ := aop_read hk ha
          subst hσ
          exact step true v σ' _ hw h.2 (fun h => by cases h) (fun _ _ => ⟨ha, rfl⟩) (fun _ h => by rw [hne] at h; cases h) (fun e he => List.mem_cons_of_mem _ he) (fun _ _ => List.mem_cons_self ..)
            (fun e he hee _ _ hbf => h.1 e he hee hbf) (fun _ _ _ _ h => by rw [hne] at h; cases h)
        · cases h
      · rename_i hk
        have hne : isEff o.op = true := isEff_kind.2 hk
        obtain ⟨v, σ', hd, h1, h2⟩ := opwp_does h
        exact step true v σ' _ hw h2 (fun h => by cases h) (fun _ h => by rw [hne] at h; cases h) (fun _ _ => hd) (fun e he => List.mem_cons_of_mem _ he) (fun _ _ => List.mem_cons_self ..)
          (fun _ _ _ _ h => by rw [hk] at h; cases h) (fun e he hee _ _ hbf => h1 e he hee hbf)
section
variable {P : Program} {n : Nat}

theorem cOpers_get {ops : Array Oper} : ∀ {l : List Oper} {r : List SOper}, cOpers P n ops l = some r → l.length = r.length ∧ ∀ (i : Nat) (o : Oper) (so : SOper), l[i]? = some o → r[i]? = some so → cOper P n ops o = some so
  | [], r, h => by cases h; exact ⟨rfl, by simp⟩
  | o :: l, r, h => by
    simp only [cOpers] at h
    split at h
    · rename_i a q h1 h2
      cases h
      obtain ⟨e, g⟩ := cOpers_get h2
      refine ⟨by simp [e], ?_⟩
      intro i x y hx hy
      cases i with
      | zero => simp at hx hy; subst hx; subst hy; exact h1
      | succ i => exact g i x y (by simpa using hx) (by simpa using hy)
    · cases h

def Closed (sops : List SOper) (S : Nat → Prop) : Prop := ∀ (i : Nat) (so : SOper), sops[i]? = some so → S i → ∀ k ∈ so.after, S k
def Leads (sops : List SOper) (i j : Nat) : Prop := ∀ S, Closed sops S → (∀ so, sops[i]? = some so → ∀ k ∈ so.after, S k) → S j

theorem ancs_leads (sops : List SOper) : ∀ (os : List SOper) (acc : List Nat), (∀ k : Nat, os[k]? = sops[acc.length + k]?) → (∀ i j, (acc.getD i 0).testBit j = true → Leads sops i j) →
    ∀ i j, ((ancsFrom acc os).getD i 0).testBit j = true → Leads sops i j := by
  intro os
  induction os with
  | nil => intro acc _ h; exact h
  | cons o os ih =>
    intro acc hs h
    simp only [ancsFrom]
    have h0 : sops[acc.length]? = some o := by have := hs 0; simpa using this.symm
    refine ih _ ?_ ?_
    · intro k
      have := hs (k + 1)
      simp only [List.getElem?_cons_succ] at this
      rw [this]; simp only [List.length_append, List.length_cons, List.length_nil]
      congr 1; omega
    · intro i j hj
      by_cases hi : i < acc.length
      · have : (acc ++ [ancOf acc o.after]).getD i 0 = acc.getD i 0 := by
          simp [List.getD_eq_getElem?_getD, List.getElem?_append_left hi]
        rw [this] at hj; exact h i j hj
      · by_cases hi2 : i = acc.length
        · subst hi2
          have : (acc ++ [ancOf acc o.after]).getD acc.length 0 = ancOf acc o.after := by
            simp [List.getD_eq_getElem?_getD]
          rw [this] at hj
          intro S hS ha
          rcases ancOf_bit acc o.after 0 j hj with hj | ⟨k, hk, rfl | hj⟩
          · simp at hj
          · exact ha o h0 k hk
          · have hSk := ha o h0 k hk
            exact h k j hj S hS (fun so hso q hq => hS k so hso hSk q hq)
        · have : (acc ++ [ancOf acc o.after]).getD i 0 = 0 := by
            rw [List.getD_eq_getElem?_getD, List.getElem?_eq_none (by simp; omega)]; rfl
          rw [this] at hj; simp at hj
theorem bef_leads {sops : List SOper} {i j : Nat} (h : bef (ancs sops) i j = true) : Leads sops i j := by
  refine ancs_leads sops sops [] (by simp) (by simp) i j ?_
  simpa [bef, ancs] using h

theorem drawOkFrom_pair {tab : List Nat} : ∀ (os past : List SOper) (k : Nat), drawOkFrom tab k past os = true → past.length = k →
    ∀ i j x y, j < i → k ≤ i → (past ++ os)[i]? = some x → (past ++ os)[j]? = some y → pairOk tab i j x y = true := by
  intro os
  induction os with
  | nil =>
    intro past k h hk i j x y hji hki hx hy
    rw [List.append_nil, List.getElem?_eq_none (by omega)] at hx; cases hx
  | cons o os ih =>
    intro past k h hk i j x y hji hki hx hy
    simp only [drawOkFrom, Bool.and_eq_true] at h
    by_cases hik : i = k
    · subst hik
      rw [List.getElem?_append_right (by omega), hk] at hx
      simp at hx
      subst hx
      rw [List.getElem?_append_left (by omega)] at hy
      have := h.1.2
      rw [List.all_eq_true] at this
      refine this (y, j) ?_
      rw [List.mem_zipIdx_iff_getElem?]
      exact hy
    · refine ih (past ++ [o]) (k + 1) h.2 (by simp [hk]) i j x y hji (by omega) (by simpa using hx) (by simpa using hy)
theorem drawOkFrom_after {tab : List Nat} : ∀ (os past : List SOper) (k : Nat), drawOkFrom tab k past os = true → ∀ i x, os[i]? = some x → ∀ j ∈ x.after, j < k + i := by
  intro os
  induction os with
  | nil => intro past k h i x hx; simp at hx
  | cons o os ih =>
    intro past k h i x hx j hj
    simp only [drawOkFrom, Bool.and_eq_true] at h
    cases i with
    | zero =>
      simp at hx; subst hx
      have := h.1.1
      rw [List.all_eq_true] at this
      simpa using this j hj
    | succ i =>
      have := ih _ _ h.2 i x (by simpa using hx) j hj
      omega

theorem exists_frame {C : Nat → AVal → Prop} : ∀ n : Nat, (∀ t, t < n → ∃ x, C t x) → ∃ fr : Frame, ∀ t, t < n → C t (fr.get t)
  | 0, _ => ⟨.nil, by intro t h; omega⟩
  | n + 1, h => by
    obtain ⟨fr, hfr⟩ := exists_frame n (fun t ht => h t (by omega))
    obtain ⟨x, hx⟩ := h n (by omega)
    refine ⟨fr.put n x, ?_⟩
    intro t ht
    rw [Frame.get_put]
    by_cases e : n = t
    · subst e; rw [if_pos rfl]; exact hx
    · rw [if_neg e]; exact hfr t (by omega)

def Cur (sops : List SOper) (T : Nat → Met) (fr : Frame) (L : Nat → Prop) (t : Nat) (x : AVal) : Prop :=
  (∃ (j : Nat) (y : SOper), sops[j]? = some y ∧ y.dst = some t ∧ L j ∧ x = (T j).v ∧ ∀ (k : Nat) (z : SOper), j < k → sops[k]? = some z → z.dst = some t → ¬ L k) ∨
  (x = fr.get t ∧ ∀ (k : Nat) (z : SOper), sops[k]? = some z → z.dst = some t → ¬ L k)

theorem get_putO (fr : Frame) (d : Option Nat) (v : AVal) (t : Nat) : (fr.putO d v).get t = if d = some t then v else fr.get t := by
  cases d with
  | none => simp [Frame.putO]
  | some s => simp only [Frame.putO, Frame.get_put, Option.some.injEq]

theorem fr_last {tab : List Nat} {sops : List SOper} {T : Nat → Met} (hT : Trace P tab 0 sops T) (t : Nat) : ∀ i, i ≤ sops.length →
    (∃ (j : Nat) (y : SOper), j < i ∧ sops[j]? = some y ∧ y.dst = some t ∧ (T i).fr.get t = (T j).v ∧ ∀ (k : Nat) (z : SOper), j < k → k < i → sops[k]? = some z → z.dst ≠ some t) ∨
    ((T i).fr.get t = (T 0).fr.get t ∧ ∀ (k : Nat) (z : SOper), k < i → sops[k]? = some z → z.dst ≠ some t) := by
  intro i
  induction i with
  | zero => intro _; exact .inr ⟨rfl, by intro k z h; omega⟩
  | succ i ih =>
    intro hi
    have hlt : i < sops.length := by omega
    have ho : sops[i]? = some sops[i] := List.getElem?_eq_getElem hlt
    have hn := hT.next i _ ho
    by_cases hd : sops[i].dst = some t
    · refine .inl ⟨i, sops[i], by omega, ho, hd, ?_, by intro k z h1 h2; omega⟩
      rw [hn, get_putO, if_pos hd]
    · rw [hn, get_putO, if_neg hd]
      rcases ih (by omega) with ⟨j, y, h1, h2, h3, h4, h5⟩ | ⟨h1, h2⟩
      · refine .inl ⟨j, y, by omega, h2, h3, h4, ?_⟩
        intro k z hk1 hk2 hz
        by_cases e : k = i
        · subst e; rw [ho] at hz; cases hz; exact hd
        · exact h5 k z hk1 (by omega) hz
      · refine .inr ⟨h1, ?_⟩
        intro k z hk hz
        by_cases e : k = i
        · subst e; rw [ho] at hz; cases hz; exact hd
        · exact h2 k z (by omega) hz

theorem cur_last {tab : List Nat} {sops : List SOper} {T : Nat → Met} (hT : Trace P tab 0 sops T) {L : Nat → Prop} {t i : Nat} (hi : i ≤ sops.length)
    (hL : ∀ (k : Nat) (z : SOper), sops[k]? = some z → z.dst = some t → (L k ↔ k < i)) {x : AVal} (hc : Cur sops T (T 0).fr L t x) : x = (T i).fr.get t := by
  rcases hc with ⟨j, y, h1, h2, h3, h4, h5⟩ | ⟨h1, h2⟩
  · have hj := (hL j y h1 h2).1 h3
    rcases fr_last hT t i hi with ⟨j', y', g1, g2, g3, g4, g5⟩ | ⟨g1, g2⟩
    · have : j = j' := by
        rcases Nat.lt_trichotomy j j' with h | h | h
        · exact absurd ((hL j' y' g2 g3).2 g1) (h5 j' y' h g2 g3)
        · exact h
        · exact absurd h2 (g5 j y h hj h1)
      subst this
      rw [h4, g4]
    · exact absurd h2 (g2 j y hj h1)
  · rcases fr_last hT t i hi with ⟨j', y', g1, g2, g3, g4, g5⟩ | ⟨g1, g2⟩
    · exact absurd ((hL j' y' g2 g3).2 g1) (h2 j' y' g2 g3)
    · rw [h1, g1]

theorem heap_same {tab : List Nat} {sops : List SOper} {T : Nat → Met} (hT : Trace P tab 0 sops T) {i : Nat} : ∀ j, i ≤ j → j ≤ sops.length →
    (∀ (k : Nat) (z : SOper), i ≤ k → k < j → sops[k]? = some z → (T k).w = true → isEff z.op = false) → (T j).σ = (T i).σ := by
  intro j
  induction j with
  | zero => intro h1 _ _; have : i = 0 := by omega
            subst this; rfl
  | succ j ih =>
    intro h1 h2 h
    by_cases e : i = j + 1
    · subst e; rfl
    · have hlt : j < sops.length := by omega
      have ho : sops[j]? = some sops[j] := List.getElem?_eq_getElem hlt
      rw [← ih (by omega) (by omega) (fun k z a b c d => h k z a (by omega) c d)]
      cases hw : (T j).w with
      | false => exact (hT.skip j _ ho hw).2
      | true => exact (hT.quiet j _ ho hw (h j _ (by omega) (by omega) ho hw)).2
theorem first_eff (sops : List SOper) (T : Nat → Met) (i : Nat) : ∀ j, i ≤ j → (∀ (k : Nat) (z : SOper), i ≤ k → k < j → sops[k]? = some z → (T k).w = true → isEff z.op = false) ∨
    ∃ (k : Nat) (z : SOper), i ≤ k ∧ k < j ∧ sops[k]? = some z ∧ (T k).w = true ∧ isEff z.op = true ∧ ∀ (q : Nat) (z' : SOper), i ≤ q → q < k → sops[q]? = some z' → (T q).w = true → isEff z'.op = false := by
  intro j
  induction j with
  | zero => intro _; exact .inl (by intro k z h1 h2; omega)
  | succ j ih =>
    intro h
    by_cases e : i = j + 1
    · subst e; exact .inl (by intro k z h1 h2; omega)
    · rcases ih (by omega) with h1 | ⟨k, z, h1, h2, h3, h4, h5, h6⟩
      · by_cases hj : ∃ z, sops[j]? = some z ∧ (T j).w = true ∧ isEff z.op = true
        · obtain ⟨z, g1, g2, g3⟩ := hj
          exact .inr ⟨j, z, by omega, by omega, g1, g2, g3, fun q z' a b c d => h1 q z' a b c d⟩
        · refine .inl ?_
          intro k z a b c d
          by_cases ek : k = j
          · subst ek
            cases he : isEff z.op with
            | false => rfl
            | true => exact absurd ⟨z, c, d, he⟩ hj
          · exact h1 k z a (by omega) c d
      · exact .inr ⟨k, z, h1, by omega, h3, h4, h5, h6⟩
theorem last_eff (sops : List SOper) (T : Nat → Met) (i : Nat) : ∀ j, i ≤ j → (∀ (k : Nat) (z : SOper), i ≤ k → k < j → sops[k]? = some z → (T k).w = true → isEff z.op = false) ∨
    ∃ (k : Nat) (z : SOper), i ≤ k ∧ k < j ∧ sops[k]? = some z ∧ (T k).w = true ∧ isEff z.op = true ∧ ∀ (q : Nat) (z' : SOper), k < q → q < j → sops[q]? = some z' → (T q).w = true → isEff z'.op = false := by
  intro j
  induction j with
  | zero => intro _; exact .inl (by intro k z h1 h2; omega)
  | succ j ih =>
    intro h
    by_cases e : i = j + 1
    · subst e; exact .inl (by intro k z h1 h2; omega)
    · by_cases hj : ∃ z, sops[j]? = some z ∧ (T j).w = true ∧ isEff z.op = true
      · obtain ⟨z, g1, g2, g3⟩ := hj
        exact .inr ⟨j, z, by omega, by omega, g1, g2, g3, by intro q z' a b; omega⟩
      · have hj' : ∀ z, sops[j]? = some z → (T j).w = true → isEff z.op = false := by
          intro z c d
          cases he : isEff z.op with
          | false => rfl
          | true => exact absurd ⟨z, c, d, he⟩ hj
        rcases ih (by omega) with h1 | ⟨k, z, h1, h2, h3, h4, h5, h6⟩
        · refine .inl ?_
          intro k z a b c d
          by_cases ek : k = j
          · subst ek; exact hj' z c d
          · exact h1 k z a (by omega) c d
        · refine .inr ⟨k, z, h1, by omega, h3, h4, h5, ?_⟩
          intro q z' a b c d
          by_cases ek : q = j
          · subst ek; exact hj' z' c d
          · exact h6 q z' a (by omega) c d
end
def Owed (R0 : Nat → Prop) (sops : List SOper) (T : Nat → Met) (listed : Array Bool) (k : Nat) : Prop :=
  R0 k ∨ ∃ (i : Nat) (so : SOper), sops[i]? = some so ∧ IsLay so.op k ∧ (T i).w = true ∧ listed.getD i false = false
def Like (l sops : List SOper) : Prop := l.length = sops.length ∧ ∀ (i : Nat) (so : SOper), sops[i]? = some so → ∃ y, l[i]? = some y ∧ (so = y ∨ ∃ k op', LayOf y.op op' k ∧ so = { y with op := op' })
theorem like_refl (l : List SOper) : Like l l := ⟨rfl, fun i so h => ⟨so, h, .inl rfl⟩⟩

structure Inv (n : Nat) (sops : List SOper) (T : Nat → Met) (φ0 : Phi) (listed : Array Bool) (a : Act) (w : World) : Prop where
  size : listed.size = sops.length
  closed : Closed sops fun i => listed.getD i false = true
  tsize : a.tmps.size = n
  defers : a.defers = []
  run : ∃ (m : Nat) (φ : Phi), φ0.sub φ ∧ (∀ k, φ.res k ↔ Owed φ0.res sops T listed k) ∧ Rel φ (T m).σ w ∧ m ≤ sops.length ∧ (∀ (i : Nat) (z : SOper), sops[i]? = some z → (T i).w = true → isEff z.op = true → (listed.getD i false = true ↔ i < m)) ∧
    ∀ t, t < n → ∃ x, Cur sops T (T 0).fr (fun i => listed.getD i false = true) t x ∧ VR φ x (a.tmps.getD t Go.undef)

theorem getD_false_true {listed : Array Bool} {i : Nat} (h : listed.getD i true = false) : i < listed.size ∧ listed.getD i false = false := by
  by_cases hi : i < listed.size
  · refine ⟨hi, ?_⟩
    simp [Array.getD_eq_getD_getElem?, hi] at h ⊢
    exact h
  · simp [Array.getD_eq_getD_getElem?, hi] at h

def left (listed : Array Bool) : Nat := listed.toList.countP (fun b => !b)
theorem left_set {listed : Array Bool} {i : Nat} (h : i < listed.size) (hf : listed.getD i false = false) : left (listed.setIfInBounds i true) + 1 = left listed := by
  unfold left
  have hi : i < listed.toList.length := by simpa using h
  have e1 : (listed.setIfInBounds i true).toList = listed.toList.set i true := by simp
  have hv : listed.toList[i] = false := by
    simp [Array.getD_eq_getD_getElem?, h] at hf
    simpa using hf
  rw [e1, List.set_eq_take_append_cons_drop, if_pos hi]
  have e2 : listed.toList = listed.toList.take i ++ listed.toList[i] :: listed.toList.drop (i + 1) := by
    rw [← List.drop_eq_getElem_cons hi, List.take_append_drop]
  conv => rhs; rw [e2]
  simp [List.countP_append, List.countP_cons, hv]
  omega
theorem left_zero {listed : Array Bool} (h : left listed = 0) (i : Nat) (hi : i < listed.size) : listed.getD i false = true := by
  unfold left at h
  rw [List.countP_eq_zero] at h
  have := h listed[i] (by simp)
  simp [Array.getD_eq_getD_getElem?, hi]
  simpa using this

section
variable {P : Program} {n : Nat} {ops : Array Oper} {sops : List SOper} {T : Nat → Met} {φ0 : Phi} {Q : Exit → Act → World → Prop}

theorem sim {l0 : List SOper} (hc : cOpers P n ops ops.toList = some l0) (hlk : Like l0 sops)
    (hone : ∀ (i j : Nat) (x y : SOper) (k : Nat), sops[i]? = some x → sops[j]? = some y → IsLay x.op k → IsLay y.op k → i = j)
    (hfree : ∀ (i : Nat) (x : SOper) (k : Nat), sops[i]? = some x → IsLay x.op k → ¬ φ0.res k) (hd : drawOk sops = true) (hl : sops.all (fun o => o.looks.all (· < n)) = true) (hT : Trace P (ancs sops) 0 sops T)
    (hQ : ∀ φ a w, φ0.le φ → FR φ n (T sops.length).fr a → Rel φ (T sops.length).σ w → Q .normal a w) :
    ∀ (fuel : Nat) (listed : Array Bool) (a : Act) (w : World), Inv n sops T φ0 listed a w → left listed ≤ fuel → wpAny P .any ops Q fuel listed a w := by
  obtain ⟨hlen, hget0⟩ := cOpers_get hc
  have hN : ops.size = sops.length := by rw [← hlk.1]; simpa using hlen
  have hget : ∀ (i : Nat) (o : Oper) (so : SOper), ops.toList[i]? = some o → sops[i]? = some so → ∃ y, cOper P n ops o = some y ∧ (so = y ∨ ∃ k op', LayOf y.op op' k ∧ so = { y with op := op' }) := by
    intro i o so ho hso
    obtain ⟨y, hy, hys⟩ := hlk.2 i so hso
    exact ⟨y, hget0 i o y ho hy, hys⟩
  have hpair : ∀ (i j : Nat) (x y : SOper), j < i → sops[i]? = some x → sops[j]? = some y → pairOk (ancs sops) i j x y = true := by
    intro i j x y hji hx hy
    exact drawOkFrom_pair sops [] 0 hd rfl i j x y hji (by omega) (by simpa using hx) (by simpa using hy)
  have hafter : ∀ (i : Nat) (x : SOper), sops[i]? = some x → ∀ j ∈ x.after, j < i := by
    intro i x hx j hj
    have := drawOkFrom_after sops [] 0 hd i x hx j hj
    omega
  have hlooks : ∀ (i : Nat) (x : SOper), sops[i]? = some x → ∀ t ∈ x.looks, t < n := by
    intro i x hx t ht
    rw [List.all_eq_true] at hl
    have := hl x (List.mem_of_getElem? hx)
    rw [List.all_eq_true] at this
    simpa using this t ht
  have done : ∀ listed a w, Inv n sops T φ0 listed a w → (∀ i, i < sops.length → listed.getD i false = true) → Q .normal a w := by
    intro listed a w hI hall
    obtain ⟨m, φ, hsub, hres, hr, hm, heff, hcur⟩ := hI.run
    have hle : φ0.le φ := ⟨hsub, by
      funext k
      refine propext ⟨fun h => ?_, fun h => (hres k).2 (.inl h)⟩
      rcases (hres k).1 h with h | ⟨i, so, h1, _, _, h4⟩
      · exact h
      · rw [hall i (List.getElem?_eq_some_iff.1 h1).1] at h4; cases h4⟩
    have hσ : (T sops.length).σ = (T m).σ := heap_same hT _ hm (Nat.le_refl _) (by
      intro k z h1 h2 hz hw
      cases he : isEff z.op with
      | false => rfl
      | true => have := (heff k z hz hw he).1 (hall k h2); omega)
    refine hQ φ a w hle ⟨hI.tsize, ?_, hI.defers⟩ (by rw [hσ]; exact hr)
    intro t ht
    obtain ⟨x, hx, hv⟩ := hcur t ht
    have : x = (T sops.length).fr.get t := cur_last hT (Nat.le_refl _) (by
      intro k z hz _
      have hk := (List.getElem?_eq_some_iff.1 hz).1
      exact ⟨fun _ => hk, fun _ => hall k hk⟩) hx
    rw [← this]; exact hv
  intro fuel
  induction fuel with
  | zero =>
    intro listed a w hI hf
    have hall : ∀ i, i < sops.length → listed.getD i false = true := fun i hi => left_zero (by omega) i (by rw [hI.size]; exact hi)
    refine ⟨?_, done listed a w hI hall⟩
    cases hrd : Region.ready .any ops listed with
    | nil => rfl
    | cons i l =>
      have hm : i ∈ Region.ready .any ops listed := by rw [hrd]; exact List.mem_cons_self ..
      obtain ⟨hun, o, ho, _⟩ := mem_ready.1 hm
      obtain ⟨h1, h2⟩ := getD_false_true hun
      rw [hall i (by rw [← hI.size]; exact h1)] at h2; cases h2
  | succ fuel ih =>
    intro listed a w hI hf
    refine ⟨?_, ?_⟩
    · -- nothing is ready: all is listed
      intro hrd
      refine done listed a w hI ?_
      intro i
      induction i using Nat.strongRecOn with
      | _ i ihi =>
        intro hi
        cases hb : listed.getD i false with
        | true => rfl
        | false =>
          exfalso
          have hi' : i < ops.size := by rw [hN]; exact hi
          have hio : ops[i]? = some ops[i] := Array.getElem?_eq_getElem hi'
          have hso : sops[i]? = some sops[i] := List.getElem?_eq_getElem hi
          obtain ⟨y, hco, hy⟩ := hget i ops[i] sops[i] (by simp) hso
          obtain ⟨_, _, _, haf0, _⟩ := cOper_ok hco
          have haf : sops[i].after = _ := (show sops[i].after = y.after by rcases hy with h | ⟨_, _, _, h⟩ <;> rw [h]).trans haf0
          have hmem : i ∈ Region.ready .any ops listed := by
            rw [mem_ready]
            refine ⟨?_, ops[i], hio, ?_⟩
            · have : i < listed.size := by rw [hI.size]; exact hi
              simp [Array.getD_eq_getD_getElem?, this] at hb ⊢; exact hb
            · intro e he hbd
              have hk : e.on ∈ sops[i].after := by
                rw [haf, List.mem_map]
                exact ⟨e, by rw [List.mem_filter]; exact ⟨by simpa using he, hbd⟩, rfl⟩
              have := hafter i _ hso _ hk
              exact ihi e.on this (by omega)
          rw [hrd] at hmem; cases hmem
    · intro i hi
      obtain ⟨hun, o, ho, hedges⟩ := mem_ready.1 hi
      obtain ⟨hil, hif⟩ := getD_false_true hun
      have hiN : i < sops.length := by rw [← hI.size]; exact hil
      obtain ⟨so, hso⟩ : ∃ so, sops[i]? = some so := ⟨_, List.getElem?_eq_getElem hiN⟩
      obtain ⟨y, hco, hy⟩ := hget i o so (by simpa using ho) hso
      obtain ⟨hop, hdst0, hdlt, haf0, _⟩ := cOper_ok hco
      have hdst : so.dst = o.dst := (show so.dst = y.dst by rcases hy with h | ⟨_, _, _, h⟩ <;> rw [h]).trans hdst0
      have haf : so.after = _ := (show so.after = y.after by rcases hy with h | ⟨_, _, _, h⟩ <;> rw [h]).trans haf0
      have hgd : so.guard = y.guard := by rcases hy with h | ⟨_, _, _, h⟩ <;> rw [h]
      have hready : ∀ k ∈ so.after, listed.getD k false = true := by
        intro k hk
        rw [haf, List.mem_map] at hk
        obtain ⟨e, he, rfl⟩ := hk
        rw [List.mem_filter] at he
        exact hedges e (by simpa using he.1) he.2
      have hnl : ¬ listed.getD i false = true := by rw [hif]; simp
      have hbef : ∀ k, bef (ancs sops) i k = true → listed.getD k false = true := fun k hk =>
        bef_leads hk _ hI.closed (fun so' hso' => by rw [hso] at hso'; cases hso'; exact hready)
      have haft : ∀ k y, sops[k]? = some y → bef (ancs sops) k i = true → ¬ listed.getD k false = true := fun k y hy hk hL =>
        hnl (bef_leads hk _ hI.closed (fun so' hso' => by rw [hy] at hso'; cases hso'; exact hI.closed k y hy hL))
      have hwr : ∀ t, (t ∈ so.looks ∨ so.dst = some t) → ∀ (k : Nat) (z : SOper), sops[k]? = some z → z.dst = some t → (listed.getD k false = true ↔ k < i) := by
        intro t ht k z hz hzt
        rcases Nat.lt_trichotomy k i with h | h | h
        · refine ⟨fun _ => h, fun _ => hbef k ?_⟩
          have hp := hpair i k so z h hso hz
          unfold pairOk at hp
          have : meet z.dst (so.looks ++ so.dst.toList) = true := by
            rw [hzt]; simp only [meet, List.contains_eq_mem, List.mem_append, decide_eq_true_eq]
            rcases ht with ht | ht
            · exact .inl ht
            · exact .inr (by rw [ht]; simp)
          rw [this] at hp
          simpa using hp
        · subst h
          exact ⟨fun h => absurd h hnl, fun h => by omega⟩
        · refine ⟨fun hL => absurd hL (haft k z hz ?_), fun h' => by omega⟩
          have hp := hpair k i z so h hz hso
          unfold pairOk at hp
          have : (meet so.dst (z.looks ++ z.dst.toList) || meet z.dst so.looks) = true := by
            rcases ht with ht | ht
            · rw [hzt]; simp [meet, ht]
            · rw [ht, hzt]; simp [meet]
          rw [Bool.or_eq_true] at this
          rcases this with h1 | h1 <;> rw [h1] at hp <;> simpa using hp
      obtain ⟨m, φ, hle, hres, hr, hm, heff, hcur⟩ := hI.run
      obtain ⟨fr', hfr'⟩ := exists_frame (C := fun t x => Cur sops T (T 0).fr (fun i => listed.getD i false = true) t x ∧ VR φ x (a.tmps.getD t Go.undef)) n hcur
      have hsame : ∀ t ∈ so.looks, (T i).fr.get t = fr'.get t := by
        intro t ht
        exact (cur_last hT (by omega) (hwr t (.inl ht)) (hfr' t (hlooks i so hso t ht)).1).symm
      have hFR : FR φ n fr' a := ⟨hI.tsize, fun t ht => (hfr' t ht).2, hI.defers⟩
      have hwd := hT.wanted i so hso
      have hwd' : wantd so.guard fr' = some (T i).w := by
        rw [← hwd]; symm
        refine wantd_congr fun t b hg => hsame t ?_
        unfold SOper.looks; rw [hg]; simp
      have hreal := wantd_ok (φ := φ) (a := a) hco (by rw [← hgd]; exact hwd') hI.tsize (fun t b hg => (hfr' t (hlooks i so hso t (by unfold SOper.looks; rw [hgd, hg]; simp))).2)
      have after : ∀ (φ' : Phi) (v' : Value) (w' : World) (m' : Nat), φ.sub φ' → (∀ k, φ'.res k ↔ Owed φ0.res sops T (listed.setIfInBounds i true) k) → VR φ' (T i).v v' → Rel φ' (T m').σ w' → m' ≤ sops.length →
          (∀ (k : Nat) (z : SOper), sops[k]? = some z → (T k).w = true → isEff z.op = true → ((listed.setIfInBounds i true).getD k false = true ↔ k < m')) →
          wpAny P .any ops Q fuel (listed.setIfInBounds i true) (a.put o.dst v') w' := by
        intro φ' v' w' m' hle' hres' hv hr' hm' heff'
        have hset : ∀ k, (listed.setIfInBounds i true).getD k false = true ↔ (k = i ∨ listed.getD k false = true) := by
          intro k
          by_cases e : i = k
          · subst e; simp [hil]
          · rw [getD_set_ne false e]; constructor
            · exact .inr
            · rintro (h | h)
              · exact absurd h.symm e
              · exact h
        refine ih _ _ _ ⟨by simpa using hI.size, ?_, ?_, ?_, m', φ', Phi.sub_trans hle hle', hres', hr', hm', heff', ?_⟩ (by have := left_set hil hif; omega)
        · intro k z hz hk q hq
          rw [hset] at hk ⊢
          rcases hk with rfl | hk
          · rw [hso] at hz; cases hz
            exact .inr (hready q hq)
          · exact .inr (hI.closed k z hz hk q hq)
        · cases hod : o.dst <;> simp [Act.put, hI.tsize]
        · cases hod : o.dst <;> simp [Act.put, hI.defers]
        · intro t ht
          by_cases e : so.dst = some t
          · refine ⟨(T i).v, .inl ⟨i, so, hso, e, (hset i).2 (.inl rfl), rfl, ?_⟩, ?_⟩
            · intro k z hk hz hzt hL
              rw [hset] at hL
              rcases hL with h | h
              · omega
              · have := (hwr t (.inr e) k z hz hzt).1 h; omega
            · rw [← hdst, e]
              have htt : t < a.tmps.size := by rw [hI.tsize]; exact ht
              simpa [Act.put, Array.getD_eq_getD_getElem?, htt] using hv
          · obtain ⟨x, hx, hvx⟩ := hcur t ht
            refine ⟨x, ?_, ?_⟩
            · rcases hx with ⟨j, y, h1, h2, h3, h4, h5⟩ | ⟨h1, h2⟩
              · refine .inl ⟨j, y, h1, h2, (hset j).2 (.inr h3), h4, ?_⟩
                intro k z hk hz hzt hL
                rw [hset] at hL
                rcases hL with rfl | h
                · rw [hso] at hz; cases hz; exact e hzt
                · exact h5 k z hk hz hzt h
              · refine .inr ⟨h1, ?_⟩
                intro k z hz hzt hL
                rw [hset] at hL
                rcases hL with rfl | h
                · rw [hso] at hz; cases hz; exact e hzt
                · exact h2 k z hz hzt h
            · have : (a.put o.dst v').tmps.getD t Go.undef = a.tmps.getD t Go.undef := by
                rw [← hdst]
                cases hod : so.dst with
                | none => rfl
                | some d =>
                  have : d ≠ t := by intro h; rw [hod, h] at e; exact e rfl
                  simp [Act.put, Array.getD_eq_getD_getElem?, Array.getElem?_setIfInBounds_ne this]
              rw [this]; exact hvx.mono0 hle'
      have heff_keep : isEff so.op = false ∨ (T i).w = false → ∀ (k : Nat) (z : SOper), sops[k]? = some z → (T k).w = true → isEff z.op = true → ((listed.setIfInBounds i true).getD k false = true ↔ k < m) := by
        intro hor k z hz hw he
        have hne : i ≠ k := by
          intro h; subst h
          rw [hso] at hz; cases hz
          rcases hor with h | h
          · rw [h] at he; cases he
          · rw [h] at hw; cases hw
        rw [getD_set_ne false hne]; exact heff k z hz hw he
      have hres_keep : ((∀ k, ¬ IsLay so.op k) ∨ (T i).w = false) → ∀ k, φ.res k ↔ Owed φ0.res sops T (listed.setIfInBounds i true) k := by
        intro hor k
        rw [hres k]
        refine or_congr Iff.rfl ⟨fun ⟨j, z, h1, h2, h3, h4⟩ => ?_, fun ⟨j, z, h1, h2, h3, h4⟩ => ?_⟩
        · have hij : i ≠ j := by
            intro e; subst e
            rw [hso] at h1; cases h1
            rcases hor with h | h
            · exact h _ h2
            · rw [h] at h3; cases h3
          exact ⟨j, z, h1, h2, h3, by rw [getD_set_ne false hij]; exact h4⟩
        · have hij : i ≠ j := by
            intro e; subst e
            simp [hil] at h4
          exact ⟨j, z, h1, h2, h3, by rw [getD_set_ne false hij] at h4; exact h4⟩
      unfold wpOp
      simp only [ho]
      cases hw : (T i).w with
      | false =>
        rw [hw] at hreal
        rw [hreal]
        simp only [Bool.false_eq_true, if_false]
        have hsk := hT.skip i so hso hw
        exact after φ _ w m (Phi.sub_refl φ) (hres_keep (.inr hw)) (by rw [hsk.1]; exact VR.undef φ) hr hm (heff_keep (.inr hw))
      | true =>
        rw [hw] at hreal
        rw [hreal]
        simp only [if_true]
        left
        have hop_looks : ∀ t ∈ so.op.tmps, (T i).fr.get t = fr'.get t := fun t ht => hsame t (by unfold SOper.looks; exact List.mem_append_left _ ht)
        cases he : isEff so.op with
        | true =>
          have hmi : m ≤ i := by
            rcases Nat.lt_or_ge i m with h | h
            · exact absurd ((heff i so hso hw he).2 h) hnl
            · exact h
          have hnone : ∀ (k : Nat) (z : SOper), m ≤ k → k < i → sops[k]? = some z → (T k).w = true → isEff z.op = false := by
            intro k z h1 h2 hz hwk
            cases hek : isEff z.op with
            | false => rfl
            | true =>
              have hp := hpair i k so z h2 hso hz
              unfold pairOk at hp
              rw [he, hek] at hp
              have hb : bef (ancs sops) i k = true := by simpa using hp
              have := (heff k z hz hwk hek).1 (hbef k hb)
              omega
          have hσ := heap_same hT i hmi (by omega) hnone
          have hdo := hT.loud i so hso hw he
          rw [hσ] at hdo
          have hnl' : ∀ k, ¬ IsLay so.op k := fun k h => by simp [isEff, h.kind] at he
          have hsy : so = y := by
            rcases hy with h | ⟨k, op', h', h⟩
            · exact h
            · exact absurd (by rw [h]; exact h'.is) (hnl' k)
          rw [hsy] at hdo hop_looks
          refine does_ok hop hFR hr (does_congr hop_looks hdo) ?_
          intro φ' v' w' h1 h2 h3
          refine after φ' v' w' (i + 1) h1.1 (fun k => by rw [h1.2]; exact hres_keep (.inl hnl') k) h2 h3 (by omega) ?_
          intro k z hz hwk hek
          by_cases e : i = k
          · subst e; simp [hil]
          · rw [getD_set_ne false e, heff k z hz hwk hek]
            constructor
            · intro h; omega
            · intro h
              have hki : k < i := by omega
              rcases Nat.lt_or_ge k m with h' | h'
              · exact h'
              · have := hnone k z h' hki hz hwk; rw [hek] at this; cases this
        | false =>
          have hq := hT.quiet i so hso hw he
          have hval : aop so.op (T i).fr (T m).σ = some ((T i).v, (T m).σ) := by
            cases hk : so.op.kind with
            | eff => rw [isEff_kind.2 hk] at he; cases he
            | pure => exact (aop_pure hk hq.1 (T m).σ).2
            | read =>
              rcases Nat.lt_or_ge i m with him | hmi
              · -- effects behind i are through already
                rcases last_eff sops T i m (by omega) with h | ⟨k, z, h1, h2, h3, h4, h5, h6⟩
                · rw [heap_same hT m (by omega) hm h]; exact hq.1
                · have hki : i ≠ k := by intro e; subst e; rw [hso] at h3; cases h3; rw [he] at h5; cases h5
                  have hnb : bef (ancs sops) k i = false := by
                    cases hb : bef (ancs sops) k i with
                    | false => rfl
                    | true => exact absurd ((heff k z h3 h4 h5).2 h2) (haft k z h3 hb)
                  have := hT.ahead i k so z hso h3 (by omega) hw h4 hk h5 (by simpa using hnb)
                  rw [heap_same hT m (i := k + 1) (by omega) hm (fun q z' a b c d => h6 q z' (by omega) b c d)]
                  exact this
              · rcases first_eff sops T m i hmi with h | ⟨k, z, h1, h2, h3, h4, h5, h6⟩
                · rw [← heap_same hT i hmi (by omega) h]; exact hq.1
                · have hnb : bef (ancs sops) i k = false := by
                    cases hb : bef (ancs sops) i k with
                    | false => rfl
                    | true => have := (heff k z h3 h4 h5).1 (hbef k hb); omega
                  have := hT.behind i k so z hso h3 h2 hw h4 hk h5 (by simpa using hnb)
                  rw [← heap_same hT k h1 (by omega) h6]
                  exact this
          by_cases hlay : ∃ k, IsLay so.op k
          · obtain ⟨k, hlay⟩ := hlay
            have hif' : φ.res k := (hres k).2 (.inr ⟨i, so, hso, hlay, hw, hif⟩)
            have hlo : LayOf y.op so.op k := by
              rcases hy with h | ⟨k', op', h1, h2⟩
              · rw [h] at hlay; exact absurd hlay (cOp_lay hop k)
              · rw [h2] at hlay ⊢; rw [hlay.one h1.is]; exact h1
            have hown : ∀ {φ' : Phi}, (∀ j, φ'.res j ↔ (φ.res j ∧ j ≠ k)) → ∀ j, φ'.res j ↔ Owed φ0.res sops T (listed.setIfInBounds i true) j := by
              intro φ' g2 j
              rw [g2 j, hres j]
              constructor
              · rintro ⟨h | ⟨q, z, h1, h2, h3, h4⟩, hj⟩
                · exact .inl h
                · have hiq : i ≠ q := by intro e; subst e; rw [hso] at h1; cases h1; exact hj (h2.one hlay)
                  exact .inr ⟨q, z, h1, h2, h3, by rw [getD_set_ne false hiq]; exact h4⟩
              · rintro (h | ⟨q, z, h1, h2, h3, h4⟩)
                · exact ⟨.inl h, fun e => by subst e; exact hfree i so _ hso hlay h⟩
                · have hiq : i ≠ q := by intro e; subst e; simp [hil] at h4
                  refine ⟨.inr ⟨q, z, h1, h2, h3, by rw [getD_set_ne false hiq] at h4; exact h4⟩, fun e => ?_⟩
                  subst e
                  exact hiq (hone i q so z _ hso h1 hlay h2)
            rcases hlo with ⟨zs, hal, hls⟩ | ⟨nn, zs, len, parts, hal, hls⟩ | ⟨nn, bt, zs, len, hal, hm1, hm2, hls⟩
            · rw [hls] at hval
              simp only [aop] at hval
              split at hval
              · rename_i cs hg
                split at hval
                · rename_i hs
                  have hcz := sames0_eq hs
                  subst hcz
                  have hv : (T i).v = .ptr (.new k) 0 := by
                    simp only [Option.some.injEq, Prod.mk.injEq, and_true] at hval
                    exact hval.symm
                  rw [hal] at hop
                  refine lay_does hop hr hif' hg ?_
                  intro φ' v' w' g1 g2 g3 g4
                  exact after φ' v' w' m g1 (hown g2) (by rw [hv]; exact g3) g4 hm (heff_keep (.inl he))
                · cases hval
              · cases hval
            · rw [aop_congr hop_looks, hls] at hval
              simp only [aop] at hval
              split at hval
              · rename_i cs hg
                split at hval
                · rename_i cs' hfill
                  split at hval
                  · rename_i hs
                    simp only [Bool.and_eq_true, decide_eq_true_eq] at hs
                    have hcz := sames0_eq hs.1
                    subst hcz
                    have hv : (T i).v = .slc (.new k) 0 len (.ex len) := by
                      simp only [Option.some.injEq, Prod.mk.injEq, and_true] at hval
                      exact hval.symm
                    rw [hal] at hop
                    refine layB_does hop hFR hr hif' hg hfill hs.2 ?_
                    intro φ' v' w' g1 g2 g3 g4
                    exact after φ' v' w' m g1 (hown g2) (by rw [hv]; exact g3) g4 hm (heff_keep (.inl he))
                  · cases hval
                · cases hval
              · cases hval
            · rw [aop_congr hop_looks, hls] at hval
              simp only [aop] at hval
              split at hval
              · rename_i cs hg
                split at hval
                · rename_i cs' hfill
                  cases hfill
                  split at hval
                  · rename_i hs
                    simp only [Bool.and_eq_true, decide_eq_true_eq] at hs
                    have hcz := sames0_eq hs.1
                    subst hcz
                    have hv : (T i).v = .slc (.new k) 0 len (.ex len) := by
                      simp only [Option.some.injEq, Prod.mk.injEq, and_true] at hval
                      exact hval.symm
                    rw [hal] at hop
                    refine layM_does hop hFR hr hif' hg hm1 hm2 ?_
                    intro φ' v' w' g1 g2 g3 g4
                    exact after φ' v' w' m g1 (hown g2) (by rw [hv]; exact g3) g4 hm (heff_keep (.inl he))
                  · cases hval
                · cases hval
              · cases hval
          · have hnl' : ∀ k, ¬ IsLay so.op k := fun k h => hlay ⟨k, h⟩
            have hsy : so = y := by
              rcases hy with h | ⟨k, op', h', h⟩
              · exact h
              · exact absurd (by rw [h]; exact h'.is) (hnl' k)
            have hdo : Does P so.op fr' (T m).σ (T i).v (T m).σ := by
              refine does_congr hop_looks ?_
              unfold Does
              split
              · rename_i f l hf; rw [hf] at he; simp [isEff, SOp.kind] at he
              · exact hval
            rw [hsy] at hdo
            refine does_ok hop hFR hr hdo ?_
            intro φ' v' w' h1 h2 h3
            exact after φ' v' w' m h1.1 (fun k => by rw [h1.2]; exact hres_keep (.inl hnl') k) h2 h3 hm (heff_keep (.inl he))
end
end Go.Mini
namespace Go.Mini
open Go
theorem inst_kind (b : Nat) (o : SOp) : (o.inst b).kind = o.kind := by cases o <;> rfl
theorem inst_tmps (b : Nat) (o : SOp) : (o.inst b).tmps = o.tmps := by cases o <;> rfl
def instO (b : Nat) (o : SOper) : SOper := { o with op := o.op.inst b }
theorem instOps_eq (b : Nat) (l : List SOper) : instOps b l = l.map (instO b) := rfl
theorem instO_looks (b : Nat) (o : SOper) : (instO b o).looks = o.looks := by simp only [SOper.looks, instO, inst_tmps]
theorem instO_eff (b : Nat) (o : SOper) : isEff (instO b o).op = isEff o.op := by simp only [isEff, instO, inst_kind]
theorem ancsFrom_inst (b : Nat) : ∀ (l : List SOper) (acc : List Nat), ancsFrom acc (l.map (instO b)) = ancsFrom acc l
  | [], _ => rfl
  | o :: l, acc => by simp only [List.map_cons, ancsFrom]; rw [ancsFrom_inst b l]; rfl
theorem pairOk_inst (b : Nat) (tab : List Nat) (i j : Nat) (x y : SOper) : pairOk tab i j (instO b x) (instO b y) = pairOk tab i j x y := by
  simp only [pairOk, instO_eff, instO_looks]; rfl
theorem all_zipIdx_map (f : SOper → SOper) (p : SOper → Nat → Bool) : ∀ (l : List SOper) (n : Nat), ((l.map f).zipIdx n).all (fun (x, j) => p x j) = (l.zipIdx n).all fun (x, j) => p (f x) j
  | [], _ => rfl
  | o :: l, n => by simp only [List.map_cons, List.zipIdx_cons, List.all_cons]; rw [all_zipIdx_map f p l]
theorem drawOkFrom_inst (b : Nat) (tab : List Nat) : ∀ (l past : List SOper) (i : Nat), drawOkFrom tab i (past.map (instO b)) (l.map (instO b)) = drawOkFrom tab i past l
  | [], _, _ => rfl
  | o :: l, past, i => by
    simp only [List.map_cons, drawOkFrom]
    have h1 := drawOkFrom_inst b tab l (past ++ [o]) (i + 1)
    rw [List.map_append, List.map_cons, List.map_nil] at h1
    rw [h1]
    have h2 := all_zipIdx_map (instO b) (fun p j => pairOk tab i j (instO b o) p) past 0
    simp only [pairOk_inst] at h2
    rw [h2]; rfl
theorem drawOk_inst (b : Nat) (l : List SOper) : drawOk (instOps b l) = drawOk l := by
  rw [instOps_eq]
  simp only [drawOk, ancs, ancsFrom_inst]
  exact drawOkFrom_inst b _ l [] 0
theorem ancs_inst (b : Nat) (l : List SOper) : ancs (instOps b l) = ancs l := by rw [instOps_eq]; exact ancsFrom_inst b l []
theorem looks_inst (b n : Nat) (l : List SOper) : (instOps b l).all (fun o => o.looks.all (· < n)) = l.all fun o => o.looks.all (· < n) := by
  rw [instOps_eq, List.all_map]
  congr 1
  funext o
  simp only [Function.comp_apply, instO_looks]

theorem resvs_cons (o : SOper) (l : List SOper) : resvs (o :: l) = o.op.laid ++ resvs l := by simp [resvs]
theorem layOps_one {o : SOper} {l : List SOper} {j : Nat} :
    (∃ op', LayOf o.op op' j ∧ layOps j (o :: l) = { o with op := op' } :: layOps (j + 1) l) ∨ layOps j (o :: l) = o :: layOps j l := by
  simp only [layOps]
  split
  · rename_i zs h; exact .inl ⟨_, .inl ⟨zs, h, rfl⟩, rfl⟩
  · rename_i n zs len parts h; exact .inl ⟨_, .inr (.inl ⟨n, zs, len, parts, h, rfl⟩), rfl⟩
  · rename_i n b zs l c h
    split
    · rename_i hc
      obtain ⟨rfl, h0, h1, h2⟩ := hc
      obtain ⟨m, rfl⟩ : ∃ m : Nat, l = (m : Int) := ⟨l.toNat, by omega⟩
      exact .inl ⟨_, .inr (.inr ⟨n, b, zs, m, h, h1, h2, rfl⟩), rfl⟩
    · exact .inr rfl
  · exact .inr rfl
theorem laid_nil {o : SOp} (h : ∀ k, ¬ IsLay o k) : o.laid = [] := by
  cases o <;> first | rfl | exact absurd (.inl ⟨_, rfl⟩) (h _) | exact absurd (.inr ⟨_, _, _, _, rfl⟩) (h _)
theorem laid_one {y o : SOp} {k : Nat} (h : LayOf y o k) : ∃ x, o.laid = [x] := by
  rcases h with ⟨zs, _, rfl⟩ | ⟨n, zs, len, parts, _, rfl⟩ | ⟨n, b, zs, len, _, _, _, rfl⟩ <;> exact ⟨_, rfl⟩
theorem layOps_len : ∀ (l : List SOper) (j : Nat), (layOps j l).length = l.length
  | [], _ => rfl
  | o :: l, j => by
    rcases layOps_one (o := o) (l := l) (j := j) with ⟨op', _, e⟩ | e <;> rw [e] <;> simp only [List.length_cons, layOps_len l]
theorem layOps_get : ∀ (l : List SOper) (j i : Nat) (so : SOper), (layOps j l)[i]? = some so → ∃ y, l[i]? = some y ∧ (so = y ∨ ∃ k op', LayOf y.op op' k ∧ so = { y with op := op' })
  | [], j, i, so, h => by simp [layOps] at h
  | o :: l, j, i, so, h => by
    rcases layOps_one (o := o) (l := l) (j := j) with ⟨op', ho, e⟩ | e <;> rw [e] at h
    · cases i with
      | zero => simp at h; exact ⟨o, rfl, .inr ⟨j, op', ho, h.symm⟩⟩
      | succ i => exact layOps_get l (j + 1) i so (by simpa using h)
    · cases i with
      | zero => simp at h; exact ⟨o, rfl, .inl h.symm⟩
      | succ i => exact layOps_get l j i so (by simpa using h)
theorem layOps_num : ∀ (l : List SOper) (j : Nat), (∀ (i : Nat) (y : SOper), l[i]? = some y → ∀ k, ¬ IsLay y.op k) → ∀ (i : Nat) (x : SOper) (k : Nat), (layOps j l)[i]? = some x → IsLay x.op k →
    j ≤ k ∧ k < j + (resvs (layOps j l)).length ∧ ∀ (i' : Nat) (x' : SOper) (k' : Nat), i < i' → (layOps j l)[i']? = some x' → IsLay x'.op k' → k < k'
  | [], j, _, i, x, k, h, _ => by simp [layOps] at h
  | o :: l, j, hn, i, x, k, h, hx => by
    have hn0 : ∀ k, ¬ IsLay o.op k := hn 0 o rfl
    have hn' : ∀ (i : Nat) (y : SOper), l[i]? = some y → ∀ k, ¬ IsLay y.op k := fun i y hy => hn (i + 1) y (by simpa using hy)
    rcases layOps_one (o := o) (l := l) (j := j) with ⟨op', ho, he⟩ | he
    · rw [he] at h ⊢
      rw [resvs_cons]
      obtain ⟨z, hz⟩ := laid_one ho
      simp only [hz, List.singleton_append, List.length_cons]
      cases i with
      | zero =>
        simp only [List.getElem?_cons_zero, Option.some.injEq] at h
        subst h
        have hkj := hx.one ho.is
        subst hkj
        refine ⟨Nat.le_refl _, by omega, fun i' x' k' hi h' hx' => ?_⟩
        obtain ⟨i', rfl⟩ : ∃ q, i' = q + 1 := ⟨i' - 1, by omega⟩
        have := (layOps_num l (k + 1) hn' i' x' k' (by simpa using h') hx').1
        omega
      | succ i =>
        obtain ⟨h1, h2, h3⟩ := layOps_num l (j + 1) hn' i x k (by simpa using h) hx
        refine ⟨by omega, by omega, fun i' x' k' hi h' hx' => ?_⟩
        obtain ⟨i', rfl⟩ : ∃ q, i' = q + 1 := ⟨i' - 1, by omega⟩
        exact h3 i' x' k' (by omega) (by simpa using h') hx'
    · rw [he] at h ⊢
      rw [resvs_cons, laid_nil hn0, List.nil_append]
      cases i with
      | zero =>
        simp only [List.getElem?_cons_zero, Option.some.injEq] at h
        subst h
        exact absurd hx (hn0 _)
      | succ i =>
        obtain ⟨h1, h2, h3⟩ := layOps_num l j hn' i x k (by simpa using h) hx
        refine ⟨h1, h2, fun i' x' k' hi h' hx' => ?_⟩
        obtain ⟨i', rfl⟩ : ∃ q, i' = q + 1 := ⟨i' - 1, by omega⟩
        exact h3 i' x' k' (by omega) (by simpa using h') hx'
theorem Rel.keeps {w : World} : ∀ (l : List (List AVal)) {φ : Phi} {σ : Heap}, Rel φ σ w → Rel ⟨φ.m, fun k => φ.res k ∨ (σ.next ≤ k ∧ k < σ.next + l.length), φ.F⟩ (σ.resv l) w
  | [], φ, σ, hr => hr.less (fun k hk => by rcases hk with h | ⟨h1, h2⟩; exact h; simp at h2; omega)
  | zs :: l, φ, σ, hr => by
    have := Rel.keeps l (hr.keep zs)
    refine this.less (R := fun k => φ.res k ∨ (σ.next ≤ k ∧ k < σ.next + (zs :: l).length)) (fun k hk => ?_)
    simp only [Heap.new_next, List.length_cons] at hk ⊢
    rcases hk with h | ⟨h1, h2⟩
    · exact .inl (.inl h)
    · rcases Nat.lt_or_ge σ.next k with h | h
      · exact .inr ⟨by omega, by omega⟩
      · exact .inl (.inr (by omega))
section
variable {P : Program} {n : Nat}
theorem cOpers_plain {ops : Array Oper} {l : List SOper} (hc : cOpers P n ops ops.toList = some l) : ∀ (i : Nat) (y : SOper), l[i]? = some y → ∀ k, ¬ IsLay y.op k := by
  intro i y hy k
  obtain ⟨h1, h2⟩ := cOpers_get hc
  have hi : i < ops.toList.length := by rw [h1]; exact (List.getElem?_eq_some_iff.1 hy).1
  exact cOp_lay (cOper_ok (h2 i _ y (List.getElem?_eq_getElem hi) hy)).1 k
theorem inst_get {b : Nat} {l : List SOper} {i : Nat} {x : SOper} (h : (instOps b l)[i]? = some x) : ∃ y, l[i]? = some y ∧ x = instO b y := by
  rw [instOps_eq, List.getElem?_map, Option.map_eq_some_iff] at h
  obtain ⟨y, h1, h2⟩ := h
  exact ⟨y, h1, h2.symm⟩
theorem inst_lay {b : Nat} {y : SOper} {k : Nat} (h : IsLay (instO b y).op k) : ∃ j, IsLay y.op j ∧ k = b + j := by
  simp only [instO] at h
  rcases h with ⟨zs, h⟩ | ⟨m, zs, len, parts, h⟩
  · cases hy : y.op <;> rw [hy] at h <;> simp only [SOp.inst, SOp.lay.injEq, reduceCtorEq] at h
    exact ⟨_, .inl ⟨_, rfl⟩, h.1.symm⟩
  · cases hy : y.op <;> rw [hy] at h <;> simp only [SOp.inst, SOp.layB.injEq, reduceCtorEq] at h
    exact ⟨_, .inr ⟨_, _, _, _, rfl⟩, h.1.symm⟩
theorem inst_plain {b : Nat} {y : SOper} (h : ∀ k, ¬ IsLay y.op k) : instO b y = y := by
  obtain ⟨d, op, g, af⟩ := y
  cases op <;> first | rfl | exact absurd (.inl ⟨_, rfl⟩) (h _) | exact absurd (.inr ⟨_, _, _, _, rfl⟩) (h _)
theorem LayOf.inst {y so : SOp} {k : Nat} (b : Nat) (h : LayOf y so k) : LayOf y (so.inst b) (b + k) := by
  rcases h with ⟨zs, h1, rfl⟩ | ⟨m, zs, len, parts, h1, rfl⟩ | ⟨m, b', zs, len, h1, h2, h3, rfl⟩
  · exact .inl ⟨zs, h1, rfl⟩
  · exact .inr (.inl ⟨m, zs, len, parts, h1, rfl⟩)
  · exact .inr (.inr ⟨m, b', zs, len, h1, h2, h3, rfl⟩)
theorem like_lay {ops : Array Oper} {l : List SOper} (hc : cOpers P n ops ops.toList = some l) (b : Nat) : Like l (instOps b (layOps 0 l)) := by
  refine ⟨by rw [instOps_eq, List.length_map, layOps_len], fun i so h => ?_⟩
  obtain ⟨x, hx, rfl⟩ := inst_get h
  obtain ⟨y, hy, hxy⟩ := layOps_get l 0 i x hx
  refine ⟨y, hy, ?_⟩
  rcases hxy with rfl | ⟨k, op', h1, rfl⟩
  · exact .inl (inst_plain (cOpers_plain hc i _ hy))
  · exact .inr ⟨b + k, _, h1.inst b, rfl⟩
end
def thn (K : Frame → Heap → Prop) (Q : SExit → Frame → Heap → Prop) : SExit → Frame → Heap → Prop
  | .normal => K
  | e => Q e
def inBlk (id : Nat) (Q : SExit → Frame → Heap → Prop) : SExit → Frame → Heap → Prop
  | .exit j => if j = id then Q .normal else Q (.exit j)
  | e => Q e
def iter (F : (Frame → Heap → Prop) → Frame → Heap → Prop) : Nat → Frame → Heap → Prop
  | 0 => fun _ _ => False
  | k + 1 => F (iter F k)

section
variable (P : Program)
def awp : SCode → (SExit → Frame → Heap → Prop) → Frame → Heap → Prop
  | .skip, Q => Q .normal
  | .reg none ops, Q => opswp P ops (Q .normal)
  | .reg (some tab) ops, Q => drawwp P tab 0 ops [] (Q .normal)
  | .regA tab ops, Q => fun fr σ => Heap.resvE (resvs ops) (fun σ' => drawwp P tab 0 (instOps σ.next ops) [] (Q .normal) fr σ') σ
  | .seq a b, Q => awp a (thn (awp b Q) Q)
  | .cond c a b, Q => fun fr σ => match c.ev fr with
    | .bool true => awp a Q fr σ
    | .bool false => awp b Q fr σ
    | _ => False
  | .block id c, Q => awp c (inBlk id Q)
  | .loop c, Q => fun fr σ => ∃ k, iter (fun K => awp c (thn K Q)) k fr σ
  | .exit id, Q => Q (.exit id)
  | .ret, Q => Q .ret
end

inductive ExitR : SExit → Exit → Prop where
  | normal : ExitR .normal .normal
  | exit (id : Nat) : ExitR (.exit id) (.exit id)
  | ret : ExitR .ret .ret

def LoopWp (P : Program) (c : Code) (Q : Exit → Act → World → Prop) (a : Act) (w : World) : Prop :=
  ∀ (b : Go.Frame) (k : List Item) (cs : List Go.Frame), ∃ e a' w', Q e a' w' ∧ Arrives P (lone (b.at a (.code c :: .inLoop c :: k)) cs w) b k cs e a' w'
theorem loopWp_loop {P : Program} {c : Code} {Q : Exit → Act → World → Prop} {a : Act} {w : World} (h : LoopWp P c Q a w) : (Code.loop c).wp P Q a w := by
  intro b k cs
  obtain ⟨e, a', w', hq, harr⟩ := h b k cs
  exact ⟨e, a', w', hq, .of_steps (.one step_loop) harr⟩
theorem loopWp_round {P : Program} {c : Code} {Q : Exit → Act → World → Prop} {a : Act} {w : World} (h : c.wp P (Exit.then (LoopWp P c Q) Q) a w) : LoopWp P c Q a w := by
  intro b k cs
  obtain ⟨e, a₁, w₁, hq, harr⟩ := h b (.inLoop c :: k) cs
  cases e with
  | normal =>
    obtain ⟨e₂, a₂, w₂, hq₂, harr₂⟩ := hq b k cs
    exact ⟨e₂, a₂, w₂, hq₂, .of_steps (Steps.trans harr (.one step_inLoop)) harr₂⟩
  | exit id => exact ⟨_, a₁, w₁, hq, .pass (x := .inLoop c) rfl (fun _ _ => .inl (by simp)) harr⟩
  | goto l => exact ⟨_, a₁, w₁, hq, .pass (x := .inLoop c) rfl (fun _ _ => .inl (by simp)) harr⟩
  | ret => exact ⟨_, a₁, w₁, hq, .pass (x := .inLoop c) rfl (fun _ _ => .inl (by simp)) harr⟩
  | panic ch => exact ⟨_, a₁, w₁, hq, .pass (x := .inLoop c) rfl (fun _ _ => .inl (by simp)) harr⟩
  | outgrown => exact ⟨_, a₁, w₁, hq, .pass (x := .inLoop c) rfl (fun _ _ => .inl (by simp)) harr⟩

theorem wp_scope_plain {P : Program} {c : Code} {Q : Exit → Act → World → Prop} {a : Act} {w : World} (h : c.wp P (fun e a w => Q e a w ∧ ∀ l, e ≠ .goto l) a w) : (Code.scope c).wp P Q a w := by
  intro b k cs
  obtain ⟨e, a₁, w₁, ⟨hq, hng⟩, harr⟩ := h b (.inScope c :: k) cs
  have h1 : step P (lone (b.at a (.code (.scope c) :: k)) cs w) = .next (lone (b.at a (.code c :: .inScope c :: k)) cs w) := step_lone_go (by simp [stepG, stepG.exec, Frame.at])
  have h2 : ∀ a w, step P (lone (b.at a (.inScope c :: k)) cs w) = .next (lone (b.at a k) cs w) := fun a w => step_lone_go (by simp [stepG, stepG.exec, Frame.at])
  cases e with
  | normal => exact ⟨.normal, a₁, w₁, hq, .head h1 (Steps.trans harr (.one (h2 _ _)))⟩
  | exit id => exact ⟨_, a₁, w₁, hq, fun k' hk => .head h1 (harr k' (by simpa [exitTo] using hk))⟩
  | goto l => exact absurd rfl (hng l)
  | ret => exact ⟨_, a₁, w₁, hq, .of_steps (.one h1) harr⟩
  | panic ch => exact ⟨_, a₁, w₁, hq, .of_steps (.one h1) harr⟩
  | outgrown => exact ⟨_, a₁, w₁, hq, .of_steps (b := b) (k := k) (cs := cs) (e := .outgrown) (.one h1) harr⟩

section
variable {P : Program} {n : Nat}

theorem opsGo {ops : Array Oper} {Q : Exit → Act → World → Prop} {φ0 : Phi} (K : Frame → Heap → Prop) (hK : ∀ φ fr σ a w, φ0.le φ → FR φ n fr a → Rel φ σ w → K fr σ → Q .normal a w) :
    ∀ (l : List Oper) (r : List SOper) (i : Nat) (φ : Phi) (fr : Frame) (σ : Heap) (a : Act) (w : World), cOpers P n ops l = some r → (∀ j : Nat, l[j]? = ops[i + j]?) → φ0.le φ → FR φ n fr a → Rel φ σ w → opswp P r K fr σ →
      wpOps P ops Q (List.range' i l.length) a w := by
  intro l
  induction l with
  | nil =>
    intro r i φ fr σ a w hc hi hle hf hr h
    cases hc
    exact hK φ fr σ a w hle hf hr h
  | cons o l ih =>
    intro r i φ fr σ a w hc hi hle hf hr h
    simp only [cOpers] at hc
    split at hc
    · rename_i so r' h1 h2
      cases hc
      have ho : ops[i]? = some o := by have := hi 0; simpa using this.symm
      have hi' : ∀ j : Nat, l[j]? = ops[i + 1 + j]? := by
        intro j
        have := hi (j + 1)
        simp only [List.getElem?_cons_succ] at this
        rw [this]; congr 1; omega
      obtain ⟨hop, hdst, hdlt, _, _⟩ := cOper_ok h1
      simp only [List.length_cons, List.range'_succ, wpOps, ho]
      simp only [opswp] at h
      have hgt : ∀ t want, so.guard = some (t, want) → VR φ (fr.get t) (a.tmps.getD t Go.undef) := by
        intro t want hg
        obtain ⟨_, _, _, _, hgd⟩ := cOper_ok h1
        rcases hgd with ⟨_, h⟩ | ⟨_, _, _, t', _, _, _, hlt, h⟩
        · rw [h] at hg; cases hg
        · rw [h] at hg; cases hg; exact hf.tmps _ hlt
      split at h
      · rename_i hw
        rw [wantd_ok h1 hw hf.size hgt]
        simp only [if_true]
        left
        obtain ⟨v, σ', hd, hk⟩ := opwp_does h
        refine does_ok hop hf hr hd ?_
        intro φ' v' w' g1 g2 g3
        have := (hf.mono g1).put (t := o.dst) g2
        rw [hdst] at hk
        exact ih r' (i + 1) φ' _ σ' _ w' h2 hi' (Phi.le_trans hle g1) this g3 hk
      · rename_i hw
        rw [wantd_ok h1 hw hf.size hgt]
        simp only [Bool.false_eq_true, if_false]
        have := hf.put (t := o.dst) (VR.undef φ)
        rw [hdst] at h
        exact ih r' (i + 1) φ _ σ _ w h2 hi' hle this hr h
      · cases h
    · cases hc

theorem layOf_looks {o : SOper} {op' : SOp} {k : Nat} (h : LayOf o.op op' k) : ({ o with op := op' } : SOper).looks = o.looks := by
  obtain ⟨d, op, g, af⟩ := o
  rcases h with ⟨zs, rfl, rfl⟩ | ⟨m, zs, len, parts, rfl, rfl⟩ | ⟨m, b, zs, len, rfl, _, _, rfl⟩ <;> rfl
theorem layOps_looks (n : Nat) : ∀ (l : List SOper) (j : Nat), l.all (fun o => o.looks.all (· < n)) = (layOps j l).all (fun o => o.looks.all (· < n))
  | [], _ => rfl
  | o :: l, j => by
    rcases layOps_one (o := o) (l := l) (j := j) with ⟨op', ho, e⟩ | e
    · rw [e, List.all_cons, List.all_cons, layOps_looks n l (j + 1), layOf_looks ho]
    · rw [e, List.all_cons, List.all_cons, layOps_looks n l j]
theorem awp_sound (hm : P.follows .mixedOrders = true) : ∀ (c : Code) (sc : SCode) (Q : SExit → Frame → Heap → Prop) (R : Exit → Act → World → Prop) (φ : Phi) (fr : Frame) (σ : Heap) (a : Act) (w : World),
    cCode P n c = some sc → awp P sc Q fr σ → FR φ n fr a → Rel φ σ w →
    (∀ φ' fr' σ' se e a' w', φ.le φ' → ExitR se e → FR φ' n fr' a' → Rel φ' σ' w' → Q se fr' σ' → R e a' w') → c.wp P R a w := by
  intro c
  induction c with
  | skip =>
    intro sc Q R φ fr σ a w hc h hf hr hR
    cases hc
    exact wp_skip (hR φ fr σ .normal .normal a w (Phi.le_refl φ) .normal hf hr h)
  | region id ops draw =>
    intro sc Q R φ fr σ a w hc h hf hr hR
    simp only [cCode] at hc
    split at hc
    · rename_i l hl
      cases draw with
      | false =>
        simp only [Bool.false_eq_true, if_false, Option.some.injEq] at hc
        subst hc
        simp only [awp] at h
        refine wp_region ?_
        have := opsGo (P := P) (n := n) (ops := ops) (Q := R) (φ0 := φ) (Q .normal) (fun φ' fr' σ' a' w' h1 h2 h3 h4 => hR φ' fr' σ' .normal .normal a' w' h1 .normal h2 h3 h4) ops.toList l 0 φ fr σ a w hl (by simp) (Phi.le_refl φ) hf hr h
        simpa [List.range_eq_range'] using this
      | true =>
        simp only [if_true] at hc
        have hlen := (cOpers_get hl).1
        have hN : ops.size = l.length := by simpa using hlen
        have hf0 : ∀ i, (Array.replicate ops.size false).getD i false = false := by
          intro i
          by_cases hi : i < ops.size <;> simp [Array.getD_eq_getD_getElem?, hi]
        have hleft : left (Array.replicate ops.size false) ≤ ops.size := by
          unfold left
          have := List.countP_le_length (p := fun b => !b) (l := (Array.replicate ops.size false).toList)
          simpa using this
        split at hc
        · rename_i hd
          simp only [Bool.and_eq_true] at hd
          simp only [Option.some.injEq] at hc
          subst hc
          simp only [awp] at h
          obtain ⟨T, hT, h1, h2, h3, _, _⟩ := trace_of l 0 [] fr σ h
          refine wp_region_any hm ?_
          refine sim (φ0 := φ) hl (like_refl l) (fun i j x y k hx _ hk _ => absurd hk (cOpers_plain hl i x hx k)) (fun i x k hx hk => absurd hk (cOpers_plain hl i x hx k)) hd.1 hd.2 hT
            (fun φ' a' w' g1 g2 g3 => hR φ' _ _ .normal .normal a' w' g1 .normal g2 g3 h3) ops.size _ a _ ?_ hleft
          refine ⟨by simp [hN], ?_, hf.size, hf.defers, 0, φ, Phi.sub_refl φ, ?_, by rw [h2]; exact hr.drew, Nat.zero_le _, ?_, ?_⟩
          · intro i z _ hi; rw [hf0] at hi; cases hi
          · intro k
            refine ⟨.inl, ?_⟩
            rintro (h | ⟨i, so, g1, g2, _, _⟩)
            · exact h
            · exact absurd g2 (cOpers_plain hl i so g1 k)
          · intro i z _ _ _; rw [hf0]; simp
          · intro t ht
            refine ⟨fr.get t, .inr ⟨by rw [h1], ?_⟩, hf.tmps t ht⟩
            intro k z _ _ hk; simp only [hf0] at hk; cases hk
        · split at hc
          · rename_i hd
            simp only [Bool.and_eq_true] at hd
            simp only [Option.some.injEq] at hc
            subst hc
            simp only [awp] at h
            obtain ⟨css, hcl, h, _⟩ := resvE_iff h
            have hpl := cOpers_plain hl
            have hnum : ∀ (i : Nat) (x : SOper) (k : Nat), (instOps σ.next (layOps 0 l))[i]? = some x → IsLay x.op k → ∃ z j, (layOps 0 l)[i]? = some z ∧ IsLay z.op j ∧ k = σ.next + j ∧ j < css.length := by
              intro i x k hx hk
              obtain ⟨z, hz, rfl⟩ := inst_get hx
              obtain ⟨j, hj, hkj⟩ := inst_lay hk
              have := (layOps_num l 0 hpl i z j hz hj).2.1
              exact ⟨z, j, hz, hj, hkj, by omega⟩
            have hlooks : l.all (fun o => o.looks.all (· < n)) = (layOps 0 l).all (fun o => o.looks.all (· < n)) → (instOps σ.next (layOps 0 l)).all (fun o => o.looks.all (· < n)) = true := by
              intro e; rw [looks_inst, ← e]; exact hd.2
            have hlk2 : l.all (fun o => o.looks.all (· < n)) = (layOps 0 l).all (fun o => o.looks.all (· < n)) := layOps_looks n l 0
            rw [← ancs_inst σ.next] at h
            obtain ⟨T, hT, h1, h2, h3, _, _⟩ := trace_of (instOps σ.next (layOps 0 l)) 0 [] fr _ h
            refine wp_region_any hm ?_
            refine sim (φ0 := φ) hl (like_lay hl σ.next) ?_ ?_ (by rw [drawOk_inst]; exact hd.1) (hlooks hlk2) hT
              (fun φ' a' w' g1 g2 g3 => hR φ' _ _ .normal .normal a' w' g1 .normal g2 g3 h3) ops.size _ a _ ?_ hleft
            · intro i j x y k hx hy hk hk'
              obtain ⟨z, q, hz, hq, e1, _⟩ := hnum i x k hx hk
              obtain ⟨z', q', hz', hq', e2, _⟩ := hnum j y k hy hk'
              rcases Nat.lt_trichotomy i j with hij | hij | hij
              · have := (layOps_num l 0 hpl i z q hz hq).2.2 j z' q' hij hz' hq'; omega
              · exact hij
              · have := (layOps_num l 0 hpl j z' q' hz' hq').2.2 i z q hij hz hq; omega
            · intro i x k hx hk hres
              obtain ⟨z, q, _, _, e1, _⟩ := hnum i x k hx hk
              have := (hr.resv k hres).2; omega
            refine ⟨by simp [hN, instOps_eq, layOps_len], ?_, hf.size, hf.defers, 0, ⟨φ.m, Owed φ.res (instOps σ.next (layOps 0 l)) T (Array.replicate ops.size false), φ.F⟩, ⟨fun _ _ e => e, fun _ _ _ e => e⟩, fun k => Iff.rfl, ?_, Nat.zero_le _, ?_, ?_⟩
            · intro i z _ hi; rw [hf0] at hi; cases hi
            · rw [h2]
              refine (hr.drew.keeps css).less (R := Owed φ.res (instOps σ.next (layOps 0 l)) T (Array.replicate ops.size false)) ?_
              rintro k (h | ⟨i, so, g1, g2, _, _⟩)
              · exact .inl h
              · obtain ⟨z, q, _, _, e1, e2⟩ := hnum i so k g1 g2
                exact .inr ⟨by omega, by omega⟩
            · intro i z _ _ _; rw [hf0]; simp
            · intro t ht
              refine ⟨fr.get t, .inr ⟨by rw [h1], ?_⟩, VR.mono0 (φ := φ) (φ' := ⟨φ.m, Owed φ.res (instOps σ.next (layOps 0 l)) T (Array.replicate ops.size false), φ.F⟩) ⟨fun _ _ e => e, fun _ _ _ e => e⟩ (hf.tmps t ht)⟩
              intro k z _ _ hk; simp only [hf0] at hk; cases hk
          · cases hc
    · cases hc
  | seq x y ihx ihy =>
    intro sc Q R φ fr σ a w hc h hf hr hR
    simp only [cCode] at hc
    split at hc
    · rename_i sx sy hx hy
      cases hc
      simp only [awp] at h
      refine wp_seq (ihx sx _ _ φ fr σ a w hx h hf hr ?_)
      intro φ' fr' σ' se e a' w' g1 g2 g3 g4 g5
      cases g2 with
      | normal =>
        exact ihy sy Q R φ' fr' σ' a' w' hy g5 g3 g4 (fun φ2 fr2 σ2 se2 e2 a2 w2 k1 k2 k3 k4 k5 => hR φ2 fr2 σ2 se2 e2 a2 w2 (Phi.le_trans g1 k1) k2 k3 k4 k5)
      | exit id => exact hR φ' fr' σ' _ _ a' w' g1 (.exit id) g3 g4 g5
      | ret => exact hR φ' fr' σ' _ _ a' w' g1 .ret g3 g4 g5
    · cases hc
  | cond c x y ihx ihy =>
    intro sc Q R φ fr σ a w hc h hf hr hR
    simp only [cCode] at hc
    split at hc
    · rename_i c' sx sy hcc hx hy
      cases hc
      have hv := cOpd_ok hcc hf
      simp only [awp] at h
      generalize hg : a.eval c = cv at hv
      split at h
      · rename_i hb
        rw [hb] at hv; cases hv
        exact wp_cond_true hg (ihx sx Q R φ fr σ a w hx h hf hr hR)
      · rename_i hb
        rw [hb] at hv; cases hv
        exact wp_cond_false hg (ihy sy Q R φ fr σ a w hy h hf hr hR)
      · cases h
    · cases hc
  | block id c ih =>
    intro sc Q R φ fr σ a w hc h hf hr hR
    simp only [cCode, Option.map_eq_some_iff] at hc
    obtain ⟨s, hs, rfl⟩ := hc
    simp only [awp] at h
    refine wp_block (ih s _ _ φ fr σ a w hs h hf hr ?_)
    intro φ' fr' σ' se e a' w' g1 g2 g3 g4 g5
    cases g2 with
    | normal => exact hR φ' fr' σ' _ _ a' w' g1 .normal g3 g4 g5
    | exit j =>
      simp only [Exit.inBlock, inBlk] at g5 ⊢
      split
      · rename_i e; rw [if_pos e] at g5; exact hR φ' fr' σ' _ _ a' w' g1 .normal g3 g4 g5
      · rename_i e; rw [if_neg e] at g5; exact hR φ' fr' σ' _ _ a' w' g1 (.exit j) g3 g4 g5
    | ret => exact hR φ' fr' σ' _ _ a' w' g1 .ret g3 g4 g5
  | loop c ih =>
    intro sc Q R φ fr σ a w hc h hf hr hR
    simp only [cCode, Option.map_eq_some_iff] at hc
    obtain ⟨s, hs, rfl⟩ := hc
    simp only [awp] at h
    obtain ⟨k, hk⟩ := h
    refine loopWp_loop ?_
    have key : ∀ (k : Nat) (φ1 : Phi) (fr : Frame) (σ : Heap) (a : Act) (w : World), φ.le φ1 → FR φ1 n fr a → Rel φ1 σ w → iter (fun K => awp P s (thn K Q)) k fr σ → LoopWp P c R a w := by
      intro k
      induction k with
      | zero => intro φ1 fr σ a w _ _ _ h; exact h.elim
      | succ k ihk =>
        intro φ1 fr σ a w hle hf hr h
        refine loopWp_round (ih s _ _ φ1 fr σ a w hs h hf hr ?_)
        intro φ' fr' σ' se e a' w' g1 g2 g3 g4 g5
        cases g2 with
        | normal => exact ihk φ' fr' σ' a' w' (Phi.le_trans hle g1) g3 g4 g5
        | exit id => exact hR φ' fr' σ' _ _ a' w' (Phi.le_trans hle g1) (.exit id) g3 g4 g5
        | ret => exact hR φ' fr' σ' _ _ a' w' (Phi.le_trans hle g1) .ret g3 g4 g5
    exact key k φ fr σ a w (Phi.le_refl φ) hf hr hk
  | exit id =>
    intro sc Q R φ fr σ a w hc h hf hr hR
    cases hc
    exact wp_exit (hR φ fr σ _ _ a w (Phi.le_refl φ) (.exit id) hf hr h)
  | ret =>
    intro sc Q R φ fr σ a w hc h hf hr hR
    cases hc
    exact wp_ret (hR φ fr σ _ _ a w (Phi.le_refl φ) .ret hf hr h)
  | scope c ih =>
    intro sc Q R φ fr σ a w hc h hf hr hR
    simp only [cCode] at hc
    refine wp_scope_plain (ih sc Q _ φ fr σ a w hc h hf hr ?_)
    intro φ' fr' σ' se e a' w' g1 g2 g3 g4 g5
    exact ⟨hR φ' fr' σ' se e a' w' g1 g2 g3 g4 g5, by cases g2 <;> (intro l h; cases h)⟩
  | label l =>
    intro sc Q R φ fr σ a w hc h hf hr hR
    cases hc
    exact wp_label (hR φ fr σ .normal .normal a w (Phi.le_refl φ) .normal hf hr h)
  | _ => intro sc Q R φ fr σ a w hc; cases hc
end
section
variable {P : Program}
theorem opwp_any {o : SOp} {fr : Frame} {σ : Heap} {K : AVal → Heap → Prop} (h : opwp P o fr σ K) : ∃ v σ', K v σ' ∧ ∀ K' : AVal → Heap → Prop, K' v σ' → opwp P o fr σ K' := by
  unfold opwp at h
  split at h
  · split at h
    · rename_i hx
      obtain ⟨v, σ', h1, h2⟩ := h
      exact ⟨v, σ', h2, fun K' hk => by unfold opwp; simp only [hx]; exact ⟨v, σ', h1, hk⟩⟩
    · cases h
  · rename_i hne
    split at h
    · rename_i v σ' he
      refine ⟨v, σ', h, fun K' hk => ?_⟩
      unfold opwp
      split
      · exact absurd rfl (hne _ _)
      · rw [he]; exact hk
    · cases h
theorem opswp_out : ∀ {ops : List SOper} {fr : Frame} {σ : Heap} {K : Frame → Heap → Prop}, opswp P ops K fr σ → ∃ fr' σ', K fr' σ' ∧ ∀ K' : Frame → Heap → Prop, K' fr' σ' → opswp P ops K' fr σ
  | [], fr, σ, K, h => ⟨fr, σ, h, fun K' hk => hk⟩
  | o :: os, fr, σ, K, h => by
    simp only [opswp] at h ⊢
    split at h
    · rename_i hw
      obtain ⟨v, σ1, h1, h2⟩ := opwp_any h
      obtain ⟨fr', σ', h3, h4⟩ := opswp_out h1
      exact ⟨fr', σ', h3, fun K' hk => h2 _ (h4 K' hk)⟩
    · obtain ⟨fr', σ', h3, h4⟩ := opswp_out h
      exact ⟨fr', σ', h3, h4⟩
    · cases h
theorem drawwp_out {tab : List Nat} : ∀ {ops : List SOper} {i : Nat} {past : List Ev} {fr : Frame} {σ : Heap} {K : Frame → Heap → Prop}, drawwp P tab i ops past K fr σ →
    ∃ fr' σ', K fr' σ' ∧ ∀ K' : Frame → Heap → Prop, K' fr' σ' → drawwp P tab i ops past K' fr σ
  | [], i, past, fr, σ, K, h => ⟨fr, σ, h, fun K' hk => hk⟩
  | o :: os, i, past, fr, σ, K, h => by
    simp only [drawwp] at h ⊢
    split at h
    · cases h
    · obtain ⟨fr', σ', h3, h4⟩ := drawwp_out h
      exact ⟨fr', σ', h3, h4⟩
    · split at h
      · split at h
        · obtain ⟨fr', σ', h3, h4⟩ := drawwp_out h
          exact ⟨fr', σ', h3, h4⟩
        · cases h
      · split at h
        · obtain ⟨fr', σ', h3, h4⟩ := drawwp_out h.2
          exact ⟨fr', σ', h3, fun K' hk => ⟨h.1, h4 K' hk⟩⟩
        · cases h
      · obtain ⟨v, σ1, h1, h2⟩ := opwp_any h
        obtain ⟨fr', σ', h3, h4⟩ := drawwp_out h1.2
        exact ⟨fr', σ', h3, fun K' hk => h2 _ ⟨h1.1, h4 K' hk⟩⟩

def AOut (P : Program) (c : SCode) (fr : Frame) (σ : Heap) (e : SExit) (fr' : Frame) (σ' : Heap) : Prop := ∀ K : SExit → Frame → Heap → Prop, K e fr' σ' → awp P c K fr σ
theorem awp_out : ∀ (c : SCode) (Q : SExit → Frame → Heap → Prop) (fr : Frame) (σ : Heap), awp P c Q fr σ → ∃ e fr' σ', Q e fr' σ' ∧ AOut P c fr σ e fr' σ' := by
  intro c
  induction c with
  | skip => intro Q fr σ h; exact ⟨.normal, fr, σ, h, fun K hk => hk⟩
  | reg tab ops =>
    intro Q fr σ h
    cases tab with
    | none =>
      obtain ⟨fr', σ', h1, h2⟩ := opswp_out h
      exact ⟨.normal, fr', σ', h1, fun K hk => h2 _ hk⟩
    | some tab =>
      obtain ⟨fr', σ', h1, h2⟩ := drawwp_out h
      exact ⟨.normal, fr', σ', h1, fun K hk => h2 _ hk⟩
  | regA tab ops =>
    intro Q fr σ h
    obtain ⟨css, _, h, hb⟩ := resvE_iff h
    obtain ⟨fr', σ', h1, h2⟩ := drawwp_out h
    exact ⟨.normal, fr', σ', h1, fun K hk => hb _ (h2 _ hk)⟩
  | seq a b iha ihb =>
    intro Q fr σ h
    obtain ⟨e, f1, s1, h1, h2⟩ := iha _ fr σ h
    cases e with
    | normal =>
      obtain ⟨e2, f2, s2, h3, h4⟩ := ihb Q f1 s1 h1
      exact ⟨e2, f2, s2, h3, fun K hk => h2 _ (h4 K hk)⟩
    | exit id => exact ⟨_, f1, s1, h1, fun K hk => h2 _ hk⟩
    | ret => exact ⟨_, f1, s1, h1, fun K hk => h2 _ hk⟩
  | cond c a b iha ihb =>
    intro Q fr σ h
    simp only [awp] at h
    split at h
    · rename_i hb
      obtain ⟨e, f, s, h1, h2⟩ := iha Q fr σ h
      exact ⟨e, f, s, h1, fun K hk => by simp only [awp, hb]; exact h2 K hk⟩
    · rename_i hb
      obtain ⟨e, f, s, h1, h2⟩ := ihb Q fr σ h
      exact ⟨e, f, s, h1, fun K hk => by simp only [awp, hb]; exact h2 K hk⟩
    · cases h
  | block id c ih =>
    intro Q fr σ h
    obtain ⟨e, f, s, h1, h2⟩ := ih _ fr σ h
    cases e with
    | normal => exact ⟨.normal, f, s, h1, fun K hk => h2 _ hk⟩
    | ret => exact ⟨.ret, f, s, h1, fun K hk => h2 _ hk⟩
    | exit j =>
      simp only [inBlk] at h1
      by_cases hj : j = id
      · rw [if_pos hj] at h1
        exact ⟨.normal, f, s, h1, fun K hk => h2 _ (by simp only [inBlk]; rw [if_pos hj]; exact hk)⟩
      · rw [if_neg hj] at h1
        exact ⟨.exit j, f, s, h1, fun K hk => h2 _ (by simp only [inBlk]; rw [if_neg hj]; exact hk)⟩
  | loop c ih =>
    intro Q fr σ h
    simp only [awp] at h
    obtain ⟨k, hk⟩ := h
    have key : ∀ (k : Nat) (fr : Frame) (σ : Heap), iter (fun K => awp P c (thn K Q)) k fr σ → ∃ e f s, Q e f s ∧ ∀ K : SExit → Frame → Heap → Prop, K e f s → iter (fun K' => awp P c (thn K' K)) k fr σ := by
      intro k
      induction k with
      | zero => intro fr σ h; exact h.elim
      | succ k ihk =>
        intro fr σ h
        obtain ⟨e, f, s, h1, h2⟩ := ih _ fr σ h
        cases e with
        | normal =>
          obtain ⟨e2, f2, s2, h3, h4⟩ := ihk f s h1
          exact ⟨e2, f2, s2, h3, fun K hk => h2 _ (h4 K hk)⟩
        | exit id => exact ⟨_, f, s, h1, fun K hk => h2 _ hk⟩
        | ret => exact ⟨_, f, s, h1, fun K hk => h2 _ hk⟩
    obtain ⟨e, f, s, h1, h2⟩ := key k fr σ hk
    exact ⟨e, f, s, h1, fun K hK => ⟨k, h2 K hK⟩⟩
  | exit id => intro Q fr σ h; exact ⟨.exit id, fr, σ, h, fun K hk => hk⟩
  | ret => intro Q fr σ h; exact ⟨.ret, fr, σ, h, fun K hk => hk⟩

theorem awp_mono {c : SCode} {Q Q' : SExit → Frame → Heap → Prop} {fr : Frame} {σ : Heap} (h : awp P c Q fr σ) (hq : ∀ e f s, Q e f s → Q' e f s) : awp P c Q' fr σ := by
  obtain ⟨e, f, s, h1, h2⟩ := awp_out c Q fr σ h
  exact h2 _ (hq e f s h1)

theorem awp_loop_unroll {c : SCode} {Q : SExit → Frame → Heap → Prop} {fr : Frame} {σ : Heap} (h : awp P c (thn (awp P (.loop c) Q) Q) fr σ) : awp P (.loop c) Q fr σ := by
  obtain ⟨e, f, s, h1, h2⟩ := awp_out c _ fr σ h
  cases e with
  | normal =>
    obtain ⟨k, hk⟩ := h1
    exact ⟨k + 1, h2 _ hk⟩
  | exit id => exact ⟨1, h2 _ h1⟩
  | ret => exact ⟨1, h2 _ h1⟩
end

def rvals : List SRes → Frame → Heap → Option (List AVal)
  | [], _, _ => some []
  | .tmp t :: l, fr, σ => (rvals l fr σ).map (fr.get t :: ·)
  | .cell t k :: l, fr, σ => match aLoad k (fr.get t) σ, rvals l fr σ with
    | some v, some r => some (v :: r)
    | _, _ => none
def resOf (rs : List SRes) (fr : Frame) (σ : Heap) : Option AVal :=
  match rvals rs fr σ with
  | some [v] => some v
  | some l => some (.tup l)
  | none => none

def AFun (P : Program) (f : FuncId) (args : List AVal) (σ : Heap) (v : AVal) (σ' : Heap) : Prop :=
  ∀ φ w vs, VRs φ args vs → Rel φ σ w → Calls P f vs.toArray w fun e w' => ∃ v' φ', e = .returned v' ∧ φ.le φ' ∧ VR φ' v v' ∧ Rel φ' σ' w'

section
variable {P : Program} {n : Nat}
theorem ofArgs_get : ∀ (l : List AVal) (k t : Nat), (Frame.ofArgs k l).get t = if k ≤ t then (l[t - k]?).getD .undef else .undef
  | [], k, t => by simp [Frame.ofArgs, Frame.get, Trie.get]
  | a :: l, k, t => by
    simp only [Frame.ofArgs, Frame.get_put, ofArgs_get l (k + 1) t]
    by_cases h : k = t
    · subst h; simp
    · rw [if_neg h]
      by_cases h2 : k + 1 ≤ t
      · rw [if_pos h2, if_pos (by omega)]
        have : t - k = (t - (k + 1)) + 1 := by omega
        rw [this]; simp
      · rw [if_neg h2, if_neg (by omega)]

theorem cAgg_load {φ : Phi} {σ : Heap} {w : World} (hr : Rel φ σ w) {t : TypeId} {k : Option Nat} (hk : cAgg P t = some k) {x z : AVal} {v : Value} (hz : aLoad k x σ = some z) (hx : VR φ x v) :
    ∃ a u, v = .pointer (some a) ∧ (loadVar t a).run P w = .ok u w ∧ VR φ z u := by
  unfold aLoad at hz
  split at hz
  · rename_i i off
    cases hx with
    | ptr _ hib =>
      obtain ⟨h1, h2⟩ := cAgg_ok (w := w) hk
      cases k with
      | none =>
        obtain ⟨v, hv, hvr⟩ := hr.cell hz hib
        exact ⟨_, v, rfl, by simp [loadVar, h1, hv], hvr⟩
      | some m =>
        rw [Option.map_eq_some_iff] at hz
        obtain ⟨l, hl, rfl⟩ := hz
        obtain ⟨vs, hvs, hvrs⟩ := loadCells_ok (P := P) hr hib m off off 0 l #[] hl (by omega)
        exact ⟨_, _, rfl, by simp [loadVar, h1, h2 m rfl, loadCells, hvs], .agg hvrs⟩
  · rename_i cs
    cases hx with
    | @fptr _ vs b off hvs hh =>
      obtain ⟨h1, h2⟩ := cAgg_ok (w := w) hk
      cases k with
      | none =>
        obtain ⟨v, hv, hvr⟩ := hvs.get 0 _ hz
        have hc := hr.frz _ _ _ (hh 0 v hv)
        rw [Nat.add_zero] at hc
        exact ⟨_, v, rfl, by simp [loadVar, h1, hc], hvr⟩
      | some m =>
        simp only at hz
        split at hz
        · rename_i hm
          cases hz
          have hl := hvs.length
          have hld := loadF_ok (P := P) hr (vs.take m) b off 0 #[] (fun i v e => by
            rw [Nat.zero_add]; exact hh i v (take_getElem? _ _ _ _ e))
          have hlen : (vs.take m).length = m := by rw [List.length_take]; omega
          rw [hlen] at hld
          exact ⟨_, .agg (vs.take m).toArray, rfl, by simp [loadVar, h1, h2 m rfl, loadCells, hld], .agg (hvs.take m)⟩
        · cases hz
  · cases hz

def resSem (tmps : Array Value) : ResultVar → Sem Value
  | .tmp t => pure (tmps.getD t Go.undef)
  | .cell c t => do loadVar t (← asAddr (tmps.getD c Go.undef))
theorem results_ok {φ : Phi} {σ : Heap} {w : World} (hr : Rel φ σ w) {fr : Frame} {a : Act} (hf : FR φ n fr a) : ∀ (l : List ResultVar) (rs : List SRes) (vs : List AVal), cRes P n l = some rs → rvals rs fr σ = some vs →
    ∃ us : List Value, (l.mapM (resSem a.tmps)).run P w = .ok us w ∧ VRs φ vs us := by
  intro l
  induction l with
  | nil => intro rs vs h1 h2; cases h1; cases h2; exact ⟨[], by simp, .nil⟩
  | cons r l ih =>
    intro rs vs h1 h2
    cases r with
    | tmp t =>
      simp only [cRes] at h1
      split at h1
      · rename_i ht
        rw [Option.map_eq_some_iff] at h1
        obtain ⟨rs', h1, rfl⟩ := h1
        simp only [rvals, Option.map_eq_some_iff] at h2
        obtain ⟨vs', h2, rfl⟩ := h2
        obtain ⟨us, h3, h4⟩ := ih rs' vs' h1 h2
        exact ⟨_ :: us, by simp only [List.mapM_cons, Sem.run_bind, resSem, Sem.run_pure, Result.andThen_ok]; rw [h3]; rfl, .cons (hf.tmps t ht) h4⟩
      · cases h1
    | cell c t =>
      simp only [cRes] at h1
      split at h1
      · rename_i k r hk hr'
        split at h1
        · rename_i ht
          cases h1
          simp only [rvals] at h2
          split at h2
          · rename_i v vs' hv hvs
            cases h2
            obtain ⟨us, h3, h4⟩ := ih r vs' hr' hvs
            obtain ⟨ad, u, g1, g2, g3⟩ := cAgg_load (P := P) hr hk hv (hf.tmps c ht)
            refine ⟨u :: us, ?_, .cons g3 h4⟩
            have hA : (asAddr (a.tmps.getD c Go.undef)).run P w = .ok ad w := by rw [g1]; rfl
            have hB : (resSem a.tmps (.cell c t)).run P w = .ok u w := by simp only [resSem, Sem.run_bind, hA, Result.andThen_ok, g2]
            simp only [List.mapM_cons, Sem.run_bind, hB, Sem.run_pure, Result.andThen_ok]
            rw [h3]; rfl
          · cases h2
        · cases h1
      · cases h1

def ends : SExit → Bool
  | .exit _ => false
  | _ => true

theorem afun_of_awp (hm : P.follows .mixedOrders = true) {f : FuncId} {sf : SFunc} (hc : cFunc P f = some sf) {args : List AVal} {σ σ' : Heap} {v : AVal} (hlen : args.length ≤ sf.ntmps)
    (h : awp P sf.body (fun e fr σ1 => ends e = true ∧ resOf sf.results fr σ1 = some v ∧ σ1 = σ') (Frame.ofArgs 0 args) σ) : AFun P f args σ v σ' ∧ ∃ fn, P.funcs[f]? = some fn ∧ fn.body.isSome = true ∧ (fn.name == "runtime.NumGoroutine") = false := by
  unfold cFunc at hc
  split at hc
  · rename_i fn hfn
    split at hc
    · rename_i c hcb
      split at hc
      · rename_i b r hb hres
        split at hc
        · cases hc
        · rename_i hname
          cases hc
          refine ⟨?_, fn, hfn, by rw [hcb]; rfl, by simpa using hname⟩
          intro φ w vs hvs hr
          have hl := hvs.length
          simp only at hlen
          refine calls_of_wp hfn hcb ?_
          refine awp_sound (n := fn.ntmps) hm c b _ _ φ _ σ _ w hb h ⟨?_, ?_, rfl⟩ hr ?_
          · simp; omega
          · intro t ht
            rw [ofArgs_get]
            simp only [Nat.zero_le, if_true, Nat.sub_zero]
            by_cases hta : t < args.length
            · obtain ⟨u, hu, hur⟩ := hvs.get t args[t] (by simp [hta])
              have : (vs.toArray ++ Array.replicate (fn.ntmps - vs.toArray.size) Go.undef).getD t Go.undef = u := by
                have htv : t < vs.length := by omega
                rw [Array.getD_eq_getD_getElem?, Array.getElem?_append_left (by simpa using htv)]
                simp only [List.getElem?_toArray, hu, Option.getD_some]
              rw [this]
              simpa [hta] using hur
            · have : (vs.toArray ++ Array.replicate (fn.ntmps - vs.toArray.size) Go.undef).getD t Go.undef = Go.undef := by
                rw [Array.getD_eq_getD_getElem?, Array.getElem?_append_right (by simp; omega)]
                simp only [Array.getElem?_replicate]
                split <;> rfl
              rw [this, List.getElem?_eq_none (by omega)]
              exact VR.undef φ
          · intro φ' fr' σ1 se e a' w' h1 h2 h3 h4 ⟨g1, g2, g3⟩
            subst g3
            have hfin : a'.defers = [] ∧ ∃ u, (results fn a'.tmps).run P w' = .ok u w' ∧ ∃ v' φ'', Ending.returned u = .returned v' ∧ φ.le φ'' ∧ VR φ'' v v' ∧ Rel φ'' σ1 w' := by
              refine ⟨h3.defers, ?_⟩
              unfold resOf at g2
              cases hrv : rvals r fr' σ1 with
              | none => rw [hrv] at g2; cases g2
              | some vals =>
                rw [hrv] at g2
                obtain ⟨us, k1, k2⟩ := results_ok (P := P) h4 h3 fn.results.toList r vals hres hrv
                have hrun : (results fn a'.tmps).run P w' = .ok (if h : us.toArray.size = 1 then us.toArray[0] else .tuple us.toArray) w' := by
                  have hrs : results fn a'.tmps = (fn.results.mapM (resSem a'.tmps)) >>= fun (vs : Array Value) => pure (if h : vs.size = 1 then vs[0] else .tuple vs) := rfl
                  rw [hrs]
                  simp only [Sem.run_bind]
                  rw [Array.mapM_eq_mapM_toList]
                  simp only [Sem.run_map]
                  rw [k1]
                  rfl
                refine ⟨_, hrun, _, φ', rfl, h1, ?_, h4⟩
                cases vals with
                | nil =>
                  cases k2; cases g2
                  exact VR.tup (vs := []) .nil
                | cons x l =>
                  cases l with
                  | nil =>
                    cases k2 with
                    | cons k3 k4 => cases k4; cases g2; simpa using k3
                  | cons y l =>
                    cases k2 with
                    | cons k3 k4 => cases k4 with
                      | cons k5 k6 =>
                        cases g2
                        rw [dif_neg (by simp)]
                        exact VR.tup (.cons k3 (.cons k5 k6))
            cases h2 with
            | normal => exact hfin
            | ret => exact hfin
            | exit id => simp [ends] at g1
      · cases hc
    · cases hc
  · cases hc

theorem acall_of_afun {f : FuncId} {args : List AVal} {σ σ' : Heap} {v : AVal} (h : AFun P f args σ v σ') (hf : ∃ fn, P.funcs[f]? = some fn ∧ fn.body.isSome = true ∧ (fn.name == "runtime.NumGoroutine") = false) : ACall P f args σ v σ' := by
  intro φ w vs hvs hr o a next Q hn
  obtain ⟨fn, h1, h2, h3⟩ := hf
  have hrun : (callFunc f vs.toArray).run P w = .ok (.enter f vs.toArray) w := by
    have hb : fn.body.isNone = false := by cases hfb : fn.body <;> simp_all
    have h3' : ¬ fn.name = "runtime.NumGoroutine" := by simpa using h3
    simp only [callFunc, Sem.run_bind, run_program, Result.andThen_ok, h1, h3, Bool.false_eq_true, if_false, hb, Sem.run_pure]
  rw [hrun]
  simp only [Oper.upon]
  refine (h φ w vs hvs hr).mono ?_
  rintro e w' ⟨v', φ', rfl, g1, g2, g3⟩
  exact hn φ' v' w' g1 g2 g3

def MSpec (P : Program) (f : FuncId) (args : List AVal) (σ : Heap) (R : AVal → Heap → Prop) : Prop := ∃ v σ', ACall P f args σ v σ' ∧ R v σ'
def FSpec (P : Program) (f : FuncId) (args : List AVal) (σ : Heap) (R : AVal → Heap → Prop) : Prop := ∃ v σ', AFun P f args σ v σ' ∧ R v σ'
theorem fspec_of_awp (hm : P.follows .mixedOrders = true) {f : FuncId} {sf : SFunc} (hc : cFunc P f = some sf) {args : List AVal} {σ : Heap} {R : AVal → Heap → Prop} (hlen : args.length ≤ sf.ntmps)
    (h : awp P sf.body (fun e fr σ1 => ends e = true ∧ ∃ v, resOf sf.results fr σ1 = some v ∧ R v σ1) (Frame.ofArgs 0 args) σ) : FSpec P f args σ R := by
  obtain ⟨e, f', s, ⟨h1, v, h2, h3⟩, h4⟩ := awp_out _ _ _ _ h
  obtain ⟨g1, g2⟩ := afun_of_awp hm hc (σ' := s) (v := v) hlen (h4 _ ⟨h1, h2, rfl⟩)
  exact ⟨v, s, g1, h3⟩
end
section
variable {P : Program} {Q : SExit → Frame → Heap → Prop} {K : Frame → Heap → Prop} {fr : Frame} {σ : Heap}
theorem w_skip : awp P .skip Q fr σ = Q .normal fr σ := Eq.trans rfl rfl
theorem w_seq (a b : SCode) : awp P (.seq a b) Q fr σ = awp P a (thn (awp P b Q) Q) fr σ := Eq.trans rfl rfl
theorem w_reg (ops : List SOper) : awp P (.reg none ops) Q fr σ = opswp P ops (Q .normal) fr σ := Eq.trans rfl rfl
theorem w_draw (tab : List Nat) (ops : List SOper) : awp P (.reg (some tab) ops) Q fr σ = drawwp P tab 0 ops [] (Q .normal) fr σ := Eq.trans rfl rfl
theorem w_regA (tab : List Nat) (ops : List SOper) : awp P (.regA tab ops) Q fr σ = Heap.resvE (resvs ops) (fun σ' => drawwp P tab 0 (instOps σ.next ops) [] (Q .normal) fr σ') σ := Eq.trans rfl rfl
theorem rE_nil (K : Heap → Prop) : Heap.resvE [] K σ = K σ := Eq.trans rfl rfl
theorem rE_some (zs : List AVal) (l : List (Option (List AVal))) (K : Heap → Prop) : Heap.resvE (some zs :: l) K σ = Heap.resvE l K (σ.new (.cells zs none)) := Eq.trans rfl rfl
theorem rE_none (l : List (Option (List AVal))) (K : Heap → Prop) : Heap.resvE (none :: l) K σ = ∃ zs, Heap.resvE l K (σ.new (.cells zs none)) := Eq.trans rfl rfl
theorem w_block (id : Nat) (c : SCode) : awp P (.block id c) Q fr σ = awp P c (inBlk id Q) fr σ := Eq.trans rfl rfl
theorem w_exit (id : Nat) : awp P (.exit id) Q fr σ = Q (.exit id) fr σ := Eq.trans rfl rfl
theorem w_ret : awp P .ret Q fr σ = Q .ret fr σ := Eq.trans rfl rfl
def goG (g : Option Bool) (A B : Heap → Prop) (σ : Heap) : Prop := match g with
  | some true => A σ
  | some false => B σ
  | none => False
theorem goG_true (A B : Heap → Prop) : goG (some true) A B σ = A σ := Eq.trans rfl rfl
theorem goG_false (A B : Heap → Prop) : goG (some false) A B σ = B σ := Eq.trans rfl rfl
def bOf : AVal → Option Bool
  | .bool b => some b
  | _ => none
theorem w_cond_go {c : Opd} {a b : SCode} : awp P (.cond c a b) Q fr σ = goG (bOf (c.ev fr)) (awp P a Q fr) (awp P b Q fr) σ := by
  simp only [awp]; cases c.ev fr with
  | bool b => cases b <;> rfl
  | _ => rfl
theorem thn_normal (A : Frame → Heap → Prop) : thn A Q .normal fr σ = A fr σ := Eq.trans rfl rfl
theorem thn_exit (A : Frame → Heap → Prop) (id : Nat) : thn A Q (.exit id) fr σ = Q (.exit id) fr σ := Eq.trans rfl rfl
theorem thn_ret (A : Frame → Heap → Prop) : thn A Q .ret fr σ = Q .ret fr σ := Eq.trans rfl rfl
theorem inBlk_normal (id : Nat) : inBlk id Q .normal fr σ = Q .normal fr σ := Eq.trans rfl rfl
theorem inBlk_ret (id : Nat) : inBlk id Q .ret fr σ = Q .ret fr σ := Eq.trans rfl rfl
theorem inBlk_exit (id j : Nat) : inBlk id Q (.exit j) fr σ = if j = id then Q .normal fr σ else Q (.exit j) fr σ := by
  simp only [inBlk]; split <;> rfl

theorem o_nil : opswp P [] K fr σ = K fr σ := Eq.trans rfl rfl
def go1 (r : Option (AVal × Heap)) (K : AVal → Heap → Prop) : Prop := match r with
  | some (v, σ) => K v σ
  | none => False
theorem go1_some (v : AVal) (σ : Heap) (K : AVal → Heap → Prop) : go1 (some (v, σ)) K = K v σ := Eq.trans rfl rfl
def goM (r : Option AVal) (σ : Heap) (K : AVal → Heap → Prop) : Prop := match r with
  | some v => K v σ
  | none => False
theorem goM_some (v : AVal) (σ : Heap) (K : AVal → Heap → Prop) : goM (some v) σ K = K v σ := Eq.trans rfl rfl
theorem go1_map (r : Option AVal) (σ : Heap) (K : AVal → Heap → Prop) : go1 (r.map fun v => (v, σ)) K = goM r σ K := by cases r <;> rfl
structure oNext (P : Program) (os : List SOper) (K : Frame → Heap → Prop) (fr : Frame) (d : Option Nat) (v : AVal) (σ : Heap) : Prop where
  out : opswp P os K (fr.putO d v) σ
theorem oNext_eq (os : List SOper) (d : Option Nat) (v : AVal) : oNext P os K fr d v σ = opswp P os K (fr.putO d v) σ := propext ⟨fun h => h.out, fun h => ⟨h⟩⟩
theorem oNext_fun (os : List SOper) (d : Option Nat) : oNext P os K fr d = fun v σ => opswp P os K (fr.putO d v) σ := by funext v σ; exact oNext_eq os d v
theorem o_plain (d : Option Nat) (op : SOp) (af : List Nat) (os : List SOper) (h : ∀ f l, op ≠ .call f l) : opswp P (⟨d, op, none, af⟩ :: os) K fr σ = go1 (aop op fr σ) (oNext P os K fr d) := by
  simp only [opswp, wantd, opwp, go1, oNext_fun] <;> (cases op <;> first | rfl | exact absurd rfl (h _ _))
theorem o_guard (d : Option Nat) (op : SOp) (t : Nat) (b : Bool) (af : List Nat) (os : List SOper) : opswp P (⟨d, op, some (t, b), af⟩ :: os) K fr σ =
    goG (wantd (some (t, b)) fr) (opswp P (⟨d, op, none, af⟩ :: os) K fr) (opswp P os K (fr.putO d .undef)) σ := by
  simp only [opswp, goG]
  have : wantd none fr = some true := rfl
  rw [this]
  cases wantd (some (t, b)) fr with
  | none => rfl
  | some c => cases c <;> rfl
def goF (P : Program) (f : AVal) (l : List AVal) (R : AVal → Heap → Prop) (σ : Heap) : Prop := match f with
  | .fn g caps => MSpec P g (l ++ caps) σ R
  | _ => False
theorem goF_fn (g : FuncId) (caps l : List AVal) (R : AVal → Heap → Prop) : goF P (.fn g caps) l R σ = MSpec P g (l ++ caps) σ R := Eq.trans rfl rfl
theorem o_call (d : Option Nat) (f : Opd) (l : List Opd) (af : List Nat) (os : List SOper) : opswp P (⟨d, .call f l, none, af⟩ :: os) K fr σ = goF P (f.ev fr) (evs fr l) (oNext P os K fr d) σ := by
  simp only [opswp, wantd, opwp, goF, MSpec, oNext_fun] <;> cases f.ev fr <;> rfl
theorem go1_congr {r r' : Option (AVal × Heap)} (K : AVal → Heap → Prop) (h : r = r') : go1 r K = go1 r' K := h ▸ rfl
theorem goM_congr {r r' : Option AVal} {σ : Heap} (K : AVal → Heap → Prop) (h : r = r') : goM r σ K = goM r' σ K := h ▸ rfl
theorem goG_congr {g g' : Option Bool} (A B : Heap → Prop) (σ : Heap) (h : g = g') : goG g A B σ = goG g' A B σ := h ▸ rfl

theorem cell_new (k off : Nat) : σ.cell (.new k) off = match σ.get k with
    | some (.cells cs _) => cs[off]?
    | some (.tcells _ cs) => cs[off]?
    | _ => none := Eq.trans rfl rfl
theorem wantd_get (t : Nat) (b : Bool) : wantd (some (t, b)) fr = match fr.get t with
    | .bool c => some (c == b)
    | .tup _ => some false
    | _ => none := by
  simp only [wantd]; cases fr.get t <;> rfl
theorem wantd_none : wantd none fr = some true := Eq.trans rfl rfl

theorem bare_next (W : World) (F : FB) : (⟨W, F, .nil, 0⟩ : Heap).next = 0 := Eq.trans rfl rfl


theorem putO_some (t : Nat) (v : AVal) : fr.putO (some t) v = fr.put t v := Eq.trans rfl rfl
theorem putO_none (v : AVal) : fr.putO none v = fr := Eq.trans rfl rfl
theorem ev_tmp (t : Nat) : Opd.ev fr (.tmp t) = fr.get t := Eq.trans rfl rfl
theorem ev_lit (a : AVal) : Opd.ev fr (.lit a) = a := Eq.trans rfl rfl
theorem evs_nil : evs fr [] = [] := Eq.trans rfl rfl
theorem evs_cons' (x : Opd) (l : List Opd) : evs fr (x :: l) = x.ev fr :: evs fr l := Eq.trans rfl rfl
theorem evO_none : evO fr none = none := Eq.trans rfl rfl
theorem evO_some (x : Opd) : evO fr (some x) = some (x.ev fr) := Eq.trans rfl rfl
theorem evParts_nil : evParts fr [] = [] := Eq.trans rfl rfl
theorem evParts_cons (i s : Nat) (x : Opd) (l : List (Nat × Nat × Opd)) : evParts fr ((i, s, x) :: l) = (i, s, x.ev fr) :: evParts fr l := Eq.trans rfl rfl

theorem MSpec.of {f : FuncId} {args : List AVal} {v : AVal} {σ' : Heap} {R : AVal → Heap → Prop} (h : ACall P f args σ v σ') (hr : R v σ') : MSpec P f args σ R := ⟨v, σ', h, hr⟩
theorem MSpec.mono {f : FuncId} {args : List AVal} {R R' : AVal → Heap → Prop} (h : MSpec P f args σ R) (hr : ∀ v σ', R v σ' → R' v σ') : MSpec P f args σ R' :=
  let ⟨v, σ', h1, h2⟩ := h; ⟨v, σ', h1, hr v σ' h2⟩
end
mutual
def AVal.pure : AVal → Bool
  | .ptr i _ => match i with
    | .old _ => true
    | .new _ => false
  | .slc i _ _ c => match i, c with
    | .old _, .ex _ => true
    | _, _ => false
  | .mp i => match i with
    | .old _ => true
    | .new _ => false
  | .fn _ l => AVal.pures l
  | .agg l => AVal.pures l
  | .tup l => AVal.pures l
  | .fsl _ l => AVal.pures l
  | .fptr l => AVal.pures l
  | _ => true
def AVal.pures : List AVal → Bool
  | [] => true
  | a :: l => a.pure && AVal.pures l
end
theorem pures_iff : ∀ {l : List AVal}, AVal.pures l = true ↔ ∀ a ∈ l, a.pure = true
  | [] => by simp [AVal.pures]
  | a :: l => by simp [AVal.pures, pures_iff (l := l)]
theorem cells_pure {a : AVal} (h : a.pure = true) : AVal.pures a.cells = true := by
  cases a with
  | agg l => simpa [AVal.cells, AVal.pure] using h
  | _ => simp only [AVal.cells, AVal.pures, h, Bool.and_true]
theorem flat_pures {els : List AVal} (h : AVal.pures els = true) : AVal.pures (els.flatMap AVal.cells) = true := by
  rw [pures_iff] at *
  intro a ha
  rw [List.mem_flatMap] at ha
  obtain ⟨e, he, ha⟩ := ha
  exact pures_iff.1 (cells_pure (h e he)) a ha
theorem VR.pure {φ φ' : Phi} (hF : ∀ b j v, φ.F b j = some v → φ'.F b j = some v) {a : AVal} {v : Value} (h : VR φ a v) : a.pure = true → VR φ' a v := by
  refine VR.rec (motive_1 := fun a v _ => a.pure = true → VR φ' a v) (motive_2 := fun l vs _ => AVal.pures l = true → VRs φ' l vs) ?_ ?_ ?_ ?_ ?_ ?_ ?_ ?_ ?_ ?_ ?_ ?_ ?_ ?_ ?_ ?_ ?_ ?_ ?_ ?_ ?_ ?_ h
  · exact fun b _ => .bool b
  · exact fun k n _ => .int k n
  · exact fun s _ => .str s
  · exact fun _ => .nilp
  · intro i b off e hp
    cases i with
    | old b' => exact .ptr off e
    | new k => simp [AVal.pure] at hp
  · exact fun _ => .nils
  · intro i b off len c e hp
    cases i with
    | old b' => exact .slcE off len c e
    | new k => simp [AVal.pure] at hp
  · intro k' b sz k off len c e hs hl hp
    simp [AVal.pure] at hp
  · exact fun a c _ => .emp a c
  · exact fun _ => .nilm
  · intro i b e hp
    cases i with
    | old b' => exact .mp e
    | new k => simp [AVal.pure] at hp
  · exact fun _ => .nilf
  · exact fun f _ _ _ ih hp => .fn f (ih (by simpa [AVal.pure] using hp))
  · exact fun _ ih hp => .agg (ih (by simpa [AVal.pure] using hp))
  · exact fun _ ih hp => .tup (ih (by simpa [AVal.pure] using hp))
  · exact fun v _ => .raw v
  · exact fun c _ hh he hc ih hp => .fsl c (ih (flat_pures (by simpa [AVal.pure] using hp))) (fun j v e => hF _ _ _ (hh j v e)) he hc
  · exact fun k a c h _ => .fslN k a c h
  · exact fun _ hh ih hp => .fptr (ih (by simpa [AVal.pure] using hp)) (fun j v e => hF _ _ _ (hh j v e))
  · exact fun a _ => .emp0 a
  · exact fun _ => .nil
  · intro a v l vs _ _ ih1 ih2 hp
    simp only [AVal.pures, Bool.and_eq_true] at hp
    exact .cons (ih1 hp.1) (ih2 hp.2)
theorem VRs.pure {φ φ' : Phi} (hF : ∀ b j v, φ.F b j = some v → φ'.F b j = some v) : ∀ {l : List AVal} {vs : List Value}, VRs φ l vs → AVal.pures l = true → VRs φ' l vs
  | [], _, h, _ => by cases h; exact .nil
  | a :: l, _, h, hp => by
    cases h with
    | cons h1 h2 =>
      simp only [AVal.pures, Bool.and_eq_true] at hp
      exact .cons (h1.pure hF hp.1) (VRs.pure hF h2 hp.2)

def Heap.bare (W : World) (F : FB) : Heap := ⟨W, F, .nil, 0⟩
theorem rel_bare (w : World) (F : FB) (hF : ∀ b j v, F.f b j = some v → w.cell? ⟨b, j, none⟩ = some v) : Rel (Phi.bare F.f) (Heap.bare w F) w where
  size := Nat.le_refl _
  old := fun _ _ => rfl
  new := fun k b sz h => by cases h
  inj := fun k k' b sz sz' h => by cases h
  fresh := fun _ _ => rfl
  resv := fun _ h => h.elim
  tape := rfl
  os := rfl
  output := rfl
  frz := hF
  apart := fun k b sz j h => by cases h
  base := fun _ _ _ _ h => h
  drawn := fun _ => Nat.le_refl _

def Sees (σ : Heap) (u : AVal) (τ : Heap) (v : AVal) : Prop := ∀ φ w x, VR φ u x → Rel φ σ w → ∃ φ' : Phi, φ.le φ' ∧ VR φ' v x ∧ Rel φ' τ w
def SeesL (σ : Heap) (l : List AVal) (τ : Heap) (l' : List AVal) : Prop := ∀ φ w xs, VRs φ l xs → Rel φ σ w → ∃ φ' : Phi, φ.le φ' ∧ VRs φ' l' xs ∧ Rel φ' τ w
theorem Sees.refl (σ : Heap) (u : AVal) : Sees σ u σ u := fun φ w x hx hr => ⟨φ, φ.le_refl, hx, hr⟩
theorem SeesL.nil (σ : Heap) : SeesL σ [] σ [] := fun φ w x hx hr => ⟨φ, φ.le_refl, hx, hr⟩
theorem SeesL.cons {σ σ1 τ : Heap} {a a' : AVal} {l l' : List AVal} (h : Sees σ a σ1 a') (h' : SeesL σ1 l τ l') : SeesL σ (a :: l) τ (a' :: l') := by
  intro φ w xs hx hr
  cases hx with
  | cons h1 h2 =>
    obtain ⟨φ1, g1, g2, g3⟩ := h φ w _ h1 hr
    obtain ⟨φ2, k1, k2, k3⟩ := h' φ1 w _ (h2.mono g1) g3
    exact ⟨φ2, Phi.le_trans g1 k1, .cons (g2.mono k1) k2, k3⟩
theorem SeesL.tup {σ τ : Heap} {l l' : List AVal} (h : SeesL σ l τ l') : Sees σ (.tup l) τ (.tup l') := by
  intro φ w x hx hr
  cases hx with
  | tup hx => obtain ⟨φ1, g1, g2, g3⟩ := h φ w _ hx hr; exact ⟨φ1, g1, .tup g2, g3⟩
theorem SeesL.agg {σ τ : Heap} {l l' : List AVal} (h : SeesL σ l τ l') : Sees σ (.agg l) τ (.agg l') := by
  intro φ w x hx hr
  cases hx with
  | agg hx => obtain ⟨φ1, g1, g2, g3⟩ := h φ w _ hx hr; exact ⟨φ1, g1, .agg g2, g3⟩
theorem Sees.nils (σ : Heap) (k : Nat) : Sees σ .nils σ (.fsl k []) := by
  intro φ w x hx hr; cases hx; exact ⟨φ, φ.le_refl, .fslN _ _ _ (fun _ => rfl), hr⟩
theorem Sees.emp (σ : Heap) (k : Nat) : Sees σ .emp σ (.fsl k []) := by
  intro φ w x hx hr; cases hx; exact ⟨φ, φ.le_refl, .fslN _ _ _ (fun h => by cases h), hr⟩
theorem Sees.emp0 (σ : Heap) (k : Nat) : Sees σ .emp0 σ (.fsl k []) := by
  intro φ w x hx hr; cases hx; exact ⟨φ, φ.le_refl, .fslN _ _ _ (fun _ => rfl), hr⟩
theorem Sees.k0 (σ : Heap) (k k' : Nat) : Sees σ (.fsl k []) σ (.fsl k' []) := by
  intro φ w x hx hr
  cases hx with
  | fslN _ a c h => exact ⟨φ, φ.le_refl, .fslN _ _ _ h, hr⟩
  | fsl c h1 h2 h3 h4 => exact ⟨φ, φ.le_refl, .fslN _ _ _ (fun h => by cases h), hr⟩

theorem freeze_ok {φ : Phi} {σ : Heap} {w : World} (hr : Rel φ σ w) {K b sz : Nat} {cs : List AVal} {opn : Option TypeId} (hK : φ K = some (b, sz)) (hg : σ.get K = some (.cells cs opn)) :
    ∃ φ' : Phi, φ.le φ' ∧ Rel φ' (σ.set K .dead) w ∧ ∃ vs : List Value, VRs φ' cs vs ∧ φ'.holds b 0 vs := by
  obtain ⟨cs', T, fz, ho, h1, h2, h3, hT, h4, h5⟩ := hr.block hK hg
  have hlive : σ.live K := ⟨_, hg, by intro h; cases h⟩
  have hnone := fun j => hr.apart K b sz j hK hlive
  let φ' : Phi := ⟨φ.m, φ.res, fun b' j => if b' = b then (if j < cs.length then w.cell? ⟨b, j, none⟩ else none) else φ.F b' j⟩
  have hsub : φ.sub φ' := by
    refine ⟨fun k x e => e, fun b' j v e => ?_⟩
    have : b' ≠ b := by rintro rfl; rw [hnone] at e; cases e
    show (if b' = b then _ else φ.F b' j) = some v
    rw [if_neg this]; exact e
  have hkill := hr.kill K
  have hcell : ∀ j, w.cell? ⟨b, j, none⟩ = cs'[j]? := fun j => cell?_cells ho j
  refine ⟨φ', ⟨hsub, rfl⟩, ⟨hkill.size, hkill.old, ?_, hkill.inj, hkill.fresh, hkill.resv, hkill.tape, hkill.os, hkill.output, ?_, ?_, ?_, hkill.drawn⟩, cs'.toList.take cs.length, VRs.mono0 hsub h4, ?_⟩
  · intro k b' sz' e
    obtain ⟨g1, o, g2, g3⟩ := hkill.new k b' sz' e
    exact ⟨g1, o, g2, fun blk hb => (g3 blk hb).mono0 hsub⟩
  · intro b' j v e
    have e : (if b' = b then (if j < cs.length then w.cell? ⟨b, j, none⟩ else none) else φ.F b' j) = some v := e
    split at e
    · rename_i hb
      subst hb
      split at e
      · exact e
      · cases e
    · exact hr.frz b' j v e
  · intro k b' sz' j e hl
    show (if b' = b then _ else φ.F b' j) = none
    have hne : b' ≠ b := by
      rintro rfl
      obtain ⟨x, hx, hd⟩ := hl
      rw [Heap.get_set] at hx
      split at hx
      · cases hx; exact hd rfl
      · rename_i hne
        exact hne (hr.inj K k b' sz sz' hK e hlive ⟨x, hx, hd⟩)
    rw [if_neg hne]
    exact hkill.apart k b' sz' j e hl
  · intro b' j v hb e
    have e : (if b' = b then (if j < cs.length then w.cell? ⟨b, j, none⟩ else none) else φ.F b' j) = some v := e
    have := (hr.new K b sz hK).1
    have hb : b' < σ.W.heap.size := hb
    rw [if_neg (by omega)] at e
    exact hr.base b' j v hb e
  · intro j v e
    show (if b = b then (if 0 + j < cs.length then w.cell? ⟨b, 0 + j, none⟩ else none) else φ.F b (0 + j)) = some v
    have hj : j < cs.length := by
      have := (List.getElem?_eq_some_iff.1 e).1
      rw [List.length_take] at this; omega
    rw [if_pos rfl, Nat.zero_add, if_pos hj, hcell]
    have := take_getElem? _ _ _ _ e
    simpa using this
theorem Sees.own {σ : Heap} {K off n : Nat} {cap : Cap} {cs : List AVal} {opn : Option TypeId} {k : Nat} {els : List AVal} (hg : σ.get K = some (.cells cs opn)) (hn : els.length = n) (he : ∀ e ∈ els, e.cells.length = k)
    (hc : els.flatMap AVal.cells = (cs.drop off).take (n * k)) (hcap : ∀ c, cap = .ex c → n ≤ c) : Sees σ (.slc (.new K) off n cap) (σ.set K .dead) (.fsl k els) := by
  intro φ w x hx hr
  have key : ∀ b sz c, φ K = some (b, sz) → n ≤ c → ∃ φ' : Phi, φ.le φ' ∧ VR φ' (.fsl k els) (.slice (some ⟨b, off, none⟩) n c) ∧ Rel φ' (σ.set K .dead) w := by
    intro b sz c hK hnc
    obtain ⟨φ', g1, g2, vs, g3, g4⟩ := freeze_ok hr hK hg
    refine ⟨φ', g1, ?_, g2⟩
    subst hn
    refine .fsl (vs := (vs.drop off).take (els.length * k)) c ?_ ?_ he hnc
    · rw [hc]; exact (g3.drop _).take _
    · intro j v e
      have e := take_getElem? _ _ _ _ e
      rw [List.getElem?_drop] at e
      have := g4 _ v e
      rwa [Nat.zero_add] at this
  cases hx with
  | slcE _ _ c hi =>
    simp only [Id.real, Option.map_eq_some_iff] at hi
    obtain ⟨⟨b, sz⟩, hK, rfl⟩ := hi
    exact key b sz c hK (hcap c rfl)
  | slcG _ _ c hK hs hl => exact key _ _ c hK hl

def HSees (σ τ : Heap) : Prop := ∀ φ w, Rel φ σ w → ∃ φ' : Phi, φ.le φ' ∧ Rel φ' τ w
theorem HSees.refl (σ : Heap) : HSees σ σ := fun φ w hr => ⟨φ, φ.le_refl, hr⟩
theorem HSees.trans {σ τ ρ : Heap} (h : HSees σ τ) (h' : HSees τ ρ) : HSees σ ρ := fun φ w hr => by
  obtain ⟨φ1, g1, g2⟩ := h φ w hr
  obtain ⟨φ2, k1, k2⟩ := h' φ1 w g2
  exact ⟨φ2, Phi.le_trans g1 k1, k2⟩
theorem Sees.trans {σ τ ρ : Heap} {u v z : AVal} (h : Sees σ u τ v) (h' : Sees τ v ρ z) : Sees σ u ρ z := fun φ w x hx hr => by
  obtain ⟨φ1, g1, g2, g3⟩ := h φ w x hx hr
  obtain ⟨φ2, k1, k2, k3⟩ := h' φ1 w x g2 g3
  exact ⟨φ2, Phi.le_trans g1 k1, k2, k3⟩
theorem Sees.cell {σ σ1 : Heap} {K off n j : Nat} {cap : Cap} {cs : List AVal} {opn : Option TypeId} {x x' : AVal} (hg : σ.get K = some (.cells cs opn)) (hj : cs[j]? = some x) (hs : Sees σ x σ1 x') (hg1 : σ1.get K = some (.cells cs opn)) :
    Sees σ (.slc (.new K) off n cap) (σ1.set K (.cells (cs.set j x') opn)) (.slc (.new K) off n cap) := by
  intro φ w xx hxx hr
  obtain ⟨b, sz, hK⟩ : ∃ b sz, φ K = some (b, sz) := by
    cases hxx with
    | slcE _ _ c hi =>
      simp only [Id.real, Option.map_eq_some_iff] at hi
      obtain ⟨⟨b, sz⟩, hK, _⟩ := hi
      exact ⟨b, sz, hK⟩
    | slcG _ _ c hK _ _ => exact ⟨_, _, hK⟩
  obtain ⟨cs', T, fz, ho, h1, h2, h3, hT, h4, h5⟩ := hr.block hK hg
  obtain ⟨v, hv, hvr⟩ := h4.get j x hj
  obtain ⟨φ1, g1, g2, g3⟩ := hs φ w v hvr hr
  have hK1 : φ1 K = some (b, sz) := g1.1.1 _ _ hK
  refine ⟨φ1, g1, hxx.mono g1, ?_⟩
  refine g3.change hK1 hg1 (by intro h; cases h) (o := .cells cs' T fz) (fun b' => ?_) rfl rfl rfl rfl (Nat.le_refl _) ?_
  · split
    · rename_i hb; rw [hb]; exact ho
    · rfl
  · refine .cells h1 (by simpa using h2) (by simpa using h3) hT ?_ h5
    rw [List.length_set]
    have h4' := (h4.mono g1).set j g2
    rwa [show (cs'.toList.take cs.length).set j v = cs'.toList.take cs.length from by
      apply List.ext_getElem?
      intro i
      by_cases hi : i = j
      · subst hi
        rw [List.getElem?_set_self (List.getElem?_eq_some_iff.1 hv).1, hv]
      · rw [List.getElem?_set_ne (fun h => hi h.symm)]] at h4'

theorem acall_bare' {P : Program} {f : FuncId} {args : List AVal} {v : AVal} (ha : AVal.pures args = true) (hv : v.pure = true) (σ : Heap)
    (h : ∀ W F, ∃ u σ', ACall P f args (Heap.bare W ⟨F, σ.F0.dr⟩) u σ' ∧ ∃ τ, Sees σ' u τ v ∧ τ.W = W ∧ τ.F0 = ⟨F, σ.F0.dr⟩) : ACall P f args σ v σ := by
  intro φ w vs hvs hr o a next Q hn
  obtain ⟨u, σ', hc, τ, hs, hW, hF⟩ := h w φ.F
  refine hc (Phi.bare φ.F) w vs (VRs.pure (φ := φ) (φ' := Phi.bare φ.F) (fun _ _ _ e => e) hvs ha) (rel_bare w ⟨φ.F, σ.F0.dr⟩ hr.frz) o a next Q ?_
  intro φ1 v' w' hle hv' hr'
  obtain ⟨φ2, hle2, hv2, hr2⟩ := hs φ1 w' v' hv' hr'
  have hFF : ∀ b j x, φ.F b j = some x → φ2.F b j = some x := fun b j x e => hle2.1.2 _ _ _ (hle.1.2 _ _ _ e)
  have hsz : w.heap.size ≤ w'.heap.size := by rw [← hW]; exact hr2.size
  have keep : ∀ b, b < w.heap.size → w'.heap[b]? = w.heap[b]? := by
    intro b hb; rw [← hW] at hb ⊢; exact hr2.old b hb
  let φ3 : Phi := ⟨φ.m, φ.res, φ2.F⟩
  have hsub : φ.sub φ3 := ⟨fun _ _ e => e, hFF⟩
  refine hn φ3 v' w' ⟨hsub, rfl⟩ (VR.pure (φ := φ2) (φ' := φ3) (fun _ _ _ e => e) hv2 hv) ?_
  refine ⟨Nat.le_trans hr.size hsz, fun b hb => ?_, fun k b sz hk => ?_, hr.inj, hr.fresh, hr.resv, ?_, ?_, ?_, hr2.frz, ?_, ?_, ?_⟩
  · rw [keep b (Nat.lt_of_lt_of_le hb hr.size)]; exact hr.old b hb
  · obtain ⟨h1, o, h2, h3⟩ := hr.new k b sz hk
    refine ⟨h1, o, ?_, fun blk hb => (h3 blk hb).mono0 hsub⟩
    rw [keep b (hr.lt hk)]; exact h2
  · have := hr2.tape; rw [hW] at this; exact this.trans hr.tape
  · have := hr2.os; rw [hW] at this; exact this.trans hr.os
  · have := hr2.output; rw [hW] at this; exact this.trans hr.output
  · intro k b sz j hk hl
    show φ2.F b j = none
    cases hx : φ2.F b j with
    | none => rfl
    | some x =>
      have := hr2.base b j x (by rw [hW]; exact hr.lt hk) hx
      rw [hF] at this
      have this : φ.F b j = some x := this
      rw [hr.apart k b sz j hk hl] at this
      cases this
  · intro b j x hb hx
    have := hr2.base b j x (by rw [hW]; exact Nat.lt_of_lt_of_le hb hr.size) hx
    rw [hF] at this
    exact hr.base b j x hb this
  · intro h
    have h1 := hr2.drawn (by rw [hF]; exact h)
    rw [hW] at h1
    exact Nat.le_trans (hr.drawn h) h1
mutual
def AVal.within (D : Nat → Bool) : AVal → Bool
  | .ptr i _ => match i with
    | .old _ => true
    | .new k => D k
  | .slc i _ _ _ => match i with
    | .old _ => true
    | .new k => D k
  | .mp i => match i with
    | .old _ => true
    | .new k => D k
  | .fn _ l => AVal.withins D l
  | .agg l => AVal.withins D l
  | .tup l => AVal.withins D l
  | .fsl _ l => AVal.withins D l
  | .fptr l => AVal.withins D l
  | _ => true
def AVal.withins (D : Nat → Bool) : List AVal → Bool
  | [] => true
  | a :: l => a.within D && AVal.withins D l
end
theorem withins_iff {D : Nat → Bool} : ∀ {l : List AVal}, AVal.withins D l = true ↔ ∀ a ∈ l, a.within D = true
  | [] => by simp [AVal.withins]
  | a :: l => by simp [AVal.withins, withins_iff (l := l)]
theorem within_cells {D : Nat → Bool} {a : AVal} : AVal.withins D a.cells = true ↔ a.within D = true := by
  cases a with
  | agg l => simp [AVal.cells, AVal.within]
  | _ => simp only [AVal.cells, AVal.withins, Bool.and_true]
theorem flat_withins {D : Nat → Bool} {els : List AVal} : AVal.withins D (els.flatMap AVal.cells) = true ↔ AVal.withins D els = true := by
  rw [withins_iff, withins_iff]
  constructor
  · intro h e he
    rw [← within_cells, withins_iff]
    exact fun a ha => h a (List.mem_flatMap.2 ⟨e, he, ha⟩)
  · intro h a ha
    obtain ⟨e, he, ha⟩ := List.mem_flatMap.1 ha
    exact withins_iff.1 (within_cells.2 (h e he)) a ha
theorem VR.within {φ : Phi} {D : Nat → Bool} (hn : ∀ k x, φ k = some x → D k = true) {a : AVal} {v : Value} (h : VR φ a v) : a.within D = true := by
  have real : ∀ (i : Id) (b : Nat), i.real φ = some b → (match i with | .old _ => true | .new k => D k) = true := by
    intro i b e
    cases i with
    | old _ => rfl
    | new k =>
      simp only [Id.real, Option.map_eq_some_iff] at e
      obtain ⟨x, hx, _⟩ := e
      exact hn k x hx
  refine VR.rec (motive_1 := fun a v _ => a.within D = true) (motive_2 := fun l vs _ => AVal.withins D l = true) ?_ ?_ ?_ ?_ ?_ ?_ ?_ ?_ ?_ ?_ ?_ ?_ ?_ ?_ ?_ ?_ ?_ ?_ ?_ ?_ ?_ ?_ h
  · exact fun b => rfl
  · exact fun k n => rfl
  · exact fun s => rfl
  · exact rfl
  · intro i b off e; simp only [AVal.within]; exact real i b e
  · exact rfl
  · intro i b off len c e; simp only [AVal.within]; exact real i b e
  · intro k' b sz k off len c e hs hl; simp only [AVal.within]; exact real (.new k') b (by simp [Id.real, e])
  · exact fun a c => rfl
  · exact rfl
  · intro i b e; simp only [AVal.within]; exact real i b e
  · exact rfl
  · intro f l vs _ ih; simpa only [AVal.within] using ih
  · intro l vs _ ih; simpa only [AVal.within] using ih
  · intro l vs _ ih; simpa only [AVal.within] using ih
  · exact fun v => rfl
  · intro k els vs b off c _ _ _ _ ih; simp only [AVal.within]; exact flat_withins.1 ih
  · exact fun k a c _ => rfl
  · intro cs vs b off _ _ ih; simpa only [AVal.within] using ih
  · exact fun a => rfl
  · exact rfl
  · intro a v l vs _ _ ih1 ih2; simp only [AVal.withins, ih1, ih2, Bool.and_true]
def Phi.cut (φ : Phi) (D : Nat → Bool) (R : Nat → Prop) : Phi := ⟨fun k => if D k = true then φ.m k else none, R, φ.F⟩
theorem VR.cut {φ : Phi} {D : Nat → Bool} {R : Nat → Prop} {a : AVal} {v : Value} (h : VR φ a v) : a.within D = true → VR (φ.cut D R) a v := by
  have real : ∀ (i : Id) (b : Nat), i.real φ = some b → (match i with | .old _ => true | .new k => D k) = true → i.real (φ.cut D R) = some b := by
    intro i b e hb
    cases i with
    | old _ => exact e
    | new k =>
      have hb : D k = true := hb
      simp only [Id.real, Phi.cut, if_pos hb]; exact e
  refine VR.rec (motive_1 := fun a v _ => a.within D = true → VR (φ.cut D R) a v) (motive_2 := fun l vs _ => AVal.withins D l = true → VRs (φ.cut D R) l vs) ?_ ?_ ?_ ?_ ?_ ?_ ?_ ?_ ?_ ?_ ?_ ?_ ?_ ?_ ?_ ?_ ?_ ?_ ?_ ?_ ?_ ?_ h
  · exact fun b _ => .bool b
  · exact fun k n _ => .int k n
  · exact fun s _ => .str s
  · exact fun _ => .nilp
  · intro i b off e hp; simp only [AVal.within] at hp; exact .ptr off (real i b e hp)
  · exact fun _ => .nils
  · intro i b off len c e hp; simp only [AVal.within] at hp; exact .slcE off len c (real i b e hp)
  · intro k' b sz k off len c e hs hl hp
    have hp : D k' = true := hp
    exact .slcG (b := b) (sz := sz) off len c (by show (if D k' = true then φ.m k' else none) = some (b, sz); rw [if_pos hp]; exact e) hs hl
  · exact fun a c _ => .emp a c
  · exact fun _ => .nilm
  · intro i b e hp; simp only [AVal.within] at hp; exact .mp (real i b e hp)
  · exact fun _ => .nilf
  · intro f l vs _ ih hp; simp only [AVal.within] at hp; exact .fn f (ih hp)
  · intro l vs _ ih hp; simp only [AVal.within] at hp; exact .agg (ih hp)
  · intro l vs _ ih hp; simp only [AVal.within] at hp; exact .tup (ih hp)
  · exact fun v _ => .raw v
  · intro k els vs b off c _ hh he hc ih hp; simp only [AVal.within] at hp; exact .fsl c (ih (flat_withins.2 hp)) hh he hc
  · exact fun k a c h _ => .fslN k a c h
  · intro cs vs b off _ hh ih hp; simp only [AVal.within] at hp; exact .fptr (ih hp) hh
  · exact fun a _ => .emp0 a
  · exact fun _ => .nil
  · intro a v l vs _ _ ih1 ih2 hp
    simp only [AVal.withins, Bool.and_eq_true] at hp
    exact .cons (ih1 hp.1) (ih2 hp.2)
theorem VRs.within {φ : Phi} {D : Nat → Bool} (hn : ∀ k x, φ k = some x → D k = true) : ∀ {l : List AVal} {vs : List Value}, VRs φ l vs → AVal.withins D l = true
  | [], _, _ => rfl
  | _ :: _, _, h => by cases h with | cons h1 h2 => simp only [AVal.withins, h1.within hn, VRs.within hn h2, Bool.and_true]
theorem VRs.cut {φ : Phi} {D : Nat → Bool} {R : Nat → Prop} : ∀ {l : List AVal} {vs : List Value}, VRs φ l vs → AVal.withins D l = true → VRs (φ.cut D R) l vs
  | [], _, h, _ => by cases h; exact .nil
  | _ :: _, _, h, hp => by
    cases h with
    | cons h1 h2 =>
      simp only [AVal.withins, Bool.and_eq_true] at hp
      exact .cons (h1.cut hp.1) (VRs.cut h2 hp.2)
theorem EntRel.within {φ : Phi} {D : Nat → Bool} (hn : ∀ k x, φ k = some x → D k = true) {es : List (Int × AVal)} {es' : List MapEntry} (h : EntRel φ es es') : ∀ p ∈ es, p.2.within D = true := by
  induction h with
  | nil => intro p hp; cases hp
  | cons h1 h2 _ ih =>
    intro p hp
    cases hp with
    | head => exact h2.within hn
    | tail _ hp => exact ih p hp
theorem EntRel.cut {φ : Phi} {D : Nat → Bool} {R : Nat → Prop} {es : List (Int × AVal)} {es' : List MapEntry} (h : EntRel φ es es') (hp : ∀ p ∈ es, p.2.within D = true) : EntRel (φ.cut D R) es es' := by
  induction h with
  | nil => exact .nil
  | cons h1 h2 _ ih => exact .cons h1 (h2.cut (hp _ (List.mem_cons_self ..))) (ih fun p hq => hp p (List.mem_cons_of_mem _ hq))
theorem BRel.cut {φ φ0 : Phi} {D : Nat → Bool} {R : Nat → Prop} (hn : ∀ k x, φ0 k = some x → D k = true) {sz sz0 : Nat} {b : ABlk} {o o0 : Obj} (h0 : BRel φ0 sz0 b o0) (h : BRel φ sz b o) : BRel (φ.cut D R) sz b o := by
  cases h with
  | cells h1 h2 h3 hT h4 h5 => cases h0 with | cells _ _ _ _ g4 _ => exact .cells h1 h2 h3 hT (h4.cut (g4.within hn)) h5
  | map hm hs => cases h0 with
    | map gm _ =>
      obtain ⟨g1, es0, g2, g3⟩ := gm
      obtain ⟨m1, es1, m2, m3⟩ := hm
      refine .map ⟨m1, es1, m2, m3.cut fun p hp => ?_⟩ hs
      exact g3.within hn p (g2.mem_iff.2 (m2.mem_iff.1 hp))
  | iter s pos => exact .iter s pos
  | dead o => exact .dead o
  | tcells h1 h2 h3 => cases h0 with | tcells _ g2 _ => exact .tcells h1 (h2.cut (g2.within hn)) h3
  | exact o => exact .exact o
def Keeps (S : Nat → Prop) (σ σ' : Heap) : Prop := σ'.W = σ.W ∧ ∀ k, S k → σ'.get k = σ.get k
theorem Keeps.rfl {S : Nat → Prop} {σ : Heap} : Keeps S σ σ := ⟨Eq.refl _, fun _ _ => Eq.refl _⟩
theorem Keeps.trans {S : Nat → Prop} {σ σ' σ'' : Heap} (h : Keeps S σ σ') (h' : Keeps S σ' σ'') : Keeps S σ σ'' := ⟨h'.1.trans h.1, fun k hk => (h'.2 k hk).trans (h.2 k hk)⟩
theorem Keeps.symm {S : Nat → Prop} {σ σ' : Heap} (h : Keeps S σ σ') : Keeps S σ' σ := ⟨h.1.symm, fun k hk => (h.2 k hk).symm⟩

def okId (S : Nat → Prop) : AVal → Prop
  | .ptr (.new k) _ => S k
  | .slc (.new k) _ _ _ => S k
  | .mp (.new k) => S k
  | _ => True
def Reads (S : Nat → Prop) (o : SOp) (fr : Frame) : Prop := match o with
  | .load _ x => okId S (x.ev fr)
  | .look _ _ x _ => okId S (x.ev fr)
  | .lenM x => okId S (x.ev fr)
  | .bstr x => okId S (x.ev fr)
  | .lay k _ => S k
  | .layB k _ _ _ _ => S k
  | _ => False
section
variable (P : Program)
def gdo (S : Nat → Prop) (k : Kind) (m : Bool) (op : SOp) (fr : Frame) (K : AVal → Heap → Prop) (σ : Heap) : Prop := match k with
  | .pure => go1 (aop op fr σ) fun v _ => K v σ
  | .read => go1 (aop op fr σ) fun v _ => (m = true ∨ Reads S op fr) ∧ K v σ
  | .eff => opwp P op fr σ fun v σ' => (m = true ∨ Keeps S σ σ') ∧ K v σ'
def growwp (S : Nat → Prop) : List Bool → List SOper → (Frame → Heap → Prop) → Frame → Heap → Prop
  | _, [], K, fr, σ => K fr σ
  | [], _ :: _, _, _, _ => False
  | m :: ms, o :: os, K, fr, σ => goG (wantd o.guard fr) (gdo P S o.op.kind m o.op fr fun v σ' => growwp S ms os K (fr.putO o.dst v) σ') (growwp S ms os K (fr.putO o.dst .undef)) σ
end
def notPure (o : SOper) : Bool := !decide (o.op.kind = .pure)
def Past (S : Nat → Prop) (tab : List Nat) (ms : List Bool) (ops : List SOper) (σ : Heap) (i : Nat) (past : List Ev) : Prop :=
  ∀ e ∈ past, e.i < i ∧ (∃ y, ops[e.i]? = some y ∧ y.op = e.o ∧ notPure y = true) ∧ ((∀ j y, i ≤ j → ops[j]? = some y → notPure y = true → bef tab j e.i = true) ∨
    (Keeps S e.σ σ ∧ (isEff e.o = false → ms[e.i]? = some true ∨ (Reads S e.o e.fr ∧ aop e.o e.fr e.σ = some (e.v, e.σ)))))
theorem Past.step {S : Nat → Prop} {tab : List Nat} {ms : List Bool} {ops : List SOper} {σ σ' : Heap} {i : Nat} {past : List Ev} (h : Past S tab ms ops σ i past) (hk : Keeps S σ σ') : Past S tab ms ops σ' (i + 1) past := by
  intro e he
  obtain ⟨h1, h2, h3⟩ := h e he
  refine ⟨Nat.lt_succ_of_lt h1, h2, ?_⟩
  rcases h3 with h3 | ⟨h3, h4⟩
  · exact .inl fun j y hj => h3 j y (by omega)
  · exact .inr ⟨h3.trans hk, h4⟩
section
variable {P : Program} {S : Nat → Prop} {K : Frame → Heap → Prop} {fr : Frame} {σ : Heap}
structure gNext (P : Program) (S : Nat → Prop) (ms : List Bool) (os : List SOper) (K : Frame → Heap → Prop) (fr : Frame) (d : Option Nat) (v : AVal) (σ : Heap) : Prop where
  out : growwp P S ms os K (fr.putO d v) σ
theorem gNext_eq (ms : List Bool) (os : List SOper) (d : Option Nat) (v : AVal) : gNext P S ms os K fr d v σ = growwp P S ms os K (fr.putO d v) σ := propext ⟨fun h => h.out, fun h => ⟨h⟩⟩
theorem gNext_fun (ms : List Bool) (os : List SOper) (d : Option Nat) : gNext P S ms os K fr d = fun v σ => growwp P S ms os K (fr.putO d v) σ := by funext v σ; exact gNext_eq ms os d v
theorem g_nil (ms : List Bool) : growwp P S ms [] K fr σ = K fr σ := by cases ms <;> rfl
theorem g_cons (m : Bool) (ms : List Bool) (d : Option Nat) (op : SOp) (g : Option (Nat × Bool)) (af : List Nat) (os : List SOper) : growwp P S (m :: ms) (⟨d, op, g, af⟩ :: os) K fr σ =
    goG (wantd g fr) (gdo P S op.kind m op fr (gNext P S ms os K fr d)) (growwp P S ms os K (fr.putO d .undef)) σ := by rw [gNext_fun]; rfl
def goV (r : Option (AVal × Heap)) (N : Prop) (K : AVal → Heap → Prop) (σ : Heap) : Prop := match r with
  | some (v, _) => N ∧ K v σ
  | none => False
theorem goV_some (v : AVal) (σ' : Heap) (N : Prop) (K : AVal → Heap → Prop) : goV (some (v, σ')) N K σ = (N ∧ K v σ) := Eq.trans rfl rfl
theorem goV_congr {r r' : Option (AVal × Heap)} {N N' : Prop} (K : AVal → Heap → Prop) (σ : Heap) (h : r = r') (hN : N = N') : goV r N K σ = goV r' N' K σ := by rw [h, hN]
theorem gdo_pure (m : Bool) (op : SOp) (R : AVal → Heap → Prop) : gdo P S .pure m op fr R σ = goV (aop op fr σ) True R σ := by
  simp only [gdo, goV, go1, true_and] <;> cases aop op fr σ <;> rfl
theorem gdo_read (m : Bool) (op : SOp) (R : AVal → Heap → Prop) : gdo P S .read m op fr R σ = goV (aop op fr σ) (m = true ∨ Reads S op fr) R σ := Eq.trans rfl rfl
structure kNext (S : Nat → Prop) (m : Bool) (σ : Heap) (R : AVal → Heap → Prop) (v : AVal) (σ' : Heap) : Prop where
  keeps : m = true ∨ Keeps S σ σ'
  go : R v σ'
theorem kNext_fun {m : Bool} {R : AVal → Heap → Prop} : kNext S m σ R = fun v σ' => (m = true ∨ Keeps S σ σ') ∧ R v σ' := by funext v σ'; exact propext ⟨fun h => ⟨h.1, h.2⟩, fun h => ⟨h.1, h.2⟩⟩
theorem kNext_bar {σ' : Heap} {R : AVal → Heap → Prop} {v : AVal} : kNext S true σ R v σ' = R v σ' := propext ⟨fun h => h.go, fun h => ⟨.inl rfl, h⟩⟩
theorem gdo_call (m : Bool) (f : Opd) (l : List Opd) (R : AVal → Heap → Prop) : gdo P S .eff m (.call f l) fr R σ = goF P (f.ev fr) (evs fr l) (kNext S m σ R) σ := by
  simp only [gdo, opwp, goF, MSpec, kNext_fun] <;> cases f.ev fr <;> rfl
theorem gdo_eff (m : Bool) (op : SOp) (h : ∀ f l, op ≠ .call f l) (R : AVal → Heap → Prop) : gdo P S .eff m op fr R σ = go1 (aop op fr σ) (kNext S m σ R) := by
  simp only [gdo, opwp, go1, kNext_fun] <;> (cases op <;> first | rfl | exact absurd rfl (h _ _))
theorem goV_map (r : Option AVal) (σ' : Heap) (N : Prop) (R : AVal → Heap → Prop) : goV (r.map fun v => (v, σ')) N R σ = goM r σ (fun v σ => N ∧ R v σ) := by cases r <;> rfl
end
abbrev Caller := FuncId → List AVal → Heap → Option (AVal × Heap)
def opC (call : Caller) (o : SOp) (fr : Frame) (σ : Heap) : Option (AVal × Heap) :=
  match o with
  | .call f args => match f.ev fr with
    | .fn g caps => call g (evs fr args ++ caps) σ
    | _ => none
  | o => aop o fr σ
def opsC (call : Caller) : List SOper → Frame → Heap → Option (Frame × Heap)
  | [], fr, σ => some (fr, σ)
  | o :: os, fr, σ => match wantd o.guard fr with
    | some true => match opC call o.op fr σ with
      | some (v, σ') => opsC call os (fr.putO o.dst v) σ'
      | none => none
    | some false => opsC call os (fr.putO o.dst .undef) σ
    | none => none
def sameR (r : Option (AVal × Heap)) (v : AVal) : Bool := match r with
  | some (u, _) => u.same v
  | none => false
def drawC (call : Caller) (tab : List Nat) : Nat → List SOper → List Ev → Frame → Heap → Option (Frame × Heap)
  | _, [], _, fr, σ => some (fr, σ)
  | i, o :: os, past, fr, σ => match wantd o.guard fr with
    | none => none
    | some false => drawC call tab (i + 1) os past (fr.putO o.dst .undef) σ
    | some true => match o.op.kind with
      | .pure => match aop o.op fr σ with
        | some (v, _) => drawC call tab (i + 1) os past (fr.putO o.dst v) σ
        | none => none
      | .read => match aop o.op fr σ with
        | some (v, _) => if past.all (fun e => !(isEff e.o) || bef tab i e.i || sameR (aop o.op fr e.σ) v) then drawC call tab (i + 1) os (⟨i, o.op, fr, v, σ⟩ :: past) (fr.putO o.dst v) σ else none
        | none => none
      | .eff => match opC call o.op fr σ with
        | some (v, σ') => if past.all (fun e => isEff e.o || bef tab i e.i || (decide (e.o.kind = .read) && sameR (aop e.o e.fr σ') e.v)) then drawC call tab (i + 1) os (⟨i, o.op, fr, v, σ⟩ :: past) (fr.putO o.dst v) σ' else none
        | none => none
def loopC (body : Frame → Heap → Option (SExit × Frame × Heap)) : Nat → Frame → Heap → Option (SExit × Frame × Heap)
  | 0, _, _ => none
  | k + 1, fr, σ => match body fr σ with
    | some (.normal, fr', σ') => loopC body k fr' σ'
    | r => r
def resvZ1 : SOp → List (List AVal)
  | .lay _ zs => [zs]
  | .layB _ _ zs len parts => [if parts.isEmpty then repl len zs else []]
  | _ => []
def resvZ : List SOper → List (List AVal)
  | [] => []
  | o :: l => resvZ1 o.op ++ resvZ l
theorem resvZ_ok : ∀ (l : List SOper) {K : Heap → Prop} {σ : Heap}, K (σ.resv (resvZ l)) → Heap.resvE (resvs l) K σ
  | [], K, σ, h => h
  | ⟨d, op, g, af⟩ :: l, K, σ, h => by
    rw [show resvs (⟨d, op, g, af⟩ :: l) = op.laid ++ resvs l by simp [resvs]]
    cases op
    case lay => exact resvZ_ok l h
    case layB => exact ⟨_, resvZ_ok l h⟩
    all_goals exact resvZ_ok l h
def codeC (call : Caller) (k : Nat) : SCode → Frame → Heap → Option (SExit × Frame × Heap)
  | .skip, fr, σ => some (.normal, fr, σ)
  | .reg none ops, fr, σ => match opsC call ops fr σ with
    | some (fr', σ') => some (.normal, fr', σ')
    | none => none
  | .reg (some tab) ops, fr, σ => match drawC call tab 0 ops [] fr σ with
    | some (fr', σ') => some (.normal, fr', σ')
    | none => none
  | .regA tab ops, fr, σ => match drawC call tab 0 (instOps σ.next ops) [] fr (σ.resv (resvZ ops)) with
    | some (fr', σ') => some (.normal, fr', σ')
    | none => none
  | .seq a b, fr, σ => match codeC call k a fr σ with
    | some (.normal, fr', σ') => codeC call k b fr' σ'
    | r => r
  | .cond c a b, fr, σ => match c.ev fr with
    | .bool true => codeC call k a fr σ
    | .bool false => codeC call k b fr σ
    | _ => none
  | .block id c, fr, σ => match codeC call k c fr σ with
    | some (.exit j, fr', σ') => if j = id then some (.normal, fr', σ') else some (.exit j, fr', σ')
    | r => r
  | .loop c, fr, σ => loopC (codeC call k c) k fr σ
  | .exit id, fr, σ => some (.exit id, fr, σ)
  | .ret, fr, σ => some (.ret, fr, σ)
def look : List (Nat × SFunc) → Nat → Option SFunc
  | [], _ => none
  | (n, f) :: l, m => if n = m then some f else look l m
def callC (ext : Caller) (tbl : List (Nat × SFunc)) (k : Nat) : Nat → Caller
  | 0, _, _, _ => none
  | n + 1, f, args, σ => match look tbl f with
    | some sf => if args.length ≤ sf.ntmps then
        match codeC (callC ext tbl k n) k sf.body (Frame.ofArgs 0 args) σ with
        | some (e, fr, σ') => if ends e then match resOf sf.results fr σ' with
          | some v => some (v, σ')
          | none => none
          else none
        | none => none
      else none
    | none => ext f args σ
section
variable {P : Program} {call : Caller}
def CallOk (P : Program) (call : Caller) : Prop := ∀ g l σ v σ', call g l σ = some (v, σ') → ACall P g l σ v σ'
theorem opC_ok (hc : CallOk P call) {o : SOp} {fr : Frame} {σ σ' : Heap} {v : AVal} (h : opC call o fr σ = some (v, σ')) {K : AVal → Heap → Prop} (hk : K v σ') : opwp P o fr σ K := by
  unfold opC at h
  unfold opwp
  split at h
  · split at h
    · rename_i hx
      simp only [hx]
      exact ⟨v, σ', hc _ _ _ _ _ h, hk⟩
    · cases h
  · rename_i hne
    split
    · exact absurd rfl (hne _ _)
    · rw [h]; exact hk
theorem opsC_ok (hc : CallOk P call) : ∀ {ops : List SOper} {fr fr' : Frame} {σ σ' : Heap}, opsC call ops fr σ = some (fr', σ') → ∀ {K : Frame → Heap → Prop}, K fr' σ' → opswp P ops K fr σ
  | [], fr, fr', σ, σ', h, K, hk => by cases h; exact hk
  | o :: os, fr, fr', σ, σ', h, K, hk => by
    simp only [opsC] at h
    simp only [opswp]
    cases hw : wantd o.guard fr with
    | none => rw [hw] at h; cases h
    | some b =>
      rw [hw] at h
      cases b with
      | true =>
        simp only at h ⊢
        split at h
        · rename_i v s ho
          exact opC_ok (K := fun v σ' => opswp P os K (fr.putO o.dst v) σ') hc ho (opsC_ok hc h hk)
        · cases h
      | false => exact opsC_ok hc h hk
theorem sameR_ok {o : SOp} (hk : o.kind = .read) {fr : Frame} {σ : Heap} {v : AVal} (h : sameR (aop o fr σ) v = true) : aop o fr σ = some (v, σ) := by
  cases ha : aop o fr σ with
  | none => rw [ha] at h; cases h
  | some q =>
    obtain ⟨u, σ'⟩ := q
    rw [ha] at h
    have e1 := aop_read hk ha
    have e2 := AVal.same_eq h
    rw [e1, e2]
theorem drawC_ok (hc : CallOk P call) {tab : List Nat} : ∀ {ops : List SOper} {i : Nat} {past : List Ev} {fr fr' : Frame} {σ σ' : Heap}, drawC call tab i ops past fr σ = some (fr', σ') → ∀ {K : Frame → Heap → Prop}, K fr' σ' → drawwp P tab i ops past K fr σ
  | [], i, past, fr, fr', σ, σ', h, K, hk => by cases h; exact hk
  | o :: os, i, past, fr, fr', σ, σ', h, K, hk => by
    simp only [drawC] at h
    simp only [drawwp]
    cases hw : wantd o.guard fr with
    | none => rw [hw] at h; cases h
    | some b =>
      rw [hw] at h
      cases b with
      | false => exact drawC_ok hc h hk
      | true =>
        cases hkd : o.op.kind with
        | pure =>
          rw [hkd] at h
          simp only at h ⊢
          cases ha : aop o.op fr σ with
          | none => rw [ha] at h; cases h
          | some q => rw [ha] at h; exact drawC_ok hc h hk
        | read =>
          rw [hkd] at h
          simp only at h ⊢
          cases ha : aop o.op fr σ with
          | none => rw [ha] at h; cases h
          | some q =>
            obtain ⟨v, s⟩ := q
            rw [ha] at h
            simp only at h ⊢
            split at h
            · rename_i hp
              refine ⟨fun e he hef hb => ?_, drawC_ok hc h hk⟩
              have := List.all_eq_true.1 hp e he
              simp only [hef, Bool.not_true, Bool.false_or, hb] at this
              exact sameR_ok hkd this
            · cases h
        | eff =>
          rw [hkd] at h
          simp only at h ⊢
          split at h
          · rename_i v s ha
            split at h
            · rename_i hp
              refine opC_ok (K := fun v σ' => (∀ e ∈ past, isEff e.o = false → bef tab i e.i = false → aop e.o e.fr σ' = some (e.v, σ')) ∧
                drawwp P tab (i + 1) os (⟨i, o.op, fr, v, σ⟩ :: past) K (fr.putO o.dst v) σ') hc ha ⟨fun e he hef hb => ?_, drawC_ok hc h hk⟩
              have := List.all_eq_true.1 hp e he
              simp only [hef, Bool.false_or, hb, Bool.and_eq_true, decide_eq_true_eq] at this
              exact sameR_ok this.1 this.2
            · cases h
          · cases h
theorem loopC_ok {c : SCode} {body : Frame → Heap → Option (SExit × Frame × Heap)} (hb : ∀ fr σ e fr' σ', body fr σ = some (e, fr', σ') → AOut P c fr σ e fr' σ') :
    ∀ (k : Nat) (fr : Frame) (σ : Heap) (e : SExit) (fr' : Frame) (σ' : Heap), loopC body k fr σ = some (e, fr', σ') → AOut P (.loop c) fr σ e fr' σ'
  | 0, _, _, _, _, _, h => by cases h
  | k + 1, fr, σ, e, fr', σ', h => by
    intro K hK
    simp only [loopC] at h
    refine awp_loop_unroll ?_
    split at h
    · rename_i f1 s1 h1
      exact hb _ _ _ _ _ h1 _ (loopC_ok hb k f1 s1 e fr' σ' h K hK)
    · rename_i hne
      refine hb _ _ _ _ _ h _ ?_
      cases e with
      | normal => exact absurd h (hne _ _)
      | exit id => exact hK
      | ret => exact hK
theorem codeC_ok (hc : CallOk P call) (k : Nat) : ∀ (c : SCode) (fr : Frame) (σ : Heap) (e : SExit) (fr' : Frame) (σ' : Heap), codeC call k c fr σ = some (e, fr', σ') → AOut P c fr σ e fr' σ' := by
  intro c
  induction c with
  | skip => intro fr σ e fr' σ' h K hK; cases h; exact hK
  | reg tab ops =>
    intro fr σ e fr' σ' h K hK
    cases tab with
    | none =>
      simp only [codeC] at h
      split at h
      · rename_i ho; cases h; exact opsC_ok hc ho hK
      · cases h
    | some tab =>
      simp only [codeC] at h
      split at h
      · rename_i ho; cases h; exact drawC_ok hc ho hK
      · cases h
  | regA tab ops =>
    intro fr σ e fr' σ' h K hK
    simp only [codeC] at h
    split at h
    · rename_i ho; cases h; exact resvZ_ok ops (drawC_ok hc ho hK)
    · cases h
  | seq a b iha ihb =>
    intro fr σ e fr' σ' h K hK
    simp only [codeC] at h
    split at h
    · rename_i f1 s1 h1
      exact iha _ _ _ _ _ h1 _ (ihb _ _ _ _ _ h _ hK)
    · rename_i hne
      refine iha _ _ _ _ _ h _ ?_
      cases e with
      | normal => exact absurd h (hne _ _)
      | exit id => exact hK
      | ret => exact hK
  | cond c a b iha ihb =>
    intro fr σ e fr' σ' h K hK
    simp only [codeC] at h
    split at h
    · rename_i hcv; simp only [awp, hcv]; exact iha _ _ _ _ _ h _ hK
    · rename_i hcv; simp only [awp, hcv]; exact ihb _ _ _ _ _ h _ hK
    · cases h
  | block id c ih =>
    intro fr σ e fr' σ' h K hK
    simp only [codeC] at h
    split at h
    · rename_i j f1 s1 h1
      refine ih _ _ _ _ _ h1 _ ?_
      simp only [inBlk]
      split at h
      · rename_i hj; cases h; rw [if_pos hj]; exact hK
      · rename_i hj; cases h; rw [if_neg hj]; exact hK
    · rename_i hne
      refine ih _ _ _ _ _ h _ ?_
      cases e with
      | normal => exact hK
      | exit j => exact absurd h (hne _ _ _)
      | ret => exact hK
  | loop c ih => intro fr σ e fr' σ' h; exact loopC_ok ih k fr σ e fr' σ' h
  | exit id => intro fr σ e fr' σ' h K hK; cases h; exact hK
  | ret => intro fr σ e fr' σ' h K hK; cases h; exact hK
def TblOk (P : Program) (tbl : List (Nat × SFunc)) : Prop := ∀ p ∈ tbl, cFunc P p.1 = some p.2
theorem look_ok {tbl : List (Nat × SFunc)} (h : TblOk P tbl) {f : Nat} {sf : SFunc} (hl : look tbl f = some sf) : cFunc P f = some sf := by
  induction tbl with
  | nil => cases hl
  | cons p l ih =>
    obtain ⟨n, g⟩ := p
    simp only [look] at hl
    split at hl
    · rename_i hn; subst hn; cases hl; exact h _ (List.mem_cons_self ..)
    · exact ih (fun q hq => h q (List.mem_cons_of_mem _ hq)) hl
theorem callC_ok (hm : P.follows .mixedOrders = true) {ext : Caller} (hx : CallOk P ext) {tbl : List (Nat × SFunc)} (ht : TblOk P tbl) (k : Nat) : ∀ n, CallOk P (callC ext tbl k n)
  | 0, _, _, _, _, _, h => by cases h
  | n + 1, f, args, σ, v, σ', h => by
    simp only [callC] at h
    split at h
    · rename_i sf hl
      split at h
      · rename_i hlen
        split at h
        · rename_i e fr s hcd
          split at h
          · rename_i he
            split at h
            · rename_i u hr
              cases h
              have := codeC_ok (callC_ok hm hx ht k n) k _ _ _ _ _ _ hcd
              obtain ⟨g1, g2⟩ := afun_of_awp hm (look_ok ht hl) (σ' := σ') (v := v) hlen (this _ ⟨he, hr, rfl⟩)
              exact acall_of_afun g1 g2
            · cases h
          · cases h
        · cases h
      · cases h
    · exact hx _ _ _ _ _ h
end
end Go.Mini
namespace Go.Mini
open Go Go.RowKit
theorem Rel.below {φ : Phi} {σ : Heap} {w : World} (h : Rel φ σ w) : Below σ.W.heap.size σ.W w := ⟨h.os, h.tape, h.output, h.size, h.old⟩
def cellsOf (W : World) : FB := ⟨fun b j => W.cell? ⟨b, j, none⟩, false⟩
theorem law_calls {P : Program} {f : FuncId} {args : List AVal} {vs : List Value} {W : World} (h : FSpec P f args (Heap.bare W (cellsOf W)) fun v σ' => v = .bool true ∧ σ'.W = W) (hv : VRs (Phi.bare (cellsOf W).f) args vs) :
    Calls P f vs.toArray W fun e w' => e = .returned (.bool true) ∧ Below W.heap.size W w' := by
  obtain ⟨v, σ', h1, rfl, h2⟩ := h
  refine (h1 _ W vs hv (rel_bare W _ (fun _ _ _ e => e))).mono ?_
  rintro e w' ⟨v', φ', rfl, g1, g2, g3⟩
  cases g2
  have := g3.below
  rw [h2] at this
  exact ⟨rfl, this⟩
end Go.Mini
namespace Go.Mini
open Go
def RdP (P : Program) (W : World) (t : TypeId) {α : Type} (e : α → AVal) (G : α → Prop) : Prop :=
  ∀ (H : Type) (enc : TypeId × Value → H) (fuel : Nat) (cs : List Value) (x : DataW H × List MemPlace), DataW.trod enc P W 0 (fun _ => true) true fuel t cs = some x → ∃ a, G a ∧ VRs (Phi.bare (cellsOf W).f) (e a).cells cs
section
variable {P : Program} {W : World}
theorem rd_int {t : TypeId} {k : IntKind} (ht : P.underlying t = some (.int k)) : RdP P W t (fun n : Int => .int k n) fun n => (Lit.int k n).wf = true := by
  intro H enc fuel cs x h
  obtain ⟨n, rfl, _, hw⟩ := DataW.trod_int ht h
  exact ⟨n, hw, .cons (.int _ _) .nil⟩
theorem VRs.one {φ : Phi} {a : AVal} {v : Value} (h : VRs φ [a] [v]) : VR φ a v := by cases h with | cons h _ => exact h
theorem VRs.cell {φ : Phi} {a : AVal} {v : Value} (h : VRs φ a.cells [v]) (hc : a.cells = [a]) : VR φ a v := by rw [hc] at h; exact h.one
end
end Go.Mini
namespace Go.Mini
open Go
def GInt (k : IntKind) : Int → Prop := fun n => (Lit.int k n).wf = true
theorem gint_bounds {k : IntKind} {n : Int} (h : GInt k n) : k.min ≤ n ∧ n ≤ k.max := by
  simpa only [GInt, Lit.wf, decide_eq_true_eq, Bool.and_eq_true] using h
theorem gint_u8 {n : Int} (h : GInt .u8 n) : 0 ≤ n ∧ n < 256 := by have := gint_bounds h; simp [IntKind.min, IntKind.max, IntKind.signed, IntKind.bits] at this; omega
def Ext (B : Nat) (σ τ : Heap) : Prop := τ.W = σ.W ∧ τ.F0 = σ.F0 ∧ σ.next ≤ τ.next ∧ ∀ k, k < B → τ.get k = σ.get k
theorem Ext.refl (B : Nat) (σ : Heap) : Ext B σ σ := ⟨rfl, rfl, Nat.le_refl _, fun _ _ => rfl⟩
theorem Ext.trans {B : Nat} {σ τ ρ : Heap} (h : Ext B σ τ) (h' : Ext B τ ρ) : Ext B σ ρ := ⟨h'.1.trans h.1, h'.2.1.trans h.2.1, Nat.le_trans h.2.2.1 h'.2.2.1, fun k hk => (h'.2.2.2 k hk).trans (h.2.2.2 k hk)⟩
theorem Ext.new {B : Nat} {σ τ : Heap} (h : Ext B σ τ) (hB : B ≤ σ.next) (b : ABlk) : Ext B σ (τ.new b) := ⟨h.1, h.2.1, Nat.le_succ_of_le h.2.2.1, fun k hk => by rw [Heap.get_new, if_neg (by have := h.2.2.1; omega)]; exact h.2.2.2 k hk⟩
theorem Ext.set {B : Nat} {σ τ : Heap} (h : Ext B σ τ) {j : Nat} (hj : B ≤ j) (b : ABlk) : Ext B σ (τ.set j b) := ⟨h.1, h.2.1, h.2.2.1, fun k hk => by rw [Heap.get_set, if_neg (by omega)]; exact h.2.2.2 k hk⟩

def Own (B : Nat) (σ : Heap) (e : TypeId) (k : Nat) (x : AVal) (els : List AVal) : Prop :=
  (∀ e ∈ els, e.cells.length = k) ∧ ((x = .nils ∧ els = []) ∨ ∃ K, x = .slc (.new K) 0 els.length (.gr k) ∧ σ.get K = some (.cells (els.flatMap AVal.cells) (some e)) ∧ B ≤ K ∧ K < σ.next)
theorem Own.nil (B : Nat) (σ : Heap) (e : TypeId) (k : Nat) : Own B σ e k .nils [] := ⟨fun _ h => (by cases h), .inl ⟨rfl, rfl⟩⟩
theorem Own.len {B k : Nat} {e : TypeId} {σ : Heap} {x : AVal} {els : List AVal} (h : Own B σ e k x els) : aLen x = some (.int .i64 els.length) := by
  rcases h.2 with ⟨rfl, rfl⟩ | ⟨K, rfl, _⟩ <;> rfl
theorem Own.new {B k : Nat} {e : TypeId} {σ : Heap} {x : AVal} {els : List AVal} (h : Own B σ e k x els) (b : ABlk) : Own B (σ.new b) e k x els := by
  refine ⟨h.1, ?_⟩
  rcases h.2 with h2 | ⟨K, h1, h2, h3, h4⟩
  · exact .inl h2
  · exact .inr ⟨K, h1, by rw [Heap.get_new, if_neg (by omega)]; exact h2, h3, by simp only [Heap.new_next]; omega⟩
theorem Own.set {B k : Nat} {e : TypeId} {σ : Heap} {x : AVal} {els : List AVal} (h : Own B σ e k x els) {j : Nat} (hj : ∀ K o n c, x = .slc (.new K) o n c → j ≠ K) (b : ABlk) : Own B (σ.set j b) e k x els := by
  refine ⟨h.1, ?_⟩
  rcases h.2 with h2 | ⟨K, h1, h2, h3, h4⟩
  · exact .inl h2
  · exact .inr ⟨K, h1, by rw [Heap.get_set, if_neg (hj _ _ _ _ h1)]; exact h2, h3, by simpa using h4⟩
theorem Own.low {B k : Nat} {e : TypeId} {σ : Heap} {x : AVal} {els : List AVal} (h : Own B σ e k x els) {K o n : Nat} {c : Cap} (hx : x = .slc (.new K) o n c) : B ≤ K ∧ K < σ.next := by
  rcases h.2 with ⟨h1, _⟩ | ⟨K', h1, _, h3, h4⟩
  · rw [h1] at hx; cases hx
  · rw [h1] at hx; cases hx; exact ⟨h3, h4⟩
theorem flat_len {k : Nat} {els : List AVal} (h : ∀ e ∈ els, e.cells.length = k) : (els.flatMap AVal.cells).length = els.length * k := by
  have := (flatMap_take els els.length h (Nat.le_refl _)).2
  rwa [List.take_length] at this
def Row (B : Nat) (σ : Heap) (e : TypeId) (k : Nat) (x : AVal) (els : List AVal) : Prop :=
  (∀ z ∈ els, z.cells.length = k) ∧ ((x = .nils ∧ els = []) ∨ ∃ K cap cs opn, x = .slc (.new K) 0 els.length cap ∧ σ.get K = some (.cells cs opn) ∧ cs.take (els.length * k) = els.flatMap AVal.cells ∧ B ≤ K ∧ K < σ.next ∧
    ((cap = .gr k ∧ opn = some e ∧ cs.length = els.length * k) ∨ ∃ c, cap = .ex c ∧ els.length ≤ c ∧ cs.length = c * k))
theorem Own.row {B k : Nat} {e : TypeId} {σ : Heap} {x : AVal} {els : List AVal} (h : Own B σ e k x els) : Row B σ e k x els := by
  refine ⟨h.1, ?_⟩
  rcases h.2 with h2 | ⟨K, h1, h2, h3, h4⟩
  · exact .inl h2
  · exact .inr ⟨K, _, _, _, h1, h2, by rw [List.take_of_length_le (by rw [flat_len h.1]; omega)], h3, h4, .inl ⟨rfl, rfl, flat_len h.1⟩⟩
theorem Row.nil (B : Nat) (σ : Heap) (e : TypeId) (k : Nat) : Row B σ e k .nils [] := (Own.nil B σ e k).row
theorem Row.len {B k : Nat} {e : TypeId} {σ : Heap} {x : AVal} {els : List AVal} (h : Row B σ e k x els) : aLen x = some (.int .i64 els.length) := by
  rcases h.2 with ⟨rfl, rfl⟩ | ⟨K, cap, cs, opn, rfl, _⟩ <;> rfl
theorem Row.new {B k : Nat} {e : TypeId} {σ : Heap} {x : AVal} {els : List AVal} (h : Row B σ e k x els) (b : ABlk) : Row B (σ.new b) e k x els := by
  refine ⟨h.1, ?_⟩
  rcases h.2 with h2 | ⟨K, cap, cs, opn, h1, h2, h3, h4, h5, h6⟩
  · exact .inl h2
  · exact .inr ⟨K, cap, cs, opn, h1, by rw [Heap.get_new, if_neg (by omega)]; exact h2, h3, h4, by simp only [Heap.new_next]; omega, h6⟩
theorem Row.set {B k : Nat} {e : TypeId} {σ : Heap} {x : AVal} {els : List AVal} (h : Row B σ e k x els) {j : Nat} (hj : ∀ K o n c, x = .slc (.new K) o n c → j ≠ K) (b : ABlk) : Row B (σ.set j b) e k x els := by
  refine ⟨h.1, ?_⟩
  rcases h.2 with h2 | ⟨K, cap, cs, opn, h1, h2, h3, h4, h5, h6⟩
  · exact .inl h2
  · exact .inr ⟨K, cap, cs, opn, h1, by rw [Heap.get_set, if_neg (hj _ _ _ _ h1)]; exact h2, h3, h4, by simpa using h5, h6⟩
theorem Row.low {B k : Nat} {e : TypeId} {σ : Heap} {x : AVal} {els : List AVal} (h : Row B σ e k x els) {K o n : Nat} {c : Cap} (hx : x = .slc (.new K) o n c) : B ≤ K ∧ K < σ.next := by
  rcases h.2 with ⟨h1, _⟩ | ⟨K', cap, cs, opn, h1, _, _, h4, h5, _⟩
  · rw [h1] at hx; cases hx
  · rw [h1] at hx; cases hx; exact ⟨h4, h5⟩
def bitRow (n : Nat) (P : Nat → Bool) : List AVal := (List.range n).map fun k => .bool (P k)
end Go.Mini
namespace Go.Mini
open Go Go.Shelf Go.Proofs

theorem Rel.spoil {φ : Phi} {σ : Heap} {w w' : World} (hr : Rel φ σ w) {k b sz : Nat} {blk : ABlk} {o : Obj} (hk : φ k = some (b, sz)) (hg : σ.get k = some blk) (hd : blk ≠ .dead)
    (hw : ∀ b', w'.heap[b']? = if b' = b then some o else w.heap[b']?) (hs : w'.heap.size = w.heap.size)
    (ht : w'.tape = w.tape) (hos : w'.os = w.os) (hout : w'.output = w.output) (hdr : w.drawn ≤ w'.drawn) : Rel φ (σ.set k .dead) w' :=
  hr.change hk hg hd hw hs ht hos hout hdr (.dead o)

section
variable {P : Program} {ρ : Ren}
theorem copyCheck_fresh (L : Lays.n240 P ρ) (X : Builder.X72 P ρ) {σ : Heap} {k : Nat} {buf : AVal} (hg : σ.get k = some (.tcells (ρ.t 72) [.nilp, buf])) :
    AFun P (ρ.f 240) [.ptr (.new k) 0] σ (.tup []) (σ.set k (.tcells (ρ.t 72) [.ptr (.new k) 0, buf])) := by
  intro φ w vs hvs hr
  cases hvs with
  | cons hv hvs =>
  cases hvs
  cases hv with
  | @ptr _ b _ hb =>
  have hb' := hb
  simp only [Id.real, Option.map_eq_some_iff] at hb
  obtain ⟨⟨b', sz⟩, hk, rfl⟩ := hb
  obtain ⟨cs', fz, ho, h1, h2, h3⟩ := hr.blockT hk hg
  obtain ⟨v0, hv0, hr0⟩ := h2.get 0 _ rfl
  have hl := h2.length
  simp only [Array.length_toList, List.length_cons, List.length_nil] at hl
  cases hr0
  obtain ⟨⟨u, hu⟩, hf, hr'⟩ := hr.storeT (off := 0) hk hg (by simp) (VR.ptr 0 hb')
  have hc0 : w.cell? ⟨b', 0, none⟩ = some (.pointer none) := by rw [cell?_cells ho]; simpa using hv0
  have hsh : w.shape? b' = some ((ρ.t 72), 2) := by simp only [World.shape?, ho]; rw [← hl]
  refine (Any.Builder_copyCheck_fresh L X b' w hc0 hsh hf).mono ?_
  rintro e w' ⟨rfl, rfl⟩
  exact ⟨_, φ, rfl, φ.le_refl, .tup (vs := []) .nil, hr'⟩
theorem copyCheck_used (L : Lays.n240 P ρ) (X : Builder.X72 P ρ) {σ : Heap} {k : Nat} {T : TypeId} {buf : AVal} (hg : σ.get k = some (.tcells T [.ptr (.new k) 0, buf])) :
    AFun P (ρ.f 240) [.ptr (.new k) 0] σ (.tup []) σ := by
  intro φ w vs hvs hr
  cases hvs with
  | cons hv hvs =>
  cases hvs
  cases hv with
  | @ptr _ b _ hb =>
  have hb' := hb
  simp only [Id.real, Option.map_eq_some_iff] at hb
  obtain ⟨⟨b', sz⟩, hk, rfl⟩ := hb
  obtain ⟨cs', fz, ho, h1, h2, h3⟩ := hr.blockT hk hg
  obtain ⟨v0, hv0, hr0⟩ := h2.get 0 _ rfl
  cases hr0 with
  | ptr _ hb2 =>
  rw [hb'] at hb2
  cases hb2
  have hc0 : w.cell? ⟨b', 0, none⟩ = some (.pointer (some ⟨b', 0, none⟩)) := by rw [cell?_cells ho]; simpa using hv0
  refine (Any.Builder_copyCheck_used L X b' w hc0).mono ?_
  rintro e w' ⟨rfl, rfl⟩
  exact ⟨_, φ, rfl, φ.le_refl, .tup (vs := []) .nil, hr⟩

theorem byteCells_eq {φ : Phi} : ∀ {l : List UInt8} {us : List Value}, VRs φ (byteCells l) us → us = Lib.byteCells l
  | [], us, h => by cases h; rfl
  | x :: l, us, h => by
    cases h with
    | cons h1 h2 => cases h1; rw [byteCells_eq h2]; rfl

theorem heap_freeze {w : World} {g : Nat} {cur : Array Value} {T : TypeId} {fz : Nat × Nat} (hg : w.heap[g]? = some (.cells cur T fz)) (n : Nat) :
    ∃ o, (∀ b', (w.drew.freeze ⟨g, 0, none⟩ n).heap[b']? = if b' = g then some o else w.heap[b']?) ∧ (w.drew.freeze ⟨g, 0, none⟩ n).heap.size = w.heap.size := by
  unfold World.freeze
  split
  · refine ⟨.cells cur T fz, fun b' => ?_, rfl⟩
    split
    · rename_i h; rw [h]; exact hg
    · rfl
  · obtain ⟨lo, hi⟩ := fz
    refine ⟨.cells cur T (if lo == hi then (0, 0 + n) else (min lo 0, max hi (0 + n))), fun b' => ?_, by simp⟩
    simp only [Array.getElem?_modify]
    by_cases e : b' = g
    · subst e
      have : w.drew.heap[b']? = some (.cells cur T (lo, hi)) := hg
      rw [if_pos rfl, if_pos rfl, this, Option.map_some]
    · rw [if_neg (fun h => e h.symm), if_neg e]; rfl
set_option maxHeartbeats 1000000 in
set_option maxRecDepth 100000 in
theorem bldString_run (L : Lays.n169 P ρ) (X : Builder.Extra P ρ) (b g cap : Nat) (p : Value) (l : List UInt8) (cur : Array Value) (T : TypeId) (fz fz' : Nat × Nat) (w : World) (h0 : l ≠ []) (hbk : w.heap[b]? = some (.cells #[p, .slice (some ⟨g, 0, none⟩) l.length cap] T fz))
    (hg : w.heap[g]? = some (.cells cur (ρ.t 5) fz')) (hcs : cur.size = cap) (hcap : l.length ≤ cap) (hcm : l.length ≤ maxLen) (htake : cur.toList.take l.length = Lib.byteCells l) :
    Calls P (ρ.f 169) #[.pointer (some ⟨b, 0, none⟩)] w fun e w' => e = .returned (.string ⟨l.toArray⟩) ∧ w' = w.drew.freeze ⟨g, 0, none⟩ l.length := by
  have hl0 : l.length ≠ 0 := by simpa using h0
  have c1 : w.drew.cell? ⟨b, 1, none⟩ = some (.slice (some ⟨g, 0, none⟩) l.length cap) := by
    have : w.drew.heap[b]? = some (.cells #[p, .slice (some ⟨g, 0, none⟩) l.length cap] T fz) := hbk
    rw [Lib.cell_of_heap this]; rfl
  have hSD : (Builtin.unsafeSliceData_ #[(ρ.t 37)] (ρ.t 127) #[.slice (some ⟨g, 0, none⟩) l.length cap]).run P w.drew = .ok (.pointer (some ⟨g, 0, none⟩)) w.drew :=
    Lib.run_unsafeSliceData_row _ _ _ _ _ _ (by omega)
  have hUS : (Builtin.unsafeString_ #[(ρ.t 127), (ρ.t 3)] (ρ.t 9) #[.pointer (some ⟨g, 0, none⟩), .int .i64 l.length]).run P w.drew = .ok (.string ⟨l.toArray⟩) (w.drew.freeze ⟨g, 0, none⟩ l.length) := by
    refine Lib.run_unsafeString_row w.drew (ρ.t 127) (ρ.t 3) (ρ.t 9) (ρ.t 5) L.t127 X.cellsByte g cur.size (by have hg' : w.drew.heap[g]? = some (.cells cur (ρ.t 5) fz') := hg; simp [World.shape?, hg']) l h0 (by omega) (by unfold maxLen at hcm; omega) ?_
    intro j x hx
    have hj := (List.getElem?_eq_some_iff.1 hx).1
    have e : (Lib.byteCells l)[j]? = some (.int .u8 x.toNat) := by simp [Lib.byteCells, hx]
    rw [← htake, List.getElem?_take, if_pos hj] at e
    have hadd : (⟨g, 0, none⟩ : Addr).add j = ⟨g, j, none⟩ := by rw [Addr.add_lit, Nat.zero_add]
    rw [hadd, cell?_cells (w := w.drew) hg]
    simpa using e
  have mixed := L.mixed
  have t72 := L.t72; have a72 := L.a72; have z72 := L.z72; have v72 := L.v72; have u72 := run_underlying L.t72
  have t70 := L.t70; have a70 := L.a70; have z70 := L.z70; have v70 := L.v70; have u70 := run_underlying L.t70
  have t37 := L.t37; have a37 := L.a37; have z37 := L.z37; have v37 := L.v37; have u37 := run_underlying L.t37
  have t127 := L.t127; have a127 := L.a127; have z127 := L.z127; have v127 := L.v127; have u127 := run_underlying L.t127
  have t3 := L.t3; have a3 := L.a3; have z3 := L.z3; have v3 := L.v3; have u3 := run_underlying L.t3
  have t9 := L.t9; have a9 := L.a9; have z9 := L.z9; have v9 := L.v9; have u9 := run_underlying L.t9
  have t5 := X.t5; have a5 := X.a5; have z5 := X.z5; have v5 := X.v5; have u5 := run_underlying X.t5
  go_enter L.f169, Body.n169_ntmps ρ
  go_wp2
  go_region_o
  all_goals (go_wp2; go_ret; exact ⟨rfl, rfl⟩)
set_option maxHeartbeats 2000000 in
set_option maxRecDepth 100000 in
theorem bldString_none (L : Lays.n169 P ρ) (X : Builder.Extra P ρ) (b : Nat) (p : Value) (T : TypeId) (fz : Nat × Nat) (w : World) (hbk : w.heap[b]? = some (.cells #[p, .slice none 0 0] T fz)) :
    Calls P (ρ.f 169) #[.pointer (some ⟨b, 0, none⟩)] w fun e w' => e = .returned (.string ⟨#[]⟩) ∧ w' = w.drew := by
  have hUS := Any.unsafeString_none L X
  have c1 : w.drew.cell? ⟨b, 1, none⟩ = some (.slice none 0 0) := by
    have : w.drew.heap[b]? = some (.cells #[p, .slice none 0 0] T fz) := hbk
    rw [Lib.cell_of_heap this]; rfl
  have hSD : (Builtin.unsafeSliceData_ #[(ρ.t 37)] (ρ.t 127) #[.slice none 0 0]).run P w.drew = .ok (.pointer none) w.drew := rfl
  have mixed := L.mixed
  have t72 := L.t72; have a72 := L.a72; have z72 := L.z72; have v72 := L.v72; have u72 := run_underlying L.t72
  have t70 := L.t70; have a70 := L.a70; have z70 := L.z70; have v70 := L.v70; have u70 := run_underlying L.t70
  have t37 := L.t37; have a37 := L.a37; have z37 := L.z37; have v37 := L.v37; have u37 := run_underlying L.t37
  have t127 := L.t127; have a127 := L.a127; have z127 := L.z127; have v127 := L.v127; have u127 := run_underlying L.t127
  have t3 := L.t3; have a3 := L.a3; have z3 := L.z3; have v3 := L.v3; have u3 := run_underlying L.t3
  have t9 := L.t9; have a9 := L.a9; have z9 := L.z9; have v9 := L.v9; have u9 := run_underlying L.t9
  have t5 := X.t5; have a5 := X.a5; have z5 := X.z5; have v5 := X.v5; have u5 := run_underlying X.t5
  go_enter L.f169, Body.n169_ntmps ρ
  go_wp2
  go_region_o
  all_goals (go_wp2; go_ret; exact ⟨rfl, rfl⟩)
theorem bldString_full (L : Lays.n169 P ρ) (X : Builder.Extra P ρ) {σ : Heap} {k g : Nat} {T : TypeId} {p : AVal} {l : List UInt8} (h0 : l ≠ []) (hm : l.length ≤ maxRoom) (hg : σ.get k = some (.tcells T [p, .slc (.new g) 0 l.length (.gr 1)]))
    (hb : σ.get g = some (.cells (byteCells l) (some (ρ.t 5)))) : AFun P (ρ.f 169) [.ptr (.new k) 0] σ (.str l) (σ.set g .dead) := by
  intro φ w vs hvs hr
  cases hvs with
  | cons hv hvs =>
  cases hvs
  cases hv with
  | @ptr _ b _ hbk =>
  simp only [Id.real, Option.map_eq_some_iff] at hbk
  obtain ⟨⟨b', sz⟩, hk, rfl⟩ := hbk
  obtain ⟨cs', fz, ho, h1, h2, h3⟩ := hr.blockT hk hg
  obtain ⟨v0, hv0, hr0⟩ := h2.get 0 _ rfl
  obtain ⟨v1, hv1, hr1⟩ := h2.get 1 _ rfl
  have hl := h2.length
  simp only [Array.length_toList, List.length_cons, List.length_nil] at hl
  have hcs : cs' = #[v0, v1] := by
    apply Array.ext'
    cases hcl : cs'.toList with
    | nil => rw [hcl] at hv0; simp at hv0
    | cons x l =>
      cases l with
      | nil => rw [hcl] at hv1; simp at hv1
      | cons y l =>
        cases l with
        | nil => rw [hcl] at hv0 hv1; simp at hv0 hv1; simp [hv0, hv1]
        | cons z l => have := congrArg List.length hcl; simp at this; omega
  cases hr1 with
  | @slcG _ g' sz' _ _ _ c hφ hsz hlc =>
  obtain ⟨cur, T', fz', hog, q1, q2, _, qT, q4, q5⟩ := hr.block hφ hb
  have hT := qT _ rfl
  have hbl : (byteCells l).length = l.length := by simp [byteCells]
  rw [hbl] at q4
  subst hcs
  refine (bldString_run L X b' g' c v0 l cur T fz fz' w h0 ho (by rw [hT]; exact hog) (by omega) hlc (by unfold maxRoom at hm; unfold maxLen; omega) (byteCells_eq q4)).mono ?_
  rintro e w' ⟨rfl, rfl⟩
  obtain ⟨o, f1, f2⟩ := heap_freeze hog l.length
  refine ⟨_, φ, rfl, φ.le_refl, .str l, hr.spoil hφ hb (by intro h; cases h) f1 f2 ?_ ?_ ?_ ?_⟩
  all_goals (unfold World.freeze; split <;> first | rfl | exact Nat.le_succ _)
theorem bldString_nil (L : Lays.n169 P ρ) (X : Builder.Extra P ρ) {σ : Heap} {k : Nat} {T : TypeId} {p : AVal} (hg : σ.get k = some (.tcells T [p, .nils])) : AFun P (ρ.f 169) [.ptr (.new k) 0] σ (.str []) σ := by
  intro φ w vs hvs hr
  cases hvs with
  | cons hv hvs =>
  cases hvs
  cases hv with
  | @ptr _ b _ hbk =>
  simp only [Id.real, Option.map_eq_some_iff] at hbk
  obtain ⟨⟨b', sz⟩, hk, rfl⟩ := hbk
  obtain ⟨cs', fz, ho, h1, h2, h3⟩ := hr.blockT hk hg
  obtain ⟨v0, hv0, hr0⟩ := h2.get 0 _ rfl
  obtain ⟨v1, hv1, hr1⟩ := h2.get 1 _ rfl
  have hl := h2.length
  simp only [Array.length_toList, List.length_cons, List.length_nil] at hl
  have hcs : cs' = #[v0, v1] := by
    apply Array.ext'
    cases hcl : cs'.toList with
    | nil => rw [hcl] at hv0; simp at hv0
    | cons x l =>
      cases l with
      | nil => rw [hcl] at hv1; simp at hv1
      | cons y l =>
        cases l with
        | nil => rw [hcl] at hv0 hv1; simp at hv0 hv1; simp [hv0, hv1]
        | cons z l => have := congrArg List.length hcl; simp at this; omega
  cases hr1
  subst hcs
  refine (bldString_none L X b' v0 T fz w ho).mono ?_
  rintro e w' ⟨rfl, rfl⟩
  exact ⟨_, φ, rfl, φ.le_refl, .str [], hr.drew⟩
end
end Go.Mini
namespace Go.Mini
open Go Go.Shelf Go.Proofs Go.RowKit Go.Maps Go.Sort
open Go.WideElems (Fit rd rg)

theorem Rel.below_w {φ : Phi} {σ : Heap} {w w' : World} (hr : Rel φ σ w) (hd : σ.F0.dr = false) (hb : Below w.heap.size w w') : Rel φ σ w' where
  size := Nat.le_trans hr.size hb.size
  old := fun b h => by rw [hb.block b (Nat.lt_of_lt_of_le h hr.size)]; exact hr.old b h
  new := fun k b sz e => by
    obtain ⟨h1, o, h2, h3⟩ := hr.new k b sz e
    exact ⟨h1, o, by rw [hb.block b (hr.lt e)]; exact h2, h3⟩
  inj := hr.inj
  fresh := hr.fresh
  resv := hr.resv
  tape := hb.tape.trans hr.tape
  os := hb.os.trans hr.os
  output := hb.output.trans hr.output
  frz := fun b j v e => by
    have h := hr.frz b j v e
    have hlt := World.block_lt_of_cell? w ⟨b, j, none⟩ h
    simp only [World.cell?] at h ⊢
    rw [hb.block b hlt]; exact h
  apart := hr.apart
  base := hr.base
  drawn := fun h => by rw [hd] at h; cases h
theorem Rel.adopt {φ : Phi} {σ : Heap} {w w' : World} (hr : Rel φ σ w) (hd : σ.F0.dr = false) (hb : Below w.heap.size w w') {g sz : Nat} {o : Obj} {blk : ABlk} (hg : w.heap.size ≤ g) (ho : w'.heap[g]? = some o)
    (hB : BRel (φ.put σ.next (g, sz)) sz blk o) : φ.le (φ.put σ.next (g, sz)) ∧ Rel (φ.put σ.next (g, sz)) (σ.new blk) w' := by
  have hr' := hr.below_w hd hb
  have hnone := hr.fresh σ.next (Nat.le_refl _)
  have hle := Phi.le_put (g, sz) hnone
  have hput : ∀ k x, (φ.put σ.next (g, sz)) k = some x → (k = σ.next ∧ x = (g, sz)) ∨ (k ≠ σ.next ∧ φ k = some x) := by
    intro k x e
    by_cases hk : k = σ.next
    · subst hk; rw [Phi.put_same] at e; cases e; exact .inl ⟨rfl, rfl⟩
    · rw [Phi.put_other _ _ hk] at e; exact .inr ⟨hk, e⟩
  have live : ∀ j, j ≠ σ.next → (σ.new blk).live j → σ.live j := by
    intro j hj ⟨x, hx, hd⟩
    rw [Heap.get_new, if_neg (fun h => hj h.symm)] at hx
    exact ⟨x, hx, hd⟩
  refine ⟨hle, ?_⟩
  constructor
  · exact hr'.size
  · exact hr'.old
  · intro k b sz' e
    rcases hput k _ e with ⟨rfl, hx⟩ | ⟨hk, hx⟩
    · cases hx
      refine ⟨Nat.le_trans hr.size hg, o, ho, ?_⟩
      intro x hx
      rw [Heap.get_new, if_pos rfl] at hx
      cases hx; exact hB
    · obtain ⟨h1, o', ho', h2⟩ := hr'.new k b sz' hx
      refine ⟨h1, o', ho', ?_⟩
      intro x hx
      rw [Heap.get_new, if_neg (fun h => hk h.symm)] at hx
      exact (h2 x hx).mono hle
  · intro k k' b s1 s2 e e' hl hl'
    rcases hput k _ e with ⟨hk, hx⟩ | ⟨hk, hx⟩ <;> rcases hput k' _ e' with ⟨hk', hx'⟩ | ⟨hk', hx'⟩
    · rw [hk, hk']
    · cases hx; have := hr.lt hx'; omega
    · cases hx'; have := hr.lt hx; omega
    · exact hr'.inj k k' b s1 s2 hx hx' (live k hk hl) (live k' hk' hl')
  · intro k h
    simp only [Heap.new_next] at h
    rw [Phi.put_other _ _ (by omega)]; exact hr'.fresh k (by omega)
  · intro k h
    have := hr'.resv k h
    rw [Phi.put_other _ _ (by omega)]
    exact ⟨this.1, by simp only [Heap.new_next]; omega⟩
  · exact hr'.tape
  · exact hr'.os
  · exact hr'.output
  · exact hr'.frz
  · intro k b s1 j e hl
    rcases hput k _ e with ⟨hk, hx⟩ | ⟨hk, hx⟩
    · cases hx
      show φ.F _ _ = none
      cases hF : φ.F g j with
      | none => rfl
      | some v => have := World.block_lt_of_cell? w ⟨g, j, none⟩ (hr.frz _ _ _ hF); simp only at this; omega
    · exact hr'.apart k b s1 j hx (live k hk hl)
  · exact hr'.base
  · exact hr'.drawn

section
variable {P : Program} {ρ : Ren}
theorem clone_afun (L : SlLaysW.n5 P ρ) {σ : Heap} {m : Nat} {es : List (Int × AVal)} (hm : σ.get m = some (.map es)) : AFun P (ρ.f 5) [.mp (.new m)] σ (.mp (.new σ.next)) (σ.new (.map es)) := by
  intro φ w vs hvs hr
  cases hvs with
  | cons hv hvs =>
  cases hvs
  cases hv with
  | @mp _ b hb =>
  simp only [Id.real, Option.map_eq_some_iff] at hb
  obtain ⟨⟨b', sz⟩, hk, rfl⟩ := hb
  obtain ⟨es', clock, ho, hrel, hst⟩ := mapBlock hr hk hm
  refine (AnyW.maps_Clone L b' es' clock w ho).mono ?_
  rintro e w' ⟨rfl, rfl⟩
  have hle := Phi.le_put (w.heap.size, 0) (hr.fresh σ.next (Nat.le_refl _))
  obtain ⟨h1, h2⟩ := hr.alloc (blk := .map es) (o := .map es' clock) (sz := 0) (.map ⟨hrel.1, hrel.2.imp fun _ h => ⟨h.1, h.2.mono hle⟩⟩ hst)
  exact ⟨_, _, rfl, h1, .mp (by simp [Id.real, Phi.put_same]), h2⟩
end

def noRead : Value → Option (DataW Unit × List MemPlace) := fun _ => some (.nil, [])
theorem entKeys {φ : Phi} {es0 : List (Int × AVal)} {es' : List MapEntry} (h : EntRel φ es0 es') : es'.map (·.key) = es0.map fun p => Value.int .i64 p.1 := by
  induction h with
  | nil => rfl
  | cons h1 _ _ ih => simp only [List.map_cons, h1, ih]
theorem rg_key {P : Program} {k : TypeId} (hk : P.underlying k = some (.int .i64)) {x : MapEntry} {n : Int} (hx : x.key = .int .i64 n) (hw : (Lit.int .i64 n).wf = true) : rd P k noRead x = some (.int .i64 n, .nil) := by
  have : keyOf P k (.int .i64 n) = some (.int .i64 n) := by simp [keyOf, hk, mapKey, hw]
  simp [rd, hx, this, noRead]
theorem map_owned {P : Program} {k : TypeId} (hk : P.underlying k = some (.int .i64)) {φ : Phi} {w : World} {b : Nat} {es : List (Int × AVal)} {es' : Array MapEntry} {clock : Nat} (ho : w.heap[b]? = some (.map es' clock))
    (hrel : MapRel φ es es'.toList) (hst : MapKept.Stamped es' clock) (hw : ∀ p ∈ es, (Lit.int .i64 p.1).wf = true) (hsz : es.length ≤ maxLen) :
    ∃ D : DataW Unit, w.ownsMap P k noRead b es.length D ∧ Maps.size D = es.length ∧ (intKeys D).Perm (es.map (·.1)) := by
  obtain ⟨hsort, es0, hperm, hent⟩ := hrel
  have hkeys := entKeys hent
  have hlen : es'.size = es.length := by
    have := congrArg List.length hkeys
    simp only [List.length_map, Array.length_toList] at this
    rw [this]; exact hperm.length_eq
  have hread : ∀ x ∈ es'.toList, ∃ n : Int, x.key = .int .i64 n ∧ (Lit.int .i64 n).wf = true := by
    intro x hx
    obtain ⟨z, hz, e⟩ := EntRel.keys hent x hx
    exact ⟨z.1, e, hw z (hperm.mem_iff.1 hz)⟩
  have hrg : es'.toList.map (rg P k noRead) = es0.map fun p => (Lit.int .i64 p.1, DataW.nil) := by
    have : es'.toList.map (rg P k noRead) = (es'.toList.map (·.key)).map fun v => (match v with | .int .i64 n => Lit.int .i64 n | _ => Lit.bool false, DataW.nil) := by
      rw [List.map_map]
      apply List.map_congr_left
      intro x hx
      obtain ⟨n, e, hwf⟩ := hread x hx
      simp only [Function.comp, rg, rg_key hk e hwf, Option.getD_some, e]
    rw [this, hkeys, List.map_map]
    rfl
  refine ⟨_, ⟨es', clock, ho, ⟨by rw [hlen]; exact hsz, hst, fun x hx => ?_⟩, by omega, rfl⟩, ?_, ?_⟩
  · obtain ⟨n, e, hwf⟩ := hread x hx
    exact ⟨_, rg_key hk e hwf⟩
  · show ((es'.toList.map (rg P k noRead)).foldr DataW.insert []).length = _
    rw [(Go.WideShapes.sorted_perm _).length_eq, List.length_map, Array.length_toList, hlen]
  · show (((es'.toList.map (rg P k noRead)).foldr DataW.insert []).map fun p => intOf p.1).Perm _
    refine ((Go.WideShapes.sorted_perm _).map _).trans ?_
    rw [hrg, List.map_map]
    exact hperm.map _
theorem sorted_keys : ∀ {es : List (Int × AVal)}, es.Pairwise (fun x y => x.1 < y.1) → (es.map (·.1)).mergeSort leI = es.map (·.1) := by
  intro es h
  refine List.mergeSort_of_pairwise ?_
  rw [List.pairwise_map]
  exact h.imp fun h => by simp only [leI, decide_eq_true_eq]; omega

def keyCells (es : List (Int × AVal)) : List AVal := es.map fun p => .int .i64 p.1
theorem keyCells_VRs (φ : Phi) : ∀ es : List (Int × AVal), VRs φ (keyCells es) ((es.map (·.1)).map encZ)
  | [] => .nil
  | p :: es => .cons (.int _ _) (keyCells_VRs φ es)
theorem sorted_afun {P : Program} {ρk ρs : Ren} (K : SlLaysZI.n10 P ρk) (S : SlLaysZI.n6 P ρs) (hsort : ∀ m, AnyZI.SortsIn P ρs Fence.wide m) (e9 : ∀ args w, (callFunc (ρs.f 9) args).run P w = .ok (.enter (ρs.f 9) args) w)
    (eg : ∀ args w, (callFunc (ρk.f 10) args).run P w = .ok (.enter (ρk.f 10) args) w) (hk : P.underlying (ρk.t 26) = some (.int .i64)) {σ : Heap} {q m : Nat} {opn : Option TypeId} {es : List (Int × AVal)}
    (hq : σ.get q = some (.cells [.mp (.new m)] opn)) (hm : σ.get m = some (.map es)) (hw : ∀ p ∈ es, (Lit.int .i64 p.1).wf = true) (hsz : es.length ≤ 1000000) (hd : σ.F0.dr = false) :
    AFun P (ρs.f 6) [.fn (ρk.f 10) [.ptr (.new q) 0]] σ (if es = [] then .nils else .slc (.new σ.next) 0 es.length (.gr 1)) (if es = [] then σ else σ.new (.cells (keyCells es) (some (ρs.t 26)))) := by
  intro φ w vs hvs hr
  cases hvs with
  | cons hv hvs =>
  cases hvs
  cases hv with
  | @fn _ _ caps hcap =>
  cases hcap with
  | cons hp hcap =>
  cases hcap
  cases hp with
  | @ptr _ bq _ hbq =>
  simp only [Id.real, Option.map_eq_some_iff] at hbq
  obtain ⟨⟨bq', szq⟩, hqk, rfl⟩ := hbq
  obtain ⟨v0, hv0, hr0⟩ := hr.cell (i := .new q) (off := 0) (b := bq') (a := .mp (.new m)) (by simp [Heap.cell, hq]) (by simp [Id.real, hqk])
  cases hr0 with
  | @mp _ bm hbm =>
  simp only [Id.real, Option.map_eq_some_iff] at hbm
  obtain ⟨⟨bm', szm⟩, hmk, rfl⟩ := hbm
  obtain ⟨es', clock, ho, hrel, hst⟩ := mapBlock hr hmk hm
  obtain ⟨D, hown, hsize, hperm⟩ := map_owned hk ho hrel hst hw (by unfold maxLen; omega)
  have hlt : bq' < w.heap.size := hr.lt hqk
  have hseq : SeqGives Fence.wide 2 P (ρk.f 10) #[.pointer (some ⟨bq', 0, none⟩)] encZ (fun ss => ss.Perm (intKeys D)) (Maps.size D) w :=
    AnyZI.keys_gives (ρ := ρk) K Fence.wide 2 trivial rfl (by omega) bq' bm' es.length D w hlt hv0 hown
  have cS := AnyZI.sorted_in S Fence.wide 5 trivial trivial trivial trivial rfl (by omega) (hsort _) e9 (ρk.f 10) #[.pointer (some ⟨bq', 0, none⟩)] trivial eg _ _ (by rw [hsize]; unfold maxLen; omega) (by rw [hsize]; omega) w hseq
  refine ((callsIn_wide (n := 5)).1 cS).mono ?_
  rintro e w' ⟨v, ss, rfl, hS, hrow, hnil, hbel⟩
  have hss : ss.mergeSort leI = es.map (·.1) := by
    rw [mergeSort_of_perm_i (hS.trans hperm), sorted_keys hrel.1]
  have hlen : ss.length = es.length := by
    have := (hS.trans hperm).length_eq
    simpa using this
  by_cases h0 : es = []
  · simp only [h0, if_true]
    have : ss = [] := List.eq_nil_of_length_eq_zero (by rw [hlen, h0]; rfl)
    rw [hnil.2 this]
    exact ⟨_, φ, rfl, φ.le_refl, .nils, hr.below_w hd hbel⟩
  · simp only [h0, if_false]
    rcases hrow.2 with ⟨hv, hz⟩ | ⟨g, cap, cur, rfl, hbase, hg, r1, r2, r3, r4⟩
    · exact absurd (List.eq_nil_of_length_eq_zero (hlen ▸ hz)) h0
    · have hkc : (keyCells es).length = es.length := by simp [keyCells]
      obtain ⟨h1, h2⟩ := hr.adopt hd hbel (sz := cap) (blk := .cells (keyCells es) (some (ρs.t 26))) hbase hg (by
        refine .cells (by simpa using r3) (by rw [hkc, ← hlen]; exact r1) (by intro h; cases h) (by intro T' h; cases h; rfl) ?_ (by intro off _; simp)
        have e : cur.toList.take (ss.length * 1) = (ss.mergeSort leI).map encZ := r4
        rw [Nat.mul_one, hlen, hss] at e
        rw [hkc, e]
        exact keyCells_VRs _ es)
      rw [hlen]
      exact ⟨_, _, rfl, h1, .slcG 0 es.length cap (Phi.put_same ..) (by omega) (by rw [← hlen]; exact r1), h2⟩
end Go.Mini
namespace Go.Mini
open Go
section
variable {P : Program} {n : Nat} {φ : Phi} {σ : Heap} {w : World} {a : Act}
theorem EntRel.key {es0 : List (Int × AVal)} {es' : List MapEntry} (h : EntRel φ es0 es') : ∀ e ∈ es', ∃ p ∈ es0, e.key = .int .i64 p.1 := by
  induction h with
  | nil => intro e he; cases he
  | cons h1 h2 h3 ih =>
    intro e he
    rcases List.mem_cons.1 he with rfl | he
    · exact ⟨_, List.mem_cons_self .., h1⟩
    · obtain ⟨p, hp, e⟩ := ih e he; exact ⟨p, List.mem_cons_of_mem _ hp, e⟩
theorem EntRel.has {es0 : List (Int × AVal)} {es' : List MapEntry} (h : EntRel φ es0 es') : ∀ p ∈ es0, ∃ e ∈ es', e.key = .int .i64 p.1 := by
  induction h with
  | nil => intro e he; cases he
  | cons h1 h2 h3 ih =>
    intro e he
    rcases List.mem_cons.1 he with rfl | he
    · exact ⟨_, List.mem_cons_self .., h1⟩
    · obtain ⟨p, hp, e⟩ := ih e he; exact ⟨p, List.mem_cons_of_mem _ hp, e⟩
theorem afun_of_wp {f : FuncId} {fn : Func} (hfn : P.funcs[f]? = some fn) {c : Code} (hcb : fn.body = some c) {r : List SRes} (hres : cRes P fn.ntmps fn.results.toList = some r) {args : List AVal} {σ' : Heap} {v : AVal} (hlen : args.length ≤ fn.ntmps)
    (h : ∀ (φ : Phi) (a : Act) (w : World), FR φ fn.ntmps (Frame.ofArgs 0 args) a → Rel φ σ w → c.wp P (fun e a' w' => (e = .normal ∨ e = .ret) ∧ ∃ (φ' : Phi) (fr' : Frame), φ.le φ' ∧ FR φ' fn.ntmps fr' a' ∧ Rel φ' σ' w' ∧ resOf r fr' σ' = some v) a w) : AFun P f args σ v σ' := by
  intro φ w vs hvs hr
  have hl := hvs.length
  refine calls_of_wp hfn hcb ?_
  have hF : FR φ fn.ntmps (Frame.ofArgs 0 args) { tmps := vs.toArray ++ Array.replicate (fn.ntmps - vs.toArray.size) Go.undef, defers := [] } := by
    refine ⟨?_, ?_, rfl⟩
    · simp; omega
    · intro t ht
      rw [ofArgs_get]
      simp only [Nat.zero_le, if_true, Nat.sub_zero]
      by_cases hta : t < args.length
      · obtain ⟨u, hu, hur⟩ := hvs.get t args[t] (by simp [hta])
        have : (vs.toArray ++ Array.replicate (fn.ntmps - vs.toArray.size) Go.undef).getD t Go.undef = u := by
          have htv : t < vs.length := by omega
          rw [Array.getD_eq_getD_getElem?, Array.getElem?_append_left (by simpa using htv)]
          simp only [List.getElem?_toArray, hu, Option.getD_some]
        rw [this]
        simpa [hta] using hur
      · have : (vs.toArray ++ Array.replicate (fn.ntmps - vs.toArray.size) Go.undef).getD t Go.undef = Go.undef := by
          rw [Array.getD_eq_getD_getElem?, Array.getElem?_append_right (by simp; omega)]
          simp only [Array.getElem?_replicate]
          split <;> rfl
        rw [this, List.getElem?_eq_none (by omega)]
        exact VR.undef φ
  refine wp_mono (h φ _ w hF hr) ?_
  rintro e a' w' ⟨he, φ', fr', h1, h3, h4, g2⟩
  have hfin : a'.defers = [] ∧ ∃ u, (results fn a'.tmps).run P w' = .ok u w' ∧ ∃ v' φ'', Ending.returned u = .returned v' ∧ φ.le φ'' ∧ VR φ'' v v' ∧ Rel φ'' σ' w' := by
    refine ⟨h3.defers, ?_⟩
    unfold resOf at g2
    cases hrv : rvals r fr' σ' with
    | none => rw [hrv] at g2; cases g2
    | some vals =>
      rw [hrv] at g2
      obtain ⟨us, k1, k2⟩ := results_ok (P := P) h4 h3 fn.results.toList r vals hres hrv
      have hrun : (results fn a'.tmps).run P w' = .ok (if h : us.toArray.size = 1 then us.toArray[0] else .tuple us.toArray) w' := by
        have hrs : results fn a'.tmps = (fn.results.mapM (resSem a'.tmps)) >>= fun (vs : Array Value) => pure (if h : vs.size = 1 then vs[0] else .tuple vs) := rfl
        rw [hrs]
        simp only [Sem.run_bind]
        rw [Array.mapM_eq_mapM_toList]
        simp only [Sem.run_map]
        rw [k1]
        rfl
      refine ⟨_, hrun, _, φ', rfl, h1, ?_, h4⟩
      cases vals with
      | nil =>
        cases k2; cases g2
        exact VR.tup (vs := []) .nil
      | cons x l =>
        cases l with
        | nil =>
          cases k2 with
          | cons k3 k4 => cases k4; cases g2; simpa using k3
        | cons y l =>
          cases k2 with
          | cons k3 k4 => cases k4 with
            | cons k5 k6 =>
              cases g2
              rw [dif_neg (by simp)]
              exact VR.tup (.cons k3 (.cons k5 k6))
  rcases he with rfl | rfl
  · exact hfin
  · exact hfin
theorem wp_first (hm : P.follows .mixedOrders = true) {x y : Code} {sx : SCode} (hx : cCode P n x = some sx) {fr : Frame} (hf : FR φ n fr a) (hr : Rel φ σ w) {K : Frame → Heap → Prop} {Z : SExit → Frame → Heap → Prop} {R : Exit → Act → World → Prop}
    (h : awp P sx (thn K Z) fr σ) (hK : ∀ (φ' : Phi) fr' σ' a' w', φ.le φ' → FR φ' n fr' a' → Rel φ' σ' w' → K fr' σ' → y.wp P R a' w')
    (hZ : ∀ (φ' : Phi) fr' σ' a' w', φ.le φ' → FR φ' n fr' a' → Rel φ' σ' w' → (Z .ret fr' σ' → R .ret a' w') ∧ ∀ id, Z (.exit id) fr' σ' → R (.exit id) a' w') : (Code.seq x y).wp P R a w := by
  refine wp_seq (awp_sound hm x sx _ _ φ fr σ a w hx h hf hr ?_)
  intro φ' fr' σ' se e a' w' g1 g2 g3 g4 g5
  cases g2 with
  | normal => exact hK φ' fr' σ' a' w' g1 g3 g4 g5
  | exit id => exact (hZ φ' fr' σ' a' w' g1 g3 g4).2 id g5
  | ret => exact (hZ φ' fr' σ' a' w' g1 g3 g4).1 g5
end
def sl : Code → Code
  | .seq a _ => a
  | c => c
def sr : Code → Code
  | .seq _ b => b
  | c => c
section
variable {P : Program} {n : Nat}
def FSees (n : Nat) (fr : Frame) (σ : Heap) (fr' : Frame) (σ' : Heap) : Prop :=
  ∀ (φ : Phi) (a : Act) (w : World), FR φ n fr a → Rel φ σ w → ∃ φ' : Phi, φ.le φ' ∧ FR φ' n fr' a ∧ Rel φ' σ' w
theorem FSees.refl (fr : Frame) (σ : Heap) : FSees n fr σ fr σ := fun φ a w hf hr => ⟨φ, φ.le_refl, hf, hr⟩
theorem FSees.trans {fr fr' fr'' : Frame} {σ σ' σ'' : Heap} (h : FSees n fr σ fr' σ') (h' : FSees n fr' σ' fr'' σ'') : FSees n fr σ fr'' σ'' := fun φ a w hf hr => by
  obtain ⟨φ1, h1, hf1, hr1⟩ := h φ a w hf hr
  obtain ⟨φ2, h2, hf2, hr2⟩ := h' φ1 a w hf1 hr1
  exact ⟨φ2, Phi.le_trans h1 h2, hf2, hr2⟩
theorem FSees.reg {fr : Frame} {σ τ : Heap} {t : Nat} {u v : AVal} (ht : t < n) (hu : fr.get t = u) (hs : Sees σ u τ v) : FSees n fr σ (fr.put t v) τ := by
  intro φ a w hf hr
  have h1 := hf.tmps t ht
  rw [hu] at h1
  obtain ⟨φ', h2, h3, h4⟩ := hs φ w _ h1 hr
  refine ⟨φ', h2, ⟨hf.size, fun s hs => ?_, hf.defers⟩, h4⟩
  rw [Frame.get_put]
  by_cases e : t = s
  · subst e; rw [if_pos rfl]; exact h3
  · rw [if_neg e]; exact (hf.tmps s hs).mono h2
end
theorem evd : type_of% (And.intro @Go.Mini.w_seq
  (And.intro @Go.Mini.w_reg
  (And.intro @Go.Mini.w_ret
  (And.intro @Go.Mini.w_draw
  (And.intro @Go.Mini.w_regA
  (And.intro @Go.Mini.w_skip
  (And.intro @Go.Mini.w_block
  (And.intro @Go.Mini.w_exit
  (And.intro @Go.Mini.w_cond_go
  (And.intro @Go.Mini.thn_normal
  (And.intro @Go.Mini.thn_ret
  (And.intro @Go.Mini.thn_exit
  (And.intro @Go.Mini.inBlk_normal
  (And.intro @Go.Mini.inBlk_ret
  (And.intro @Go.Mini.inBlk_exit
  (And.intro @Go.Mini.o_nil
  (And.intro @Go.Mini.o_plain
  (And.intro @Go.Mini.o_guard
  (And.intro @Go.Mini.oNext_eq
  (And.intro @Go.Mini.o_call
  (And.intro @Go.Mini.g_nil
  (And.intro @Go.Mini.g_cons
  (And.intro @Go.Mini.gNext_eq
  (And.intro @Go.Mini.gdo_pure
  (And.intro @Go.Mini.gdo_read
  (And.intro @Go.Mini.gdo_call @Go.Mini.gdo_eff)))))))))))))))))))))))))) :=
  (And.intro @Go.Mini.w_seq
  (And.intro @Go.Mini.w_reg
  (And.intro @Go.Mini.w_ret
  (And.intro @Go.Mini.w_draw
  (And.intro @Go.Mini.w_regA
  (And.intro @Go.Mini.w_skip
  (And.intro @Go.Mini.w_block
  (And.intro @Go.Mini.w_exit
  (And.intro @Go.Mini.w_cond_go
  (And.intro @Go.Mini.thn_normal
  (And.intro @Go.Mini.thn_ret
  (And.intro @Go.Mini.thn_exit
  (And.intro @Go.Mini.inBlk_normal
  (And.intro @Go.Mini.inBlk_ret
  (And.intro @Go.Mini.inBlk_exit
  (And.intro @Go.Mini.o_nil
  (And.intro @Go.Mini.o_plain
  (And.intro @Go.Mini.o_guard
  (And.intro @Go.Mini.oNext_eq
  (And.intro @Go.Mini.o_call
  (And.intro @Go.Mini.g_nil
  (And.intro @Go.Mini.g_cons
  (And.intro @Go.Mini.gNext_eq
  (And.intro @Go.Mini.gdo_pure
  (And.intro @Go.Mini.gdo_read
  (And.intro @Go.Mini.gdo_call @Go.Mini.gdo_eff))))))))))))))))))))))))))
theorem evu : type_of% (And.intro @Go.Mini.kNext_bar
  (And.intro @not_false_eq_true
  (And.intro @Go.Mini.ev_tmp
  (And.intro @Go.Mini.ev_lit
  (And.intro @Go.Mini.go1_some
  (And.intro @Go.Mini.go1_map
  (And.intro @Go.Mini.goM_some
  (And.intro @Go.Mini.goG_true
  (And.intro @Go.Mini.goG_false
  (And.intro @Go.Mini.putO_some
  (And.intro @Go.Mini.putO_none
  (And.intro @Go.Mini.Frame.get_put
  (And.intro @Nat.zero_add
  (And.intro @Bool.false_eq_true
  (And.intro @Bool.not_false
  (And.intro @Bool.not_true
  (And.intro @Go.Mini.Heap.get_new
  (And.intro @Go.Mini.Heap.get_set
  (And.intro @Go.Mini.Heap.new_next
  (And.intro @Go.Mini.Heap.set_next
  (And.intro @Go.Mini.bare_next
  (And.intro @Go.Mini.cell_new
  (And.intro @List.getElem?_cons_zero.{0}
  (And.intro @List.getElem?_cons_succ.{0}
  (And.intro @Option.map_some.{0, 0}
  (And.intro @Go.Mini.wantd_get
  (And.intro @Go.Mini.evs_cons'
  (And.intro @Go.Mini.evs_nil
  (And.intro @Go.Mini.evParts_cons
  (And.intro @Go.Mini.evParts_nil
  (And.intro @List.length_cons.{0}
  (And.intro @List.length_nil.{0}
  (And.intro @List.take_zero.{0}
  (And.intro @List.take_succ_cons.{0}
  (And.intro @List.drop_zero.{0}
  (And.intro @List.drop_succ_cons.{0}
  (And.intro @List.drop_nil.{0}
  (And.intro @List.take_nil.{0}
  (And.intro @List.nil_append.{0}
  (And.intro @List.cons_append.{0}
  (And.intro @List.append_nil.{0}
  (And.intro @BEq.rfl.{0}
  (And.intro @Bool.and_true
  (And.intro @Bool.true_and
  (And.intro @Bool.and_false
  (And.intro @Bool.false_and
  (And.intro @decide_true
  (And.intro @decide_false
  (And.intro @Nat.le_refl
  (And.intro @List.all_cons.{0}
  (And.intro @List.all_nil.{0}
  (And.intro @Option.some.injEq.{0}
  (And.intro @true_and
  (And.intro @and_true
  (And.intro @Bool.true_eq_false
  (And.intro @beq_true
  (And.intro @beq_false
  (And.intro @Go.Mini.Heap.new_W
  (And.intro @Go.Mini.Heap.set_W
  (And.intro @Go.Mini.Heap.new_F0
  (And.intro @Go.Mini.Heap.set_F0
  (And.intro @Go.Mini.goV_some
  (And.intro @Go.Mini.goV_map
  (And.intro @Go.Mini.wantd_none
  (And.intro @Go.Mini.goF_fn
  (And.intro @or_true
  (And.intro @true_or
  (And.intro @false_or
  (And.intro @false_and
  (And.intro @and_false
  (And.intro @List.map_cons.{0, 0}
  (And.intro @List.map_nil.{0, 0}
  (And.intro @List.flatMap_cons.{0, 0}
  (And.intro @List.flatMap_nil.{0, 0}
  (And.intro @Go.Mini.rE_nil
  (And.intro @Go.Mini.rE_some
  (And.intro @Go.Mini.rE_none
  (And.intro @Int.zero_add
  (And.intro @List.replicate_succ.{0}
  (And.intro @List.replicate_zero.{0}
  (And.intro @List.flatten_cons.{0}
  (And.intro @List.flatten_nil.{0}
  (And.intro @Int.toNat_natCast
  (And.intro @Nat.one_mul
  (And.intro @Nat.mul_one
  (And.intro @Nat.zero_mul
  (And.intro @Go.Mini.evO_none
  (And.intro @Go.Mini.evO_some
  (And.intro @List.length_map.{0, 0}
  (And.intro @Int.natCast_nonneg
  (And.intro @Int.le_refl
  (And.intro @Int.toNat_zero
  (And.intro @List.isEmpty_cons.{0} @Int.cast_ofNat_Int))))))))))))))))))))))))))))))))))))))))))))))))))))))))))))))))))))))))))))))))))))))))))))) :=
  (And.intro @Go.Mini.kNext_bar
  (And.intro @not_false_eq_true
  (And.intro @Go.Mini.ev_tmp
  (And.intro @Go.Mini.ev_lit
  (And.intro @Go.Mini.go1_some
  (And.intro @Go.Mini.go1_map
  (And.intro @Go.Mini.goM_some
  (And.intro @Go.Mini.goG_true
  (And.intro @Go.Mini.goG_false
  (And.intro @Go.Mini.putO_some
  (And.intro @Go.Mini.putO_none
  (And.intro @Go.Mini.Frame.get_put
  (And.intro @Nat.zero_add
  (And.intro @Bool.false_eq_true
  (And.intro @Bool.not_false
  (And.intro @Bool.not_true
  (And.intro @Go.Mini.Heap.get_new
  (And.intro @Go.Mini.Heap.get_set
  (And.intro @Go.Mini.Heap.new_next
  (And.intro @Go.Mini.Heap.set_next
  (And.intro @Go.Mini.bare_next
  (And.intro @Go.Mini.cell_new
  (And.intro @List.getElem?_cons_zero.{0}
  (And.intro @List.getElem?_cons_succ.{0}
  (And.intro @Option.map_some.{0, 0}
  (And.intro @Go.Mini.wantd_get
  (And.intro @Go.Mini.evs_cons'
  (And.intro @Go.Mini.evs_nil
  (And.intro @Go.Mini.evParts_cons
  (And.intro @Go.Mini.evParts_nil
  (And.intro @List.length_cons.{0}
  (And.intro @List.length_nil.{0}
  (And.intro @List.take_zero.{0}
  (And.intro @List.take_succ_cons.{0}
  (And.intro @List.drop_zero.{0}
  (And.intro @List.drop_succ_cons.{0}
  (And.intro @List.drop_nil.{0}
  (And.intro @List.take_nil.{0}
  (And.intro @List.nil_append.{0}
  (And.intro @List.cons_append.{0}
  (And.intro @List.append_nil.{0}
  (And.intro @BEq.rfl.{0}
  (And.intro @Bool.and_true
  (And.intro @Bool.true_and
  (And.intro @Bool.and_false
  (And.intro @Bool.false_and
  (And.intro @decide_true
  (And.intro @decide_false
  (And.intro @Nat.le_refl
  (And.intro @List.all_cons.{0}
  (And.intro @List.all_nil.{0}
  (And.intro @Option.some.injEq.{0}
  (And.intro @true_and
  (And.intro @and_true
  (And.intro @Bool.true_eq_false
  (And.intro @beq_true
  (And.intro @beq_false
  (And.intro @Go.Mini.Heap.new_W
  (And.intro @Go.Mini.Heap.set_W
  (And.intro @Go.Mini.Heap.new_F0
  (And.intro @Go.Mini.Heap.set_F0
  (And.intro @Go.Mini.goV_some
  (And.intro @Go.Mini.goV_map
  (And.intro @Go.Mini.wantd_none
  (And.intro @Go.Mini.goF_fn
  (And.intro @or_true
  (And.intro @true_or
  (And.intro @false_or
  (And.intro @false_and
  (And.intro @and_false
  (And.intro @List.map_cons.{0, 0}
  (And.intro @List.map_nil.{0, 0}
  (And.intro @List.flatMap_cons.{0, 0}
  (And.intro @List.flatMap_nil.{0, 0}
  (And.intro @Go.Mini.rE_nil
  (And.intro @Go.Mini.rE_some
  (And.intro @Go.Mini.rE_none
  (And.intro @Int.zero_add
  (And.intro @List.replicate_succ.{0}
  (And.intro @List.replicate_zero.{0}
  (And.intro @List.flatten_cons.{0}
  (And.intro @List.flatten_nil.{0}
  (And.intro @Int.toNat_natCast
  (And.intro @Nat.one_mul
  (And.intro @Nat.mul_one
  (And.intro @Nat.zero_mul
  (And.intro @Go.Mini.evO_none
  (And.intro @Go.Mini.evO_some
  (And.intro @List.length_map.{0, 0}
  (And.intro @Int.natCast_nonneg
  (And.intro @Int.le_refl
  (And.intro @Int.toNat_zero
  (And.intro @List.isEmpty_cons.{0} @Int.cast_ofNat_Int)))))))))))))))))))))))))))))))))))))))))))))))))))))))))))))))))))))))))))))))))))))))))))))
theorem evf : type_of% (And.intro (And.intro (And.intro (And.intro (And.intro (And.intro (And.intro @bOf.eq_1 (And.intro @bOf.eq_2 @Frame.ofArgs.eq_1)) (And.intro @Frame.ofArgs.eq_2 (And.intro @aop.eq_1 @aop.eq_2)))
  (And.intro (And.intro @aop.eq_3 (And.intro @aop.eq_4 @aop.eq_5)) (And.intro (And.intro @aop.eq_6 @aop.eq_7) (And.intro @aop.eq_8 @aop.eq_9)))) (And.intro (And.intro (And.intro @aop.eq_10 (And.intro
  @aop.eq_11 @aop.eq_12)) (And.intro @aop.eq_13 (And.intro @aop.eq_14 @aop.eq_15))) (And.intro (And.intro @aop.eq_16 (And.intro @aop.eq_17 @aop.eq_18)) (And.intro (And.intro @aop.eq_19 @aop.eq_20)
  (And.intro @aop.eq_21 @aop.eq_22))))) (And.intro (And.intro (And.intro (And.intro @aop.eq_23 (And.intro @aop.eq_24 @aop.eq_25)) (And.intro @aop.eq_26 (And.intro @aop.eq_27 @aop.eq_28))) (And.intro
  (And.intro @aop.eq_29 (And.intro @aop.eq_30 @aop.eq_31)) (And.intro (And.intro @aop.eq_32 @aop.eq_33) (And.intro @aop.eq_34 @aop.eq_35)))) (And.intro (And.intro (And.intro @aop.eq_36 (And.intro
  @aop.eq_37 @aop.eq_38)) (And.intro @aop.eq_39 (And.intro @aop.eq_40 @aop.eq_41))) (And.intro (And.intro @aop.eq_42 (And.intro @aop.eq_43 @aop.eq_44)) (And.intro (And.intro @aop.eq_45 @aop.eq_46)
  (And.intro (And.intro @aop.eq_47 (And.intro @aop.eq_48 @aop.eq_49)) @AVal.isRaw.eq_1)))))) (And.intro (And.intro (And.intro (And.intro (And.intro @AVal.isRaw.eq_2 (And.intro @AVal.cells.eq_1 @AVal.cells.eq_2)) (And.intro @AVal.isCell.eq_1
  (And.intro @AVal.isCell.eq_2 @AVal.isCell.eq_3))) (And.intro (And.intro @AVal.isCell.eq_4 (And.intro @Heap.bare.eq_1 @aLoad.eq_1)) (And.intro (And.intro @aLoad.eq_2 @aLoad.eq_3) (And.intro @aLoad.eq_4
  @aLoad.eq_5)))) (And.intro (And.intro (And.intro @cellsFrom.eq_1 (And.intro @cellsFrom.eq_2 @aBin.eq_1)) (And.intro @aBin.eq_2 (And.intro @aBin.eq_3 @aBin.eq_4))) (And.intro (And.intro @aBin.eq_5
  (And.intro @aBin.eq_6 @aBin.eq_7)) (And.intro (And.intro @aInt.eq_1 @aInt.eq_2) (And.intro @aInt.eq_3 @aInt.eq_4))))) (And.intro (And.intro (And.intro (And.intro @aInt.eq_5 (And.intro @aInt.eq_6
  @aInt.eq_7)) (And.intro @aInt.eq_8 (And.intro @aInt.eq_9 @aInt.eq_10))) (And.intro (And.intro @aInt.eq_11 (And.intro @aInt.eq_12 @aInt.eq_13)) (And.intro (And.intro @aInt.eq_14 @aInt.eq_15) (And.intro
  @aInt.eq_16 @aFill.eq_1)))) (And.intro (And.intro (And.intro @aFill.eq_2 (And.intro @over.eq_1 @foldO.eq_1)) (And.intro @foldO.eq_2 (And.intro @aMax2.eq_1 @aMax2.eq_2))) (And.intro (And.intro
  @aMin2.eq_1 (And.intro @aMin2.eq_2 @aEq.eq_1)) (And.intro (And.intro @aEq.eq_2 @aEq.eq_3) (And.intro @aEq.eq_4 @aEq.eq_5))))))) (And.intro (And.intro (And.intro (And.intro (And.intro (And.intro
  @aEq.eq_6 (And.intro @aEq.eq_7 @aEq.eq_8)) (And.intro @aEq.eq_9 (And.intro @aEq.eq_10 @aEq.eq_11))) (And.intro (And.intro @aEq.eq_12 (And.intro @aEq.eq_13 @aEq.eq_14)) (And.intro (And.intro @aEq.eq_15
  @aEq.eq_16) (And.intro @aEq.eq_17 @aEq.eq_18)))) (And.intro (And.intro (And.intro @aEq0.eq_1 (And.intro @aEq0.eq_2 @aEq0.eq_3)) (And.intro @aEq0.eq_4 (And.intro @aEqs.eq_1 @aEqs.eq_2))) (And.intro
  (And.intro @aEqs.eq_3 (And.intro @storeAt.eq_1 @aStore.eq_1)) (And.intro (And.intro @aStore.eq_2 @ends.eq_1) (And.intro @ends.eq_2 @resOf.eq_1))))) (And.intro (And.intro (And.intro (And.intro
  @rvals.eq_1 (And.intro @rvals.eq_2 @rvals.eq_3)) (And.intro @SOp.kind.eq_1 (And.intro @SOp.kind.eq_2 @SOp.kind.eq_3))) (And.intro (And.intro @SOp.kind.eq_4 (And.intro @SOp.kind.eq_5 @SOp.kind.eq_6))
  (And.intro (And.intro @SOp.kind.eq_7 @SOp.kind.eq_8) (And.intro @SOp.kind.eq_9 @SOp.kind.eq_10)))) (And.intro (And.intro (And.intro @SOp.kind.eq_11 (And.intro @SOp.kind.eq_12 @SOp.kind.eq_13))
  (And.intro @SOp.kind.eq_14 (And.intro @SOp.kind.eq_15 @SOp.kind.eq_16))) (And.intro (And.intro @SOp.kind.eq_17 (And.intro @SOp.kind.eq_18 @SOp.kind.eq_19)) (And.intro (And.intro @SOp.kind.eq_20
  @SOp.kind.eq_21) (And.intro @SOp.kind.eq_22 @SOp.kind.eq_23)))))) (And.intro (And.intro (And.intro (And.intro (And.intro @AVal.undef.eq_1 (And.intro @Reads.eq_1 @Reads.eq_2)) (And.intro @Reads.eq_3
  (And.intro @Reads.eq_4 @Reads.eq_5))) (And.intro (And.intro @Reads.eq_6 (And.intro @Reads.eq_7 @okId.eq_1)) (And.intro (And.intro @okId.eq_2 @okId.eq_3) (And.intro @okId.eq_4 @instOps.eq_1))))
  (And.intro (And.intro (And.intro @SOp.inst.eq_1 (And.intro @SOp.inst.eq_2 @SOp.inst.eq_3)) (And.intro @resvs.eq_1 (And.intro @SOp.laid.eq_1 @SOp.laid.eq_2))) (And.intro (And.intro @SOp.laid.eq_3
  (And.intro @Heap.resv.eq_1 @Heap.resv.eq_2)) (And.intro (And.intro @sames0.eq_1 @sames0.eq_2) (And.intro @sames0.eq_3 @AVal.same0.eq_1))))) (And.intro (And.intro (And.intro (And.intro @AVal.same0.eq_2
  (And.intro @AVal.same0.eq_3 @AVal.same0.eq_4)) (And.intro @AVal.same0.eq_5 (And.intro @AVal.same0.eq_6 @AVal.same0.eq_7))) (And.intro (And.intro @AVal.same0.eq_8 (And.intro @AVal.same0.eq_9
  @AVal.same0.eq_10)) (And.intro (And.intro @AVal.same0.eq_11 @AVal.same0.eq_12) (And.intro @AVal.same0.eq_13 @repl.eq_1)))) (And.intro (And.intro (And.intro @aLenS.eq_1 (And.intro @aLenS.eq_2
  @aIdx.eq_1)) (And.intro (And.intro @aIdx.eq_2 @aIdx.eq_3) (And.intro @aPart.eq_1 @aPart.eq_2))) (And.intro (And.intro @aIdxS.eq_1 (And.intro @aIdxS.eq_2 @ne_eq.{1})) (And.intro (And.intro
  @ge_iff_le.{0} @gt_iff_lt.{0}) (And.intro @exists_eq_left'.{1} @eq_self.{1})))))))) :=
  (And.intro (And.intro (And.intro (And.intro (And.intro (And.intro (And.intro @bOf.eq_1 (And.intro @bOf.eq_2 @Frame.ofArgs.eq_1)) (And.intro @Frame.ofArgs.eq_2 (And.intro @aop.eq_1 @aop.eq_2)))
  (And.intro (And.intro @aop.eq_3 (And.intro @aop.eq_4 @aop.eq_5)) (And.intro (And.intro @aop.eq_6 @aop.eq_7) (And.intro @aop.eq_8 @aop.eq_9)))) (And.intro (And.intro (And.intro @aop.eq_10 (And.intro
  @aop.eq_11 @aop.eq_12)) (And.intro @aop.eq_13 (And.intro @aop.eq_14 @aop.eq_15))) (And.intro (And.intro @aop.eq_16 (And.intro @aop.eq_17 @aop.eq_18)) (And.intro (And.intro @aop.eq_19 @aop.eq_20)
  (And.intro @aop.eq_21 @aop.eq_22))))) (And.intro (And.intro (And.intro (And.intro @aop.eq_23 (And.intro @aop.eq_24 @aop.eq_25)) (And.intro @aop.eq_26 (And.intro @aop.eq_27 @aop.eq_28))) (And.intro
  (And.intro @aop.eq_29 (And.intro @aop.eq_30 @aop.eq_31)) (And.intro (And.intro @aop.eq_32 @aop.eq_33) (And.intro @aop.eq_34 @aop.eq_35)))) (And.intro (And.intro (And.intro @aop.eq_36 (And.intro
  @aop.eq_37 @aop.eq_38)) (And.intro @aop.eq_39 (And.intro @aop.eq_40 @aop.eq_41))) (And.intro (And.intro @aop.eq_42 (And.intro @aop.eq_43 @aop.eq_44)) (And.intro (And.intro @aop.eq_45 @aop.eq_46)
  (And.intro (And.intro @aop.eq_47 (And.intro @aop.eq_48 @aop.eq_49)) @AVal.isRaw.eq_1)))))) (And.intro (And.intro (And.intro (And.intro (And.intro @AVal.isRaw.eq_2 (And.intro @AVal.cells.eq_1 @AVal.cells.eq_2)) (And.intro @AVal.isCell.eq_1
  (And.intro @AVal.isCell.eq_2 @AVal.isCell.eq_3))) (And.intro (And.intro @AVal.isCell.eq_4 (And.intro @Heap.bare.eq_1 @aLoad.eq_1)) (And.intro (And.intro @aLoad.eq_2 @aLoad.eq_3) (And.intro @aLoad.eq_4
  @aLoad.eq_5)))) (And.intro (And.intro (And.intro @cellsFrom.eq_1 (And.intro @cellsFrom.eq_2 @aBin.eq_1)) (And.intro @aBin.eq_2 (And.intro @aBin.eq_3 @aBin.eq_4))) (And.intro (And.intro @aBin.eq_5
  (And.intro @aBin.eq_6 @aBin.eq_7)) (And.intro (And.intro @aInt.eq_1 @aInt.eq_2) (And.intro @aInt.eq_3 @aInt.eq_4))))) (And.intro (And.intro (And.intro (And.intro @aInt.eq_5 (And.intro @aInt.eq_6
  @aInt.eq_7)) (And.intro @aInt.eq_8 (And.intro @aInt.eq_9 @aInt.eq_10))) (And.intro (And.intro @aInt.eq_11 (And.intro @aInt.eq_12 @aInt.eq_13)) (And.intro (And.intro @aInt.eq_14 @aInt.eq_15) (And.intro
  @aInt.eq_16 @aFill.eq_1)))) (And.intro (And.intro (And.intro @aFill.eq_2 (And.intro @over.eq_1 @foldO.eq_1)) (And.intro @foldO.eq_2 (And.intro @aMax2.eq_1 @aMax2.eq_2))) (And.intro (And.intro
  @aMin2.eq_1 (And.intro @aMin2.eq_2 @aEq.eq_1)) (And.intro (And.intro @aEq.eq_2 @aEq.eq_3) (And.intro @aEq.eq_4 @aEq.eq_5))))))) (And.intro (And.intro (And.intro (And.intro (And.intro (And.intro
  @aEq.eq_6 (And.intro @aEq.eq_7 @aEq.eq_8)) (And.intro @aEq.eq_9 (And.intro @aEq.eq_10 @aEq.eq_11))) (And.intro (And.intro @aEq.eq_12 (And.intro @aEq.eq_13 @aEq.eq_14)) (And.intro (And.intro @aEq.eq_15
  @aEq.eq_16) (And.intro @aEq.eq_17 @aEq.eq_18)))) (And.intro (And.intro (And.intro @aEq0.eq_1 (And.intro @aEq0.eq_2 @aEq0.eq_3)) (And.intro @aEq0.eq_4 (And.intro @aEqs.eq_1 @aEqs.eq_2))) (And.intro
  (And.intro @aEqs.eq_3 (And.intro @storeAt.eq_1 @aStore.eq_1)) (And.intro (And.intro @aStore.eq_2 @ends.eq_1) (And.intro @ends.eq_2 @resOf.eq_1))))) (And.intro (And.intro (And.intro (And.intro
  @rvals.eq_1 (And.intro @rvals.eq_2 @rvals.eq_3)) (And.intro @SOp.kind.eq_1 (And.intro @SOp.kind.eq_2 @SOp.kind.eq_3))) (And.intro (And.intro @SOp.kind.eq_4 (And.intro @SOp.kind.eq_5 @SOp.kind.eq_6))
  (And.intro (And.intro @SOp.kind.eq_7 @SOp.kind.eq_8) (And.intro @SOp.kind.eq_9 @SOp.kind.eq_10)))) (And.intro (And.intro (And.intro @SOp.kind.eq_11 (And.intro @SOp.kind.eq_12 @SOp.kind.eq_13))
  (And.intro @SOp.kind.eq_14 (And.intro @SOp.kind.eq_15 @SOp.kind.eq_16))) (And.intro (And.intro @SOp.kind.eq_17 (And.intro @SOp.kind.eq_18 @SOp.kind.eq_19)) (And.intro (And.intro @SOp.kind.eq_20
  @SOp.kind.eq_21) (And.intro @SOp.kind.eq_22 @SOp.kind.eq_23)))))) (And.intro (And.intro (And.intro (And.intro (And.intro @AVal.undef.eq_1 (And.intro @Reads.eq_1 @Reads.eq_2)) (And.intro @Reads.eq_3
  (And.intro @Reads.eq_4 @Reads.eq_5))) (And.intro (And.intro @Reads.eq_6 (And.intro @Reads.eq_7 @okId.eq_1)) (And.intro (And.intro @okId.eq_2 @okId.eq_3) (And.intro @okId.eq_4 @instOps.eq_1))))
  (And.intro (And.intro (And.intro @SOp.inst.eq_1 (And.intro @SOp.inst.eq_2 @SOp.inst.eq_3)) (And.intro @resvs.eq_1 (And.intro @SOp.laid.eq_1 @SOp.laid.eq_2))) (And.intro (And.intro @SOp.laid.eq_3
  (And.intro @Heap.resv.eq_1 @Heap.resv.eq_2)) (And.intro (And.intro @sames0.eq_1 @sames0.eq_2) (And.intro @sames0.eq_3 @AVal.same0.eq_1))))) (And.intro (And.intro (And.intro (And.intro @AVal.same0.eq_2
  (And.intro @AVal.same0.eq_3 @AVal.same0.eq_4)) (And.intro @AVal.same0.eq_5 (And.intro @AVal.same0.eq_6 @AVal.same0.eq_7))) (And.intro (And.intro @AVal.same0.eq_8 (And.intro @AVal.same0.eq_9
  @AVal.same0.eq_10)) (And.intro (And.intro @AVal.same0.eq_11 @AVal.same0.eq_12) (And.intro @AVal.same0.eq_13 @repl.eq_1)))) (And.intro (And.intro (And.intro @aLenS.eq_1 (And.intro @aLenS.eq_2
  @aIdx.eq_1)) (And.intro (And.intro @aIdx.eq_2 @aIdx.eq_3) (And.intro @aPart.eq_1 @aPart.eq_2))) (And.intro (And.intro @aIdxS.eq_1 (And.intro @aIdxS.eq_2 @ne_eq.{1})) (And.intro (And.intro
  @ge_iff_le.{0} @gt_iff_lt.{0}) (And.intro @exists_eq_left'.{1} @eq_self.{1}))))))))
theorem evw : type_of% (And.intro @evu (And.intro @evf (And.intro implies_true.{1} implies_true.{0}))) := And.intro @evu (And.intro @evf (And.intro implies_true.{1} implies_true.{0}))
theorem tl {a b : Nat} (h : Nat.ble a b = true) : a ≤ b := Nat.le_of_ble_eq_true h
end Go.Mini

