/- The abstract machine's operations against the model's, first part. No condition. -/
import Derived.Test.YtaakajfmbjjigaaMA
import Derived.Laws.StructEq
import Derived.Laws.NewFold
set_option linter.unusedVariables false
set_option linter.unusedSimpArgs false
set_option maxHeartbeats 4000000
namespace Go.Mini
open Go

section
variable {P : Program} {φ : Phi} {σ : Heap} {w : World} {n : Nat} {fr : Frame} {a : Act}

theorem cOpd_ok {X : Operand} {x : Opd} (h : cOpd n X = some x) (hf : FR φ n fr a) : VR φ (x.ev fr) (a.eval X) := by
  cases X with
  | tmp t =>
    simp only [cOpd] at h
    split at h
    · cases h; exact hf.tmps t ‹_›
    · cases h
  | const v => cases h; exact ofVal1_VR φ v
  | global g => cases h; exact .ptr 0 rfl
  | func f => cases h; exact .fn f .nil
theorem cOpds_ok (hf : FR φ n fr a) : ∀ {X : List Operand} {x : List Opd}, cOpds n X = some x → VRs φ (evs fr x) (X.map a.eval)
  | [], _, h => by cases h; exact .nil
  | Y :: l, x, h => by
    simp only [cOpds] at h
    split at h
    · rename_i y r h1 h2
      cases h
      exact .cons (cOpd_ok h1 hf) (cOpds_ok hf h2)
    · cases h
theorem cOpdO_ok {X : Option Operand} {x : Option Opd} (h : cOpdO n X = some x) (hf : FR φ n fr a) :
    (X = none ∧ x = none) ∨ ∃ Y y, X = some Y ∧ x = some y ∧ VR φ (y.ev fr) (a.eval Y) := by
  cases X with
  | none => cases h; exact .inl ⟨rfl, rfl⟩
  | some Y =>
    simp only [cOpdO, Option.map_eq_some_iff] at h
    obtain ⟨y, hy, rfl⟩ := h
    exact .inr ⟨Y, y, rfl, rfl, cOpd_ok hy hf⟩

def Doing (P : Program) (s : Sem Next) (w : World) (φ : Phi) (x : AVal) (σ' : Heap) : Prop :=
  ∃ v w' φ', (s.run P w = .ok (.value v) w' ∨ (s.run P w = .ok .skip w' ∧ v = Go.undef)) ∧ φ.le φ' ∧ VR φ' x v ∧ Rel φ' σ' w'
theorem Doing.val {s : Sem Next} {x : AVal} {v : Value} (h : s.run P w = .ok (.value v) w) (hv : VR φ x v) (hr : Rel φ σ w) : Doing P s w φ x σ :=
  ⟨v, w, φ, .inl h, Phi.le_refl φ, hv, hr⟩
theorem Doing.sem {s : Sem Value} {x : AVal} {v : Value} (h : s.run P w = .ok v w) (hv : VR φ x v) (hr : Rel φ σ w) : Doing P (do pure (.value (← s))) w φ x σ :=
  .val (by simp [h]) hv hr
theorem Doing.unit {s : Sem Unit} {w' : World} {σ' : Heap} (h : s.run P w = .ok () w') (hr : Rel φ σ' w') : Doing P (do s; pure .skip) w φ .undef σ' :=
  ⟨Go.undef, w', φ, .inr ⟨by simp [h], rfl⟩, Phi.le_refl φ, VR.undef φ, hr⟩

/-! ### Numbers, strings -/
theorem aInt_ok {op : BinOp} {k : IntKind} {x y : Int} {z : AVal} (h : aInt op k x y = some z) (t : TypeId) : ∃ v, (binOp op t (.int k x) (.int k y)).run P w = .ok v w ∧ VR φ z v := by
  cases op <;> simp only [aInt] at h
  case add => cases h; exact ⟨_, by simp [go_sem], .int _ _⟩
  case sub => cases h; exact ⟨_, by simp [go_sem], .int _ _⟩
  case mul => cases h; exact ⟨_, by simp [go_sem], .int _ _⟩
  case quo => split at h; · cases h
              · rename_i hy; cases h; exact ⟨_, by simp [go_sem, hy], .int _ _⟩
  case rem => split at h; · cases h
              · rename_i hy; cases h; exact ⟨_, by simp [go_sem, hy], .int _ _⟩
  case and => cases h; exact ⟨_, by rw [binOp_and]; rfl, .int _ _⟩
  case or => cases h; exact ⟨_, by rw [binOp_or]; rfl, .int _ _⟩
  case xor => cases h; exact ⟨_, by rw [binOp_xor]; rfl, .int _ _⟩
  case andNot => cases h; exact ⟨_, by rw [binOp_andNot]; rfl, .int _ _⟩
  case eql => cases h; exact ⟨_, by simp [go_sem], .bool _⟩
  case neq => cases h; exact ⟨_, by simp [go_sem], .bool _⟩
  case lss => cases h; exact ⟨_, by simp [go_sem], .bool _⟩
  case leq => cases h; exact ⟨_, by simp [go_sem], .bool _⟩
  case gtr => cases h; exact ⟨_, by simp [go_sem], .bool _⟩
  case geq => cases h; exact ⟨_, by simp [go_sem], .bool _⟩
  case shl => cases h
  case shr => cases h

theorem bytes_toList (s : List UInt8) : (⟨s.toArray⟩ : ByteArray).toList = s := by
  rw [ByteArray.toList_eq]
theorem bytes_append (s t : List UInt8) : (⟨s.toArray⟩ : ByteArray) ++ ⟨t.toArray⟩ = ⟨(s ++ t).toArray⟩ := by
  apply ByteArray.ext
  simp [ByteArray.data_append]
theorem bytes_size (s : List UInt8) : (⟨s.toArray⟩ : ByteArray).size = s.length := by simp [ByteArray.size]

theorem aStr_ok {op : BinOp} {s t : List UInt8} {z : AVal} (h : aStr op s t = some z) (ty : TypeId) : ∃ v, (binOp op ty (.string ⟨s.toArray⟩) (.string ⟨t.toArray⟩)).run P w = .ok v w ∧ VR φ z v := by
  cases op <;> simp only [aStr] at h <;> try (cases h; done)
  case add =>
    split at h
    · rename_i hl
      cases h
      refine ⟨.string ⟨(s ++ t).toArray⟩, ?_, .str _⟩
      simp only [binOp, Op.stringOp, bytes_size, bytes_append]
      rw [if_neg (by rw [IntKind.max_i64]; omega)]
      rfl
    · cases h
  case eql => cases h; exact ⟨_, by simp only [binOp, Op.stringOp, bytes_toList]; rfl, .bool _⟩
  case neq => cases h; exact ⟨_, by simp only [binOp, Op.stringOp, bytes_toList]; rfl, .bool _⟩

/-! ### Equality -/
theorem part_plain {t : TypeId} {d : TypeDesc} (hu : P.underlying t = some d) (hd : isAggD d = false) {cs : Array Value} {off : Nat} {v : Value} (hv : cs[off]? = some v) :
    (part t cs off).run P w = .ok v w := by
  have : (isAgg t).run P w = .ok false w := by
    simp only [isAgg, Sem.run_bind, run_underlying hu, Result.andThen_ok]
    cases d <;> simp_all [isAggD]
  simp [part, this, hv]

theorem aEq0_ok {e : EqK} {x y : AVal} {u v : Value} {b : Bool} (h : aEq0 e x y = some b) (hx : VR φ x u) (hy : VR φ y v) (d : Nat) {f : Field} {i : Nat} (hf : fieldK P f i = some e) :
    (Op.equalIn (d + 1) f.type u v).run P w = .ok b w ∧ f.name ≠ "_" ∧ f.offset = i ∧ ∃ D, P.underlying f.type = some D ∧ isAggD D = false := by
  unfold fieldK at hf
  split at hf
  · cases hf
  · rename_i hn
    simp only [Bool.or_eq_true, beq_iff_eq, bne_iff_ne, ne_eq, not_or, Decidable.not_not] at hn
    split at hf
    · rename_i k hk
      cases hf
      cases x <;> cases y <;> simp only [aEq0] at h <;> try (cases h; done)
      split at h
      · rename_i hkk; subst hkk
        cases h
        cases hx; cases hy
        exact ⟨run_equalIn_int w d f.type _ k _ _ hk, hn.1, hn.2, _, hk, rfl⟩
      · cases h
    · rename_i hk
      cases hf
      cases x <;> cases y <;> simp only [aEq0] at h <;> try (cases h; done)
      cases h
      cases hx; cases hy
      refine ⟨?_, hn.1, hn.2, _, hk, rfl⟩
      rw [run_equalIn_string w d f.type _ _ hk, bytes_toList, bytes_toList]
    · rename_i hk
      cases hf
      cases x <;> cases y <;> simp only [aEq0] at h <;> try (cases h; done)
      cases h
      cases hx; cases hy
      exact ⟨run_equalIn_bool' w d f.type _ _ hk, hn.1, hn.2, _, hk, rfl⟩
    · cases hf

theorem aEqs_ok (d : Nat) : ∀ (fs : List Field) (ks : List EqK) (i : Nat) (xs ys : List AVal) (us vs : List Value) (b : Bool) (U V : Array Value), flatFields P fs i = some ks → aEqs ks xs ys = some b →
    VRs φ xs us → VRs φ ys vs → U.toList.drop i = us → V.toList.drop i = vs → (Op.eqFields (d + 1) U V fs).run P w = .ok b w := by
  intro fs
  induction fs with
  | nil =>
    intro ks i xs ys us vs b U V hk h hx hy hU hV
    cases hk
    cases xs <;> cases ys <;> simp only [aEqs] at h <;> try (cases h; done)
    cases h
    simp [Op.eqFields]
  | cons f fs ih =>
    intro ks i xs ys us vs b U V hk h hx hy hU hV
    simp only [flatFields] at hk
    split at hk
    · rename_i e r he hr
      cases hk
      cases xs <;> cases ys <;> simp only [aEqs] at h <;> try (cases h; done)
      rename_i x xs y ys
      cases hx with
      | @cons _ u _ us hx1 hx2 =>
        cases hy with
        | @cons _ v _ vs hy1 hy2 =>
          have hu : U[i]? = some u := by
            have := congrArg (fun l => l[0]?) hU
            simpa using this
          have hv : V[i]? = some v := by
            have := congrArg (fun l => l[0]?) hV
            simpa using this
          have hU' : U.toList.drop (i + 1) = us := by
            have := congrArg List.tail hU
            simpa using this
          have hV' : V.toList.drop (i + 1) = vs := by
            have := congrArg List.tail hV
            simpa using this
          cases h0 : aEq0 e x y with
          | none => rw [h0] at h; cases h
          | some c =>
            rw [h0] at h
            obtain ⟨h1, h2, h3, D, hD, hA⟩ := aEq0_ok (w := w) h0 hx1 hy1 d he
            have p1 : (part f.type U f.offset).run P w = .ok u w := part_plain hD hA (by rw [h3]; exact hu)
            have p2 : (part f.type V f.offset).run P w = .ok v w := part_plain hD hA (by rw [h3]; exact hv)
            simp only [Op.eqFields]
            rw [if_pos h2]
            simp only [Sem.run_bind, p1, p2, h1, Result.andThen_ok]
            cases c with
            | false => cases h; simp
            | true => simp only [Bool.not_true, Bool.false_eq_true, if_false]; exact ih r (i + 1) xs ys us vs b U V hr h hx2 hy2 hU' hV'
    · cases hk

theorem aEq_ok {t : TypeId} {x y : AVal} {u v : Value} {b : Bool} (h : aEq (cEq P t) x y = some b) (hx : VR φ x u) (hy : VR φ y v) :
    (Op.equal t u v).run P w = .ok b w := by
  unfold Op.equal Op.maxDepth
  generalize hd : (9999 : Nat) = d
  have e10 : (10000 : Nat) = d + 1 := by omega
  rw [e10]
  unfold cEq at h
  cases hu : P.underlying t with
  | none => rw [hu] at h; simp [aEq] at h
  | some D =>
    rw [hu] at h
    cases D
    case bool =>
      cases x <;> cases y <;> simp only [aEq] at h <;> try (cases h; done)
      cases h; cases hx; cases hy
      exact run_equalIn_bool' w d t _ _ hu
    case pointer e =>
      cases x <;> cases y <;> simp only [aEq] at h <;> try (cases h; done)
      all_goals (cases h; cases hx; cases hy; simp [Op.equalIn, run_underlying hu])
    case slice e =>
      cases x <;> cases y <;> simp only [aEq] at h <;> try (cases h; done)
      case fsl.nils k els =>
        split at h
        · cases h
        · rename_i hne
          cases h; cases hy
          cases hx with
          | fslN => exact absurd rfl hne
          | fsl => simp [Op.equalIn, run_underlying hu]
      all_goals (cases h; cases hx <;> cases hy <;> simp [Op.equalIn, run_underlying hu])
    case map k e =>
      cases x <;> cases y <;> simp only [aEq] at h <;> try (cases h; done)
      all_goals (cases h; cases hx; cases hy; simp [Op.equalIn, run_underlying hu])
    case func a b c =>
      cases x <;> cases y <;> simp only [aEq] at h <;> try (cases h; done)
      all_goals (cases h; cases hx; cases hy; simp [Op.equalIn, run_underlying hu])
    case struct fs =>
      simp only at h
      split at h
      · rename_i ks hks
        split at h
        · rename_i hg
          simp only [Bool.and_eq_true, Bool.not_eq_true'] at hg
          cases x <;> cases y <;> simp only [aEq] at h <;> try (cases h; done)
          cases hx with
          | agg hxs => cases hy with
            | agg hys =>
              have hfo : P.fieldsOf t = fs := by simp [Program.fieldsOf, hu]
              rw [run_equalIn_agg w d t _ _ (by rw [hfo]; exact hu) hg.1, hfo]
              have hd' : d = 9998 + 1 := by omega
              rw [hd']
              exact aEqs_ok 9998 fs.toList ks 0 _ _ _ _ b _ _ hks h hxs hys (by simp) (by simp)
        · simp [aEq] at h
      · simp [aEq] at h
    all_goals (simp [aEq] at h)
end
end Go.Mini
set_option linter.unusedVariables false
set_option linter.unusedSimpArgs false
set_option maxHeartbeats 4000000
namespace Go.Mini
open Go

section
variable {P : Program} {φ : Phi} {σ : Heap} {w : World} {n : Nat} {fr : Frame} {a : Act}

theorem eqGuard_ok {op : BinOp} {t : TypeId} {X Y : Operand} {x y : AVal} {u v : Value} {b : Bool} (h : aEq (cEq P t) x y = some b) (hx : VR φ x u) (hy : VR φ y v) :
    (eqGuard op t X Y u v).run P w = .ok () w := by
  cases hx
  case agg hxs =>
    cases hy
    case agg hys =>
      apply run_eqGuard_agg
      unfold cEq at h
      cases hu : P.underlying t with
      | none => rw [hu] at h; simp [aEq] at h
      | some D =>
        rw [hu] at h
        cases D <;> (try (simp [aEq] at h; done))
        simp only at h
        split at h
        · split at h
          · rename_i hg; simp only [Bool.and_eq_true, Bool.not_eq_true'] at hg; exact hg.2
          · simp [aEq] at h
        · simp [aEq] at h
    all_goals (cases hc : cEq P t <;> rw [hc] at h <;> simp [aEq] at h)
  case raw => cases hc : cEq P t <;> rw [hc] at h <;> simp [aEq] at h
  all_goals (simp [go_sem])

theorem aBin_ok {op : BinOp} {t : TypeId} {X Y : Operand} {x y z : AVal} {u v : Value} (h : aBin op (cEq P t) x y = some z) (hx : VR φ x u) (hy : VR φ y v) :
    ∃ r, (do eqGuard op t X Y u v; binOp op t u v : Sem Value).run P w = .ok r w ∧ VR φ z r := by
  unfold aBin at h
  split at h
  · rename_i k p k' q
    cases hx; cases hy
    simp only [Sem.run_bind, eqGuard_at_int, Sem.run_pure, Result.andThen_ok]
    split at h
    · split at h
      · cases h
      · rename_i hq; cases h
        refine ⟨_, ?_, .int _ _⟩
        simp only [binOp, Op.shift, if_neg hq]; rfl
    · split at h
      · cases h
      · rename_i hq; cases h
        refine ⟨_, ?_, .int _ _⟩
        simp only [binOp, Op.shift, if_neg hq]; rfl
    · split at h
      · rename_i hk; subst hk
        exact aInt_ok h t
      · cases h
  · rename_i s r
    cases hx; cases hy
    simp only [Sem.run_bind, eqGuard_at_string, Sem.run_pure, Result.andThen_ok]
    exact aStr_ok h t
  · rename_i hne1 hne2
    split at h
    · simp only [Option.map_eq_some_iff] at h
      obtain ⟨b, hb, rfl⟩ := h
      refine ⟨.bool b, ?_, .bool b⟩
      simp only [Sem.run_bind, eqGuard_ok hb hx hy, Result.andThen_ok]
      have he := aEq_ok (w := w) hb hx hy
      cases hx <;> cases hy <;> first
        | (exfalso; exact hne1 _ _ _ _ rfl rfl)
        | (exfalso; exact hne2 _ _ rfl rfl)
        | (simp only [binOp]; simp [he]; done)
        | (exfalso; cases hc : cEq P t <;> rw [hc] at hb <;> simp [aEq] at hb)
    · simp only [Option.map_eq_some_iff] at h
      obtain ⟨b, hb, rfl⟩ := h
      refine ⟨.bool (!b), ?_, .bool _⟩
      simp only [Sem.run_bind, eqGuard_ok hb hx hy, Result.andThen_ok]
      have he := aEq_ok (w := w) hb hx hy
      cases hx <;> cases hy <;> first
        | (exfalso; exact hne1 _ _ _ _ rfl rfl)
        | (exfalso; exact hne2 _ _ rfl rfl)
        | (simp only [binOp]; simp [he]; done)
        | (exfalso; cases hc : cEq P t <;> rw [hc] at hb <;> simp [aEq] at hb)
    · cases h
end
end Go.Mini
set_option linter.unusedVariables false
set_option linter.unusedSimpArgs false
namespace Go.Mini
open Go

section
variable {P : Program} {φ : Phi} {σ : Heap} {w : World} {n : Nat} {fr : Frame} {a : Act}

theorem cAgg_ok {t : TypeId} {k : Option Nat} (h : cAgg P t = some k) : (isAgg t).run P w = .ok k.isSome w ∧ ∀ m, k = some m → (sizeOf t).run P w = .ok m w := by
  unfold cAgg at h
  split at h
  · rename_i d i hd hi
    cases h
    constructor
    · simp only [isAgg, Sem.run_bind, run_underlying hd, Result.andThen_ok]
      cases d <;> simp [isAggD]
    · intro m hm
      split at hm
      · cases hm; simp [sizeOf, typeInfo, hi]
      · cases hm
  · cases h
theorem cSize_ok {t : TypeId} {k : Nat} (h : cSize P t = some k) (w : World) : (sizeOf t).run P w = .ok k w := by
  simp only [cSize, Option.map_eq_some_iff] at h
  obtain ⟨i, hi, rfl⟩ := h
  simp [sizeOf, typeInfo, hi]
theorem cZero_ok {t : TypeId} {z : Value} (h : cZero P t = some z) (w : World) : (zeroValue t).run P w = .ok z w := by
  simp only [cZero, Option.bind_eq_some_iff] at h
  obtain ⟨i, hi, hz⟩ := h
  simp [zeroValue, typeInfo, hi, hz]

/-- a part of a struct or an array -/
theorem aPart_ok {t : TypeId} {k : Option Nat} (h : cAgg P t = some k) {cs : List AVal} {off : Nat} {z : AVal} (hz : aPart k cs off = some z) {vs : List Value} (hv : VRs φ cs vs) :
    ∃ v, (part t vs.toArray off).run P w = .ok v w ∧ VR φ z v := by
  obtain ⟨h1, h2⟩ := cAgg_ok (w := w) h
  cases k with
  | none =>
    obtain ⟨v, hvv, hr⟩ := hv.get off z hz
    exact ⟨v, by simp [part, h1, hvv], hr⟩
  | some m =>
    simp only [aPart] at hz
    split at hz
    · rename_i hl
      cases hz
      refine ⟨.agg ((vs.drop off).take m).toArray, ?_, .agg ((hv.drop off).take m)⟩
      simp only [part, Sem.run_bind, h1, Option.isSome_some, Result.andThen_ok, if_true, h2 m rfl, Sem.run_pure]
      congr 2
      apply Array.ext'
      simp [List.extract_eq_take_drop]
    · cases hz

/-! ### Parts laid into a whole -/
theorem foldl_over (l : List Value) : ∀ (cs : Array Value) (off j : Nat), off + j + l.length ≤ cs.size →
    ((l.zipIdx j).foldl (fun cs (c, j) => cs.setIfInBounds (off + j) c) cs).toList = over cs.toList (off + j) l := by
  induction l with
  | nil => intro cs off j _; simp [over_nil]
  | cons c l ih =>
    intro cs off j h
    simp only [List.length_cons] at h
    simp only [List.zipIdx_cons, List.foldl_cons]
    rw [ih _ off (j + 1) (by simp; omega), toList_setIfInBounds]
    have : off + (j + 1) = off + j + 1 := by omega
    rw [this, over_cons _ _ _ _ (by simp; omega)]
theorem VRs.over {cs xs : List AVal} {vs us : List Value} (h : VRs φ cs vs) (hx : VRs φ xs us) (off : Nat) : VRs φ (Mini.over cs off xs) (Mini.over vs off us) := by
  unfold Mini.over
  rw [← hx.length]
  exact ((h.take off).append hx).append (h.drop _)

theorem fill_ok (place : Nat → Option (Nat × Nat)) (hf : FR φ n fr a) : ∀ (l : List (Nat × Operand)) (pl : List (Nat × Nat × Opd)) (cs : List AVal) (vs : Array Value) (z : List AVal),
    cParts n place l = some pl → aFill cs (evParts fr pl) = some z → VRs φ cs vs.toList →
    ∃ us : Array Value, Instr.fill place vs (l.map fun (i, x) => (i, a.eval x)) = some us ∧ VRs φ z us.toList := by
  intro l
  induction l with
  | nil =>
    intro pl cs vs z hp hz hv
    cases hp
    simp only [evParts, List.map_nil, aFill, Option.some.injEq] at hz
    subst hz
    exact ⟨vs, rfl, hv⟩
  | cons p l ih =>
    intro pl cs vs z hp hz hv
    obtain ⟨i, X⟩ := p
    simp only [cParts] at hp
    split at hp
    · rename_i off size x r h1 h2 h3
      cases hp
      simp only [evParts, List.map_cons, aFill] at hz
      split at hz
      · rename_i hc
        simp only [Bool.and_eq_true, decide_eq_true_eq, Bool.not_eq_true'] at hc
        have hX := cOpd_ok h2 hf
        have hcs := hX.cells hc.2
        have hlen := hcs.length
        have hvl := hv.length
        have hfold := foldl_over (a.eval X).cells.toList vs off 0 (by simp at hlen hvl ⊢; omega)
        have hE : ((a.eval X).cells.zipIdx.foldl (fun cs (c, j) => cs.setIfInBounds (off + j) c) vs).toList = over vs.toList off (a.eval X).cells.toList := by
          rw [← Array.foldl_toList, Array.toList_zipIdx]
          simpa using hfold
        obtain ⟨us, hu, hur⟩ := ih r _ ((a.eval X).cells.zipIdx.foldl (fun cs (c, j) => cs.setIfInBounds (off + j) c) vs) z h3 hz (by rw [hE]; exact hv.over hcs off)
        refine ⟨us, ?_, hur⟩
        simp only [List.map_cons, Instr.fill, h1]
        rw [if_neg]
        · exact hu
        · simp at hlen hvl ⊢; omega
      · cases hz
    · cases hp

theorem structPlaces_ok : ∀ (fs : List Field) (pl : List (Nat × Nat)), structPlaces P fs = some pl →
    (fs.mapM (fun f => (do pure (f.offset, ← sizeOf f.type) : Sem (Nat × Nat)))).run P w = .ok pl w := by
  intro fs
  induction fs with
  | nil => intro pl h; cases h; simp
  | cons f fs ih =>
    intro pl h
    simp only [structPlaces] at h
    split at h
    · rename_i s r h1 h2
      cases h
      simp only [List.mapM_cons, Sem.run_bind, cSize_ok h1, Result.andThen_ok, Sem.run_pure, ih r h2]
    · cases h
end
end Go.Mini
set_option linter.unusedVariables false
set_option linter.unusedSimpArgs false
namespace Go.Mini
open Go

section
variable {P : Program} {φ : Phi} {σ : Heap} {w : World} {n : Nat} {fr : Frame} {a : Act}

theorem aBound_ok {x : AVal} {v : Value} {d y m : Nat} (h : aBound (some x) d y = some m) (hx : VR φ x v) (code : BoundsCode) : (Instr.sliceBound v y code).run P w = .ok m w ∧ m ≤ y := by
  simp only [aBound] at h
  split at h
  · cases ‹some _ = none›
  · rename_i k i e
    cases e
    split at h
    · rename_i hc
      simp only [Bool.and_eq_true, decide_eq_true_eq] at hc
      cases h
      cases hx
      exact ⟨run_sliceBound w k i y code hc.1 hc.2, by omega⟩
    · cases h
  · cases h

/-- an operand that may lack -/
inductive VRO (φ : Phi) : Option AVal → Option Value → Prop where
  | none : VRO φ none none
  | some {x v} : VR φ x v → VRO φ (some x) (some v)
theorem cOpdO_vro {X : Option Operand} {x : Option Opd} (h : cOpdO n X = some x) (hf : FR φ n fr a) : VRO φ (evO fr x) (X.map a.eval) := by
  cases X with
  | none => cases h; exact .none
  | some Y =>
    simp only [cOpdO, Option.map_eq_some_iff] at h
    obtain ⟨y, hy, rfl⟩ := h
    exact .some (cOpd_ok hy hf)

theorem bounds_ok {len cap l h m : Nat} {lo hi mx : Option AVal} {lo' hi' mx' : Option Value} (isSlice : Bool) (vl : VRO φ lo lo') (vh : VRO φ hi hi') (vm : VRO φ mx mx') (hn : (mx.isSome && hi.isNone) = false)
    (hm : aBound mx cap cap = some m) (hh : aBound hi len m = some h) (hl : aBound lo 0 h = some l) :
    (Instr.sliceBounds isSlice len cap lo' hi' mx').run P w = .ok (l, h, m) w ∧ (lo = none → l = 0) ∧ l ≤ max h 0 ∧ (hi ≠ none → h ≤ m) ∧ m ≤ cap ∧ (hi = none → h = len) ∧ (mx = none → m = cap) := by
  unfold Instr.sliceBounds
  cases vm with
  | none =>
    simp only [aBound, Option.some.injEq] at hm
    subst hm
    cases vh with
    | none =>
      simp only [aBound, Option.some.injEq] at hh
      subst hh
      cases vl with
      | none =>
        simp only [aBound, Option.some.injEq] at hl
        subst hl
        simp
      | some vl =>
        have := (aBound_ok (P := P) (w := w) hl vl .sliceB)
        simp [this.1, this.2]
    | some vh =>
      have h1 := (aBound_ok (P := P) (w := w) hh vh (if isSlice then .sliceAcap else .sliceAlen))
      cases vl with
      | none =>
        simp only [aBound, Option.some.injEq] at hl
        subst hl
        simp [h1.1, h1.2]
      | some vl =>
        have h2 := (aBound_ok (P := P) (w := w) hl vl .sliceB)
        simp [h1.1, h1.2, h2.1, h2.2]
  | some vm =>
    have h0 := (aBound_ok (P := P) (w := w) hm vm (if isSlice then .slice3Acap else .slice3Alen))
    cases vh with
    | none => simp at hn
    | some vh =>
      have h1 := (aBound_ok (P := P) (w := w) hh vh .slice3B)
      cases vl with
      | none =>
        simp only [aBound, Option.some.injEq] at hl
        subst hl
        simp [h0.1, h0.2, h1.1, h1.2]
      | some vl =>
        have h2 := (aBound_ok (P := P) (w := w) hl vl .slice3C)
        simp [h0.1, h0.2, h1.1, h1.2, h2.1, h2.2]

theorem Addr.add_eq (b o k : Nat) : (⟨b, o, none⟩ : Addr).add k = ⟨b, o + k, none⟩ := Addr.add_lit b o k

theorem slcE_cut {i : Id} {b : Nat} (hi : i.real φ = some b) (off l h m k : Nat) :
    VR φ (.slc i (if m = l then off else off + l * k) (h - l) (.ex (m - l))) (.slice (if m = l then some ⟨b, off, none⟩ else (some (⟨b, off, none⟩ : Addr)).map (·.add (l * k))) (h - l) (m - l)) := by
  split
  · exact .slcE _ _ _ hi
  · simp only [Option.map_some, Addr.add_eq]; exact .slcE _ _ _ hi

theorem aSlc_ok {t e : TypeId} {k : Nat} (hu : P.underlying t = some (.slice e)) (hk : cSize P e = some k) {x z : AVal} {v : Value} {lo hi mx : Option AVal} {lo' hi' mx' : Option Value}
    (h : aSlc k x lo hi mx = some z) (hx : VR φ x v) (vl : VRO φ lo lo') (vh : VRO φ hi hi') (vm : VRO φ mx mx') :
    ∃ r, (Instr.sliceAt t v lo' hi' mx').run P w = .ok r w ∧ VR φ z r := by
  have hat : (Instr.sliceAt t v lo' hi' mx').run P w = (Instr.slice t v lo' hi' mx').run P w := by simp [Instr.sliceAt, run_underlying hu]
  rw [hat]
  unfold aSlc at h
  split at h
  · -- nil
    cases hx
    split at h
    · rename_i m hh l e1 e2 e3
      split at h
      · cases h
      · rename_i hn
        cases h
        have em : m = 0 := by
          cases mx with
          | none => simp [aBound] at e1; exact e1.symm
          | some x => cases vm with | some vm => have := (aBound_ok (P := P) (w := w) e1 vm .slice3B).2; omega
        have eh : hh = 0 := by
          cases hi with
          | none => simp [aBound] at e2; exact e2.symm
          | some x => cases vh with | some vh => have := (aBound_ok (P := P) (w := w) e2 vh .slice3B).2; omega
        have el : l = 0 := by
          cases lo with
          | none => simp [aBound] at e3; exact e3.symm
          | some x => cases vl with | some vl => have := (aBound_ok (P := P) (w := w) e3 vl .slice3B).2; omega
        subst em; subst eh; subst el
        have hb := bounds_ok (P := P) (w := w) true vl vh vm (eq_false_of_ne_true hn) e1 e2 e3
        refine ⟨.slice none 0 0, ?_, .nils⟩
        simp [Instr.slice, run_underlying hu, hb.1, cSize_ok hk]
    · cases h
  · -- exact
    rename_i i off len c
    cases hx with
    | slcE _ _ _ hib =>
      rename_i b
      split at h
      · cases h
      · rename_i hn
        split at h
        · rename_i m e1
          split at h
          · rename_i hh e2
            split at h
            · rename_i l e3
              cases h
              have hb := bounds_ok (P := P) (w := w) true vl vh vm (eq_false_of_ne_true hn) e1 e2 e3
              refine ⟨_, ?_, slcE_cut hib off l hh m k⟩
              simp [Instr.slice, run_underlying hu, hb.1, cSize_ok hk]
            · cases h
          · cases h
        · cases h
  · -- grown
    rename_i i off len k'
    split at h
    · cases h
    · rename_i hkk
      simp only [Decidable.not_not] at hkk
      subst hkk
      cases hx with
      | slcG _ _ c hφ hsz hlc =>
        rename_i kid b sz
        have hib : (Id.new kid).real φ = some b := by simp [Id.real, hφ]
        split at h
        · rename_i m0
          split at h
          · cases h
          · rename_i hn
            split at h
            · rename_i m e1
              split at h
              · rename_i hh e2
                split at h
                · rename_i l e3
                  cases h
                  have e1' : aBound (some m0) c c = some m := by
                    cases m0 <;> simp only [aBound] at e1 ⊢ <;> try (cases e1; done)
                    split at e1
                    · rename_i hc
                      simp only [Bool.and_eq_true, decide_eq_true_eq] at hc
                      rw [if_pos (by simp only [Bool.and_eq_true, decide_eq_true_eq]; omega)]; exact e1
                    · cases e1
                  have hb := bounds_ok (P := P) (w := w) true vl vh vm (by simp only [Option.isSome_some, Bool.true_and]; exact eq_false_of_ne_true hn) e1' e2 e3
                  refine ⟨_, ?_, slcE_cut hib off l hh m k'⟩
                  simp [Instr.slice, run_underlying hu, hb.1, cSize_ok hk]
                · cases h
              · cases h
            · cases h
        · split at h
          · rename_i hh e2
            split at h
            · rename_i l e3
              have e2' : aBound hi len c = some hh ∧ hh ≤ len := by
                cases vh with
                | none => simp only [aBound, Option.some.injEq] at e2 ⊢; omega
                | some vh =>
                  have hle := (aBound_ok (P := P) (w := w) e2 vh .slice3B).2
                  rename_i xx _
                  cases xx <;> simp only [aBound] at e2 ⊢ <;> try (cases e2; done)
                  split at e2
                  · rename_i hc
                    simp only [Bool.and_eq_true, decide_eq_true_eq] at hc
                    rw [if_pos (by simp only [Bool.and_eq_true, decide_eq_true_eq]; omega)]; exact ⟨e2, hle⟩
                  · cases e2
              have hb := bounds_ok (P := P) (w := w) true vl vh vm (by simp) (m := c) (by rfl) e2'.1 e3
              have hlh : l ≤ hh := by have := hb.2.2.1; omega
              have hrun : (Instr.slice t (.slice (some ⟨b, off, none⟩) len c) lo' hi' mx').run P w = .ok (.slice (if c = l then some ⟨b, off, none⟩ else (some (⟨b, off, none⟩ : Addr)).map (·.add (l * k'))) (hh - l) (c - l)) w := by
                simp [Instr.slice, run_underlying hu, hb.1, cSize_ok hk]
              rw [hrun]
              split at h
              · rename_i hl0
                subst hl0
                cases h
                refine ⟨_, rfl, ?_⟩
                have : (if c = 0 then some ⟨b, off, none⟩ else (some (⟨b, off, none⟩ : Addr)).map (·.add (0 * k'))) = some ⟨b, off, none⟩ := by
                  split <;> simp [Addr.add]
                rw [this]
                exact .slcG _ _ _ hφ (by simpa using hsz) (by omega)
              · split at h
                · rename_i hl0 hll
                  cases h
                  refine ⟨_, rfl, ?_⟩
                  rw [if_neg (by omega), Option.map_some, Addr.add_eq]
                  refine .slcG _ _ _ hφ ?_ (by omega)
                  rw [← hsz]
                  have : c = l + (c - l) := by omega
                  generalize c - l = q at *
                  subst this
                  rw [Nat.add_mul]; omega
                · rename_i hl0 hll
                  cases h
                  refine ⟨_, rfl, ?_⟩
                  have e0 : hh - l = 0 := by omega
                  rw [e0]
                  split
                  · exact .emp _ _
                  · exact .emp _ _
            · cases h
          · cases h
  · -- never changes
    rename_i k' els
    split at h
    · cases h
    · rename_i hkn
      simp only [Bool.or_eq_true, decide_eq_true_eq, not_or, Decidable.not_not, Bool.not_eq_true] at hkn
      obtain ⟨rfl, hn⟩ := hkn
      split at h
      · rename_i m e1
        split at h
        · rename_i hh e2
          split at h
          · rename_i l e3
            have hm : m ≤ els.length := by
              cases mx with
              | none => simp only [aBound, Option.some.injEq] at e1; omega
              | some x => cases vm with | some vm => exact (aBound_ok (P := P) (w := w) e1 vm .slice3B).2
            have hhm : hh ≤ m := by
              cases hi with
              | none =>
                simp only [aBound, Option.some.injEq] at e2
                cases mx with
                | none => simp only [aBound, Option.some.injEq] at e1; omega
                | some x => simp at hn
              | some x => cases vh with | some vh => exact (aBound_ok (P := P) (w := w) e2 vh .slice3B).2
            have hlh : l ≤ hh := by
              cases lo with
              | none => simp only [aBound, Option.some.injEq] at e3; omega
              | some x => cases vl with | some vl => exact (aBound_ok (P := P) (w := w) e3 vl .slice3B).2
            -- the bounds against the real room
            have real : ∀ (a : Option Addr) (c : Nat), els.length ≤ c → ∃ m', hh ≤ m' ∧ m' ≤ c ∧ (mx.isSome = true → m' = m) ∧ (Instr.slice t (.slice a els.length c) lo' hi' mx').run P w = .ok (.slice (if m' = l then a else a.map (·.add (l * k'))) (hh - l) (m' - l)) w := by
              intro a c hc
              cases mx with
              | none =>
                have hb := bounds_ok (P := P) (w := w) (len := els.length) (cap := c) true vl vh vm (by simp) (m := c) (by rfl) (by
                  cases hi with
                  | none => exact e2
                  | some x =>
                    cases x <;> simp only [aBound] at e2 ⊢ <;> try (cases e2; done)
                    split at e2
                    · rename_i hq
                      simp only [Bool.and_eq_true, decide_eq_true_eq] at hq
                      rw [if_pos (by simp only [Bool.and_eq_true, decide_eq_true_eq]; omega)]; exact e2
                    · cases e2) e3
                exact ⟨c, by omega, Nat.le_refl _, by simp, by simp [Instr.slice, run_underlying hu, hb.1, cSize_ok hk]⟩
              | some x =>
                have e1' : aBound (some x) c c = some m := by
                  cases x <;> simp only [aBound] at e1 ⊢ <;> try (cases e1; done)
                  split at e1
                  · rename_i hq
                    simp only [Bool.and_eq_true, decide_eq_true_eq] at hq
                    rw [if_pos (by simp only [Bool.and_eq_true, decide_eq_true_eq]; omega)]; exact e1
                  · cases e1
                have hb := bounds_ok (P := P) (w := w) (len := els.length) (cap := c) true vl vh vm hn e1' e2 e3
                exact ⟨m, hhm, by omega, fun _ => rfl, by simp [Instr.slice, run_underlying hu, hb.1, cSize_ok hk]⟩
            have cut : ∀ a c, ((els.take hh).drop l) = [] → (a = none → c = 0) → VR φ (.fsl k' ((els.take hh).drop l)) (.slice a (hh - l) c) := by
              intro a c he hac
              have : hh - l = 0 := by
                have := congrArg List.length he
                simp at this; omega
              rw [he, this]; exact .fslN _ _ _ hac
            cases hx with
            | fslN _ a c hac =>
              obtain ⟨m', h1, hmc, h2, hrun⟩ := real a c (by simp)
              simp only [List.length_nil] at *
              refine ⟨_, hrun, ?_⟩
              split at h
              · rename_i hz
                simp only [Bool.and_eq_true, decide_eq_true_eq] at hz
                cases h
                have := h2 hz.1
                have e1 : hh - l = 0 := by omega
                have e2 : m' - l = 0 := by omega
                rw [e1, e2]; exact .emp0 _
              · cases h
                refine cut _ _ (by simp) fun hnone => ?_
                have : a = none := by
                  split at hnone
                  · exact hnone
                  · simpa using hnone
                have := hac this; omega
            | @fsl _ _ vs b off c hv hhs he hc =>
              obtain ⟨m', h1, hmc, h2, hrun⟩ := real (some ⟨b, off, none⟩) c hc
              refine ⟨_, hrun, ?_⟩
              split at h
              · rename_i hz
                simp only [Bool.and_eq_true, decide_eq_true_eq] at hz
                cases h
                have := h2 hz.1
                have e1 : hh - l = 0 := by omega
                have e2 : m' - l = 0 := by omega
                rw [e1, e2]; exact .emp0 _
              · cases h
                by_cases hml : m' = l
                · exact cut _ _ (by apply List.drop_eq_nil_of_le; simp; omega) (by rw [if_pos hml]; intro h; cases h)
                · rw [if_neg hml, Option.map_some, Addr.add_eq]
                  have hlen : ((els.take hh).drop l).length = hh - l := by simp; omega
                  rw [← hlen]
                  have he' : ∀ e ∈ (els.take hh).drop l, e.cells.length = k' := fun e hm => he e (List.mem_of_mem_take (List.mem_of_mem_drop hm))
                  refine .fsl (vs := (vs.take (hh * k')).drop (l * k')) _ ?_ ?_ he' (by rw [hlen]; omega)
                  · rw [flatMap_drop _ _ (fun e hm => he e (List.mem_of_mem_take hm)), (flatMap_take els hh he (by omega)).1]
                    exact (hv.take _).drop _
                  · intro j v e
                    rw [List.getElem?_drop] at e
                    have := hhs _ v (take_getElem? _ _ _ _ e)
                    rwa [Nat.add_assoc]
          · cases h
        · cases h
      · cases h
  · cases h

theorem aSlcS_ok {t : TypeId} (hu : P.underlying t = some .string) {x z : AVal} {v : Value} {lo hi : Option AVal} {lo' hi' : Option Value}
    (h : aSlcS x lo hi = some z) (hx : VR φ x v) (vl : VRO φ lo lo') (vh : VRO φ hi hi') :
    ∃ r, (Instr.sliceAt t v lo' hi' none).run P w = .ok r w ∧ VR φ z r := by
  unfold aSlcS at h
  split at h
  · rename_i s
    cases hx
    split at h
    · rename_i hh e2
      split at h
      · rename_i l e3
        cases h
        have hb := bounds_ok (P := P) (w := w) false vl vh (VRO.none (φ := φ)) (by simp) (m := s.length) (by rfl) e2 e3
        refine ⟨.string ⟨((s.take hh).drop l).toArray⟩, ?_, .str _⟩
        have hs := bytes_size s
        simp only [Instr.sliceAt, Instr.slice, Sem.run_bind, run_underlying hu, Result.andThen_ok, hs, Option.isSome_none, Bool.false_eq_true, if_false, hb.1, Sem.run_pure]
        congr 2
        apply ByteArray.ext
        apply Array.ext'
        have hlh : l ≤ hh := by have := hb.2.2.1; omega
        have : ((⟨s.toArray⟩ : ByteArray).extract l hh).data.toList = (s.drop l).take (hh - l) := by
          rw [ByteArray.data_extract]
          simp [List.extract_eq_take_drop]
        rw [this]
        simp only [List.drop_take]
      · cases h
    · cases h
  · cases h

theorem aSlcR_ok {t e : TypeId} {m0 k : Nat} (hu : P.underlying t = some (.array m0 e)) (hk : cSize P e = some k) {x z : AVal} {v : Value} {lo hi mx : Option AVal} {lo' hi' mx' : Option Value}
    (h : aSlcR m0 k x lo hi mx = some z) (hx : VR φ x v) (vl : VRO φ lo lo') (vh : VRO φ hi hi') (vm : VRO φ mx mx') :
    ∃ r, (Instr.sliceAt t v lo' hi' mx').run P w = .ok r w ∧ VR φ z r := by
  unfold aSlcR at h
  split at h
  · rename_i i off
    cases hx with
    | ptr _ hib =>
      rename_i b
      split at h
      · cases h
      · rename_i hn
        split at h
        · rename_i m e1
          split at h
          · rename_i hh e2
            split at h
            · rename_i l e3
              cases h
              have hb := bounds_ok (P := P) (w := w) false vl vh vm (eq_false_of_ne_true hn) e1 e2 e3
              refine ⟨_, ?_, slcE_cut hib off l hh m k⟩
              simp only [Instr.sliceAt, Sem.run_bind, run_underlying hu, Result.andThen_ok, Instr.sureAddr, Sem.run_pure, hb.1, cSize_ok hk]
              congr 2
              split <;> rfl
            · cases h
          · cases h
        · cases h
  · cases h

theorem aIdx_ok {t e : TypeId} {k : Nat} (hu : P.underlying t = some (.slice e)) (hk : cSize P e = some k) {x i z : AVal} {v u : Value} (h : aIdx k x i = some z) (hx : VR φ x v) (hi : VR φ i u) :
    ∃ r, (Instr.indexAt t v u).run P w = .ok r w ∧ VR φ z r := by
  unfold aIdx at h
  split at h
  · rename_i b off len cap kk j
    split at h
    · rename_i hc
      simp only [Bool.and_eq_true, decide_eq_true_eq] at hc
      cases h
      cases hi
      have key : ∀ (bb : Nat) (c : Nat), (Instr.indexAt t (.slice (some ⟨bb, off, none⟩) len c) (.int kk j)).run P w = .ok (.pointer (some ⟨bb, off + j.toNat * k, none⟩)) w := by
        intro bb c
        have he : P.elem t = e := by simp [Program.elem, hu]
        rw [run_indexAt_slice w t _ len c kk j (by rw [he]; exact hu), if_pos hc, he, cSize_ok hk, Result.andThen_ok, Addr.add_eq]
      cases hx with
      | slcE _ _ _ hib => exact ⟨_, key _ _, .ptr _ hib⟩
      | slcG _ _ _ hφ _ _ => exact ⟨_, key _ _, .ptr _ (by simp [Id.real, hφ])⟩
    · cases h
  · rename_i k' els kk j
    split at h
    · rename_i hc
      simp only [Bool.and_eq_true, decide_eq_true_eq] at hc
      obtain ⟨rfl, h0⟩ := hc
      rw [Option.map_eq_some_iff] at h
      obtain ⟨el, hel, rfl⟩ := h
      have hlt := (List.getElem?_eq_some_iff.1 hel).1
      cases hi
      cases hx with
      | fslN => simp at hel
      | @fsl _ _ vs b off c hv hh he hc =>
        have hE : P.elem t = e := by simp [Program.elem, hu]
        refine ⟨.pointer (some ⟨b, off + j.toNat * k', none⟩), ?_, ?_⟩
        · rw [run_indexAt_slice w t _ els.length c kk j (by rw [hE]; exact hu), if_pos ⟨h0, by omega⟩, hE, cSize_ok hk, Result.andThen_ok, Addr.add_eq]
        · refine .fptr (vs := (vs.drop (j.toNat * k')).take k') ?_ ?_
          · rw [← flatMap_get els j.toNat he hel]
            exact (hv.drop _).take _
          · intro i v e
            have e := take_getElem? _ _ _ _ e
            rw [List.getElem?_drop] at e
            have := hh _ v e
            rwa [Nat.add_assoc]
    · cases h
  · cases h
theorem aIdxR_ok {t e : TypeId} {m k : Nat} (hu : P.underlying t = some (.array m e)) (hk : cSize P e = some k) {x i z : AVal} {v u : Value} (h : aIdxR m k x i = some z) (hx : VR φ x v) (hi : VR φ i u) :
    ∃ r, (Instr.indexAt t v u).run P w = .ok r w ∧ VR φ z r := by
  unfold aIdxR at h
  split at h
  · rename_i b off kk j
    split at h
    · rename_i hc
      simp only [Bool.and_eq_true, decide_eq_true_eq] at hc
      cases h
      cases hi
      cases hx with
      | ptr _ hib =>
        have he : P.elem t = e := by simp [Program.elem, hu]
        have hl : P.arrayLen t = m := by simp [Program.arrayLen, hu]
        refine ⟨_, ?_, .ptr _ hib⟩
        rw [run_indexAt_array w t _ kk j (by rw [he, hl]; exact hu), hl, if_pos hc, he, cSize_ok hk, Result.andThen_ok, Addr.add_eq]
    · cases h
  · cases h
theorem aIdxS_ok {t : TypeId} (hu : P.underlying t = some .string) {x i z : AVal} {v u : Value} (h : aIdxS x i = some z) (hx : VR φ x v) (hi : VR φ i u) :
    ∃ r, (Instr.index t v u).run P w = .ok r w ∧ VR φ z r := by
  unfold aIdxS at h
  split at h
  · rename_i s kk j
    split at h
    · rename_i hc
      rw [Option.map_eq_some_iff] at h
      obtain ⟨b, hb, rfl⟩ := h
      cases hi; cases hx
      refine ⟨.int .u8 b.toNat, ?_, .int _ _⟩
      have hg : (⟨s.toArray⟩ : ByteArray)[j.toNat]? = some b := by
        have : j.toNat < s.length := by
          rcases Nat.lt_or_ge j.toNat s.length with h | h
          · exact h
          · simp [h] at hb
        have h2 : j.toNat < (⟨s.toArray⟩ : ByteArray).size := by rw [bytes_size]; exact this
        rw [getElem?_pos (⟨s.toArray⟩ : ByteArray) j.toNat h2]
        simp only [Option.some.injEq]
        rw [List.getElem?_eq_getElem this] at hb
        have : (⟨s.toArray⟩ : ByteArray)[j.toNat] = s[j.toNat] := by
          show (s.toArray)[j.toNat] = s[j.toNat]
          simp
        rw [this]; simpa using hb
      simp only [Instr.index, Sem.run_bind, asIntOf, Sem.run_pure, Result.andThen_ok, run_underlying hu, if_pos hc, hg]
    · cases h
  · cases h
theorem aIdxG_ok {t e : TypeId} {m s : Nat} {k : Option Nat} (hu : P.underlying t = some (.array m e)) (hk : cAgg P e = some k) (hs : cSize P e = some s) {x i z : AVal} {v u : Value} (h : aIdxG m s k.isSome x i = some z) (hx : VR φ x v) (hi : VR φ i u) :
    ∃ r, (Instr.index t v u).run P w = .ok r w ∧ VR φ z r := by
  unfold aIdxG at h
  split at h
  · rename_i cs kk j
    split at h
    · rename_i hc
      simp only [Bool.and_eq_true, decide_eq_true_eq] at hc
      cases hi
      cases hx with
      | agg hxs =>
        have hks : (if k.isSome = true then some s else none) = k := by
          cases k with
          | none => rfl
          | some q =>
            have h1 := (cAgg_ok (w := w) hk).2 q rfl
            rw [cSize_ok hs w] at h1
            cases h1; rfl
        rw [hks] at h
        obtain ⟨r, hr, hvr⟩ := aPart_ok (w := w) hk h hxs
        refine ⟨r, ?_, hvr⟩
        simp only [Instr.index, Sem.run_bind, asIntOf, Sem.run_pure, Result.andThen_ok, run_underlying hu]
        rw [if_pos hc]
        simp only [Sem.run_bind, cSize_ok hs, Result.andThen_ok, hr]
    · cases h
  · cases h
end
end Go.Mini
set_option linter.unusedVariables false
set_option linter.unusedSimpArgs false
namespace Go.Mini
open Go

section
variable {P : Program} {φ : Phi} {σ : Heap} {w : World} {n : Nat} {fr : Frame} {a : Act}

/-- what a real store into one block does -/
structure Wrote (w w' : World) (b : Nat) (o : Obj) : Prop where
  heap : ∀ b', w'.heap[b']? = if b' = b then some o else w.heap[b']?
  size : w'.heap.size = w.heap.size
  tape : w'.tape = w.tape
  os : w'.os = w.os
  output : w'.output = w.output
  drawn : w.drawn = w'.drawn
theorem storeCells_real : ∀ (vs : List Value) (w : World) (b o j : Nat) (cs : Array Value) (T : TypeId) (fz : Nat × Nat), w.heap[b]? = some (.cells cs T fz) →
    (∀ off, off < cs.size → (fz.1 ≤ off && off < fz.2) = false) → o + j + vs.length ≤ cs.size → (∀ v ∈ vs, v.oneCell' = true) →
    ∃ w', (storeCells ⟨b, o, none⟩ vs j).run P w = .ok () w' ∧ Wrote w w' b (.cells (over cs.toList (o + j) vs).toArray T fz) := by
  intro vs
  induction vs with
  | nil =>
    intro w b o j cs T fz hb hz hl hc
    refine ⟨w, by simp [storeCells], ⟨?_, rfl, rfl, rfl, rfl, rfl⟩⟩
    intro b'
    split
    · rename_i h; subst h; rw [hb, over_nil]
    · rfl
  | cons v vs ih =>
    intro w b o j cs T fz hb hz hl hc
    simp only [List.length_cons] at hl
    have hoff : o + j < cs.size := by omega
    have hadd : (⟨b, o, none⟩ : Addr).add j = ⟨b, o + j, none⟩ := Addr.add_lit b o j
    have hcell : w.cell? ⟨b, o + j, none⟩ = some cs[o + j] := by rw [cell?_cells hb]; simp
    have hfr : w.frozen? ⟨b, o + j, none⟩ = false := by simp only [World.frozen?, hb]; exact hz _ hoff
    have hs := heap_setCell (off := o + j) (v := v) hb
    obtain ⟨w', hw', hW⟩ := ih (w.setCell ⟨b, o + j, none⟩ v) b o (j + 1) (cs.setIfInBounds (o + j) v) T fz (by rw [hs, if_pos rfl]) (by simpa using hz) (by simp; omega) (fun x hx => hc x (List.mem_cons_of_mem _ hx))
    refine ⟨w', ?_, ?_⟩
    · simp only [storeCells, Sem.run_bind, hadd, run_store _ _ _ _ _ (hc v (List.mem_cons_self ..)), hcell, hfr]
      simpa using hw'
    · have e : over (cs.setIfInBounds (o + j) v).toList (o + (j + 1)) vs = over cs.toList (o + j) (v :: vs) := by
        rw [toList_setIfInBounds]
        exact over_cons _ _ _ _ (by simp; omega)
      rw [e] at hW
      refine ⟨?_, by rw [hW.size]; simp, hW.tape, hW.os, hW.output, hW.drawn⟩
      intro b'
      rw [hW.heap]
      split
      · rfl
      · rename_i hne; rw [hs, if_neg hne]

theorem Rel.kill (hr : Rel φ σ w) (k : Nat) : Rel φ (σ.set k .dead) w := by
  have hl : ∀ j, (σ.set k .dead).live j → σ.live j := by
    intro j ⟨x, hx, hd⟩
    rw [Heap.get_set] at hx
    split at hx
    · cases hx; exact absurd rfl hd
    · exact ⟨x, hx, hd⟩
  constructor
  · exact hr.size
  · exact hr.old
  · intro j b sz e
    obtain ⟨h1, o, ho, h2⟩ := hr.new j b sz e
    refine ⟨h1, o, ho, ?_⟩
    intro x hx
    rw [Heap.get_set] at hx
    split at hx
    · cases hx; exact .dead o
    · exact h2 x hx
  · exact fun j j' b sz sz' e e' h h' => hr.inj j j' b sz sz' e e' (hl j h) (hl j' h')
  · exact hr.fresh
  · exact hr.resv
  · exact hr.tape
  · exact hr.os
  · exact hr.output
  · exact hr.frz
  · exact fun j b sz i e h => hr.apart j b sz i e (hl j h)
  · exact hr.base
  · exact hr.drawn

/-- the same real block under a new id; the old id is dead -/
theorem Rel.move (hr : Rel φ σ w) {k b sz : Nat} {cs : List AVal} {opn : Option TypeId} {w' : World} {blk : ABlk} {o : Obj} (hk : φ k = some (b, sz)) (hg : σ.get k = some (.cells cs opn)) (hW : Wrote w w' b o)
    (hb : BRel (φ.put σ.next (b, sz)) sz blk o) :
    φ.le (φ.put σ.next (b, sz)) ∧ Rel (φ.put σ.next (b, sz)) ((σ.set k .dead).new blk) w' := by
  have hnone := hr.fresh σ.next (Nat.le_refl _)
  have hle := Phi.le_put (b, sz) hnone
  have hkn : k ≠ σ.next := by intro h; rw [h, hnone] at hk; cases hk
  have hlive : σ.live k := ⟨_, hg, by intro h; cases h⟩
  have get : ∀ j, ((σ.set k .dead).new blk).get j = if σ.next = j then some blk else if k = j then some .dead else σ.get j := by
    intro j; rw [Heap.get_new, Heap.get_set]; rfl
  have live : ∀ j, j ≠ σ.next → ((σ.set k .dead).new blk).live j → σ.live j ∧ j ≠ k := by
    intro j hj ⟨x, hx, hd⟩
    rw [get, if_neg (fun h => hj h.symm)] at hx
    split at hx
    · cases hx; exact absurd rfl hd
    · rename_i h; exact ⟨⟨x, hx, hd⟩, fun h' => h h'.symm⟩
  refine ⟨hle, ?_⟩
  constructor
  · show σ.W.heap.size ≤ _; rw [hW.size]; exact hr.size
  · intro b' h
    have h : b' < σ.W.heap.size := h
    have := (hr.new k b sz hk).1
    rw [hW.heap, if_neg (by omega)]; exact hr.old b' h
  · intro j b' sz' e
    by_cases hj : j = σ.next
    · subst hj
      rw [Phi.put_same] at e
      simp only [Option.some.injEq, Prod.mk.injEq] at e
      obtain ⟨rfl, rfl⟩ := e
      refine ⟨(hr.new k b sz hk).1, o, by rw [hW.heap, if_pos rfl], ?_⟩
      intro x hx
      rw [get, if_pos rfl] at hx
      cases hx; exact hb
    · rw [Phi.put_other _ _ hj] at e
      obtain ⟨h1, o', ho', h2⟩ := hr.new j b' sz' e
      refine ⟨h1, ?_⟩
      by_cases hbb : b' = b
      · subst hbb
        refine ⟨o, by rw [hW.heap, if_pos rfl], ?_⟩
        intro x hx
        rw [get, if_neg (fun h => hj h.symm)] at hx
        split at hx
        · cases hx; exact .dead o
        · rename_i hkj
          cases hdx : x with
          | dead => exact .dead o
          | _ => exact absurd (hr.inj k j b' sz sz' hk e hlive ⟨x, hx, by rw [hdx]; intro h; cases h⟩) hkj
      · refine ⟨o', by rw [hW.heap, if_neg hbb]; exact ho', ?_⟩
        intro x hx
        rw [get, if_neg (fun h => hj h.symm)] at hx
        split at hx
        · cases hx; exact .dead o'
        · exact (h2 x hx).mono hle
  · intro j j' b' s1 s2 e e' hl hl'
    by_cases hj : j = σ.next <;> by_cases hj' : j' = σ.next
    · rw [hj, hj']
    · subst hj
      rw [Phi.put_same] at e; rw [Phi.put_other _ _ hj'] at e'
      simp only [Option.some.injEq, Prod.mk.injEq] at e
      obtain ⟨rfl, rfl⟩ := e
      have := live j' hj' hl'
      exact absurd (hr.inj k j' b sz s2 hk e' hlive this.1).symm this.2
    · subst hj'
      rw [Phi.put_same] at e'; rw [Phi.put_other _ _ hj] at e
      simp only [Option.some.injEq, Prod.mk.injEq] at e'
      obtain ⟨rfl, rfl⟩ := e'
      have := live j hj hl
      exact absurd (hr.inj k j b sz s1 hk e hlive this.1).symm this.2
    · rw [Phi.put_other _ _ hj] at e; rw [Phi.put_other _ _ hj'] at e'
      exact hr.inj j j' b' s1 s2 e e' (live j hj hl).1 (live j' hj' hl').1
  · intro j h
    have h : σ.next + 1 ≤ j := h
    rw [Phi.put_other _ _ (by omega)]; exact hr.fresh j (by omega)
  · intro j h
    have := hr.resv j h
    rw [Phi.put_other _ _ (by omega)]
    exact ⟨this.1, by simp only [Heap.new_next, Heap.set_next]; omega⟩
  · exact hW.tape.trans hr.tape
  · exact hW.os.trans hr.os
  · exact hW.output.trans hr.output
  · intro b' j v e
    have hne : b' ≠ b := by
      rintro rfl
      have e' : φ.F b' j = some v := e
      rw [hr.apart k b' sz j hk hlive] at e'; cases e'
    have h := hr.frz b' j v e
    simp only [World.cell?] at h ⊢
    rw [hW.heap, if_neg hne]; exact h
  · intro j b' s1 i e hl
    by_cases hj : j = σ.next
    · subst hj
      rw [Phi.put_same] at e
      simp only [Option.some.injEq, Prod.mk.injEq] at e
      obtain ⟨rfl, rfl⟩ := e
      exact hr.apart k b sz i hk hlive
    · rw [Phi.put_other _ _ hj] at e
      exact hr.apart j b' s1 i e (live j hj hl).1
  · exact hr.base
  · rw [← hW.drawn]; exact hr.drawn

/-! ### The cells of slices -/
theorem aLenOf_ok {y : AVal} {v : Value} {m : Nat} (h : aLenOf y = some m) (hy : VR φ y v) : (Builtin.lenOf v).run P w = .ok m w := by
  cases hy <;> simp only [aLenOf] at h <;> try (cases h; done)
  all_goals (cases h; simp [Builtin.lenOf, bytes_size])

theorem slcCells_ok (hr : Rel φ σ w) {k m : Nat} {y : AVal} {v : Value} {cs : List AVal} (h : slcCells σ k m y = some cs) (hy : VR φ y v) :
    ∃ vs : List Value, (Builtin.firstCells k m v).run P w = .ok vs.toArray w ∧ VRs φ cs vs := by
  have key : ∀ (i : Id) (b off len c : Nat), i.real φ = some b → cellsFrom σ i off (m * k) = some cs →
      ∃ vs : List Value, (Builtin.firstCells k m (.slice (some ⟨b, off, none⟩) len c)).run P w = .ok vs.toArray w ∧ VRs φ cs vs := by
    intro i b off len c hi hc
    obtain ⟨vs, h1, h2⟩ := loadCells_ok (P := P) hr hi (m * k) off off 0 cs #[] hc (by omega)
    exact ⟨vs, by simpa [Builtin.firstCells, loadCells] using h1, h2⟩
  cases hy <;> simp only [slcCells] at h <;> try (cases h; done)
  case nils =>
    split at h
    · cases h; exact ⟨[], by simp [Builtin.firstCells], .nil⟩
    · cases h
  case slcE hi =>
    split at h
    · exact key _ _ _ _ _ hi h
    · cases h
  case slcG hφ _ _ =>
    split at h
    · exact key _ _ _ _ _ (by simp [Id.real, hφ]) h
    · cases h
  case emp =>
    split at h
    · rename_i hm; subst hm
      cases h
      exact ⟨[], by simp [Builtin.firstCells, loadCells, loadCellsFrom], .nil⟩
    · cases h
  case emp0 a =>
    split at h
    · rename_i hm; subst hm
      cases h
      exact ⟨[], by cases a <;> simp [Builtin.firstCells, loadCells, loadCellsFrom], .nil⟩
    · cases h
  case fslN k' a c _ =>
    split at h
    · rename_i hm
      simp only [List.length_nil, Bool.and_eq_true, decide_eq_true_eq, Nat.le_zero] at hm
      obtain ⟨_, rfl⟩ := hm
      cases h
      exact ⟨[], by cases a <;> simp [Builtin.firstCells, loadCells, loadCellsFrom], .nil⟩
    · cases h
  case fsl k' els vs b off c hv hh he hc =>
    split at h
    · rename_i hm
      simp only [Bool.and_eq_true, decide_eq_true_eq] at hm
      obtain ⟨rfl, hm⟩ := hm
      cases h
      obtain ⟨h1, h2⟩ := flatMap_take els m he hm
      have hl := hv.flat_len he
      have hlen : (vs.take (m * k')).length = m * k' := by
        rw [List.length_take, hl]
        have := Nat.mul_le_mul_right k' hm
        omega
      have hld := loadF_ok (P := P) hr (vs.take (m * k')) b off 0 #[] (fun i v e => by
        rw [Nat.zero_add]; exact hh i v (take_getElem? _ _ _ _ e))
      refine ⟨vs.take (m * k'), ?_, ?_⟩
      · rw [hlen] at hld
        simpa [Builtin.firstCells, loadCells] using hld
      · rw [h1]; exact hv.take _
    · cases h

theorem VRs.bytes : ∀ s : List UInt8, VRs φ (byteCells s) (s.map fun b => Value.int .u8 b.toNat)
  | [] => .nil
  | b :: s => .cons (.int _ _) (VRs.bytes s)
theorem srcCells_ok (hr : Rel φ σ w) {k m : Nat} {y : AVal} {v : Value} {cs : List AVal} (h : srcCells σ k m y = some cs) (hy : VR φ y v) :
    ∃ vs : List Value, (Builtin.firstCells k m v).run P w = .ok vs.toArray w ∧ VRs φ cs vs := by
  unfold srcCells at h
  split at h
  · rename_i s
    split at h
    · rename_i hc
      simp only [Bool.and_eq_true, decide_eq_true_eq] at hc
      cases h
      cases hy
      refine ⟨(s.take m).map fun b => Value.int .u8 b.toNat, ?_, VRs.bytes _⟩
      simp only [Builtin.firstCells, Sem.run_pure]
      congr 1
      apply Array.ext'
      simp [ByteArray.data_extract, List.extract_eq_take_drop]
    · cases h
  · exact slcCells_ok hr h hy

theorem cellsFrom_length : ∀ (n : Nat) (σ : Heap) (i : Id) (off : Nat) (l : List AVal), cellsFrom σ i off n = some l → l.length = n
  | 0, _, _, _, l, h => by cases h; rfl
  | n + 1, σ, i, off, l, h => by
    simp only [cellsFrom] at h
    split at h
    · rename_i a r ha hr
      cases h
      simp [cellsFrom_length n σ i (off + 1) r hr]
    · cases h
theorem slcCells_length {k m : Nat} {y : AVal} {cs : List AVal} (h : slcCells σ k m y = some cs) {v : Value} (hy : VR φ y v) : cs.length = m * k := by
  cases hy <;> simp only [slcCells] at h <;> try (cases h; done)
  case fsl he hc =>
    split at h
    · rename_i hm
      simp only [Bool.and_eq_true, decide_eq_true_eq] at hm
      obtain ⟨rfl, hm⟩ := hm
      cases h
      exact (flatMap_take _ _ he hm).2
    · cases h
  case fslN =>
    split at h
    · rename_i hm
      simp only [List.length_nil, Bool.and_eq_true, decide_eq_true_eq, Nat.le_zero] at hm
      cases h
      simp [hm.2]
    · cases h
  all_goals
    split at h
    · first
        | exact cellsFrom_length _ _ _ _ _ h
        | (rename_i hm; cases h; simp [hm])
    · cases h
theorem srcCells_length {k m : Nat} {y : AVal} {cs : List AVal} (h : srcCells σ k m y = some cs) {v : Value} (hy : VR φ y v) : cs.length = m * k := by
  unfold srcCells at h
  split at h
  · split at h
    · rename_i hc
      simp only [Bool.and_eq_true, decide_eq_true_eq] at hc
      cases h
      simp only [byteCells, List.length_map, List.length_take, hc.2, Nat.mul_one]; exact Nat.min_eq_left hc.1
    · cases h
  · exact slcCells_length h hy
theorem VRs.oneCell : ∀ {l : List AVal} {vs : List Value}, VRs φ l vs → l.all AVal.isCell = true → ∀ v ∈ vs, v.oneCell' = true
  | [], _, h, _, v, hv => by cases h; cases hv
  | a :: l, _, h, hc, v, hv => by
    cases h with
    | cons h1 h2 =>
      simp only [List.all_cons, Bool.and_eq_true] at hc
      cases hv with
      | head => exact h1.oneCell hc.1
      | tail _ hm => exact VRs.oneCell h2 hc.2 v hm

theorem zeroCells_size (z : Array Value) (m : Nat) : (Builtin.zeroCells z m).size = m * z.size := by simp [Builtin.zeroCells]

/-- a new, greater block -/
theorem grow_ok (hr : Rel φ σ w) {xs ys : List AVal} {us vs : List Value} (hx : VRs φ xs us) (hy : VRs φ ys vs) (e : TypeId) (rest : Array Value) (k c m : Nat) (hsz : us.length + vs.length + rest.size = c * k) (hm : m ≤ c) :
    ∃ φ', φ.le φ' ∧ VR φ' (.slc (.new σ.next) 0 m (.gr k)) (.slice (some ⟨w.heap.size, 0, none⟩) m c) ∧
      Rel φ' (σ.new (.cells (xs ++ ys) (some e))) (w.alloc (.cells (us.toArray ++ vs.toArray ++ rest) e)) := by
  have hl1 := hx.length
  have hl2 := hy.length
  have hle := Phi.le_put (w.heap.size, c * k) (hr.fresh σ.next (Nat.le_refl _))
  obtain ⟨h1, h2⟩ := hr.alloc (blk := .cells (xs ++ ys) (some e)) (o := .cells (us.toArray ++ vs.toArray ++ rest) e) (sz := c * k) (by
    refine .cells (by simp; omega) (by simp; omega) (by intro h; cases h) (by intro T' h; cases h; rfl) ?_ (by intro off _; simp)
    have : (us.toArray ++ vs.toArray ++ rest).toList.take (xs ++ ys).length = us ++ vs := by
      simp only [Array.toList_append, List.length_append, hl1, hl2]
      exact List.take_left' (by simp)
    rw [this]
    exact (hx.mono hle).append (hy.mono hle))
  exact ⟨_, h1, .slcG 0 m c (Phi.put_same ..) (by omega) hm, h2⟩

theorem nextslicecap_le (need c : Nat) (h : c < need) : Builtin.nextslicecap need c ≤ 4 * need + 1024 := by
  unfold Builtin.nextslicecap
  split
  · omega
  · split
    · omega
    · have h1 : ∀ r x, x ≤ need + need / 4 + 192 → Builtin.growBy need r x ≤ need + need / 4 + 192 := by
        intro r
        induction r with
        | zero => intro x hx; simpa [Builtin.growBy] using hx
        | succ r ih =>
          intro x hx
          simp only [Builtin.growBy]
          split
          · exact hx
          · apply ih; omega
      have := h1 4 c (by omega)
      omega

theorem run_appendCap (need old : Nat) (e : TypeId) : ∃ c, need ≤ c ∧ (choose (.appendCap need old e)).run P w = .ok c w.drew :=
  ⟨_, Nat.le_add_right .., by simp [run_choose_drew, Question.forced, Question.cut]; rfl⟩
end
end Go.Mini
