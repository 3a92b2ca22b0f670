/- Codes of the abstract machine against the model's: weakest preconditions. No condition. -/
import Derived.Test.YtaakajfmbjjigaaMC
set_option linter.unusedVariables false
set_option linter.unusedSimpArgs false
set_option maxHeartbeats 4000000
namespace Go.Mini
open Go

section
variable {P : Program} {φ : Phi} {σ σ' : Heap} {w : World} {n : Nat} {fr : Frame} {a : Act} {x : AVal}

theorem DoingV.of {s : Sem Value} {v : Value} (h : s.run P w = .ok v w) (hv : VR φ x v) (hr : Rel φ σ w) : DoingV P s w φ x σ := ⟨v, w, φ, h, Phi.le_refl φ, hv, hr⟩

theorem fold_ok {f : AVal → AVal → Option AVal} {g : Value → Value → Sem Value} (hfg : ∀ x y z u v, f x y = some z → VR φ x u → VR φ y v → ∃ r, (g u v).run P w = .ok r w ∧ VR φ z r) :
    ∀ (l : List AVal) (vs : List Value) (x z : AVal) (u : Value), foldO f x l = some z → VR φ x u → VRs φ l vs → ∃ r, (vs.foldlM g u).run P w = .ok r w ∧ VR φ z r := by
  intro l
  induction l with
  | nil => intro vs x z u h hx hl; cases h; cases hl; exact ⟨u, by simp, hx⟩
  | cons y l ih =>
    intro vs x z u h hx hl
    simp only [foldO] at h
    split at h
    · rename_i q hq
      cases hl with
      | @cons _ v _ vs h1 h2 =>
        obtain ⟨r, hr, hv⟩ := hfg _ _ _ _ _ hq hx h1
        obtain ⟨r', hr', hv'⟩ := ih vs q z r h hv h2
        exact ⟨r', by simp only [List.foldlM_cons, Sem.run_bind, hr, Result.andThen_ok, hr'], hv'⟩
    · cases h
theorem aMax2_ok (x y z : AVal) (u v : Value) (h : aMax2 x y = some z) (hx : VR φ x u) (hy : VR φ y v) : ∃ r, (Builtin.max2 u v).run P w = .ok r w ∧ VR φ z r := by
  unfold aMax2 at h
  split at h
  · split at h
    · rename_i hk; subst hk; cases h; cases hx; cases hy; exact ⟨_, rfl, .int _ _⟩
    · cases h
  · cases h
theorem aMin2_ok (x y z : AVal) (u v : Value) (h : aMin2 x y = some z) (hx : VR φ x u) (hy : VR φ y v) : ∃ r, (Builtin.min2 u v).run P w = .ok r w ∧ VR φ z r := by
  unfold aMin2 at h
  split at h
  · split at h
    · rename_i hk; subst hk; cases h; cases hx; cases hy; exact ⟨_, rfl, .int _ _⟩
    · cases h
  · cases h
theorem evs_cons (l : List Opd) (y : Opd) : evs fr (y :: l) = y.ev fr :: evs fr l := rfl

theorem not_int {d : TypeDesc} (h : ∀ k : IntKind, d = .int k → False) : isIntD d = false := by
  cases d <;> first | rfl | exact (h _ rfl).elim

/-- a builtin's call -/
def doBuiltin (P : Program) (b : Builtin) (c : Call) (type : TypeId) (ρ : Operand → Value) : Sem Next := builtin b c.argTypes type (c.args.map fun | .const _ => true | _ => false) (c.args.map ρ)
theorem run_call_builtin {b : Builtin} {args : Array Operand} {argTypes : Array TypeId} {type : TypeId} {dst : Option Tmp} {pos : String} {after : Array Edge} {guard : Option (Nat × Bool)} (ρ : Operand → Value) :
    execOp ρ { dst, op := .call { callee := .builtin b, args, argTypes }, type, pos, after, guard } = builtin b argTypes type (args.map fun | .const _ => true | _ => false) (args.map ρ) := rfl

theorem cOpds_map (hf : FR φ n fr a) {args : Array Operand} {l : List Opd} (h : cOpds n args.toList = some l) : ∃ vs : List Value, args.map a.eval = vs.toArray ∧ VRs φ (evs fr l) vs :=
  ⟨args.toList.map a.eval, by apply Array.ext'; simp, cOpds_ok hf h⟩

theorem toArray_of_toList {α : Type} {a : Array α} {l : List α} (h : a.toList = l) : a = l.toArray := by rw [← h]

theorem call_ok {c : Call} {so : SOp} {type : TypeId} {dst : Option Tmp} {pos : String} {after : Array Edge} {guard : Option (Nat × Bool)} (hc : cCall P n c = some so) (hf : FR φ n fr a) (hr : Rel φ σ w) (he : aop so fr σ = some (x, σ')) :
    Doing P (execOp a.eval { dst, op := .call c, type, pos, after, guard }) w φ x σ' := by
  obtain ⟨callee, args, argTypes⟩ := c
  unfold cCall at hc
  cases callee with
  | value f =>
    simp only at hc
    split at hc
    · cases hc; simp [aop] at he
    · cases hc
  | invoke r m => cases hc
  | builtin b =>
    simp only at hc
    rw [run_call_builtin]
    split at hc
    · -- len
      rename_i X t hX hT
      obtain ⟨vs, hvs, hvr⟩ := cOpds_map hf hX
      rw [hvs, toArray_of_toList hT]
      cases hvr with
      | @cons _ v _ _ hv hnil =>
      cases hnil
      simp only [builtin]
      apply DoingV.doing
      split at hc
      · rename_i hu
        cases hc
        simp only [aop, Option.map_eq_some_iff] at he
        obtain ⟨z, hz, he⟩ := he
        cases he
        change VR φ (X.ev fr) v at hv
        generalize X.ev fr = y at hz hv
        cases hv <;> simp only [aLenS] at hz <;> try (cases hz; done)
        case str s => cases hz; exact .of (v := goInt s.length) (by simp [Builtin.len_, run_underlying hu, bytes_size]) (.int _ _) hr
      · rename_i e hu
        cases hc
        simp only [aop, Option.map_eq_some_iff] at he
        obtain ⟨z, hz, he⟩ := he
        cases he
        change VR φ (X.ev fr) v at hv
        generalize X.ev fr = y at hz hv
        cases hv <;> simp only [aLen] at hz <;> try (cases hz; done)
        all_goals (cases hz; exact .of (v := goInt _) (by simp [Builtin.len_, run_underlying hu]) (.int _ _) hr)
      · rename_i k e hu
        cases hc
        simp only [aop] at he
        cases he
        refine .of (v := goInt k) ?_ (.int _ _) hr
        simp [Builtin.len_, run_underlying hu]
      · rename_i kt e hu
        cases hc
        simp only [aop, Option.map_eq_some_iff] at he
        obtain ⟨z, hz, he⟩ := he
        cases he
        change VR φ (X.ev fr) v at hv
        generalize X.ev fr = y at hz hv
        unfold aLenM at hz
        split at hz
        · cases hz; cases hv
          exact .of (v := goInt 0) (by simp [Builtin.len_, run_underlying hu]) (.int _ _) hr
        · rename_i m
          split at hz
          · rename_i es hg
            cases hz
            cases hv with
            | mp hib =>
              simp only [Id.real, Option.map_eq_some_iff] at hib
              obtain ⟨⟨b', sz⟩, hφ, rfl⟩ := hib
              obtain ⟨es', clock, ho, ⟨hsort, es0, hperm, hrel⟩, _⟩ := mapBlock hr hφ hg
              refine .of (v := goInt es'.size) ?_ ?_ hr
              · simp [Builtin.len_, run_underlying hu, run_getObj_map ho]
              · have : es.length = es'.size := by rw [← hperm.length_eq, hrel.length]; simp
                rw [this]; exact .int _ _
          · cases hz
        · cases hz
      · cases hc
    · -- append
      rename_i X Y t u hX hT
      obtain ⟨vs, hvs, hvr⟩ := cOpds_map hf hX
      rw [hvs, toArray_of_toList hT]
      cases hvr with
      | @cons _ v _ _ hv hvr =>
      cases hvr with
      | @cons _ v' _ _ hv' hnil =>
      cases hnil
      simp only [builtin]
      apply DoingV.doing
      split at hc
      · rename_i e d hu hd
        split at hc
        · cases hc
        · rename_i ti hd2 hti
          split at hc
          · rename_i z hz
            split at hc
            · rename_i hzs
              cases hc
              exact aApp_ok hu hd (not_int hd2) hti hz hzs he hv hv' hr
            · cases hc
          · cases hc
        · cases hc
      · cases hc
    · -- copy
      rename_i X Y t u hX hT
      obtain ⟨vs, hvs, hvr⟩ := cOpds_map hf hX
      rw [hvs, toArray_of_toList hT]
      cases hvr with
      | @cons _ v _ _ hv hvr =>
      cases hvr with
      | @cons _ v' _ _ hv' hnil =>
      cases hnil
      simp only [builtin]
      apply DoingV.doing
      split at hc
      · rename_i e hu
        rw [Option.map_eq_some_iff] at hc
        obtain ⟨k, hk, rfl⟩ := hc
        exact aCopy_ok hu hk he hv hv' hr
      · cases hc
    · -- delete
      rename_i X Y t u hX hT
      obtain ⟨vs, hvs, hvr⟩ := cOpds_map hf hX
      rw [hvs, toArray_of_toList hT]
      cases hvr with
      | @cons _ v _ _ hv hvr =>
      cases hvr with
      | @cons _ v' _ _ hv' hnil =>
      cases hnil
      simp only [builtin]
      apply DoingV.doing
      split at hc
      · rename_i kt e hu
        split at hc
        · rename_i hk
          cases hc
          simp only [aop] at he
          split at he
          · rename_i b m hm hkk
            split at he
            · rename_i es hg
              cases he
              rw [hm] at hv; rw [hkk] at hv'
              obtain ⟨w', hw', hr'⟩ := del_ok (u' := u) (ty := type) hu hk hv hv' hg hr
              exact ⟨_, w', φ, hw', Phi.le_refl φ, VR.undef φ, hr'⟩
            · cases he
          · cases he
        · cases hc
      · cases hc
    · -- clear
      rename_i X t hX hT
      obtain ⟨vs, hvs, hvr⟩ := cOpds_map hf hX
      rw [hvs, toArray_of_toList hT]
      cases hvr with
      | @cons _ v _ _ hv hnil =>
      cases hnil
      simp only [builtin]
      apply DoingV.doing
      split at hc
      · rename_i e hu
        split at hc
        · rename_i ti hti
          split at hc
          · rename_i z hz
            split at hc
            · rename_i hzs
              cases hc
              simp only [aop] at he
              split at he
              · rename_i hx
                rw [hx] at hv; cases hv; cases he
                refine ⟨_, w, φ, ?_, Phi.le_refl φ, VR.undef φ, hr⟩
                simp [Builtin.clear_, run_underlying hu]; rfl
              · rename_i hx
                rw [hx] at hv; cases hv; cases he
                refine ⟨_, w, φ, ?_, Phi.le_refl φ, VR.undef φ, hr⟩
                simp [Builtin.clear_, run_underlying hu]; rfl
              · rename_i b off len cap hx
                rw [hx] at hv
                split at he
                · rw [Option.map_eq_some_iff] at he
                  obtain ⟨σ1, hs, he⟩ := he
                  cases he
                  obtain ⟨w', hw', hr'⟩ := clr_ok (ty := type) hu hti hz hv hs hr
                  exact ⟨_, w', φ, hw', Phi.le_refl φ, VR.undef φ, hr'⟩
                · cases he
              · cases he
            · cases hc
          · cases hc
        · cases hc
      · cases hc
    · -- max
      rename_i X l hX
      obtain ⟨vs, hvs, hvr⟩ := cOpds_map hf hX
      rw [hvs]
      cases hvr with
      | @cons _ v _ vs hv hvr =>
      simp only [builtin]
      apply DoingV.doing
      cases hc
      simp only [aop, Option.map_eq_some_iff] at he
      obtain ⟨z, hz, he⟩ := he
      cases he
      obtain ⟨r, hr1, hr2⟩ := fold_ok (P := P) (w := w) (g := Builtin.max2) aMax2_ok _ _ _ _ _ hz hv hvr
      exact .of (by simpa [Builtin.max_] using hr1) hr2 hr
    · -- min
      rename_i X l hX
      obtain ⟨vs, hvs, hvr⟩ := cOpds_map hf hX
      rw [hvs]
      cases hvr with
      | @cons _ v _ vs hv hvr =>
      simp only [builtin]
      apply DoingV.doing
      cases hc
      simp only [aop, Option.map_eq_some_iff] at he
      obtain ⟨z, hz, he⟩ := he
      cases he
      obtain ⟨r, hr1, hr2⟩ := fold_ok (P := P) (w := w) (g := Builtin.min2) aMin2_ok _ _ _ _ _ hz hv hvr
      exact .of (by simpa [Builtin.min_] using hr1) hr2 hr
    · cases hc

theorem aop_ok {o : Oper} {so : SOp} (hc : cOp P n o.op = some so) (hf : FR φ n fr a) (hr : Rel φ σ w) (he : aop so fr σ = some (x, σ')) : Doing P (execOp a.eval o) w φ x σ' := by
  obtain ⟨dst, op, type, pos, after, guard⟩ := o
  simp only at hc
  cases op <;> simp only [cOp] at hc <;> try (cases hc; done)
  case move X =>
    rw [Option.map_eq_some_iff] at hc
    obtain ⟨y, hy, rfl⟩ := hc
    cases he
    exact .val rfl (cOpd_ok hy hf) hr
  case assign X =>
    rw [Option.map_eq_some_iff] at hc
    obtain ⟨y, hy, rfl⟩ := hc
    cases he
    exact .val rfl (cOpd_ok hy hf) hr
  case pick C A B =>
    split at hc
    · rename_i c p q h1 h2 h3
      cases hc
      simp only [aop] at he
      have hcv := cOpd_ok h1 hf
      split at he
      · rename_i hb
        cases he
        rw [hb] at hcv
        generalize hg : a.eval C = cv at hcv
        cases hcv
        exact .val (by simp [execOp, hg, asBool]) (cOpd_ok h2 hf) hr
      · rename_i hb
        cases he
        rw [hb] at hcv
        generalize hg : a.eval C = cv at hcv
        cases hcv
        exact .val (by simp [execOp, hg, asBool]) (cOpd_ok h3 hf) hr
      · cases he
    · cases hc
  case alloc t =>
    rw [Option.map_eq_some_iff] at hc
    obtain ⟨z, hz, rfl⟩ := hc
    split at he
    · cases he
      exact (allocT_ok hz hr).doing
    · cases he
      exact (alloc_ok hz hr).doing
  case box t X =>
    rw [Option.map_eq_some_iff] at hc
    obtain ⟨y, hy, rfl⟩ := hc
    simp only [aop] at he
    split at he
    · cases he
    · rename_i hn
      cases he
      exact (box_ok (cOpd_ok hy hf) (by simpa using hn) hr).doing
  case build t parts =>
    split at hc
    · rename_i fs z hu hz
      split at hc
      · rename_i pl hpl
        rw [Option.map_eq_some_iff] at hc
        obtain ⟨p, hp, rfl⟩ := hc
        simp only [aop, Option.map_map, Option.map_eq_some_iff] at he
        obtain ⟨cs, hcs, he⟩ := he
        cases he
        obtain ⟨us, hus, hur⟩ := fill_ok (pl[·]?) hf parts.toList p (zcells z) z.cells cs hp hcs (zcells_VRs φ z)
        refine DoingV.doing (.of (v := .agg us) ?_ (by have := VR.agg hur; simpa using this) hr)
        have hpl' := structPlaces_ok (w := w) fs.toList pl hpl
        have hmap : (parts.map fun (i, x) => (i, a.eval x)).toList = parts.toList.map fun (i, x) => (i, a.eval x) := by simp
        have hpl2 : (fs.mapM (fun f => (do pure (f.offset, ← sizeOf f.type) : Sem (Nat × Nat)))).run P w = .ok pl.toArray w := by
          rw [Array.mapM_eq_mapM_toList, Sem.run_map, hpl']; rfl
        simp only [Instr.build, Sem.run_bind, cZero_ok hz, run_underlying hu, Result.andThen_ok, hmap]
        rw [hpl2]
        simp only [Result.andThen_ok, List.getElem?_toArray, hus, Sem.run_pure]
      · cases hc
    · rename_i m e z hu hz
      split at hc
      · rename_i s hs
        rw [Option.map_eq_some_iff] at hc
        obtain ⟨p, hp, rfl⟩ := hc
        simp only [aop, Option.map_map, Option.map_eq_some_iff] at he
        obtain ⟨cs, hcs, he⟩ := he
        cases he
        obtain ⟨us, hus, hur⟩ := fill_ok (fun i => some (i * s, s)) hf parts.toList p (zcells z) z.cells cs hp hcs (zcells_VRs φ z)
        refine DoingV.doing (.of (v := .agg us) ?_ (by have := VR.agg hur; simpa using this) hr)
        have hmap : (parts.map fun (i, x) => (i, a.eval x)).toList = parts.toList.map fun (i, x) => (i, a.eval x) := by simp
        simp only [Instr.build, Sem.run_bind, cZero_ok hz, run_underlying hu, Result.andThen_ok, hmap, cSize_ok hs, hus, Sem.run_pure]
      · cases hc
    · cases hc
  case buildSlice t len parts =>
    split at hc
    · rename_i e hu
      split at hc
      · rename_i ti hti
        split at hc
        · rename_i z hz
          split at hc
          · rename_i hcond
            simp only [Bool.and_eq_true, decide_eq_true_eq] at hcond
            rw [Option.map_eq_some_iff] at hc
            obtain ⟨p, hp, rfl⟩ := hc
            simp only [aop] at he
            split at he
            · rename_i cs hcs
              split at he
              · rename_i hl
                cases he
                have := bslc_ok hu hti hz hcond.1 hcond.2 hp hf hcs hl hr
                have hmap : (parts.map fun (i, x) => (i, a.eval x)) = (parts.toList.map fun (i, x) => (i, a.eval x)).toArray := by apply Array.ext'; simp
                simp only [execOp, hmap]
                exact this.doing
              · cases he
            · cases he
          · cases hc
        · cases hc
      · cases hc
    · cases hc
  case load t A =>
    split at hc
    · rename_i k y hk hy
      cases hc
      simp only [aop, Option.map_eq_some_iff] at he
      obtain ⟨z, hz, he⟩ := he
      cases he
      have hv := cOpd_ok hy hf
      unfold aLoad at hz
      split at hz
      · rename_i i off hx
        rw [hx] at hv
        generalize hg : a.eval A = cv at hv
        cases hv with
        | ptr _ hib =>
          obtain ⟨h1, h2⟩ := cAgg_ok (w := w) hk
          cases k with
          | none =>
            obtain ⟨v, hv, hvr⟩ := hr.cell hz hib
            refine DoingV.doing (.of (v := v) ?_ hvr hr)
            simp [hg, Instr.loadAt, Instr.sureAddr, loadVar, h1, hv]
          | some m =>
            rw [Option.map_eq_some_iff] at hz
            obtain ⟨l, hl, rfl⟩ := hz
            obtain ⟨vs, hvs, hvrs⟩ := loadCells_ok (P := P) hr hib m off off 0 l #[] hl (by omega)
            refine DoingV.doing (.of (v := .agg vs.toArray) ?_ (.agg hvrs) hr)
            simp [hg, Instr.loadAt, Instr.sureAddr, loadVar, h1, h2 m rfl, loadCells, hvs]
      · rename_i cs hx
        rw [hx] at hv
        generalize hg : a.eval A = cv at hv
        cases hv with
        | @fptr _ vs b off hvs hh =>
          obtain ⟨h1, h2⟩ := cAgg_ok (w := w) hk
          cases k with
          | none =>
            obtain ⟨v, hv, hvr⟩ := hvs.get 0 _ hz
            have hc := hr.frz _ _ _ (hh 0 v hv)
            rw [Nat.add_zero] at hc
            refine DoingV.doing (.of (v := v) ?_ hvr hr)
            simp [hg, Instr.loadAt, Instr.sureAddr, loadVar, h1, hc]
          | some m =>
            simp only at hz
            split at hz
            · rename_i hm
              cases hz
              have hl := hvs.length
              have hld := loadF_ok (P := P) hr (vs.take m) b off 0 #[] (fun i v e => by
                rw [Nat.zero_add]; exact hh i v (take_getElem? _ _ _ _ e))
              have hlen : (vs.take m).length = m := by rw [List.length_take]; omega
              rw [hlen] at hld
              refine DoingV.doing (.of (v := .agg (vs.take m).toArray) ?_ (.agg (hvs.take m)) hr)
              simp [hg, Instr.loadAt, Instr.sureAddr, loadVar, h1, h2 m rfl, loadCells, hld]
            · cases hz
      · cases hz
    · cases hc
  case store t A X =>
    split at hc
    · rename_i k y z hk hy hz
      cases hc
      simp only [aop, Option.map_eq_some_iff] at he
      obtain ⟨σ1, hs, he⟩ := he
      cases he
      have hv := cOpd_ok hy hf
      have hx := cOpd_ok hz hf
      unfold aStore at hs
      split at hs
      · rename_i kk off hxy
        split at hs
        · rename_i hcond
          simp only [Bool.and_eq_true, decide_eq_true_eq, Bool.not_eq_true'] at hcond
          rw [hxy] at hv
          generalize hg : a.eval A = cv at hv
          cases hv with
          | ptr _ hib =>
            simp only [Id.real, Option.map_eq_some_iff] at hib
            obtain ⟨⟨b', sz⟩, hφ, rfl⟩ := hib
            have hcs := hx.cells hcond.2
            obtain ⟨w', hw', hr'⟩ := storeAt_ok (P := P) hs hcs hr hφ
            refine ⟨Go.undef, w', φ, .inr ⟨?_, rfl⟩, Phi.le_refl φ, VR.undef φ, hr'⟩
            have hsz := hcs.length
            have hne : ¬ ((a.eval X).cells.size ≠ k) := by simp at hsz ⊢; omega
            simp only [execOp, hg, Instr.storeAt, Instr.sureAddr, Sem.run_bind, Sem.run_pure, Result.andThen_ok, storeVar, cSize_ok hk]
            rw [if_neg hne]
            simp only [Sem.run_pure, Result.andThen_ok, hw']
        · cases hs
      · cases hs
    · cases hc
  case nilCheck X =>
    rw [Option.map_eq_some_iff] at hc
    obtain ⟨y, hy, rfl⟩ := hc
    have hv := cOpd_ok hy hf
    simp only [aop] at he
    generalize hg : a.eval X = cv at hv
    have hv2 := hv
    split at he <;> rename_i hx <;> try (rw [hx] at hv hv2; cases he; cases hv; refine .val ?_ hv2 hr; simp [execOp, hg])
    cases he
  case binOp op t X Y ty =>
    split at hc
    · rename_i y z hy hz
      cases hc
      simp only [aop, Option.map_eq_some_iff] at he
      obtain ⟨r, hb, he⟩ := he
      cases he
      obtain ⟨v, h1, h2⟩ := aBin_ok (w := w) (X := X) (Y := Y) hb (cOpd_ok hy hf) (cOpd_ok hz hf)
      exact DoingV.doing (.of h1 h2 hr)
    · cases hc
  case unOp op t X =>
    cases op <;> simp only [cOp] at hc <;> try (cases hc; done)
    case not =>
      rw [Option.map_eq_some_iff] at hc
      obtain ⟨y, hy, rfl⟩ := hc
      have hv := cOpd_ok hy hf
      simp only [aop] at he
      split at he
      · rename_i b hx
        cases he
        rw [hx] at hv
        generalize hg : a.eval X = cv at hv
        cases hv
        exact DoingV.doing (.of (v := .bool !b) (by simp [hg, Op.unary]) (.bool _) hr)
      · cases he
    case neg =>
      rw [Option.map_eq_some_iff] at hc
      obtain ⟨y, hy, rfl⟩ := hc
      have hv := cOpd_ok hy hf
      simp only [aop] at he
      split at he
      · rename_i k m hx
        cases he
        rw [hx] at hv
        generalize hg : a.eval X = cv at hv
        cases hv
        exact DoingV.doing (.of (v := .int k (k.wrap (0 - m))) (by simp [hg, Op.unary, Op.intArith]) (.int _ _) hr)
      · cases he
  case convert s d X =>
    split at hc
    · rename_i D k y hs hd hy
      cases hc
      have hv := cOpd_ok hy hf
      simp only [aop] at he
      split at he
      · rename_i k' m hx
        cases he
        rw [hx] at hv
        generalize hg : a.eval X = cv at hv
        cases hv
        refine DoingV.doing (.of (v := .int k (k.wrap m)) ?_ (.int _ _) hr)
        simp only [hg, convert, Sem.run_bind, run_underlying hs, run_underlying hd, Result.andThen_ok]
        cases D <;> simp [Conv.intToInt]
      · cases he
    · rename_i k y hs hd hy
      cases hc
      have hv := cOpd_ok hy hf
      simp only [aop] at he
      split at he
      · rename_i k' m hx
        cases he
        rw [hx] at hv
        generalize hg : a.eval X = cv at hv
        cases hv
        refine DoingV.doing (.of (v := .string (Utf8.encode m)) ?_ ?_ hr)
        · simp [hg, convert, run_underlying hs, run_underlying hd, Conv.intToString]
        · have := VR.str (φ := φ) (Utf8.encode m).data.toList; simpa using this
      · rename_i s' hx
        cases he
        rw [hx] at hv
        generalize hg : a.eval X = cv at hv
        cases hv
        exact DoingV.doing (.of (v := .string ⟨s'.toArray⟩) (by simp [hg, convert, run_underlying hs, run_underlying hd]) (.str _) hr)
      · cases he
    · rename_i y hs hd hy
      cases hc
      have hv := cOpd_ok hy hf
      simp only [aop] at he
      split at he
      · rename_i k' m hx
        cases he
        rw [hx] at hv
        generalize hg : a.eval X = cv at hv
        cases hv
        refine DoingV.doing (.of (v := .string (Utf8.encode m)) ?_ ?_ hr)
        · simp [hg, convert, run_underlying hs, run_underlying hd, Conv.intToString]
        · have := VR.str (φ := φ) (Utf8.encode m).data.toList; simpa using this
      · rename_i s' hx
        cases he
        rw [hx] at hv
        generalize hg : a.eval X = cv at hv
        cases hv
        exact DoingV.doing (.of (v := .string ⟨s'.toArray⟩) (by simp [hg, convert, run_underlying hs, run_underlying hd]) (.str _) hr)
      · cases he
    · rename_i e y hs hd hy
      split at hc
      · rename_i hE
        cases hc
        have hv := cOpd_ok hy hf
        simp only [aop, Option.map_eq_some_iff] at he
        obtain ⟨z, hz, he⟩ := he
        cases he
        obtain ⟨r, h1, h2⟩ := aBstr_ok (P := P) hs hE hd hz hv hr
        exact DoingV.doing (.of h1 h2 hr)
      · cases hc
    · rename_i e y hs hd hy
      split at hc
      · rename_i hE
        cases hc
        have hv := cOpd_ok hy hf
        simp only [aop] at he
        split at he
        · rename_i s' hx
          split at he
          · cases he
            rw [hx] at hv
            generalize hg : a.eval X = cv at hv
            cases hv
            have := bytes_ok (P := P) hs hd hE s' hr
            simp only [execOp, hg]
            exact this.doing
          · cases he
        · cases he
      · cases hc
    · cases hc
  case makeFunc fn first captured =>
    cases fn <;> simp only [cOp] at hc <;> try (cases hc; done)
    rename_i f
    split at hc
    · rename_i h0
      rw [Option.map_eq_some_iff] at hc
      obtain ⟨l, hl, rfl⟩ := hc
      cases he
      obtain ⟨vs, hvs, hvr⟩ := cOpds_map hf hl
      refine DoingV.doing (.of (v := .func (.func f) #[] vs.toArray) ?_ (.fn f hvr) hr)
      have : first.map a.eval = #[] := by
        apply Array.eq_empty_of_size_eq_zero; simpa using h0
      simp [Instr.makeFunc, this, hvs]
    · cases hc
  case makeMap t r =>
    split at hc
    · rename_i k e hu
      have key : ∀ r' : Option Value, (r' = none ∨ ∃ k m, r' = some (.int k m)) → aop .mmap fr σ = some (x, σ') → DoingV P (Instr.makeMap t r') w φ x σ' := by
        intro r' hr' he
        cases he
        obtain ⟨h1, h2⟩ := hr.alloc (blk := .map []) (o := .map #[] 0) (sz := 0) (.map ⟨.nil, [], .refl _, .nil⟩ (MapKept.stamped_empty 0))
        refine ⟨_, _, _, ?_, h1, .mp (b := w.heap.size) (by simp [Id.real, Phi.put_same]), h2⟩
        rcases hr' with rfl | ⟨k, m, rfl⟩
        · simp [Instr.makeMap, run_newObj_alloc]
        · simp [Instr.makeMap, run_underlying hu, asInt, asIntOf, run_newObj_alloc]
      split at hc
      · cases hc; exact (key _ (.inl rfl) he).doing
      · cases hc; exact (key _ (.inr ⟨_, _, rfl⟩) he).doing
      · cases hc
    · cases hc
  case makeSlice t L C =>
    split at hc
    · rename_i e l c hu hl hcc
      split at hc
      · rename_i ti hti
        split at hc
        · rename_i z hz
          split at hc
          · rename_i hzs
            cases hc
            have hv := cOpd_ok hl hf
            have hv' := cOpd_ok hcc hf
            simp only [aop] at he
            split at he
            · rename_i l' c' e1 e2
              split at he
              · rename_i hcond
                simp only [Bool.and_eq_true, decide_eq_true_eq] at hcond
                cases he
                rw [e1] at hv; rw [e2] at hv'
                exact (mslc_ok hu hti hz hzs hv hv' hcond.1.1.1.1 hcond.1.1.1.2 hcond.1.1.2 hcond.1.2 hr).doing
              · cases he
            · cases he
          · cases hc
        · cases hc
      · cases hc
    · cases hc
  case slice t X lo hi mx =>
    split at hc
    · rename_i y l h m hy hl hh hm
      have hv := cOpd_ok hy hf
      have vl := cOpdO_vro hl hf
      have vh := cOpdO_vro hh hf
      have vm := cOpdO_vro hm hf
      split at hc
      · rename_i e hu
        rw [Option.map_eq_some_iff] at hc
        obtain ⟨k, hk, rfl⟩ := hc
        simp only [aop, Option.map_eq_some_iff] at he
        obtain ⟨z, hz, he⟩ := he
        cases he
        obtain ⟨r, h1, h2⟩ := aSlc_ok (w := w) hu hk hz hv vl vh vm
        exact DoingV.doing (.of h1 h2 hr)
      · rename_i hu
        split at hc
        · cases hc
        · rename_i hmx
          cases hc
          simp only [aop, Option.map_eq_some_iff] at he
          obtain ⟨z, hz, he⟩ := he
          cases he
          have : mx = none := by cases mx <;> simp_all [cOpdO]
          subst this
          obtain ⟨r, h1, h2⟩ := aSlcS_ok (w := w) hu hz hv vl vh
          exact DoingV.doing (.of h1 h2 hr)
      · rename_i m' e hu
        rw [Option.map_eq_some_iff] at hc
        obtain ⟨k, hk, rfl⟩ := hc
        simp only [aop, Option.map_eq_some_iff] at he
        obtain ⟨z, hz, he⟩ := he
        cases he
        obtain ⟨r, h1, h2⟩ := aSlcR_ok (w := w) hu hk hz hv vl vh vm
        exact DoingV.doing (.of h1 h2 hr)
      · cases hc
    · cases hc
  case fieldAddr s X f =>
    split at hc
    · rename_i fs y hu hy
      split at hc
      · rename_i fd hfd
        split at hc
        · cases hc
        · rename_i k h0 hk
          cases hc
          have hv := cOpd_ok hy hf
          simp only [aop] at he
          split at he
          · rename_i i off hx
            cases he
            rw [hx] at hv
            generalize hg : a.eval X = cv at hv
            cases hv with
            | ptr _ hib =>
              refine DoingV.doing (.of (v := .pointer (some ⟨_, off + fd.offset, none⟩)) ?_ (.ptr _ hib) hr)
              have hk0 : k ≠ 0 := by intro h; subst h; exact h0 rfl
              simp only [hg, Instr.fieldAt, Sem.run_bind, run_underlying hu, Result.andThen_ok, hfd, Instr.sureAddr, Sem.run_pure, fieldPlace, cSize_ok hk, if_neg hk0, Addr.add_eq]
          · rename_i cs hx
            cases he
            rw [hx] at hv
            generalize hg : a.eval X = cv at hv
            cases hv with
            | @fptr _ vs b off hvs hh =>
              refine DoingV.doing (.of (v := .pointer (some ⟨b, off + fd.offset, none⟩)) ?_ (.fptr (hvs.drop fd.offset) ?_) hr)
              · have hk0 : k ≠ 0 := by intro h; subst h; exact h0 rfl
                simp only [hg, Instr.fieldAt, Sem.run_bind, run_underlying hu, Result.andThen_ok, hfd, Instr.sureAddr, Sem.run_pure, fieldPlace, cSize_ok hk, if_neg hk0, Addr.add_eq]
              · intro j v e
                rw [List.getElem?_drop] at e
                rw [Nat.add_assoc]
                exact hh _ v e
          · cases he
        · cases hc
      · cases hc
    · cases hc
  case field t X f =>
    split at hc
    · rename_i fs y hu hy
      split at hc
      · rename_i fd hfd
        rw [Option.map_eq_some_iff] at hc
        obtain ⟨k, hk, rfl⟩ := hc
        have hv := cOpd_ok hy hf
        simp only [aop] at he
        split at he
        · rename_i cs hx
          rw [Option.map_eq_some_iff] at he
          obtain ⟨z, hz, he⟩ := he
          cases he
          rw [hx] at hv
          generalize hg : a.eval X = cv at hv
          cases hv with
          | agg hcs =>
            obtain ⟨r, h1, h2⟩ := aPart_ok (w := w) hk hz hcs
            refine DoingV.doing (.of (v := r) ?_ h2 hr)
            simp only [hg, Instr.field, Sem.run_bind, run_underlying hu, Result.andThen_ok, hfd, asAgg, Sem.run_pure, h1]
        · cases he
      · cases hc
    · cases hc
  case indexAddr t X I =>
    split at hc
    · rename_i e y i hu hy hi
      rw [Option.map_eq_some_iff] at hc
      obtain ⟨k, hk, rfl⟩ := hc
      simp only [aop, Option.map_eq_some_iff] at he
      obtain ⟨z, hz, he⟩ := he
      cases he
      obtain ⟨r, h1, h2⟩ := aIdx_ok (w := w) hu hk hz (cOpd_ok hy hf) (cOpd_ok hi hf)
      exact DoingV.doing (.of h1 h2 hr)
    · rename_i m e y i hu hy hi
      rw [Option.map_eq_some_iff] at hc
      obtain ⟨k, hk, rfl⟩ := hc
      simp only [aop, Option.map_eq_some_iff] at he
      obtain ⟨z, hz, he⟩ := he
      cases he
      obtain ⟨r, h1, h2⟩ := aIdxR_ok (w := w) hu hk hz (cOpd_ok hy hf) (cOpd_ok hi hf)
      exact DoingV.doing (.of h1 h2 hr)
    · cases hc
  case index t X I =>
    split at hc
    · rename_i y i hu hy hi
      cases hc
      simp only [aop, Option.map_eq_some_iff] at he
      obtain ⟨z, hz, he⟩ := he
      cases he
      obtain ⟨r, h1, h2⟩ := aIdxS_ok (w := w) hu hz (cOpd_ok hy hf) (cOpd_ok hi hf)
      exact DoingV.doing (.of h1 h2 hr)
    · rename_i m e y i hu hy hi
      split at hc
      · rename_i k s hk hs
        cases hc
        simp only [aop, Option.map_eq_some_iff] at he
        obtain ⟨z, hz, he⟩ := he
        cases he
        obtain ⟨r, h1, h2⟩ := aIdxG_ok (w := w) hu hk hs hz (cOpd_ok hy hf) (cOpd_ok hi hf)
        exact DoingV.doing (.of h1 h2 hr)
      · cases hc
    · cases hc
  case lookup t X K ok =>
    split at hc
    · rename_i kt e y k hu hy hk
      split at hc
      · rename_i z hkt hz
        cases hc
        simp only [aop, Option.map_eq_some_iff] at he
        obtain ⟨q, hq, he⟩ := he
        cases he
        obtain ⟨r, h1, h2⟩ := aLook_ok (P := P) hu hkt hz hq (cOpd_ok hy hf) (cOpd_ok hk hf) hr
        exact DoingV.doing (.of h1 h2 hr)
      · cases hc
    · cases hc
  case mapUpdate t M K V =>
    split at hc
    · rename_i kt e m k v hu hm hk hv
      split at hc
      · rename_i hkt
        cases hc
        have h1 := cOpd_ok hm hf
        have h2 := cOpd_ok hk hf
        have h3 := cOpd_ok hv hf
        simp only [aop] at he
        split at he
        · rename_i b j e1 e2
          split at he
          · rename_i es hg
            cases he
            rw [e1] at h1; rw [e2] at h2
            obtain ⟨w', hw', hr'⟩ := mapUp_ok (P := P) hu hkt h1 h2 h3 hg hr
            exact ⟨Go.undef, w', φ, .inr ⟨by simp [execOp, hw'], rfl⟩, Phi.le_refl φ, VR.undef φ, hr'⟩
          · cases he
        · cases he
      · cases hc
    · cases hc
  case insert t M K V =>
    split at hc
    · rename_i kt e m k v hu hm hk hv
      split at hc
      · rename_i hkt
        cases hc
        have h1 := cOpd_ok hm hf
        have h2 := cOpd_ok hk hf
        have h3 := cOpd_ok hv hf
        simp only [aop] at he
        split at he
        · rename_i b j e1 e2
          split at he
          · rename_i es hg
            cases he
            rw [e1] at h1; rw [e2] at h2
            obtain ⟨w', hw', hr'⟩ := mapUp_ok (P := P) hu hkt h1 h2 h3 hg hr
            exact ⟨Go.undef, w', φ, .inr ⟨by simp [execOp, hw'], rfl⟩, Phi.le_refl φ, VR.undef φ, hr'⟩
          · cases he
        · cases he
      · cases hc
    · cases hc
  case range t X =>
    split at hc
    · rename_i hu
      rw [Option.map_eq_some_iff] at hc
      obtain ⟨y, hy, rfl⟩ := hc
      have hv := cOpd_ok hy hf
      simp only [aop] at he
      split at he
      · rename_i s hx
        cases he
        rw [hx] at hv
        exact (iter_ok hu hv hr).doing
      · cases he
    · cases hc
  case next X b =>
    cases b <;> simp only at hc <;> try (cases hc; done)
    rw [Option.map_eq_some_iff] at hc
    obtain ⟨y, hy, rfl⟩ := hc
    exact (aNext_ok type he (cOpd_ok hy hf) hr).doing
  case extract X i =>
    rw [Option.map_eq_some_iff] at hc
    obtain ⟨y, hy, rfl⟩ := hc
    have hv := cOpd_ok hy hf
    simp only [aop] at he
    split at he
    · rename_i l hx
      rw [Option.map_eq_some_iff] at he
      obtain ⟨z, hz, he⟩ := he
      cases he
      rw [hx] at hv
      generalize hg : a.eval X = cv at hv
      cases hv with
      | tup hl =>
        obtain ⟨v, h1, h2⟩ := hl.get i _ hz
        refine DoingV.doing (.of (v := v) ?_ h2 hr)
        simp [hg, Instr.extract, h1]
    · cases he
  case call c => exact call_ok hc hf hr he
end
end Go.Mini
set_option linter.unusedVariables false
set_option linter.unusedSimpArgs false
set_option maxHeartbeats 4000000
namespace Go.Mini
open Go

/-- a call's exact outcome, in whatever world the abstract heap stands for -/
def ACall (P : Program) (f : FuncId) (args : List AVal) (σ : Heap) (v : AVal) (σ' : Heap) : Prop :=
  ∀ φ w vs, VRs φ args vs → Rel φ σ w → ∀ (o : Oper) (a : Act) (next : Act → World → Prop) (Q : Exit → Act → World → Prop),
    (∀ φ' v' w', φ.le φ' → VR φ' v v' → Rel φ' σ' w' → next (a.put o.dst v') w') → o.upon P a next Q ((callFunc f vs.toArray).run P w)

inductive SExit where
  | normal
  | exit (id : Nat)
  | ret

def wantd (g : Option (Nat × Bool)) (fr : Frame) : Option Bool :=
  match g with
  | none => some true
  | some (t, want) => match fr.get t with
    | .bool b => some (b == want)
    | .tup _ => some false
    | _ => none

section
variable (P : Program)
/-- an operation: what it gives, what it leaves -/
def opwp (o : SOp) (fr : Frame) (σ : Heap) (K : AVal → Heap → Prop) : Prop :=
  match o with
  | .call f args => match f.ev fr with
    | .fn g caps => ∃ v σ', ACall P g (evs fr args ++ caps) σ v σ' ∧ K v σ'
    | _ => False
  | o => match aop o fr σ with
    | some (v, σ') => K v σ'
    | none => False
def opswp : List SOper → (Frame → Heap → Prop) → Frame → Heap → Prop
  | [], K, fr, σ => K fr σ
  | o :: os, K, fr, σ => match wantd o.guard fr with
    | some true => opwp P o.op fr σ fun v σ' => opswp os K (fr.putO o.dst v) σ'
    | some false => opswp os K (fr.putO o.dst .undef) σ
    | none => False

/-- an operation's outcome -/
def Does (o : SOp) (fr : Frame) (σ : Heap) (v : AVal) (σ' : Heap) : Prop :=
  match o with
  | .call f args => match f.ev fr with
    | .fn g caps => ACall P g (evs fr args ++ caps) σ v σ'
    | _ => False
  | o => aop o fr σ = some (v, σ')
end
theorem opwp_does {P : Program} {o : SOp} {fr : Frame} {σ : Heap} {K : AVal → Heap → Prop} (h : opwp P o fr σ K) : ∃ v σ', Does P o fr σ v σ' ∧ K v σ' := by
  unfold opwp at h
  split at h
  · split at h
    · rename_i hx
      obtain ⟨v, σ', h1, h2⟩ := h
      exact ⟨v, σ', by simpa [Does, hx] using h1, h2⟩
    · cases h
  · rename_i hne
    split at h
    · rename_i v σ' he
      refine ⟨v, σ', ?_, h⟩
      unfold Does
      split
      · exact absurd rfl (hne _ _)
      · exact he
    · cases h

section
variable {P : Program} {φ : Phi} {σ σ' : Heap} {w : World} {n : Nat} {fr : Frame} {a : Act} {x : AVal}

theorem cOper_ok {ops : Array Oper} {o : Oper} {so : SOper} (h : cOper P n ops o = some so) : cOp P n o.op = some so.op ∧ so.dst = o.dst ∧ (∀ t, o.dst = some t → t < n) ∧
    so.after = (o.after.toList.filter fun e => Region.binds .any e).map (·.on) ∧
    ((o.guard = none ∧ so.guard = none) ∨ ∃ j want o' t, o.guard = some (j, want) ∧ ops[j]? = some o' ∧ o'.dst = some t ∧ t < n ∧ so.guard = some (t, want)) := by
  unfold cOper at h
  split at h
  · cases h
  · rename_i s hs
    split at h
    · cases h
    · rename_i hd
      have hd' : ∀ t, o.dst = some t → t < n := by
        intro t ht
        simp [cDst, ht] at hd; exact hd
      simp only at h
      split at h
      · rename_i hg
        cases h
        exact ⟨hs, rfl, hd', rfl, .inl ⟨hg, rfl⟩⟩
      · rename_i j want hg
        split at h
        · rename_i t ht
          split at h
          · rename_i hlt
            cases h
            rw [Option.bind_eq_some_iff] at ht
            obtain ⟨o', h1, h2⟩ := ht
            exact ⟨hs, rfl, hd', rfl, .inr ⟨j, want, o', t, hg, h1, h2, hlt, rfl⟩⟩
          · cases h
        · cases h

theorem wantd_ok {ops : Array Oper} {o : Oper} {so : SOper} (h : cOper P n ops o = some so) {b : Bool} (hw : wantd so.guard fr = some b)
    (hsz : a.tmps.size = n) (hv : ∀ t want, so.guard = some (t, want) → VR φ (fr.get t) (a.tmps.getD t Go.undef)) : Region.wanted o (yielded ops a.tmps) = b := by
  obtain ⟨_, _, _, _, hg⟩ := cOper_ok h
  rcases hg with ⟨h1, h2⟩ | ⟨j, want, o', t, h1, h2, h3, h4, h5⟩
  · rw [h2] at hw
    simp only [wantd, Option.some.injEq] at hw
    subst hw
    simp [Region.wanted, h1]
  · rw [h5] at hw
    have hvr := hv t want h5
    simp only [wantd] at hw
    have hlt : t < a.tmps.size := by rw [hsz]; exact h4
    have hget : a.tmps[t]? = some (a.tmps.getD t Go.undef) := by simp [Array.getD_eq_getD_getElem?, hlt]
    have hy : yielded ops a.tmps j = match a.tmps.getD t Go.undef with | .bool b => some b | _ => none := by
      simp only [yielded, h2, Option.bind_some, h3, hget]
      cases a.tmps.getD t Go.undef <;> rfl
    generalize a.tmps.getD t Go.undef = cv at hvr hy
    split at hw
    · rename_i c hc
      rw [hc] at hvr
      cases hvr
      cases hw
      simp only [Region.wanted, h1, hy]
      cases c <;> cases want <;> rfl
    · rename_i l hc
      rw [hc] at hvr
      cases hvr
      cases hw
      simp [Region.wanted, h1, hy]
    · cases hw

def SOp.isCall : SOp → Bool
  | .call _ _ => true
  | _ => false
theorem cOp_call {op : Op} {f : Opd} {args : List Opd} (h : cOp P n op = some (.call f args)) : ∃ c F, op = .call c ∧ c.callee = .value F ∧ cOpd n F = some f ∧ cOpds n c.args.toList = some args := by
  cases op
  case call c =>
    obtain ⟨callee, as, ts⟩ := c
    simp only [cOp, cCall] at h
    cases callee with
    | value F =>
      simp only at h
      split at h
      · rename_i x y h1 h2
        cases h
        exact ⟨_, F, rfl, rfl, h1, h2⟩
      · cases h
    | invoke _ _ => cases h
    | builtin b =>
      simp only at h
      repeat' split at h
      all_goals first
        | (cases h; done)
        | (rw [Option.map_eq_some_iff] at h; obtain ⟨_, _, h⟩ := h; cases h; done)
  all_goals
    simp only [cOp] at h
    repeat' split at h
    all_goals first
      | (cases h; done)
      | (rename_i heq; cases heq; done)
      | (rename_i heq _; cases heq; done)
      | (rw [Option.map_eq_some_iff] at h; obtain ⟨_, _, h⟩ := h; cases h; done)

/-- one operation in a real frame -/
theorem does_ok {o : Oper} {so : SOp} (hc : cOp P n o.op = some so) {fr' : Frame} (hf : FR φ n fr' a) (hr : Rel φ σ w) {v : AVal} (hd : Does P so fr' σ v σ') {next : Act → World → Prop} {Q : Exit → Act → World → Prop}
    (hn : ∀ φ' v' w', φ.le φ' → VR φ' v v' → Rel φ' σ' w' → next (a.put o.dst v') w') : o.wp P a w next Q := by
  unfold Does at hd
  split at hd
  · rename_i f args
    split at hd
    · rename_i g caps hx
      obtain ⟨dst, op, type, pos, after, guard⟩ := o
      obtain ⟨c, F, rfl, hcal, hF, has⟩ := cOp_call hc
      obtain ⟨callee, as, ts⟩ := c
      simp only at hcal has
      subst hcal
      have hv := cOpd_ok hF hf
      obtain ⟨vs, hvs, hvr⟩ := cOpds_map hf has
      rw [hx] at hv
      generalize hg : a.eval F = cv at hv
      cases hv with
      | @fn _ _ us hcaps =>
        have hrun : execOp a.eval { dst := dst, op := .call { callee := .value F, args := as, argTypes := ts }, type, pos, after, guard } = callFunc g (vs ++ us).toArray := by
          simp only [execOp, resolve, hg, Deferred.ofValue, hvs]
          simp only [pure_bind, invoke]
          congr 1
          apply Array.ext'
          simp
        unfold Oper.wp
        rw [hrun]
        exact hd φ w (vs ++ us) (hvr.append hcaps) hr _ a next Q hn
    · cases hd
  · rename_i hne
    obtain ⟨v', w', φ', h1, h2, h3, h4⟩ := aop_ok (o := o) hc hf hr hd
    unfold Oper.wp
    rcases h1 with h1 | ⟨h1, rfl⟩
    · rw [h1]; exact hn φ' v' w' h2 h3 h4
    · rw [h1]; exact hn φ' _ w' h2 h3 h4
theorem cOp_lay {op : Op} {so : SOp} (h : cOp P n op = some so) (k : Nat) : ¬ IsLay so k := by
  rintro (⟨zs, rfl⟩ | ⟨m, zs, len, parts, rfl⟩)
  all_goals
    cases op
    case call c =>
      obtain ⟨callee, as, ts⟩ := c
      simp only [cOp, cCall] at h
      cases callee with
      | value F =>
        simp only at h
        split at h
        · cases h
        · cases h
      | invoke _ _ => cases h
      | builtin b =>
        simp only at h
        repeat' split at h
        all_goals first
          | (cases h; done)
          | (rw [Option.map_eq_some_iff] at h; obtain ⟨_, _, h⟩ := h; cases h; done)
    all_goals
      simp only [cOp] at h
      repeat' split at h
      all_goals first
        | (cases h; done)
        | (rename_i heq; cases heq; done)
        | (rename_i heq _; cases heq; done)
        | (rw [Option.map_eq_some_iff] at h; obtain ⟨_, _, h⟩ := h; cases h; done)
theorem lay_does {o : Oper} {zs : List AVal} {k : Nat} (hc : cOp P n o.op = some (.alloc zs)) (hr : Rel φ σ w) (hk : φ.res k) (hg : σ.get k = some (.cells zs none)) {next : Act → World → Prop} {Q : Exit → Act → World → Prop}
    (hn : ∀ (φ' : Phi) v' w', φ.sub φ' → (∀ j, φ'.res j ↔ (φ.res j ∧ j ≠ k)) → VR φ' (.ptr (.new k) 0) v' → Rel φ' σ w' → next (a.put o.dst v') w') : o.wp P a w next Q := by
  obtain ⟨dst, op, type, pos, after, guard⟩ := o
  simp only at hc
  cases op
  case alloc t =>
    simp only [cOp, Option.map_eq_some_iff] at hc
    obtain ⟨z, hz, he⟩ := hc
    split at he
    · cases he
    cases he
    obtain ⟨v, w', φ', h1, h2, h3, h4, h5⟩ := lay_ok hz hr hk hg
    unfold Oper.wp
    have : (execOp a.eval { dst := dst, op := .alloc t, type := type, pos := pos, after := after, guard := guard }).run P w = .ok (.value v) w' := by
      simp only [execOp]
      simp [h1]
    rw [this]
    exact hn φ' v w' h2 h3 h4 h5
  case call c =>
    exfalso
    obtain ⟨callee, as, ts⟩ := c
    simp only [cOp, cCall] at hc
    cases callee with
    | value F =>
      simp only at hc
      split at hc
      · cases hc
      · cases hc
    | invoke _ _ => cases hc
    | builtin b =>
      simp only at hc
      repeat' split at hc
      all_goals first
        | (cases hc; done)
        | (rw [Option.map_eq_some_iff] at hc; obtain ⟨_, _, hc⟩ := hc; cases hc; done)
  all_goals
    exfalso
    simp only [cOp] at hc
    repeat' split at hc
    all_goals first
      | (cases hc; done)
      | (rename_i heq; cases heq; done)
      | (rename_i heq _; cases heq; done)
      | (rw [Option.map_eq_some_iff] at hc; obtain ⟨_, _, hc⟩ := hc; cases hc; done)
theorem layB_does {o : Oper} {zs : List AVal} {k len q : Nat} {pl : List (Nat × Nat × Opd)} {cs : List AVal} (hc : cOp P n o.op = some (.bslc k zs len pl)) (hf : FR φ n fr a) (hr : Rel φ σ w) (hq : φ.res q) (hg : σ.get q = some (.cells cs none))
    (hfill : aFill (repl len zs) (evParts fr pl) = some cs) (hcs : cs.length = len * k) {next : Act → World → Prop} {Q : Exit → Act → World → Prop}
    (hn : ∀ (φ' : Phi) v' w', φ.sub φ' → (∀ j, φ'.res j ↔ (φ.res j ∧ j ≠ q)) → VR φ' (.slc (.new q) 0 len (.ex len)) v' → Rel φ' σ w' → next (a.put o.dst v') w') : o.wp P a w next Q := by
  obtain ⟨dst, op, type, pos, after, guard⟩ := o
  simp only at hc
  cases op
  case buildSlice t l parts =>
    simp only [cOp] at hc
    split at hc
    · rename_i e hu
      split at hc
      · rename_i ti hti
        split at hc
        · rename_i z hz
          split at hc
          · rename_i hcond
            simp only [Bool.and_eq_true, decide_eq_true_eq] at hcond
            rw [Option.map_eq_some_iff] at hc
            obtain ⟨p, hp, he⟩ := hc
            cases he
            obtain ⟨v, w', φ', h1, h2, h3, h4, h5⟩ := layB_ok (P := P) (w := w) hu hti hz hcond.1 hcond.2 hp hf hfill hcs hr hq hg
            unfold Oper.wp
            have hmap : (parts.map fun (i, x) => (i, a.eval x)) = (parts.toList.map fun (i, x) => (i, a.eval x)).toArray := by apply Array.ext'; simp
            have : (execOp a.eval { dst := dst, op := .buildSlice t len parts, type := type, pos := pos, after := after, guard := guard }).run P w = .ok (.value v) w' := by
              simp only [execOp, hmap]
              simp [h1]
            rw [this]
            exact hn φ' v w' h2 h3 h4 h5
          · cases hc
        · cases hc
      · cases hc
    · cases hc
  case call c =>
    exfalso
    obtain ⟨callee, as, ts⟩ := c
    simp only [cOp, cCall] at hc
    cases callee with
    | value F =>
      simp only at hc
      split at hc
      · cases hc
      · cases hc
    | invoke _ _ => cases hc
    | builtin b =>
      simp only at hc
      repeat' split at hc
      all_goals first
        | (cases hc; done)
        | (rw [Option.map_eq_some_iff] at hc; obtain ⟨_, _, hc⟩ := hc; cases hc; done)
  all_goals
    exfalso
    simp only [cOp] at hc
    repeat' split at hc
    all_goals first
      | contradiction
      | (cases hc; done)
      | (rename_i heq; cases heq; done)
      | (rename_i heq _; cases heq; done)
      | (rw [Option.map_eq_some_iff] at hc; obtain ⟨_, _, hc⟩ := hc; cases hc; done)
end
end Go.Mini
set_option linter.unusedVariables false
set_option linter.unusedSimpArgs false
namespace Go.Mini
open Go

/-! ### Regions whose order is open -/
theorem ev_congr {fr fr' : Frame} {x : Opd} (h : ∀ t ∈ x.tmps, fr.get t = fr'.get t) : x.ev fr = x.ev fr' := by
  cases x with
  | tmp t => exact h t (List.mem_cons_self ..)
  | lit a => rfl
theorem evO_congr {fr fr' : Frame} {x : Option Opd} (h : ∀ t ∈ oTmps x, fr.get t = fr'.get t) : evO fr x = evO fr' x := by
  cases x with
  | none => rfl
  | some x => simp only [evO, Option.map_some]; rw [ev_congr h]
theorem evs_congr {fr fr' : Frame} : ∀ {l : List Opd}, (∀ t ∈ lTmps l, fr.get t = fr'.get t) → evs fr l = evs fr' l
  | [], _ => rfl
  | x :: l, h => by
    simp only [lTmps, List.flatMap_cons, List.mem_append] at h
    show x.ev fr :: evs fr l = x.ev fr' :: evs fr' l
    rw [ev_congr fun t ht => h t (.inl ht), evs_congr fun t ht => h t (.inr ht)]
theorem evParts_congr {fr fr' : Frame} : ∀ {l : List (Nat × Nat × Opd)}, (∀ t ∈ pTmps l, fr.get t = fr'.get t) → evParts fr l = evParts fr' l
  | [], _ => rfl
  | (i, j, x) :: l, h => by
    simp only [pTmps, List.flatMap_cons, List.mem_append] at h
    show (i, j, x.ev fr) :: evParts fr l = (i, j, x.ev fr') :: evParts fr' l
    rw [ev_congr fun t ht => h t (.inl ht), evParts_congr fun t ht => h t (.inr ht)]

theorem aop_congr {o : SOp} {fr fr' : Frame} (h : ∀ t ∈ o.tmps, fr.get t = fr'.get t) (σ : Heap) : aop o fr σ = aop o fr' σ := by
  cases o <;> simp only [SOp.tmps, List.mem_append] at h <;> simp only [aop] <;> first
    | rfl
    | (rw [ev_congr h]; done)
    | (rw [evs_congr h]; done)
    | (rw [evParts_congr h]; done)
    | (rw [ev_congr fun t ht => h t (.inl ht), ev_congr fun t ht => h t (.inr ht)]; done)
    | (rw [ev_congr fun t ht => h t (.inl ht), evs_congr fun t ht => h t (.inr ht)]; done)
    | (rw [ev_congr fun t ht => h t (.inl (.inl ht)), ev_congr fun t ht => h t (.inl (.inr ht)), ev_congr fun t ht => h t (.inr ht)]; done)
    | (rw [ev_congr fun t ht => h t (.inl (.inl ht)), evO_congr fun t ht => h t (.inl (.inr ht)), evO_congr fun t ht => h t (.inr ht)]; done)
    | (rw [ev_congr fun t ht => h t (.inl (.inl (.inl ht))), evO_congr fun t ht => h t (.inl (.inl (.inr ht))), evO_congr fun t ht => h t (.inl (.inr ht)), evO_congr fun t ht => h t (.inr ht)]; done)
theorem does_congr {P : Program} {o : SOp} {fr fr' : Frame} (h : ∀ t ∈ o.tmps, fr.get t = fr'.get t) {σ σ' : Heap} {v : AVal} (hd : Does P o fr σ v σ') : Does P o fr' σ v σ' := by
  cases o
  case call f l =>
    simp only [SOp.tmps, List.mem_append] at h
    simp only [Does] at hd ⊢
    rw [← ev_congr fun t ht => h t (.inl ht), ← evs_congr fun t ht => h t (.inr ht)]; exact hd
  all_goals (simp only [Does] at hd ⊢; rw [← aop_congr h]; exact hd)
theorem wantd_congr {g : Option (Nat × Bool)} {fr fr' : Frame} (h : ∀ t w, g = some (t, w) → fr.get t = fr'.get t) : wantd g fr = wantd g fr' := by
  cases g with
  | none => rfl
  | some p => obtain ⟨t, w⟩ := p; simp only [wantd, h t w rfl]

/-- a plain operation looks at no heap -/
theorem aop_pure {o : SOp} (hk : o.kind = .pure) {fr : Frame} {σ σ' : Heap} {v : AVal} (h : aop o fr σ = some (v, σ')) (τ : Heap) : σ' = σ ∧ aop o fr τ = some (v, τ) := by
  cases o <;> simp only [SOp.kind] at hk <;> try (cases hk; done)
  all_goals simp only [aop] at h ⊢
  all_goals first
    | (cases h; exact ⟨rfl, rfl⟩)
    | (simp only [Option.map_eq_some_iff] at h ⊢; obtain ⟨z, hz, h⟩ := h; cases h; exact ⟨rfl, _, hz, rfl⟩)
    | (split at h <;> first | (cases h; exact ⟨rfl, rfl⟩) | (cases h; done) | (simp only [Option.map_eq_some_iff] at h ⊢; obtain ⟨z, hz, h⟩ := h; cases h; exact ⟨rfl, _, hz, rfl⟩))
theorem aop_read {o : SOp} (hk : o.kind = .read) {fr : Frame} {σ σ' : Heap} {v : AVal} (h : aop o fr σ = some (v, σ')) : σ' = σ := by
  cases o <;> simp only [SOp.kind] at hk <;> try (cases hk; done)
  case lay =>
    simp only [aop] at h
    split at h
    · split at h
      · cases h; rfl
      · cases h
    · cases h
  case layB =>
    simp only [aop] at h
    split at h
    · split at h
      · split at h
        · cases h; rfl
        · cases h
      · cases h
    · cases h
  all_goals
    simp only [aop, Option.map_eq_some_iff] at h
    obtain ⟨z, hz, h⟩ := h; cases h; rfl

structure Ev where
  i : Nat
  o : SOp
  fr : Frame
  v : AVal
  σ : Heap

section
variable (P : Program)
def drawwp (tab : List Nat) : Nat → List SOper → List Ev → (Frame → Heap → Prop) → Frame → Heap → Prop
  | _, [], _, K, fr, σ => K fr σ
  | i, o :: os, past, K, fr, σ => match wantd o.guard fr with
    | none => False
    | some false => drawwp tab (i + 1) os past K (fr.putO o.dst .undef) σ
    | some true => match o.op.kind with
      | .pure => match aop o.op fr σ with
        | some (v, _) => drawwp tab (i + 1) os past K (fr.putO o.dst v) σ
        | none => False
      | .read => match aop o.op fr σ with
        | some (v, _) => (∀ e ∈ past, isEff e.o = true → bef tab i e.i = false → aop o.op fr e.σ = some (v, e.σ)) ∧
            drawwp tab (i + 1) os (⟨i, o.op, fr, v, σ⟩ :: past) K (fr.putO o.dst v) σ
        | none => False
      | .eff => opwp P o.op fr σ fun v σ' => (∀ e ∈ past, isEff e.o = false → bef tab i e.i = false → aop e.o e.fr σ' = some (e.v, σ')) ∧
          drawwp tab (i + 1) os (⟨i, o.op, fr, v, σ⟩ :: past) K (fr.putO o.dst v) σ'
end

/-- what each operation met -/
structure Met where
  fr : Frame
  σ : Heap
  w : Bool
  v : AVal
structure Trace (P : Program) (tab : List Nat) (i0 : Nat) (ops : List SOper) (T : Nat → Met) : Prop where
  wanted : ∀ i o, ops[i]? = some o → wantd o.guard (T i).fr = some (T i).w
  next : ∀ i o, ops[i]? = some o → (T (i + 1)).fr = (T i).fr.putO o.dst (T i).v
  skip : ∀ i o, ops[i]? = some o → (T i).w = false → (T i).v = .undef ∧ (T (i + 1)).σ = (T i).σ
  quiet : ∀ i o, ops[i]? = some o → (T i).w = true → isEff o.op = false → aop o.op (T i).fr (T i).σ = some ((T i).v, (T i).σ) ∧ (T (i + 1)).σ = (T i).σ
  loud : ∀ i o, ops[i]? = some o → (T i).w = true → isEff o.op = true → Does P o.op (T i).fr (T i).σ (T i).v (T (i + 1)).σ
  behind : ∀ i j x y, ops[i]? = some x → ops[j]? = some y → j < i → (T i).w = true → (T j).w = true → x.op.kind = .read → isEff y.op = true → bef tab (i0 + i) (i0 + j) = false → aop x.op (T i).fr (T j).σ = some ((T i).v, (T j).σ)
  ahead : ∀ i j x y, ops[i]? = some x → ops[j]? = some y → i < j → (T i).w = true → (T j).w = true → x.op.kind = .read → isEff y.op = true → bef tab (i0 + j) (i0 + i) = false → aop x.op (T i).fr (T (j + 1)).σ = some ((T i).v, (T (j + 1)).σ)

theorem isEff_kind {o : SOp} : isEff o = true ↔ o.kind = .eff := by
  unfold isEff; cases o.kind <;> simp

theorem trace_of {P : Program} {tab : List Nat} {K : Frame → Heap → Prop} : ∀ (ops : List SOper) (i0 : Nat) (past : List Ev) (fr : Frame) (σ : Heap), drawwp P tab i0 ops past K fr σ →
    ∃ T : Nat → Met, Trace P tab i0 ops T ∧ (T 0).fr = fr ∧ (T 0).σ = σ ∧ K (T ops.length).fr (T ops.length).σ ∧
      (∀ e ∈ past, isEff e.o = true → ∀ i x, ops[i]? = some x → (T i).w = true → x.op.kind = .read → bef tab (i0 + i) e.i = false → aop x.op (T i).fr e.σ = some ((T i).v, e.σ)) ∧
      (∀ e ∈ past, isEff e.o = false → ∀ i x, ops[i]? = some x → (T i).w = true → isEff x.op = true → bef tab (i0 + i) e.i = false → aop e.o e.fr (T (i + 1)).σ = some (e.v, (T (i + 1)).σ)) := by
  intro ops
  induction ops with
  | nil =>
    intro i0 past fr σ h
    exact ⟨fun _ => ⟨fr, σ, false, .undef⟩, ⟨by simp, by simp, by simp, by simp, by simp, by simp, by simp⟩, rfl, rfl, h, by simp, by simp⟩
  | cons o os ih =>
    intro i0 past fr σ h
    -- a step: what it gives, what is left, what is held of the past
    have step : ∀ (b : Bool) (v : AVal) (σ' : Heap) (past' : List Ev), wantd o.guard fr = some b → drawwp P tab (i0 + 1) os past' K (fr.putO o.dst v) σ' →
        (b = false → v = .undef ∧ σ' = σ) → (b = true → isEff o.op = false → aop o.op fr σ = some (v, σ) ∧ σ' = σ) → (b = true → isEff o.op = true → Does P o.op fr σ v σ') →
        (∀ e ∈ past, e ∈ past') → (b = true → o.op.kind ≠ .pure → (⟨i0, o.op, fr, v, σ⟩ : Ev) ∈ past') →
        (∀ e ∈ past, isEff e.o = true → b = true → o.op.kind = .read → bef tab i0 e.i = false → aop o.op fr e.σ = some (v, e.σ)) →
        (∀ e ∈ past, isEff e.o = false → b = true → isEff o.op = true → bef tab i0 e.i = false → aop e.o e.fr σ' = some (e.v, σ')) →
        ∃ T : Nat → Met, Trace P tab i0 (o :: os) T ∧ (T 0).fr = fr ∧ (T 0).σ = σ ∧ K (T (o :: os).length).fr (T (o :: os).length).σ ∧
          (∀ e ∈ past, isEff e.o = true → ∀ i x, (o :: os)[i]? = some x → (T i).w = true → x.op.kind = .read → bef tab (i0 + i) e.i = false → aop x.op (T i).fr e.σ = some ((T i).v, e.σ)) ∧
          (∀ e ∈ past, isEff e.o = false → ∀ i x, (o :: os)[i]? = some x → (T i).w = true → isEff x.op = true → bef tab (i0 + i) e.i = false → aop e.o e.fr (T (i + 1)).σ = some (e.v, (T (i + 1)).σ)) := by
      intro b v σ' past' hb hd hs hq hl hin hin' hpe hpr
      obtain ⟨T, hT, h1, h2, h3, h4, h5⟩ := ih (i0 + 1) past' _ _ hd
      have sh : ∀ i, i0 + 1 + i = i0 + (i + 1) := by intro i; omega
      refine ⟨fun i => match i with | 0 => ⟨fr, σ, b, v⟩ | i + 1 => T i, ⟨?_, ?_, ?_, ?_, ?_, ?_, ?_⟩, rfl, rfl, h3, ?_, ?_⟩
      · intro i x hx
        cases i with
        | zero => simp at hx; subst hx; exact hb
        | succ i => exact hT.wanted i x (by simpa using hx)
      · intro i x hx
        cases i with
        | zero => simp at hx; subst hx; exact h1
        | succ i => exact hT.next i x (by simpa using hx)
      · intro i x hx
        cases i with
        | zero => simp at hx; subst hx; intro hw; exact ⟨(hs hw).1, h2.trans (hs hw).2⟩
        | succ i => exact hT.skip i x (by simpa using hx)
      · intro i x hx
        cases i with
        | zero => simp at hx; subst hx; intro hw he; exact ⟨(hq hw he).1, h2.trans (hq hw he).2⟩
        | succ i => exact hT.quiet i x (by simpa using hx)
      · intro i x hx
        cases i with
        | zero => simp at hx; subst hx; intro hw he; have := hl hw he; show Does P _ _ _ _ (T 0).σ; rw [h2]; exact this
        | succ i => exact hT.loud i x (by simpa using hx)
      · intro i j x y hx hy hij hwi hwj hk he hbf
        cases i with
        | zero => omega
        | succ i =>
          have hx : os[i]? = some x := by simpa using hx
          cases j with
          | zero =>
            simp at hy; subst hy
            exact h4 ⟨i0, o.op, fr, v, σ⟩ (hin' hwj (by rw [isEff_kind.1 he]; intro h; cases h)) he i x hx hwi hk (by rw [sh]; exact hbf)
          | succ j => exact hT.behind i j x y hx (by simpa using hy) (by omega) hwi hwj hk he (by rw [sh, sh]; exact hbf)
      · intro i j x y hx hy hij hwi hwj hk he hbf
        cases j with
        | zero => omega
        | succ j =>
          have hy : os[j]? = some y := by simpa using hy
          cases i with
          | zero =>
            simp at hx; subst hx
            exact h5 ⟨i0, o.op, fr, v, σ⟩ (hin' hwi (by rw [hk]; intro h; cases h)) (by unfold isEff; rw [hk]) j y hy hwj he (by rw [sh]; exact hbf)
          | succ i => exact hT.ahead i j x y (by simpa using hx) hy (by omega) hwi hwj hk he (by rw [sh, sh]; exact hbf)
      · intro e he hee i x hx hw hk hbf
        cases i with
        | zero => simp at hx; subst hx; exact hpe e he hee hw hk hbf
        | succ i => exact h4 e (hin e he) hee i x (by simpa using hx) hw hk (by rw [sh]; exact hbf)
      · intro e he hee i x hx hw hk hbf
        cases i with
        | zero => simp at hx; subst hx; show aop e.o e.fr (T 0).σ = some (e.v, (T 0).σ); rw [h2]; exact hpr e he hee hw hk hbf
        | succ i => exact h5 e (hin e he) hee i x (by simpa using hx) hw hk (by rw [sh]; exact hbf)
    simp only [drawwp] at h
    split at h
    · cases h
    · rename_i hw
      exact step false .undef σ past hw h (fun _ => ⟨rfl, rfl⟩) (fun h => by cases h) (fun h => by cases h) (fun e he => he) (fun h => by cases h) (fun _ _ _ h => by cases h) (fun _ _ _ h => by cases h)
    · rename_i hw
      split at h
      · rename_i hk
        have hne : isEff o.op = false := by unfold isEff; rw [hk]
        split at h
        · rename_i v σ' ha
          have := aop_pure hk ha σ
          exact step true v σ past hw h (fun h => by cases h) (fun _ _ => ⟨this.2, rfl⟩) (fun _ h => by rw [hne] at h; cases h) (fun e he => he) (fun _ h => absurd hk h)
            (fun _ _ _ _ h => by rw [hk] at h; cases h) (fun _ _ _ _ h => by rw [hne] at h; cases h)
        · cases h
      · rename_i hk
        have hne : isEff o.op = false := by unfold isEff; rw [hk]
        split at h
        · rename_i v σ' ha
          have hσ := aop_read hk ha
          subst hσ
          exact step true v σ' _ hw h.2 (fun h => by cases h) (fun _ _ => ⟨ha, rfl⟩) (fun _ h => by rw [hne] at h; cases h) (fun e he => List.mem_cons_of_mem _ he) (fun _ _ => List.mem_cons_self ..)
            (fun e he hee _ _ hbf => h.1 e he hee hbf) (fun _ _ _ _ h => by rw [hne] at h; cases h)
        · cases h
      · rename_i hk
        have hne : isEff o.op = true := isEff_kind.2 hk
        obtain ⟨v, σ', hd, h1, h2⟩ := opwp_does h
        exact step true v σ' _ hw h2 (fun h => by cases h) (fun _ h => by rw [hne] at h; cases h) (fun _ _ => hd) (fun e he => List.mem_cons_of_mem _ he) (fun _ _ => List.mem_cons_self ..)
          (fun _ _ _ _ h => by rw [hk] at h; cases h) (fun e he hee _ _ hbf => h1 e he hee hbf)
end Go.Mini
set_option linter.unusedVariables false
set_option linter.unusedSimpArgs false
namespace Go.Mini
open Go

section
variable {P : Program} {n : Nat}

theorem cOpers_get {ops : Array Oper} : ∀ {l : List Oper} {r : List SOper}, cOpers P n ops l = some r → l.length = r.length ∧ ∀ (i : Nat) (o : Oper) (so : SOper), l[i]? = some o → r[i]? = some so → cOper P n ops o = some so
  | [], r, h => by cases h; exact ⟨rfl, by simp⟩
  | o :: l, r, h => by
    simp only [cOpers] at h
    split at h
    · rename_i a q h1 h2
      cases h
      obtain ⟨e, g⟩ := cOpers_get h2
      refine ⟨by simp [e], ?_⟩
      intro i x y hx hy
      cases i with
      | zero => simp at hx hy; subst hx; subst hy; exact h1
      | succ i => exact g i x y (by simpa using hx) (by simpa using hy)
    · cases h

/-- a set that holds with each what is surely ahead of it -/
def Closed (sops : List SOper) (S : Nat → Prop) : Prop := ∀ (i : Nat) (so : SOper), sops[i]? = some so → S i → ∀ k ∈ so.after, S k
def Leads (sops : List SOper) (i j : Nat) : Prop := ∀ S, Closed sops S → (∀ so, sops[i]? = some so → ∀ k ∈ so.after, S k) → S j

theorem ancs_leads (sops : List SOper) : ∀ (os : List SOper) (acc : List Nat), (∀ k : Nat, os[k]? = sops[acc.length + k]?) → (∀ i j, (acc.getD i 0).testBit j = true → Leads sops i j) →
    ∀ i j, ((ancsFrom acc os).getD i 0).testBit j = true → Leads sops i j := by
  intro os
  induction os with
  | nil => intro acc _ h; exact h
  | cons o os ih =>
    intro acc hs h
    simp only [ancsFrom]
    have h0 : sops[acc.length]? = some o := by have := hs 0; simpa using this.symm
    refine ih _ ?_ ?_
    · intro k
      have := hs (k + 1)
      simp only [List.getElem?_cons_succ] at this
      rw [this]; simp only [List.length_append, List.length_cons, List.length_nil]
      congr 1; omega
    · intro i j hj
      by_cases hi : i < acc.length
      · have : (acc ++ [ancOf acc o.after]).getD i 0 = acc.getD i 0 := by
          simp [List.getD_eq_getElem?_getD, List.getElem?_append_left hi]
        rw [this] at hj; exact h i j hj
      · by_cases hi2 : i = acc.length
        · subst hi2
          have : (acc ++ [ancOf acc o.after]).getD acc.length 0 = ancOf acc o.after := by
            simp [List.getD_eq_getElem?_getD]
          rw [this] at hj
          intro S hS ha
          rcases ancOf_bit acc o.after 0 j hj with hj | ⟨k, hk, rfl | hj⟩
          · simp at hj
          · exact ha o h0 k hk
          · have hSk := ha o h0 k hk
            exact h k j hj S hS (fun so hso q hq => hS k so hso hSk q hq)
        · have : (acc ++ [ancOf acc o.after]).getD i 0 = 0 := by
            rw [List.getD_eq_getElem?_getD, List.getElem?_eq_none (by simp; omega)]; rfl
          rw [this] at hj; simp at hj
theorem bef_leads {sops : List SOper} {i j : Nat} (h : bef (ancs sops) i j = true) : Leads sops i j := by
  refine ancs_leads sops sops [] (by simp) (by simp) i j ?_
  simpa [bef, ancs] using h

theorem drawOkFrom_pair {tab : List Nat} : ∀ (os past : List SOper) (k : Nat), drawOkFrom tab k past os = true → past.length = k →
    ∀ i j x y, j < i → k ≤ i → (past ++ os)[i]? = some x → (past ++ os)[j]? = some y → pairOk tab i j x y = true := by
  intro os
  induction os with
  | nil =>
    intro past k h hk i j x y hji hki hx hy
    rw [List.append_nil, List.getElem?_eq_none (by omega)] at hx; cases hx
  | cons o os ih =>
    intro past k h hk i j x y hji hki hx hy
    simp only [drawOkFrom, Bool.and_eq_true] at h
    by_cases hik : i = k
    · subst hik
      rw [List.getElem?_append_right (by omega), hk] at hx
      simp at hx
      subst hx
      rw [List.getElem?_append_left (by omega)] at hy
      have := h.1.2
      rw [List.all_eq_true] at this
      refine this (y, j) ?_
      rw [List.mem_zipIdx_iff_getElem?]
      exact hy
    · refine ih (past ++ [o]) (k + 1) h.2 (by simp [hk]) i j x y hji (by omega) (by simpa using hx) (by simpa using hy)
theorem drawOkFrom_after {tab : List Nat} : ∀ (os past : List SOper) (k : Nat), drawOkFrom tab k past os = true → ∀ i x, os[i]? = some x → ∀ j ∈ x.after, j < k + i := by
  intro os
  induction os with
  | nil => intro past k h i x hx; simp at hx
  | cons o os ih =>
    intro past k h i x hx j hj
    simp only [drawOkFrom, Bool.and_eq_true] at h
    cases i with
    | zero =>
      simp at hx; subst hx
      have := h.1.1
      rw [List.all_eq_true] at this
      simpa using this j hj
    | succ i =>
      have := ih _ _ h.2 i x (by simpa using hx) j hj
      omega

theorem exists_frame {C : Nat → AVal → Prop} : ∀ n : Nat, (∀ t, t < n → ∃ x, C t x) → ∃ fr : Frame, ∀ t, t < n → C t (fr.get t)
  | 0, _ => ⟨.nil, by intro t h; omega⟩
  | n + 1, h => by
    obtain ⟨fr, hfr⟩ := exists_frame n (fun t ht => h t (by omega))
    obtain ⟨x, hx⟩ := h n (by omega)
    refine ⟨fr.put n x, ?_⟩
    intro t ht
    rw [Frame.get_put]
    by_cases e : n = t
    · subst e; rw [if_pos rfl]; exact hx
    · rw [if_neg e]; exact hfr t (by omega)

/-! what the slots hold -/
def Cur (sops : List SOper) (T : Nat → Met) (fr : Frame) (L : Nat → Prop) (t : Nat) (x : AVal) : Prop :=
  (∃ (j : Nat) (y : SOper), sops[j]? = some y ∧ y.dst = some t ∧ L j ∧ x = (T j).v ∧ ∀ (k : Nat) (z : SOper), j < k → sops[k]? = some z → z.dst = some t → ¬ L k) ∨
  (x = fr.get t ∧ ∀ (k : Nat) (z : SOper), sops[k]? = some z → z.dst = some t → ¬ L k)

theorem get_putO (fr : Frame) (d : Option Nat) (v : AVal) (t : Nat) : (fr.putO d v).get t = if d = some t then v else fr.get t := by
  cases d with
  | none => simp [Frame.putO]
  | some s => simp only [Frame.putO, Frame.get_put, Option.some.injEq]

theorem fr_last {tab : List Nat} {sops : List SOper} {T : Nat → Met} (hT : Trace P tab 0 sops T) (t : Nat) : ∀ i, i ≤ sops.length →
    (∃ (j : Nat) (y : SOper), j < i ∧ sops[j]? = some y ∧ y.dst = some t ∧ (T i).fr.get t = (T j).v ∧ ∀ (k : Nat) (z : SOper), j < k → k < i → sops[k]? = some z → z.dst ≠ some t) ∨
    ((T i).fr.get t = (T 0).fr.get t ∧ ∀ (k : Nat) (z : SOper), k < i → sops[k]? = some z → z.dst ≠ some t) := by
  intro i
  induction i with
  | zero => intro _; exact .inr ⟨rfl, by intro k z h; omega⟩
  | succ i ih =>
    intro hi
    have hlt : i < sops.length := by omega
    have ho : sops[i]? = some sops[i] := List.getElem?_eq_getElem hlt
    have hn := hT.next i _ ho
    by_cases hd : sops[i].dst = some t
    · refine .inl ⟨i, sops[i], by omega, ho, hd, ?_, by intro k z h1 h2; omega⟩
      rw [hn, get_putO, if_pos hd]
    · rw [hn, get_putO, if_neg hd]
      rcases ih (by omega) with ⟨j, y, h1, h2, h3, h4, h5⟩ | ⟨h1, h2⟩
      · refine .inl ⟨j, y, by omega, h2, h3, h4, ?_⟩
        intro k z hk1 hk2 hz
        by_cases e : k = i
        · subst e; rw [ho] at hz; cases hz; exact hd
        · exact h5 k z hk1 (by omega) hz
      · refine .inr ⟨h1, ?_⟩
        intro k z hk hz
        by_cases e : k = i
        · subst e; rw [ho] at hz; cases hz; exact hd
        · exact h2 k z (by omega) hz

theorem cur_last {tab : List Nat} {sops : List SOper} {T : Nat → Met} (hT : Trace P tab 0 sops T) {L : Nat → Prop} {t i : Nat} (hi : i ≤ sops.length)
    (hL : ∀ (k : Nat) (z : SOper), sops[k]? = some z → z.dst = some t → (L k ↔ k < i)) {x : AVal} (hc : Cur sops T (T 0).fr L t x) : x = (T i).fr.get t := by
  rcases hc with ⟨j, y, h1, h2, h3, h4, h5⟩ | ⟨h1, h2⟩
  · have hj := (hL j y h1 h2).1 h3
    rcases fr_last hT t i hi with ⟨j', y', g1, g2, g3, g4, g5⟩ | ⟨g1, g2⟩
    · have : j = j' := by
        rcases Nat.lt_trichotomy j j' with h | h | h
        · exact absurd ((hL j' y' g2 g3).2 g1) (h5 j' y' h g2 g3)
        · exact h
        · exact absurd h2 (g5 j y h hj h1)
      subst this
      rw [h4, g4]
    · exact absurd h2 (g2 j y hj h1)
  · rcases fr_last hT t i hi with ⟨j', y', g1, g2, g3, g4, g5⟩ | ⟨g1, g2⟩
    · exact absurd ((hL j' y' g2 g3).2 g1) (h2 j' y' g2 g3)
    · rw [h1, g1]

/-- no effect between two places: the same heap -/
theorem heap_same {tab : List Nat} {sops : List SOper} {T : Nat → Met} (hT : Trace P tab 0 sops T) {i : Nat} : ∀ j, i ≤ j → j ≤ sops.length →
    (∀ (k : Nat) (z : SOper), i ≤ k → k < j → sops[k]? = some z → (T k).w = true → isEff z.op = false) → (T j).σ = (T i).σ := by
  intro j
  induction j with
  | zero => intro h1 _ _; have : i = 0 := by omega
            subst this; rfl
  | succ j ih =>
    intro h1 h2 h
    by_cases e : i = j + 1
    · subst e; rfl
    · have hlt : j < sops.length := by omega
      have ho : sops[j]? = some sops[j] := List.getElem?_eq_getElem hlt
      rw [← ih (by omega) (by omega) (fun k z a b c d => h k z a (by omega) c d)]
      cases hw : (T j).w with
      | false => exact (hT.skip j _ ho hw).2
      | true => exact (hT.quiet j _ ho hw (h j _ (by omega) (by omega) ho hw)).2
theorem first_eff (sops : List SOper) (T : Nat → Met) (i : Nat) : ∀ j, i ≤ j → (∀ (k : Nat) (z : SOper), i ≤ k → k < j → sops[k]? = some z → (T k).w = true → isEff z.op = false) ∨
    ∃ (k : Nat) (z : SOper), i ≤ k ∧ k < j ∧ sops[k]? = some z ∧ (T k).w = true ∧ isEff z.op = true ∧ ∀ (q : Nat) (z' : SOper), i ≤ q → q < k → sops[q]? = some z' → (T q).w = true → isEff z'.op = false := by
  intro j
  induction j with
  | zero => intro _; exact .inl (by intro k z h1 h2; omega)
  | succ j ih =>
    intro h
    by_cases e : i = j + 1
    · subst e; exact .inl (by intro k z h1 h2; omega)
    · rcases ih (by omega) with h1 | ⟨k, z, h1, h2, h3, h4, h5, h6⟩
      · by_cases hj : ∃ z, sops[j]? = some z ∧ (T j).w = true ∧ isEff z.op = true
        · obtain ⟨z, g1, g2, g3⟩ := hj
          exact .inr ⟨j, z, by omega, by omega, g1, g2, g3, fun q z' a b c d => h1 q z' a b c d⟩
        · refine .inl ?_
          intro k z a b c d
          by_cases ek : k = j
          · subst ek
            cases he : isEff z.op with
            | false => rfl
            | true => exact absurd ⟨z, c, d, he⟩ hj
          · exact h1 k z a (by omega) c d
      · exact .inr ⟨k, z, h1, by omega, h3, h4, h5, h6⟩
theorem last_eff (sops : List SOper) (T : Nat → Met) (i : Nat) : ∀ j, i ≤ j → (∀ (k : Nat) (z : SOper), i ≤ k → k < j → sops[k]? = some z → (T k).w = true → isEff z.op = false) ∨
    ∃ (k : Nat) (z : SOper), i ≤ k ∧ k < j ∧ sops[k]? = some z ∧ (T k).w = true ∧ isEff z.op = true ∧ ∀ (q : Nat) (z' : SOper), k < q → q < j → sops[q]? = some z' → (T q).w = true → isEff z'.op = false := by
  intro j
  induction j with
  | zero => intro _; exact .inl (by intro k z h1 h2; omega)
  | succ j ih =>
    intro h
    by_cases e : i = j + 1
    · subst e; exact .inl (by intro k z h1 h2; omega)
    · by_cases hj : ∃ z, sops[j]? = some z ∧ (T j).w = true ∧ isEff z.op = true
      · obtain ⟨z, g1, g2, g3⟩ := hj
        exact .inr ⟨j, z, by omega, by omega, g1, g2, g3, by intro q z' a b; omega⟩
      · have hj' : ∀ z, sops[j]? = some z → (T j).w = true → isEff z.op = false := by
          intro z c d
          cases he : isEff z.op with
          | false => rfl
          | true => exact absurd ⟨z, c, d, he⟩ hj
        rcases ih (by omega) with h1 | ⟨k, z, h1, h2, h3, h4, h5, h6⟩
        · refine .inl ?_
          intro k z a b c d
          by_cases ek : k = j
          · subst ek; exact hj' z c d
          · exact h1 k z a (by omega) c d
        · refine .inr ⟨k, z, h1, by omega, h3, h4, h5, ?_⟩
          intro q z' a b c d
          by_cases ek : q = j
          · subst ek; exact hj' z' c d
          · exact h6 q z' a (by omega) c d
end
end Go.Mini
set_option linter.unusedVariables false
set_option linter.unusedSimpArgs false
namespace Go.Mini
open Go

/-- the ids that are still kept free -/
def Owed (R0 : Nat → Prop) (sops : List SOper) (T : Nat → Met) (listed : Array Bool) (k : Nat) : Prop :=
  R0 k ∨ ∃ (i : Nat) (so : SOper), sops[i]? = some so ∧ IsLay so.op k ∧ (T i).w = true ∧ listed.getD i false = false
/-- the real operations, and those that are run in their place -/
def Like (l sops : List SOper) : Prop := l.length = sops.length ∧ ∀ (i : Nat) (so : SOper), sops[i]? = some so → ∃ y, l[i]? = some y ∧ (so = y ∨ ∃ k op', LayOf y.op op' k ∧ so = { y with op := op' })
theorem like_refl (l : List SOper) : Like l l := ⟨rfl, fun i so h => ⟨so, h, .inl rfl⟩⟩

/-- what holds while a drawn region runs -/
structure Inv (n : Nat) (sops : List SOper) (T : Nat → Met) (φ0 : Phi) (listed : Array Bool) (a : Act) (w : World) : Prop where
  size : listed.size = sops.length
  closed : Closed sops fun i => listed.getD i false = true
  tsize : a.tmps.size = n
  defers : a.defers = []
  run : ∃ (m : Nat) (φ : Phi), φ0.sub φ ∧ (∀ k, φ.res k ↔ Owed φ0.res sops T listed k) ∧ Rel φ (T m).σ w ∧ m ≤ sops.length ∧ (∀ (i : Nat) (z : SOper), sops[i]? = some z → (T i).w = true → isEff z.op = true → (listed.getD i false = true ↔ i < m)) ∧
    ∀ t, t < n → ∃ x, Cur sops T (T 0).fr (fun i => listed.getD i false = true) t x ∧ VR φ x (a.tmps.getD t Go.undef)

theorem getD_false_true {listed : Array Bool} {i : Nat} (h : listed.getD i true = false) : i < listed.size ∧ listed.getD i false = false := by
  by_cases hi : i < listed.size
  · refine ⟨hi, ?_⟩
    simp [Array.getD_eq_getD_getElem?, hi] at h ⊢
    exact h
  · simp [Array.getD_eq_getD_getElem?, hi] at h

def left (listed : Array Bool) : Nat := listed.toList.countP (fun b => !b)
theorem left_set {listed : Array Bool} {i : Nat} (h : i < listed.size) (hf : listed.getD i false = false) : left (listed.setIfInBounds i true) + 1 = left listed := by
  unfold left
  have hi : i < listed.toList.length := by simpa using h
  have e1 : (listed.setIfInBounds i true).toList = listed.toList.set i true := by simp
  have hv : listed.toList[i] = false := by
    simp [Array.getD_eq_getD_getElem?, h] at hf
    simpa using hf
  rw [e1, List.set_eq_take_append_cons_drop, if_pos hi]
  have e2 : listed.toList = listed.toList.take i ++ listed.toList[i] :: listed.toList.drop (i + 1) := by
    rw [← List.drop_eq_getElem_cons hi, List.take_append_drop]
  conv => rhs; rw [e2]
  simp [List.countP_append, List.countP_cons, hv]
  omega
theorem left_zero {listed : Array Bool} (h : left listed = 0) (i : Nat) (hi : i < listed.size) : listed.getD i false = true := by
  unfold left at h
  rw [List.countP_eq_zero] at h
  have := h listed[i] (by simp)
  simp [Array.getD_eq_getD_getElem?, hi]
  simpa using this

section
variable {P : Program} {n : Nat} {ops : Array Oper} {sops : List SOper} {T : Nat → Met} {φ0 : Phi} {Q : Exit → Act → World → Prop}

theorem sim {l0 : List SOper} (hc : cOpers P n ops ops.toList = some l0) (hlk : Like l0 sops)
    (hone : ∀ (i j : Nat) (x y : SOper) (k : Nat), sops[i]? = some x → sops[j]? = some y → IsLay x.op k → IsLay y.op k → i = j)
    (hfree : ∀ (i : Nat) (x : SOper) (k : Nat), sops[i]? = some x → IsLay x.op k → ¬ φ0.res k) (hd : drawOk sops = true) (hl : sops.all (fun o => o.looks.all (· < n)) = true) (hT : Trace P (ancs sops) 0 sops T)
    (hQ : ∀ φ a w, φ0.le φ → FR φ n (T sops.length).fr a → Rel φ (T sops.length).σ w → Q .normal a w) :
    ∀ (fuel : Nat) (listed : Array Bool) (a : Act) (w : World), Inv n sops T φ0 listed a w → left listed ≤ fuel → wpAny P .any ops Q fuel listed a w := by
  obtain ⟨hlen, hget0⟩ := cOpers_get hc
  have hN : ops.size = sops.length := by rw [← hlk.1]; simpa using hlen
  have hget : ∀ (i : Nat) (o : Oper) (so : SOper), ops.toList[i]? = some o → sops[i]? = some so → ∃ y, cOper P n ops o = some y ∧ (so = y ∨ ∃ k op', LayOf y.op op' k ∧ so = { y with op := op' }) := by
    intro i o so ho hso
    obtain ⟨y, hy, hys⟩ := hlk.2 i so hso
    exact ⟨y, hget0 i o y ho hy, hys⟩
  have hpair : ∀ (i j : Nat) (x y : SOper), j < i → sops[i]? = some x → sops[j]? = some y → pairOk (ancs sops) i j x y = true := by
    intro i j x y hji hx hy
    exact drawOkFrom_pair sops [] 0 hd rfl i j x y hji (by omega) (by simpa using hx) (by simpa using hy)
  have hafter : ∀ (i : Nat) (x : SOper), sops[i]? = some x → ∀ j ∈ x.after, j < i := by
    intro i x hx j hj
    have := drawOkFrom_after sops [] 0 hd i x hx j hj
    omega
  have hlooks : ∀ (i : Nat) (x : SOper), sops[i]? = some x → ∀ t ∈ x.looks, t < n := by
    intro i x hx t ht
    rw [List.all_eq_true] at hl
    have := hl x (List.mem_of_getElem? hx)
    rw [List.all_eq_true] at this
    simpa using this t ht
  -- when all is listed
  have done : ∀ listed a w, Inv n sops T φ0 listed a w → (∀ i, i < sops.length → listed.getD i false = true) → Q .normal a w := by
    intro listed a w hI hall
    obtain ⟨m, φ, hsub, hres, hr, hm, heff, hcur⟩ := hI.run
    have hle : φ0.le φ := ⟨hsub, by
      funext k
      refine propext ⟨fun h => ?_, fun h => (hres k).2 (.inl h)⟩
      rcases (hres k).1 h with h | ⟨i, so, h1, _, _, h4⟩
      · exact h
      · rw [hall i (List.getElem?_eq_some_iff.1 h1).1] at h4; cases h4⟩
    have hσ : (T sops.length).σ = (T m).σ := heap_same hT _ hm (Nat.le_refl _) (by
      intro k z h1 h2 hz hw
      cases he : isEff z.op with
      | false => rfl
      | true => have := (heff k z hz hw he).1 (hall k h2); omega)
    refine hQ φ a w hle ⟨hI.tsize, ?_, hI.defers⟩ (by rw [hσ]; exact hr)
    intro t ht
    obtain ⟨x, hx, hv⟩ := hcur t ht
    have : x = (T sops.length).fr.get t := cur_last hT (Nat.le_refl _) (by
      intro k z hz _
      have hk := (List.getElem?_eq_some_iff.1 hz).1
      exact ⟨fun _ => hk, fun _ => hall k hk⟩) hx
    rw [← this]; exact hv
  intro fuel
  induction fuel with
  | zero =>
    intro listed a w hI hf
    have hall : ∀ i, i < sops.length → listed.getD i false = true := fun i hi => left_zero (by omega) i (by rw [hI.size]; exact hi)
    refine ⟨?_, done listed a w hI hall⟩
    cases hrd : Region.ready .any ops listed with
    | nil => rfl
    | cons i l =>
      have hm : i ∈ Region.ready .any ops listed := by rw [hrd]; exact List.mem_cons_self ..
      obtain ⟨hun, o, ho, _⟩ := mem_ready.1 hm
      obtain ⟨h1, h2⟩ := getD_false_true hun
      rw [hall i (by rw [← hI.size]; exact h1)] at h2; cases h2
  | succ fuel ih =>
    intro listed a w hI hf
    refine ⟨?_, ?_⟩
    · -- nothing is ready: all is listed
      intro hrd
      refine done listed a w hI ?_
      intro i
      induction i using Nat.strongRecOn with
      | _ i ihi =>
        intro hi
        cases hb : listed.getD i false with
        | true => rfl
        | false =>
          exfalso
          have hi' : i < ops.size := by rw [hN]; exact hi
          have hio : ops[i]? = some ops[i] := Array.getElem?_eq_getElem hi'
          have hso : sops[i]? = some sops[i] := List.getElem?_eq_getElem hi
          obtain ⟨y, hco, hy⟩ := hget i ops[i] sops[i] (by simp) hso
          obtain ⟨_, _, _, haf0, _⟩ := cOper_ok hco
          have haf : sops[i].after = _ := (show sops[i].after = y.after by rcases hy with h | ⟨_, _, _, h⟩ <;> rw [h]).trans haf0
          have hmem : i ∈ Region.ready .any ops listed := by
            rw [mem_ready]
            refine ⟨?_, ops[i], hio, ?_⟩
            · have : i < listed.size := by rw [hI.size]; exact hi
              simp [Array.getD_eq_getD_getElem?, this] at hb ⊢; exact hb
            · intro e he hbd
              have hk : e.on ∈ sops[i].after := by
                rw [haf, List.mem_map]
                exact ⟨e, by rw [List.mem_filter]; exact ⟨by simpa using he, hbd⟩, rfl⟩
              have := hafter i _ hso _ hk
              exact ihi e.on this (by omega)
          rw [hrd] at hmem; cases hmem
    · intro i hi
      obtain ⟨hun, o, ho, hedges⟩ := mem_ready.1 hi
      obtain ⟨hil, hif⟩ := getD_false_true hun
      have hiN : i < sops.length := by rw [← hI.size]; exact hil
      obtain ⟨so, hso⟩ : ∃ so, sops[i]? = some so := ⟨_, List.getElem?_eq_getElem hiN⟩
      obtain ⟨y, hco, hy⟩ := hget i o so (by simpa using ho) hso
      obtain ⟨hop, hdst0, hdlt, haf0, _⟩ := cOper_ok hco
      have hdst : so.dst = o.dst := (show so.dst = y.dst by rcases hy with h | ⟨_, _, _, h⟩ <;> rw [h]).trans hdst0
      have haf : so.after = _ := (show so.after = y.after by rcases hy with h | ⟨_, _, _, h⟩ <;> rw [h]).trans haf0
      have hgd : so.guard = y.guard := by rcases hy with h | ⟨_, _, _, h⟩ <;> rw [h]
      have hready : ∀ k ∈ so.after, listed.getD k false = true := by
        intro k hk
        rw [haf, List.mem_map] at hk
        obtain ⟨e, he, rfl⟩ := hk
        rw [List.mem_filter] at he
        exact hedges e (by simpa using he.1) he.2
      have hnl : ¬ listed.getD i false = true := by rw [hif]; simp
      -- what is surely ahead of i is listed; what i is surely ahead of isn't
      have hbef : ∀ k, bef (ancs sops) i k = true → listed.getD k false = true := fun k hk =>
        bef_leads hk _ hI.closed (fun so' hso' => by rw [hso] at hso'; cases hso'; exact hready)
      have haft : ∀ k y, sops[k]? = some y → bef (ancs sops) k i = true → ¬ listed.getD k false = true := fun k y hy hk hL =>
        hnl (bef_leads hk _ hI.closed (fun so' hso' => by rw [hy] at hso'; cases hso'; exact hI.closed k y hy hL))
      -- the writers of a slot that i looks at, or writes
      have hwr : ∀ t, (t ∈ so.looks ∨ so.dst = some t) → ∀ (k : Nat) (z : SOper), sops[k]? = some z → z.dst = some t → (listed.getD k false = true ↔ k < i) := by
        intro t ht k z hz hzt
        rcases Nat.lt_trichotomy k i with h | h | h
        · refine ⟨fun _ => h, fun _ => hbef k ?_⟩
          have hp := hpair i k so z h hso hz
          unfold pairOk at hp
          have : meet z.dst (so.looks ++ so.dst.toList) = true := by
            rw [hzt]; simp only [meet, List.contains_eq_mem, List.mem_append, decide_eq_true_eq]
            rcases ht with ht | ht
            · exact .inl ht
            · exact .inr (by rw [ht]; simp)
          rw [this] at hp
          simpa using hp
        · subst h
          exact ⟨fun h => absurd h hnl, fun h => by omega⟩
        · refine ⟨fun hL => absurd hL (haft k z hz ?_), fun h' => by omega⟩
          have hp := hpair k i z so h hz hso
          unfold pairOk at hp
          have : (meet so.dst (z.looks ++ z.dst.toList) || meet z.dst so.looks) = true := by
            rcases ht with ht | ht
            · rw [hzt]; simp [meet, ht]
            · rw [ht, hzt]; simp [meet]
          rw [Bool.or_eq_true] at this
          rcases this with h1 | h1 <;> rw [h1] at hp <;> simpa using hp
      obtain ⟨m, φ, hle, hres, hr, hm, heff, hcur⟩ := hI.run
      -- a frame that is like the real one
      obtain ⟨fr', hfr'⟩ := exists_frame (C := fun t x => Cur sops T (T 0).fr (fun i => listed.getD i false = true) t x ∧ VR φ x (a.tmps.getD t Go.undef)) n hcur
      have hsame : ∀ t ∈ so.looks, (T i).fr.get t = fr'.get t := by
        intro t ht
        exact (cur_last hT (by omega) (hwr t (.inl ht)) (hfr' t (hlooks i so hso t ht)).1).symm
      have hFR : FR φ n fr' a := ⟨hI.tsize, fun t ht => (hfr' t ht).2, hI.defers⟩
      have hwd := hT.wanted i so hso
      have hwd' : wantd so.guard fr' = some (T i).w := by
        rw [← hwd]; symm
        refine wantd_congr fun t b hg => hsame t ?_
        unfold SOper.looks; rw [hg]; simp
      have hreal := wantd_ok (φ := φ) (a := a) hco (by rw [← hgd]; exact hwd') hI.tsize (fun t b hg => (hfr' t (hlooks i so hso t (by unfold SOper.looks; rw [hgd, hg]; simp))).2)
      -- behind the step
      have after : ∀ (φ' : Phi) (v' : Value) (w' : World) (m' : Nat), φ.sub φ' → (∀ k, φ'.res k ↔ Owed φ0.res sops T (listed.setIfInBounds i true) k) → VR φ' (T i).v v' → Rel φ' (T m').σ w' → m' ≤ sops.length →
          (∀ (k : Nat) (z : SOper), sops[k]? = some z → (T k).w = true → isEff z.op = true → ((listed.setIfInBounds i true).getD k false = true ↔ k < m')) →
          wpAny P .any ops Q fuel (listed.setIfInBounds i true) (a.put o.dst v') w' := by
        intro φ' v' w' m' hle' hres' hv hr' hm' heff'
        have hset : ∀ k, (listed.setIfInBounds i true).getD k false = true ↔ (k = i ∨ listed.getD k false = true) := by
          intro k
          by_cases e : i = k
          · subst e; simp [hil]
          · rw [getD_set_ne false e]; constructor
            · exact .inr
            · rintro (h | h)
              · exact absurd h.symm e
              · exact h
        refine ih _ _ _ ⟨by simpa using hI.size, ?_, ?_, ?_, m', φ', Phi.sub_trans hle hle', hres', hr', hm', heff', ?_⟩ (by have := left_set hil hif; omega)
        · intro k z hz hk q hq
          rw [hset] at hk ⊢
          rcases hk with rfl | hk
          · rw [hso] at hz; cases hz
            exact .inr (hready q hq)
          · exact .inr (hI.closed k z hz hk q hq)
        · cases hod : o.dst <;> simp [Act.put, hI.tsize]
        · cases hod : o.dst <;> simp [Act.put, hI.defers]
        · intro t ht
          by_cases e : so.dst = some t
          · refine ⟨(T i).v, .inl ⟨i, so, hso, e, (hset i).2 (.inl rfl), rfl, ?_⟩, ?_⟩
            · intro k z hk hz hzt hL
              rw [hset] at hL
              rcases hL with h | h
              · omega
              · have := (hwr t (.inr e) k z hz hzt).1 h; omega
            · rw [← hdst, e]
              have htt : t < a.tmps.size := by rw [hI.tsize]; exact ht
              simpa [Act.put, Array.getD_eq_getD_getElem?, htt] using hv
          · obtain ⟨x, hx, hvx⟩ := hcur t ht
            refine ⟨x, ?_, ?_⟩
            · rcases hx with ⟨j, y, h1, h2, h3, h4, h5⟩ | ⟨h1, h2⟩
              · refine .inl ⟨j, y, h1, h2, (hset j).2 (.inr h3), h4, ?_⟩
                intro k z hk hz hzt hL
                rw [hset] at hL
                rcases hL with rfl | h
                · rw [hso] at hz; cases hz; exact e hzt
                · exact h5 k z hk hz hzt h
              · refine .inr ⟨h1, ?_⟩
                intro k z hz hzt hL
                rw [hset] at hL
                rcases hL with rfl | h
                · rw [hso] at hz; cases hz; exact e hzt
                · exact h2 k z hz hzt h
            · have : (a.put o.dst v').tmps.getD t Go.undef = a.tmps.getD t Go.undef := by
                rw [← hdst]
                cases hod : so.dst with
                | none => rfl
                | some d =>
                  have : d ≠ t := by intro h; rw [hod, h] at e; exact e rfl
                  simp [Act.put, Array.getD_eq_getD_getElem?, Array.getElem?_setIfInBounds_ne this]
              rw [this]; exact hvx.mono0 hle'
      have heff_keep : isEff so.op = false ∨ (T i).w = false → ∀ (k : Nat) (z : SOper), sops[k]? = some z → (T k).w = true → isEff z.op = true → ((listed.setIfInBounds i true).getD k false = true ↔ k < m) := by
        intro hor k z hz hw he
        have hne : i ≠ k := by
          intro h; subst h
          rw [hso] at hz; cases hz
          rcases hor with h | h
          · rw [h] at he; cases he
          · rw [h] at hw; cases hw
        rw [getD_set_ne false hne]; exact heff k z hz hw he
      have hres_keep : ((∀ k, ¬ IsLay so.op k) ∨ (T i).w = false) → ∀ k, φ.res k ↔ Owed φ0.res sops T (listed.setIfInBounds i true) k := by
        intro hor k
        rw [hres k]
        refine or_congr Iff.rfl ⟨fun ⟨j, z, h1, h2, h3, h4⟩ => ?_, fun ⟨j, z, h1, h2, h3, h4⟩ => ?_⟩
        · have hij : i ≠ j := by
            intro e; subst e
            rw [hso] at h1; cases h1
            rcases hor with h | h
            · exact h _ h2
            · rw [h] at h3; cases h3
          exact ⟨j, z, h1, h2, h3, by rw [getD_set_ne false hij]; exact h4⟩
        · have hij : i ≠ j := by
            intro e; subst e
            simp [hil] at h4
          exact ⟨j, z, h1, h2, h3, by rw [getD_set_ne false hij] at h4; exact h4⟩
      unfold wpOp
      simp only [ho]
      cases hw : (T i).w with
      | false =>
        rw [hw] at hreal
        rw [hreal]
        simp only [Bool.false_eq_true, if_false]
        have hsk := hT.skip i so hso hw
        exact after φ _ w m (Phi.sub_refl φ) (hres_keep (.inr hw)) (by rw [hsk.1]; exact VR.undef φ) hr hm (heff_keep (.inr hw))
      | true =>
        rw [hw] at hreal
        rw [hreal]
        simp only [if_true]
        left
        have hop_looks : ∀ t ∈ so.op.tmps, (T i).fr.get t = fr'.get t := fun t ht => hsame t (by unfold SOper.looks; exact List.mem_append_left _ ht)
        cases he : isEff so.op with
        | true =>
          -- an effect: those ahead of it are through, those behind it aren't
          have hmi : m ≤ i := by
            rcases Nat.lt_or_ge i m with h | h
            · exact absurd ((heff i so hso hw he).2 h) hnl
            · exact h
          have hnone : ∀ (k : Nat) (z : SOper), m ≤ k → k < i → sops[k]? = some z → (T k).w = true → isEff z.op = false := by
            intro k z h1 h2 hz hwk
            cases hek : isEff z.op with
            | false => rfl
            | true =>
              have hp := hpair i k so z h2 hso hz
              unfold pairOk at hp
              rw [he, hek] at hp
              have hb : bef (ancs sops) i k = true := by simpa using hp
              have := (heff k z hz hwk hek).1 (hbef k hb)
              omega
          have hσ := heap_same hT i hmi (by omega) hnone
          have hdo := hT.loud i so hso hw he
          rw [hσ] at hdo
          have hnl' : ∀ k, ¬ IsLay so.op k := fun k h => by simp [isEff, h.kind] at he
          have hsy : so = y := by
            rcases hy with h | ⟨k, op', h', h⟩
            · exact h
            · exact absurd (by rw [h]; exact h'.is) (hnl' k)
          rw [hsy] at hdo hop_looks
          refine does_ok hop hFR hr (does_congr hop_looks hdo) ?_
          intro φ' v' w' h1 h2 h3
          refine after φ' v' w' (i + 1) h1.1 (fun k => by rw [h1.2]; exact hres_keep (.inl hnl') k) h2 h3 (by omega) ?_
          intro k z hz hwk hek
          by_cases e : i = k
          · subst e; simp [hil]
          · rw [getD_set_ne false e, heff k z hz hwk hek]
            constructor
            · intro h; omega
            · intro h
              have hki : k < i := by omega
              rcases Nat.lt_or_ge k m with h' | h'
              · exact h'
              · have := hnone k z h' hki hz hwk; rw [hek] at this; cases this
        | false =>
          have hq := hT.quiet i so hso hw he
          have hval : aop so.op (T i).fr (T m).σ = some ((T i).v, (T m).σ) := by
            cases hk : so.op.kind with
            | eff => rw [isEff_kind.2 hk] at he; cases he
            | pure => exact (aop_pure hk hq.1 (T m).σ).2
            | read =>
              rcases Nat.lt_or_ge i m with him | hmi
              · -- effects behind i are through already
                rcases last_eff sops T i m (by omega) with h | ⟨k, z, h1, h2, h3, h4, h5, h6⟩
                · rw [heap_same hT m (by omega) hm h]; exact hq.1
                · have hki : i ≠ k := by intro e; subst e; rw [hso] at h3; cases h3; rw [he] at h5; cases h5
                  have hnb : bef (ancs sops) k i = false := by
                    cases hb : bef (ancs sops) k i with
                    | false => rfl
                    | true => exact absurd ((heff k z h3 h4 h5).2 h2) (haft k z h3 hb)
                  have := hT.ahead i k so z hso h3 (by omega) hw h4 hk h5 (by simpa using hnb)
                  rw [heap_same hT m (i := k + 1) (by omega) hm (fun q z' a b c d => h6 q z' (by omega) b c d)]
                  exact this
              · rcases first_eff sops T m i hmi with h | ⟨k, z, h1, h2, h3, h4, h5, h6⟩
                · rw [← heap_same hT i hmi (by omega) h]; exact hq.1
                · have hnb : bef (ancs sops) i k = false := by
                    cases hb : bef (ancs sops) i k with
                    | false => rfl
                    | true => have := (heff k z h3 h4 h5).1 (hbef k hb); omega
                  have := hT.behind i k so z hso h3 h2 hw h4 hk h5 (by simpa using hnb)
                  rw [← heap_same hT k h1 (by omega) h6]
                  exact this
          by_cases hlay : ∃ k, IsLay so.op k
          · obtain ⟨k, hlay⟩ := hlay
            have hif' : φ.res k := (hres k).2 (.inr ⟨i, so, hso, hlay, hw, hif⟩)
            have hlo : LayOf y.op so.op k := by
              rcases hy with h | ⟨k', op', h1, h2⟩
              · rw [h] at hlay; exact absurd hlay (cOp_lay hop k)
              · rw [h2] at hlay ⊢; rw [hlay.one h1.is]; exact h1
            have hown : ∀ {φ' : Phi}, (∀ j, φ'.res j ↔ (φ.res j ∧ j ≠ k)) → ∀ j, φ'.res j ↔ Owed φ0.res sops T (listed.setIfInBounds i true) j := by
              intro φ' g2 j
              rw [g2 j, hres j]
              constructor
              · rintro ⟨h | ⟨q, z, h1, h2, h3, h4⟩, hj⟩
                · exact .inl h
                · have hiq : i ≠ q := by intro e; subst e; rw [hso] at h1; cases h1; exact hj (h2.one hlay)
                  exact .inr ⟨q, z, h1, h2, h3, by rw [getD_set_ne false hiq]; exact h4⟩
              · rintro (h | ⟨q, z, h1, h2, h3, h4⟩)
                · exact ⟨.inl h, fun e => by subst e; exact hfree i so _ hso hlay h⟩
                · have hiq : i ≠ q := by intro e; subst e; simp [hil] at h4
                  refine ⟨.inr ⟨q, z, h1, h2, h3, by rw [getD_set_ne false hiq] at h4; exact h4⟩, fun e => ?_⟩
                  subst e
                  exact hiq (hone i q so z _ hso h1 hlay h2)
            rcases hlo with ⟨zs, hal, hls⟩ | ⟨nn, zs, len, parts, hal, hls⟩
            · rw [hls] at hval
              simp only [aop] at hval
              split at hval
              · rename_i cs hg
                split at hval
                · rename_i hs
                  have hcz := sames0_eq hs
                  subst hcz
                  have hv : (T i).v = .ptr (.new k) 0 := by
                    simp only [Option.some.injEq, Prod.mk.injEq, and_true] at hval
                    exact hval.symm
                  rw [hal] at hop
                  refine lay_does hop hr hif' hg ?_
                  intro φ' v' w' g1 g2 g3 g4
                  exact after φ' v' w' m g1 (hown g2) (by rw [hv]; exact g3) g4 hm (heff_keep (.inl he))
                · cases hval
              · cases hval
            · rw [aop_congr hop_looks, hls] at hval
              simp only [aop] at hval
              split at hval
              · rename_i cs hg
                split at hval
                · rename_i cs' hfill
                  split at hval
                  · rename_i hs
                    simp only [Bool.and_eq_true, decide_eq_true_eq] at hs
                    have hcz := sames0_eq hs.1
                    subst hcz
                    have hv : (T i).v = .slc (.new k) 0 len (.ex len) := by
                      simp only [Option.some.injEq, Prod.mk.injEq, and_true] at hval
                      exact hval.symm
                    rw [hal] at hop
                    refine layB_does hop hFR hr hif' hg hfill hs.2 ?_
                    intro φ' v' w' g1 g2 g3 g4
                    exact after φ' v' w' m g1 (hown g2) (by rw [hv]; exact g3) g4 hm (heff_keep (.inl he))
                  · cases hval
                · cases hval
              · cases hval
          · have hnl' : ∀ k, ¬ IsLay so.op k := fun k h => hlay ⟨k, h⟩
            have hsy : so = y := by
              rcases hy with h | ⟨k, op', h', h⟩
              · exact h
              · exact absurd (by rw [h]; exact h'.is) (hnl' k)
            have hdo : Does P so.op fr' (T m).σ (T i).v (T m).σ := by
              refine does_congr hop_looks ?_
              unfold Does
              split
              · rename_i f l hf; rw [hf] at he; simp [isEff, SOp.kind] at he
              · exact hval
            rw [hsy] at hdo
            refine does_ok hop hFR hr hdo ?_
            intro φ' v' w' h1 h2 h3
            exact after φ' v' w' m h1.1 (fun k => by rw [h1.2]; exact hres_keep (.inl hnl') k) h2 h3 hm (heff_keep (.inl he))
end
end Go.Mini
namespace Go.Mini
open Go
/-! ### Regions with ids kept free -/
theorem inst_kind (b : Nat) (o : SOp) : (o.inst b).kind = o.kind := by cases o <;> rfl
theorem inst_tmps (b : Nat) (o : SOp) : (o.inst b).tmps = o.tmps := by cases o <;> rfl
def instO (b : Nat) (o : SOper) : SOper := { o with op := o.op.inst b }
theorem instOps_eq (b : Nat) (l : List SOper) : instOps b l = l.map (instO b) := rfl
theorem instO_looks (b : Nat) (o : SOper) : (instO b o).looks = o.looks := by simp only [SOper.looks, instO, inst_tmps]
theorem instO_eff (b : Nat) (o : SOper) : isEff (instO b o).op = isEff o.op := by simp only [isEff, instO, inst_kind]
theorem ancsFrom_inst (b : Nat) : ∀ (l : List SOper) (acc : List Nat), ancsFrom acc (l.map (instO b)) = ancsFrom acc l
  | [], _ => rfl
  | o :: l, acc => by simp only [List.map_cons, ancsFrom]; rw [ancsFrom_inst b l]; rfl
theorem pairOk_inst (b : Nat) (tab : List Nat) (i j : Nat) (x y : SOper) : pairOk tab i j (instO b x) (instO b y) = pairOk tab i j x y := by
  simp only [pairOk, instO_eff, instO_looks]; rfl
theorem all_zipIdx_map (f : SOper → SOper) (p : SOper → Nat → Bool) : ∀ (l : List SOper) (n : Nat), ((l.map f).zipIdx n).all (fun (x, j) => p x j) = (l.zipIdx n).all fun (x, j) => p (f x) j
  | [], _ => rfl
  | o :: l, n => by simp only [List.map_cons, List.zipIdx_cons, List.all_cons]; rw [all_zipIdx_map f p l]
theorem drawOkFrom_inst (b : Nat) (tab : List Nat) : ∀ (l past : List SOper) (i : Nat), drawOkFrom tab i (past.map (instO b)) (l.map (instO b)) = drawOkFrom tab i past l
  | [], _, _ => rfl
  | o :: l, past, i => by
    simp only [List.map_cons, drawOkFrom]
    have h1 := drawOkFrom_inst b tab l (past ++ [o]) (i + 1)
    rw [List.map_append, List.map_cons, List.map_nil] at h1
    rw [h1]
    have h2 := all_zipIdx_map (instO b) (fun p j => pairOk tab i j (instO b o) p) past 0
    simp only [pairOk_inst] at h2
    rw [h2]; rfl
theorem drawOk_inst (b : Nat) (l : List SOper) : drawOk (instOps b l) = drawOk l := by
  rw [instOps_eq]
  simp only [drawOk, ancs, ancsFrom_inst]
  exact drawOkFrom_inst b _ l [] 0
theorem ancs_inst (b : Nat) (l : List SOper) : ancs (instOps b l) = ancs l := by rw [instOps_eq]; exact ancsFrom_inst b l []
theorem looks_inst (b n : Nat) (l : List SOper) : (instOps b l).all (fun o => o.looks.all (· < n)) = l.all fun o => o.looks.all (· < n) := by
  rw [instOps_eq, List.all_map]
  congr 1
  funext o
  simp only [Function.comp_apply, instO_looks]

theorem resvs_cons (o : SOper) (l : List SOper) : resvs (o :: l) = o.op.laid ++ resvs l := by simp [resvs]
theorem layOps_one {o : SOper} {l : List SOper} {j : Nat} :
    (∃ op', LayOf o.op op' j ∧ layOps j (o :: l) = { o with op := op' } :: layOps (j + 1) l) ∨ layOps j (o :: l) = o :: layOps j l := by
  simp only [layOps]
  split
  · rename_i zs h; exact .inl ⟨_, .inl ⟨zs, h, rfl⟩, rfl⟩
  · rename_i n zs len parts h; exact .inl ⟨_, .inr ⟨n, zs, len, parts, h, rfl⟩, rfl⟩
  · exact .inr rfl
theorem laid_nil {o : SOp} (h : ∀ k, ¬ IsLay o k) : o.laid = [] := by
  cases o <;> first | rfl | exact absurd (.inl ⟨_, rfl⟩) (h _) | exact absurd (.inr ⟨_, _, _, _, rfl⟩) (h _)
theorem laid_one {y o : SOp} {k : Nat} (h : LayOf y o k) : ∃ x, o.laid = [x] := by
  rcases h with ⟨zs, _, rfl⟩ | ⟨n, zs, len, parts, _, rfl⟩ <;> exact ⟨_, rfl⟩
theorem layOps_len : ∀ (l : List SOper) (j : Nat), (layOps j l).length = l.length
  | [], _ => rfl
  | o :: l, j => by
    rcases layOps_one (o := o) (l := l) (j := j) with ⟨op', _, e⟩ | e <;> rw [e] <;> simp only [List.length_cons, layOps_len l]
theorem layOps_get : ∀ (l : List SOper) (j i : Nat) (so : SOper), (layOps j l)[i]? = some so → ∃ y, l[i]? = some y ∧ (so = y ∨ ∃ k op', LayOf y.op op' k ∧ so = { y with op := op' })
  | [], j, i, so, h => by simp [layOps] at h
  | o :: l, j, i, so, h => by
    rcases layOps_one (o := o) (l := l) (j := j) with ⟨op', ho, e⟩ | e <;> rw [e] at h
    · cases i with
      | zero => simp at h; exact ⟨o, rfl, .inr ⟨j, op', ho, h.symm⟩⟩
      | succ i => exact layOps_get l (j + 1) i so (by simpa using h)
    · cases i with
      | zero => simp at h; exact ⟨o, rfl, .inl h.symm⟩
      | succ i => exact layOps_get l j i so (by simpa using h)
/-- what a laid operation's number is -/
theorem layOps_num : ∀ (l : List SOper) (j : Nat), (∀ (i : Nat) (y : SOper), l[i]? = some y → ∀ k, ¬ IsLay y.op k) → ∀ (i : Nat) (x : SOper) (k : Nat), (layOps j l)[i]? = some x → IsLay x.op k →
    j ≤ k ∧ k < j + (resvs (layOps j l)).length ∧ ∀ (i' : Nat) (x' : SOper) (k' : Nat), i < i' → (layOps j l)[i']? = some x' → IsLay x'.op k' → k < k'
  | [], j, _, i, x, k, h, _ => by simp [layOps] at h
  | o :: l, j, hn, i, x, k, h, hx => by
    have hn0 : ∀ k, ¬ IsLay o.op k := hn 0 o rfl
    have hn' : ∀ (i : Nat) (y : SOper), l[i]? = some y → ∀ k, ¬ IsLay y.op k := fun i y hy => hn (i + 1) y (by simpa using hy)
    rcases layOps_one (o := o) (l := l) (j := j) with ⟨op', ho, he⟩ | he
    · rw [he] at h ⊢
      rw [resvs_cons]
      obtain ⟨z, hz⟩ := laid_one ho
      simp only [hz, List.singleton_append, List.length_cons]
      cases i with
      | zero =>
        simp only [List.getElem?_cons_zero, Option.some.injEq] at h
        subst h
        have hkj := hx.one ho.is
        subst hkj
        refine ⟨Nat.le_refl _, by omega, fun i' x' k' hi h' hx' => ?_⟩
        obtain ⟨i', rfl⟩ : ∃ q, i' = q + 1 := ⟨i' - 1, by omega⟩
        have := (layOps_num l (k + 1) hn' i' x' k' (by simpa using h') hx').1
        omega
      | succ i =>
        obtain ⟨h1, h2, h3⟩ := layOps_num l (j + 1) hn' i x k (by simpa using h) hx
        refine ⟨by omega, by omega, fun i' x' k' hi h' hx' => ?_⟩
        obtain ⟨i', rfl⟩ : ∃ q, i' = q + 1 := ⟨i' - 1, by omega⟩
        exact h3 i' x' k' (by omega) (by simpa using h') hx'
    · rw [he] at h ⊢
      rw [resvs_cons, laid_nil hn0, List.nil_append]
      cases i with
      | zero =>
        simp only [List.getElem?_cons_zero, Option.some.injEq] at h
        subst h
        exact absurd hx (hn0 _)
      | succ i =>
        obtain ⟨h1, h2, h3⟩ := layOps_num l j hn' i x k (by simpa using h) hx
        refine ⟨h1, h2, fun i' x' k' hi h' hx' => ?_⟩
        obtain ⟨i', rfl⟩ : ∃ q, i' = q + 1 := ⟨i' - 1, by omega⟩
        exact h3 i' x' k' (by omega) (by simpa using h') hx'
theorem resv_W : ∀ (l : List (List AVal)) (σ : Heap), (σ.resv l).W = σ.W
  | [], _ => rfl
  | zs :: l, σ => (resv_W l _).trans rfl
theorem resv_next : ∀ (l : List (List AVal)) (σ : Heap), (σ.resv l).next = σ.next + l.length
  | [], _ => rfl
  | zs :: l, σ => by simp only [Heap.resv, resv_next l, Heap.new_next, List.length_cons]; omega
theorem Rel.keeps {w : World} : ∀ (l : List (List AVal)) {φ : Phi} {σ : Heap}, Rel φ σ w → Rel ⟨φ.m, fun k => φ.res k ∨ (σ.next ≤ k ∧ k < σ.next + l.length), φ.F⟩ (σ.resv l) w
  | [], φ, σ, hr => hr.less (fun k hk => by rcases hk with h | ⟨h1, h2⟩; exact h; simp at h2; omega)
  | zs :: l, φ, σ, hr => by
    have := Rel.keeps l (hr.keep zs)
    refine this.less (R := fun k => φ.res k ∨ (σ.next ≤ k ∧ k < σ.next + (zs :: l).length)) (fun k hk => ?_)
    simp only [Heap.new_next, List.length_cons] at hk ⊢
    rcases hk with h | ⟨h1, h2⟩
    · exact .inl (.inl h)
    · rcases Nat.lt_or_ge σ.next k with h | h
      · exact .inr ⟨by omega, by omega⟩
      · exact .inl (.inr (by omega))
section
variable {P : Program} {n : Nat}
theorem cOpers_plain {ops : Array Oper} {l : List SOper} (hc : cOpers P n ops ops.toList = some l) : ∀ (i : Nat) (y : SOper), l[i]? = some y → ∀ k, ¬ IsLay y.op k := by
  intro i y hy k
  obtain ⟨h1, h2⟩ := cOpers_get hc
  have hi : i < ops.toList.length := by rw [h1]; exact (List.getElem?_eq_some_iff.1 hy).1
  exact cOp_lay (cOper_ok (h2 i _ y (List.getElem?_eq_getElem hi) hy)).1 k
theorem inst_get {b : Nat} {l : List SOper} {i : Nat} {x : SOper} (h : (instOps b l)[i]? = some x) : ∃ y, l[i]? = some y ∧ x = instO b y := by
  rw [instOps_eq, List.getElem?_map, Option.map_eq_some_iff] at h
  obtain ⟨y, h1, h2⟩ := h
  exact ⟨y, h1, h2.symm⟩
theorem inst_lay {b : Nat} {y : SOper} {k : Nat} (h : IsLay (instO b y).op k) : ∃ j, IsLay y.op j ∧ k = b + j := by
  simp only [instO] at h
  rcases h with ⟨zs, h⟩ | ⟨m, zs, len, parts, h⟩
  · cases hy : y.op <;> rw [hy] at h <;> simp only [SOp.inst, SOp.lay.injEq, reduceCtorEq] at h
    exact ⟨_, .inl ⟨_, rfl⟩, h.1.symm⟩
  · cases hy : y.op <;> rw [hy] at h <;> simp only [SOp.inst, SOp.layB.injEq, reduceCtorEq] at h
    exact ⟨_, .inr ⟨_, _, _, _, rfl⟩, h.1.symm⟩
theorem inst_plain {b : Nat} {y : SOper} (h : ∀ k, ¬ IsLay y.op k) : instO b y = y := by
  obtain ⟨d, op, g, af⟩ := y
  cases op <;> first | rfl | exact absurd (.inl ⟨_, rfl⟩) (h _) | exact absurd (.inr ⟨_, _, _, _, rfl⟩) (h _)
theorem LayOf.inst {y so : SOp} {k : Nat} (b : Nat) (h : LayOf y so k) : LayOf y (so.inst b) (b + k) := by
  rcases h with ⟨zs, h1, rfl⟩ | ⟨m, zs, len, parts, h1, rfl⟩
  · exact .inl ⟨zs, h1, rfl⟩
  · exact .inr ⟨m, zs, len, parts, h1, rfl⟩
theorem like_lay {ops : Array Oper} {l : List SOper} (hc : cOpers P n ops ops.toList = some l) (b : Nat) : Like l (instOps b (layOps 0 l)) := by
  refine ⟨by rw [instOps_eq, List.length_map, layOps_len], fun i so h => ?_⟩
  obtain ⟨x, hx, rfl⟩ := inst_get h
  obtain ⟨y, hy, hxy⟩ := layOps_get l 0 i x hx
  refine ⟨y, hy, ?_⟩
  rcases hxy with rfl | ⟨k, op', h1, rfl⟩
  · exact .inl (inst_plain (cOpers_plain hc i _ hy))
  · exact .inr ⟨b + k, _, h1.inst b, rfl⟩
end
end Go.Mini
set_option linter.unusedVariables false
set_option linter.unusedSimpArgs false
namespace Go.Mini
open Go

def thn (K : Frame → Heap → Prop) (Q : SExit → Frame → Heap → Prop) : SExit → Frame → Heap → Prop
  | .normal => K
  | e => Q e
def inBlk (id : Nat) (Q : SExit → Frame → Heap → Prop) : SExit → Frame → Heap → Prop
  | .exit j => if j = id then Q .normal else Q (.exit j)
  | e => Q e
def iter (F : (Frame → Heap → Prop) → Frame → Heap → Prop) : Nat → Frame → Heap → Prop
  | 0 => fun _ _ => False
  | k + 1 => F (iter F k)

section
variable (P : Program)
/-- the weakest precondition -/
def awp : SCode → (SExit → Frame → Heap → Prop) → Frame → Heap → Prop
  | .skip, Q => Q .normal
  | .reg none ops, Q => opswp P ops (Q .normal)
  | .reg (some tab) ops, Q => drawwp P tab 0 ops [] (Q .normal)
  | .regA tab ops, Q => fun fr σ => Heap.resvE (resvs ops) (fun σ' => drawwp P tab 0 (instOps σ.next ops) [] (Q .normal) fr σ') σ
  | .seq a b, Q => awp a (thn (awp b Q) Q)
  | .cond c a b, Q => fun fr σ => match c.ev fr with
    | .bool true => awp a Q fr σ
    | .bool false => awp b Q fr σ
    | _ => False
  | .block id c, Q => awp c (inBlk id Q)
  | .loop c, Q => fun fr σ => ∃ k, iter (fun K => awp c (thn K Q)) k fr σ
  | .exit id, Q => Q (.exit id)
  | .ret, Q => Q .ret
end

inductive ExitR : SExit → Exit → Prop where
  | normal : ExitR .normal .normal
  | exit (id : Nat) : ExitR (.exit id) (.exit id)
  | ret : ExitR .ret .ret

/-- a loop's body, then the loop -/
def LoopWp (P : Program) (c : Code) (Q : Exit → Act → World → Prop) (a : Act) (w : World) : Prop :=
  ∀ (b : Go.Frame) (k : List Item) (cs : List Go.Frame), ∃ e a' w', Q e a' w' ∧ Arrives P (lone (b.at a (.code c :: .inLoop c :: k)) cs w) b k cs e a' w'
theorem loopWp_loop {P : Program} {c : Code} {Q : Exit → Act → World → Prop} {a : Act} {w : World} (h : LoopWp P c Q a w) : (Code.loop c).wp P Q a w := by
  intro b k cs
  obtain ⟨e, a', w', hq, harr⟩ := h b k cs
  exact ⟨e, a', w', hq, .of_steps (.one step_loop) harr⟩
theorem loopWp_round {P : Program} {c : Code} {Q : Exit → Act → World → Prop} {a : Act} {w : World} (h : c.wp P (Exit.then (LoopWp P c Q) Q) a w) : LoopWp P c Q a w := by
  intro b k cs
  obtain ⟨e, a₁, w₁, hq, harr⟩ := h b (.inLoop c :: k) cs
  cases e with
  | normal =>
    obtain ⟨e₂, a₂, w₂, hq₂, harr₂⟩ := hq b k cs
    exact ⟨e₂, a₂, w₂, hq₂, .of_steps (Steps.trans harr (.one step_inLoop)) harr₂⟩
  | exit id => exact ⟨_, a₁, w₁, hq, .pass (x := .inLoop c) rfl (fun _ _ => .inl (by simp)) harr⟩
  | goto l => exact ⟨_, a₁, w₁, hq, .pass (x := .inLoop c) rfl (fun _ _ => .inl (by simp)) harr⟩
  | ret => exact ⟨_, a₁, w₁, hq, .pass (x := .inLoop c) rfl (fun _ _ => .inl (by simp)) harr⟩
  | panic ch => exact ⟨_, a₁, w₁, hq, .pass (x := .inLoop c) rfl (fun _ _ => .inl (by simp)) harr⟩
  | outgrown => exact ⟨_, a₁, w₁, hq, .pass (x := .inLoop c) rfl (fun _ _ => .inl (by simp)) harr⟩

/-- a scope that nobody jumps in -/
theorem wp_scope_plain {P : Program} {c : Code} {Q : Exit → Act → World → Prop} {a : Act} {w : World} (h : c.wp P (fun e a w => Q e a w ∧ ∀ l, e ≠ .goto l) a w) : (Code.scope c).wp P Q a w := by
  intro b k cs
  obtain ⟨e, a₁, w₁, ⟨hq, hng⟩, harr⟩ := h b (.inScope c :: k) cs
  have h1 : step P (lone (b.at a (.code (.scope c) :: k)) cs w) = .next (lone (b.at a (.code c :: .inScope c :: k)) cs w) := step_lone_go (by simp [stepG, stepG.exec, Frame.at])
  have h2 : ∀ a w, step P (lone (b.at a (.inScope c :: k)) cs w) = .next (lone (b.at a k) cs w) := fun a w => step_lone_go (by simp [stepG, stepG.exec, Frame.at])
  cases e with
  | normal => exact ⟨.normal, a₁, w₁, hq, .head h1 (Steps.trans harr (.one (h2 _ _)))⟩
  | exit id => exact ⟨_, a₁, w₁, hq, fun k' hk => .head h1 (harr k' (by simpa [exitTo] using hk))⟩
  | goto l => exact absurd rfl (hng l)
  | ret => exact ⟨_, a₁, w₁, hq, .of_steps (.one h1) harr⟩
  | panic ch => exact ⟨_, a₁, w₁, hq, .of_steps (.one h1) harr⟩
  | outgrown => exact ⟨_, a₁, w₁, hq, .of_steps (b := b) (k := k) (cs := cs) (e := .outgrown) (.one h1) harr⟩

section
variable {P : Program} {n : Nat}

theorem opsGo {ops : Array Oper} {Q : Exit → Act → World → Prop} {φ0 : Phi} (K : Frame → Heap → Prop) (hK : ∀ φ fr σ a w, φ0.le φ → FR φ n fr a → Rel φ σ w → K fr σ → Q .normal a w) :
    ∀ (l : List Oper) (r : List SOper) (i : Nat) (φ : Phi) (fr : Frame) (σ : Heap) (a : Act) (w : World), cOpers P n ops l = some r → (∀ j : Nat, l[j]? = ops[i + j]?) → φ0.le φ → FR φ n fr a → Rel φ σ w → opswp P r K fr σ →
      wpOps P ops Q (List.range' i l.length) a w := by
  intro l
  induction l with
  | nil =>
    intro r i φ fr σ a w hc hi hle hf hr h
    cases hc
    exact hK φ fr σ a w hle hf hr h
  | cons o l ih =>
    intro r i φ fr σ a w hc hi hle hf hr h
    simp only [cOpers] at hc
    split at hc
    · rename_i so r' h1 h2
      cases hc
      have ho : ops[i]? = some o := by have := hi 0; simpa using this.symm
      have hi' : ∀ j : Nat, l[j]? = ops[i + 1 + j]? := by
        intro j
        have := hi (j + 1)
        simp only [List.getElem?_cons_succ] at this
        rw [this]; congr 1; omega
      obtain ⟨hop, hdst, hdlt, _, _⟩ := cOper_ok h1
      simp only [List.length_cons, List.range'_succ, wpOps, ho]
      simp only [opswp] at h
      have hgt : ∀ t want, so.guard = some (t, want) → VR φ (fr.get t) (a.tmps.getD t Go.undef) := by
        intro t want hg
        obtain ⟨_, _, _, _, hgd⟩ := cOper_ok h1
        rcases hgd with ⟨_, h⟩ | ⟨_, _, _, t', _, _, _, hlt, h⟩
        · rw [h] at hg; cases hg
        · rw [h] at hg; cases hg; exact hf.tmps _ hlt
      split at h
      · rename_i hw
        rw [wantd_ok h1 hw hf.size hgt]
        simp only [if_true]
        left
        obtain ⟨v, σ', hd, hk⟩ := opwp_does h
        refine does_ok hop hf hr hd ?_
        intro φ' v' w' g1 g2 g3
        have := (hf.mono g1).put (t := o.dst) g2
        rw [hdst] at hk
        exact ih r' (i + 1) φ' _ σ' _ w' h2 hi' (Phi.le_trans hle g1) this g3 hk
      · rename_i hw
        rw [wantd_ok h1 hw hf.size hgt]
        simp only [Bool.false_eq_true, if_false]
        have := hf.put (t := o.dst) (VR.undef φ)
        rw [hdst] at h
        exact ih r' (i + 1) φ _ σ _ w h2 hi' hle this hr h
      · cases h
    · cases hc

theorem layOf_looks {o : SOper} {op' : SOp} {k : Nat} (h : LayOf o.op op' k) : ({ o with op := op' } : SOper).looks = o.looks := by
  obtain ⟨d, op, g, af⟩ := o
  rcases h with ⟨zs, rfl, rfl⟩ | ⟨m, zs, len, parts, rfl, rfl⟩ <;> rfl
theorem layOps_looks (n : Nat) : ∀ (l : List SOper) (j : Nat), l.all (fun o => o.looks.all (· < n)) = (layOps j l).all (fun o => o.looks.all (· < n))
  | [], _ => rfl
  | o :: l, j => by
    rcases layOps_one (o := o) (l := l) (j := j) with ⟨op', ho, e⟩ | e
    · rw [e, List.all_cons, List.all_cons, layOps_looks n l (j + 1), layOf_looks ho]
    · rw [e, List.all_cons, List.all_cons, layOps_looks n l j]
theorem awp_sound (hm : P.follows .mixedOrders = true) : ∀ (c : Code) (sc : SCode) (Q : SExit → Frame → Heap → Prop) (R : Exit → Act → World → Prop) (φ : Phi) (fr : Frame) (σ : Heap) (a : Act) (w : World),
    cCode P n c = some sc → awp P sc Q fr σ → FR φ n fr a → Rel φ σ w →
    (∀ φ' fr' σ' se e a' w', φ.le φ' → ExitR se e → FR φ' n fr' a' → Rel φ' σ' w' → Q se fr' σ' → R e a' w') → c.wp P R a w := by
  intro c
  induction c with
  | skip =>
    intro sc Q R φ fr σ a w hc h hf hr hR
    cases hc
    exact wp_skip (hR φ fr σ .normal .normal a w (Phi.le_refl φ) .normal hf hr h)
  | region id ops draw =>
    intro sc Q R φ fr σ a w hc h hf hr hR
    simp only [cCode] at hc
    split at hc
    · rename_i l hl
      cases draw with
      | false =>
        simp only [Bool.false_eq_true, if_false, Option.some.injEq] at hc
        subst hc
        simp only [awp] at h
        refine wp_region ?_
        have := opsGo (P := P) (n := n) (ops := ops) (Q := R) (φ0 := φ) (Q .normal) (fun φ' fr' σ' a' w' h1 h2 h3 h4 => hR φ' fr' σ' .normal .normal a' w' h1 .normal h2 h3 h4) ops.toList l 0 φ fr σ a w hl (by simp) (Phi.le_refl φ) hf hr h
        simpa [List.range_eq_range'] using this
      | true =>
        simp only [if_true] at hc
        have hlen := (cOpers_get hl).1
        have hN : ops.size = l.length := by simpa using hlen
        have hf0 : ∀ i, (Array.replicate ops.size false).getD i false = false := by
          intro i
          by_cases hi : i < ops.size <;> simp [Array.getD_eq_getD_getElem?, hi]
        have hleft : left (Array.replicate ops.size false) ≤ ops.size := by
          unfold left
          have := List.countP_le_length (p := fun b => !b) (l := (Array.replicate ops.size false).toList)
          simpa using this
        split at hc
        · rename_i hd
          simp only [Bool.and_eq_true] at hd
          simp only [Option.some.injEq] at hc
          subst hc
          simp only [awp] at h
          obtain ⟨T, hT, h1, h2, h3, _, _⟩ := trace_of l 0 [] fr σ h
          refine wp_region_any hm ?_
          refine sim (φ0 := φ) hl (like_refl l) (fun i j x y k hx _ hk _ => absurd hk (cOpers_plain hl i x hx k)) (fun i x k hx hk => absurd hk (cOpers_plain hl i x hx k)) hd.1 hd.2 hT
            (fun φ' a' w' g1 g2 g3 => hR φ' _ _ .normal .normal a' w' g1 .normal g2 g3 h3) ops.size _ a _ ?_ hleft
          refine ⟨by simp [hN], ?_, hf.size, hf.defers, 0, φ, Phi.sub_refl φ, ?_, by rw [h2]; exact hr.drew, Nat.zero_le _, ?_, ?_⟩
          · intro i z _ hi; rw [hf0] at hi; cases hi
          · intro k
            refine ⟨.inl, ?_⟩
            rintro (h | ⟨i, so, g1, g2, _, _⟩)
            · exact h
            · exact absurd g2 (cOpers_plain hl i so g1 k)
          · intro i z _ _ _; rw [hf0]; simp
          · intro t ht
            refine ⟨fr.get t, .inr ⟨by rw [h1], ?_⟩, hf.tmps t ht⟩
            intro k z _ _ hk; simp only [hf0] at hk; cases hk
        · split at hc
          · rename_i hd
            simp only [Bool.and_eq_true] at hd
            simp only [Option.some.injEq] at hc
            subst hc
            simp only [awp] at h
            obtain ⟨css, hcl, h, _⟩ := resvE_iff h
            have hpl := cOpers_plain hl
            have hnum : ∀ (i : Nat) (x : SOper) (k : Nat), (instOps σ.next (layOps 0 l))[i]? = some x → IsLay x.op k → ∃ z j, (layOps 0 l)[i]? = some z ∧ IsLay z.op j ∧ k = σ.next + j ∧ j < css.length := by
              intro i x k hx hk
              obtain ⟨z, hz, rfl⟩ := inst_get hx
              obtain ⟨j, hj, hkj⟩ := inst_lay hk
              have := (layOps_num l 0 hpl i z j hz hj).2.1
              exact ⟨z, j, hz, hj, hkj, by omega⟩
            have hlooks : l.all (fun o => o.looks.all (· < n)) = (layOps 0 l).all (fun o => o.looks.all (· < n)) → (instOps σ.next (layOps 0 l)).all (fun o => o.looks.all (· < n)) = true := by
              intro e; rw [looks_inst, ← e]; exact hd.2
            have hlk2 : l.all (fun o => o.looks.all (· < n)) = (layOps 0 l).all (fun o => o.looks.all (· < n)) := layOps_looks n l 0
            rw [← ancs_inst σ.next] at h
            obtain ⟨T, hT, h1, h2, h3, _, _⟩ := trace_of (instOps σ.next (layOps 0 l)) 0 [] fr _ h
            refine wp_region_any hm ?_
            refine sim (φ0 := φ) hl (like_lay hl σ.next) ?_ ?_ (by rw [drawOk_inst]; exact hd.1) (hlooks hlk2) hT
              (fun φ' a' w' g1 g2 g3 => hR φ' _ _ .normal .normal a' w' g1 .normal g2 g3 h3) ops.size _ a _ ?_ hleft
            · intro i j x y k hx hy hk hk'
              obtain ⟨z, q, hz, hq, e1, _⟩ := hnum i x k hx hk
              obtain ⟨z', q', hz', hq', e2, _⟩ := hnum j y k hy hk'
              rcases Nat.lt_trichotomy i j with hij | hij | hij
              · have := (layOps_num l 0 hpl i z q hz hq).2.2 j z' q' hij hz' hq'; omega
              · exact hij
              · have := (layOps_num l 0 hpl j z' q' hz' hq').2.2 i z q hij hz hq; omega
            · intro i x k hx hk hres
              obtain ⟨z, q, _, _, e1, _⟩ := hnum i x k hx hk
              have := (hr.resv k hres).2; omega
            refine ⟨by simp [hN, instOps_eq, layOps_len], ?_, hf.size, hf.defers, 0, ⟨φ.m, Owed φ.res (instOps σ.next (layOps 0 l)) T (Array.replicate ops.size false), φ.F⟩, ⟨fun _ _ e => e, fun _ _ _ e => e⟩, fun k => Iff.rfl, ?_, Nat.zero_le _, ?_, ?_⟩
            · intro i z _ hi; rw [hf0] at hi; cases hi
            · rw [h2]
              refine (hr.drew.keeps css).less (R := Owed φ.res (instOps σ.next (layOps 0 l)) T (Array.replicate ops.size false)) ?_
              rintro k (h | ⟨i, so, g1, g2, _, _⟩)
              · exact .inl h
              · obtain ⟨z, q, _, _, e1, e2⟩ := hnum i so k g1 g2
                exact .inr ⟨by omega, by omega⟩
            · intro i z _ _ _; rw [hf0]; simp
            · intro t ht
              refine ⟨fr.get t, .inr ⟨by rw [h1], ?_⟩, VR.mono0 (φ := φ) (φ' := ⟨φ.m, Owed φ.res (instOps σ.next (layOps 0 l)) T (Array.replicate ops.size false), φ.F⟩) ⟨fun _ _ e => e, fun _ _ _ e => e⟩ (hf.tmps t ht)⟩
              intro k z _ _ hk; simp only [hf0] at hk; cases hk
          · cases hc
    · cases hc
  | seq x y ihx ihy =>
    intro sc Q R φ fr σ a w hc h hf hr hR
    simp only [cCode] at hc
    split at hc
    · rename_i sx sy hx hy
      cases hc
      simp only [awp] at h
      refine wp_seq (ihx sx _ _ φ fr σ a w hx h hf hr ?_)
      intro φ' fr' σ' se e a' w' g1 g2 g3 g4 g5
      cases g2 with
      | normal =>
        exact ihy sy Q R φ' fr' σ' a' w' hy g5 g3 g4 (fun φ2 fr2 σ2 se2 e2 a2 w2 k1 k2 k3 k4 k5 => hR φ2 fr2 σ2 se2 e2 a2 w2 (Phi.le_trans g1 k1) k2 k3 k4 k5)
      | exit id => exact hR φ' fr' σ' _ _ a' w' g1 (.exit id) g3 g4 g5
      | ret => exact hR φ' fr' σ' _ _ a' w' g1 .ret g3 g4 g5
    · cases hc
  | cond c x y ihx ihy =>
    intro sc Q R φ fr σ a w hc h hf hr hR
    simp only [cCode] at hc
    split at hc
    · rename_i c' sx sy hcc hx hy
      cases hc
      have hv := cOpd_ok hcc hf
      simp only [awp] at h
      generalize hg : a.eval c = cv at hv
      split at h
      · rename_i hb
        rw [hb] at hv; cases hv
        exact wp_cond_true hg (ihx sx Q R φ fr σ a w hx h hf hr hR)
      · rename_i hb
        rw [hb] at hv; cases hv
        exact wp_cond_false hg (ihy sy Q R φ fr σ a w hy h hf hr hR)
      · cases h
    · cases hc
  | block id c ih =>
    intro sc Q R φ fr σ a w hc h hf hr hR
    simp only [cCode, Option.map_eq_some_iff] at hc
    obtain ⟨s, hs, rfl⟩ := hc
    simp only [awp] at h
    refine wp_block (ih s _ _ φ fr σ a w hs h hf hr ?_)
    intro φ' fr' σ' se e a' w' g1 g2 g3 g4 g5
    cases g2 with
    | normal => exact hR φ' fr' σ' _ _ a' w' g1 .normal g3 g4 g5
    | exit j =>
      simp only [Exit.inBlock, inBlk] at g5 ⊢
      split
      · rename_i e; rw [if_pos e] at g5; exact hR φ' fr' σ' _ _ a' w' g1 .normal g3 g4 g5
      · rename_i e; rw [if_neg e] at g5; exact hR φ' fr' σ' _ _ a' w' g1 (.exit j) g3 g4 g5
    | ret => exact hR φ' fr' σ' _ _ a' w' g1 .ret g3 g4 g5
  | loop c ih =>
    intro sc Q R φ fr σ a w hc h hf hr hR
    simp only [cCode, Option.map_eq_some_iff] at hc
    obtain ⟨s, hs, rfl⟩ := hc
    simp only [awp] at h
    obtain ⟨k, hk⟩ := h
    refine loopWp_loop ?_
    have key : ∀ (k : Nat) (φ1 : Phi) (fr : Frame) (σ : Heap) (a : Act) (w : World), φ.le φ1 → FR φ1 n fr a → Rel φ1 σ w → iter (fun K => awp P s (thn K Q)) k fr σ → LoopWp P c R a w := by
      intro k
      induction k with
      | zero => intro φ1 fr σ a w _ _ _ h; exact h.elim
      | succ k ihk =>
        intro φ1 fr σ a w hle hf hr h
        refine loopWp_round (ih s _ _ φ1 fr σ a w hs h hf hr ?_)
        intro φ' fr' σ' se e a' w' g1 g2 g3 g4 g5
        cases g2 with
        | normal => exact ihk φ' fr' σ' a' w' (Phi.le_trans hle g1) g3 g4 g5
        | exit id => exact hR φ' fr' σ' _ _ a' w' (Phi.le_trans hle g1) (.exit id) g3 g4 g5
        | ret => exact hR φ' fr' σ' _ _ a' w' (Phi.le_trans hle g1) .ret g3 g4 g5
    exact key k φ fr σ a w (Phi.le_refl φ) hf hr hk
  | exit id =>
    intro sc Q R φ fr σ a w hc h hf hr hR
    cases hc
    exact wp_exit (hR φ fr σ _ _ a w (Phi.le_refl φ) (.exit id) hf hr h)
  | ret =>
    intro sc Q R φ fr σ a w hc h hf hr hR
    cases hc
    exact wp_ret (hR φ fr σ _ _ a w (Phi.le_refl φ) .ret hf hr h)
  | scope c ih =>
    intro sc Q R φ fr σ a w hc h hf hr hR
    simp only [cCode] at hc
    refine wp_scope_plain (ih sc Q _ φ fr σ a w hc h hf hr ?_)
    intro φ' fr' σ' se e a' w' g1 g2 g3 g4 g5
    exact ⟨hR φ' fr' σ' se e a' w' g1 g2 g3 g4 g5, by cases g2 <;> (intro l h; cases h)⟩
  | label l =>
    intro sc Q R φ fr σ a w hc h hf hr hR
    cases hc
    exact wp_label (hR φ fr σ .normal .normal a w (Phi.le_refl φ) .normal hf hr h)
  | _ => intro sc Q R φ fr σ a w hc; cases hc
end
end Go.Mini
