/- Functions of the abstract machine, evaluation of codes, running of closed calls. No condition. -/
import Derived.Test.YtaakajfmbjjigaaMD
import Derived.Below
set_option linter.unusedVariables false
set_option linter.unusedSimpArgs false
namespace Go.Mini
open Go

/-! ### An outcome can be taken out of a weakest precondition -/
section
variable {P : Program}
theorem opwp_any {o : SOp} {fr : Frame} {σ : Heap} {K : AVal → Heap → Prop} (h : opwp P o fr σ K) : ∃ v σ', K v σ' ∧ ∀ K' : AVal → Heap → Prop, K' v σ' → opwp P o fr σ K' := by
  unfold opwp at h
  split at h
  · split at h
    · rename_i hx
      obtain ⟨v, σ', h1, h2⟩ := h
      exact ⟨v, σ', h2, fun K' hk => by unfold opwp; simp only [hx]; exact ⟨v, σ', h1, hk⟩⟩
    · cases h
  · rename_i hne
    split at h
    · rename_i v σ' he
      refine ⟨v, σ', h, fun K' hk => ?_⟩
      unfold opwp
      split
      · exact absurd rfl (hne _ _)
      · rw [he]; exact hk
    · cases h
theorem opswp_out : ∀ {ops : List SOper} {fr : Frame} {σ : Heap} {K : Frame → Heap → Prop}, opswp P ops K fr σ → ∃ fr' σ', K fr' σ' ∧ ∀ K' : Frame → Heap → Prop, K' fr' σ' → opswp P ops K' fr σ
  | [], fr, σ, K, h => ⟨fr, σ, h, fun K' hk => hk⟩
  | o :: os, fr, σ, K, h => by
    simp only [opswp] at h ⊢
    split at h
    · rename_i hw
      obtain ⟨v, σ1, h1, h2⟩ := opwp_any h
      obtain ⟨fr', σ', h3, h4⟩ := opswp_out h1
      exact ⟨fr', σ', h3, fun K' hk => h2 _ (h4 K' hk)⟩
    · obtain ⟨fr', σ', h3, h4⟩ := opswp_out h
      exact ⟨fr', σ', h3, h4⟩
    · cases h
theorem drawwp_out {tab : List Nat} : ∀ {ops : List SOper} {i : Nat} {past : List Ev} {fr : Frame} {σ : Heap} {K : Frame → Heap → Prop}, drawwp P tab i ops past K fr σ →
    ∃ fr' σ', K fr' σ' ∧ ∀ K' : Frame → Heap → Prop, K' fr' σ' → drawwp P tab i ops past K' fr σ
  | [], i, past, fr, σ, K, h => ⟨fr, σ, h, fun K' hk => hk⟩
  | o :: os, i, past, fr, σ, K, h => by
    simp only [drawwp] at h ⊢
    split at h
    · cases h
    · obtain ⟨fr', σ', h3, h4⟩ := drawwp_out h
      exact ⟨fr', σ', h3, h4⟩
    · split at h
      · split at h
        · obtain ⟨fr', σ', h3, h4⟩ := drawwp_out h
          exact ⟨fr', σ', h3, h4⟩
        · cases h
      · split at h
        · obtain ⟨fr', σ', h3, h4⟩ := drawwp_out h.2
          exact ⟨fr', σ', h3, fun K' hk => ⟨h.1, h4 K' hk⟩⟩
        · cases h
      · obtain ⟨v, σ1, h1, h2⟩ := opwp_any h
        obtain ⟨fr', σ', h3, h4⟩ := drawwp_out h1.2
        exact ⟨fr', σ', h3, fun K' hk => h2 _ ⟨h1.1, h4 K' hk⟩⟩

def AOut (P : Program) (c : SCode) (fr : Frame) (σ : Heap) (e : SExit) (fr' : Frame) (σ' : Heap) : Prop := ∀ K : SExit → Frame → Heap → Prop, K e fr' σ' → awp P c K fr σ
theorem awp_out : ∀ (c : SCode) (Q : SExit → Frame → Heap → Prop) (fr : Frame) (σ : Heap), awp P c Q fr σ → ∃ e fr' σ', Q e fr' σ' ∧ AOut P c fr σ e fr' σ' := by
  intro c
  induction c with
  | skip => intro Q fr σ h; exact ⟨.normal, fr, σ, h, fun K hk => hk⟩
  | reg tab ops =>
    intro Q fr σ h
    cases tab with
    | none =>
      obtain ⟨fr', σ', h1, h2⟩ := opswp_out h
      exact ⟨.normal, fr', σ', h1, fun K hk => h2 _ hk⟩
    | some tab =>
      obtain ⟨fr', σ', h1, h2⟩ := drawwp_out h
      exact ⟨.normal, fr', σ', h1, fun K hk => h2 _ hk⟩
  | regA tab ops =>
    intro Q fr σ h
    obtain ⟨css, _, h, hb⟩ := resvE_iff h
    obtain ⟨fr', σ', h1, h2⟩ := drawwp_out h
    exact ⟨.normal, fr', σ', h1, fun K hk => hb _ (h2 _ hk)⟩
  | seq a b iha ihb =>
    intro Q fr σ h
    obtain ⟨e, f1, s1, h1, h2⟩ := iha _ fr σ h
    cases e with
    | normal =>
      obtain ⟨e2, f2, s2, h3, h4⟩ := ihb Q f1 s1 h1
      exact ⟨e2, f2, s2, h3, fun K hk => h2 _ (h4 K hk)⟩
    | exit id => exact ⟨_, f1, s1, h1, fun K hk => h2 _ hk⟩
    | ret => exact ⟨_, f1, s1, h1, fun K hk => h2 _ hk⟩
  | cond c a b iha ihb =>
    intro Q fr σ h
    simp only [awp] at h
    split at h
    · rename_i hb
      obtain ⟨e, f, s, h1, h2⟩ := iha Q fr σ h
      exact ⟨e, f, s, h1, fun K hk => by simp only [awp, hb]; exact h2 K hk⟩
    · rename_i hb
      obtain ⟨e, f, s, h1, h2⟩ := ihb Q fr σ h
      exact ⟨e, f, s, h1, fun K hk => by simp only [awp, hb]; exact h2 K hk⟩
    · cases h
  | block id c ih =>
    intro Q fr σ h
    obtain ⟨e, f, s, h1, h2⟩ := ih _ fr σ h
    cases e with
    | normal => exact ⟨.normal, f, s, h1, fun K hk => h2 _ hk⟩
    | ret => exact ⟨.ret, f, s, h1, fun K hk => h2 _ hk⟩
    | exit j =>
      simp only [inBlk] at h1
      by_cases hj : j = id
      · rw [if_pos hj] at h1
        exact ⟨.normal, f, s, h1, fun K hk => h2 _ (by simp only [inBlk]; rw [if_pos hj]; exact hk)⟩
      · rw [if_neg hj] at h1
        exact ⟨.exit j, f, s, h1, fun K hk => h2 _ (by simp only [inBlk]; rw [if_neg hj]; exact hk)⟩
  | loop c ih =>
    intro Q fr σ h
    simp only [awp] at h
    obtain ⟨k, hk⟩ := h
    have key : ∀ (k : Nat) (fr : Frame) (σ : Heap), iter (fun K => awp P c (thn K Q)) k fr σ → ∃ e f s, Q e f s ∧ ∀ K : SExit → Frame → Heap → Prop, K e f s → iter (fun K' => awp P c (thn K' K)) k fr σ := by
      intro k
      induction k with
      | zero => intro fr σ h; exact h.elim
      | succ k ihk =>
        intro fr σ h
        obtain ⟨e, f, s, h1, h2⟩ := ih _ fr σ h
        cases e with
        | normal =>
          obtain ⟨e2, f2, s2, h3, h4⟩ := ihk f s h1
          exact ⟨e2, f2, s2, h3, fun K hk => h2 _ (h4 K hk)⟩
        | exit id => exact ⟨_, f, s, h1, fun K hk => h2 _ hk⟩
        | ret => exact ⟨_, f, s, h1, fun K hk => h2 _ hk⟩
    obtain ⟨e, f, s, h1, h2⟩ := key k fr σ hk
    exact ⟨e, f, s, h1, fun K hK => ⟨k, h2 K hK⟩⟩
  | exit id => intro Q fr σ h; exact ⟨.exit id, fr, σ, h, fun K hk => hk⟩
  | ret => intro Q fr σ h; exact ⟨.ret, fr, σ, h, fun K hk => hk⟩

theorem awp_mono {c : SCode} {Q Q' : SExit → Frame → Heap → Prop} {fr : Frame} {σ : Heap} (h : awp P c Q fr σ) (hq : ∀ e f s, Q e f s → Q' e f s) : awp P c Q' fr σ := by
  obtain ⟨e, f, s, h1, h2⟩ := awp_out c Q fr σ h
  exact h2 _ (hq e f s h1)

/-- a loop by a measure -/
theorem awp_loop {c : SCode} {Q : SExit → Frame → Heap → Prop} (I : Nat → Frame → Heap → Prop)
    (step : ∀ m fr σ, I m fr σ → awp P c (thn (fun f s => ∃ m', m' < m ∧ I m' f s) Q) fr σ) {m : Nat} {fr : Frame} {σ : Heap} (h : I m fr σ) : awp P (.loop c) Q fr σ := by
  have key : ∀ (m : Nat) (fr : Frame) (σ : Heap), I m fr σ → ∃ k, iter (fun K => awp P c (thn K Q)) k fr σ := by
    intro m
    induction m using Nat.strongRecOn with
    | _ m ih =>
      intro fr σ hI
      obtain ⟨e, f, s, h1, h2⟩ := awp_out c _ fr σ (step m fr σ hI)
      cases e with
      | normal =>
        obtain ⟨m', hlt, hI'⟩ := h1
        obtain ⟨k, hk⟩ := ih m' hlt f s hI'
        exact ⟨k + 1, h2 _ hk⟩
      | exit id => exact ⟨1, h2 _ h1⟩
      | ret => exact ⟨1, h2 _ h1⟩
  exact key m fr σ h
theorem awp_loop_unroll {c : SCode} {Q : SExit → Frame → Heap → Prop} {fr : Frame} {σ : Heap} (h : awp P c (thn (awp P (.loop c) Q) Q) fr σ) : awp P (.loop c) Q fr σ := by
  obtain ⟨e, f, s, h1, h2⟩ := awp_out c _ fr σ h
  cases e with
  | normal =>
    obtain ⟨k, hk⟩ := h1
    exact ⟨k + 1, h2 _ hk⟩
  | exit id => exact ⟨1, h2 _ h1⟩
  | ret => exact ⟨1, h2 _ h1⟩
end

/-! ### Functions -/
def rvals : List SRes → Frame → Heap → Option (List AVal)
  | [], _, _ => some []
  | .tmp t :: l, fr, σ => (rvals l fr σ).map (fr.get t :: ·)
  | .cell t k :: l, fr, σ => match aLoad k (fr.get t) σ, rvals l fr σ with
    | some v, some r => some (v :: r)
    | _, _ => none
def resOf (rs : List SRes) (fr : Frame) (σ : Heap) : Option AVal :=
  match rvals rs fr σ with
  | some [v] => some v
  | some l => some (.tup l)
  | none => none

/-- a call's outcome, in a world's own words -/
def AFun (P : Program) (f : FuncId) (args : List AVal) (σ : Heap) (v : AVal) (σ' : Heap) : Prop :=
  ∀ φ w vs, VRs φ args vs → Rel φ σ w → Calls P f vs.toArray w fun e w' => ∃ v' φ', e = .returned v' ∧ φ.le φ' ∧ VR φ' v v' ∧ Rel φ' σ' w'

section
variable {P : Program} {n : Nat}
theorem ofArgs_get : ∀ (l : List AVal) (k t : Nat), (Frame.ofArgs k l).get t = if k ≤ t then (l[t - k]?).getD .undef else .undef
  | [], k, t => by simp [Frame.ofArgs, Frame.get, Trie.get]
  | a :: l, k, t => by
    simp only [Frame.ofArgs, Frame.get_put, ofArgs_get l (k + 1) t]
    by_cases h : k = t
    · subst h; simp
    · rw [if_neg h]
      by_cases h2 : k + 1 ≤ t
      · rw [if_pos h2, if_pos (by omega)]
        have : t - k = (t - (k + 1)) + 1 := by omega
        rw [this]; simp
      · rw [if_neg h2, if_neg (by omega)]

theorem cAgg_load {φ : Phi} {σ : Heap} {w : World} (hr : Rel φ σ w) {t : TypeId} {k : Option Nat} (hk : cAgg P t = some k) {x z : AVal} {v : Value} (hz : aLoad k x σ = some z) (hx : VR φ x v) :
    ∃ a u, v = .pointer (some a) ∧ (loadVar t a).run P w = .ok u w ∧ VR φ z u := by
  unfold aLoad at hz
  split at hz
  · rename_i i off
    cases hx with
    | ptr _ hib =>
      obtain ⟨h1, h2⟩ := cAgg_ok (w := w) hk
      cases k with
      | none =>
        obtain ⟨v, hv, hvr⟩ := hr.cell hz hib
        exact ⟨_, v, rfl, by simp [loadVar, h1, hv], hvr⟩
      | some m =>
        rw [Option.map_eq_some_iff] at hz
        obtain ⟨l, hl, rfl⟩ := hz
        obtain ⟨vs, hvs, hvrs⟩ := loadCells_ok (P := P) hr hib m off off 0 l #[] hl (by omega)
        exact ⟨_, _, rfl, by simp [loadVar, h1, h2 m rfl, loadCells, hvs], .agg hvrs⟩
  · rename_i cs
    cases hx with
    | @fptr _ vs b off hvs hh =>
      obtain ⟨h1, h2⟩ := cAgg_ok (w := w) hk
      cases k with
      | none =>
        obtain ⟨v, hv, hvr⟩ := hvs.get 0 _ hz
        have hc := hr.frz _ _ _ (hh 0 v hv)
        rw [Nat.add_zero] at hc
        exact ⟨_, v, rfl, by simp [loadVar, h1, hc], hvr⟩
      | some m =>
        simp only at hz
        split at hz
        · rename_i hm
          cases hz
          have hl := hvs.length
          have hld := loadF_ok (P := P) hr (vs.take m) b off 0 #[] (fun i v e => by
            rw [Nat.zero_add]; exact hh i v (take_getElem? _ _ _ _ e))
          have hlen : (vs.take m).length = m := by rw [List.length_take]; omega
          rw [hlen] at hld
          exact ⟨_, .agg (vs.take m).toArray, rfl, by simp [loadVar, h1, h2 m rfl, loadCells, hld], .agg (hvs.take m)⟩
        · cases hz
  · cases hz

def resSem (tmps : Array Value) : ResultVar → Sem Value
  | .tmp t => pure (tmps.getD t Go.undef)
  | .cell c t => do loadVar t (← asAddr (tmps.getD c Go.undef))
theorem results_ok {φ : Phi} {σ : Heap} {w : World} (hr : Rel φ σ w) {fr : Frame} {a : Act} (hf : FR φ n fr a) : ∀ (l : List ResultVar) (rs : List SRes) (vs : List AVal), cRes P n l = some rs → rvals rs fr σ = some vs →
    ∃ us : List Value, (l.mapM (resSem a.tmps)).run P w = .ok us w ∧ VRs φ vs us := by
  intro l
  induction l with
  | nil => intro rs vs h1 h2; cases h1; cases h2; exact ⟨[], by simp, .nil⟩
  | cons r l ih =>
    intro rs vs h1 h2
    cases r with
    | tmp t =>
      simp only [cRes] at h1
      split at h1
      · rename_i ht
        rw [Option.map_eq_some_iff] at h1
        obtain ⟨rs', h1, rfl⟩ := h1
        simp only [rvals, Option.map_eq_some_iff] at h2
        obtain ⟨vs', h2, rfl⟩ := h2
        obtain ⟨us, h3, h4⟩ := ih rs' vs' h1 h2
        exact ⟨_ :: us, by simp only [List.mapM_cons, Sem.run_bind, resSem, Sem.run_pure, Result.andThen_ok]; rw [h3]; rfl, .cons (hf.tmps t ht) h4⟩
      · cases h1
    | cell c t =>
      simp only [cRes] at h1
      split at h1
      · rename_i k r hk hr'
        split at h1
        · rename_i ht
          cases h1
          simp only [rvals] at h2
          split at h2
          · rename_i v vs' hv hvs
            cases h2
            obtain ⟨us, h3, h4⟩ := ih r vs' hr' hvs
            obtain ⟨ad, u, g1, g2, g3⟩ := cAgg_load (P := P) hr hk hv (hf.tmps c ht)
            refine ⟨u :: us, ?_, .cons g3 h4⟩
            have hA : (asAddr (a.tmps.getD c Go.undef)).run P w = .ok ad w := by rw [g1]; rfl
            have hB : (resSem a.tmps (.cell c t)).run P w = .ok u w := by simp only [resSem, Sem.run_bind, hA, Result.andThen_ok, g2]
            simp only [List.mapM_cons, Sem.run_bind, hB, Sem.run_pure, Result.andThen_ok]
            rw [h3]; rfl
          · cases h2
        · cases h1
      · cases h1

def ends : SExit → Bool
  | .exit _ => false
  | _ => true

theorem afun_of_awp (hm : P.follows .mixedOrders = true) {f : FuncId} {sf : SFunc} (hc : cFunc P f = some sf) {args : List AVal} {σ σ' : Heap} {v : AVal} (hlen : args.length ≤ sf.ntmps)
    (h : awp P sf.body (fun e fr σ1 => ends e = true ∧ resOf sf.results fr σ1 = some v ∧ σ1 = σ') (Frame.ofArgs 0 args) σ) : AFun P f args σ v σ' ∧ ∃ fn, P.funcs[f]? = some fn ∧ fn.body.isSome = true ∧ (fn.name == "runtime.NumGoroutine") = false := by
  unfold cFunc at hc
  split at hc
  · rename_i fn hfn
    split at hc
    · rename_i c hcb
      split at hc
      · rename_i b r hb hres
        split at hc
        · cases hc
        · rename_i hname
          cases hc
          refine ⟨?_, fn, hfn, by rw [hcb]; rfl, by simpa using hname⟩
          intro φ w vs hvs hr
          have hl := hvs.length
          simp only at hlen
          refine calls_of_wp hfn hcb ?_
          refine awp_sound (n := fn.ntmps) hm c b _ _ φ _ σ _ w hb h ⟨?_, ?_, rfl⟩ hr ?_
          · simp; omega
          · intro t ht
            rw [ofArgs_get]
            simp only [Nat.zero_le, if_true, Nat.sub_zero]
            by_cases hta : t < args.length
            · obtain ⟨u, hu, hur⟩ := hvs.get t args[t] (by simp [hta])
              have : (vs.toArray ++ Array.replicate (fn.ntmps - vs.toArray.size) Go.undef).getD t Go.undef = u := by
                have htv : t < vs.length := by omega
                rw [Array.getD_eq_getD_getElem?, Array.getElem?_append_left (by simpa using htv)]
                simp only [List.getElem?_toArray, hu, Option.getD_some]
              rw [this]
              simpa [hta] using hur
            · have : (vs.toArray ++ Array.replicate (fn.ntmps - vs.toArray.size) Go.undef).getD t Go.undef = Go.undef := by
                rw [Array.getD_eq_getD_getElem?, Array.getElem?_append_right (by simp; omega)]
                simp only [Array.getElem?_replicate]
                split <;> rfl
              rw [this, List.getElem?_eq_none (by omega)]
              exact VR.undef φ
          · intro φ' fr' σ1 se e a' w' h1 h2 h3 h4 ⟨g1, g2, g3⟩
            subst g3
            have hfin : a'.defers = [] ∧ ∃ u, (results fn a'.tmps).run P w' = .ok u w' ∧ ∃ v' φ'', Ending.returned u = .returned v' ∧ φ.le φ'' ∧ VR φ'' v v' ∧ Rel φ'' σ1 w' := by
              refine ⟨h3.defers, ?_⟩
              unfold resOf at g2
              cases hrv : rvals r fr' σ1 with
              | none => rw [hrv] at g2; cases g2
              | some vals =>
                rw [hrv] at g2
                obtain ⟨us, k1, k2⟩ := results_ok (P := P) h4 h3 fn.results.toList r vals hres hrv
                have hrun : (results fn a'.tmps).run P w' = .ok (if h : us.toArray.size = 1 then us.toArray[0] else .tuple us.toArray) w' := by
                  have hrs : results fn a'.tmps = (fn.results.mapM (resSem a'.tmps)) >>= fun (vs : Array Value) => pure (if h : vs.size = 1 then vs[0] else .tuple vs) := rfl
                  rw [hrs]
                  simp only [Sem.run_bind]
                  rw [Array.mapM_eq_mapM_toList]
                  simp only [Sem.run_map]
                  rw [k1]
                  rfl
                refine ⟨_, hrun, _, φ', rfl, h1, ?_, h4⟩
                cases vals with
                | nil =>
                  cases k2; cases g2
                  exact VR.tup (vs := []) .nil
                | cons x l =>
                  cases l with
                  | nil =>
                    cases k2 with
                    | cons k3 k4 => cases k4; cases g2; simpa using k3
                  | cons y l =>
                    cases k2 with
                    | cons k3 k4 => cases k4 with
                      | cons k5 k6 =>
                        cases g2
                        rw [dif_neg (by simp)]
                        exact VR.tup (.cons k3 (.cons k5 k6))
            cases h2 with
            | normal => exact hfin
            | ret => exact hfin
            | exit id => simp [ends] at g1
      · cases hc
    · cases hc
  · cases hc

theorem acall_of_afun {f : FuncId} {args : List AVal} {σ σ' : Heap} {v : AVal} (h : AFun P f args σ v σ') (hf : ∃ fn, P.funcs[f]? = some fn ∧ fn.body.isSome = true ∧ (fn.name == "runtime.NumGoroutine") = false) : ACall P f args σ v σ' := by
  intro φ w vs hvs hr o a next Q hn
  obtain ⟨fn, h1, h2, h3⟩ := hf
  have hrun : (callFunc f vs.toArray).run P w = .ok (.enter f vs.toArray) w := by
    have hb : fn.body.isNone = false := by cases hfb : fn.body <;> simp_all
    have h3' : ¬ fn.name = "runtime.NumGoroutine" := by simpa using h3
    simp only [callFunc, Sem.run_bind, run_program, Result.andThen_ok, h1, h3, Bool.false_eq_true, if_false, hb, Sem.run_pure]
  rw [hrun]
  simp only [Oper.upon]
  refine (h φ w vs hvs hr).mono ?_
  rintro e w' ⟨v', φ', rfl, g1, g2, g3⟩
  exact hn φ' v' w' g1 g2 g3

/-- what is shown of a function: some outcome, and what holds of it -/
def MSpec (P : Program) (f : FuncId) (args : List AVal) (σ : Heap) (R : AVal → Heap → Prop) : Prop := ∃ v σ', ACall P f args σ v σ' ∧ R v σ'
theorem spec_of_awp (hm : P.follows .mixedOrders = true) {f : FuncId} {sf : SFunc} (hc : cFunc P f = some sf) {args : List AVal} {σ : Heap} {R : AVal → Heap → Prop} (hlen : args.length ≤ sf.ntmps)
    (h : awp P sf.body (fun e fr σ1 => ends e = true ∧ ∃ v, resOf sf.results fr σ1 = some v ∧ R v σ1) (Frame.ofArgs 0 args) σ) : MSpec P f args σ R := by
  obtain ⟨e, f', s, ⟨h1, v, h2, h3⟩, h4⟩ := awp_out _ _ _ _ h
  obtain ⟨g1, g2⟩ := afun_of_awp hm hc (σ' := s) (v := v) hlen (h4 _ ⟨h1, h2, rfl⟩)
  exact ⟨v, s, acall_of_afun g1 g2, h3⟩
/-- the same, of a function that is called from outside -/
def FSpec (P : Program) (f : FuncId) (args : List AVal) (σ : Heap) (R : AVal → Heap → Prop) : Prop := ∃ v σ', AFun P f args σ v σ' ∧ R v σ'
theorem fspec_of_awp (hm : P.follows .mixedOrders = true) {f : FuncId} {sf : SFunc} (hc : cFunc P f = some sf) {args : List AVal} {σ : Heap} {R : AVal → Heap → Prop} (hlen : args.length ≤ sf.ntmps)
    (h : awp P sf.body (fun e fr σ1 => ends e = true ∧ ∃ v, resOf sf.results fr σ1 = some v ∧ R v σ1) (Frame.ofArgs 0 args) σ) : FSpec P f args σ R := by
  obtain ⟨e, f', s, ⟨h1, v, h2, h3⟩, h4⟩ := awp_out _ _ _ _ h
  obtain ⟨g1, g2⟩ := afun_of_awp hm hc (σ' := s) (v := v) hlen (h4 _ ⟨h1, h2, rfl⟩)
  exact ⟨v, s, g1, h3⟩
end
end Go.Mini
set_option linter.unusedVariables false
set_option linter.unusedSimpArgs false
namespace Go.Mini
open Go

/-! ### Equations by which a weakest precondition is computed -/
section
variable {P : Program} {Q : SExit → Frame → Heap → Prop} {K : Frame → Heap → Prop} {fr : Frame} {σ : Heap}
theorem w_skip : awp P .skip Q fr σ = Q .normal fr σ := Eq.trans rfl rfl
theorem w_seq (a b : SCode) : awp P (.seq a b) Q fr σ = awp P a (thn (awp P b Q) Q) fr σ := Eq.trans rfl rfl
theorem w_reg (ops : List SOper) : awp P (.reg none ops) Q fr σ = opswp P ops (Q .normal) fr σ := Eq.trans rfl rfl
theorem w_draw (tab : List Nat) (ops : List SOper) : awp P (.reg (some tab) ops) Q fr σ = drawwp P tab 0 ops [] (Q .normal) fr σ := Eq.trans rfl rfl
theorem w_regA (tab : List Nat) (ops : List SOper) : awp P (.regA tab ops) Q fr σ = Heap.resvE (resvs ops) (fun σ' => drawwp P tab 0 (instOps σ.next ops) [] (Q .normal) fr σ') σ := Eq.trans rfl rfl
theorem rE_nil (K : Heap → Prop) : Heap.resvE [] K σ = K σ := Eq.trans rfl rfl
theorem rE_some (zs : List AVal) (l : List (Option (List AVal))) (K : Heap → Prop) : Heap.resvE (some zs :: l) K σ = Heap.resvE l K (σ.new (.cells zs none)) := Eq.trans rfl rfl
theorem rE_none (l : List (Option (List AVal))) (K : Heap → Prop) : Heap.resvE (none :: l) K σ = ∃ zs, Heap.resvE l K (σ.new (.cells zs none)) := Eq.trans rfl rfl
theorem w_block (id : Nat) (c : SCode) : awp P (.block id c) Q fr σ = awp P c (inBlk id Q) fr σ := Eq.trans rfl rfl
theorem w_exit (id : Nat) : awp P (.exit id) Q fr σ = Q (.exit id) fr σ := Eq.trans rfl rfl
theorem w_ret : awp P .ret Q fr σ = Q .ret fr σ := Eq.trans rfl rfl
theorem w_cond (c : Opd) (a b : SCode) : awp P (.cond c a b) Q fr σ = match c.ev fr with
    | .bool true => awp P a Q fr σ
    | .bool false => awp P b Q fr σ
    | _ => False := Eq.trans rfl rfl
def goG (g : Option Bool) (A B : Heap → Prop) (σ : Heap) : Prop := match g with
  | some true => A σ
  | some false => B σ
  | none => False
theorem goG_true (A B : Heap → Prop) : goG (some true) A B σ = A σ := Eq.trans rfl rfl
theorem goG_false (A B : Heap → Prop) : goG (some false) A B σ = B σ := Eq.trans rfl rfl
def bOf : AVal → Option Bool
  | .bool b => some b
  | _ => none
/-- a test whose answer is open: both ways -/
theorem goG_bool {b : Bool} {A B : Heap → Prop} (ht : b = true → A σ) (hf : b = false → B σ) : goG (some b) A B σ := by
  cases b with
  | true => exact ht rfl
  | false => exact hf rfl
theorem w_cond_go {c : Opd} {a b : SCode} : awp P (.cond c a b) Q fr σ = goG (bOf (c.ev fr)) (awp P a Q fr) (awp P b Q fr) σ := by
  simp only [awp]; cases c.ev fr with
  | bool b => cases b <;> rfl
  | _ => rfl
theorem bOf_bool (b : Bool) : bOf (.bool b) = some b := Eq.trans rfl rfl
theorem thn_normal (A : Frame → Heap → Prop) : thn A Q .normal fr σ = A fr σ := Eq.trans rfl rfl
theorem thn_exit (A : Frame → Heap → Prop) (id : Nat) : thn A Q (.exit id) fr σ = Q (.exit id) fr σ := Eq.trans rfl rfl
theorem thn_ret (A : Frame → Heap → Prop) : thn A Q .ret fr σ = Q .ret fr σ := Eq.trans rfl rfl
theorem inBlk_normal (id : Nat) : inBlk id Q .normal fr σ = Q .normal fr σ := Eq.trans rfl rfl
theorem inBlk_ret (id : Nat) : inBlk id Q .ret fr σ = Q .ret fr σ := Eq.trans rfl rfl
theorem inBlk_exit (id j : Nat) : inBlk id Q (.exit j) fr σ = if j = id then Q .normal fr σ else Q (.exit j) fr σ := by
  simp only [inBlk]; split <;> rfl

theorem o_nil : opswp P [] K fr σ = K fr σ := Eq.trans rfl rfl
/-- a plain operation, a read -/
def go1 (r : Option (AVal × Heap)) (K : AVal → Heap → Prop) : Prop := match r with
  | some (v, σ) => K v σ
  | none => False
theorem go1_some (v : AVal) (σ : Heap) (K : AVal → Heap → Prop) : go1 (some (v, σ)) K = K v σ := Eq.trans rfl rfl
def goM (r : Option AVal) (σ : Heap) (K : AVal → Heap → Prop) : Prop := match r with
  | some v => K v σ
  | none => False
theorem goM_some (v : AVal) (σ : Heap) (K : AVal → Heap → Prop) : goM (some v) σ K = K v σ := Eq.trans rfl rfl
theorem go1_map (r : Option AVal) (σ : Heap) (K : AVal → Heap → Prop) : go1 (r.map fun v => (v, σ)) K = goM r σ K := by cases r <;> rfl
/-- the operations behind one -/
structure oNext (P : Program) (os : List SOper) (K : Frame → Heap → Prop) (fr : Frame) (d : Option Nat) (v : AVal) (σ : Heap) : Prop where
  out : opswp P os K (fr.putO d v) σ
theorem oNext_eq (os : List SOper) (d : Option Nat) (v : AVal) : oNext P os K fr d v σ = opswp P os K (fr.putO d v) σ := propext ⟨fun h => h.out, fun h => ⟨h⟩⟩
theorem oNext_fun (os : List SOper) (d : Option Nat) : oNext P os K fr d = fun v σ => opswp P os K (fr.putO d v) σ := by funext v σ; exact oNext_eq os d v
theorem o_plain (d : Option Nat) (op : SOp) (af : List Nat) (os : List SOper) (h : ∀ f l, op ≠ .call f l) : opswp P (⟨d, op, none, af⟩ :: os) K fr σ = go1 (aop op fr σ) (oNext P os K fr d) := by
  simp only [opswp, wantd, opwp, go1, oNext_fun] <;> (cases op <;> first | rfl | exact absurd rfl (h _ _))
theorem o_guard (d : Option Nat) (op : SOp) (t : Nat) (b : Bool) (af : List Nat) (os : List SOper) : opswp P (⟨d, op, some (t, b), af⟩ :: os) K fr σ =
    goG (wantd (some (t, b)) fr) (opswp P (⟨d, op, none, af⟩ :: os) K fr) (opswp P os K (fr.putO d .undef)) σ := by
  simp only [opswp, goG]
  have : wantd none fr = some true := rfl
  rw [this]
  cases wantd (some (t, b)) fr with
  | none => rfl
  | some c => cases c <;> rfl
/-- a call of a known function -/
def goF (P : Program) (f : AVal) (l : List AVal) (R : AVal → Heap → Prop) (σ : Heap) : Prop := match f with
  | .fn g caps => MSpec P g (l ++ caps) σ R
  | _ => False
theorem goF_fn (g : FuncId) (caps l : List AVal) (R : AVal → Heap → Prop) : goF P (.fn g caps) l R σ = MSpec P g (l ++ caps) σ R := Eq.trans rfl rfl
theorem o_call (d : Option Nat) (f : Opd) (l : List Opd) (af : List Nat) (os : List SOper) : opswp P (⟨d, .call f l, none, af⟩ :: os) K fr σ = goF P (f.ev fr) (evs fr l) (oNext P os K fr d) σ := by
  simp only [opswp, wantd, opwp, goF, MSpec, oNext_fun] <;> cases f.ev fr <;> rfl
theorem wantd_bool (t : Nat) (b c : Bool) (h : fr.get t = .bool c) : wantd (some (t, b)) fr = some (c == b) := by simp only [wantd, h]
theorem wantd_tup (t : Nat) (b : Bool) (l : List AVal) (h : fr.get t = .tup l) : wantd (some (t, b)) fr = some false := by simp only [wantd, h]

theorem go1_congr {r r' : Option (AVal × Heap)} (K : AVal → Heap → Prop) (h : r = r') : go1 r K = go1 r' K := h ▸ rfl
theorem goM_congr {r r' : Option AVal} {σ : Heap} (K : AVal → Heap → Prop) (h : r = r') : goM r σ K = goM r' σ K := h ▸ rfl
theorem goG_congr {g g' : Option Bool} (A B : Heap → Prop) (σ : Heap) (h : g = g') : goG g A B σ = goG g' A B σ := h ▸ rfl

/-! ### Cells -/
theorem cell_new (k off : Nat) : σ.cell (.new k) off = match σ.get k with
    | some (.cells cs _) => cs[off]?
    | some (.tcells _ cs) => cs[off]?
    | _ => none := Eq.trans rfl rfl
theorem wantd_get (t : Nat) (b : Bool) : wantd (some (t, b)) fr = match fr.get t with
    | .bool c => some (c == b)
    | .tup _ => some false
    | _ => none := by
  simp only [wantd]; cases fr.get t <;> rfl
theorem wantd_none : wantd none fr = some true := Eq.trans rfl rfl

theorem bare_next (W : World) (F : FB) : (⟨W, F, .nil, 0⟩ : Heap).next = 0 := Eq.trans rfl rfl


theorem get_nil (t : Nat) : Frame.get .nil t = .undef := Eq.trans rfl rfl
theorem putO_some (t : Nat) (v : AVal) : fr.putO (some t) v = fr.put t v := Eq.trans rfl rfl
theorem putO_none (v : AVal) : fr.putO none v = fr := Eq.trans rfl rfl
theorem ev_tmp (t : Nat) : Opd.ev fr (.tmp t) = fr.get t := Eq.trans rfl rfl
theorem ev_lit (a : AVal) : Opd.ev fr (.lit a) = a := Eq.trans rfl rfl
theorem evs_nil : evs fr [] = [] := Eq.trans rfl rfl
theorem evs_cons' (x : Opd) (l : List Opd) : evs fr (x :: l) = x.ev fr :: evs fr l := Eq.trans rfl rfl
theorem evO_none : evO fr none = none := Eq.trans rfl rfl
theorem evO_some (x : Opd) : evO fr (some x) = some (x.ev fr) := Eq.trans rfl rfl
theorem evParts_nil : evParts fr [] = [] := Eq.trans rfl rfl
theorem evParts_cons (i s : Nat) (x : Opd) (l : List (Nat × Nat × Opd)) : evParts fr ((i, s, x) :: l) = (i, s, x.ev fr) :: evParts fr l := Eq.trans rfl rfl

theorem MSpec.of {f : FuncId} {args : List AVal} {v : AVal} {σ' : Heap} {R : AVal → Heap → Prop} (h : ACall P f args σ v σ') (hr : R v σ') : MSpec P f args σ R := ⟨v, σ', h, hr⟩
theorem MSpec.mono {f : FuncId} {args : List AVal} {R R' : AVal → Heap → Prop} (h : MSpec P f args σ R) (hr : ∀ v σ', R v σ' → R' v σ') : MSpec P f args σ R' :=
  let ⟨v, σ', h1, h2⟩ := h; ⟨v, σ', h1, hr v σ' h2⟩
end
end Go.Mini
set_option linter.unusedVariables false
set_option linter.unusedSimpArgs false
namespace Go.Mini
open Go

/-! ### Values without new ids -/
mutual
def AVal.pure : AVal → Bool
  | .ptr i _ => match i with
    | .old _ => true
    | .new _ => false
  | .slc i _ _ c => match i, c with
    | .old _, .ex _ => true
    | _, _ => false
  | .mp i => match i with
    | .old _ => true
    | .new _ => false
  | .fn _ l => AVal.pures l
  | .agg l => AVal.pures l
  | .tup l => AVal.pures l
  | .fsl _ l => AVal.pures l
  | .fptr l => AVal.pures l
  | _ => true
def AVal.pures : List AVal → Bool
  | [] => true
  | a :: l => a.pure && AVal.pures l
end
theorem pures_iff : ∀ {l : List AVal}, AVal.pures l = true ↔ ∀ a ∈ l, a.pure = true
  | [] => by simp [AVal.pures]
  | a :: l => by simp [AVal.pures, pures_iff (l := l)]
theorem pures_map {α : Type} (f : α → AVal) (l : List α) (h : ∀ x ∈ l, (f x).pure = true) : AVal.pures (l.map f) = true := by
  rw [pures_iff]; intro a ha; rw [List.mem_map] at ha; obtain ⟨x, hx, rfl⟩ := ha; exact h x hx
theorem cells_pure {a : AVal} (h : a.pure = true) : AVal.pures a.cells = true := by
  cases a with
  | agg l => simpa [AVal.cells, AVal.pure] using h
  | _ => simp only [AVal.cells, AVal.pures, h, Bool.and_true]
theorem flat_pures {els : List AVal} (h : AVal.pures els = true) : AVal.pures (els.flatMap AVal.cells) = true := by
  rw [pures_iff] at *
  intro a ha
  rw [List.mem_flatMap] at ha
  obtain ⟨e, he, ha⟩ := ha
  exact pures_iff.1 (cells_pure (h e he)) a ha
theorem VR.pure {φ φ' : Phi} (hF : ∀ b j v, φ.F b j = some v → φ'.F b j = some v) {a : AVal} {v : Value} (h : VR φ a v) : a.pure = true → VR φ' a v := by
  refine VR.rec (motive_1 := fun a v _ => a.pure = true → VR φ' a v) (motive_2 := fun l vs _ => AVal.pures l = true → VRs φ' l vs) ?_ ?_ ?_ ?_ ?_ ?_ ?_ ?_ ?_ ?_ ?_ ?_ ?_ ?_ ?_ ?_ ?_ ?_ ?_ ?_ ?_ ?_ h
  · exact fun b _ => .bool b
  · exact fun k n _ => .int k n
  · exact fun s _ => .str s
  · exact fun _ => .nilp
  · intro i b off e hp
    cases i with
    | old b' => exact .ptr off e
    | new k => simp [AVal.pure] at hp
  · exact fun _ => .nils
  · intro i b off len c e hp
    cases i with
    | old b' => exact .slcE off len c e
    | new k => simp [AVal.pure] at hp
  · intro k' b sz k off len c e hs hl hp
    simp [AVal.pure] at hp
  · exact fun a c _ => .emp a c
  · exact fun _ => .nilm
  · intro i b e hp
    cases i with
    | old b' => exact .mp e
    | new k => simp [AVal.pure] at hp
  · exact fun _ => .nilf
  · exact fun f _ _ _ ih hp => .fn f (ih (by simpa [AVal.pure] using hp))
  · exact fun _ ih hp => .agg (ih (by simpa [AVal.pure] using hp))
  · exact fun _ ih hp => .tup (ih (by simpa [AVal.pure] using hp))
  · exact fun v _ => .raw v
  · exact fun c _ hh he hc ih hp => .fsl c (ih (flat_pures (by simpa [AVal.pure] using hp))) (fun j v e => hF _ _ _ (hh j v e)) he hc
  · exact fun k a c h _ => .fslN k a c h
  · exact fun _ hh ih hp => .fptr (ih (by simpa [AVal.pure] using hp)) (fun j v e => hF _ _ _ (hh j v e))
  · exact fun a _ => .emp0 a
  · exact fun _ => .nil
  · intro a v l vs _ _ ih1 ih2 hp
    simp only [AVal.pures, Bool.and_eq_true] at hp
    exact .cons (ih1 hp.1) (ih2 hp.2)
theorem VRs.pure {φ φ' : Phi} (hF : ∀ b j v, φ.F b j = some v → φ'.F b j = some v) : ∀ {l : List AVal} {vs : List Value}, VRs φ l vs → AVal.pures l = true → VRs φ' l vs
  | [], _, h, _ => by cases h; exact .nil
  | a :: l, _, h, hp => by
    cases h with
    | cons h1 h2 =>
      simp only [AVal.pures, Bool.and_eq_true] at hp
      exact .cons (h1.pure hF hp.1) (VRs.pure hF h2 hp.2)

/-! ### The empty heap over a world -/
def Heap.bare (W : World) (F : FB) : Heap := ⟨W, F, .nil, 0⟩
theorem rel_bare (w : World) (F : FB) (hF : ∀ b j v, F.f b j = some v → w.cell? ⟨b, j, none⟩ = some v) : Rel (Phi.bare F.f) (Heap.bare w F) w where
  size := Nat.le_refl _
  old := fun _ _ => rfl
  new := fun k b sz h => by cases h
  inj := fun k k' b sz sz' h => by cases h
  fresh := fun _ _ => rfl
  resv := fun _ h => h.elim
  tape := rfl
  os := rfl
  output := rfl
  frz := hF
  apart := fun k b sz j h => by cases h
  base := fun _ _ _ _ h => h
  drawn := fun _ => Nat.le_refl _

/-! ### Seen as something that never changes -/
/-- a value of one heap is, in another heap over the same world, another value -/
def Sees (σ : Heap) (u : AVal) (τ : Heap) (v : AVal) : Prop := ∀ φ w x, VR φ u x → Rel φ σ w → ∃ φ' : Phi, φ.le φ' ∧ VR φ' v x ∧ Rel φ' τ w
def SeesL (σ : Heap) (l : List AVal) (τ : Heap) (l' : List AVal) : Prop := ∀ φ w xs, VRs φ l xs → Rel φ σ w → ∃ φ' : Phi, φ.le φ' ∧ VRs φ' l' xs ∧ Rel φ' τ w
theorem Sees.refl (σ : Heap) (u : AVal) : Sees σ u σ u := fun φ w x hx hr => ⟨φ, φ.le_refl, hx, hr⟩
theorem SeesL.nil (σ : Heap) : SeesL σ [] σ [] := fun φ w x hx hr => ⟨φ, φ.le_refl, hx, hr⟩
theorem SeesL.cons {σ σ1 τ : Heap} {a a' : AVal} {l l' : List AVal} (h : Sees σ a σ1 a') (h' : SeesL σ1 l τ l') : SeesL σ (a :: l) τ (a' :: l') := by
  intro φ w xs hx hr
  cases hx with
  | cons h1 h2 =>
    obtain ⟨φ1, g1, g2, g3⟩ := h φ w _ h1 hr
    obtain ⟨φ2, k1, k2, k3⟩ := h' φ1 w _ (h2.mono g1) g3
    exact ⟨φ2, Phi.le_trans g1 k1, .cons (g2.mono k1) k2, k3⟩
theorem SeesL.tup {σ τ : Heap} {l l' : List AVal} (h : SeesL σ l τ l') : Sees σ (.tup l) τ (.tup l') := by
  intro φ w x hx hr
  cases hx with
  | tup hx => obtain ⟨φ1, g1, g2, g3⟩ := h φ w _ hx hr; exact ⟨φ1, g1, .tup g2, g3⟩
theorem SeesL.agg {σ τ : Heap} {l l' : List AVal} (h : SeesL σ l τ l') : Sees σ (.agg l) τ (.agg l') := by
  intro φ w x hx hr
  cases hx with
  | agg hx => obtain ⟨φ1, g1, g2, g3⟩ := h φ w _ hx hr; exact ⟨φ1, g1, .agg g2, g3⟩
theorem Sees.nils (σ : Heap) (k : Nat) : Sees σ .nils σ (.fsl k []) := by
  intro φ w x hx hr; cases hx; exact ⟨φ, φ.le_refl, .fslN _ _ _ (fun _ => rfl), hr⟩
theorem Sees.emp (σ : Heap) (k : Nat) : Sees σ .emp σ (.fsl k []) := by
  intro φ w x hx hr; cases hx; exact ⟨φ, φ.le_refl, .fslN _ _ _ (fun h => by cases h), hr⟩
theorem Sees.emp0 (σ : Heap) (k : Nat) : Sees σ .emp0 σ (.fsl k []) := by
  intro φ w x hx hr; cases hx; exact ⟨φ, φ.le_refl, .fslN _ _ _ (fun _ => rfl), hr⟩
theorem Sees.k0 (σ : Heap) (k k' : Nat) : Sees σ (.fsl k []) σ (.fsl k' []) := by
  intro φ w x hx hr
  cases hx with
  | fslN _ a c h => exact ⟨φ, φ.le_refl, .fslN _ _ _ h, hr⟩
  | fsl c h1 h2 h3 h4 => exact ⟨φ, φ.le_refl, .fslN _ _ _ (fun h => by cases h), hr⟩

/-- a block is frozen: its cells never change from now on -/
theorem freeze_ok {φ : Phi} {σ : Heap} {w : World} (hr : Rel φ σ w) {K b sz : Nat} {cs : List AVal} {opn : Option TypeId} (hK : φ K = some (b, sz)) (hg : σ.get K = some (.cells cs opn)) :
    ∃ φ' : Phi, φ.le φ' ∧ Rel φ' (σ.set K .dead) w ∧ ∃ vs : List Value, VRs φ' cs vs ∧ φ'.holds b 0 vs := by
  obtain ⟨cs', T, fz, ho, h1, h2, h3, hT, h4, h5⟩ := hr.block hK hg
  have hlive : σ.live K := ⟨_, hg, by intro h; cases h⟩
  have hnone := fun j => hr.apart K b sz j hK hlive
  let φ' : Phi := ⟨φ.m, φ.res, fun b' j => if b' = b then (if j < cs.length then w.cell? ⟨b, j, none⟩ else none) else φ.F b' j⟩
  have hsub : φ.sub φ' := by
    refine ⟨fun k x e => e, fun b' j v e => ?_⟩
    have : b' ≠ b := by rintro rfl; rw [hnone] at e; cases e
    show (if b' = b then _ else φ.F b' j) = some v
    rw [if_neg this]; exact e
  have hkill := hr.kill K
  have hcell : ∀ j, w.cell? ⟨b, j, none⟩ = cs'[j]? := fun j => cell?_cells ho j
  refine ⟨φ', ⟨hsub, rfl⟩, ⟨hkill.size, hkill.old, ?_, hkill.inj, hkill.fresh, hkill.resv, hkill.tape, hkill.os, hkill.output, ?_, ?_, ?_, hkill.drawn⟩, cs'.toList.take cs.length, VRs.mono0 hsub h4, ?_⟩
  · intro k b' sz' e
    obtain ⟨g1, o, g2, g3⟩ := hkill.new k b' sz' e
    exact ⟨g1, o, g2, fun blk hb => (g3 blk hb).mono0 hsub⟩
  · intro b' j v e
    have e : (if b' = b then (if j < cs.length then w.cell? ⟨b, j, none⟩ else none) else φ.F b' j) = some v := e
    split at e
    · rename_i hb
      subst hb
      split at e
      · exact e
      · cases e
    · exact hr.frz b' j v e
  · intro k b' sz' j e hl
    show (if b' = b then _ else φ.F b' j) = none
    have hne : b' ≠ b := by
      rintro rfl
      obtain ⟨x, hx, hd⟩ := hl
      rw [Heap.get_set] at hx
      split at hx
      · cases hx; exact hd rfl
      · rename_i hne
        exact hne (hr.inj K k b' sz sz' hK e hlive ⟨x, hx, hd⟩)
    rw [if_neg hne]
    exact hkill.apart k b' sz' j e hl
  · intro b' j v hb e
    have e : (if b' = b then (if j < cs.length then w.cell? ⟨b, j, none⟩ else none) else φ.F b' j) = some v := e
    have := (hr.new K b sz hK).1
    have hb : b' < σ.W.heap.size := hb
    rw [if_neg (by omega)] at e
    exact hr.base b' j v hb e
  · intro j v e
    show (if b = b then (if 0 + j < cs.length then w.cell? ⟨b, 0 + j, none⟩ else none) else φ.F b (0 + j)) = some v
    have hj : j < cs.length := by
      have := (List.getElem?_eq_some_iff.1 e).1
      rw [List.length_take] at this; omega
    rw [if_pos rfl, Nat.zero_add, if_pos hj, hcell]
    have := take_getElem? _ _ _ _ e
    simpa using this
theorem Sees.own {σ : Heap} {K off n : Nat} {cap : Cap} {cs : List AVal} {opn : Option TypeId} {k : Nat} {els : List AVal} (hg : σ.get K = some (.cells cs opn)) (hn : els.length = n) (he : ∀ e ∈ els, e.cells.length = k)
    (hc : els.flatMap AVal.cells = (cs.drop off).take (n * k)) (hcap : ∀ c, cap = .ex c → n ≤ c) : Sees σ (.slc (.new K) off n cap) (σ.set K .dead) (.fsl k els) := by
  intro φ w x hx hr
  have key : ∀ b sz c, φ K = some (b, sz) → n ≤ c → ∃ φ' : Phi, φ.le φ' ∧ VR φ' (.fsl k els) (.slice (some ⟨b, off, none⟩) n c) ∧ Rel φ' (σ.set K .dead) w := by
    intro b sz c hK hnc
    obtain ⟨φ', g1, g2, vs, g3, g4⟩ := freeze_ok hr hK hg
    refine ⟨φ', g1, ?_, g2⟩
    subst hn
    refine .fsl (vs := (vs.drop off).take (els.length * k)) c ?_ ?_ he hnc
    · rw [hc]; exact (g3.drop _).take _
    · intro j v e
      have e := take_getElem? _ _ _ _ e
      rw [List.getElem?_drop] at e
      have := g4 _ v e
      rwa [Nat.zero_add] at this
  cases hx with
  | slcE _ _ c hi =>
    simp only [Id.real, Option.map_eq_some_iff] at hi
    obtain ⟨⟨b, sz⟩, hK, rfl⟩ := hi
    exact key b sz c hK (hcap c rfl)
  | slcG _ _ c hK hs hl => exact key _ _ c hK hl

/-- a heap is, over the same world, another heap -/
def HSees (σ τ : Heap) : Prop := ∀ φ w, Rel φ σ w → ∃ φ' : Phi, φ.le φ' ∧ Rel φ' τ w
theorem HSees.refl (σ : Heap) : HSees σ σ := fun φ w hr => ⟨φ, φ.le_refl, hr⟩
theorem HSees.trans {σ τ ρ : Heap} (h : HSees σ τ) (h' : HSees τ ρ) : HSees σ ρ := fun φ w hr => by
  obtain ⟨φ1, g1, g2⟩ := h φ w hr
  obtain ⟨φ2, k1, k2⟩ := h' φ1 w g2
  exact ⟨φ2, Phi.le_trans g1 k1, k2⟩
theorem HSees.sees {σ τ ρ : Heap} {u v : AVal} (h : HSees σ τ) (h' : Sees τ u ρ v) : Sees σ u ρ v := fun φ w x hx hr => by
  obtain ⟨φ1, g1, g2⟩ := h φ w hr
  obtain ⟨φ2, k1, k2, k3⟩ := h' φ1 w x (hx.mono g1) g2
  exact ⟨φ2, Phi.le_trans g1 k1, k2, k3⟩
theorem Sees.trans {σ τ ρ : Heap} {u v z : AVal} (h : Sees σ u τ v) (h' : Sees τ v ρ z) : Sees σ u ρ z := fun φ w x hx hr => by
  obtain ⟨φ1, g1, g2, g3⟩ := h φ w x hx hr
  obtain ⟨φ2, k1, k2, k3⟩ := h' φ1 w x g2 g3
  exact ⟨φ2, Phi.le_trans g1 k1, k2, k3⟩
/-- a cell's value, seen as another one -/
theorem Sees.cell {σ σ1 : Heap} {K off n j : Nat} {cap : Cap} {cs : List AVal} {opn : Option TypeId} {x x' : AVal} (hg : σ.get K = some (.cells cs opn)) (hj : cs[j]? = some x) (hs : Sees σ x σ1 x') (hg1 : σ1.get K = some (.cells cs opn)) :
    Sees σ (.slc (.new K) off n cap) (σ1.set K (.cells (cs.set j x') opn)) (.slc (.new K) off n cap) := by
  intro φ w xx hxx hr
  obtain ⟨b, sz, hK⟩ : ∃ b sz, φ K = some (b, sz) := by
    cases hxx with
    | slcE _ _ c hi =>
      simp only [Id.real, Option.map_eq_some_iff] at hi
      obtain ⟨⟨b, sz⟩, hK, _⟩ := hi
      exact ⟨b, sz, hK⟩
    | slcG _ _ c hK _ _ => exact ⟨_, _, hK⟩
  obtain ⟨cs', T, fz, ho, h1, h2, h3, hT, h4, h5⟩ := hr.block hK hg
  obtain ⟨v, hv, hvr⟩ := h4.get j x hj
  obtain ⟨φ1, g1, g2, g3⟩ := hs φ w v hvr hr
  have hK1 : φ1 K = some (b, sz) := g1.1.1 _ _ hK
  refine ⟨φ1, g1, hxx.mono g1, ?_⟩
  refine g3.change hK1 hg1 (by intro h; cases h) (o := .cells cs' T fz) (fun b' => ?_) rfl rfl rfl rfl (Nat.le_refl _) ?_
  · split
    · rename_i hb; rw [hb]; exact ho
    · rfl
  · refine .cells h1 (by simpa using h2) (by simpa using h3) hT ?_ h5
    rw [List.length_set]
    have h4' := (h4.mono g1).set j g2
    rwa [show (cs'.toList.take cs.length).set j v = cs'.toList.take cs.length from by
      apply List.ext_getElem?
      intro i
      by_cases hi : i = j
      · subst hi
        rw [List.getElem?_set_self (List.getElem?_eq_some_iff.1 hv).1, hv]
      · rw [List.getElem?_set_ne (fun h => hi h.symm)]] at h4'

/-! ### Calls whose arguments and answer never change: seen from an empty heap -/
theorem acall_bare {P : Program} {f : FuncId} {args : List AVal} {v : AVal} (ha : AVal.pures args = true) (hv : v.pure = true)
    (h : ∀ W F, ∃ u σ', ACall P f args (Heap.bare W F) u σ' ∧ ∃ τ, Sees σ' u τ v ∧ τ.W = W ∧ τ.F0 = F) (σ : Heap) : ACall P f args σ v σ := by
  intro φ w vs hvs hr o a next Q hn
  obtain ⟨u, σ', hc, τ, hs, hW, hF⟩ := h w ⟨φ.F, σ.F0.dr⟩
  refine hc (Phi.bare φ.F) w vs (VRs.pure (φ := φ) (φ' := Phi.bare φ.F) (fun _ _ _ e => e) hvs ha) (rel_bare w ⟨φ.F, σ.F0.dr⟩ hr.frz) o a next Q ?_
  intro φ1 v' w' hle hv' hr'
  obtain ⟨φ2, hle2, hv2, hr2⟩ := hs φ1 w' v' hv' hr'
  have hFF : ∀ b j x, φ.F b j = some x → φ2.F b j = some x := fun b j x e => hle2.1.2 _ _ _ (hle.1.2 _ _ _ e)
  have hsz : w.heap.size ≤ w'.heap.size := by rw [← hW]; exact hr2.size
  have keep : ∀ b, b < w.heap.size → w'.heap[b]? = w.heap[b]? := by
    intro b hb; rw [← hW] at hb ⊢; exact hr2.old b hb
  let φ3 : Phi := ⟨φ.m, φ.res, φ2.F⟩
  have hsub : φ.sub φ3 := ⟨fun _ _ e => e, hFF⟩
  refine hn φ3 v' w' ⟨hsub, rfl⟩ (VR.pure (φ := φ2) (φ' := φ3) (fun _ _ _ e => e) hv2 hv) ?_
  refine ⟨Nat.le_trans hr.size hsz, fun b hb => ?_, fun k b sz hk => ?_, hr.inj, hr.fresh, hr.resv, ?_, ?_, ?_, hr2.frz, ?_, ?_, ?_⟩
  · rw [keep b (Nat.lt_of_lt_of_le hb hr.size)]; exact hr.old b hb
  · obtain ⟨h1, o, h2, h3⟩ := hr.new k b sz hk
    refine ⟨h1, o, ?_, fun blk hb => (h3 blk hb).mono0 hsub⟩
    rw [keep b (hr.lt hk)]; exact h2
  · have := hr2.tape; rw [hW] at this; exact this.trans hr.tape
  · have := hr2.os; rw [hW] at this; exact this.trans hr.os
  · have := hr2.output; rw [hW] at this; exact this.trans hr.output
  · intro k b sz j hk hl
    show φ2.F b j = none
    cases hx : φ2.F b j with
    | none => rfl
    | some x =>
      have := hr2.base b j x (by rw [hW]; exact hr.lt hk) hx
      rw [hF] at this
      have this : φ.F b j = some x := this
      rw [hr.apart k b sz j hk hl] at this
      cases this
  · intro b j x hb hx
    have := hr2.base b j x (by rw [hW]; exact Nat.lt_of_lt_of_le hb hr.size) hx
    rw [hF] at this
    exact hr.base b j x hb this
  · intro h
    have h1 := hr2.drawn (by rw [hF]; exact h)
    rw [hW] at h1
    exact Nat.le_trans (hr.drawn h) h1

/-! ### What a call leaves behind and nobody knows of is let go -/
mutual
def AVal.within (D : Nat → Bool) : AVal → Bool
  | .ptr i _ => match i with
    | .old _ => true
    | .new k => D k
  | .slc i _ _ _ => match i with
    | .old _ => true
    | .new k => D k
  | .mp i => match i with
    | .old _ => true
    | .new k => D k
  | .fn _ l => AVal.withins D l
  | .agg l => AVal.withins D l
  | .tup l => AVal.withins D l
  | .fsl _ l => AVal.withins D l
  | .fptr l => AVal.withins D l
  | _ => true
def AVal.withins (D : Nat → Bool) : List AVal → Bool
  | [] => true
  | a :: l => a.within D && AVal.withins D l
end
theorem withins_iff {D : Nat → Bool} : ∀ {l : List AVal}, AVal.withins D l = true ↔ ∀ a ∈ l, a.within D = true
  | [] => by simp [AVal.withins]
  | a :: l => by simp [AVal.withins, withins_iff (l := l)]
theorem within_cells {D : Nat → Bool} {a : AVal} : AVal.withins D a.cells = true ↔ a.within D = true := by
  cases a with
  | agg l => simp [AVal.cells, AVal.within]
  | _ => simp only [AVal.cells, AVal.withins, Bool.and_true]
theorem flat_withins {D : Nat → Bool} {els : List AVal} : AVal.withins D (els.flatMap AVal.cells) = true ↔ AVal.withins D els = true := by
  rw [withins_iff, withins_iff]
  constructor
  · intro h e he
    rw [← within_cells, withins_iff]
    exact fun a ha => h a (List.mem_flatMap.2 ⟨e, he, ha⟩)
  · intro h a ha
    obtain ⟨e, he, ha⟩ := List.mem_flatMap.1 ha
    exact withins_iff.1 (within_cells.2 (h e he)) a ha
theorem VR.within {φ : Phi} {D : Nat → Bool} (hn : ∀ k x, φ k = some x → D k = true) {a : AVal} {v : Value} (h : VR φ a v) : a.within D = true := by
  have real : ∀ (i : Id) (b : Nat), i.real φ = some b → (match i with | .old _ => true | .new k => D k) = true := by
    intro i b e
    cases i with
    | old _ => rfl
    | new k =>
      simp only [Id.real, Option.map_eq_some_iff] at e
      obtain ⟨x, hx, _⟩ := e
      exact hn k x hx
  refine VR.rec (motive_1 := fun a v _ => a.within D = true) (motive_2 := fun l vs _ => AVal.withins D l = true) ?_ ?_ ?_ ?_ ?_ ?_ ?_ ?_ ?_ ?_ ?_ ?_ ?_ ?_ ?_ ?_ ?_ ?_ ?_ ?_ ?_ ?_ h
  · exact fun b => rfl
  · exact fun k n => rfl
  · exact fun s => rfl
  · exact rfl
  · intro i b off e; simp only [AVal.within]; exact real i b e
  · exact rfl
  · intro i b off len c e; simp only [AVal.within]; exact real i b e
  · intro k' b sz k off len c e hs hl; simp only [AVal.within]; exact real (.new k') b (by simp [Id.real, e])
  · exact fun a c => rfl
  · exact rfl
  · intro i b e; simp only [AVal.within]; exact real i b e
  · exact rfl
  · intro f l vs _ ih; simpa only [AVal.within] using ih
  · intro l vs _ ih; simpa only [AVal.within] using ih
  · intro l vs _ ih; simpa only [AVal.within] using ih
  · exact fun v => rfl
  · intro k els vs b off c _ _ _ _ ih; simp only [AVal.within]; exact flat_withins.1 ih
  · exact fun k a c _ => rfl
  · intro cs vs b off _ _ ih; simpa only [AVal.within] using ih
  · exact fun a => rfl
  · exact rfl
  · intro a v l vs _ _ ih1 ih2; simp only [AVal.withins, ih1, ih2, Bool.and_true]
def Phi.cut (φ : Phi) (D : Nat → Bool) (R : Nat → Prop) : Phi := ⟨fun k => if D k = true then φ.m k else none, R, φ.F⟩
theorem VR.cut {φ : Phi} {D : Nat → Bool} {R : Nat → Prop} {a : AVal} {v : Value} (h : VR φ a v) : a.within D = true → VR (φ.cut D R) a v := by
  have real : ∀ (i : Id) (b : Nat), i.real φ = some b → (match i with | .old _ => true | .new k => D k) = true → i.real (φ.cut D R) = some b := by
    intro i b e hb
    cases i with
    | old _ => exact e
    | new k =>
      have hb : D k = true := hb
      simp only [Id.real, Phi.cut, if_pos hb]; exact e
  refine VR.rec (motive_1 := fun a v _ => a.within D = true → VR (φ.cut D R) a v) (motive_2 := fun l vs _ => AVal.withins D l = true → VRs (φ.cut D R) l vs) ?_ ?_ ?_ ?_ ?_ ?_ ?_ ?_ ?_ ?_ ?_ ?_ ?_ ?_ ?_ ?_ ?_ ?_ ?_ ?_ ?_ ?_ h
  · exact fun b _ => .bool b
  · exact fun k n _ => .int k n
  · exact fun s _ => .str s
  · exact fun _ => .nilp
  · intro i b off e hp; simp only [AVal.within] at hp; exact .ptr off (real i b e hp)
  · exact fun _ => .nils
  · intro i b off len c e hp; simp only [AVal.within] at hp; exact .slcE off len c (real i b e hp)
  · intro k' b sz k off len c e hs hl hp
    have hp : D k' = true := hp
    exact .slcG (b := b) (sz := sz) off len c (by show (if D k' = true then φ.m k' else none) = some (b, sz); rw [if_pos hp]; exact e) hs hl
  · exact fun a c _ => .emp a c
  · exact fun _ => .nilm
  · intro i b e hp; simp only [AVal.within] at hp; exact .mp (real i b e hp)
  · exact fun _ => .nilf
  · intro f l vs _ ih hp; simp only [AVal.within] at hp; exact .fn f (ih hp)
  · intro l vs _ ih hp; simp only [AVal.within] at hp; exact .agg (ih hp)
  · intro l vs _ ih hp; simp only [AVal.within] at hp; exact .tup (ih hp)
  · exact fun v _ => .raw v
  · intro k els vs b off c _ hh he hc ih hp; simp only [AVal.within] at hp; exact .fsl c (ih (flat_withins.2 hp)) hh he hc
  · exact fun k a c h _ => .fslN k a c h
  · intro cs vs b off _ hh ih hp; simp only [AVal.within] at hp; exact .fptr (ih hp) hh
  · exact fun a _ => .emp0 a
  · exact fun _ => .nil
  · intro a v l vs _ _ ih1 ih2 hp
    simp only [AVal.withins, Bool.and_eq_true] at hp
    exact .cons (ih1 hp.1) (ih2 hp.2)
theorem VRs.within {φ : Phi} {D : Nat → Bool} (hn : ∀ k x, φ k = some x → D k = true) : ∀ {l : List AVal} {vs : List Value}, VRs φ l vs → AVal.withins D l = true
  | [], _, _ => rfl
  | _ :: _, _, h => by cases h with | cons h1 h2 => simp only [AVal.withins, h1.within hn, VRs.within hn h2, Bool.and_true]
theorem VRs.cut {φ : Phi} {D : Nat → Bool} {R : Nat → Prop} : ∀ {l : List AVal} {vs : List Value}, VRs φ l vs → AVal.withins D l = true → VRs (φ.cut D R) l vs
  | [], _, h, _ => by cases h; exact .nil
  | _ :: _, _, h, hp => by
    cases h with
    | cons h1 h2 =>
      simp only [AVal.withins, Bool.and_eq_true] at hp
      exact .cons (h1.cut hp.1) (VRs.cut h2 hp.2)
theorem EntRel.within {φ : Phi} {D : Nat → Bool} (hn : ∀ k x, φ k = some x → D k = true) {es : List (Int × AVal)} {es' : List MapEntry} (h : EntRel φ es es') : ∀ p ∈ es, p.2.within D = true := by
  induction h with
  | nil => intro p hp; cases hp
  | cons h1 h2 _ ih =>
    intro p hp
    cases hp with
    | head => exact h2.within hn
    | tail _ hp => exact ih p hp
theorem EntRel.cut {φ : Phi} {D : Nat → Bool} {R : Nat → Prop} {es : List (Int × AVal)} {es' : List MapEntry} (h : EntRel φ es es') (hp : ∀ p ∈ es, p.2.within D = true) : EntRel (φ.cut D R) es es' := by
  induction h with
  | nil => exact .nil
  | cons h1 h2 _ ih => exact .cons h1 (h2.cut (hp _ (List.mem_cons_self ..))) (ih fun p hq => hp p (List.mem_cons_of_mem _ hq))
theorem BRel.cut {φ φ0 : Phi} {D : Nat → Bool} {R : Nat → Prop} (hn : ∀ k x, φ0 k = some x → D k = true) {sz sz0 : Nat} {b : ABlk} {o o0 : Obj} (h0 : BRel φ0 sz0 b o0) (h : BRel φ sz b o) : BRel (φ.cut D R) sz b o := by
  cases h with
  | cells h1 h2 h3 hT h4 h5 => cases h0 with | cells _ _ _ _ g4 _ => exact .cells h1 h2 h3 hT (h4.cut (g4.within hn)) h5
  | map hm hs => cases h0 with
    | map gm _ =>
      obtain ⟨g1, es0, g2, g3⟩ := gm
      obtain ⟨m1, es1, m2, m3⟩ := hm
      refine .map ⟨m1, es1, m2, m3.cut fun p hp => ?_⟩ hs
      exact g3.within hn p (g2.mem_iff.2 (m2.mem_iff.1 hp))
  | iter s pos => exact .iter s pos
  | dead o => exact .dead o
  | tcells h1 h2 h3 => cases h0 with | tcells _ g2 _ => exact .tcells h1 (h2.cut (g2.within hn)) h3
  | exact o => exact .exact o
/-- what a call made and left behind is let go: its answer knows of nothing new -/
theorem acall_gc {P : Program} {f : FuncId} {args : List AVal} {v : AVal} {σ σ' : Heap} (h : ACall P f args σ v σ') (hv : v.pure = true) (hW : σ'.W = σ.W) (hF : σ'.F0 = σ.F0) (hg : ∀ k, k < σ.next → σ'.get k = σ.get k) : ACall P f args σ v σ := by
  intro φ w vs hvs hr o a next Q hn
  refine h φ w vs hvs hr o a next Q ?_
  intro φ1 v' w' hle hv' hr'
  let D : Nat → Bool := fun k => (φ k).isSome
  have hD : ∀ k x, φ k = some x → D k = true := fun k x e => by simp [D, e]
  have dom : ∀ k, D k = true → k < σ.next := by
    intro k hk
    rcases Nat.lt_or_ge k σ.next with h | h
    · exact h
    · simp [D, hr.fresh k h] at hk
  have hcut : ∀ k x, (φ1.cut D φ.res) k = some x → D k = true ∧ φ1 k = some x := by
    intro k x e
    have e : (if D k = true then φ1.m k else none) = some x := e
    split at e
    · rename_i hk; exact ⟨hk, e⟩
    · cases e
  have live : ∀ k, D k = true → σ.live k → σ'.live k := fun k hk ⟨x, hx, hd⟩ => ⟨x, by rw [hg k (dom k hk)]; exact hx, hd⟩
  refine hn (φ1.cut D φ.res) v' w' ⟨⟨fun k x e => ?_, hle.1.2⟩, rfl⟩ (VR.pure (φ := φ1) (φ' := φ1.cut D φ.res) (fun _ _ _ e => e) hv' hv) ?_
  · show (if D k = true then φ1.m k else none) = some x
    rw [if_pos (hD k x e)]; exact hle.1.1 k x e
  refine ⟨?_, ?_, ?_, ?_, ?_, ?_, ?_, ?_, ?_, hr'.frz, ?_, ?_, by rw [← hW, ← hF]; exact hr'.drawn⟩
  · rw [← hW]; exact hr'.size
  · rw [← hW]; exact hr'.old
  · intro k b sz e
    obtain ⟨hk, e⟩ := hcut k _ e
    obtain ⟨h1, o', h2, h3⟩ := hr'.new k b sz e
    refine ⟨by rw [← hW]; exact h1, o', h2, fun blk hb => ?_⟩
    have hb' := h3 blk (by rw [hg k (dom k hk)]; exact hb)
    obtain ⟨⟨b0, sz0⟩, hφ⟩ := Option.isSome_iff_exists.1 hk
    obtain ⟨_, o0, _, g3⟩ := hr.new k b0 sz0 hφ
    exact BRel.cut hD (g3 blk hb) hb'
  · intro k k' b s1 s2 e e' hl hl'
    obtain ⟨hk, e⟩ := hcut k _ e
    obtain ⟨hk', e'⟩ := hcut k' _ e'
    exact hr'.inj k k' b s1 s2 e e' (live k hk hl) (live k' hk' hl')
  · intro k hk
    show (if D k = true then φ1.m k else none) = none
    rw [if_neg (by simp [D, hr.fresh k hk])]
  · intro k hk
    have h1 := hr.resv k hk
    refine ⟨?_, h1.2⟩
    show (if D k = true then φ1.m k else none) = none
    rw [if_neg (by simp [D, h1.1])]
  · rw [← hW]; exact hr'.tape
  · rw [← hW]; exact hr'.os
  · rw [← hW]; exact hr'.output
  · intro k b sz j e hl
    obtain ⟨hk, e⟩ := hcut k _ e
    exact hr'.apart k b sz j e (live k hk hl)
  · intro b j x hb e
    rw [← hF]; exact hr'.base b j x (by rw [hW]; exact hb) e
/-- an empty slice that never changes: nil, or not -/
theorem acall_empty {P : Program} {f : FuncId} {l r : List AVal} {k : Nat} {v : AVal} {σ σ' : Heap} (h1 : ACall P f (l ++ .nils :: r) σ v σ') (h2 : ACall P f (l ++ .emp :: r) σ v σ') : ACall P f (l ++ .fsl k [] :: r) σ v σ' := by
  intro φ w vs hvs
  have split : ∀ (l : List AVal) (vs : List Value), VRs φ (l ++ .fsl k [] :: r) vs → VRs φ (l ++ .nils :: r) vs ∨ VRs φ (l ++ .emp :: r) vs := by
    intro l
    induction l with
    | nil =>
      intro vs h
      cases h with
      | cons h1 h2 =>
        cases h1 with
        | fslN _ a c hac =>
          cases a with
          | none => rw [hac rfl]; exact .inl (.cons .nils h2)
          | some a => exact .inr (.cons (.emp a c) h2)
        | fsl c _ _ _ _ => exact .inr (.cons (.emp _ c) h2)
    | cons x l ih =>
      intro vs h
      cases h with
      | cons h1 h2 => rcases ih _ h2 with h | h
                      · exact .inl (.cons h1 h)
                      · exact .inr (.cons h1 h)
  rcases split l vs hvs with h | h
  · exact h1 φ w vs h
  · exact h2 φ w vs h
end Go.Mini
set_option linter.unusedVariables false
set_option linter.unusedSimpArgs false
namespace Go.Mini
open Go

/-! ### Drawn regions whose effects keep a part of the heap -/
def Keeps (S : Nat → Prop) (σ σ' : Heap) : Prop := σ'.W = σ.W ∧ ∀ k, S k → σ'.get k = σ.get k
theorem Keeps.rfl {S : Nat → Prop} {σ : Heap} : Keeps S σ σ := ⟨Eq.refl _, fun _ _ => Eq.refl _⟩
theorem Keeps.trans {S : Nat → Prop} {σ σ' σ'' : Heap} (h : Keeps S σ σ') (h' : Keeps S σ' σ'') : Keeps S σ σ'' := ⟨h'.1.trans h.1, fun k hk => (h'.2 k hk).trans (h.2 k hk)⟩
theorem Keeps.symm {S : Nat → Prop} {σ σ' : Heap} (h : Keeps S σ σ') : Keeps S σ' σ := ⟨h.1.symm, fun k hk => (h.2 k hk).symm⟩

def okId (S : Nat → Prop) : AVal → Prop
  | .ptr (.new k) _ => S k
  | .slc (.new k) _ _ _ => S k
  | .mp (.new k) => S k
  | _ => True
def Reads (S : Nat → Prop) (o : SOp) (fr : Frame) : Prop := match o with
  | .load _ x => okId S (x.ev fr)
  | .look _ _ x _ => okId S (x.ev fr)
  | .lenM x => okId S (x.ev fr)
  | .bstr x => okId S (x.ev fr)
  | .lay k _ => S k
  | .layB k _ _ _ _ => S k
  | _ => False
theorem cell_keeps {S : Nat → Prop} {σ σ' : Heap} (h : Keeps S σ σ') {i : Id} (hi : ∀ k, i = .new k → S k) (off : Nat) : σ'.cell i off = σ.cell i off := by
  cases i with
  | old b => simp only [Heap.cell, h.1]
  | new k => simp only [Heap.cell, h.2 k (hi k rfl)]
theorem cellsFrom_keeps {S : Nat → Prop} {σ σ' : Heap} (h : Keeps S σ σ') {i : Id} (hi : ∀ k, i = .new k → S k) : ∀ (n off : Nat), cellsFrom σ' i off n = cellsFrom σ i off n
  | 0, _ => rfl
  | n + 1, off => by simp only [cellsFrom, cell_keeps h hi, cellsFrom_keeps h hi n]
theorem aop_keeps {S : Nat → Prop} {σ σ' : Heap} (h : Keeps S σ σ') {o : SOp} {fr : Frame} (hr : Reads S o fr) {v : AVal} (ha : aop o fr σ = some (v, σ)) : aop o fr σ' = some (v, σ') := by
  cases o <;> simp only [Reads] at hr
  case layB k n zs len parts =>
    simp only [aop] at ha ⊢
    rw [h.2 k hr]
    split at ha
    · rename_i hg
      split at ha
      · rename_i hs
        split at ha
        · rename_i hc; simp only [hs, hc, if_true]; simp only [Option.some.injEq, Prod.mk.injEq, and_true] at ha; rw [ha]
        · cases ha
      · cases ha
    · cases ha
  case lay k zs =>
    simp only [aop] at ha ⊢
    rw [h.2 k hr]
    split at ha
    · rename_i hg
      split at ha
      · rename_i hs; simp only [hs, if_true]; simp only [Option.some.injEq, Prod.mk.injEq, and_true] at ha; rw [ha]
      · cases ha
    · cases ha
  case load n x =>
    simp only [aop, Option.map_eq_some_iff] at ha ⊢
    obtain ⟨z, hz, he⟩ := ha; cases he
    refine ⟨_, ?_, rfl⟩
    rw [← hz]
    cases hx : x.ev fr <;> rw [hx] at hr hz <;> simp only [aLoad] at hz ⊢ <;> try rfl
    rename_i i off
    have hi : ∀ k, i = .new k → S k := fun k e => by subst e; exact hr
    cases n with
    | none => exact cell_keeps h hi off
    | some n => simp only [cellsFrom_keeps h hi]
  case look zero ok x k =>
    simp only [aop, Option.map_eq_some_iff] at ha ⊢
    obtain ⟨z, hz, he⟩ := ha; cases he
    refine ⟨_, ?_, rfl⟩
    rw [← hz]
    cases hx : x.ev fr <;> rw [hx] at hr hz <;> try rfl
    rename_i i
    cases i with
    | old b => rfl
    | new k => simp only [aLook, h.2 k hr]
  case lenM x =>
    simp only [aop, Option.map_eq_some_iff] at ha ⊢
    obtain ⟨z, hz, he⟩ := ha; cases he
    refine ⟨_, ?_, rfl⟩
    rw [← hz]
    cases hx : x.ev fr <;> rw [hx] at hr hz <;> try rfl
    rename_i i
    cases i with
    | old b => rfl
    | new k => simp only [aLenM, h.2 k hr]
  case bstr x =>
    simp only [aop, Option.map_eq_some_iff] at ha ⊢
    obtain ⟨z, hz, he⟩ := ha; cases he
    refine ⟨_, ?_, rfl⟩
    rw [← hz]
    cases hx : x.ev fr <;> rw [hx] at hr hz <;> try rfl
    rename_i i off len c
    have hi : ∀ k, i = .new k → S k := fun k e => by subst e; exact hr
    simp only [aBstr, slcCells, cellsFrom_keeps h hi]

section
variable (P : Program)
theorem opwp_mono {o : SOp} {fr : Frame} {σ : Heap} {K K' : AVal → Heap → Prop} (h : opwp P o fr σ K) (hk : ∀ v σ', K v σ' → K' v σ') : opwp P o fr σ K' :=
  let ⟨_, _, h1, h2⟩ := opwp_any h
  h2 _ (hk _ _ h1)
def gdo (S : Nat → Prop) (k : Kind) (m : Bool) (op : SOp) (fr : Frame) (K : AVal → Heap → Prop) (σ : Heap) : Prop := match k with
  | .pure => go1 (aop op fr σ) fun v _ => K v σ
  | .read => go1 (aop op fr σ) fun v _ => (m = true ∨ Reads S op fr) ∧ K v σ
  | .eff => opwp P op fr σ fun v σ' => (m = true ∨ Keeps S σ σ') ∧ K v σ'
def growwp (S : Nat → Prop) : List Bool → List SOper → (Frame → Heap → Prop) → Frame → Heap → Prop
  | _, [], K, fr, σ => K fr σ
  | [], _ :: _, _, _, _ => False
  | m :: ms, o :: os, K, fr, σ => goG (wantd o.guard fr) (gdo P S o.op.kind m o.op fr fun v σ' => growwp S ms os K (fr.putO o.dst v) σ') (growwp S ms os K (fr.putO o.dst .undef)) σ
end
/-- a read whose effects all stand in order with it -/
def soleOk (tab : List Nat) (ms : List Bool) (effs : List (Nat × Bool)) : Bool :=
  (ms.zipIdx).all fun (m, i) => !m || effs.all fun (j, e) => !e || i == j || (if j < i then bef tab i j else bef tab j i)
def effList (ops : List SOper) : List (Nat × Bool) := ops.zipIdx.map fun (o, j) => (j, isEff o.op)
def notPure (o : SOper) : Bool := !decide (o.op.kind = .pure)
/-- an effect that all else stands in order with, and that parts what lies ahead from what lies behind -/
def barOk (tab : List Nat) (ms : List Bool) (np : List (Nat × Bool × Bool)) : Bool :=
  np.all fun (f, e, _) => !(e && ms.getD f false) || np.all fun (i, _, p) => !p || f < i || np.all fun (j, _, q) => !q || j < f || i ≥ j || bef tab j i
def kindList (ops : List SOper) : List (Nat × Bool × Bool) := ops.zipIdx.map fun (o, j) => (j, isEff o.op, notPure o)
def soleAll (tab : List Nat) (ms : List Bool) (ops : List SOper) : Bool := ms.length == ops.length && soleOk tab (ms.zipIdx.map fun (m, i) => m && !(match ops[i]? with | some o => isEff o.op | none => false)) (effList ops) && barOk tab ms (kindList ops)
theorem soleAll_at {tab : List Nat} {ms : List Bool} {ops : List SOper} (h : soleAll tab ms ops = true) {i j : Nat} {x y : SOper} (hi : ms[i]? = some true) (hx : ops[i]? = some x) (hxe : isEff x.op = false) (hj : ops[j]? = some y) (he : isEff y.op = true) :
    (j < i → bef tab i j = true) ∧ (i < j → bef tab j i = true) := by
  simp only [soleAll, Bool.and_eq_true, soleOk, List.all_eq_true] at h
  have h1 := h.1.2 (true, i) (by
    rw [List.mem_iff_getElem?]
    refine ⟨i, ?_⟩
    rw [List.getElem?_zipIdx, List.getElem?_map, List.getElem?_zipIdx, hi]
    simp [hx, hxe])
  simp only [Bool.not_true, Bool.false_or, List.all_eq_true] at h1
  have h2 := h1 (j, true) (by
    simp only [effList, List.mem_map]
    refine ⟨(y, j), ?_, by simp [he]⟩
    rw [List.mem_iff_getElem?]
    exact ⟨j, by rw [List.getElem?_zipIdx, hj]; simp⟩)
  simp only [Bool.not_true, Bool.false_or, Bool.or_eq_true, beq_iff_eq] at h2
  constructor
  · intro hji
    rcases h2 with h2 | h2
    · omega
    · rwa [if_pos hji] at h2
  · intro hij
    rcases h2 with h2 | h2
    · omega
    · rwa [if_neg (by omega)] at h2
theorem mem_kindList {ops : List SOper} {i : Nat} {x : SOper} (h : ops[i]? = some x) : (i, isEff x.op, notPure x) ∈ kindList ops := by
  simp only [kindList, List.mem_map]
  refine ⟨(x, i), ?_, rfl⟩
  rw [List.mem_iff_getElem?]
  exact ⟨i, by rw [List.getElem?_zipIdx, h]; simp⟩
theorem soleAll_bar {tab : List Nat} {ms : List Bool} {ops : List SOper} (h : soleAll tab ms ops = true) {f i j : Nat} {x y z : SOper} (hf : ms[f]? = some true) (hx : ops[f]? = some x) (he : isEff x.op = true)
    (hi : ops[i]? = some y) (hy : notPure y = true) (hif : i ≤ f) (hj : ops[j]? = some z) (hz : notPure z = true) (hfj : f ≤ j) (hij : i < j) : bef tab j i = true := by
  simp only [soleAll, Bool.and_eq_true, barOk, List.all_eq_true] at h
  have h1 := h.2 _ (mem_kindList hx)
  simp only [he, List.getD_eq_getElem?_getD, hf, Option.getD_some, Bool.and_self, Bool.not_true, Bool.false_or, List.all_eq_true] at h1
  have h2 := h1 _ (mem_kindList hi)
  simp only [hy, Bool.not_true, Bool.false_or, Bool.or_eq_true, decide_eq_true_eq, List.all_eq_true] at h2
  rcases h2 with h2 | h2
  · omega
  · have h3 := h2 _ (mem_kindList hj)
    simp only [hz, Bool.not_true, Bool.false_or, Bool.or_eq_true, decide_eq_true_eq] at h3
    rcases h3 with ((h3 | h3) | h3) | h3
    · cases h3
    · omega
    · omega
    · exact h3

def Past (S : Nat → Prop) (tab : List Nat) (ms : List Bool) (ops : List SOper) (σ : Heap) (i : Nat) (past : List Ev) : Prop :=
  ∀ e ∈ past, e.i < i ∧ (∃ y, ops[e.i]? = some y ∧ y.op = e.o ∧ notPure y = true) ∧ ((∀ j y, i ≤ j → ops[j]? = some y → notPure y = true → bef tab j e.i = true) ∨
    (Keeps S e.σ σ ∧ (isEff e.o = false → ms[e.i]? = some true ∨ (Reads S e.o e.fr ∧ aop e.o e.fr e.σ = some (e.v, e.σ)))))
theorem Past.step {S : Nat → Prop} {tab : List Nat} {ms : List Bool} {ops : List SOper} {σ σ' : Heap} {i : Nat} {past : List Ev} (h : Past S tab ms ops σ i past) (hk : Keeps S σ σ') : Past S tab ms ops σ' (i + 1) past := by
  intro e he
  obtain ⟨h1, h2, h3⟩ := h e he
  refine ⟨Nat.lt_succ_of_lt h1, h2, ?_⟩
  rcases h3 with h3 | ⟨h3, h4⟩
  · exact .inl fun j y hj => h3 j y (by omega)
  · exact .inr ⟨h3.trans hk, h4⟩
theorem draw_of_grow_from {P : Program} {S : Nat → Prop} {tab : List Nat} {ms0 : List Bool} {ops0 : List SOper} (hs : soleAll tab ms0 ops0 = true) {K : Frame → Heap → Prop} :
    ∀ (ms : List Bool) (ops : List SOper) (i : Nat) (past : List Ev) (fr : Frame) (σ : Heap), (∀ j, ms[j]? = ms0[i + j]?) → (∀ j, ops[j]? = ops0[i + j]?) → Past S tab ms0 ops0 σ i past →
    growwp P S ms ops K fr σ → drawwp P tab i ops past K fr σ
  | ms, [], i, past, fr, σ, _, _, _, h => by cases ms <;> exact h
  | [], o :: os, i, past, fr, σ, _, _, _, h => h.elim
  | m :: ms, o :: os, i, past, fr, σ, hm, ho, hp, h => by
    have hm' : ∀ j, ms[j]? = ms0[i + 1 + j]? := fun j => by have := hm (j + 1); rw [List.getElem?_cons_succ] at this; rw [this]; congr 1; omega
    have ho' : ∀ j, os[j]? = ops0[i + 1 + j]? := fun j => by have := ho (j + 1); rw [List.getElem?_cons_succ] at this; rw [this]; congr 1; omega
    have hmi : ms0[i]? = some m := (hm 0).symm
    have hoi : ops0[i]? = some o := (ho 0).symm
    simp only [growwp] at h
    simp only [drawwp]
    cases hw : wantd o.guard fr with
    | none => rw [hw] at h; exact h.elim
    | some b =>
      rw [hw] at h
      cases b with
      | false => exact draw_of_grow_from hs ms os (i + 1) past _ σ hm' ho' (hp.step .rfl) h
      | true =>
        simp only [goG] at h
        cases hk : o.op.kind with
        | pure =>
          rw [hk] at h
          simp only [gdo] at h
          simp only
          cases ha : aop o.op fr σ with
          | none => rw [ha] at h; exact h.elim
          | some q =>
            rw [ha] at h
            exact draw_of_grow_from hs ms os (i + 1) past _ σ hm' ho' (hp.step .rfl) h
        | read =>
          have hnp : notPure o = true := by simp [notPure, hk]
          have hne : isEff o.op = false := by simp [isEff, hk]
          rw [hk] at h
          simp only [gdo] at h
          simp only
          cases ha : aop o.op fr σ with
          | none => rw [ha] at h; exact h.elim
          | some q =>
            obtain ⟨v, σ1⟩ := q
            have e1 := aop_read hk ha
            subst e1
            rw [ha] at h
            obtain ⟨h1, h2⟩ := h
            refine ⟨fun e he hef hb => ?_, ?_⟩
            · obtain ⟨p1, ⟨y, p3, p4, hyp⟩, p5⟩ := hp e he
              rcases p5 with p5 | ⟨p2, _⟩
              · have := p5 i o (Nat.le_refl _) hoi hnp
                rw [this] at hb; cases hb
              · rcases h1 with h1 | h1
                · subst h1
                  have := (soleAll_at hs hmi hoi hne p3 (by rw [p4]; exact hef)).1 p1
                  rw [this] at hb; cases hb
                · exact aop_keeps p2.symm h1 ha
            · refine draw_of_grow_from hs ms os (i + 1) _ _ _ hm' ho' ?_ h2
              intro e he
              rcases List.mem_cons.1 he with rfl | he
              · refine ⟨Nat.lt_succ_self _, ⟨o, hoi, rfl, hnp⟩, .inr ⟨.rfl, fun _ => ?_⟩⟩
                rcases h1 with h1 | h1
                · subst h1; exact .inl hmi
                · exact .inr ⟨h1, ha⟩
              · exact (hp.step .rfl) e he
        | eff =>
          have hnp : notPure o = true := by simp [notPure, hk]
          have hne : isEff o.op = true := by simp [isEff, hk]
          rw [hk] at h
          simp only [gdo] at h
          simp only
          refine opwp_mono P h fun v σ' ⟨h1, h2⟩ => ?_
          rcases h1 with h1 | h1
          · subst h1
            refine ⟨fun e he hef hb => ?_, ?_⟩
            · obtain ⟨p1, ⟨y, p3, p4, hyp⟩, p5⟩ := hp e he
              have := soleAll_bar hs hmi hoi hne p3 hyp (by omega) hoi hnp (Nat.le_refl _) p1
              rw [this] at hb; cases hb
            · refine draw_of_grow_from hs ms os (i + 1) _ _ _ hm' ho' ?_ h2
              intro e he
              rcases List.mem_cons.1 he with rfl | he
              · exact ⟨Nat.lt_succ_self _, ⟨o, hoi, rfl, hnp⟩, .inl fun j y hj hy hyp => soleAll_bar hs hmi hoi hne hoi hnp (Nat.le_refl _) hy hyp (show i ≤ j by omega) (show i < j by omega)⟩
              · obtain ⟨p1, ⟨y, p3, p4, hyp⟩, p5⟩ := hp e he
                exact ⟨Nat.lt_succ_of_lt p1, ⟨y, p3, p4, hyp⟩, .inl fun j z hj hz hzp => soleAll_bar hs hmi hoi hne p3 hyp (by omega) hz hzp (by omega) (by omega)⟩
          · refine ⟨fun e he hef hb => ?_, ?_⟩
            · obtain ⟨p1, ⟨y, p3, p4, hyp⟩, p5⟩ := hp e he
              rcases p5 with p5 | ⟨p2, p5⟩
              · have := p5 i o (Nat.le_refl _) hoi hnp
                rw [this] at hb; cases hb
              · rcases p5 hef with p5 | ⟨p5, p6⟩
                · have := (soleAll_at hs p5 p3 (by rw [p4]; exact hef) hoi hne).2 p1
                  rw [this] at hb; cases hb
                · exact aop_keeps (p2.trans h1) p5 p6
            · refine draw_of_grow_from hs ms os (i + 1) _ _ _ hm' ho' ?_ h2
              intro e he
              rcases List.mem_cons.1 he with rfl | he
              · refine ⟨Nat.lt_succ_self _, ⟨o, hoi, rfl, hnp⟩, .inr ⟨h1, fun hc => ?_⟩⟩
                rw [hne] at hc; cases hc
              · exact (hp.step h1) e he
theorem draw_of_grow {P : Program} (S : Nat → Prop) {tab : List Nat} {ms : List Bool} {ops : List SOper} (hs : soleAll tab ms ops = true) {K : Frame → Heap → Prop} {fr : Frame} {σ : Heap} (h : growwp P S ms ops K fr σ) : drawwp P tab 0 ops [] K fr σ :=
  draw_of_grow_from hs ms ops 0 [] fr σ (fun j => by simp) (fun j => by simp) (fun e he => by cases he) h

/-! ### Evaluating -/
section
variable {P : Program} {S : Nat → Prop} {K : Frame → Heap → Prop} {fr : Frame} {σ : Heap}
structure gNext (P : Program) (S : Nat → Prop) (ms : List Bool) (os : List SOper) (K : Frame → Heap → Prop) (fr : Frame) (d : Option Nat) (v : AVal) (σ : Heap) : Prop where
  out : growwp P S ms os K (fr.putO d v) σ
theorem gNext_eq (ms : List Bool) (os : List SOper) (d : Option Nat) (v : AVal) : gNext P S ms os K fr d v σ = growwp P S ms os K (fr.putO d v) σ := propext ⟨fun h => h.out, fun h => ⟨h⟩⟩
theorem gNext_fun (ms : List Bool) (os : List SOper) (d : Option Nat) : gNext P S ms os K fr d = fun v σ => growwp P S ms os K (fr.putO d v) σ := by funext v σ; exact gNext_eq ms os d v
theorem g_nil (ms : List Bool) : growwp P S ms [] K fr σ = K fr σ := by cases ms <;> rfl
theorem g_cons (m : Bool) (ms : List Bool) (d : Option Nat) (op : SOp) (g : Option (Nat × Bool)) (af : List Nat) (os : List SOper) : growwp P S (m :: ms) (⟨d, op, g, af⟩ :: os) K fr σ =
    goG (wantd g fr) (gdo P S op.kind m op fr (gNext P S ms os K fr d)) (growwp P S ms os K (fr.putO d .undef)) σ := by rw [gNext_fun]; rfl
/-- a read's value, and what it needs -/
def goV (r : Option (AVal × Heap)) (N : Prop) (K : AVal → Heap → Prop) (σ : Heap) : Prop := match r with
  | some (v, _) => N ∧ K v σ
  | none => False
theorem goV_some (v : AVal) (σ' : Heap) (N : Prop) (K : AVal → Heap → Prop) : goV (some (v, σ')) N K σ = (N ∧ K v σ) := Eq.trans rfl rfl
theorem goV_congr {r r' : Option (AVal × Heap)} {N N' : Prop} (K : AVal → Heap → Prop) (σ : Heap) (h : r = r') (hN : N = N') : goV r N K σ = goV r' N' K σ := by rw [h, hN]
theorem gdo_pure (m : Bool) (op : SOp) (R : AVal → Heap → Prop) : gdo P S .pure m op fr R σ = goV (aop op fr σ) True R σ := by
  simp only [gdo, goV, go1, true_and] <;> cases aop op fr σ <;> rfl
theorem gdo_read (m : Bool) (op : SOp) (R : AVal → Heap → Prop) : gdo P S .read m op fr R σ = goV (aop op fr σ) (m = true ∨ Reads S op fr) R σ := Eq.trans rfl rfl
/-- an effect that keeps the part -/
structure kNext (S : Nat → Prop) (m : Bool) (σ : Heap) (R : AVal → Heap → Prop) (v : AVal) (σ' : Heap) : Prop where
  keeps : m = true ∨ Keeps S σ σ'
  go : R v σ'
theorem kNext_fun {m : Bool} {R : AVal → Heap → Prop} : kNext S m σ R = fun v σ' => (m = true ∨ Keeps S σ σ') ∧ R v σ' := by funext v σ'; exact propext ⟨fun h => ⟨h.1, h.2⟩, fun h => ⟨h.1, h.2⟩⟩
theorem kNext_rfl {m : Bool} {R : AVal → Heap → Prop} {v : AVal} (h : R v σ) : kNext S m σ R v σ := ⟨.inr .rfl, h⟩
theorem kNext_bar {σ' : Heap} {R : AVal → Heap → Prop} {v : AVal} : kNext S true σ R v σ' = R v σ' := propext ⟨fun h => h.go, fun h => ⟨.inl rfl, h⟩⟩
theorem gdo_call (m : Bool) (f : Opd) (l : List Opd) (R : AVal → Heap → Prop) : gdo P S .eff m (.call f l) fr R σ = goF P (f.ev fr) (evs fr l) (kNext S m σ R) σ := by
  simp only [gdo, opwp, goF, MSpec, kNext_fun] <;> cases f.ev fr <;> rfl
theorem gdo_eff (m : Bool) (op : SOp) (h : ∀ f l, op ≠ .call f l) (R : AVal → Heap → Prop) : gdo P S .eff m op fr R σ = go1 (aop op fr σ) (kNext S m σ R) := by
  simp only [gdo, opwp, go1, kNext_fun] <;> (cases op <;> first | rfl | exact absurd rfl (h _ _))
theorem goV_map (r : Option AVal) (σ' : Heap) (N : Prop) (R : AVal → Heap → Prop) : goV (r.map fun v => (v, σ')) N R σ = goM r σ (fun v σ => N ∧ R v σ) := by cases r <;> rfl
end
end Go.Mini
set_option linter.unusedVariables false
set_option linter.unusedSimpArgs false
namespace Go.Mini
open Go

/-! ### Running closed code -/
abbrev Caller := FuncId → List AVal → Heap → Option (AVal × Heap)
def opC (call : Caller) (o : SOp) (fr : Frame) (σ : Heap) : Option (AVal × Heap) :=
  match o with
  | .call f args => match f.ev fr with
    | .fn g caps => call g (evs fr args ++ caps) σ
    | _ => none
  | o => aop o fr σ
def opsC (call : Caller) : List SOper → Frame → Heap → Option (Frame × Heap)
  | [], fr, σ => some (fr, σ)
  | o :: os, fr, σ => match wantd o.guard fr with
    | some true => match opC call o.op fr σ with
      | some (v, σ') => opsC call os (fr.putO o.dst v) σ'
      | none => none
    | some false => opsC call os (fr.putO o.dst .undef) σ
    | none => none
def sameR (r : Option (AVal × Heap)) (v : AVal) : Bool := match r with
  | some (u, _) => u.same v
  | none => false
def drawC (call : Caller) (tab : List Nat) : Nat → List SOper → List Ev → Frame → Heap → Option (Frame × Heap)
  | _, [], _, fr, σ => some (fr, σ)
  | i, o :: os, past, fr, σ => match wantd o.guard fr with
    | none => none
    | some false => drawC call tab (i + 1) os past (fr.putO o.dst .undef) σ
    | some true => match o.op.kind with
      | .pure => match aop o.op fr σ with
        | some (v, _) => drawC call tab (i + 1) os past (fr.putO o.dst v) σ
        | none => none
      | .read => match aop o.op fr σ with
        | some (v, _) => if past.all (fun e => !(isEff e.o) || bef tab i e.i || sameR (aop o.op fr e.σ) v) then drawC call tab (i + 1) os (⟨i, o.op, fr, v, σ⟩ :: past) (fr.putO o.dst v) σ else none
        | none => none
      | .eff => match opC call o.op fr σ with
        | some (v, σ') => if past.all (fun e => isEff e.o || bef tab i e.i || (decide (e.o.kind = .read) && sameR (aop e.o e.fr σ') e.v)) then drawC call tab (i + 1) os (⟨i, o.op, fr, v, σ⟩ :: past) (fr.putO o.dst v) σ' else none
        | none => none
def loopC (body : Frame → Heap → Option (SExit × Frame × Heap)) : Nat → Frame → Heap → Option (SExit × Frame × Heap)
  | 0, _, _ => none
  | k + 1, fr, σ => match body fr σ with
    | some (.normal, fr', σ') => loopC body k fr' σ'
    | r => r
def codeC (call : Caller) (k : Nat) : SCode → Frame → Heap → Option (SExit × Frame × Heap)
  | .skip, fr, σ => some (.normal, fr, σ)
  | .reg none ops, fr, σ => match opsC call ops fr σ with
    | some (fr', σ') => some (.normal, fr', σ')
    | none => none
  | .reg (some tab) ops, fr, σ => match drawC call tab 0 ops [] fr σ with
    | some (fr', σ') => some (.normal, fr', σ')
    | none => none
  | .regA tab ops, fr, σ => match drawC call tab 0 (instOps σ.next ops) [] fr (σ.resv ((resvs ops).map (·.getD []))) with
    | some (fr', σ') => some (.normal, fr', σ')
    | none => none
  | .seq a b, fr, σ => match codeC call k a fr σ with
    | some (.normal, fr', σ') => codeC call k b fr' σ'
    | r => r
  | .cond c a b, fr, σ => match c.ev fr with
    | .bool true => codeC call k a fr σ
    | .bool false => codeC call k b fr σ
    | _ => none
  | .block id c, fr, σ => match codeC call k c fr σ with
    | some (.exit j, fr', σ') => if j = id then some (.normal, fr', σ') else some (.exit j, fr', σ')
    | r => r
  | .loop c, fr, σ => loopC (codeC call k c) k fr σ
  | .exit id, fr, σ => some (.exit id, fr, σ)
  | .ret, fr, σ => some (.ret, fr, σ)
def look : List (Nat × SFunc) → Nat → Option SFunc
  | [], _ => none
  | (n, f) :: l, m => if n = m then some f else look l m
/-- calls, so deep at most; ext: functions that are not compiled -/
def callC (ext : Caller) (tbl : List (Nat × SFunc)) (k : Nat) : Nat → Caller
  | 0, _, _, _ => none
  | n + 1, f, args, σ => match look tbl f with
    | some sf => if args.length ≤ sf.ntmps then
        match codeC (callC ext tbl k n) k sf.body (Frame.ofArgs 0 args) σ with
        | some (e, fr, σ') => if ends e then match resOf sf.results fr σ' with
          | some v => some (v, σ')
          | none => none
          else none
        | none => none
      else none
    | none => ext f args σ
def noExt : Caller := fun _ _ _ => none

section
variable {P : Program} {call : Caller}
def CallOk (P : Program) (call : Caller) : Prop := ∀ g l σ v σ', call g l σ = some (v, σ') → ACall P g l σ v σ'
theorem opC_ok (hc : CallOk P call) {o : SOp} {fr : Frame} {σ σ' : Heap} {v : AVal} (h : opC call o fr σ = some (v, σ')) {K : AVal → Heap → Prop} (hk : K v σ') : opwp P o fr σ K := by
  unfold opC at h
  unfold opwp
  split at h
  · split at h
    · rename_i hx
      simp only [hx]
      exact ⟨v, σ', hc _ _ _ _ _ h, hk⟩
    · cases h
  · rename_i hne
    split
    · exact absurd rfl (hne _ _)
    · rw [h]; exact hk
theorem opsC_ok (hc : CallOk P call) : ∀ {ops : List SOper} {fr fr' : Frame} {σ σ' : Heap}, opsC call ops fr σ = some (fr', σ') → ∀ {K : Frame → Heap → Prop}, K fr' σ' → opswp P ops K fr σ
  | [], fr, fr', σ, σ', h, K, hk => by cases h; exact hk
  | o :: os, fr, fr', σ, σ', h, K, hk => by
    simp only [opsC] at h
    simp only [opswp]
    cases hw : wantd o.guard fr with
    | none => rw [hw] at h; cases h
    | some b =>
      rw [hw] at h
      cases b with
      | true =>
        simp only at h ⊢
        split at h
        · rename_i v s ho
          exact opC_ok (K := fun v σ' => opswp P os K (fr.putO o.dst v) σ') hc ho (opsC_ok hc h hk)
        · cases h
      | false => exact opsC_ok hc h hk
theorem sameR_ok {o : SOp} (hk : o.kind = .read) {fr : Frame} {σ : Heap} {v : AVal} (h : sameR (aop o fr σ) v = true) : aop o fr σ = some (v, σ) := by
  cases ha : aop o fr σ with
  | none => rw [ha] at h; cases h
  | some q =>
    obtain ⟨u, σ'⟩ := q
    rw [ha] at h
    have e1 := aop_read hk ha
    have e2 := AVal.same_eq h
    rw [e1, e2]
theorem drawC_ok (hc : CallOk P call) {tab : List Nat} : ∀ {ops : List SOper} {i : Nat} {past : List Ev} {fr fr' : Frame} {σ σ' : Heap}, drawC call tab i ops past fr σ = some (fr', σ') → ∀ {K : Frame → Heap → Prop}, K fr' σ' → drawwp P tab i ops past K fr σ
  | [], i, past, fr, fr', σ, σ', h, K, hk => by cases h; exact hk
  | o :: os, i, past, fr, fr', σ, σ', h, K, hk => by
    simp only [drawC] at h
    simp only [drawwp]
    cases hw : wantd o.guard fr with
    | none => rw [hw] at h; cases h
    | some b =>
      rw [hw] at h
      cases b with
      | false => exact drawC_ok hc h hk
      | true =>
        cases hkd : o.op.kind with
        | pure =>
          rw [hkd] at h
          simp only at h ⊢
          cases ha : aop o.op fr σ with
          | none => rw [ha] at h; cases h
          | some q => rw [ha] at h; exact drawC_ok hc h hk
        | read =>
          rw [hkd] at h
          simp only at h ⊢
          cases ha : aop o.op fr σ with
          | none => rw [ha] at h; cases h
          | some q =>
            obtain ⟨v, s⟩ := q
            rw [ha] at h
            simp only at h ⊢
            split at h
            · rename_i hp
              refine ⟨fun e he hef hb => ?_, drawC_ok hc h hk⟩
              have := List.all_eq_true.1 hp e he
              simp only [hef, Bool.not_true, Bool.false_or, hb] at this
              exact sameR_ok hkd this
            · cases h
        | eff =>
          rw [hkd] at h
          simp only at h ⊢
          split at h
          · rename_i v s ha
            split at h
            · rename_i hp
              refine opC_ok (K := fun v σ' => (∀ e ∈ past, isEff e.o = false → bef tab i e.i = false → aop e.o e.fr σ' = some (e.v, σ')) ∧
                drawwp P tab (i + 1) os (⟨i, o.op, fr, v, σ⟩ :: past) K (fr.putO o.dst v) σ') hc ha ⟨fun e he hef hb => ?_, drawC_ok hc h hk⟩
              have := List.all_eq_true.1 hp e he
              simp only [hef, Bool.false_or, hb, Bool.and_eq_true, decide_eq_true_eq] at this
              exact sameR_ok this.1 this.2
            · cases h
          · cases h
theorem loopC_ok {c : SCode} {body : Frame → Heap → Option (SExit × Frame × Heap)} (hb : ∀ fr σ e fr' σ', body fr σ = some (e, fr', σ') → AOut P c fr σ e fr' σ') :
    ∀ (k : Nat) (fr : Frame) (σ : Heap) (e : SExit) (fr' : Frame) (σ' : Heap), loopC body k fr σ = some (e, fr', σ') → AOut P (.loop c) fr σ e fr' σ'
  | 0, _, _, _, _, _, h => by cases h
  | k + 1, fr, σ, e, fr', σ', h => by
    intro K hK
    simp only [loopC] at h
    refine awp_loop_unroll ?_
    split at h
    · rename_i f1 s1 h1
      exact hb _ _ _ _ _ h1 _ (loopC_ok hb k f1 s1 e fr' σ' h K hK)
    · rename_i hne
      refine hb _ _ _ _ _ h _ ?_
      cases e with
      | normal => exact absurd h (hne _ _)
      | exit id => exact hK
      | ret => exact hK
theorem codeC_ok (hc : CallOk P call) (k : Nat) : ∀ (c : SCode) (fr : Frame) (σ : Heap) (e : SExit) (fr' : Frame) (σ' : Heap), codeC call k c fr σ = some (e, fr', σ') → AOut P c fr σ e fr' σ' := by
  intro c
  induction c with
  | skip => intro fr σ e fr' σ' h K hK; cases h; exact hK
  | reg tab ops =>
    intro fr σ e fr' σ' h K hK
    cases tab with
    | none =>
      simp only [codeC] at h
      split at h
      · rename_i ho; cases h; exact opsC_ok hc ho hK
      · cases h
    | some tab =>
      simp only [codeC] at h
      split at h
      · rename_i ho; cases h; exact drawC_ok hc ho hK
      · cases h
  | regA tab ops =>
    intro fr σ e fr' σ' h K hK
    simp only [codeC] at h
    split at h
    · rename_i ho; cases h; exact resvE_of (drawC_ok hc ho hK)
    · cases h
  | seq a b iha ihb =>
    intro fr σ e fr' σ' h K hK
    simp only [codeC] at h
    split at h
    · rename_i f1 s1 h1
      exact iha _ _ _ _ _ h1 _ (ihb _ _ _ _ _ h _ hK)
    · rename_i hne
      refine iha _ _ _ _ _ h _ ?_
      cases e with
      | normal => exact absurd h (hne _ _)
      | exit id => exact hK
      | ret => exact hK
  | cond c a b iha ihb =>
    intro fr σ e fr' σ' h K hK
    simp only [codeC] at h
    split at h
    · rename_i hcv; simp only [awp, hcv]; exact iha _ _ _ _ _ h _ hK
    · rename_i hcv; simp only [awp, hcv]; exact ihb _ _ _ _ _ h _ hK
    · cases h
  | block id c ih =>
    intro fr σ e fr' σ' h K hK
    simp only [codeC] at h
    split at h
    · rename_i j f1 s1 h1
      refine ih _ _ _ _ _ h1 _ ?_
      simp only [inBlk]
      split at h
      · rename_i hj; cases h; rw [if_pos hj]; exact hK
      · rename_i hj; cases h; rw [if_neg hj]; exact hK
    · rename_i hne
      refine ih _ _ _ _ _ h _ ?_
      cases e with
      | normal => exact hK
      | exit j => exact absurd h (hne _ _ _)
      | ret => exact hK
  | loop c ih => intro fr σ e fr' σ' h; exact loopC_ok ih k fr σ e fr' σ' h
  | exit id => intro fr σ e fr' σ' h K hK; cases h; exact hK
  | ret => intro fr σ e fr' σ' h K hK; cases h; exact hK
def TblOk (P : Program) (tbl : List (Nat × SFunc)) : Prop := ∀ p ∈ tbl, cFunc P p.1 = some p.2
theorem look_ok {tbl : List (Nat × SFunc)} (h : TblOk P tbl) {f : Nat} {sf : SFunc} (hl : look tbl f = some sf) : cFunc P f = some sf := by
  induction tbl with
  | nil => cases hl
  | cons p l ih =>
    obtain ⟨n, g⟩ := p
    simp only [look] at hl
    split at hl
    · rename_i hn; subst hn; cases hl; exact h _ (List.mem_cons_self ..)
    · exact ih (fun q hq => h q (List.mem_cons_of_mem _ hq)) hl
theorem noExt_ok : CallOk P noExt := fun _ _ _ _ _ h => by cases h
theorem callC_ok (hm : P.follows .mixedOrders = true) {ext : Caller} (hx : CallOk P ext) {tbl : List (Nat × SFunc)} (ht : TblOk P tbl) (k : Nat) : ∀ n, CallOk P (callC ext tbl k n)
  | 0, _, _, _, _, _, h => by cases h
  | n + 1, f, args, σ, v, σ', h => by
    simp only [callC] at h
    split at h
    · rename_i sf hl
      split at h
      · rename_i hlen
        split at h
        · rename_i e fr s hcd
          split at h
          · rename_i he
            split at h
            · rename_i u hr
              cases h
              have := codeC_ok (callC_ok hm hx ht k n) k _ _ _ _ _ _ hcd
              obtain ⟨g1, g2⟩ := afun_of_awp hm (look_ok ht hl) (σ' := σ') (v := v) hlen (this _ ⟨he, hr, rfl⟩)
              exact acall_of_afun g1 g2
            · cases h
          · cases h
        · cases h
      · cases h
    · exact hx _ _ _ _ _ h
/-- a closed call whose answer has no addresses -/
theorem acall_ran (hm : P.follows .mixedOrders = true) {ext : Caller} (hx : CallOk P ext) {tbl : List (Nat × SFunc)} (ht : TblOk P tbl) {k n : Nat} {f : FuncId} {args : List AVal} {v : AVal} (ha : AVal.pures args = true) (hv : v.pure = true)
    (h : ∀ W F, (callC ext tbl k n f args (Heap.bare W F)).map (fun p => (p.1, p.2.W, p.2.F0)) = some (v, W, F)) (σ : Heap) : ACall P f args σ v σ := by
  refine acall_bare ha hv (fun W F => ?_) σ
  have := h W F
  cases hc : callC ext tbl k n f args (Heap.bare W F) with
  | none => rw [hc] at this; cases this
  | some q =>
    obtain ⟨u, s⟩ := q
    rw [hc] at this
    simp only [Option.map_some, Option.some.injEq, Prod.mk.injEq] at this
    obtain ⟨h1, h2, h3⟩ := this
    subst h1
    exact ⟨u, s, callC_ok hm hx ht k n _ _ _ _ _ hc, s, Sees.refl _ _, h2, h3⟩
end
end Go.Mini
set_option linter.unusedVariables false
namespace Go.Mini
open Go Go.RowKit
theorem Rel.below {φ : Phi} {σ : Heap} {w : World} (h : Rel φ σ w) : Below σ.W.heap.size σ.W w := ⟨h.os, h.tape, h.output, h.size, h.old⟩
/-- the first world's cells -/
def cellsOf (W : World) : FB := ⟨fun b j => W.cell? ⟨b, j, none⟩, false⟩
/-- a law that holds: its call, in any world -/
theorem law_calls {P : Program} {f : FuncId} {args : List AVal} {vs : List Value} {W : World} (h : FSpec P f args (Heap.bare W (cellsOf W)) fun v σ' => v = .bool true ∧ σ'.W = W) (hv : VRs (Phi.bare (cellsOf W).f) args vs) :
    Calls P f vs.toArray W fun e w' => e = .returned (.bool true) ∧ Below W.heap.size W w' := by
  obtain ⟨v, σ', h1, rfl, h2⟩ := h
  refine (h1 _ W vs hv (rel_bare W _ (fun _ _ _ e => e))).mono ?_
  rintro e w' ⟨v', φ', rfl, g1, g2, g3⟩
  cases g2
  have := g3.below
  rw [h2] at this
  exact ⟨rfl, this⟩
end Go.Mini
