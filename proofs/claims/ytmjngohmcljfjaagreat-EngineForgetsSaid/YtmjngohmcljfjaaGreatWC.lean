/- A part of the seat's proofs over the abstract machine. No condition. -/
import Derived.Test.YtmjngohmcljfjaaGreatWB
set_option linter.unusedSimpArgs false
set_option linter.unusedVariables false
set_option maxRecDepth 100000
namespace Go.Proofs.YtmjngohmcljfjaaGreat.M
open Go Go.Mini
attribute [local congr] go1_congr goM_congr goG_congr goV_congr drawwp_congr
set_option maxHeartbeats 1000000 in
theorem same20_call (σ : Heap) (a b : List Int) (ha : a.length ≤ 1000000) : ACall Tryz.prog n_palinodelaw20_same [ints a, ints b] σ (.bool (decide (a = b))) σ := by
  refine bare_call (by simp only [AVal.pures, ints_pure]; rfl) rfl (fun W F => spec_of_awp mixed c_palinodelaw20_same (Nat.le_of_ble_eq_true rfl) ?_) σ
  unfold f_palinodelaw20_same
  by_cases hl : a.length = b.length
  · have hb : ((a.length : Int) != (b.length : Int)) = false := by simp [hl]
    simp only [↓evd, evu, evf, implies_true, reduceCtorEq, Nat.reduceEqDiff, ↓reduceIte, Nat.reduceAdd, Nat.reduceLeDiff, Nat.reduceLT, Nat.reduceMul, Int.reduceLT, Int.reduceLE, Int.reduceToNat, evz, hb]
    refine awp_loop (fun m fr τ => ∃ i, m + i = a.length ∧ fr.get 0 = ints a ∧ fr.get 1 = ints b ∧ fr.get 5 = .int .i64 (i : Nat) ∧ a.take i = b.take i ∧ τ.W = W ∧ τ.F0 = F) ?_ (m := a.length) ?_
    · rintro m fr τ ⟨i, hi, e0, e1, e5, ht, hW, hF⟩
      by_cases hlt : i < a.length
      · have hlt' : (i : Int) < (a.length : Int) := by omega
        have hlb : i < b.length := by omega
        have hg := map_get (AVal.int .i64 ·) a i hlt
        have hg2 := map_get (AVal.int .i64 ·) b i hlb
        have hs := wrap_succ (i := i) (by omega)
        have t1 := List.take_succ_eq_append_getElem hlt
        have t2 := List.take_succ_eq_append_getElem hlb
        have hne : a[i] ≠ b[i] → a ≠ b := fun h e => by subst e; exact h rfl
        generalize a[i] = x at hg t1 hne
        generalize b[i] = y at hg2 t2 hne
        by_cases hxy : x = y
        · have hb2 : (x != y) = false := by simp [hxy]
          simp only [↓evd, evu, evf, implies_true, reduceCtorEq, Nat.reduceEqDiff, ↓reduceIte, Nat.reduceAdd, Nat.reduceLeDiff, Nat.reduceLT, Nat.reduceMul, Int.reduceLT, Int.reduceLE, Int.reduceToNat, evz, e0, e1, e5, hlt']
          with_reducible refine draw_of_grow (fun _ => True) (ms := [false, false, false, false, false, false, false, false, false]) (by kernel_rfl) ?_
          simp only [↓evd, evu, evf, implies_true, reduceCtorEq, Nat.reduceEqDiff, ↓reduceIte, Nat.reduceAdd, Nat.reduceLeDiff, Nat.reduceLT, Nat.reduceMul, Int.reduceLT, Int.reduceLE, Int.reduceToNat, evz, e0, e1, e5, hlt', hg, hg2, hb2, hs]
          exact ⟨m - 1, by omega, i + 1, by omega, rfl, by rw [t1, t2, ht, hxy], hW, hF⟩
        · have hb2 : (x != y) = true := by simp [hxy]
          simp only [↓evd, evu, evf, implies_true, reduceCtorEq, Nat.reduceEqDiff, ↓reduceIte, Nat.reduceAdd, Nat.reduceLeDiff, Nat.reduceLT, Nat.reduceMul, Int.reduceLT, Int.reduceLE, Int.reduceToNat, evz, e0, e1, e5, hlt']
          with_reducible refine draw_of_grow (fun _ => True) (ms := [false, false, false, false, false, false, false, false, false]) (by kernel_rfl) ?_
          simp only [↓evd, evu, evf, implies_true, reduceCtorEq, Nat.reduceEqDiff, ↓reduceIte, Nat.reduceAdd, Nat.reduceLeDiff, Nat.reduceLT, Nat.reduceMul, Int.reduceLT, Int.reduceLE, Int.reduceToNat, evz, e0, e1, e5, hlt', hg, hg2, hb2, hs]
          exact seen (by rw [decide_eq_false (hne hxy)]) hW hF
      · have hlt' : ¬ (i : Int) < (a.length : Int) := by omega
        simp only [↓evd, evu, evf, implies_true, reduceCtorEq, Nat.reduceEqDiff, ↓reduceIte, Nat.reduceAdd, Nat.reduceLeDiff, Nat.reduceLT, Nat.reduceMul, Int.reduceLT, Int.reduceLE, Int.reduceToNat, evz, e0, e1, e5, hlt']
        refine seen ?_ hW hF
        rw [List.take_of_length_le (by omega), List.take_of_length_le (by omega)] at ht
        rw [decide_eq_true ht]
    · refine ⟨0, by omega, ?_⟩
      simp only [↓evd, evu, evf, implies_true, reduceCtorEq, Nat.reduceEqDiff, ↓reduceIte, Nat.reduceAdd, Nat.reduceLeDiff, Nat.reduceLT, Nat.reduceMul, Int.reduceLT, Int.reduceLE, Int.reduceToNat, evz]
  · have hb : ((a.length : Int) != (b.length : Int)) = true := by simp; omega
    simp only [↓evd, evu, evf, implies_true, reduceCtorEq, Nat.reduceEqDiff, ↓reduceIte, Nat.reduceAdd, Nat.reduceLeDiff, Nat.reduceLT, Nat.reduceMul, Int.reduceLT, Int.reduceLE, Int.reduceToNat, evz, hb]
    exact seen (by rw [decide_eq_false (fun e => hl (by rw [e]))]) rfl rfl

/-- all is of revisions that were -/
def Eng.Old (E : Eng) : Prop := ∀ a ∈ E.l, a.rev ≤ (E.R.head : Nat) ∧ ∀ c ∈ a.cuts, c.rev ≤ (E.R.head : Nat)
theorem Eng.new_old : Eng.new.Old := by intro a ha; cases ha
theorem edit_shape {E E' : Eng} {base group rank n : Int} {cs : List Chg} (hR : E.R.Ok) (e : editE E base group rank cs = (E', n, 0)) : group ∉ E.R.gone ∧ 0 ≤ group ∧ group < 60 ∧ E.R.head < 200 ∧ E.R.live base = true ∧ check (E.text base) cs = 0 ∧ 0 ≤ rank ∧ rank ≤ 1000000 ∧ n = ((E.R.head + 1 : Nat) : Int) ∧
    E' = ⟨upon E.l base (E.R.undone base) cs ((E.R.head + 1 : Nat) : Int) group rank, { E.R.push E.R.top with grp := insS group E.R.grp }⟩ ∧ E'.R.head = E.R.head + 1 := by
  unfold editE at e
  split at e
  · simp only [Prod.mk.injEq] at e; exact absurd e.2.2 (by decide)
  rename_i h1
  split at e
  · rename_i h2; simp only [Prod.mk.injEq] at e; exact absurd e.2.2 h2
  rename_i h2
  split at e
  · rename_i h3; simp only [Prod.mk.injEq] at e; exact absurd e.2.2 h3
  rename_i h3
  split at e
  · simp only [Prod.mk.injEq] at e; exact absurd e.2.2 (by decide)
  rename_i h4
  split at e
  · simp only [Prod.mk.injEq] at e; exact absurd e.2.2 (by decide)
  split at e
  · simp only [Prod.mk.injEq] at e; exact absurd e.2.2 (by decide)
  obtain ⟨q1, q2, q3, q4, e1, e2⟩ := addR_ok (by simpa using h3) hR
  cases e
  exact ⟨q1, q2, q3, q4, by simpa using h1, by simpa using h2, by omega, by omega, by rw [e1]; rfl, by rw [e1]; rfl, e2⟩
theorem edit_old {E E' : Eng} {base group rank n : Int} {cs : List Chg} (hR : E.R.Ok) (hO : E.Old) (e : editE E base group rank cs = (E', n, 0)) : E'.Old := by
  obtain ⟨_, _, _, _, _, _, _, _, _, he, hh⟩ := edit_shape hR e
  intro a ha
  rw [hh]
  rw [he] at ha
  rcases mem_upon ha with ⟨b, hb, rfl | rfl⟩ | ⟨b, _, rfl⟩
  · have := hO a hb; exact ⟨by omega, fun c hc => by have := this.2 c hc; omega⟩
  · have := hO b hb
    refine ⟨by simp only; omega, fun c hc => ?_⟩
    simp only [List.mem_append, List.mem_singleton] at hc
    rcases hc with hc | rfl
    · have := this.2 c hc; omega
    · simp only; omega
  · exact ⟨by simp only; omega, fun c hc => by cases hc⟩
theorem toggle_shape {E E' : Eng} {g n : Int} (hR : E.R.Ok) (e : toggleE E g = (E', n, 0)) : g ∈ E.R.grp ∧ E.R.head < 200 ∧ n = ((E.R.head + 1 : Nat) : Int) ∧ E' = ⟨E.l, E.R.push (flip g E.R.top)⟩ ∧ E'.R.head = E.R.head + 1 := by
  unfold toggleE at e
  split at e
  · rename_i h2; simp only [Prod.mk.injEq] at e; exact absurd e.2.2 h2
  rename_i h3
  split at e
  · simp only [Prod.mk.injEq] at e; exact absurd e.2.2 (by decide)
  obtain ⟨q1, q2, e1, e2⟩ := toggleR_ok (by simpa using h3) hR
  cases e
  exact ⟨q1, q2, by rw [e1]; rfl, by rw [e1], e2⟩
theorem toggle_old {E E' : Eng} {g n : Int} (hR : E.R.Ok) (hO : E.Old) (e : toggleE E g = (E', n, 0)) : E'.Old := by
  obtain ⟨_, _, _, he, hh⟩ := toggle_shape hR e
  intro a ha
  rw [he] at ha
  have := hO a ha
  rw [hh]
  exact ⟨by omega, fun c hc => by have := this.2 c hc; omega⟩
/-- an engine that edits alone made -/
structure TwInv (E : Eng) (i : Nat) : Prop where
  top : E.R.top = []
  head : E.R.head ≤ i
  old : E.Old
  grp : ∀ a ∈ E.l, a.group ∈ E.R.grp
theorem TwInv.new : TwInv Eng.new 0 := ⟨rfl, Nat.le_refl _, Eng.new_old, fun a h => by cases h⟩
theorem TwInv.mono {E : Eng} {i : Nat} (h : TwInv E i) : TwInv E (i + 1) := ⟨h.top, by have := h.head; omega, h.old, h.grp⟩
theorem TwInv.edit {E E' : Eng} {i : Nat} (h : TwInv E i) (hR : E.R.Ok) {base group rank n c : Int} {cs : List Chg} (e : editE E base group rank cs = (E', n, c)) : TwInv E' (i + 1) := by
  by_cases hc : c = 0
  · subst hc
    obtain ⟨_, _, _, _, _, _, _, _, _, he, hh⟩ := edit_shape hR e
    refine ⟨?_, by have := h.head; omega, edit_old hR h.old e, fun a ha => ?_⟩
    · rw [he]; show (E.R.push E.R.top).top = []; rw [top_push, h.top]
    · rw [he] at ha ⊢
      show a.group ∈ insS group E.R.grp
      rw [mem_insS]
      rcases mem_upon ha with ⟨b, hb, rfl | rfl⟩ | ⟨b, _, rfl⟩
      · exact .inr (h.grp a hb)
      · exact .inr (h.grp b hb)
      · exact .inl rfl
  · rw [(edit_fail e hc).1]; exact h.mono
end Go.Proofs.YtmjngohmcljfjaaGreat.M
set_option linter.unusedSimpArgs false
set_option linter.unusedVariables false
set_option maxRecDepth 100000
namespace Go.Proofs.YtmjngohmcljfjaaGreat.M
open Go Go.Mini
attribute [local congr] go1_congr goM_congr goG_congr goV_congr drawwp_congr Xwp_congr
/-- what forgetting makes of an engine; the error -/
def forgetE (E : Eng) (gs : List Int) : Eng × Int := if (forgetR E.R gs).2 ≠ 0 then (E, (forgetR E.R gs).2) else (⟨restL gs (E.R.undone (E.R.head : Nat)) E.l, (forgetR E.R gs).1⟩, 0)
theorem restA_some {gs u : List Int} {a b : Atom} (h : restA gs u a = some b) : b = { a with cuts := a.cuts.filter (fun c => !goneG gs u c.group), group := if a.group ∈ gs then -1 else a.group } ∧ goneG gs u a.group = false ∧ (a.cuts.any fun c => staysG gs u c.group) = false := by
  unfold restA at h
  split at h
  · cases h
  · rename_i hn
    rw [Bool.not_eq_true, Bool.or_eq_false_iff] at hn
    cases h; exact ⟨rfl, hn⟩
theorem forgetR_ok {R : Revs} {gs : List Int} (h : (forgetR R gs).2 = 0) : Good R gs ∧ forgetR R gs = (⟨[delAll R.top gs], R.head, delAll R.grp gs, goneAll R.gone gs⟩, 0) ∧ (forgetR R gs).1.head = R.head := by
  by_cases hg : Good R gs
  · have e := forget_good hg
    refine ⟨hg, e, ?_⟩
    rw [e]; simp [Revs.head]
  · rw [forget_bad hg] at h; cases h
theorem forget_ok {E : Eng} (h : E.Ok) {gs : List Int} (hz : (forgetR E.R gs).2 = 0) : Eng.Ok ⟨restL gs (E.R.undone (E.R.head : Nat)) E.l, (forgetR E.R gs).1⟩ := by
  obtain ⟨_, _, hh⟩ := forgetR_ok hz
  refine ⟨?_, fun b hb => ?_, fun b hb => ?_⟩
  · have := restL_len gs (E.R.undone (E.R.head : Nat)) E.l; have := h.len; simp only; omega
  · simp only [restL, List.mem_filterMap] at hb
    obtain ⟨a, ha, hb⟩ := hb
    rw [(restA_some hb).1]; exact h.txt a ha
  · simp only [restL, List.mem_filterMap] at hb
    obtain ⟨a, ha, hb⟩ := hb
    rw [(restA_some hb).1]
    have := h.cuts a ha
    have := List.length_filter_le (fun c : Cut => !goneG gs (E.R.undone (E.R.head : Nat)) c.group) a.cuts
    simp only [hh]; omega
set_option maxHeartbeats 2000000 in
theorem eforget_at {σ : Heap} {k : Nat} {E E' : Eng} {fp : List Nat} {c : Int} (h : IsEng σ k E fp) {gs : List Int} (hl : gs.length ≤ 1000000) (e : forgetE E gs = (E', c)) : MSpec Tryz.prog n_engine_Engine_Forget [.ptr (.new k) 0, ints gs] σ fun v τ => v = .int .i64 c ∧ ∃ fp', IsEng τ k E' fp' ∧ Keep fp σ τ ∧ Fresh fp σ fp' := by
  refine spec_of_awp mixed c_engine_Engine_Forget (Nat.le_of_ble_eq_true rfl) ?_
  unfold f_engine_Engine_Forget
  have hlow := h.low
  have hok := h.ok
  obtain ⟨x, kr, fpr, hA, rfl⟩ := id h
  have hb := hA.blk
  have hx := hA.lst.cells.2.2
  have hun := hA.undone
  have hfits := hok.1.fits hok.2
  rcases hf : forgetR E.R gs with ⟨R', c'⟩
  have hfo := forget_at hA.revs hl hf
  simp only [ints] at hun hfo
  simp only [↓evd, evu, evf, implies_true, reduceCtorEq, Nat.reduceEqDiff, ↓reduceIte, Nat.reduceAdd, Nat.reduceLeDiff, Nat.reduceLT, Nat.reduceMul, Int.reduceLT, Int.reduceLE, Int.reduceToNat, evz]
  refine MSpec.of hun ?_
  simp only [↓evd, evu, evf, implies_true, reduceCtorEq, Nat.reduceEqDiff, ↓reduceIte, Nat.reduceAdd, Nat.reduceLeDiff, Nat.reduceLT, Nat.reduceMul, Int.reduceLT, Int.reduceLE, Int.reduceToNat, evz, hb]
  refine hfo.mono ?_
  rintro v τ ⟨rfl, fpr1, hR1, hK1, hF1⟩
  have hkp : Keep (k :: fpr) σ τ := hK1.mono fun y hy _ => List.mem_cons_of_mem _ hy
  have hbk : τ.get k = some (.cells [x, .ptr (.new kr) 0] none) := by rw [hK1.2.2.2 k hA.low hA.out]; exact hb
  have hkf : k ∉ fpr1 := fun hm => by
    rcases hF1 k hm with h1 | h1
    · exact hA.out h1
    · have := hA.low; omega
  by_cases hc : c' = 0
  · subst hc
    have hcb : ((0 : Int) != 0) = false := rfl
    have hok2 := forget_ok hok.1 (gs := gs) (by rw [hf])
    rw [hf] at hok2
    rw [forgetE, hf, if_neg (by simp)] at e
    cases e
    have hre := hA.lst.call (rest_call τ E.l gs (E.R.undone (E.R.head : Nat)) hl (undone_few hok.2 _) hfits.1 hfits.2.1)
    simp only [ints, eAtoms] at hre
    have hkl : k < τ.next := by have := hA.low; have := hK1.2.2.1; omega
    have hT := IsEng.took (E' := ⟨restL gs (E.R.undone (E.R.head : Nat)) E.l, R'⟩) hkl hR1.low (.inl rfl) hR1 hkf hok2
    simp only [eAtoms] at hT
    simp only [↓evd, evu, evf, implies_true, reduceCtorEq, Nat.reduceEqDiff, ↓reduceIte, Nat.reduceAdd, Nat.reduceLeDiff, Nat.reduceLT, Nat.reduceMul, Int.reduceLT, Int.reduceLE, Int.reduceToNat, evz, hcb, hbk, hx]
    refine MSpec.of hre ?_
    simp only [↓evd, evu, evf, implies_true, reduceCtorEq, Nat.reduceEqDiff, ↓reduceIte, Nat.reduceAdd, Nat.reduceLeDiff, Nat.reduceLT, Nat.reduceMul, Int.reduceLT, Int.reduceLE, Int.reduceToNat, evz, hbk]
    refine ⟨k :: fpr1, hT, hkp.set (.inl (by simp)) _, fun y hy => ?_⟩
    rcases List.mem_cons.1 hy with rfl | hy
    · exact .inl (by simp)
    · rcases hF1 y hy with h1 | h1
      · exact .inl (List.mem_cons_of_mem _ h1)
      · exact .inr h1
  · have hcb : (c' != 0) = true := by simpa using hc
    have hRR : R' = E.R := by
      by_cases hg : Good E.R gs
      · rw [forget_good hg] at hf; cases hf; exact absurd rfl hc
      · rw [forget_bad hg] at hf; cases hf; rfl
    subst hRR
    rw [forgetE, hf, if_pos hc] at e
    cases e
    simp only [↓evd, evu, evf, implies_true, reduceCtorEq, Nat.reduceEqDiff, ↓reduceIte, Nat.reduceAdd, Nat.reduceLeDiff, Nat.reduceLT, Nat.reduceMul, Int.reduceLT, Int.reduceLE, Int.reduceToNat, evz, hcb]
    refine ⟨k :: fpr1, ⟨x, kr, fpr1, ⟨hbk, hA.lst, hR1, hkf, by have := hA.low; have := hK1.2.2.1; omega, hA.ok⟩, rfl⟩, hkp, fun y hy => ?_⟩
    rcases List.mem_cons.1 hy with rfl | hy
    · exact .inl (by simp)
    · rcases hF1 y hy with h1 | h1
      · exact .inl (List.mem_cons_of_mem _ h1)
      · exact .inr h1
/-- what a step makes of an engine -/
def doF (E : Eng) (x : Step) : Eng × Int × Int := if x.what ≤ 6 then doE E x else ((forgetE E x.groups).1, 0, (forgetE E x.groups).2)
theorem doF_at {σ : Heap} {k : Nat} {E E' : Eng} {fp : List Nat} {n c : Int} (h : IsEng σ k E fp) {x : Step} (hf : fewOne x = true) (e : doF E x = (E', n, c)) :
    MSpec Tryz.prog n_palinodelaw20_do [.ptr (.new k) 0, eStep x] σ fun v τ => v = .tup [.int .i64 n, .int .i64 c] ∧ ∃ fp', IsEng τ k E' fp' ∧ Keep fp σ τ ∧ Fresh fp σ fp' := by
  by_cases hw : x.what ≤ 6
  · rw [doF, if_pos hw] at e
    exact do_at h hf hw e
  rw [doF, if_neg hw] at e
  obtain ⟨f1, f2, f3⟩ := fewOne_iff.1 hf
  refine spec_of_awp mixed c_palinodelaw20_do (Nat.le_of_ble_eq_true rfl) ?_
  unfold f_palinodelaw20_do
  have hk : Keep [] σ (σ.new (.cells [.int .i64 x.what, .int .i64 x.base, .int .i64 x.group, .int .i64 x.rank, eChgs x.c, ints x.groups] none)) := (Keep.refl _ _).new _
  have hE := h.keep hk (fun y _ => by simp)
  rcases hfo : forgetE E x.groups with ⟨E2, c2⟩
  rw [hfo] at e
  cases e
  have h4 : ¬ x.what ≤ 4 := by omega
  have hfg := eforget_at hE (by omega) hfo
  simp only [eChgs, ints] at hfg
  simp only [↓evd, evu, evf, implies_true, reduceCtorEq, Nat.reduceEqDiff, ↓reduceIte, Nat.reduceAdd, Nat.reduceLeDiff, Nat.reduceLT, Nat.reduceMul, Int.reduceLT, Int.reduceLE, Int.reduceToNat, evz, eStep, h4, hw]
  refine hfg.mono ?_
  rintro v τ ⟨rfl, fp', h1, h2, h3⟩
  simp only [↓evd, evu, evf, implies_true, reduceCtorEq, Nat.reduceEqDiff, ↓reduceIte, Nat.reduceAdd, Nat.reduceLeDiff, Nat.reduceLT, Nat.reduceMul, Int.reduceLT, Int.reduceLE, Int.reduceToNat, evz]
  exact ⟨_, h1, (hk.mono (fun x hx => nomatch hx)).trans h2 (fun x hx => .inl hx), fun x hx => by
      rcases h3 x hx with h | h
      · exact .inl h
      · exact .inr (Nat.le_of_succ_le h)⟩
end Go.Proofs.YtmjngohmcljfjaaGreat.M
set_option linter.unusedSimpArgs false
set_option linter.unusedVariables false
set_option maxRecDepth 100000
namespace Go.Proofs.YtmjngohmcljfjaaGreat.M
open Go Go.Mini
attribute [local congr] go1_congr goM_congr goG_congr goV_congr drawwp_congr Xwp_congr
theorem delAll_mem {s ks : List Int} {x : Int} : x ∈ delAll s ks ↔ x ∈ s ∧ x ∉ ks := by simp [delAll]
/-- forgetting changes no text -/
theorem rest_text {gs u : List Int} {h : Int} (hg : ∀ x ∈ gs, x ≠ -1) : ∀ {l : List Atom}, (∀ a ∈ l, ∀ c ∈ a.cuts, c.rev ≤ h) → atomsText h (delAll u gs) (restL gs u l) = atomsText h u l
  | [], _ => rfl
  | a :: l, ho => by
    have ih := rest_text (u := u) hg (l := l) fun b hb => ho b (List.mem_cons_of_mem _ hb)
    have hoa := ho a (by simp)
    have hsame : ∀ g : Int, g ∉ gs → holds (delAll u gs) g = holds u g := fun g hng => by
      simp only [holds]
      congr 2
      exact decide_eq_decide.2 (by rw [delAll_mem]; exact ⟨fun h => h.1, fun h => ⟨h, hng⟩⟩)
    cases hr : restA gs u a with
    | none =>
      have hv : visible h u a = false := by
        unfold restA at hr
        split at hr
        · rename_i hc
          rw [Bool.or_eq_true] at hc
          rcases hc with hc | hc
          · simp only [goneG, Bool.and_eq_true, decide_eq_true_eq] at hc
            have : holds u a.group = false := by
              simp only [holds, Bool.or_eq_false_iff, decide_eq_false_iff_not]
              exact ⟨hg _ hc.1, by simp [hc.2]⟩
            simp only [visible, this, Bool.and_false, Bool.false_and]
          · rw [List.any_eq_true] at hc
            obtain ⟨c, hcm, hcs⟩ := hc
            simp only [staysG, Bool.and_eq_true, decide_eq_true_eq] at hcs
            have hh : cutHolds h u c = true := by
              have hnu : c.group ∉ u := by simpa using hcs.2
              simp only [cutHolds, holds, Bool.and_eq_true, decide_eq_true_eq, Bool.or_eq_true]
              exact ⟨hoa c hcm, .inr (by simp [hnu])⟩
            have : a.cuts.any (cutHolds h u) = true := List.any_eq_true.2 ⟨c, hcm, hh⟩
            simp only [visible, this, Bool.not_true, Bool.and_false]
        · cases hr
      have e : restL gs u (a :: l) = restL gs u l := by simp only [restL, List.filterMap_cons, hr]
      rw [e, ih]
      simp only [atomsText, hv, Bool.false_eq_true, if_false, List.nil_append]
    | some b =>
      obtain ⟨hb, hgone, hstay⟩ := restA_some hr
      have e : restL gs u (a :: l) = b :: restL gs u l := by simp only [restL, List.filterMap_cons, hr]
      have hcut : b.cuts.any (cutHolds h (delAll u gs)) = a.cuts.any (cutHolds h u) := by
        rw [hb, Bool.eq_iff_iff, List.any_eq_true, List.any_eq_true]
        constructor
        · rintro ⟨c, hc, hh⟩
          simp only [List.mem_filter] at hc
          refine ⟨c, hc.1, ?_⟩
          have hng : c.group ∉ gs := fun hin => by
            have h1 : staysG gs u c.group = false := by
              rw [List.any_eq_false] at hstay
              simpa using hstay c hc.1
            have h2 : goneG gs u c.group = false := by simpa using hc.2
            simp [staysG, goneG, hin] at h1 h2
            exact h2 h1
          simp only [cutHolds, hsame _ hng] at hh ⊢; exact hh
        · rintro ⟨c, hc, hh⟩
          have hng : c.group ∉ gs := fun hin => by
            have h1 : staysG gs u c.group = false := by
              rw [List.any_eq_false] at hstay
              simpa using hstay c hc
            simp only [staysG, hin, decide_true, Bool.true_and, Bool.not_eq_false'] at h1
            simp only [cutHolds, holds, Bool.and_eq_true, Bool.or_eq_true, decide_eq_true_eq, h1, Bool.not_true, Bool.false_eq_true, or_false] at hh
            exact hg _ hin hh.2
          refine ⟨c, ?_, ?_⟩
          · simp only [List.mem_filter]
            exact ⟨hc, by simp [goneG, hng]⟩
          · simp only [cutHolds, hsame _ hng]; exact hh
      have hgr : holds (delAll u gs) b.group = holds u a.group := by
        rw [hb]
        by_cases hin : a.group ∈ gs
        · have hnu : a.group ∉ u := fun hu => by simp [goneG, hin, hu] at hgone
          simp [holds, hin, hnu]
        · simp only [if_neg hin]; exact hsame _ hin
      have hv : visible h (delAll u gs) b = visible h u a := by
        simp only [visible, hcut, hgr]
        rw [hb]
      rw [e]
      simp only [atomsText, hv, ih]
      rw [hb]
theorem check_nil {s : List UInt8} (hs : valid s = true) (hl : s.length ≤ 20000) : check s [] = 0 := by
  have h1 : longI s [] = 0 := by simp only [longI, gains, List.map_nil, List.sum_nil, longR]; rw [if_neg (by omega)]
  unfold check
  rw [if_neg (by rw [hs]; simp), if_neg (by simp)]
  simp only [errs, List.any_nil, disorder, h1]; rfl
def maskB (m : Int) (g : Int) : Bool := bitOp .and .u64 (m.fdiv (2 ^ (min g.toNat (IntKind.bits .u64)))) 1 == 1
set_option maxHeartbeats 8000000 in
theorem forgets20_fspec (W : World) (l : List Step) (mask : Int) (hl : l.length ≤ 9223372036854775807) (hx : ∀ x ∈ l, StepFits x) : FSpec Tryz.prog n_palinodelaw20_EngineForgets [eSteps l, .int .u64 mask] (Heap.bare W (cellsOf W)) fun v s => v = .bool true ∧ s.W = W := by
  refine fspec_of_xwp c_palinodelaw20_EngineForgets (Nat.le_of_ble_eq_true rfl) ?_
  unfold f_palinodelaw20_EngineForgets
  have hfew := few_call (Heap.bare W (cellsOf W)) l hl hx
  simp only [eSteps] at hfew
  refine x_seq mixed ?_
  simp only [↓evd, evu, evf, implies_true, reduceCtorEq, Nat.reduceEqDiff, ↓reduceIte, Nat.reduceAdd, Nat.reduceLeDiff, Nat.reduceLT, Nat.reduceMul, Int.reduceLT, Int.reduceLE, Int.reduceToNat, evz]
  refine x_seq mixed ?_
  simp only [↓evd, evu, evf, implies_true, reduceCtorEq, Nat.reduceEqDiff, ↓reduceIte, Nat.reduceAdd, Nat.reduceLeDiff, Nat.reduceLT, Nat.reduceMul, Int.reduceLT, Int.reduceLE, Int.reduceToNat, evz]
  refine MSpec.of (known20_call _ rfl) ?_
  simp only [↓evd, evu, evf, implies_true, reduceCtorEq, Nat.reduceEqDiff, ↓reduceIte, Nat.reduceAdd, Nat.reduceLeDiff, Nat.reduceLT, Nat.reduceMul, Int.reduceLT, Int.reduceLE, Int.reduceToNat, evz, eSteps]
  refine x_seq mixed ?_
  simp only [↓evd, evu, evf, implies_true, reduceCtorEq, Nat.reduceEqDiff, ↓reduceIte, Nat.reduceAdd, Nat.reduceLeDiff, Nat.reduceLT, Nat.reduceMul, Int.reduceLT, Int.reduceLE, Int.reduceToNat, evz]
  refine MSpec.of hfew ?_
  cases hfb : fewB l with
  | false => simp only [↓evd, evu, evf, implies_true, reduceCtorEq, Nat.reduceEqDiff, ↓reduceIte, Nat.reduceAdd, Nat.reduceLeDiff, Nat.reduceLT, Nat.reduceMul, Int.reduceLT, Int.reduceLE, Int.reduceToNat, evz]
  | true =>
  have hall : ∀ x ∈ l, fewOne x = true := fun x hx => by
    simp only [fewB, Bool.and_eq_true, List.all_eq_true] at hfb
    exact hfb.1 x hx
  have hl25 : l.length ≤ 25 := by simp only [fewB, Bool.and_eq_true, decide_eq_true_eq] at hfb; exact hfb.2
  simp only [↓evd, evu, evf, implies_true, reduceCtorEq, Nat.reduceEqDiff, ↓reduceIte, Nat.reduceAdd, Nat.reduceLeDiff, Nat.reduceLT, Nat.reduceMul, Int.reduceLT, Int.reduceLE, Int.reduceToNat, evz]
  refine x_seq mixed ?_
  simp only [↓evd, evu, evf, implies_true, reduceCtorEq, Nat.reduceEqDiff, ↓reduceIte, Nat.reduceAdd, Nat.reduceLeDiff, Nat.reduceLT, Nat.reduceMul, Int.reduceLT, Int.reduceLE, Int.reduceToNat, evz]
  refine (enew_at _ rfl).mono ?_
  rintro v τ ⟨k, fp0, rfl, h0, hf0, k0⟩
  simp only [↓evd, evu, evf, implies_true, reduceCtorEq, Nat.reduceEqDiff, ↓reduceIte, Nat.reduceAdd, Nat.reduceLeDiff, Nat.reduceLT, Nat.reduceMul, Int.reduceLT, Int.reduceLE, Int.reduceToNat, evz]
  refine x_seq mixed ?_
  simp only [↓evd, evu, evf, implies_true, reduceCtorEq, Nat.reduceEqDiff, ↓reduceIte, Nat.reduceAdd, Nat.reduceLeDiff, Nat.reduceLT, Nat.reduceMul, Int.reduceLT, Int.reduceLE, Int.reduceToNat, evz]
  refine awp_loop (fun m fr ρ => ∃ (i : Nat) (E : Eng) (fp : List Nat), m + i = l.length ∧ fr.get 0 = eSteps l ∧ fr.get 1 = .int .u64 mask ∧ fr.get 5 = .ptr (.new k) 0 ∧ fr.get 6 = .int .i64 (i : Nat) ∧ IsEng ρ k E fp ∧ E.Old ∧ ρ.W = W) ?_ (m := l.length) ?_
  · rintro m fr ρ ⟨i, E, fp, hi, e0, e1, e5, e6, hE, hold, hW⟩
    by_cases hlt : i < l.length
    · have hlt' : (i : Int) < (l.length : Int) := by omega
      have hs := wrap_succ (i := i) (by omega)
      have hgt := map_get eStep l i hlt
      have hone := hall _ (List.getElem_mem hlt)
      generalize l[i] = x at hgt hone
      by_cases h6 : x.what ≤ 6
      · rcases hdo : doE E x with ⟨E', n, c⟩
        have hdc := do_at hE hone h6 hdo
        have hold' : E'.Old := by
          by_cases hc : c = 0
          · subst hc
            unfold doE at hdo
            split at hdo
            · exact edit_old hE.ok.2 hold hdo
            · exact toggle_old hE.ok.2 hold hdo
          · have : E' = E := by
              unfold doE at hdo
              split at hdo
              · exact (edit_fail hdo hc).1
              · exact (toggle_fail hdo hc).1
            rw [this]; exact hold
        simp only [eStep, eChgs, ints] at hdc
        simp only [↓evd, evu, evf, implies_true, reduceCtorEq, Nat.reduceEqDiff, ↓reduceIte, Nat.reduceAdd, Nat.reduceLeDiff, Nat.reduceLT, Nat.reduceMul, Int.reduceLT, Int.reduceLE, Int.reduceToNat, evz, e0, e1, e5, e6, eSteps, eStep, hlt', hgt, h6]
        refine hdc.mono ?_
        rintro v τ1 ⟨rfl, fp1, hE1, kk1, f1⟩
        simp only [↓evd, evu, evf, implies_true, reduceCtorEq, Nat.reduceEqDiff, ↓reduceIte, Nat.reduceAdd, Nat.reduceLeDiff, Nat.reduceLT, Nat.reduceMul, Int.reduceLT, Int.reduceLE, Int.reduceToNat, evz, e0, e1, e5, e6, eSteps, eStep, hs]
        exact ⟨m - 1, by omega, i + 1, E', fp1, by omega, rfl, hE1, hold', kk1.1.trans hW⟩
      · simp only [↓evd, evu, evf, implies_true, reduceCtorEq, Nat.reduceEqDiff, ↓reduceIte, Nat.reduceAdd, Nat.reduceLeDiff, Nat.reduceLT, Nat.reduceMul, Int.reduceLT, Int.reduceLE, Int.reduceToNat, evz, e0, e1, e5, e6, eSteps, eStep, hlt', hgt, h6, hs]
        exact ⟨m - 1, by omega, i + 1, E, fp, by omega, rfl, hE, hold, hW⟩
    · have hlt' : ¬ (i : Int) < (l.length : Int) := by omega
      obtain ⟨hok, hRok⟩ := hE.ok
      have hgr := egroups_at hE
      have hgrise : Rise E.R.grp := hRok.grp
      have hgl := rise_len hgrise
      simp only [ints] at hgr
      simp only [↓evd, evu, evf, implies_true, reduceCtorEq, Nat.reduceEqDiff, ↓reduceIte, Nat.reduceAdd, Nat.reduceLeDiff, Nat.reduceLT, Nat.reduceMul, Int.reduceLT, Int.reduceLE, Int.reduceToNat, evz, e0, e1, e5, e6, eSteps, hlt']
      refine x_seq mixed ?_
      simp only [↓evd, evu, evf, implies_true, reduceCtorEq, Nat.reduceEqDiff, ↓reduceIte, Nat.reduceAdd, Nat.reduceLeDiff, Nat.reduceLT, Nat.reduceMul, Int.reduceLT, Int.reduceLE, Int.reduceToNat, evz]
      refine x_seq mixed ?_
      simp only [↓evd, evu, evf, implies_true, reduceCtorEq, Nat.reduceEqDiff, ↓reduceIte, Nat.reduceAdd, Nat.reduceLeDiff, Nat.reduceLT, Nat.reduceMul, Int.reduceLT, Int.reduceLE, Int.reduceToNat, evz]
      simp only [↓evd, evu, evf, implies_true, reduceCtorEq, Nat.reduceEqDiff, ↓reduceIte, Nat.reduceAdd, Nat.reduceLeDiff, Nat.reduceLT, Nat.reduceMul, Int.reduceLT, Int.reduceLE, Int.reduceToNat, evz, e1, e5]
      refine MSpec.of hgr ?_
      simp only [↓evd, evu, evf, implies_true, reduceCtorEq, Nat.reduceEqDiff, ↓reduceIte, Nat.reduceAdd, Nat.reduceLeDiff, Nat.reduceLT, Nat.reduceMul, Int.reduceLT, Int.reduceLE, Int.reduceToNat, evz, e1, e5]
      refine x_seq mixed ?_
      simp only [↓evd, evu, evf, implies_true, reduceCtorEq, Nat.reduceEqDiff, ↓reduceIte, Nat.reduceAdd, Nat.reduceLeDiff, Nat.reduceLT, Nat.reduceMul, Int.reduceLT, Int.reduceLE, Int.reduceToNat, evz]
      obtain ⟨all, hall2⟩ : ∃ all, E.R.grp = all := ⟨_, rfl⟩
      rw [hall2] at hgrise hgl
      simp only [hall2]
      refine awp_loop (fun m fr ρ' => ∃ (j : Nat), m + j = all.length ∧ fr.get 1 = .int .u64 mask ∧ fr.get 5 = .ptr (.new k) 0 ∧ fr.get 8 = ints all ∧ fr.get 9 = .int .i64 (j : Nat) ∧ Own ρ.next ρ' t_int 1 (fr.get 7) (((all.take j).filter (maskB mask)).map (AVal.int .i64 ·)) ∧ Keep [] ρ ρ') ?_ (m := all.length) ?_
      · clear e0 e1 e5 e6 hlt hlt' hi
        rintro m fr ρ' ⟨j, hj, e1, e5, e8, e9, hO, hK⟩
        by_cases hjt : j < all.length
        · have hjt' : (j : Int) < (all.length : Int) := by omega
          have hsj := wrap_succ (i := j) (by omega)
          have hgt := map_get (AVal.int .i64 ·) all j hjt
          have htf := take_filter (maskB mask) hjt
          have hgb := hgrise.2 _ (List.getElem_mem hjt)
          generalize all[j] = g at hgt htf hgb
          have hw := wrap_u64 hgb.1 hgb.2
          have hng : ¬ g < 0 := by omega
          have hfl : ((all.take j).filter (maskB mask)).length ≤ 1000000 := by
            have := List.length_filter_le (maskB mask) (all.take j)
            rw [List.length_take] at this; omega
          have hmk : (bitOp .and .u64 (mask.fdiv (2 ^ (min g.toNat (IntKind.bits .u64)))) 1 == 1) = maskB mask g := rfl
          cases hmb : maskB mask g with
          | true =>
            rw [hmb] at hmk htf
            obtain ⟨x1, ρ1, a1, a2, a3, a4, a5, a6, a7⟩ := own_int hO hK.2.2.1 hfl g
            simp only [↓evd, evu, evf, implies_true, reduceCtorEq, Nat.reduceEqDiff, ↓reduceIte, Nat.reduceAdd, Nat.reduceLeDiff, Nat.reduceLT, Nat.reduceMul, Int.reduceLT, Int.reduceLE, Int.reduceToNat, evz, e1, e5, e8, e9, hjt', hgt, hw, hng, hmk, a1, hsj]
            refine ⟨m - 1, by omega, j + 1, by omega, rfl, ?_, ?_⟩
            · rw [htf, if_pos rfl]; exact a2
            · exact ⟨a3.trans hK.1, a4.trans hK.2.1, Nat.le_trans hK.2.2.1 (Nat.le_of_lt a5), fun q hq _ => by
                rw [a6 q (Nat.lt_of_lt_of_le hq hK.2.2.1) (fun K o n c e hk => by have := (hO.low e).1; omega)]; exact hK.2.2.2 q hq (by simp)⟩
          | false =>
            rw [hmb] at hmk htf
            simp only [↓evd, evu, evf, implies_true, reduceCtorEq, Nat.reduceEqDiff, ↓reduceIte, Nat.reduceAdd, Nat.reduceLeDiff, Nat.reduceLT, Nat.reduceMul, Int.reduceLT, Int.reduceLE, Int.reduceToNat, evz, e1, e5, e8, e9, hjt', hgt, hw, hng, hmk, hsj]
            refine ⟨m - 1, by omega, j + 1, by omega, rfl, ?_, hK⟩
            rw [htf, if_neg (by simp), List.append_nil]; exact hO
        · have hjt' : ¬ (j : Int) < (all.length : Int) := by omega
          rw [List.take_of_length_le (by omega)] at hO
          simp only [↓evd, evu, evf, implies_true, reduceCtorEq, Nat.reduceEqDiff, ↓reduceIte, Nat.reduceAdd, Nat.reduceLeDiff, Nat.reduceLT, Nat.reduceMul, Int.reduceLT, Int.reduceLE, Int.reduceToNat, evz, e1, e5, e8, e9, hjt']
          clear e1 e9 hjt hjt' hj
          have hGn : (all.filter (maskB mask)).Nodup := hgrise.nodup.sublist List.filter_sublist
          have hGs : ∀ g ∈ all.filter (maskB mask), g ∈ all := fun g hg => (List.mem_filter.1 hg).1
          have hGl : (delAll all (all.filter (maskB mask))).length = all.length - (all.filter (maskB mask)).length := by
            rw [delAll_filter _ (fun x hx => hx)]
            have h1 := List.length_eq_countP_add_countP (maskB mask) (l := all)
            rw [List.countP_eq_length_filter, List.countP_eq_length_filter] at h1
            have h2 : (all.filter fun x => decide ¬ maskB mask x = true).length = (all.filter fun x => !maskB mask x).length := by
              congr 1; apply List.filter_congr; intro x _; cases maskB mask x <;> rfl
            omega
          have hGle := List.length_filter_le (maskB mask) all
          generalize all.filter (maskB mask) = G at hO hGn hGs hGl hGle
          generalize h7 : fr.get 7 = x7 at hO
          obtain ⟨τ1, s1, d1⟩ := Own.sees2 hO
          have hK1 : Keep [] ρ τ1 := by rcases d1 with rfl | ⟨K, _, rfl, hK2⟩; exact hK; exact hK.set (.inr hK2) _
          have hE1 := hE.keep hK1 (fun y _ => by simp)
          have hW1 : τ1.W = W := hK1.1.trans hW
          have hgood : Good E.R G := ⟨hGn, by rw [hall2]; exact hGs⟩
          have hfg := forget_good hgood
          have hfE : forgetE E G = (⟨restL G (E.R.undone (E.R.head : Nat)) E.l, ⟨[delAll E.R.top G], E.R.head, delAll E.R.grp G, goneAll E.R.gone G⟩⟩, 0) := by rw [forgetE, hfg]; rfl
          have hG0 : ∀ x ∈ G, x ≠ -1 := fun x hx => by have := (hgrise.2 x (hGs x hx)).1; omega
          have htxt := rest_text (h := (E.R.head : Nat)) (u := E.R.undone (E.R.head : Nat)) hG0 (l := E.l) (fun a ha c hc => (hold a ha).2 c hc)
          have hrl := restL_len G (E.R.undone (E.R.head : Nat)) E.l
          refine x_freeze (FSees.reg (t := 7) (by decide) (by simp only [↓evd, evu, evf, implies_true, reduceCtorEq, Nat.reduceEqDiff, ↓reduceIte, Nat.reduceAdd, Nat.reduceLeDiff, Nat.reduceLT, Nat.reduceMul, Int.reduceLT, Int.reduceLE, Int.reduceToNat, evz, h7]) s1) ?_
          refine x_of_awp mixed ?_
          have hhd := ehead_at hE1
          have htx := etext_at hE1 (E.R.head : Nat)
          rw [textV_head hRok] at htx
          have hat := eatoms_at hE1
          have b0 : ((0 : Int) != 0) = false := rfl
          have hfo := eforget_at hE1 (by omega) hfE
          simp only [ints, eAtoms] at hat hfo
          simp only [↓evd, evu, evf, implies_true, reduceCtorEq, Nat.reduceEqDiff, ↓reduceIte, Nat.reduceAdd, Nat.reduceLeDiff, Nat.reduceLT, Nat.reduceMul, Int.reduceLT, Int.reduceLE, Int.reduceToNat, evz, e5, e8]
          refine MSpec.of hhd ?_
          simp only [↓evd, evu, evf, implies_true, reduceCtorEq, Nat.reduceEqDiff, ↓reduceIte, Nat.reduceAdd, Nat.reduceLeDiff, Nat.reduceLT, Nat.reduceMul, Int.reduceLT, Int.reduceLE, Int.reduceToNat, evz, e5, e8]
          refine MSpec.of htx ?_
          simp only [↓evd, evu, evf, implies_true, reduceCtorEq, Nat.reduceEqDiff, ↓reduceIte, Nat.reduceAdd, Nat.reduceLeDiff, Nat.reduceLT, Nat.reduceMul, Int.reduceLT, Int.reduceLE, Int.reduceToNat, evz, e5, e8]
          refine MSpec.of hat ?_
          simp only [↓evd, evu, evf, implies_true, reduceCtorEq, Nat.reduceEqDiff, ↓reduceIte, Nat.reduceAdd, Nat.reduceLeDiff, Nat.reduceLT, Nat.reduceMul, Int.reduceLT, Int.reduceLE, Int.reduceToNat, evz, e5, e8]
          refine hfo.mono ?_
          rintro v τ2 ⟨rfl, fp2, hE2, k2, f2⟩
          have hW2 : τ2.W = W := k2.1.trans hW1
          obtain ⟨hok2, hRok2⟩ := hE2.ok
          have hhead2 : Revs.head ⟨[delAll E.R.top G], E.R.head, delAll E.R.grp G, goneAll E.R.gone G⟩ = E.R.head := by simp [Revs.head]
          have hhd2 := ehead_at hE2
          have htx2 := etext_at hE2 (E.R.head : Nat)
          have htv := textV_head hRok2
          have hun := hRok2.top.1
          simp only [hhead2] at hhd2 htv hun
          have hteq : Eng.text ⟨restL G (E.R.undone (E.R.head : Nat)) E.l, ⟨[delAll E.R.top G], E.R.head, delAll E.R.grp G, goneAll E.R.gone G⟩⟩ (E.R.head : Nat) = E.text (E.R.head : Nat) := by
            rw [Eng.text, hun, Eng.text, ← htxt, hRok.top.1]; rfl
          rw [htv, hteq] at htx2
          have hat2 := eatoms_at hE2
          have hgr2 := egroups_at hE2
          have hgl2 : (delAll E.R.grp G).length = all.length - G.length := by rw [hall2]; exact hGl
          have hlv2 : Revs.live ⟨[delAll E.R.top G], E.R.head, delAll E.R.grp G, goneAll E.R.gone G⟩ ((E.R.head : Nat) : Int) = true := by
            have := Eng.live_head hRok2; simp only [hhead2] at this; exact this
          have hnl : ¬ (E.l.length : Int) < ((restL G (E.R.undone (E.R.head : Nat)) E.l).length : Int) := by omega
          have hwd : IntKind.i64.wrap ((all.length : Int) - (G.length : Int)) = ((all.length - G.length : Nat) : Int) := by rw [wrap_id (by omega) (by omega)]; omega
          have hbe : (((all.length - G.length : Nat) : Int) != ((all.length - G.length : Nat) : Int)) = false := by simp
          have hhl := head_le hRok
          have htog : ∀ g ∈ G, toggleE ⟨restL G (E.R.undone (E.R.head : Nat)) E.l, ⟨[delAll E.R.top G], E.R.head, delAll E.R.grp G, goneAll E.R.gone G⟩⟩ g = (⟨restL G (E.R.undone (E.R.head : Nat)) E.l, ⟨[delAll E.R.top G], E.R.head, delAll E.R.grp G, goneAll E.R.gone G⟩⟩, 0, 210) := fun g hg => by
            rw [toggleE, toggle_bad (by simp only [delAll_mem]; exact fun h => h.2 hg), if_pos (by simp)]
          have hshort := short_text hok2.len hok2.txt
          have hed : ∀ g ∈ G, editE ⟨restL G (E.R.undone (E.R.head : Nat)) E.l, ⟨[delAll E.R.top G], E.R.head, delAll E.R.grp G, goneAll E.R.gone G⟩⟩ ((E.R.head : Nat) : Int) g 0 [] = (⟨restL G (E.R.undone (E.R.head : Nat)) E.l, ⟨[delAll E.R.top G], E.R.head, delAll E.R.grp G, goneAll E.R.gone G⟩⟩, 0, 210) := fun g hg => by
            have hv := valid_iff.2 (atoms_valid hok2.txt ((E.R.head : Nat) : Int) (Revs.undone ⟨[delAll E.R.top G], E.R.head, delAll E.R.grp G, goneAll E.R.gone G⟩ ((E.R.head : Nat) : Int)))
            have hck := check_nil hv (hshort _ _)
            rw [editE, if_neg (by simp [hlv2]), if_neg (by simp only [Eng.text]; simp [hck]), add_bad (.inl (mem_goneAll.2 (.inl hg))), if_pos (by simp)]
          have hlast : textV ⟨restL G (E.R.undone (E.R.head : Nat)) E.l, ⟨[delAll E.R.top G], E.R.head, delAll E.R.grp G, goneAll E.R.gone G⟩⟩ ((E.R.head : Int) - 1) = .tup [.str [], .int .i64 190] := by
            rw [textV, if_neg]
            rw [live_iff]; simp only; omega
          simp only [ints, eAtoms] at hat2 hgr2
          simp only [↓evd, evu, evf, implies_true, reduceCtorEq, Nat.reduceEqDiff, ↓reduceIte, Nat.reduceAdd, Nat.reduceLeDiff, Nat.reduceLT, Nat.reduceMul, Int.reduceLT, Int.reduceLE, Int.reduceToNat, evz, e5, e8, b0]
          refine MSpec.of hhd2 ?_
          simp only [↓evd, evu, evf, implies_true, reduceCtorEq, Nat.reduceEqDiff, ↓reduceIte, Nat.reduceAdd, Nat.reduceLeDiff, Nat.reduceLT, Nat.reduceMul, Int.reduceLT, Int.reduceLE, Int.reduceToNat, evz, e5, e8]
          refine MSpec.of htx2 ?_
          simp only [↓evd, evu, evf, implies_true, reduceCtorEq, Nat.reduceEqDiff, ↓reduceIte, Nat.reduceAdd, Nat.reduceLeDiff, Nat.reduceLT, Nat.reduceMul, Int.reduceLT, Int.reduceLE, Int.reduceToNat, evz, e5, e8, b0, aStr_nself]
          refine MSpec.of hat2 ?_
          simp only [↓evd, evu, evf, implies_true, reduceCtorEq, Nat.reduceEqDiff, ↓reduceIte, Nat.reduceAdd, Nat.reduceLeDiff, Nat.reduceLT, Nat.reduceMul, Int.reduceLT, Int.reduceLE, Int.reduceToNat, evz, e5, e8, hnl]
          refine MSpec.of hgr2 ?_
          simp only [↓evd, evu, evf, implies_true, reduceCtorEq, Nat.reduceEqDiff, ↓reduceIte, Nat.reduceAdd, Nat.reduceLeDiff, Nat.reduceLT, Nat.reduceMul, Int.reduceLT, Int.reduceLE, Int.reduceToNat, evz, e5, e8, hgl2, hwd, hbe]
          obtain ⟨E2, hEE⟩ : ∃ E2, (⟨restL G (E.R.undone (E.R.head : Nat)) E.l, ⟨[delAll E.R.top G], E.R.head, delAll E.R.grp G, goneAll E.R.gone G⟩⟩ : Eng) = E2 := ⟨_, rfl⟩
          have hhdE : E2.R.head = E.R.head := by rw [← hEE]; exact hhead2
          simp only [hEE] at hE2 htog hed hlast
          have e5' := e5
          clear e5 e8 h7 hhd2 htx2 hat2 hgr2 hhd htx hat hfo hE1 hK1 k2 f2
          refine awp_loop (fun m fr ρ => ∃ (j : Nat) (fp : List Nat), m + j = G.length ∧ fr.get 5 = .ptr (.new k) 0 ∧ fr.get 7 = ints G ∧ fr.get 15 = .int .i64 (j : Nat) ∧ IsEng ρ k E2 fp ∧ ρ.W = W) ?_ (m := G.length) ?_
          · clear hW1 hW2 hE2
            rintro m fr ρ3 ⟨j, fp3, hj, e5, e7, e15, hE2, hW3⟩
            have hhd3 := ehead_at hE2
            rw [hhdE] at hhd3
            by_cases hjt : j < G.length
            · have hjt' : (j : Int) < (G.length : Int) := by omega
              have hsj := wrap_succ (i := j) (by omega)
              have hgt := map_get (AVal.int .i64 ·) G j hjt
              have hgm := List.getElem_mem hjt
              generalize G[j] = g at hgt hgm
              have b2 : ((210 : Int) != 210) = false := rfl
              simp only [↓evd, evu, evf, implies_true, reduceCtorEq, Nat.reduceEqDiff, ↓reduceIte, Nat.reduceAdd, Nat.reduceLeDiff, Nat.reduceLT, Nat.reduceMul, Int.reduceLT, Int.reduceLE, Int.reduceToNat, evz, e5, e7, e15, hjt', hgt]
              refine (etoggle_at hE2 (htog g hgm)).mono ?_
              rintro v τ3 ⟨rfl, fp4, hE3, k3, f3⟩
              have hhd4 := ehead_at hE3
              rw [hhdE] at hhd4
              simp only [↓evd, evu, evf, implies_true, reduceCtorEq, Nat.reduceEqDiff, ↓reduceIte, Nat.reduceAdd, Nat.reduceLeDiff, Nat.reduceLT, Nat.reduceMul, Int.reduceLT, Int.reduceLE, Int.reduceToNat, evz, e5, e7, e15]
              with_reducible refine draw_of_grow (fun _ => True) (ms := [false, false, false, false, false, false, false, true, false, false, false, false, false]) (by kernel_rfl) ?_
              simp only [↓evd, evu, evf, implies_true, reduceCtorEq, Nat.reduceEqDiff, ↓reduceIte, Nat.reduceAdd, Nat.reduceLeDiff, Nat.reduceLT, Nat.reduceMul, Int.reduceLT, Int.reduceLE, Int.reduceToNat, evz, e5, e7, e15]
              refine MSpec.of hhd4 ⟨.inr Keeps.rfl, ?_⟩
              simp only [↓evd, evu, evf, implies_true, reduceCtorEq, Nat.reduceEqDiff, ↓reduceIte, Nat.reduceAdd, Nat.reduceLeDiff, Nat.reduceLT, Nat.reduceMul, Int.reduceLT, Int.reduceLE, Int.reduceToNat, evz, e5, e7, e15, hjt', hgt]
              refine mspec_seen (.cons (Sees.refl _ _) (.cons (Sees.refl _ _) (.cons (Sees.refl _ _) (.cons (Sees.refl _ _) (.cons (Sees.nils _ 3) (.nil _)))))) ?_
              refine (eedit_at (cs := []) hE3 (by decide) (by simp) (hed g hgm)).mono ?_
              rintro v τ4 ⟨rfl, fp5, hE4, k4, f4⟩
              simp only [↓evd, evu, evf, implies_true, reduceCtorEq, Nat.reduceEqDiff, ↓reduceIte, Nat.reduceAdd, Nat.reduceLeDiff, Nat.reduceLT, Nat.reduceMul, Int.reduceLT, Int.reduceLE, Int.reduceToNat, evz, e5, e7, e15, b2, hsj]
              exact ⟨m - 1, by omega, j + 1, fp5, by omega, rfl, hE4, k4.1.trans (k3.1.trans hW3)⟩
            · have hjt' : ¬ (j : Int) < (G.length : Int) := by omega
              have hw1 : IntKind.i64.wrap ((E.R.head : Int) - 1) = (E.R.head : Int) - 1 := wrap_id (by omega) (by omega)
              have htx3 := etext_at hE2 ((E.R.head : Int) - 1)
              rw [hlast] at htx3
              have b3 : ((190 : Int) == 190) = true := rfl
              simp only [↓evd, evu, evf, implies_true, reduceCtorEq, Nat.reduceEqDiff, ↓reduceIte, Nat.reduceAdd, Nat.reduceLeDiff, Nat.reduceLT, Nat.reduceMul, Int.reduceLT, Int.reduceLE, Int.reduceToNat, evz, e5, e7, e15, hjt']
              refine MSpec.of hhd3 ?_
              simp only [↓evd, evu, evf, implies_true, reduceCtorEq, Nat.reduceEqDiff, ↓reduceIte, Nat.reduceAdd, Nat.reduceLeDiff, Nat.reduceLT, Nat.reduceMul, Int.reduceLT, Int.reduceLE, Int.reduceToNat, evz, e5, hw1]
              refine MSpec.of htx3 ?_
              simp only [↓evd, evu, evf, implies_true, reduceCtorEq, Nat.reduceEqDiff, ↓reduceIte, Nat.reduceAdd, Nat.reduceLeDiff, Nat.reduceLT, Nat.reduceMul, Int.reduceLT, Int.reduceLE, Int.reduceToNat, evz, b3]
              exact hW3
          · refine ⟨0, fp2, by omega, ?_⟩
            simp only [↓evd, evu, evf, implies_true, reduceCtorEq, Nat.reduceEqDiff, ↓reduceIte, Nat.reduceAdd, Nat.reduceLeDiff, Nat.reduceLT, Nat.reduceMul, Int.reduceLT, Int.reduceLE, Int.reduceToNat, evz, e5']
            exact ⟨hE2, hW2⟩
      · refine ⟨0, by omega, ?_⟩
        simp only [↓evd, evu, evf, implies_true, reduceCtorEq, Nat.reduceEqDiff, ↓reduceIte, Nat.reduceAdd, Nat.reduceLeDiff, Nat.reduceLT, Nat.reduceMul, Int.reduceLT, Int.reduceLE, Int.reduceToNat, evz, e1, e5]
        exact ⟨Own.nil _ _ _ _, Keep.refl _ _⟩
  · refine ⟨0, Eng.new, fp0, by omega, ?_⟩
    simp only [↓evd, evu, evf, implies_true, reduceCtorEq, Nat.reduceEqDiff, ↓reduceIte, Nat.reduceAdd, Nat.reduceLeDiff, Nat.reduceLT, Nat.reduceMul, Int.reduceLT, Int.reduceLE, Int.reduceToNat, evz, eSteps]
    exact ⟨h0, Eng.new_old, k0.1⟩
theorem engineForgets_row (W : World) (a0 : List Step) (a1 : Int) (g0 : GList gStep a0) (g1 : GInt .u64 a1) : FSpec Tryz.prog n_palinodelaw20_EngineForgets [.fsl 6 (a0.map eStep), .int .u64 a1] (Heap.bare W (cellsOf W)) fun v s => v = .bool true ∧ s.W = W :=
  forgets20_fspec W a0 a1 (steps_fit g0).1 (steps_fit g0).2
end Go.Proofs.YtmjngohmcljfjaaGreat.M
set_option linter.unusedSimpArgs false
set_option linter.unusedVariables false
set_option maxRecDepth 100000
namespace Go.Proofs.YtmjngohmcljfjaaGreat.M
open Go Go.Mini
attribute [local congr] go1_congr goM_congr goG_congr goV_congr drawwp_congr Xwp_congr
/-- the atoms told, in memory of their own -/
theorem eatoms_own {σ : Heap} {k : Nat} {E : Eng} {fp : List Nat} (h : IsEng σ k E fp) : MSpec Tryz.prog n_engine_Engine_Atoms [.ptr (.new k) 0] σ fun v τ => v = .slc (.new σ.next) 0 E.l.length (.ex E.l.length) ∧ Keep [] σ τ ∧ σ.next < τ.next ∧ ∃ cs, τ.get σ.next = some (.cells cs none) ∧ cs.length = E.l.length * 5 := by
  obtain ⟨x, kr, fpr, h, rfl⟩ := h
  refine spec_of_awp mixed c_engine_Engine_Atoms (Nat.le_of_ble_eq_true rfl) ?_
  unfold f_engine_Engine_Atoms
  have hk := h.blk
  have hf := h.ok.fits h.revs.ok
  have hr := h.lst.cells.2.2
  simp only [↓evd, evu, evf, implies_true, reduceCtorEq, Nat.reduceEqDiff, ↓reduceIte, Nat.reduceAdd, Nat.reduceLeDiff, Nat.reduceLT, Nat.reduceMul, Int.reduceLT, Int.reduceLE, Int.reduceToNat, evz, hk, hr]
  rcases h.lst with rfl | ⟨rfl, hnil⟩
  · have hc := copy_own σ E.l hf.1 hf.2.1
    refine hc.mono ?_
    rintro v τ ⟨rfl, hK, hn, zs, hA⟩
    simp only [↓evd, evu, evf, implies_true, reduceCtorEq, Nat.reduceEqDiff, ↓reduceIte, Nat.reduceAdd, Nat.reduceLeDiff, Nat.reduceLT, Nat.reduceMul, Int.reduceLT, Int.reduceLE, Int.reduceToNat, evz]
    exact ⟨hK, hn, _, hA.blk, flatR_len hA.len⟩
  · refine (copy_nil_spec σ).mono ?_
    rintro v τ ⟨rfl, rfl⟩
    simp only [↓evd, evu, evf, implies_true, reduceCtorEq, Nat.reduceEqDiff, ↓reduceIte, Nat.reduceAdd, Nat.reduceLeDiff, Nat.reduceLT, Nat.reduceMul, Int.reduceLT, Int.reduceLE, Int.reduceToNat, evz, hnil]
    exact ⟨(Keep.refl _ _).new _, by simp, [], by simp, rfl⟩
set_option maxHeartbeats 8000000 in
theorem copies20_fspec (W : World) (l : List Step) (s : List UInt8) (hl : l.length ≤ 9223372036854775807) (hx : ∀ x ∈ l, StepFits x) : FSpec Tryz.prog n_palinodelaw20_EngineCopies [eSteps l, .str s] (Heap.bare W (cellsOf W)) fun v s => v = .bool true ∧ s.W = W := by
  refine fspec_of_awp mixed c_palinodelaw20_EngineCopies (Nat.le_of_ble_eq_true rfl) ?_
  unfold f_palinodelaw20_EngineCopies
  have hfew := few_call (Heap.bare W (cellsOf W)) l hl hx
  simp only [eSteps] at hfew
  simp only [↓evd, evu, evf, implies_true, reduceCtorEq, Nat.reduceEqDiff, ↓reduceIte, Nat.reduceAdd, Nat.reduceLeDiff, Nat.reduceLT, Nat.reduceMul, Int.reduceLT, Int.reduceLE, Int.reduceToNat, evz]
  refine MSpec.of (known20_call _ rfl) ?_
  simp only [↓evd, evu, evf, implies_true, reduceCtorEq, Nat.reduceEqDiff, ↓reduceIte, Nat.reduceAdd, Nat.reduceLeDiff, Nat.reduceLT, Nat.reduceMul, Int.reduceLT, Int.reduceLE, Int.reduceToNat, evz, eSteps]
  refine MSpec.of hfew ?_
  cases hfb : fewB l with
  | false => simp only [↓evd, evu, evf, implies_true, reduceCtorEq, Nat.reduceEqDiff, ↓reduceIte, Nat.reduceAdd, Nat.reduceLeDiff, Nat.reduceLT, Nat.reduceMul, Int.reduceLT, Int.reduceLE, Int.reduceToNat, evz]
  | true =>
  by_cases h40 : (40 : Int) < (s.length : Int)
  · simp only [↓evd, evu, evf, implies_true, reduceCtorEq, Nat.reduceEqDiff, ↓reduceIte, Nat.reduceAdd, Nat.reduceLeDiff, Nat.reduceLT, Nat.reduceMul, Int.reduceLT, Int.reduceLE, Int.reduceToNat, evz, h40]
  have hall : ∀ x ∈ l, fewOne x = true := fun x hx => by
    simp only [fewB, Bool.and_eq_true, List.all_eq_true] at hfb
    exact hfb.1 x hx
  have hl25 : l.length ≤ 25 := by simp only [fewB, Bool.and_eq_true, decide_eq_true_eq] at hfb; exact hfb.2
  simp only [↓evd, evu, evf, implies_true, reduceCtorEq, Nat.reduceEqDiff, ↓reduceIte, Nat.reduceAdd, Nat.reduceLeDiff, Nat.reduceLT, Nat.reduceMul, Int.reduceLT, Int.reduceLE, Int.reduceToNat, evz, h40]
  refine (enew_at _ rfl).mono ?_
  rintro v τ ⟨k, fp0, rfl, h0, hf0, k0⟩
  simp only [↓evd, evu, evf, implies_true, reduceCtorEq, Nat.reduceEqDiff, ↓reduceIte, Nat.reduceAdd, Nat.reduceLeDiff, Nat.reduceLT, Nat.reduceMul, Int.reduceLT, Int.reduceLE, Int.reduceToNat, evz]
  refine awp_loop (fun m fr ρ => ∃ (i : Nat) (E : Eng) (fp : List Nat), m + i = l.length ∧ fr.get 0 = eSteps l ∧ fr.get 1 = .str s ∧ fr.get 5 = .ptr (.new k) 0 ∧ fr.get 6 = .int .i64 (i : Nat) ∧ IsEng ρ k E fp ∧ ρ.W = W) ?_ (m := l.length) ?_
  · rintro m fr ρ ⟨i, E, fp, hi, e0, e1, e5, e6, hE, hW⟩
    by_cases hlt : i < l.length
    · have hlt' : (i : Int) < (l.length : Int) := by omega
      have hs := wrap_succ (i := i) (by omega)
      have hgt := map_get eStep l i hlt
      have hone := hall _ (List.getElem_mem hlt)
      generalize l[i] = x at hgt hone
      rcases hdo : doF E x with ⟨E', n, c⟩
      have hdc := doF_at hE hone hdo
      simp only [eStep, eChgs, ints] at hdc
      simp only [↓evd, evu, evf, implies_true, reduceCtorEq, Nat.reduceEqDiff, ↓reduceIte, Nat.reduceAdd, Nat.reduceLeDiff, Nat.reduceLT, Nat.reduceMul, Int.reduceLT, Int.reduceLE, Int.reduceToNat, evz, e0, e1, e5, e6, eSteps, eStep, hlt', hgt]
      refine hdc.mono ?_
      rintro v τ1 ⟨rfl, fp1, hE1, kk1, f1⟩
      simp only [↓evd, evu, evf, implies_true, reduceCtorEq, Nat.reduceEqDiff, ↓reduceIte, Nat.reduceAdd, Nat.reduceLeDiff, Nat.reduceLT, Nat.reduceMul, Int.reduceLT, Int.reduceLE, Int.reduceToNat, evz, e0, e1, e5, e6, eSteps, eStep, hs]
      exact ⟨m - 1, by omega, i + 1, E', fp1, by omega, rfl, hE1, kk1.1.trans hW⟩
    · have hlt' : ¬ (i : Int) < (l.length : Int) := by omega
      have hRok := hE.ok.2
      have hhd := ehead_at hE
      have htx := etext_at hE (E.R.head : Nat)
      rw [textV_head hRok] at htx
      simp only [↓evd, evu, evf, implies_true, reduceCtorEq, Nat.reduceEqDiff, ↓reduceIte, Nat.reduceAdd, Nat.reduceLeDiff, Nat.reduceLT, Nat.reduceMul, Int.reduceLT, Int.reduceLE, Int.reduceToNat, evz, e0, e1, e5, e6, eSteps, hlt']
      refine MSpec.of hhd ?_
      simp only [↓evd, evu, evf, implies_true, reduceCtorEq, Nat.reduceEqDiff, ↓reduceIte, Nat.reduceAdd, Nat.reduceLeDiff, Nat.reduceLT, Nat.reduceMul, Int.reduceLT, Int.reduceLE, Int.reduceToNat, evz, e0, e1, e5, e6]
      refine MSpec.of htx ?_
      simp only [↓evd, evu, evf, implies_true, reduceCtorEq, Nat.reduceEqDiff, ↓reduceIte, Nat.reduceAdd, Nat.reduceLeDiff, Nat.reduceLT, Nat.reduceMul, Int.reduceLT, Int.reduceLE, Int.reduceToNat, evz, e0, e1, e5, e6]
      refine MSpec.of hhd ?_
      simp only [↓evd, evu, evf, implies_true, reduceCtorEq, Nat.reduceEqDiff, ↓reduceIte, Nat.reduceAdd, Nat.reduceLeDiff, Nat.reduceLT, Nat.reduceMul, Int.reduceLT, Int.reduceLE, Int.reduceToNat, evz, e0, e1, e5, e6]
      refine (ecopy_at hE).mono ?_
      rintro v τ1 ⟨k', kr', fpr', rfl, hC0, hfc, kc⟩
      have hC : IsEng τ1 k' E (k' :: fpr') := ⟨_, _, _, hC0, rfl⟩
      have hE1 := hE.keep kc (fun y _ => by simp)
      have hd1 : ∀ y ∈ fp, y ∉ k' :: fpr' := fun y hy hm => by have := hE.low y hy; have := hfc y hm; omega
      generalize k' :: fpr' = fq at hC hd1
      have hhc := ehead_at hC
      simp only [↓evd, evu, evf, implies_true, reduceCtorEq, Nat.reduceEqDiff, ↓reduceIte, Nat.reduceAdd, Nat.reduceLeDiff, Nat.reduceLT, Nat.reduceMul, Int.reduceLT, Int.reduceLE, Int.reduceToNat, evz, e0, e1, e5, e6]
      refine MSpec.of hhc ?_
      rcases hed : editE E (E.R.head : Nat) 9 0 [⟨0, 0, s⟩] with ⟨C1, n1, c1⟩
      simp only [↓evd, evu, evf, implies_true, reduceCtorEq, Nat.reduceEqDiff, ↓reduceIte, Nat.reduceAdd, Nat.reduceLeDiff, Nat.reduceLT, Nat.reduceMul, Int.reduceLT, Int.reduceLE, Int.reduceToNat, evz, e0, e1, e5, e6]
      refine (eedit_lit hC (q := 1) rfl (by simp) (by intro c hc; simp at hc; subst hc; simp only; omega) hed).mono ?_
      rintro v τ2 ⟨rfl, fq2, hC2, kk2, f2⟩
      have hE2 := hE1.keep kk2 hd1
      have hd2 : ∀ y ∈ fp, y ∉ fq2 := fun y hy hm => by
        rcases f2 y hm with h | h
        · exact hd1 y hy h
        · have := hE1.low y hy; omega
      rcases htg : toggleE C1 9 with ⟨C2, n2, c2⟩
      simp only [↓evd, evu, evf, implies_true, reduceCtorEq, Nat.reduceEqDiff, ↓reduceIte, Nat.reduceAdd, Nat.reduceLeDiff, Nat.reduceLT, Nat.reduceMul, Int.reduceLT, Int.reduceLE, Int.reduceToNat, evz, e0, e1, e5, e6]
      refine (etoggle_at hC2 htg).mono ?_
      rintro v τ3 ⟨rfl, fq3, hC3, kk3, f3⟩
      have hE3 := hE2.keep kk3 hd2
      have hd3 : ∀ y ∈ fp, y ∉ fq3 := fun y hy hm => by
        rcases f3 y hm with h | h
        · exact hd2 y hy h
        · have := hE2.low y hy; omega
      have hgr := egroups_at hC3
      have hgl := rise_len hC3.ok.2.grp
      rcases hfo : forgetE C2 C2.R.grp with ⟨C4, c4⟩
      have hfg := eforget_at hC3 (by omega) hfo
      simp only [ints] at hgr hfg
      simp only [↓evd, evu, evf, implies_true, reduceCtorEq, Nat.reduceEqDiff, ↓reduceIte, Nat.reduceAdd, Nat.reduceLeDiff, Nat.reduceLT, Nat.reduceMul, Int.reduceLT, Int.reduceLE, Int.reduceToNat, evz, e0, e1, e5, e6]
      refine MSpec.of hgr ?_
      simp only [↓evd, evu, evf, implies_true, reduceCtorEq, Nat.reduceEqDiff, ↓reduceIte, Nat.reduceAdd, Nat.reduceLeDiff, Nat.reduceLT, Nat.reduceMul, Int.reduceLT, Int.reduceLE, Int.reduceToNat, evz, e0, e1, e5, e6]
      refine hfg.mono ?_
      rintro v τ4 ⟨rfl, fq4, hC4, kk4, f4⟩
      have hE4 := hE3.keep kk4 hd3
      have hW4 : τ4.W = W := kk4.1.trans (kk3.1.trans (kk2.1.trans (kc.1.trans hW)))
      simp only [↓evd, evu, evf, implies_true, reduceCtorEq, Nat.reduceEqDiff, ↓reduceIte, Nat.reduceAdd, Nat.reduceLeDiff, Nat.reduceLT, Nat.reduceMul, Int.reduceLT, Int.reduceLE, Int.reduceToNat, evz, e0, e1, e5, e6]
      refine (eatoms_own hE4).mono ?_
      rintro v τ5 ⟨rfl, kk5, hn5, cs, hcs, hcl⟩
      have hE5 := hE4.keep kk5 (fun y _ => by simp)
      have hW5 : τ5.W = W := kk5.1.trans hW4
      have hfp : ∀ y ∈ fp, y < τ4.next := hE4.low
      have hel := hE.ok.1.len
      generalize τ4.next = K at hcs hn5 hfp
      clear hE4 hE3 hE2 hE1 hC4 hC3 hC2 hC kk5 kk4 kk3 kk2 kc htx hhd hhc hgr hfg hE
      simp only [↓evd, evu, evf, implies_true, reduceCtorEq, Nat.reduceEqDiff, ↓reduceIte, Nat.reduceAdd, Nat.reduceLeDiff, Nat.reduceLT, Nat.reduceMul, Int.reduceLT, Int.reduceLE, Int.reduceToNat, evz, e0, e1, e5, e6]
      refine awp_loop (fun m fr ρ => ∃ (j : Nat) (cs : List AVal), m + j = E.l.length ∧ fr.get 5 = .ptr (.new k) 0 ∧ fr.get 7 = .str (E.text (E.R.head : Nat)) ∧ fr.get 9 = .int .i64 (E.R.head : Nat) ∧ fr.get 11 = .slc (.new K) 0 E.l.length (.ex E.l.length) ∧ fr.get 12 = .int .i64 (j : Nat) ∧ ρ.get K = some (.cells cs none) ∧ cs.length = E.l.length * 5 ∧ IsEng ρ k E fp ∧ ρ.W = W) ?_ (m := E.l.length) ?_
      · clear e0 e1 e5 e6 hcs hcl hE5 hW5
        rintro m' fr ρ' ⟨j, cs, hj, e5, e7, e9, e11, e12, hcs, hcl, hE, hW'⟩
        by_cases hjt : j < E.l.length
        · have hjt' : (j : Int) < (E.l.length : Int) := by omega
          have hsj := wrap_succ (i := j) (by omega)
          have hl1 : decide (j * 5 + 1 ≤ E.l.length * 5) = true := by simp; omega
          have hl2 : decide (j * 5 + 4 + 1 ≤ E.l.length * 5) = true := by simp; omega
          have hov : (cs.take (j * 5) ++ [AVal.str [63]] ++ cs.drop (j * 5 + 1)).length = E.l.length * 5 := by simp; omega
          simp only [List.append_assoc, List.singleton_append] at hov
          have hkk : ∀ cs' : List AVal, Keep [K] ρ' ((ρ'.set K (.cells cs' none))) := fun cs' => (Keep.refl _ _).set (.inl (by simp)) _
          have hne : ∀ y ∈ fp, y ∉ [K] := fun y hy hm => by simp at hm; have := hfp y hy; omega
          simp only [↓evd, evu, evf, implies_true, reduceCtorEq, Nat.reduceEqDiff, ↓reduceIte, Nat.reduceAdd, Nat.reduceLeDiff, Nat.reduceLT, Nat.reduceMul, Int.reduceLT, Int.reduceLE, Int.reduceToNat, evz, e5, e7, e9, e11, e12, hjt', hcs, hcl, hl1, Nat.add_zero, List.append_assoc, List.singleton_append, hov, hl2, hsj]
          refine ⟨m' - 1, by omega, j + 1, _, by omega, rfl, rfl, ?_, ?_, hW'⟩
          · simp; omega
          · exact (hE.keep (hkk _) hne).keep ((Keep.refl [K] _).set (.inl (by simp)) _) hne
        · have hjt' : ¬ (j : Int) < (E.l.length : Int) := by omega
          have hhd := ehead_at hE
          have htx := etext_at hE (E.R.head : Nat)
          rw [textV_head hRok] at htx
          have b0 : ((0 : Int) == 0) = true := rfl
          have bh : (((E.R.head : Nat) : Int) == ((E.R.head : Nat) : Int)) = true := by simp
          simp only [↓evd, evu, evf, implies_true, reduceCtorEq, Nat.reduceEqDiff, ↓reduceIte, Nat.reduceAdd, Nat.reduceLeDiff, Nat.reduceLT, Nat.reduceMul, Int.reduceLT, Int.reduceLE, Int.reduceToNat, evz, e5, e7, e9, e11, e12, hjt']
          refine MSpec.of hhd ?_
          simp only [↓evd, evu, evf, implies_true, reduceCtorEq, Nat.reduceEqDiff, ↓reduceIte, Nat.reduceAdd, Nat.reduceLeDiff, Nat.reduceLT, Nat.reduceMul, Int.reduceLT, Int.reduceLE, Int.reduceToNat, evz, e5, e7, e9]
          refine MSpec.of htx ?_
          simp only [↓evd, evu, evf, implies_true, reduceCtorEq, Nat.reduceEqDiff, ↓reduceIte, Nat.reduceAdd, Nat.reduceLeDiff, Nat.reduceLT, Nat.reduceMul, Int.reduceLT, Int.reduceLE, Int.reduceToNat, evz, e5, e7, e9, b0, aStr_self]
          refine MSpec.of hhd ?_
          simp only [↓evd, evu, evf, implies_true, reduceCtorEq, Nat.reduceEqDiff, ↓reduceIte, Nat.reduceAdd, Nat.reduceLeDiff, Nat.reduceLT, Nat.reduceMul, Int.reduceLT, Int.reduceLE, Int.reduceToNat, evz, e5, e7, e9, bh]
          exact hW'
      · refine ⟨0, cs, by omega, ?_⟩
        simp only [↓evd, evu, evf, implies_true, reduceCtorEq, Nat.reduceEqDiff, ↓reduceIte, Nat.reduceAdd, Nat.reduceLeDiff, Nat.reduceLT, Nat.reduceMul, Int.reduceLT, Int.reduceLE, Int.reduceToNat, evz, e5]
        exact ⟨hcs, hcl, hE5, hW5⟩
  · refine ⟨0, Eng.new, fp0, by omega, ?_⟩
    simp only [↓evd, evu, evf, implies_true, reduceCtorEq, Nat.reduceEqDiff, ↓reduceIte, Nat.reduceAdd, Nat.reduceLeDiff, Nat.reduceLT, Nat.reduceMul, Int.reduceLT, Int.reduceLE, Int.reduceToNat, evz, eSteps]
    exact ⟨h0, k0.1⟩
theorem engineCopies_row (W : World) (a0 : List Step) (a1 : List UInt8) (g0 : GList gStep a0) (g1 : GStr a1) : FSpec Tryz.prog n_palinodelaw20_EngineCopies [.fsl 6 (a0.map eStep), .str a1] (Heap.bare W (cellsOf W)) fun v s => v = .bool true ∧ s.W = W :=
  copies20_fspec W a0 a1 (steps_fit g0).1 (steps_fit g0).2
end Go.Proofs.YtmjngohmcljfjaaGreat.M
