/- A part of the seat's proofs over the abstract machine. No condition. -/
import Derived.Test.YtcchmmjjfglpgaaGreatWA
set_option linter.unusedSimpArgs false
set_option linter.unusedVariables false
set_option maxRecDepth 100000
namespace Go.Proofs.YtcchmmjjfglpgaaGreat.M
open Go Go.Mini
attribute [local congr] go1_congr goM_congr goG_congr goV_congr drawwp_congr
abbrev t_Atom : TypeId := 61
/-- a text's code points as atoms -/
def newAtoms (rev group rank : Int) (ps : List (List UInt8)) : List Atom := ps.map fun b => ⟨b, rev, group, rank, []⟩
theorem copy_nil_spec (σ : Heap) : MSpec Tryz.prog n_atom_Copy [.nils] σ fun v τ => v = .slc (.new σ.next) 0 0 (.ex 0) ∧ τ = σ.new (.cells [] none) := by
  refine spec_of_awp mixed c_atom_Copy (Nat.le_of_ble_eq_true rfl) ?_
  unfold f_atom_Copy
  have h0 : ((0 : Int) ≤ 2 ^ 62) = True := eq_true (by decide)
  have hz : (0 ≤ maxRoom) = True := eq_true (Nat.zero_le _)
  simp only [↓evd, evu, evf, implies_true, reduceCtorEq, Nat.reduceEqDiff, ↓reduceIte, Nat.reduceAdd, Nat.reduceLeDiff, Nat.reduceLT, Nat.reduceMul, Int.reduceLT, Int.reduceLE, Int.reduceToNat, evz, h0, hz]
  simp only [↓evd, evu, evf, implies_true, reduceCtorEq, Nat.reduceEqDiff, ↓reduceIte, Nat.reduceAdd, Nat.reduceLeDiff, Nat.reduceLT, Nat.reduceMul, Int.reduceLT, Int.reduceLE, Int.reduceToNat, evz, aCopy, aSLen, aLenOf, srcCells, slcCells, Nat.min_self]
  refine awp_loop_unroll ?_
  simp only [↓evd, evu, evf, implies_true, reduceCtorEq, Nat.reduceEqDiff, ↓reduceIte, Nat.reduceAdd, Nat.reduceLeDiff, Nat.reduceLT, Nat.reduceMul, Int.reduceLT, Int.reduceLE, Int.reduceToNat, evz]
theorem atom_cells (b : List UInt8) (rev group rank : Int) : (eAtom ⟨b, rev, group, rank, []⟩).cells = [.str b, .int .i64 rev, .int .i64 group, .int .i64 rank, .fsl 2 []] := rfl
end Go.Proofs.YtcchmmjjfglpgaaGreat.M
set_option linter.unusedSimpArgs false
set_option linter.unusedVariables false
set_option maxRecDepth 100000
namespace Go.Proofs.YtcchmmjjfglpgaaGreat.M
open Go Go.Mini
attribute [local congr] go1_congr goM_congr goG_congr goV_congr drawwp_congr
/-! ### Atoms whose cuts are not yet data -/
def flatR : List Atom → List AVal → List AVal
  | a :: l, z :: zs => .str a.text :: .int .i64 a.rev :: .int .i64 a.group :: .int .i64 a.rank :: z :: flatR l zs
  | _, _ => []
theorem flatR_len : ∀ {l : List Atom} {zs : List AVal}, zs.length = l.length → (flatR l zs).length = l.length * 5
  | [], [], _ => rfl
  | a :: l, z :: zs, h => by
    simp only [flatR, List.length_cons] at h ⊢
    rw [flatR_len (by omega)]; omega
theorem flatR_get : ∀ {l : List Atom} {zs : List AVal} {j : Nat}, zs.length = l.length → (flatR l zs)[j * 5 + 4]? = zs[j]?
  | [], [], j, _ => rfl
  | a :: l, z :: zs, 0, _ => rfl
  | a :: l, z :: zs, j + 1, h => by
    have := flatR_get (l := l) (zs := zs) (j := j) (by simpa using h)
    rw [show (j + 1) * 5 + 4 = (j * 5 + 4) + 1 + 1 + 1 + 1 + 1 by omega]
    simp only [flatR, List.getElem?_cons_succ]
    exact this
theorem flatR_set : ∀ {l : List Atom} {zs : List AVal} {j : Nat} {x : AVal}, zs.length = l.length → (flatR l zs).set (j * 5 + 4) x = flatR l (zs.set j x)
  | [], [], j, x, _ => rfl
  | a :: l, z :: zs, 0, x, _ => rfl
  | a :: l, z :: zs, j + 1, x, h => by
    have := flatR_set (l := l) (zs := zs) (j := j) (x := x) (by simpa using h)
    rw [show (j + 1) * 5 + 4 = (j * 5 + 4) + 1 + 1 + 1 + 1 + 1 by omega]
    simp only [flatR, List.set_cons_succ]
    rw [this]
theorem flatR_full : ∀ l : List Atom, flatR l (l.map fun a => eCuts a.cuts) = (l.map eAtom).flatMap AVal.cells
  | [] => rfl
  | a :: l => by simp only [List.map_cons, flatR, List.flatMap_cons, flatR_full l]; rfl
theorem flatR_append : ∀ {l : List Atom} {zs : List AVal} {m : List Atom} {ys : List AVal}, zs.length = l.length → flatR (l ++ m) (zs ++ ys) = flatR l zs ++ flatR m ys
  | [], [], _, _, _ => rfl
  | a :: l, z :: zs, m, ys, h => by simp only [List.cons_append, flatR]; rw [flatR_append (by simpa using h)]
/-- cuts, as data or nil -/
def CutLst (x : AVal) (cs : List Cut) : Prop := x = eCuts cs ∨ (x = .nils ∧ cs = [])
theorem CutLst.sees {x : AVal} {cs : List Cut} (h : CutLst x cs) (σ : Heap) : Sees σ x σ (eCuts cs) := by
  rcases h with rfl | ⟨rfl, rfl⟩
  · exact Sees.refl _ _
  · exact Sees.nils σ 2
/-- the first j cuts seen as data -/
def seenCuts (l : List Atom) (zs : List AVal) (j : Nat) : List AVal := (l.take j).map (fun a => eCuts a.cuts) ++ zs.drop j
theorem seenCuts_len {l : List Atom} {zs : List AVal} (h : zs.length = l.length) (j : Nat) : (seenCuts l zs j).length = l.length := by simp [seenCuts]; omega
theorem seenCuts_zero (l : List Atom) (zs : List AVal) : seenCuts l zs 0 = zs := rfl
theorem seenCuts_all {l : List Atom} {zs : List AVal} (h : zs.length = l.length) : seenCuts l zs l.length = l.map fun a => eCuts a.cuts := by
  simp only [seenCuts, List.take_length, List.drop_eq_nil_of_le (Nat.le_of_eq h), List.append_nil]
theorem seenCuts_succ {l : List Atom} {zs : List AVal} (h : zs.length = l.length) {j : Nat} (hj : j < l.length) : (seenCuts l zs j).set j (eCuts l[j].cuts) = seenCuts l zs (j + 1) := by
  have e : ((l.take j).map fun a => eCuts a.cuts).length = j := by simp; omega
  simp only [seenCuts]
  rw [List.set_append_right _ _ (by omega), e, Nat.sub_self, List.drop_eq_getElem_cons (show j < zs.length by omega), List.set_cons_zero, List.take_succ_eq_append_getElem hj, List.map_append, List.append_assoc]; rfl
theorem seenCuts_get {l : List Atom} {zs : List AVal} (h : zs.length = l.length) {j : Nat} (hj : j < l.length) : (seenCuts l zs j)[j]? = zs[j]? := by
  have e : ((l.take j).map fun a => eCuts a.cuts).length = j := by simp; omega
  simp only [seenCuts]
  rw [List.getElem?_append_right (by omega), e, Nat.sub_self, List.getElem?_drop, Nat.add_zero]
theorem sees_atoms {σ : Heap} {K n : Nat} {cap : Cap} {l : List Atom} {zs : List AVal} {opn : Option TypeId} (hn : n = l.length) (hz : zs.length = l.length) (hc : ∀ (j : Nat) (a : Atom) (z : AVal), l[j]? = some a → zs[j]? = some z → CutLst z a.cuts)
    (w : List AVal) (hg : σ.get K = some (.cells (flatR l zs ++ w) opn)) (hcap : ∀ c, cap = .ex c → n ≤ c) : ∃ ρ, Sees σ (.slc (.new K) 0 n cap) ρ (eAtoms l) ∧ ρ.W = σ.W ∧ ρ.F0 = σ.F0 ∧ ρ.next = σ.next ∧ ∀ q, q ≠ K → ρ.get q = σ.get q := by
  have step : ∀ j, j ≤ l.length → ∃ τ, Sees σ (.slc (.new K) 0 n cap) τ (.slc (.new K) 0 n cap) ∧ τ.get K = some (.cells (flatR l (seenCuts l zs j) ++ w) opn) ∧ τ.W = σ.W ∧ τ.F0 = σ.F0 ∧ τ.next = σ.next ∧ ∀ q, q ≠ K → τ.get q = σ.get q := by
    intro j
    induction j with
    | zero => intro _; exact ⟨σ, Sees.refl _ _, hg, rfl, rfl, rfl, fun _ _ => rfl⟩
    | succ j ih =>
      intro hj
      obtain ⟨τ, h1, h2, h3⟩ := ih (by omega)
      have hlz : j < zs.length := by omega
      have hx := hc j _ _ (List.getElem?_eq_getElem (show j < l.length by omega)) (List.getElem?_eq_getElem hlz)
      have hfl := flatR_len (seenCuts_len (zs := zs) hz j)
      have hget : (flatR l (seenCuts l zs j) ++ w)[j * 5 + 4]? = some zs[j] := by rw [List.getElem?_append_left (by omega), flatR_get (seenCuts_len hz j), seenCuts_get hz (by omega), List.getElem?_eq_getElem hlz]
      have hs := Sees.cell (off := 0) (n := n) (cap := cap) h2 hget (hx.sees τ) h2
      refine ⟨_, h1.trans hs, ?_, h3.1, h3.2.1, h3.2.2.1, fun q hq => ?_⟩
      · rw [Heap.get_set, if_pos rfl, List.set_append_left _ _ (by omega), flatR_set (seenCuts_len hz j), seenCuts_succ hz (by omega)]
      · rw [Heap.get_set, if_neg (fun e => hq e.symm)]; exact h3.2.2.2 q hq
  obtain ⟨τ, h1, h2, h3⟩ := step l.length (Nat.le_refl _)
  rw [seenCuts_all hz, flatR_full] at h2
  refine ⟨_, h1.trans (Sees.own h2 (by simp [hn]) (atoms_row l) ?_ hcap), h3.1, h3.2.1, h3.2.2.1, fun q hq => ?_⟩
  · have hfl : ((l.map eAtom).flatMap AVal.cells).length = n * 5 := by rw [flat_len (atoms_row l), List.length_map, hn]
    rw [List.drop_zero, List.take_append_of_le_length (by omega), List.take_of_length_le (by omega)]
  · rw [Heap.get_set, if_neg (fun e => hq e.symm)]; exact h3.2.2.2 q hq
end Go.Proofs.YtcchmmjjfglpgaaGreat.M
set_option linter.unusedSimpArgs false
set_option linter.unusedVariables false
set_option maxRecDepth 100000
namespace Go.Proofs.YtcchmmjjfglpgaaGreat.M
open Go Go.Mini
attribute [local congr] go1_congr goM_congr goG_congr goV_congr drawwp_congr
def rawA (rev group rank : Int) (b : List UInt8) : AVal := .agg [.str b, .int .i64 rev, .int .i64 group, .int .i64 rank, .nils]
theorem rawA_row (rev group rank : Int) (l : List (List UInt8)) : ∀ z ∈ l.map (rawA rev group rank), z.cells.length = 5 := by
  intro z hz; rw [List.mem_map] at hz; obtain ⟨x, _, rfl⟩ := hz; rfl
theorem rawA_flat (rev group rank : Int) : ∀ l : List (List UInt8), (l.map (rawA rev group rank)).flatMap AVal.cells = flatR (newAtoms rev group rank l) (List.replicate l.length .nils)
  | [] => rfl
  | b :: l => by simp only [List.map_cons, List.flatMap_cons, rawA_flat rev group rank l, newAtoms, List.length_cons, List.replicate_succ, flatR]; rfl
theorem row_sees {σ : Heap} {B : Nat} {x : AVal} {rev group rank : Int} {ps : List (List UInt8)} (h : Row B σ t_Atom 5 x (ps.map (rawA rev group rank))) : ∃ ρ, Sees σ x ρ (eAtoms (newAtoms rev group rank ps)) ∧ ρ.W = σ.W ∧ ρ.F0 = σ.F0 := by
  rcases h.2 with ⟨rfl, h0⟩ | ⟨K, cap, cs, opn, rfl, hg, ht, hB, hK, hcap⟩
  · have : ps = [] := by simpa using h0
    subst this
    exact ⟨σ, Sees.nils σ 5, rfl, rfl⟩
  · rw [rawA_flat] at ht
    have hcs : cs = flatR (newAtoms rev group rank ps) (List.replicate ps.length .nils) ++ cs.drop ((ps.map (rawA rev group rank)).length * 5) := by rw [← ht, List.take_append_drop]
    rw [hcs] at hg
    obtain ⟨ρ, h1, h2, h3, _⟩ := sees_atoms (n := (ps.map (rawA rev group rank)).length) (cap := cap) (l := newAtoms rev group rank ps) (zs := List.replicate ps.length .nils) (by simp [newAtoms]) (by simp [newAtoms])
      (fun j a z ha hz => by
        simp only [newAtoms, List.getElem?_map, Option.map_eq_some_iff] at ha
        obtain ⟨b, _, rfl⟩ := ha
        have := List.mem_of_getElem? hz
        exact .inr ⟨List.eq_of_mem_replicate this, rfl⟩) _ hg (by
        rcases hcap with ⟨rfl, _⟩ | ⟨c, rfl, hc, _⟩
        · intro c hc; cases hc
        · intro c' hc'; cases hc'; exact hc)
    exact ⟨ρ, h1, h2, h3⟩
set_option maxHeartbeats 4000000 in
theorem put_call (σ : Heap) (s : List UInt8) (rev group rank : Int) (ps : List (List UInt8)) (hs : s.length ≤ 1000000) (hp : pts s = some ps) :
    ACall Tryz.prog n_atom_Put [.nils, .int .i64 0, .str s, .int .i64 rev, .int .i64 group, .int .i64 rank] σ (eAtoms (newAtoms rev group rank ps)) σ := by
  refine bare_call rfl (eAtoms_pure _) (fun W F => spec_of_awp mixed c_atom_Put (Nat.le_of_ble_eq_true rfl) ?_) σ
  unfold f_atom_Put
  have hv : valid s = true := by simp [valid, hp]
  have hroom : maxRoom = 68719476736 := rfl
  have q1 : aSlc 5 .nils none (some (.int .i64 0)) none = some .nils := rfl
  have q2 : aSlc 5 .nils (some (.int .i64 0)) none none = some .nils := rfl
  simp only [↓evd, evu, evf, implies_true, reduceCtorEq, Nat.reduceEqDiff, ↓reduceIte, Nat.reduceAdd, Nat.reduceLeDiff, Nat.reduceLT, Nat.reduceMul, Int.reduceLT, Int.reduceLE, Int.reduceToNat, evz, q1]
  refine (copy_nil_spec _).mono ?_
  rintro v τ ⟨rfl, rfl⟩
  simp only [↓evd, evu, evf, implies_true, reduceCtorEq, Nat.reduceEqDiff, ↓reduceIte, Nat.reduceAdd, Nat.reduceLeDiff, Nat.reduceLT, Nat.reduceMul, Int.reduceLT, Int.reduceLE, Int.reduceToNat, evz]
  refine MSpec.of (clean_call _ s (by omega) hv) ?_
  simp only [↓evd, evu, evf, implies_true, reduceCtorEq, Nat.reduceEqDiff, ↓reduceIte, Nat.reduceAdd, Nat.reduceLeDiff, Nat.reduceLT, Nat.reduceMul, Int.reduceLT, Int.reduceLE, Int.reduceToNat, evz]
  refine awp_loop (fun m fr τ => ∃ pos done rest, m + pos = s.length ∧ ps = done ++ rest ∧ pts (s.drop pos) = some rest ∧ done.length ≤ pos ∧ fr.get 0 = .nils ∧ fr.get 1 = .int .i64 0 ∧ fr.get 3 = .int .i64 rev ∧ fr.get 4 = .int .i64 group ∧ fr.get 5 = .int .i64 rank ∧ fr.get 27 = .ptr (.new 1) 0 ∧ τ.get 1 = some (.iter s pos) ∧
    Row 0 τ t_Atom 5 (fr.get 13) (done.map (rawA rev group rank)) ∧ (∀ K o n c, fr.get 13 = .slc (.new K) o n c → K ≠ 1) ∧ 1 < τ.next ∧ τ.W = W ∧ τ.F0 = F) ?_ (m := s.length) ?_
  · rintro m fr τ ⟨pos, done, rest, hm, hps, hrest, hdl, e0, e1, e3, e4, e5, e27, hit, hR, hne, hn1, hW, hF⟩
    by_cases hlt : pos < s.length
    · have hne0 : s.drop pos ≠ [] := by intro h; have := congrArg List.length h; simp at this; omega
      have hst := pts_step hne0
      rw [hrest] at hst
      by_cases h0 : (pt (s.drop pos)).2 = 0
      · rw [if_pos h0] at hst; cases hst
      rw [if_neg h0] at hst
      have hdec := decode_pt h0
      have henc := encode_pt h0
      have hple := pt_le (s.drop pos)
      rw [List.length_drop] at hple
      cases hr2 : pts ((s.drop pos).drop (pt (s.drop pos)).2) with
      | none => rw [hr2] at hst; simp at hst
      | some rest2 =>
        rw [hr2, Option.map_some, Option.some.injEq] at hst
        rw [List.drop_drop] at hr2
        have hnx : aNext (.ptr (.new 1) 0) τ = some (.tup [.bool true, .int .i64 (pos : Nat), .int .i32 ((pt (s.drop pos)).1 : Nat)], τ.set 1 (.iter s (pos + (pt (s.drop pos)).2))) := by
          simp only [aNext, hit, if_pos hlt, hdec]
        generalize (pt (s.drop pos)).1 = c at hnx henc
        generalize hb : (s.drop pos).take (pt (s.drop pos)).2 = b at henc hst
        generalize (pt (s.drop pos)).2 = w at hnx h0 hple hr2
        have hR2 := (hR.set (j := 1) (fun K o n c e => (hne K o n c e).symm) (.iter s (pos + w))).new (.cells [.str b, .int .i64 rev, .int .i64 group, .int .i64 rank, .nils] none)
        have hsrc := src_one (σ := (τ.set 1 (.iter s (pos + w))).new (.cells [.str b, .int .i64 rev, .int .i64 group, .int .i64 rank, .nils] none)) (K := τ.next) (k := 5) (cs := [.str b, .int .i64 rev, .int .i64 group, .int .i64 rank, .nils]) (opn := none) (z := rawA rev group rank b) (cap := .ex 1) (by simp [Heap.get_new]) rfl rfl
        obtain ⟨x', ρ, g1, g2, g3, g4, g5⟩ := row_app2 (bytes := 64) hR2 (Nat.zero_le _) hsrc.1 hsrc.2 (by intro z hz; simp at hz; subst hz; rfl) rfl (by omega) (by omega) (by simp; omega)
        have hit2 : ρ.get 1 = some (.iter s (pos + w)) := by
          rw [g4 1 (by simp; omega) (fun K o n c e => (hne K o n c e).symm), Heap.get_new, if_neg (by simp; omega), Heap.get_set, if_pos rfl]
        simp only [↓evd, evu, evf, implies_true, reduceCtorEq, Nat.reduceEqDiff, ↓reduceIte, Nat.reduceAdd, Nat.reduceLeDiff, Nat.reduceLT, Nat.reduceMul, Int.reduceLT, Int.reduceLE, Int.reduceToNat, evz, e0, e1, e3, e4, e5, e27, hnx, henc, g1]
        refine ⟨m - w, by omega, pos + w, done ++ [b], rest2, by omega, by rw [hps, hst]; simp, hr2, by simp; omega, hit2, by rw [List.map_append]; exact g2, fun K o n c e => ?_, ?_, g3.1.trans hW, g3.2.1.trans hF⟩
        · rcases g5 K o n c e with h | ⟨o', n', c', h⟩
          · simp at h; omega
          · exact hne _ _ _ _ h
        · have := g3.2.2.1; simp at this; omega
    · rw [List.drop_eq_nil_of_le (by omega), pts_nil] at hrest
      cases hrest
      rw [List.append_nil] at hps
      subst hps
      have hnx : aNext (.ptr (.new 1) 0) τ = some (.tup [.bool false], τ) := by simp only [aNext, hit, if_neg hlt]
      simp only [↓evd, evu, evf, implies_true, reduceCtorEq, Nat.reduceEqDiff, ↓reduceIte, Nat.reduceAdd, Nat.reduceLeDiff, Nat.reduceLT, Nat.reduceMul, Int.reduceLT, Int.reduceLE, Int.reduceToNat, evz, e0, e1, e3, e4, e5, e27, hnx, q2]
      refine (copy_nil_spec _).mono ?_
      rintro v τ' ⟨rfl, rfl⟩
      obtain ⟨x', ρ, g1, g2, g3, g4, g5⟩ := row_app2 (bytes := 64) (y := .slc (.new τ.next) 0 0 (.ex 0)) (ys := []) (hR.new (.cells [] none)) (Nat.zero_le _) rfl rfl (fun _ h => nomatch h) rfl (by omega) (by omega) (by simp; omega)
      rw [List.append_nil] at g2
      simp only [↓evd, evu, evf, implies_true, reduceCtorEq, Nat.reduceEqDiff, ↓reduceIte, Nat.reduceAdd, Nat.reduceLeDiff, Nat.reduceLT, Nat.reduceMul, Int.reduceLT, Int.reduceLE, Int.reduceToNat, evz, g1]
      obtain ⟨ρ', s1, s2, s3⟩ := row_sees g2
      exact ⟨ρ', s1, s2.trans (g3.1.trans hW), s3.trans (g3.2.1.trans hF)⟩
  · refine ⟨0, [], ps, by omega, rfl, hp, Nat.le_refl _, ?_⟩
    simp only [↓evd, evu, evf, implies_true, reduceCtorEq, Nat.reduceEqDiff, ↓reduceIte, Nat.reduceAdd, Nat.reduceLeDiff, Nat.reduceLT, Nat.reduceMul, Int.reduceLT, Int.reduceLE, Int.reduceToNat, evz]
    refine ⟨(Row.make (B := 0) (σ := ⟨W, F, .nil, 0⟩) (Nat.zero_le _) t_Atom 5 0 [] none rfl).new _, ?_⟩
    intro K o n c e
    cases e; omega
end Go.Proofs.YtcchmmjjfglpgaaGreat.M
set_option linter.unusedSimpArgs false
set_option linter.unusedVariables false
set_option maxRecDepth 100000
namespace Go.Proofs.YtcchmmjjfglpgaaGreat.M
open Go Go.Mini
attribute [local congr] go1_congr goM_congr goG_congr goV_congr drawwp_congr
/-! ### Copies whose cuts can grow -/
theorem Sees.nils0 (σ : Heap) : Sees σ .nils σ .emp0 := by
  intro φ w x hx hr; cases hx; exact ⟨φ, φ.le_refl, .emp0 _, hr⟩
theorem Sees.slc0 (σ : Heap) (i : Mini.Id) (off : Nat) : Sees σ (.slc i off 0 (.ex 0)) σ .emp0 := by
  intro φ w x hx hr; cases hx; exact ⟨φ, φ.le_refl, .emp0 _, hr⟩
theorem clone_none (σ : Heap) : ACall Tryz.prog n_slices_Clone_api_Cut_api_Cut [eCuts []] σ .emp0 σ := by
  refine acall_empty (l := []) (r := []) ?_ ?_
  · refine bare_call rfl rfl (fun W F => spec_of_awp mixed c_slices_Clone_api_Cut_api_Cut (Nat.le_of_ble_eq_true rfl) ?_) σ
    unfold f_slices_Clone_api_Cut_api_Cut
    simp only [↓evd, evu, evf, implies_true, reduceCtorEq, Nat.reduceEqDiff, ↓reduceIte, Nat.reduceAdd, Nat.reduceLeDiff, Nat.reduceLT, Nat.reduceMul, Int.reduceLT, Int.reduceLE, Int.reduceToNat, evz]
    exact ⟨_, Sees.nils0 _, rfl, rfl⟩
  · refine bare_call rfl rfl (fun W F => spec_of_awp mixed c_slices_Clone_api_Cut_api_Cut (Nat.le_of_ble_eq_true rfl) ?_) σ
    unfold f_slices_Clone_api_Cut_api_Cut
    simp only [↓evd, evu, evf, implies_true, reduceCtorEq, Nat.reduceEqDiff, ↓reduceIte, Nat.reduceAdd, Nat.reduceLeDiff, Nat.reduceLT, Nat.reduceMul, Int.reduceLT, Int.reduceLE, Int.reduceToNat, evz]
    have e : aApp t_Cut 2 16 (.slc (.new 0) 0 0 (.ex 0)) .emp ((⟨W, F, .nil, 0⟩ : Heap).new (.cells [] none)) = some (.slc (.new 0) 0 0 (.ex 0), (⟨W, F, .nil, 0⟩ : Heap).new (.cells [] none)) := rfl
    simp only [e, ↓evd, evu, evf, implies_true, reduceCtorEq, Nat.reduceEqDiff, ↓reduceIte, Nat.reduceAdd, Nat.reduceLeDiff, Nat.reduceLT, Nat.reduceMul, Int.reduceLT, Int.reduceLE, Int.reduceToNat, evz]
    exact ⟨_, Sees.slc0 _ _ _, rfl, rfl⟩
theorem clone_own (σ : Heap) (c : Cut) (l : List Cut) (hl : (c :: l).length ≤ 1000000) : MSpec Tryz.prog n_slices_Clone_api_Cut_api_Cut [eCuts (c :: l)] σ fun v τ => Row σ.next τ t_Cut 2 v ((c :: l).map eCut) ∧ Keep [] σ τ := by
  refine spec_of_awp mixed c_slices_Clone_api_Cut_api_Cut (Nat.le_of_ble_eq_true rfl) ?_
  unfold f_slices_Clone_api_Cut_api_Cut
  obtain ⟨x', ρ, g1, g2, g3, g4, g5⟩ := row_app2 (e := t_Cut) (bytes := 16) (Row.make (B := σ.next) (σ := σ) (Nat.le_refl _) t_Cut 2 0 [] none rfl) (Nat.le_succ _) rfl (src_fsl _ 2 ((c :: l).map eCut)).2
    (cuts_row _) (cuts_cell _) (by omega) (by omega) (by have : maxRoom = 68719476736 := rfl; simp only [List.length_map]; simp only [List.length_cons, List.length_nil] at *; omega)
  simp only [List.map_cons, eCut] at g1
  simp only [↓evd, evu, evf, implies_true, reduceCtorEq, Nat.reduceEqDiff, ↓reduceIte, Nat.reduceAdd, Nat.reduceLeDiff, Nat.reduceLT, Nat.reduceMul, Int.reduceLT, Int.reduceLE, Int.reduceToNat, evz, g1]
  refine ⟨g2, g3.1, g3.2.1, Nat.le_trans (Nat.le_succ _) g3.2.2.1, fun q hq _ => ?_⟩
  rw [g4 q (by simp; omega) (fun K o n c e => by cases e; omega), Heap.get_new, if_neg (by omega)]
/-- cuts that can grow: none, in no memory; or a row of their own -/
def CutOwn (B : Nat) (σ : Heap) (z : AVal) (cs : List Cut) : Prop := (z = .emp0 ∧ cs = []) ∨ (cs ≠ [] ∧ Row B σ t_Cut 2 z (cs.map eCut))
theorem clone_cut (σ : Heap) (l : List Cut) (hl : l.length ≤ 1000000) : MSpec Tryz.prog n_slices_Clone_api_Cut_api_Cut [eCuts l] σ fun v τ => CutOwn σ.next τ v l ∧ Keep [] σ τ := by
  cases l with
  | nil => exact ⟨_, _, clone_none σ, .inl ⟨rfl, rfl⟩, Keep.refl _ _⟩
  | cons c l => exact (clone_own σ c l hl).mono fun v τ h => ⟨.inr ⟨by simp, h.1⟩, h.2⟩
theorem CutOwn.cells {B : Nat} {σ : Heap} {z : AVal} {cs : List Cut} (h : CutOwn B σ z cs) : z = .emp0 ∨ ∃ K n cap, z = .slc (.new K) 0 n cap ∧ B ≤ K ∧ K < σ.next := by
  rcases h with ⟨h, _⟩ | ⟨h0, h⟩
  · exact .inl h
  · rcases h.2 with ⟨_, h1⟩ | ⟨K, cap, cs', opn, h1, h2, h3, h4, h5, h6⟩
    · simp at h1; exact absurd h1 h0
    · exact .inr ⟨K, _, cap, h1, h4, h5⟩
theorem CutOwn.move {B : Nat} {σ τ : Heap} {z : AVal} {cs : List Cut} (h : CutOwn B σ z cs) (hn : σ.next ≤ τ.next) (hg : ∀ K ∈ uid z, τ.get K = σ.get K) : CutOwn B τ z cs := by
  rcases h with h | ⟨h0, h⟩
  · exact .inl h
  · exact .inr ⟨h0, Row.move h hn hg⟩
theorem CutOwn.low {B : Nat} {σ : Heap} {z : AVal} {cs : List Cut} (h : CutOwn B σ z cs) : ∀ K ∈ uid z, B ≤ K ∧ K < σ.next := by
  intro K hK
  obtain ⟨o, n, c, e⟩ := mem_uid.1 hK
  rcases h with ⟨h, _⟩ | ⟨_, h⟩
  · rw [h] at e; cases e
  · exact h.low e
theorem CutOwn.mono {B B' : Nat} {σ : Heap} {z : AVal} {cs : List Cut} (h : CutOwn B' σ z cs) (hB : B ≤ B') : CutOwn B σ z cs := by
  rcases h with h | ⟨h0, h, h2⟩
  · exact .inl h
  · refine .inr ⟨h0, h, ?_⟩
    rcases h2 with h2 | ⟨K, cap, cs', opn, h1, h2, h3, h4, h5⟩
    · exact .inl h2
    · exact .inr ⟨K, cap, cs', opn, h1, h2, h3, Nat.le_trans hB h4, h5⟩
end Go.Proofs.YtcchmmjjfglpgaaGreat.M
set_option linter.unusedSimpArgs false
set_option linter.unusedVariables false
set_option maxRecDepth 100000
namespace Go.Proofs.YtcchmmjjfglpgaaGreat.M
open Go Go.Mini
attribute [local congr] go1_congr goM_congr goG_congr goV_congr drawwp_congr
theorem over_set {α : Type} {l : List α} {j : Nat} {x : α} (h : j < l.length) : l.take j ++ [x] ++ l.drop (j + 1) = l.set j x := by
  rw [List.set_eq_take_append_cons_drop, if_pos h, List.append_assoc]; rfl
/-- atoms in block K, the cuts of the first i can grow -/
structure AtomsOwn (B : Nat) (τ : Heap) (K : Nat) (l : List Atom) (zs : List AVal) (i : Nat) : Prop where
  len : zs.length = l.length
  blk : τ.get K = some (.cells (flatR l zs) none)
  low : K < B
  own : ∀ (j : Nat) (a : Atom) (z : AVal), j < i → l[j]? = some a → zs[j]? = some z → CutOwn B τ z a.cuts
  rest : ∀ (j : Nat) (a : Atom) (z : AVal), i ≤ j → l[j]? = some a → zs[j]? = some z → z = eCuts a.cuts
  apart : ∀ (j j' : Nat) (z z' : AVal), j < j' → j' < i → zs[j]? = some z → zs[j']? = some z' → ∀ k ∈ uid z, k ∉ uid z'
/-- the next atom's cuts are its own now -/
theorem AtomsOwn.step {B : Nat} {τ τ1 : Heap} {K : Nat} {l : List Atom} {zs : List AVal} {i : Nat} {v : AVal} (h : AtomsOwn B τ K l zs i) (hi : i < l.length) (hB : B ≤ τ.next) (hv : CutOwn τ.next τ1 v l[i].cuts) (hk : Keep [] τ τ1) :
    AtomsOwn B (τ1.set K (.cells (flatR l (zs.set i v)) none)) K l (zs.set i v) (i + 1) where
  len := by rw [List.length_set]; exact h.len
  blk := by rw [Heap.get_set, if_pos rfl]
  low := h.low
  own := by
    intro j a z hj ha hz
    have hlow := h.low
    by_cases e : j = i
    · subst e
      have hlt : j < zs.length := by rw [h.len]; exact hi
      rw [List.getElem?_set_self hlt] at hz
      cases hz
      rw [List.getElem?_eq_getElem hi] at ha
      cases ha
      refine (hv.mono hB).move (Nat.le_refl _) fun k hk2 => ?_
      have := (hv.low k hk2).1
      rw [Heap.get_set, if_neg (by omega)]
    · rw [List.getElem?_set_ne (fun h => e h.symm)] at hz
      have h1 := h.own j a z (by omega) ha hz
      refine h1.move (by simpa using hk.2.2.1) fun k hk2 => ?_
      have := h1.low k hk2
      rw [Heap.get_set, if_neg (by omega)]
      exact hk.get this.2
  rest := by
    intro j a z hj ha hz
    rw [List.getElem?_set_ne (by omega)] at hz
    exact h.rest j a z (by omega) ha hz
  apart := by
    intro j j' z z' hjj hj' hz hz' k hk1 hk2
    by_cases e : j' = i
    · subst e
      have hlt : j' < zs.length := by rw [h.len]; exact hi
      rw [List.getElem?_set_self hlt] at hz'
      cases hz'
      rw [List.getElem?_set_ne (by omega)] at hz
      have h1 := (hv.low k hk2).1
      have h2 := (h.own j l[j] z hjj (List.getElem?_eq_getElem (by omega)) hz).low k hk1
      omega
    · rw [List.getElem?_set_ne (by omega)] at hz hz'
      exact h.apart j j' z z' hjj (by omega) hz hz' k hk1 hk2
set_option maxHeartbeats 4000000 in
theorem copy_own (σ : Heap) (l : List Atom) (hl : l.length ≤ 1000000) (hc : ∀ a ∈ l, a.cuts.length ≤ 1000000) : MSpec Tryz.prog n_atom_Copy [eAtoms l] σ fun v τ => v = .slc (.new σ.next) 0 l.length (.ex l.length) ∧ Keep [] σ τ ∧ σ.next < τ.next ∧ ∃ zs, AtomsOwn (σ.next + 1) τ σ.next l zs l.length := by
  refine spec_of_awp mixed c_atom_Copy (Nat.le_of_ble_eq_true rfl) ?_
  unfold f_atom_Copy
  have hm0 : (0 : Int) ≤ (l.length : Int) := by omega
  have hm2 : l.length * 64 ≤ maxRoom := by unfold maxRoom; omega
  have hm3 : (l.length : Int) ≤ 2 ^ 62 := by omega
  obtain ⟨σ1, g1, g2, g3, g4, g5, g6⟩ := copy_whole (σ := σ.new (.cells (List.replicate l.length [AVal.str [], AVal.int IntKind.i64 0, AVal.int IntKind.i64 0, AVal.int IntKind.i64 0, AVal.nils]).flatten none)) (K := σ.next) (k := 5) (els := l.map eAtom) (cap := .ex l.length)
    (by rw [Heap.get_new, if_pos rfl]) (atoms_row l) (by show (repl l.length _).length = _; rw [repl_len, List.length_map]; rfl) (atoms_cell l)
  rw [List.length_map] at g1
  simp only [↓evd, evu, evf, implies_true, reduceCtorEq, Nat.reduceEqDiff, ↓reduceIte, Nat.reduceAdd, Nat.reduceLeDiff, Nat.reduceLT, Nat.reduceMul, Int.reduceLT, Int.reduceLE, Int.reduceToNat, evz, hm0, hm2, hm3]
  simp only [↓evd, evu, evf, implies_true, reduceCtorEq, Nat.reduceEqDiff, ↓reduceIte, Nat.reduceAdd, Nat.reduceLeDiff, Nat.reduceLT, Nat.reduceMul, Int.reduceLT, Int.reduceLE, Int.reduceToNat, evz, g1]
  refine awp_loop (fun m fr τ => ∃ i zs, m + i = l.length ∧ i ≤ l.length ∧ fr.get 3 = .slc (.new σ.next) 0 l.length (.ex l.length) ∧ fr.get 12 = .int .i64 l.length ∧ fr.get 13 = .int .i64 (i : Nat) ∧ AtomsOwn (σ.next + 1) τ σ.next l zs i ∧ σ.next < τ.next ∧ Keep [] σ τ) ?_ (m := l.length) ?_
  · rintro m fr τ ⟨i, zs, hi, hil, e3, e12, e13, hA, hn, hK⟩
    by_cases hlt : i < l.length
    · have hlt' : (i : Int) < (l.length : Int) := by omega
      have hw := wrap_succ (i := i) (by omega)
      have hg := hA.blk
      have hlz : i < zs.length := by rw [hA.len]; exact hlt
      have hz : zs[i]? = some (eCuts l[i].cuts) := by rw [List.getElem?_eq_getElem hlz, hA.rest i l[i] zs[i] (Nat.le_refl _) (List.getElem?_eq_getElem hlt) (List.getElem?_eq_getElem hlz)]
      have hcell : (flatR l zs)[i * 5 + 4]? = some (eCuts l[i].cuts) := by rw [flatR_get hA.len, hz]
      have hlen2 := flatR_len (l := l) (zs := zs) hA.len
      have hlen' : decide (i * 5 + 4 + 1 ≤ (flatR l zs).length) = true := by rw [hlen2]; simp; omega
      simp only [↓evd, evu, evf, implies_true, reduceCtorEq, Nat.reduceEqDiff, ↓reduceIte, Nat.reduceAdd, Nat.reduceLeDiff, Nat.reduceLT, Nat.reduceMul, Int.reduceLT, Int.reduceLE, Int.reduceToNat, evz, e3, e12, e13, hlt', hg, hcell]
      refine (clone_cut τ l[i].cuts (hc _ (List.getElem_mem hlt))).mono ?_
      rintro v τ1 ⟨hv, hk⟩
      have hst := hA.step hlt hn hv hk
      have hg1 : τ1.get σ.next = some (.cells (flatR l zs) none) := by rw [hk.get hn]; exact hg
      have hov := over_set (l := flatR l zs) (j := i * 5 + 4) (x := v) (by omega)
      rw [flatR_set hA.len] at hov
      have hKn : Keep [] σ (τ1.set σ.next (.cells (flatR l (zs.set i v)) none)) := (hK.trans hk (fun x hx => nomatch hx)).set (.inr (Nat.le_refl _)) _
      have hn1 : σ.next < τ1.next := Nat.lt_of_lt_of_le hn hk.2.2.1
      rcases hv.cells with rfl | ⟨K, n, cap, rfl, _⟩
      all_goals
        simp only [↓evd, evu, evf, implies_true, reduceCtorEq, Nat.reduceEqDiff, ↓reduceIte, Nat.reduceAdd, Nat.reduceLeDiff, Nat.reduceLT, Nat.reduceMul, Int.reduceLT, Int.reduceLE, Int.reduceToNat, evz, e3, e12, e13, hlt', hg1, hlen', hov, hw]
        exact ⟨m - 1, by omega, i + 1, _, by omega, by omega, rfl, hst, hn1, hKn⟩
    · have hlt' : ¬ (i : Int) < (l.length : Int) := by omega
      have : i = l.length := by omega
      subst this
      simp only [↓evd, evu, evf, implies_true, reduceCtorEq, Nat.reduceEqDiff, ↓reduceIte, Nat.reduceAdd, Nat.reduceLeDiff, Nat.reduceLT, Nat.reduceMul, Int.reduceLT, Int.reduceLE, Int.reduceToNat, evz, e3, e12, e13, hlt']
      exact ⟨hK, hn, zs, hA⟩
  · refine ⟨0, l.map fun a => eCuts a.cuts, by omega, Nat.zero_le _, ?_⟩
    simp only [↓evd, evu, evf, implies_true, reduceCtorEq, Nat.reduceEqDiff, ↓reduceIte, Nat.reduceAdd, Nat.reduceLeDiff, Nat.reduceLT, Nat.reduceMul, Int.reduceLT, Int.reduceLE, Int.reduceToNat, evz]
    refine ⟨⟨by simp, by have h := flatR_full l; simp only [eCuts] at h; rw [h]; exact g2, by omega, fun j a z hj => by omega, fun j a z _ ha hz => ?_, fun j j' z z' _ h => by omega⟩, by rw [g5]; simp, g3, g4, by rw [g5]; simp, fun q hq _ => ?_⟩
    · rw [List.getElem?_map, ha] at hz; cases hz; rfl
    · rw [g6 q (by omega), Heap.get_new, if_neg (by omega)]
end Go.Proofs.YtcchmmjjfglpgaaGreat.M
set_option linter.unusedSimpArgs false
set_option linter.unusedVariables false
set_option maxRecDepth 100000
namespace Go.Proofs.YtcchmmjjfglpgaaGreat.M
open Go Go.Mini
/-! ### Spots stand in order -/
theorem spotF_mono (rev : Int) (u : List Int) {at1 at2 : Int} (h : at1 ≤ at2) : ∀ (l : List Atom) (ps : List Int) (i acc1 acc2 : Nat), acc1 ≤ acc2 → acc1 ≤ i → spotF rev u at1 l ps i acc1 ≤ spotF rev u at2 l ps i acc2
  | [], ps, i, acc1, acc2, h1, _ => by simp [spotF]; exact h1
  | a :: l, [], i, acc1, acc2, h1, _ => by simp [spotF]; exact h1
  | a :: l, p :: ps, i, acc1, acc2, h1, h2 => by
    simp only [spotF]
    refine spotF_mono rev u h l ps (i + 1) _ _ ?_ ?_
    · by_cases c1 : p < at1 ∧ visible rev u a = true
      · rw [if_pos c1, if_pos ⟨by omega, c1.2⟩]; exact Nat.le_refl _
      · rw [if_neg c1]; split <;> omega
    · split <;> omega
theorem spotF_vis (rev : Int) (u : List Int) (at' : Int) : ∀ (l : List Atom) (ps : List Int) (i acc : Nat), spotF rev u at' l ps i acc = acc ∨ ∃ (j : Nat) (a : Atom), l[j]? = some a ∧ spotF rev u at' l ps i acc = i + j + 1 ∧ visible rev u a = true
  | [], ps, i, acc => by simp [spotF]
  | a :: l, [], i, acc => by simp [spotF]
  | a :: l, p :: ps, i, acc => by
    simp only [spotF]
    rcases spotF_vis rev u at' l ps (i + 1) (if p < at' ∧ visible rev u a = true then i + 1 else acc) with h | ⟨j, b, h1, h2, h3⟩
    · by_cases c1 : p < at' ∧ visible rev u a = true
      · rw [if_pos c1] at h ⊢
        exact .inr ⟨0, a, rfl, h, c1.2⟩
      · rw [if_neg c1] at h ⊢
        exact .inl h
    · exact .inr ⟨j + 1, b, h1, by omega, h3⟩
theorem spotG_ge (rev rank : Int) : ∀ (l : List Atom) (k : Nat), k ≤ spotG rev rank l k
  | [], k => by simp [spotG]
  | a :: l, k => by
    simp only [spotG]
    split
    · have := spotG_ge rev rank l (k + 1); omega
    · omega
theorem spotG_stop (rev rank : Int) : ∀ (l : List Atom) (k j : Nat) (a : Atom), l[j]? = some a → a.rev ≤ rev → spotG rev rank l k ≤ k + j
  | [], k, j, a, h, _ => by simp at h
  | b :: l, k, 0, a, h, h2 => by
    simp at h; subst h
    rw [spotG, if_neg (by omega)]; omega
  | b :: l, k, j + 1, a, h, h2 => by
    simp only [spotG]
    split
    · have := spotG_stop rev rank l (k + 1) j a (by simpa using h) h2; omega
    · omega
theorem visible_rev {rev : Int} {u : List Int} {a : Atom} (h : visible rev u a = true) : a.rev ≤ rev := by
  simp only [visible, Bool.and_eq_true, decide_eq_true_eq] at h
  exact h.1.1
theorem spot_mono (l : List Atom) (ps : List Int) (rev : Int) (u : List Int) {at1 at2 : Int} (rank : Int) (h : at1 ≤ at2) : spot l ps rev u at1 rank ≤ spot l ps rev u at2 rank := by
  have h1 := spotF_mono rev u h l ps 0 0 0 (Nat.le_refl _) (Nat.le_refl _)
  have h2 := spotF_vis rev u at2 l ps 0 0
  unfold spot
  generalize spotF rev u at1 l ps 0 0 = k1 at h1
  generalize spotF rev u at2 l ps 0 0 = k2 at h1 h2
  by_cases e : k1 = k2
  · subst e; exact Nat.le_refl _
  · rcases h2 with h2 | ⟨j, a, g1, g2, g3⟩
    · omega
    · have hg := spotG_ge rev rank (l.drop k2) k2
      have hj : (l.drop k1)[j - k1]? = some a := by rw [List.getElem?_drop, show k1 + (j - k1) = j by omega]; exact g1
      have hs := spotG_stop rev rank (l.drop k1) k1 (j - k1) a hj (visible_rev g3)
      omega
/-- the order that a check leaves: each change begins no earlier than the one ahead of it -/
theorem frm_sorted {s : List UInt8} : ∀ {l : List Chg}, l.any (chgOut s) = false → disorder l = false → (l.map Chg.frm).Pairwise (· ≤ ·)
  | [], _, _ => .nil
  | [x], _, _ => by simp
  | x :: y :: l, h1, h2 => by
    simp only [List.any_cons, Bool.or_eq_false_iff] at h1
    rw [disorder, Bool.or_eq_false_iff] at h2
    have ih := frm_sorted (s := s) (l := y :: l) (by simp only [List.any_cons, h1.2.1, h1.2.2]; rfl) h2.2
    have h3 : x.frm ≤ y.frm := by
      have a1 := h1.1
      have a2 := h2.1
      simp only [chgOut, chgBad, Bool.or_eq_false_iff, decide_eq_false_iff_not] at a1 a2
      omega
    rw [List.map_cons]
    refine .cons ?_ ih
    intro z hz
    rw [List.map_cons, List.mem_cons] at hz
    rcases hz with rfl | hz
    · exact h3
    · rw [List.map_cons] at ih
      exact Int.le_trans h3 (List.rel_of_pairwise_cons ih hz)
theorem firstNZ_zero : ∀ {l : List Int}, firstNZ l = 0 → ∀ e ∈ l, e = 0
  | [], _, e, h => by cases h
  | x :: l, h, e, he => by
    rw [firstNZ] at h
    split at h
    · rename_i h0
      rcases List.mem_cons.1 he with rfl | he
      · exact h0
      · exact firstNZ_zero h e he
    · rename_i h0; exact absurd h h0
/-- what a check that finds no error says -/
theorem check_zero {s : List UInt8} {l : List Chg} (h : check s l = 0) : valid s = true ∧ l.length ≤ 8 ∧ l.any (chgOut s) = false ∧ l.any (chgIn s) = false ∧ disorder l = false ∧ (∀ c ∈ l, valid c.text = true) ∧ longI s l = 0 := by
  unfold check at h
  split at h
  · cases h
  rename_i hv
  split at h
  · cases h
  rename_i h8
  have hz := firstNZ_zero h
  have e1 := hz _ (show (if l.any (chgOut s) then (10 : Int) else 0) ∈ errs s l by simp [errs])
  have e2 := hz _ (show (if l.any (chgIn s) then (11 : Int) else 0) ∈ errs s l by simp [errs])
  have e3 := hz _ (show (if disorder l then (180 : Int) else 0) ∈ errs s l by simp [errs])
  have e4 := hz _ (show (if l.any (fun c => !valid c.text) then (12 : Int) else 0) ∈ errs s l by simp [errs])
  have e5 := hz _ (show longI s l ∈ errs s l by simp [errs])
  refine ⟨by simpa using hv, by omega, ?_, ?_, ?_, ?_, e5⟩
  · cases hb : l.any (chgOut s) with
    | false => rfl
    | true => rw [hb] at e1; cases e1
  · cases hb : l.any (chgIn s) with
    | false => rfl
    | true => rw [hb] at e2; cases e2
  · cases hb : disorder l with
    | false => rfl
    | true => rw [hb] at e3; cases e3
  · intro c hc
    cases hb : l.any (fun c => !valid c.text) with
    | false =>
      rw [List.any_eq_false] at hb
      simpa using hb c hc
    | true => rw [hb] at e4; cases e4
end Go.Proofs.YtcchmmjjfglpgaaGreat.M
set_option linter.unusedSimpArgs false
set_option linter.unusedVariables false
set_option maxRecDepth 100000
namespace Go.Proofs.YtcchmmjjfglpgaaGreat.M
open Go Go.Mini
attribute [local congr] go1_congr goM_congr goG_congr goV_congr drawwp_congr
/-- the spots as numbers -/
def spotsN (l : List Atom) (rev : Int) (u : List Int) (cs : List Chg) (rank : Int) : List Nat := cs.map fun c => spot l (places rev u l 0) rev u c.frm rank
theorem spots_eq {l : List Atom} {rev : Int} {u : List Int} {cs : List Chg} (rank : Int) (h : check (atomsText rev u l) cs = 0) : spots l rev u cs rank = (spotsN l rev u cs rank).map fun n : Nat => (n : Int) := by
  rw [spots, if_pos h, spotsN, List.map_map]; rfl
theorem spotsN_sorted {l : List Atom} {rev : Int} {u : List Int} {cs : List Chg} (rank : Int) (h : check (atomsText rev u l) cs = 0) : (spotsN l rev u cs rank).Pairwise (· ≤ ·) ∧ ∀ k ∈ spotsN l rev u cs rank, k ≤ l.length := by
  obtain ⟨_, _, h1, _, h2, _, _⟩ := check_zero h
  have hs := frm_sorted h1 h2
  constructor
  · rw [spotsN, List.pairwise_map]
    rw [List.pairwise_map] at hs
    exact hs.imp fun hle => spot_mono l _ rev u rank hle
  · intro k hk
    rw [spotsN, List.mem_map] at hk
    obtain ⟨c, _, rfl⟩ := hk
    exact spot_le l _ rev u _ rank
theorem cutsF_lt (rev : Int) (u : List Int) (cs : List Chg) : ∀ (l : List Atom) (ps : List Int) (i : Nat) (x : Int), x ∈ cutsF rev u cs l ps i → ∃ j : Nat, x = (j : Int) ∧ i ≤ j ∧ j < i + l.length
  | [], ps, i, x, h => by simp [cutsF] at h
  | a :: l, [], i, x, h => by simp [cutsF] at h
  | a :: l, p :: ps, i, x, h => by
    rw [cutsF, List.mem_append] at h
    rcases h with h | h
    · split at h
      · simp at h; exact ⟨i, h, Nat.le_refl _, by simp⟩
      · cases h
    · obtain ⟨j, h1, h2, h3⟩ := cutsF_lt rev u cs l ps (i + 1) x h
      exact ⟨j, h1, by omega, by simp only [List.length_cons]; omega⟩
theorem cuts_lt {l : List Atom} {rev : Int} {u : List Int} {cs : List Chg} {x : Int} (h : x ∈ cuts l rev u cs) : ∃ j : Nat, x = (j : Int) ∧ j < l.length := by
  unfold cuts at h
  split at h
  · obtain ⟨j, h1, _, h3⟩ := cutsF_lt _ _ _ _ _ _ _ h
    exact ⟨j, h1, by omega⟩
  · cases h
theorem cutsF_len (rev : Int) (u : List Int) (cs : List Chg) : ∀ (l : List Atom) (ps : List Int) (i : Nat), (cutsF rev u cs l ps i).length ≤ l.length
  | [], ps, i => by simp [cutsF]
  | a :: l, [], i => by simp [cutsF]
  | a :: l, p :: ps, i => by
    rw [cutsF, List.length_append, List.length_cons]
    have := cutsF_len rev u cs l ps (i + 1)
    split <;> simp <;> omega
theorem cuts_len (l : List Atom) (rev : Int) (u : List Int) (cs : List Chg) : (cuts l rev u cs).length ≤ l.length := by
  unfold cuts; split
  · exact cutsF_len _ _ _ _ _ _
  · simp
/-! ### An edit, as a law -/
/-- the atoms of which some are taken away by a cut -/
def marked (ct : List Int) (c : Cut) : List Atom → Nat → List Atom
  | a :: l, i => (if (i : Int) ∈ ct then { a with cuts := a.cuts ++ [c] } else a) :: marked ct c l (i + 1)
  | [], _ => []
theorem marked_len (ct : List Int) (c : Cut) : ∀ (l : List Atom) (i : Nat), (marked ct c l i).length = l.length
  | [], _ => rfl
  | a :: l, i => by simp only [marked, List.length_cons, marked_len ct c l (i + 1)]
theorem marked_get (ct : List Int) (c : Cut) : ∀ (l : List Atom) (i j : Nat), (marked ct c l i)[j]? = (l[j]?).map fun a => if ((i + j : Nat) : Int) ∈ ct then { a with cuts := a.cuts ++ [c] } else a
  | [], i, j => by simp [marked]
  | a :: l, i, 0 => by simp [marked]
  | a :: l, i, j + 1 => by
    simp only [marked, List.getElem?_cons_succ]
    rw [marked_get ct c l (i + 1) j, show i + 1 + j = i + (j + 1) by omega]
/-- the texts of changes put in at their spots -/
def merged (new : List UInt8 → List Atom) (l : List Atom) : List (Nat × List UInt8) → Nat → List Atom
  | (k, t) :: r, at' => (l.take k).drop at' ++ new t ++ merged new l r k
  | [], at' => l.drop at'
def ptsOf (s : List UInt8) : List (List UInt8) := (pts s).getD []
/-- an edit upon atoms -/
def upon (l : List Atom) (rev : Int) (u : List Int) (cs : List Chg) (rev' group rank : Int) : List Atom :=
  if check (atomsText rev u l) cs = 0 then
    merged (fun t => newAtoms rev' group rank (ptsOf t)) (marked (cuts l rev u cs) ⟨rev', group⟩ l 0) ((spotsN l rev u cs rank).zip (cs.map Chg.text)) 0
  else l
end Go.Proofs.YtcchmmjjfglpgaaGreat.M
set_option linter.unusedSimpArgs false
set_option linter.unusedVariables false
set_option maxRecDepth 100000
namespace Go.Proofs.YtcchmmjjfglpgaaGreat.M
open Go Go.Mini
/-- a cut put behind cuts that can grow -/
theorem cut_app {B : Nat} {σ : Heap} {z : AVal} {cs : List Cut} (h : CutOwn B σ z cs) (hB : B ≤ σ.next) (hl : cs.length ≤ 1000000) (c : Cut) :
    ∃ x' σ', aApp t_Cut 2 16 z (.slc (.new σ.next) 0 1 (.ex 1)) (σ.new (.cells [.int .i64 c.rev, .int .i64 c.group] none)) = some (x', σ') ∧ CutOwn B σ' x' (cs ++ [c]) ∧ σ'.W = σ.W ∧ σ'.F0 = σ.F0 ∧ σ.next < σ'.next ∧
      (∀ q, q < σ.next → q ∉ uid z → σ'.get q = σ.get q) ∧ (∀ K ∈ uid x', σ.next ≤ K ∨ K ∈ uid z) := by
  have hroom : maxRoom = 68719476736 := rfl
  have hsrc := src_one (σ := σ.new (.cells [.int .i64 c.rev, .int .i64 c.group] none)) (K := σ.next) (k := 2) (cs := [.int .i64 c.rev, .int .i64 c.group]) (opn := none) (z := eCut c) (cap := .ex 1) (by rw [Heap.get_new, if_pos rfl]) rfl rfl
  have fin : ∀ {y : AVal} (els : List Cut), (∀ K ∈ uid y, K ∈ uid z) → els = cs → Row B σ t_Cut 2 y (els.map eCut) → aApp t_Cut 2 16 z (.slc (.new σ.next) 0 1 (.ex 1)) (σ.new (.cells [.int .i64 c.rev, .int .i64 c.group] none)) = aApp t_Cut 2 16 y (.slc (.new σ.next) 0 1 (.ex 1)) (σ.new (.cells [.int .i64 c.rev, .int .i64 c.group] none)) →
      ∃ x' σ', aApp t_Cut 2 16 z (.slc (.new σ.next) 0 1 (.ex 1)) (σ.new (.cells [.int .i64 c.rev, .int .i64 c.group] none)) = some (x', σ') ∧ CutOwn B σ' x' (cs ++ [c]) ∧ σ'.W = σ.W ∧ σ'.F0 = σ.F0 ∧ σ.next < σ'.next ∧
      (∀ q, q < σ.next → q ∉ uid z → σ'.get q = σ.get q) ∧ (∀ K ∈ uid x', σ.next ≤ K ∨ K ∈ uid z) := by
    intro y els hy he hR heq
    subst he
    obtain ⟨x', ρ, g1, g2, g3, g4, g5⟩ := row_app2 (bytes := 16) (hR.new (.cells [.int .i64 c.rev, .int .i64 c.group] none)) (Nat.le_succ_of_le hB) hsrc.1 hsrc.2 (by intro z hz; simp at hz; subst hz; rfl) rfl (by omega) (by omega) (by simp; omega)
    refine ⟨x', ρ, heq.trans g1, .inr ⟨by simp, by rw [List.map_append]; exact g2⟩, g3.1, g3.2.1, by have := g3.2.2.1; simp at this; omega, fun q hq hn => ?_, fun K hK => ?_⟩
    · rw [g4 q (by simp; omega) (fun K o n c e hk => hn (hy q (mem_uid.2 ⟨o, n, c, by rw [hk]; exact e⟩))), Heap.get_new, if_neg (by omega)]
    · obtain ⟨o, n, c', e⟩ := mem_uid.1 hK
      rcases g5 K o n c' e with h1 | ⟨o', n', c'', h1⟩
      · exact .inl (Nat.le_of_succ_le h1)
      · exact .inr (hy K (mem_uid.2 ⟨_, _, _, h1⟩))
  rcases h with ⟨rfl, rfl⟩ | ⟨h0, h⟩
  · exact fin (y := .nils) [] (fun K hK => nomatch hK) rfl (Row.nil B σ t_Cut 2) rfl
  · exact fin cs (fun K hK => hK) rfl h rfl
theorem flatR_cuts : ∀ {l : List Atom} {zs : List AVal} {i : Nat} {a : Atom} {ks : List Cut}, l[i]? = some a → flatR (l.set i { a with cuts := ks }) zs = flatR l zs
  | [], _, _, _, _, h => by simp at h
  | b :: l, [], 0, a, ks, h => rfl
  | b :: l, [], i + 1, a, ks, h => rfl
  | b :: l, z :: zs, 0, a, ks, h => by
    simp at h; subst h; rfl
  | b :: l, z :: zs, i + 1, a, ks, h => by
    simp only [List.set_cons_succ, flatR]
    rw [flatR_cuts (by simpa using h)]
/-- one more atom bears a cut -/
theorem AtomsOwn.mark {B : Nat} {τ σ' : Heap} {K : Nat} {l : List Atom} {zs : List AVal} {i : Nat} {a : Atom} {z x' : AVal} {ks : List Cut} (h : AtomsOwn B τ K l zs l.length) (hB : B ≤ τ.next) (ha : l[i]? = some a) (hz : zs[i]? = some z)
    (hx : CutOwn B σ' x' ks) (hn : τ.next ≤ σ'.next) (hg : ∀ q, q < τ.next → q ∉ uid z → σ'.get q = τ.get q) (hu : ∀ k ∈ uid x', τ.next ≤ k ∨ k ∈ uid z) :
    AtomsOwn B (σ'.set K (.cells (flatR l (zs.set i x')) none)) K (l.set i { a with cuts := ks }) (zs.set i x') (l.set i { a with cuts := ks }).length where
  len := by rw [List.length_set, List.length_set]; exact h.len
  blk := by rw [Heap.get_set, if_pos rfl, flatR_cuts ha]
  low := h.low
  own := by
    intro j b y _ hb hy
    have hlow := h.low
    have hil := (List.getElem?_eq_some_iff.1 ha).1
    have hiz := (List.getElem?_eq_some_iff.1 hz).1
    by_cases e : j = i
    · subst e
      rw [List.getElem?_set_self hil] at hb
      rw [List.getElem?_set_self hiz] at hy
      cases hb; cases hy
      refine hx.move (Nat.le_refl _) fun k hk => ?_
      have := (hx.low k hk).1
      rw [Heap.get_set, if_neg (by omega)]
    · rw [List.getElem?_set_ne (fun h => e h.symm)] at hb hy
      have hjl := (List.getElem?_eq_some_iff.1 hb).1
      have h1 := h.own j b y hjl hb hy
      refine h1.move hn fun k hk => ?_
      have h2 := h1.low k hk
      rw [Heap.get_set, if_neg (by omega)]
      refine hg k h2.2 fun hk2 => ?_
      rcases Nat.lt_or_gt_of_ne e with e | e
      · exact h.apart j i y z e hil hy hz k hk hk2
      · exact h.apart i j z y e hjl hz hy k hk2 hk
  rest := by
    intro j b y hj hb hy
    have := (List.getElem?_eq_some_iff.1 hb).1
    omega
  apart := by
    intro j j' y y' hjj hj' hy hy' k hk hk'
    rw [List.length_set] at hj'
    have hil := (List.getElem?_eq_some_iff.1 ha).1
    have hiz := (List.getElem?_eq_some_iff.1 hz).1
    by_cases e : j = i
    · subst e
      rw [List.getElem?_set_self hiz] at hy
      cases hy
      rw [List.getElem?_set_ne (by omega)] at hy'
      rcases hu k hk with h1 | h1
      · have := ((h.own j' l[j'] y' hj' (List.getElem?_eq_getElem hj') hy').low k hk').2; omega
      · exact h.apart j j' z y' hjj hj' hz hy' k h1 hk'
    · rw [List.getElem?_set_ne (fun h => e h.symm)] at hy
      have hjl : j < l.length := by omega
      by_cases e' : j' = i
      · subst e'
        rw [List.getElem?_set_self hiz] at hy'
        cases hy'
        rcases hu k hk' with h1 | h1
        · have := ((h.own j l[j] y hjl (List.getElem?_eq_getElem hjl) hy).low k hk).2; omega
        · exact h.apart j j' y z hjj hj' hy hz k hk h1
      · rw [List.getElem?_set_ne (fun h => e' h.symm)] at hy'
        exact h.apart j j' y y' hjj hj' hy hy' k hk hk'
end Go.Proofs.YtcchmmjjfglpgaaGreat.M
set_option linter.unusedSimpArgs false
set_option linter.unusedVariables false
set_option maxRecDepth 100000
namespace Go.Proofs.YtcchmmjjfglpgaaGreat.M
open Go Go.Mini
theorem Row.sees2 {B k : Nat} {e : TypeId} {σ : Heap} {x : AVal} {els : List AVal} (h : Row B σ e k x els) : ∃ τ, Sees σ x τ (.fsl k els) ∧ τ.W = σ.W ∧ τ.F0 = σ.F0 ∧ τ.next = σ.next ∧ ∀ q, q ∉ uid x → τ.get q = σ.get q := by
  rcases h.2 with ⟨rfl, rfl⟩ | ⟨K, cap, cs, opn, rfl, hg, ht, hBK, hKn, hcap⟩
  · exact ⟨σ, Sees.nils σ k, rfl, rfl, rfl, fun _ _ => rfl⟩
  · refine ⟨σ.set K .dead, Sees.own hg rfl h.1 (by rw [List.drop_zero, ht]) ?_, rfl, rfl, rfl, fun q hq => by rw [Heap.get_set, if_neg (fun e => hq (by rw [e]; exact mem_uid.2 ⟨_, _, _, rfl⟩))]⟩
    rcases hcap with ⟨rfl, _⟩ | ⟨c, rfl, h1, _⟩
    · intro c hc; cases hc
    · intro c' hc; cases hc; exact h1
theorem CutOwn.sees {B : Nat} {σ : Heap} {z : AVal} {cs : List Cut} (h : CutOwn B σ z cs) : ∃ τ, Sees σ z τ (eCuts cs) ∧ τ.W = σ.W ∧ τ.F0 = σ.F0 ∧ τ.next = σ.next ∧ ∀ q, q ∉ uid z → τ.get q = σ.get q := by
  rcases h with ⟨rfl, rfl⟩ | ⟨_, h⟩
  · exact ⟨σ, Sees.emp0 σ 2, rfl, rfl, rfl, fun _ _ => rfl⟩
  · exact Row.sees2 h
/-- all cuts of a row of atoms seen as data; the row stays one's own -/
theorem AtomsOwn.sees {B : Nat} {σ : Heap} {K n : Nat} {cap : Cap} {l : List Atom} {zs : List AVal} (h : AtomsOwn B σ K l zs l.length) : ∃ ρ, Sees σ (.slc (.new K) 0 n cap) ρ (.slc (.new K) 0 n cap) ∧ ρ.get K = some (.cells ((l.map eAtom).flatMap AVal.cells) none) ∧ ρ.W = σ.W ∧ ρ.F0 = σ.F0 ∧ ρ.next = σ.next ∧ ∀ q, q < B → q ≠ K → ρ.get q = σ.get q := by
  have hz := h.len
  have step : ∀ j, j ≤ l.length → ∃ τ, Sees σ (.slc (.new K) 0 n cap) τ (.slc (.new K) 0 n cap) ∧ τ.get K = some (.cells (flatR l (seenCuts l zs j)) none) ∧ (∀ (i : Nat) (a : Atom) (z : AVal), j ≤ i → l[i]? = some a → zs[i]? = some z → CutOwn B τ z a.cuts) ∧ τ.W = σ.W ∧ τ.F0 = σ.F0 ∧ τ.next = σ.next ∧ ∀ q, q < B → q ≠ K → τ.get q = σ.get q := by
    intro j
    induction j with
    | zero => intro _; exact ⟨σ, Sees.refl _ _, h.blk, fun i a z _ ha hz => h.own i a z (List.getElem?_eq_some_iff.1 ha).1 ha hz, rfl, rfl, rfl, fun _ _ _ => rfl⟩
    | succ j ih =>
      intro hj
      obtain ⟨τ, h1, h2, h3, h4⟩ := ih (by omega)
      have hlz : j < zs.length := by omega
      have hjl : j < l.length := by omega
      have hx := h3 j _ _ (Nat.le_refl _) (List.getElem?_eq_getElem hjl) (List.getElem?_eq_getElem hlz)
      have hget : (flatR l (seenCuts l zs j))[j * 5 + 4]? = some zs[j] := by rw [flatR_get (seenCuts_len hz j), seenCuts_get hz hjl, List.getElem?_eq_getElem hlz]
      obtain ⟨τ1, s1, s2, s3, s4, s5⟩ := hx.sees
      have hKB := h.low
      have hnK : ∀ q, q < B → q ∉ uid zs[j] := fun q hq hm => by have := (hx.low q hm).1; omega
      have h2' : τ1.get K = some (.cells (flatR l (seenCuts l zs j)) none) := by rw [s5 K (hnK K hKB)]; exact h2
      have hs := Sees.cell (off := 0) (n := n) (cap := cap) h2 hget s1 h2'
      refine ⟨_, h1.trans hs, ?_, ?_, s2.trans h4.1, s3.trans h4.2.1, s4.trans h4.2.2.1, fun q hq hqK => ?_⟩
      · rw [Heap.get_set, if_pos rfl, flatR_set (seenCuts_len hz j), seenCuts_succ hz hjl]
      · intro i a z hi ha hzi
        have h5 := h3 i a z (by omega) ha hzi
        refine h5.move (by rw [Heap.set_next, s4]; exact Nat.le_refl _) fun k hk => ?_
        have h6 := (h5.low k hk).1
        rw [Heap.get_set, if_neg (by omega)]
        refine s5 k fun hk2 => ?_
        exact h.apart j i zs[j] z (by omega) (List.getElem?_eq_some_iff.1 ha).1 (List.getElem?_eq_getElem hlz) hzi k hk2 hk
      · rw [Heap.get_set, if_neg (fun e => hqK e.symm), s5 q (hnK q hq)]
        exact h4.2.2.2 q hq hqK
  obtain ⟨τ, h1, h2, _, h4⟩ := step l.length (Nat.le_refl _)
  rw [seenCuts_all hz, flatR_full] at h2
  exact ⟨τ, h1, h2, h4⟩
end Go.Proofs.YtcchmmjjfglpgaaGreat.M
set_option linter.unusedSimpArgs false
set_option linter.unusedVariables false
set_option maxRecDepth 100000
namespace Go.Proofs.YtcchmmjjfglpgaaGreat.M
open Go Go.Mini
/-- the first i atoms marked -/
def markTo (ct : List Int) (c : Cut) (l : List Atom) (i : Nat) : List Atom := (marked ct c l 0).take i ++ l.drop i
theorem markTo_zero (ct : List Int) (c : Cut) (l : List Atom) : markTo ct c l 0 = l := rfl
theorem markTo_all (ct : List Int) (c : Cut) (l : List Atom) : markTo ct c l l.length = marked ct c l 0 := by
  simp only [markTo, List.drop_length, List.append_nil]
  exact List.take_of_length_le (by rw [marked_len]; exact Nat.le_refl _)
theorem markTo_len (ct : List Int) (c : Cut) (l : List Atom) {i : Nat} (h : i ≤ l.length) : (markTo ct c l i).length = l.length := by
  simp only [markTo, List.length_append, List.length_take, marked_len, List.length_drop]; omega
theorem markTo_get (ct : List Int) (c : Cut) (l : List Atom) {i : Nat} (h : i < l.length) : (markTo ct c l i)[i]? = some l[i] := by
  have e : ((marked ct c l 0).take i).length = i := by simp [marked_len]; omega
  rw [markTo, List.getElem?_append_right (by omega), e, Nat.sub_self, List.getElem?_drop, Nat.add_zero, List.getElem?_eq_getElem h]
theorem markTo_succ (ct : List Int) (c : Cut) (l : List Atom) {i : Nat} (h : i < l.length) : markTo ct c l (i + 1) = (markTo ct c l i).set i (if (i : Int) ∈ ct then { l[i] with cuts := l[i].cuts ++ [c] } else l[i]) := by
  have e : ((marked ct c l 0).take i).length = i := by simp [marked_len]; omega
  have hm : i < (marked ct c l 0).length := by rw [marked_len]; exact h
  have hg := marked_get ct c l 0 i
  rw [List.getElem?_eq_getElem hm, List.getElem?_eq_getElem h, Option.map_some, Option.some.injEq, Nat.zero_add] at hg
  rw [← hg]
  simp only [markTo]
  rw [List.set_append_right _ _ (by omega), e, Nat.sub_self, List.drop_eq_getElem_cons h, List.set_cons_zero, List.take_succ_eq_append_getElem hm, List.append_assoc]; rfl
theorem markTo_skip (ct : List Int) (c : Cut) (l : List Atom) {i : Nat} (h : i < l.length) (hn : (i : Int) ∉ ct) : markTo ct c l (i + 1) = markTo ct c l i := by
  rw [markTo_succ ct c l h, if_neg hn]
  apply List.ext_getElem?
  intro j
  by_cases e : j = i
  · subst e
    rw [List.getElem?_set_self (by rw [markTo_len ct c l (by omega)]; exact h), markTo_get ct c l h]
  · rw [List.getElem?_set_ne (fun h => e h.symm)]
end Go.Proofs.YtcchmmjjfglpgaaGreat.M
set_option linter.unusedSimpArgs false
set_option linter.unusedVariables false
set_option maxRecDepth 100000
namespace Go.Proofs.YtcchmmjjfglpgaaGreat.M
open Go Go.Mini
theorem flat_drop {k : Nat} : ∀ {els : List AVal} (lo : Nat), (∀ z ∈ els, z.cells.length = k) → (els.flatMap AVal.cells).drop (lo * k) = (els.drop lo).flatMap AVal.cells
  | els, 0, _ => by simp
  | [], lo + 1, _ => by simp
  | z :: els, lo + 1, h => by
    have hz := h z (by simp)
    rw [List.flatMap_cons, List.drop_succ_cons, Nat.add_mul, Nat.one_mul, Nat.add_comm, ← List.drop_drop, List.drop_left' hz]
    exact flat_drop lo fun y hy => h y (List.mem_cons_of_mem _ hy)
theorem flat_take {k : Nat} : ∀ {els : List AVal} (lo : Nat), (∀ z ∈ els, z.cells.length = k) → (els.flatMap AVal.cells).take (lo * k) = (els.take lo).flatMap AVal.cells
  | els, 0, _ => by simp
  | [], lo + 1, _ => by simp
  | z :: els, lo + 1, h => by
    have hz := h z (by simp)
    rw [List.flatMap_cons, List.take_succ_cons, List.flatMap_cons, Nat.add_mul, Nat.one_mul, Nat.add_comm, List.take_append, List.take_of_length_le (by omega), hz, Nat.add_sub_cancel_left]
    rw [flat_take lo fun y hy => h y (List.mem_cons_of_mem _ hy)]
/-- a part of a row of one's own, as what is appended -/
theorem src_part {σ : Heap} {K lo hi n k : Nat} {els : List AVal} {opn : Option TypeId} (hg : σ.get K = some (.cells (els.flatMap AVal.cells) opn)) (he : ∀ z ∈ els, z.cells.length = k) (hn : els.length = n) (h1 : lo ≤ hi) (h2 : hi ≤ n) :
    aSlc k (.slc (.new K) 0 n (.ex n)) (some (.int .i64 (lo : Nat))) (some (.int .i64 (hi : Nat))) none = some (.slc (.new K) (if n = lo then 0 else lo * k) (hi - lo) (.ex (n - lo))) ∧
    (lo = lo → aSlc k (.slc (.new K) 0 n (.ex n)) (some (.int .i64 (lo : Nat))) none none = some (.slc (.new K) (if n = lo then 0 else lo * k) (n - lo) (.ex (n - lo)))) ∧
    aLenOf (.slc (.new K) (if n = lo then 0 else lo * k) (hi - lo) (.ex (n - lo))) = some ((els.take hi).drop lo).length ∧
    srcCells σ k ((els.take hi).drop lo).length (.slc (.new K) (if n = lo then 0 else lo * k) (hi - lo) (.ex (n - lo))) = some (((els.take hi).drop lo).flatMap AVal.cells) := by
  have b1 : aBound (some (.int .i64 (hi : Nat))) n n = some hi := by simp only [aBound]; rw [if_pos (by simp; omega)]; rfl
  have b2 : aBound (some (.int .i64 (lo : Nat))) 0 hi = some lo := by simp only [aBound]; rw [if_pos (by simp; omega)]; rfl
  have b2' : aBound (some (.int .i64 (lo : Nat))) 0 n = some lo := by simp only [aBound]; rw [if_pos (by simp; omega)]; rfl
  have b3 : aBound none n n = some n := rfl
  have hl : ((els.take hi).drop lo).length = hi - lo := by simp; omega
  refine ⟨?_, fun _ => ?_, ?_, ?_⟩
  · simp only [aSlc, b3, b1, b2, Nat.zero_add, Option.isSome_none, Bool.false_and, Bool.false_eq_true, if_false]
  · simp only [aSlc, b3, b2', Nat.zero_add, Option.isSome_none, Bool.false_and, Bool.false_eq_true, if_false]
  · rw [hl]; rfl
  · rw [hl]
    have hfl := flat_len he
    have hlen : (els.flatMap AVal.cells).length = n * k := by rw [hfl, hn]
    have hmul := Nat.mul_le_mul_right k h2
    have hoff : ∀ off, off + (hi - lo) * k ≤ n * k → cellsFrom σ (.new K) off ((hi - lo) * k) = some (((els.flatMap AVal.cells).drop off).take ((hi - lo) * k)) := fun off ho => cellsFrom_get hg _ _ (by omega)
    simp only [srcCells, slcCells, Nat.le_refl, if_true]
    by_cases e : n = lo
    · have : hi - lo = 0 := by omega
      rw [if_pos e, this, Nat.zero_mul]
      have h0 : ((els.take hi).drop lo) = [] := List.eq_nil_of_length_eq_zero (by omega)
      rw [h0]; rfl
    · rw [if_neg e, hoff _ (by rw [← Nat.add_mul, show lo + (hi - lo) = hi by omega]; exact hmul), flat_drop lo he, flat_take (hi - lo) (fun z hz => he z (List.mem_of_mem_drop hz)), List.take_drop, show lo + (hi - lo) = hi by omega]
theorem merged_cons (new : List UInt8 → List Atom) (l : List Atom) (k : Nat) (t : List UInt8) (r : List (Nat × List UInt8)) (at' : Nat) : merged new l ((k, t) :: r) at' = (l.take k).drop at' ++ new t ++ merged new l r k := rfl
theorem pts_len : ∀ (n : Nat) (s : List UInt8) (ps : List (List UInt8)), s.length ≤ n → pts s = some ps → ps.length ≤ s.length
  | 0, s, ps, h, hp => by
    have : s = [] := List.eq_nil_of_length_eq_zero (by omega)
    subst this; cases hp; simp
  | n + 1, s, ps, h, hp => by
    cases s with
    | nil => cases hp; simp
    | cons a r =>
      rw [pts_step (by simp)] at hp
      split at hp
      · cases hp
      · rename_i h0
        rw [Option.map_eq_some_iff] at hp
        obtain ⟨q, hq, rfl⟩ := hp
        have := pts_len n _ q (by rw [List.length_drop]; omega) hq
        have h2 := pt_le (a :: r)
        rw [List.length_drop] at this
        simp only [List.length_cons] at *; omega
end Go.Proofs.YtcchmmjjfglpgaaGreat.M
set_option linter.unusedSimpArgs false
set_option linter.unusedVariables false
set_option maxRecDepth 100000
namespace Go.Proofs.YtcchmmjjfglpgaaGreat.M
open Go Go.Mini
attribute [local congr] go1_congr goM_congr goG_congr goV_congr drawwp_congr Xwp_congr
theorem falses_row : ∀ n : Nat, (List.replicate n [AVal.bool false]).flatten = bitRow n fun _ => false
  | 0 => rfl
  | n + 1 => by
    have h := falses_row n
    rw [List.replicate_succ', List.flatten_append, h]
    simp only [bitRow, List.range_succ, List.map_append]; rfl
/-- copy(x, y) of rows of one's own, just as long -/
theorem copy_slc {σ : Heap} {a b n k : Nat} {zs ys : List AVal} {o1 o2 : Option TypeId} {ca cb : Cap} (hk : 0 < k) (ha : σ.get a = some (.cells zs o1)) (hb : σ.get b = some (.cells ys o2)) (hz : zs.length = n * k) (hy : ys.length = n * k) (hc : ys.all AVal.isCell = true) :
    ∃ σ', aCopy k (.slc (.new a) 0 n ca) (.slc (.new b) 0 n cb) σ = some (.int .i64 (n : Nat), σ') ∧ σ'.get a = some (.cells ys o1) ∧ σ'.W = σ.W ∧ σ'.F0 = σ.F0 ∧ σ'.next = σ.next ∧ ∀ q, q ≠ a → σ'.get q = σ.get q := by
  have h1 := cellsFrom_whole hb
  rw [hy] at h1
  by_cases h0 : n = 0
  · subst h0
    have e1 : zs = [] := List.eq_nil_of_length_eq_zero (by omega)
    have e2 : ys = [] := List.eq_nil_of_length_eq_zero (by omega)
    subst e1; subst e2
    refine ⟨σ, ?_, ha, rfl, rfl, rfl, fun _ _ => rfl⟩
    simp only [aCopy, aSLen, aLenOf, Nat.min_self, srcCells, slcCells, Nat.le_refl, if_true, h1]; rfl
  · refine ⟨σ.set a (.cells ys o1), ?_, by rw [Heap.get_set, if_pos rfl], rfl, rfl, rfl, fun q hq => by rw [Heap.get_set, if_neg (fun e => hq e.symm)]⟩
    simp only [aCopy, aSLen, aLenOf, Nat.min_self, srcCells, slcCells, Nat.le_refl, if_true, h1, if_neg h0, storeAt, ha]
    rw [if_pos (by simp only [hc, Bool.and_true, decide_eq_true_eq]; omega)]
    simp only [Option.map_some, over, List.take_zero, List.nil_append, Nat.zero_add, List.drop_eq_nil_of_le (show zs.length ≤ ys.length by omega), List.append_nil]
theorem flatR_cell : ∀ {l : List Atom} {zs : List AVal}, (∀ z ∈ zs, z.isCell = true) → (flatR l zs).all AVal.isCell = true
  | [], _, _ => by simp [flatR]
  | _ :: _, [], _ => by simp [flatR]
  | a :: l, z :: zs, h => by
    simp only [flatR, List.all_cons, h z (by simp), flatR_cell (l := l) (fun y hy => h y (List.mem_cons_of_mem _ hy))]; rfl
theorem AtomsOwn.cell {B : Nat} {τ : Heap} {K : Nat} {l : List Atom} {zs : List AVal} (h : AtomsOwn B τ K l zs l.length) : ∀ z ∈ zs, z.isCell = true := by
  intro z hz
  obtain ⟨j, hj, rfl⟩ := List.getElem_of_mem hz
  have hjl : j < l.length := by rw [← h.len]; exact hj
  rcases (h.own j l[j] zs[j] hjl (List.getElem?_eq_getElem hjl) (List.getElem?_eq_getElem hj)).cells with e | ⟨K', n, cap, e, _⟩ <;> rw [e] <;> rfl
theorem AtomsOwn.copied {B : Nat} {τ τ' : Heap} {K K' : Nat} {l : List Atom} {zs : List AVal} (h : AtomsOwn B τ K l zs l.length) (hK : K' < B) (hg : τ'.get K' = some (.cells (flatR l zs) none)) (hn : τ.next ≤ τ'.next) (ho : ∀ q, q ≠ K' → τ'.get q = τ.get q) : AtomsOwn B τ' K' l zs l.length where
  len := h.len
  blk := hg
  low := hK
  own := fun j a z hj ha hz => by
    have h1 := h.own j a z hj ha hz
    refine h1.move hn fun k hk => ho k ?_
    have := (h1.low k hk).1
    omega
  rest := h.rest
  apart := h.apart
set_option maxHeartbeats 8000000 in
theorem upon_call (σ : Heap) (l : List Atom) (rev : Int) (u : List Int) (cs : List Chg) (rev' group rank : Int) (hu : u.length ≤ 1000000) (hl : Fits l) (hcl : cs.length ≤ 1000000) (hc : ∀ c ∈ cs, c.text.length ≤ 1000000) (hlc : ∀ a ∈ l, a.cuts.length ≤ 100000) (hll : l.length ≤ 100000) :
    ACall Tryz.prog n_edit_Upon [eAtoms l, .int .i64 rev, ints u, eChgs cs, .int .i64 rev', .int .i64 group, .int .i64 rank] σ (eAtoms (upon l rev u cs rev' group rank)) σ := by
  refine bare_call (by simp only [AVal.pures, eAtoms_pure, ints_pure, eChgs_pure]; rfl) (eAtoms_pure _) (fun W F => spec_of_xwp c_edit_Upon (Nat.le_of_ble_eq_true rfl) ?_) σ
  unfold f_edit_Upon
  have ht := atomsText_len rev u l
  have ht2 := hl.2.2
  have hroom : maxRoom = 68719476736 := rfl
  have hc' : ∀ c ∈ cs, ChgFits c := fun c h => by have := hc c h; unfold ChgFits; omega
  refine x_seq mixed ?_
  simp only [↓evd, evu, evf, implies_true, reduceCtorEq, Nat.reduceEqDiff, ↓reduceIte, Nat.reduceAdd, Nat.reduceLeDiff, Nat.reduceLT, Nat.reduceMul, Int.reduceLT, Int.reduceLE, Int.reduceToNat, evz]
  refine x_seq mixed ?_
  simp only [↓evd, evu, evf, implies_true, reduceCtorEq, Nat.reduceEqDiff, ↓reduceIte, Nat.reduceAdd, Nat.reduceLeDiff, Nat.reduceLT, Nat.reduceMul, Int.reduceLT, Int.reduceLE, Int.reduceToNat, evz]
  refine MSpec.of (spots_call _ l rev u cs rank hu hl hcl hc') ?_
  simp only [↓evd, evu, evf, implies_true, reduceCtorEq, Nat.reduceEqDiff, ↓reduceIte, Nat.reduceAdd, Nat.reduceLeDiff, Nat.reduceLT, Nat.reduceMul, Int.reduceLT, Int.reduceLE, Int.reduceToNat, evz]
  refine x_seq mixed ?_
  simp only [↓evd, evu, evf, implies_true, reduceCtorEq, Nat.reduceEqDiff, ↓reduceIte, Nat.reduceAdd, Nat.reduceLeDiff, Nat.reduceLT, Nat.reduceMul, Int.reduceLT, Int.reduceLE, Int.reduceToNat, evz]
  refine MSpec.of (text_call _ l rev u hu hl) ?_
  simp only [↓evd, evu, evf, implies_true, reduceCtorEq, Nat.reduceEqDiff, ↓reduceIte, Nat.reduceAdd, Nat.reduceLeDiff, Nat.reduceLT, Nat.reduceMul, Int.reduceLT, Int.reduceLE, Int.reduceToNat, evz]
  refine MSpec.of (check_call _ (atomsText rev u l) cs (by omega) hcl hc') ?_
  by_cases h0 : check (atomsText rev u l) cs = 0
  case neg =>
    have hb : (check (atomsText rev u l) cs != 0) = true := by simpa using h0
    simp only [↓evd, evu, evf, implies_true, reduceCtorEq, Nat.reduceEqDiff, ↓reduceIte, Nat.reduceAdd, Nat.reduceLeDiff, Nat.reduceLT, Nat.reduceMul, Int.reduceLT, Int.reduceLE, Int.reduceToNat, evz, hb]
    refine MSpec.of (copy_call _ l hl.1 hl.2.1) ?_
    simp only [↓evd, evu, evf, implies_true, reduceCtorEq, Nat.reduceEqDiff, ↓reduceIte, Nat.reduceAdd, Nat.reduceLeDiff, Nat.reduceLT, Nat.reduceMul, Int.reduceLT, Int.reduceLE, Int.reduceToNat, evz]
    rw [upon, if_neg h0]
    exact seen rfl rfl rfl
  have hb : (check (atomsText rev u l) cs != 0) = false := by simpa using h0
  have hz := check_zero h0
  have hm0 : (0 : Int) ≤ (l.length : Int) := by omega
  have hm2 : l.length * 64 ≤ maxRoom := by omega
  have hm4 : l.length ≤ maxRoom := by omega
  have hm3 : (l.length : Int) ≤ 2 ^ 62 := by omega
  simp only [↓evd, evu, evf, implies_true, reduceCtorEq, Nat.reduceEqDiff, ↓reduceIte, Nat.reduceAdd, Nat.reduceLeDiff, Nat.reduceLT, Nat.reduceMul, Int.reduceLT, Int.reduceLE, Int.reduceToNat, evz, hb]
  refine x_seq mixed ?_
  simp only [↓evd, evu, evf, implies_true, reduceCtorEq, Nat.reduceEqDiff, ↓reduceIte, Nat.reduceAdd, Nat.reduceLeDiff, Nat.reduceLT, Nat.reduceMul, Int.reduceLT, Int.reduceLE, Int.reduceToNat, evz]
  simp only [↓evd, evu, evf, implies_true, reduceCtorEq, Nat.reduceEqDiff, ↓reduceIte, Nat.reduceAdd, Nat.reduceLeDiff, Nat.reduceLT, Nat.reduceMul, Int.reduceLT, Int.reduceLE, Int.reduceToNat, evz, hm0, hm2, hm3]
  refine x_seq mixed ?_
  simp only [↓evd, evu, evf, implies_true, reduceCtorEq, Nat.reduceEqDiff, ↓reduceIte, Nat.reduceAdd, Nat.reduceLeDiff, Nat.reduceLT, Nat.reduceMul, Int.reduceLT, Int.reduceLE, Int.reduceToNat, evz]
  simp only [↓evd, evu, evf, implies_true, reduceCtorEq, Nat.reduceEqDiff, ↓reduceIte, Nat.reduceAdd, Nat.reduceLeDiff, Nat.reduceLT, Nat.reduceMul, Int.reduceLT, Int.reduceLE, Int.reduceToNat, evz, hm0, hm4, hm3]
  refine x_seq mixed ?_
  simp only [↓evd, evu, evf, implies_true, reduceCtorEq, Nat.reduceEqDiff, ↓reduceIte, Nat.reduceAdd, Nat.reduceLeDiff, Nat.reduceLT, Nat.reduceMul, Int.reduceLT, Int.reduceLE, Int.reduceToNat, evz]
  refine MSpec.of (cuts_call _ l rev u cs hu hl hcl hc') ?_
  have hctl := cuts_len l rev u cs
  have hctn := fun x => cuts_lt (l := l) (rev := rev) (u := u) (cs := cs) (x := x)
  have hup : upon l rev u cs rev' group rank = merged (fun t => newAtoms rev' group rank (ptsOf t)) (marked (cuts l rev u cs) ⟨rev', group⟩ l 0) ((spotsN l rev u cs rank).zip (cs.map Chg.text)) 0 := if_pos h0
  rw [hup]
  have hspe := spots_eq rank h0
  obtain ⟨hsp1, hsp2⟩ := spotsN_sorted rank h0
  rw [hspe]
  generalize cuts l rev u cs = ct at hctl hctn
  simp only [↓evd, evu, evf, implies_true, reduceCtorEq, Nat.reduceEqDiff, ↓reduceIte, Nat.reduceAdd, Nat.reduceLeDiff, Nat.reduceLT, Nat.reduceMul, Int.reduceLT, Int.reduceLE, Int.reduceToNat, evz]
  have hc0 : ((List.replicate l.length [AVal.str [], AVal.int IntKind.i64 0, AVal.int IntKind.i64 0, AVal.int IntKind.i64 0, AVal.nils]).flatten).length = l.length * 5 := by
    exact repl_len l.length _
  generalize (List.replicate l.length [AVal.str [], AVal.int IntKind.i64 0, AVal.int IntKind.i64 0, AVal.int IntKind.i64 0, AVal.nils]).flatten = cs0 at hc0
  refine awp_loop (fun m fr τ => ∃ i, m + i = ct.length ∧ fr.get 0 = eAtoms l ∧ fr.get 3 = eChgs cs ∧ fr.get 4 = .int .i64 rev' ∧ fr.get 5 = .int .i64 group ∧ fr.get 6 = .int .i64 rank ∧ fr.get 15 = ints ((spotsN l rev u cs rank).map fun n : Nat => (n : Int)) ∧ fr.get 16 = .slc (.new 0) 0 0 (.ex l.length) ∧ fr.get 17 = .slc (.new 1) 0 l.length (.ex l.length) ∧ fr.get 50 = ints ct ∧ fr.get 51 = .int .i64 ct.length ∧ fr.get 52 = .int .i64 (i : Nat) ∧
    τ.get 0 = some (.cells cs0 none) ∧ τ.get 1 = some (.cells (bitRow l.length fun k => decide ((k : Int) ∈ ct.take i)) none) ∧ 1 < τ.next ∧ τ.W = W ∧ τ.F0 = F) ?_ (m := ct.length) ?_
  · rintro m fr τ ⟨i, hi, e0, e3, e4, e5, e6, e15, e16, e17, e50, e51, e52, hb0, hb1, hn, hW, hF⟩
    by_cases hlt : i < ct.length
    · have hlt' : (i : Int) < (ct.length : Int) := by omega
      have hw := wrap_succ (i := i) (by omega)
      have hg := map_get (AVal.int .i64 ·) ct i hlt
      have t1 := List.take_succ_eq_append_getElem hlt
      obtain ⟨j, hj1, hj2⟩ := hctn _ (List.getElem_mem hlt)
      generalize ct[i] = x at hg t1 hj1
      subst hj1
      have hj' : (j : Int) < (l.length : Int) := by omega
      have hle : decide (j + 1 ≤ l.length) = true := by simp; omega
      have hset := bitRow_set (n := l.length) (j := j) (fun k => decide ((k : Int) ∈ ct.take i)) true hj2
      have hcg : bitRow l.length (fun k => if k = j then true else decide ((k : Int) ∈ ct.take i)) = bitRow l.length fun k => decide ((k : Int) ∈ ct.take (i + 1)) := bitRow_congr fun k _ => by
        rw [t1]
        by_cases e : k = j
        · subst e; simp
        · have e' : ¬ (k : Int) = (j : Int) := by omega
          simp [e, e']
      rw [hcg] at hset
      simp only [↓evd, evu, evf, implies_true, reduceCtorEq, Nat.reduceEqDiff, ↓reduceIte, Nat.reduceAdd, Nat.reduceLeDiff, Nat.reduceLT, Nat.reduceMul, Int.reduceLT, Int.reduceLE, Int.reduceToNat, evz, e0, e3, e4, e5, e6, e15, e16, e17, e50, e51, e52, hlt', hg, hj', hb1, bitRow_len, hle, hset, hw]
      exact ⟨m - 1, by omega, i + 1, by omega, rfl, hb0, rfl, hn, hW, hF⟩
    · have hlt' : ¬ (i : Int) < (ct.length : Int) := by omega
      rw [List.take_of_length_le (by omega)] at hb1
      simp only [↓evd, evu, evf, implies_true, reduceCtorEq, Nat.reduceEqDiff, ↓reduceIte, Nat.reduceAdd, Nat.reduceLeDiff, Nat.reduceLT, Nat.reduceMul, Int.reduceLT, Int.reduceLE, Int.reduceToNat, evz, e0, e3, e4, e5, e6, e15, e16, e17, e50, e51, e52, hlt']
      clear e50 e51 e52 hlt hlt' hi
      refine x_seq mixed ?_
      simp only [↓evd, evu, evf, implies_true, reduceCtorEq, Nat.reduceEqDiff, ↓reduceIte, Nat.reduceAdd, Nat.reduceLeDiff, Nat.reduceLT, Nat.reduceMul, Int.reduceLT, Int.reduceLE, Int.reduceToNat, evz]
      simp only [↓evd, evu, evf, implies_true, reduceCtorEq, Nat.reduceEqDiff, ↓reduceIte, Nat.reduceAdd, Nat.reduceLeDiff, Nat.reduceLT, Nat.reduceMul, Int.reduceLT, Int.reduceLE, Int.reduceToNat, evz, e0, hm0, hm2, hm3]
      refine x_seq mixed ?_
      simp only [↓evd, evu, evf, implies_true, reduceCtorEq, Nat.reduceEqDiff, ↓reduceIte, Nat.reduceAdd, Nat.reduceLeDiff, Nat.reduceLT, Nat.reduceMul, Int.reduceLT, Int.reduceLE, Int.reduceToNat, evz]
      simp only [↓evd, evu, evf, implies_true, reduceCtorEq, Nat.reduceEqDiff, ↓reduceIte, Nat.reduceAdd, Nat.reduceLeDiff, Nat.reduceLT, Nat.reduceMul, Int.reduceLT, Int.reduceLE, Int.reduceToNat, evz, e0]
      have hc1 : ((List.replicate l.length [AVal.str [], AVal.int IntKind.i64 0, AVal.int IntKind.i64 0, AVal.int IntKind.i64 0, AVal.nils]).flatten).length = l.length * 5 := by
        exact repl_len l.length _
      generalize (List.replicate l.length [AVal.str [], AVal.int IntKind.i64 0, AVal.int IntKind.i64 0, AVal.int IntKind.i64 0, AVal.nils]).flatten = cs1 at hc1
      refine (copy_own (τ.new (.cells cs1 none)) l hl.1 hl.2.1).mono ?_
      rintro v ρ ⟨rfl, hK, hn1, zs, hA⟩
      simp only [Heap.new_next] at hA hn1
      have hgt : ρ.get τ.next = some (.cells cs1 none) := by rw [hK.get (by simp), Heap.get_new, if_pos rfl]
      obtain ⟨ρ1, g1, g2, g3, g4, g5, g6⟩ := copy_slc (ca := .ex l.length) (cb := .ex l.length) (by omega) hgt hA.blk hc1 (flatR_len hA.len) (flatR_cell hA.cell)
      have hA1 := hA.copied (K' := τ.next) (by omega) g2 (by omega) g6
      have hW1 : ρ1.W = W := g3.trans (hK.1.trans hW)
      have hF1 : ρ1.F0 = F := g4.trans (hK.2.1.trans hF)
      have hb0' : ρ1.get 0 = some (.cells cs0 none) := by rw [g6 0 (by omega), hK.get (by rw [Heap.new_next]; omega), Heap.get_new, if_neg (by omega)]; exact hb0
      have hb1' : ρ1.get 1 = some (.cells (bitRow l.length fun k => decide ((k : Int) ∈ ct)) none) := by rw [g6 1 (by omega), hK.get (by rw [Heap.new_next]; omega), Heap.get_new, if_neg (by omega)]; exact hb1
      simp only [↓evd, evu, evf, implies_true, reduceCtorEq, Nat.reduceEqDiff, ↓reduceIte, Nat.reduceAdd, Nat.reduceLeDiff, Nat.reduceLT, Nat.reduceMul, Int.reduceLT, Int.reduceLE, Int.reduceToNat, evz, e0, e3, e4, e5, e6, e15, e16, e17, g1]
      have hl5 : l.length ≤ 1000000 := hl.1
      have hBn : τ.next + 1 + 1 ≤ ρ1.next := by have := hK.2.2.1; simp at this; omega
      have hml : ∀ i, i ≤ l.length → (markTo ct ⟨rev', group⟩ l i).length = l.length := fun i h => markTo_len ct ⟨rev', group⟩ l h
      refine x_seq mixed ?_
      simp only [↓evd, evu, evf, implies_true, reduceCtorEq, Nat.reduceEqDiff, ↓reduceIte, Nat.reduceAdd, Nat.reduceLeDiff, Nat.reduceLT, Nat.reduceMul, Int.reduceLT, Int.reduceLE, Int.reduceToNat, evz]
      refine awp_loop (fun m fr ρ => ∃ i zs, m + i = l.length ∧ i ≤ l.length ∧ fr.get 3 = eChgs cs ∧ fr.get 4 = .int .i64 rev' ∧ fr.get 5 = .int .i64 group ∧ fr.get 6 = .int .i64 rank ∧ fr.get 15 = ints ((spotsN l rev u cs rank).map fun n : Nat => (n : Int)) ∧ fr.get 16 = .slc (.new 0) 0 0 (.ex l.length) ∧ fr.get 17 = .slc (.new 1) 0 l.length (.ex l.length) ∧ fr.get 20 = .slc (.new τ.next) 0 l.length (.ex l.length) ∧ fr.get 68 = .int .i64 l.length ∧ fr.get 69 = .int .i64 (i : Nat) ∧
        ρ.get 0 = some (.cells cs0 none) ∧ ρ.get 1 = some (.cells (bitRow l.length fun k => decide ((k : Int) ∈ ct)) none) ∧ AtomsOwn (τ.next + 1 + 1) ρ τ.next (markTo ct ⟨rev', group⟩ l i) zs (markTo ct ⟨rev', group⟩ l i).length ∧ τ.next + 1 + 1 ≤ ρ.next ∧ ρ.W = W ∧ ρ.F0 = F) ?_ (m := l.length) ?_
      · clear e0 e3 e4 e5 e6 e15 e16 e17 hb0' hb1' hA1 hBn hW1 hF1 hA g1 g2 g3 g4 g5 g6 hn1 hgt hK hb0 hb1 hW hF
        rintro m fr ρ ⟨i, zs, hi, hil, e3, e4, e5, e6, e15, e16, e17, e20, e68, e69, hb0, hb1, hA, hBn, hW, hF⟩
        by_cases hlt : i < l.length
        · have hlt' : (i : Int) < (l.length : Int) := by omega
          have hw := wrap_succ (i := i) (by omega)
          have hbit := bitRow_get (n := l.length) (fun k => decide ((k : Int) ∈ ct)) hlt
          by_cases hin : (i : Int) ∈ ct
          case neg =>
            simp only [↓evd, evu, evf, implies_true, reduceCtorEq, Nat.reduceEqDiff, ↓reduceIte, Nat.reduceAdd, Nat.reduceLeDiff, Nat.reduceLT, Nat.reduceMul, Int.reduceLT, Int.reduceLE, Int.reduceToNat, evz, e3, e4, e5, e6, e15, e16, e17, e20, e68, e69, hlt', hb1, hbit, not_mem_bool hin, hw]
            refine ⟨m - 1, by omega, i + 1, zs, by omega, by omega, rfl, hb0, ?_, hBn, hW, hF⟩
            rw [markTo_skip ct _ l hlt hin]; exact hA
          have hzl : i < zs.length := by rw [hA.len, hml i hil]; exact hlt
          have hgm := markTo_get ct ⟨rev', group⟩ l hlt
          have hz := List.getElem?_eq_getElem hzl
          have hown := hA.own i _ _ (by rw [hml i hil]; exact hlt) hgm hz
          have hcell : (flatR (markTo ct ⟨rev', group⟩ l i) zs)[i * 5 + 4]? = some zs[i] := by rw [flatR_get hA.len, hz]
          have hfl := flatR_len hA.len
          rw [hml i hil] at hfl
          have hblk := hA.blk
          have hca := hlc _ (List.getElem_mem hlt)
          obtain ⟨x', σ', g1, g2, g3, g4, g5, g6, g7⟩ := cut_app hown hBn (by omega) ⟨rev', group⟩
          have hmk := hA.mark hBn hgm hz g2 (Nat.le_of_lt g5) g6 g7
          have hms := markTo_succ ct ⟨rev', group⟩ l hlt
          rw [if_pos hin] at hms
          rw [← hms] at hmk
          have hB0 : ∀ q, q < τ.next → σ'.get q = ρ.get q := fun q hq => g6 q (by omega) fun hm => by have := (hown.low q hm).1; omega
          have hblk2 : σ'.get τ.next = some (.cells (flatR (markTo ct ⟨rev', group⟩ l i) zs) none) := by
            rw [g6 τ.next (by omega) (fun hm => by have := (hown.low _ hm).1; omega)]; exact hblk
          have hov := over_set (l := flatR (markTo ct ⟨rev', group⟩ l i) zs) (j := i * 5 + 4) (x := x') (by rw [hfl]; omega)
          rw [flatR_set hA.len] at hov
          have hle : decide (i * 5 + 4 + 1 ≤ (flatR (markTo ct ⟨rev', group⟩ l i) zs).length) = true := by rw [hfl]; simp; omega
          have hb0' : σ'.get 0 = some (.cells cs0 none) := by rw [hB0 0 (by omega)]; exact hb0
          have hb1' : σ'.get 1 = some (.cells (bitRow l.length fun k => decide ((k : Int) ∈ ct)) none) := by rw [hB0 1 (by omega)]; exact hb1
          have hW' : σ'.W = W := g3.trans hW
          have hF' : σ'.F0 = F := g4.trans hF
          have hn0 : (τ.next = 0) = False := eq_false (by omega)
          have hn1 : (τ.next = 1) = False := eq_false (by omega)
          have hsz := hown.cells
          have hsx := g2.cells
          generalize hzz : zs[i] = z at g1 hcell hsz
          rcases hsz with rfl | ⟨Kz, nz, capz, rfl, _⟩ <;> rcases hsx with rfl | ⟨Kx, nx, capx, rfl, _⟩
          all_goals
            simp only [↓evd, evu, evf, implies_true, reduceCtorEq, Nat.reduceEqDiff, ↓reduceIte, Nat.reduceAdd, Nat.reduceLeDiff, Nat.reduceLT, Nat.reduceMul, Int.reduceLT, Int.reduceLE, Int.reduceToNat, evz, e3, e4, e5, e6, e15, e16, e17, e20, e68, e69, hlt', hb1, hbit, mem_bool hin, hblk, hcell, g1, hblk2, hle, hov, hw, hn0, hn1]
            exact ⟨m - 1, by omega, i + 1, _, by omega, by omega, rfl, hb0', hb1', hmk, by omega, hW', hF'⟩
        · have hlt' : ¬ (i : Int) < (l.length : Int) := by omega
          simp only [↓evd, evu, evf, implies_true, reduceCtorEq, Nat.reduceEqDiff, ↓reduceIte, Nat.reduceAdd, Nat.reduceLeDiff, Nat.reduceLT, Nat.reduceMul, Int.reduceLT, Int.reduceLE, Int.reduceToNat, evz, e3, e4, e5, e6, e15, e16, e17, e20, e68, e69, hlt']
          have hii : i = l.length := by omega
          subst hii
          rw [markTo_all] at hA
          obtain ⟨ρ2, s1, s2, s3, s4, s5, s6⟩ := hA.sees (n := l.length) (cap := .ex l.length)
          have hb0' : ρ2.get 0 = some (.cells cs0 none) := by rw [s6 0 (by omega) (by omega)]; exact hb0
          have hW2 : ρ2.W = W := s3.trans hW
          have hF2 : ρ2.F0 = F := s4.trans hF
          refine x_freeze (FSees.reg (t := 20) (by decide) (by simp only [↓evd, evu, evf, implies_true, reduceCtorEq, Nat.reduceEqDiff, ↓reduceIte, Nat.reduceAdd, Nat.reduceLeDiff, Nat.reduceLT, Nat.reduceMul, Int.reduceLT, Int.reduceLE, Int.reduceToNat, evz, e20]) s1) ?_
          refine x_of_awp mixed ?_
          clear hA s1 s3 s4 s6 hb0 hb1 hW hF
          have hml2 := marked_len ct ⟨rev', group⟩ l 0
          generalize marked ct ⟨rev', group⟩ l 0 = mk at s2 hml2
          have hsn := hsp2
          have hss := hsp1
          have hcs8 : cs.length ≤ 8 := hz.2.1
          have hval := hz.2.2.2.2.2.1
          have hspl : (spotsN l rev u cs rank).length = cs.length := by simp [spotsN]
          generalize spotsN l rev u cs rank = sp at hsn hss hspl e15 ⊢
          have hmr : ∀ z ∈ mk.map eAtom, z.cells.length = 5 := atoms_row mk
          have hml3 : (mk.map eAtom).length = l.length := by rw [List.length_map, hml2]
          have hK0 : τ.next ≠ 0 := by omega
          have hn2 : τ.next + 1 + 1 ≤ ρ2.next := by rw [s5]; exact hBn
          have hR0 : Row 0 ρ2 t_Atom 5 (.slc (.new 0) 0 0 (.ex l.length)) (([] : List Atom).map eAtom) := ⟨(fun _ h => nomatch h), .inr ⟨0, _, cs0, none, rfl, hb0', rfl, Nat.le_refl _, by omega, .inr ⟨l.length, rfl, Nat.zero_le _, hc0⟩⟩⟩
          clear hb0' s5 hBn e17 e68 e69 hlt hlt' hi hil hctl hctn hup hspe hsp1 hsp2
          simp only [↓evd, evu, evf, implies_true, reduceCtorEq, Nat.reduceEqDiff, ↓reduceIte, Nat.reduceAdd, Nat.reduceLeDiff, Nat.reduceLT, Nat.reduceMul, Int.reduceLT, Int.reduceLE, Int.reduceToNat, evz, e3, e4, e5, e6, e15, e16, e20]
          refine awp_loop (fun m fr ρ => ∃ i at' acc, m + i = cs.length ∧ fr.get 4 = .int .i64 rev' ∧ fr.get 5 = .int .i64 group ∧ fr.get 6 = .int .i64 rank ∧ fr.get 15 = ints (sp.map fun n : Nat => (n : Int)) ∧ fr.get 20 = .slc (.new τ.next) 0 l.length (.ex l.length) ∧ fr.get 22 = .int .i64 (at' : Nat) ∧ fr.get 91 = eChgs cs ∧ fr.get 92 = .int .i64 cs.length ∧ fr.get 93 = .int .i64 (i : Nat) ∧
            ρ.get τ.next = some (.cells ((mk.map eAtom).flatMap AVal.cells) none) ∧ Row 0 ρ t_Atom 5 (fr.get 16) (acc.map eAtom) ∧ (∀ K o n c, fr.get 16 = .slc (.new K) o n c → K ≠ τ.next) ∧ τ.next < ρ.next ∧
            acc ++ merged (fun t => newAtoms rev' group rank (ptsOf t)) mk ((sp.drop i).zip ((cs.drop i).map Chg.text)) at' = merged (fun t => newAtoms rev' group rank (ptsOf t)) mk (sp.zip (cs.map Chg.text)) 0 ∧ at' ≤ l.length ∧ (∀ k ∈ sp.drop i, at' ≤ k) ∧ acc.length ≤ at' + i * 1000000 ∧ ρ.W = W ∧ ρ.F0 = F) ?_ (m := cs.length) ?_
          · clear e3 e4 e5 e6 e15 e16 e20 hR0 s2 hn2 hW2 hF2
            rintro m fr ρ ⟨i, at', acc, hi, e4, e5, e6, e15, e20, e22, e91, e92, e93, hblk, hR, hne, hnx, hmg, hat, hge, hal, hW, hF⟩
            by_cases hlt : i < cs.length
            · have hlt' : (i : Int) < (cs.length : Int) := by omega
              have hw := wrap_succ (i := i) (by omega)
              have hg := map_get eChg cs i hlt
              have hlts : i < sp.length := by omega
              have hltm : i < (sp.map fun n : Nat => (n : Int)).length := by simp; omega
              have hlt2 : (i : Int) < ((sp.map fun n : Nat => (n : Int)).length : Int) := by omega
              have hg2 := map_get (AVal.int .i64 ·) (sp.map fun n : Nat => (n : Int)) i hltm
              rw [List.getElem_map] at hg2
              rw [List.drop_eq_getElem_cons hlt, List.drop_eq_getElem_cons hlts, List.map_cons, List.zip_cons_cons, merged_cons] at hmg
              rw [List.drop_eq_getElem_cons hlts] at hge
              have hk1 : at' ≤ sp[i] := hge _ (List.mem_cons_self ..)
              have hk2 : sp[i] ≤ l.length := hsn _ (List.getElem_mem hlts)
              have hk3 : ∀ k ∈ sp.drop (i + 1), sp[i] ≤ k := by
                have := hss.sublist (List.drop_sublist i sp)
                rw [List.drop_eq_getElem_cons hlts] at this
                exact fun k hk => List.rel_of_pairwise_cons this hk
              have hcv := hval _ (List.getElem_mem hlt)
              have hct := hc _ (List.getElem_mem hlt)
              generalize cs[i] = c at hg hmg hcv hct
              generalize sp[i] = k at hg2 hmg hk1 hk2 hk3
              obtain ⟨ps, hps⟩ : ∃ ps, pts c.text = some ps := Option.isSome_iff_exists.1 hcv
              have hpl := pts_len _ _ ps (Nat.le_refl _) hps
              have hptsOf : ptsOf c.text = ps := by simp only [ptsOf, hps, Option.getD_some]
              simp only [hptsOf] at hmg
              have hR1 := Row.var hR (.cells [.int .i64 0, .int .i64 0, .str []] none) (.cells [.int .i64 c.frm, .int .i64 c.to, .str c.text] none)
              have hblk1 : ((ρ.new (.cells [.int .i64 0, .int .i64 0, .str []] none)).set ρ.next (.cells [.int .i64 c.frm, .int .i64 c.to, .str c.text] none)).get τ.next = some (.cells ((mk.map eAtom).flatMap AVal.cells) none) := by
                rw [Heap.get_set, if_neg (by omega), Heap.get_new, if_neg (by omega)]; exact hblk
              obtain ⟨q1, _, q3, q4⟩ := src_part hblk1 hmr hml3 hk1 hk2
              have hys : ∀ z ∈ ((mk.map eAtom).take k).drop at', z.cells.length = 5 := fun z hz => hmr z (List.mem_of_mem_take (List.mem_of_mem_drop hz))
              have hyc : ((((mk.map eAtom).take k).drop at').flatMap AVal.cells).all AVal.isCell = true := by
                rw [← List.map_take, ← List.map_drop]; exact atoms_cell _
              have hpl1 : (((mk.map eAtom).take k).drop at').length = k - at' := by simp [hml2]; omega
              obtain ⟨x1, ρ1, a1, a2, a3, a4, a5⟩ := row_app2 (bytes := 64) hR1 (Nat.zero_le _) q3 q4 hys hyc (by omega) (by omega) (by rw [hpl1, List.length_map]; omega)
              have hput := put_call ρ1 c.text rev' group rank ps hct hps
              have hsrc := src_fsl ρ1 5 ((newAtoms rev' group rank ps).map eAtom)
              obtain ⟨x2, ρ2', b1, b2, b3, b4, b5⟩ := row_app2 (bytes := 64) a2 (Nat.zero_le _) hsrc.1 hsrc.2 (atoms_row _) (atoms_cell _) (by omega) (by omega) (by rw [List.length_append, hpl1, List.length_map, List.length_map]; simp only [newAtoms, List.length_map]; omega)
              have hN1 : ρ.next + 1 ≤ ρ1.next := by have := a3.2.2.1; simpa using this
              have hN2 := b3.2.2.1
              have hx1 : ∀ K o n c, x1 = .slc (.new K) o n c → K ≠ τ.next := fun K o n c' e => by
                rcases a5 K o n c' e with h | ⟨o', n', c'', h⟩
                · simp at h; omega
                · exact hne _ _ _ _ h
              have hx2 : ∀ K o n c, x2 = .slc (.new K) o n c → K ≠ τ.next := fun K o n c' e => by
                rcases b5 K o n c' e with h | ⟨o', n', c'', h⟩
                · omega
                · exact hx1 _ _ _ _ h
              have hcv1 : ρ1.get ρ.next = some (.cells [.int .i64 c.frm, .int .i64 c.to, .str c.text] none) := by
                rw [a4 ρ.next (by simp) (fun K o n c' e => by have := (hR.low e).2; omega), Heap.get_set, if_pos rfl]
              have hblk2 : ρ2'.get τ.next = some (.cells ((mk.map eAtom).flatMap AVal.cells) none) := by
                rw [b4 τ.next (by omega) (fun K o n c e => (hx1 K o n c e).symm), a4 τ.next (by simp; omega) (fun K o n c e => (hne K o n c e).symm)]; exact hblk1
              simp only [eAtoms] at hput
              simp only [↓evd, evu, evf, implies_true, reduceCtorEq, Nat.reduceEqDiff, ↓reduceIte, Nat.reduceAdd, Nat.reduceLeDiff, Nat.reduceLT, Nat.reduceMul, Int.reduceLT, Int.reduceLE, Int.reduceToNat, evz, e4, e5, e6, e15, e20, e22, e91, e92, e93, hlt', hg, hlt2, hg2, q1, a1, hcv1]
              refine MSpec.of hput ?_
              simp only [↓evd, evu, evf, implies_true, reduceCtorEq, Nat.reduceEqDiff, ↓reduceIte, Nat.reduceAdd, Nat.reduceLeDiff, Nat.reduceLT, Nat.reduceMul, Int.reduceLT, Int.reduceLE, Int.reduceToNat, evz, e4, e5, e6, e15, e20, e22, e91, e92, e93, b1, hlt2, hg2, hw]
              refine ⟨m - 1, by omega, i + 1, k, acc ++ (mk.take k).drop at' ++ newAtoms rev' group rank ps, by omega, rfl, rfl, hblk2, ?_, hx2, by omega, ?_, hk2, hk3, ?_, b3.1.trans (a3.1.trans hW), b3.2.1.trans (a3.2.1.trans hF)⟩
              · rw [List.map_append, List.map_append, List.map_drop, List.map_take]; exact b2
              · rw [← hmg]; simp only [List.append_assoc]
              · simp only [List.length_append, List.length_drop, List.length_take, newAtoms, List.length_map]; omega
            · have hlt' : ¬ (i : Int) < (cs.length : Int) := by omega
              rw [List.drop_eq_nil_of_le (show sp.length ≤ i by omega), List.zip_nil_left, merged] at hmg
              obtain ⟨_, q2, q3, q4⟩ := src_part hblk hmr hml3 hat (Nat.le_refl _)
              have q2 := q2 rfl
              rw [List.take_of_length_le (by omega)] at q3 q4
              have hys : ∀ z ∈ (mk.map eAtom).drop at', z.cells.length = 5 := fun z hz => hmr z (List.mem_of_mem_drop hz)
              have hyc : (((mk.map eAtom).drop at').flatMap AVal.cells).all AVal.isCell = true := by
                rw [← List.map_drop]; exact atoms_cell _
              obtain ⟨x1, ρ1, a1, a2, a3, a4, a5⟩ := row_app2 (bytes := 64) hR (Nat.zero_le _) q3 q4 hys hyc (by omega) (by omega) (by simp [hml2]; omega)
              simp only [↓evd, evu, evf, implies_true, reduceCtorEq, Nat.reduceEqDiff, ↓reduceIte, Nat.reduceAdd, Nat.reduceLeDiff, Nat.reduceLT, Nat.reduceMul, Int.reduceLT, Int.reduceLE, Int.reduceToNat, evz, e4, e5, e6, e15, e20, e22, e91, e92, e93, hlt', q2, a1]
              rw [← List.map_drop, ← List.map_append, hmg] at a2
              obtain ⟨ρ3, s1, s2, s3, _⟩ := Row.sees2 a2
              exact ⟨ρ3, s1, s2.trans (a3.1.trans hW), s3.trans (a3.2.1.trans hF)⟩
          · refine ⟨0, 0, [], by omega, ?_⟩
            simp only [↓evd, evu, evf, implies_true, reduceCtorEq, Nat.reduceEqDiff, ↓reduceIte, Nat.reduceAdd, Nat.reduceLeDiff, Nat.reduceLT, Nat.reduceMul, Int.reduceLT, Int.reduceLE, Int.reduceToNat, evz, e4, e5, e6, e15, e16, e20]
            refine ⟨s2, hR0, fun K o n c e => ?_, by omega, Nat.zero_le _, fun _ _ => Nat.zero_le _, hW2, hF2⟩
            cases e; omega
      · refine ⟨0, zs, by omega, Nat.zero_le _, ?_⟩
        simp only [↓evd, evu, evf, implies_true, reduceCtorEq, Nat.reduceEqDiff, ↓reduceIte, Nat.reduceAdd, Nat.reduceLeDiff, Nat.reduceLT, Nat.reduceMul, Int.reduceLT, Int.reduceLE, Int.reduceToNat, evz, e0, e3, e4, e5, e6, e15, e16, e17]
        exact ⟨hb0', hb1', hA1, hBn, hW1, hF1⟩
  · refine ⟨0, by omega, ?_⟩
    simp only [↓evd, evu, evf, implies_true, reduceCtorEq, Nat.reduceEqDiff, ↓reduceIte, Nat.reduceAdd, Nat.reduceLeDiff, Nat.reduceLT, Nat.reduceMul, Int.reduceLT, Int.reduceLE, Int.reduceToNat, evz]
    simp only [falses_row, List.take_zero, List.not_mem_nil, decide_false]
end Go.Proofs.YtcchmmjjfglpgaaGreat.M
set_option linter.unusedSimpArgs false
set_option linter.unusedVariables false
set_option maxRecDepth 100000
namespace Go.Proofs.YtcchmmjjfglpgaaGreat.M
open Go Go.Mini
/-! ### Code points by themselves -/
/-- these bytes are just one code point -/
def IsCP (p : List UInt8) : Prop := p ≠ [] ∧ (pt p).2 = p.length
theorem conts_app : ∀ (k v : Nat) (r t : List UInt8) (x : Nat), conts v k r = some x → conts v k (r ++ t) = some x
  | 0, v, r, t, x, h => h
  | k + 1, v, [], t, x, h => by simp [conts] at h
  | k + 1, v, b :: r, t, x, h => by
    simp only [List.cons_append, conts] at h ⊢
    split at h
    · rename_i hb; rw [if_pos hb]; exact conts_app k _ r t x h
    · cases h
theorem ptN_app {v n least : Nat} {r t : List UInt8} (h : (ptN v n least r).2 ≠ 0) : ptN v n least (r ++ t) = ptN v n least r := by
  unfold ptN at h ⊢
  split at h
  · rename_i x hx; rw [conts_app _ _ _ t _ hx]
  · simp at h
theorem pt_app {r t : List UInt8} (h : (pt r).2 ≠ 0) : pt (r ++ t) = pt r := by
  cases r with
  | nil => simp [pt] at h
  | cons a r =>
    simp only [List.cons_append]
    rw [pt] at h
    rw [pt, pt]
    split at h
    · rename_i h1; rw [if_pos h1, if_pos h1]
    · rename_i h1; rw [if_neg h1, if_neg h1]
      split at h
      · rename_i h2; rw [if_pos h2, if_pos h2, ptN_app h]
      · rename_i h2; rw [if_neg h2, if_neg h2]
        split at h
        · rename_i h3; rw [if_pos h3, if_pos h3, ptN_app h]
        · rename_i h3; rw [if_neg h3, if_neg h3]
          split at h
          · rename_i h4; rw [if_pos h4, if_pos h4, ptN_app h]
          · simp at h
theorem IsCP.ne0 {p : List UInt8} (h : IsCP p) : (pt p).2 ≠ 0 := by
  rw [h.2]; exact fun e => h.1 (List.eq_nil_of_length_eq_zero e)
theorem take_cp {r : List UInt8} (h : (pt r).2 ≠ 0) : IsCP (r.take (pt r).2) := by
  have key : pt (r.take (pt r).2) = pt r := by
    rcases pt_shapes h with ⟨a, t, rfl, h1, e⟩ | ⟨a, b, t, x, rfl, h1, h2, h3, h4, h5, e⟩ | ⟨a, b, c, t, x, rfl, h1, h2, h3, h4, h5, h6, e⟩ | ⟨a, b, c, d, t, x, rfl, h1, h2, h3, h4, h5, h6, h7, e⟩
    · rw [e]; simp only [List.take_succ_cons, List.take_zero]; rw [pt, if_pos h1]
    · rw [e]; simp only [List.take_succ_cons, List.take_zero]
      have e' := e
      rw [pt] at e' ⊢
      rw [if_neg (by omega), if_pos h1] at e' ⊢
      rw [← e']
      simp only [ptN, conts]
    · rw [e]; simp only [List.take_succ_cons, List.take_zero]
      have e' := e
      rw [pt] at e' ⊢
      rw [if_neg (by omega), if_neg (by omega), if_pos h1] at e' ⊢
      rw [← e']
      simp only [ptN, conts]
    · rw [e]; simp only [List.take_succ_cons, List.take_zero]
      have e' := e
      rw [pt] at e' ⊢
      rw [if_neg (by omega), if_neg (by omega), if_neg (by omega), if_pos h1] at e' ⊢
      rw [← e']
      simp only [ptN, conts]
  have hle := pt_le r
  refine ⟨?_, by rw [key, List.length_take]; omega⟩
  intro e
  rw [e] at key
  rw [← key] at h
  simp [pt] at h
theorem pts_cp : ∀ (n : Nat) (s : List UInt8) (ps : List (List UInt8)), s.length ≤ n → pts s = some ps → s = ps.flatten ∧ ∀ p ∈ ps, IsCP p
  | 0, s, ps, h, hp => by
    have : s = [] := List.eq_nil_of_length_eq_zero (by omega)
    subst this; cases hp; simp
  | n + 1, s, ps, h, hp => by
    cases s with
    | nil => cases hp; simp
    | cons a r =>
      rw [pts_step (by simp)] at hp
      split at hp
      · cases hp
      · rename_i h0
        rw [Option.map_eq_some_iff] at hp
        obtain ⟨q, hq, rfl⟩ := hp
        obtain ⟨g1, g2⟩ := pts_cp n _ q (by rw [List.length_drop]; simp only [List.length_cons] at *; omega) hq
        refine ⟨?_, fun p hp => ?_⟩
        · rw [List.flatten_cons, ← g1, List.take_append_drop]
        · rcases List.mem_cons.1 hp with rfl | hp
          · exact take_cp h0
          · exact g2 p hp
theorem pts_app {p t : List UInt8} (h : IsCP p) : pts (p ++ t) = (pts t).map (p :: ·) := by
  rw [pts_step (by intro e; exact h.1 (List.append_eq_nil_iff.1 e).1), pt_app h.ne0, if_neg h.ne0, h.2, List.drop_left, List.take_left]
theorem pts_flat : ∀ {ps : List (List UInt8)}, (∀ p ∈ ps, IsCP p) → pts ps.flatten = some ps
  | [], _ => rfl
  | p :: ps, h => by
    rw [List.flatten_cons, pts_app (h p (by simp)), pts_flat fun q hq => h q (List.mem_cons_of_mem _ hq)]; rfl
theorem pts_one {p : List UInt8} (h : IsCP p) : pts p = some [p] := by
  have := pts_app (t := []) h
  rw [List.append_nil] at this
  rw [this]; rfl
theorem one_cp {p : List UInt8} (h : pts p = some [p]) : IsCP p := (pts_cp _ p [p] (Nat.le_refl _) h).2 p (by simp)
theorem cp_len {p : List UInt8} (h : IsCP p) : 1 ≤ p.length ∧ p.length ≤ 4 := by
  have h0 := h.ne0
  have h2 := h.2
  rcases pt_shapes h0 with ⟨a, t, rfl, h1, e⟩ | ⟨a, b, t, x, rfl, _, _, _, _, _, e⟩ | ⟨a, b, c, t, x, rfl, _, _, _, _, _, _, e⟩ | ⟨a, b, c, d, t, x, rfl, _, _, _, _, _, _, _, e⟩ <;> (rw [e] at h2; simp only [List.length_cons] at h2 ⊢; omega)
/-- the first byte of a code point begins it, no other one does -/
theorem cp_bytes {p : List UInt8} (h : IsCP p) : ∀ (i : Nat) (b : UInt8), p[i]? = some b → (b.toNat / 64 = 2 ↔ i ≠ 0) := by
  have h0 := h.ne0
  have h2 := h.2
  rcases pt_shapes h0 with ⟨a, t, rfl, h1, e⟩ | ⟨a, b, t, x, rfl, q1, q2, _, _, _, e⟩ | ⟨a, b, c, t, x, rfl, q1, q2, q3, _, _, _, e⟩ | ⟨a, b, c, d, t, x, rfl, q1, q2, q3, q4, _, _, _, e⟩
  all_goals
    rw [e] at h2
    simp at h2
    subst h2
    intro i y hy
  · rcases i with _ | i
    · simp at hy; subst hy; simp; omega
    · simp at hy
  · rcases i with _ | _ | i
    · simp at hy; subst hy; simp; omega
    · simp at hy; subst hy; simp; omega
    · simp at hy
  · rcases i with _ | _ | _ | i
    · simp at hy; subst hy; simp; omega
    · simp at hy; subst hy; simp; omega
    · simp at hy; subst hy; simp; omega
    · simp at hy
  · rcases i with _ | _ | _ | _ | i
    · simp at hy; subst hy; simp; omega
    · simp at hy; subst hy; simp; omega
    · simp at hy; subst hy; simp; omega
    · simp at hy; subst hy; simp; omega
    · simp at hy
theorem valid_iff {s : List UInt8} : valid s = true ↔ ∃ ps : List (List UInt8), s = ps.flatten ∧ ∀ p ∈ ps, IsCP p := by
  constructor
  · intro h
    obtain ⟨ps, hp⟩ := Option.isSome_iff_exists.1 h
    exact ⟨ps, pts_cp _ s ps (Nat.le_refl _) hp⟩
  · rintro ⟨ps, rfl, h⟩
    simp only [valid, pts_flat h, Option.isSome_some]
theorem valid_flat {ps : List (List UInt8)} (h : ∀ p ∈ ps, IsCP p) : valid ps.flatten = true := valid_iff.2 ⟨ps, rfl, h⟩
/-- the places at which a code point begins, or the text ends -/
theorem edge_flat {ps : List (List UInt8)} (h : ∀ p ∈ ps, IsCP p) (i : Int) : isEdge ps.flatten i = true ↔ ∃ j : Nat, j ≤ ps.length ∧ i = ((ps.take j).flatten.length : Nat) := by
  have key : ∀ (ps : List (List UInt8)), (∀ p ∈ ps, IsCP p) → ∀ n : Nat, n ≤ ps.flatten.length → ((n = ps.flatten.length ∨ ∃ b, ps.flatten[n]? = some b ∧ ¬ b.toNat / 64 = 2) ↔ ∃ j : Nat, j ≤ ps.length ∧ n = (ps.take j).flatten.length) := by
    intro ps
    induction ps with
    | nil => intro _ n hn; simp at hn; subst hn; simp
    | cons p ps ih =>
      intro h n hn
      have hp := h p (by simp)
      have hl := cp_len hp
      rw [List.flatten_cons, List.length_append] at hn
      rcases Nat.lt_or_ge n p.length with hlt | hge
      · constructor
        · rintro (e | ⟨b, hb, hb2⟩)
          · rw [List.flatten_cons, List.length_append] at e; omega
          · rw [List.flatten_cons, List.getElem?_append_left hlt] at hb
            have := cp_bytes hp n b hb
            have h0 : n = 0 := by
              rcases Nat.eq_zero_or_pos n with h | h
              · exact h
              · exact absurd (this.2 (by omega)) hb2
            exact ⟨0, Nat.zero_le _, by simp [h0]⟩
        · rintro ⟨j, hj, e⟩
          cases j with
          | zero =>
            simp at e; subst e
            have hg : p[0]? = some p[0] := List.getElem?_eq_getElem hlt
            refine .inr ⟨p[0], by rw [List.flatten_cons, List.getElem?_append_left hlt]; exact hg, fun hb => ?_⟩
            exact (cp_bytes hp 0 _ hg).1 hb rfl
          | succ j => rw [List.take_succ_cons, List.flatten_cons, List.length_append] at e; omega
      · obtain ⟨m, rfl⟩ : ∃ m, n = p.length + m := ⟨n - p.length, by omega⟩
        have hi := ih (fun q hq => h q (List.mem_cons_of_mem _ hq)) m (by omega)
        have e1 : (p.length + m = (p :: ps).flatten.length ∨ ∃ b, (p :: ps).flatten[p.length + m]? = some b ∧ ¬ b.toNat / 64 = 2) ↔ (m = ps.flatten.length ∨ ∃ b, ps.flatten[m]? = some b ∧ ¬ b.toNat / 64 = 2) := by
          rw [List.flatten_cons, List.length_append, List.getElem?_append_right (by omega), Nat.add_sub_cancel_left]
          constructor
          · rintro (h | h)
            · exact .inl (by omega)
            · exact .inr h
          · rintro (h | h)
            · exact .inl (by omega)
            · exact .inr h
        rw [e1, hi]
        constructor
        · rintro ⟨j, hj, e⟩
          exact ⟨j + 1, by simp only [List.length_cons]; omega, by rw [List.take_succ_cons, List.flatten_cons, List.length_append, e]⟩
        · rintro ⟨j, hj, e⟩
          cases j with
          | zero => rw [List.take_zero] at e; simp only [List.flatten_nil, List.length_nil] at e; omega
          | succ j =>
            rw [List.take_succ_cons, List.flatten_cons, List.length_append] at e
            exact ⟨j, by simp only [List.length_cons] at hj; omega, by omega⟩
  have hv := valid_flat h
  constructor
  · intro he
    simp only [isEdge, hv, Bool.and_true, Bool.and_eq_true, decide_eq_true_eq, Bool.or_eq_true] at he
    obtain ⟨⟨h1, h2⟩, h3⟩ := he
    have : ∃ j : Nat, j ≤ ps.length ∧ i.toNat = (ps.take j).flatten.length := by
      refine (key ps h i.toNat (by omega)).1 ?_
      rcases h3 with h3 | h3
      · exact .inl (by omega)
      · right
        split at h3
        · rename_i b hb; exact ⟨b, hb, by simpa using h3⟩
        · cases h3
    obtain ⟨j, hj, e⟩ := this
    exact ⟨j, hj, by omega⟩
  · rintro ⟨j, hj, rfl⟩
    have hle : (ps.take j).flatten.length ≤ ps.flatten.length := by
      have := congrArg List.length (show (ps.take j).flatten ++ (ps.drop j).flatten = ps.flatten by rw [← List.flatten_append, List.take_append_drop])
      rw [List.length_append] at this; omega
    simp only [isEdge, hv, Bool.and_true, Bool.and_eq_true, decide_eq_true_eq, Bool.or_eq_true]
    refine ⟨⟨by omega, by omega⟩, ?_⟩
    rcases (key ps h (ps.take j).flatten.length hle).2 ⟨j, hj, rfl⟩ with e | ⟨b, hb, hb2⟩
    · exact .inl (by omega)
    · right
      rw [Int.toNat_natCast, hb]
      simpa using hb2
end Go.Proofs.YtcchmmjjfglpgaaGreat.M
set_option linter.unusedSimpArgs false
set_option linter.unusedVariables false
set_option maxRecDepth 100000
namespace Go.Proofs.YtcchmmjjfglpgaaGreat.M
open Go Go.Mini
/-! ### Engines -/
structure Eng where
  l : List Atom
  R : Revs
def Eng.new : Eng := ⟨[], Revs.new⟩
structure Eng.Ok (E : Eng) : Prop where
  len : E.l.length ≤ 4000
  txt : ∀ a ∈ E.l, IsCP a.text
  cuts : ∀ a ∈ E.l, a.cuts.length ≤ E.R.head
theorem Eng.new_ok : Eng.new.Ok := ⟨by simp [Eng.new], by simp [Eng.new], by simp [Eng.new]⟩
/-- the text at a revision -/
def Eng.text (E : Eng) (rev : Int) : List UInt8 := atomsText rev (E.R.undone rev) E.l
/-- what an edit makes of an engine; the number; the error -/
def editE (E : Eng) (base group rank : Int) (cs : List Chg) : Eng × Int × Int :=
  if E.R.live base = false then (E, 0, 190) else
  if check (E.text base) cs ≠ 0 then (E, 0, check (E.text base) cs) else
  if (addR E.R group).2.2 ≠ 0 then (E, 0, (addR E.R group).2.2) else
  if rank < 0 ∨ 1000000 < rank then (E, 0, 10) else
  if 4000 < (upon E.l base (E.R.undone base) cs (addR E.R group).2.1 group rank).length then (E, 0, 70) else
  if 20000 < (Eng.text ⟨upon E.l base (E.R.undone base) cs (addR E.R group).2.1 group rank, (addR E.R group).1⟩ (addR E.R group).1.head).length then (E, 0, 13) else
  (⟨upon E.l base (E.R.undone base) cs (addR E.R group).2.1 group rank, (addR E.R group).1⟩, (addR E.R group).2.1, 0)
def toggleE (E : Eng) (g : Int) : Eng × Int × Int :=
  if (toggleR E.R g).2.2 ≠ 0 then (E, 0, (toggleR E.R g).2.2) else
  if 20000 < (Eng.text ⟨E.l, (toggleR E.R g).1⟩ (toggleR E.R g).1.head).length then (E, 0, 13) else
  (⟨E.l, (toggleR E.R g).1⟩, (toggleR E.R g).2.1, 0)
theorem fits_of {l : List Atom} {n : Nat} (h1 : l.length ≤ 4000) (h2 : ∀ a ∈ l, IsCP a.text) (h3 : ∀ a ∈ l, a.cuts.length ≤ n) (hn : n ≤ 1000000) : Fits l := by
  refine ⟨by omega, fun a ha => by have := h3 a ha; omega, ?_⟩
  have : (l.map fun a => a.text.length).sum ≤ l.length * 4 := by
    clear h1 h3
    induction l with
    | nil => simp
    | cons a l ih =>
      have h4 := (cp_len (h2 a (by simp))).2
      have := ih fun b hb => h2 b (List.mem_cons_of_mem _ hb)
      simp only [List.map_cons, List.sum_cons, List.length_cons]; omega
  unfold maxRoom; omega
theorem atomsText_le {l : List Atom} (rev : Int) (u : List Int) (h2 : ∀ a ∈ l, IsCP a.text) : (atomsText rev u l).length ≤ l.length * 4 := by
  induction l with
  | nil => simp [atomsText]
  | cons a l ih =>
    have h4 := (cp_len (h2 a (by simp))).2
    have := ih fun b hb => h2 b (List.mem_cons_of_mem _ hb)
    simp only [atomsText, List.length_append, List.length_cons]
    split <;> (try simp only [List.length_nil]) <;> omega
theorem mem_marked {ct : List Int} {c : Cut} {x : Atom} : ∀ {l : List Atom} {i : Nat}, x ∈ marked ct c l i → ∃ a ∈ l, x = a ∨ x = { a with cuts := a.cuts ++ [c] }
  | [], i, h => by simp [marked] at h
  | a :: l, i, h => by
    simp only [marked, List.mem_cons] at h
    rcases h with h | h
    · refine ⟨a, by simp, ?_⟩
      split at h
      · exact .inr h
      · exact .inl h
    · obtain ⟨b, hb, h⟩ := mem_marked h
      exact ⟨b, List.mem_cons_of_mem _ hb, h⟩
theorem mem_merged {new : List UInt8 → List Atom} {mk : List Atom} {x : Atom} : ∀ {r : List (Nat × List UInt8)} {at' : Nat}, x ∈ merged new mk r at' → x ∈ mk ∨ ∃ kt ∈ r, x ∈ new kt.2
  | [], at', h => .inl (List.mem_of_mem_drop (by simpa [merged] using h))
  | (k, t) :: r, at', h => by
    rw [merged_cons, List.mem_append, List.mem_append] at h
    rcases h with (h | h) | h
    · exact .inl (List.mem_of_mem_take (List.mem_of_mem_drop h))
    · exact .inr ⟨(k, t), by simp, h⟩
    · rcases mem_merged h with h | ⟨kt, hk, h⟩
      · exact .inl h
      · exact .inr ⟨kt, List.mem_cons_of_mem _ hk, h⟩
/-- the atoms behind an edit: those that were, some with one more cut; new ones -/
theorem mem_upon {l : List Atom} {rev : Int} {u : List Int} {cs : List Chg} {rev' group rank : Int} {x : Atom} (h : x ∈ upon l rev u cs rev' group rank) :
    (∃ a ∈ l, x = a ∨ x = { a with cuts := a.cuts ++ [⟨rev', group⟩] }) ∨ (∃ b, IsCP b ∧ x = ⟨b, rev', group, rank, []⟩) := by
  unfold upon at h
  split at h
  · rename_i h0
    rcases mem_merged h with h | ⟨kt, hk, h⟩
    · exact .inl (mem_marked h)
    · right
      simp only [newAtoms, List.mem_map] at h
      obtain ⟨b, hb, rfl⟩ := h
      refine ⟨b, ?_, rfl⟩
      cases hp : pts kt.2 with
      | none => rw [ptsOf, hp] at hb; cases hb
      | some ps => rw [ptsOf, hp] at hb; exact (pts_cp _ _ ps (Nat.le_refl _) hp).2 b hb
  · exact .inl ⟨x, h, .inl rfl⟩
theorem addR_ok {R : Revs} {g : Int} (h : (addR R g).2.2 = 0) (ho : R.Ok) : g ∉ R.gone ∧ 0 ≤ g ∧ g < 60 ∧ R.head < 200 ∧ addR R g = ({ R.push R.top with grp := insS g R.grp }, (R.head : Int) + 1, 0) ∧ (addR R g).1.head = R.head + 1 := by
  have hl := List.length_pos_iff.2 ho.one
  by_cases h1 : g ∈ R.gone ∨ g < 0 ∨ 60 ≤ g
  · rw [add_bad h1] at h; cases h
  · by_cases h2 : 200 ≤ R.head
    · rw [add_many (fun hg => h1 (.inl hg)) (by omega) (by omega) h2] at h; cases h
    · have e := add_good (R := R) (g := g) (fun hg => h1 (.inl hg)) (by omega) (by omega) (by omega)
      refine ⟨fun hg => h1 (.inl hg), by omega, by omega, by omega, e, ?_⟩
      rw [e]; simp only [Revs.head, Revs.push, List.length_append, List.length_cons, List.length_nil]; omega
theorem toggleR_ok {R : Revs} {g : Int} (h : (toggleR R g).2.2 = 0) (ho : R.Ok) : g ∈ R.grp ∧ R.head < 200 ∧ toggleR R g = (R.push (flip g R.top), (R.head : Int) + 1, 0) ∧ (toggleR R g).1.head = R.head + 1 := by
  have hl := List.length_pos_iff.2 ho.one
  by_cases h1 : g ∈ R.grp
  · by_cases h2 : 200 ≤ R.head
    · simp only [toggleR, if_neg (show ¬ g ∉ R.grp from fun h => h h1), if_pos h2] at h; cases h
    · have e := toggle_of h1 (show R.head < 200 by omega)
      refine ⟨h1, by omega, e, ?_⟩
      rw [e]; simp only [Revs.head, Revs.push, List.length_append, List.length_cons, List.length_nil]; omega
  · rw [toggle_bad h1] at h; cases h
theorem head_le {R : Revs} (h : R.Ok) : R.head ≤ 200 := by have := h.few; simp only [Revs.head]; omega
theorem Eng.Ok.fits {E : Eng} (h : E.Ok) (hR : E.R.Ok) : Fits E.l := fits_of h.len h.txt h.cuts (by have := head_le hR; omega)
theorem upon_facts {E : Eng} (h : E.Ok) {base group rank now : Int} {cs : List Chg} {u : List Int} : (∀ a ∈ upon E.l base u cs now group rank, IsCP a.text) ∧ ∀ a ∈ upon E.l base u cs now group rank, a.cuts.length ≤ E.R.head + 1 := by
  constructor <;> intro a ha <;> rcases mem_upon ha with ⟨b, hb, rfl | rfl⟩ | ⟨b, hb, rfl⟩
  · exact h.txt a hb
  · exact h.txt b hb
  · exact hb
  · have := h.cuts a hb; omega
  · have := h.cuts b hb; simp only [List.length_append, List.length_cons, List.length_nil]; omega
  · simp
theorem editE_ok {E : Eng} (h : E.Ok) (hR : E.R.Ok) (base group rank : Int) (cs : List Chg) : (editE E base group rank cs).1.Ok := by
  unfold editE
  split
  · exact h
  split
  · exact h
  split
  · exact h
  rename_i h3
  split
  · exact h
  split
  · exact h
  rename_i h5
  split
  · exact h
  have h3' : (addR E.R group).2.2 = 0 := by simpa using h3
  obtain ⟨_, _, _, _, e1, e2⟩ := addR_ok h3' hR
  obtain ⟨f1, f2⟩ := upon_facts h (base := base) (group := group) (rank := rank) (now := (addR E.R group).2.1) (cs := cs) (u := E.R.undone base)
  exact ⟨by simp only; omega, f1, fun a ha => by simp only [e2]; exact f2 a ha⟩
theorem toggleE_ok {E : Eng} (h : E.Ok) (hR : E.R.Ok) (g : Int) : (toggleE E g).1.Ok := by
  unfold toggleE
  split
  · exact h
  split
  · exact h
  rename_i h3 _
  have h3' : (toggleR E.R g).2.2 = 0 := by simpa using h3
  obtain ⟨_, _, e1, e2⟩ := toggleR_ok h3' hR
  exact ⟨h.len, h.txt, fun a ha => by have := h.cuts a ha; simp only [e2]; omega⟩
end Go.Proofs.YtcchmmjjfglpgaaGreat.M
set_option linter.unusedSimpArgs false
set_option linter.unusedVariables false
set_option maxRecDepth 100000
namespace Go.Proofs.YtcchmmjjfglpgaaGreat.M
open Go Go.Mini
attribute [local congr] go1_congr goM_congr goG_congr goV_congr drawwp_congr Xwp_congr
/-- atoms, as data or nil -/
def AtomLst (x : AVal) (l : List Atom) : Prop := x = eAtoms l ∨ (x = .nils ∧ l = [])
theorem AtomLst.sees {x : AVal} {l : List Atom} (h : AtomLst x l) (σ : Heap) : Sees σ x σ (eAtoms l) := by
  rcases h with rfl | ⟨rfl, rfl⟩
  · exact Sees.refl _ _
  · exact Sees.nils σ 5
theorem AtomLst.cells {x : AVal} {l : List Atom} (h : AtomLst x l) : x.cells = [x] ∧ x.isCell = true ∧ x.isRaw = false := by
  rcases h with rfl | ⟨rfl, rfl⟩ <;> exact ⟨rfl, rfl, rfl⟩
theorem SeesL.same (σ : Heap) : ∀ l : List AVal, SeesL σ l σ l
  | [] => .nil _
  | a :: l => .cons (Sees.refl _ _) (SeesL.same σ l)
/-- a function of atoms called with nil -/
theorem AtomLst.call {x : AVal} {l : List Atom} (h : AtomLst x l) {f : FuncId} {args : List AVal} {σ τ : Heap} {v : AVal} (hc : ACall Tryz.prog f (eAtoms l :: args) σ v τ) : ACall Tryz.prog f (x :: args) σ v τ := by
  rcases h with rfl | ⟨rfl, rfl⟩
  · exact hc
  · intro φ w vs hvs hr o a next Q hn
    obtain ⟨φ1, h1, h2, h3⟩ := SeesL.cons (Sees.nils σ 5) (SeesL.same σ args) φ w vs hvs hr
    exact hc φ1 w vs h2 h3 o a next Q fun φ' v' w' g1 g2 g3 => hn φ' v' w' (Phi.le_trans h1 g1) g2 g3
/-- an engine in block k -/
structure EngAt (σ : Heap) (k : Nat) (E : Eng) (x : AVal) (kr : Nat) (fpr : List Nat) : Prop where
  blk : σ.get k = some (.cells [x, .ptr (.new kr) 0] none)
  lst : AtomLst x E.l
  revs : IsRevs σ kr E.R fpr
  out : k ∉ fpr
  low : k < σ.next
  ok : E.Ok
def IsEng (σ : Heap) (k : Nat) (E : Eng) (fp : List Nat) : Prop := ∃ x kr fpr, EngAt σ k E x kr fpr ∧ fp = k :: fpr
theorem EngAt.keep {σ τ : Heap} {k : Nat} {E : Eng} {x : AVal} {kr : Nat} {fpr fp' : List Nat} (h : EngAt σ k E x kr fpr) (hk : Keep fp' σ τ) (hd : ∀ y ∈ k :: fpr, y ∉ fp') : EngAt τ k E x kr fpr where
  blk := by rw [hk.2.2.2 k h.low (hd k (by simp))]; exact h.blk
  lst := h.lst
  revs := h.revs.keep hk fun y hy => hd y (List.mem_cons_of_mem _ hy)
  out := h.out
  low := Nat.lt_of_lt_of_le h.low hk.2.2.1
  ok := h.ok
theorem IsEng.keep {σ τ : Heap} {k : Nat} {E : Eng} {fp fp' : List Nat} (h : IsEng σ k E fp) (hk : Keep fp' σ τ) (hd : ∀ y ∈ fp, y ∉ fp') : IsEng τ k E fp := by
  obtain ⟨x, kr, fpr, h, rfl⟩ := h
  exact ⟨x, kr, fpr, h.keep hk hd, rfl⟩
theorem IsEng.low {σ : Heap} {k : Nat} {E : Eng} {fp : List Nat} (h : IsEng σ k E fp) : ∀ x ∈ fp, x < σ.next := by
  obtain ⟨x, kr, fpr, h, rfl⟩ := h
  intro y hy
  rcases List.mem_cons.1 hy with rfl | hy
  · exact h.low
  · exact h.revs.low y hy
theorem IsEng.ok {σ : Heap} {k : Nat} {E : Eng} {fp : List Nat} (h : IsEng σ k E fp) : E.Ok ∧ E.R.Ok := by
  obtain ⟨x, kr, fpr, h, rfl⟩ := h
  exact ⟨h.ok, h.revs.ok⟩
theorem undone_rise {R : Revs} (h : R.Ok) (n : Int) : Rise (R.undone n) := by
  unfold Revs.undone
  split
  · unfold Revs.at
    cases he : R.und[(n - R.floor).toNat]? with
    | none => exact Rise.nil
    | some s => exact h.rise s (List.mem_of_getElem? he)
  · exact Rise.nil
theorem undone_few {R : Revs} (h : R.Ok) (n : Int) : (R.undone n).length ≤ 1000000 := by have := rise_len (undone_rise h n); omega
section
variable {σ : Heap} {k : Nat} {E : Eng} {fp : List Nat} {x : AVal} {kr : Nat} {fpr : List Nat}
theorem EngAt.head (h : EngAt σ k E x kr fpr) : ACall Tryz.prog n_engine_Engine_Head [.ptr (.new k) 0] σ (.int .i64 (E.R.head : Nat)) σ := by
  refine exact_call (spec_of_awp mixed c_engine_Engine_Head (Nat.le_of_ble_eq_true rfl) ?_)
  unfold f_engine_Engine_Head
  have hk := h.blk
  simp only [↓evd, evu, evf, implies_true, reduceCtorEq, Nat.reduceEqDiff, ↓reduceIte, Nat.reduceAdd, Nat.reduceLeDiff, Nat.reduceLT, Nat.reduceMul, Int.reduceLT, Int.reduceLE, Int.reduceToNat, evz, hk]
  refine MSpec.of (head_at h.revs) ?_
  simp only [↓evd, evu, evf, implies_true, reduceCtorEq, Nat.reduceEqDiff, ↓reduceIte, Nat.reduceAdd, Nat.reduceLeDiff, Nat.reduceLT, Nat.reduceMul, Int.reduceLT, Int.reduceLE, Int.reduceToNat, evz]
theorem EngAt.live (h : EngAt σ k E x kr fpr) (n : Int) : ACall Tryz.prog n_engine_Engine_Live [.ptr (.new k) 0, .int .i64 n] σ (.bool (E.R.live n)) σ := by
  refine exact_call (spec_of_awp mixed c_engine_Engine_Live (Nat.le_of_ble_eq_true rfl) ?_)
  unfold f_engine_Engine_Live
  have hk := h.blk
  simp only [↓evd, evu, evf, implies_true, reduceCtorEq, Nat.reduceEqDiff, ↓reduceIte, Nat.reduceAdd, Nat.reduceLeDiff, Nat.reduceLT, Nat.reduceMul, Int.reduceLT, Int.reduceLE, Int.reduceToNat, evz, hk]
  refine MSpec.of (live_at h.revs n) ?_
  simp only [↓evd, evu, evf, implies_true, reduceCtorEq, Nat.reduceEqDiff, ↓reduceIte, Nat.reduceAdd, Nat.reduceLeDiff, Nat.reduceLT, Nat.reduceMul, Int.reduceLT, Int.reduceLE, Int.reduceToNat, evz]
theorem EngAt.undoneAt (h : EngAt σ k E x kr fpr) (n : Int) : ACall Tryz.prog n_engine_Engine_UndoneAt [.ptr (.new k) 0, .int .i64 n] σ (ints (E.R.undone n)) σ := by
  refine exact_call (spec_of_awp mixed c_engine_Engine_UndoneAt (Nat.le_of_ble_eq_true rfl) ?_)
  unfold f_engine_Engine_UndoneAt
  have hk := h.blk
  simp only [↓evd, evu, evf, implies_true, reduceCtorEq, Nat.reduceEqDiff, ↓reduceIte, Nat.reduceAdd, Nat.reduceLeDiff, Nat.reduceLT, Nat.reduceMul, Int.reduceLT, Int.reduceLE, Int.reduceToNat, evz, hk]
  refine MSpec.of (undone_at h.revs n) ?_
  simp only [↓evd, evu, evf, implies_true, reduceCtorEq, Nat.reduceEqDiff, ↓reduceIte, Nat.reduceAdd, Nat.reduceLeDiff, Nat.reduceLT, Nat.reduceMul, Int.reduceLT, Int.reduceLE, Int.reduceToNat, evz]
theorem EngAt.undone (h : EngAt σ k E x kr fpr) : ACall Tryz.prog n_engine_Engine_Undone [.ptr (.new k) 0] σ (ints (E.R.undone (E.R.head : Nat))) σ := by
  refine exact_call (spec_of_awp mixed c_engine_Engine_Undone (Nat.le_of_ble_eq_true rfl) ?_)
  unfold f_engine_Engine_Undone
  have hk := h.blk
  simp only [↓evd, evu, evf, implies_true, reduceCtorEq, Nat.reduceEqDiff, ↓reduceIte, Nat.reduceAdd, Nat.reduceLeDiff, Nat.reduceLT, Nat.reduceMul, Int.reduceLT, Int.reduceLE, Int.reduceToNat, evz]
  with_reducible refine draw_of_grow (fun _ => True) (ms := [false, false, false, false, false, false, false, false]) (by kernel_rfl) ?_
  simp only [↓evd, evu, evf, implies_true, reduceCtorEq, Nat.reduceEqDiff, ↓reduceIte, Nat.reduceAdd, Nat.reduceLeDiff, Nat.reduceLT, Nat.reduceMul, Int.reduceLT, Int.reduceLE, Int.reduceToNat, evz, hk]
  refine MSpec.of h.head ⟨.inr Keeps.rfl, ?_⟩
  simp only [↓evd, evu, evf, implies_true, reduceCtorEq, Nat.reduceEqDiff, ↓reduceIte, Nat.reduceAdd, Nat.reduceLeDiff, Nat.reduceLT, Nat.reduceMul, Int.reduceLT, Int.reduceLE, Int.reduceToNat, evz, hk]
  refine MSpec.of (undone_at h.revs (E.R.head : Nat)) ⟨.inr Keeps.rfl, ?_⟩
  simp only [↓evd, evu, evf, implies_true, reduceCtorEq, Nat.reduceEqDiff, ↓reduceIte, Nat.reduceAdd, Nat.reduceLeDiff, Nat.reduceLT, Nat.reduceMul, Int.reduceLT, Int.reduceLE, Int.reduceToNat, evz]
theorem EngAt.groups (h : EngAt σ k E x kr fpr) : ACall Tryz.prog n_engine_Engine_Groups [.ptr (.new k) 0] σ (ints E.R.grp) σ := by
  refine exact_call (spec_of_awp mixed c_engine_Engine_Groups (Nat.le_of_ble_eq_true rfl) ?_)
  unfold f_engine_Engine_Groups
  have hk := h.blk
  simp only [↓evd, evu, evf, implies_true, reduceCtorEq, Nat.reduceEqDiff, ↓reduceIte, Nat.reduceAdd, Nat.reduceLeDiff, Nat.reduceLT, Nat.reduceMul, Int.reduceLT, Int.reduceLE, Int.reduceToNat, evz, hk]
  refine MSpec.of (groups_at h.revs) ?_
  simp only [↓evd, evu, evf, implies_true, reduceCtorEq, Nat.reduceEqDiff, ↓reduceIte, Nat.reduceAdd, Nat.reduceLeDiff, Nat.reduceLT, Nat.reduceMul, Int.reduceLT, Int.reduceLE, Int.reduceToNat, evz]
theorem EngAt.atoms (h : EngAt σ k E x kr fpr) : ACall Tryz.prog n_engine_Engine_Atoms [.ptr (.new k) 0] σ (eAtoms E.l) σ := by
  refine exact_call (spec_of_awp mixed c_engine_Engine_Atoms (Nat.le_of_ble_eq_true rfl) ?_)
  unfold f_engine_Engine_Atoms
  have hk := h.blk
  have hf := h.ok.fits h.revs.ok
  have hc := h.lst.call (copy_call σ E.l hf.1 hf.2.1)
  have hr := h.lst.cells.2.2
  simp only [eAtoms] at hc
  simp only [↓evd, evu, evf, implies_true, reduceCtorEq, Nat.reduceEqDiff, ↓reduceIte, Nat.reduceAdd, Nat.reduceLeDiff, Nat.reduceLT, Nat.reduceMul, Int.reduceLT, Int.reduceLE, Int.reduceToNat, evz, hk, hr]
  refine MSpec.of hc ?_
  simp only [↓evd, evu, evf, implies_true, reduceCtorEq, Nat.reduceEqDiff, ↓reduceIte, Nat.reduceAdd, Nat.reduceLeDiff, Nat.reduceLT, Nat.reduceMul, Int.reduceLT, Int.reduceLE, Int.reduceToNat, evz]
/-- the text at a revision, the error -/
def textV (E : Eng) (n : Int) : AVal := if E.R.live n then .tup [.str (E.text n), .int .i64 0] else .tup [.str [], .int .i64 190]
theorem EngAt.text (h : EngAt σ k E x kr fpr) (n : Int) : ACall Tryz.prog n_engine_Engine_Text [.ptr (.new k) 0, .int .i64 n] σ (textV E n) σ := by
  refine exact_call (spec_of_awp mixed c_engine_Engine_Text (Nat.le_of_ble_eq_true rfl) ?_)
  unfold f_engine_Engine_Text
  have hk := h.blk
  have hf := h.ok.fits h.revs.ok
  have hc := h.lst.call (text_call σ E.l n (E.R.undone n) (undone_few h.revs.ok n) hf)
  have hr := h.lst.cells.2.2
  have hu := h.undoneAt n
  simp only [ints] at hc hu
  simp only [↓evd, evu, evf, implies_true, reduceCtorEq, Nat.reduceEqDiff, ↓reduceIte, Nat.reduceAdd, Nat.reduceLeDiff, Nat.reduceLT, Nat.reduceMul, Int.reduceLT, Int.reduceLE, Int.reduceToNat, evz]
  refine MSpec.of (h.live n) ?_
  cases hl : E.R.live n with
  | false =>
    simp only [↓evd, evu, evf, implies_true, reduceCtorEq, Nat.reduceEqDiff, ↓reduceIte, Nat.reduceAdd, Nat.reduceLeDiff, Nat.reduceLT, Nat.reduceMul, Int.reduceLT, Int.reduceLE, Int.reduceToNat, evz, textV, hl]
  | true =>
    simp only [↓evd, evu, evf, implies_true, reduceCtorEq, Nat.reduceEqDiff, ↓reduceIte, Nat.reduceAdd, Nat.reduceLeDiff, Nat.reduceLT, Nat.reduceMul, Int.reduceLT, Int.reduceLE, Int.reduceToNat, evz]
    with_reducible refine draw_of_grow (fun _ => True) (ms := [false, false, false, false, false, false, false, false, false, false, false]) (by kernel_rfl) ?_
    simp only [↓evd, evu, evf, implies_true, reduceCtorEq, Nat.reduceEqDiff, ↓reduceIte, Nat.reduceAdd, Nat.reduceLeDiff, Nat.reduceLT, Nat.reduceMul, Int.reduceLT, Int.reduceLE, Int.reduceToNat, evz, hk, hr]
    refine MSpec.of hu ⟨.inr Keeps.rfl, ?_⟩
    simp only [↓evd, evu, evf, implies_true, reduceCtorEq, Nat.reduceEqDiff, ↓reduceIte, Nat.reduceAdd, Nat.reduceLeDiff, Nat.reduceLT, Nat.reduceMul, Int.reduceLT, Int.reduceLE, Int.reduceToNat, evz]
    refine MSpec.of hc ⟨.inr Keeps.rfl, ?_⟩
    simp only [↓evd, evu, evf, implies_true, reduceCtorEq, Nat.reduceEqDiff, ↓reduceIte, Nat.reduceAdd, Nat.reduceLeDiff, Nat.reduceLT, Nat.reduceMul, Int.reduceLT, Int.reduceLE, Int.reduceToNat, evz, textV, hl, Eng.text]
theorem Eng.live_head {E : Eng} (h : E.R.Ok) : E.R.live (E.R.head : Nat) = true := h.top.2.2
theorem EngAt.fitsC (h : EngAt σ k E x kr fpr) : ACall Tryz.prog n_engine_Engine_fits [.ptr (.new k) 0] σ (.bool (decide (((E.text (E.R.head : Nat)).length : Int) ≤ 20000))) σ := by
  refine exact_call (spec_of_awp mixed c_engine_Engine_fits (Nat.le_of_ble_eq_true rfl) ?_)
  unfold f_engine_Engine_fits
  have hl := Eng.live_head h.revs.ok
  have ht := h.text (E.R.head : Nat)
  rw [textV, if_pos hl] at ht
  simp only [↓evd, evu, evf, implies_true, reduceCtorEq, Nat.reduceEqDiff, ↓reduceIte, Nat.reduceAdd, Nat.reduceLeDiff, Nat.reduceLT, Nat.reduceMul, Int.reduceLT, Int.reduceLE, Int.reduceToNat, evz]
  refine MSpec.of h.head ?_
  simp only [↓evd, evu, evf, implies_true, reduceCtorEq, Nat.reduceEqDiff, ↓reduceIte, Nat.reduceAdd, Nat.reduceLeDiff, Nat.reduceLT, Nat.reduceMul, Int.reduceLT, Int.reduceLE, Int.reduceToNat, evz]
  refine MSpec.of ht ?_
  simp only [↓evd, evu, evf, implies_true, reduceCtorEq, Nat.reduceEqDiff, ↓reduceIte, Nat.reduceAdd, Nat.reduceLeDiff, Nat.reduceLT, Nat.reduceMul, Int.reduceLT, Int.reduceLE, Int.reduceToNat, evz]
end
theorem enew_at (σ : Heap) (hd : σ.F0.dr = false) : MSpec Tryz.prog n_engine_New [] σ fun v τ => ∃ k fp, v = .ptr (.new k) 0 ∧ IsEng τ k Eng.new fp ∧ (∀ x ∈ fp, σ.next ≤ x) ∧ Keep [] σ τ := by
  refine spec_of_awp mixed c_engine_New (Nat.le_of_ble_eq_true rfl) ?_
  unfold f_engine_New
  simp only [↓evd, evu, evf, implies_true, reduceCtorEq, Nat.reduceEqDiff, ↓reduceIte, Nat.reduceAdd, Nat.reduceLeDiff, Nat.reduceLT, Nat.reduceMul, Int.reduceLT, Int.reduceLE, Int.reduceToNat, evz]
  refine (new_at σ hd).mono ?_
  rintro v τ ⟨rfl, ⟨fp, hR, hf⟩, hk⟩
  simp only [↓evd, evu, evf, implies_true, reduceCtorEq, Nat.reduceEqDiff, ↓reduceIte, Nat.reduceAdd, Nat.reduceLeDiff, Nat.reduceLT, Nat.reduceMul, Int.reduceLT, Int.reduceLE, Int.reduceToNat, evz]
  have hkn : Keep [] τ (τ.new (.cells [.nils, .ptr (.new (σ.next + 4)) 0] none)) := (Keep.refl [] τ).new _
  refine ⟨_, _, rfl, ⟨.nils, σ.next + 4, fp, ⟨by rw [Heap.get_new, if_pos rfl], .inr ⟨rfl, rfl⟩, hR.keep hkn (fun x _ => by simp), fun hm => by have := hR.low _ hm; omega, by simp, Eng.new_ok⟩, rfl⟩, ?_, hk.trans hkn (fun x hx => nomatch hx)⟩
  intro y hy
  rcases List.mem_cons.1 hy with rfl | hy
  · exact hk.2.2.1
  · exact hf y hy
theorem ecopy_at {σ : Heap} {k : Nat} {E : Eng} {fp : List Nat} (h : IsEng σ k E fp) : MSpec Tryz.prog n_engine_Engine_Copy [.ptr (.new k) 0] σ fun v τ => ∃ k' kr' fpr', v = .ptr (.new k') 0 ∧ EngAt τ k' E (eAtoms E.l) kr' fpr' ∧ (∀ x ∈ k' :: fpr', σ.next ≤ x) ∧ Keep [] σ τ := by
  obtain ⟨x, kr, fpr, h, rfl⟩ := h
  refine spec_of_awp mixed c_engine_Engine_Copy (Nat.le_of_ble_eq_true rfl) ?_
  unfold f_engine_Engine_Copy
  have hk := h.blk
  have hkl := h.low
  have hf := h.ok.fits h.revs.ok
  have hc := h.lst.call (copy_call σ E.l hf.1 hf.2.1)
  have hr := h.lst.cells.2.2
  simp only [eAtoms] at hc
  simp only [↓evd, evu, evf, implies_true, reduceCtorEq, Nat.reduceEqDiff, ↓reduceIte, Nat.reduceAdd, Nat.reduceLeDiff, Nat.reduceLT, Nat.reduceMul, Int.reduceLT, Int.reduceLE, Int.reduceToNat, evz]
  with_reducible refine draw_of_grow (fun q => q < σ.next) (ms := [false, false, false, false, false, false, false, false, false, false, false, false, false]) (by kernel_rfl) ?_
  simp only [↓evd, evu, evf, implies_true, reduceCtorEq, Nat.reduceEqDiff, ↓reduceIte, Nat.reduceAdd, Nat.reduceLeDiff, Nat.reduceLT, Nat.reduceMul, Int.reduceLT, Int.reduceLE, Int.reduceToNat, evz, hk, hkl, hr]
  refine MSpec.of hc ⟨.inr Keeps.rfl, ?_⟩
  simp only [↓evd, evu, evf, implies_true, reduceCtorEq, Nat.reduceEqDiff, ↓reduceIte, Nat.reduceAdd, Nat.reduceLeDiff, Nat.reduceLT, Nat.reduceMul, Int.reduceLT, Int.reduceLE, Int.reduceToNat, evz, hk, hkl, hr]
  refine (copy_at h.revs).mono ?_
  rintro v τ ⟨rfl, ⟨fpr', hR, hf'⟩, hkk⟩
  refine ⟨.inr ⟨hkk.1, fun q hq => hkk.2.2.2 q hq (by simp)⟩, ?_⟩
  simp only [↓evd, evu, evf, implies_true, reduceCtorEq, Nat.reduceEqDiff, ↓reduceIte, Nat.reduceAdd, Nat.reduceLeDiff, Nat.reduceLT, Nat.reduceMul, Int.reduceLT, Int.reduceLE, Int.reduceToNat, evz]
  have hn := hkk.2.2.1
  refine ⟨.inr (keeps_new (fun q hq => by omega) _), ?_⟩
  simp only [↓evd, evu, evf, implies_true, reduceCtorEq, Nat.reduceEqDiff, ↓reduceIte, Nat.reduceAdd, Nat.reduceLeDiff, Nat.reduceLT, Nat.reduceMul, Int.reduceLT, Int.reduceLE, Int.reduceToNat, evz]
  have hkn : Keep [] τ (τ.new (.cells [eAtoms E.l, .ptr (.new (σ.next + 2)) 0] none)) := (Keep.refl [] τ).new _
  refine ⟨_, _, fpr', rfl, ⟨by rw [Heap.get_new, if_pos rfl], .inl rfl, hR.keep hkn (fun x _ => by simp), fun hm => by have := hR.low _ hm; omega, by simp, h.ok⟩, ?_, hkk.trans hkn (fun x hx => nomatch hx)⟩
  intro y hy
  rcases List.mem_cons.1 hy with rfl | hy
  · exact hn
  · exact hf' y hy
end Go.Proofs.YtcchmmjjfglpgaaGreat.M
set_option linter.unusedSimpArgs false
set_option linter.unusedVariables false
set_option maxRecDepth 100000
namespace Go.Proofs.YtcchmmjjfglpgaaGreat.M
open Go Go.Mini
attribute [local congr] go1_congr goM_congr goG_congr goV_congr drawwp_congr Xwp_congr
section
variable {σ : Heap} {k : Nat} {E : Eng} {fp : List Nat}
/-- an engine's block written anew from another engine's -/
theorem IsEng.took {τ : Heap} {kr' : Nat} {E' : Eng} {x : AVal} {fpr' : List Nat} (hk : k < τ.next) (hlow : ∀ y ∈ fpr', y < τ.next) (hx : AtomLst x E'.l) (hR : IsRevs τ kr' E'.R fpr') (hkf : k ∉ fpr') (hok : E'.Ok) :
    IsEng (τ.set k (.cells [x, .ptr (.new kr') 0] none)) k E' (k :: fpr') := by
  have hkn : Keep [k] τ (τ.set k (.cells [x, .ptr (.new kr') 0] none)) := (Keep.refl _ _).set (.inl (by simp)) _
  exact ⟨x, kr', fpr', ⟨by rw [Heap.get_set, if_pos rfl], hx, hR.keep hkn (fun y hy hm => by simp at hm; subst hm; exact hkf hy), hkf, by simpa using hk, hok⟩, rfl⟩
set_option maxHeartbeats 2000000 in
theorem etoggle_at {E' : Eng} {n c : Int} (h : IsEng σ k E fp) {g : Int} (e : toggleE E g = (E', n, c)) : MSpec Tryz.prog n_engine_Engine_Toggle [.ptr (.new k) 0, .int .i64 g] σ fun v τ => v = .tup [.int .i64 n, .int .i64 c] ∧ ∃ fp', IsEng τ k E' fp' ∧ Keep fp σ τ ∧ Fresh fp σ fp' := by
  refine spec_of_awp mixed c_engine_Engine_Toggle (Nat.le_of_ble_eq_true rfl) ?_
  unfold f_engine_Engine_Toggle
  have hlow := h.low
  have hok := h.ok
  obtain ⟨x0, kr0, fpr0, h0, rfl⟩ := id h
  simp only [↓evd, evu, evf, implies_true, reduceCtorEq, Nat.reduceEqDiff, ↓reduceIte, Nat.reduceAdd, Nat.reduceLeDiff, Nat.reduceLT, Nat.reduceMul, Int.reduceLT, Int.reduceLE, Int.reduceToNat, evz]
  refine (ecopy_at h).mono ?_
  rintro v τ ⟨k', kr', fpr', rfl, hC, hf', hK⟩
  have hb := hC.blk
  have hE := h.keep hK (fun y _ => by simp)
  rcases ht : toggleR E.R g with ⟨R', n', c'⟩
  simp only [↓evd, evu, evf, implies_true, reduceCtorEq, Nat.reduceEqDiff, ↓reduceIte, Nat.reduceAdd, Nat.reduceLeDiff, Nat.reduceLT, Nat.reduceMul, Int.reduceLT, Int.reduceLE, Int.reduceToNat, evz, hb]
  refine (toggle_at hC.revs ht).mono ?_
  rintro v τ1 ⟨rfl, fpr1, hR1, hK1, hF1⟩
  have hE1 := hE.keep hK1 (fun y hy hm => by have := hlow y hy; have := hf' y (List.mem_cons_of_mem _ hm); omega)
  have hKn := hK.2.2.1
  have hKn1 := hK1.2.2.1
  have hkk := hf' k' (by simp)
  have hb1 : τ1.get k' = some (.cells [eAtoms E.l, .ptr (.new kr') 0] none) := by rw [hK1.2.2.2 k' hC.low hC.out]; exact hb
  have hkp : Keep (k :: fpr0) σ τ1 := (hK.mono (fun x hx => nomatch hx)).trans hK1 (fun x hx => .inr (hf' x (List.mem_cons_of_mem _ hx)))
  by_cases hc : c' = 0
  case neg =>
    have hb : (c' != 0) = true := by simpa using hc
    have : toggleE E g = (E, 0, c') := by rw [toggleE, ht, if_pos hc]
    rw [this] at e; cases e
    simp only [↓evd, evu, evf, implies_true, reduceCtorEq, Nat.reduceEqDiff, ↓reduceIte, Nat.reduceAdd, Nat.reduceLeDiff, Nat.reduceLT, Nat.reduceMul, Int.reduceLT, Int.reduceLE, Int.reduceToNat, evz, hb]
    exact ⟨k :: fpr0, hE1, hkp, fun x hx => .inl hx⟩
  subst hc
  have hcb : ((0 : Int) != 0) = false := rfl
  obtain ⟨_, _, t1, t2⟩ := toggleR_ok (R := E.R) (g := g) (by rw [ht]) hok.2
  rw [ht] at t2
  simp only at t2
  have hok2 : Eng.Ok ⟨E.l, R'⟩ := ⟨hok.1.len, hok.1.txt, fun a ha => by have := hok.1.cuts a ha; simp only [t2]; omega⟩
  have hN : EngAt τ1 k' ⟨E.l, R'⟩ (eAtoms E.l) kr' fpr1 := ⟨hb1, .inl rfl, hR1, fun hm => by
    rcases hF1 k' hm with h1 | h1
    · exact hC.out h1
    · have := hC.low; omega, Nat.lt_of_lt_of_le hC.low hKn1, hok2⟩
  have hfit := hN.fitsC
  have hf1 : ∀ y ∈ fpr1, σ.next ≤ y := fun y hy => by
    rcases hF1 y hy with h1 | h1
    · exact hf' y (List.mem_cons_of_mem _ h1)
    · omega
  simp only [↓evd, evu, evf, implies_true, reduceCtorEq, Nat.reduceEqDiff, ↓reduceIte, Nat.reduceAdd, Nat.reduceLeDiff, Nat.reduceLT, Nat.reduceMul, Int.reduceLT, Int.reduceLE, Int.reduceToNat, evz, hcb]
  refine MSpec.of hfit ?_
  by_cases hl : ((Eng.text ⟨E.l, R'⟩ (R'.head : Nat)).length : Int) ≤ 20000
  · have : toggleE E g = (⟨E.l, R'⟩, n', 0) := by rw [toggleE, ht, if_neg (by simp), if_neg (by simp only; omega)]
    rw [this] at e; cases e
    have hk0 := h0.low
    have hle : k < τ1.next := by omega
    obtain ⟨y, kry, fpry, hy, hye⟩ := id hE1
    have hby := hy.blk
    simp only [↓evd, evu, evf, implies_true, reduceCtorEq, Nat.reduceEqDiff, ↓reduceIte, Nat.reduceAdd, Nat.reduceLeDiff, Nat.reduceLT, Nat.reduceMul, Int.reduceLT, Int.reduceLE, Int.reduceToNat, evz, decide_eq_true hl, hb1, hby]
    refine ⟨k :: fpr1, IsEng.took hle hR1.low (.inl rfl) hR1 (fun hm => by have := hf1 k hm; omega) hok2, hkp.set (.inl (by simp)) _, fun x hx => ?_⟩
    rcases List.mem_cons.1 hx with rfl | hx
    · exact .inl (by simp)
    · exact .inr (hf1 x hx)
  · have : toggleE E g = (E, 0, 13) := by rw [toggleE, ht, if_neg (by simp), if_pos (by simp only; omega)]
    rw [this] at e; cases e
    simp only [↓evd, evu, evf, implies_true, reduceCtorEq, Nat.reduceEqDiff, ↓reduceIte, Nat.reduceAdd, Nat.reduceLeDiff, Nat.reduceLT, Nat.reduceMul, Int.reduceLT, Int.reduceLE, Int.reduceToNat, evz, decide_eq_false hl]
    exact ⟨k :: fpr0, hE1, hkp, fun x hx => .inl hx⟩
end
end Go.Proofs.YtcchmmjjfglpgaaGreat.M
set_option linter.unusedSimpArgs false
set_option linter.unusedVariables false
set_option maxRecDepth 100000
namespace Go.Proofs.YtcchmmjjfglpgaaGreat.M
open Go Go.Mini
attribute [local congr] go1_congr goM_congr goG_congr goV_congr drawwp_congr Xwp_congr
section
variable {σ : Heap} {k : Nat} {E : Eng} {fp : List Nat}
theorem upon_few {l : List Atom} (hl : l.length ≤ 4000) (rev : Int) (u : List Int) {cs : List Chg} (hcl : cs.length ≤ 1000) (hc : ∀ c ∈ cs, c.text.length ≤ 1000000) (rev' group rank : Int) : (upon l rev u cs rev' group rank).length ≤ 100000000000 := by
  unfold upon
  split
  case isFalse => omega
  rename_i h0
  have hml : (marked (cuts l rev u cs) ⟨rev', group⟩ l 0).length ≤ 4000 := by rw [marked_len]; exact hl
  generalize marked (cuts l rev u cs) ⟨rev', group⟩ l 0 = mk at hml
  have key : ∀ (r : List (Nat × List UInt8)) (at' : Nat), (∀ kt ∈ r, kt.2.length ≤ 1000000) → (merged (fun t => newAtoms rev' group rank (ptsOf t)) mk r at').length ≤ 4000 + r.length * 1004000 := by
    intro r
    induction r with
    | nil => intro at' _; simp only [merged, List.length_drop]; omega
    | cons kt r ih =>
      intro at' hk
      obtain ⟨q, t⟩ := kt
      have h1 := ih q fun z hz => hk z (List.mem_cons_of_mem _ hz)
      have h2 := hk (q, t) (by simp)
      have h3 : (newAtoms rev' group rank (ptsOf t)).length ≤ t.length := by
        simp only [newAtoms, List.length_map, ptsOf]
        cases hp : pts t with
        | none => simp
        | some ps => exact pts_len _ t ps (Nat.le_refl _) hp
      simp only [merged_cons, List.length_append, List.length_drop, List.length_take, List.length_cons]
      simp only at h2
      omega
  have h2 := key ((spotsN l rev u cs rank).zip (cs.map Chg.text)) 0 (by
    rintro ⟨q, t⟩ hz
    have := (List.of_mem_zip hz).2
    rw [List.mem_map] at this
    obtain ⟨c, hcm, rfl⟩ := this
    exact hc c hcm)
  have h3 : ((spotsN l rev u cs rank).zip (cs.map Chg.text)).length ≤ 1000 := by rw [List.length_zip]; simp; omega
  omega
set_option maxHeartbeats 4000000 in
theorem eedit_at {E' : Eng} {n c : Int} (h : IsEng σ k E fp) {base group rank : Int} {cs : List Chg} (hcl : cs.length ≤ 1000) (hct : ∀ c ∈ cs, c.text.length ≤ 1000000) (e : editE E base group rank cs = (E', n, c)) :
    MSpec Tryz.prog n_engine_Engine_Edit [.ptr (.new k) 0, .int .i64 base, .int .i64 group, .int .i64 rank, eChgs cs] σ fun v τ => v = .tup [.int .i64 n, .int .i64 c] ∧ ∃ fp', IsEng τ k E' fp' ∧ Keep fp σ τ ∧ Fresh fp σ fp' := by
  refine spec_of_awp mixed c_engine_Engine_Edit (Nat.le_of_ble_eq_true rfl) ?_
  unfold f_engine_Engine_Edit
  have hlow := h.low
  have hok := h.ok
  obtain ⟨x0, kr0, fpr0, h0, rfl⟩ := id h
  have hb0 := h0.blk
  have hx0 := h0.lst.cells.2.2
  have htx := h0.text base
  have hsame : ∃ fp', IsEng σ k E fp' ∧ Keep (k :: fpr0) σ σ ∧ Fresh (k :: fpr0) σ fp' := ⟨_, h, Keep.refl _ _, fun x hx => .inl hx⟩
  have hroom : maxRoom = 68719476736 := rfl
  cases hl : E.R.live base with
  | false =>
    have : editE E base group rank cs = (E, 0, 190) := by rw [editE, if_pos hl]
    rw [this] at e; cases e
    rw [textV, hl, if_neg (by simp)] at htx
    have hb : ((190 : Int) != 0) = true := rfl
    simp only [↓evd, evu, evf, implies_true, reduceCtorEq, Nat.reduceEqDiff, ↓reduceIte, Nat.reduceAdd, Nat.reduceLeDiff, Nat.reduceLT, Nat.reduceMul, Int.reduceLT, Int.reduceLE, Int.reduceToNat, evz]
    refine MSpec.of htx ?_
    simp only [↓evd, evu, evf, implies_true, reduceCtorEq, Nat.reduceEqDiff, ↓reduceIte, Nat.reduceAdd, Nat.reduceLeDiff, Nat.reduceLT, Nat.reduceMul, Int.reduceLT, Int.reduceLE, Int.reduceToNat, evz, hb]
    exact hsame
  | true =>
  rw [textV, if_pos hl] at htx
  have hlt := atomsText_le base (E.R.undone base) hok.1.txt
  have hl4 := hok.1.len
  have hck := check_call σ (E.text base) cs (by unfold Eng.text; omega) (by omega) (fun c hc => by have := hct c hc; unfold ChgFits; omega)
  have hcb : ((0 : Int) != 0) = false := rfl
  simp only [↓evd, evu, evf, implies_true, reduceCtorEq, Nat.reduceEqDiff, ↓reduceIte, Nat.reduceAdd, Nat.reduceLeDiff, Nat.reduceLT, Nat.reduceMul, Int.reduceLT, Int.reduceLE, Int.reduceToNat, evz]
  refine MSpec.of htx ?_
  simp only [↓evd, evu, evf, implies_true, reduceCtorEq, Nat.reduceEqDiff, ↓reduceIte, Nat.reduceAdd, Nat.reduceLeDiff, Nat.reduceLT, Nat.reduceMul, Int.reduceLT, Int.reduceLE, Int.reduceToNat, evz, hcb]
  simp only [eChgs] at hck
  refine MSpec.of hck ?_
  by_cases hc0 : check (E.text base) cs = 0
  case neg =>
    have : editE E base group rank cs = (E, 0, check (E.text base) cs) := by rw [editE, if_neg (by simp [hl]), if_pos hc0]
    rw [this] at e; cases e
    have hb : (check (E.text base) cs != 0) = true := by simpa using hc0
    simp only [↓evd, evu, evf, implies_true, reduceCtorEq, Nat.reduceEqDiff, ↓reduceIte, Nat.reduceAdd, Nat.reduceLeDiff, Nat.reduceLT, Nat.reduceMul, Int.reduceLT, Int.reduceLE, Int.reduceToNat, evz, hb]
    exact hsame
  rw [hc0]
  simp only [↓evd, evu, evf, implies_true, reduceCtorEq, Nat.reduceEqDiff, ↓reduceIte, Nat.reduceAdd, Nat.reduceLeDiff, Nat.reduceLT, Nat.reduceMul, Int.reduceLT, Int.reduceLE, Int.reduceToNat, evz, hcb]
  refine (ecopy_at h).mono ?_
  rintro v τ ⟨k', kr', fpr', rfl, hC, hf', hK⟩
  have hb := hC.blk
  have hE := h.keep hK (fun y _ => by simp)
  rcases ht : addR E.R group with ⟨R', n', c'⟩
  simp only [↓evd, evu, evf, implies_true, reduceCtorEq, Nat.reduceEqDiff, ↓reduceIte, Nat.reduceAdd, Nat.reduceLeDiff, Nat.reduceLT, Nat.reduceMul, Int.reduceLT, Int.reduceLE, Int.reduceToNat, evz, hb]
  refine (add_at hC.revs ht).mono ?_
  rintro v τ1 ⟨rfl, fpr1, hR1, hK1, hF1⟩
  have hdis : ∀ y ∈ k :: fpr0, y ∉ fpr' := fun y hy hm => by have := hlow y hy; have := hf' y (List.mem_cons_of_mem _ hm); omega
  have hE1 := hE.keep hK1 hdis
  have hA1 := (h0.keep hK (fun y _ => by simp)).keep hK1 hdis
  have hKn := hK.2.2.1
  have hKn1 := hK1.2.2.1
  have hkk := hf' k' (by simp)
  have hb1 : τ1.get k' = some (.cells [eAtoms E.l, .ptr (.new kr') 0] none) := by rw [hK1.2.2.2 k' hC.low hC.out]; exact hb
  have hkp : Keep (k :: fpr0) σ τ1 := (hK.mono (fun x hx => nomatch hx)).trans hK1 (fun x hx => .inr (hf' x (List.mem_cons_of_mem _ hx)))
  have hfin : ∃ fp', IsEng τ1 k E fp' ∧ Keep (k :: fpr0) σ τ1 ∧ Fresh (k :: fpr0) σ fp' := ⟨k :: fpr0, hE1, hkp, fun x hx => .inl hx⟩
  have hne : editE E base group rank cs = if c' ≠ 0 then (E, 0, c') else if rank < 0 ∨ 1000000 < rank then (E, 0, 10) else
      if 4000 < (upon E.l base (E.R.undone base) cs n' group rank).length then (E, 0, 70) else
      if 20000 < (Eng.text ⟨upon E.l base (E.R.undone base) cs n' group rank, R'⟩ R'.head).length then (E, 0, 13) else (⟨upon E.l base (E.R.undone base) cs n' group rank, R'⟩, n', 0) := by
    rw [editE, if_neg (by simp [hl]), if_neg (by simp [hc0]), ht]
  by_cases hc : c' = 0
  case neg =>
    have hb : (c' != 0) = true := by simpa using hc
    rw [if_pos hc] at hne
    rw [hne] at e; cases e
    simp only [↓evd, evu, evf, implies_true, reduceCtorEq, Nat.reduceEqDiff, ↓reduceIte, Nat.reduceAdd, Nat.reduceLeDiff, Nat.reduceLT, Nat.reduceMul, Int.reduceLT, Int.reduceLE, Int.reduceToNat, evz, hb]
    exact hfin
  subst hc
  rw [if_neg (by simp)] at hne
  by_cases hr : rank < 0 ∨ 1000000 < rank
  · rw [if_pos hr] at hne
    rw [hne] at e; cases e
    by_cases hr1 : rank < 0
    · simp only [↓evd, evu, evf, implies_true, reduceCtorEq, Nat.reduceEqDiff, ↓reduceIte, Nat.reduceAdd, Nat.reduceLeDiff, Nat.reduceLT, Nat.reduceMul, Int.reduceLT, Int.reduceLE, Int.reduceToNat, evz, hcb, hr1]
      exact hfin
    · have hr2 := hr.resolve_left hr1
      simp only [↓evd, evu, evf, implies_true, reduceCtorEq, Nat.reduceEqDiff, ↓reduceIte, Nat.reduceAdd, Nat.reduceLeDiff, Nat.reduceLT, Nat.reduceMul, Int.reduceLT, Int.reduceLE, Int.reduceToNat, evz, hcb, hr1, hr2]
      exact hfin
  rw [if_neg hr] at hne
  have hr1 : ¬ rank < 0 := fun h => hr (.inl h)
  have hr2 : ¬ 1000000 < rank := fun h => hr (.inr h)
  obtain ⟨_, _, _, _, t1, t2⟩ := addR_ok (R := E.R) (g := group) (by rw [ht]) hok.2
  rw [ht] at t2
  simp only at t2
  have hfit0 := hok.1.fits hok.2
  have hup := hA1.lst.call (upon_call τ1 E.l base (E.R.undone base) cs n' group rank (undone_few hok.2 base) hfit0 (by omega) hct (fun a ha => by have := hok.1.cuts a ha; have := head_le hok.2; omega) (by omega))
  have hun := hA1.undoneAt base
  obtain ⟨uf1, uf2⟩ := upon_facts hok.1 (base := base) (group := group) (rank := rank) (now := n') (cs := cs) (u := E.R.undone base)
  have hb01 := hA1.blk
  have hlen := upon_few hok.1.len base (E.R.undone base) hcl hct n' group rank
  generalize upon E.l base (E.R.undone base) cs n' group rank = l' at hup hne uf1 uf2 hlen
  simp only [ints, eChgs, eAtoms] at hup
  simp only [ints] at hun
  simp only [eAtoms] at hb1
  simp only [↓evd, evu, evf, implies_true, reduceCtorEq, Nat.reduceEqDiff, ↓reduceIte, Nat.reduceAdd, Nat.reduceLeDiff, Nat.reduceLT, Nat.reduceMul, Int.reduceLT, Int.reduceLE, Int.reduceToNat, evz, hcb, hr1, hr2]
  with_reducible refine draw_of_grow (fun _ => True) (ms := [false, false, false, false, false, false, false, false, false, false, false, false, false, false, false, false, true]) (by kernel_rfl) ?_
  simp only [↓evd, evu, evf, implies_true, reduceCtorEq, Nat.reduceEqDiff, ↓reduceIte, Nat.reduceAdd, Nat.reduceLeDiff, Nat.reduceLT, Nat.reduceMul, Int.reduceLT, Int.reduceLE, Int.reduceToNat, evz, hb01, hx0]
  refine MSpec.of hun ⟨.inr Keeps.rfl, ?_⟩
  simp only [↓evd, evu, evf, implies_true, reduceCtorEq, Nat.reduceEqDiff, ↓reduceIte, Nat.reduceAdd, Nat.reduceLeDiff, Nat.reduceLT, Nat.reduceMul, Int.reduceLT, Int.reduceLE, Int.reduceToNat, evz]
  refine MSpec.of hup ⟨.inr Keeps.rfl, ?_⟩
  simp only [↓evd, evu, evf, implies_true, reduceCtorEq, Nat.reduceEqDiff, ↓reduceIte, Nat.reduceAdd, Nat.reduceLeDiff, Nat.reduceLT, Nat.reduceMul, Int.reduceLT, Int.reduceLE, Int.reduceToNat, evz, hb1]
  have hK2 : Keep [k'] τ1 (τ1.set k' (.cells [.fsl 5 (l'.map eAtom), .ptr (.new kr') 0] none)) := (Keep.refl _ _).set (.inl (by simp)) _
  have hkf : k' ∉ fpr1 := fun hm => by
    rcases hF1 k' hm with h1 | h1
    · exact hC.out h1
    · have := hC.low; omega
  have hkp2 : Keep (k :: fpr0) σ (τ1.set k' (.cells [.fsl 5 (l'.map eAtom), .ptr (.new kr') 0] none)) := hkp.set (.inr hkk) _
  have hE2 := hE1.keep hK2 (fun y hy hm => by simp at hm; have := hlow y hy; omega)
  have hfin2 : ∃ fp', IsEng (τ1.set k' (.cells [.fsl 5 (l'.map eAtom), .ptr (.new kr') 0] none)) k E fp' ∧ Keep (k :: fpr0) σ (τ1.set k' (.cells [.fsl 5 (l'.map eAtom), .ptr (.new kr') 0] none)) ∧ Fresh (k :: fpr0) σ fp' := ⟨k :: fpr0, hE2, hkp2, fun x hx => .inl hx⟩
  by_cases hm : 4000 < l'.length
  · have hm' : (4000 : Int) < (l'.length : Int) := by omega
    rw [if_pos hm] at hne
    rw [hne] at e; cases e
    simp only [↓evd, evu, evf, implies_true, reduceCtorEq, Nat.reduceEqDiff, ↓reduceIte, Nat.reduceAdd, Nat.reduceLeDiff, Nat.reduceLT, Nat.reduceMul, Int.reduceLT, Int.reduceLE, Int.reduceToNat, evz, hm']
    exact hfin2
  have hm' : ¬ (4000 : Int) < (l'.length : Int) := by omega
  rw [if_neg hm] at hne
  have hR2 := hR1.keep hK2 (fun y hy hm => by simp at hm; subst hm; exact hkf hy)
  have hok2 : Eng.Ok ⟨l', R'⟩ := ⟨by simp only; omega, uf1, fun a ha => by have := uf2 a ha; simp only [t2]; omega⟩
  have hN : EngAt (τ1.set k' (.cells [.fsl 5 (l'.map eAtom), .ptr (.new kr') 0] none)) k' ⟨l', R'⟩ (eAtoms l') kr' fpr1 := ⟨by rw [Heap.get_set, if_pos rfl]; rfl, .inl rfl, hR2, hkf, by have := hC.low; simp only [Heap.set_next]; omega, hok2⟩
  have hfit := hN.fitsC
  have hf1 : ∀ y ∈ fpr1, σ.next ≤ y := fun y hy => by
    rcases hF1 y hy with h1 | h1
    · exact hf' y (List.mem_cons_of_mem _ h1)
    · omega
  simp only [↓evd, evu, evf, implies_true, reduceCtorEq, Nat.reduceEqDiff, ↓reduceIte, Nat.reduceAdd, Nat.reduceLeDiff, Nat.reduceLT, Nat.reduceMul, Int.reduceLT, Int.reduceLE, Int.reduceToNat, evz, hm']
  refine MSpec.of hfit ?_
  by_cases hl : ((Eng.text ⟨l', R'⟩ (R'.head : Nat)).length : Int) ≤ 20000
  · rw [if_neg (by omega)] at hne
    rw [hne] at e; cases e
    have hk0 := h0.low
    have hle : k < τ1.next := by omega
    have hne2 : (k' = k) = False := eq_false (by omega)
    simp only [↓evd, evu, evf, implies_true, reduceCtorEq, Nat.reduceEqDiff, ↓reduceIte, Nat.reduceAdd, Nat.reduceLeDiff, Nat.reduceLT, Nat.reduceMul, Int.reduceLT, Int.reduceLE, Int.reduceToNat, evz, decide_eq_true hl, hb01, hne2]
    refine ⟨k :: fpr1, IsEng.took (by simpa using hle) hR2.low (.inl rfl) hR2 (fun hm => by have := hf1 k hm; omega) hok2, hkp2.set (.inl (by simp)) _, fun x hx => ?_⟩
    rcases List.mem_cons.1 hx with rfl | hx
    · exact .inl (by simp)
    · exact .inr (hf1 x hx)
  · rw [if_pos (by omega)] at hne
    rw [hne] at e; cases e
    simp only [↓evd, evu, evf, implies_true, reduceCtorEq, Nat.reduceEqDiff, ↓reduceIte, Nat.reduceAdd, Nat.reduceLeDiff, Nat.reduceLT, Nat.reduceMul, Int.reduceLT, Int.reduceLE, Int.reduceToNat, evz, decide_eq_false hl]
    exact hfin2
end
end Go.Proofs.YtcchmmjjfglpgaaGreat.M
set_option linter.unusedSimpArgs false
set_option linter.unusedVariables false
set_option maxRecDepth 100000
namespace Go.Proofs.YtcchmmjjfglpgaaGreat.M
open Go Go.Mini
attribute [local congr] go1_congr goM_congr goG_congr goV_congr drawwp_congr Xwp_congr
theorem chgs_row (cs : List Chg) : ∀ z ∈ cs.map eChg, z.cells.length = 3 := by
  intro z hz; rw [List.mem_map] at hz; obtain ⟨c, _, rfl⟩ := hz; rfl
theorem sees_chgs {σ : Heap} {K n : Nat} {cs : List Chg} (hn : n = cs.length) (hg : σ.get K = some (.cells ((cs.map eChg).flatMap AVal.cells) none)) : Sees σ (.slc (.new K) 0 n (.ex n)) (σ.set K .dead) (eChgs cs) := by
  refine Sees.own hg (by simp [hn]) (chgs_row cs) ?_ (fun c hc => by cases hc; exact Nat.le_refl _)
  have := flat_len (chgs_row cs)
  rw [List.length_map] at this
  rw [List.drop_zero, List.take_of_length_le (by omega)]
section
variable {σ : Heap} {k : Nat} {E : Eng} {fp : List Nat}
/-- changes in a slice of one's own -/
theorem eedit_own {E' : Eng} {n c : Int} (h : IsEng σ k E fp) {base group rank : Int} {cs : List Chg} {K q : Nat} (hq : q = cs.length) (hg : σ.get K = some (.cells ((cs.map eChg).flatMap AVal.cells) none)) (hK : K ∉ fp) (hcl : cs.length ≤ 1000) (hct : ∀ c ∈ cs, c.text.length ≤ 1000000) (e : editE E base group rank cs = (E', n, c)) :
    MSpec Tryz.prog n_engine_Engine_Edit [.ptr (.new k) 0, .int .i64 base, .int .i64 group, .int .i64 rank, .slc (.new K) 0 q (.ex q)] σ fun v τ => v = .tup [.int .i64 n, .int .i64 c] ∧ ∃ fp', IsEng τ k E' fp' ∧ Keep (K :: fp) σ τ ∧ Fresh fp σ fp' := by
  have hk : Keep [K] σ (σ.set K .dead) := (Keep.refl _ _).set (.inl (by simp)) _
  refine mspec_seen (.cons (Sees.refl _ _) (.cons (Sees.refl _ _) (.cons (Sees.refl _ _) (.cons (Sees.refl _ _) (.cons (sees_chgs hq hg) (.nil _)))))) ?_
  refine (eedit_at (h.keep hk fun x hx hm => hK (by simp at hm; exact hm ▸ hx)) hcl hct e).mono ?_
  rintro v τ ⟨hv, fp', h1, h2, h3⟩
  exact ⟨hv, fp', h1, (hk.mono (fun x hx _ => by simp at hx; simp [hx])).trans (h2.mono fun x hx _ => List.mem_cons_of_mem _ hx) (fun x hx => .inl hx), h3⟩
/-- .. that was made just now -/
theorem eedit_lit {E' : Eng} {n c : Int} (h : IsEng σ k E fp) {base group rank : Int} {cs : List Chg} {q : Nat} (hq : q = cs.length) (hcl : cs.length ≤ 1000) (hct : ∀ c ∈ cs, c.text.length ≤ 1000000) (e : editE E base group rank cs = (E', n, c)) :
    MSpec Tryz.prog n_engine_Engine_Edit [.ptr (.new k) 0, .int .i64 base, .int .i64 group, .int .i64 rank, .slc (.new σ.next) 0 q (.ex q)] (σ.new (.cells ((cs.map eChg).flatMap AVal.cells) none)) fun v τ => v = .tup [.int .i64 n, .int .i64 c] ∧ ∃ fp', IsEng τ k E' fp' ∧ Keep fp σ τ ∧ Fresh fp σ fp' := by
  have hk : Keep [] σ (σ.new (.cells ((cs.map eChg).flatMap AVal.cells) none)) := (Keep.refl _ _).new _
  refine (eedit_own (K := σ.next) (h.keep hk (fun x _ => by simp)) hq (by rw [Heap.get_new, if_pos rfl]) (fun hm => by have := h.low _ hm; omega) hcl hct e).mono ?_
  rintro v τ ⟨hv, fp', h1, h2, h3⟩
  refine ⟨hv, fp', h1, ⟨h2.1, h2.2.1, Nat.le_of_succ_le h2.2.2.1, fun q hq hn => ?_⟩, fun x hx => ?_⟩
  · rw [h2.2.2.2 q (Nat.lt_succ_of_lt hq) (fun hm => by rcases List.mem_cons.1 hm with h | h; omega; exact hn h), Heap.get_new, if_neg (by omega)]
  · rcases h3 x hx with h4 | h4
    · exact .inl h4
    · exact .inr (Nat.le_of_succ_le h4)
end
theorem etext_at {σ : Heap} {k : Nat} {E : Eng} {fp : List Nat} (h : IsEng σ k E fp) (n : Int) : ACall Tryz.prog n_engine_Engine_Text [.ptr (.new k) 0, .int .i64 n] σ (textV E n) σ := by obtain ⟨_, _, _, h, _⟩ := h; exact h.text n
theorem ehead_at {σ : Heap} {k : Nat} {E : Eng} {fp : List Nat} (h : IsEng σ k E fp) : ACall Tryz.prog n_engine_Engine_Head [.ptr (.new k) 0] σ (.int .i64 (E.R.head : Nat)) σ := by obtain ⟨_, _, _, h, _⟩ := h; exact h.head
theorem eatoms_at {σ : Heap} {k : Nat} {E : Eng} {fp : List Nat} (h : IsEng σ k E fp) : ACall Tryz.prog n_engine_Engine_Atoms [.ptr (.new k) 0] σ (eAtoms E.l) σ := by obtain ⟨_, _, _, h, _⟩ := h; exact h.atoms
theorem egroups_at {σ : Heap} {k : Nat} {E : Eng} {fp : List Nat} (h : IsEng σ k E fp) : ACall Tryz.prog n_engine_Engine_Groups [.ptr (.new k) 0] σ (ints E.R.grp) σ := by obtain ⟨_, _, _, h, _⟩ := h; exact h.groups
theorem eundone_at {σ : Heap} {k : Nat} {E : Eng} {fp : List Nat} (h : IsEng σ k E fp) : ACall Tryz.prog n_engine_Engine_Undone [.ptr (.new k) 0] σ (ints (E.R.undone (E.R.head : Nat))) σ := by obtain ⟨_, _, _, h, _⟩ := h; exact h.undone
theorem elive_at {σ : Heap} {k : Nat} {E : Eng} {fp : List Nat} (h : IsEng σ k E fp) (n : Int) : ACall Tryz.prog n_engine_Engine_Live [.ptr (.new k) 0, .int .i64 n] σ (.bool (E.R.live n)) σ := by obtain ⟨_, _, _, h, _⟩ := h; exact h.live n
theorem textV_head {E : Eng} (h : E.R.Ok) : textV E (E.R.head : Nat) = .tup [.str (E.text (E.R.head : Nat)), .int .i64 0] := by rw [textV, if_pos (Eng.live_head h)]
theorem aStr_self (s : List UInt8) : aStr .eql s s = some (.bool true) := by simp [aStr]
theorem aStr_nself (s : List UInt8) : aStr .neq s s = some (.bool false) := by simp [aStr]
end Go.Proofs.YtcchmmjjfglpgaaGreat.M
set_option linter.unusedSimpArgs false
set_option linter.unusedVariables false
set_option maxRecDepth 100000
namespace Go.Proofs.YtcchmmjjfglpgaaGreat.M
open Go Go.Mini
attribute [local congr] go1_congr goM_congr goG_congr goV_congr drawwp_congr Xwp_congr
def at1 (b : UInt8) (cs : List Cut) : Atom := ⟨[b], 1, 1, 0, cs⟩
def kE1 : Eng := ⟨[at1 104 [], at1 101 [], at1 108 [], at1 108 [], at1 111 []], ⟨[[], []], 0, [1], []⟩⟩
def kE2 : Eng := ⟨[⟨[106], 2, 2, 0, []⟩, at1 104 [⟨2, 2⟩], at1 101 [], at1 108 [], at1 108 [], at1 111 []], ⟨[[], [], []], 0, [1, 2], []⟩⟩
def kE3 : Eng := ⟨[⟨[106], 2, 2, 0, []⟩, at1 104 [⟨2, 2⟩], at1 101 [], at1 108 [], at1 108 [], at1 111 [], ⟨[33], 3, 3, 0, []⟩], ⟨[[], [], [], []], 0, [1, 2, 3], []⟩⟩
def kE4 : Eng := ⟨kE3.l, ⟨[[], [], [], [], [2]], 0, [1, 2, 3], []⟩⟩
theorem k1 : editE Eng.new 0 1 0 [⟨0, 0, [104, 101, 108, 108, 111]⟩] = (kE1, 1, 0) := by kernel_rfl
theorem k2 : editE kE1 1 2 0 [⟨0, 1, [106]⟩] = (kE2, 2, 0) := by kernel_rfl
theorem k3 : editE kE2 1 3 0 [⟨5, 5, [33]⟩] = (kE3, 3, 0) := by kernel_rfl
theorem k4 : toggleE kE3 2 = (kE4, 4, 0) := by kernel_rfl
theorem k5 : editE kE4 9 1 0 [] = (kE4, 0, 190) := by kernel_rfl
theorem kt3 : textV kE3 3 = .tup [.str [106, 101, 108, 108, 111, 33], .int .i64 0] := by kernel_rfl
theorem kt4 : textV kE4 4 = .tup [.str [104, 101, 108, 108, 111, 33], .int .i64 0] := by kernel_rfl
end Go.Proofs.YtcchmmjjfglpgaaGreat.M
set_option linter.unusedSimpArgs false
set_option linter.unusedVariables false
set_option maxRecDepth 100000
namespace Go.Proofs.YtcchmmjjfglpgaaGreat.M
open Go Go.Mini
/-! ### Edits at a text's beginning -/
theorem places_nonneg (rev : Int) (u : List Int) : ∀ (l : List Atom) (n : Nat), ∀ p ∈ places rev u l n, 0 ≤ p
  | [], n, p, h => by simp [places] at h; omega
  | a :: l, n, p, h => by
    simp only [places, List.mem_cons] at h
    rcases h with rfl | h
    · omega
    · exact places_nonneg rev u l _ p h
theorem spotF_low (rev : Int) (u : List Int) (at' : Int) : ∀ (l : List Atom) (ps : List Int) (i acc : Nat), (∀ p ∈ ps, at' ≤ p) → spotF rev u at' l ps i acc = acc
  | [], ps, i, acc, h => by simp [spotF]
  | a :: l, [], i, acc, h => by simp [spotF]
  | a :: l, p :: ps, i, acc, h => by
    have h1 := h p (by simp)
    simp only [spotF]
    rw [if_neg (fun h2 => by omega)]
    exact spotF_low rev u at' l ps _ _ fun q hq => h q (List.mem_cons_of_mem _ hq)
theorem cutsF_none (rev : Int) (u : List Int) (cs : List Chg) (h : ∀ p, cutHit cs p = false) : ∀ (l : List Atom) (ps : List Int) (i : Nat), cutsF rev u cs l ps i = []
  | [], ps, i => by simp [cutsF]
  | a :: l, [], i => by simp [cutsF]
  | a :: l, p :: ps, i => by
    simp only [cutsF, h, Bool.and_false, Bool.false_eq_true, if_false, List.nil_append]
    exact cutsF_none rev u cs h l ps _
theorem marked_nil (c : Cut) : ∀ (l : List Atom) (i : Nat), marked [] c l i = l
  | [], i => rfl
  | a :: l, i => by simp only [marked, List.not_mem_nil, if_false, marked_nil c l]
theorem atoms_valid {l : List Atom} (h : ∀ a ∈ l, IsCP a.text) (rev : Int) (u : List Int) : ∃ ps, atomsText rev u l = List.flatten ps ∧ ∀ p ∈ ps, IsCP p := by
  refine ⟨(l.filter (visible rev u)).map Atom.text, ?_, ?_⟩
  · induction l with
    | nil => rfl
    | cons a l ih =>
      simp only [atomsText, List.filter_cons]
      rw [ih fun b hb => h b (List.mem_cons_of_mem _ hb)]
      split <;> simp
  · intro p hp
    simp only [List.mem_map, List.mem_filter] at hp
    obtain ⟨a, ⟨ha, _⟩, rfl⟩ := hp
    exact h a ha
theorem cp_ascii {b : UInt8} (h : b.toNat < 128) : IsCP [b] := ⟨by simp, by rw [pt, if_pos h]; rfl⟩
theorem check_front {s : List UInt8} (hs : ∃ ps, s = List.flatten ps ∧ ∀ p ∈ ps, IsCP p) {t : List UInt8} (ht : valid t = true) (hl : s.length + t.length ≤ 20000) : check s [⟨0, 0, t⟩] = 0 := by
  obtain ⟨ps, rfl, hp⟩ := hs
  have hv := valid_flat hp
  have he : isEdge ps.flatten 0 = true := (edge_flat hp 0).2 ⟨0, Nat.zero_le _, by simp⟩
  have hw : IntKind.i64.wrap ((0 : Int) - 0) = 0 := by decide
  have hg : gain ps.flatten.length ⟨0, 0, t⟩ = 0 := by
    simp only [gain, gain0, hw]
    rw [if_neg (show ¬ (0 : Int) < 0 by omega), if_neg (by omega)]
  have hlong : longI ps.flatten [⟨0, 0, t⟩] = 0 := by
    simp only [longI, gains, List.map_cons, List.map_nil, hg, List.sum_cons, List.sum_nil, longR]
    rw [if_neg (by omega), if_neg (by omega)]
  have hn : ¬ ((ps.flatten.length : Int) < 0) := by omega
  unfold check
  rw [if_neg (by rw [hv]; simp), if_neg (by simp)]
  simp only [errs, List.any_cons, List.any_nil, Bool.or_false, chgOut, chgIn, he, disorder, ht, hlong, decide_eq_false hn]
  rfl
/-- an edit that puts in a text at the beginning of the head's text -/
theorem edit_front {E : Eng} (h : E.Ok) (hR : E.R.Ok) (hrev : ∀ a ∈ E.l, a.rev ≤ (E.R.head : Nat)) {g rank : Int} {b : UInt8} (hb : b.toNat < 128) (hg0 : 0 ≤ g) (hg1 : g < 60) (hgo : g ∉ E.R.gone) (hh : E.R.head < 200) (hr0 : 0 ≤ rank) (hr1 : rank ≤ 1000000) (hlen : E.l.length < 4000) :
    editE E (E.R.head : Nat) g rank [⟨0, 0, [b]⟩] = (⟨⟨[b], (E.R.head : Int) + 1, g, rank, []⟩ :: E.l, { E.R.push E.R.top with grp := insS g E.R.grp }⟩, (E.R.head : Int) + 1, 0) := by
  have hcp := cp_ascii hb
  have hv := atoms_valid h.txt (E.R.head : Nat) (E.R.undone (E.R.head : Nat))
  have hle := atomsText_le (E.R.head : Nat) (E.R.undone (E.R.head : Nat)) h.txt
  have hck : check (E.text (E.R.head : Nat)) [⟨0, 0, [b]⟩] = 0 := check_front hv (valid_iff.2 ⟨[[b]], by simp, by simpa using hcp⟩) (by simp only [Eng.text, List.length_cons, List.length_nil]; omega)
  have hck' : check (atomsText (E.R.head : Nat) (E.R.undone (E.R.head : Nat)) E.l) [⟨0, 0, [b]⟩] = 0 := hck
  have hadd := add_good (R := E.R) hgo hg0 hg1 hh
  have hspot : spot E.l (places (E.R.head : Nat) (E.R.undone (E.R.head : Nat)) E.l 0) (E.R.head : Nat) (E.R.undone (E.R.head : Nat)) 0 rank = 0 := by
    unfold spot
    rw [spotF_low _ _ _ _ _ _ _ (places_nonneg _ _ _ _)]
    simp only [List.drop_zero]
    cases hE : E.l with
    | nil => rfl
    | cons a l =>
      have := hrev a (by rw [hE]; simp)
      rw [spotG, if_neg (by omega)]
  have hup : upon E.l (E.R.head : Nat) (E.R.undone (E.R.head : Nat)) [⟨0, 0, [b]⟩] ((E.R.head : Int) + 1) g rank = ⟨[b], (E.R.head : Int) + 1, g, rank, []⟩ :: E.l := by
    rw [upon, if_pos hck']
    have hct : cuts E.l (E.R.head : Nat) (E.R.undone (E.R.head : Nat)) [⟨0, 0, [b]⟩] = [] := by
      rw [cuts, if_pos hck']
      refine cutsF_none _ _ _ (fun p => ?_) _ _ _
      simp only [cutHit, List.any_cons, List.any_nil, Bool.or_false, Bool.and_eq_false_iff, decide_eq_false_iff_not]
      omega
    rw [hct, marked_nil]
    simp only [spotsN, List.map_cons, List.map_nil, hspot, List.zip_cons_cons, List.zip_nil_left, merged, List.take_zero, List.drop_nil, List.nil_append, List.drop_zero, ptsOf, pts_one hcp, Option.getD_some, newAtoms, List.singleton_append]
  have hlv := Eng.live_head hR
  have htl : ∀ (rev : Int) (u : List Int), (atomsText rev u (⟨[b], (E.R.head : Int) + 1, g, rank, []⟩ :: E.l)).length ≤ 20000 := fun rev u => by
    have := atomsText_le (l := ⟨[b], (E.R.head : Int) + 1, g, rank, []⟩ :: E.l) rev u (by
      intro a ha
      rcases List.mem_cons.1 ha with rfl | ha
      · exact hcp
      · exact h.txt a ha)
    simp only [List.length_cons] at this; omega
  rw [editE, if_neg (by simp [hlv]), if_neg (by simp [hck]), hadd, if_neg (by simp), if_neg (by omega), hup, if_neg (by simp only [List.length_cons]; omega), if_neg (by simp only [Eng.text]; exact Nat.not_lt.2 (htl _ _))]
theorem short_text {l : List Atom} (hl : l.length ≤ 4000) (hc : ∀ a ∈ l, IsCP a.text) (rev : Int) (u : List Int) : (atomsText rev u l).length ≤ 20000 := by have := atomsText_le rev u hc; omega
end Go.Proofs.YtcchmmjjfglpgaaGreat.M
set_option linter.unusedSimpArgs false
set_option linter.unusedVariables false
set_option maxRecDepth 100000
namespace Go.Proofs.YtcchmmjjfglpgaaGreat.M
open Go Go.Mini
attribute [local congr] go1_congr goM_congr goG_congr goV_congr drawwp_congr Xwp_congr
/-! ### Law 21's engines -/
def letter (j : Nat) : UInt8 := UInt8.ofNat (97 + j % 26)
theorem letter_nat (j : Nat) : (letter j).toNat = 97 + j % 26 := by simp only [letter, UInt8.toNat_ofNat']; omega
def stepM (E : Eng) (j : Nat) (g : Int) : Eng := ⟨⟨[letter j], (j : Int) + 1, g.tmod 10, 0, []⟩ :: E.l, { E.R.push [] with grp := insS (g.tmod 10) E.R.grp }⟩
def madeF (E : Eng) (j : Nat) : List Int → Eng
  | [] => E
  | g :: gs => madeF (stepM E j g) (j + 1) gs
def madeE (gs : List Int) : Eng := madeF Eng.new 0 gs
structure MInv (E : Eng) (j : Nat) : Prop where
  und : E.R.und = List.replicate (j + 1) []
  floor : E.R.floor = 0
  gone : E.R.gone = []
  len : E.l.length = j
  rev : ∀ a ∈ E.l, a.rev ≤ (j : Int)
  grp : ∀ g ∈ E.R.grp, g < 10
  bare : ∀ a ∈ E.l, a.cuts = [] ∧ a.group ∈ E.R.grp
  ok : E.Ok
  R : E.R.Ok
theorem MInv.head {E : Eng} {j : Nat} (h : MInv E j) : E.R.head = j := by simp [Revs.head, h.floor, h.und]
theorem MInv.top {E : Eng} {j : Nat} (h : MInv E j) : E.R.top = [] := by
  simp only [Revs.top, h.und, List.replicate_succ', List.getLastD_eq_getLast?, List.getLast?_append, List.getLast?_singleton]; rfl
theorem MInv.new : MInv Eng.new 0 := ⟨rfl, rfl, rfl, rfl, fun a h => (by cases h), fun a h => (by cases h), fun a h => (by cases h), Eng.new_ok, ⟨by simp [Eng.new, Revs.new], by simp [Eng.new, Revs.new], by intro s hs; simp [Eng.new, Revs.new] at hs; subst hs; exact Rise.nil, Rise.nil, Rise.nil⟩⟩
theorem tmod10 {g : Int} (h : 0 ≤ g) : 0 ≤ g.tmod 10 ∧ g.tmod 10 < 10 := by rw [Int.tmod_eq_emod_of_nonneg h]; omega
theorem MInv.edit {E : Eng} {j : Nat} (h : MInv E j) (hj : j < 100) {g : Int} (hg : 0 ≤ g) : editE E (E.R.head : Nat) (g.tmod 10) 0 [⟨0, 0, [letter j]⟩] = (stepM E j g, (j : Int) + 1, 0) := by
  obtain ⟨g1, g2⟩ := tmod10 hg
  have hh := h.head
  have hl := h.len
  rw [edit_front h.ok h.R (fun a ha => by rw [hh]; exact h.rev a ha) (by rw [letter_nat]; omega) g1 (by omega) (by rw [h.gone]; simp) (by omega) (by omega) (by omega) (by omega), hh, h.top]; rfl
theorem MInv.step {E : Eng} {j : Nat} (h : MInv E j) (hj : j < 100) {g : Int} (hg : 0 ≤ g) : MInv (stepM E j g) (j + 1) := by
  obtain ⟨g1, g2⟩ := tmod10 hg
  have hl := h.len
  have he := h.edit hj hg
  have hok := editE_ok h.ok h.R (E.R.head : Nat) (g.tmod 10) 0 [⟨0, 0, [letter j]⟩]
  rw [he] at hok
  refine ⟨?_, h.floor, h.gone, by simp only [stepM, List.length_cons]; omega, ?_, ?_, ?_, hok, ?_⟩
  · simp only [stepM, Revs.push, h.und]; rw [← List.replicate_succ']
  · intro a ha
    rcases List.mem_cons.1 ha with rfl | ha
    · simp only; omega
    · have := h.rev a ha; omega
  · intro x hx
    rcases mem_insS.1 hx with rfl | hx
    · exact g2
    · exact h.grp x hx
  · intro a ha
    rcases List.mem_cons.1 ha with rfl | ha
    · exact ⟨rfl, mem_insS.2 (.inl rfl)⟩
    · have := h.bare a ha; exact ⟨this.1, mem_insS.2 (.inr this.2)⟩
  · refine ⟨by simp [stepM, Revs.push], ?_, ?_, h.R.grp.ins g1 (by omega), h.R.gone⟩
    · simp only [stepM, Revs.push, h.und, h.floor, List.length_append, List.length_replicate, List.length_cons, List.length_nil]; omega
    · intro s hs
      simp only [stepM, Revs.push, h.und, List.mem_append, List.mem_replicate, List.mem_singleton] at hs
      rcases hs with ⟨_, rfl⟩ | rfl <;> exact Rise.nil
theorem madeF_inv : ∀ (gs : List Int) (E : Eng) (j : Nat), MInv E j → j + gs.length ≤ 100 → (∀ g ∈ gs, 0 ≤ g) → MInv (madeF E j gs) (j + gs.length)
  | [], E, j, h, _, _ => h
  | g :: gs, E, j, h, hl, hg => by
    simp only [List.length_cons] at hl ⊢
    have := madeF_inv gs (stepM E j g) (j + 1) (h.step (by omega) (hg g (by simp))) (by omega) fun x hx => hg x (List.mem_cons_of_mem _ hx)
    rw [show j + (gs.length + 1) = j + 1 + gs.length by omega]; exact this
theorem madeE_inv {gs : List Int} (hl : gs.length ≤ 100) (hg : ∀ g ∈ gs, 0 ≤ g) : MInv (madeE gs) gs.length := by
  have := madeF_inv gs Eng.new 0 MInv.new (by omega) hg
  rw [Nat.zero_add] at this; exact this
set_option maxHeartbeats 2000000 in
theorem made_at (σ : Heap) (hd : σ.F0.dr = false) (gs : List Int) (hl : gs.length ≤ 100) (hg : ∀ g ∈ gs, 0 ≤ g ∧ g < 256) : MSpec Tryz.prog n_palinodelaw21_made [eU8s gs] σ fun v τ => ∃ k fp, v = .ptr (.new k) 0 ∧ IsEng τ k (madeE gs) fp ∧ (∀ x ∈ fp, σ.next ≤ x) ∧ Keep [] σ τ := by
  refine spec_of_awp mixed c_palinodelaw21_made (Nat.le_of_ble_eq_true rfl) ?_
  unfold f_palinodelaw21_made
  simp only [↓evd, evu, evf, implies_true, reduceCtorEq, Nat.reduceEqDiff, ↓reduceIte, Nat.reduceAdd, Nat.reduceLeDiff, Nat.reduceLT, Nat.reduceMul, Int.reduceLT, Int.reduceLE, Int.reduceToNat, evz]
  refine (enew_at σ hd).mono ?_
  rintro v τ ⟨k, fp0, rfl, h0, hf0, k0⟩
  simp only [↓evd, evu, evf, implies_true, reduceCtorEq, Nat.reduceEqDiff, ↓reduceIte, Nat.reduceAdd, Nat.reduceLeDiff, Nat.reduceLT, Nat.reduceMul, Int.reduceLT, Int.reduceLE, Int.reduceToNat, evz]
  refine awp_loop (fun m fr ρ => ∃ i E fp, m + i = gs.length ∧ fr.get 0 = eU8s gs ∧ fr.get 3 = .ptr (.new k) 0 ∧ fr.get 4 = .int .i64 (i : Nat) ∧ IsEng ρ k E fp ∧ MInv E i ∧ madeF E i (gs.drop i) = madeE gs ∧ (∀ x ∈ fp, σ.next ≤ x) ∧ Keep [] σ ρ) ?_ (m := gs.length) ?_
  · clear h0 hf0 k0
    rintro m fr ρ ⟨i, E, fp, hi, e0, e3, e4, hE, hI, hm, hf, hK⟩
    by_cases hlt : i < gs.length
    · have hlt' : (i : Int) < (gs.length : Int) := by omega
      have hs := wrap_succ (i := i) (by omega)
      have hgt := map_get (AVal.int .u8 ·) gs i hlt
      have hb := hg _ (List.getElem_mem hlt)
      rw [List.drop_eq_getElem_cons hlt, madeF] at hm
      generalize gs[i] = g at hgt hb hm
      obtain ⟨g1, g2⟩ := tmod10 hb.1
      have hw1 : IntKind.i64.wrap (g.tmod 10) = g.tmod 10 := wrap_id (by omega) (by omega)
      have hm26 : ((i : Int).tmod 26) = ((i % 26 : Nat) : Int) := by rw [Int.tmod_eq_emod_of_nonneg (by omega)]; rfl
      have wu8 : ∀ x : Nat, x < 256 → IntKind.u8.wrap (x : Int) = (x : Int) := fun x hx => by
        have e1 : (2 : Int) ^ 8 = 256 := by decide
        simp only [IntKind.wrap, IntKind.bits, IntKind.signed, Bool.false_and, e1]
        simp; omega
      have hw2 := wu8 (i % 26) (by omega)
      have hw3 : IntKind.u8.wrap (97 + ((i % 26 : Nat) : Int)) = ((97 + i % 26 : Nat) : Int) := by rw [← wu8 (97 + i % 26) (by omega)]; rfl
      have h10 : ¬ (10 : Int) = 0 := by decide
      have h26 : ¬ (26 : Int) = 0 := by decide
      have hk2 : Keep [] ρ ((ρ.new (.cells [.int .u8 ((97 + i % 26 : Nat) : Int)] none)).new (.cells [.int .i64 0, .int .i64 0, .str [letter i]] none)) := ((Keep.refl _ _).new _).new _
      have hE2 := hE.keep hk2 (fun x _ => by simp)
      have hn1 : (ρ.next + 1 = ρ.next) = False := eq_false (by omega)
      have hlet : UInt8.ofNat (97 + i % 26) = letter i := rfl
      have hed := hI.edit (by omega) hb.1
      simp only [↓evd, evu, evf, implies_true, reduceCtorEq, Nat.reduceEqDiff, ↓reduceIte, Nat.reduceAdd, Nat.reduceLeDiff, Nat.reduceLT, Nat.reduceMul, Int.reduceLT, Int.reduceLE, Int.reduceToNat, evz, e0, e3, e4, eU8s, hlt']
      refine ⟨[.int .u8 ((97 + i % 26 : Nat) : Int)], [.int .i64 0, .int .i64 0, .str [letter i]], ?_⟩
      with_reducible refine draw_of_grow (fun _ => True) (ms := [false, false, false, false, false, false, false, false, false, false, false, false, false, false, false, false, false, true]) (by kernel_rfl) ?_
      simp only [↓evd, evu, evf, implies_true, reduceCtorEq, Nat.reduceEqDiff, ↓reduceIte, Nat.reduceAdd, Nat.reduceLeDiff, Nat.reduceLT, Nat.reduceMul, Int.reduceLT, Int.reduceLE, Int.reduceToNat, evz, e0, e3, e4, eU8s, hlt']
      refine MSpec.of (ehead_at hE2) ⟨.inr Keeps.rfl, ?_⟩
      simp only [↓evd, evu, evf, implies_true, reduceCtorEq, Nat.reduceEqDiff, ↓reduceIte, Nat.reduceAdd, Nat.reduceLeDiff, Nat.reduceLT, Nat.reduceMul, Int.reduceLT, Int.reduceLE, Int.reduceToNat, evz, e0, e3, e4, eU8s, hlt', hgt, h10, h26, hm26, hw1, hw2, hw3, Nat.add_zero, hn1, asByte, asBytes, aBstr, slcCells, hlet, beq_self_eq_true]
      refine (eedit_own (cs := [⟨0, 0, [letter i]⟩]) (K := ρ.next + 1) (q := 1) hE2 rfl (by rw [Heap.get_new, if_pos (Heap.new_next _ _)]; rfl) (fun hm => by have := hE.low _ hm; omega) (by simp) (by simp) hed).mono ?_
      rintro v τ2 ⟨rfl, fp2, h2, kk2, f2⟩
      simp only [↓evd, evu, evf, implies_true, reduceCtorEq, Nat.reduceEqDiff, ↓reduceIte, Nat.reduceAdd, Nat.reduceLeDiff, Nat.reduceLT, Nat.reduceMul, Int.reduceLT, Int.reduceLE, Int.reduceToNat, evz, e0, e3, e4, hs, eU8s]
      refine ⟨m - 1, by omega, i + 1, _, fp2, by omega, rfl, h2, hI.step (by omega) hb.1, hm, ?_, ?_⟩
      · intro x hx
        rcases f2 x hx with h | h
        · exact hf x h
        · simp at h; have := hK.2.2.1; omega
      · refine (hK.trans hk2 (fun x hx => nomatch hx)).trans (kk2.mono (fp' := (ρ.next + 1) :: fp) fun x hx _ => hx) ?_ |>.mono ?_
        · intro x hx
          right
          have := hK.2.2.1
          rcases List.mem_cons.1 hx with rfl | hx
          · omega
          · exact hf x hx
        · intro x hx; cases hx
    · have hlt' : ¬ (i : Int) < (gs.length : Int) := by omega
      rw [List.drop_eq_nil_of_le (by omega), madeF] at hm
      subst hm
      simp only [↓evd, evu, evf, implies_true, reduceCtorEq, Nat.reduceEqDiff, ↓reduceIte, Nat.reduceAdd, Nat.reduceLeDiff, Nat.reduceLT, Nat.reduceMul, Int.reduceLT, Int.reduceLE, Int.reduceToNat, evz, e0, e3, e4, eU8s, hlt']
      exact ⟨k, fp, rfl, hE, hf, hK⟩
  · refine ⟨0, Eng.new, fp0, by omega, ?_⟩
    simp only [↓evd, evu, evf, implies_true, reduceCtorEq, Nat.reduceEqDiff, ↓reduceIte, Nat.reduceAdd, Nat.reduceLeDiff, Nat.reduceLT, Nat.reduceMul, Int.reduceLT, Int.reduceLE, Int.reduceToNat, evz, eU8s]
    exact ⟨h0, MInv.new, rfl, hf0, k0⟩
end Go.Proofs.YtcchmmjjfglpgaaGreat.M
set_option linter.unusedSimpArgs false
set_option linter.unusedVariables false
set_option maxRecDepth 100000
namespace Go.Proofs.YtcchmmjjfglpgaaGreat.M
open Go Go.Mini
attribute [local congr] go1_congr goM_congr goG_congr goV_congr drawwp_congr Xwp_congr
/-! ### Groups taken back -/
def togsE (E : Eng) : List Int → Eng × Int
  | [] => (E, 0)
  | g :: l => if (toggleE E g).2.2 ≠ 0 then (E, (toggleE E g).2.2) else togsE (toggleE E g).1 l
def allE (E : Eng) (l : List Int) : Eng × Int × Int := if (togsE E l).2 ≠ 0 then (E, 0, (togsE E l).2) else ((togsE E l).1, ((togsE E l).1.R.head : Nat), 0)
set_option maxHeartbeats 2000000 in
theorem all_at {σ : Heap} {k : Nat} {E E' : Eng} {fp : List Nat} {n c : Int} (h : IsEng σ k E fp) {l : List Int} (hl : l.length ≤ 1000000) (e : allE E l = (E', n, c)) :
    MSpec Tryz.prog n_undo_All [.ptr (.new k) 0, ints l] σ fun v τ => v = .tup [.int .i64 n, .int .i64 c] ∧ ∃ fp', IsEng τ k E' fp' ∧ Keep fp σ τ ∧ Fresh fp σ fp' := by
  refine spec_of_awp mixed c_undo_All (Nat.le_of_ble_eq_true rfl) ?_
  unfold f_undo_All
  have hlow := h.low
  simp only [↓evd, evu, evf, implies_true, reduceCtorEq, Nat.reduceEqDiff, ↓reduceIte, Nat.reduceAdd, Nat.reduceLeDiff, Nat.reduceLT, Nat.reduceMul, Int.reduceLT, Int.reduceLE, Int.reduceToNat, evz]
  refine (ecopy_at h).mono ?_
  rintro v τ ⟨k', kr', fpr', rfl, hC, hf', hK⟩
  simp only [↓evd, evu, evf, implies_true, reduceCtorEq, Nat.reduceEqDiff, ↓reduceIte, Nat.reduceAdd, Nat.reduceLeDiff, Nat.reduceLT, Nat.reduceMul, Int.reduceLT, Int.reduceLE, Int.reduceToNat, evz]
  refine awp_loop (fun m fr ρ => ∃ i N fpN, m + i = l.length ∧ fr.get 0 = .ptr (.new k) 0 ∧ fr.get 6 = .ptr (.new k') 0 ∧ fr.get 13 = ints l ∧ fr.get 14 = .int .i64 (l.length : Nat) ∧ fr.get 15 = .int .i64 (i : Nat) ∧ IsEng ρ k' N fpN ∧ (∀ x ∈ fpN, σ.next ≤ x) ∧ togsE N (l.drop i) = togsE E l ∧ Keep [] σ ρ) ?_ (m := l.length) ?_
  · rintro m fr ρ ⟨i, N, fpN, hi, e0, e6, e13, e14, e15, hN, hfN, ht, hKr⟩
    have hE := h.keep hKr (fun y _ => by simp)
    by_cases hlt : i < l.length
    · have hlt' : (i : Int) < (l.length : Int) := by omega
      have hs := wrap_succ (i := i) (by omega)
      have hgt := map_get (AVal.int .i64 ·) l i hlt
      rw [List.drop_eq_getElem_cons hlt, togsE] at ht
      generalize l[i] = g at hgt ht
      rcases htg : toggleE N g with ⟨N', n', c'⟩
      rw [htg] at ht
      simp only at ht
      have htog := etoggle_at hN htg
      simp only [↓evd, evu, evf, implies_true, reduceCtorEq, Nat.reduceEqDiff, ↓reduceIte, Nat.reduceAdd, Nat.reduceLeDiff, Nat.reduceLT, Nat.reduceMul, Int.reduceLT, Int.reduceLE, Int.reduceToNat, evz, e0, e6, e13, e14, e15, hlt', hgt]
      refine htog.mono ?_
      rintro v τ1 ⟨rfl, fp1, h1, kk1, f1⟩
      have hK1 : Keep [] σ τ1 := (hKr.trans kk1 (fun x hx => .inr (hfN x hx)))
      by_cases hc : c' = 0
      · subst hc
        rw [if_neg (by simp)] at ht
        have hb : ((0 : Int) != 0) = false := rfl
        simp only [↓evd, evu, evf, implies_true, reduceCtorEq, Nat.reduceEqDiff, ↓reduceIte, Nat.reduceAdd, Nat.reduceLeDiff, Nat.reduceLT, Nat.reduceMul, Int.reduceLT, Int.reduceLE, Int.reduceToNat, evz, e0, e6, e13, e14, e15, hb, hs]
        refine ⟨m - 1, by omega, i + 1, N', fp1, by omega, rfl, h1, fun x hx => ?_, ht, hK1⟩
        rcases f1 x hx with h | h
        · exact hfN x h
        · have := hKr.2.2.1; omega
      · rw [if_pos hc] at ht
        have hb : (c' != 0) = true := by simpa using hc
        have : allE E l = (E, 0, c') := by rw [allE, ← ht]; simp only [if_pos hc]
        rw [this] at e; cases e
        simp only [↓evd, evu, evf, implies_true, reduceCtorEq, Nat.reduceEqDiff, ↓reduceIte, Nat.reduceAdd, Nat.reduceLeDiff, Nat.reduceLT, Nat.reduceMul, Int.reduceLT, Int.reduceLE, Int.reduceToNat, evz, e0, e6, e13, e14, e15, hb]
        exact ⟨fp, h.keep hK1 (fun y _ => by simp), hK1.mono (fun x hx => nomatch hx), fun x hx => .inl hx⟩
    · have hlt' : ¬ (i : Int) < (l.length : Int) := by omega
      rw [List.drop_eq_nil_of_le (by omega), togsE] at ht
      have : allE E l = (N, ((N.R.head : Nat) : Int), 0) := by rw [allE, ← ht]; simp
      rw [this] at e; cases e
      obtain ⟨x, kr, fpr, hA, rfl⟩ := hE
      obtain ⟨x2, kr2, fpr2, hA2, rfl⟩ := hN
      have hb := hA.blk
      have hb2 := hA2.blk
      have hne : k ≠ k' := fun e => by have := hfN k' (by simp); have := hlow k (by simp); omega
      have hkf : k ∉ fpr2 := fun hm => by have := hfN k (List.mem_cons_of_mem _ hm); have := hlow k (by simp); omega
      have hT : IsEng (ρ.set k (.cells [x2, .ptr (.new kr2) 0] none)) k E' (k :: fpr2) := IsEng.took hA.low hA2.revs.low hA2.lst hA2.revs hkf hA2.ok
      have hfr : Fresh (k :: fpr) σ (k :: fpr2) := fun x hx => by
        rcases List.mem_cons.1 hx with rfl | hx
        · exact .inl (by simp)
        · exact .inr (hfN x (List.mem_cons_of_mem _ hx))
      rcases hA2.lst with rfl | ⟨rfl, _⟩
      all_goals
        simp only [↓evd, evu, evf, implies_true, reduceCtorEq, Nat.reduceEqDiff, ↓reduceIte, Nat.reduceAdd, Nat.reduceLeDiff, Nat.reduceLT, Nat.reduceMul, Int.reduceLT, Int.reduceLE, Int.reduceToNat, evz, e0, e6, e13, e14, e15, hlt', hb, hb2]
        refine MSpec.of (ehead_at hT) ?_
        simp only [↓evd, evu, evf, implies_true, reduceCtorEq, Nat.reduceEqDiff, ↓reduceIte, Nat.reduceAdd, Nat.reduceLeDiff, Nat.reduceLT, Nat.reduceMul, Int.reduceLT, Int.reduceLE, Int.reduceToNat, evz]
        exact ⟨k :: fpr2, hT, (hKr.mono (fun x hx => nomatch hx)).set (.inl (by simp)) _, hfr⟩
  · refine ⟨0, E, k' :: fpr', by omega, ?_⟩
    simp only [↓evd, evu, evf, implies_true, reduceCtorEq, Nat.reduceEqDiff, ↓reduceIte, Nat.reduceAdd, Nat.reduceLeDiff, Nat.reduceLT, Nat.reduceMul, Int.reduceLT, Int.reduceLE, Int.reduceToNat, evz]
    exact ⟨⟨_, _, _, hC, rfl⟩, hf', hK⟩
end Go.Proofs.YtcchmmjjfglpgaaGreat.M
set_option linter.unusedSimpArgs false
set_option linter.unusedVariables false
set_option maxRecDepth 100000
namespace Go.Proofs.YtcchmmjjfglpgaaGreat.M
open Go Go.Mini
attribute [local congr] go1_congr goM_congr goG_congr goV_congr drawwp_congr Xwp_congr
/-! ### slices.DeleteFunc of ints -/
def iv (l : List Int) : List AVal := l.map (AVal.int .i64 ·)
theorem iv_len (l : List Int) : (iv l).length = l.length := List.length_map _
theorem iv_get {l : List Int} {i : Nat} (h : i < l.length) : (iv l)[i]? = some (.int .i64 l[i]) := map_get _ _ _ h
def firstI (p : Int → Bool) : List Int → Nat → Int
  | x :: l, i => if p x then (i : Int) else firstI p l (i + 1)
  | [], _ => -1
theorem indexI_call (σ : Heap) (K : Nat) (l : List Int) (g : FuncId) (caps : List AVal) (p : Int → Bool) (hl : l.length ≤ 1000000) (hg : σ.get K = some (.cells (iv l) none)) (hp : ∀ x ∈ l, ACall Tryz.prog g (.int .i64 x :: caps) σ (.bool (p x)) σ) :
    ACall Tryz.prog n_slices_IndexFunc_int_int [.slc (.new K) 0 l.length (.ex l.length), .fn g caps] σ (.int .i64 (firstI p l 0)) σ := by
  refine exact_call (spec_of_awp mixed c_slices_IndexFunc_int_int (Nat.le_of_ble_eq_true rfl) ?_)
  unfold f_slices_IndexFunc_int_int
  simp only [↓evd, evu, evf, implies_true, reduceCtorEq, Nat.reduceEqDiff, ↓reduceIte, Nat.reduceAdd, Nat.reduceLeDiff, Nat.reduceLT, Nat.reduceMul, Int.reduceLT, Int.reduceLE, Int.reduceToNat, evz]
  refine awp_loop (fun m fr τ => ∃ i, m + i = l.length ∧ fr.get 0 = .slc (.new K) 0 l.length (.ex l.length) ∧ fr.get 1 = .fn g caps ∧ fr.get 7 = .int .i64 (l.length : Nat) ∧ fr.get 8 = .int .i64 (i : Nat) ∧ firstI p (l.drop i) i = firstI p l 0 ∧ τ = σ) ?_ (m := l.length) ?_
  · rintro m fr τ ⟨i, hi, e0, e1, e7, e8, hf, rfl⟩
    by_cases hlt : i < l.length
    · have hlt' : (i : Int) < (l.length : Int) := by omega
      have hs := wrap_succ (i := i) (by omega)
      have hgt := iv_get hlt
      have hpx := hp _ (List.getElem_mem hlt)
      rw [List.drop_eq_getElem_cons hlt, firstI] at hf
      generalize l[i] = x at hgt hpx hf
      simp only [↓evd, evu, evf, implies_true, reduceCtorEq, Nat.reduceEqDiff, ↓reduceIte, Nat.reduceAdd, Nat.reduceLeDiff, Nat.reduceLT, Nat.reduceMul, Int.reduceLT, Int.reduceLE, Int.reduceToNat, evz, e0, e1, e7, e8, hlt', hg, hgt]
      refine MSpec.of hpx ?_
      cases hpb : p x with
      | true =>
        rw [hpb, if_pos rfl] at hf
        simp only [↓evd, evu, evf, implies_true, reduceCtorEq, Nat.reduceEqDiff, ↓reduceIte, Nat.reduceAdd, Nat.reduceLeDiff, Nat.reduceLT, Nat.reduceMul, Int.reduceLT, Int.reduceLE, Int.reduceToNat, evz, e0, e1, e7, e8, hf]
      | false =>
        rw [hpb, if_neg (by simp)] at hf
        simp only [↓evd, evu, evf, implies_true, reduceCtorEq, Nat.reduceEqDiff, ↓reduceIte, Nat.reduceAdd, Nat.reduceLeDiff, Nat.reduceLT, Nat.reduceMul, Int.reduceLT, Int.reduceLE, Int.reduceToNat, evz, e0, e1, e7, e8, hs]
        exact ⟨m - 1, by omega, i + 1, by omega, rfl, hf⟩
    · have hlt' : ¬ (i : Int) < (l.length : Int) := by omega
      rw [List.drop_eq_nil_of_le (by omega), firstI] at hf
      simp only [↓evd, evu, evf, implies_true, reduceCtorEq, Nat.reduceEqDiff, ↓reduceIte, Nat.reduceAdd, Nat.reduceLeDiff, Nat.reduceLT, Nat.reduceMul, Int.reduceLT, Int.reduceLE, Int.reduceToNat, evz, e0, e1, e7, e8, hlt', hf]
  · refine ⟨0, by omega, ?_⟩
    simp only [↓evd, evu, evf, implies_true, reduceCtorEq, Nat.reduceEqDiff, ↓reduceIte, Nat.reduceAdd, Nat.reduceLeDiff, Nat.reduceLT, Nat.reduceMul, Int.reduceLT, Int.reduceLE, Int.reduceToNat, evz]
theorem firstI_none (p : Int → Bool) : ∀ (l : List Int) (i : Nat), firstI p l i = -1 → l.filter (fun x => !p x) = l
  | [], i, _ => rfl
  | x :: l, i, h => by
    rw [firstI] at h
    split at h
    · omega
    · rename_i hp
      rw [List.filter_cons, if_pos (by simpa using hp), firstI_none p l _ h]
theorem firstI_some (p : Int → Bool) : ∀ (l : List Int) (i : Nat), firstI p l i ≠ -1 → ∃ j : Nat, firstI p l i = ((i + j : Nat) : Int) ∧ j < l.length ∧ (l.take (j + 1)).filter (fun x => !p x) = l.take j
  | [], i, h => absurd rfl h
  | x :: l, i, h => by
    rw [firstI] at h ⊢
    split
    · rename_i hp
      refine ⟨0, rfl, by simp, ?_⟩
      simp [hp]
    · rename_i hp
      rw [if_neg hp] at h
      obtain ⟨j, h1, h2, h3⟩ := firstI_some p l (i + 1) h
      refine ⟨j + 1, by rw [h1]; omega, by simp; omega, ?_⟩
      rw [List.take_succ_cons, List.filter_cons, if_pos (by simpa using hp), h3, List.take_succ_cons]
set_option maxHeartbeats 4000000 in
theorem deleteI_spec (σ : Heap) (K : Nat) (l : List Int) (g : FuncId) (caps : List AVal) (p : Int → Bool) (hl : l.length ≤ 1000000) (hg : σ.get K = some (.cells (iv l) none)) (hp : ∀ τ, Keep [K] σ τ → ∀ x ∈ l, ACall Tryz.prog g (.int .i64 x :: caps) τ (.bool (p x)) τ) (hKn : K < σ.next) :
    MSpec Tryz.prog n_slices_DeleteFunc_int_int [.slc (.new K) 0 l.length (.ex l.length), .fn g caps] σ fun v τ => v = .slc (.new K) 0 (l.filter (fun x => !p x)).length (.ex l.length) ∧ Keep [K] σ τ ∧ ∃ cs, τ.get K = some (.cells cs none) ∧ cs.length = l.length ∧ cs.take (l.filter (fun x => !p x)).length = iv (l.filter (fun x => !p x)) := by
  refine spec_of_awp mixed c_slices_DeleteFunc_int_int (Nat.le_of_ble_eq_true rfl) ?_
  unfold f_slices_DeleteFunc_int_int
  have hidx := indexI_call σ K l g caps p hl hg (hp σ (Keep.refl _ _))
  simp only [↓evd, evu, evf, implies_true, reduceCtorEq, Nat.reduceEqDiff, ↓reduceIte, Nat.reduceAdd, Nat.reduceLeDiff, Nat.reduceLT, Nat.reduceMul, Int.reduceLT, Int.reduceLE, Int.reduceToNat, evz]
  refine MSpec.of hidx ?_
  by_cases h0 : firstI p l 0 = -1
  · have hb : (firstI p l 0 == -1) = true := by simpa using h0
    have hf := firstI_none p l 0 h0
    simp only [↓evd, evu, evf, implies_true, reduceCtorEq, Nat.reduceEqDiff, ↓reduceIte, Nat.reduceAdd, Nat.reduceLeDiff, Nat.reduceLT, Nat.reduceMul, Int.reduceLT, Int.reduceLE, Int.reduceToNat, evz, hb]
    rw [hf]
    exact ⟨rfl, Keep.refl _ _, iv l, hg, iv_len l, List.take_of_length_le (by rw [iv_len]; exact Nat.le_refl _)⟩
  have hb : (firstI p l 0 == -1) = false := by simpa using h0
  obtain ⟨j0, h1, h2, h3⟩ := firstI_some p l 0 h0
  rw [Nat.zero_add] at h1
  rw [h1] at hb
  have hw0 := wrap_succ (i := j0) (by omega)
  rw [h1]
  simp only [↓evd, evu, evf, implies_true, reduceCtorEq, Nat.reduceEqDiff, ↓reduceIte, Nat.reduceAdd, Nat.reduceLeDiff, Nat.reduceLT, Nat.reduceMul, Int.reduceLT, Int.reduceLE, Int.reduceToNat, evz, hb, hw0]
  refine awp_loop (fun m fr τ => ∃ j kept mid, m + j = l.length ∧ j ≤ l.length ∧ fr.get 0 = .slc (.new K) 0 l.length (.ex l.length) ∧ fr.get 1 = .fn g caps ∧ fr.get 5 = .int .i64 (kept.length : Nat) ∧ fr.get 6 = .int .i64 (j : Nat) ∧ kept = (l.take j).filter (fun x => !p x) ∧ mid ≠ [] ∧ (kept ++ mid).length = j ∧ τ.get K = some (.cells (iv (kept ++ mid ++ l.drop j)) none) ∧ Keep [K] σ τ) ?_ (m := l.length - (j0 + 1)) ?_
  · rintro m fr τ ⟨j, kept, mid, hm, hjl, e0, e1, e5, e6, hk, hmid, hkm, hcs, hK⟩
    by_cases hlt : j < l.length
    · have hlt' : (j : Int) < (l.length : Int) := by omega
      have hs := wrap_succ (i := j) (by omega)
      have hlen : (kept ++ mid ++ l.drop j).length = l.length := by rw [List.length_append, hkm, List.length_drop]; omega
      have hgt : (iv (kept ++ mid ++ l.drop j))[j]? = some (.int .i64 l[j]) := by
        rw [iv, List.getElem?_map, List.getElem?_append_right (by omega), hkm, Nat.sub_self, List.getElem?_drop, Nat.add_zero, List.getElem?_eq_getElem hlt]; rfl
      have hpx := hp τ hK _ (List.getElem_mem hlt)
      have htk : (l.take (j + 1)).filter (fun x => !p x) = kept ++ (if !p l[j] then [l[j]] else []) := by rw [take_filter _ hlt, ← hk]
      have hdr := List.drop_eq_getElem_cons hlt
      generalize l[j] = x at hgt hpx htk hdr
      simp only [↓evd, evu, evf, implies_true, reduceCtorEq, Nat.reduceEqDiff, ↓reduceIte, Nat.reduceAdd, Nat.reduceLeDiff, Nat.reduceLT, Nat.reduceMul, Int.reduceLT, Int.reduceLE, Int.reduceToNat, evz, e0, e1, e5, e6, hlt', hcs, hgt]
      refine MSpec.of hpx ?_
      cases hpb : p x with
      | true =>
        rw [hpb] at htk
        simp only [Bool.not_true, Bool.false_eq_true, if_false, List.append_nil] at htk
        simp only [↓evd, evu, evf, implies_true, reduceCtorEq, Nat.reduceEqDiff, ↓reduceIte, Nat.reduceAdd, Nat.reduceLeDiff, Nat.reduceLT, Nat.reduceMul, Int.reduceLT, Int.reduceLE, Int.reduceToNat, evz, e0, e1, e5, e6, hs]
        refine ⟨m - 1, by omega, j + 1, kept, mid ++ [x], by omega, by omega, rfl, rfl, htk.symm, by simp, by simp at hkm ⊢; omega, ?_, hK⟩
        rw [hcs, hdr]; simp
      | false =>
        rw [hpb] at htk
        simp only [Bool.not_false, if_true] at htk
        obtain ⟨y, mid', rfl⟩ : ∃ y mid', mid = y :: mid' := by
          cases mid with
          | nil => exact absurd rfl hmid
          | cons y mid' => exact ⟨y, mid', rfl⟩
        have hkl : kept.length < l.length := by simp at hkm; omega
        have hkl' : (kept.length : Int) < (l.length : Int) := by omega
        have hs2 := wrap_succ (i := kept.length) (by omega)
        have hlen2 : (iv (kept ++ y :: mid' ++ l.drop j)).length = l.length := by rw [iv_len]; exact hlen
        have hle : decide (kept.length + 1 ≤ (iv (kept ++ y :: mid' ++ l.drop j)).length) = true := by rw [hlen2]; simp; omega
        have hov := over_set (l := iv (kept ++ y :: mid' ++ l.drop j)) (j := kept.length) (x := .int .i64 x) (by omega)
        have hset : (iv (kept ++ y :: mid' ++ l.drop j)).set kept.length (.int .i64 x) = iv (kept ++ [x] ++ (mid' ++ [x]) ++ l.drop (j + 1)) := by
          rw [hdr]
          simp only [iv, List.map_append, List.map_cons, List.append_assoc]
          rw [List.set_append_right _ _ (by simp)]
          simp
        rw [hset] at hov
        simp only [↓evd, evu, evf, implies_true, reduceCtorEq, Nat.reduceEqDiff, ↓reduceIte, Nat.reduceAdd, Nat.reduceLeDiff, Nat.reduceLT, Nat.reduceMul, Int.reduceLT, Int.reduceLE, Int.reduceToNat, evz, e0, e1, e5, e6, hkl', hcs, hle, hov, hs, hs2]
        refine ⟨m - 1, by omega, j + 1, kept ++ [x], mid' ++ [x], by omega, by omega, by simp, rfl, htk.symm, by simp, by simp at hkm ⊢; omega, ?_, hK.set (.inl (by simp)) _⟩
        simp
    · have hjl2 : j = l.length := by omega
      subst hjl2
      have hlt' : ¬ (l.length : Int) < (l.length : Int) := by omega
      rw [List.take_length] at hk
      rw [List.drop_length, List.append_nil] at hcs
      have hkl : kept.length < l.length := by
        have : 0 < mid.length := List.length_pos_iff.2 hmid
        simp at hkm; omega
      have b3 : aBound none l.length l.length = some l.length := rfl
      have b1 : aBound (some (.int .i64 (kept.length : Nat))) l.length l.length = some kept.length := by simp only [aBound]; rw [if_pos (by simp; omega)]; rfl
      have b2 : aBound (some (.int .i64 (kept.length : Nat))) 0 l.length = some kept.length := by simp only [aBound]; rw [if_pos (by simp; omega)]; rfl
      have b4 : aBound none 0 kept.length = some 0 := rfl
      have q1 : aSlc 1 (.slc (.new K) 0 l.length (.ex l.length)) (some (.int .i64 (kept.length : Nat))) none none = some (.slc (.new K) kept.length (l.length - kept.length) (.ex (l.length - kept.length))) := by
        simp only [aSlc, b3, b2, Option.isSome_none, Bool.false_and, Bool.false_eq_true, if_false, Nat.mul_one, Nat.zero_add, if_neg (show ¬ l.length = kept.length by omega)]
      have q2 : aSlc 1 (.slc (.new K) 0 l.length (.ex l.length)) none (some (.int .i64 (kept.length : Nat))) none = some (.slc (.new K) 0 kept.length (.ex l.length)) := by
        simp only [aSlc, b3, b1, b4, Option.isSome_none, Bool.false_and, Bool.false_eq_true, if_false, Nat.zero_mul, Nat.add_zero, if_neg (show ¬ l.length = 0 by omega), Nat.sub_zero]
      have hivl : (iv (kept ++ mid)).length = l.length := by rw [iv_len, hkm]
      have hzl : ((List.replicate (l.length - kept.length) [AVal.int IntKind.i64 0]).flatten).length = l.length - kept.length := by simp
      have hzc : ((List.replicate (l.length - kept.length) [AVal.int IntKind.i64 0]).flatten).all AVal.isCell = true := by simp [AVal.isCell]
      obtain ⟨zs, hze⟩ : ∃ zs, (List.replicate (l.length - kept.length) [AVal.int IntKind.i64 0]).flatten = zs := ⟨_, rfl⟩
      rw [hze] at hzl hzc
      have hle : decide (kept.length + (l.length - kept.length) ≤ l.length) = true := by simp; omega
      have hdrop : (iv (kept ++ mid)).drop (kept.length + (l.length - kept.length)) = [] := List.drop_eq_nil_of_le (by omega)
      have htake : (iv (kept ++ mid)).take kept.length = iv kept := by rw [iv, List.map_append, List.take_append_of_le_length (by simp), List.take_of_length_le (by simp)]; rfl
      simp only [↓evd, evu, evf, implies_true, reduceCtorEq, Nat.reduceEqDiff, ↓reduceIte, Nat.reduceAdd, Nat.reduceLeDiff, Nat.reduceLT, Nat.reduceMul, Int.reduceLT, Int.reduceLE, Int.reduceToNat, evz, e0, e1, e5, e6, hlt', q1, hcs, hze, hzl, hzc, hivl, hle, hdrop, htake, q2]
      rw [← hk]
      refine ⟨rfl, hK.set (.inl (by simp)) _, iv kept ++ zs, ?_, ?_, ?_⟩
      · rfl
      · rw [List.length_append, iv_len, hzl]; omega
      · rw [List.take_append_of_le_length (by rw [iv_len]; exact Nat.le_refl _), List.take_of_length_le (by rw [iv_len]; exact Nat.le_refl _)]
  · refine ⟨j0 + 1, l.take j0, [l[j0]], by omega, by omega, ?_⟩
    have hlj : (l.take j0).length = j0 := by simp; omega
    have happ : l.take j0 ++ [l[j0]] = l.take (j0 + 1) := (List.take_succ_eq_append_getElem h2).symm
    simp only [↓evd, evu, evf, implies_true, reduceCtorEq, Nat.reduceEqDiff, ↓reduceIte, Nat.reduceAdd, Nat.reduceLeDiff, Nat.reduceLT, Nat.reduceMul, Int.reduceLT, Int.reduceLE, Int.reduceToNat, evz, hlj]
    refine ⟨h3.symm, by rw [happ, List.length_take]; omega, by rw [happ, List.take_append_drop]; exact hg, Keep.refl _ _⟩
end Go.Proofs.YtcchmmjjfglpgaaGreat.M
set_option linter.unusedSimpArgs false
set_option linter.unusedVariables false
set_option maxRecDepth 100000
namespace Go.Proofs.YtcchmmjjfglpgaaGreat.M
open Go Go.Mini
attribute [local congr] go1_congr goM_congr goG_congr goV_congr drawwp_congr Xwp_congr
theorem Keep.fresh {σ τ ρ : Heap} {fp : List Nat} (h : Keep [] σ τ) (h' : Keep fp τ ρ) (hf : ∀ x ∈ fp, σ.next ≤ x) : Keep [] σ ρ :=
  h.trans h' (fun x hx => .inr (hf x hx))
theorem holds1_call {σ : Heap} {b : Nat} {u : List Int} (hb : σ.get b = some (.cells [ints u] none)) (hu : u.length ≤ 1000000) (x : Int) : ACall Tryz.prog n_undo_holds_1 [.int .i64 x, .ptr (.new b) 0] σ (.bool (decide (x ∈ u))) σ := by
  refine exact_call (spec_of_awp mixed c_undo_holds_1 (Nat.le_of_ble_eq_true rfl) ?_)
  unfold f_undo_holds_1
  have hc := contains_call σ u x (by omega)
  simp only [ints] at hc hb
  simp only [↓evd, evu, evf, implies_true, reduceCtorEq, Nat.reduceEqDiff, ↓reduceIte, Nat.reduceAdd, Nat.reduceLeDiff, Nat.reduceLT, Nat.reduceMul, Int.reduceLT, Int.reduceLE, Int.reduceToNat, evz, hb]
  refine MSpec.of hc ?_
  simp only [↓evd, evu, evf, implies_true, reduceCtorEq, Nat.reduceEqDiff, ↓reduceIte, Nat.reduceAdd, Nat.reduceLeDiff, Nat.reduceLT, Nat.reduceMul, Int.reduceLT, Int.reduceLE, Int.reduceToNat, evz]
/-- the groups that aren't undone -/
def held (E : Eng) : List Int := E.R.grp.filter fun x => !decide (x ∈ E.R.undone (E.R.head : Nat))
theorem ivf_cell (l : List Int) : ((l.map (AVal.int .i64 ·)).flatMap AVal.cells) = iv l := by
  induction l with
  | nil => rfl
  | cons a l ih => simp only [List.map_cons, List.flatMap_cons, ih]; rfl
theorem ivf_row (l : List Int) : ∀ z ∈ l.map (AVal.int .i64 ·), z.cells.length = 1 := by
  intro z hz; rw [List.mem_map] at hz; obtain ⟨x, _, rfl⟩ := hz; rfl
theorem iv_all (l : List Int) : (iv l).all AVal.isCell = true := by
  rw [List.all_eq_true]; intro z hz; simp only [iv, List.mem_map] at hz; obtain ⟨x, _, rfl⟩ := hz; rfl
set_option maxHeartbeats 2000000 in
theorem eholds_at {σ : Heap} {k : Nat} {E : Eng} {fp : List Nat} (h : IsEng σ k E fp) : ACall Tryz.prog n_undo_holds [.ptr (.new k) 0] σ (ints (held E)) σ := by
  have hok := h.ok.2
  have hgl := rise_len hok.grp
  have huf := undone_few hok (E.R.head : Nat)
  suffices hs : MSpec Tryz.prog n_undo_holds [.ptr (.new k) 0] σ fun v τ => ∃ cs, v = .slc (.new σ.next) 0 (held E).length (.ex E.R.grp.length) ∧ Keep [] σ τ ∧ τ.get σ.next = some (.cells cs none) ∧ cs.length = E.R.grp.length ∧ cs.take (held E).length = iv (held E) by
    obtain ⟨v, τ, ha, cs, rfl, hK, hg, hl, ht⟩ := hs
    have hle : (held E).length ≤ E.R.grp.length := List.length_filter_le _ _
    have hsee : Sees τ (.slc (.new σ.next) 0 (held E).length (.ex E.R.grp.length)) (τ.set σ.next .dead) (ints (held E)) := by
      refine Sees.own hg (by simp) (ivf_row _) ?_ (fun c hc => by cases hc; exact hle)
      rw [List.drop_zero, Nat.mul_one, ht, ivf_cell]
    exact acall_gc (acall_see ha hsee) (ints_pure _) hK.1 hK.2.1 fun q hq => by
      rw [Heap.get_set, if_neg (by omega)]; exact hK.2.2.2 q hq (by simp)
  refine spec_of_awp mixed c_undo_holds (Nat.le_of_ble_eq_true rfl) ?_
  unfold f_undo_holds
  have hm0 : (0 : Int) ≤ (E.R.grp.length : Int) := by omega
  have hm2 : E.R.grp.length ≤ maxRoom := by unfold maxRoom; omega
  have hm3 : E.R.grp.length * 8 ≤ maxRoom := by unfold maxRoom; omega
  have hm4 : (E.R.grp.length : Int) ≤ 2 ^ 62 := by omega
  have hgr := egroups_at h
  simp only [ints] at hgr
  simp only [↓evd, evu, evf, implies_true, reduceCtorEq, Nat.reduceEqDiff, ↓reduceIte, Nat.reduceAdd, Nat.reduceLeDiff, Nat.reduceLT, Nat.reduceMul, Int.reduceLT, Int.reduceLE, Int.reduceToNat, evz]
  refine MSpec.of hgr ?_
  obtain ⟨σ1, g1, g2, g3, g4, g5, g6⟩ := copy_whole (σ := σ.new (.cells (List.replicate E.R.grp.length [AVal.int IntKind.i64 0]).flatten none)) (K := σ.next) (k := 1) (els := E.R.grp.map (AVal.int .i64 ·)) (cap := .ex E.R.grp.length)
    (by rw [Heap.get_new, if_pos rfl]) (ivf_row _) (by simp) (by rw [ivf_cell]; exact iv_all _)
  rw [List.length_map] at g1
  rw [ivf_cell] at g2
  have hK1 : Keep [] σ σ1 := ⟨g3, g4, by rw [g5]; simp, fun q hq _ => by rw [g6 q (by omega), Heap.get_new, if_neg (by omega)]⟩
  have hn1 : σ1.next = σ.next + 1 := g5
  have h1 := h.keep hK1 (fun y _ => by simp)
  have hun := eundone_at h1
  simp only [ints] at hun
  simp only [↓evd, evu, evf, implies_true, reduceCtorEq, Nat.reduceEqDiff, ↓reduceIte, Nat.reduceAdd, Nat.reduceLeDiff, Nat.reduceLT, Nat.reduceMul, Int.reduceLT, Int.reduceLE, Int.reduceToNat, evz, hm0, hm2, hm3, hm4]
  simp only [↓evd, evu, evf, implies_true, reduceCtorEq, Nat.reduceEqDiff, ↓reduceIte, Nat.reduceAdd, Nat.reduceLeDiff, Nat.reduceLT, Nat.reduceMul, Int.reduceLT, Int.reduceLE, Int.reduceToNat, evz, g1]
  refine MSpec.of hun ?_
  have hb : ((σ1.new (.cells [.nils] none)).set σ1.next (.cells [ints (E.R.undone (E.R.head : Nat))] none)).get σ1.next = some (.cells [ints (E.R.undone (E.R.head : Nat))] none) := by rw [Heap.get_set, if_pos rfl]
  have hg2 : ((σ1.new (.cells [.nils] none)).set σ1.next (.cells [ints (E.R.undone (E.R.head : Nat))] none)).get σ.next = some (.cells (iv E.R.grp) none) := by
    rw [Heap.get_set, if_neg (by omega), Heap.get_new, if_neg (by omega)]; exact g2
  have hdel := deleteI_spec _ σ.next E.R.grp n_undo_holds_1 [.ptr (.new σ1.next) 0] (fun x => decide (x ∈ E.R.undone (E.R.head : Nat))) (by omega) hg2
    (fun τ hK x _ => holds1_call (by rw [hK.2.2.2 σ1.next (by simp) (by simp; omega)]; exact hb) huf x) (by simp; omega)
  simp only [ints] at hdel
  simp only [↓evd, evu, evf, implies_true, reduceCtorEq, Nat.reduceEqDiff, ↓reduceIte, Nat.reduceAdd, Nat.reduceLeDiff, Nat.reduceLT, Nat.reduceMul, Int.reduceLT, Int.reduceLE, Int.reduceToNat, evz]
  refine hdel.mono ?_
  rintro v τ ⟨rfl, hK2, cs, c1, c2, c3⟩
  simp only [↓evd, evu, evf, implies_true, reduceCtorEq, Nat.reduceEqDiff, ↓reduceIte, Nat.reduceAdd, Nat.reduceLeDiff, Nat.reduceLT, Nat.reduceMul, Int.reduceLT, Int.reduceLE, Int.reduceToNat, evz]
  refine ⟨cs, rfl, ?_, c1, c2, c3⟩
  exact (hK1.junk _ _).fresh hK2 (fun x hx => by simp at hx; omega)
/-- undo.Last -/
def lastE (E : Eng) : Eng × Int × Int := if (held E).length = 0 then (E, 0, 210) else toggleE E ((held E).getLastD 0)
theorem elast_at {σ : Heap} {k : Nat} {E E' : Eng} {fp : List Nat} {n c : Int} (h : IsEng σ k E fp) (e : lastE E = (E', n, c)) : MSpec Tryz.prog n_undo_Last [.ptr (.new k) 0] σ fun v τ => v = .tup [.int .i64 n, .int .i64 c] ∧ ∃ fp', IsEng τ k E' fp' ∧ Keep fp σ τ ∧ Fresh fp σ fp' := by
  refine spec_of_awp mixed c_undo_Last (Nat.le_of_ble_eq_true rfl) ?_
  unfold f_undo_Last
  have hh := eholds_at h
  have hgl := rise_len h.ok.2.grp
  have hle : (held E).length ≤ E.R.grp.length := List.length_filter_le _ _
  simp only [ints] at hh
  simp only [↓evd, evu, evf, implies_true, reduceCtorEq, Nat.reduceEqDiff, ↓reduceIte, Nat.reduceAdd, Nat.reduceLeDiff, Nat.reduceLT, Nat.reduceMul, Int.reduceLT, Int.reduceLE, Int.reduceToNat, evz]
  refine MSpec.of hh ?_
  by_cases h0 : (held E).length = 0
  · have hb : (((held E).length : Int) == 0) = true := by simp [h0]
    rw [lastE, if_pos h0] at e
    cases e
    simp only [↓evd, evu, evf, implies_true, reduceCtorEq, Nat.reduceEqDiff, ↓reduceIte, Nat.reduceAdd, Nat.reduceLeDiff, Nat.reduceLT, Nat.reduceMul, Int.reduceLT, Int.reduceLE, Int.reduceToNat, evz, hb]
    exact ⟨fp, h, Keep.refl _ _, fun x hx => .inl hx⟩
  · have hb : (((held E).length : Int) == 0) = false := by simp; intro h; exact h0 (by rw [h]; rfl)
    rw [lastE, if_neg h0] at e
    have hw : IntKind.i64.wrap (((held E).length : Int) - 1) = (((held E).length - 1 : Nat) : Int) := by rw [wrap_id (by omega) (by omega)]; omega
    have hlt : (held E).length - 1 < (held E).length := by omega
    have hg := map_get (AVal.int .i64 ·) (held E) _ hlt
    have hla : (held E)[(held E).length - 1] = (held E).getLastD 0 := by
      rw [List.getLastD_eq_getLast?, List.getLast?_eq_getElem?, List.getElem?_eq_getElem hlt]; rfl
    rw [hla] at hg
    have htog := etoggle_at h e
    simp only [↓evd, evu, evf, implies_true, reduceCtorEq, Nat.reduceEqDiff, ↓reduceIte, Nat.reduceAdd, Nat.reduceLeDiff, Nat.reduceLT, Nat.reduceMul, Int.reduceLT, Int.reduceLE, Int.reduceToNat, evz, hb, hw, hg]
    refine htog.mono ?_
    rintro v τ ⟨rfl, fp', h1, h2, h3⟩
    simp only [↓evd, evu, evf, implies_true, reduceCtorEq, Nat.reduceEqDiff, ↓reduceIte, Nat.reduceAdd, Nat.reduceLeDiff, Nat.reduceLT, Nat.reduceMul, Int.reduceLT, Int.reduceLE, Int.reduceToNat, evz]
    exact ⟨fp', h1, h2, h3⟩
/-- undo.Without -/
def withoutE (E : Eng) (l : List Int) : AVal := if ∀ g ∈ l, g ∈ E.R.grp then .tup [.str (atomsText (E.R.head : Nat) l E.l), .int .i64 0] else .tup [.str [], .int .i64 210]
theorem ewithout_at {σ : Heap} {k : Nat} {E : Eng} {fp : List Nat} (h : IsEng σ k E fp) {l : List Int} (hl : l.length ≤ 1000000) : ACall Tryz.prog n_undo_Without [.ptr (.new k) 0, ints l] σ (withoutE E l) σ := by
  refine exact_call (spec_of_awp mixed c_undo_Without (Nat.le_of_ble_eq_true rfl) ?_)
  unfold f_undo_Without
  have hgl := rise_len h.ok.2.grp
  have hf := h.ok.1.fits h.ok.2
  have hgr := egroups_at h
  have hat := eatoms_at h
  have hhd := ehead_at h
  have htx := text_call σ E.l (E.R.head : Nat) l hl hf
  simp only [ints, eAtoms] at hgr hat htx
  simp only [↓evd, evu, evf, implies_true, reduceCtorEq, Nat.reduceEqDiff, ↓reduceIte, Nat.reduceAdd, Nat.reduceLeDiff, Nat.reduceLT, Nat.reduceMul, Int.reduceLT, Int.reduceLE, Int.reduceToNat, evz]
  refine MSpec.of hgr ?_
  simp only [↓evd, evu, evf, implies_true, reduceCtorEq, Nat.reduceEqDiff, ↓reduceIte, Nat.reduceAdd, Nat.reduceLeDiff, Nat.reduceLT, Nat.reduceMul, Int.reduceLT, Int.reduceLE, Int.reduceToNat, evz]
  refine awp_loop (fun m fr τ => ∃ i, m + i = l.length ∧ fr.get 0 = .ptr (.new k) 0 ∧ fr.get 1 = ints l ∧ fr.get 6 = ints E.R.grp ∧ fr.get 11 = ints l ∧ fr.get 12 = .int .i64 (l.length : Nat) ∧ fr.get 13 = .int .i64 (i : Nat) ∧ (∀ g ∈ l.take i, g ∈ E.R.grp) ∧ τ = σ) ?_ (m := l.length) ?_
  · rintro m fr τ ⟨i, hi, e0, e1, e6, e11, e12, e13, hin, rfl⟩
    by_cases hlt : i < l.length
    · have hlt' : (i : Int) < (l.length : Int) := by omega
      have hs := wrap_succ (i := i) (by omega)
      have hgt := map_get (AVal.int .i64 ·) l i hlt
      have htk := List.take_succ_eq_append_getElem hlt
      have hmem := List.getElem_mem hlt
      generalize l[i] = g at hgt htk hmem
      have hc := contains_call τ E.R.grp g (by omega)
      simp only [ints] at hc
      simp only [↓evd, evu, evf, implies_true, reduceCtorEq, Nat.reduceEqDiff, ↓reduceIte, Nat.reduceAdd, Nat.reduceLeDiff, Nat.reduceLT, Nat.reduceMul, Int.reduceLT, Int.reduceLE, Int.reduceToNat, evz, e0, e1, e6, e11, e12, e13, hlt', hgt]
      refine MSpec.of hc ?_
      by_cases hg : g ∈ E.R.grp
      · simp only [↓evd, evu, evf, implies_true, reduceCtorEq, Nat.reduceEqDiff, ↓reduceIte, Nat.reduceAdd, Nat.reduceLeDiff, Nat.reduceLT, Nat.reduceMul, Int.reduceLT, Int.reduceLE, Int.reduceToNat, evz, e0, e1, e6, e11, e12, e13, mem_bool hg, hs]
        refine ⟨m - 1, by omega, i + 1, by omega, rfl, fun x hx => ?_⟩
        rw [htk, List.mem_append] at hx
        rcases hx with hx | hx
        · exact hin x hx
        · rw [List.mem_singleton.1 hx]; exact hg
      · have : withoutE E l = .tup [.str [], .int .i64 210] := by rw [withoutE, if_neg (fun h => hg (h g hmem))]
        rw [this]
        simp only [↓evd, evu, evf, implies_true, reduceCtorEq, Nat.reduceEqDiff, ↓reduceIte, Nat.reduceAdd, Nat.reduceLeDiff, Nat.reduceLT, Nat.reduceMul, Int.reduceLT, Int.reduceLE, Int.reduceToNat, evz, e0, e1, e6, e11, e12, e13, not_mem_bool hg]
    · have hlt' : ¬ (i : Int) < (l.length : Int) := by omega
      rw [List.take_of_length_le (by omega)] at hin
      rw [withoutE, if_pos hin]
      simp only [↓evd, evu, evf, implies_true, reduceCtorEq, Nat.reduceEqDiff, ↓reduceIte, Nat.reduceAdd, Nat.reduceLeDiff, Nat.reduceLT, Nat.reduceMul, Int.reduceLT, Int.reduceLE, Int.reduceToNat, evz, e0, e1, e6, e11, e12, e13, hlt']
      refine MSpec.of hat ?_
      simp only [↓evd, evu, evf, implies_true, reduceCtorEq, Nat.reduceEqDiff, ↓reduceIte, Nat.reduceAdd, Nat.reduceLeDiff, Nat.reduceLT, Nat.reduceMul, Int.reduceLT, Int.reduceLE, Int.reduceToNat, evz, e0, e1]
      refine MSpec.of hhd ?_
      simp only [↓evd, evu, evf, implies_true, reduceCtorEq, Nat.reduceEqDiff, ↓reduceIte, Nat.reduceAdd, Nat.reduceLeDiff, Nat.reduceLT, Nat.reduceMul, Int.reduceLT, Int.reduceLE, Int.reduceToNat, evz, e0, e1]
      refine MSpec.of htx ?_
      simp only [↓evd, evu, evf, implies_true, reduceCtorEq, Nat.reduceEqDiff, ↓reduceIte, Nat.reduceAdd, Nat.reduceLeDiff, Nat.reduceLT, Nat.reduceMul, Int.reduceLT, Int.reduceLE, Int.reduceToNat, evz]
  · refine ⟨0, by omega, ?_⟩
    simp only [↓evd, evu, evf, implies_true, reduceCtorEq, Nat.reduceEqDiff, ↓reduceIte, Nat.reduceAdd, Nat.reduceLeDiff, Nat.reduceLT, Nat.reduceMul, Int.reduceLT, Int.reduceLE, Int.reduceToNat, evz]
    simp
end Go.Proofs.YtcchmmjjfglpgaaGreat.M
set_option linter.unusedSimpArgs false
set_option linter.unusedVariables false
set_option maxRecDepth 100000
namespace Go.Proofs.YtcchmmjjfglpgaaGreat.M
open Go Go.Mini
attribute [local congr] go1_congr goM_congr goG_congr goV_congr drawwp_congr Xwp_congr
theorem u8s_row (l : List Int) : ∀ z ∈ l.map (AVal.int .u8 ·), z.cells.length = 1 := by
  intro z hz; rw [List.mem_map] at hz; obtain ⟨x, _, rfl⟩ := hz; rfl
theorem u8s_cells (l : List Int) : (l.map (AVal.int .u8 ·)).flatMap AVal.cells = l.map (AVal.int .u8 ·) := by
  induction l with
  | nil => rfl
  | cons a l ih => simp only [List.map_cons, List.flatMap_cons, ih]; rfl
theorem sees_u8s {σ : Heap} {K n : Nat} {l : List Int} (hn : n = l.length) (hg : σ.get K = some (.cells (l.map (AVal.int .u8 ·)) none)) : Sees σ (.slc (.new K) 0 n (.ex n)) (σ.set K .dead) (eU8s l) := by
  refine Sees.own hg (by simp [hn]) (u8s_row l) ?_ (fun c hc => by cases hc; exact Nat.le_refl _)
  rw [List.drop_zero, u8s_cells, List.take_of_length_le (by simp; omega)]
def uE3 : Eng := madeE [1, 2, 3]
def uE4 : Eng := ⟨uE3.l, ⟨[[], [], [], [], [3]], 0, [1, 2, 3], []⟩⟩
theorem uk1 : withoutE uE3 [2] = .tup [.str [99, 97], .int .i64 0] := by
  rw [withoutE, if_pos (by decide +kernel)]
  exact congrArg (fun s => AVal.tup [.str s, .int .i64 0]) (by kernel_rfl)
theorem uk2 : lastE uE3 = (uE4, 4, 0) := by kernel_rfl
theorem uk3 : textV uE4 4 = .tup [.str [98, 97], .int .i64 0] := by kernel_rfl
theorem uk4 : allE uE4 [1, 9] = (uE4, 0, 210) := by kernel_rfl
set_option maxHeartbeats 2000000 in
theorem known21_call (σ : Heap) (hd : σ.F0.dr = false) : ACall Tryz.prog n_palinodelaw21_known [] σ (.bool true) σ := by
  refine gc_call rfl (spec_of_awp mixed c_palinodelaw21_known (Nat.le_of_ble_eq_true rfl) ?_)
  unfold f_palinodelaw21_known
  simp only [↓evd, evu, evf, implies_true, reduceCtorEq, Nat.reduceEqDiff, ↓reduceIte, Nat.reduceAdd, Nat.reduceLeDiff, Nat.reduceLT, Nat.reduceMul, Int.reduceLT, Int.reduceLE, Int.reduceToNat, evz]
  have k0 : Keep [] σ ((σ.new (.cells [.int .u8 1, .int .u8 2, .int .u8 3] none)).set σ.next .dead) := (Keep.refl [] σ).junk _ _
  refine mspec_seen (.cons (sees_u8s (l := [1, 2, 3]) (n := 3) rfl (by rw [Heap.get_new, if_pos rfl]; rfl)) (.nil _)) ?_
  refine (made_at _ (by exact hd) [1, 2, 3] (by decide) (by decide)).mono ?_
  rintro v τ ⟨k, fp0, rfl, h0, hf0, k1⟩
  have k01 := k0.trans k1 (fun x hx => nomatch hx)
  have hf0' : ∀ x ∈ fp0, σ.next ≤ x := fun x hx => by have := hf0 x hx; simp at this; omega
  have k2 : Keep [] τ ((τ.new (.cells [.int .i64 2] none)).set τ.next .dead) := (Keep.refl [] τ).junk _ _
  have h1 := h0.keep k2 (fun x _ => by simp)
  have hw := ewithout_at h1 (l := [2]) (by decide)
  rw [show madeE [1, 2, 3] = uE3 from rfl, uk1] at hw
  simp only [↓evd, evu, evf, implies_true, reduceCtorEq, Nat.reduceEqDiff, ↓reduceIte, Nat.reduceAdd, Nat.reduceLeDiff, Nat.reduceLT, Nat.reduceMul, Int.reduceLT, Int.reduceLE, Int.reduceToNat, evz]
  refine mspec_seen (.cons (Sees.refl _ _) (.cons (sees_ints (l := [2]) (by rw [Heap.get_new, if_pos rfl]; rfl) rfl (fun c hc => by cases hc; exact Nat.le_refl _)) (.nil _))) ?_
  refine MSpec.of hw ?_
  simp only [↓evd, evu, evf, implies_true, reduceCtorEq, Nat.reduceEqDiff, ↓reduceIte, Nat.reduceAdd, Nat.reduceLeDiff, Nat.reduceLT, Nat.reduceMul, Int.reduceLT, Int.reduceLE, Int.reduceToNat, evz]
  refine (elast_at h1 uk2).mono ?_
  rintro v τ2 ⟨rfl, fp2, h2, kk2, f2⟩
  have hh2 : ((uE4.R.head : Nat) : Int) = 4 := rfl
  have he2 := ehead_at h2
  rw [hh2] at he2
  have ht2 := etext_at h2 4
  rw [uk3] at ht2
  simp only [↓evd, evu, evf, implies_true, reduceCtorEq, Nat.reduceEqDiff, ↓reduceIte, Nat.reduceAdd, Nat.reduceLeDiff, Nat.reduceLT, Nat.reduceMul, Int.reduceLT, Int.reduceLE, Int.reduceToNat, evz]
  refine MSpec.of he2 ?_
  simp only [↓evd, evu, evf, implies_true, reduceCtorEq, Nat.reduceEqDiff, ↓reduceIte, Nat.reduceAdd, Nat.reduceLeDiff, Nat.reduceLT, Nat.reduceMul, Int.reduceLT, Int.reduceLE, Int.reduceToNat, evz]
  refine MSpec.of ht2 ?_
  have k3 : Keep [] τ2 ((τ2.new (.cells [.int .i64 1, .int .i64 9] none)).set τ2.next .dead) := (Keep.refl [] τ2).junk _ _
  have h3 := h2.keep k3 (fun x _ => by simp)
  simp only [↓evd, evu, evf, implies_true, reduceCtorEq, Nat.reduceEqDiff, ↓reduceIte, Nat.reduceAdd, Nat.reduceLeDiff, Nat.reduceLT, Nat.reduceMul, Int.reduceLT, Int.reduceLE, Int.reduceToNat, evz]
  refine mspec_seen (.cons (Sees.refl _ _) (.cons (sees_ints (l := [1, 9]) (by rw [Heap.get_new, if_pos rfl]; rfl) rfl (fun c hc => by cases hc; exact Nat.le_refl _)) (.nil _))) ?_
  refine (all_at h3 (l := [1, 9]) (by decide) uk4).mono ?_
  rintro v τ4 ⟨rfl, fp4, h4, kk4, f4⟩
  have he4 := ehead_at h4
  rw [hh2] at he4
  have b1 : ((0 : Int) == 0) = true := rfl
  have b2 : ((4 : Int) == 4) = true := rfl
  have b3 : ((210 : Int) == 210) = true := rfl
  simp only [↓evd, evu, evf, implies_true, reduceCtorEq, Nat.reduceEqDiff, ↓reduceIte, Nat.reduceAdd, Nat.reduceLeDiff, Nat.reduceLT, Nat.reduceMul, Int.reduceLT, Int.reduceLE, Int.reduceToNat, evz, b1, b2, b3, aStr_self]
  refine MSpec.of he4 ?_
  simp only [↓evd, evu, evf, implies_true, reduceCtorEq, Nat.reduceEqDiff, ↓reduceIte, Nat.reduceAdd, Nat.reduceLeDiff, Nat.reduceLT, Nat.reduceMul, Int.reduceLT, Int.reduceLE, Int.reduceToNat, evz, b2]
  have a1 := (k2.mono (fp' := fp0) (fun x hx => nomatch hx)).trans kk2 (fun x hx => .inl hx)
  have g2 : Fresh fp0 τ fp2 := fun x hx => by
    rcases f2 x hx with h | h
    · exact .inl h
    · right; have := k2.2.2.1; omega
  have a2 := a1.trans ((k3.mono (fp' := fp2) (fun x hx => nomatch hx)).trans kk4 (fun x hx => .inl hx)) g2
  have t2 : Keep [] σ τ4 := k01.fresh a2 hf0'
  exact ⟨t2.1, t2.2.1, fun q hq => t2.2.2.2 q hq (by simp)⟩
end Go.Proofs.YtcchmmjjfglpgaaGreat.M
set_option linter.unusedSimpArgs false
set_option linter.unusedVariables false
set_option maxRecDepth 100000
namespace Go.Proofs.YtcchmmjjfglpgaaGreat.M
open Go Go.Mini
/-! ### Groups taken back, as a law -/
structure TInv (E : Eng) (l : List Atom) (grp u : List Int) (h : Nat) : Prop where
  ls : E.l = l
  sub : ∀ x ∈ u, x ∈ grp
  grp : E.R.grp = grp
  top : E.R.top = u
  head : E.R.head = h
  few : l.length ≤ 4000
  ok : E.Ok
  R : E.R.Ok
theorem TInv.rise {E : Eng} {l : List Atom} {grp u : List Int} {h : Nat} (t : TInv E l grp u h) : Rise u := by rw [← t.top]; exact t.R.top.2.1
theorem TInv.undone {E : Eng} {l : List Atom} {grp u : List Int} {h : Nat} (t : TInv E l grp u h) : E.R.undone (E.R.head : Nat) = u := by rw [t.R.top.1, t.top]
theorem push_ok {R : Revs} (h : R.Ok) {s : List Int} (hs : Rise s) (hh : R.head < 200) : (R.push s).Ok := by
  have hl := List.length_pos_iff.2 h.one
  refine ⟨by simp [Revs.push], ?_, ?_, h.grp, h.gone⟩
  · simp only [Revs.push, List.length_append, List.length_cons, List.length_nil]; simp only [Revs.head] at hh; omega
  · intro x hx
    simp only [Revs.push, List.mem_append, List.mem_singleton] at hx
    rcases hx with hx | rfl
    · exact h.rise x hx
    · exact hs
theorem TInv.toggle {E : Eng} {l : List Atom} {grp u : List Int} {h : Nat} (t : TInv E l grp u h) {g : Int} (hg : g ∈ grp) (hh : h < 200) :
    toggleE E g = (⟨E.l, E.R.push (flip g u)⟩, ((h + 1 : Nat) : Int), 0) ∧ TInv ⟨E.l, E.R.push (flip g u)⟩ l grp (flip g u) (h + 1) := by
  have hl := List.length_pos_iff.2 t.R.one
  have ht : toggleR E.R g = (E.R.push (flip g u), ((h + 1 : Nat) : Int), 0) := by
    have := toggle_of (R := E.R) (g := g) (by rw [t.grp]; exact hg) (by rw [t.head]; exact hh)
    rw [this, t.top, t.head]; rfl
  have hgb := t.R.grp.2 g (by rw [t.grp]; exact hg)
  have hhd : (E.R.push (flip g u)).head = h + 1 := by
    rw [← t.head]; simp only [Revs.head, Revs.push, List.length_append, List.length_cons, List.length_nil]; omega
  refine ⟨?_, t.ls, fun x hx => ?_, t.grp, top_push _ _, hhd, t.few, ⟨t.ok.len, t.ok.txt, fun a ha => ?_⟩, push_ok t.R (t.rise.flip hgb.1 hgb.2) (by rw [t.head]; exact hh)⟩
  · rw [toggleE, ht, if_neg (by simp), if_neg]
    simp only [Eng.text]
    exact Nat.not_lt.2 (short_text (by rw [t.ls]; exact t.few) t.ok.txt _ _)
  · have hm := (mem_flip (g := g) (x := x) t.rise).1 hx
    by_cases e : x = g
    · rw [e]; exact hg
    · rw [if_neg e] at hm; exact t.sub x hm
  · have h1 := t.ok.cuts a ha
    have h2 := t.head
    simp only [hhd]; omega
theorem TInv.toggle_no {E : Eng} {l : List Atom} {grp u : List Int} {h : Nat} (t : TInv E l grp u h) {g : Int} (hg : g ∉ grp) : toggleE E g = (E, 0, 210) := by
  rw [toggleE, toggle_bad (by rw [t.grp]; exact hg), if_pos (by simp)]
def flips (u l : List Int) : List Int := l.foldl (fun u g => flip g u) u
theorem TInv.togs {grp : List Int} {l : List Atom} : ∀ {ks : List Int} {E : Eng} {u : List Int} {h : Nat}, TInv E l grp u h → h + ks.length ≤ 200 →
    if ∀ g ∈ ks, g ∈ grp then (togsE E ks).2 = 0 ∧ TInv (togsE E ks).1 l grp (flips u ks) (h + ks.length) else (togsE E ks).2 = 210
  | [], E, u, h, t, _ => by rw [if_pos (by simp)]; exact ⟨rfl, t⟩
  | g :: ks, E, u, h, t, hl => by
    simp only [List.length_cons] at hl
    by_cases hg : g ∈ grp
    · obtain ⟨h1, h2⟩ := t.toggle hg (by omega)
      have ih := TInv.togs (ks := ks) h2 (by omega)
      have e : togsE E (g :: ks) = togsE ⟨E.l, E.R.push (flip g u)⟩ ks := by rw [togsE, h1, if_neg (by simp)]
      rw [e]
      by_cases hk : ∀ x ∈ ks, x ∈ grp
      · rw [if_pos hk] at ih
        rw [if_pos (by intro x hx; rcases List.mem_cons.1 hx with rfl | hx; exact hg; exact hk x hx)]
        refine ⟨ih.1, ?_⟩
        rw [List.length_cons, show h + (ks.length + 1) = h + 1 + ks.length by omega]
        exact ih.2
      · rw [if_neg hk] at ih
        rw [if_neg (fun h => hk fun x hx => h x (List.mem_cons_of_mem _ hx))]
        exact ih
    · rw [if_neg (fun h => hg (h g (by simp))), togsE, t.toggle_no hg, if_pos (by simp)]
theorem TInv.all {E : Eng} {l : List Atom} {grp u : List Int} {h : Nat} (t : TInv E l grp u h) {ks : List Int} (hl : h + ks.length ≤ 200) (hk : ∀ g ∈ ks, g ∈ grp) :
    ∃ E', allE E ks = (E', ((h + ks.length : Nat) : Int), 0) ∧ TInv E' l grp (flips u ks) (h + ks.length) := by
  have := t.togs hl
  rw [if_pos hk] at this
  exact ⟨_, by rw [allE, this.1, if_neg (by simp), this.2.head], this.2⟩
theorem TInv.all_no {E : Eng} {l : List Atom} {grp u : List Int} {h : Nat} (t : TInv E l grp u h) {ks : List Int} (hl : h + ks.length ≤ 200) (hk : ¬ ∀ g ∈ ks, g ∈ grp) : allE E ks = (E, 0, 210) := by
  have := t.togs hl
  rw [if_neg hk] at this
  rw [allE, this, if_pos (by simp)]
/-- whatever comes of it, it goes on -/
theorem TInv.all_any {E : Eng} {l : List Atom} {grp u : List Int} {h : Nat} (t : TInv E l grp u h) {ks : List Int} (hl : h + ks.length ≤ 200) : ∃ E' n c u' h', allE E ks = (E', n, c) ∧ TInv E' l grp u' h' ∧ h' ≤ h + ks.length := by
  by_cases hk : ∀ g ∈ ks, g ∈ grp
  · obtain ⟨E', h1, h2⟩ := t.all hl hk
    exact ⟨E', _, _, _, _, h1, h2, Nat.le_refl _⟩
  · exact ⟨E, _, _, _, _, t.all_no hl hk, t, by omega⟩
theorem flips_rise {grp : List Int} (hg : Rise grp) : ∀ {ks u : List Int}, Rise u → (∀ g ∈ ks, g ∈ grp) → Rise (flips u ks)
  | [], u, h, _ => h
  | g :: ks, u, h, hk => show Rise (flips (flip g u) ks) from flips_rise hg (h.flip (hg.2 g (hk g (by simp))).1 (hg.2 g (hk g (by simp))).2) fun x hx => hk x (List.mem_cons_of_mem _ hx)
theorem mem_flips {grp : List Int} (hg : Rise grp) {x : Int} : ∀ {ks u : List Int}, Rise u → (∀ g ∈ ks, g ∈ grp) → (x ∈ flips u ks ↔ (decide (x ∈ u) != decide (ks.count x % 2 = 1)) = true)
  | [], u, h, _ => by simp [flips]
  | g :: ks, u, h, hk => by
    have hb := hg.2 g (hk g (by simp))
    have ih := mem_flips hg (x := x) (ks := ks) (h.flip hb.1 hb.2) fun x hx => hk x (List.mem_cons_of_mem _ hx)
    have e : flips u (g :: ks) = flips (flip g u) ks := rfl
    rw [e, ih]
    have hm := mem_flip (g := g) (x := x) h
    by_cases hx : x = g
    · subst hx
      rw [List.count_cons_self]
      rw [if_pos rfl] at hm
      have hdec : decide (x ∈ flip x u) = !decide (x ∈ u) := by simp [hm]
      rw [hdec]
      rcases Nat.mod_two_eq_zero_or_one (ks.count x) with h2 | h2
      · have : (ks.count x + 1) % 2 = 1 := by omega
        rw [h2, this]; cases decide (x ∈ u) <;> decide
      · have : (ks.count x + 1) % 2 = 0 := by omega
        rw [h2, this]; cases decide (x ∈ u) <;> decide
    · rw [List.count_cons_of_ne (fun e => hx e.symm)]
      rw [if_neg hx] at hm
      have hdec : decide (x ∈ flip g u) = decide (x ∈ u) := by simp [hm]
      rw [hdec]
theorem MInv.tinv {E : Eng} {j : Nat} (h : MInv E j) (hj : j ≤ 100) : TInv E E.l E.R.grp [] j := ⟨rfl, (fun x hx => nomatch hx), rfl, h.top, h.head, by rw [h.len]; omega, h.ok, h.R⟩
end Go.Proofs.YtcchmmjjfglpgaaGreat.M
set_option linter.unusedSimpArgs false
set_option linter.unusedVariables false
set_option maxRecDepth 100000
namespace Go.Proofs.YtcchmmjjfglpgaaGreat.M
open Go Go.Mini
attribute [local congr] go1_congr goM_congr goG_congr goV_congr drawwp_congr
set_option maxHeartbeats 1000000 in
theorem same21_call (σ : Heap) (a b : List Int) (ha : a.length ≤ 1000000) : ACall Tryz.prog n_palinodelaw21_same [ints a, ints b] σ (.bool (decide (a = b))) σ := by
  refine bare_call (by simp only [AVal.pures, ints_pure]; rfl) rfl (fun W F => spec_of_awp mixed c_palinodelaw21_same (Nat.le_of_ble_eq_true rfl) ?_) σ
  unfold f_palinodelaw21_same
  by_cases hl : a.length = b.length
  · have hb : ((a.length : Int) != (b.length : Int)) = false := by simp [hl]
    simp only [↓evd, evu, evf, implies_true, reduceCtorEq, Nat.reduceEqDiff, ↓reduceIte, Nat.reduceAdd, Nat.reduceLeDiff, Nat.reduceLT, Nat.reduceMul, Int.reduceLT, Int.reduceLE, Int.reduceToNat, evz, hb]
    refine awp_loop (fun m fr τ => ∃ i, m + i = a.length ∧ fr.get 0 = ints a ∧ fr.get 1 = ints b ∧ fr.get 5 = .int .i64 (i : Nat) ∧ a.take i = b.take i ∧ τ.W = W ∧ τ.F0 = F) ?_ (m := a.length) ?_
    · rintro m fr τ ⟨i, hi, e0, e1, e5, ht, hW, hF⟩
      by_cases hlt : i < a.length
      · have hlt' : (i : Int) < (a.length : Int) := by omega
        have hlb : i < b.length := by omega
        have hg := map_get (AVal.int .i64 ·) a i hlt
        have hg2 := map_get (AVal.int .i64 ·) b i hlb
        have hs := wrap_succ (i := i) (by omega)
        have t1 := List.take_succ_eq_append_getElem hlt
        have t2 := List.take_succ_eq_append_getElem hlb
        have hne : a[i] ≠ b[i] → a ≠ b := fun h e => by subst e; exact h rfl
        generalize a[i] = x at hg t1 hne
        generalize b[i] = y at hg2 t2 hne
        by_cases hxy : x = y
        · have hb2 : (x != y) = false := by simp [hxy]
          simp only [↓evd, evu, evf, implies_true, reduceCtorEq, Nat.reduceEqDiff, ↓reduceIte, Nat.reduceAdd, Nat.reduceLeDiff, Nat.reduceLT, Nat.reduceMul, Int.reduceLT, Int.reduceLE, Int.reduceToNat, evz, e0, e1, e5, hlt']
          with_reducible refine draw_of_grow (fun _ => True) (ms := [false, false, false, false, false, false, false, false, false]) (by kernel_rfl) ?_
          simp only [↓evd, evu, evf, implies_true, reduceCtorEq, Nat.reduceEqDiff, ↓reduceIte, Nat.reduceAdd, Nat.reduceLeDiff, Nat.reduceLT, Nat.reduceMul, Int.reduceLT, Int.reduceLE, Int.reduceToNat, evz, e0, e1, e5, hlt', hg, hg2, hb2, hs]
          exact ⟨m - 1, by omega, i + 1, by omega, rfl, by rw [t1, t2, ht, hxy], hW, hF⟩
        · have hb2 : (x != y) = true := by simp [hxy]
          simp only [↓evd, evu, evf, implies_true, reduceCtorEq, Nat.reduceEqDiff, ↓reduceIte, Nat.reduceAdd, Nat.reduceLeDiff, Nat.reduceLT, Nat.reduceMul, Int.reduceLT, Int.reduceLE, Int.reduceToNat, evz, e0, e1, e5, hlt']
          with_reducible refine draw_of_grow (fun _ => True) (ms := [false, false, false, false, false, false, false, false, false]) (by kernel_rfl) ?_
          simp only [↓evd, evu, evf, implies_true, reduceCtorEq, Nat.reduceEqDiff, ↓reduceIte, Nat.reduceAdd, Nat.reduceLeDiff, Nat.reduceLT, Nat.reduceMul, Int.reduceLT, Int.reduceLE, Int.reduceToNat, evz, e0, e1, e5, hlt', hg, hg2, hb2, hs]
          exact seen (by rw [decide_eq_false (hne hxy)]) hW hF
      · have hlt' : ¬ (i : Int) < (a.length : Int) := by omega
        simp only [↓evd, evu, evf, implies_true, reduceCtorEq, Nat.reduceEqDiff, ↓reduceIte, Nat.reduceAdd, Nat.reduceLeDiff, Nat.reduceLT, Nat.reduceMul, Int.reduceLT, Int.reduceLE, Int.reduceToNat, evz, e0, e1, e5, hlt']
        refine seen ?_ hW hF
        rw [List.take_of_length_le (by omega), List.take_of_length_le (by omega)] at ht
        rw [decide_eq_true ht]
    · refine ⟨0, by omega, ?_⟩
      simp only [↓evd, evu, evf, implies_true, reduceCtorEq, Nat.reduceEqDiff, ↓reduceIte, Nat.reduceAdd, Nat.reduceLeDiff, Nat.reduceLT, Nat.reduceMul, Int.reduceLT, Int.reduceLE, Int.reduceToNat, evz]
  · have hb : ((a.length : Int) != (b.length : Int)) = true := by simp; omega
    simp only [↓evd, evu, evf, implies_true, reduceCtorEq, Nat.reduceEqDiff, ↓reduceIte, Nat.reduceAdd, Nat.reduceLeDiff, Nat.reduceLT, Nat.reduceMul, Int.reduceLT, Int.reduceLE, Int.reduceToNat, evz, hb]
    exact seen (by rw [decide_eq_false (fun e => hl (by rw [e]))]) rfl rfl

theorem count_take {l : List Int} {j : Nat} (h : j < l.length) (x : Int) : (l.take (j + 1)).count x = (l.take j).count x + (if l[j] = x then 1 else 0) := by
  rw [List.take_succ_eq_append_getElem h, List.count_append, List.count_singleton]
  congr 1
  simp
end Go.Proofs.YtcchmmjjfglpgaaGreat.M
set_option linter.unusedSimpArgs false
set_option linter.unusedVariables false
set_option maxRecDepth 100000
namespace Go.Proofs.YtcchmmjjfglpgaaGreat.M
open Go Go.Mini
attribute [local congr] go1_congr goM_congr goG_congr goV_congr drawwp_congr Xwp_congr
/-- palinoderef17.In of a row of one's own -/
theorem in_own {σ : Heap} {B : Nat} {x : AVal} {l : List Int} (h : Own B σ t_int 1 x (l.map (AVal.int .i64 ·))) (hl : l.length ≤ 1000000) (g : Int) : ACall Tryz.prog n_palinoderef17_In [x, .int .i64 g] σ (.bool (decide (g ∈ l))) σ := by
  refine exact_call (spec_of_awp mixed c_palinoderef17_In (Nat.le_of_ble_eq_true rfl) ?_)
  unfold f_palinoderef17_In
  rcases h.2 with ⟨rfl, h0⟩ | ⟨K, rfl, hg, _, _⟩
  · have : l = [] := by simpa using h0
    subst this
    simp only [↓evd, evu, evf, implies_true, reduceCtorEq, Nat.reduceEqDiff, ↓reduceIte, Nat.reduceAdd, Nat.reduceLeDiff, Nat.reduceLT, Nat.reduceMul, Int.reduceLT, Int.reduceLE, Int.reduceToNat, evz]
    refine awp_loop_unroll ?_
    simp only [↓evd, evu, evf, implies_true, reduceCtorEq, Nat.reduceEqDiff, ↓reduceIte, Nat.reduceAdd, Nat.reduceLeDiff, Nat.reduceLT, Nat.reduceMul, Int.reduceLT, Int.reduceLE, Int.reduceToNat, evz]
    simp
  rw [ints_cells] at hg
  rw [List.length_map]
  simp only [↓evd, evu, evf, implies_true, reduceCtorEq, Nat.reduceEqDiff, ↓reduceIte, Nat.reduceAdd, Nat.reduceLeDiff, Nat.reduceLT, Nat.reduceMul, Int.reduceLT, Int.reduceLE, Int.reduceToNat, evz]
  refine awp_loop (fun m fr τ => ∃ i, m + i = l.length ∧ fr.get 0 = .slc (.new K) 0 l.length (.gr 1) ∧ fr.get 1 = .int .i64 g ∧ fr.get 5 = .int .i64 (i : Nat) ∧ g ∉ l.take i ∧ τ = σ) ?_ (m := l.length) ?_
  · rintro m fr τ ⟨i, hi, e0, e1, e5, ht, rfl⟩
    by_cases hlt : i < l.length
    · have hlt' : (i : Int) < (l.length : Int) := by omega
      have hgt := map_get (AVal.int .i64 ·) l i hlt
      have hs := wrap_succ (i := i) (by omega)
      have t1 := List.take_succ_eq_append_getElem hlt
      have hm := List.getElem_mem hlt
      generalize l[i] = x at hgt t1 hm
      by_cases hx : x = g
      · subst hx
        have hb : (x == x) = true := by simp
        simp only [↓evd, evu, evf, implies_true, reduceCtorEq, Nat.reduceEqDiff, ↓reduceIte, Nat.reduceAdd, Nat.reduceLeDiff, Nat.reduceLT, Nat.reduceMul, Int.reduceLT, Int.reduceLE, Int.reduceToNat, evz, e0, e1, e5, hlt', hg, hgt, hb, mem_bool hm]
      · have hb : (x == g) = false := by simpa using hx
        simp only [↓evd, evu, evf, implies_true, reduceCtorEq, Nat.reduceEqDiff, ↓reduceIte, Nat.reduceAdd, Nat.reduceLeDiff, Nat.reduceLT, Nat.reduceMul, Int.reduceLT, Int.reduceLE, Int.reduceToNat, evz, e0, e1, e5, hlt', hg, hgt, hb, hs]
        exact ⟨m - 1, by omega, i + 1, by omega, rfl, by rw [t1]; simp [ht, Ne.symm hx]⟩
    · have hlt' : ¬ (i : Int) < (l.length : Int) := by omega
      rw [List.take_of_length_le (by omega)] at ht
      simp only [↓evd, evu, evf, implies_true, reduceCtorEq, Nat.reduceEqDiff, ↓reduceIte, Nat.reduceAdd, Nat.reduceLeDiff, Nat.reduceLT, Nat.reduceMul, Int.reduceLT, Int.reduceLE, Int.reduceToNat, evz, e0, e1, e5, hlt', not_mem_bool ht]
  · refine ⟨0, by omega, ?_⟩
    simp only [↓evd, evu, evf, implies_true, reduceCtorEq, Nat.reduceEqDiff, ↓reduceIte, Nat.reduceAdd, Nat.reduceLeDiff, Nat.reduceLT, Nat.reduceMul, Int.reduceLT, Int.reduceLE, Int.reduceToNat, evz]
    simp
end Go.Proofs.YtcchmmjjfglpgaaGreat.M
set_option linter.unusedSimpArgs false
set_option linter.unusedVariables false
set_option maxRecDepth 100000
namespace Go.Proofs.YtcchmmjjfglpgaaGreat.M
open Go Go.Mini
attribute [local congr] go1_congr goM_congr goG_congr goV_congr drawwp_congr Xwp_congr
theorem eonly_no {σ : Heap} {k : Nat} {E : Eng} {fp : List Nat} (h : IsEng σ k E fp) {g : Int} (hg : g ∉ E.R.grp) : MSpec Tryz.prog n_undo_Only [.ptr (.new k) 0, .int .i64 g] σ fun v τ => v = .tup [.int .i64 0, .int .i64 210] ∧ IsEng τ k E fp ∧ Keep [] σ τ := by
  refine spec_of_awp mixed c_undo_Only (Nat.le_of_ble_eq_true rfl) ?_
  unfold f_undo_Only
  have hgl := rise_len h.ok.2.grp
  have hK : Keep [] σ ((σ.new (.cells [.int .i64 g] none))) := (Keep.refl _ _).new _
  have h1 := h.keep hK (fun y _ => by simp)
  have hgr := egroups_at h1
  have hc := contains_call (σ.new (.cells [.int .i64 g] none)) E.R.grp g (by omega)
  simp only [ints] at hgr hc
  simp only [↓evd, evu, evf, implies_true, reduceCtorEq, Nat.reduceEqDiff, ↓reduceIte, Nat.reduceAdd, Nat.reduceLeDiff, Nat.reduceLT, Nat.reduceMul, Int.reduceLT, Int.reduceLE, Int.reduceToNat, evz]
  with_reducible refine draw_of_grow (fun _ => True) (ms := [false, false, false, false, false]) (by kernel_rfl) ?_
  simp only [↓evd, evu, evf, implies_true, reduceCtorEq, Nat.reduceEqDiff, ↓reduceIte, Nat.reduceAdd, Nat.reduceLeDiff, Nat.reduceLT, Nat.reduceMul, Int.reduceLT, Int.reduceLE, Int.reduceToNat, evz]
  refine MSpec.of hgr ⟨.inr Keeps.rfl, ?_⟩
  simp only [↓evd, evu, evf, implies_true, reduceCtorEq, Nat.reduceEqDiff, ↓reduceIte, Nat.reduceAdd, Nat.reduceLeDiff, Nat.reduceLT, Nat.reduceMul, Int.reduceLT, Int.reduceLE, Int.reduceToNat, evz]
  refine MSpec.of hc ⟨.inr Keeps.rfl, ?_⟩
  simp only [↓evd, evu, evf, implies_true, reduceCtorEq, Nat.reduceEqDiff, ↓reduceIte, Nat.reduceAdd, Nat.reduceLeDiff, Nat.reduceLT, Nat.reduceMul, Int.reduceLT, Int.reduceLE, Int.reduceToNat, evz, not_mem_bool hg]
  exact ⟨h1, hK⟩
theorem flips_twice {grp ks : List Int} (hg : Rise grp) (h : ∀ g ∈ ks, g ∈ grp) : flips (flips [] ks) ks = [] := by
  have hr := flips_rise hg Rise.nil h
  refine rise_ext (flips_rise hg hr h) Rise.nil fun x => ?_
  have h1 := mem_flips (x := x) hg Rise.nil h
  have h2 := mem_flips (x := x) hg hr h
  rw [h2]
  by_cases hx : x ∈ flips [] ks
  · have := h1.1 hx
    simp only [List.not_mem_nil, decide_false] at this
    simp only [hx, decide_true, List.not_mem_nil, iff_false]
    simpa using this
  · have : ¬ _ := fun q => hx (h1.2 q)
    simp only [List.not_mem_nil, decide_false] at this
    simp only [hx, decide_false, List.not_mem_nil, iff_false]
    exact this
end Go.Proofs.YtcchmmjjfglpgaaGreat.M
set_option linter.unusedSimpArgs false
set_option linter.unusedVariables false
set_option maxRecDepth 100000
namespace Go.Proofs.YtcchmmjjfglpgaaGreat.M
open Go Go.Mini
attribute [local congr] go1_congr goM_congr goG_congr goV_congr drawwp_congr Xwp_congr
/-! ### slices.DeleteFunc of ints, of a row with room behind it -/
theorem iv_get2 {l : List Int} {rs : List AVal} {i : Nat} (h : i < l.length) : (iv l ++ rs)[i]? = some (.int .i64 l[i]) := by
  rw [List.getElem?_append_left (by rw [iv_len]; exact h)]; exact iv_get h
theorem indexI2_call (σ : Heap) (K : Nat) (l : List Int) (rs : List AVal) (N : Nat) (g : FuncId) (caps : List AVal) (p : Int → Bool) (hl : l.length ≤ 1000000) (hg : σ.get K = some (.cells (iv l ++ rs) none)) (hp : ∀ x ∈ l, ACall Tryz.prog g (.int .i64 x :: caps) σ (.bool (p x)) σ) :
    ACall Tryz.prog n_slices_IndexFunc_int_int [.slc (.new K) 0 l.length (.ex N), .fn g caps] σ (.int .i64 (firstI p l 0)) σ := by
  refine exact_call (spec_of_awp mixed c_slices_IndexFunc_int_int (Nat.le_of_ble_eq_true rfl) ?_)
  unfold f_slices_IndexFunc_int_int
  simp only [↓evd, evu, evf, implies_true, reduceCtorEq, Nat.reduceEqDiff, ↓reduceIte, Nat.reduceAdd, Nat.reduceLeDiff, Nat.reduceLT, Nat.reduceMul, Int.reduceLT, Int.reduceLE, Int.reduceToNat, evz]
  refine awp_loop (fun m fr τ => ∃ i, m + i = l.length ∧ fr.get 0 = .slc (.new K) 0 l.length (.ex N) ∧ fr.get 1 = .fn g caps ∧ fr.get 7 = .int .i64 (l.length : Nat) ∧ fr.get 8 = .int .i64 (i : Nat) ∧ firstI p (l.drop i) i = firstI p l 0 ∧ τ = σ) ?_ (m := l.length) ?_
  · rintro m fr τ ⟨i, hi, e0, e1, e7, e8, hf, rfl⟩
    by_cases hlt : i < l.length
    · have hlt' : (i : Int) < (l.length : Int) := by omega
      have hs := wrap_succ (i := i) (by omega)
      have hgt := iv_get2 (rs := rs) hlt
      have hpx := hp _ (List.getElem_mem hlt)
      rw [List.drop_eq_getElem_cons hlt, firstI] at hf
      generalize l[i] = x at hgt hpx hf
      simp only [↓evd, evu, evf, implies_true, reduceCtorEq, Nat.reduceEqDiff, ↓reduceIte, Nat.reduceAdd, Nat.reduceLeDiff, Nat.reduceLT, Nat.reduceMul, Int.reduceLT, Int.reduceLE, Int.reduceToNat, evz, e0, e1, e7, e8, hlt', hg, hgt]
      refine MSpec.of hpx ?_
      cases hpb : p x with
      | true =>
        rw [hpb, if_pos rfl] at hf
        simp only [↓evd, evu, evf, implies_true, reduceCtorEq, Nat.reduceEqDiff, ↓reduceIte, Nat.reduceAdd, Nat.reduceLeDiff, Nat.reduceLT, Nat.reduceMul, Int.reduceLT, Int.reduceLE, Int.reduceToNat, evz, e0, e1, e7, e8, hf]
      | false =>
        rw [hpb, if_neg (by simp)] at hf
        simp only [↓evd, evu, evf, implies_true, reduceCtorEq, Nat.reduceEqDiff, ↓reduceIte, Nat.reduceAdd, Nat.reduceLeDiff, Nat.reduceLT, Nat.reduceMul, Int.reduceLT, Int.reduceLE, Int.reduceToNat, evz, e0, e1, e7, e8, hs]
        exact ⟨m - 1, by omega, i + 1, by omega, rfl, hf⟩
    · have hlt' : ¬ (i : Int) < (l.length : Int) := by omega
      rw [List.drop_eq_nil_of_le (by omega), firstI] at hf
      simp only [↓evd, evu, evf, implies_true, reduceCtorEq, Nat.reduceEqDiff, ↓reduceIte, Nat.reduceAdd, Nat.reduceLeDiff, Nat.reduceLT, Nat.reduceMul, Int.reduceLT, Int.reduceLE, Int.reduceToNat, evz, e0, e1, e7, e8, hlt', hf]
  · refine ⟨0, by omega, ?_⟩
    simp only [↓evd, evu, evf, implies_true, reduceCtorEq, Nat.reduceEqDiff, ↓reduceIte, Nat.reduceAdd, Nat.reduceLeDiff, Nat.reduceLT, Nat.reduceMul, Int.reduceLT, Int.reduceLE, Int.reduceToNat, evz]
set_option maxHeartbeats 4000000 in
theorem deleteI2_spec (σ : Heap) (K : Nat) (l : List Int) (rs : List AVal) (N : Nat) (hN : l.length + rs.length = N) (g : FuncId) (caps : List AVal) (p : Int → Bool) (hl : N ≤ 1000000) (hg : σ.get K = some (.cells (iv l ++ rs) none)) (hp : ∀ τ, Keep [K] σ τ → ∀ x ∈ l, ACall Tryz.prog g (.int .i64 x :: caps) τ (.bool (p x)) τ) (hKn : K < σ.next) :
    MSpec Tryz.prog n_slices_DeleteFunc_int_int [.slc (.new K) 0 l.length (.ex N), .fn g caps] σ fun v τ => v = .slc (.new K) 0 (l.filter (fun x => !p x)).length (.ex N) ∧ Keep [K] σ τ ∧ ∃ rs', τ.get K = some (.cells (iv (l.filter (fun x => !p x)) ++ rs') none) ∧ (l.filter (fun x => !p x)).length + rs'.length = N := by
  refine spec_of_awp mixed c_slices_DeleteFunc_int_int (Nat.le_of_ble_eq_true rfl) ?_
  unfold f_slices_DeleteFunc_int_int
  have hidx := indexI2_call σ K l rs N g caps p (by omega) hg (hp σ (Keep.refl _ _))
  simp only [↓evd, evu, evf, implies_true, reduceCtorEq, Nat.reduceEqDiff, ↓reduceIte, Nat.reduceAdd, Nat.reduceLeDiff, Nat.reduceLT, Nat.reduceMul, Int.reduceLT, Int.reduceLE, Int.reduceToNat, evz]
  refine MSpec.of hidx ?_
  by_cases h0 : firstI p l 0 = -1
  · have hb : (firstI p l 0 == -1) = true := by simpa using h0
    have hf := firstI_none p l 0 h0
    simp only [↓evd, evu, evf, implies_true, reduceCtorEq, Nat.reduceEqDiff, ↓reduceIte, Nat.reduceAdd, Nat.reduceLeDiff, Nat.reduceLT, Nat.reduceMul, Int.reduceLT, Int.reduceLE, Int.reduceToNat, evz, hb]
    rw [hf]
    exact ⟨rfl, Keep.refl _ _, rs, hg, hN⟩
  have hb : (firstI p l 0 == -1) = false := by simpa using h0
  obtain ⟨j0, h1, h2, h3⟩ := firstI_some p l 0 h0
  rw [Nat.zero_add] at h1
  rw [h1] at hb
  have hw0 := wrap_succ (i := j0) (by omega)
  rw [h1]
  simp only [↓evd, evu, evf, implies_true, reduceCtorEq, Nat.reduceEqDiff, ↓reduceIte, Nat.reduceAdd, Nat.reduceLeDiff, Nat.reduceLT, Nat.reduceMul, Int.reduceLT, Int.reduceLE, Int.reduceToNat, evz, hb, hw0]
  refine awp_loop (fun m fr τ => ∃ j kept mid, m + j = l.length ∧ j ≤ l.length ∧ fr.get 0 = .slc (.new K) 0 l.length (.ex N) ∧ fr.get 1 = .fn g caps ∧ fr.get 5 = .int .i64 (kept.length : Nat) ∧ fr.get 6 = .int .i64 (j : Nat) ∧ kept = (l.take j).filter (fun x => !p x) ∧ mid ≠ [] ∧ (kept ++ mid).length = j ∧ τ.get K = some (.cells (iv (kept ++ mid ++ l.drop j) ++ rs) none) ∧ Keep [K] σ τ) ?_ (m := l.length - (j0 + 1)) ?_
  · rintro m fr τ ⟨j, kept, mid, hm, hjl, e0, e1, e5, e6, hk, hmid, hkm, hcs, hK⟩
    by_cases hlt : j < l.length
    · have hlt' : (j : Int) < (l.length : Int) := by omega
      have hs := wrap_succ (i := j) (by omega)
      have hlen : (kept ++ mid ++ l.drop j).length = l.length := by rw [List.length_append, hkm, List.length_drop]; omega
      have hgt : (iv (kept ++ mid ++ l.drop j) ++ rs)[j]? = some (.int .i64 l[j]) := by
        rw [List.getElem?_append_left (by rw [iv_len, hlen]; exact hlt), iv, List.getElem?_map, List.getElem?_append_right (by omega), hkm, Nat.sub_self, List.getElem?_drop, Nat.add_zero, List.getElem?_eq_getElem hlt]; rfl
      have hpx := hp τ hK _ (List.getElem_mem hlt)
      have htk : (l.take (j + 1)).filter (fun x => !p x) = kept ++ (if !p l[j] then [l[j]] else []) := by rw [take_filter _ hlt, ← hk]
      have hdr := List.drop_eq_getElem_cons hlt
      generalize l[j] = x at hgt hpx htk hdr
      simp only [↓evd, evu, evf, implies_true, reduceCtorEq, Nat.reduceEqDiff, ↓reduceIte, Nat.reduceAdd, Nat.reduceLeDiff, Nat.reduceLT, Nat.reduceMul, Int.reduceLT, Int.reduceLE, Int.reduceToNat, evz, e0, e1, e5, e6, hlt', hcs, hgt]
      refine MSpec.of hpx ?_
      cases hpb : p x with
      | true =>
        rw [hpb] at htk
        simp only [Bool.not_true, Bool.false_eq_true, if_false, List.append_nil] at htk
        simp only [↓evd, evu, evf, implies_true, reduceCtorEq, Nat.reduceEqDiff, ↓reduceIte, Nat.reduceAdd, Nat.reduceLeDiff, Nat.reduceLT, Nat.reduceMul, Int.reduceLT, Int.reduceLE, Int.reduceToNat, evz, e0, e1, e5, e6, hs]
        refine ⟨m - 1, by omega, j + 1, kept, mid ++ [x], by omega, by omega, rfl, rfl, htk.symm, by simp, by simp at hkm ⊢; omega, ?_, hK⟩
        rw [hcs, hdr]; simp
      | false =>
        rw [hpb] at htk
        simp only [Bool.not_false, if_true] at htk
        obtain ⟨y, mid', rfl⟩ : ∃ y mid', mid = y :: mid' := by
          cases mid with
          | nil => exact absurd rfl hmid
          | cons y mid' => exact ⟨y, mid', rfl⟩
        have hkl : kept.length < l.length := by simp at hkm; omega
        have hkl' : (kept.length : Int) < (l.length : Int) := by omega
        have hs2 := wrap_succ (i := kept.length) (by omega)
        have hlen2 : (iv (kept ++ y :: mid' ++ l.drop j) ++ rs).length = N := by rw [List.length_append, iv_len, hlen]; exact hN
        have hle : decide (kept.length + 1 ≤ (iv (kept ++ y :: mid' ++ l.drop j) ++ rs).length) = true := by rw [hlen2]; simp; omega
        have hov := over_set (l := iv (kept ++ y :: mid' ++ l.drop j) ++ rs) (j := kept.length) (x := .int .i64 x) (by omega)
        have hset : (iv (kept ++ y :: mid' ++ l.drop j) ++ rs).set kept.length (.int .i64 x) = iv (kept ++ [x] ++ (mid' ++ [x]) ++ l.drop (j + 1)) ++ rs := by
          rw [hdr]
          simp only [iv, List.map_append, List.map_cons, List.append_assoc]
          rw [List.set_append_right _ _ (by simp)]
          simp
        rw [hset] at hov
        simp only [↓evd, evu, evf, implies_true, reduceCtorEq, Nat.reduceEqDiff, ↓reduceIte, Nat.reduceAdd, Nat.reduceLeDiff, Nat.reduceLT, Nat.reduceMul, Int.reduceLT, Int.reduceLE, Int.reduceToNat, evz, e0, e1, e5, e6, hkl', hcs, hle, hov, hs, hs2]
        refine ⟨m - 1, by omega, j + 1, kept ++ [x], mid' ++ [x], by omega, by omega, by simp, rfl, htk.symm, by simp, by simp at hkm ⊢; omega, ?_, hK.set (.inl (by simp)) _⟩
        simp
    · have hjl2 : j = l.length := by omega
      subst hjl2
      have hlt' : ¬ (l.length : Int) < (l.length : Int) := by omega
      rw [List.take_length] at hk
      rw [List.drop_length, List.append_nil] at hcs
      have hkl : kept.length < l.length := by
        have : 0 < mid.length := List.length_pos_iff.2 hmid
        simp at hkm; omega
      have b3 : aBound none N N = some N := rfl
      have b5 : aBound none l.length N = some l.length := by simp only [aBound]
      have b1 : aBound (some (.int .i64 (kept.length : Nat))) l.length N = some kept.length := by simp only [aBound]; rw [if_pos (by simp; omega)]; rfl
      have b2 : aBound (some (.int .i64 (kept.length : Nat))) 0 l.length = some kept.length := by simp only [aBound]; rw [if_pos (by simp; omega)]; rfl
      have b4 : aBound none 0 kept.length = some 0 := rfl
      have q1 : aSlc 1 (.slc (.new K) 0 l.length (.ex N)) (some (.int .i64 (kept.length : Nat))) none none = some (.slc (.new K) kept.length (l.length - kept.length) (.ex (N - kept.length))) := by
        simp only [aSlc, b3, b2, b5, Option.isSome_none, Bool.false_and, Bool.false_eq_true, if_false, Nat.mul_one, Nat.zero_add, if_neg (show ¬ N = kept.length by omega)]
      have q2 : aSlc 1 (.slc (.new K) 0 l.length (.ex N)) none (some (.int .i64 (kept.length : Nat))) none = some (.slc (.new K) 0 kept.length (.ex N)) := by
        simp only [aSlc, b3, b1, b4, Option.isSome_none, Bool.false_and, Bool.false_eq_true, if_false, Nat.zero_mul, Nat.add_zero, if_neg (show ¬ N = 0 by omega), Nat.sub_zero]
      have hivl : (iv (kept ++ mid) ++ rs).length = N := by rw [List.length_append, iv_len, hkm]; exact hN
      have hzl : ((List.replicate (l.length - kept.length) [AVal.int IntKind.i64 0]).flatten).length = l.length - kept.length := by simp
      have hzc : ((List.replicate (l.length - kept.length) [AVal.int IntKind.i64 0]).flatten).all AVal.isCell = true := by simp [AVal.isCell]
      obtain ⟨zs, hze⟩ : ∃ zs, (List.replicate (l.length - kept.length) [AVal.int IntKind.i64 0]).flatten = zs := ⟨_, rfl⟩
      rw [hze] at hzl hzc
      have hle : decide (kept.length + (l.length - kept.length) ≤ N) = true := by simp; omega
      have hdrop : (iv (kept ++ mid) ++ rs).drop (kept.length + (l.length - kept.length)) = rs := List.drop_left' (by rw [iv_len, hkm]; omega)
      have htake : (iv (kept ++ mid) ++ rs).take kept.length = iv kept := by rw [iv, List.map_append, List.append_assoc, List.take_append_of_le_length (by simp), List.take_of_length_le (by simp)]; rfl
      simp only [↓evd, evu, evf, implies_true, reduceCtorEq, Nat.reduceEqDiff, ↓reduceIte, Nat.reduceAdd, Nat.reduceLeDiff, Nat.reduceLT, Nat.reduceMul, Int.reduceLT, Int.reduceLE, Int.reduceToNat, evz, e0, e1, e5, e6, hlt', q1, hcs, hze, hzl, hzc, hivl, hle, hdrop, htake, q2]
      rw [← hk]
      refine ⟨rfl, hK.set (.inl (by simp)) _, zs ++ rs, ?_, ?_⟩
      · simp only [List.append_assoc]
      · rw [List.length_append, hzl]; omega
  · refine ⟨j0 + 1, l.take j0, [l[j0]], by omega, by omega, ?_⟩
    have hlj : (l.take j0).length = j0 := by simp; omega
    have happ : l.take j0 ++ [l[j0]] = l.take (j0 + 1) := (List.take_succ_eq_append_getElem h2).symm
    simp only [↓evd, evu, evf, implies_true, reduceCtorEq, Nat.reduceEqDiff, ↓reduceIte, Nat.reduceAdd, Nat.reduceLeDiff, Nat.reduceLT, Nat.reduceMul, Int.reduceLT, Int.reduceLE, Int.reduceToNat, evz, hlj]
    refine ⟨h3.symm, by rw [happ, List.length_take]; omega, by rw [happ, List.take_append_drop]; exact hg, Keep.refl _ _⟩
end Go.Proofs.YtcchmmjjfglpgaaGreat.M
set_option linter.unusedSimpArgs false
set_option linter.unusedVariables false
set_option maxRecDepth 100000
namespace Go.Proofs.YtcchmmjjfglpgaaGreat.M
open Go Go.Mini Go.Sort Go.Shelf
/-! ### slices.Sort of ints -/
theorem rel_grow {φ : Phi} {σ : Heap} {w : World} (h : Rel φ σ w) (n : Nat) (os : Array Obj) : Rel φ σ (grow (Sort.ahead w n) os) := by
  have keep : ∀ b, b < w.heap.size → (grow (Sort.ahead w n) os).heap[b]? = w.heap[b]? := by
    intro b hb
    show (w.heap ++ os)[b]? = _
    rw [Array.getElem?_append_left hb]
  have lt : ∀ b o, w.heap[b]? = some o → b < w.heap.size := fun b o e => (Array.getElem?_eq_some_iff.1 e).1
  refine ⟨?_, fun b hb => ?_, fun k b sz hk => ?_, h.inj, h.fresh, h.resv, h.tape, h.os, h.output, ?_, h.apart, h.base, ?_⟩
  · show _ ≤ (w.heap ++ os).size
    rw [Array.size_append]; have := h.size; omega
  · rw [keep b (Nat.lt_of_lt_of_le hb h.size)]; exact h.old b hb
  · obtain ⟨h1, o, h2, h3⟩ := h.new k b sz hk
    exact ⟨h1, o, by rw [keep b (lt b o h2)]; exact h2, h3⟩
  · intro b j v e
    have h1 := h.frz b j v e
    have hb : b < w.heap.size := World.block_lt_of_cell? w ⟨b, j, none⟩ h1
    simp only [World.cell?] at h1 ⊢
    rw [keep b hb]; exact h1
  · intro hd
    show _ ≤ w.drawn + n
    have := h.drawn hd; omega
theorem iv_VRs (φ : Phi) : ∀ l : List Int, VRs φ (iv l) (l.map encZ)
  | [] => .nil
  | x :: l => .cons (.int _ _) (iv_VRs φ l)
theorem iv_eq {φ : Phi} : ∀ {l : List Int} {us : List Value}, VRs φ (iv l) us → us = l.map encZ
  | [], us, h => by cases h; rfl
  | x :: l, us, h => by
    have h' : VRs φ (.int .i64 x :: iv l) us := h
    cases h' with
    | cons h1 h2 => cases h1; rw [iv_eq h2]; rfl
theorem sortI_afun (σ : Heap) (K : Nat) (l : List Int) (rs : List AVal) (N : Nat) (hN : l.length + rs.length = N) (hl : N ≤ 1000000) (hg : σ.get K = some (.cells (iv l ++ rs) none)) :
    AFun Tryz.prog n_slices_Sort_int_int [.slc (.new K) 0 l.length (.ex N)] σ (.tup []) (σ.set K (.cells (iv (l.mergeSort leI) ++ rs) none)) := by
  intro φ w vs hvs hr
  cases hvs with
  | cons hv1 hvs =>
  cases hvs
  cases hv1 with
  | @slcE _ b _ _ c hb =>
  simp only [Id.real, Option.map_eq_some_iff] at hb
  obtain ⟨⟨b', sz⟩, hk, rfl⟩ := hb
  obtain ⟨h1, o, h2, h3⟩ := hr.new K b' sz hk
  have hbr := h3 _ hg
  cases hbr with
  | @cells _ _ cs' T fz q1 q2 q3 qT q4 q5 =>
  have hlen : (iv l ++ rs).length = N := by rw [List.length_append, iv_len]; exact hN
  have q3' := q3 rfl
  rw [hlen] at q4 q2 q3'
  have e1 := q4.take l.length
  have e2 := q4.drop l.length
  rw [List.take_left' (iv_len l)] at e1
  rw [List.drop_left' (iv_len l)] at e2
  have heq := iv_eq e1
  rw [List.take_take, Nat.min_eq_left (by omega)] at heq
  have hH : Holds encZ w b' 0 l.toArray := by
    intro j hj
    have hj' : j < l.length := by simpa using hj
    have e : (cs'.toList.take l.length)[j]? = some (encZ l[j]) := by rw [heq, List.getElem?_map, List.getElem?_eq_getElem hj']; rfl
    rw [List.getElem?_take, if_pos hj'] at e
    refine ⟨?_, ?_⟩
    · rw [Nat.zero_add, cell?_cells h2]
      simpa [hj'] using e
    · simp only [World.frozen?, h2, Nat.zero_add]
      exact q5 j (by omega)
  have hblk : b' < w.heap.size := hr.lt hk
  have hcon := callsIn_wide.1 ((sortsL 0).1 b' 0 N l w hH hblk (by omega))
  refine hcon.mono ?_
  rintro e w' ⟨rfl, n, os, rfl⟩
  refine ⟨_, φ, rfl, Phi.le_refl φ, VR.tup (vs := []) .nil, ?_⟩
  have hms : (l.mergeSort fun x y => decide (x ≤ y)) = l.mergeSort leI := rfl
  rw [hms]
  have hml : (l.mergeSort leI).length = l.length := List.length_mergeSort l
  generalize l.mergeSort leI = s at hml
  refine rel_grow (w := putRow encZ w b' 0 s.toArray) ?_ n os
  refine hr.change (o := .cells (putCells encZ 0 s.toArray cs') T fz) hk hg (by intro h; cases h) ?_ ?_ rfl rfl rfl (Nat.le_refl _) ?_
  · intro b''
    show (w.heap.modify b' _)[b'']? = _
    rw [Array.getElem?_modify]
    by_cases e : b' = b''
    · subst e; rw [if_pos rfl, if_pos rfl, h2]; rfl
    · rw [if_neg e, if_neg (fun h => e h.symm)]
  · exact size_putRow ..
  · have hlen2 : (iv s ++ rs).length = N := by rw [List.length_append, iv_len, hml]; exact hN
    refine .cells (by simp [putCells, q1]) (by rw [hlen2]; exact q2) (fun _ => by rw [hlen2]; exact q3') qT ?_ q5
    rw [hlen2]
    have : (putCells encZ 0 s.toArray cs').toList.take N = s.map encZ ++ (cs'.toList.take N).drop l.length := by
      apply List.ext_getElem?
      intro t
      rw [List.getElem?_take, List.getElem?_append, List.length_map]
      have hcs : cs'.size = N := by omega
      by_cases ht : t < s.length
      · rw [if_pos ht, if_pos (by omega)]
        simp [putCells, ht, show t < cs'.size by omega]
      · rw [if_neg ht, List.getElem?_drop, List.getElem?_take]
        split
        · rename_i h
          rw [if_pos (by omega), show l.length + (t - s.length) = t by omega]
          simp [putCells, ht, show t < cs'.size by omega]
        · rename_i h
          rw [if_neg (by omega)]
    rw [this]
    exact (iv_VRs φ s).append e2
theorem sortI_call (σ : Heap) (K : Nat) (l : List Int) (rs : List AVal) (N : Nat) (hN : l.length + rs.length = N) (hl : N ≤ 1000000) (hg : σ.get K = some (.cells (iv l ++ rs) none)) :
    ACall Tryz.prog n_slices_Sort_int_int [.slc (.new K) 0 l.length (.ex N)] σ (.tup []) (σ.set K (.cells (iv (l.mergeSort leI) ++ rs) none)) :=
  acall_of_afun (sortI_afun σ K l rs N hN hl hg) ⟨_, Tryz.func70, by kernel_rfl, by kernel_rfl⟩
end Go.Proofs.YtcchmmjjfglpgaaGreat.M
set_option linter.unusedSimpArgs false
set_option linter.unusedVariables false
set_option maxRecDepth 100000
namespace Go.Proofs.YtcchmmjjfglpgaaGreat.M
open Go Go.Mini
attribute [local congr] go1_congr goM_congr goG_congr goV_congr drawwp_congr Xwp_congr
/-- the groups that aren't undone, as a row that may change -/
theorem eholds_spec {σ : Heap} {k : Nat} {E : Eng} {fp : List Nat} (h : IsEng σ k E fp) : MSpec Tryz.prog n_undo_holds [.ptr (.new k) 0] σ fun v τ => ∃ cs, v = .slc (.new σ.next) 0 (held E).length (.ex E.R.grp.length) ∧ Keep [] σ τ ∧ τ.get σ.next = some (.cells cs none) ∧ cs.length = E.R.grp.length ∧ cs.take (held E).length = iv (held E) ∧ σ.next < τ.next := by
  have hok := h.ok.2
  have hgl := rise_len hok.grp
  have huf := undone_few hok (E.R.head : Nat)
  refine spec_of_awp mixed c_undo_holds (Nat.le_of_ble_eq_true rfl) ?_
  unfold f_undo_holds
  have hm0 : (0 : Int) ≤ (E.R.grp.length : Int) := by omega
  have hm2 : E.R.grp.length ≤ maxRoom := by unfold maxRoom; omega
  have hm3 : E.R.grp.length * 8 ≤ maxRoom := by unfold maxRoom; omega
  have hm4 : (E.R.grp.length : Int) ≤ 2 ^ 62 := by omega
  have hgr := egroups_at h
  simp only [ints] at hgr
  simp only [↓evd, evu, evf, implies_true, reduceCtorEq, Nat.reduceEqDiff, ↓reduceIte, Nat.reduceAdd, Nat.reduceLeDiff, Nat.reduceLT, Nat.reduceMul, Int.reduceLT, Int.reduceLE, Int.reduceToNat, evz]
  refine MSpec.of hgr ?_
  obtain ⟨σ1, g1, g2, g3, g4, g5, g6⟩ := copy_whole (σ := σ.new (.cells (List.replicate E.R.grp.length [AVal.int IntKind.i64 0]).flatten none)) (K := σ.next) (k := 1) (els := E.R.grp.map (AVal.int .i64 ·)) (cap := .ex E.R.grp.length)
    (by rw [Heap.get_new, if_pos rfl]) (ivf_row _) (by simp) (by rw [ivf_cell]; exact iv_all _)
  rw [List.length_map] at g1
  rw [ivf_cell] at g2
  have hK1 : Keep [] σ σ1 := ⟨g3, g4, by rw [g5]; simp, fun q hq _ => by rw [g6 q (by omega), Heap.get_new, if_neg (by omega)]⟩
  have hn1 : σ1.next = σ.next + 1 := g5
  have h1 := h.keep hK1 (fun y _ => by simp)
  have hun := eundone_at h1
  simp only [ints] at hun
  simp only [↓evd, evu, evf, implies_true, reduceCtorEq, Nat.reduceEqDiff, ↓reduceIte, Nat.reduceAdd, Nat.reduceLeDiff, Nat.reduceLT, Nat.reduceMul, Int.reduceLT, Int.reduceLE, Int.reduceToNat, evz, hm0, hm2, hm3, hm4]
  simp only [↓evd, evu, evf, implies_true, reduceCtorEq, Nat.reduceEqDiff, ↓reduceIte, Nat.reduceAdd, Nat.reduceLeDiff, Nat.reduceLT, Nat.reduceMul, Int.reduceLT, Int.reduceLE, Int.reduceToNat, evz, g1]
  refine MSpec.of hun ?_
  have hb : ((σ1.new (.cells [.nils] none)).set σ1.next (.cells [ints (E.R.undone (E.R.head : Nat))] none)).get σ1.next = some (.cells [ints (E.R.undone (E.R.head : Nat))] none) := by rw [Heap.get_set, if_pos rfl]
  have hg2 : ((σ1.new (.cells [.nils] none)).set σ1.next (.cells [ints (E.R.undone (E.R.head : Nat))] none)).get σ.next = some (.cells (iv E.R.grp) none) := by
    rw [Heap.get_set, if_neg (by omega), Heap.get_new, if_neg (by omega)]; exact g2
  have hdel := deleteI_spec _ σ.next E.R.grp n_undo_holds_1 [.ptr (.new σ1.next) 0] (fun x => decide (x ∈ E.R.undone (E.R.head : Nat))) (by omega) hg2
    (fun τ hK x _ => holds1_call (by rw [hK.2.2.2 σ1.next (by simp) (by simp; omega)]; exact hb) huf x) (by simp; omega)
  simp only [ints] at hdel
  simp only [↓evd, evu, evf, implies_true, reduceCtorEq, Nat.reduceEqDiff, ↓reduceIte, Nat.reduceAdd, Nat.reduceLeDiff, Nat.reduceLT, Nat.reduceMul, Int.reduceLT, Int.reduceLE, Int.reduceToNat, evz]
  refine hdel.mono ?_
  rintro v τ ⟨rfl, hK2, cs, c1, c2, c3⟩
  simp only [↓evd, evu, evf, implies_true, reduceCtorEq, Nat.reduceEqDiff, ↓reduceIte, Nat.reduceAdd, Nat.reduceLeDiff, Nat.reduceLT, Nat.reduceMul, Int.reduceLT, Int.reduceLE, Int.reduceToNat, evz]
  refine ⟨cs, rfl, ?_, c1, c2, c3, ?_⟩
  · exact (hK1.junk _ _).fresh hK2 (fun x hx => by simp at hx; omega)
  · have := hK2.2.2.1; simp at this; omega
/-- append of one, with room -/
theorem app_room {σ : Heap} {K N : Nat} {l : List Int} {r : AVal} {rs : List AVal} (g : Int) (hK : K < σ.next) (hg : σ.get K = some (.cells (iv l ++ r :: rs) none)) (hN : l.length + 1 ≤ N) :
    aApp t_int 1 8 (.slc (.new K) 0 l.length (.ex N)) (.slc (.new σ.next) 0 1 (.ex 1)) (σ.new (.cells [.int .i64 g] none)) = some (.slc (.new K) 0 (l ++ [g]).length (.ex N), (σ.new (.cells [.int .i64 g] none)).set K (.cells (iv (l ++ [g]) ++ rs) none)) := by
  have hsrc := src_one (σ := σ.new (.cells [.int .i64 g] none)) (K := σ.next) (k := 1) (cs := [.int .i64 g]) (opn := none) (z := .int .i64 g) (cap := .ex 1) (by rw [Heap.get_new, if_pos rfl]) rfl rfl
  have hgK : (σ.new (.cells [.int .i64 g] none)).get K = some (.cells (iv l ++ r :: rs) none) := by rw [Heap.get_new, if_neg (by omega)]; exact hg
  have hov := over_set (l := iv l ++ r :: rs) (j := l.length) (x := .int .i64 g) (by simp [iv_len])
  have hset : (iv l ++ r :: rs).set l.length (.int .i64 g) = iv (l ++ [g]) ++ rs := by
    rw [List.set_append_right _ _ (by rw [iv_len]; exact Nat.le_refl _), iv_len, Nat.sub_self]
    simp [iv]
  rw [hset] at hov
  have hst : storeAt (σ.new (.cells [.int .i64 g] none)) K (0 + l.length * 1) [.int .i64 g] = some ((σ.new (.cells [.int .i64 g] none)).set K (.cells (iv (l ++ [g]) ++ rs) none)) := by
    simp only [storeAt, hgK, Nat.zero_add, Nat.mul_one]
    rw [if_pos (by simp [iv_len, AVal.isCell]), ← hov]; rfl
  simp only [aApp, aLenOf]
  have hs2 : srcCells (σ.new (.cells [.int .i64 g] none)) 1 1 (.slc (.new σ.next) 0 1 (.ex 1)) = some [.int .i64 g] := hsrc.2
  simp only [hs2]
  simp only [List.all_cons, List.all_nil, AVal.isCell, hN, if_true, hst, Option.map_some, List.length_append, List.length_cons, List.length_nil]
  simp
theorem only1_call {σ : Heap} {b : Nat} {g : Int} (hb : σ.get b = some (.cells [.int .i64 g] none)) (x : Int) : ACall Tryz.prog n_undo_Only_1 [.int .i64 x, .ptr (.new b) 0] σ (.bool (x == g)) σ := by
  refine exact_call (spec_of_awp mixed c_undo_Only_1 (Nat.le_of_ble_eq_true rfl) ?_)
  unfold f_undo_Only_1
  simp only [↓evd, evu, evf, implies_true, reduceCtorEq, Nat.reduceEqDiff, ↓reduceIte, Nat.reduceAdd, Nat.reduceLeDiff, Nat.reduceLT, Nat.reduceMul, Int.reduceLT, Int.reduceLE, Int.reduceToNat, evz, hb]
def onlyL (E : Eng) (g : Int) : List Int := ((held E).filter (fun x => !(x == g)) ++ if g ∈ E.R.undone (E.R.head : Nat) then [g] else []).mergeSort leI
def onlyE (E : Eng) (g : Int) : Eng × Int × Int := if g ∈ E.R.grp then allE E (onlyL E g) else (E, 0, 210)
theorem held_lt {E : Eng} {g : Int} (h1 : g ∈ E.R.grp) (h2 : g ∈ E.R.undone (E.R.head : Nat)) : (held E).length < E.R.grp.length := by
  rw [held]
  refine Nat.lt_of_le_of_ne (List.length_filter_le _ _) fun e => ?_
  have := List.length_filter_eq_length_iff.1 e g h1
  simp [h2] at this
theorem eonly_at {σ : Heap} {k : Nat} {E E' : Eng} {fp : List Nat} {n c : Int} (h : IsEng σ k E fp) {g : Int} (e : onlyE E g = (E', n, c)) : MSpec Tryz.prog n_undo_Only [.ptr (.new k) 0, .int .i64 g] σ fun v τ => v = .tup [.int .i64 n, .int .i64 c] ∧ ∃ fp', IsEng τ k E' fp' ∧ Keep fp σ τ ∧ Fresh fp σ fp' := by
  by_cases hgm : g ∈ E.R.grp
  case neg =>
    rw [onlyE, if_neg hgm] at e
    cases e
    exact (eonly_no h hgm).mono fun v τ ⟨h1, h2, h3⟩ => ⟨h1, fp, h2, h3.mono (fun x hx => nomatch hx), fun x hx => .inl hx⟩
  rw [onlyE, if_pos hgm] at e
  refine spec_of_awp mixed c_undo_Only (Nat.le_of_ble_eq_true rfl) ?_
  unfold f_undo_Only
  have hgl := rise_len h.ok.2.grp
  have huf := undone_few h.ok.2 (E.R.head : Nat)
  have hK : Keep [] σ ((σ.new (.cells [.int .i64 g] none))) := (Keep.refl _ _).new _
  have h1 := h.keep hK (fun y _ => by simp)
  have hgr := egroups_at h1
  have hc := contains_call (σ.new (.cells [.int .i64 g] none)) E.R.grp g (by omega)
  have hho := eholds_spec h1
  have hnx : (σ.new (.cells [.int .i64 g] none)).next = σ.next + 1 := rfl
  simp only [ints] at hgr hc
  simp only [↓evd, evu, evf, implies_true, reduceCtorEq, Nat.reduceEqDiff, ↓reduceIte, Nat.reduceAdd, Nat.reduceLeDiff, Nat.reduceLT, Nat.reduceMul, Int.reduceLT, Int.reduceLE, Int.reduceToNat, evz]
  with_reducible refine draw_of_grow (fun _ => True) (ms := [false, false, false, false, false]) (by kernel_rfl) ?_
  simp only [↓evd, evu, evf, implies_true, reduceCtorEq, Nat.reduceEqDiff, ↓reduceIte, Nat.reduceAdd, Nat.reduceLeDiff, Nat.reduceLT, Nat.reduceMul, Int.reduceLT, Int.reduceLE, Int.reduceToNat, evz]
  refine MSpec.of hgr ⟨.inr Keeps.rfl, ?_⟩
  simp only [↓evd, evu, evf, implies_true, reduceCtorEq, Nat.reduceEqDiff, ↓reduceIte, Nat.reduceAdd, Nat.reduceLeDiff, Nat.reduceLT, Nat.reduceMul, Int.reduceLT, Int.reduceLE, Int.reduceToNat, evz]
  refine MSpec.of hc ⟨.inr Keeps.rfl, ?_⟩
  simp only [↓evd, evu, evf, implies_true, reduceCtorEq, Nat.reduceEqDiff, ↓reduceIte, Nat.reduceAdd, Nat.reduceLeDiff, Nat.reduceLT, Nat.reduceMul, Int.reduceLT, Int.reduceLE, Int.reduceToNat, evz, mem_bool hgm]
  rw [hnx] at hho
  refine hho.mono ?_
  rintro v τ ⟨cs, rfl, hK2, c1, c2, c3, c4⟩
  have hb : τ.get σ.next = some (.cells [.int .i64 g] none) := by rw [hK2.2.2.2 σ.next (by rw [hnx]; omega) (by simp), Heap.get_new, if_pos rfl]
  have hle : (held E).length ≤ E.R.grp.length := List.length_filter_le _ _
  have hsplit : cs = iv (held E) ++ cs.drop (held E).length := by rw [← c3, List.take_append_drop]
  rw [hsplit] at c1
  have hrl : (held E).length + (cs.drop (held E).length).length = E.R.grp.length := by rw [List.length_drop]; omega
  generalize cs.drop (held E).length = rs at c1 hrl
  have hdel := deleteI2_spec τ (σ.next + 1) (held E) rs E.R.grp.length hrl n_undo_Only_1 [.ptr (.new σ.next) 0] (fun x => x == g) (by omega) c1
    (fun ρ hk x _ => only1_call (by rw [hk.2.2.2 σ.next (by omega) (by simp)]; exact hb) x) c4
  simp only [↓evd, evu, evf, implies_true, reduceCtorEq, Nat.reduceEqDiff, ↓reduceIte, Nat.reduceAdd, Nat.reduceLeDiff, Nat.reduceLT, Nat.reduceMul, Int.reduceLT, Int.reduceLE, Int.reduceToNat, evz]
  refine hdel.mono ?_
  rintro v τ2 ⟨rfl, hK3, rs', d1, d2⟩
  have hK4 : Keep [] σ τ2 := (hK.trans hK2 (fun x hx => nomatch hx)).fresh hK3 (fun x hx => by simp at hx; omega)
  have h2 := h.keep hK4 (fun y _ => by simp)
  have hun := eundone_at h2
  have hb2 : τ2.get σ.next = some (.cells [.int .i64 g] none) := by rw [hK3.2.2.2 σ.next (by omega) (by simp)]; exact hb
  have hc2 := contains_call τ2 (E.R.undone (E.R.head : Nat)) g (by omega)
  simp only [ints] at hun hc2
  have hKn : σ.next + 1 < τ2.next := by have := hK3.2.2.1; omega
  have hfl : ((held E).filter (fun x => !(x == g))).length ≤ (held E).length := List.length_filter_le _ _
  simp only [↓evd, evu, evf, implies_true, reduceCtorEq, Nat.reduceEqDiff, ↓reduceIte, Nat.reduceAdd, Nat.reduceLeDiff, Nat.reduceLT, Nat.reduceMul, Int.reduceLT, Int.reduceLE, Int.reduceToNat, evz]
  with_reducible refine draw_of_grow (fun _ => True) (ms := [false, false, false, false]) (by kernel_rfl) ?_
  simp only [↓evd, evu, evf, implies_true, reduceCtorEq, Nat.reduceEqDiff, ↓reduceIte, Nat.reduceAdd, Nat.reduceLeDiff, Nat.reduceLT, Nat.reduceMul, Int.reduceLT, Int.reduceLE, Int.reduceToNat, evz]
  refine MSpec.of hun ⟨.inr Keeps.rfl, ?_⟩
  simp only [↓evd, evu, evf, implies_true, reduceCtorEq, Nat.reduceEqDiff, ↓reduceIte, Nat.reduceAdd, Nat.reduceLeDiff, Nat.reduceLT, Nat.reduceMul, Int.reduceLT, Int.reduceLE, Int.reduceToNat, evz, hb2]
  refine MSpec.of hc2 ⟨.inr Keeps.rfl, ?_⟩
  have fin : ∀ (l : List Int) (rs : List AVal) (τ3 : Heap), l.mergeSort leI = onlyL E g → Keep [] σ τ3 → σ.next + 1 < τ3.next → τ3.get (σ.next + 1) = some (.cells (iv l ++ rs) none) → l.length + rs.length = E.R.grp.length →
      MSpec Tryz.prog n_slices_Sort_int_int [.slc (.new (σ.next + 1)) 0 l.length (.ex E.R.grp.length)] τ3 fun v τ4 => v = .tup [] ∧ MSpec Tryz.prog n_undo_All [.ptr (.new k) 0, .slc (.new (σ.next + 1)) 0 l.length (.ex E.R.grp.length)] τ4 fun v τ => v = .tup [.int .i64 n, .int .i64 c] ∧ ∃ fp', IsEng τ k E' fp' ∧ Keep fp σ τ ∧ Fresh fp σ fp' := by
    intro l rs τ3 hl hk hn hg hN
    have hsc := sortI_call τ3 (σ.next + 1) l rs E.R.grp.length hN (by omega) hg
    rw [hl] at hsc
    refine MSpec.of hsc ⟨rfl, ?_⟩
    have hlen : (onlyL E g).length = l.length := by rw [← hl, List.length_mergeSort]
    rw [← hlen]
    have hs1 : Keep [] σ (τ3.set (σ.next + 1) (.cells (iv (onlyL E g) ++ rs) none)) := hk.set (.inr (by omega)) _
    have hsee : Sees (τ3.set (σ.next + 1) (.cells (iv (onlyL E g) ++ rs) none)) (.slc (.new (σ.next + 1)) 0 (onlyL E g).length (.ex E.R.grp.length)) ((τ3.set (σ.next + 1) (.cells (iv (onlyL E g) ++ rs) none)).set (σ.next + 1) .dead) (ints (onlyL E g)) := by
      refine Sees.own (by rw [Heap.get_set, if_pos rfl]) (by simp) (ivf_row _) ?_ (fun c hc => by cases hc; omega)
      rw [List.drop_zero, Nat.mul_one, List.take_left' (iv_len _), ivf_cell]
    have hs2 := hs1.set (j := σ.next + 1) (.inr (by omega)) .dead
    refine mspec_seen (.cons (Sees.refl _ _) (.cons hsee (.nil _))) ?_
    refine (all_at (h.keep hs2 (fun y _ => by simp)) (l := onlyL E g) (by omega) e).mono ?_
    rintro v τ ⟨rfl, fp', a1, a2, a3⟩
    refine ⟨rfl, fp', a1, (hs2.mono (fun x hx => nomatch hx)).trans a2 (fun x hx => .inl hx), ?_⟩
    intro x hx
    rcases a3 x hx with h | h
    · exact .inl h
    · refine .inr ?_; have := hs2.2.2.1; omega
  by_cases hgu : g ∈ E.R.undone (E.R.head : Nat)
  · have hlt := held_lt hgm hgu
    obtain ⟨r, rs'', rfl⟩ : ∃ r rs'', rs' = r :: rs'' := by
      cases rs' with
      | nil => simp at d2; omega
      | cons r rs'' => exact ⟨r, rs'', rfl⟩
    have hap := app_room (N := E.R.grp.length) g hKn d1 (by omega)
    have hf := fin ((held E).filter (fun x => !(x == g)) ++ [g]) rs'' ((τ2.new (.cells [.int .i64 g] none)).set (σ.next + 1) (.cells (iv ((held E).filter (fun x => !(x == g)) ++ [g]) ++ rs'') none)) (by rw [onlyL, if_pos hgu]) ((hK4.new _).set (.inr (by omega)) _) (by simp; omega) (by rw [Heap.get_set, if_pos rfl]) (by simp at d2 ⊢; omega)
    simp only [↓evd, evu, evf, implies_true, reduceCtorEq, Nat.reduceEqDiff, ↓reduceIte, Nat.reduceAdd, Nat.reduceLeDiff, Nat.reduceLT, Nat.reduceMul, Int.reduceLT, Int.reduceLE, Int.reduceToNat, evz, mem_bool hgu, hb2, hap]
    refine hf.mono ?_
    rintro v τ4 ⟨rfl, hA⟩
    simp only [↓evd, evu, evf, implies_true, reduceCtorEq, Nat.reduceEqDiff, ↓reduceIte, Nat.reduceAdd, Nat.reduceLeDiff, Nat.reduceLT, Nat.reduceMul, Int.reduceLT, Int.reduceLE, Int.reduceToNat, evz]
    refine hA.mono ?_
    rintro v τ5 ⟨rfl, hq⟩
    simp only [↓evd, evu, evf, implies_true, reduceCtorEq, Nat.reduceEqDiff, ↓reduceIte, Nat.reduceAdd, Nat.reduceLeDiff, Nat.reduceLT, Nat.reduceMul, Int.reduceLT, Int.reduceLE, Int.reduceToNat, evz]
    exact hq
  · have hf := fin ((held E).filter (fun x => !(x == g))) rs' τ2 (by rw [onlyL, if_neg hgu, List.append_nil]) hK4 hKn d1 d2
    simp only [↓evd, evu, evf, implies_true, reduceCtorEq, Nat.reduceEqDiff, ↓reduceIte, Nat.reduceAdd, Nat.reduceLeDiff, Nat.reduceLT, Nat.reduceMul, Int.reduceLT, Int.reduceLE, Int.reduceToNat, evz, not_mem_bool hgu]
    refine hf.mono ?_
    rintro v τ4 ⟨rfl, hA⟩
    simp only [↓evd, evu, evf, implies_true, reduceCtorEq, Nat.reduceEqDiff, ↓reduceIte, Nat.reduceAdd, Nat.reduceLeDiff, Nat.reduceLT, Nat.reduceMul, Int.reduceLT, Int.reduceLE, Int.reduceToNat, evz]
    refine hA.mono ?_
    rintro v τ5 ⟨rfl, hq⟩
    simp only [↓evd, evu, evf, implies_true, reduceCtorEq, Nat.reduceEqDiff, ↓reduceIte, Nat.reduceAdd, Nat.reduceLeDiff, Nat.reduceLT, Nat.reduceMul, Int.reduceLT, Int.reduceLE, Int.reduceToNat, evz]
    exact hq
end Go.Proofs.YtcchmmjjfglpgaaGreat.M
set_option linter.unusedSimpArgs false
set_option linter.unusedVariables false
set_option maxRecDepth 100000
namespace Go.Proofs.YtcchmmjjfglpgaaGreat.M
open Go Go.Mini
/-! ### Elder texts stay -/
theorem atomsText_append (rev : Int) (u : List Int) : ∀ l m : List Atom, atomsText rev u (l ++ m) = atomsText rev u l ++ atomsText rev u m
  | [], m => rfl
  | a :: l, m => by simp only [List.cons_append, atomsText, atomsText_append rev u l m, List.append_assoc]
theorem atomsText_none (rev : Int) (u : List Int) : ∀ l : List Atom, (∀ a ∈ l, visible rev u a = false) → atomsText rev u l = []
  | [], _ => rfl
  | a :: l, h => by simp only [atomsText, h a (by simp), Bool.false_eq_true, if_false, List.nil_append, atomsText_none rev u l fun b hb => h b (List.mem_cons_of_mem _ hb)]
theorem visible_late {rev now : Int} {u : List Int} {a : Atom} {c : Cut} (hc : c.rev = now) (h : rev < now) : visible rev u { a with cuts := a.cuts ++ [c] } = visible rev u a := by
  have : cutHolds rev u c = false := by simp only [cutHolds, Bool.and_eq_false_iff, decide_eq_false_iff_not]; exact .inl (by omega)
  simp only [visible, List.any_append, List.any_cons, this, List.any_nil, Bool.or_false]
theorem marked_elder {rev now : Int} {u ct : List Int} {c : Cut} (hc : c.rev = now) (h : rev < now) : ∀ (l : List Atom) (i : Nat), atomsText rev u (marked ct c l i) = atomsText rev u l
  | [], _ => rfl
  | a :: l, i => by
    simp only [marked, atomsText, marked_elder hc h l (i + 1)]
    split
    · rw [visible_late hc h]
    · rfl
/-- a merge whose new atoms aren't seen -/
theorem merged_elder {new : List UInt8 → List Atom} {mk : List Atom} {rev : Int} {u : List Int} (hn : ∀ t, ∀ a ∈ new t, visible rev u a = false) : ∀ (r : List (Nat × List UInt8)) (at' : Nat), (r.map Prod.fst).Pairwise (· ≤ ·) → (∀ k ∈ r.map Prod.fst, at' ≤ k ∧ k ≤ mk.length) → atomsText rev u (merged new mk r at') = atomsText rev u (mk.drop at')
  | [], at', _, _ => rfl
  | (k, t) :: r, at', hs, hl => by
    have hk := hl k (by simp)
    have ih := merged_elder hn r k hs.of_cons fun q hq => ⟨List.rel_of_pairwise_cons hs hq, (hl q (List.mem_cons_of_mem _ hq)).2⟩
    rw [merged_cons, atomsText_append, atomsText_append, ih, atomsText_none rev u (new t) (hn t), List.append_nil, ← atomsText_append]
    congr 1
    have : mk.drop at' = (mk.take k).drop at' ++ mk.drop k := by
      conv => lhs; rw [← List.take_append_drop k mk]
      rw [List.drop_append_of_le_length (by rw [List.length_take]; omega)]
    rw [this]
theorem zip_fst {α β : Type} : ∀ (l : List α) (m : List β), (l.zip m).map Prod.fst = l.take m.length
  | [], m => by simp
  | a :: l, [] => by simp
  | a :: l, b :: m => by simp [zip_fst l m]
theorem upon_elder {l : List Atom} {base : Int} {u0 : List Int} {cs : List Chg} {now group rank rev : Int} {u : List Int} (h : rev < now) : atomsText rev u (upon l base u0 cs now group rank) = atomsText rev u l := by
  unfold upon
  split
  · rename_i h0
    obtain ⟨h1, h2⟩ := spotsN_sorted rank h0
    have hf : ((spotsN l base u0 cs rank).zip (cs.map Chg.text)).map Prod.fst = spotsN l base u0 cs rank := by
      rw [zip_fst, List.take_of_length_le]; simp [spotsN]
    rw [merged_elder (fun t a ha => ?_) _ _ (by rw [hf]; exact h1) (by rw [hf, marked_len]; exact fun k hk => ⟨Nat.zero_le _, h2 k hk⟩), List.drop_zero, marked_elder rfl h]
    simp only [newAtoms, List.mem_map] at ha
    obtain ⟨b, _, rfl⟩ := ha
    simp only [visible, Bool.and_eq_false_iff, decide_eq_false_iff_not]
    exact .inl (.inl (by omega))
  · rfl
theorem live_push {R : Revs} {s : List Int} {n : Int} (h : R.Ok) : (R.push s).live n = true ↔ R.live n = true ∨ n = ((R.head + 1 : Nat) : Int) := by
  have hl := List.length_pos_iff.2 h.one
  rw [live_iff, live_iff]
  simp only [Revs.push, List.length_append, List.length_cons, List.length_nil, Revs.head]; omega
theorem undone_grp (R : Revs) (g : List Int) (n : Int) : Revs.undone { R with grp := g } n = R.undone n := rfl
theorem live_grp (R : Revs) (g : List Int) (n : Int) : Revs.live { R with grp := g } n = R.live n := rfl
/-- whatever is edited or toggled: elder revisions stay live, their texts stay -/
theorem edit_elder {E E' : Eng} {base group rank n : Int} {cs : List Chg} (hR : E.R.Ok) (e : editE E base group rank cs = (E', n, 0)) : n = ((E.R.head + 1 : Nat) : Int) ∧ E'.R.head = E.R.head + 1 ∧ E'.R.floor = E.R.floor ∧ ∀ k : Int, E.R.live k = true → E'.R.live k = true ∧ E'.text k = E.text k := by
  unfold editE at e
  split at e
  · cases e
  split at e
  · rename_i h2; simp only [Prod.mk.injEq] at e; exact absurd e.2.2 h2
  split at e
  · rename_i h2; simp only [Prod.mk.injEq] at e; exact absurd e.2.2 h2
  rename_i h3
  split at e
  · cases e
  split at e
  · cases e
  split at e
  · cases e
  obtain ⟨_, _, _, hh, e1, e2⟩ := addR_ok (by simpa using h3) hR
  cases e
  refine ⟨by rw [e1]; rfl, e2, by rw [e1]; rfl, fun k hk => ?_⟩
  have hlv := live_iff.1 hk
  have hl := List.length_pos_iff.2 hR.one
  refine ⟨by rw [e1]; exact (live_push hR).2 (.inl hk), ?_⟩
  simp only [Eng.text, e1]
  rw [upon_elder (by simp only [Revs.head]; omega), undone_grp, undone_push _ hR hk]
theorem toggle_elder {E E' : Eng} {g n : Int} (hR : E.R.Ok) (e : toggleE E g = (E', n, 0)) : n = ((E.R.head + 1 : Nat) : Int) ∧ E'.R.head = E.R.head + 1 ∧ E'.R.floor = E.R.floor ∧ ∀ k : Int, E.R.live k = true → E'.R.live k = true ∧ E'.text k = E.text k := by
  unfold toggleE at e
  split at e
  · rename_i h2; simp only [Prod.mk.injEq] at e; exact absurd e.2.2 h2
  rename_i h3
  split at e
  · cases e
  obtain ⟨_, hh, e1, e2⟩ := toggleR_ok (by simpa using h3) hR
  cases e
  refine ⟨by rw [e1]; rfl, e2, by rw [e1]; rfl, fun k hk => ?_⟩
  refine ⟨by rw [e1]; exact (live_push hR).2 (.inl hk), ?_⟩
  simp only [Eng.text, e1]
  rw [undone_push _ hR hk]
theorem edit_fail {E E' : Eng} {base group rank n c : Int} {cs : List Chg} (e : editE E base group rank cs = (E', n, c)) (hc : c ≠ 0) : E' = E ∧ n = 0 := by
  unfold editE at e
  repeat' split at e
  all_goals
    simp only [Prod.mk.injEq] at e
    first | exact ⟨e.1.symm, e.2.1.symm⟩ | exact absurd e.2.2.symm hc
theorem toggle_fail {E E' : Eng} {g n c : Int} (e : toggleE E g = (E', n, c)) (hc : c ≠ 0) : E' = E ∧ n = 0 := by
  unfold toggleE at e
  repeat' split at e
  all_goals
    simp only [Prod.mk.injEq] at e
    first | exact ⟨e.1.symm, e.2.1.symm⟩ | exact absurd e.2.2.symm hc
theorem atomsText_congr {r r' : Int} {u u' : List Int} : ∀ {l : List Atom}, (∀ a ∈ l, visible r u a = visible r' u' a) → atomsText r u l = atomsText r' u' l
  | [], _ => rfl
  | a :: l, h => by simp only [atomsText, h a (by simp), atomsText_congr fun b hb => h b (List.mem_cons_of_mem _ hb)]
theorem holds_congr {u u' : List Int} (h : ∀ x, x ∈ u ↔ x ∈ u') (g : Int) : holds u g = holds u' g := by simp only [holds, h g]
theorem tmod_nat {a : Int} {n : Nat} (h0 : 0 ≤ a) (hn : 0 < n) : a.tmod (n : Int) = ((a.toNat % n : Nat) : Int) := by
  rw [Int.tmod_eq_emod_of_nonneg h0]
  obtain ⟨b, rfl⟩ : ∃ b : Nat, a = (b : Int) := ⟨a.toNat, by omega⟩
  rw [Int.toNat_natCast]; exact (Int.natCast_emod b n).symm
end Go.Proofs.YtcchmmjjfglpgaaGreat.M
