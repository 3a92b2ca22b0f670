/- A part of the seat's proofs over the abstract machine. No condition. -/
import Derived.Test.YtmjngohmcljfjaaWA
import Derived.Test.YtmjngohmcljfjaaMB
set_option linter.unusedSimpArgs false
set_option linter.unusedVariables false
set_option maxRecDepth 100000
namespace Go.Proofs.Ytmjngohmcljfjaa.M
open Go Go.Mini
/-! ### Spots stand in order -/
theorem spotF_mono (rev : Int) (u : List Int) {at1 at2 : Int} (h : at1 ≤ at2) : ∀ (l : List Atom) (ps : List Int) (i acc1 acc2 : Nat), acc1 ≤ acc2 → acc1 ≤ i → spotF rev u at1 l ps i acc1 ≤ spotF rev u at2 l ps i acc2
  | [], ps, i, acc1, acc2, h1, _ => by simp [spotF]; exact h1
  | a :: l, [], i, acc1, acc2, h1, _ => by simp [spotF]; exact h1
  | a :: l, p :: ps, i, acc1, acc2, h1, h2 => by
    simp only [spotF]
    refine spotF_mono rev u h l ps (i + 1) _ _ ?_ ?_
    · by_cases c1 : p < at1 ∧ visible rev u a = true
      · rw [if_pos c1, if_pos ⟨by omega, c1.2⟩]; exact Nat.le_refl _
      · rw [if_neg c1]; split <;> omega
    · split <;> omega
theorem spotF_vis (rev : Int) (u : List Int) (at' : Int) : ∀ (l : List Atom) (ps : List Int) (i acc : Nat), spotF rev u at' l ps i acc = acc ∨ ∃ (j : Nat) (a : Atom), l[j]? = some a ∧ spotF rev u at' l ps i acc = i + j + 1 ∧ visible rev u a = true
  | [], ps, i, acc => by simp [spotF]
  | a :: l, [], i, acc => by simp [spotF]
  | a :: l, p :: ps, i, acc => by
    simp only [spotF]
    rcases spotF_vis rev u at' l ps (i + 1) (if p < at' ∧ visible rev u a = true then i + 1 else acc) with h | ⟨j, b, h1, h2, h3⟩
    · by_cases c1 : p < at' ∧ visible rev u a = true
      · rw [if_pos c1] at h ⊢
        exact .inr ⟨0, a, rfl, h, c1.2⟩
      · rw [if_neg c1] at h ⊢
        exact .inl h
    · exact .inr ⟨j + 1, b, h1, by omega, h3⟩
theorem spotG_ge (rev rank : Int) : ∀ (l : List Atom) (k : Nat), k ≤ spotG rev rank l k
  | [], k => by simp [spotG]
  | a :: l, k => by
    simp only [spotG]
    split
    · have := spotG_ge rev rank l (k + 1); omega
    · omega
theorem spotG_stop (rev rank : Int) : ∀ (l : List Atom) (k j : Nat) (a : Atom), l[j]? = some a → a.rev ≤ rev → spotG rev rank l k ≤ k + j
  | [], k, j, a, h, _ => by simp at h
  | b :: l, k, 0, a, h, h2 => by
    simp at h; subst h
    rw [spotG, if_neg (by omega)]; omega
  | b :: l, k, j + 1, a, h, h2 => by
    simp only [spotG]
    split
    · have := spotG_stop rev rank l (k + 1) j a (by simpa using h) h2; omega
    · omega
theorem visible_rev {rev : Int} {u : List Int} {a : Atom} (h : visible rev u a = true) : a.rev ≤ rev := by
  simp only [visible, Bool.and_eq_true, decide_eq_true_eq] at h
  exact h.1.1
theorem spot_mono (l : List Atom) (ps : List Int) (rev : Int) (u : List Int) {at1 at2 : Int} (rank : Int) (h : at1 ≤ at2) : spot l ps rev u at1 rank ≤ spot l ps rev u at2 rank := by
  have h1 := spotF_mono rev u h l ps 0 0 0 (Nat.le_refl _) (Nat.le_refl _)
  have h2 := spotF_vis rev u at2 l ps 0 0
  unfold spot
  generalize spotF rev u at1 l ps 0 0 = k1 at h1
  generalize spotF rev u at2 l ps 0 0 = k2 at h1 h2
  by_cases e : k1 = k2
  · subst e; exact Nat.le_refl _
  · rcases h2 with h2 | ⟨j, a, g1, g2, g3⟩
    · omega
    · have hg := spotG_ge rev rank (l.drop k2) k2
      have hj : (l.drop k1)[j - k1]? = some a := by rw [List.getElem?_drop, show k1 + (j - k1) = j by omega]; exact g1
      have hs := spotG_stop rev rank (l.drop k1) k1 (j - k1) a hj (visible_rev g3)
      omega
/-- the order that a check leaves: each change begins no earlier than the one ahead of it -/
theorem frm_sorted {s : List UInt8} : ∀ {l : List Chg}, l.any (chgOut s) = false → disorder l = false → (l.map Chg.frm).Pairwise (· ≤ ·)
  | [], _, _ => .nil
  | [x], _, _ => by simp
  | x :: y :: l, h1, h2 => by
    simp only [List.any_cons, Bool.or_eq_false_iff] at h1
    rw [disorder, Bool.or_eq_false_iff] at h2
    have ih := frm_sorted (s := s) (l := y :: l) (by simp only [List.any_cons, h1.2.1, h1.2.2]; rfl) h2.2
    have h3 : x.frm ≤ y.frm := by
      have a1 := h1.1
      have a2 := h2.1
      simp only [chgOut, chgBad, Bool.or_eq_false_iff, decide_eq_false_iff_not] at a1 a2
      omega
    rw [List.map_cons]
    refine .cons ?_ ih
    intro z hz
    rw [List.map_cons, List.mem_cons] at hz
    rcases hz with rfl | hz
    · exact h3
    · rw [List.map_cons] at ih
      exact Int.le_trans h3 (List.rel_of_pairwise_cons ih hz)
theorem firstNZ_zero : ∀ {l : List Int}, firstNZ l = 0 → ∀ e ∈ l, e = 0
  | [], _, e, h => by cases h
  | x :: l, h, e, he => by
    rw [firstNZ] at h
    split at h
    · rename_i h0
      rcases List.mem_cons.1 he with rfl | he
      · exact h0
      · exact firstNZ_zero h e he
    · rename_i h0; exact absurd h h0
/-- what a check that finds no error says -/
theorem check_zero {s : List UInt8} {l : List Chg} (h : check s l = 0) : valid s = true ∧ l.length ≤ 8 ∧ l.any (chgOut s) = false ∧ l.any (chgIn s) = false ∧ disorder l = false ∧ (∀ c ∈ l, valid c.text = true) ∧ longI s l = 0 := by
  unfold check at h
  split at h
  · cases h
  rename_i hv
  split at h
  · cases h
  rename_i h8
  have hz := firstNZ_zero h
  have e1 := hz _ (show (if l.any (chgOut s) then (10 : Int) else 0) ∈ errs s l by simp [errs])
  have e2 := hz _ (show (if l.any (chgIn s) then (11 : Int) else 0) ∈ errs s l by simp [errs])
  have e3 := hz _ (show (if disorder l then (180 : Int) else 0) ∈ errs s l by simp [errs])
  have e4 := hz _ (show (if l.any (fun c => !valid c.text) then (12 : Int) else 0) ∈ errs s l by simp [errs])
  have e5 := hz _ (show longI s l ∈ errs s l by simp [errs])
  refine ⟨by simpa using hv, by omega, ?_, ?_, ?_, ?_, e5⟩
  · cases hb : l.any (chgOut s) with
    | false => rfl
    | true => rw [hb] at e1; cases e1
  · cases hb : l.any (chgIn s) with
    | false => rfl
    | true => rw [hb] at e2; cases e2
  · cases hb : disorder l with
    | false => rfl
    | true => rw [hb] at e3; cases e3
  · intro c hc
    cases hb : l.any (fun c => !valid c.text) with
    | false =>
      rw [List.any_eq_false] at hb
      simpa using hb c hc
    | true => rw [hb] at e4; cases e4
end Go.Proofs.Ytmjngohmcljfjaa.M
set_option linter.unusedSimpArgs false
set_option linter.unusedVariables false
set_option maxRecDepth 100000
namespace Go.Proofs.Ytmjngohmcljfjaa.M
open Go Go.Mini
attribute [local congr] go1_congr goM_congr goG_congr goV_congr drawwp_congr
/-- the spots as numbers -/
def spotsN (l : List Atom) (rev : Int) (u : List Int) (cs : List Chg) (rank : Int) : List Nat := cs.map fun c => spot l (places rev u l 0) rev u c.frm rank
theorem spots_eq {l : List Atom} {rev : Int} {u : List Int} {cs : List Chg} (rank : Int) (h : check (atomsText rev u l) cs = 0) : spots l rev u cs rank = (spotsN l rev u cs rank).map fun n : Nat => (n : Int) := by
  rw [spots, if_pos h, spotsN, List.map_map]; rfl
theorem spotsN_sorted {l : List Atom} {rev : Int} {u : List Int} {cs : List Chg} (rank : Int) (h : check (atomsText rev u l) cs = 0) : (spotsN l rev u cs rank).Pairwise (· ≤ ·) ∧ ∀ k ∈ spotsN l rev u cs rank, k ≤ l.length := by
  obtain ⟨_, _, h1, _, h2, _, _⟩ := check_zero h
  have hs := frm_sorted h1 h2
  constructor
  · rw [spotsN, List.pairwise_map]
    rw [List.pairwise_map] at hs
    exact hs.imp fun hle => spot_mono l _ rev u rank hle
  · intro k hk
    rw [spotsN, List.mem_map] at hk
    obtain ⟨c, _, rfl⟩ := hk
    exact spot_le l _ rev u _ rank
theorem cutsF_lt (rev : Int) (u : List Int) (cs : List Chg) : ∀ (l : List Atom) (ps : List Int) (i : Nat) (x : Int), x ∈ cutsF rev u cs l ps i → ∃ j : Nat, x = (j : Int) ∧ i ≤ j ∧ j < i + l.length
  | [], ps, i, x, h => by simp [cutsF] at h
  | a :: l, [], i, x, h => by simp [cutsF] at h
  | a :: l, p :: ps, i, x, h => by
    rw [cutsF, List.mem_append] at h
    rcases h with h | h
    · split at h
      · simp at h; exact ⟨i, h, Nat.le_refl _, by simp⟩
      · cases h
    · obtain ⟨j, h1, h2, h3⟩ := cutsF_lt rev u cs l ps (i + 1) x h
      exact ⟨j, h1, by omega, by simp only [List.length_cons]; omega⟩
theorem cuts_lt {l : List Atom} {rev : Int} {u : List Int} {cs : List Chg} {x : Int} (h : x ∈ cuts l rev u cs) : ∃ j : Nat, x = (j : Int) ∧ j < l.length := by
  unfold cuts at h
  split at h
  · obtain ⟨j, h1, _, h3⟩ := cutsF_lt _ _ _ _ _ _ _ h
    exact ⟨j, h1, by omega⟩
  · cases h
theorem cutsF_len (rev : Int) (u : List Int) (cs : List Chg) : ∀ (l : List Atom) (ps : List Int) (i : Nat), (cutsF rev u cs l ps i).length ≤ l.length
  | [], ps, i => by simp [cutsF]
  | a :: l, [], i => by simp [cutsF]
  | a :: l, p :: ps, i => by
    rw [cutsF, List.length_append, List.length_cons]
    have := cutsF_len rev u cs l ps (i + 1)
    split <;> simp <;> omega
theorem cuts_len (l : List Atom) (rev : Int) (u : List Int) (cs : List Chg) : (cuts l rev u cs).length ≤ l.length := by
  unfold cuts; split
  · exact cutsF_len _ _ _ _ _ _
  · simp
/-! ### An edit, as a law -/
/-- the atoms of which some are taken away by a cut -/
def marked (ct : List Int) (c : Cut) : List Atom → Nat → List Atom
  | a :: l, i => (if (i : Int) ∈ ct then { a with cuts := a.cuts ++ [c] } else a) :: marked ct c l (i + 1)
  | [], _ => []
theorem marked_len (ct : List Int) (c : Cut) : ∀ (l : List Atom) (i : Nat), (marked ct c l i).length = l.length
  | [], _ => rfl
  | a :: l, i => by simp only [marked, List.length_cons, marked_len ct c l (i + 1)]
theorem marked_get (ct : List Int) (c : Cut) : ∀ (l : List Atom) (i j : Nat), (marked ct c l i)[j]? = (l[j]?).map fun a => if ((i + j : Nat) : Int) ∈ ct then { a with cuts := a.cuts ++ [c] } else a
  | [], i, j => by simp [marked]
  | a :: l, i, 0 => by simp [marked]
  | a :: l, i, j + 1 => by
    simp only [marked, List.getElem?_cons_succ]
    rw [marked_get ct c l (i + 1) j, show i + 1 + j = i + (j + 1) by omega]
/-- the texts of changes put in at their spots -/
def merged (new : List UInt8 → List Atom) (l : List Atom) : List (Nat × List UInt8) → Nat → List Atom
  | (k, t) :: r, at' => (l.take k).drop at' ++ new t ++ merged new l r k
  | [], at' => l.drop at'
def ptsOf (s : List UInt8) : List (List UInt8) := (pts s).getD []
/-- an edit upon atoms -/
def upon (l : List Atom) (rev : Int) (u : List Int) (cs : List Chg) (rev' group rank : Int) : List Atom :=
  if check (atomsText rev u l) cs = 0 then
    merged (fun t => newAtoms rev' group rank (ptsOf t)) (marked (cuts l rev u cs) ⟨rev', group⟩ l 0) ((spotsN l rev u cs rank).zip (cs.map Chg.text)) 0
  else l
end Go.Proofs.Ytmjngohmcljfjaa.M
set_option linter.unusedSimpArgs false
set_option linter.unusedVariables false
set_option maxRecDepth 100000
namespace Go.Proofs.Ytmjngohmcljfjaa.M
open Go Go.Mini
/-- a cut put behind cuts that can grow -/
theorem cut_app {B : Nat} {σ : Heap} {z : AVal} {cs : List Cut} (h : CutOwn B σ z cs) (hB : B ≤ σ.next) (hl : cs.length ≤ 1000000) (c : Cut) :
    ∃ x' σ', aApp t_Cut 2 16 z (.slc (.new σ.next) 0 1 (.ex 1)) (σ.new (.cells [.int .i64 c.rev, .int .i64 c.group] none)) = some (x', σ') ∧ CutOwn B σ' x' (cs ++ [c]) ∧ σ'.W = σ.W ∧ σ'.F0 = σ.F0 ∧ σ.next < σ'.next ∧
      (∀ q, q < σ.next → q ∉ uid z → σ'.get q = σ.get q) ∧ (∀ K ∈ uid x', σ.next ≤ K ∨ K ∈ uid z) := by
  have hroom : maxRoom = 68719476736 := rfl
  have hsrc := src_one (σ := σ.new (.cells [.int .i64 c.rev, .int .i64 c.group] none)) (K := σ.next) (k := 2) (cs := [.int .i64 c.rev, .int .i64 c.group]) (opn := none) (z := eCut c) (cap := .ex 1) (by rw [Heap.get_new, if_pos rfl]) rfl rfl
  have fin : ∀ {y : AVal} (els : List Cut), (∀ K ∈ uid y, K ∈ uid z) → els = cs → Row B σ t_Cut 2 y (els.map eCut) → aApp t_Cut 2 16 z (.slc (.new σ.next) 0 1 (.ex 1)) (σ.new (.cells [.int .i64 c.rev, .int .i64 c.group] none)) = aApp t_Cut 2 16 y (.slc (.new σ.next) 0 1 (.ex 1)) (σ.new (.cells [.int .i64 c.rev, .int .i64 c.group] none)) →
      ∃ x' σ', aApp t_Cut 2 16 z (.slc (.new σ.next) 0 1 (.ex 1)) (σ.new (.cells [.int .i64 c.rev, .int .i64 c.group] none)) = some (x', σ') ∧ CutOwn B σ' x' (cs ++ [c]) ∧ σ'.W = σ.W ∧ σ'.F0 = σ.F0 ∧ σ.next < σ'.next ∧
      (∀ q, q < σ.next → q ∉ uid z → σ'.get q = σ.get q) ∧ (∀ K ∈ uid x', σ.next ≤ K ∨ K ∈ uid z) := by
    intro y els hy he hR heq
    subst he
    obtain ⟨x', ρ, g1, g2, g3, g4, g5⟩ := row_app2 (bytes := 16) (hR.new (.cells [.int .i64 c.rev, .int .i64 c.group] none)) (Nat.le_succ_of_le hB) hsrc.1 hsrc.2 (by intro z hz; simp at hz; subst hz; rfl) rfl (by omega) (by omega) (by simp; omega)
    refine ⟨x', ρ, heq.trans g1, .inr ⟨by simp, by rw [List.map_append]; exact g2⟩, g3.1, g3.2.1, by have := g3.2.2.1; simp at this; omega, fun q hq hn => ?_, fun K hK => ?_⟩
    · rw [g4 q (by simp; omega) (fun K o n c e hk => hn (hy q (mem_uid.2 ⟨o, n, c, by rw [hk]; exact e⟩))), Heap.get_new, if_neg (by omega)]
    · obtain ⟨o, n, c', e⟩ := mem_uid.1 hK
      rcases g5 K o n c' e with h1 | ⟨o', n', c'', h1⟩
      · exact .inl (Nat.le_of_succ_le h1)
      · exact .inr (hy K (mem_uid.2 ⟨_, _, _, h1⟩))
  rcases h with ⟨rfl, rfl⟩ | ⟨h0, h⟩
  · exact fin (y := .nils) [] (fun K hK => nomatch hK) rfl (Row.nil B σ t_Cut 2) rfl
  · exact fin cs (fun K hK => hK) rfl h rfl
theorem flatR_cuts : ∀ {l : List Atom} {zs : List AVal} {i : Nat} {a : Atom} {ks : List Cut}, l[i]? = some a → flatR (l.set i { a with cuts := ks }) zs = flatR l zs
  | [], _, _, _, _, h => by simp at h
  | b :: l, [], 0, a, ks, h => rfl
  | b :: l, [], i + 1, a, ks, h => rfl
  | b :: l, z :: zs, 0, a, ks, h => by
    simp at h; subst h; rfl
  | b :: l, z :: zs, i + 1, a, ks, h => by
    simp only [List.set_cons_succ, flatR]
    rw [flatR_cuts (by simpa using h)]
/-- one more atom bears a cut -/
theorem AtomsOwn.mark {B : Nat} {τ σ' : Heap} {K : Nat} {l : List Atom} {zs : List AVal} {i : Nat} {a : Atom} {z x' : AVal} {ks : List Cut} (h : AtomsOwn B τ K l zs l.length) (hB : B ≤ τ.next) (ha : l[i]? = some a) (hz : zs[i]? = some z)
    (hx : CutOwn B σ' x' ks) (hn : τ.next ≤ σ'.next) (hg : ∀ q, q < τ.next → q ∉ uid z → σ'.get q = τ.get q) (hu : ∀ k ∈ uid x', τ.next ≤ k ∨ k ∈ uid z) :
    AtomsOwn B (σ'.set K (.cells (flatR l (zs.set i x')) none)) K (l.set i { a with cuts := ks }) (zs.set i x') (l.set i { a with cuts := ks }).length where
  len := by rw [List.length_set, List.length_set]; exact h.len
  blk := by rw [Heap.get_set, if_pos rfl, flatR_cuts ha]
  low := h.low
  own := by
    intro j b y _ hb hy
    have hlow := h.low
    have hil := (List.getElem?_eq_some_iff.1 ha).1
    have hiz := (List.getElem?_eq_some_iff.1 hz).1
    by_cases e : j = i
    · subst e
      rw [List.getElem?_set_self hil] at hb
      rw [List.getElem?_set_self hiz] at hy
      cases hb; cases hy
      refine hx.move (Nat.le_refl _) fun k hk => ?_
      have := (hx.low k hk).1
      rw [Heap.get_set, if_neg (by omega)]
    · rw [List.getElem?_set_ne (fun h => e h.symm)] at hb hy
      have hjl := (List.getElem?_eq_some_iff.1 hb).1
      have h1 := h.own j b y hjl hb hy
      refine h1.move hn fun k hk => ?_
      have h2 := h1.low k hk
      rw [Heap.get_set, if_neg (by omega)]
      refine hg k h2.2 fun hk2 => ?_
      rcases Nat.lt_or_gt_of_ne e with e | e
      · exact h.apart j i y z e hil hy hz k hk hk2
      · exact h.apart i j z y e hjl hz hy k hk2 hk
  rest := by
    intro j b y hj hb hy
    have := (List.getElem?_eq_some_iff.1 hb).1
    omega
  apart := by
    intro j j' y y' hjj hj' hy hy' k hk hk'
    rw [List.length_set] at hj'
    have hil := (List.getElem?_eq_some_iff.1 ha).1
    have hiz := (List.getElem?_eq_some_iff.1 hz).1
    by_cases e : j = i
    · subst e
      rw [List.getElem?_set_self hiz] at hy
      cases hy
      rw [List.getElem?_set_ne (by omega)] at hy'
      rcases hu k hk with h1 | h1
      · have := ((h.own j' l[j'] y' hj' (List.getElem?_eq_getElem hj') hy').low k hk').2; omega
      · exact h.apart j j' z y' hjj hj' hz hy' k h1 hk'
    · rw [List.getElem?_set_ne (fun h => e h.symm)] at hy
      have hjl : j < l.length := by omega
      by_cases e' : j' = i
      · subst e'
        rw [List.getElem?_set_self hiz] at hy'
        cases hy'
        rcases hu k hk' with h1 | h1
        · have := ((h.own j l[j] y hjl (List.getElem?_eq_getElem hjl) hy).low k hk).2; omega
        · exact h.apart j j' y z hjj hj' hy hz k hk h1
      · rw [List.getElem?_set_ne (fun h => e' h.symm)] at hy'
        exact h.apart j j' y y' hjj hj' hy hy' k hk hk'
end Go.Proofs.Ytmjngohmcljfjaa.M
set_option linter.unusedSimpArgs false
set_option linter.unusedVariables false
set_option maxRecDepth 100000
namespace Go.Proofs.Ytmjngohmcljfjaa.M
open Go Go.Mini
theorem Row.sees2 {B k : Nat} {e : TypeId} {σ : Heap} {x : AVal} {els : List AVal} (h : Row B σ e k x els) : ∃ τ, Sees σ x τ (.fsl k els) ∧ τ.W = σ.W ∧ τ.F0 = σ.F0 ∧ τ.next = σ.next ∧ ∀ q, q ∉ uid x → τ.get q = σ.get q := by
  rcases h.2 with ⟨rfl, rfl⟩ | ⟨K, cap, cs, opn, rfl, hg, ht, hBK, hKn, hcap⟩
  · exact ⟨σ, Sees.nils σ k, rfl, rfl, rfl, fun _ _ => rfl⟩
  · refine ⟨σ.set K .dead, Sees.own hg rfl h.1 (by rw [List.drop_zero, ht]) ?_, rfl, rfl, rfl, fun q hq => by rw [Heap.get_set, if_neg (fun e => hq (by rw [e]; exact mem_uid.2 ⟨_, _, _, rfl⟩))]⟩
    rcases hcap with ⟨rfl, _⟩ | ⟨c, rfl, h1, _⟩
    · intro c hc; cases hc
    · intro c' hc; cases hc; exact h1
theorem CutOwn.sees {B : Nat} {σ : Heap} {z : AVal} {cs : List Cut} (h : CutOwn B σ z cs) : ∃ τ, Sees σ z τ (eCuts cs) ∧ τ.W = σ.W ∧ τ.F0 = σ.F0 ∧ τ.next = σ.next ∧ ∀ q, q ∉ uid z → τ.get q = σ.get q := by
  rcases h with ⟨rfl, rfl⟩ | ⟨_, h⟩
  · exact ⟨σ, Sees.emp0 σ 2, rfl, rfl, rfl, fun _ _ => rfl⟩
  · exact Row.sees2 h
/-- all cuts of a row of atoms seen as data; the row stays one's own -/
theorem AtomsOwn.sees {B : Nat} {σ : Heap} {K n : Nat} {cap : Cap} {l : List Atom} {zs : List AVal} (h : AtomsOwn B σ K l zs l.length) : ∃ ρ, Sees σ (.slc (.new K) 0 n cap) ρ (.slc (.new K) 0 n cap) ∧ ρ.get K = some (.cells ((l.map eAtom).flatMap AVal.cells) none) ∧ ρ.W = σ.W ∧ ρ.F0 = σ.F0 ∧ ρ.next = σ.next ∧ ∀ q, q < B → q ≠ K → ρ.get q = σ.get q := by
  have hz := h.len
  have step : ∀ j, j ≤ l.length → ∃ τ, Sees σ (.slc (.new K) 0 n cap) τ (.slc (.new K) 0 n cap) ∧ τ.get K = some (.cells (flatR l (seenCuts l zs j)) none) ∧ (∀ (i : Nat) (a : Atom) (z : AVal), j ≤ i → l[i]? = some a → zs[i]? = some z → CutOwn B τ z a.cuts) ∧ τ.W = σ.W ∧ τ.F0 = σ.F0 ∧ τ.next = σ.next ∧ ∀ q, q < B → q ≠ K → τ.get q = σ.get q := by
    intro j
    induction j with
    | zero => intro _; exact ⟨σ, Sees.refl _ _, h.blk, fun i a z _ ha hz => h.own i a z (List.getElem?_eq_some_iff.1 ha).1 ha hz, rfl, rfl, rfl, fun _ _ _ => rfl⟩
    | succ j ih =>
      intro hj
      obtain ⟨τ, h1, h2, h3, h4⟩ := ih (by omega)
      have hlz : j < zs.length := by omega
      have hjl : j < l.length := by omega
      have hx := h3 j _ _ (Nat.le_refl _) (List.getElem?_eq_getElem hjl) (List.getElem?_eq_getElem hlz)
      have hget : (flatR l (seenCuts l zs j))[j * 5 + 4]? = some zs[j] := by rw [flatR_get (seenCuts_len hz j), seenCuts_get hz hjl, List.getElem?_eq_getElem hlz]
      obtain ⟨τ1, s1, s2, s3, s4, s5⟩ := hx.sees
      have hKB := h.low
      have hnK : ∀ q, q < B → q ∉ uid zs[j] := fun q hq hm => by have := (hx.low q hm).1; omega
      have h2' : τ1.get K = some (.cells (flatR l (seenCuts l zs j)) none) := by rw [s5 K (hnK K hKB)]; exact h2
      have hs := Sees.cell (off := 0) (n := n) (cap := cap) h2 hget s1 h2'
      refine ⟨_, h1.trans hs, ?_, ?_, s2.trans h4.1, s3.trans h4.2.1, s4.trans h4.2.2.1, fun q hq hqK => ?_⟩
      · rw [Heap.get_set, if_pos rfl, flatR_set (seenCuts_len hz j), seenCuts_succ hz hjl]
      · intro i a z hi ha hzi
        have h5 := h3 i a z (by omega) ha hzi
        refine h5.move (by rw [Heap.set_next, s4]; exact Nat.le_refl _) fun k hk => ?_
        have h6 := (h5.low k hk).1
        rw [Heap.get_set, if_neg (by omega)]
        refine s5 k fun hk2 => ?_
        exact h.apart j i zs[j] z (by omega) (List.getElem?_eq_some_iff.1 ha).1 (List.getElem?_eq_getElem hlz) hzi k hk2 hk
      · rw [Heap.get_set, if_neg (fun e => hqK e.symm), s5 q (hnK q hq)]
        exact h4.2.2.2 q hq hqK
  obtain ⟨τ, h1, h2, _, h4⟩ := step l.length (Nat.le_refl _)
  rw [seenCuts_all hz, flatR_full] at h2
  exact ⟨τ, h1, h2, h4⟩
end Go.Proofs.Ytmjngohmcljfjaa.M
set_option linter.unusedSimpArgs false
set_option linter.unusedVariables false
set_option maxRecDepth 100000
namespace Go.Proofs.Ytmjngohmcljfjaa.M
open Go Go.Mini
/-- the first i atoms marked -/
def markTo (ct : List Int) (c : Cut) (l : List Atom) (i : Nat) : List Atom := (marked ct c l 0).take i ++ l.drop i
theorem markTo_zero (ct : List Int) (c : Cut) (l : List Atom) : markTo ct c l 0 = l := rfl
theorem markTo_all (ct : List Int) (c : Cut) (l : List Atom) : markTo ct c l l.length = marked ct c l 0 := by
  simp only [markTo, List.drop_length, List.append_nil]
  exact List.take_of_length_le (by rw [marked_len]; exact Nat.le_refl _)
theorem markTo_len (ct : List Int) (c : Cut) (l : List Atom) {i : Nat} (h : i ≤ l.length) : (markTo ct c l i).length = l.length := by
  simp only [markTo, List.length_append, List.length_take, marked_len, List.length_drop]; omega
theorem markTo_get (ct : List Int) (c : Cut) (l : List Atom) {i : Nat} (h : i < l.length) : (markTo ct c l i)[i]? = some l[i] := by
  have e : ((marked ct c l 0).take i).length = i := by simp [marked_len]; omega
  rw [markTo, List.getElem?_append_right (by omega), e, Nat.sub_self, List.getElem?_drop, Nat.add_zero, List.getElem?_eq_getElem h]
theorem markTo_succ (ct : List Int) (c : Cut) (l : List Atom) {i : Nat} (h : i < l.length) : markTo ct c l (i + 1) = (markTo ct c l i).set i (if (i : Int) ∈ ct then { l[i] with cuts := l[i].cuts ++ [c] } else l[i]) := by
  have e : ((marked ct c l 0).take i).length = i := by simp [marked_len]; omega
  have hm : i < (marked ct c l 0).length := by rw [marked_len]; exact h
  have hg := marked_get ct c l 0 i
  rw [List.getElem?_eq_getElem hm, List.getElem?_eq_getElem h, Option.map_some, Option.some.injEq, Nat.zero_add] at hg
  rw [← hg]
  simp only [markTo]
  rw [List.set_append_right _ _ (by omega), e, Nat.sub_self, List.drop_eq_getElem_cons h, List.set_cons_zero, List.take_succ_eq_append_getElem hm, List.append_assoc]; rfl
theorem markTo_skip (ct : List Int) (c : Cut) (l : List Atom) {i : Nat} (h : i < l.length) (hn : (i : Int) ∉ ct) : markTo ct c l (i + 1) = markTo ct c l i := by
  rw [markTo_succ ct c l h, if_neg hn]
  apply List.ext_getElem?
  intro j
  by_cases e : j = i
  · subst e
    rw [List.getElem?_set_self (by rw [markTo_len ct c l (by omega)]; exact h), markTo_get ct c l h]
  · rw [List.getElem?_set_ne (fun h => e h.symm)]
end Go.Proofs.Ytmjngohmcljfjaa.M
set_option linter.unusedSimpArgs false
set_option linter.unusedVariables false
set_option maxRecDepth 100000
namespace Go.Proofs.Ytmjngohmcljfjaa.M
open Go Go.Mini
theorem flat_drop {k : Nat} : ∀ {els : List AVal} (lo : Nat), (∀ z ∈ els, z.cells.length = k) → (els.flatMap AVal.cells).drop (lo * k) = (els.drop lo).flatMap AVal.cells
  | els, 0, _ => by simp
  | [], lo + 1, _ => by simp
  | z :: els, lo + 1, h => by
    have hz := h z (by simp)
    rw [List.flatMap_cons, List.drop_succ_cons, Nat.add_mul, Nat.one_mul, Nat.add_comm, ← List.drop_drop, List.drop_left' hz]
    exact flat_drop lo fun y hy => h y (List.mem_cons_of_mem _ hy)
theorem flat_take {k : Nat} : ∀ {els : List AVal} (lo : Nat), (∀ z ∈ els, z.cells.length = k) → (els.flatMap AVal.cells).take (lo * k) = (els.take lo).flatMap AVal.cells
  | els, 0, _ => by simp
  | [], lo + 1, _ => by simp
  | z :: els, lo + 1, h => by
    have hz := h z (by simp)
    rw [List.flatMap_cons, List.take_succ_cons, List.flatMap_cons, Nat.add_mul, Nat.one_mul, Nat.add_comm, List.take_append, List.take_of_length_le (by omega), hz, Nat.add_sub_cancel_left]
    rw [flat_take lo fun y hy => h y (List.mem_cons_of_mem _ hy)]
/-- a part of a row of one's own, as what is appended -/
theorem src_part {σ : Heap} {K lo hi n k : Nat} {els : List AVal} {opn : Option TypeId} (hg : σ.get K = some (.cells (els.flatMap AVal.cells) opn)) (he : ∀ z ∈ els, z.cells.length = k) (hn : els.length = n) (h1 : lo ≤ hi) (h2 : hi ≤ n) :
    aSlc k (.slc (.new K) 0 n (.ex n)) (some (.int .i64 (lo : Nat))) (some (.int .i64 (hi : Nat))) none = some (.slc (.new K) (if n = lo then 0 else lo * k) (hi - lo) (.ex (n - lo))) ∧
    (lo = lo → aSlc k (.slc (.new K) 0 n (.ex n)) (some (.int .i64 (lo : Nat))) none none = some (.slc (.new K) (if n = lo then 0 else lo * k) (n - lo) (.ex (n - lo)))) ∧
    aLenOf (.slc (.new K) (if n = lo then 0 else lo * k) (hi - lo) (.ex (n - lo))) = some ((els.take hi).drop lo).length ∧
    srcCells σ k ((els.take hi).drop lo).length (.slc (.new K) (if n = lo then 0 else lo * k) (hi - lo) (.ex (n - lo))) = some (((els.take hi).drop lo).flatMap AVal.cells) := by
  have b1 : aBound (some (.int .i64 (hi : Nat))) n n = some hi := by simp only [aBound]; rw [if_pos (by simp; omega)]; rfl
  have b2 : aBound (some (.int .i64 (lo : Nat))) 0 hi = some lo := by simp only [aBound]; rw [if_pos (by simp; omega)]; rfl
  have b2' : aBound (some (.int .i64 (lo : Nat))) 0 n = some lo := by simp only [aBound]; rw [if_pos (by simp; omega)]; rfl
  have b3 : aBound none n n = some n := rfl
  have hl : ((els.take hi).drop lo).length = hi - lo := by simp; omega
  refine ⟨?_, fun _ => ?_, ?_, ?_⟩
  · simp only [aSlc, b3, b1, b2, Nat.zero_add, Option.isSome_none, Bool.false_and, Bool.false_eq_true, if_false]
  · simp only [aSlc, b3, b2', Nat.zero_add, Option.isSome_none, Bool.false_and, Bool.false_eq_true, if_false]
  · rw [hl]; rfl
  · rw [hl]
    have hfl := flat_len he
    have hlen : (els.flatMap AVal.cells).length = n * k := by rw [hfl, hn]
    have hmul := Nat.mul_le_mul_right k h2
    have hoff : ∀ off, off + (hi - lo) * k ≤ n * k → cellsFrom σ (.new K) off ((hi - lo) * k) = some (((els.flatMap AVal.cells).drop off).take ((hi - lo) * k)) := fun off ho => cellsFrom_get hg _ _ (by omega)
    simp only [srcCells, slcCells, Nat.le_refl, if_true]
    by_cases e : n = lo
    · have : hi - lo = 0 := by omega
      rw [if_pos e, this, Nat.zero_mul]
      have h0 : ((els.take hi).drop lo) = [] := List.eq_nil_of_length_eq_zero (by omega)
      rw [h0]; rfl
    · rw [if_neg e, hoff _ (by rw [← Nat.add_mul, show lo + (hi - lo) = hi by omega]; exact hmul), flat_drop lo he, flat_take (hi - lo) (fun z hz => he z (List.mem_of_mem_drop hz)), List.take_drop, show lo + (hi - lo) = hi by omega]
theorem merged_cons (new : List UInt8 → List Atom) (l : List Atom) (k : Nat) (t : List UInt8) (r : List (Nat × List UInt8)) (at' : Nat) : merged new l ((k, t) :: r) at' = (l.take k).drop at' ++ new t ++ merged new l r k := rfl
theorem pts_len : ∀ (n : Nat) (s : List UInt8) (ps : List (List UInt8)), s.length ≤ n → pts s = some ps → ps.length ≤ s.length
  | 0, s, ps, h, hp => by
    have : s = [] := List.eq_nil_of_length_eq_zero (by omega)
    subst this; cases hp; simp
  | n + 1, s, ps, h, hp => by
    cases s with
    | nil => cases hp; simp
    | cons a r =>
      rw [pts_step (by simp)] at hp
      split at hp
      · cases hp
      · rename_i h0
        rw [Option.map_eq_some_iff] at hp
        obtain ⟨q, hq, rfl⟩ := hp
        have := pts_len n _ q (by rw [List.length_drop]; omega) hq
        have h2 := pt_le (a :: r)
        rw [List.length_drop] at this
        simp only [List.length_cons] at *; omega
end Go.Proofs.Ytmjngohmcljfjaa.M
set_option linter.unusedSimpArgs false
set_option linter.unusedVariables false
set_option maxRecDepth 100000
namespace Go.Proofs.Ytmjngohmcljfjaa.M
open Go Go.Mini
attribute [local congr] go1_congr goM_congr goG_congr goV_congr drawwp_congr Xwp_congr
theorem falses_row : ∀ n : Nat, (List.replicate n [AVal.bool false]).flatten = bitRow n fun _ => false
  | 0 => rfl
  | n + 1 => by
    have h := falses_row n
    rw [List.replicate_succ', List.flatten_append, h]
    simp only [bitRow, List.range_succ, List.map_append]; rfl
/-- copy(x, y) of rows of one's own, just as long -/
theorem copy_slc {σ : Heap} {a b n k : Nat} {zs ys : List AVal} {o1 o2 : Option TypeId} {ca cb : Cap} (hk : 0 < k) (ha : σ.get a = some (.cells zs o1)) (hb : σ.get b = some (.cells ys o2)) (hz : zs.length = n * k) (hy : ys.length = n * k) (hc : ys.all AVal.isCell = true) :
    ∃ σ', aCopy k (.slc (.new a) 0 n ca) (.slc (.new b) 0 n cb) σ = some (.int .i64 (n : Nat), σ') ∧ σ'.get a = some (.cells ys o1) ∧ σ'.W = σ.W ∧ σ'.F0 = σ.F0 ∧ σ'.next = σ.next ∧ ∀ q, q ≠ a → σ'.get q = σ.get q := by
  have h1 := cellsFrom_whole hb
  rw [hy] at h1
  by_cases h0 : n = 0
  · subst h0
    have e1 : zs = [] := List.eq_nil_of_length_eq_zero (by omega)
    have e2 : ys = [] := List.eq_nil_of_length_eq_zero (by omega)
    subst e1; subst e2
    refine ⟨σ, ?_, ha, rfl, rfl, rfl, fun _ _ => rfl⟩
    simp only [aCopy, aSLen, aLenOf, Nat.min_self, srcCells, slcCells, Nat.le_refl, if_true, h1]; rfl
  · refine ⟨σ.set a (.cells ys o1), ?_, by rw [Heap.get_set, if_pos rfl], rfl, rfl, rfl, fun q hq => by rw [Heap.get_set, if_neg (fun e => hq e.symm)]⟩
    simp only [aCopy, aSLen, aLenOf, Nat.min_self, srcCells, slcCells, Nat.le_refl, if_true, h1, if_neg h0, storeAt, ha]
    rw [if_pos (by simp only [hc, Bool.and_true, decide_eq_true_eq]; omega)]
    simp only [Option.map_some, over, List.take_zero, List.nil_append, Nat.zero_add, List.drop_eq_nil_of_le (show zs.length ≤ ys.length by omega), List.append_nil]
theorem flatR_cell : ∀ {l : List Atom} {zs : List AVal}, (∀ z ∈ zs, z.isCell = true) → (flatR l zs).all AVal.isCell = true
  | [], _, _ => by simp [flatR]
  | _ :: _, [], _ => by simp [flatR]
  | a :: l, z :: zs, h => by
    simp only [flatR, List.all_cons, h z (by simp), flatR_cell (l := l) (fun y hy => h y (List.mem_cons_of_mem _ hy))]; rfl
theorem AtomsOwn.cell {B : Nat} {τ : Heap} {K : Nat} {l : List Atom} {zs : List AVal} (h : AtomsOwn B τ K l zs l.length) : ∀ z ∈ zs, z.isCell = true := by
  intro z hz
  obtain ⟨j, hj, rfl⟩ := List.getElem_of_mem hz
  have hjl : j < l.length := by rw [← h.len]; exact hj
  rcases (h.own j l[j] zs[j] hjl (List.getElem?_eq_getElem hjl) (List.getElem?_eq_getElem hj)).cells with e | ⟨K', n, cap, e, _⟩ <;> rw [e] <;> rfl
theorem AtomsOwn.copied {B : Nat} {τ τ' : Heap} {K K' : Nat} {l : List Atom} {zs : List AVal} (h : AtomsOwn B τ K l zs l.length) (hK : K' < B) (hg : τ'.get K' = some (.cells (flatR l zs) none)) (hn : τ.next ≤ τ'.next) (ho : ∀ q, q ≠ K' → τ'.get q = τ.get q) : AtomsOwn B τ' K' l zs l.length where
  len := h.len
  blk := hg
  low := hK
  own := fun j a z hj ha hz => by
    have h1 := h.own j a z hj ha hz
    refine h1.move hn fun k hk => ho k ?_
    have := (h1.low k hk).1
    omega
  rest := h.rest
  apart := h.apart
set_option maxHeartbeats 8000000 in
theorem upon_call (σ : Heap) (l : List Atom) (rev : Int) (u : List Int) (cs : List Chg) (rev' group rank : Int) (hu : u.length ≤ 1000000) (hl : Fits l) (hcl : cs.length ≤ 1000000) (hc : ∀ c ∈ cs, c.text.length ≤ 1000000) (hlc : ∀ a ∈ l, a.cuts.length ≤ 100000) (hll : l.length ≤ 100000) :
    ACall Try.prog n_edit_Upon [eAtoms l, .int .i64 rev, ints u, eChgs cs, .int .i64 rev', .int .i64 group, .int .i64 rank] σ (eAtoms (upon l rev u cs rev' group rank)) σ := by
  refine bare_call (by simp only [AVal.pures, eAtoms_pure, ints_pure, eChgs_pure]; rfl) (eAtoms_pure _) (fun W F => spec_of_xwp c_edit_Upon (Nat.le_of_ble_eq_true rfl) ?_) σ
  unfold f_edit_Upon
  have ht := atomsText_len rev u l
  have ht2 := hl.2.2
  have hroom : maxRoom = 68719476736 := rfl
  have hc' : ∀ c ∈ cs, ChgFits c := fun c h => by have := hc c h; unfold ChgFits; omega
  refine x_seq mixed ?_
  simp only [↓evd, evu, evf, implies_true, reduceCtorEq, Nat.reduceEqDiff, ↓reduceIte, Nat.reduceAdd, Nat.reduceLeDiff, Nat.reduceLT, Nat.reduceMul, Int.reduceLT, Int.reduceLE, Int.reduceToNat, evz]
  refine x_seq mixed ?_
  simp only [↓evd, evu, evf, implies_true, reduceCtorEq, Nat.reduceEqDiff, ↓reduceIte, Nat.reduceAdd, Nat.reduceLeDiff, Nat.reduceLT, Nat.reduceMul, Int.reduceLT, Int.reduceLE, Int.reduceToNat, evz]
  refine MSpec.of (spots_call _ l rev u cs rank hu hl hcl hc') ?_
  simp only [↓evd, evu, evf, implies_true, reduceCtorEq, Nat.reduceEqDiff, ↓reduceIte, Nat.reduceAdd, Nat.reduceLeDiff, Nat.reduceLT, Nat.reduceMul, Int.reduceLT, Int.reduceLE, Int.reduceToNat, evz]
  refine x_seq mixed ?_
  simp only [↓evd, evu, evf, implies_true, reduceCtorEq, Nat.reduceEqDiff, ↓reduceIte, Nat.reduceAdd, Nat.reduceLeDiff, Nat.reduceLT, Nat.reduceMul, Int.reduceLT, Int.reduceLE, Int.reduceToNat, evz]
  refine MSpec.of (text_call _ l rev u hu hl) ?_
  simp only [↓evd, evu, evf, implies_true, reduceCtorEq, Nat.reduceEqDiff, ↓reduceIte, Nat.reduceAdd, Nat.reduceLeDiff, Nat.reduceLT, Nat.reduceMul, Int.reduceLT, Int.reduceLE, Int.reduceToNat, evz]
  refine MSpec.of (check_call _ (atomsText rev u l) cs (by omega) hcl hc') ?_
  by_cases h0 : check (atomsText rev u l) cs = 0
  case neg =>
    have hb : (check (atomsText rev u l) cs != 0) = true := by simpa using h0
    simp only [↓evd, evu, evf, implies_true, reduceCtorEq, Nat.reduceEqDiff, ↓reduceIte, Nat.reduceAdd, Nat.reduceLeDiff, Nat.reduceLT, Nat.reduceMul, Int.reduceLT, Int.reduceLE, Int.reduceToNat, evz, hb]
    refine MSpec.of (copy_call _ l hl.1 hl.2.1) ?_
    simp only [↓evd, evu, evf, implies_true, reduceCtorEq, Nat.reduceEqDiff, ↓reduceIte, Nat.reduceAdd, Nat.reduceLeDiff, Nat.reduceLT, Nat.reduceMul, Int.reduceLT, Int.reduceLE, Int.reduceToNat, evz]
    rw [upon, if_neg h0]
    exact seen rfl rfl rfl
  have hb : (check (atomsText rev u l) cs != 0) = false := by simpa using h0
  have hz := check_zero h0
  have hm0 : (0 : Int) ≤ (l.length : Int) := by omega
  have hm2 : l.length * 64 ≤ maxRoom := by omega
  have hm4 : l.length ≤ maxRoom := by omega
  have hm3 : (l.length : Int) ≤ 2 ^ 62 := by omega
  simp only [↓evd, evu, evf, implies_true, reduceCtorEq, Nat.reduceEqDiff, ↓reduceIte, Nat.reduceAdd, Nat.reduceLeDiff, Nat.reduceLT, Nat.reduceMul, Int.reduceLT, Int.reduceLE, Int.reduceToNat, evz, hb]
  refine x_seq mixed ?_
  simp only [↓evd, evu, evf, implies_true, reduceCtorEq, Nat.reduceEqDiff, ↓reduceIte, Nat.reduceAdd, Nat.reduceLeDiff, Nat.reduceLT, Nat.reduceMul, Int.reduceLT, Int.reduceLE, Int.reduceToNat, evz]
  simp only [↓evd, evu, evf, implies_true, reduceCtorEq, Nat.reduceEqDiff, ↓reduceIte, Nat.reduceAdd, Nat.reduceLeDiff, Nat.reduceLT, Nat.reduceMul, Int.reduceLT, Int.reduceLE, Int.reduceToNat, evz, hm0, hm2, hm3]
  refine x_seq mixed ?_
  simp only [↓evd, evu, evf, implies_true, reduceCtorEq, Nat.reduceEqDiff, ↓reduceIte, Nat.reduceAdd, Nat.reduceLeDiff, Nat.reduceLT, Nat.reduceMul, Int.reduceLT, Int.reduceLE, Int.reduceToNat, evz]
  simp only [↓evd, evu, evf, implies_true, reduceCtorEq, Nat.reduceEqDiff, ↓reduceIte, Nat.reduceAdd, Nat.reduceLeDiff, Nat.reduceLT, Nat.reduceMul, Int.reduceLT, Int.reduceLE, Int.reduceToNat, evz, hm0, hm4, hm3]
  refine x_seq mixed ?_
  simp only [↓evd, evu, evf, implies_true, reduceCtorEq, Nat.reduceEqDiff, ↓reduceIte, Nat.reduceAdd, Nat.reduceLeDiff, Nat.reduceLT, Nat.reduceMul, Int.reduceLT, Int.reduceLE, Int.reduceToNat, evz]
  refine MSpec.of (cuts_call _ l rev u cs hu hl hcl hc') ?_
  have hctl := cuts_len l rev u cs
  have hctn := fun x => cuts_lt (l := l) (rev := rev) (u := u) (cs := cs) (x := x)
  have hup : upon l rev u cs rev' group rank = merged (fun t => newAtoms rev' group rank (ptsOf t)) (marked (cuts l rev u cs) ⟨rev', group⟩ l 0) ((spotsN l rev u cs rank).zip (cs.map Chg.text)) 0 := if_pos h0
  rw [hup]
  have hspe := spots_eq rank h0
  obtain ⟨hsp1, hsp2⟩ := spotsN_sorted rank h0
  rw [hspe]
  generalize cuts l rev u cs = ct at hctl hctn
  simp only [↓evd, evu, evf, implies_true, reduceCtorEq, Nat.reduceEqDiff, ↓reduceIte, Nat.reduceAdd, Nat.reduceLeDiff, Nat.reduceLT, Nat.reduceMul, Int.reduceLT, Int.reduceLE, Int.reduceToNat, evz]
  have hc0 : ((List.replicate l.length [AVal.str [], AVal.int IntKind.i64 0, AVal.int IntKind.i64 0, AVal.int IntKind.i64 0, AVal.nils]).flatten).length = l.length * 5 := by
    exact repl_len l.length _
  generalize (List.replicate l.length [AVal.str [], AVal.int IntKind.i64 0, AVal.int IntKind.i64 0, AVal.int IntKind.i64 0, AVal.nils]).flatten = cs0 at hc0
  refine awp_loop (fun m fr τ => ∃ i, m + i = ct.length ∧ fr.get 0 = eAtoms l ∧ fr.get 3 = eChgs cs ∧ fr.get 4 = .int .i64 rev' ∧ fr.get 5 = .int .i64 group ∧ fr.get 6 = .int .i64 rank ∧ fr.get 15 = ints ((spotsN l rev u cs rank).map fun n : Nat => (n : Int)) ∧ fr.get 16 = .slc (.new 0) 0 0 (.ex l.length) ∧ fr.get 17 = .slc (.new 1) 0 l.length (.ex l.length) ∧ fr.get 50 = ints ct ∧ fr.get 51 = .int .i64 ct.length ∧ fr.get 52 = .int .i64 (i : Nat) ∧
    τ.get 0 = some (.cells cs0 none) ∧ τ.get 1 = some (.cells (bitRow l.length fun k => decide ((k : Int) ∈ ct.take i)) none) ∧ 1 < τ.next ∧ τ.W = W ∧ τ.F0 = F) ?_ (m := ct.length) ?_
  · rintro m fr τ ⟨i, hi, e0, e3, e4, e5, e6, e15, e16, e17, e50, e51, e52, hb0, hb1, hn, hW, hF⟩
    by_cases hlt : i < ct.length
    · have hlt' : (i : Int) < (ct.length : Int) := by omega
      have hw := wrap_succ (i := i) (by omega)
      have hg := map_get (AVal.int .i64 ·) ct i hlt
      have t1 := List.take_succ_eq_append_getElem hlt
      obtain ⟨j, hj1, hj2⟩ := hctn _ (List.getElem_mem hlt)
      generalize ct[i] = x at hg t1 hj1
      subst hj1
      have hj' : (j : Int) < (l.length : Int) := by omega
      have hle : decide (j + 1 ≤ l.length) = true := by simp; omega
      have hset := bitRow_set (n := l.length) (j := j) (fun k => decide ((k : Int) ∈ ct.take i)) true hj2
      have hcg : bitRow l.length (fun k => if k = j then true else decide ((k : Int) ∈ ct.take i)) = bitRow l.length fun k => decide ((k : Int) ∈ ct.take (i + 1)) := bitRow_congr fun k _ => by
        rw [t1]
        by_cases e : k = j
        · subst e; simp
        · have e' : ¬ (k : Int) = (j : Int) := by omega
          simp [e, e']
      rw [hcg] at hset
      simp only [↓evd, evu, evf, implies_true, reduceCtorEq, Nat.reduceEqDiff, ↓reduceIte, Nat.reduceAdd, Nat.reduceLeDiff, Nat.reduceLT, Nat.reduceMul, Int.reduceLT, Int.reduceLE, Int.reduceToNat, evz, e0, e3, e4, e5, e6, e15, e16, e17, e50, e51, e52, hlt', hg, hj', hb1, bitRow_len, hle, hset, hw]
      exact ⟨m - 1, by omega, i + 1, by omega, rfl, hb0, rfl, hn, hW, hF⟩
    · have hlt' : ¬ (i : Int) < (ct.length : Int) := by omega
      rw [List.take_of_length_le (by omega)] at hb1
      simp only [↓evd, evu, evf, implies_true, reduceCtorEq, Nat.reduceEqDiff, ↓reduceIte, Nat.reduceAdd, Nat.reduceLeDiff, Nat.reduceLT, Nat.reduceMul, Int.reduceLT, Int.reduceLE, Int.reduceToNat, evz, e0, e3, e4, e5, e6, e15, e16, e17, e50, e51, e52, hlt']
      clear e50 e51 e52 hlt hlt' hi
      refine x_seq mixed ?_
      simp only [↓evd, evu, evf, implies_true, reduceCtorEq, Nat.reduceEqDiff, ↓reduceIte, Nat.reduceAdd, Nat.reduceLeDiff, Nat.reduceLT, Nat.reduceMul, Int.reduceLT, Int.reduceLE, Int.reduceToNat, evz]
      simp only [↓evd, evu, evf, implies_true, reduceCtorEq, Nat.reduceEqDiff, ↓reduceIte, Nat.reduceAdd, Nat.reduceLeDiff, Nat.reduceLT, Nat.reduceMul, Int.reduceLT, Int.reduceLE, Int.reduceToNat, evz, e0, hm0, hm2, hm3]
      refine x_seq mixed ?_
      simp only [↓evd, evu, evf, implies_true, reduceCtorEq, Nat.reduceEqDiff, ↓reduceIte, Nat.reduceAdd, Nat.reduceLeDiff, Nat.reduceLT, Nat.reduceMul, Int.reduceLT, Int.reduceLE, Int.reduceToNat, evz]
      simp only [↓evd, evu, evf, implies_true, reduceCtorEq, Nat.reduceEqDiff, ↓reduceIte, Nat.reduceAdd, Nat.reduceLeDiff, Nat.reduceLT, Nat.reduceMul, Int.reduceLT, Int.reduceLE, Int.reduceToNat, evz, e0]
      have hc1 : ((List.replicate l.length [AVal.str [], AVal.int IntKind.i64 0, AVal.int IntKind.i64 0, AVal.int IntKind.i64 0, AVal.nils]).flatten).length = l.length * 5 := by
        exact repl_len l.length _
      generalize (List.replicate l.length [AVal.str [], AVal.int IntKind.i64 0, AVal.int IntKind.i64 0, AVal.int IntKind.i64 0, AVal.nils]).flatten = cs1 at hc1
      refine (copy_own (τ.new (.cells cs1 none)) l hl.1 hl.2.1).mono ?_
      rintro v ρ ⟨rfl, hK, hn1, zs, hA⟩
      simp only [Heap.new_next] at hA hn1
      have hgt : ρ.get τ.next = some (.cells cs1 none) := by rw [hK.get (by simp), Heap.get_new, if_pos rfl]
      obtain ⟨ρ1, g1, g2, g3, g4, g5, g6⟩ := copy_slc (ca := .ex l.length) (cb := .ex l.length) (by omega) hgt hA.blk hc1 (flatR_len hA.len) (flatR_cell hA.cell)
      have hA1 := hA.copied (K' := τ.next) (by omega) g2 (by omega) g6
      have hW1 : ρ1.W = W := g3.trans (hK.1.trans hW)
      have hF1 : ρ1.F0 = F := g4.trans (hK.2.1.trans hF)
      have hb0' : ρ1.get 0 = some (.cells cs0 none) := by rw [g6 0 (by omega), hK.get (by rw [Heap.new_next]; omega), Heap.get_new, if_neg (by omega)]; exact hb0
      have hb1' : ρ1.get 1 = some (.cells (bitRow l.length fun k => decide ((k : Int) ∈ ct)) none) := by rw [g6 1 (by omega), hK.get (by rw [Heap.new_next]; omega), Heap.get_new, if_neg (by omega)]; exact hb1
      simp only [↓evd, evu, evf, implies_true, reduceCtorEq, Nat.reduceEqDiff, ↓reduceIte, Nat.reduceAdd, Nat.reduceLeDiff, Nat.reduceLT, Nat.reduceMul, Int.reduceLT, Int.reduceLE, Int.reduceToNat, evz, e0, e3, e4, e5, e6, e15, e16, e17, g1]
      have hl5 : l.length ≤ 1000000 := hl.1
      have hBn : τ.next + 1 + 1 ≤ ρ1.next := by have := hK.2.2.1; simp at this; omega
      have hml : ∀ i, i ≤ l.length → (markTo ct ⟨rev', group⟩ l i).length = l.length := fun i h => markTo_len ct ⟨rev', group⟩ l h
      refine x_seq mixed ?_
      simp only [↓evd, evu, evf, implies_true, reduceCtorEq, Nat.reduceEqDiff, ↓reduceIte, Nat.reduceAdd, Nat.reduceLeDiff, Nat.reduceLT, Nat.reduceMul, Int.reduceLT, Int.reduceLE, Int.reduceToNat, evz]
      refine awp_loop (fun m fr ρ => ∃ i zs, m + i = l.length ∧ i ≤ l.length ∧ fr.get 3 = eChgs cs ∧ fr.get 4 = .int .i64 rev' ∧ fr.get 5 = .int .i64 group ∧ fr.get 6 = .int .i64 rank ∧ fr.get 15 = ints ((spotsN l rev u cs rank).map fun n : Nat => (n : Int)) ∧ fr.get 16 = .slc (.new 0) 0 0 (.ex l.length) ∧ fr.get 17 = .slc (.new 1) 0 l.length (.ex l.length) ∧ fr.get 20 = .slc (.new τ.next) 0 l.length (.ex l.length) ∧ fr.get 68 = .int .i64 l.length ∧ fr.get 69 = .int .i64 (i : Nat) ∧
        ρ.get 0 = some (.cells cs0 none) ∧ ρ.get 1 = some (.cells (bitRow l.length fun k => decide ((k : Int) ∈ ct)) none) ∧ AtomsOwn (τ.next + 1 + 1) ρ τ.next (markTo ct ⟨rev', group⟩ l i) zs (markTo ct ⟨rev', group⟩ l i).length ∧ τ.next + 1 + 1 ≤ ρ.next ∧ ρ.W = W ∧ ρ.F0 = F) ?_ (m := l.length) ?_
      · clear e0 e3 e4 e5 e6 e15 e16 e17 hb0' hb1' hA1 hBn hW1 hF1 hA g1 g2 g3 g4 g5 g6 hn1 hgt hK hb0 hb1 hW hF
        rintro m fr ρ ⟨i, zs, hi, hil, e3, e4, e5, e6, e15, e16, e17, e20, e68, e69, hb0, hb1, hA, hBn, hW, hF⟩
        by_cases hlt : i < l.length
        · have hlt' : (i : Int) < (l.length : Int) := by omega
          have hw := wrap_succ (i := i) (by omega)
          have hbit := bitRow_get (n := l.length) (fun k => decide ((k : Int) ∈ ct)) hlt
          by_cases hin : (i : Int) ∈ ct
          case neg =>
            simp only [↓evd, evu, evf, implies_true, reduceCtorEq, Nat.reduceEqDiff, ↓reduceIte, Nat.reduceAdd, Nat.reduceLeDiff, Nat.reduceLT, Nat.reduceMul, Int.reduceLT, Int.reduceLE, Int.reduceToNat, evz, e3, e4, e5, e6, e15, e16, e17, e20, e68, e69, hlt', hb1, hbit, not_mem_bool hin, hw]
            refine ⟨m - 1, by omega, i + 1, zs, by omega, by omega, rfl, hb0, ?_, hBn, hW, hF⟩
            rw [markTo_skip ct _ l hlt hin]; exact hA
          have hzl : i < zs.length := by rw [hA.len, hml i hil]; exact hlt
          have hgm := markTo_get ct ⟨rev', group⟩ l hlt
          have hz := List.getElem?_eq_getElem hzl
          have hown := hA.own i _ _ (by rw [hml i hil]; exact hlt) hgm hz
          have hcell : (flatR (markTo ct ⟨rev', group⟩ l i) zs)[i * 5 + 4]? = some zs[i] := by rw [flatR_get hA.len, hz]
          have hfl := flatR_len hA.len
          rw [hml i hil] at hfl
          have hblk := hA.blk
          have hca := hlc _ (List.getElem_mem hlt)
          obtain ⟨x', σ', g1, g2, g3, g4, g5, g6, g7⟩ := cut_app hown hBn (by omega) ⟨rev', group⟩
          have hmk := hA.mark hBn hgm hz g2 (Nat.le_of_lt g5) g6 g7
          have hms := markTo_succ ct ⟨rev', group⟩ l hlt
          rw [if_pos hin] at hms
          rw [← hms] at hmk
          have hB0 : ∀ q, q < τ.next → σ'.get q = ρ.get q := fun q hq => g6 q (by omega) fun hm => by have := (hown.low q hm).1; omega
          have hblk2 : σ'.get τ.next = some (.cells (flatR (markTo ct ⟨rev', group⟩ l i) zs) none) := by
            rw [g6 τ.next (by omega) (fun hm => by have := (hown.low _ hm).1; omega)]; exact hblk
          have hov := over_set (l := flatR (markTo ct ⟨rev', group⟩ l i) zs) (j := i * 5 + 4) (x := x') (by rw [hfl]; omega)
          rw [flatR_set hA.len] at hov
          have hle : decide (i * 5 + 4 + 1 ≤ (flatR (markTo ct ⟨rev', group⟩ l i) zs).length) = true := by rw [hfl]; simp; omega
          have hb0' : σ'.get 0 = some (.cells cs0 none) := by rw [hB0 0 (by omega)]; exact hb0
          have hb1' : σ'.get 1 = some (.cells (bitRow l.length fun k => decide ((k : Int) ∈ ct)) none) := by rw [hB0 1 (by omega)]; exact hb1
          have hW' : σ'.W = W := g3.trans hW
          have hF' : σ'.F0 = F := g4.trans hF
          have hn0 : (τ.next = 0) = False := eq_false (by omega)
          have hn1 : (τ.next = 1) = False := eq_false (by omega)
          have hsz := hown.cells
          have hsx := g2.cells
          generalize hzz : zs[i] = z at g1 hcell hsz
          rcases hsz with rfl | ⟨Kz, nz, capz, rfl, _⟩ <;> rcases hsx with rfl | ⟨Kx, nx, capx, rfl, _⟩
          all_goals
            simp only [↓evd, evu, evf, implies_true, reduceCtorEq, Nat.reduceEqDiff, ↓reduceIte, Nat.reduceAdd, Nat.reduceLeDiff, Nat.reduceLT, Nat.reduceMul, Int.reduceLT, Int.reduceLE, Int.reduceToNat, evz, e3, e4, e5, e6, e15, e16, e17, e20, e68, e69, hlt', hb1, hbit, mem_bool hin, hblk, hcell, g1, hblk2, hle, hov, hw, hn0, hn1]
            exact ⟨m - 1, by omega, i + 1, _, by omega, by omega, rfl, hb0', hb1', hmk, by omega, hW', hF'⟩
        · have hlt' : ¬ (i : Int) < (l.length : Int) := by omega
          simp only [↓evd, evu, evf, implies_true, reduceCtorEq, Nat.reduceEqDiff, ↓reduceIte, Nat.reduceAdd, Nat.reduceLeDiff, Nat.reduceLT, Nat.reduceMul, Int.reduceLT, Int.reduceLE, Int.reduceToNat, evz, e3, e4, e5, e6, e15, e16, e17, e20, e68, e69, hlt']
          have hii : i = l.length := by omega
          subst hii
          rw [markTo_all] at hA
          obtain ⟨ρ2, s1, s2, s3, s4, s5, s6⟩ := hA.sees (n := l.length) (cap := .ex l.length)
          have hb0' : ρ2.get 0 = some (.cells cs0 none) := by rw [s6 0 (by omega) (by omega)]; exact hb0
          have hW2 : ρ2.W = W := s3.trans hW
          have hF2 : ρ2.F0 = F := s4.trans hF
          refine x_freeze (FSees.reg (t := 20) (by decide) (by simp only [↓evd, evu, evf, implies_true, reduceCtorEq, Nat.reduceEqDiff, ↓reduceIte, Nat.reduceAdd, Nat.reduceLeDiff, Nat.reduceLT, Nat.reduceMul, Int.reduceLT, Int.reduceLE, Int.reduceToNat, evz, e20]) s1) ?_
          refine x_of_awp mixed ?_
          clear hA s1 s3 s4 s6 hb0 hb1 hW hF
          have hml2 := marked_len ct ⟨rev', group⟩ l 0
          generalize marked ct ⟨rev', group⟩ l 0 = mk at s2 hml2
          have hsn := hsp2
          have hss := hsp1
          have hcs8 : cs.length ≤ 8 := hz.2.1
          have hval := hz.2.2.2.2.2.1
          have hspl : (spotsN l rev u cs rank).length = cs.length := by simp [spotsN]
          generalize spotsN l rev u cs rank = sp at hsn hss hspl e15 ⊢
          have hmr : ∀ z ∈ mk.map eAtom, z.cells.length = 5 := atoms_row mk
          have hml3 : (mk.map eAtom).length = l.length := by rw [List.length_map, hml2]
          have hK0 : τ.next ≠ 0 := by omega
          have hn2 : τ.next + 1 + 1 ≤ ρ2.next := by rw [s5]; exact hBn
          have hR0 : Row 0 ρ2 t_Atom 5 (.slc (.new 0) 0 0 (.ex l.length)) (([] : List Atom).map eAtom) := ⟨(fun _ h => nomatch h), .inr ⟨0, _, cs0, none, rfl, hb0', rfl, Nat.le_refl _, by omega, .inr ⟨l.length, rfl, Nat.zero_le _, hc0⟩⟩⟩
          clear hb0' s5 hBn e17 e68 e69 hlt hlt' hi hil hctl hctn hup hspe hsp1 hsp2
          simp only [↓evd, evu, evf, implies_true, reduceCtorEq, Nat.reduceEqDiff, ↓reduceIte, Nat.reduceAdd, Nat.reduceLeDiff, Nat.reduceLT, Nat.reduceMul, Int.reduceLT, Int.reduceLE, Int.reduceToNat, evz, e3, e4, e5, e6, e15, e16, e20]
          refine awp_loop (fun m fr ρ => ∃ i at' acc, m + i = cs.length ∧ fr.get 4 = .int .i64 rev' ∧ fr.get 5 = .int .i64 group ∧ fr.get 6 = .int .i64 rank ∧ fr.get 15 = ints (sp.map fun n : Nat => (n : Int)) ∧ fr.get 20 = .slc (.new τ.next) 0 l.length (.ex l.length) ∧ fr.get 22 = .int .i64 (at' : Nat) ∧ fr.get 91 = eChgs cs ∧ fr.get 92 = .int .i64 cs.length ∧ fr.get 93 = .int .i64 (i : Nat) ∧
            ρ.get τ.next = some (.cells ((mk.map eAtom).flatMap AVal.cells) none) ∧ Row 0 ρ t_Atom 5 (fr.get 16) (acc.map eAtom) ∧ (∀ K o n c, fr.get 16 = .slc (.new K) o n c → K ≠ τ.next) ∧ τ.next < ρ.next ∧
            acc ++ merged (fun t => newAtoms rev' group rank (ptsOf t)) mk ((sp.drop i).zip ((cs.drop i).map Chg.text)) at' = merged (fun t => newAtoms rev' group rank (ptsOf t)) mk (sp.zip (cs.map Chg.text)) 0 ∧ at' ≤ l.length ∧ (∀ k ∈ sp.drop i, at' ≤ k) ∧ acc.length ≤ at' + i * 1000000 ∧ ρ.W = W ∧ ρ.F0 = F) ?_ (m := cs.length) ?_
          · clear e3 e4 e5 e6 e15 e16 e20 hR0 s2 hn2 hW2 hF2
            rintro m fr ρ ⟨i, at', acc, hi, e4, e5, e6, e15, e20, e22, e91, e92, e93, hblk, hR, hne, hnx, hmg, hat, hge, hal, hW, hF⟩
            by_cases hlt : i < cs.length
            · have hlt' : (i : Int) < (cs.length : Int) := by omega
              have hw := wrap_succ (i := i) (by omega)
              have hg := map_get eChg cs i hlt
              have hlts : i < sp.length := by omega
              have hltm : i < (sp.map fun n : Nat => (n : Int)).length := by simp; omega
              have hlt2 : (i : Int) < ((sp.map fun n : Nat => (n : Int)).length : Int) := by omega
              have hg2 := map_get (AVal.int .i64 ·) (sp.map fun n : Nat => (n : Int)) i hltm
              rw [List.getElem_map] at hg2
              rw [List.drop_eq_getElem_cons hlt, List.drop_eq_getElem_cons hlts, List.map_cons, List.zip_cons_cons, merged_cons] at hmg
              rw [List.drop_eq_getElem_cons hlts] at hge
              have hk1 : at' ≤ sp[i] := hge _ (List.mem_cons_self ..)
              have hk2 : sp[i] ≤ l.length := hsn _ (List.getElem_mem hlts)
              have hk3 : ∀ k ∈ sp.drop (i + 1), sp[i] ≤ k := by
                have := hss.sublist (List.drop_sublist i sp)
                rw [List.drop_eq_getElem_cons hlts] at this
                exact fun k hk => List.rel_of_pairwise_cons this hk
              have hcv := hval _ (List.getElem_mem hlt)
              have hct := hc _ (List.getElem_mem hlt)
              generalize cs[i] = c at hg hmg hcv hct
              generalize sp[i] = k at hg2 hmg hk1 hk2 hk3
              obtain ⟨ps, hps⟩ : ∃ ps, pts c.text = some ps := Option.isSome_iff_exists.1 hcv
              have hpl := pts_len _ _ ps (Nat.le_refl _) hps
              have hptsOf : ptsOf c.text = ps := by simp only [ptsOf, hps, Option.getD_some]
              simp only [hptsOf] at hmg
              have hR1 := Row.var hR (.cells [.int .i64 0, .int .i64 0, .str []] none) (.cells [.int .i64 c.frm, .int .i64 c.to, .str c.text] none)
              have hblk1 : ((ρ.new (.cells [.int .i64 0, .int .i64 0, .str []] none)).set ρ.next (.cells [.int .i64 c.frm, .int .i64 c.to, .str c.text] none)).get τ.next = some (.cells ((mk.map eAtom).flatMap AVal.cells) none) := by
                rw [Heap.get_set, if_neg (by omega), Heap.get_new, if_neg (by omega)]; exact hblk
              obtain ⟨q1, _, q3, q4⟩ := src_part hblk1 hmr hml3 hk1 hk2
              have hys : ∀ z ∈ ((mk.map eAtom).take k).drop at', z.cells.length = 5 := fun z hz => hmr z (List.mem_of_mem_take (List.mem_of_mem_drop hz))
              have hyc : ((((mk.map eAtom).take k).drop at').flatMap AVal.cells).all AVal.isCell = true := by
                rw [← List.map_take, ← List.map_drop]; exact atoms_cell _
              have hpl1 : (((mk.map eAtom).take k).drop at').length = k - at' := by simp [hml2]; omega
              obtain ⟨x1, ρ1, a1, a2, a3, a4, a5⟩ := row_app2 (bytes := 64) hR1 (Nat.zero_le _) q3 q4 hys hyc (by omega) (by omega) (by rw [hpl1, List.length_map]; omega)
              have hput := put_call ρ1 c.text rev' group rank ps hct hps
              have hsrc := src_fsl ρ1 5 ((newAtoms rev' group rank ps).map eAtom)
              obtain ⟨x2, ρ2', b1, b2, b3, b4, b5⟩ := row_app2 (bytes := 64) a2 (Nat.zero_le _) hsrc.1 hsrc.2 (atoms_row _) (atoms_cell _) (by omega) (by omega) (by rw [List.length_append, hpl1, List.length_map, List.length_map]; simp only [newAtoms, List.length_map]; omega)
              have hN1 : ρ.next + 1 ≤ ρ1.next := by have := a3.2.2.1; simpa using this
              have hN2 := b3.2.2.1
              have hx1 : ∀ K o n c, x1 = .slc (.new K) o n c → K ≠ τ.next := fun K o n c' e => by
                rcases a5 K o n c' e with h | ⟨o', n', c'', h⟩
                · simp at h; omega
                · exact hne _ _ _ _ h
              have hx2 : ∀ K o n c, x2 = .slc (.new K) o n c → K ≠ τ.next := fun K o n c' e => by
                rcases b5 K o n c' e with h | ⟨o', n', c'', h⟩
                · omega
                · exact hx1 _ _ _ _ h
              have hcv1 : ρ1.get ρ.next = some (.cells [.int .i64 c.frm, .int .i64 c.to, .str c.text] none) := by
                rw [a4 ρ.next (by simp) (fun K o n c' e => by have := (hR.low e).2; omega), Heap.get_set, if_pos rfl]
              have hblk2 : ρ2'.get τ.next = some (.cells ((mk.map eAtom).flatMap AVal.cells) none) := by
                rw [b4 τ.next (by omega) (fun K o n c e => (hx1 K o n c e).symm), a4 τ.next (by simp; omega) (fun K o n c e => (hne K o n c e).symm)]; exact hblk1
              simp only [eAtoms] at hput
              simp only [↓evd, evu, evf, implies_true, reduceCtorEq, Nat.reduceEqDiff, ↓reduceIte, Nat.reduceAdd, Nat.reduceLeDiff, Nat.reduceLT, Nat.reduceMul, Int.reduceLT, Int.reduceLE, Int.reduceToNat, evz, e4, e5, e6, e15, e20, e22, e91, e92, e93, hlt', hg, hlt2, hg2, q1, a1, hcv1]
              refine MSpec.of hput ?_
              simp only [↓evd, evu, evf, implies_true, reduceCtorEq, Nat.reduceEqDiff, ↓reduceIte, Nat.reduceAdd, Nat.reduceLeDiff, Nat.reduceLT, Nat.reduceMul, Int.reduceLT, Int.reduceLE, Int.reduceToNat, evz, e4, e5, e6, e15, e20, e22, e91, e92, e93, b1, hlt2, hg2, hw]
              refine ⟨m - 1, by omega, i + 1, k, acc ++ (mk.take k).drop at' ++ newAtoms rev' group rank ps, by omega, rfl, rfl, hblk2, ?_, hx2, by omega, ?_, hk2, hk3, ?_, b3.1.trans (a3.1.trans hW), b3.2.1.trans (a3.2.1.trans hF)⟩
              · rw [List.map_append, List.map_append, List.map_drop, List.map_take]; exact b2
              · rw [← hmg]; simp only [List.append_assoc]
              · simp only [List.length_append, List.length_drop, List.length_take, newAtoms, List.length_map]; omega
            · have hlt' : ¬ (i : Int) < (cs.length : Int) := by omega
              rw [List.drop_eq_nil_of_le (show sp.length ≤ i by omega), List.zip_nil_left, merged] at hmg
              obtain ⟨_, q2, q3, q4⟩ := src_part hblk hmr hml3 hat (Nat.le_refl _)
              have q2 := q2 rfl
              rw [List.take_of_length_le (by omega)] at q3 q4
              have hys : ∀ z ∈ (mk.map eAtom).drop at', z.cells.length = 5 := fun z hz => hmr z (List.mem_of_mem_drop hz)
              have hyc : (((mk.map eAtom).drop at').flatMap AVal.cells).all AVal.isCell = true := by
                rw [← List.map_drop]; exact atoms_cell _
              obtain ⟨x1, ρ1, a1, a2, a3, a4, a5⟩ := row_app2 (bytes := 64) hR (Nat.zero_le _) q3 q4 hys hyc (by omega) (by omega) (by simp [hml2]; omega)
              simp only [↓evd, evu, evf, implies_true, reduceCtorEq, Nat.reduceEqDiff, ↓reduceIte, Nat.reduceAdd, Nat.reduceLeDiff, Nat.reduceLT, Nat.reduceMul, Int.reduceLT, Int.reduceLE, Int.reduceToNat, evz, e4, e5, e6, e15, e20, e22, e91, e92, e93, hlt', q2, a1]
              rw [← List.map_drop, ← List.map_append, hmg] at a2
              obtain ⟨ρ3, s1, s2, s3, _⟩ := Row.sees2 a2
              exact ⟨ρ3, s1, s2.trans (a3.1.trans hW), s3.trans (a3.2.1.trans hF)⟩
          · refine ⟨0, 0, [], by omega, ?_⟩
            simp only [↓evd, evu, evf, implies_true, reduceCtorEq, Nat.reduceEqDiff, ↓reduceIte, Nat.reduceAdd, Nat.reduceLeDiff, Nat.reduceLT, Nat.reduceMul, Int.reduceLT, Int.reduceLE, Int.reduceToNat, evz, e4, e5, e6, e15, e16, e20]
            refine ⟨s2, hR0, fun K o n c e => ?_, by omega, Nat.zero_le _, fun _ _ => Nat.zero_le _, hW2, hF2⟩
            cases e; omega
      · refine ⟨0, zs, by omega, Nat.zero_le _, ?_⟩
        simp only [↓evd, evu, evf, implies_true, reduceCtorEq, Nat.reduceEqDiff, ↓reduceIte, Nat.reduceAdd, Nat.reduceLeDiff, Nat.reduceLT, Nat.reduceMul, Int.reduceLT, Int.reduceLE, Int.reduceToNat, evz, e0, e3, e4, e5, e6, e15, e16, e17]
        exact ⟨hb0', hb1', hA1, hBn, hW1, hF1⟩
  · refine ⟨0, by omega, ?_⟩
    simp only [↓evd, evu, evf, implies_true, reduceCtorEq, Nat.reduceEqDiff, ↓reduceIte, Nat.reduceAdd, Nat.reduceLeDiff, Nat.reduceLT, Nat.reduceMul, Int.reduceLT, Int.reduceLE, Int.reduceToNat, evz]
    simp only [falses_row, List.take_zero, List.not_mem_nil, decide_false]
end Go.Proofs.Ytmjngohmcljfjaa.M
set_option linter.unusedSimpArgs false
set_option linter.unusedVariables false
set_option maxRecDepth 100000
namespace Go.Proofs.Ytmjngohmcljfjaa.M
open Go Go.Mini
/-! ### Code points by themselves -/
/-- these bytes are just one code point -/
def IsCP (p : List UInt8) : Prop := p ≠ [] ∧ (pt p).2 = p.length
theorem conts_app : ∀ (k v : Nat) (r t : List UInt8) (x : Nat), conts v k r = some x → conts v k (r ++ t) = some x
  | 0, v, r, t, x, h => h
  | k + 1, v, [], t, x, h => by simp [conts] at h
  | k + 1, v, b :: r, t, x, h => by
    simp only [List.cons_append, conts] at h ⊢
    split at h
    · rename_i hb; rw [if_pos hb]; exact conts_app k _ r t x h
    · cases h
theorem ptN_app {v n least : Nat} {r t : List UInt8} (h : (ptN v n least r).2 ≠ 0) : ptN v n least (r ++ t) = ptN v n least r := by
  unfold ptN at h ⊢
  split at h
  · rename_i x hx; rw [conts_app _ _ _ t _ hx]
  · simp at h
theorem pt_app {r t : List UInt8} (h : (pt r).2 ≠ 0) : pt (r ++ t) = pt r := by
  cases r with
  | nil => simp [pt] at h
  | cons a r =>
    simp only [List.cons_append]
    rw [pt] at h
    rw [pt, pt]
    split at h
    · rename_i h1; rw [if_pos h1, if_pos h1]
    · rename_i h1; rw [if_neg h1, if_neg h1]
      split at h
      · rename_i h2; rw [if_pos h2, if_pos h2, ptN_app h]
      · rename_i h2; rw [if_neg h2, if_neg h2]
        split at h
        · rename_i h3; rw [if_pos h3, if_pos h3, ptN_app h]
        · rename_i h3; rw [if_neg h3, if_neg h3]
          split at h
          · rename_i h4; rw [if_pos h4, if_pos h4, ptN_app h]
          · simp at h
theorem IsCP.ne0 {p : List UInt8} (h : IsCP p) : (pt p).2 ≠ 0 := by
  rw [h.2]; exact fun e => h.1 (List.eq_nil_of_length_eq_zero e)
theorem take_cp {r : List UInt8} (h : (pt r).2 ≠ 0) : IsCP (r.take (pt r).2) := by
  have key : pt (r.take (pt r).2) = pt r := by
    rcases pt_shapes h with ⟨a, t, rfl, h1, e⟩ | ⟨a, b, t, x, rfl, h1, h2, h3, h4, h5, e⟩ | ⟨a, b, c, t, x, rfl, h1, h2, h3, h4, h5, h6, e⟩ | ⟨a, b, c, d, t, x, rfl, h1, h2, h3, h4, h5, h6, h7, e⟩
    · rw [e]; simp only [List.take_succ_cons, List.take_zero]; rw [pt, if_pos h1]
    · rw [e]; simp only [List.take_succ_cons, List.take_zero]
      have e' := e
      rw [pt] at e' ⊢
      rw [if_neg (by omega), if_pos h1] at e' ⊢
      rw [← e']
      simp only [ptN, conts]
    · rw [e]; simp only [List.take_succ_cons, List.take_zero]
      have e' := e
      rw [pt] at e' ⊢
      rw [if_neg (by omega), if_neg (by omega), if_pos h1] at e' ⊢
      rw [← e']
      simp only [ptN, conts]
    · rw [e]; simp only [List.take_succ_cons, List.take_zero]
      have e' := e
      rw [pt] at e' ⊢
      rw [if_neg (by omega), if_neg (by omega), if_neg (by omega), if_pos h1] at e' ⊢
      rw [← e']
      simp only [ptN, conts]
  have hle := pt_le r
  refine ⟨?_, by rw [key, List.length_take]; omega⟩
  intro e
  rw [e] at key
  rw [← key] at h
  simp [pt] at h
theorem pts_cp : ∀ (n : Nat) (s : List UInt8) (ps : List (List UInt8)), s.length ≤ n → pts s = some ps → s = ps.flatten ∧ ∀ p ∈ ps, IsCP p
  | 0, s, ps, h, hp => by
    have : s = [] := List.eq_nil_of_length_eq_zero (by omega)
    subst this; cases hp; simp
  | n + 1, s, ps, h, hp => by
    cases s with
    | nil => cases hp; simp
    | cons a r =>
      rw [pts_step (by simp)] at hp
      split at hp
      · cases hp
      · rename_i h0
        rw [Option.map_eq_some_iff] at hp
        obtain ⟨q, hq, rfl⟩ := hp
        obtain ⟨g1, g2⟩ := pts_cp n _ q (by rw [List.length_drop]; simp only [List.length_cons] at *; omega) hq
        refine ⟨?_, fun p hp => ?_⟩
        · rw [List.flatten_cons, ← g1, List.take_append_drop]
        · rcases List.mem_cons.1 hp with rfl | hp
          · exact take_cp h0
          · exact g2 p hp
theorem pts_app {p t : List UInt8} (h : IsCP p) : pts (p ++ t) = (pts t).map (p :: ·) := by
  rw [pts_step (by intro e; exact h.1 (List.append_eq_nil_iff.1 e).1), pt_app h.ne0, if_neg h.ne0, h.2, List.drop_left, List.take_left]
theorem pts_flat : ∀ {ps : List (List UInt8)}, (∀ p ∈ ps, IsCP p) → pts ps.flatten = some ps
  | [], _ => rfl
  | p :: ps, h => by
    rw [List.flatten_cons, pts_app (h p (by simp)), pts_flat fun q hq => h q (List.mem_cons_of_mem _ hq)]; rfl
theorem pts_one {p : List UInt8} (h : IsCP p) : pts p = some [p] := by
  have := pts_app (t := []) h
  rw [List.append_nil] at this
  rw [this]; rfl
theorem one_cp {p : List UInt8} (h : pts p = some [p]) : IsCP p := (pts_cp _ p [p] (Nat.le_refl _) h).2 p (by simp)
theorem cp_len {p : List UInt8} (h : IsCP p) : 1 ≤ p.length ∧ p.length ≤ 4 := by
  have h0 := h.ne0
  have h2 := h.2
  rcases pt_shapes h0 with ⟨a, t, rfl, h1, e⟩ | ⟨a, b, t, x, rfl, _, _, _, _, _, e⟩ | ⟨a, b, c, t, x, rfl, _, _, _, _, _, _, e⟩ | ⟨a, b, c, d, t, x, rfl, _, _, _, _, _, _, _, e⟩ <;> (rw [e] at h2; simp only [List.length_cons] at h2 ⊢; omega)
/-- the first byte of a code point begins it, no other one does -/
theorem cp_bytes {p : List UInt8} (h : IsCP p) : ∀ (i : Nat) (b : UInt8), p[i]? = some b → (b.toNat / 64 = 2 ↔ i ≠ 0) := by
  have h0 := h.ne0
  have h2 := h.2
  rcases pt_shapes h0 with ⟨a, t, rfl, h1, e⟩ | ⟨a, b, t, x, rfl, q1, q2, _, _, _, e⟩ | ⟨a, b, c, t, x, rfl, q1, q2, q3, _, _, _, e⟩ | ⟨a, b, c, d, t, x, rfl, q1, q2, q3, q4, _, _, _, e⟩
  all_goals
    rw [e] at h2
    simp at h2
    subst h2
    intro i y hy
  · rcases i with _ | i
    · simp at hy; subst hy; simp; omega
    · simp at hy
  · rcases i with _ | _ | i
    · simp at hy; subst hy; simp; omega
    · simp at hy; subst hy; simp; omega
    · simp at hy
  · rcases i with _ | _ | _ | i
    · simp at hy; subst hy; simp; omega
    · simp at hy; subst hy; simp; omega
    · simp at hy; subst hy; simp; omega
    · simp at hy
  · rcases i with _ | _ | _ | _ | i
    · simp at hy; subst hy; simp; omega
    · simp at hy; subst hy; simp; omega
    · simp at hy; subst hy; simp; omega
    · simp at hy; subst hy; simp; omega
    · simp at hy
theorem valid_iff {s : List UInt8} : valid s = true ↔ ∃ ps : List (List UInt8), s = ps.flatten ∧ ∀ p ∈ ps, IsCP p := by
  constructor
  · intro h
    obtain ⟨ps, hp⟩ := Option.isSome_iff_exists.1 h
    exact ⟨ps, pts_cp _ s ps (Nat.le_refl _) hp⟩
  · rintro ⟨ps, rfl, h⟩
    simp only [valid, pts_flat h, Option.isSome_some]
theorem valid_flat {ps : List (List UInt8)} (h : ∀ p ∈ ps, IsCP p) : valid ps.flatten = true := valid_iff.2 ⟨ps, rfl, h⟩
/-- the places at which a code point begins, or the text ends -/
theorem edge_flat {ps : List (List UInt8)} (h : ∀ p ∈ ps, IsCP p) (i : Int) : isEdge ps.flatten i = true ↔ ∃ j : Nat, j ≤ ps.length ∧ i = ((ps.take j).flatten.length : Nat) := by
  have key : ∀ (ps : List (List UInt8)), (∀ p ∈ ps, IsCP p) → ∀ n : Nat, n ≤ ps.flatten.length → ((n = ps.flatten.length ∨ ∃ b, ps.flatten[n]? = some b ∧ ¬ b.toNat / 64 = 2) ↔ ∃ j : Nat, j ≤ ps.length ∧ n = (ps.take j).flatten.length) := by
    intro ps
    induction ps with
    | nil => intro _ n hn; simp at hn; subst hn; simp
    | cons p ps ih =>
      intro h n hn
      have hp := h p (by simp)
      have hl := cp_len hp
      rw [List.flatten_cons, List.length_append] at hn
      rcases Nat.lt_or_ge n p.length with hlt | hge
      · constructor
        · rintro (e | ⟨b, hb, hb2⟩)
          · rw [List.flatten_cons, List.length_append] at e; omega
          · rw [List.flatten_cons, List.getElem?_append_left hlt] at hb
            have := cp_bytes hp n b hb
            have h0 : n = 0 := by
              rcases Nat.eq_zero_or_pos n with h | h
              · exact h
              · exact absurd (this.2 (by omega)) hb2
            exact ⟨0, Nat.zero_le _, by simp [h0]⟩
        · rintro ⟨j, hj, e⟩
          cases j with
          | zero =>
            simp at e; subst e
            have hg : p[0]? = some p[0] := List.getElem?_eq_getElem hlt
            refine .inr ⟨p[0], by rw [List.flatten_cons, List.getElem?_append_left hlt]; exact hg, fun hb => ?_⟩
            exact (cp_bytes hp 0 _ hg).1 hb rfl
          | succ j => rw [List.take_succ_cons, List.flatten_cons, List.length_append] at e; omega
      · obtain ⟨m, rfl⟩ : ∃ m, n = p.length + m := ⟨n - p.length, by omega⟩
        have hi := ih (fun q hq => h q (List.mem_cons_of_mem _ hq)) m (by omega)
        have e1 : (p.length + m = (p :: ps).flatten.length ∨ ∃ b, (p :: ps).flatten[p.length + m]? = some b ∧ ¬ b.toNat / 64 = 2) ↔ (m = ps.flatten.length ∨ ∃ b, ps.flatten[m]? = some b ∧ ¬ b.toNat / 64 = 2) := by
          rw [List.flatten_cons, List.length_append, List.getElem?_append_right (by omega), Nat.add_sub_cancel_left]
          constructor
          · rintro (h | h)
            · exact .inl (by omega)
            · exact .inr h
          · rintro (h | h)
            · exact .inl (by omega)
            · exact .inr h
        rw [e1, hi]
        constructor
        · rintro ⟨j, hj, e⟩
          exact ⟨j + 1, by simp only [List.length_cons]; omega, by rw [List.take_succ_cons, List.flatten_cons, List.length_append, e]⟩
        · rintro ⟨j, hj, e⟩
          cases j with
          | zero => rw [List.take_zero] at e; simp only [List.flatten_nil, List.length_nil] at e; omega
          | succ j =>
            rw [List.take_succ_cons, List.flatten_cons, List.length_append] at e
            exact ⟨j, by simp only [List.length_cons] at hj; omega, by omega⟩
  have hv := valid_flat h
  constructor
  · intro he
    simp only [isEdge, hv, Bool.and_true, Bool.and_eq_true, decide_eq_true_eq, Bool.or_eq_true] at he
    obtain ⟨⟨h1, h2⟩, h3⟩ := he
    have : ∃ j : Nat, j ≤ ps.length ∧ i.toNat = (ps.take j).flatten.length := by
      refine (key ps h i.toNat (by omega)).1 ?_
      rcases h3 with h3 | h3
      · exact .inl (by omega)
      · right
        split at h3
        · rename_i b hb; exact ⟨b, hb, by simpa using h3⟩
        · cases h3
    obtain ⟨j, hj, e⟩ := this
    exact ⟨j, hj, by omega⟩
  · rintro ⟨j, hj, rfl⟩
    have hle : (ps.take j).flatten.length ≤ ps.flatten.length := by
      have := congrArg List.length (show (ps.take j).flatten ++ (ps.drop j).flatten = ps.flatten by rw [← List.flatten_append, List.take_append_drop])
      rw [List.length_append] at this; omega
    simp only [isEdge, hv, Bool.and_true, Bool.and_eq_true, decide_eq_true_eq, Bool.or_eq_true]
    refine ⟨⟨by omega, by omega⟩, ?_⟩
    rcases (key ps h (ps.take j).flatten.length hle).2 ⟨j, hj, rfl⟩ with e | ⟨b, hb, hb2⟩
    · exact .inl (by omega)
    · right
      rw [Int.toNat_natCast, hb]
      simpa using hb2
end Go.Proofs.Ytmjngohmcljfjaa.M
set_option linter.unusedSimpArgs false
set_option linter.unusedVariables false
set_option maxRecDepth 100000
namespace Go.Proofs.Ytmjngohmcljfjaa.M
open Go Go.Mini
attribute [local congr] go1_congr goM_congr goG_congr goV_congr drawwp_congr Xwp_congr
/-! ### The reference's code points -/
theorem rand31 (b : UInt8) : bitOp .and .i64 (b.toNat : Int) 31 = ((b.toNat % 32 : Nat) : Int) := fin_byte (p := fun n => bitOp .and .i64 (n : Int) 31 = ((n % 32 : Nat) : Int)) (by decide +kernel) b
theorem rand15 (b : UInt8) : bitOp .and .i64 (b.toNat : Int) 15 = ((b.toNat % 16 : Nat) : Int) := fin_byte (p := fun n => bitOp .and .i64 (n : Int) 15 = ((n % 16 : Nat) : Int)) (by decide +kernel) b
theorem rand7 (b : UInt8) : bitOp .and .i64 (b.toNat : Int) 7 = ((b.toNat % 8 : Nat) : Int) := fin_byte (p := fun n => bitOp .and .i64 (n : Int) 7 = ((n % 8 : Nat) : Int)) (by decide +kernel) b
theorem rand63 (b : UInt8) : bitOp .and .i64 (b.toNat : Int) 63 = ((b.toNat % 64 : Nat) : Int) := fin_byte (p := fun n => bitOp .and .i64 (n : Int) 63 = ((n % 64 : Nat) : Int)) (by decide +kernel) b
theorem ror6 {x y : Nat} (hx : x < 33554432) (hy : y < 64) : bitOp .or .i64 ((x * 64 : Nat) : Int) (y : Int) = ((x * 64 + y : Nat) : Int) := by
  have h1 : (BitVec.ofInt 64 ((x * 64 : Nat) : Int)).toNat = x * 64 := by
    rw [BitVec.toNat_ofInt]; omega
  have h2 : (BitVec.ofInt 64 (y : Int)).toNat = y := by
    rw [BitVec.toNat_ofInt]; omega
  have h3 : (BitVec.ofInt 64 ((x * 64 : Nat) : Int) ||| BitVec.ofInt 64 (y : Int)).toNat = x * 64 + y := by
    rw [BitVec.toNat_or, h1, h2]
    have := Nat.two_pow_add_eq_or_of_lt (i := 6) (b := y) (by omega) x
    rw [show 2 ^ 6 * x = x * 64 by omega] at this
    exact this.symm
  simp only [bitOp]
  show IntKind.i64.wrap (((BitVec.ofInt 64 ((x * 64 : Nat) : Int) ||| BitVec.ofInt 64 (y : Int)).toNat : Nat) : Int) = _
  rw [h3, wrap_id (by omega) (by omega)]
theorem rshl6 {x : Nat} (hx : x < 33554432) : IntKind.i64.wrap ((x : Int) * 2 ^ (min 6 (IntKind.bits .i64))) = ((x * 64 : Nat) : Int) := by
  have e : (2 : Int) ^ (min 6 (IntKind.bits .i64)) = 64 := by decide
  rw [e, show (x : Int) * 64 = ((x * 64 : Nat) : Int) by push_cast; rfl, wrap_id (by omega) (by omega)]
theorem rshr6 (x : Nat) : (x : Int).fdiv (2 ^ (min 6 (IntKind.bits .i64))) = ((x / 64 : Nat) : Int) := by
  have e : (2 : Int) ^ (min 6 (IntKind.bits .i64)) = 64 := by decide
  rw [e, Int.fdiv_eq_ediv_of_nonneg _ (by decide)]; rfl
set_option maxHeartbeats 8000000 in
theorem rsize_call (σ : Heap) (s : List UInt8) (at' : Int) (hs : s.length ≤ maxRoom) : ACall Try.prog n_palinoderef1_Size [.str s, .int .i64 at'] σ (.int .i64 ((ptAt s at').2 : Int)) σ := by
  refine bare_call rfl rfl (fun W F => spec_of_awp mixed c_palinoderef1_Size (Nat.le_of_ble_eq_true rfl) ?_) σ
  unfold f_palinoderef1_Size
  have hroom : maxRoom = 68719476736 := rfl
  by_cases h1 : at' < 0
  · simp only [↓evd, evu, evf, implies_true, reduceCtorEq, Nat.reduceEqDiff, ↓reduceIte, Nat.reduceAdd, Nat.reduceLeDiff, Nat.reduceLT, Nat.reduceMul, Int.reduceLT, Int.reduceLE, Int.reduceToNat, evz, h1]
    exact seen (by rw [ptAt, if_pos h1]; rfl) rfl rfl
  by_cases h2 : (s.length : Int) ≤ at'
  · simp only [↓evd, evu, evf, implies_true, reduceCtorEq, Nat.reduceEqDiff, ↓reduceIte, Nat.reduceAdd, Nat.reduceLeDiff, Nat.reduceLT, Nat.reduceMul, Int.reduceLT, Int.reduceLE, Int.reduceToNat, evz, h1, h2]
    refine seen ?_ rfl rfl
    rw [ptAt, if_neg h1, List.drop_eq_nil_of_le (by omega)]; rfl
  obtain ⟨i, rfl⟩ : ∃ i : Nat, at' = (i : Int) := ⟨at'.toNat, by omega⟩
  have hi : i < s.length := by omega
  have h0 : (0 : Int) ≤ (i : Int) := by omega
  have hg : s[i]? = some s[i] := List.getElem?_eq_getElem hi
  have hd := List.drop_eq_getElem_cons hi
  have hpt : ptAt s (i : Int) = pt (s[i] :: s.drop (i + 1)) := by rw [ptAt, if_neg h1, Int.toNat_natCast, hd]
  rw [hpt]
  generalize s[i] = a at hg
  have hab := a.toNat_lt
  have hw : IntKind.i64.wrap (a.toNat : Int) = (a.toNat : Int) := wrap_id (by omega) (by omega)
  have hrl : (s.drop (i + 1)).length = s.length - (i + 1) := List.length_drop
  by_cases c1 : a.toNat < 128
  · have c1' : (a.toNat : Int) < 128 := by omega
    simp only [↓evd, evu, evf, implies_true, reduceCtorEq, Nat.reduceEqDiff, ↓reduceIte, Nat.reduceAdd, Nat.reduceLeDiff, Nat.reduceLT, Nat.reduceMul, Int.reduceLT, Int.reduceLE, Int.reduceToNat, evz, h1, h2, h0, hg, hw, c1']
    exact seen (by rw [pt, if_pos c1]; rfl) rfl rfl
  have c1' : ¬ (a.toNat : Int) < 128 := by omega
  by_cases cn : ¬ (a.toNat / 32 = 6) ∧ ¬ (a.toNat / 16 = 14) ∧ ¬ (a.toNat / 8 = 30)
  · have e : pt (a :: s.drop (i + 1)) = (0, 0) := by rw [pt, if_neg c1, if_neg cn.1, if_neg cn.2.1, if_neg cn.2.2]
    rw [e]
    by_cases d1 : (192 : Int) ≤ a.toNat
    · have d2 : ¬ (a.toNat : Int) < 224 := by omega
      have d3 : (224 : Int) ≤ a.toNat := by omega
      have d4 : ¬ (a.toNat : Int) < 240 := by omega
      have d5 : (240 : Int) ≤ a.toNat := by omega
      have d6 : ¬ (a.toNat : Int) < 248 := by omega
      simp only [↓evd, evu, evf, implies_true, reduceCtorEq, Nat.reduceEqDiff, ↓reduceIte, Nat.reduceAdd, Nat.reduceLeDiff, Nat.reduceLT, Nat.reduceMul, Int.reduceLT, Int.reduceLE, Int.reduceToNat, evz, h1, h2, h0, hg, hw, c1', d1, d2, d3, d4, d5, d6]
      exact seen rfl rfl rfl
    · have d3 : ¬ (224 : Int) ≤ a.toNat := by omega
      have d5 : ¬ (240 : Int) ≤ a.toNat := by omega
      simp only [↓evd, evu, evf, implies_true, reduceCtorEq, Nat.reduceEqDiff, ↓reduceIte, Nat.reduceAdd, Nat.reduceLeDiff, Nat.reduceLT, Nat.reduceMul, Int.reduceLT, Int.reduceLE, Int.reduceToNat, evz, h1, h2, h0, hg, hw, c1', d1, d3, d5]
      exact seen rfl rfl rfl
  obtain ⟨n, v0, least, hpt2, hcase⟩ : ∃ n v0 least : Nat, pt (a :: s.drop (i + 1)) = ptN v0 n least (s.drop (i + 1)) ∧ ((a.toNat / 32 = 6 ∧ n = 2 ∧ v0 = a.toNat % 32 ∧ least = 128) ∨ (a.toNat / 16 = 14 ∧ n = 3 ∧ v0 = a.toNat % 16 ∧ least = 2048) ∨ (a.toNat / 8 = 30 ∧ n = 4 ∧ v0 = a.toNat % 8 ∧ least = 65536)) := by
    by_cases e1 : a.toNat / 32 = 6
    · exact ⟨2, _, 128, by rw [pt, if_neg c1, if_pos e1], .inl ⟨e1, rfl, rfl, rfl⟩⟩
    · by_cases e2 : a.toNat / 16 = 14
      · exact ⟨3, _, 2048, by rw [pt, if_neg c1, if_neg e1, if_pos e2], .inr (.inl ⟨e2, rfl, rfl, rfl⟩)⟩
      · have e3 : a.toNat / 8 = 30 := Classical.byContradiction fun e3 => cn ⟨e1, e2, e3⟩
        exact ⟨4, _, 65536, by rw [pt, if_neg c1, if_neg e1, if_neg e2, if_pos e3], .inr (.inr ⟨e3, rfl, rfl, rfl⟩)⟩
  rw [hpt2]
  have hn4 : 2 ≤ n ∧ n ≤ 4 := by rcases hcase with h | h | h <;> omega
  have hv0 : v0 < 32 := by rcases hcase with h | h | h <;> omega
  have hlw : IntKind.i64.wrap ((s.length : Int) - (i : Int)) = (s.length : Int) - (i : Int) := wrap_id (by omega) (by omega)
  rcases hcase with ⟨hc, hn, hv, hle⟩ | ⟨hc, hn, hv, hle⟩ | ⟨hc, hn, hv, hle⟩
  all_goals
    by_cases hsh : (s.length : Int) - (i : Int) < (n : Int)
    · have hcn : ptN v0 n least (s.drop (i + 1)) = (0, 0) := by
        rw [ptN, conts_short (n - 1) v0 _ (by omega)]
      rw [hcn]
      rw [hn] at hsh
      first
        | (have d1 : (192 : Int) ≤ a.toNat := by omega
           have d2 : (a.toNat : Int) < 224 := by omega
           simp only [↓evd, evu, evf, implies_true, reduceCtorEq, Nat.reduceEqDiff, ↓reduceIte, Nat.reduceAdd, Nat.reduceLeDiff, Nat.reduceLT, Nat.reduceMul, Int.reduceLT, Int.reduceLE, Int.reduceToNat, evz, h1, h2, h0, hg, hw, c1', d1, d2, hlw]
           have hsh' : (s.length : Int) - (i : Int) < 2 := hsh
           simp only [↓evd, evu, evf, implies_true, reduceCtorEq, Nat.reduceEqDiff, ↓reduceIte, Nat.reduceAdd, Nat.reduceLeDiff, Nat.reduceLT, Nat.reduceMul, Int.reduceLT, Int.reduceLE, Int.reduceToNat, evz, hsh']
           exact seen rfl rfl rfl)
        | (have d1 : (192 : Int) ≤ a.toNat := by omega
           have d2 : ¬ (a.toNat : Int) < 224 := by omega
           have d3 : (224 : Int) ≤ a.toNat := by omega
           have d4 : (a.toNat : Int) < 240 := by omega
           simp only [↓evd, evu, evf, implies_true, reduceCtorEq, Nat.reduceEqDiff, ↓reduceIte, Nat.reduceAdd, Nat.reduceLeDiff, Nat.reduceLT, Nat.reduceMul, Int.reduceLT, Int.reduceLE, Int.reduceToNat, evz, h1, h2, h0, hg, hw, c1', d1, d2, d3, d4, hlw]
           have hsh' : (s.length : Int) - (i : Int) < 3 := hsh
           simp only [↓evd, evu, evf, implies_true, reduceCtorEq, Nat.reduceEqDiff, ↓reduceIte, Nat.reduceAdd, Nat.reduceLeDiff, Nat.reduceLT, Nat.reduceMul, Int.reduceLT, Int.reduceLE, Int.reduceToNat, evz, hsh']
           exact seen rfl rfl rfl)
        | (have d1 : (192 : Int) ≤ a.toNat := by omega
           have d2 : ¬ (a.toNat : Int) < 224 := by omega
           have d3 : (224 : Int) ≤ a.toNat := by omega
           have d4 : ¬ (a.toNat : Int) < 240 := by omega
           have d5 : (240 : Int) ≤ a.toNat := by omega
           have d6 : (a.toNat : Int) < 248 := by omega
           simp only [↓evd, evu, evf, implies_true, reduceCtorEq, Nat.reduceEqDiff, ↓reduceIte, Nat.reduceAdd, Nat.reduceLeDiff, Nat.reduceLT, Nat.reduceMul, Int.reduceLT, Int.reduceLE, Int.reduceToNat, evz, h1, h2, h0, hg, hw, c1', d1, d2, d3, d4, d5, d6, hlw]
           have hsh' : (s.length : Int) - (i : Int) < 4 := hsh
           simp only [↓evd, evu, evf, implies_true, reduceCtorEq, Nat.reduceEqDiff, ↓reduceIte, Nat.reduceAdd, Nat.reduceLeDiff, Nat.reduceLT, Nat.reduceMul, Int.reduceLT, Int.reduceLE, Int.reduceToNat, evz, hsh']
           exact seen rfl rfl rfl)
    · have hsh' := hsh
      rw [hn] at hsh'
      first
        | (have d1 : (192 : Int) ≤ a.toNat := by omega
           have d2 : (a.toNat : Int) < 224 := by omega
           have hshn : ¬ (s.length : Int) - (i : Int) < 2 := hsh'
           simp only [↓evd, evu, evf, implies_true, reduceCtorEq, Nat.reduceEqDiff, ↓reduceIte, Nat.reduceAdd, Nat.reduceLeDiff, Nat.reduceLT, Nat.reduceMul, Int.reduceLT, Int.reduceLE, Int.reduceToNat, evz, h1, h2, h0, hg, hw, c1', d1, d2, hlw, hshn, rand31])
        | (have d1 : (192 : Int) ≤ a.toNat := by omega
           have d2 : ¬ (a.toNat : Int) < 224 := by omega
           have d3 : (224 : Int) ≤ a.toNat := by omega
           have d4 : (a.toNat : Int) < 240 := by omega
           have hshn : ¬ (s.length : Int) - (i : Int) < 3 := hsh'
           simp only [↓evd, evu, evf, implies_true, reduceCtorEq, Nat.reduceEqDiff, ↓reduceIte, Nat.reduceAdd, Nat.reduceLeDiff, Nat.reduceLT, Nat.reduceMul, Int.reduceLT, Int.reduceLE, Int.reduceToNat, evz, h1, h2, h0, hg, hw, c1', d1, d2, d3, d4, hlw, hshn, rand15])
        | (have d1 : (192 : Int) ≤ a.toNat := by omega
           have d2 : ¬ (a.toNat : Int) < 224 := by omega
           have d3 : (224 : Int) ≤ a.toNat := by omega
           have d4 : ¬ (a.toNat : Int) < 240 := by omega
           have d5 : (240 : Int) ≤ a.toNat := by omega
           have d6 : (a.toNat : Int) < 248 := by omega
           have hshn : ¬ (s.length : Int) - (i : Int) < 4 := hsh'
           simp only [↓evd, evu, evf, implies_true, reduceCtorEq, Nat.reduceEqDiff, ↓reduceIte, Nat.reduceAdd, Nat.reduceLeDiff, Nat.reduceLT, Nat.reduceMul, Int.reduceLT, Int.reduceLE, Int.reduceToNat, evz, h1, h2, h0, hg, hw, c1', d1, d2, d3, d4, d5, d6, hlw, hshn, rand7])
      refine awp_loop (fun m fr τ => ∃ j x : Nat, m + j = n ∧ 1 ≤ j ∧ j ≤ n ∧ fr.get 0 = .str s ∧ fr.get 1 = .int .i64 (i : Int) ∧ fr.get 6 = .int .i64 (n : Int) ∧ fr.get 8 = .int .i64 (least : Int) ∧ fr.get 7 = .int .i64 (x : Int) ∧ fr.get 9 = .int .i64 (j : Int) ∧ x < 32 * 64 ^ (j - 1) ∧ conts x (n - j) (s.drop (i + j)) = conts v0 (n - 1) (s.drop (i + 1)) ∧ τ.W = W ∧ τ.F0 = F) ?_ (m := n - 1) ?_
      · rintro m fr τ ⟨j, x, hm, hj1, hj2, e0, e1, e6, e8, e7, e9, hx, hcc, hW, hF⟩
        have hx25 : x < 33554432 := by
          have h3 : j - 1 ≤ 3 := by omega
          have := Nat.pow_le_pow_right (n := 64) (by omega) h3
          have : (64 : Nat) ^ 3 = 262144 := by decide
          omega
        by_cases hlt : j < n
        · have hlt' : (j : Int) < (n : Int) := by omega
          have hai : i + j < s.length := by omega
          have hw2 : IntKind.i64.wrap ((i : Int) + (j : Int)) = ((i + j : Nat) : Int) := by rw [wrap_id (by omega) (by omega)]; omega
          have h0j : (0 : Int) ≤ ((i + j : Nat) : Int) := by omega
          have hgi : s[i + j]? = some s[i + j] := List.getElem?_eq_getElem hai
          have hwj := wrap_succ (i := j) (by omega)
          obtain ⟨k, hk⟩ : ∃ k, n - j = k + 1 := ⟨n - j - 1, by omega⟩
          rw [List.drop_eq_getElem_cons hai, hk, conts] at hcc
          generalize s[i + j] = b at hgi hcc
          have hbb := b.toNat_lt
          have hwb : IntKind.i64.wrap (b.toNat : Int) = (b.toNat : Int) := wrap_id (by omega) (by omega)
          by_cases hb : b.toNat / 64 = 2
          · rw [if_pos hb] at hcc
            have hbn : (((b.toNat / 64 : Nat) : Int) != 2) = false := by rw [hb]; rfl
            have hor := ror6 (x := x) (y := b.toNat % 64) hx25 (by omega)
            simp only [↓evd, evu, evf, implies_true, reduceCtorEq, Nat.reduceEqDiff, ↓reduceIte, Nat.reduceAdd, Nat.reduceLeDiff, Nat.reduceLT, Nat.reduceMul, Int.reduceLT, Int.reduceLE, Int.reduceToNat, evz, e0, e1, e6, e8, e7, e9, hlt', hw2, h0j, hgi, hwb, rshr6, hbn, rshl6 hx25, rand63, hor, hwj]
            refine ⟨m - 1, by omega, j + 1, x * 64 + b.toNat % 64, by omega, by omega, by omega, rfl, rfl, ?_, ?_, hW, hF⟩
            · rw [Nat.add_sub_cancel]
              obtain ⟨q, rfl⟩ : ∃ q, j = q + 1 := ⟨j - 1, by omega⟩
              rw [Nat.add_sub_cancel] at hx
              rw [Nat.pow_succ]; omega
            · rw [← hcc, show n - (j + 1) = k by omega, show i + (j + 1) = i + j + 1 by omega]
          · rw [if_neg hb] at hcc
            have hbn : (((b.toNat / 64 : Nat) : Int) != 2) = true := by
              rw [bne_iff_ne]; intro h; apply hb; omega
            simp only [↓evd, evu, evf, implies_true, reduceCtorEq, Nat.reduceEqDiff, ↓reduceIte, Nat.reduceAdd, Nat.reduceLeDiff, Nat.reduceLT, Nat.reduceMul, Int.reduceLT, Int.reduceLE, Int.reduceToNat, evz, e0, e1, e6, e8, e7, e9, hlt', hw2, h0j, hgi, hwb, rshr6, hbn]
            exact seen (by rw [ptN, ← hcc]; rfl) hW hF
        · have hlt' : ¬ (j : Int) < (n : Int) := by omega
          have hjn : n - j = 0 := by omega
          rw [hjn, conts] at hcc
          have hp : ptN v0 n least (s.drop (i + 1)) = if (decide (x < least) || !isPt x) = true then (0, 0) else (x, n) := by rw [ptN, ← hcc]
          rw [hp]
          by_cases q1 : x < least
          · have q1' : (x : Int) < (least : Int) := by omega
            simp only [↓evd, evu, evf, implies_true, reduceCtorEq, Nat.reduceEqDiff, ↓reduceIte, Nat.reduceAdd, Nat.reduceLeDiff, Nat.reduceLT, Nat.reduceMul, Int.reduceLT, Int.reduceLE, Int.reduceToNat, evz, e0, e1, e6, e8, e7, e9, hlt', q1']
            exact seen (by simp [q1]) hW hF
          have q1' : ¬ (x : Int) < (least : Int) := by omega
          by_cases q2 : (1114111 : Int) < (x : Int)
          · simp only [↓evd, evu, evf, implies_true, reduceCtorEq, Nat.reduceEqDiff, ↓reduceIte, Nat.reduceAdd, Nat.reduceLeDiff, Nat.reduceLT, Nat.reduceMul, Int.reduceLT, Int.reduceLE, Int.reduceToNat, evz, e0, e1, e6, e8, e7, e9, hlt', q1', q2]
            have : isPt x = false := by simp only [isPt]; rw [decide_eq_false (by omega)]; rfl
            exact seen (by simp [q1, this]) hW hF
          by_cases q3 : (55296 : Int) ≤ (x : Int)
          · by_cases q4 : (x : Int) < 57344
            · simp only [↓evd, evu, evf, implies_true, reduceCtorEq, Nat.reduceEqDiff, ↓reduceIte, Nat.reduceAdd, Nat.reduceLeDiff, Nat.reduceLT, Nat.reduceMul, Int.reduceLT, Int.reduceLE, Int.reduceToNat, evz, e0, e1, e6, e8, e7, e9, hlt', q1', q2, q3, q4]
              have : isPt x = false := by simp only [isPt]; rw [decide_eq_false (show ¬ x < 55296 by omega), decide_eq_false (show ¬ 57343 < x by omega)]; simp
              exact seen (by simp [q1, this]) hW hF
            · simp only [↓evd, evu, evf, implies_true, reduceCtorEq, Nat.reduceEqDiff, ↓reduceIte, Nat.reduceAdd, Nat.reduceLeDiff, Nat.reduceLT, Nat.reduceMul, Int.reduceLT, Int.reduceLE, Int.reduceToNat, evz, e0, e1, e6, e8, e7, e9, hlt', q1', q2, q3, q4]
              have : isPt x = true := by simp only [isPt]; rw [decide_eq_true (show x ≤ 1114111 by omega), decide_eq_true (show 57343 < x by omega)]; simp
              exact seen (by simp [q1, this]) hW hF
          · simp only [↓evd, evu, evf, implies_true, reduceCtorEq, Nat.reduceEqDiff, ↓reduceIte, Nat.reduceAdd, Nat.reduceLeDiff, Nat.reduceLT, Nat.reduceMul, Int.reduceLT, Int.reduceLE, Int.reduceToNat, evz, e0, e1, e6, e8, e7, e9, hlt', q1', q2, q3]
            have : isPt x = true := by simp only [isPt]; rw [decide_eq_true (show x ≤ 1114111 by omega), decide_eq_true (show x < 55296 by omega)]; simp
            exact seen (by simp [q1, this]) hW hF
      · refine ⟨1, v0, by omega, Nat.le_refl _, by omega, ?_⟩
        simp only [↓evd, evu, evf, implies_true, reduceCtorEq, Nat.reduceEqDiff, ↓reduceIte, Nat.reduceAdd, Nat.reduceLeDiff, Nat.reduceLT, Nat.reduceMul, Int.reduceLT, Int.reduceLE, Int.reduceToNat, evz, hn, hv, hle]
        first | done | simpa using hv0 | (simp; omega)
end Go.Proofs.Ytmjngohmcljfjaa.M
set_option linter.unusedSimpArgs false
set_option linter.unusedVariables false
set_option maxRecDepth 100000
namespace Go.Proofs.Ytmjngohmcljfjaa.M
open Go Go.Mini
attribute [local congr] go1_congr goM_congr goG_congr goV_congr drawwp_congr Xwp_congr
set_option maxHeartbeats 1000000 in
theorem rvalid_call (σ : Heap) (s : List UInt8) (hs : s.length ≤ maxRoom) : ACall Try.prog n_palinoderef1_Valid [.str s] σ (.bool (valid s)) σ := by
  refine bare_call rfl rfl (fun W F => spec_of_awp mixed c_palinoderef1_Valid (Nat.le_of_ble_eq_true rfl) ?_) σ
  unfold f_palinoderef1_Valid
  have hroom : maxRoom = 68719476736 := rfl
  simp only [↓evd, evu, evf, implies_true, reduceCtorEq, Nat.reduceEqDiff, ↓reduceIte, Nat.reduceAdd, Nat.reduceLeDiff, Nat.reduceLT, Nat.reduceMul, Int.reduceLT, Int.reduceLE, Int.reduceToNat, evz]
  refine awp_loop (fun m fr τ => ∃ i, m + i = s.length ∧ fr.get 0 = .str s ∧ fr.get 3 = .int .i64 (i : Nat) ∧ τ = ⟨W, F, .nil, 0⟩ ∧ valid (s.drop i) = valid s) ?_ (m := s.length) ?_
  · rintro m fr τ ⟨i, hi, e0, e3, rfl, hv⟩
    by_cases hlt : i < s.length
    · have hlt' : (i : Int) < (s.length : Int) := by omega
      have hne : s.drop i ≠ [] := by intro h; have := congrArg List.length h; simp at this; omega
      have hle := pt_le (s.drop i)
      rw [List.length_drop] at hle
      rw [valid_step hne] at hv
      have hpa : ptAt s (i : Int) = pt (s.drop i) := by simp only [ptAt]; rw [if_neg (by omega), Int.toNat_natCast]
      simp only [↓evd, evu, evf, implies_true, reduceCtorEq, Nat.reduceEqDiff, ↓reduceIte, Nat.reduceAdd, Nat.reduceLeDiff, Nat.reduceLT, Nat.reduceMul, Int.reduceLT, Int.reduceLE, Int.reduceToNat, evz, e0, e3, hlt']
      refine MSpec.of (rsize_call _ s i hs) ?_
      rw [hpa]
      by_cases hz : (pt (s.drop i)).2 = 0
      · have hb : (((pt (s.drop i)).2 : Int) == 0) = true := by rw [hz]; rfl
        rw [if_pos hz] at hv
        simp only [↓evd, evu, evf, implies_true, reduceCtorEq, Nat.reduceEqDiff, ↓reduceIte, Nat.reduceAdd, Nat.reduceLeDiff, Nat.reduceLT, Nat.reduceMul, Int.reduceLT, Int.reduceLE, Int.reduceToNat, evz, hb]
        exact seen (by rw [← hv]) rfl rfl
      · have hb : (((pt (s.drop i)).2 : Int) == 0) = false := by rw [beq_eq_false_iff_ne]; omega
        rw [if_neg hz, List.drop_drop] at hv
        have hw : IntKind.i64.wrap ((i : Int) + ((pt (s.drop i)).2 : Int)) = ((i + (pt (s.drop i)).2 : Nat) : Int) := by rw [wrap_id (by omega) (by omega)]; omega
        simp only [↓evd, evu, evf, implies_true, reduceCtorEq, Nat.reduceEqDiff, ↓reduceIte, Nat.reduceAdd, Nat.reduceLeDiff, Nat.reduceLT, Nat.reduceMul, Int.reduceLT, Int.reduceLE, Int.reduceToNat, evz, hb, e0, e3, hw]
        exact ⟨m - (pt (s.drop i)).2, by omega, i + (pt (s.drop i)).2, by omega, rfl, hv⟩
    · have hlt' : ¬ (i : Int) < (s.length : Int) := by omega
      rw [List.drop_eq_nil_of_le (by omega)] at hv
      simp only [↓evd, evu, evf, implies_true, reduceCtorEq, Nat.reduceEqDiff, ↓reduceIte, Nat.reduceAdd, Nat.reduceLeDiff, Nat.reduceLT, Nat.reduceMul, Int.reduceLT, Int.reduceLE, Int.reduceToNat, evz, e0, e3, hlt']
      exact seen (by rw [← hv]; rfl) rfl rfl
  · exact ⟨0, by omega, by first | (simp only [↓evd, evu, evf, implies_true, reduceCtorEq, Nat.reduceEqDiff, ↓reduceIte, Nat.reduceAdd, Nat.reduceLeDiff, Nat.reduceLT, Nat.reduceMul, Int.reduceLT, Int.reduceLE, Int.reduceToNat, evz]; done) | (simp only [↓evd, evu, evf, implies_true, reduceCtorEq, Nat.reduceEqDiff, ↓reduceIte, Nat.reduceAdd, Nat.reduceLeDiff, Nat.reduceLT, Nat.reduceMul, Int.reduceLT, Int.reduceLE, Int.reduceToNat, evz]; first | rfl | (repeat' apply And.intro) <;> rfl)⟩
set_option maxHeartbeats 1000000 in
theorem risEdge_call (σ : Heap) (s : List UInt8) (i : Int) (hs : s.length ≤ maxRoom) : ACall Try.prog n_palinoderef1_IsEdge [.str s, .int .i64 i] σ (.bool (isEdge s i)) σ := by
  refine bare_call rfl rfl (fun W F => spec_of_awp mixed c_palinoderef1_IsEdge (Nat.le_of_ble_eq_true rfl) ?_) σ
  unfold f_palinoderef1_IsEdge
  by_cases h1 : i < 0
  · simp only [↓evd, evu, evf, implies_true, reduceCtorEq, Nat.reduceEqDiff, ↓reduceIte, Nat.reduceAdd, Nat.reduceLeDiff, Nat.reduceLT, Nat.reduceMul, Int.reduceLT, Int.reduceLE, Int.reduceToNat, evz, h1]
    exact seen (by simp only [isEdge, decide_eq_false (show ¬ 0 ≤ i by omega)]; simp) rfl rfl
  by_cases h2 : (s.length : Int) < i
  · simp only [↓evd, evu, evf, implies_true, reduceCtorEq, Nat.reduceEqDiff, ↓reduceIte, Nat.reduceAdd, Nat.reduceLeDiff, Nat.reduceLT, Nat.reduceMul, Int.reduceLT, Int.reduceLE, Int.reduceToNat, evz, h1, h2]
    exact seen (by simp only [isEdge, decide_eq_false (show ¬ i ≤ (s.length : Int) by omega)]; simp) rfl rfl
  have h1' : 0 ≤ i := by omega
  have h2' : i ≤ (s.length : Int) := by omega
  simp only [↓evd, evu, evf, implies_true, reduceCtorEq, Nat.reduceEqDiff, ↓reduceIte, Nat.reduceAdd, Nat.reduceLeDiff, Nat.reduceLT, Nat.reduceMul, Int.reduceLT, Int.reduceLE, Int.reduceToNat, evz, h1, h2]
  refine MSpec.of (rvalid_call _ s hs) ?_
  cases hv : valid s with
  | false =>
    simp only [↓evd, evu, evf, implies_true, reduceCtorEq, Nat.reduceEqDiff, ↓reduceIte, Nat.reduceAdd, Nat.reduceLeDiff, Nat.reduceLT, Nat.reduceMul, Int.reduceLT, Int.reduceLE, Int.reduceToNat, evz]
    exact seen (by simp only [isEdge, hv, Bool.and_false]) rfl rfl
  | true =>
    by_cases h3 : i = (s.length : Int)
    · have hb : (i == (s.length : Int)) = true := by simpa using h3
      simp only [↓evd, evu, evf, implies_true, reduceCtorEq, Nat.reduceEqDiff, ↓reduceIte, Nat.reduceAdd, Nat.reduceLeDiff, Nat.reduceLT, Nat.reduceMul, Int.reduceLT, Int.reduceLE, Int.reduceToNat, evz, hb]
      exact seen (by simp only [isEdge, decide_eq_true h1', decide_eq_true h2', decide_eq_true h3, hv]; rfl) rfl rfl
    · have hb : (i == (s.length : Int)) = false := by simpa using h3
      have hlt : i.toNat < s.length := by omega
      have hg : s[i.toNat]? = some s[i.toNat] := List.getElem?_eq_getElem hlt
      have hw : IntKind.i64.wrap (s[i.toNat].toNat : Int) = (s[i.toNat].toNat : Int) := wrap_id (by omega) (by have := s[i.toNat].toNat_lt; omega)
      by_cases hc : s[i.toNat].toNat / 64 = 2
      · have hb' : (((s[i.toNat].toNat / 64 : Nat) : Int) != 2) = false := by rw [hc]; rfl
        simp only [↓evd, evu, evf, implies_true, reduceCtorEq, Nat.reduceEqDiff, ↓reduceIte, Nat.reduceAdd, Nat.reduceLeDiff, Nat.reduceLT, Nat.reduceMul, Int.reduceLT, Int.reduceLE, Int.reduceToNat, evz, hb, h1', hg, hw, rshr6, hb']
        refine seen ?_ rfl rfl
        simp only [isEdge, decide_eq_false h3, hg, decide_eq_true hc]; simp
      · have hb' : (((s[i.toNat].toNat / 64 : Nat) : Int) != 2) = true := by
          rw [bne_iff_ne]; intro h; apply hc; omega
        simp only [↓evd, evu, evf, implies_true, reduceCtorEq, Nat.reduceEqDiff, ↓reduceIte, Nat.reduceAdd, Nat.reduceLeDiff, Nat.reduceLT, Nat.reduceMul, Int.reduceLT, Int.reduceLE, Int.reduceToNat, evz, hb, h1', hg, hw, rshr6, hb']
        refine seen ?_ rfl rfl
        simp only [isEdge, decide_eq_true h1', decide_eq_true h2', decide_eq_false h3, hg, decide_eq_false hc, hv]; rfl
end Go.Proofs.Ytmjngohmcljfjaa.M
set_option linter.unusedSimpArgs false
set_option linter.unusedVariables false
set_option maxRecDepth 100000
namespace Go.Proofs.Ytmjngohmcljfjaa.M
open Go Go.Mini
attribute [local congr] go1_congr goM_congr goG_congr goV_congr drawwp_congr Xwp_congr
set_option maxHeartbeats 2000000 in
theorem rorder_call (σ : Heap) (l : List Chg) (hl : l.length ≤ 1000000) : ACall Try.prog n_palinoderef11_Ordered [eChgs l] σ (.bool (!disorder l)) σ := by
  refine gc_call rfl (spec_of_awp mixed c_palinoderef11_Ordered (Nat.le_of_ble_eq_true rfl) ?_)
  unfold f_palinoderef11_Ordered
  simp only [↓evd, evu, evf, implies_true, reduceCtorEq, Nat.reduceEqDiff, ↓reduceIte, Nat.reduceAdd, Nat.reduceLeDiff, Nat.reduceLT, Nat.reduceMul, Int.reduceLT, Int.reduceLE, Int.reduceToNat, evz]
  refine awp_loop (fun m fr τ => ∃ i, m + i = l.length + 1 ∧ 1 ≤ i ∧ fr.get 0 = eChgs l ∧ fr.get 3 = .int .i64 (i : Nat) ∧ disorder (l.drop (i - 1)) = disorder l ∧ Keep [] σ τ) ?_ (m := l.length) ?_
  · rintro m fr τ ⟨i, hi, h1, e0, e3, hs, hK⟩
    by_cases hlt : i < l.length
    · have hlt' : (i : Int) < (l.length : Int) := by omega
      have hw := wrap_succ (i := i) (by omega)
      have hwm : IntKind.i64.wrap ((i : Int) - 1) = ((i - 1 : Nat) : Int) := by rw [wrap_id (by omega) (by omega)]; omega
      have hg := map_get eChg l i hlt
      have hg1 := map_get eChg l (i - 1) (by omega)
      rw [List.drop_eq_getElem_cons (show i - 1 < l.length by omega), show i - 1 + 1 = i by omega, List.drop_eq_getElem_cons hlt, disorder] at hs
      have hs2 : disorder (l[i] :: l.drop (i + 1)) = disorder (l.drop i) := by rw [← List.drop_eq_getElem_cons hlt]
      rw [hs2] at hs
      generalize l[i] = y at hg hs
      generalize l[i - 1] = x at hg1 hs
      simp only [↓evd, evu, evf, implies_true, reduceCtorEq, Nat.reduceEqDiff, ↓reduceIte, Nat.reduceAdd, Nat.reduceLeDiff, Nat.reduceLT, Nat.reduceMul, Int.reduceLT, Int.reduceLE, Int.reduceToNat, evz, e0, e3, hlt']
      with_reducible refine draw_of_grow (fun _ => False) (ms := [false, false, false, false, false, false, false, false, false, true, true, false, true]) (by kernel_rfl) ?_
      have ne1 : (τ.next + 1 = τ.next) = False := eq_false (by omega)
      have ne2 : (τ.next = τ.next + 1) = False := eq_false (by omega)
      have hK2 : Keep [] σ ((((τ.new (.cells [.int .i64 0, .int .i64 0, .str []] none)).new (.cells [.int .i64 0, .int .i64 0, .str []] none)).set τ.next (.cells [.int .i64 x.frm, .int .i64 x.to, .str x.text] none)).set (τ.next + 1) (.cells [.int .i64 y.frm, .int .i64 y.to, .str y.text] none)) :=
        (((hK.new _).new _).set (.inr hK.2.2.1) _).set (.inr (Nat.le_succ_of_le hK.2.2.1)) _
      have hbad : chgBad x y = true → AVal.bool false = AVal.bool !disorder l := fun h => by rw [← hs, h]; rfl
      have hfin : ∀ k, k < σ.next → ((((τ.new (.cells [.int .i64 0, .int .i64 0, .str []] none)).new (.cells [.int .i64 0, .int .i64 0, .str []] none)).set τ.next (.cells [.int .i64 x.frm, .int .i64 x.to, .str x.text] none)).set (τ.next + 1) (.cells [.int .i64 y.frm, .int .i64 y.to, .str y.text] none)).get k = σ.get k := fun k hk => hK2.get hk
      simp only [↓evd, evu, evf, implies_true, reduceCtorEq, Nat.reduceEqDiff, ↓reduceIte, Nat.reduceAdd, Nat.reduceLeDiff, Nat.reduceLT, Nat.reduceMul, Int.reduceLT, Int.reduceLE, Int.reduceToNat, evz] at hfin
      simp only [↓evd, evu, evf, implies_true, reduceCtorEq, Nat.reduceEqDiff, ↓reduceIte, Nat.reduceAdd, Nat.reduceLeDiff, Nat.reduceLT, Nat.reduceMul, Int.reduceLT, Int.reduceLE, Int.reduceToNat, evz, e0, e3, hwm, hg, hg1, Nat.add_zero, ne1, ne2]
      refine ⟨.inr ⟨rfl, fun _ h => h.elim⟩, ?_⟩
      by_cases c1 : y.frm < x.to
      · have := hbad (by simp [chgBad, c1])
        simp only [↓evd, evu, evf, implies_true, reduceCtorEq, Nat.reduceEqDiff, ↓reduceIte, Nat.reduceAdd, Nat.reduceLeDiff, Nat.reduceLT, Nat.reduceMul, Int.reduceLT, Int.reduceLE, Int.reduceToNat, evz, e0, e3, hwm, hg, hg1, Nat.add_zero, ne1, ne2, c1]
        exact ⟨this, hK.1, hK.2.1, hfin⟩
      by_cases c2 : x.frm = y.frm
      · have b2 : (y.frm == x.frm) = true := by simpa using c2.symm
        by_cases c3 : x.frm = x.to
        · have b3 : (x.frm == x.to) = true := by simpa using c3
          have := hbad (by simp only [chgBad, Bool.or_eq_true, Bool.and_eq_true, decide_eq_true_eq]; exact .inr ⟨c2, by omega⟩)
          simp only [↓evd, evu, evf, implies_true, reduceCtorEq, Nat.reduceEqDiff, ↓reduceIte, Nat.reduceAdd, Nat.reduceLeDiff, Nat.reduceLT, Nat.reduceMul, Int.reduceLT, Int.reduceLE, Int.reduceToNat, evz, e0, e3, hwm, hg, hg1, Nat.add_zero, ne1, ne2, c1, b2, b3]
          exact ⟨this, hK.1, hK.2.1, hfin⟩
        · have b3 : (x.frm == x.to) = false := by simpa using c3
          have hb : chgBad x y = false := by simp only [chgBad, Bool.or_eq_false_iff, Bool.and_eq_false_iff, decide_eq_false_iff_not]; exact ⟨c1, .inr (by omega)⟩
          rw [hb, Bool.false_or] at hs
          simp only [↓evd, evu, evf, implies_true, reduceCtorEq, Nat.reduceEqDiff, ↓reduceIte, Nat.reduceAdd, Nat.reduceLeDiff, Nat.reduceLT, Nat.reduceMul, Int.reduceLT, Int.reduceLE, Int.reduceToNat, evz, e0, e3, hwm, hg, hg1, Nat.add_zero, ne1, ne2, c1, b2, b3, hw]
          exact ⟨m - 1, by omega, i + 1, by omega, by omega, rfl, hs, hK2⟩
      · have b2 : (y.frm == x.frm) = false := by simpa using Ne.symm c2
        have hb : chgBad x y = false := by simp [chgBad, c1, c2]
        rw [hb, Bool.false_or] at hs
        simp only [↓evd, evu, evf, implies_true, reduceCtorEq, Nat.reduceEqDiff, ↓reduceIte, Nat.reduceAdd, Nat.reduceLeDiff, Nat.reduceLT, Nat.reduceMul, Int.reduceLT, Int.reduceLE, Int.reduceToNat, evz, e0, e3, hwm, hg, hg1, Nat.add_zero, ne1, ne2, c1, b2, hw]
        exact ⟨m - 1, by omega, i + 1, by omega, by omega, rfl, hs, hK2⟩
    · have hlt' : ¬ (i : Int) < (l.length : Int) := by omega
      have hd : disorder (l.drop (i - 1)) = false := by
        have : (l.drop (i - 1)).length ≤ 1 := by simp; omega
        match l.drop (i - 1), this with
        | [], _ => rfl
        | [_], _ => rfl
      rw [hd] at hs
      simp only [↓evd, evu, evf, implies_true, reduceCtorEq, Nat.reduceEqDiff, ↓reduceIte, Nat.reduceAdd, Nat.reduceLeDiff, Nat.reduceLT, Nat.reduceMul, Int.reduceLT, Int.reduceLE, Int.reduceToNat, evz, e0, e3, hlt']
      rw [← hs]
      exact ⟨rfl, hK.1, hK.2.1, fun k hk => hK.get hk⟩
  · refine ⟨1, by omega, Nat.le_refl _, ?_⟩
    simp only [↓evd, evu, evf, implies_true, reduceCtorEq, Nat.reduceEqDiff, ↓reduceIte, Nat.reduceAdd, Nat.reduceLeDiff, Nat.reduceLT, Nat.reduceMul, Int.reduceLT, Int.reduceLE, Int.reduceToNat, evz]
    exact ⟨rfl, Keep.refl _ _⟩
end Go.Proofs.Ytmjngohmcljfjaa.M
set_option linter.unusedSimpArgs false
set_option linter.unusedVariables false
set_option maxRecDepth 100000
namespace Go.Proofs.Ytmjngohmcljfjaa.M
open Go Go.Mini
attribute [local congr] go1_congr goM_congr goG_congr goV_congr drawwp_congr Xwp_congr
theorem check_out {s : List UInt8} {l : List Chg} (hv : valid s = true) (h8 : l.length ≤ 8) (h : l.any (chgOut s) = true) : check s l = 10 := by
  unfold check; rw [if_neg (by rw [hv]; simp), if_neg (by omega)]; simp only [errs, h]; rfl
theorem check_in {s : List UInt8} {l : List Chg} (hv : valid s = true) (h8 : l.length ≤ 8) (h1 : l.any (chgOut s) = false) (h : l.any (chgIn s) = true) : check s l = 11 := by
  unfold check; rw [if_neg (by rw [hv]; simp), if_neg (by omega)]; simp only [errs, h1, h]; rfl
theorem check_dis {s : List UInt8} {l : List Chg} (hv : valid s = true) (h8 : l.length ≤ 8) (h1 : l.any (chgOut s) = false) (h2 : l.any (chgIn s) = false) (h : disorder l = true) : check s l = 180 := by
  unfold check; rw [if_neg (by rw [hv]; simp), if_neg (by omega)]; simp only [errs, h1, h2, h]; rfl
theorem check_form {s : List UInt8} {l : List Chg} (hv : valid s = true) (h8 : l.length ≤ 8) (h1 : l.any (chgOut s) = false) (h2 : l.any (chgIn s) = false) (h3 : disorder l = false) (h : l.any (fun c => !valid c.text) = true) : check s l = 12 := by
  unfold check; rw [if_neg (by rw [hv]; simp), if_neg (by omega)]; simp only [errs, h1, h2, h3, h]; rfl
theorem longR_two (l : List Chg) (r : Int) : longR l r = 0 ∨ longR l r = 13 := by
  induction l generalizing r with
  | nil => simp only [longR]; split <;> simp
  | cons c l ih => simp only [longR]; split <;> simp [ih]
theorem check_long {s : List UInt8} {l : List Chg} (hv : valid s = true) (h8 : l.length ≤ 8) (h1 : l.any (chgOut s) = false) (h2 : l.any (chgIn s) = false) (h3 : disorder l = false) (h4 : l.any (fun c => !valid c.text) = false) : check s l = longI s l := by
  unfold check; rw [if_neg (by rw [hv]; simp), if_neg (by omega)]; simp only [errs, h1, h2, h3, h4]
  rcases longR_two l (20000 - s.length + gains s.length l) with h | h <;> simp only [longI, h] <;> rfl
def spans (l : List Chg) : Int := (l.map fun c => c.to - c.frm).sum
theorem gains_spans {s : List UInt8} (hs : s.length ≤ maxRoom) : ∀ {l : List Chg}, l.any (chgOut s) = false → gains s.length l = spans l
  | [], _ => rfl
  | c :: l, h => by
    have hroom : maxRoom = 68719476736 := rfl
    simp only [List.any_cons, Bool.or_eq_false_iff] at h
    have ih := gains_spans hs h.2
    have h1 := h.1
    simp only [chgOut, Bool.or_eq_false_iff, decide_eq_false_iff_not] at h1
    have hg : gain s.length c = c.to - c.frm := by
      have hw : IntKind.i64.wrap (c.to - c.frm) = c.to - c.frm := wrap_id (by omega) (by omega)
      simp only [gain, gain0, hw]
      rw [if_neg (show ¬ c.to - c.frm < 0 by omega), if_neg (by omega)]
    simp only [gains, spans, List.map_cons, List.sum_cons] at ih ⊢
    rw [hg, ih]
theorem spans_le {s : List UInt8} : ∀ {l : List Chg}, l.any (chgOut s) = false → 0 ≤ spans l ∧ spans l ≤ l.length * s.length
  | [], _ => by simp [spans]
  | c :: l, h => by
    simp only [List.any_cons, Bool.or_eq_false_iff] at h
    have ih := spans_le h.2
    have h1 := h.1
    simp only [chgOut, Bool.or_eq_false_iff, decide_eq_false_iff_not] at h1
    simp only [spans, List.map_cons, List.sum_cons, List.length_cons] at ih ⊢
    rw [show ((l.length + 1 : Nat) : Int) * (s.length : Int) = (l.length : Int) * s.length + s.length by push_cast; rw [Int.add_mul, Int.one_mul]]
    omega
theorem spans_take {l : List Chg} {i : Nat} (h : i < l.length) : spans (l.take (i + 1)) = spans (l.take i) + (l[i].to - l[i].frm) := by
  simp only [spans, List.take_succ_eq_append_getElem h, List.map_append, List.sum_append, List.map_cons, List.map_nil, List.sum_cons, List.sum_nil]; omega
theorem any_take {p : Chg → Bool} {l : List Chg} {i : Nat} (h : i < l.length) : (l.take (i + 1)).any p = ((l.take i).any p || p l[i]) := by
  rw [List.take_succ_eq_append_getElem h, List.any_append]; simp
theorem any_mem {p : Chg → Bool} {l : List Chg} {c : Chg} (hc : c ∈ l) (h : p c = true) : l.any p = true := List.any_eq_true.2 ⟨c, hc, h⟩
theorem any_sub {p : Chg → Bool} {l : List Chg} (h : l.any p = false) (i : Nat) : (l.take i).any p = false := by
  rw [List.any_eq_false] at h ⊢
  exact fun c hc => h c (List.mem_of_mem_take hc)
set_option maxHeartbeats 8000000 in
theorem rcheck_call (σ : Heap) (s : List UInt8) (l : List Chg) (hs : s.length ≤ maxRoom) (hl : l.length ≤ 9223372036854775807) (hc : ∀ c ∈ l, ChgFits c) : ACall Try.prog n_palinoderef17_Check [.str s, eChgs l] σ (.int .i64 (check s l)) σ := by
  refine bare_call (by simp only [AVal.pures, eChgs_pure]; rfl) rfl (fun W F => spec_of_awp mixed c_palinoderef17_Check (Nat.le_of_ble_eq_true rfl) ?_) σ
  unfold f_palinoderef17_Check
  have hroom : maxRoom = 68719476736 := rfl
  simp only [↓evd, evu, evf, implies_true, reduceCtorEq, Nat.reduceEqDiff, ↓reduceIte, Nat.reduceAdd, Nat.reduceLeDiff, Nat.reduceLT, Nat.reduceMul, Int.reduceLT, Int.reduceLE, Int.reduceToNat, evz]
  refine MSpec.of (rvalid_call _ s hs) ?_
  cases hv : valid s with
  | false =>
    simp only [↓evd, evu, evf, implies_true, reduceCtorEq, Nat.reduceEqDiff, ↓reduceIte, Nat.reduceAdd, Nat.reduceLeDiff, Nat.reduceLT, Nat.reduceMul, Int.reduceLT, Int.reduceLE, Int.reduceToNat, evz]
    exact seen (by rw [check, if_pos hv]) rfl rfl
  | true =>
  by_cases h8 : (8 : Int) < (l.length : Int)
  · simp only [↓evd, evu, evf, implies_true, reduceCtorEq, Nat.reduceEqDiff, ↓reduceIte, Nat.reduceAdd, Nat.reduceLeDiff, Nat.reduceLT, Nat.reduceMul, Int.reduceLT, Int.reduceLE, Int.reduceToNat, evz, h8]
    exact seen (by rw [check, if_neg (by rw [hv]; simp), if_pos (by omega)]) rfl rfl
  have h8' : l.length ≤ 8 := by omega
  simp only [↓evd, evu, evf, implies_true, reduceCtorEq, Nat.reduceEqDiff, ↓reduceIte, Nat.reduceAdd, Nat.reduceLeDiff, Nat.reduceLT, Nat.reduceMul, Int.reduceLT, Int.reduceLE, Int.reduceToNat, evz, h8]
  -- the range
  refine awp_loop (fun m fr τ => ∃ i, m + i = l.length ∧ fr.get 0 = .str s ∧ fr.get 1 = eChgs l ∧ fr.get 5 = .int .i64 (i : Nat) ∧ (l.take i).any (chgOut s) = false ∧ τ = ⟨W, F, .nil, 0⟩) ?_ (m := l.length) ?_
  · rintro m fr τ ⟨i, hi, e0, e1, e5, ha, rfl⟩
    by_cases hlt : i < l.length
    · have hlt' : (i : Int) < (l.length : Int) := by omega
      have hw := wrap_succ (i := i) (by omega)
      have hg := map_get eChg l i hlt
      have hat := any_take (p := chgOut s) hlt
      have hm := List.getElem_mem hlt
      generalize l[i] = c at hg hat hm
      simp only [↓evd, evu, evf, implies_true, reduceCtorEq, Nat.reduceEqDiff, ↓reduceIte, Nat.reduceAdd, Nat.reduceLeDiff, Nat.reduceLT, Nat.reduceMul, Int.reduceLT, Int.reduceLE, Int.reduceToNat, evz, e0, e1, e5, hlt']
      with_reducible refine draw_of_grow (fun _ => True) (ms := [false, false, false, false, false, false, false, false, false, false, false, false, false, false, false, false, false, false, false, false, false, false, false, false, false, false, false, false, false]) (by kernel_rfl) ?_
      by_cases c1 : c.frm < 0
      · simp only [↓evd, evu, evf, implies_true, reduceCtorEq, Nat.reduceEqDiff, ↓reduceIte, Nat.reduceAdd, Nat.reduceLeDiff, Nat.reduceLT, Nat.reduceMul, Int.reduceLT, Int.reduceLE, Int.reduceToNat, evz, e0, e1, e5, hlt', hg, c1]
        exact seen (by rw [check_out hv h8' (any_mem hm (by simp [chgOut, c1]))]) rfl rfl
      by_cases c2 : c.to < c.frm
      · simp only [↓evd, evu, evf, implies_true, reduceCtorEq, Nat.reduceEqDiff, ↓reduceIte, Nat.reduceAdd, Nat.reduceLeDiff, Nat.reduceLT, Nat.reduceMul, Int.reduceLT, Int.reduceLE, Int.reduceToNat, evz, e0, e1, e5, hlt', hg, c1, c2]
        exact seen (by rw [check_out hv h8' (any_mem hm (by simp [chgOut, c2]))]) rfl rfl
      by_cases c3 : (s.length : Int) < c.to
      · simp only [↓evd, evu, evf, implies_true, reduceCtorEq, Nat.reduceEqDiff, ↓reduceIte, Nat.reduceAdd, Nat.reduceLeDiff, Nat.reduceLT, Nat.reduceMul, Int.reduceLT, Int.reduceLE, Int.reduceToNat, evz, e0, e1, e5, hlt', hg, c1, c2, c3]
        exact seen (by rw [check_out hv h8' (any_mem hm (by simp [chgOut, c3]))]) rfl rfl
      simp only [↓evd, evu, evf, implies_true, reduceCtorEq, Nat.reduceEqDiff, ↓reduceIte, Nat.reduceAdd, Nat.reduceLeDiff, Nat.reduceLT, Nat.reduceMul, Int.reduceLT, Int.reduceLE, Int.reduceToNat, evz, e0, e1, e5, hlt', hg, c1, c2, c3, hw]
      refine ⟨m - 1, by omega, i + 1, by omega, rfl, ?_⟩
      rw [hat, ha]; simp [chgOut, c1, c2, c3]
    · have hlt' : ¬ (i : Int) < (l.length : Int) := by omega
      rw [List.take_of_length_le (by omega)] at ha
      have ho := ha
      simp only [↓evd, evu, evf, implies_true, reduceCtorEq, Nat.reduceEqDiff, ↓reduceIte, Nat.reduceAdd, Nat.reduceLeDiff, Nat.reduceLT, Nat.reduceMul, Int.reduceLT, Int.reduceLE, Int.reduceToNat, evz, e0, e1, e5, hlt']
      -- the edges
      refine awp_loop (fun m fr τ => ∃ i, m + i = l.length ∧ fr.get 0 = .str s ∧ fr.get 1 = eChgs l ∧ fr.get 6 = .int .i64 (i : Nat) ∧ (l.take i).any (chgIn s) = false ∧ τ = ⟨W, F, .nil, 0⟩) ?_ (m := l.length) ?_
      · clear e0 e1 e5 hlt hlt' hi ha
        rintro m fr τ ⟨i, hi, e0, e1, e6, ha, rfl⟩
        by_cases hlt : i < l.length
        · have hlt' : (i : Int) < (l.length : Int) := by omega
          have hw := wrap_succ (i := i) (by omega)
          have hg := map_get eChg l i hlt
          have hat := any_take (p := chgIn s) hlt
          have hm := List.getElem_mem hlt
          generalize l[i] = c at hg hat hm
          have q1 := risEdge_call ⟨W, F, .nil, 0⟩ s c.frm hs
          have q2 := risEdge_call ⟨W, F, .nil, 0⟩ s c.to hs
          simp only [↓evd, evu, evf, implies_true, reduceCtorEq, Nat.reduceEqDiff, ↓reduceIte, Nat.reduceAdd, Nat.reduceLeDiff, Nat.reduceLT, Nat.reduceMul, Int.reduceLT, Int.reduceLE, Int.reduceToNat, evz, e0, e1, e6, hlt', hg]
          refine MSpec.of q1 ?_
          cases b1 : isEdge s c.frm with
          | false =>
            simp only [↓evd, evu, evf, implies_true, reduceCtorEq, Nat.reduceEqDiff, ↓reduceIte, Nat.reduceAdd, Nat.reduceLeDiff, Nat.reduceLT, Nat.reduceMul, Int.reduceLT, Int.reduceLE, Int.reduceToNat, evz]
            exact seen (by rw [check_in hv h8' ho (any_mem hm (by simp [chgIn, b1]))]) rfl rfl
          | true =>
            simp only [↓evd, evu, evf, implies_true, reduceCtorEq, Nat.reduceEqDiff, ↓reduceIte, Nat.reduceAdd, Nat.reduceLeDiff, Nat.reduceLT, Nat.reduceMul, Int.reduceLT, Int.reduceLE, Int.reduceToNat, evz, e0, e1, e6, hlt', hg]
            refine MSpec.of q2 ?_
            cases b2 : isEdge s c.to with
            | false =>
              simp only [↓evd, evu, evf, implies_true, reduceCtorEq, Nat.reduceEqDiff, ↓reduceIte, Nat.reduceAdd, Nat.reduceLeDiff, Nat.reduceLT, Nat.reduceMul, Int.reduceLT, Int.reduceLE, Int.reduceToNat, evz]
              exact seen (by rw [check_in hv h8' ho (any_mem hm (by simp [chgIn, b2]))]) rfl rfl
            | true =>
              simp only [↓evd, evu, evf, implies_true, reduceCtorEq, Nat.reduceEqDiff, ↓reduceIte, Nat.reduceAdd, Nat.reduceLeDiff, Nat.reduceLT, Nat.reduceMul, Int.reduceLT, Int.reduceLE, Int.reduceToNat, evz, e0, e1, e6, hw]
              refine ⟨m - 1, by omega, i + 1, by omega, rfl, ?_⟩
              rw [hat, ha]; simp [chgIn, b1, b2]
        · have hlt' : ¬ (i : Int) < (l.length : Int) := by omega
          rw [List.take_of_length_le (by omega)] at ha
          have hin := ha
          have q := rorder_call ⟨W, F, .nil, 0⟩ l (by omega)
          simp only [eChgs] at q
          simp only [↓evd, evu, evf, implies_true, reduceCtorEq, Nat.reduceEqDiff, ↓reduceIte, Nat.reduceAdd, Nat.reduceLeDiff, Nat.reduceLT, Nat.reduceMul, Int.reduceLT, Int.reduceLE, Int.reduceToNat, evz, e0, e1, e6, hlt']
          refine MSpec.of q ?_
          cases hdis : disorder l with
          | true =>
            simp only [↓evd, evu, evf, implies_true, reduceCtorEq, Nat.reduceEqDiff, ↓reduceIte, Nat.reduceAdd, Nat.reduceLeDiff, Nat.reduceLT, Nat.reduceMul, Int.reduceLT, Int.reduceLE, Int.reduceToNat, evz]
            exact seen (by rw [check_dis hv h8' ho hin hdis]) rfl rfl
          | false =>
          simp only [↓evd, evu, evf, implies_true, reduceCtorEq, Nat.reduceEqDiff, ↓reduceIte, Nat.reduceAdd, Nat.reduceLeDiff, Nat.reduceLT, Nat.reduceMul, Int.reduceLT, Int.reduceLE, Int.reduceToNat, evz, e0, e1]
          -- the texts
          refine awp_loop (fun m fr τ => ∃ i, m + i = l.length ∧ fr.get 1 = eChgs l ∧ fr.get 7 = .int .i64 (s.length : Nat) ∧ fr.get 8 = .int .i64 (i : Nat) ∧ (l.take i).any (fun c => !valid c.text) = false ∧ τ = ⟨W, F, .nil, 0⟩) ?_ (m := l.length) ?_
          · clear e0 e1 e6 hlt hlt' hi ha
            rintro m fr τ ⟨i, hi, e1, e7, e8, ha, rfl⟩
            by_cases hlt : i < l.length
            · have hlt' : (i : Int) < (l.length : Int) := by omega
              have hw := wrap_succ (i := i) (by omega)
              have hg := map_get eChg l i hlt
              have hat := any_take (p := fun c => !valid c.text) hlt
              have hm := List.getElem_mem hlt
              generalize l[i] = c at hg hat hm
              have q1 := rvalid_call ⟨W, F, .nil, 0⟩ c.text (hc c hm)
              simp only [↓evd, evu, evf, implies_true, reduceCtorEq, Nat.reduceEqDiff, ↓reduceIte, Nat.reduceAdd, Nat.reduceLeDiff, Nat.reduceLT, Nat.reduceMul, Int.reduceLT, Int.reduceLE, Int.reduceToNat, evz, e1, e7, e8, hlt', hg]
              refine MSpec.of q1 ?_
              cases b1 : valid c.text with
              | false =>
                simp only [↓evd, evu, evf, implies_true, reduceCtorEq, Nat.reduceEqDiff, ↓reduceIte, Nat.reduceAdd, Nat.reduceLeDiff, Nat.reduceLT, Nat.reduceMul, Int.reduceLT, Int.reduceLE, Int.reduceToNat, evz]
                exact seen (by rw [check_form hv h8' ho hin hdis (any_mem hm (by simp [b1]))]) rfl rfl
              | true =>
                simp only [↓evd, evu, evf, implies_true, reduceCtorEq, Nat.reduceEqDiff, ↓reduceIte, Nat.reduceAdd, Nat.reduceLeDiff, Nat.reduceLT, Nat.reduceMul, Int.reduceLT, Int.reduceLE, Int.reduceToNat, evz, e1, e7, e8, hw]
                refine ⟨m - 1, by omega, i + 1, by omega, rfl, ?_⟩
                rw [hat, ha]; simp [b1]
            · have hlt' : ¬ (i : Int) < (l.length : Int) := by omega
              rw [List.take_of_length_le (by omega)] at ha
              have hfo := ha
              have hck := check_long hv h8' ho hin hdis hfo
              rw [longI, gains_spans hs ho] at hck
              have hsp := fun i => spans_le (any_sub ho i)
              have hbig : (l.length : Int) * (s.length : Int) ≤ 8 * 68719476736 := Int.mul_le_mul (by omega) (by omega) (by omega) (by omega)
              have hsb : ∀ i, 0 ≤ spans (l.take i) ∧ spans (l.take i) ≤ 8 * 68719476736 := fun i => by
                have h1 := hsp i
                have h2 : ((l.take i).length : Int) * (s.length : Int) ≤ (8 : Int) * 68719476736 := Int.mul_le_mul (by rw [List.length_take]; omega) (by omega) (by omega) (by omega)
                omega
              simp only [↓evd, evu, evf, implies_true, reduceCtorEq, Nat.reduceEqDiff, ↓reduceIte, Nat.reduceAdd, Nat.reduceLeDiff, Nat.reduceLT, Nat.reduceMul, Int.reduceLT, Int.reduceLE, Int.reduceToNat, evz, e1, e7, e8, hlt']
              -- what is taken away
              refine awp_loop (fun m fr τ => ∃ i, m + i = l.length ∧ fr.get 1 = eChgs l ∧ fr.get 7 = .int .i64 ((s.length : Int) - spans (l.take i)) ∧ fr.get 9 = .int .i64 (i : Nat) ∧ τ = ⟨W, F, .nil, 0⟩) ?_ (m := l.length) ?_
              · clear e1 e7 e8 hlt hlt' hi ha
                rintro m fr τ ⟨i, hi, e1, e7, e9, rfl⟩
                by_cases hlt : i < l.length
                · have hlt' : (i : Int) < (l.length : Int) := by omega
                  have hw := wrap_succ (i := i) (by omega)
                  have hg := map_get eChg l i hlt
                  have hst := spans_take hlt
                  have hm := List.getElem_mem hlt
                  have hco : chgOut s l[i] = false := by rw [List.any_eq_false] at ho; simpa using ho _ hm
                  generalize l[i] = c at hg hst hm hco
                  simp only [chgOut, Bool.or_eq_false_iff, decide_eq_false_iff_not] at hco
                  have h1 := hsb i
                  have h2 := hsb (i + 1)
                  have hw1 : IntKind.i64.wrap (c.to - c.frm) = c.to - c.frm := wrap_id (by omega) (by omega)
                  have hw2 : IntKind.i64.wrap ((s.length : Int) - spans (l.take i) - (c.to - c.frm)) = (s.length : Int) - spans (l.take (i + 1)) := by rw [wrap_id (by omega) (by omega)]; omega
                  simp only [↓evd, evu, evf, implies_true, reduceCtorEq, Nat.reduceEqDiff, ↓reduceIte, Nat.reduceAdd, Nat.reduceLeDiff, Nat.reduceLT, Nat.reduceMul, Int.reduceLT, Int.reduceLE, Int.reduceToNat, evz, e1, e7, e9, hlt']
                  with_reducible refine draw_of_grow (fun _ => True) (ms := [false, false, false, false, false, false, false, false, false, false, false, false, false, false]) (by kernel_rfl) ?_
                  simp only [↓evd, evu, evf, implies_true, reduceCtorEq, Nat.reduceEqDiff, ↓reduceIte, Nat.reduceAdd, Nat.reduceLeDiff, Nat.reduceLT, Nat.reduceMul, Int.reduceLT, Int.reduceLE, Int.reduceToNat, evz, e1, e7, e9, hlt', hg, hw1, hw2, hw]
                  exact ⟨m - 1, by omega, i + 1, by omega, rfl, rfl⟩
                · have hlt' : ¬ (i : Int) < (l.length : Int) := by omega
                  rw [List.take_of_length_le (by omega)] at e7
                  have hb := hsb l.length
                  rw [List.take_of_length_le (Nat.le_refl _)] at hb
                  by_cases hbig2 : (20000 : Int) < (s.length : Int) - spans l
                  · simp only [↓evd, evu, evf, implies_true, reduceCtorEq, Nat.reduceEqDiff, ↓reduceIte, Nat.reduceAdd, Nat.reduceLeDiff, Nat.reduceLT, Nat.reduceMul, Int.reduceLT, Int.reduceLE, Int.reduceToNat, evz, e1, e7, e9, hlt', hbig2]
                    refine seen ?_ rfl rfl
                    rw [hck]
                    cases l with
                    | nil => simp only [longR]; rw [if_pos (by omega)]
                    | cons c l => simp only [longR]; rw [if_pos (by omega)]
                  · simp only [↓evd, evu, evf, implies_true, reduceCtorEq, Nat.reduceEqDiff, ↓reduceIte, Nat.reduceAdd, Nat.reduceLeDiff, Nat.reduceLT, Nat.reduceMul, Int.reduceLT, Int.reduceLE, Int.reduceToNat, evz, e1, e7, e9, hlt', hbig2]
                    -- what is put in
                    refine awp_loop (fun m fr τ => ∃ (i : Nat) (r : Int), m + i = l.length ∧ fr.get 1 = eChgs l ∧ fr.get 7 = .int .i64 (20000 - r) ∧ fr.get 10 = .int .i64 (i : Nat) ∧ 0 ≤ r ∧ r ≤ 8 * 68719476736 + 20000 ∧ longR (l.drop i) r = check s l ∧ τ = ⟨W, F, .nil, 0⟩) ?_ (m := l.length) ?_
                    · clear e1 e7 e9 hlt hlt' hi
                      rintro m fr τ ⟨i, r, hi, e1, e7, e10, hr0, hr1, hl, rfl⟩
                      by_cases hlt : i < l.length
                      · have hlt' : (i : Int) < (l.length : Int) := by omega
                        have hw := wrap_succ (i := i) (by omega)
                        have hg := map_get eChg l i hlt
                        rw [List.drop_eq_getElem_cons hlt, longR] at hl
                        generalize l[i] = c at hg hl
                        have hw1 : IntKind.i64.wrap (20000 - (20000 - r)) = r := by rw [wrap_id (by omega) (by omega)]; omega
                        by_cases hlo : r < (c.text.length : Int)
                        · rw [if_pos hlo] at hl
                          simp only [↓evd, evu, evf, implies_true, reduceCtorEq, Nat.reduceEqDiff, ↓reduceIte, Nat.reduceAdd, Nat.reduceLeDiff, Nat.reduceLT, Nat.reduceMul, Int.reduceLT, Int.reduceLE, Int.reduceToNat, evz, e1, e7, e10, hlt', hg, hw1, hlo]
                          exact seen (by rw [← hl]) rfl rfl
                        · rw [if_neg hlo] at hl
                          have hw2 : IntKind.i64.wrap (20000 - r + (c.text.length : Int)) = 20000 - (r - (c.text.length : Int)) := by rw [wrap_id (by omega) (by omega)]; omega
                          simp only [↓evd, evu, evf, implies_true, reduceCtorEq, Nat.reduceEqDiff, ↓reduceIte, Nat.reduceAdd, Nat.reduceLeDiff, Nat.reduceLT, Nat.reduceMul, Int.reduceLT, Int.reduceLE, Int.reduceToNat, evz, e1, e7, e10, hlt', hg, hw1, hlo, hw2, hw]
                          exact ⟨m - 1, by omega, i + 1, r - (c.text.length : Int), by omega, rfl, rfl, by omega, by omega, hl⟩
                      · have hlt' : ¬ (i : Int) < (l.length : Int) := by omega
                        rw [List.drop_eq_nil_of_le (by omega), longR, if_neg (by omega)] at hl
                        simp only [↓evd, evu, evf, implies_true, reduceCtorEq, Nat.reduceEqDiff, ↓reduceIte, Nat.reduceAdd, Nat.reduceLeDiff, Nat.reduceLT, Nat.reduceMul, Int.reduceLT, Int.reduceLE, Int.reduceToNat, evz, e1, e7, e10, hlt']
                        exact seen (by rw [← hl]) rfl rfl
                    · refine ⟨0, 20000 - (s.length : Int) + spans l, by omega, ?_⟩
                      simp only [↓evd, evu, evf, implies_true, reduceCtorEq, Nat.reduceEqDiff, ↓reduceIte, Nat.reduceAdd, Nat.reduceLeDiff, Nat.reduceLT, Nat.reduceMul, Int.reduceLT, Int.reduceLE, Int.reduceToNat, evz, e1, e7]
                      refine ⟨by congr 1; omega, by omega, by omega, ?_⟩
                      rw [hck]
              · refine ⟨0, by omega, ?_⟩
                simp only [↓evd, evu, evf, implies_true, reduceCtorEq, Nat.reduceEqDiff, ↓reduceIte, Nat.reduceAdd, Nat.reduceLeDiff, Nat.reduceLT, Nat.reduceMul, Int.reduceLT, Int.reduceLE, Int.reduceToNat, evz, e1, e7]
                simp [spans]
          · refine ⟨0, by omega, ?_⟩
            simp only [↓evd, evu, evf, implies_true, reduceCtorEq, Nat.reduceEqDiff, ↓reduceIte, Nat.reduceAdd, Nat.reduceLeDiff, Nat.reduceLT, Nat.reduceMul, Int.reduceLT, Int.reduceLE, Int.reduceToNat, evz, e1]
            simp
      · refine ⟨0, by omega, ?_⟩
        simp only [↓evd, evu, evf, implies_true, reduceCtorEq, Nat.reduceEqDiff, ↓reduceIte, Nat.reduceAdd, Nat.reduceLeDiff, Nat.reduceLT, Nat.reduceMul, Int.reduceLT, Int.reduceLE, Int.reduceToNat, evz, e0, e1]
        simp
  · refine ⟨0, by omega, ?_⟩
    simp only [↓evd, evu, evf, implies_true, reduceCtorEq, Nat.reduceEqDiff, ↓reduceIte, Nat.reduceAdd, Nat.reduceLeDiff, Nat.reduceLT, Nat.reduceMul, Int.reduceLT, Int.reduceLE, Int.reduceToNat, evz]
    simp
end Go.Proofs.Ytmjngohmcljfjaa.M
set_option linter.unusedSimpArgs false
set_option linter.unusedVariables false
set_option maxRecDepth 100000
namespace Go.Proofs.Ytmjngohmcljfjaa.M
open Go Go.Mini
/-! ### Engines -/
structure Eng where
  l : List Atom
  R : Revs
def Eng.new : Eng := ⟨[], Revs.new⟩
structure Eng.Ok (E : Eng) : Prop where
  len : E.l.length ≤ 4000
  txt : ∀ a ∈ E.l, IsCP a.text
  cuts : ∀ a ∈ E.l, a.cuts.length ≤ E.R.head
theorem Eng.new_ok : Eng.new.Ok := ⟨by simp [Eng.new], by simp [Eng.new], by simp [Eng.new]⟩
/-- the text at a revision -/
def Eng.text (E : Eng) (rev : Int) : List UInt8 := atomsText rev (E.R.undone rev) E.l
/-- what an edit makes of an engine; the number; the error -/
def editE (E : Eng) (base group rank : Int) (cs : List Chg) : Eng × Int × Int :=
  if E.R.live base = false then (E, 0, 190) else
  if check (E.text base) cs ≠ 0 then (E, 0, check (E.text base) cs) else
  if (addR E.R group).2.2 ≠ 0 then (E, 0, (addR E.R group).2.2) else
  if rank < 0 ∨ 1000000 < rank then (E, 0, 10) else
  if 4000 < (upon E.l base (E.R.undone base) cs (addR E.R group).2.1 group rank).length then (E, 0, 70) else
  if 20000 < (Eng.text ⟨upon E.l base (E.R.undone base) cs (addR E.R group).2.1 group rank, (addR E.R group).1⟩ (addR E.R group).1.head).length then (E, 0, 13) else
  (⟨upon E.l base (E.R.undone base) cs (addR E.R group).2.1 group rank, (addR E.R group).1⟩, (addR E.R group).2.1, 0)
def toggleE (E : Eng) (g : Int) : Eng × Int × Int :=
  if (toggleR E.R g).2.2 ≠ 0 then (E, 0, (toggleR E.R g).2.2) else
  if 20000 < (Eng.text ⟨E.l, (toggleR E.R g).1⟩ (toggleR E.R g).1.head).length then (E, 0, 13) else
  (⟨E.l, (toggleR E.R g).1⟩, (toggleR E.R g).2.1, 0)
theorem fits_of {l : List Atom} {n : Nat} (h1 : l.length ≤ 4000) (h2 : ∀ a ∈ l, IsCP a.text) (h3 : ∀ a ∈ l, a.cuts.length ≤ n) (hn : n ≤ 1000000) : Fits l := by
  refine ⟨by omega, fun a ha => by have := h3 a ha; omega, ?_⟩
  have : (l.map fun a => a.text.length).sum ≤ l.length * 4 := by
    clear h1 h3
    induction l with
    | nil => simp
    | cons a l ih =>
      have h4 := (cp_len (h2 a (by simp))).2
      have := ih fun b hb => h2 b (List.mem_cons_of_mem _ hb)
      simp only [List.map_cons, List.sum_cons, List.length_cons]; omega
  unfold maxRoom; omega
theorem atomsText_le {l : List Atom} (rev : Int) (u : List Int) (h2 : ∀ a ∈ l, IsCP a.text) : (atomsText rev u l).length ≤ l.length * 4 := by
  induction l with
  | nil => simp [atomsText]
  | cons a l ih =>
    have h4 := (cp_len (h2 a (by simp))).2
    have := ih fun b hb => h2 b (List.mem_cons_of_mem _ hb)
    simp only [atomsText, List.length_append, List.length_cons]
    split <;> (try simp only [List.length_nil]) <;> omega
theorem mem_marked {ct : List Int} {c : Cut} {x : Atom} : ∀ {l : List Atom} {i : Nat}, x ∈ marked ct c l i → ∃ a ∈ l, x = a ∨ x = { a with cuts := a.cuts ++ [c] }
  | [], i, h => by simp [marked] at h
  | a :: l, i, h => by
    simp only [marked, List.mem_cons] at h
    rcases h with h | h
    · refine ⟨a, by simp, ?_⟩
      split at h
      · exact .inr h
      · exact .inl h
    · obtain ⟨b, hb, h⟩ := mem_marked h
      exact ⟨b, List.mem_cons_of_mem _ hb, h⟩
theorem mem_merged {new : List UInt8 → List Atom} {mk : List Atom} {x : Atom} : ∀ {r : List (Nat × List UInt8)} {at' : Nat}, x ∈ merged new mk r at' → x ∈ mk ∨ ∃ kt ∈ r, x ∈ new kt.2
  | [], at', h => .inl (List.mem_of_mem_drop (by simpa [merged] using h))
  | (k, t) :: r, at', h => by
    rw [merged_cons, List.mem_append, List.mem_append] at h
    rcases h with (h | h) | h
    · exact .inl (List.mem_of_mem_take (List.mem_of_mem_drop h))
    · exact .inr ⟨(k, t), by simp, h⟩
    · rcases mem_merged h with h | ⟨kt, hk, h⟩
      · exact .inl h
      · exact .inr ⟨kt, List.mem_cons_of_mem _ hk, h⟩
/-- the atoms behind an edit: those that were, some with one more cut; new ones -/
theorem mem_upon {l : List Atom} {rev : Int} {u : List Int} {cs : List Chg} {rev' group rank : Int} {x : Atom} (h : x ∈ upon l rev u cs rev' group rank) :
    (∃ a ∈ l, x = a ∨ x = { a with cuts := a.cuts ++ [⟨rev', group⟩] }) ∨ (∃ b, IsCP b ∧ x = ⟨b, rev', group, rank, []⟩) := by
  unfold upon at h
  split at h
  · rename_i h0
    rcases mem_merged h with h | ⟨kt, hk, h⟩
    · exact .inl (mem_marked h)
    · right
      simp only [newAtoms, List.mem_map] at h
      obtain ⟨b, hb, rfl⟩ := h
      refine ⟨b, ?_, rfl⟩
      cases hp : pts kt.2 with
      | none => rw [ptsOf, hp] at hb; cases hb
      | some ps => rw [ptsOf, hp] at hb; exact (pts_cp _ _ ps (Nat.le_refl _) hp).2 b hb
  · exact .inl ⟨x, h, .inl rfl⟩
theorem addR_ok {R : Revs} {g : Int} (h : (addR R g).2.2 = 0) (ho : R.Ok) : g ∉ R.gone ∧ 0 ≤ g ∧ g < 60 ∧ R.head < 200 ∧ addR R g = ({ R.push R.top with grp := insS g R.grp }, (R.head : Int) + 1, 0) ∧ (addR R g).1.head = R.head + 1 := by
  have hl := List.length_pos_iff.2 ho.one
  by_cases h1 : g ∈ R.gone ∨ g < 0 ∨ 60 ≤ g
  · rw [add_bad h1] at h; cases h
  · by_cases h2 : 200 ≤ R.head
    · rw [add_many (fun hg => h1 (.inl hg)) (by omega) (by omega) h2] at h; cases h
    · have e := add_good (R := R) (g := g) (fun hg => h1 (.inl hg)) (by omega) (by omega) (by omega)
      refine ⟨fun hg => h1 (.inl hg), by omega, by omega, by omega, e, ?_⟩
      rw [e]; simp only [Revs.head, Revs.push, List.length_append, List.length_cons, List.length_nil]; omega
theorem toggleR_ok {R : Revs} {g : Int} (h : (toggleR R g).2.2 = 0) (ho : R.Ok) : g ∈ R.grp ∧ R.head < 200 ∧ toggleR R g = (R.push (flip g R.top), (R.head : Int) + 1, 0) ∧ (toggleR R g).1.head = R.head + 1 := by
  have hl := List.length_pos_iff.2 ho.one
  by_cases h1 : g ∈ R.grp
  · by_cases h2 : 200 ≤ R.head
    · simp only [toggleR, if_neg (show ¬ g ∉ R.grp from fun h => h h1), if_pos h2] at h; cases h
    · have e := toggle_of h1 (show R.head < 200 by omega)
      refine ⟨h1, by omega, e, ?_⟩
      rw [e]; simp only [Revs.head, Revs.push, List.length_append, List.length_cons, List.length_nil]; omega
  · rw [toggle_bad h1] at h; cases h
theorem head_le {R : Revs} (h : R.Ok) : R.head ≤ 200 := by have := h.few; simp only [Revs.head]; omega
theorem Eng.Ok.fits {E : Eng} (h : E.Ok) (hR : E.R.Ok) : Fits E.l := fits_of h.len h.txt h.cuts (by have := head_le hR; omega)
theorem upon_facts {E : Eng} (h : E.Ok) {base group rank now : Int} {cs : List Chg} {u : List Int} : (∀ a ∈ upon E.l base u cs now group rank, IsCP a.text) ∧ ∀ a ∈ upon E.l base u cs now group rank, a.cuts.length ≤ E.R.head + 1 := by
  constructor <;> intro a ha <;> rcases mem_upon ha with ⟨b, hb, rfl | rfl⟩ | ⟨b, hb, rfl⟩
  · exact h.txt a hb
  · exact h.txt b hb
  · exact hb
  · have := h.cuts a hb; omega
  · have := h.cuts b hb; simp only [List.length_append, List.length_cons, List.length_nil]; omega
  · simp
theorem editE_ok {E : Eng} (h : E.Ok) (hR : E.R.Ok) (base group rank : Int) (cs : List Chg) : (editE E base group rank cs).1.Ok := by
  unfold editE
  split
  · exact h
  split
  · exact h
  split
  · exact h
  rename_i h3
  split
  · exact h
  split
  · exact h
  rename_i h5
  split
  · exact h
  have h3' : (addR E.R group).2.2 = 0 := by simpa using h3
  obtain ⟨_, _, _, _, e1, e2⟩ := addR_ok h3' hR
  obtain ⟨f1, f2⟩ := upon_facts h (base := base) (group := group) (rank := rank) (now := (addR E.R group).2.1) (cs := cs) (u := E.R.undone base)
  exact ⟨by simp only; omega, f1, fun a ha => by simp only [e2]; exact f2 a ha⟩
theorem toggleE_ok {E : Eng} (h : E.Ok) (hR : E.R.Ok) (g : Int) : (toggleE E g).1.Ok := by
  unfold toggleE
  split
  · exact h
  split
  · exact h
  rename_i h3 _
  have h3' : (toggleR E.R g).2.2 = 0 := by simpa using h3
  obtain ⟨_, _, e1, e2⟩ := toggleR_ok h3' hR
  exact ⟨h.len, h.txt, fun a ha => by have := h.cuts a ha; simp only [e2]; omega⟩
end Go.Proofs.Ytmjngohmcljfjaa.M
set_option linter.unusedSimpArgs false
set_option linter.unusedVariables false
set_option maxRecDepth 100000
namespace Go.Proofs.Ytmjngohmcljfjaa.M
open Go Go.Mini
attribute [local congr] go1_congr goM_congr goG_congr goV_congr drawwp_congr Xwp_congr
/-- atoms, as data or nil -/
def AtomLst (x : AVal) (l : List Atom) : Prop := x = eAtoms l ∨ (x = .nils ∧ l = [])
theorem AtomLst.sees {x : AVal} {l : List Atom} (h : AtomLst x l) (σ : Heap) : Sees σ x σ (eAtoms l) := by
  rcases h with rfl | ⟨rfl, rfl⟩
  · exact Sees.refl _ _
  · exact Sees.nils σ 5
theorem AtomLst.cells {x : AVal} {l : List Atom} (h : AtomLst x l) : x.cells = [x] ∧ x.isCell = true ∧ x.isRaw = false := by
  rcases h with rfl | ⟨rfl, rfl⟩ <;> exact ⟨rfl, rfl, rfl⟩
theorem SeesL.same (σ : Heap) : ∀ l : List AVal, SeesL σ l σ l
  | [] => .nil _
  | a :: l => .cons (Sees.refl _ _) (SeesL.same σ l)
/-- a function of atoms called with nil -/
theorem AtomLst.call {x : AVal} {l : List Atom} (h : AtomLst x l) {f : FuncId} {args : List AVal} {σ τ : Heap} {v : AVal} (hc : ACall Try.prog f (eAtoms l :: args) σ v τ) : ACall Try.prog f (x :: args) σ v τ := by
  rcases h with rfl | ⟨rfl, rfl⟩
  · exact hc
  · intro φ w vs hvs hr o a next Q hn
    obtain ⟨φ1, h1, h2, h3⟩ := SeesL.cons (Sees.nils σ 5) (SeesL.same σ args) φ w vs hvs hr
    exact hc φ1 w vs h2 h3 o a next Q fun φ' v' w' g1 g2 g3 => hn φ' v' w' (Phi.le_trans h1 g1) g2 g3
/-- an engine in block k -/
structure EngAt (σ : Heap) (k : Nat) (E : Eng) (x : AVal) (kr : Nat) (fpr : List Nat) : Prop where
  blk : σ.get k = some (.cells [x, .ptr (.new kr) 0] none)
  lst : AtomLst x E.l
  revs : IsRevs σ kr E.R fpr
  out : k ∉ fpr
  low : k < σ.next
  ok : E.Ok
def IsEng (σ : Heap) (k : Nat) (E : Eng) (fp : List Nat) : Prop := ∃ x kr fpr, EngAt σ k E x kr fpr ∧ fp = k :: fpr
theorem EngAt.keep {σ τ : Heap} {k : Nat} {E : Eng} {x : AVal} {kr : Nat} {fpr fp' : List Nat} (h : EngAt σ k E x kr fpr) (hk : Keep fp' σ τ) (hd : ∀ y ∈ k :: fpr, y ∉ fp') : EngAt τ k E x kr fpr where
  blk := by rw [hk.2.2.2 k h.low (hd k (by simp))]; exact h.blk
  lst := h.lst
  revs := h.revs.keep hk fun y hy => hd y (List.mem_cons_of_mem _ hy)
  out := h.out
  low := Nat.lt_of_lt_of_le h.low hk.2.2.1
  ok := h.ok
theorem IsEng.keep {σ τ : Heap} {k : Nat} {E : Eng} {fp fp' : List Nat} (h : IsEng σ k E fp) (hk : Keep fp' σ τ) (hd : ∀ y ∈ fp, y ∉ fp') : IsEng τ k E fp := by
  obtain ⟨x, kr, fpr, h, rfl⟩ := h
  exact ⟨x, kr, fpr, h.keep hk hd, rfl⟩
theorem IsEng.low {σ : Heap} {k : Nat} {E : Eng} {fp : List Nat} (h : IsEng σ k E fp) : ∀ x ∈ fp, x < σ.next := by
  obtain ⟨x, kr, fpr, h, rfl⟩ := h
  intro y hy
  rcases List.mem_cons.1 hy with rfl | hy
  · exact h.low
  · exact h.revs.low y hy
theorem IsEng.ok {σ : Heap} {k : Nat} {E : Eng} {fp : List Nat} (h : IsEng σ k E fp) : E.Ok ∧ E.R.Ok := by
  obtain ⟨x, kr, fpr, h, rfl⟩ := h
  exact ⟨h.ok, h.revs.ok⟩
theorem undone_rise {R : Revs} (h : R.Ok) (n : Int) : Rise (R.undone n) := by
  unfold Revs.undone
  split
  · unfold Revs.at
    cases he : R.und[(n - R.floor).toNat]? with
    | none => exact Rise.nil
    | some s => exact h.rise s (List.mem_of_getElem? he)
  · exact Rise.nil
theorem undone_few {R : Revs} (h : R.Ok) (n : Int) : (R.undone n).length ≤ 1000000 := by have := rise_len (undone_rise h n); omega
section
variable {σ : Heap} {k : Nat} {E : Eng} {fp : List Nat} {x : AVal} {kr : Nat} {fpr : List Nat}
theorem EngAt.head (h : EngAt σ k E x kr fpr) : ACall Try.prog n_engine_Engine_Head [.ptr (.new k) 0] σ (.int .i64 (E.R.head : Nat)) σ := by
  refine exact_call (spec_of_awp mixed c_engine_Engine_Head (Nat.le_of_ble_eq_true rfl) ?_)
  unfold f_engine_Engine_Head
  have hk := h.blk
  simp only [↓evd, evu, evf, implies_true, reduceCtorEq, Nat.reduceEqDiff, ↓reduceIte, Nat.reduceAdd, Nat.reduceLeDiff, Nat.reduceLT, Nat.reduceMul, Int.reduceLT, Int.reduceLE, Int.reduceToNat, evz, hk]
  refine MSpec.of (head_at h.revs) ?_
  simp only [↓evd, evu, evf, implies_true, reduceCtorEq, Nat.reduceEqDiff, ↓reduceIte, Nat.reduceAdd, Nat.reduceLeDiff, Nat.reduceLT, Nat.reduceMul, Int.reduceLT, Int.reduceLE, Int.reduceToNat, evz]
theorem EngAt.live (h : EngAt σ k E x kr fpr) (n : Int) : ACall Try.prog n_engine_Engine_Live [.ptr (.new k) 0, .int .i64 n] σ (.bool (E.R.live n)) σ := by
  refine exact_call (spec_of_awp mixed c_engine_Engine_Live (Nat.le_of_ble_eq_true rfl) ?_)
  unfold f_engine_Engine_Live
  have hk := h.blk
  simp only [↓evd, evu, evf, implies_true, reduceCtorEq, Nat.reduceEqDiff, ↓reduceIte, Nat.reduceAdd, Nat.reduceLeDiff, Nat.reduceLT, Nat.reduceMul, Int.reduceLT, Int.reduceLE, Int.reduceToNat, evz, hk]
  refine MSpec.of (live_at h.revs n) ?_
  simp only [↓evd, evu, evf, implies_true, reduceCtorEq, Nat.reduceEqDiff, ↓reduceIte, Nat.reduceAdd, Nat.reduceLeDiff, Nat.reduceLT, Nat.reduceMul, Int.reduceLT, Int.reduceLE, Int.reduceToNat, evz]
theorem EngAt.undoneAt (h : EngAt σ k E x kr fpr) (n : Int) : ACall Try.prog n_engine_Engine_UndoneAt [.ptr (.new k) 0, .int .i64 n] σ (ints (E.R.undone n)) σ := by
  refine exact_call (spec_of_awp mixed c_engine_Engine_UndoneAt (Nat.le_of_ble_eq_true rfl) ?_)
  unfold f_engine_Engine_UndoneAt
  have hk := h.blk
  simp only [↓evd, evu, evf, implies_true, reduceCtorEq, Nat.reduceEqDiff, ↓reduceIte, Nat.reduceAdd, Nat.reduceLeDiff, Nat.reduceLT, Nat.reduceMul, Int.reduceLT, Int.reduceLE, Int.reduceToNat, evz, hk]
  refine MSpec.of (undone_at h.revs n) ?_
  simp only [↓evd, evu, evf, implies_true, reduceCtorEq, Nat.reduceEqDiff, ↓reduceIte, Nat.reduceAdd, Nat.reduceLeDiff, Nat.reduceLT, Nat.reduceMul, Int.reduceLT, Int.reduceLE, Int.reduceToNat, evz]
theorem EngAt.groups (h : EngAt σ k E x kr fpr) : ACall Try.prog n_engine_Engine_Groups [.ptr (.new k) 0] σ (ints E.R.grp) σ := by
  refine exact_call (spec_of_awp mixed c_engine_Engine_Groups (Nat.le_of_ble_eq_true rfl) ?_)
  unfold f_engine_Engine_Groups
  have hk := h.blk
  simp only [↓evd, evu, evf, implies_true, reduceCtorEq, Nat.reduceEqDiff, ↓reduceIte, Nat.reduceAdd, Nat.reduceLeDiff, Nat.reduceLT, Nat.reduceMul, Int.reduceLT, Int.reduceLE, Int.reduceToNat, evz, hk]
  refine MSpec.of (groups_at h.revs) ?_
  simp only [↓evd, evu, evf, implies_true, reduceCtorEq, Nat.reduceEqDiff, ↓reduceIte, Nat.reduceAdd, Nat.reduceLeDiff, Nat.reduceLT, Nat.reduceMul, Int.reduceLT, Int.reduceLE, Int.reduceToNat, evz]
theorem EngAt.atoms (h : EngAt σ k E x kr fpr) : ACall Try.prog n_engine_Engine_Atoms [.ptr (.new k) 0] σ (eAtoms E.l) σ := by
  refine exact_call (spec_of_awp mixed c_engine_Engine_Atoms (Nat.le_of_ble_eq_true rfl) ?_)
  unfold f_engine_Engine_Atoms
  have hk := h.blk
  have hf := h.ok.fits h.revs.ok
  have hc := h.lst.call (copy_call σ E.l hf.1 hf.2.1)
  have hr := h.lst.cells.2.2
  simp only [eAtoms] at hc
  simp only [↓evd, evu, evf, implies_true, reduceCtorEq, Nat.reduceEqDiff, ↓reduceIte, Nat.reduceAdd, Nat.reduceLeDiff, Nat.reduceLT, Nat.reduceMul, Int.reduceLT, Int.reduceLE, Int.reduceToNat, evz, hk, hr]
  refine MSpec.of hc ?_
  simp only [↓evd, evu, evf, implies_true, reduceCtorEq, Nat.reduceEqDiff, ↓reduceIte, Nat.reduceAdd, Nat.reduceLeDiff, Nat.reduceLT, Nat.reduceMul, Int.reduceLT, Int.reduceLE, Int.reduceToNat, evz]
/-- the text at a revision, the error -/
def textV (E : Eng) (n : Int) : AVal := if E.R.live n then .tup [.str (E.text n), .int .i64 0] else .tup [.str [], .int .i64 190]
theorem EngAt.text (h : EngAt σ k E x kr fpr) (n : Int) : ACall Try.prog n_engine_Engine_Text [.ptr (.new k) 0, .int .i64 n] σ (textV E n) σ := by
  refine exact_call (spec_of_awp mixed c_engine_Engine_Text (Nat.le_of_ble_eq_true rfl) ?_)
  unfold f_engine_Engine_Text
  have hk := h.blk
  have hf := h.ok.fits h.revs.ok
  have hc := h.lst.call (text_call σ E.l n (E.R.undone n) (undone_few h.revs.ok n) hf)
  have hr := h.lst.cells.2.2
  have hu := h.undoneAt n
  simp only [ints] at hc hu
  simp only [↓evd, evu, evf, implies_true, reduceCtorEq, Nat.reduceEqDiff, ↓reduceIte, Nat.reduceAdd, Nat.reduceLeDiff, Nat.reduceLT, Nat.reduceMul, Int.reduceLT, Int.reduceLE, Int.reduceToNat, evz]
  refine MSpec.of (h.live n) ?_
  cases hl : E.R.live n with
  | false =>
    simp only [↓evd, evu, evf, implies_true, reduceCtorEq, Nat.reduceEqDiff, ↓reduceIte, Nat.reduceAdd, Nat.reduceLeDiff, Nat.reduceLT, Nat.reduceMul, Int.reduceLT, Int.reduceLE, Int.reduceToNat, evz, textV, hl]
  | true =>
    simp only [↓evd, evu, evf, implies_true, reduceCtorEq, Nat.reduceEqDiff, ↓reduceIte, Nat.reduceAdd, Nat.reduceLeDiff, Nat.reduceLT, Nat.reduceMul, Int.reduceLT, Int.reduceLE, Int.reduceToNat, evz]
    with_reducible refine draw_of_grow (fun _ => True) (ms := [false, false, false, false, false, false, false, false, false, false, false]) (by kernel_rfl) ?_
    simp only [↓evd, evu, evf, implies_true, reduceCtorEq, Nat.reduceEqDiff, ↓reduceIte, Nat.reduceAdd, Nat.reduceLeDiff, Nat.reduceLT, Nat.reduceMul, Int.reduceLT, Int.reduceLE, Int.reduceToNat, evz, hk, hr]
    refine MSpec.of hu ⟨.inr Keeps.rfl, ?_⟩
    simp only [↓evd, evu, evf, implies_true, reduceCtorEq, Nat.reduceEqDiff, ↓reduceIte, Nat.reduceAdd, Nat.reduceLeDiff, Nat.reduceLT, Nat.reduceMul, Int.reduceLT, Int.reduceLE, Int.reduceToNat, evz]
    refine MSpec.of hc ⟨.inr Keeps.rfl, ?_⟩
    simp only [↓evd, evu, evf, implies_true, reduceCtorEq, Nat.reduceEqDiff, ↓reduceIte, Nat.reduceAdd, Nat.reduceLeDiff, Nat.reduceLT, Nat.reduceMul, Int.reduceLT, Int.reduceLE, Int.reduceToNat, evz, textV, hl, Eng.text]
theorem Eng.live_head {E : Eng} (h : E.R.Ok) : E.R.live (E.R.head : Nat) = true := h.top.2.2
theorem EngAt.fitsC (h : EngAt σ k E x kr fpr) : ACall Try.prog n_engine_Engine_fits [.ptr (.new k) 0] σ (.bool (decide (((E.text (E.R.head : Nat)).length : Int) ≤ 20000))) σ := by
  refine exact_call (spec_of_awp mixed c_engine_Engine_fits (Nat.le_of_ble_eq_true rfl) ?_)
  unfold f_engine_Engine_fits
  have hl := Eng.live_head h.revs.ok
  have ht := h.text (E.R.head : Nat)
  rw [textV, if_pos hl] at ht
  simp only [↓evd, evu, evf, implies_true, reduceCtorEq, Nat.reduceEqDiff, ↓reduceIte, Nat.reduceAdd, Nat.reduceLeDiff, Nat.reduceLT, Nat.reduceMul, Int.reduceLT, Int.reduceLE, Int.reduceToNat, evz]
  refine MSpec.of h.head ?_
  simp only [↓evd, evu, evf, implies_true, reduceCtorEq, Nat.reduceEqDiff, ↓reduceIte, Nat.reduceAdd, Nat.reduceLeDiff, Nat.reduceLT, Nat.reduceMul, Int.reduceLT, Int.reduceLE, Int.reduceToNat, evz]
  refine MSpec.of ht ?_
  simp only [↓evd, evu, evf, implies_true, reduceCtorEq, Nat.reduceEqDiff, ↓reduceIte, Nat.reduceAdd, Nat.reduceLeDiff, Nat.reduceLT, Nat.reduceMul, Int.reduceLT, Int.reduceLE, Int.reduceToNat, evz]
end
theorem enew_at (σ : Heap) (hd : σ.F0.dr = false) : MSpec Try.prog n_engine_New [] σ fun v τ => ∃ k fp, v = .ptr (.new k) 0 ∧ IsEng τ k Eng.new fp ∧ (∀ x ∈ fp, σ.next ≤ x) ∧ Keep [] σ τ := by
  refine spec_of_awp mixed c_engine_New (Nat.le_of_ble_eq_true rfl) ?_
  unfold f_engine_New
  simp only [↓evd, evu, evf, implies_true, reduceCtorEq, Nat.reduceEqDiff, ↓reduceIte, Nat.reduceAdd, Nat.reduceLeDiff, Nat.reduceLT, Nat.reduceMul, Int.reduceLT, Int.reduceLE, Int.reduceToNat, evz]
  refine (new_at σ hd).mono ?_
  rintro v τ ⟨rfl, ⟨fp, hR, hf⟩, hk⟩
  simp only [↓evd, evu, evf, implies_true, reduceCtorEq, Nat.reduceEqDiff, ↓reduceIte, Nat.reduceAdd, Nat.reduceLeDiff, Nat.reduceLT, Nat.reduceMul, Int.reduceLT, Int.reduceLE, Int.reduceToNat, evz]
  have hkn : Keep [] τ (τ.new (.cells [.nils, .ptr (.new (σ.next + 4)) 0] none)) := (Keep.refl [] τ).new _
  refine ⟨_, _, rfl, ⟨.nils, σ.next + 4, fp, ⟨by rw [Heap.get_new, if_pos rfl], .inr ⟨rfl, rfl⟩, hR.keep hkn (fun x _ => by simp), fun hm => by have := hR.low _ hm; omega, by simp, Eng.new_ok⟩, rfl⟩, ?_, hk.trans hkn (fun x hx => nomatch hx)⟩
  intro y hy
  rcases List.mem_cons.1 hy with rfl | hy
  · exact hk.2.2.1
  · exact hf y hy
theorem ecopy_at {σ : Heap} {k : Nat} {E : Eng} {fp : List Nat} (h : IsEng σ k E fp) : MSpec Try.prog n_engine_Engine_Copy [.ptr (.new k) 0] σ fun v τ => ∃ k' kr' fpr', v = .ptr (.new k') 0 ∧ EngAt τ k' E (eAtoms E.l) kr' fpr' ∧ (∀ x ∈ k' :: fpr', σ.next ≤ x) ∧ Keep [] σ τ := by
  obtain ⟨x, kr, fpr, h, rfl⟩ := h
  refine spec_of_awp mixed c_engine_Engine_Copy (Nat.le_of_ble_eq_true rfl) ?_
  unfold f_engine_Engine_Copy
  have hk := h.blk
  have hkl := h.low
  have hf := h.ok.fits h.revs.ok
  have hc := h.lst.call (copy_call σ E.l hf.1 hf.2.1)
  have hr := h.lst.cells.2.2
  simp only [eAtoms] at hc
  simp only [↓evd, evu, evf, implies_true, reduceCtorEq, Nat.reduceEqDiff, ↓reduceIte, Nat.reduceAdd, Nat.reduceLeDiff, Nat.reduceLT, Nat.reduceMul, Int.reduceLT, Int.reduceLE, Int.reduceToNat, evz]
  with_reducible refine draw_of_grow (fun q => q < σ.next) (ms := [false, false, false, false, false, false, false, false, false, false, false, false, false]) (by kernel_rfl) ?_
  simp only [↓evd, evu, evf, implies_true, reduceCtorEq, Nat.reduceEqDiff, ↓reduceIte, Nat.reduceAdd, Nat.reduceLeDiff, Nat.reduceLT, Nat.reduceMul, Int.reduceLT, Int.reduceLE, Int.reduceToNat, evz, hk, hkl, hr]
  refine MSpec.of hc ⟨.inr Keeps.rfl, ?_⟩
  simp only [↓evd, evu, evf, implies_true, reduceCtorEq, Nat.reduceEqDiff, ↓reduceIte, Nat.reduceAdd, Nat.reduceLeDiff, Nat.reduceLT, Nat.reduceMul, Int.reduceLT, Int.reduceLE, Int.reduceToNat, evz, hk, hkl, hr]
  refine (copy_at h.revs).mono ?_
  rintro v τ ⟨rfl, ⟨fpr', hR, hf'⟩, hkk⟩
  refine ⟨.inr ⟨hkk.1, fun q hq => hkk.2.2.2 q hq (by simp)⟩, ?_⟩
  simp only [↓evd, evu, evf, implies_true, reduceCtorEq, Nat.reduceEqDiff, ↓reduceIte, Nat.reduceAdd, Nat.reduceLeDiff, Nat.reduceLT, Nat.reduceMul, Int.reduceLT, Int.reduceLE, Int.reduceToNat, evz]
  have hn := hkk.2.2.1
  refine ⟨.inr (keeps_new (fun q hq => by omega) _), ?_⟩
  simp only [↓evd, evu, evf, implies_true, reduceCtorEq, Nat.reduceEqDiff, ↓reduceIte, Nat.reduceAdd, Nat.reduceLeDiff, Nat.reduceLT, Nat.reduceMul, Int.reduceLT, Int.reduceLE, Int.reduceToNat, evz]
  have hkn : Keep [] τ (τ.new (.cells [eAtoms E.l, .ptr (.new (σ.next + 2)) 0] none)) := (Keep.refl [] τ).new _
  refine ⟨_, _, fpr', rfl, ⟨by rw [Heap.get_new, if_pos rfl], .inl rfl, hR.keep hkn (fun x _ => by simp), fun hm => by have := hR.low _ hm; omega, by simp, h.ok⟩, ?_, hkk.trans hkn (fun x hx => nomatch hx)⟩
  intro y hy
  rcases List.mem_cons.1 hy with rfl | hy
  · exact hn
  · exact hf' y hy
end Go.Proofs.Ytmjngohmcljfjaa.M
set_option linter.unusedSimpArgs false
set_option linter.unusedVariables false
set_option maxRecDepth 100000
namespace Go.Proofs.Ytmjngohmcljfjaa.M
open Go Go.Mini
attribute [local congr] go1_congr goM_congr goG_congr goV_congr drawwp_congr Xwp_congr
section
variable {σ : Heap} {k : Nat} {E : Eng} {fp : List Nat}
/-- an engine's block written anew from another engine's -/
theorem IsEng.took {τ : Heap} {kr' : Nat} {E' : Eng} {x : AVal} {fpr' : List Nat} (hk : k < τ.next) (hlow : ∀ y ∈ fpr', y < τ.next) (hx : AtomLst x E'.l) (hR : IsRevs τ kr' E'.R fpr') (hkf : k ∉ fpr') (hok : E'.Ok) :
    IsEng (τ.set k (.cells [x, .ptr (.new kr') 0] none)) k E' (k :: fpr') := by
  have hkn : Keep [k] τ (τ.set k (.cells [x, .ptr (.new kr') 0] none)) := (Keep.refl _ _).set (.inl (by simp)) _
  exact ⟨x, kr', fpr', ⟨by rw [Heap.get_set, if_pos rfl], hx, hR.keep hkn (fun y hy hm => by simp at hm; subst hm; exact hkf hy), hkf, by simpa using hk, hok⟩, rfl⟩
set_option maxHeartbeats 2000000 in
theorem etoggle_at {E' : Eng} {n c : Int} (h : IsEng σ k E fp) {g : Int} (e : toggleE E g = (E', n, c)) : MSpec Try.prog n_engine_Engine_Toggle [.ptr (.new k) 0, .int .i64 g] σ fun v τ => v = .tup [.int .i64 n, .int .i64 c] ∧ ∃ fp', IsEng τ k E' fp' ∧ Keep fp σ τ ∧ Fresh fp σ fp' := by
  refine spec_of_awp mixed c_engine_Engine_Toggle (Nat.le_of_ble_eq_true rfl) ?_
  unfold f_engine_Engine_Toggle
  have hlow := h.low
  have hok := h.ok
  obtain ⟨x0, kr0, fpr0, h0, rfl⟩ := id h
  simp only [↓evd, evu, evf, implies_true, reduceCtorEq, Nat.reduceEqDiff, ↓reduceIte, Nat.reduceAdd, Nat.reduceLeDiff, Nat.reduceLT, Nat.reduceMul, Int.reduceLT, Int.reduceLE, Int.reduceToNat, evz]
  refine (ecopy_at h).mono ?_
  rintro v τ ⟨k', kr', fpr', rfl, hC, hf', hK⟩
  have hb := hC.blk
  have hE := h.keep hK (fun y _ => by simp)
  rcases ht : toggleR E.R g with ⟨R', n', c'⟩
  simp only [↓evd, evu, evf, implies_true, reduceCtorEq, Nat.reduceEqDiff, ↓reduceIte, Nat.reduceAdd, Nat.reduceLeDiff, Nat.reduceLT, Nat.reduceMul, Int.reduceLT, Int.reduceLE, Int.reduceToNat, evz, hb]
  refine (toggle_at hC.revs ht).mono ?_
  rintro v τ1 ⟨rfl, fpr1, hR1, hK1, hF1⟩
  have hE1 := hE.keep hK1 (fun y hy hm => by have := hlow y hy; have := hf' y (List.mem_cons_of_mem _ hm); omega)
  have hKn := hK.2.2.1
  have hKn1 := hK1.2.2.1
  have hkk := hf' k' (by simp)
  have hb1 : τ1.get k' = some (.cells [eAtoms E.l, .ptr (.new kr') 0] none) := by rw [hK1.2.2.2 k' hC.low hC.out]; exact hb
  have hkp : Keep (k :: fpr0) σ τ1 := (hK.mono (fun x hx => nomatch hx)).trans hK1 (fun x hx => .inr (hf' x (List.mem_cons_of_mem _ hx)))
  by_cases hc : c' = 0
  case neg =>
    have hb : (c' != 0) = true := by simpa using hc
    have : toggleE E g = (E, 0, c') := by rw [toggleE, ht, if_pos hc]
    rw [this] at e; cases e
    simp only [↓evd, evu, evf, implies_true, reduceCtorEq, Nat.reduceEqDiff, ↓reduceIte, Nat.reduceAdd, Nat.reduceLeDiff, Nat.reduceLT, Nat.reduceMul, Int.reduceLT, Int.reduceLE, Int.reduceToNat, evz, hb]
    exact ⟨k :: fpr0, hE1, hkp, fun x hx => .inl hx⟩
  subst hc
  have hcb : ((0 : Int) != 0) = false := rfl
  obtain ⟨_, _, t1, t2⟩ := toggleR_ok (R := E.R) (g := g) (by rw [ht]) hok.2
  rw [ht] at t2
  simp only at t2
  have hok2 : Eng.Ok ⟨E.l, R'⟩ := ⟨hok.1.len, hok.1.txt, fun a ha => by have := hok.1.cuts a ha; simp only [t2]; omega⟩
  have hN : EngAt τ1 k' ⟨E.l, R'⟩ (eAtoms E.l) kr' fpr1 := ⟨hb1, .inl rfl, hR1, fun hm => by
    rcases hF1 k' hm with h1 | h1
    · exact hC.out h1
    · have := hC.low; omega, Nat.lt_of_lt_of_le hC.low hKn1, hok2⟩
  have hfit := hN.fitsC
  have hf1 : ∀ y ∈ fpr1, σ.next ≤ y := fun y hy => by
    rcases hF1 y hy with h1 | h1
    · exact hf' y (List.mem_cons_of_mem _ h1)
    · omega
  simp only [↓evd, evu, evf, implies_true, reduceCtorEq, Nat.reduceEqDiff, ↓reduceIte, Nat.reduceAdd, Nat.reduceLeDiff, Nat.reduceLT, Nat.reduceMul, Int.reduceLT, Int.reduceLE, Int.reduceToNat, evz, hcb]
  refine MSpec.of hfit ?_
  by_cases hl : ((Eng.text ⟨E.l, R'⟩ (R'.head : Nat)).length : Int) ≤ 20000
  · have : toggleE E g = (⟨E.l, R'⟩, n', 0) := by rw [toggleE, ht, if_neg (by simp), if_neg (by simp only; omega)]
    rw [this] at e; cases e
    have hk0 := h0.low
    have hle : k < τ1.next := by omega
    obtain ⟨y, kry, fpry, hy, hye⟩ := id hE1
    have hby := hy.blk
    simp only [↓evd, evu, evf, implies_true, reduceCtorEq, Nat.reduceEqDiff, ↓reduceIte, Nat.reduceAdd, Nat.reduceLeDiff, Nat.reduceLT, Nat.reduceMul, Int.reduceLT, Int.reduceLE, Int.reduceToNat, evz, decide_eq_true hl, hb1, hby]
    refine ⟨k :: fpr1, IsEng.took hle hR1.low (.inl rfl) hR1 (fun hm => by have := hf1 k hm; omega) hok2, hkp.set (.inl (by simp)) _, fun x hx => ?_⟩
    rcases List.mem_cons.1 hx with rfl | hx
    · exact .inl (by simp)
    · exact .inr (hf1 x hx)
  · have : toggleE E g = (E, 0, 13) := by rw [toggleE, ht, if_neg (by simp), if_pos (by simp only; omega)]
    rw [this] at e; cases e
    simp only [↓evd, evu, evf, implies_true, reduceCtorEq, Nat.reduceEqDiff, ↓reduceIte, Nat.reduceAdd, Nat.reduceLeDiff, Nat.reduceLT, Nat.reduceMul, Int.reduceLT, Int.reduceLE, Int.reduceToNat, evz, decide_eq_false hl]
    exact ⟨k :: fpr0, hE1, hkp, fun x hx => .inl hx⟩
end
end Go.Proofs.Ytmjngohmcljfjaa.M
set_option linter.unusedSimpArgs false
set_option linter.unusedVariables false
set_option maxRecDepth 100000
namespace Go.Proofs.Ytmjngohmcljfjaa.M
open Go Go.Mini
attribute [local congr] go1_congr goM_congr goG_congr goV_congr drawwp_congr Xwp_congr
section
variable {σ : Heap} {k : Nat} {E : Eng} {fp : List Nat}
theorem upon_few {l : List Atom} (hl : l.length ≤ 4000) (rev : Int) (u : List Int) {cs : List Chg} (hcl : cs.length ≤ 1000) (hc : ∀ c ∈ cs, c.text.length ≤ 1000000) (rev' group rank : Int) : (upon l rev u cs rev' group rank).length ≤ 100000000000 := by
  unfold upon
  split
  case isFalse => omega
  rename_i h0
  have hml : (marked (cuts l rev u cs) ⟨rev', group⟩ l 0).length ≤ 4000 := by rw [marked_len]; exact hl
  generalize marked (cuts l rev u cs) ⟨rev', group⟩ l 0 = mk at hml
  have key : ∀ (r : List (Nat × List UInt8)) (at' : Nat), (∀ kt ∈ r, kt.2.length ≤ 1000000) → (merged (fun t => newAtoms rev' group rank (ptsOf t)) mk r at').length ≤ 4000 + r.length * 1004000 := by
    intro r
    induction r with
    | nil => intro at' _; simp only [merged, List.length_drop]; omega
    | cons kt r ih =>
      intro at' hk
      obtain ⟨q, t⟩ := kt
      have h1 := ih q fun z hz => hk z (List.mem_cons_of_mem _ hz)
      have h2 := hk (q, t) (by simp)
      have h3 : (newAtoms rev' group rank (ptsOf t)).length ≤ t.length := by
        simp only [newAtoms, List.length_map, ptsOf]
        cases hp : pts t with
        | none => simp
        | some ps => exact pts_len _ t ps (Nat.le_refl _) hp
      simp only [merged_cons, List.length_append, List.length_drop, List.length_take, List.length_cons]
      simp only at h2
      omega
  have h2 := key ((spotsN l rev u cs rank).zip (cs.map Chg.text)) 0 (by
    rintro ⟨q, t⟩ hz
    have := (List.of_mem_zip hz).2
    rw [List.mem_map] at this
    obtain ⟨c, hcm, rfl⟩ := this
    exact hc c hcm)
  have h3 : ((spotsN l rev u cs rank).zip (cs.map Chg.text)).length ≤ 1000 := by rw [List.length_zip]; simp; omega
  omega
set_option maxHeartbeats 4000000 in
theorem eedit_at {E' : Eng} {n c : Int} (h : IsEng σ k E fp) {base group rank : Int} {cs : List Chg} (hcl : cs.length ≤ 1000) (hct : ∀ c ∈ cs, c.text.length ≤ 1000000) (e : editE E base group rank cs = (E', n, c)) :
    MSpec Try.prog n_engine_Engine_Edit [.ptr (.new k) 0, .int .i64 base, .int .i64 group, .int .i64 rank, eChgs cs] σ fun v τ => v = .tup [.int .i64 n, .int .i64 c] ∧ ∃ fp', IsEng τ k E' fp' ∧ Keep fp σ τ ∧ Fresh fp σ fp' := by
  refine spec_of_awp mixed c_engine_Engine_Edit (Nat.le_of_ble_eq_true rfl) ?_
  unfold f_engine_Engine_Edit
  have hlow := h.low
  have hok := h.ok
  obtain ⟨x0, kr0, fpr0, h0, rfl⟩ := id h
  have hb0 := h0.blk
  have hx0 := h0.lst.cells.2.2
  have htx := h0.text base
  have hsame : ∃ fp', IsEng σ k E fp' ∧ Keep (k :: fpr0) σ σ ∧ Fresh (k :: fpr0) σ fp' := ⟨_, h, Keep.refl _ _, fun x hx => .inl hx⟩
  have hroom : maxRoom = 68719476736 := rfl
  cases hl : E.R.live base with
  | false =>
    have : editE E base group rank cs = (E, 0, 190) := by rw [editE, if_pos hl]
    rw [this] at e; cases e
    rw [textV, hl, if_neg (by simp)] at htx
    have hb : ((190 : Int) != 0) = true := rfl
    simp only [↓evd, evu, evf, implies_true, reduceCtorEq, Nat.reduceEqDiff, ↓reduceIte, Nat.reduceAdd, Nat.reduceLeDiff, Nat.reduceLT, Nat.reduceMul, Int.reduceLT, Int.reduceLE, Int.reduceToNat, evz]
    refine MSpec.of htx ?_
    simp only [↓evd, evu, evf, implies_true, reduceCtorEq, Nat.reduceEqDiff, ↓reduceIte, Nat.reduceAdd, Nat.reduceLeDiff, Nat.reduceLT, Nat.reduceMul, Int.reduceLT, Int.reduceLE, Int.reduceToNat, evz, hb]
    exact hsame
  | true =>
  rw [textV, if_pos hl] at htx
  have hlt := atomsText_le base (E.R.undone base) hok.1.txt
  have hl4 := hok.1.len
  have hck := check_call σ (E.text base) cs (by unfold Eng.text; omega) (by omega) (fun c hc => by have := hct c hc; unfold ChgFits; omega)
  have hcb : ((0 : Int) != 0) = false := rfl
  simp only [↓evd, evu, evf, implies_true, reduceCtorEq, Nat.reduceEqDiff, ↓reduceIte, Nat.reduceAdd, Nat.reduceLeDiff, Nat.reduceLT, Nat.reduceMul, Int.reduceLT, Int.reduceLE, Int.reduceToNat, evz]
  refine MSpec.of htx ?_
  simp only [↓evd, evu, evf, implies_true, reduceCtorEq, Nat.reduceEqDiff, ↓reduceIte, Nat.reduceAdd, Nat.reduceLeDiff, Nat.reduceLT, Nat.reduceMul, Int.reduceLT, Int.reduceLE, Int.reduceToNat, evz, hcb]
  simp only [eChgs] at hck
  refine MSpec.of hck ?_
  by_cases hc0 : check (E.text base) cs = 0
  case neg =>
    have : editE E base group rank cs = (E, 0, check (E.text base) cs) := by rw [editE, if_neg (by simp [hl]), if_pos hc0]
    rw [this] at e; cases e
    have hb : (check (E.text base) cs != 0) = true := by simpa using hc0
    simp only [↓evd, evu, evf, implies_true, reduceCtorEq, Nat.reduceEqDiff, ↓reduceIte, Nat.reduceAdd, Nat.reduceLeDiff, Nat.reduceLT, Nat.reduceMul, Int.reduceLT, Int.reduceLE, Int.reduceToNat, evz, hb]
    exact hsame
  rw [hc0]
  simp only [↓evd, evu, evf, implies_true, reduceCtorEq, Nat.reduceEqDiff, ↓reduceIte, Nat.reduceAdd, Nat.reduceLeDiff, Nat.reduceLT, Nat.reduceMul, Int.reduceLT, Int.reduceLE, Int.reduceToNat, evz, hcb]
  refine (ecopy_at h).mono ?_
  rintro v τ ⟨k', kr', fpr', rfl, hC, hf', hK⟩
  have hb := hC.blk
  have hE := h.keep hK (fun y _ => by simp)
  rcases ht : addR E.R group with ⟨R', n', c'⟩
  simp only [↓evd, evu, evf, implies_true, reduceCtorEq, Nat.reduceEqDiff, ↓reduceIte, Nat.reduceAdd, Nat.reduceLeDiff, Nat.reduceLT, Nat.reduceMul, Int.reduceLT, Int.reduceLE, Int.reduceToNat, evz, hb]
  refine (add_at hC.revs ht).mono ?_
  rintro v τ1 ⟨rfl, fpr1, hR1, hK1, hF1⟩
  have hdis : ∀ y ∈ k :: fpr0, y ∉ fpr' := fun y hy hm => by have := hlow y hy; have := hf' y (List.mem_cons_of_mem _ hm); omega
  have hE1 := hE.keep hK1 hdis
  have hA1 := (h0.keep hK (fun y _ => by simp)).keep hK1 hdis
  have hKn := hK.2.2.1
  have hKn1 := hK1.2.2.1
  have hkk := hf' k' (by simp)
  have hb1 : τ1.get k' = some (.cells [eAtoms E.l, .ptr (.new kr') 0] none) := by rw [hK1.2.2.2 k' hC.low hC.out]; exact hb
  have hkp : Keep (k :: fpr0) σ τ1 := (hK.mono (fun x hx => nomatch hx)).trans hK1 (fun x hx => .inr (hf' x (List.mem_cons_of_mem _ hx)))
  have hfin : ∃ fp', IsEng τ1 k E fp' ∧ Keep (k :: fpr0) σ τ1 ∧ Fresh (k :: fpr0) σ fp' := ⟨k :: fpr0, hE1, hkp, fun x hx => .inl hx⟩
  have hne : editE E base group rank cs = if c' ≠ 0 then (E, 0, c') else if rank < 0 ∨ 1000000 < rank then (E, 0, 10) else
      if 4000 < (upon E.l base (E.R.undone base) cs n' group rank).length then (E, 0, 70) else
      if 20000 < (Eng.text ⟨upon E.l base (E.R.undone base) cs n' group rank, R'⟩ R'.head).length then (E, 0, 13) else (⟨upon E.l base (E.R.undone base) cs n' group rank, R'⟩, n', 0) := by
    rw [editE, if_neg (by simp [hl]), if_neg (by simp [hc0]), ht]
  by_cases hc : c' = 0
  case neg =>
    have hb : (c' != 0) = true := by simpa using hc
    rw [if_pos hc] at hne
    rw [hne] at e; cases e
    simp only [↓evd, evu, evf, implies_true, reduceCtorEq, Nat.reduceEqDiff, ↓reduceIte, Nat.reduceAdd, Nat.reduceLeDiff, Nat.reduceLT, Nat.reduceMul, Int.reduceLT, Int.reduceLE, Int.reduceToNat, evz, hb]
    exact hfin
  subst hc
  rw [if_neg (by simp)] at hne
  by_cases hr : rank < 0 ∨ 1000000 < rank
  · rw [if_pos hr] at hne
    rw [hne] at e; cases e
    by_cases hr1 : rank < 0
    · simp only [↓evd, evu, evf, implies_true, reduceCtorEq, Nat.reduceEqDiff, ↓reduceIte, Nat.reduceAdd, Nat.reduceLeDiff, Nat.reduceLT, Nat.reduceMul, Int.reduceLT, Int.reduceLE, Int.reduceToNat, evz, hcb, hr1]
      exact hfin
    · have hr2 := hr.resolve_left hr1
      simp only [↓evd, evu, evf, implies_true, reduceCtorEq, Nat.reduceEqDiff, ↓reduceIte, Nat.reduceAdd, Nat.reduceLeDiff, Nat.reduceLT, Nat.reduceMul, Int.reduceLT, Int.reduceLE, Int.reduceToNat, evz, hcb, hr1, hr2]
      exact hfin
  rw [if_neg hr] at hne
  have hr1 : ¬ rank < 0 := fun h => hr (.inl h)
  have hr2 : ¬ 1000000 < rank := fun h => hr (.inr h)
  obtain ⟨_, _, _, _, t1, t2⟩ := addR_ok (R := E.R) (g := group) (by rw [ht]) hok.2
  rw [ht] at t2
  simp only at t2
  have hfit0 := hok.1.fits hok.2
  have hup := hA1.lst.call (upon_call τ1 E.l base (E.R.undone base) cs n' group rank (undone_few hok.2 base) hfit0 (by omega) hct (fun a ha => by have := hok.1.cuts a ha; have := head_le hok.2; omega) (by omega))
  have hun := hA1.undoneAt base
  obtain ⟨uf1, uf2⟩ := upon_facts hok.1 (base := base) (group := group) (rank := rank) (now := n') (cs := cs) (u := E.R.undone base)
  have hb01 := hA1.blk
  have hlen := upon_few hok.1.len base (E.R.undone base) hcl hct n' group rank
  generalize upon E.l base (E.R.undone base) cs n' group rank = l' at hup hne uf1 uf2 hlen
  simp only [ints, eChgs, eAtoms] at hup
  simp only [ints] at hun
  simp only [eAtoms] at hb1
  simp only [↓evd, evu, evf, implies_true, reduceCtorEq, Nat.reduceEqDiff, ↓reduceIte, Nat.reduceAdd, Nat.reduceLeDiff, Nat.reduceLT, Nat.reduceMul, Int.reduceLT, Int.reduceLE, Int.reduceToNat, evz, hcb, hr1, hr2]
  with_reducible refine draw_of_grow (fun _ => True) (ms := [false, false, false, false, false, false, false, false, false, false, false, false, false, false, false, false, true]) (by kernel_rfl) ?_
  simp only [↓evd, evu, evf, implies_true, reduceCtorEq, Nat.reduceEqDiff, ↓reduceIte, Nat.reduceAdd, Nat.reduceLeDiff, Nat.reduceLT, Nat.reduceMul, Int.reduceLT, Int.reduceLE, Int.reduceToNat, evz, hb01, hx0]
  refine MSpec.of hun ⟨.inr Keeps.rfl, ?_⟩
  simp only [↓evd, evu, evf, implies_true, reduceCtorEq, Nat.reduceEqDiff, ↓reduceIte, Nat.reduceAdd, Nat.reduceLeDiff, Nat.reduceLT, Nat.reduceMul, Int.reduceLT, Int.reduceLE, Int.reduceToNat, evz]
  refine MSpec.of hup ⟨.inr Keeps.rfl, ?_⟩
  simp only [↓evd, evu, evf, implies_true, reduceCtorEq, Nat.reduceEqDiff, ↓reduceIte, Nat.reduceAdd, Nat.reduceLeDiff, Nat.reduceLT, Nat.reduceMul, Int.reduceLT, Int.reduceLE, Int.reduceToNat, evz, hb1]
  have hK2 : Keep [k'] τ1 (τ1.set k' (.cells [.fsl 5 (l'.map eAtom), .ptr (.new kr') 0] none)) := (Keep.refl _ _).set (.inl (by simp)) _
  have hkf : k' ∉ fpr1 := fun hm => by
    rcases hF1 k' hm with h1 | h1
    · exact hC.out h1
    · have := hC.low; omega
  have hkp2 : Keep (k :: fpr0) σ (τ1.set k' (.cells [.fsl 5 (l'.map eAtom), .ptr (.new kr') 0] none)) := hkp.set (.inr hkk) _
  have hE2 := hE1.keep hK2 (fun y hy hm => by simp at hm; have := hlow y hy; omega)
  have hfin2 : ∃ fp', IsEng (τ1.set k' (.cells [.fsl 5 (l'.map eAtom), .ptr (.new kr') 0] none)) k E fp' ∧ Keep (k :: fpr0) σ (τ1.set k' (.cells [.fsl 5 (l'.map eAtom), .ptr (.new kr') 0] none)) ∧ Fresh (k :: fpr0) σ fp' := ⟨k :: fpr0, hE2, hkp2, fun x hx => .inl hx⟩
  by_cases hm : 4000 < l'.length
  · have hm' : (4000 : Int) < (l'.length : Int) := by omega
    rw [if_pos hm] at hne
    rw [hne] at e; cases e
    simp only [↓evd, evu, evf, implies_true, reduceCtorEq, Nat.reduceEqDiff, ↓reduceIte, Nat.reduceAdd, Nat.reduceLeDiff, Nat.reduceLT, Nat.reduceMul, Int.reduceLT, Int.reduceLE, Int.reduceToNat, evz, hm']
    exact hfin2
  have hm' : ¬ (4000 : Int) < (l'.length : Int) := by omega
  rw [if_neg hm] at hne
  have hR2 := hR1.keep hK2 (fun y hy hm => by simp at hm; subst hm; exact hkf hy)
  have hok2 : Eng.Ok ⟨l', R'⟩ := ⟨by simp only; omega, uf1, fun a ha => by have := uf2 a ha; simp only [t2]; omega⟩
  have hN : EngAt (τ1.set k' (.cells [.fsl 5 (l'.map eAtom), .ptr (.new kr') 0] none)) k' ⟨l', R'⟩ (eAtoms l') kr' fpr1 := ⟨by rw [Heap.get_set, if_pos rfl]; rfl, .inl rfl, hR2, hkf, by have := hC.low; simp only [Heap.set_next]; omega, hok2⟩
  have hfit := hN.fitsC
  have hf1 : ∀ y ∈ fpr1, σ.next ≤ y := fun y hy => by
    rcases hF1 y hy with h1 | h1
    · exact hf' y (List.mem_cons_of_mem _ h1)
    · omega
  simp only [↓evd, evu, evf, implies_true, reduceCtorEq, Nat.reduceEqDiff, ↓reduceIte, Nat.reduceAdd, Nat.reduceLeDiff, Nat.reduceLT, Nat.reduceMul, Int.reduceLT, Int.reduceLE, Int.reduceToNat, evz, hm']
  refine MSpec.of hfit ?_
  by_cases hl : ((Eng.text ⟨l', R'⟩ (R'.head : Nat)).length : Int) ≤ 20000
  · rw [if_neg (by omega)] at hne
    rw [hne] at e; cases e
    have hk0 := h0.low
    have hle : k < τ1.next := by omega
    have hne2 : (k' = k) = False := eq_false (by omega)
    simp only [↓evd, evu, evf, implies_true, reduceCtorEq, Nat.reduceEqDiff, ↓reduceIte, Nat.reduceAdd, Nat.reduceLeDiff, Nat.reduceLT, Nat.reduceMul, Int.reduceLT, Int.reduceLE, Int.reduceToNat, evz, decide_eq_true hl, hb01, hne2]
    refine ⟨k :: fpr1, IsEng.took (by simpa using hle) hR2.low (.inl rfl) hR2 (fun hm => by have := hf1 k hm; omega) hok2, hkp2.set (.inl (by simp)) _, fun x hx => ?_⟩
    rcases List.mem_cons.1 hx with rfl | hx
    · exact .inl (by simp)
    · exact .inr (hf1 x hx)
  · rw [if_pos (by omega)] at hne
    rw [hne] at e; cases e
    simp only [↓evd, evu, evf, implies_true, reduceCtorEq, Nat.reduceEqDiff, ↓reduceIte, Nat.reduceAdd, Nat.reduceLeDiff, Nat.reduceLT, Nat.reduceMul, Int.reduceLT, Int.reduceLE, Int.reduceToNat, evz, decide_eq_false hl]
    exact hfin2
end
end Go.Proofs.Ytmjngohmcljfjaa.M
set_option linter.unusedSimpArgs false
set_option linter.unusedVariables false
set_option maxRecDepth 100000
namespace Go.Proofs.Ytmjngohmcljfjaa.M
open Go Go.Mini
attribute [local congr] go1_congr goM_congr goG_congr goV_congr drawwp_congr Xwp_congr
theorem chgs_row (cs : List Chg) : ∀ z ∈ cs.map eChg, z.cells.length = 3 := by
  intro z hz; rw [List.mem_map] at hz; obtain ⟨c, _, rfl⟩ := hz; rfl
theorem sees_chgs {σ : Heap} {K n : Nat} {cs : List Chg} (hn : n = cs.length) (hg : σ.get K = some (.cells ((cs.map eChg).flatMap AVal.cells) none)) : Sees σ (.slc (.new K) 0 n (.ex n)) (σ.set K .dead) (eChgs cs) := by
  refine Sees.own hg (by simp [hn]) (chgs_row cs) ?_ (fun c hc => by cases hc; exact Nat.le_refl _)
  have := flat_len (chgs_row cs)
  rw [List.length_map] at this
  rw [List.drop_zero, List.take_of_length_le (by omega)]
section
variable {σ : Heap} {k : Nat} {E : Eng} {fp : List Nat}
/-- changes in a slice of one's own -/
theorem eedit_own {E' : Eng} {n c : Int} (h : IsEng σ k E fp) {base group rank : Int} {cs : List Chg} {K q : Nat} (hq : q = cs.length) (hg : σ.get K = some (.cells ((cs.map eChg).flatMap AVal.cells) none)) (hK : K ∉ fp) (hcl : cs.length ≤ 1000) (hct : ∀ c ∈ cs, c.text.length ≤ 1000000) (e : editE E base group rank cs = (E', n, c)) :
    MSpec Try.prog n_engine_Engine_Edit [.ptr (.new k) 0, .int .i64 base, .int .i64 group, .int .i64 rank, .slc (.new K) 0 q (.ex q)] σ fun v τ => v = .tup [.int .i64 n, .int .i64 c] ∧ ∃ fp', IsEng τ k E' fp' ∧ Keep (K :: fp) σ τ ∧ Fresh fp σ fp' := by
  have hk : Keep [K] σ (σ.set K .dead) := (Keep.refl _ _).set (.inl (by simp)) _
  refine mspec_seen (.cons (Sees.refl _ _) (.cons (Sees.refl _ _) (.cons (Sees.refl _ _) (.cons (Sees.refl _ _) (.cons (sees_chgs hq hg) (.nil _)))))) ?_
  refine (eedit_at (h.keep hk fun x hx hm => hK (by simp at hm; exact hm ▸ hx)) hcl hct e).mono ?_
  rintro v τ ⟨hv, fp', h1, h2, h3⟩
  exact ⟨hv, fp', h1, (hk.mono (fun x hx _ => by simp at hx; simp [hx])).trans (h2.mono fun x hx _ => List.mem_cons_of_mem _ hx) (fun x hx => .inl hx), h3⟩
/-- .. that was made just now -/
theorem eedit_lit {E' : Eng} {n c : Int} (h : IsEng σ k E fp) {base group rank : Int} {cs : List Chg} {q : Nat} (hq : q = cs.length) (hcl : cs.length ≤ 1000) (hct : ∀ c ∈ cs, c.text.length ≤ 1000000) (e : editE E base group rank cs = (E', n, c)) :
    MSpec Try.prog n_engine_Engine_Edit [.ptr (.new k) 0, .int .i64 base, .int .i64 group, .int .i64 rank, .slc (.new σ.next) 0 q (.ex q)] (σ.new (.cells ((cs.map eChg).flatMap AVal.cells) none)) fun v τ => v = .tup [.int .i64 n, .int .i64 c] ∧ ∃ fp', IsEng τ k E' fp' ∧ Keep fp σ τ ∧ Fresh fp σ fp' := by
  have hk : Keep [] σ (σ.new (.cells ((cs.map eChg).flatMap AVal.cells) none)) := (Keep.refl _ _).new _
  refine (eedit_own (K := σ.next) (h.keep hk (fun x _ => by simp)) hq (by rw [Heap.get_new, if_pos rfl]) (fun hm => by have := h.low _ hm; omega) hcl hct e).mono ?_
  rintro v τ ⟨hv, fp', h1, h2, h3⟩
  refine ⟨hv, fp', h1, ⟨h2.1, h2.2.1, Nat.le_of_succ_le h2.2.2.1, fun q hq hn => ?_⟩, fun x hx => ?_⟩
  · rw [h2.2.2.2 q (Nat.lt_succ_of_lt hq) (fun hm => by rcases List.mem_cons.1 hm with h | h; omega; exact hn h), Heap.get_new, if_neg (by omega)]
  · rcases h3 x hx with h4 | h4
    · exact .inl h4
    · exact .inr (Nat.le_of_succ_le h4)
end
theorem etext_at {σ : Heap} {k : Nat} {E : Eng} {fp : List Nat} (h : IsEng σ k E fp) (n : Int) : ACall Try.prog n_engine_Engine_Text [.ptr (.new k) 0, .int .i64 n] σ (textV E n) σ := by obtain ⟨_, _, _, h, _⟩ := h; exact h.text n
theorem ehead_at {σ : Heap} {k : Nat} {E : Eng} {fp : List Nat} (h : IsEng σ k E fp) : ACall Try.prog n_engine_Engine_Head [.ptr (.new k) 0] σ (.int .i64 (E.R.head : Nat)) σ := by obtain ⟨_, _, _, h, _⟩ := h; exact h.head
theorem eatoms_at {σ : Heap} {k : Nat} {E : Eng} {fp : List Nat} (h : IsEng σ k E fp) : ACall Try.prog n_engine_Engine_Atoms [.ptr (.new k) 0] σ (eAtoms E.l) σ := by obtain ⟨_, _, _, h, _⟩ := h; exact h.atoms
theorem egroups_at {σ : Heap} {k : Nat} {E : Eng} {fp : List Nat} (h : IsEng σ k E fp) : ACall Try.prog n_engine_Engine_Groups [.ptr (.new k) 0] σ (ints E.R.grp) σ := by obtain ⟨_, _, _, h, _⟩ := h; exact h.groups
theorem elive_at {σ : Heap} {k : Nat} {E : Eng} {fp : List Nat} (h : IsEng σ k E fp) (n : Int) : ACall Try.prog n_engine_Engine_Live [.ptr (.new k) 0, .int .i64 n] σ (.bool (E.R.live n)) σ := by obtain ⟨_, _, _, h, _⟩ := h; exact h.live n
theorem textV_head {E : Eng} (h : E.R.Ok) : textV E (E.R.head : Nat) = .tup [.str (E.text (E.R.head : Nat)), .int .i64 0] := by rw [textV, if_pos (Eng.live_head h)]
theorem aStr_self (s : List UInt8) : aStr .eql s s = some (.bool true) := by simp [aStr]
theorem aStr_nself (s : List UInt8) : aStr .neq s s = some (.bool false) := by simp [aStr]
end Go.Proofs.Ytmjngohmcljfjaa.M
set_option linter.unusedSimpArgs false
set_option linter.unusedVariables false
set_option maxRecDepth 100000
namespace Go.Proofs.Ytmjngohmcljfjaa.M
open Go Go.Mini
attribute [local congr] go1_congr goM_congr goG_congr goV_congr drawwp_congr Xwp_congr
def at1 (b : UInt8) (cs : List Cut) : Atom := ⟨[b], 1, 1, 0, cs⟩
def kE1 : Eng := ⟨[at1 104 [], at1 101 [], at1 108 [], at1 108 [], at1 111 []], ⟨[[], []], 0, [1], []⟩⟩
def kE2 : Eng := ⟨[⟨[106], 2, 2, 0, []⟩, at1 104 [⟨2, 2⟩], at1 101 [], at1 108 [], at1 108 [], at1 111 []], ⟨[[], [], []], 0, [1, 2], []⟩⟩
def kE3 : Eng := ⟨[⟨[106], 2, 2, 0, []⟩, at1 104 [⟨2, 2⟩], at1 101 [], at1 108 [], at1 108 [], at1 111 [], ⟨[33], 3, 3, 0, []⟩], ⟨[[], [], [], []], 0, [1, 2, 3], []⟩⟩
def kE4 : Eng := ⟨kE3.l, ⟨[[], [], [], [], [2]], 0, [1, 2, 3], []⟩⟩
theorem k1 : editE Eng.new 0 1 0 [⟨0, 0, [104, 101, 108, 108, 111]⟩] = (kE1, 1, 0) := by kernel_rfl
theorem k2 : editE kE1 1 2 0 [⟨0, 1, [106]⟩] = (kE2, 2, 0) := by kernel_rfl
theorem k3 : editE kE2 1 3 0 [⟨5, 5, [33]⟩] = (kE3, 3, 0) := by kernel_rfl
theorem k4 : toggleE kE3 2 = (kE4, 4, 0) := by kernel_rfl
theorem k5 : editE kE4 9 1 0 [] = (kE4, 0, 190) := by kernel_rfl
theorem kt3 : textV kE3 3 = .tup [.str [106, 101, 108, 108, 111, 33], .int .i64 0] := by kernel_rfl
theorem kt4 : textV kE4 4 = .tup [.str [104, 101, 108, 108, 111, 33], .int .i64 0] := by kernel_rfl
set_option maxHeartbeats 2000000 in
theorem known20_call (σ : Heap) (hd : σ.F0.dr = false) : ACall Try.prog n_palinodelaw20_known [] σ (.bool true) σ := by
  refine gc_call rfl (spec_of_awp mixed c_palinodelaw20_known (Nat.le_of_ble_eq_true rfl) ?_)
  unfold f_palinodelaw20_known
  simp only [↓evd, evu, evf, implies_true, reduceCtorEq, Nat.reduceEqDiff, ↓reduceIte, Nat.reduceAdd, Nat.reduceLeDiff, Nat.reduceLT, Nat.reduceMul, Int.reduceLT, Int.reduceLE, Int.reduceToNat, evz]
  refine (enew_at σ hd).mono ?_
  rintro v τ ⟨k, fp0, rfl, h0, hf0, k0⟩
  simp only [↓evd, evu, evf, implies_true, reduceCtorEq, Nat.reduceEqDiff, ↓reduceIte, Nat.reduceAdd, Nat.reduceLeDiff, Nat.reduceLT, Nat.reduceMul, Int.reduceLT, Int.reduceLE, Int.reduceToNat, evz]
  refine (eedit_lit h0 (q := 1) rfl (by decide) (by decide) k1).mono ?_
  rintro v τ1 ⟨rfl, fp1, h1, kk1, f1⟩
  simp only [↓evd, evu, evf, implies_true, reduceCtorEq, Nat.reduceEqDiff, ↓reduceIte, Nat.reduceAdd, Nat.reduceLeDiff, Nat.reduceLT, Nat.reduceMul, Int.reduceLT, Int.reduceLE, Int.reduceToNat, evz]
  refine (eedit_lit h1 (q := 1) rfl (by decide) (by decide) k2).mono ?_
  rintro v τ2 ⟨rfl, fp2, h2, kk2, f2⟩
  simp only [↓evd, evu, evf, implies_true, reduceCtorEq, Nat.reduceEqDiff, ↓reduceIte, Nat.reduceAdd, Nat.reduceLeDiff, Nat.reduceLT, Nat.reduceMul, Int.reduceLT, Int.reduceLE, Int.reduceToNat, evz]
  refine (eedit_lit h2 (q := 1) rfl (by decide) (by decide) k3).mono ?_
  rintro v τ3 ⟨rfl, fp3, h3, kk3, f3⟩
  have t3 := etext_at h3 3
  rw [kt3] at t3
  simp only [↓evd, evu, evf, implies_true, reduceCtorEq, Nat.reduceEqDiff, ↓reduceIte, Nat.reduceAdd, Nat.reduceLeDiff, Nat.reduceLT, Nat.reduceMul, Int.reduceLT, Int.reduceLE, Int.reduceToNat, evz]
  refine MSpec.of t3 ?_
  simp only [↓evd, evu, evf, implies_true, reduceCtorEq, Nat.reduceEqDiff, ↓reduceIte, Nat.reduceAdd, Nat.reduceLeDiff, Nat.reduceLT, Nat.reduceMul, Int.reduceLT, Int.reduceLE, Int.reduceToNat, evz]
  refine (etoggle_at h3 k4).mono ?_
  rintro v τ4 ⟨rfl, fp4, h4, kk4, f4⟩
  have t4 := etext_at h4 4
  rw [kt4] at t4
  simp only [↓evd, evu, evf, implies_true, reduceCtorEq, Nat.reduceEqDiff, ↓reduceIte, Nat.reduceAdd, Nat.reduceLeDiff, Nat.reduceLT, Nat.reduceMul, Int.reduceLT, Int.reduceLE, Int.reduceToNat, evz]
  refine MSpec.of t4 ?_
  simp only [↓evd, evu, evf, implies_true, reduceCtorEq, Nat.reduceEqDiff, ↓reduceIte, Nat.reduceAdd, Nat.reduceLeDiff, Nat.reduceLT, Nat.reduceMul, Int.reduceLT, Int.reduceLE, Int.reduceToNat, evz]
  refine mspec_seen (.cons (Sees.refl _ _) (.cons (Sees.refl _ _) (.cons (Sees.refl _ _) (.cons (Sees.refl _ _) (.cons (Sees.nils _ 3) (.nil _)))))) ?_
  refine (eedit_at (cs := []) h4 (by decide) (by decide) k5).mono ?_
  rintro v τ5 ⟨rfl, fp5, h5, kk5, f5⟩
  have b1 : ((0 : Int) == 0) = true := rfl
  have b2 : ((1 : Int) == 1) = true := rfl
  have b3 : ((2 : Int) == 2) = true := rfl
  have b4 : ((3 : Int) == 3) = true := rfl
  have b5 : ((190 : Int) == 190) = true := rfl
  have b6 : ((4 : Int) == 4) = true := rfl
  have b7 : ((7 : Int) == 7) = true := rfl
  have hh := ehead_at h5
  have ha := eatoms_at h5
  have hh2 : ((kE4.R.head : Nat) : Int) = 4 := rfl
  have ha2 : (kE4.l.map eAtom).length = 7 := rfl
  rw [hh2] at hh
  simp only [eAtoms] at ha
  simp only [↓evd, evu, evf, implies_true, reduceCtorEq, Nat.reduceEqDiff, ↓reduceIte, Nat.reduceAdd, Nat.reduceLeDiff, Nat.reduceLT, Nat.reduceMul, Int.reduceLT, Int.reduceLE, Int.reduceToNat, evz, b1, b2, b3, b4, b5, aStr_self]
  refine MSpec.of hh ?_
  simp only [↓evd, evu, evf, implies_true, reduceCtorEq, Nat.reduceEqDiff, ↓reduceIte, Nat.reduceAdd, Nat.reduceLeDiff, Nat.reduceLT, Nat.reduceMul, Int.reduceLT, Int.reduceLE, Int.reduceToNat, evz, b6]
  refine MSpec.of ha ?_
  simp only [↓evd, evu, evf, implies_true, reduceCtorEq, Nat.reduceEqDiff, ↓reduceIte, Nat.reduceAdd, Nat.reduceLeDiff, Nat.reduceLT, Nat.reduceMul, Int.reduceLT, Int.reduceLE, Int.reduceToNat, evz, ha2, b7]
  have a1 := kk1.trans kk2 f1
  have g1 := Fresh.trans f1 kk1.2.2.1 f2
  have a2 := a1.trans kk3 g1
  have g2 := Fresh.trans g1 a1.2.2.1 f3
  have a3 := a2.trans kk4 g2
  have g3 := Fresh.trans g2 a2.2.2.1 f4
  have a4 := a3.trans kk5 g3
  have t2 : Keep [] σ τ5 := (k0.trans (fp' := fp0) a4 (fun x hx => .inr (hf0 x hx)))
  exact ⟨t2.1, t2.2.1, fun q hq => t2.2.2.2 q hq (by simp)⟩
end Go.Proofs.Ytmjngohmcljfjaa.M
set_option linter.unusedSimpArgs false
set_option linter.unusedVariables false
set_option maxRecDepth 100000
namespace Go.Proofs.Ytmjngohmcljfjaa.M
open Go Go.Mini
/-! ### Edits at a text's beginning -/
theorem places_nonneg (rev : Int) (u : List Int) : ∀ (l : List Atom) (n : Nat), ∀ p ∈ places rev u l n, 0 ≤ p
  | [], n, p, h => by simp [places] at h; omega
  | a :: l, n, p, h => by
    simp only [places, List.mem_cons] at h
    rcases h with rfl | h
    · omega
    · exact places_nonneg rev u l _ p h
theorem spotF_low (rev : Int) (u : List Int) (at' : Int) : ∀ (l : List Atom) (ps : List Int) (i acc : Nat), (∀ p ∈ ps, at' ≤ p) → spotF rev u at' l ps i acc = acc
  | [], ps, i, acc, h => by simp [spotF]
  | a :: l, [], i, acc, h => by simp [spotF]
  | a :: l, p :: ps, i, acc, h => by
    have h1 := h p (by simp)
    simp only [spotF]
    rw [if_neg (fun h2 => by omega)]
    exact spotF_low rev u at' l ps _ _ fun q hq => h q (List.mem_cons_of_mem _ hq)
theorem cutsF_none (rev : Int) (u : List Int) (cs : List Chg) (h : ∀ p, cutHit cs p = false) : ∀ (l : List Atom) (ps : List Int) (i : Nat), cutsF rev u cs l ps i = []
  | [], ps, i => by simp [cutsF]
  | a :: l, [], i => by simp [cutsF]
  | a :: l, p :: ps, i => by
    simp only [cutsF, h, Bool.and_false, Bool.false_eq_true, if_false, List.nil_append]
    exact cutsF_none rev u cs h l ps _
theorem marked_nil (c : Cut) : ∀ (l : List Atom) (i : Nat), marked [] c l i = l
  | [], i => rfl
  | a :: l, i => by simp only [marked, List.not_mem_nil, if_false, marked_nil c l]
theorem atoms_valid {l : List Atom} (h : ∀ a ∈ l, IsCP a.text) (rev : Int) (u : List Int) : ∃ ps, atomsText rev u l = List.flatten ps ∧ ∀ p ∈ ps, IsCP p := by
  refine ⟨(l.filter (visible rev u)).map Atom.text, ?_, ?_⟩
  · induction l with
    | nil => rfl
    | cons a l ih =>
      simp only [atomsText, List.filter_cons]
      rw [ih fun b hb => h b (List.mem_cons_of_mem _ hb)]
      split <;> simp
  · intro p hp
    simp only [List.mem_map, List.mem_filter] at hp
    obtain ⟨a, ⟨ha, _⟩, rfl⟩ := hp
    exact h a ha
theorem cp_ascii {b : UInt8} (h : b.toNat < 128) : IsCP [b] := ⟨by simp, by rw [pt, if_pos h]; rfl⟩
theorem check_front {s : List UInt8} (hs : ∃ ps, s = List.flatten ps ∧ ∀ p ∈ ps, IsCP p) {t : List UInt8} (ht : valid t = true) (hl : s.length + t.length ≤ 20000) : check s [⟨0, 0, t⟩] = 0 := by
  obtain ⟨ps, rfl, hp⟩ := hs
  have hv := valid_flat hp
  have he : isEdge ps.flatten 0 = true := (edge_flat hp 0).2 ⟨0, Nat.zero_le _, by simp⟩
  have hw : IntKind.i64.wrap ((0 : Int) - 0) = 0 := by decide
  have hg : gain ps.flatten.length ⟨0, 0, t⟩ = 0 := by
    simp only [gain, gain0, hw]
    rw [if_neg (show ¬ (0 : Int) < 0 by omega), if_neg (by omega)]
  have hlong : longI ps.flatten [⟨0, 0, t⟩] = 0 := by
    simp only [longI, gains, List.map_cons, List.map_nil, hg, List.sum_cons, List.sum_nil, longR]
    rw [if_neg (by omega), if_neg (by omega)]
  have hn : ¬ ((ps.flatten.length : Int) < 0) := by omega
  unfold check
  rw [if_neg (by rw [hv]; simp), if_neg (by simp)]
  simp only [errs, List.any_cons, List.any_nil, Bool.or_false, chgOut, chgIn, he, disorder, ht, hlong, decide_eq_false hn]
  rfl
/-- an edit that puts in a text at the beginning of the head's text -/
theorem edit_front {E : Eng} (h : E.Ok) (hR : E.R.Ok) (hrev : ∀ a ∈ E.l, a.rev ≤ (E.R.head : Nat)) {g rank : Int} {b : UInt8} (hb : b.toNat < 128) (hg0 : 0 ≤ g) (hg1 : g < 60) (hgo : g ∉ E.R.gone) (hh : E.R.head < 200) (hr0 : 0 ≤ rank) (hr1 : rank ≤ 1000000) (hlen : E.l.length < 4000) :
    editE E (E.R.head : Nat) g rank [⟨0, 0, [b]⟩] = (⟨⟨[b], (E.R.head : Int) + 1, g, rank, []⟩ :: E.l, { E.R.push E.R.top with grp := insS g E.R.grp }⟩, (E.R.head : Int) + 1, 0) := by
  have hcp := cp_ascii hb
  have hv := atoms_valid h.txt (E.R.head : Nat) (E.R.undone (E.R.head : Nat))
  have hle := atomsText_le (E.R.head : Nat) (E.R.undone (E.R.head : Nat)) h.txt
  have hck : check (E.text (E.R.head : Nat)) [⟨0, 0, [b]⟩] = 0 := check_front hv (valid_iff.2 ⟨[[b]], by simp, by simpa using hcp⟩) (by simp only [Eng.text, List.length_cons, List.length_nil]; omega)
  have hck' : check (atomsText (E.R.head : Nat) (E.R.undone (E.R.head : Nat)) E.l) [⟨0, 0, [b]⟩] = 0 := hck
  have hadd := add_good (R := E.R) hgo hg0 hg1 hh
  have hspot : spot E.l (places (E.R.head : Nat) (E.R.undone (E.R.head : Nat)) E.l 0) (E.R.head : Nat) (E.R.undone (E.R.head : Nat)) 0 rank = 0 := by
    unfold spot
    rw [spotF_low _ _ _ _ _ _ _ (places_nonneg _ _ _ _)]
    simp only [List.drop_zero]
    cases hE : E.l with
    | nil => rfl
    | cons a l =>
      have := hrev a (by rw [hE]; simp)
      rw [spotG, if_neg (by omega)]
  have hup : upon E.l (E.R.head : Nat) (E.R.undone (E.R.head : Nat)) [⟨0, 0, [b]⟩] ((E.R.head : Int) + 1) g rank = ⟨[b], (E.R.head : Int) + 1, g, rank, []⟩ :: E.l := by
    rw [upon, if_pos hck']
    have hct : cuts E.l (E.R.head : Nat) (E.R.undone (E.R.head : Nat)) [⟨0, 0, [b]⟩] = [] := by
      rw [cuts, if_pos hck']
      refine cutsF_none _ _ _ (fun p => ?_) _ _ _
      simp only [cutHit, List.any_cons, List.any_nil, Bool.or_false, Bool.and_eq_false_iff, decide_eq_false_iff_not]
      omega
    rw [hct, marked_nil]
    simp only [spotsN, List.map_cons, List.map_nil, hspot, List.zip_cons_cons, List.zip_nil_left, merged, List.take_zero, List.drop_nil, List.nil_append, List.drop_zero, ptsOf, pts_one hcp, Option.getD_some, newAtoms, List.singleton_append]
  have hlv := Eng.live_head hR
  have htl : ∀ (rev : Int) (u : List Int), (atomsText rev u (⟨[b], (E.R.head : Int) + 1, g, rank, []⟩ :: E.l)).length ≤ 20000 := fun rev u => by
    have := atomsText_le (l := ⟨[b], (E.R.head : Int) + 1, g, rank, []⟩ :: E.l) rev u (by
      intro a ha
      rcases List.mem_cons.1 ha with rfl | ha
      · exact hcp
      · exact h.txt a ha)
    simp only [List.length_cons] at this; omega
  rw [editE, if_neg (by simp [hlv]), if_neg (by simp [hck]), hadd, if_neg (by simp), if_neg (by omega), hup, if_neg (by simp only [List.length_cons]; omega), if_neg (by simp only [Eng.text]; exact Nat.not_lt.2 (htl _ _))]
theorem short_text {l : List Atom} (hl : l.length ≤ 4000) (hc : ∀ a ∈ l, IsCP a.text) (rev : Int) (u : List Int) : (atomsText rev u l).length ≤ 20000 := by have := atomsText_le rev u hc; omega
end Go.Proofs.Ytmjngohmcljfjaa.M
set_option linter.unusedSimpArgs false
set_option linter.unusedVariables false
set_option maxRecDepth 100000
namespace Go.Proofs.Ytmjngohmcljfjaa.M
open Go Go.Mini
/-! ### Elder texts stay -/
theorem atomsText_append (rev : Int) (u : List Int) : ∀ l m : List Atom, atomsText rev u (l ++ m) = atomsText rev u l ++ atomsText rev u m
  | [], m => rfl
  | a :: l, m => by simp only [List.cons_append, atomsText, atomsText_append rev u l m, List.append_assoc]
theorem atomsText_none (rev : Int) (u : List Int) : ∀ l : List Atom, (∀ a ∈ l, visible rev u a = false) → atomsText rev u l = []
  | [], _ => rfl
  | a :: l, h => by simp only [atomsText, h a (by simp), Bool.false_eq_true, if_false, List.nil_append, atomsText_none rev u l fun b hb => h b (List.mem_cons_of_mem _ hb)]
theorem visible_late {rev now : Int} {u : List Int} {a : Atom} {c : Cut} (hc : c.rev = now) (h : rev < now) : visible rev u { a with cuts := a.cuts ++ [c] } = visible rev u a := by
  have : cutHolds rev u c = false := by simp only [cutHolds, Bool.and_eq_false_iff, decide_eq_false_iff_not]; exact .inl (by omega)
  simp only [visible, List.any_append, List.any_cons, this, List.any_nil, Bool.or_false]
theorem marked_elder {rev now : Int} {u ct : List Int} {c : Cut} (hc : c.rev = now) (h : rev < now) : ∀ (l : List Atom) (i : Nat), atomsText rev u (marked ct c l i) = atomsText rev u l
  | [], _ => rfl
  | a :: l, i => by
    simp only [marked, atomsText, marked_elder hc h l (i + 1)]
    split
    · rw [visible_late hc h]
    · rfl
/-- a merge whose new atoms aren't seen -/
theorem merged_elder {new : List UInt8 → List Atom} {mk : List Atom} {rev : Int} {u : List Int} (hn : ∀ t, ∀ a ∈ new t, visible rev u a = false) : ∀ (r : List (Nat × List UInt8)) (at' : Nat), (r.map Prod.fst).Pairwise (· ≤ ·) → (∀ k ∈ r.map Prod.fst, at' ≤ k ∧ k ≤ mk.length) → atomsText rev u (merged new mk r at') = atomsText rev u (mk.drop at')
  | [], at', _, _ => rfl
  | (k, t) :: r, at', hs, hl => by
    have hk := hl k (by simp)
    have ih := merged_elder hn r k hs.of_cons fun q hq => ⟨List.rel_of_pairwise_cons hs hq, (hl q (List.mem_cons_of_mem _ hq)).2⟩
    rw [merged_cons, atomsText_append, atomsText_append, ih, atomsText_none rev u (new t) (hn t), List.append_nil, ← atomsText_append]
    congr 1
    have : mk.drop at' = (mk.take k).drop at' ++ mk.drop k := by
      conv => lhs; rw [← List.take_append_drop k mk]
      rw [List.drop_append_of_le_length (by rw [List.length_take]; omega)]
    rw [this]
theorem zip_fst {α β : Type} : ∀ (l : List α) (m : List β), (l.zip m).map Prod.fst = l.take m.length
  | [], m => by simp
  | a :: l, [] => by simp
  | a :: l, b :: m => by simp [zip_fst l m]
theorem upon_elder {l : List Atom} {base : Int} {u0 : List Int} {cs : List Chg} {now group rank rev : Int} {u : List Int} (h : rev < now) : atomsText rev u (upon l base u0 cs now group rank) = atomsText rev u l := by
  unfold upon
  split
  · rename_i h0
    obtain ⟨h1, h2⟩ := spotsN_sorted rank h0
    have hf : ((spotsN l base u0 cs rank).zip (cs.map Chg.text)).map Prod.fst = spotsN l base u0 cs rank := by
      rw [zip_fst, List.take_of_length_le]; simp [spotsN]
    rw [merged_elder (fun t a ha => ?_) _ _ (by rw [hf]; exact h1) (by rw [hf, marked_len]; exact fun k hk => ⟨Nat.zero_le _, h2 k hk⟩), List.drop_zero, marked_elder rfl h]
    simp only [newAtoms, List.mem_map] at ha
    obtain ⟨b, _, rfl⟩ := ha
    simp only [visible, Bool.and_eq_false_iff, decide_eq_false_iff_not]
    exact .inl (.inl (by omega))
  · rfl
theorem live_push {R : Revs} {s : List Int} {n : Int} (h : R.Ok) : (R.push s).live n = true ↔ R.live n = true ∨ n = ((R.head + 1 : Nat) : Int) := by
  have hl := List.length_pos_iff.2 h.one
  rw [live_iff, live_iff]
  simp only [Revs.push, List.length_append, List.length_cons, List.length_nil, Revs.head]; omega
theorem undone_grp (R : Revs) (g : List Int) (n : Int) : Revs.undone { R with grp := g } n = R.undone n := rfl
theorem live_grp (R : Revs) (g : List Int) (n : Int) : Revs.live { R with grp := g } n = R.live n := rfl
/-- whatever is edited or toggled: elder revisions stay live, their texts stay -/
theorem edit_elder {E E' : Eng} {base group rank n : Int} {cs : List Chg} (hR : E.R.Ok) (e : editE E base group rank cs = (E', n, 0)) : n = ((E.R.head + 1 : Nat) : Int) ∧ E'.R.head = E.R.head + 1 ∧ E'.R.floor = E.R.floor ∧ ∀ k : Int, E.R.live k = true → E'.R.live k = true ∧ E'.text k = E.text k := by
  unfold editE at e
  split at e
  · cases e
  split at e
  · rename_i h2; simp only [Prod.mk.injEq] at e; exact absurd e.2.2 h2
  split at e
  · rename_i h2; simp only [Prod.mk.injEq] at e; exact absurd e.2.2 h2
  rename_i h3
  split at e
  · cases e
  split at e
  · cases e
  split at e
  · cases e
  obtain ⟨_, _, _, hh, e1, e2⟩ := addR_ok (by simpa using h3) hR
  cases e
  refine ⟨by rw [e1]; rfl, e2, by rw [e1]; rfl, fun k hk => ?_⟩
  have hlv := live_iff.1 hk
  have hl := List.length_pos_iff.2 hR.one
  refine ⟨by rw [e1]; exact (live_push hR).2 (.inl hk), ?_⟩
  simp only [Eng.text, e1]
  rw [upon_elder (by simp only [Revs.head]; omega), undone_grp, undone_push _ hR hk]
theorem toggle_elder {E E' : Eng} {g n : Int} (hR : E.R.Ok) (e : toggleE E g = (E', n, 0)) : n = ((E.R.head + 1 : Nat) : Int) ∧ E'.R.head = E.R.head + 1 ∧ E'.R.floor = E.R.floor ∧ ∀ k : Int, E.R.live k = true → E'.R.live k = true ∧ E'.text k = E.text k := by
  unfold toggleE at e
  split at e
  · rename_i h2; simp only [Prod.mk.injEq] at e; exact absurd e.2.2 h2
  rename_i h3
  split at e
  · cases e
  obtain ⟨_, hh, e1, e2⟩ := toggleR_ok (by simpa using h3) hR
  cases e
  refine ⟨by rw [e1]; rfl, e2, by rw [e1]; rfl, fun k hk => ?_⟩
  refine ⟨by rw [e1]; exact (live_push hR).2 (.inl hk), ?_⟩
  simp only [Eng.text, e1]
  rw [undone_push _ hR hk]
theorem edit_fail {E E' : Eng} {base group rank n c : Int} {cs : List Chg} (e : editE E base group rank cs = (E', n, c)) (hc : c ≠ 0) : E' = E ∧ n = 0 := by
  unfold editE at e
  repeat' split at e
  all_goals
    simp only [Prod.mk.injEq] at e
    first | exact ⟨e.1.symm, e.2.1.symm⟩ | exact absurd e.2.2.symm hc
theorem toggle_fail {E E' : Eng} {g n c : Int} (e : toggleE E g = (E', n, c)) (hc : c ≠ 0) : E' = E ∧ n = 0 := by
  unfold toggleE at e
  repeat' split at e
  all_goals
    simp only [Prod.mk.injEq] at e
    first | exact ⟨e.1.symm, e.2.1.symm⟩ | exact absurd e.2.2.symm hc
theorem atomsText_congr {r r' : Int} {u u' : List Int} : ∀ {l : List Atom}, (∀ a ∈ l, visible r u a = visible r' u' a) → atomsText r u l = atomsText r' u' l
  | [], _ => rfl
  | a :: l, h => by simp only [atomsText, h a (by simp), atomsText_congr fun b hb => h b (List.mem_cons_of_mem _ hb)]
theorem holds_congr {u u' : List Int} (h : ∀ x, x ∈ u ↔ x ∈ u') (g : Int) : holds u g = holds u' g := by simp only [holds, h g]
theorem tmod_nat {a : Int} {n : Nat} (h0 : 0 ≤ a) (hn : 0 < n) : a.tmod (n : Int) = ((a.toNat % n : Nat) : Int) := by
  rw [Int.tmod_eq_emod_of_nonneg h0]
  obtain ⟨b, rfl⟩ : ∃ b : Nat, a = (b : Int) := ⟨a.toNat, by omega⟩
  rw [Int.toNat_natCast]; exact (Int.natCast_emod b n).symm
end Go.Proofs.Ytmjngohmcljfjaa.M
set_option linter.unusedSimpArgs false
set_option linter.unusedVariables false
set_option maxRecDepth 100000
namespace Go.Proofs.Ytmjngohmcljfjaa.M
open Go Go.Mini
/-! ### What comes of changes -/
/-- a text with changes, from a byte on -/
def doF (s : List UInt8) : List Chg → Nat → List UInt8
  | [], at' => s.drop at'
  | c :: l, at' => (s.take c.frm.toNat).drop at' ++ c.text ++ doF s l c.to.toNat
def doS (s : List UInt8) (l : List Chg) : List UInt8 := if check s l = 0 then doF s l 0 else s
/-- changes one behind the other -/
def OrdC (n : Nat) : List Chg → Int → Prop
  | [], at' => at' ≤ (n : Int)
  | c :: l, at' => at' ≤ c.frm ∧ c.frm ≤ c.to ∧ c.to ≤ (n : Int) ∧ OrdC n l c.to
theorem OrdC.low {n : Nat} : ∀ {l : List Chg} {at' : Int}, OrdC n l at' → ∀ c ∈ l, at' ≤ c.frm
  | [], _, _, c, h => by cases h
  | d :: l, at', h, c, hc => by
    obtain ⟨h1, h2, h3, h4⟩ := h
    rcases List.mem_cons.1 hc with rfl | hc
    · exact h1
    · have := h4.low c hc; omega
theorem OrdC.le {n : Nat} : ∀ {l : List Chg} {at' : Int}, OrdC n l at' → at' ≤ (n : Int)
  | [], _, h => h
  | d :: l, at', ⟨h1, h2, h3, h4⟩ => by omega
theorem ord_of {s : List UInt8} : ∀ {l : List Chg} {at' : Int}, l.any (chgOut s) = false → disorder l = false → at' ≤ (s.length : Int) → (∀ c, l.head? = some c → at' ≤ c.frm) → OrdC s.length l at'
  | [], at', _, _, h, _ => h
  | [c], at', h1, _, _, h3 => by
    simp only [List.any_cons, List.any_nil, Bool.or_false, chgOut, Bool.or_eq_false_iff, decide_eq_false_iff_not] at h1
    exact ⟨h3 c rfl, by omega, by omega, by simp only [OrdC]; omega⟩
  | c :: d :: l, at', h1, h2, _, h3 => by
    rw [List.any_cons, Bool.or_eq_false_iff] at h1
    rw [disorder, Bool.or_eq_false_iff] at h2
    have h4 := h1.1
    simp only [chgOut, Bool.or_eq_false_iff, decide_eq_false_iff_not] at h4
    have h5 := h2.1
    simp only [chgBad, Bool.or_eq_false_iff, decide_eq_false_iff_not] at h5
    refine ⟨h3 c rfl, by omega, by omega, ord_of h1.2 h2.2 (by omega) fun e he => ?_⟩
    simp at he; subst he; omega
theorem check_ord {s : List UInt8} {l : List Chg} (h : check s l = 0) : OrdC s.length l 0 := by
  obtain ⟨_, _, h1, _, h2, _, _⟩ := check_zero h
  refine ord_of h1 h2 (by omega) fun c hc => ?_
  have hm : c ∈ l := by cases l with | nil => cases hc | cons d l => simp at hc; subst hc; simp
  rw [List.any_eq_false] at h1
  have := h1 c hm
  simp only [chgOut, Bool.or_eq_true, decide_eq_true_eq, not_or] at this
  omega
section
variable {r : Int} {u : List Int}
def posT (r : Int) (u : List Int) (l : List Atom) (j : Nat) : Nat := (atomsText r u (l.take j)).length
theorem take_text {l : List Atom} {j : Nat} (h : j < l.length) : atomsText r u (l.take (j + 1)) = atomsText r u (l.take j) ++ (if visible r u l[j] then l[j].text else []) := by
  rw [List.take_succ_eq_append_getElem h, atomsText_append]
  simp only [atomsText, List.append_nil]
theorem posT_succ {l : List Atom} {j : Nat} (h : j < l.length) : posT r u l (j + 1) = posT r u l j + (if visible r u l[j] then l[j].text.length else 0) := by
  simp only [posT]; rw [take_text h, List.length_append]
  split <;> rfl
theorem posT_step (l : List Atom) (j : Nat) : posT r u l j ≤ posT r u l (j + 1) := by
  by_cases h : j < l.length
  · rw [posT_succ h]; omega
  · simp only [posT]; rw [List.take_of_length_le (by omega), List.take_of_length_le (by omega)]; exact Nat.le_refl _
theorem posT_mono (l : List Atom) {i j : Nat} (h : i ≤ j) : posT r u l i ≤ posT r u l j := by
  induction j with
  | zero => have : i = 0 := by omega
            subst this; exact Nat.le_refl _
  | succ j ih =>
    by_cases e : i = j + 1
    · subst e; exact Nat.le_refl _
    · exact Nat.le_trans (ih (by omega)) (posT_step l j)
theorem places_at : ∀ (l : List Atom) (p0 j : Nat), j ≤ l.length → (places r u l p0)[j]? = some ((p0 + posT r u l j : Nat) : Int)
  | [], p0, j, h => by
    have : j = 0 := by simp at h; exact h
    subst this; rfl
  | a :: l, p0, 0, h => rfl
  | a :: l, p0, j + 1, h => by
    simp only [places, List.getElem?_cons_succ]
    rw [places_at l _ j (by simpa using h)]
    have e : posT r u (a :: l) (j + 1) = (if visible r u a then a.text.length else 0) + posT r u l j := by
      simp only [posT, List.take_succ_cons, atomsText, List.length_append]
      split <;> rfl
    rw [e, ← Nat.add_assoc]
theorem spotF_spec (x : Int) : ∀ (l : List Atom) (ps : List Int) (i acc : Nat), acc ≤ i →
    (∀ (j : Nat) (a : Atom) (p : Int), l[j]? = some a → ps[j]? = some p → spotF r u x l ps i acc ≤ i + j → visible r u a = true → x ≤ p) ∧
    (spotF r u x l ps i acc = acc ∨ ∃ (j : Nat) (a : Atom) (p : Int), l[j]? = some a ∧ ps[j]? = some p ∧ spotF r u x l ps i acc = i + j + 1 ∧ visible r u a = true ∧ p < x)
  | [], ps, i, acc, h => ⟨fun j a p h1 => by simp at h1, .inl (by simp [spotF])⟩
  | a :: l, [], i, acc, h => ⟨fun j a p _ h1 => by simp at h1, .inl (by simp [spotF])⟩
  | a :: l, p :: ps, i, acc, h => by
    simp only [spotF]
    obtain ⟨h1, h2⟩ := spotF_spec x l ps (i + 1) (if p < x ∧ visible r u a = true then i + 1 else acc) (by split <;> omega)
    refine ⟨fun j b q hb hq hle hv => ?_, ?_⟩
    · cases j with
      | zero =>
        simp at hb hq
        subst hb; subst hq
        refine Int.not_lt.1 fun hlt => ?_
        rw [if_pos ⟨hlt, hv⟩] at h2 hle
        rcases h2 with h2 | ⟨j, _, _, _, _, h2, _⟩ <;> omega
      | succ j => exact h1 j b q (by simpa using hb) (by simpa using hq) (by omega) hv
    · rcases h2 with h2 | ⟨j, b, q, hb, hq, h2, h3⟩
      · by_cases hc : p < x ∧ visible r u a = true
        · rw [if_pos hc] at h2 ⊢
          exact .inr ⟨0, a, p, rfl, rfl, h2, hc.2, hc.1⟩
        · rw [if_neg hc] at h2 ⊢
          exact .inl h2
      · exact .inr ⟨j + 1, b, q, by simpa using hb, by simpa using hq, by omega, h3⟩
/-- the atom behind the last one that is seen ahead of a byte -/
def spotK (r : Int) (u : List Int) (l : List Atom) (x : Int) : Nat := spotF r u x l (places r u l 0) 0 0
theorem spotK_le (l : List Atom) (x : Int) : spotK r u l x ≤ l.length := by
  have := spotF_le r u x l (places r u l 0) 0 0 (Nat.le_refl _)
  simpa [spotK] using this
theorem spotK_ge {l : List Atom} {x : Int} {j : Nat} (hj : j < l.length) (h : spotK r u l x ≤ j) (hv : visible r u l[j] = true) : x ≤ (posT r u l j : Int) := by
  have h1 := (spotF_spec (r := r) (u := u) x l (places r u l 0) 0 0 (Nat.le_refl _)).1 j l[j] _ (List.getElem?_eq_getElem hj) (places_at l 0 j (by omega)) (by simp only [spotK] at h; omega) hv
  simpa using h1
theorem spotK_lt {l : List Atom} {x : Int} {j : Nat} (h : j < spotK r u l x) : (posT r u l j : Int) < x := by
  rcases (spotF_spec (r := r) (u := u) x l (places r u l 0) 0 0 (Nat.le_refl _)).2 with h2 | ⟨i, a, p, ha, hp, h2, hv, hlt⟩
  · simp only [spotK] at h; omega
  · have hi : i < l.length := (List.getElem?_eq_some_iff.1 ha).1
    rw [places_at l 0 i (by omega)] at hp
    cases hp
    have : j ≤ i := by simp only [spotK] at h; omega
    have := posT_mono (r := r) (u := u) l this
    omega
theorem spotK_mono (l : List Atom) {x y : Int} (h : x ≤ y) : spotK r u l x ≤ spotK r u l y := spotF_mono r u h l (places r u l 0) 0 0 0 (Nat.le_refl _) (Nat.le_refl _)
theorem text_take {l : List Atom} {k : Nat} : atomsText r u (l.take k) = (atomsText r u l).take (posT r u l k) := by
  have : atomsText r u l = atomsText r u (l.take k) ++ atomsText r u (l.drop k) := by rw [← atomsText_append, List.take_append_drop]
  rw [this, posT, List.take_left]
/-- a byte that begins an atom, or the end -/
def Bnd (r : Int) (u : List Int) (l : List Atom) (x : Int) : Prop := ∃ j, j ≤ l.length ∧ x = (posT r u l j : Int)
theorem spotK_pos {l : List Atom} (hcp : ∀ a ∈ l, IsCP a.text) {x : Int} (hb : Bnd r u l x) : (posT r u l (spotK r u l x) : Int) = x := by
  obtain ⟨j0, hj0, rfl⟩ := hb
  have hK := spotK_le (r := r) (u := u) l (posT r u l j0 : Int)
  generalize hk : spotK r u l (posT r u l j0 : Int) = K at hK
  have h1 : posT r u l K ≤ posT r u l j0 := by
    rcases Nat.eq_zero_or_pos K with h0 | h0
    · rw [h0]; exact posT_mono l (Nat.zero_le _)
    · have := spotK_lt (r := r) (u := u) (l := l) (x := (posT r u l j0 : Int)) (j := K - 1) (by omega)
      refine posT_mono l (Nat.not_lt.1 fun hlt => ?_)
      have := posT_mono (r := r) (u := u) l (show j0 ≤ K - 1 by omega)
      omega
  have h2 : posT r u l j0 ≤ posT r u l K := by
    rcases Nat.lt_or_ge K j0 with hlt | hge
    · have key : ∀ d, K + d ≤ j0 → posT r u l (K + d) = posT r u l K := by
        intro d
        induction d with
        | zero => intro _; rfl
        | succ d ih =>
          intro hd
          have hi := ih (by omega)
          have hlt2 : K + d < l.length := by omega
          have hs := posT_succ (r := r) (u := u) hlt2
          by_cases hv : visible r u l[K + d] = true
          · have h3 := spotK_ge (x := (posT r u l j0 : Int)) hlt2 (by omega) hv
            rw [if_pos hv] at hs
            have h4 := (cp_len (hcp _ (List.getElem_mem hlt2))).1
            have h5 := posT_mono (r := r) (u := u) l (show K + d + 1 ≤ j0 by omega)
            omega
          · rw [if_neg hv] at hs
            rw [show K + (d + 1) = K + d + 1 by omega, hs]; omega
      have := key (j0 - K) (by omega)
      rw [show K + (j0 - K) = j0 by omega] at this
      omega
    · exact posT_mono l hge
  omega
theorem bnd_edge {l : List Atom} (hcp : ∀ a ∈ l, IsCP a.text) {x : Int} (h : isEdge (atomsText r u l) x = true) : Bnd r u l x := by
  have key : ∀ (l : List Atom) (j : Nat), j ≤ (l.filter (visible r u)).length → ∃ j0, j0 ≤ l.length ∧ (((l.filter (visible r u)).map Atom.text).take j).flatten = atomsText r u (l.take j0) := by
    intro l
    induction l with
    | nil => intro j _; exact ⟨0, Nat.le_refl _, by simp [atomsText]⟩
    | cons a l ih =>
      intro j hj
      cases hv : visible r u a with
      | false =>
        rw [List.filter_cons, if_neg (by simp [hv])] at hj ⊢
        obtain ⟨j0, h1, h2⟩ := ih j hj
        exact ⟨j0 + 1, by simp; omega, by rw [h2]; simp only [List.take_succ_cons, atomsText, hv]; simp⟩
      | true =>
        rw [List.filter_cons, if_pos hv] at hj ⊢
        cases j with
        | zero => exact ⟨0, Nat.zero_le _, by simp [atomsText]⟩
        | succ j =>
          obtain ⟨j0, h1, h2⟩ := ih j (by simpa using hj)
          exact ⟨j0 + 1, by simp; omega, by rw [List.map_cons, List.take_succ_cons, List.flatten_cons, h2]; simp only [List.take_succ_cons, atomsText, hv]; simp⟩
  have hfl : ∀ l : List Atom, atomsText r u l = ((l.filter (visible r u)).map Atom.text).flatten := by
    intro l
    induction l with
    | nil => rfl
    | cons a l ih =>
      simp only [atomsText, List.filter_cons, ih]
      split <;> simp
  have hps : ∀ p ∈ (l.filter (visible r u)).map Atom.text, IsCP p := by
    intro p hp
    simp only [List.mem_map, List.mem_filter] at hp
    obtain ⟨a, ⟨ha, _⟩, rfl⟩ := hp
    exact hcp a ha
  rw [hfl l] at h
  obtain ⟨j, hj, rfl⟩ := (edge_flat hps x).1 h
  rw [List.length_map] at hj
  obtain ⟨j0, h1, h2⟩ := key l j hj
  exact ⟨j0, h1, by rw [posT, h2]⟩
/-- the atoms from a byte on -/
def segT (r : Int) (u : List Int) (Q : Int → Bool) : List Atom → Nat → List UInt8
  | [], _ => []
  | a :: l, p => (if visible r u a && Q p then a.text else []) ++ segT r u Q l (p + (if visible r u a then a.text.length else 0))
theorem segT_congr {Q Q' : Int → Bool} : ∀ {l : List Atom} {p : Nat}, (∀ (j : Nat) (hj : j < l.length), visible r u l[j] = true → Q ((p + posT r u l j : Nat) : Int) = Q' ((p + posT r u l j : Nat) : Int)) → segT r u Q l p = segT r u Q' l p
  | [], p, _ => rfl
  | a :: l, p, h => by
    have ih := segT_congr (Q := Q) (Q' := Q') (l := l) (p := p + (if visible r u a then a.text.length else 0)) (fun j hj hv => by
      have := h (j + 1) (by simp; omega) (by simpa using hv)
      have e : posT r u (a :: l) (j + 1) = (if visible r u a then a.text.length else 0) + posT r u l j := by
        simp only [posT, List.take_succ_cons, atomsText, List.length_append]
        split <;> rfl
      rw [e, ← Nat.add_assoc] at this
      exact this)
    simp only [segT, ih]
    congr 1
    cases hv : visible r u a with
    | false => simp
    | true =>
      have h0 := h 0 (by simp) (by simpa using hv)
      simp only [posT, List.take_zero, atomsText, List.length_nil, Nat.add_zero] at h0
      rw [h0]
theorem segT_from (x : Int) : ∀ {l : List Atom} {p : Nat}, (∀ a ∈ l, IsCP a.text) → (x ≤ (p : Int) ∨ ∃ j, j ≤ l.length ∧ x = ((p + posT r u l j : Nat) : Int)) → segT r u (fun q => decide (x ≤ q)) l p = (atomsText r u l).drop (x - (p : Int)).toNat
  | [], p, _, _ => by simp [segT, atomsText]
  | a :: l, p, hcp, hb => by
    have hl := cp_len (hcp a (by simp))
    simp only [segT, atomsText]
    have hpos : ∀ j, posT r u (a :: l) (j + 1) = (if visible r u a then a.text.length else 0) + posT r u l j := fun j => by
      simp only [posT, List.take_succ_cons, atomsText, List.length_append]
      split <;> rfl
    have hnext : x ≤ ((p + (if visible r u a then a.text.length else 0) : Nat) : Int) ∨ ∃ j, j ≤ l.length ∧ x = ((p + (if visible r u a then a.text.length else 0) + posT r u l j : Nat) : Int) := by
      rcases hb with h | ⟨j, hj, rfl⟩
      · left; split <;> omega
      · cases j with
        | zero => left; simp only [posT, List.take_zero, atomsText, List.length_nil]; split <;> omega
        | succ j => right; exact ⟨j, by simpa using hj, by rw [hpos, ← Nat.add_assoc]⟩
    rw [segT_from x (fun b hb => hcp b (List.mem_cons_of_mem _ hb)) hnext]
    cases hv : visible r u a with
    | false => simp
    | true =>
      simp only [Bool.true_and, if_true, decide_eq_true_eq]
      by_cases hx : x ≤ (p : Int)
      · rw [if_pos hx, show (x - (p : Int)).toNat = 0 by omega, show (x - ((p + a.text.length : Nat) : Int)).toNat = 0 by omega]; simp
      · rw [if_neg hx, List.nil_append]
        have hge : ((p + a.text.length : Nat) : Int) ≤ x := by
          rcases hb with h | ⟨j, hj, rfl⟩
          · exact absurd h hx
          · cases j with
            | zero => simp [posT, atomsText] at hx
            | succ j => rw [hpos, hv, if_pos rfl]; omega
        rw [show (x - (p : Int)).toNat = a.text.length + (x - ((p + a.text.length : Nat) : Int)).toNat by omega, ← List.drop_drop, List.drop_left]
end
end Go.Proofs.Ytmjngohmcljfjaa.M
set_option linter.unusedSimpArgs false
set_option linter.unusedVariables false
set_option maxRecDepth 100000
namespace Go.Proofs.Ytmjngohmcljfjaa.M
open Go Go.Mini
theorem marked_drop (ct : List Int) (c : Cut) : ∀ (l : List Atom) (i k : Nat), (marked ct c l i).drop k = marked ct c (l.drop k) (i + k)
  | l, i, 0 => rfl
  | [], i, k + 1 => by simp [marked]
  | a :: l, i, k + 1 => by
    simp only [marked, List.drop_succ_cons]
    rw [marked_drop ct c l (i + 1) k, show i + 1 + k = i + (k + 1) by omega]
theorem marked_take (ct : List Int) (c : Cut) : ∀ (l : List Atom) (i k : Nat), (marked ct c l i).take k = marked ct c (l.take k) i
  | l, i, 0 => by simp [marked]
  | [], i, k + 1 => by simp [marked]
  | a :: l, i, k + 1 => by simp only [marked, List.take_succ_cons, marked_take ct c l (i + 1) k]
theorem mem_cutsF {r : Int} {u : List Int} {cs : List Chg} : ∀ {l : List Atom} {ps : List Int} {i : Nat} {x : Int}, x ∈ cutsF r u cs l ps i ↔ ∃ (j : Nat) (a : Atom) (p : Int), l[j]? = some a ∧ ps[j]? = some p ∧ x = ((i + j : Nat) : Int) ∧ visible r u a = true ∧ cutHit cs p = true
  | [], ps, i, x => by simp [cutsF]
  | a :: l, [], i, x => by simp [cutsF]
  | a :: l, p :: ps, i, x => by
    rw [cutsF, List.mem_append, mem_cutsF (l := l)]
    constructor
    · rintro (h | ⟨j, b, q, h1, h2, h3, h4, h5⟩)
      · split at h
        · rename_i hc
          rw [Bool.and_eq_true] at hc
          simp at h
          exact ⟨0, a, p, rfl, rfl, by simpa using h, hc.1, hc.2⟩
        · cases h
      · exact ⟨j + 1, b, q, by simpa using h1, by simpa using h2, by omega, h4, h5⟩
    · rintro ⟨j, b, q, h1, h2, h3, h4, h5⟩
      cases j with
      | zero =>
        simp at h1 h2
        subst h1; subst h2
        left; rw [if_pos (by simp [h4, h5])]; simp [h3]
      | succ j => exact .inr ⟨j, b, q, by simpa using h1, by simpa using h2, by omega, h4, h5⟩
section
variable {h now g rank : Int} {u : List Int}
/-- an elder atom, seen later -/
theorem visible_old {a : Atom} (ho : a.rev ≤ h ∧ ∀ c ∈ a.cuts, c.rev ≤ h) (hn : h < now) : visible now u a = visible h u a := by
  have hc : a.cuts.any (cutHolds now u) = a.cuts.any (cutHolds h u) := by
    rw [Bool.eq_iff_iff, List.any_eq_true, List.any_eq_true]
    constructor <;> rintro ⟨c, hc, hh⟩ <;> refine ⟨c, hc, ?_⟩ <;> have := ho.2 c hc <;> simp only [cutHolds, Bool.and_eq_true, decide_eq_true_eq] at hh ⊢ <;> exact ⟨by omega, hh.2⟩
  simp only [visible, hc]
  rw [decide_eq_true (show a.rev ≤ now by omega), decide_eq_true ho.1]
theorem visible_cut {a : Atom} (hg : holds u g = true) : visible now u { a with cuts := a.cuts ++ [⟨now, g⟩] } = false := by
  have : cutHolds now u ⟨now, g⟩ = true := by simp [cutHolds, hg]
  simp only [visible, List.any_append, List.any_cons, this, Bool.true_or, Bool.or_true, Bool.not_true, Bool.and_false]
theorem mark_seg (hg : holds u g = true) (hn : h < now) (Hit : Int → Bool) (ct : List Int) : ∀ {m : List Atom} {i0 p : Nat}, (∀ a ∈ m, a.rev ≤ h ∧ ∀ c ∈ a.cuts, c.rev ≤ h) → (∀ (j : Nat) (hj : j < m.length), ((i0 + j : Nat) : Int) ∈ ct ↔ visible h u m[j] = true ∧ Hit ((p + posT h u m j : Nat) : Int) = true) →
    atomsText now u (marked ct ⟨now, g⟩ m i0) = segT h u (fun q => !Hit q) m p
  | [], i0, p, _, _ => rfl
  | a :: m, i0, p, ho, hi => by
    have ih := mark_seg hg hn Hit ct (m := m) (i0 := i0 + 1) (p := p + (if visible h u a then a.text.length else 0)) (fun b hb => ho b (List.mem_cons_of_mem _ hb)) (fun j hj => by
      have := hi (j + 1) (by simp; omega)
      have e : posT h u (a :: m) (j + 1) = (if visible h u a then a.text.length else 0) + posT h u m j := by
        simp only [posT, List.take_succ_cons, atomsText, List.length_append]
        split <;> rfl
      rw [e, show i0 + (j + 1) = i0 + 1 + j by omega, ← Nat.add_assoc p] at this
      exact this)
    simp only [marked, atomsText, segT, ih]
    congr 1
    have h0 := hi 0 (by simp)
    simp only [Nat.add_zero, List.getElem_cons_zero, posT, List.take_zero, atomsText, List.length_nil] at h0
    have hv := visible_old (u := u) (ho a (by simp)) hn
    by_cases hc : (i0 : Int) ∈ ct
    · rw [if_pos hc, visible_cut hg]
      have := h0.1 hc
      simp [this.2]
    · rw [if_neg hc, hv]
      have hnot : ¬ (visible h u a = true ∧ Hit (p : Int) = true) := fun hh => hc (h0.2 hh)
      cases hva : visible h u a with
      | false => simp
      | true =>
        have : Hit (p : Int) = false := by
          cases hh : Hit (p : Int) with
          | false => rfl
          | true => exact absurd ⟨hva, hh⟩ hnot
        simp [this]
theorem posT_part {l : List Atom} {k0 k1 j : Nat} (hk : k1 ≤ l.length) (hj : k0 + j ≤ k1) : posT h u l k0 + posT h u ((l.take k1).drop k0) j = posT h u l (k0 + j) := by
  have e : l.take (k0 + j) = l.take k0 ++ ((l.take k1).drop k0).take j := by
    rw [List.take_drop, List.take_take, Nat.min_eq_left hj]
    have e2 : l.take k0 = (l.take (k0 + j)).take k0 := by rw [List.take_take, Nat.min_eq_left (by omega)]
    rw [e2, List.take_append_drop]
  simp only [posT]
  rw [e, atomsText_append, List.length_append]
theorem seg_main {l : List Atom} {ct : List Int} {cs : List Chg} (hcp : ∀ a ∈ l, IsCP a.text) (hold : ∀ a ∈ l, a.rev ≤ h ∧ ∀ c ∈ a.cuts, c.rev ≤ h) (hn : h < now) (hg : holds u g = true) (hct : ct = cutsF h u cs l (places h u l 0) 0)
    {frm to : Int} {k1 : Nat} (hf : Bnd h u l frm) (ht : Bnd h u l to) (hft : frm ≤ to) (hk1 : k1 ≤ l.length) (hk : spotK h u l to ≤ k1) (hit : ∀ (j : Nat) (hj : j < l.length), spotK h u l frm ≤ j → j < k1 → visible h u l[j] = true → cutHit cs (posT h u l j : Int) = decide ((posT h u l j : Int) < to)) :
    atomsText now u (((marked ct ⟨now, g⟩ l 0).take k1).drop (spotK h u l frm)) = (atomsText h u (l.take k1)).drop to.toNat := by
  have hk01 := spotK_mono (r := h) (u := u) l hft
  have p0 := spotK_pos hcp hf
  have pt := spotK_pos hcp ht
  have hf0 : 0 ≤ frm := by omega
  generalize hk0 : spotK h u l frm = k0 at hit p0 hk01
  generalize hkt : spotK h u l to = kt at hk pt hk01
  rw [marked_take, marked_drop, Nat.zero_add]
  have hml : ((l.take k1).drop k0).length = k1 - k0 := by rw [List.length_drop, List.length_take]; omega
  have hmg : ∀ (j : Nat) (hj : j < ((l.take k1).drop k0).length), ((l.take k1).drop k0)[j] = l[k0 + j]'(by omega) := fun j hj => by
    rw [List.getElem_drop, List.getElem_take]
  have hmem : ∀ a ∈ (l.take k1).drop k0, a ∈ l := fun a ha => List.mem_of_mem_take (List.mem_of_mem_drop ha)
  rw [mark_seg (m := (l.take k1).drop k0) (p := posT h u l k0) hg hn (cutHit cs) ct (fun a ha => hold a (hmem a ha)) (fun j hj => by
    rw [hct, mem_cutsF, hmg j hj, posT_part hk1 (by omega)]
    constructor
    · rintro ⟨i, a, p, h1, h2, h3, h4, h5⟩
      have hi : i = k0 + j := by omega
      subst hi
      rw [List.getElem?_eq_getElem (by omega)] at h1
      cases h1
      rw [places_at l 0 (k0 + j) (by omega)] at h2
      cases h2
      rw [Nat.zero_add] at h5
      exact ⟨h4, h5⟩
    · rintro ⟨h1, h2⟩
      exact ⟨k0 + j, _, _, List.getElem?_eq_getElem (by omega), places_at l 0 (k0 + j) (by omega), by omega, h1, by rw [Nat.zero_add]; exact h2⟩)]
  rw [segT_congr (Q' := fun q => decide (to ≤ q)) (fun j hj hv => by
    rw [hmg j hj] at hv
    have := hit (k0 + j) (by omega) (by omega) (by omega) hv
    rw [posT_part hk1 (by omega)]
    simp only [this]
    by_cases hlt : (posT h u l (k0 + j) : Int) < to
    · rw [decide_eq_true hlt, decide_eq_false (by omega)]; rfl
    · rw [decide_eq_false hlt, decide_eq_true (by omega)]; rfl)]
  rw [segT_from to (fun a ha => hcp a (hmem a ha)) (.inr ⟨kt - k0, by omega, by rw [posT_part hk1 (by omega), show k0 + (kt - k0) = kt by omega]; exact pt.symm⟩)]
  have e : atomsText h u (l.take k1) = atomsText h u (l.take k0) ++ atomsText h u ((l.take k1).drop k0) := by
    rw [← atomsText_append]
    congr 1
    have e2 : l.take k0 = (l.take k1).take k0 := by rw [List.take_take, Nat.min_eq_left (by omega)]
    rw [e2, List.take_append_drop]
  rw [e]
  have hlen : (atomsText h u (l.take k0)).length = frm.toNat := by
    have : (posT h u l k0 : Int) = frm := p0
    simp only [posT] at this; omega
  rw [show to.toNat = frm.toNat + (to - frm).toNat by omega, ← List.drop_drop, ← hlen, List.drop_left]
  congr 1
  have : (posT h u l k0 : Int) = frm := p0
  omega
theorem new_text (hg : holds u g = true) {t : List UInt8} (ht : valid t = true) : atomsText now u (newAtoms now g rank (ptsOf t)) = t := by
  obtain ⟨ps, hp⟩ := Option.isSome_iff_exists.1 ht
  obtain ⟨h1, h2⟩ := pts_cp _ t ps (Nat.le_refl _) hp
  have e : ptsOf t = ps := by rw [ptsOf, hp]; rfl
  rw [e, h1]
  clear hp e h1 ht
  induction ps with
  | nil => rfl
  | cons p ps ih =>
    have hv : visible now u ⟨p, now, g, rank, []⟩ = true := by simp [visible, hg]
    simp only [newAtoms, List.map_cons, atomsText, hv, if_true, List.flatten_cons]
    congr 1
    exact ih fun q hq => h2 q (List.mem_cons_of_mem _ hq)
theorem merged_text {l : List Atom} {ct : List Int} {CS : List Chg} (hcp : ∀ a ∈ l, IsCP a.text) (hold : ∀ a ∈ l, a.rev ≤ h ∧ ∀ c ∈ a.cuts, c.rev ≤ h) (hn : h < now) (hg : holds u g = true) (hct : ct = cutsF h u CS l (places h u l 0) 0) :
    ∀ (cs : List Chg) (frm to : Int), OrdC (atomsText h u l).length cs to → frm ≤ to → Bnd h u l frm → Bnd h u l to → (∀ c ∈ cs, Bnd h u l c.frm ∧ Bnd h u l c.to) → (∀ c ∈ cs, valid c.text = true) → (∀ p : Int, frm ≤ p → cutHit CS p = (decide (p < to) || cutHit cs p)) →
    atomsText now u (merged (fun t => newAtoms now g rank (ptsOf t)) (marked ct ⟨now, g⟩ l 0) ((cs.map fun c => spotK h u l c.frm).zip (cs.map Chg.text)) (spotK h u l frm)) = doF (atomsText h u l) cs to.toNat
  | [], frm, to, ho, hft, hbf, hbt, _, _, hH => by
    have hkl := spotK_le (r := h) (u := u) l to
    have := seg_main (k1 := l.length) (now := now) (g := g) (cs := CS) hcp hold hn hg hct hbf hbt hft (Nat.le_refl _) hkl (fun j hj hk _ hv => by
      have h1 := spotK_ge hj hk hv
      rw [hH _ h1]; simp [cutHit])
    rw [List.take_of_length_le (by rw [marked_len]; exact Nat.le_refl _), List.take_of_length_le (Nat.le_refl _)] at this
    simpa [merged, doF] using this
  | c :: cs, frm, to, ⟨o1, o2, o3, o4⟩, hft, hbf, hbt, hbc, hvt, hH => by
    obtain ⟨bf, bt⟩ := hbc c (by simp)
    have ih := merged_text hcp hold hn hg hct cs c.frm c.to o4 o2 bf bt (fun d hd => hbc d (List.mem_cons_of_mem _ hd)) (fun d hd => hvt d (List.mem_cons_of_mem _ hd)) (fun p hp => by
      rw [hH p (by omega)]
      simp only [cutHit, List.any_cons]
      rw [decide_eq_false (show ¬ p < to by omega), decide_eq_true hp]; rfl)
    have hkl := spotK_le (r := h) (u := u) l c.frm
    have hs := seg_main (k1 := spotK h u l c.frm) (now := now) (g := g) (cs := CS) hcp hold hn hg hct hbf hbt hft hkl (spotK_mono l o1) (fun j hj hk hlt hv => by
      have h1 := spotK_ge hj hk hv
      have h2 := spotK_lt (r := h) (u := u) (l := l) (x := c.frm) hlt
      rw [hH _ h1]
      have : cutHit (c :: cs) (posT h u l j : Int) = false := by
        simp only [cutHit, List.any_eq_false, Bool.and_eq_true, decide_eq_true_eq, not_and]
        intro d hd hle
        rcases List.mem_cons.1 hd with rfl | hd
        · omega
        · have := o4.low d hd; omega
      rw [this, Bool.or_false])
    have hpc := spotK_pos hcp bf
    simp only [List.map_cons, List.zip_cons_cons, merged_cons, atomsText_append, doF]
    rw [ih, hs, new_text hg (hvt c (by simp)), text_take]
    have : posT h u l (spotK h u l c.frm) = c.frm.toNat := by omega
    rw [this]
theorem spotG_none {rev rank : Int} {l : List Atom} (k : Nat) (h : ∀ a ∈ l, a.rev ≤ rev) : spotG rev rank l k = k := by
  cases l with
  | nil => rfl
  | cons a l => rw [spotG, if_neg (by have := h a (by simp); omega)]
/-- an edit of the head: its text is what the changes make -/
theorem edit_text {l : List Atom} {cs : List Chg} (hcp : ∀ a ∈ l, IsCP a.text) (hold : ∀ a ∈ l, a.rev ≤ h ∧ ∀ c ∈ a.cuts, c.rev ≤ h) (hn : h < now) (hg : holds u g = true) (hc : check (atomsText h u l) cs = 0) :
    atomsText now u (upon l h u cs now g rank) = doF (atomsText h u l) cs 0 := by
  obtain ⟨z1, z2, z3, z4, z5, z6, z7⟩ := check_zero hc
  have hord := check_ord hc
  have hb0 : Bnd h u l 0 := ⟨0, Nat.zero_le _, by simp [posT, atomsText]⟩
  have hbc : ∀ c ∈ cs, Bnd h u l c.frm ∧ Bnd h u l c.to := fun c hcm => by
    rw [List.any_eq_false] at z4
    have := z4 c hcm
    simp only [chgIn, Bool.or_eq_true, Bool.not_eq_true', not_or, Bool.not_eq_false] at this
    exact ⟨bnd_edge hcp this.1, bnd_edge hcp this.2⟩
  have hk0 : spotK h u l 0 = 0 := spotF_low h u 0 l (places h u l 0) 0 0 (places_nonneg h u l 0)
  have hsp : spotsN l h u cs rank = cs.map fun c => spotK h u l c.frm := by
    simp only [spotsN]
    apply List.map_congr_left
    intro c _
    simp only [spot]
    exact spotG_none _ fun a ha => (hold a (List.mem_of_mem_drop ha)).1
  have hm := merged_text (CS := cs) (ct := cuts l h u cs) (rank := rank) hcp hold hn hg (by rw [cuts, if_pos hc]) cs 0 0 hord (Int.le_refl _) hb0 hb0 hbc z6 (fun p hp => by rw [decide_eq_false (by omega)]; rfl)
  rw [hk0] at hm
  rw [upon, if_pos hc, hsp]
  exact hm
end
end Go.Proofs.Ytmjngohmcljfjaa.M
set_option linter.unusedSimpArgs false
set_option linter.unusedVariables false
set_option maxRecDepth 100000
namespace Go.Proofs.Ytmjngohmcljfjaa.M
open Go Go.Mini
attribute [local congr] go1_congr goM_congr goG_congr goV_congr drawwp_congr Xwp_congr
theorem slcS_eq {s : List UInt8} {a b : Int} (h0 : 0 ≤ a) (h1 : a ≤ b) (h2 : b ≤ (s.length : Int)) : aSlcS (.str s) (some (.int .i64 a)) (some (.int .i64 b)) = some (.str ((s.take b.toNat).drop a.toNat)) := by
  have b1 : aBound (some (.int .i64 b)) s.length s.length = some b.toNat := by simp only [aBound]; rw [if_pos (by simp; omega)]
  have b2 : aBound (some (.int .i64 a)) 0 b.toNat = some a.toNat := by simp only [aBound]; rw [if_pos (by simp; omega)]
  simp only [aSlcS, b1, b2]
theorem slcS_from {s : List UInt8} {a : Int} (h0 : 0 ≤ a) (h2 : a ≤ (s.length : Int)) : aSlcS (.str s) (some (.int .i64 a)) none = some (.str (s.drop a.toNat)) := by
  have b1 : aBound none s.length s.length = some s.length := rfl
  have b2 : aBound (some (.int .i64 a)) 0 s.length = some a.toNat := by simp only [aBound]; rw [if_pos (by simp; omega)]
  simp only [aSlcS, b1, b2, List.take_length]
theorem aStr_add {a b : List UInt8} (h : a.length + b.length ≤ 4611686018427387904) : aStr .add a b = some (.str (a ++ b)) := by
  have e : (2 : Nat) ^ 62 = 4611686018427387904 := by decide
  simp only [aStr]; rw [if_pos (by rw [e]; exact h)]
set_option maxHeartbeats 4000000 in
theorem rdo_call (σ : Heap) (s : List UInt8) (l : List Chg) (hs : s.length ≤ maxRoom) (hl : l.length ≤ 9223372036854775807) (hc : ∀ c ∈ l, ChgFits c) : ACall Try.prog n_palinoderef17_Do [.str s, eChgs l] σ (.str (doS s l)) σ := by
  refine bare_call (by simp only [AVal.pures, eChgs_pure]; rfl) rfl (fun W F => spec_of_awp mixed c_palinoderef17_Do (Nat.le_of_ble_eq_true rfl) ?_) σ
  unfold f_palinoderef17_Do
  have hroom : maxRoom = 68719476736 := rfl
  have hck := rcheck_call ⟨W, F, .nil, 0⟩ s l hs hl hc
  simp only [eChgs] at hck
  simp only [↓evd, evu, evf, implies_true, reduceCtorEq, Nat.reduceEqDiff, ↓reduceIte, Nat.reduceAdd, Nat.reduceLeDiff, Nat.reduceLT, Nat.reduceMul, Int.reduceLT, Int.reduceLE, Int.reduceToNat, evz]
  refine MSpec.of hck ?_
  by_cases h0 : check s l = 0
  case neg =>
    have hb : (check s l != 0) = true := by simpa using h0
    simp only [↓evd, evu, evf, implies_true, reduceCtorEq, Nat.reduceEqDiff, ↓reduceIte, Nat.reduceAdd, Nat.reduceLeDiff, Nat.reduceLT, Nat.reduceMul, Int.reduceLT, Int.reduceLE, Int.reduceToNat, evz, hb]
    exact seen (by rw [doS, if_neg h0]) rfl rfl
  have hb : (check s l != 0) = false := by simpa using h0
  have h8 := (check_zero h0).2.1
  have hord := check_ord h0
  rw [doS, if_pos h0]
  simp only [↓evd, evu, evf, implies_true, reduceCtorEq, Nat.reduceEqDiff, ↓reduceIte, Nat.reduceAdd, Nat.reduceLeDiff, Nat.reduceLT, Nat.reduceMul, Int.reduceLT, Int.reduceLE, Int.reduceToNat, evz, hb]
  refine awp_loop (fun m fr τ => ∃ (i : Nat) (acc : List UInt8) (at' : Int), m + i = l.length ∧ fr.get 0 = .str s ∧ fr.get 1 = eChgs l ∧ fr.get 5 = .str acc ∧ fr.get 6 = .int .i64 at' ∧ fr.get 7 = .int .i64 (i : Nat) ∧ 0 ≤ at' ∧ OrdC s.length (l.drop i) at' ∧ acc ++ doF s (l.drop i) at'.toNat = doF s l 0 ∧ acc.length ≤ i * 137438953472 ∧ τ = ⟨W, F, .nil, 0⟩) ?_ (m := l.length) ?_
  · rintro m fr τ ⟨i, acc, at', hi, e0, e1, e5, e6, e7, ha0, ho, hac, hal, rfl⟩
    by_cases hlt : i < l.length
    · have hlt' : (i : Int) < (l.length : Int) := by omega
      have hw := wrap_succ (i := i) (by omega)
      have hg := map_get eChg l i hlt
      have hcf := hc _ (List.getElem_mem hlt)
      rw [List.drop_eq_getElem_cons hlt] at ho hac
      generalize l[i] = c at hg ho hac hcf
      obtain ⟨o1, o2, o3, o4⟩ := ho
      have q1 := slcS_eq (s := s) ha0 o1 (by omega)
      have hsl : ((s.take c.frm.toNat).drop at'.toNat).length ≤ s.length := by rw [List.length_drop, List.length_take]; omega
      unfold ChgFits at hcf
      have q2 := aStr_add (a := acc) (b := (s.take c.frm.toNat).drop at'.toNat) (by omega)
      have q3 := aStr_add (a := acc ++ (s.take c.frm.toNat).drop at'.toNat) (b := c.text) (by rw [List.length_append]; omega)
      simp only [↓evd, evu, evf, implies_true, reduceCtorEq, Nat.reduceEqDiff, ↓reduceIte, Nat.reduceAdd, Nat.reduceLeDiff, Nat.reduceLT, Nat.reduceMul, Int.reduceLT, Int.reduceLE, Int.reduceToNat, evz, e0, e1, e5, e6, e7, hlt']
      with_reducible refine draw_of_grow (fun _ => True) (ms := [false, false, false, false, false, false, false, false, false, false, false, false, false, false, false, false, false]) (by kernel_rfl) ?_
      simp only [↓evd, evu, evf, implies_true, reduceCtorEq, Nat.reduceEqDiff, ↓reduceIte, Nat.reduceAdd, Nat.reduceLeDiff, Nat.reduceLT, Nat.reduceMul, Int.reduceLT, Int.reduceLE, Int.reduceToNat, evz, e0, e1, e5, e6, e7, hlt', hg, q1, q2, q3, hw]
      refine ⟨m - 1, by omega, i + 1, acc ++ (s.take c.frm.toNat).drop at'.toNat ++ c.text, c.to, by omega, rfl, rfl, rfl, by omega, o4, ?_, ?_⟩
      · rw [← hac]; simp only [doF, List.append_assoc]
      · simp only [List.length_append]; omega
    · have hlt' : ¬ (i : Int) < (l.length : Int) := by omega
      rw [List.drop_eq_nil_of_le (by omega)] at ho hac
      simp only [OrdC] at ho
      have q1 := slcS_from (s := s) ha0 ho
      have q2 := aStr_add (a := acc) (b := s.drop at'.toNat) (by rw [List.length_drop]; omega)
      simp only [↓evd, evu, evf, implies_true, reduceCtorEq, Nat.reduceEqDiff, ↓reduceIte, Nat.reduceAdd, Nat.reduceLeDiff, Nat.reduceLT, Nat.reduceMul, Int.reduceLT, Int.reduceLE, Int.reduceToNat, evz, e0, e1, e5, e6, e7, hlt', q1, q2]
      exact seen (by rw [← hac]; rfl) rfl rfl
  · refine ⟨0, [], 0, by omega, ?_⟩
    simp only [↓evd, evu, evf, implies_true, reduceCtorEq, Nat.reduceEqDiff, ↓reduceIte, Nat.reduceAdd, Nat.reduceLeDiff, Nat.reduceLT, Nat.reduceMul, Int.reduceLT, Int.reduceLE, Int.reduceToNat, evz]
    first | exact hord | exact ⟨hord, rfl, Nat.zero_le _⟩ | exact ⟨Int.le_refl _, hord, rfl, Nat.zero_le _⟩
end Go.Proofs.Ytmjngohmcljfjaa.M
set_option linter.unusedSimpArgs false
set_option linter.unusedVariables false
set_option maxRecDepth 100000
namespace Go.Proofs.Ytmjngohmcljfjaa.M
open Go Go.Mini
attribute [local congr] go1_congr goM_congr goG_congr goV_congr drawwp_congr Xwp_congr
def sumT (cs : List Chg) : Nat := (cs.map fun c => c.text.length).sum
theorem sumT_take {cs : List Chg} {i : Nat} (h : i < cs.length) : sumT (cs.take (i + 1)) = sumT (cs.take i) + cs[i].text.length := by
  simp only [sumT, List.take_succ_eq_append_getElem h, List.map_append, List.sum_append, List.map_cons, List.map_nil, List.sum_cons, List.sum_nil]; omega
theorem merged_len {new : List UInt8 → List Atom} {mk : List Atom} (hn : ∀ t, (new t).length ≤ t.length) : ∀ (r : List (Nat × List UInt8)) (at' : Nat), (r.map Prod.fst).Pairwise (· ≤ ·) → (∀ k ∈ r.map Prod.fst, at' ≤ k ∧ k ≤ mk.length) → at' ≤ mk.length → (merged new mk r at').length ≤ mk.length - at' + (r.map fun kt => kt.2.length).sum
  | [], at', _, _, _ => by simp [merged]
  | (k, t) :: r, at', hs, hl, ha => by
    have hk := hl k (by simp)
    have ih := merged_len hn r k hs.of_cons (fun q hq => ⟨List.rel_of_pairwise_cons hs hq, (hl q (List.mem_cons_of_mem _ hq)).2⟩) hk.2
    have := hn t
    simp only [merged_cons, List.length_append, List.length_drop, List.length_take, List.map_cons, List.sum_cons]
    omega
theorem zip_snd {α β : Type} : ∀ (l : List α) (m : List β), (l.zip m).map Prod.snd = m.take l.length
  | [], m => by simp
  | a :: l, [] => by simp
  | a :: l, b :: m => by simp [zip_snd l m]
theorem upon_len {l : List Atom} {rev : Int} {u : List Int} {cs : List Chg} {now g rank : Int} : (upon l rev u cs now g rank).length ≤ l.length + sumT cs := by
  unfold upon
  split
  · rename_i h0
    obtain ⟨h1, h2⟩ := spotsN_sorted rank h0
    have hsl : (spotsN l rev u cs rank).length = cs.length := by simp [spotsN]
    have hf : ((spotsN l rev u cs rank).zip (cs.map Chg.text)).map Prod.fst = spotsN l rev u cs rank := by
      rw [zip_fst, List.take_of_length_le]; simp [spotsN]
    have hm := merged_len (new := fun t => newAtoms now g rank (ptsOf t)) (mk := marked (cuts l rev u cs) ⟨now, g⟩ l 0) (fun t => by
      simp only [newAtoms, List.length_map, ptsOf]
      cases hp : pts t with
      | none => simp
      | some ps => exact pts_len _ t ps (Nat.le_refl _) hp) ((spotsN l rev u cs rank).zip (cs.map Chg.text)) 0 (by rw [hf]; exact h1) (by rw [hf, marked_len]; exact fun k hk => ⟨Nat.zero_le _, h2 k hk⟩) (Nat.zero_le _)
    have hsum : ((spotsN l rev u cs rank).zip (cs.map Chg.text)).map (fun kt => kt.2.length) = cs.map fun c => c.text.length := by
      rw [show (fun kt : Nat × List UInt8 => kt.2.length) = List.length ∘ Prod.snd from rfl, ← List.map_map, zip_snd, List.take_of_length_le (by simp [hsl]), List.map_map]; rfl
    rw [hsum, marked_len] at hm
    simp only [sumT]; omega
  · omega
theorem edit_head {E : Eng} (hok : E.Ok) (hR : E.R.Ok) {g rank : Int} {cs : List Chg} (hg0 : 0 ≤ g) (hg1 : g < 60) (hgo : g ∉ E.R.gone) (hh : E.R.head < 200) (hr0 : 0 ≤ rank) (hr1 : rank ≤ 1000000) (hck : check (E.text (E.R.head : Nat)) cs = 0) (hlen : E.l.length + sumT cs ≤ 4000) :
    editE E (E.R.head : Nat) g rank cs = (⟨upon E.l (E.R.head : Nat) (E.R.undone (E.R.head : Nat)) cs ((E.R.head + 1 : Nat) : Int) g rank, { E.R.push E.R.top with grp := insS g E.R.grp }⟩, ((E.R.head + 1 : Nat) : Int), 0) := by
  have hlv := Eng.live_head hR
  have hadd := add_good (R := E.R) hgo hg0 hg1 hh
  have hul := upon_len (l := E.l) (rev := (E.R.head : Nat)) (u := E.R.undone (E.R.head : Nat)) (cs := cs) (now := (E.R.head : Int) + 1) (g := g) (rank := rank)
  obtain ⟨uf1, _⟩ := upon_facts hok (base := (E.R.head : Nat)) (group := g) (rank := rank) (now := (E.R.head : Int) + 1) (cs := cs) (u := E.R.undone (E.R.head : Nat))
  rw [editE, if_neg (by simp [hlv]), if_neg (by simp [hck]), hadd, if_neg (by simp), if_neg (by omega), if_neg (by simp only; omega), if_neg (by simp only [Eng.text]; exact Nat.not_lt.2 (short_text (by omega) uf1 _ _))]
  rfl
def eChgss (l : List (List Chg)) : AVal := .fsl 1 (l.map eChgs)
set_option maxHeartbeats 8000000 in
theorem replay_fspec (W : World) (l : List (List Chg)) (hl : l.length ≤ 9223372036854775807) (hx : ∀ cs ∈ l, cs.length ≤ 9223372036854775807) (hx2 : ∀ cs ∈ l, ∀ c ∈ cs, c.text.length ≤ 9223372036854775807) : FSpec Try.prog n_palinodelaw20_EngineReplay [eChgss l] (Heap.bare W (cellsOf W)) fun v s => v = .bool true ∧ s.W = W := by
  refine fspec_of_awp mixed c_palinodelaw20_EngineReplay (Nat.le_of_ble_eq_true rfl) ?_
  unfold f_palinodelaw20_EngineReplay
  simp only [↓evd, evu, evf, implies_true, reduceCtorEq, Nat.reduceEqDiff, ↓reduceIte, Nat.reduceAdd, Nat.reduceLeDiff, Nat.reduceLT, Nat.reduceMul, Int.reduceLT, Int.reduceLE, Int.reduceToNat, evz]
  refine MSpec.of (known20_call _ rfl) ?_
  by_cases h15 : (15 : Int) < (l.length : Int)
  · simp only [↓evd, evu, evf, implies_true, reduceCtorEq, Nat.reduceEqDiff, ↓reduceIte, Nat.reduceAdd, Nat.reduceLeDiff, Nat.reduceLT, Nat.reduceMul, Int.reduceLT, Int.reduceLE, Int.reduceToNat, evz, eChgss, h15]
  simp only [↓evd, evu, evf, implies_true, reduceCtorEq, Nat.reduceEqDiff, ↓reduceIte, Nat.reduceAdd, Nat.reduceLeDiff, Nat.reduceLT, Nat.reduceMul, Int.reduceLT, Int.reduceLE, Int.reduceToNat, evz, eChgss, h15]
  refine (enew_at _ rfl).mono ?_
  rintro v τ ⟨k, fp0, rfl, hE0, hf0, k0⟩
  simp only [↓evd, evu, evf, implies_true, reduceCtorEq, Nat.reduceEqDiff, ↓reduceIte, Nat.reduceAdd, Nat.reduceLeDiff, Nat.reduceLT, Nat.reduceMul, Int.reduceLT, Int.reduceLE, Int.reduceToNat, evz]
  refine awp_loop (fun m fr ρ => ∃ (i : Nat) (E : Eng) (fp : List Nat) (all : Nat), m + i = l.length ∧ fr.get 0 = eChgss l ∧ fr.get 3 = .ptr (.new k) 0 ∧ fr.get 4 = .str (E.text (E.R.head : Nat)) ∧ fr.get 5 = .int .i64 (all : Nat) ∧ fr.get 6 = .int .i64 (i : Nat) ∧ IsEng ρ k E fp ∧ E.R.top = [] ∧ E.R.gone = [] ∧ E.R.head ≤ i ∧ (∀ a ∈ E.l, a.rev ≤ (E.R.head : Nat) ∧ ∀ c ∈ a.cuts, c.rev ≤ (E.R.head : Nat)) ∧ E.l.length ≤ all ∧ all ≤ 2000 ∧ ρ.W = W) ?_ (m := l.length) ?_
  · rintro m fr ρ ⟨i, E, fp, all, hi, e0, e3, e4, e5, e6, hE, htop, hgone, hhi, hold, hla, ha2, hW⟩
    by_cases hlt : i < l.length
    case neg =>
      have hlt' : ¬ (i : Int) < (l.length : Int) := by omega
      simp only [↓evd, evu, evf, implies_true, reduceCtorEq, Nat.reduceEqDiff, ↓reduceIte, Nat.reduceAdd, Nat.reduceLeDiff, Nat.reduceLT, Nat.reduceMul, Int.reduceLT, Int.reduceLE, Int.reduceToNat, evz, eChgss, e0, e3, e4, e5, e6, hlt']
      exact hW
    have hlt' : (i : Int) < (l.length : Int) := by omega
    have hw := wrap_succ (i := i) (by omega)
    have hg := map_get eChgs l i hlt
    have hcx := hx _ (List.getElem_mem hlt)
    have hcx2 := hx2 _ (List.getElem_mem hlt)
    generalize l[i] = cs at hg hcx hcx2
    by_cases h10 : (10 : Int) < (cs.length : Int)
    · simp only [↓evd, evu, evf, implies_true, reduceCtorEq, Nat.reduceEqDiff, ↓reduceIte, Nat.reduceAdd, Nat.reduceLeDiff, Nat.reduceLT, Nat.reduceMul, Int.reduceLT, Int.reduceLE, Int.reduceToNat, evz, eChgss, e0, e3, e4, e5, e6, hlt', hg, h10]
      exact hW
    simp only [↓evd, evu, evf, implies_true, reduceCtorEq, Nat.reduceEqDiff, ↓reduceIte, Nat.reduceAdd, Nat.reduceLeDiff, Nat.reduceLT, Nat.reduceMul, Int.reduceLT, Int.reduceLE, Int.reduceToNat, evz, eChgss, e0, e3, e4, e5, e6, hlt', hg, h10]
    refine awp_loop (fun m' fr ρ' => ∃ (j : Nat), m' + j = cs.length ∧ fr.get 0 = eChgss l ∧ fr.get 3 = .ptr (.new k) 0 ∧ fr.get 4 = .str (E.text (E.R.head : Nat)) ∧ fr.get 5 = .int .i64 ((all + sumT (cs.take j) : Nat) : Int) ∧ fr.get 6 = .int .i64 (i : Nat) ∧ fr.get 7 = .int .i64 (j : Nat) ∧ (∀ c ∈ cs.take j, c.text.length ≤ 60) ∧ sumT (cs.take j) ≤ j * 60 ∧ ρ' = ρ) ?_ (m := cs.length) ?_
    · clear e0 e3 e4 e5 e6
      rintro m' fr ρ' ⟨j, hj, e0, e3, e4, e5, e6, e7, h60, hsj, rfl⟩
      by_cases hjt : j < cs.length
      · have hjt' : (j : Int) < (cs.length : Int) := by omega
        have hwj := wrap_succ (i := j) (by omega)
        have hgj := map_get eChg cs j hjt
        have hst := sumT_take hjt
        have htk := List.take_succ_eq_append_getElem hjt
        generalize cs[j] = c at hgj hst htk
        by_cases hc60 : (60 : Int) < (c.text.length : Int)
        · simp only [↓evd, evu, evf, implies_true, reduceCtorEq, Nat.reduceEqDiff, ↓reduceIte, Nat.reduceAdd, Nat.reduceLeDiff, Nat.reduceLT, Nat.reduceMul, Int.reduceLT, Int.reduceLE, Int.reduceToNat, evz, eChgss, e0, e3, e4, e5, e6, e7, hlt', hg, hjt', hgj, hc60]
          exact hW
        · have hws : IntKind.i64.wrap (((all + sumT (cs.take j) : Nat) : Int) + (c.text.length : Int)) = ((all + sumT (cs.take (j + 1)) : Nat) : Int) := by rw [wrap_id (by omega) (by omega), hst]; omega
          simp only [↓evd, evu, evf, implies_true, reduceCtorEq, Nat.reduceEqDiff, ↓reduceIte, Nat.reduceAdd, Nat.reduceLeDiff, Nat.reduceLT, Nat.reduceMul, Int.reduceLT, Int.reduceLE, Int.reduceToNat, evz, eChgss, e0, e3, e4, e5, e6, e7, hlt', hg, hjt', hgj, hc60, hws, hwj]
          refine ⟨m' - 1, by omega, j + 1, by omega, rfl, rfl, fun d hd => ?_, by omega⟩
          rw [htk, List.mem_append, List.mem_singleton] at hd
          rcases hd with hd | rfl
          · exact h60 d hd
          · omega
      · have hjt' : ¬ (j : Int) < (cs.length : Int) := by omega
        rw [List.take_of_length_le (by omega)] at e5 h60
        by_cases h2000 : (2000 : Int) < ((all + sumT cs : Nat) : Int)
        · simp only [↓evd, evu, evf, implies_true, reduceCtorEq, Nat.reduceEqDiff, ↓reduceIte, Nat.reduceAdd, Nat.reduceLeDiff, Nat.reduceLT, Nat.reduceMul, Int.reduceLT, Int.reduceLE, Int.reduceToNat, evz, eChgss, e0, e3, e4, e5, e6, e7, hlt', hg, hjt', h2000]
          exact hW
        obtain ⟨hok, hRok⟩ := hE.ok
        have htl := short_text hok.len hok.txt (E.R.head : Nat) (E.R.undone (E.R.head : Nat))
        have hcf : ∀ c ∈ cs, ChgFits c := fun c hc => by have := h60 c hc; unfold ChgFits maxRoom; omega
        have hrck := rcheck_call ρ' (E.text (E.R.head : Nat)) cs (by unfold maxRoom; simp only [Eng.text]; omega) (by omega) hcf
        have hrdo := fun σ => rdo_call σ (E.text (E.R.head : Nat)) cs (by unfold maxRoom; simp only [Eng.text]; omega) (by omega) hcf
        have hhd := ehead_at hE
        have hm60 : (i : Int).tmod 60 = ((i % 60 : Nat) : Int) := by rw [Int.tmod_eq_emod_of_nonneg (by omega)]; rfl
        have hm60' : i % 60 = i := Nat.mod_eq_of_lt (by omega)
        rw [hm60'] at hm60
        have h60z : ¬ (60 : Int) = 0 := by decide
        have b0 : ((0 : Int) != 0) = false := rfl
        have b0' : ((0 : Int) == 0) = true := rfl
        by_cases hbad : check (E.text (E.R.head : Nat)) cs = 0
        · have hun : E.R.undone (E.R.head : Nat) = [] := by rw [hRok.top.1, htop]
          have hed := edit_head hok hRok (g := (i : Int)) (rank := (i : Int)) (cs := cs) (by omega) (by omega) (by rw [hgone]; simp) (by omega) (by omega) (by omega) hbad (by omega)
          have hul := upon_len (l := E.l) (rev := (E.R.head : Nat)) (u := E.R.undone (E.R.head : Nat)) (cs := cs) (now := ((E.R.head + 1 : Nat) : Int)) (g := (i : Int)) (rank := (i : Int))
          obtain ⟨E', hEE⟩ : ∃ E', (⟨upon E.l (E.R.head : Nat) (E.R.undone (E.R.head : Nat)) cs ((E.R.head + 1 : Nat) : Int) (i : Int) (i : Int), { E.R.push E.R.top with grp := insS (i : Int) E.R.grp }⟩ : Eng) = E' := ⟨_, rfl⟩
          rw [hEE] at hed
          have hshape := edit_elder hRok hed
          have hE'l : E'.l = upon E.l (E.R.head : Nat) (E.R.undone (E.R.head : Nat)) cs ((E.R.head + 1 : Nat) : Int) (i : Int) (i : Int) := by rw [← hEE]
          have htop' : E'.R.top = [] := by rw [← hEE]; show (E.R.push E.R.top).top = []; rw [top_push, htop]
          have hgone' : E'.R.gone = [] := by rw [← hEE]; exact hgone
          have hold' : ∀ a ∈ E'.l, a.rev ≤ ((E.R.head + 1 : Nat) : Int) ∧ ∀ c ∈ a.cuts, c.rev ≤ ((E.R.head + 1 : Nat) : Int) := by
            intro a ha
            rw [hE'l] at ha
            rcases mem_upon ha with ⟨b, hb, rfl | rfl⟩ | ⟨b, _, rfl⟩
            · have := hold a hb; exact ⟨by omega, fun c hc => by have := this.2 c hc; omega⟩
            · have := hold b hb
              refine ⟨by simp only; omega, fun c hc => ?_⟩
              simp only [List.mem_append, List.mem_singleton] at hc
              rcases hc with hc | rfl
              · have := this.2 c hc; omega
              · simp only; omega
            · exact ⟨by simp only; omega, fun c hc => by cases hc⟩
          have hb00 : (((0 : Int) : Int) != 0) = false := rfl
          rw [hbad] at hrck
          simp only [eChgs] at hrck
          have hrd := fun σ => hrdo σ
          simp only [doS, hbad, if_true, eChgs] at hrd
          simp only [↓evd, evu, evf, implies_true, reduceCtorEq, Nat.reduceEqDiff, ↓reduceIte, Nat.reduceAdd, Nat.reduceLeDiff, Nat.reduceLT, Nat.reduceMul, Int.reduceLT, Int.reduceLE, Int.reduceToNat, evz, eChgss, e0, e3, e4, e5, e6, e7, hlt', hg, hjt', h2000]
          refine MSpec.of hrck ?_
          simp only [↓evd, evu, evf, implies_true, reduceCtorEq, Nat.reduceEqDiff, ↓reduceIte, Nat.reduceAdd, Nat.reduceLeDiff, Nat.reduceLT, Nat.reduceMul, Int.reduceLT, Int.reduceLE, Int.reduceToNat, evz, eChgss, e0, e3, e4, e5, e6, e7]
          with_reducible refine draw_of_grow (fun _ => True) (ms := [false, false, false, false, false, false, false, false, false, false, true, false, false, false, false, false]) (by kernel_rfl) ?_
          simp only [↓evd, evu, evf, implies_true, reduceCtorEq, Nat.reduceEqDiff, ↓reduceIte, Nat.reduceAdd, Nat.reduceLeDiff, Nat.reduceLT, Nat.reduceMul, Int.reduceLT, Int.reduceLE, Int.reduceToNat, evz, eChgss, e0, e3, e4, e5, e6, e7]
          refine MSpec.of hhd ⟨.inr Keeps.rfl, ?_⟩
          have hedc := eedit_at hE (by omega) (fun c hc => by have := h60 c hc; omega) hed
          simp only [eChgs] at hedc
          simp only [↓evd, evu, evf, implies_true, reduceCtorEq, Nat.reduceEqDiff, ↓reduceIte, Nat.reduceAdd, Nat.reduceLeDiff, Nat.reduceLT, Nat.reduceMul, Int.reduceLT, Int.reduceLE, Int.reduceToNat, evz, eChgss, e0, e3, e4, e5, e6, e7, h60z, hm60, hlt', hg]
          refine hedc.mono ?_
          rintro v τ1 ⟨rfl, fp1, hE1, k1, f1⟩
          have hhd1 := ehead_at hE1
          rw [hshape.2.1] at hhd1
          obtain ⟨hok1, hRok1⟩ := hE1.ok
          have htx1 := etext_at hE1 ((E.R.head + 1 : Nat) : Int)
          have htv := textV_head hRok1
          rw [hshape.2.1] at htv
          have hteq : E'.text ((E.R.head + 1 : Nat) : Int) = doF (E.text (E.R.head : Nat)) cs 0 := by
            have h1 : E'.R.undone ((E.R.head + 1 : Nat) : Int) = [] := by
              have := hRok1.top.1
              rw [hshape.2.1] at this
              rw [this, htop']
            rw [Eng.text, h1, hE'l, hun]
            have h2 : E.text (E.R.head : Nat) = atomsText (E.R.head : Nat) [] E.l := by rw [Eng.text, hun]
            rw [h2] at hbad ⊢
            exact edit_text hok.txt hold (by omega) (by simp [holds]) hbad
          rw [htv, hteq] at htx1
          have hvd := rvalid_call τ1 (doF (E.text (E.R.head : Nat)) cs 0) (by
            rw [← hteq]
            have := short_text hok1.len hok1.txt ((E.R.head + 1 : Nat) : Int) (E'.R.undone ((E.R.head + 1 : Nat) : Int))
            unfold maxRoom; simp only [Eng.text]; omega)
          have hvalid : valid (doF (E.text (E.R.head : Nat)) cs 0) = true := by
            rw [← hteq]; exact valid_iff.2 (atoms_valid hok1.txt _ _)
          rw [hvalid] at hvd
          have bh : (((E.R.head + 1 : Nat) : Int) != ((E.R.head + 1 : Nat) : Int)) = false := by simp
          simp only [↓evd, evu, evf, implies_true, reduceCtorEq, Nat.reduceEqDiff, ↓reduceIte, Nat.reduceAdd, Nat.reduceLeDiff, Nat.reduceLT, Nat.reduceMul, Int.reduceLT, Int.reduceLE, Int.reduceToNat, evz, eChgss, e0, e3, e4, e5, e6, e7, b0, b0']
          refine MSpec.of hhd1 ?_
          simp only [↓evd, evu, evf, implies_true, reduceCtorEq, Nat.reduceEqDiff, ↓reduceIte, Nat.reduceAdd, Nat.reduceLeDiff, Nat.reduceLT, Nat.reduceMul, Int.reduceLT, Int.reduceLE, Int.reduceToNat, evz, eChgss, e0, e3, e4, e5, e6, e7, bh, hlt', hg]
          refine MSpec.of (hrd _) ?_
          simp only [↓evd, evu, evf, implies_true, reduceCtorEq, Nat.reduceEqDiff, ↓reduceIte, Nat.reduceAdd, Nat.reduceLeDiff, Nat.reduceLT, Nat.reduceMul, Int.reduceLT, Int.reduceLE, Int.reduceToNat, evz, eChgss, e0, e3, e4, e5, e6, e7]
          refine MSpec.of hhd1 ?_
          simp only [↓evd, evu, evf, implies_true, reduceCtorEq, Nat.reduceEqDiff, ↓reduceIte, Nat.reduceAdd, Nat.reduceLeDiff, Nat.reduceLT, Nat.reduceMul, Int.reduceLT, Int.reduceLE, Int.reduceToNat, evz, eChgss, e0, e3, e4, e5, e6, e7]
          refine MSpec.of htx1 ?_
          simp only [↓evd, evu, evf, implies_true, reduceCtorEq, Nat.reduceEqDiff, ↓reduceIte, Nat.reduceAdd, Nat.reduceLeDiff, Nat.reduceLT, Nat.reduceMul, Int.reduceLT, Int.reduceLE, Int.reduceToNat, evz, eChgss, e0, e3, e4, e5, e6, e7, b0, aStr_nself]
          refine MSpec.of hvd ?_
          simp only [↓evd, evu, evf, implies_true, reduceCtorEq, Nat.reduceEqDiff, ↓reduceIte, Nat.reduceAdd, Nat.reduceLeDiff, Nat.reduceLT, Nat.reduceMul, Int.reduceLT, Int.reduceLE, Int.reduceToNat, evz, eChgss, e0, e3, e4, e5, e6, e7, hw]
          refine ⟨m - 1, by omega, i + 1, E', fp1, all + sumT cs, by omega, ?_, rfl, rfl, hE1, htop', hgone', by omega, ?_, ?_, by omega, k1.1.trans hW⟩
          · rw [hshape.2.1, hteq]
          · rw [hshape.2.1]; exact hold'
          · rw [hE'l]; omega
        · have hed : editE E (E.R.head : Nat) (i : Int) (i : Int) cs = (E, 0, check (E.text (E.R.head : Nat)) cs) := by
            rw [editE, if_neg (by simp [Eng.live_head hRok]), if_pos hbad]
          have htx := etext_at hE (E.R.head : Nat)
          rw [textV_head hRok] at htx
          have hb1 : (check (E.text (E.R.head : Nat)) cs == 0) = false := by simpa using hbad
          have hb2 : (check (E.text (E.R.head : Nat)) cs != check (E.text (E.R.head : Nat)) cs) = false := by simp
          have hvalid : valid (E.text (E.R.head : Nat)) = true := valid_iff.2 (atoms_valid hok.txt _ _)
          simp only [eChgs] at hrck
          simp only [↓evd, evu, evf, implies_true, reduceCtorEq, Nat.reduceEqDiff, ↓reduceIte, Nat.reduceAdd, Nat.reduceLeDiff, Nat.reduceLT, Nat.reduceMul, Int.reduceLT, Int.reduceLE, Int.reduceToNat, evz, eChgss, e0, e3, e4, e5, e6, e7, hlt', hg, hjt', h2000]
          refine MSpec.of hrck ?_
          simp only [↓evd, evu, evf, implies_true, reduceCtorEq, Nat.reduceEqDiff, ↓reduceIte, Nat.reduceAdd, Nat.reduceLeDiff, Nat.reduceLT, Nat.reduceMul, Int.reduceLT, Int.reduceLE, Int.reduceToNat, evz, eChgss, e0, e3, e4, e5, e6, e7]
          with_reducible refine draw_of_grow (fun _ => True) (ms := [false, false, false, false, false, false, false, false, false, false, true, false, false, false, false, false]) (by kernel_rfl) ?_
          simp only [↓evd, evu, evf, implies_true, reduceCtorEq, Nat.reduceEqDiff, ↓reduceIte, Nat.reduceAdd, Nat.reduceLeDiff, Nat.reduceLT, Nat.reduceMul, Int.reduceLT, Int.reduceLE, Int.reduceToNat, evz, eChgss, e0, e3, e4, e5, e6, e7]
          refine MSpec.of hhd ⟨.inr Keeps.rfl, ?_⟩
          have hedc := eedit_at hE (by omega) (fun c hc => by have := h60 c hc; omega) hed
          simp only [eChgs] at hedc
          simp only [↓evd, evu, evf, implies_true, reduceCtorEq, Nat.reduceEqDiff, ↓reduceIte, Nat.reduceAdd, Nat.reduceLeDiff, Nat.reduceLT, Nat.reduceMul, Int.reduceLT, Int.reduceLE, Int.reduceToNat, evz, eChgss, e0, e3, e4, e5, e6, e7, h60z, hm60, hlt', hg]
          refine hedc.mono ?_
          rintro v τ1 ⟨rfl, fp1, hE1, k1, f1⟩
          have hhd1 := ehead_at hE1
          have htx1 := etext_at hE1 (E.R.head : Nat)
          rw [textV_head hRok] at htx1
          have hvd := rvalid_call τ1 (E.text (E.R.head : Nat)) (by unfold maxRoom; simp only [Eng.text]; omega)
          rw [hvalid] at hvd
          simp only [↓evd, evu, evf, implies_true, reduceCtorEq, Nat.reduceEqDiff, ↓reduceIte, Nat.reduceAdd, Nat.reduceLeDiff, Nat.reduceLT, Nat.reduceMul, Int.reduceLT, Int.reduceLE, Int.reduceToNat, evz, eChgss, e0, e3, e4, e5, e6, e7, hb1, hb2]
          refine MSpec.of hhd1 ?_
          simp only [↓evd, evu, evf, implies_true, reduceCtorEq, Nat.reduceEqDiff, ↓reduceIte, Nat.reduceAdd, Nat.reduceLeDiff, Nat.reduceLT, Nat.reduceMul, Int.reduceLT, Int.reduceLE, Int.reduceToNat, evz, eChgss, e0, e3, e4, e5, e6, e7]
          refine MSpec.of htx1 ?_
          simp only [↓evd, evu, evf, implies_true, reduceCtorEq, Nat.reduceEqDiff, ↓reduceIte, Nat.reduceAdd, Nat.reduceLeDiff, Nat.reduceLT, Nat.reduceMul, Int.reduceLT, Int.reduceLE, Int.reduceToNat, evz, eChgss, e0, e3, e4, e5, e6, e7, b0, aStr_nself]
          refine MSpec.of hvd ?_
          simp only [↓evd, evu, evf, implies_true, reduceCtorEq, Nat.reduceEqDiff, ↓reduceIte, Nat.reduceAdd, Nat.reduceLeDiff, Nat.reduceLT, Nat.reduceMul, Int.reduceLT, Int.reduceLE, Int.reduceToNat, evz, eChgss, e0, e3, e4, e5, e6, e7, hw]
          exact ⟨m - 1, by omega, i + 1, E, fp1, all + sumT cs, by omega, rfl, rfl, rfl, hE1, htop, hgone, by omega, hold, by omega, by omega, k1.1.trans hW⟩
    · refine ⟨0, by omega, ?_⟩
      simp only [↓evd, evu, evf, implies_true, reduceCtorEq, Nat.reduceEqDiff, ↓reduceIte, Nat.reduceAdd, Nat.reduceLeDiff, Nat.reduceLT, Nat.reduceMul, Int.reduceLT, Int.reduceLE, Int.reduceToNat, evz, eChgss, e0, e3, e4, e5, e6]
      simp [sumT]
  · refine ⟨0, Eng.new, fp0, 0, by omega, ?_⟩
    simp only [↓evd, evu, evf, implies_true, reduceCtorEq, Nat.reduceEqDiff, ↓reduceIte, Nat.reduceAdd, Nat.reduceLeDiff, Nat.reduceLT, Nat.reduceMul, Int.reduceLT, Int.reduceLE, Int.reduceToNat, evz, eChgss]
    exact ⟨rfl, hE0, rfl, rfl, Nat.le_refl _, fun a h => (by cases h), Nat.le_refl _, k0.1⟩
def gChg (x : Chg) : Prop := GInt .i64 x.frm ∧ GInt .i64 x.to ∧ GStr x.text
theorem maxLen_le : maxLen ≤ 9223372036854775807 := by decide
theorem engineReplay_row (W : World) (a0 : List (List Chg)) (g0 : GList (GList gChg) a0) : FSpec Try.prog n_palinodelaw20_EngineReplay [.fsl 1 (a0.map (fun l => .fsl 3 (l.map eChg)))] (Heap.bare W (cellsOf W)) fun v s => v = .bool true ∧ s.W = W :=
  replay_fspec W a0 (Nat.le_trans g0.2 maxLen_le) (fun cs h => Nat.le_trans (g0.1 cs h).2 maxLen_le) (fun cs h c hc => Nat.le_trans ((g0.1 cs h).1 c hc).2.2 maxLen_le)
end Go.Proofs.Ytmjngohmcljfjaa.M
