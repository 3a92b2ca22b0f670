/- A part of the seat's proofs over the abstract machine. No condition. -/
import Derived.Test.YtfkiebglpagnaaaWA
import Derived.Test.YtfkiebglpagnaaaMB
set_option linter.unusedSimpArgs false
set_option linter.unusedVariables false
set_option maxRecDepth 100000
namespace Go.Proofs.Ytfkiebglpagnaaa.M
open Go Go.Mini
def IsCP (p : List UInt8) : Prop := p ≠ [] ∧ (pt p).2 = p.length
theorem conts_app : ∀ (k v : Nat) (r t : List UInt8) (x : Nat), conts v k r = some x → conts v k (r ++ t) = some x
  | 0, v, r, t, x, h => h
  | k + 1, v, [], t, x, h => by simp [conts] at h
  | k + 1, v, b :: r, t, x, h => by
    simp only [List.cons_append, conts] at h ⊢
    split at h
    · rename_i hb; rw [if_pos hb]; exact conts_app k _ r t x h
    · cases h
theorem ptN_app {v n least : Nat} {r t : List UInt8} (h : (ptN v n least r).2 ≠ 0) : ptN v n least (r ++ t) = ptN v n least r := by
  unfold ptN at h ⊢
  split at h
  · rename_i x hx; rw [conts_app _ _ _ t _ hx]
  · simp at h
theorem pt_app {r t : List UInt8} (h : (pt r).2 ≠ 0) : pt (r ++ t) = pt r := by
  cases r with
  | nil => simp [pt] at h
  | cons a r =>
    simp only [List.cons_append]
    rw [pt] at h
    rw [pt, pt]
    split at h
    · rename_i h1; rw [if_pos h1, if_pos h1]
    · rename_i h1; rw [if_neg h1, if_neg h1]
      split at h
      · rename_i h2; rw [if_pos h2, if_pos h2, ptN_app h]
      · rename_i h2; rw [if_neg h2, if_neg h2]
        split at h
        · rename_i h3; rw [if_pos h3, if_pos h3, ptN_app h]
        · rename_i h3; rw [if_neg h3, if_neg h3]
          split at h
          · rename_i h4; rw [if_pos h4, if_pos h4, ptN_app h]
          · simp at h
theorem IsCP.ne0 {p : List UInt8} (h : IsCP p) : (pt p).2 ≠ 0 := by
  rw [h.2]; exact fun e => h.1 (List.eq_nil_of_length_eq_zero e)
theorem take_cp {r : List UInt8} (h : (pt r).2 ≠ 0) : IsCP (r.take (pt r).2) := by
  have key : pt (r.take (pt r).2) = pt r := by
    rcases pt_shapes h with ⟨a, t, rfl, h1, e⟩ | ⟨a, b, t, x, rfl, h1, h2, h3, h4, h5, e⟩ | ⟨a, b, c, t, x, rfl, h1, h2, h3, h4, h5, h6, e⟩ | ⟨a, b, c, d, t, x, rfl, h1, h2, h3, h4, h5, h6, h7, e⟩
    · rw [e]; simp only [List.take_succ_cons, List.take_zero]; rw [pt, if_pos h1]
    · rw [e]; simp only [List.take_succ_cons, List.take_zero]
      have e' := e
      rw [pt] at e' ⊢
      rw [if_neg (by omega), if_pos h1] at e' ⊢
      rw [← e']
      simp only [ptN, conts]
    · rw [e]; simp only [List.take_succ_cons, List.take_zero]
      have e' := e
      rw [pt] at e' ⊢
      rw [if_neg (by omega), if_neg (by omega), if_pos h1] at e' ⊢
      rw [← e']
      simp only [ptN, conts]
    · rw [e]; simp only [List.take_succ_cons, List.take_zero]
      have e' := e
      rw [pt] at e' ⊢
      rw [if_neg (by omega), if_neg (by omega), if_neg (by omega), if_pos h1] at e' ⊢
      rw [← e']
      simp only [ptN, conts]
  have hle := pt_le r
  refine ⟨?_, by rw [key, List.length_take]; omega⟩
  intro e
  rw [e] at key
  rw [← key] at h
  simp [pt] at h
theorem pts_cp : ∀ (n : Nat) (s : List UInt8) (ps : List (List UInt8)), s.length ≤ n → pts s = some ps → s = ps.flatten ∧ ∀ p ∈ ps, IsCP p
  | 0, s, ps, h, hp => by
    have : s = [] := List.eq_nil_of_length_eq_zero (by omega)
    subst this; cases hp; simp
  | n + 1, s, ps, h, hp => by
    cases s with
    | nil => cases hp; simp
    | cons a r =>
      rw [pts_step (by simp)] at hp
      split at hp
      · cases hp
      · rename_i h0
        rw [Option.map_eq_some_iff] at hp
        obtain ⟨q, hq, rfl⟩ := hp
        obtain ⟨g1, g2⟩ := pts_cp n _ q (by rw [List.length_drop]; simp only [List.length_cons] at *; omega) hq
        refine ⟨?_, fun p hp => ?_⟩
        · rw [List.flatten_cons, ← g1, List.take_append_drop]
        · rcases List.mem_cons.1 hp with rfl | hp
          · exact take_cp h0
          · exact g2 p hp
theorem pts_app {p t : List UInt8} (h : IsCP p) : pts (p ++ t) = (pts t).map (p :: ·) := by
  rw [pts_step (by intro e; exact h.1 (List.append_eq_nil_iff.1 e).1), pt_app h.ne0, if_neg h.ne0, h.2, List.drop_left, List.take_left]
theorem pts_flat : ∀ {ps : List (List UInt8)}, (∀ p ∈ ps, IsCP p) → pts ps.flatten = some ps
  | [], _ => rfl
  | p :: ps, h => by
    rw [List.flatten_cons, pts_app (h p (by simp)), pts_flat fun q hq => h q (List.mem_cons_of_mem _ hq)]; rfl
theorem pts_one {p : List UInt8} (h : IsCP p) : pts p = some [p] := by
  have := pts_app (t := []) h
  rw [List.append_nil] at this
  rw [this]; rfl
theorem cp_len {p : List UInt8} (h : IsCP p) : 1 ≤ p.length ∧ p.length ≤ 4 := by
  have h0 := h.ne0
  have h2 := h.2
  rcases pt_shapes h0 with ⟨a, t, rfl, h1, e⟩ | ⟨a, b, t, x, rfl, _, _, _, _, _, e⟩ | ⟨a, b, c, t, x, rfl, _, _, _, _, _, _, e⟩ | ⟨a, b, c, d, t, x, rfl, _, _, _, _, _, _, _, e⟩ <;> (rw [e] at h2; simp only [List.length_cons] at h2 ⊢; omega)
theorem cp_bytes {p : List UInt8} (h : IsCP p) : ∀ (i : Nat) (b : UInt8), p[i]? = some b → (b.toNat / 64 = 2 ↔ i ≠ 0) := by
  have h0 := h.ne0
  have h2 := h.2
  rcases pt_shapes h0 with ⟨a, t, rfl, h1, e⟩ | ⟨a, b, t, x, rfl, q1, q2, _, _, _, e⟩ | ⟨a, b, c, t, x, rfl, q1, q2, q3, _, _, _, e⟩ | ⟨a, b, c, d, t, x, rfl, q1, q2, q3, q4, _, _, _, e⟩
  all_goals
    rw [e] at h2
    simp at h2
    subst h2
    intro i y hy
  · rcases i with _ | i
    · simp at hy; subst hy; simp; omega
    · simp at hy
  · rcases i with _ | _ | i
    · simp at hy; subst hy; simp; omega
    · simp at hy; subst hy; simp; omega
    · simp at hy
  · rcases i with _ | _ | _ | i
    · simp at hy; subst hy; simp; omega
    · simp at hy; subst hy; simp; omega
    · simp at hy; subst hy; simp; omega
    · simp at hy
  · rcases i with _ | _ | _ | _ | i
    · simp at hy; subst hy; simp; omega
    · simp at hy; subst hy; simp; omega
    · simp at hy; subst hy; simp; omega
    · simp at hy; subst hy; simp; omega
    · simp at hy
theorem valid_iff {s : List UInt8} : valid s = true ↔ ∃ ps : List (List UInt8), s = ps.flatten ∧ ∀ p ∈ ps, IsCP p := by
  constructor
  · intro h
    obtain ⟨ps, hp⟩ := Option.isSome_iff_exists.1 h
    exact ⟨ps, pts_cp _ s ps (Nat.le_refl _) hp⟩
  · rintro ⟨ps, rfl, h⟩
    simp only [valid, pts_flat h, Option.isSome_some]
theorem valid_flat {ps : List (List UInt8)} (h : ∀ p ∈ ps, IsCP p) : valid ps.flatten = true := valid_iff.2 ⟨ps, rfl, h⟩
theorem edge_flat {ps : List (List UInt8)} (h : ∀ p ∈ ps, IsCP p) (i : Int) : isEdge ps.flatten i = true ↔ ∃ j : Nat, j ≤ ps.length ∧ i = ((ps.take j).flatten.length : Nat) := by
  have key : ∀ (ps : List (List UInt8)), (∀ p ∈ ps, IsCP p) → ∀ n : Nat, n ≤ ps.flatten.length → ((n = ps.flatten.length ∨ ∃ b, ps.flatten[n]? = some b ∧ ¬ b.toNat / 64 = 2) ↔ ∃ j : Nat, j ≤ ps.length ∧ n = (ps.take j).flatten.length) := by
    intro ps
    induction ps with
    | nil => intro _ n hn; simp at hn; subst hn; simp
    | cons p ps ih =>
      intro h n hn
      have hp := h p (by simp)
      have hl := cp_len hp
      rw [List.flatten_cons, List.length_append] at hn
      rcases Nat.lt_or_ge n p.length with hlt | hge
      · constructor
        · rintro (e | ⟨b, hb, hb2⟩)
          · rw [List.flatten_cons, List.length_append] at e; omega
          · rw [List.flatten_cons, List.getElem?_append_left hlt] at hb
            have := cp_bytes hp n b hb
            have h0 : n = 0 := by
              rcases Nat.eq_zero_or_pos n with h | h
              · exact h
              · exact absurd (this.2 (by omega)) hb2
            exact ⟨0, Nat.zero_le _, by simp [h0]⟩
        · rintro ⟨j, hj, e⟩
          cases j with
          | zero =>
            simp at e; subst e
            have hg : p[0]? = some p[0] := List.getElem?_eq_getElem hlt
            refine .inr ⟨p[0], by rw [List.flatten_cons, List.getElem?_append_left hlt]; exact hg, fun hb => ?_⟩
            exact (cp_bytes hp 0 _ hg).1 hb rfl
          | succ j => rw [List.take_succ_cons, List.flatten_cons, List.length_append] at e; omega
      · obtain ⟨m, rfl⟩ : ∃ m, n = p.length + m := ⟨n - p.length, by omega⟩
        have hi := ih (fun q hq => h q (List.mem_cons_of_mem _ hq)) m (by omega)
        have e1 : (p.length + m = (p :: ps).flatten.length ∨ ∃ b, (p :: ps).flatten[p.length + m]? = some b ∧ ¬ b.toNat / 64 = 2) ↔ (m = ps.flatten.length ∨ ∃ b, ps.flatten[m]? = some b ∧ ¬ b.toNat / 64 = 2) := by
          rw [List.flatten_cons, List.length_append, List.getElem?_append_right (by omega), Nat.add_sub_cancel_left]
          constructor
          · rintro (h | h)
            · exact .inl (by omega)
            · exact .inr h
          · rintro (h | h)
            · exact .inl (by omega)
            · exact .inr h
        rw [e1, hi]
        constructor
        · rintro ⟨j, hj, e⟩
          exact ⟨j + 1, by simp only [List.length_cons]; omega, by rw [List.take_succ_cons, List.flatten_cons, List.length_append, e]⟩
        · rintro ⟨j, hj, e⟩
          cases j with
          | zero => rw [List.take_zero] at e; simp only [List.flatten_nil, List.length_nil] at e; omega
          | succ j =>
            rw [List.take_succ_cons, List.flatten_cons, List.length_append] at e
            exact ⟨j, by simp only [List.length_cons] at hj; omega, by omega⟩
  have hv := valid_flat h
  constructor
  · intro he
    simp only [isEdge, hv, Bool.and_true, Bool.and_eq_true, decide_eq_true_eq, Bool.or_eq_true] at he
    obtain ⟨⟨h1, h2⟩, h3⟩ := he
    have : ∃ j : Nat, j ≤ ps.length ∧ i.toNat = (ps.take j).flatten.length := by
      refine (key ps h i.toNat (by omega)).1 ?_
      rcases h3 with h3 | h3
      · exact .inl (by omega)
      · right
        split at h3
        · rename_i b hb; exact ⟨b, hb, by simpa using h3⟩
        · cases h3
    obtain ⟨j, hj, e⟩ := this
    exact ⟨j, hj, by omega⟩
  · rintro ⟨j, hj, rfl⟩
    have hle : (ps.take j).flatten.length ≤ ps.flatten.length := by
      have := congrArg List.length (show (ps.take j).flatten ++ (ps.drop j).flatten = ps.flatten by rw [← List.flatten_append, List.take_append_drop])
      rw [List.length_append] at this; omega
    simp only [isEdge, hv, Bool.and_true, Bool.and_eq_true, decide_eq_true_eq, Bool.or_eq_true]
    refine ⟨⟨by omega, by omega⟩, ?_⟩
    rcases (key ps h (ps.take j).flatten.length hle).2 ⟨j, hj, rfl⟩ with e | ⟨b, hb, hb2⟩
    · exact .inl (by omega)
    · right
      rw [Int.toNat_natCast, hb]
      simpa using hb2
structure Eng where
  l : List Atom
  R : Revs
def Eng.new : Eng := ⟨[], Revs.new⟩
structure Eng.Ok (E : Eng) : Prop where
  len : E.l.length ≤ 4000
  txt : ∀ a ∈ E.l, IsCP a.text
  cuts : ∀ a ∈ E.l, a.cuts.length ≤ E.R.head
theorem Eng.new_ok : Eng.new.Ok := ⟨by simp [Eng.new], by simp [Eng.new], by simp [Eng.new]⟩
def Eng.text (E : Eng) (rev : Int) : List UInt8 := atomsText rev (E.R.undone rev) E.l
def editE (E : Eng) (base group rank : Int) (cs : List Chg) : Eng × Int × Int :=
  if E.R.live base = false then (E, 0, 190) else
  if check (E.text base) cs ≠ 0 then (E, 0, check (E.text base) cs) else
  if (addR E.R group).2.2 ≠ 0 then (E, 0, (addR E.R group).2.2) else
  if rank < 0 ∨ 1000000 < rank then (E, 0, 10) else
  if 4000 < (upon E.l base (E.R.undone base) cs (addR E.R group).2.1 group rank).length then (E, 0, 70) else
  if 20000 < (Eng.text ⟨upon E.l base (E.R.undone base) cs (addR E.R group).2.1 group rank, (addR E.R group).1⟩ (addR E.R group).1.head).length then (E, 0, 13) else
  (⟨upon E.l base (E.R.undone base) cs (addR E.R group).2.1 group rank, (addR E.R group).1⟩, (addR E.R group).2.1, 0)
def toggleE (E : Eng) (g : Int) : Eng × Int × Int :=
  if (toggleR E.R g).2.2 ≠ 0 then (E, 0, (toggleR E.R g).2.2) else
  if 20000 < (Eng.text ⟨E.l, (toggleR E.R g).1⟩ (toggleR E.R g).1.head).length then (E, 0, 13) else
  (⟨E.l, (toggleR E.R g).1⟩, (toggleR E.R g).2.1, 0)
theorem fits_of {l : List Atom} {n : Nat} (h1 : l.length ≤ 4000) (h2 : ∀ a ∈ l, IsCP a.text) (h3 : ∀ a ∈ l, a.cuts.length ≤ n) (hn : n ≤ 1000000) : Fits l := by
  refine ⟨by omega, fun a ha => by have := h3 a ha; omega, ?_⟩
  have : (l.map fun a => a.text.length).sum ≤ l.length * 4 := by
    clear h1 h3
    induction l with
    | nil => simp
    | cons a l ih =>
      have h4 := (cp_len (h2 a (by simp))).2
      have := ih fun b hb => h2 b (List.mem_cons_of_mem _ hb)
      simp only [List.map_cons, List.sum_cons, List.length_cons]; omega
  unfold maxRoom; omega
theorem atomsText_le {l : List Atom} (rev : Int) (u : List Int) (h2 : ∀ a ∈ l, IsCP a.text) : (atomsText rev u l).length ≤ l.length * 4 := by
  induction l with
  | nil => simp [atomsText]
  | cons a l ih =>
    have h4 := (cp_len (h2 a (by simp))).2
    have := ih fun b hb => h2 b (List.mem_cons_of_mem _ hb)
    simp only [atomsText, List.length_append, List.length_cons]
    split <;> (try simp only [List.length_nil]) <;> omega
theorem mem_marked {ct : List Int} {c : Cut} {x : Atom} : ∀ {l : List Atom} {i : Nat}, x ∈ marked ct c l i → ∃ a ∈ l, x = a ∨ x = { a with cuts := a.cuts ++ [c] }
  | [], i, h => by simp [marked] at h
  | a :: l, i, h => by
    simp only [marked, List.mem_cons] at h
    rcases h with h | h
    · refine ⟨a, by simp, ?_⟩
      split at h
      · exact .inr h
      · exact .inl h
    · obtain ⟨b, hb, h⟩ := mem_marked h
      exact ⟨b, List.mem_cons_of_mem _ hb, h⟩
theorem mem_merged {new : List UInt8 → List Atom} {mk : List Atom} {x : Atom} : ∀ {r : List (Nat × List UInt8)} {at' : Nat}, x ∈ merged new mk r at' → x ∈ mk ∨ ∃ kt ∈ r, x ∈ new kt.2
  | [], at', h => .inl (List.mem_of_mem_drop (by simpa [merged] using h))
  | (k, t) :: r, at', h => by
    rw [merged_cons, List.mem_append, List.mem_append] at h
    rcases h with (h | h) | h
    · exact .inl (List.mem_of_mem_take (List.mem_of_mem_drop h))
    · exact .inr ⟨(k, t), by simp, h⟩
    · rcases mem_merged h with h | ⟨kt, hk, h⟩
      · exact .inl h
      · exact .inr ⟨kt, List.mem_cons_of_mem _ hk, h⟩
theorem mem_upon {l : List Atom} {rev : Int} {u : List Int} {cs : List Chg} {rev' group rank : Int} {x : Atom} (h : x ∈ upon l rev u cs rev' group rank) :
    (∃ a ∈ l, x = a ∨ x = { a with cuts := a.cuts ++ [⟨rev', group⟩] }) ∨ (∃ b, IsCP b ∧ x = ⟨b, rev', group, rank, []⟩) := by
  unfold upon at h
  split at h
  · rename_i h0
    rcases mem_merged h with h | ⟨kt, hk, h⟩
    · exact .inl (mem_marked h)
    · right
      simp only [newAtoms, List.mem_map] at h
      obtain ⟨b, hb, rfl⟩ := h
      refine ⟨b, ?_, rfl⟩
      cases hp : pts kt.2 with
      | none => rw [ptsOf, hp] at hb; cases hb
      | some ps => rw [ptsOf, hp] at hb; exact (pts_cp _ _ ps (Nat.le_refl _) hp).2 b hb
  · exact .inl ⟨x, h, .inl rfl⟩
theorem addR_ok {R : Revs} {g : Int} (h : (addR R g).2.2 = 0) (ho : R.Ok) : g ∉ R.gone ∧ 0 ≤ g ∧ g < 60 ∧ R.head < 200 ∧ addR R g = ({ R.push R.top with grp := insS g R.grp }, (R.head : Int) + 1, 0) ∧ (addR R g).1.head = R.head + 1 := by
  have hl := List.length_pos_iff.2 ho.one
  by_cases h1 : g ∈ R.gone ∨ g < 0 ∨ 60 ≤ g
  · rw [add_bad h1] at h; cases h
  · by_cases h2 : 200 ≤ R.head
    · rw [add_many (fun hg => h1 (.inl hg)) (by omega) (by omega) h2] at h; cases h
    · have e := add_good (R := R) (g := g) (fun hg => h1 (.inl hg)) (by omega) (by omega) (by omega)
      refine ⟨fun hg => h1 (.inl hg), by omega, by omega, by omega, e, ?_⟩
      rw [e]; simp only [Revs.head, Revs.push, List.length_append, List.length_cons, List.length_nil]; omega
theorem toggleR_ok {R : Revs} {g : Int} (h : (toggleR R g).2.2 = 0) (ho : R.Ok) : g ∈ R.grp ∧ R.head < 200 ∧ toggleR R g = (R.push (flip g R.top), (R.head : Int) + 1, 0) ∧ (toggleR R g).1.head = R.head + 1 := by
  have hl := List.length_pos_iff.2 ho.one
  by_cases h1 : g ∈ R.grp
  · by_cases h2 : 200 ≤ R.head
    · simp only [toggleR, if_neg (show ¬ g ∉ R.grp from fun h => h h1), if_pos h2] at h; cases h
    · have e := toggle_of h1 (show R.head < 200 by omega)
      refine ⟨h1, by omega, e, ?_⟩
      rw [e]; simp only [Revs.head, Revs.push, List.length_append, List.length_cons, List.length_nil]; omega
  · rw [toggle_bad h1] at h; cases h
theorem head_le {R : Revs} (h : R.Ok) : R.head ≤ 200 := by have := h.few; simp only [Revs.head]; omega
theorem Eng.Ok.fits {E : Eng} (h : E.Ok) (hR : E.R.Ok) : Fits E.l := fits_of h.len h.txt h.cuts (by have := head_le hR; omega)
theorem upon_facts {E : Eng} (h : E.Ok) {base group rank now : Int} {cs : List Chg} {u : List Int} : (∀ a ∈ upon E.l base u cs now group rank, IsCP a.text) ∧ ∀ a ∈ upon E.l base u cs now group rank, a.cuts.length ≤ E.R.head + 1 := by
  constructor <;> intro a ha <;> rcases mem_upon ha with ⟨b, hb, rfl | rfl⟩ | ⟨b, hb, rfl⟩
  · exact h.txt a hb
  · exact h.txt b hb
  · exact hb
  · have := h.cuts a hb; omega
  · have := h.cuts b hb; simp only [List.length_append, List.length_cons, List.length_nil]; omega
  · simp
theorem editE_ok {E : Eng} (h : E.Ok) (hR : E.R.Ok) (base group rank : Int) (cs : List Chg) : (editE E base group rank cs).1.Ok := by
  unfold editE
  split
  · exact h
  split
  · exact h
  split
  · exact h
  rename_i h3
  split
  · exact h
  split
  · exact h
  rename_i h5
  split
  · exact h
  have h3' : (addR E.R group).2.2 = 0 := by simpa using h3
  obtain ⟨_, _, _, _, e1, e2⟩ := addR_ok h3' hR
  obtain ⟨f1, f2⟩ := upon_facts h (base := base) (group := group) (rank := rank) (now := (addR E.R group).2.1) (cs := cs) (u := E.R.undone base)
  exact ⟨by simp only; omega, f1, fun a ha => by simp only [e2]; exact f2 a ha⟩
end Go.Proofs.Ytfkiebglpagnaaa.M
namespace Go.Proofs.Ytfkiebglpagnaaa.M
open Go Go.Mini
attribute [local congr] go1_congr goM_congr goG_congr goV_congr drawwp_congr Xwp_congr
def AtomLst (x : AVal) (l : List Atom) : Prop := x = eAtoms l ∨ (x = .nils ∧ l = [])
theorem AtomLst.sees {x : AVal} {l : List Atom} (h : AtomLst x l) (σ : Heap) : Sees σ x σ (eAtoms l) := by
  rcases h with rfl | ⟨rfl, rfl⟩
  · exact Sees.refl _ _
  · exact Sees.nils σ 5
theorem AtomLst.cells {x : AVal} {l : List Atom} (h : AtomLst x l) : x.cells = [x] ∧ x.isCell = true ∧ x.isRaw = false := by
  rcases h with rfl | ⟨rfl, rfl⟩ <;> exact ⟨rfl, rfl, rfl⟩
theorem SeesL.same (σ : Heap) : ∀ l : List AVal, SeesL σ l σ l
  | [] => .nil _
  | a :: l => .cons (Sees.refl _ _) (SeesL.same σ l)
theorem AtomLst.call {x : AVal} {l : List Atom} (h : AtomLst x l) {f : FuncId} {args : List AVal} {σ τ : Heap} {v : AVal} (hc : ACall Try.prog f (eAtoms l :: args) σ v τ) : ACall Try.prog f (x :: args) σ v τ := by
  rcases h with rfl | ⟨rfl, rfl⟩
  · exact hc
  · intro φ w vs hvs hr o a next Q hn
    obtain ⟨φ1, h1, h2, h3⟩ := SeesL.cons (Sees.nils σ 5) (SeesL.same σ args) φ w vs hvs hr
    exact hc φ1 w vs h2 h3 o a next Q fun φ' v' w' g1 g2 g3 => hn φ' v' w' (Phi.le_trans h1 g1) g2 g3
structure EngAt (σ : Heap) (k : Nat) (E : Eng) (x : AVal) (kr : Nat) (fpr : List Nat) : Prop where
  blk : σ.get k = some (.cells [x, .ptr (.new kr) 0] none)
  lst : AtomLst x E.l
  revs : IsRevs σ kr E.R fpr
  out : k ∉ fpr
  low : k < σ.next
  ok : E.Ok
def IsEng (σ : Heap) (k : Nat) (E : Eng) (fp : List Nat) : Prop := ∃ x kr fpr, EngAt σ k E x kr fpr ∧ fp = k :: fpr
theorem EngAt.keep {σ τ : Heap} {k : Nat} {E : Eng} {x : AVal} {kr : Nat} {fpr fp' : List Nat} (h : EngAt σ k E x kr fpr) (hk : Keep fp' σ τ) (hd : ∀ y ∈ k :: fpr, y ∉ fp') : EngAt τ k E x kr fpr where
  blk := by rw [hk.2.2.2 k h.low (hd k (by simp))]; exact h.blk
  lst := h.lst
  revs := h.revs.keep hk fun y hy => hd y (List.mem_cons_of_mem _ hy)
  out := h.out
  low := Nat.lt_of_lt_of_le h.low hk.2.2.1
  ok := h.ok
theorem IsEng.keep {σ τ : Heap} {k : Nat} {E : Eng} {fp fp' : List Nat} (h : IsEng σ k E fp) (hk : Keep fp' σ τ) (hd : ∀ y ∈ fp, y ∉ fp') : IsEng τ k E fp := by
  obtain ⟨x, kr, fpr, h, rfl⟩ := h
  exact ⟨x, kr, fpr, h.keep hk hd, rfl⟩
theorem IsEng.low {σ : Heap} {k : Nat} {E : Eng} {fp : List Nat} (h : IsEng σ k E fp) : ∀ x ∈ fp, x < σ.next := by
  obtain ⟨x, kr, fpr, h, rfl⟩ := h
  intro y hy
  rcases List.mem_cons.1 hy with rfl | hy
  · exact h.low
  · exact h.revs.low y hy
theorem IsEng.ok {σ : Heap} {k : Nat} {E : Eng} {fp : List Nat} (h : IsEng σ k E fp) : E.Ok ∧ E.R.Ok := by
  obtain ⟨x, kr, fpr, h, rfl⟩ := h
  exact ⟨h.ok, h.revs.ok⟩
theorem undone_rise {R : Revs} (h : R.Ok) (n : Int) : Rise (R.undone n) := by
  unfold Revs.undone
  split
  · unfold Revs.at
    cases he : R.und[(n - R.floor).toNat]? with
    | none => exact Rise.nil
    | some s => exact h.rise s (List.mem_of_getElem? he)
  · exact Rise.nil
theorem undone_few {R : Revs} (h : R.Ok) (n : Int) : (R.undone n).length ≤ 1000000 := by have := rise_len (undone_rise h n); omega
section
variable {σ : Heap} {k : Nat} {E : Eng} {fp : List Nat} {x : AVal} {kr : Nat} {fpr : List Nat}
theorem EngAt.head (h : EngAt σ k E x kr fpr) : ACall Try.prog n_engine_Engine_Head [.ptr (.new k) 0] σ (.int .i64 (E.R.head : Nat)) σ := by
  refine exact_call (spec_of_awp mixed c_engine_Engine_Head (tl rfl) ?_)
  unfold f_engine_Engine_Head
  have hk := h.blk
  simp +decide only [↓evd, evw, evz, reduceCtorEq, ↓reduceIte, hk]
  refine MSpec.of (head_at h.revs) ?_
  simp +decide only [↓evd, evw, evz, reduceCtorEq, ↓reduceIte]
theorem EngAt.live (h : EngAt σ k E x kr fpr) (n : Int) : ACall Try.prog n_engine_Engine_Live [.ptr (.new k) 0, .int .i64 n] σ (.bool (E.R.live n)) σ := by
  refine exact_call (spec_of_awp mixed c_engine_Engine_Live (tl rfl) ?_)
  unfold f_engine_Engine_Live
  have hk := h.blk
  simp +decide only [↓evd, evw, evz, reduceCtorEq, ↓reduceIte, hk]
  refine MSpec.of (live_at h.revs n) ?_
  simp +decide only [↓evd, evw, evz, reduceCtorEq, ↓reduceIte]
theorem EngAt.undoneAt (h : EngAt σ k E x kr fpr) (n : Int) : ACall Try.prog n_engine_Engine_UndoneAt [.ptr (.new k) 0, .int .i64 n] σ (ints (E.R.undone n)) σ := by
  refine exact_call (spec_of_awp mixed c_engine_Engine_UndoneAt (tl rfl) ?_)
  unfold f_engine_Engine_UndoneAt
  have hk := h.blk
  simp +decide only [↓evd, evw, evz, reduceCtorEq, ↓reduceIte, hk]
  refine MSpec.of (undone_at h.revs n) ?_
  simp +decide only [↓evd, evw, evz, reduceCtorEq, ↓reduceIte]
theorem EngAt.atoms (h : EngAt σ k E x kr fpr) : ACall Try.prog n_engine_Engine_Atoms [.ptr (.new k) 0] σ (eAtoms E.l) σ := by
  refine exact_call (spec_of_awp mixed c_engine_Engine_Atoms (tl rfl) ?_)
  unfold f_engine_Engine_Atoms
  have hk := h.blk
  have hf := h.ok.fits h.revs.ok
  have hc := h.lst.call (copy_call σ E.l hf.1 hf.2.1)
  have hr := h.lst.cells.2.2
  simp only [eAtoms] at hc
  simp +decide only [↓evd, evw, evz, reduceCtorEq, ↓reduceIte, hk, hr]
  refine MSpec.of hc ?_
  simp +decide only [↓evd, evw, evz, reduceCtorEq, ↓reduceIte]
def textV (E : Eng) (n : Int) : AVal := if E.R.live n then .tup [.str (E.text n), .int .i64 0] else .tup [.str [], .int .i64 190]
theorem EngAt.text (h : EngAt σ k E x kr fpr) (n : Int) : ACall Try.prog n_engine_Engine_Text [.ptr (.new k) 0, .int .i64 n] σ (textV E n) σ := by
  refine exact_call (spec_of_awp mixed c_engine_Engine_Text (tl rfl) ?_)
  unfold f_engine_Engine_Text
  have hk := h.blk
  have hf := h.ok.fits h.revs.ok
  have hc := h.lst.call (text_call σ E.l n (E.R.undone n) (undone_few h.revs.ok n) hf)
  have hr := h.lst.cells.2.2
  have hu := h.undoneAt n
  simp only [ints] at hc hu
  simp +decide only [↓evd, evw, evz, reduceCtorEq, ↓reduceIte]
  refine MSpec.of (h.live n) ?_
  cases hl : E.R.live n with
  | false =>
    simp +decide only [↓evd, evw, evz, reduceCtorEq, ↓reduceIte, textV, hl]
  | true =>
    simp +decide only [↓evd, evw, evz, reduceCtorEq, ↓reduceIte]
    with_reducible refine draw_of_grow (fun _ => True) (ms := [false, false, false, false, false, false, false, false, false, false, false]) (by kernel_rfl) ?_
    simp +decide only [↓evd, evw, evz, reduceCtorEq, ↓reduceIte, hk, hr]
    refine MSpec.of hu ⟨.inr Keeps.rfl, ?_⟩
    simp +decide only [↓evd, evw, evz, reduceCtorEq, ↓reduceIte]
    refine MSpec.of hc ⟨.inr Keeps.rfl, ?_⟩
    simp +decide only [↓evd, evw, evz, reduceCtorEq, ↓reduceIte, textV, hl, Eng.text]
theorem Eng.live_head {E : Eng} (h : E.R.Ok) : E.R.live (E.R.head : Nat) = true := h.top.2.2
theorem EngAt.fitsC (h : EngAt σ k E x kr fpr) : ACall Try.prog n_engine_Engine_fits [.ptr (.new k) 0] σ (.bool (decide (((E.text (E.R.head : Nat)).length : Int) ≤ 20000))) σ := by
  refine exact_call (spec_of_awp mixed c_engine_Engine_fits (tl rfl) ?_)
  unfold f_engine_Engine_fits
  have hl := Eng.live_head h.revs.ok
  have ht := h.text (E.R.head : Nat)
  rw [textV, if_pos hl] at ht
  simp +decide only [↓evd, evw, evz, reduceCtorEq, ↓reduceIte]
  refine MSpec.of h.head ?_
  simp +decide only [↓evd, evw, evz, reduceCtorEq, ↓reduceIte]
  refine MSpec.of ht ?_
  simp +decide only [↓evd, evw, evz, reduceCtorEq, ↓reduceIte]
end
theorem enew_at (σ : Heap) (hd : σ.F0.dr = false) : MSpec Try.prog n_engine_New [] σ fun v τ => ∃ k fp, v = .ptr (.new k) 0 ∧ IsEng τ k Eng.new fp ∧ (∀ x ∈ fp, σ.next ≤ x) ∧ Keep [] σ τ := by
  refine spec_of_awp mixed c_engine_New (tl rfl) ?_
  unfold f_engine_New
  simp +decide only [↓evd, evw, evz, reduceCtorEq, ↓reduceIte]
  refine (new_at σ hd).mono ?_
  rintro v τ ⟨rfl, ⟨fp, hR, hf⟩, hk⟩
  simp +decide only [↓evd, evw, evz, reduceCtorEq, ↓reduceIte]
  have hkn : Keep [] τ (τ.new (.cells [.nils, .ptr (.new (σ.next + 4)) 0] none)) := (Keep.refl [] τ).new _
  refine ⟨_, _, rfl, ⟨.nils, σ.next + 4, fp, ⟨by rw [Heap.get_new, if_pos rfl], .inr ⟨rfl, rfl⟩, hR.keep hkn (fun x _ => by simp), fun hm => by have := hR.low _ hm; omega, by simp, Eng.new_ok⟩, rfl⟩, ?_, hk.trans hkn (fun x hx => nomatch hx)⟩
  intro y hy
  rcases List.mem_cons.1 hy with rfl | hy
  · exact hk.2.2.1
  · exact hf y hy
theorem ecopy_at {σ : Heap} {k : Nat} {E : Eng} {fp : List Nat} (h : IsEng σ k E fp) : MSpec Try.prog n_engine_Engine_Copy [.ptr (.new k) 0] σ fun v τ => ∃ k' kr' fpr', v = .ptr (.new k') 0 ∧ EngAt τ k' E (eAtoms E.l) kr' fpr' ∧ (∀ x ∈ k' :: fpr', σ.next ≤ x) ∧ Keep [] σ τ := by
  obtain ⟨x, kr, fpr, h, rfl⟩ := h
  refine spec_of_awp mixed c_engine_Engine_Copy (tl rfl) ?_
  unfold f_engine_Engine_Copy
  have hk := h.blk
  have hkl := h.low
  have hf := h.ok.fits h.revs.ok
  have hc := h.lst.call (copy_call σ E.l hf.1 hf.2.1)
  have hr := h.lst.cells.2.2
  simp only [eAtoms] at hc
  simp +decide only [↓evd, evw, evz, reduceCtorEq, ↓reduceIte]
  with_reducible refine draw_of_grow (fun q => q < σ.next) (ms := [false, false, false, false, false, false, false, false, false, false, false, false, false]) (by kernel_rfl) ?_
  simp +decide only [↓evd, evw, evz, reduceCtorEq, ↓reduceIte, hk, hkl, hr]
  refine MSpec.of hc ⟨.inr Keeps.rfl, ?_⟩
  simp +decide only [↓evd, evw, evz, reduceCtorEq, ↓reduceIte, hk, hkl, hr]
  refine (copy_at h.revs).mono ?_
  rintro v τ ⟨rfl, ⟨fpr', hR, hf'⟩, hkk⟩
  refine ⟨.inr ⟨hkk.1, fun q hq => hkk.2.2.2 q hq (by simp)⟩, ?_⟩
  simp +decide only [↓evd, evw, evz, reduceCtorEq, ↓reduceIte]
  have hn := hkk.2.2.1
  refine ⟨.inr (keeps_new (fun q hq => by omega) _), ?_⟩
  simp +decide only [↓evd, evw, evz, reduceCtorEq, ↓reduceIte]
  have hkn : Keep [] τ (τ.new (.cells [eAtoms E.l, .ptr (.new (σ.next + 2)) 0] none)) := (Keep.refl [] τ).new _
  refine ⟨_, _, fpr', rfl, ⟨by rw [Heap.get_new, if_pos rfl], .inl rfl, hR.keep hkn (fun x _ => by simp), fun hm => by have := hR.low _ hm; omega, by simp, h.ok⟩, ?_, hkk.trans hkn (fun x hx => nomatch hx)⟩
  intro y hy
  rcases List.mem_cons.1 hy with rfl | hy
  · exact hn
  · exact hf' y hy
section
variable {σ : Heap} {k : Nat} {E : Eng} {fp : List Nat}
theorem IsEng.took {τ : Heap} {kr' : Nat} {E' : Eng} {x : AVal} {fpr' : List Nat} (hk : k < τ.next) (hlow : ∀ y ∈ fpr', y < τ.next) (hx : AtomLst x E'.l) (hR : IsRevs τ kr' E'.R fpr') (hkf : k ∉ fpr') (hok : E'.Ok) :
    IsEng (τ.set k (.cells [x, .ptr (.new kr') 0] none)) k E' (k :: fpr') := by
  have hkn : Keep [k] τ (τ.set k (.cells [x, .ptr (.new kr') 0] none)) := (Keep.refl _ _).set (.inl (by simp)) _
  exact ⟨x, kr', fpr', ⟨by rw [Heap.get_set, if_pos rfl], hx, hR.keep hkn (fun y hy hm => by simp at hm; subst hm; exact hkf hy), hkf, by simpa using hk, hok⟩, rfl⟩
set_option maxHeartbeats 2000000 in
theorem etoggle_at {E' : Eng} {n c : Int} (h : IsEng σ k E fp) {g : Int} (e : toggleE E g = (E', n, c)) : MSpec Try.prog n_engine_Engine_Toggle [.ptr (.new k) 0, .int .i64 g] σ fun v τ => v = .tup [.int .i64 n, .int .i64 c] ∧ ∃ fp', IsEng τ k E' fp' ∧ Keep fp σ τ ∧ Fresh fp σ fp' := by
  refine spec_of_awp mixed c_engine_Engine_Toggle (tl rfl) ?_
  unfold f_engine_Engine_Toggle
  have hlow := h.low
  have hok := h.ok
  obtain ⟨x0, kr0, fpr0, h0, rfl⟩ := id h
  simp +decide only [↓evd, evw, evz, reduceCtorEq, ↓reduceIte]
  refine (ecopy_at h).mono ?_
  rintro v τ ⟨k', kr', fpr', rfl, hC, hf', hK⟩
  have hb := hC.blk
  have hE := h.keep hK (fun y _ => by simp)
  rcases ht : toggleR E.R g with ⟨R', n', c'⟩
  simp +decide only [↓evd, evw, evz, reduceCtorEq, ↓reduceIte, hb]
  refine (toggle_at hC.revs ht).mono ?_
  rintro v τ1 ⟨rfl, fpr1, hR1, hK1, hF1⟩
  have hE1 := hE.keep hK1 (fun y hy hm => by have := hlow y hy; have := hf' y (List.mem_cons_of_mem _ hm); omega)
  have hKn := hK.2.2.1
  have hKn1 := hK1.2.2.1
  have hkk := hf' k' (by simp)
  have hb1 : τ1.get k' = some (.cells [eAtoms E.l, .ptr (.new kr') 0] none) := by rw [hK1.2.2.2 k' hC.low hC.out]; exact hb
  have hkp : Keep (k :: fpr0) σ τ1 := (hK.mono (fun x hx => nomatch hx)).trans hK1 (fun x hx => .inr (hf' x (List.mem_cons_of_mem _ hx)))
  by_cases hc : c' = 0
  case neg =>
    have hb : (c' != 0) = true := by simpa using hc
    have : toggleE E g = (E, 0, c') := by rw [toggleE, ht, if_pos hc]
    rw [this] at e; cases e
    simp +decide only [↓evd, evw, evz, reduceCtorEq, ↓reduceIte, hb]
    exact ⟨k :: fpr0, hE1, hkp, fun x hx => .inl hx⟩
  subst hc
  have hcb : ((0 : Int) != 0) = false := rfl
  obtain ⟨_, _, t1, t2⟩ := toggleR_ok (R := E.R) (g := g) (by rw [ht]) hok.2
  rw [ht] at t2
  simp only at t2
  have hok2 : Eng.Ok ⟨E.l, R'⟩ := ⟨hok.1.len, hok.1.txt, fun a ha => by have := hok.1.cuts a ha; simp only [t2]; omega⟩
  have hN : EngAt τ1 k' ⟨E.l, R'⟩ (eAtoms E.l) kr' fpr1 := ⟨hb1, .inl rfl, hR1, fun hm => by
    rcases hF1 k' hm with h1 | h1
    · exact hC.out h1
    · have := hC.low; omega, Nat.lt_of_lt_of_le hC.low hKn1, hok2⟩
  have hfit := hN.fitsC
  have hf1 : ∀ y ∈ fpr1, σ.next ≤ y := fun y hy => by
    rcases hF1 y hy with h1 | h1
    · exact hf' y (List.mem_cons_of_mem _ h1)
    · omega
  simp +decide only [↓evd, evw, evz, reduceCtorEq, ↓reduceIte, hcb]
  refine MSpec.of hfit ?_
  by_cases hl : ((Eng.text ⟨E.l, R'⟩ (R'.head : Nat)).length : Int) ≤ 20000
  · have : toggleE E g = (⟨E.l, R'⟩, n', 0) := by rw [toggleE, ht, if_neg (by simp), if_neg (by simp only; omega)]
    rw [this] at e; cases e
    have hk0 := h0.low
    have hle : k < τ1.next := by omega
    obtain ⟨y, kry, fpry, hy, hye⟩ := id hE1
    have hby := hy.blk
    simp +decide only [↓evd, evw, evz, reduceCtorEq, ↓reduceIte, decide_eq_true hl, hb1, hby]
    refine ⟨k :: fpr1, IsEng.took hle hR1.low (.inl rfl) hR1 (fun hm => by have := hf1 k hm; omega) hok2, hkp.set (.inl (by simp)) _, fun x hx => ?_⟩
    rcases List.mem_cons.1 hx with rfl | hx
    · exact .inl (by simp)
    · exact .inr (hf1 x hx)
  · have : toggleE E g = (E, 0, 13) := by rw [toggleE, ht, if_neg (by simp), if_pos (by simp only; omega)]
    rw [this] at e; cases e
    simp +decide only [↓evd, evw, evz, reduceCtorEq, ↓reduceIte, decide_eq_false hl]
    exact ⟨k :: fpr0, hE1, hkp, fun x hx => .inl hx⟩
end
section
variable {σ : Heap} {k : Nat} {E : Eng} {fp : List Nat}
theorem upon_few {l : List Atom} (hl : l.length ≤ 4000) (rev : Int) (u : List Int) {cs : List Chg} (hcl : cs.length ≤ 1000) (hc : ∀ c ∈ cs, c.text.length ≤ 1000000) (rev' group rank : Int) : (upon l rev u cs rev' group rank).length ≤ 100000000000 := by
  unfold upon
  split
  case isFalse => omega
  rename_i h0
  have hml : (marked (cuts l rev u cs) ⟨rev', group⟩ l 0).length ≤ 4000 := by rw [marked_len]; exact hl
  generalize marked (cuts l rev u cs) ⟨rev', group⟩ l 0 = mk at hml
  have key : ∀ (r : List (Nat × List UInt8)) (at' : Nat), (∀ kt ∈ r, kt.2.length ≤ 1000000) → (merged (fun t => newAtoms rev' group rank (ptsOf t)) mk r at').length ≤ 4000 + r.length * 1004000 := by
    intro r
    induction r with
    | nil => intro at' _; simp only [merged, List.length_drop]; omega
    | cons kt r ih =>
      intro at' hk
      obtain ⟨q, t⟩ := kt
      have h1 := ih q fun z hz => hk z (List.mem_cons_of_mem _ hz)
      have h2 := hk (q, t) (by simp)
      have h3 : (newAtoms rev' group rank (ptsOf t)).length ≤ t.length := by
        simp only [newAtoms, List.length_map, ptsOf]
        cases hp : pts t with
        | none => simp
        | some ps => exact pts_len _ t ps (Nat.le_refl _) hp
      simp only [merged_cons, List.length_append, List.length_drop, List.length_take, List.length_cons]
      simp only at h2
      omega
  have h2 := key ((spotsN l rev u cs rank).zip (cs.map Chg.text)) 0 (by
    rintro ⟨q, t⟩ hz
    have := (List.of_mem_zip hz).2
    rw [List.mem_map] at this
    obtain ⟨c, hcm, rfl⟩ := this
    exact hc c hcm)
  have h3 : ((spotsN l rev u cs rank).zip (cs.map Chg.text)).length ≤ 1000 := by rw [List.length_zip]; simp; omega
  omega
set_option maxHeartbeats 4000000 in
theorem eedit_at {E' : Eng} {n c : Int} (h : IsEng σ k E fp) {base group rank : Int} {cs : List Chg} (hcl : cs.length ≤ 1000) (hct : ∀ c ∈ cs, c.text.length ≤ 1000000) (e : editE E base group rank cs = (E', n, c)) :
    MSpec Try.prog n_engine_Engine_Edit [.ptr (.new k) 0, .int .i64 base, .int .i64 group, .int .i64 rank, eChgs cs] σ fun v τ => v = .tup [.int .i64 n, .int .i64 c] ∧ ∃ fp', IsEng τ k E' fp' ∧ Keep fp σ τ ∧ Fresh fp σ fp' := by
  refine spec_of_awp mixed c_engine_Engine_Edit (tl rfl) ?_
  unfold f_engine_Engine_Edit
  have hlow := h.low
  have hok := h.ok
  obtain ⟨x0, kr0, fpr0, h0, rfl⟩ := id h
  have hb0 := h0.blk
  have hx0 := h0.lst.cells.2.2
  have htx := h0.text base
  have hsame : ∃ fp', IsEng σ k E fp' ∧ Keep (k :: fpr0) σ σ ∧ Fresh (k :: fpr0) σ fp' := ⟨_, h, Keep.refl _ _, fun x hx => .inl hx⟩
  have hroom : maxRoom = 68719476736 := rfl
  cases hl : E.R.live base with
  | false =>
    have : editE E base group rank cs = (E, 0, 190) := by rw [editE, if_pos hl]
    rw [this] at e; cases e
    rw [textV, hl, if_neg (by simp)] at htx
    have hb : ((190 : Int) != 0) = true := rfl
    simp +decide only [↓evd, evw, evz, reduceCtorEq, ↓reduceIte]
    refine MSpec.of htx ?_
    simp +decide only [↓evd, evw, evz, reduceCtorEq, ↓reduceIte, hb]
    exact hsame
  | true =>
  rw [textV, if_pos hl] at htx
  have hlt := atomsText_le base (E.R.undone base) hok.1.txt
  have hl4 := hok.1.len
  have hck := check_call σ (E.text base) cs (by unfold Eng.text; omega) (by omega) (fun c hc => by have := hct c hc; unfold ChgFits; omega)
  have hcb : ((0 : Int) != 0) = false := rfl
  simp +decide only [↓evd, evw, evz, reduceCtorEq, ↓reduceIte]
  refine MSpec.of htx ?_
  simp +decide only [↓evd, evw, evz, reduceCtorEq, ↓reduceIte, hcb]
  simp only [eChgs] at hck
  refine MSpec.of hck ?_
  by_cases hc0 : check (E.text base) cs = 0
  case neg =>
    have : editE E base group rank cs = (E, 0, check (E.text base) cs) := by rw [editE, if_neg (by simp [hl]), if_pos hc0]
    rw [this] at e; cases e
    have hb : (check (E.text base) cs != 0) = true := by simpa using hc0
    simp +decide only [↓evd, evw, evz, reduceCtorEq, ↓reduceIte, hb]
    exact hsame
  rw [hc0]
  simp +decide only [↓evd, evw, evz, reduceCtorEq, ↓reduceIte, hcb]
  refine (ecopy_at h).mono ?_
  rintro v τ ⟨k', kr', fpr', rfl, hC, hf', hK⟩
  have hb := hC.blk
  have hE := h.keep hK (fun y _ => by simp)
  rcases ht : addR E.R group with ⟨R', n', c'⟩
  simp +decide only [↓evd, evw, evz, reduceCtorEq, ↓reduceIte, hb]
  refine (add_at hC.revs ht).mono ?_
  rintro v τ1 ⟨rfl, fpr1, hR1, hK1, hF1⟩
  have hdis : ∀ y ∈ k :: fpr0, y ∉ fpr' := fun y hy hm => by have := hlow y hy; have := hf' y (List.mem_cons_of_mem _ hm); omega
  have hE1 := hE.keep hK1 hdis
  have hA1 := (h0.keep hK (fun y _ => by simp)).keep hK1 hdis
  have hKn := hK.2.2.1
  have hKn1 := hK1.2.2.1
  have hkk := hf' k' (by simp)
  have hb1 : τ1.get k' = some (.cells [eAtoms E.l, .ptr (.new kr') 0] none) := by rw [hK1.2.2.2 k' hC.low hC.out]; exact hb
  have hkp : Keep (k :: fpr0) σ τ1 := (hK.mono (fun x hx => nomatch hx)).trans hK1 (fun x hx => .inr (hf' x (List.mem_cons_of_mem _ hx)))
  have hfin : ∃ fp', IsEng τ1 k E fp' ∧ Keep (k :: fpr0) σ τ1 ∧ Fresh (k :: fpr0) σ fp' := ⟨k :: fpr0, hE1, hkp, fun x hx => .inl hx⟩
  have hne : editE E base group rank cs = if c' ≠ 0 then (E, 0, c') else if rank < 0 ∨ 1000000 < rank then (E, 0, 10) else
      if 4000 < (upon E.l base (E.R.undone base) cs n' group rank).length then (E, 0, 70) else
      if 20000 < (Eng.text ⟨upon E.l base (E.R.undone base) cs n' group rank, R'⟩ R'.head).length then (E, 0, 13) else (⟨upon E.l base (E.R.undone base) cs n' group rank, R'⟩, n', 0) := by
    rw [editE, if_neg (by simp [hl]), if_neg (by simp [hc0]), ht]
  by_cases hc : c' = 0
  case neg =>
    have hb : (c' != 0) = true := by simpa using hc
    rw [if_pos hc] at hne
    rw [hne] at e; cases e
    simp +decide only [↓evd, evw, evz, reduceCtorEq, ↓reduceIte, hb]
    exact hfin
  subst hc
  rw [if_neg (by simp)] at hne
  by_cases hr : rank < 0 ∨ 1000000 < rank
  · rw [if_pos hr] at hne
    rw [hne] at e; cases e
    by_cases hr1 : rank < 0
    · simp +decide only [↓evd, evw, evz, reduceCtorEq, ↓reduceIte, hcb, hr1]
      exact hfin
    · have hr2 := hr.resolve_left hr1
      simp +decide only [↓evd, evw, evz, reduceCtorEq, ↓reduceIte, hcb, hr1, hr2]
      exact hfin
  rw [if_neg hr] at hne
  have hr1 : ¬ rank < 0 := fun h => hr (.inl h)
  have hr2 : ¬ 1000000 < rank := fun h => hr (.inr h)
  obtain ⟨_, _, _, _, t1, t2⟩ := addR_ok (R := E.R) (g := group) (by rw [ht]) hok.2
  rw [ht] at t2
  simp only at t2
  have hfit0 := hok.1.fits hok.2
  have hup := hA1.lst.call (upon_call τ1 E.l base (E.R.undone base) cs n' group rank (undone_few hok.2 base) hfit0 (by omega) hct (fun a ha => by have := hok.1.cuts a ha; have := head_le hok.2; omega) (by omega))
  have hun := hA1.undoneAt base
  obtain ⟨uf1, uf2⟩ := upon_facts hok.1 (base := base) (group := group) (rank := rank) (now := n') (cs := cs) (u := E.R.undone base)
  have hb01 := hA1.blk
  have hlen := upon_few hok.1.len base (E.R.undone base) hcl hct n' group rank
  generalize upon E.l base (E.R.undone base) cs n' group rank = l' at hup hne uf1 uf2 hlen
  simp only [ints, eChgs, eAtoms] at hup
  simp only [ints] at hun
  simp only [eAtoms] at hb1
  simp +decide only [↓evd, evw, evz, reduceCtorEq, ↓reduceIte, hcb, hr1, hr2]
  with_reducible refine draw_of_grow (fun _ => True) (ms := [false, false, false, false, false, false, false, false, false, false, false, false, false, false, false, false, true]) (by kernel_rfl) ?_
  simp +decide only [↓evd, evw, evz, reduceCtorEq, ↓reduceIte, hb01, hx0]
  refine MSpec.of hun ⟨.inr Keeps.rfl, ?_⟩
  simp +decide only [↓evd, evw, evz, reduceCtorEq, ↓reduceIte]
  refine MSpec.of hup ⟨.inr Keeps.rfl, ?_⟩
  simp +decide only [↓evd, evw, evz, reduceCtorEq, ↓reduceIte, hb1]
  have hK2 : Keep [k'] τ1 (τ1.set k' (.cells [.fsl 5 (l'.map eAtom), .ptr (.new kr') 0] none)) := (Keep.refl _ _).set (.inl (by simp)) _
  have hkf : k' ∉ fpr1 := fun hm => by
    rcases hF1 k' hm with h1 | h1
    · exact hC.out h1
    · have := hC.low; omega
  have hkp2 : Keep (k :: fpr0) σ (τ1.set k' (.cells [.fsl 5 (l'.map eAtom), .ptr (.new kr') 0] none)) := hkp.set (.inr hkk) _
  have hE2 := hE1.keep hK2 (fun y hy hm => by simp at hm; have := hlow y hy; omega)
  have hfin2 : ∃ fp', IsEng (τ1.set k' (.cells [.fsl 5 (l'.map eAtom), .ptr (.new kr') 0] none)) k E fp' ∧ Keep (k :: fpr0) σ (τ1.set k' (.cells [.fsl 5 (l'.map eAtom), .ptr (.new kr') 0] none)) ∧ Fresh (k :: fpr0) σ fp' := ⟨k :: fpr0, hE2, hkp2, fun x hx => .inl hx⟩
  by_cases hm : 4000 < l'.length
  · have hm' : (4000 : Int) < (l'.length : Int) := by omega
    rw [if_pos hm] at hne
    rw [hne] at e; cases e
    simp +decide only [↓evd, evw, evz, reduceCtorEq, ↓reduceIte, hm']
    exact hfin2
  have hm' : ¬ (4000 : Int) < (l'.length : Int) := by omega
  rw [if_neg hm] at hne
  have hR2 := hR1.keep hK2 (fun y hy hm => by simp at hm; subst hm; exact hkf hy)
  have hok2 : Eng.Ok ⟨l', R'⟩ := ⟨by simp only; omega, uf1, fun a ha => by have := uf2 a ha; simp only [t2]; omega⟩
  have hN : EngAt (τ1.set k' (.cells [.fsl 5 (l'.map eAtom), .ptr (.new kr') 0] none)) k' ⟨l', R'⟩ (eAtoms l') kr' fpr1 := ⟨by rw [Heap.get_set, if_pos rfl]; rfl, .inl rfl, hR2, hkf, by have := hC.low; simp only [Heap.set_next]; omega, hok2⟩
  have hfit := hN.fitsC
  have hf1 : ∀ y ∈ fpr1, σ.next ≤ y := fun y hy => by
    rcases hF1 y hy with h1 | h1
    · exact hf' y (List.mem_cons_of_mem _ h1)
    · omega
  simp +decide only [↓evd, evw, evz, reduceCtorEq, ↓reduceIte, hm']
  refine MSpec.of hfit ?_
  by_cases hl : ((Eng.text ⟨l', R'⟩ (R'.head : Nat)).length : Int) ≤ 20000
  · rw [if_neg (by omega)] at hne
    rw [hne] at e; cases e
    have hk0 := h0.low
    have hle : k < τ1.next := by omega
    have hne2 : (k' = k) = False := eq_false (by omega)
    simp +decide only [↓evd, evw, evz, reduceCtorEq, ↓reduceIte, decide_eq_true hl, hb01, hne2]
    refine ⟨k :: fpr1, IsEng.took (by simpa using hle) hR2.low (.inl rfl) hR2 (fun hm => by have := hf1 k hm; omega) hok2, hkp2.set (.inl (by simp)) _, fun x hx => ?_⟩
    rcases List.mem_cons.1 hx with rfl | hx
    · exact .inl (by simp)
    · exact .inr (hf1 x hx)
  · rw [if_pos (by omega)] at hne
    rw [hne] at e; cases e
    simp +decide only [↓evd, evw, evz, reduceCtorEq, ↓reduceIte, decide_eq_false hl]
    exact hfin2
end
theorem chgs_row (cs : List Chg) : ∀ z ∈ cs.map eChg, z.cells.length = 3 := by
  intro z hz; rw [List.mem_map] at hz; obtain ⟨c, _, rfl⟩ := hz; rfl
theorem sees_chgs {σ : Heap} {K n : Nat} {cs : List Chg} (hn : n = cs.length) (hg : σ.get K = some (.cells ((cs.map eChg).flatMap AVal.cells) none)) : Sees σ (.slc (.new K) 0 n (.ex n)) (σ.set K .dead) (eChgs cs) := by
  refine Sees.own hg (by simp [hn]) (chgs_row cs) ?_ (fun c hc => by cases hc; exact Nat.le_refl _)
  have := flat_len (chgs_row cs)
  rw [List.length_map] at this
  rw [List.drop_zero, List.take_of_length_le (by omega)]
section
variable {σ : Heap} {k : Nat} {E : Eng} {fp : List Nat}
theorem eedit_own {E' : Eng} {n c : Int} (h : IsEng σ k E fp) {base group rank : Int} {cs : List Chg} {K q : Nat} (hq : q = cs.length) (hg : σ.get K = some (.cells ((cs.map eChg).flatMap AVal.cells) none)) (hK : K ∉ fp) (hcl : cs.length ≤ 1000) (hct : ∀ c ∈ cs, c.text.length ≤ 1000000) (e : editE E base group rank cs = (E', n, c)) :
    MSpec Try.prog n_engine_Engine_Edit [.ptr (.new k) 0, .int .i64 base, .int .i64 group, .int .i64 rank, .slc (.new K) 0 q (.ex q)] σ fun v τ => v = .tup [.int .i64 n, .int .i64 c] ∧ ∃ fp', IsEng τ k E' fp' ∧ Keep (K :: fp) σ τ ∧ Fresh fp σ fp' := by
  have hk : Keep [K] σ (σ.set K .dead) := (Keep.refl _ _).set (.inl (by simp)) _
  refine mspec_seen (.cons (Sees.refl _ _) (.cons (Sees.refl _ _) (.cons (Sees.refl _ _) (.cons (Sees.refl _ _) (.cons (sees_chgs hq hg) (.nil _)))))) ?_
  refine (eedit_at (h.keep hk fun x hx hm => hK (by simp at hm; exact hm ▸ hx)) hcl hct e).mono ?_
  rintro v τ ⟨hv, fp', h1, h2, h3⟩
  exact ⟨hv, fp', h1, (hk.mono (fun x hx _ => by simp at hx; simp [hx])).trans (h2.mono fun x hx _ => List.mem_cons_of_mem _ hx) (fun x hx => .inl hx), h3⟩
theorem eedit_lit {E' : Eng} {n c : Int} (h : IsEng σ k E fp) {base group rank : Int} {cs : List Chg} {q : Nat} (hq : q = cs.length) (hcl : cs.length ≤ 1000) (hct : ∀ c ∈ cs, c.text.length ≤ 1000000) (e : editE E base group rank cs = (E', n, c)) :
    MSpec Try.prog n_engine_Engine_Edit [.ptr (.new k) 0, .int .i64 base, .int .i64 group, .int .i64 rank, .slc (.new σ.next) 0 q (.ex q)] (σ.new (.cells ((cs.map eChg).flatMap AVal.cells) none)) fun v τ => v = .tup [.int .i64 n, .int .i64 c] ∧ ∃ fp', IsEng τ k E' fp' ∧ Keep fp σ τ ∧ Fresh fp σ fp' := by
  have hk : Keep [] σ (σ.new (.cells ((cs.map eChg).flatMap AVal.cells) none)) := (Keep.refl _ _).new _
  refine (eedit_own (K := σ.next) (h.keep hk (fun x _ => by simp)) hq (by rw [Heap.get_new, if_pos rfl]) (fun hm => by have := h.low _ hm; omega) hcl hct e).mono ?_
  rintro v τ ⟨hv, fp', h1, h2, h3⟩
  refine ⟨hv, fp', h1, ⟨h2.1, h2.2.1, Nat.le_of_succ_le h2.2.2.1, fun q hq hn => ?_⟩, fun x hx => ?_⟩
  · rw [h2.2.2.2 q (Nat.lt_succ_of_lt hq) (fun hm => by rcases List.mem_cons.1 hm with h | h; omega; exact hn h), Heap.get_new, if_neg (by omega)]
  · rcases h3 x hx with h4 | h4
    · exact .inl h4
    · exact .inr (Nat.le_of_succ_le h4)
end
theorem etext_at {σ : Heap} {k : Nat} {E : Eng} {fp : List Nat} (h : IsEng σ k E fp) (n : Int) : ACall Try.prog n_engine_Engine_Text [.ptr (.new k) 0, .int .i64 n] σ (textV E n) σ := by obtain ⟨_, _, _, h, _⟩ := h; exact h.text n
theorem ehead_at {σ : Heap} {k : Nat} {E : Eng} {fp : List Nat} (h : IsEng σ k E fp) : ACall Try.prog n_engine_Engine_Head [.ptr (.new k) 0] σ (.int .i64 (E.R.head : Nat)) σ := by obtain ⟨_, _, _, h, _⟩ := h; exact h.head
theorem eatoms_at {σ : Heap} {k : Nat} {E : Eng} {fp : List Nat} (h : IsEng σ k E fp) : ACall Try.prog n_engine_Engine_Atoms [.ptr (.new k) 0] σ (eAtoms E.l) σ := by obtain ⟨_, _, _, h, _⟩ := h; exact h.atoms
theorem textV_head {E : Eng} (h : E.R.Ok) : textV E (E.R.head : Nat) = .tup [.str (E.text (E.R.head : Nat)), .int .i64 0] := by rw [textV, if_pos (Eng.live_head h)]
theorem aStr_self (s : List UInt8) : aStr .eql s s = some (.bool true) := by simp [aStr]
def at1 (b : UInt8) (cs : List Cut) : Atom := ⟨[b], 1, 1, 0, cs⟩
def kE1 : Eng := ⟨[at1 104 [], at1 101 [], at1 108 [], at1 108 [], at1 111 []], ⟨[[], []], 0, [1], []⟩⟩
def kE2 : Eng := ⟨[⟨[106], 2, 2, 0, []⟩, at1 104 [⟨2, 2⟩], at1 101 [], at1 108 [], at1 108 [], at1 111 []], ⟨[[], [], []], 0, [1, 2], []⟩⟩
def kE3 : Eng := ⟨[⟨[106], 2, 2, 0, []⟩, at1 104 [⟨2, 2⟩], at1 101 [], at1 108 [], at1 108 [], at1 111 [], ⟨[33], 3, 3, 0, []⟩], ⟨[[], [], [], []], 0, [1, 2, 3], []⟩⟩
def kE4 : Eng := ⟨kE3.l, ⟨[[], [], [], [], [2]], 0, [1, 2, 3], []⟩⟩
theorem k1 : editE Eng.new 0 1 0 [⟨0, 0, [104, 101, 108, 108, 111]⟩] = (kE1, 1, 0) := by kernel_rfl
theorem k2 : editE kE1 1 2 0 [⟨0, 1, [106]⟩] = (kE2, 2, 0) := by kernel_rfl
theorem k3 : editE kE2 1 3 0 [⟨5, 5, [33]⟩] = (kE3, 3, 0) := by kernel_rfl
theorem k4 : toggleE kE3 2 = (kE4, 4, 0) := by kernel_rfl
theorem k5 : editE kE4 9 1 0 [] = (kE4, 0, 190) := by kernel_rfl
theorem kt3 : textV kE3 3 = .tup [.str [106, 101, 108, 108, 111, 33], .int .i64 0] := by kernel_rfl
theorem kt4 : textV kE4 4 = .tup [.str [104, 101, 108, 108, 111, 33], .int .i64 0] := by kernel_rfl
set_option maxHeartbeats 2000000 in
theorem known20_call (σ : Heap) (hd : σ.F0.dr = false) : ACall Try.prog n_palinodelaw20_known [] σ (.bool true) σ := by
  refine gc_call rfl (spec_of_awp mixed c_palinodelaw20_known (tl rfl) ?_)
  unfold f_palinodelaw20_known
  simp +decide only [↓evd, evw, evz, reduceCtorEq, ↓reduceIte]
  refine (enew_at σ hd).mono ?_
  rintro v τ ⟨k, fp0, rfl, h0, hf0, k0⟩
  simp +decide only [↓evd, evw, evz, reduceCtorEq, ↓reduceIte]
  refine (eedit_lit h0 (q := 1) rfl (by decide) (by decide) k1).mono ?_
  rintro v τ1 ⟨rfl, fp1, h1, kk1, f1⟩
  simp +decide only [↓evd, evw, evz, reduceCtorEq, ↓reduceIte]
  refine (eedit_lit h1 (q := 1) rfl (by decide) (by decide) k2).mono ?_
  rintro v τ2 ⟨rfl, fp2, h2, kk2, f2⟩
  simp +decide only [↓evd, evw, evz, reduceCtorEq, ↓reduceIte]
  refine (eedit_lit h2 (q := 1) rfl (by decide) (by decide) k3).mono ?_
  rintro v τ3 ⟨rfl, fp3, h3, kk3, f3⟩
  have t3 := etext_at h3 3
  rw [kt3] at t3
  simp +decide only [↓evd, evw, evz, reduceCtorEq, ↓reduceIte]
  refine MSpec.of t3 ?_
  simp +decide only [↓evd, evw, evz, reduceCtorEq, ↓reduceIte]
  refine (etoggle_at h3 k4).mono ?_
  rintro v τ4 ⟨rfl, fp4, h4, kk4, f4⟩
  have t4 := etext_at h4 4
  rw [kt4] at t4
  simp +decide only [↓evd, evw, evz, reduceCtorEq, ↓reduceIte]
  refine MSpec.of t4 ?_
  simp +decide only [↓evd, evw, evz, reduceCtorEq, ↓reduceIte]
  refine mspec_seen (.cons (Sees.refl _ _) (.cons (Sees.refl _ _) (.cons (Sees.refl _ _) (.cons (Sees.refl _ _) (.cons (Sees.nils _ 3) (.nil _)))))) ?_
  refine (eedit_at (cs := []) h4 (by decide) (by decide) k5).mono ?_
  rintro v τ5 ⟨rfl, fp5, h5, kk5, f5⟩
  have b1 : ((0 : Int) == 0) = true := rfl
  have b2 : ((1 : Int) == 1) = true := rfl
  have b3 : ((2 : Int) == 2) = true := rfl
  have b4 : ((3 : Int) == 3) = true := rfl
  have b5 : ((190 : Int) == 190) = true := rfl
  have b6 : ((4 : Int) == 4) = true := rfl
  have b7 : ((7 : Int) == 7) = true := rfl
  have hh := ehead_at h5
  have ha := eatoms_at h5
  have hh2 : ((kE4.R.head : Nat) : Int) = 4 := rfl
  have ha2 : (kE4.l.map eAtom).length = 7 := rfl
  rw [hh2] at hh
  simp only [eAtoms] at ha
  simp +decide only [↓evd, evw, evz, reduceCtorEq, ↓reduceIte, b1, b2, b3, b4, b5, aStr_self]
  refine MSpec.of hh ?_
  simp +decide only [↓evd, evw, evz, reduceCtorEq, ↓reduceIte, b6]
  refine MSpec.of ha ?_
  simp +decide only [↓evd, evw, evz, reduceCtorEq, ↓reduceIte, ha2, b7]
  have a1 := kk1.trans kk2 f1
  have g1 := Fresh.trans f1 kk1.2.2.1 f2
  have a2 := a1.trans kk3 g1
  have g2 := Fresh.trans g1 a1.2.2.1 f3
  have a3 := a2.trans kk4 g2
  have g3 := Fresh.trans g2 a2.2.2.1 f4
  have a4 := a3.trans kk5 g3
  have t2 : Keep [] σ τ5 := (k0.trans (fp' := fp0) a4 (fun x hx => .inr (hf0 x hx)))
  exact ⟨t2.1, t2.2.1, fun q hq => t2.2.2.2 q hq (by simp)⟩
end Go.Proofs.Ytfkiebglpagnaaa.M
namespace Go.Proofs.Ytfkiebglpagnaaa.M
open Go Go.Mini
theorem places_nonneg (rev : Int) (u : List Int) : ∀ (l : List Atom) (n : Nat), ∀ p ∈ places rev u l n, 0 ≤ p
  | [], n, p, h => by simp [places] at h; omega
  | a :: l, n, p, h => by
    simp only [places, List.mem_cons] at h
    rcases h with rfl | h
    · omega
    · exact places_nonneg rev u l _ p h
theorem spotF_low (rev : Int) (u : List Int) (at' : Int) : ∀ (l : List Atom) (ps : List Int) (i acc : Nat), (∀ p ∈ ps, at' ≤ p) → spotF rev u at' l ps i acc = acc
  | [], ps, i, acc, h => by simp [spotF]
  | a :: l, [], i, acc, h => by simp [spotF]
  | a :: l, p :: ps, i, acc, h => by
    have h1 := h p (by simp)
    simp only [spotF]
    rw [if_neg (fun h2 => by omega)]
    exact spotF_low rev u at' l ps _ _ fun q hq => h q (List.mem_cons_of_mem _ hq)
theorem cutsF_none (rev : Int) (u : List Int) (cs : List Chg) (h : ∀ p, cutHit cs p = false) : ∀ (l : List Atom) (ps : List Int) (i : Nat), cutsF rev u cs l ps i = []
  | [], ps, i => by simp [cutsF]
  | a :: l, [], i => by simp [cutsF]
  | a :: l, p :: ps, i => by
    simp only [cutsF, h, Bool.and_false, Bool.false_eq_true, if_false, List.nil_append]
    exact cutsF_none rev u cs h l ps _
theorem marked_nil (c : Cut) : ∀ (l : List Atom) (i : Nat), marked [] c l i = l
  | [], i => rfl
  | a :: l, i => by simp only [marked, List.not_mem_nil, if_false, marked_nil c l]
theorem atoms_valid {l : List Atom} (h : ∀ a ∈ l, IsCP a.text) (rev : Int) (u : List Int) : ∃ ps, atomsText rev u l = List.flatten ps ∧ ∀ p ∈ ps, IsCP p := by
  refine ⟨(l.filter (visible rev u)).map Atom.text, ?_, ?_⟩
  · induction l with
    | nil => rfl
    | cons a l ih =>
      simp only [atomsText, List.filter_cons]
      rw [ih fun b hb => h b (List.mem_cons_of_mem _ hb)]
      split <;> simp
  · intro p hp
    simp only [List.mem_map, List.mem_filter] at hp
    obtain ⟨a, ⟨ha, _⟩, rfl⟩ := hp
    exact h a ha
theorem cp_ascii {b : UInt8} (h : b.toNat < 128) : IsCP [b] := ⟨by simp, by rw [pt, if_pos h]; rfl⟩
theorem check_front {s : List UInt8} (hs : ∃ ps, s = List.flatten ps ∧ ∀ p ∈ ps, IsCP p) {t : List UInt8} (ht : valid t = true) (hl : s.length + t.length ≤ 20000) : check s [⟨0, 0, t⟩] = 0 := by
  obtain ⟨ps, rfl, hp⟩ := hs
  have hv := valid_flat hp
  have he : isEdge ps.flatten 0 = true := (edge_flat hp 0).2 ⟨0, Nat.zero_le _, by simp⟩
  have hw : IntKind.i64.wrap ((0 : Int) - 0) = 0 := by decide
  have hg : gain ps.flatten.length ⟨0, 0, t⟩ = 0 := by
    simp only [gain, gain0, hw]
    rw [if_neg (show ¬ (0 : Int) < 0 by omega), if_neg (by omega)]
  have hlong : longI ps.flatten [⟨0, 0, t⟩] = 0 := by
    simp only [longI, gains, List.map_cons, List.map_nil, hg, List.sum_cons, List.sum_nil, longR]
    rw [if_neg (by omega), if_neg (by omega)]
  have hn : ¬ ((ps.flatten.length : Int) < 0) := by omega
  unfold check
  rw [if_neg (by rw [hv]; simp), if_neg (by simp)]
  simp only [errs, List.any_cons, List.any_nil, Bool.or_false, chgOut, chgIn, he, disorder, ht, hlong, decide_eq_false hn]
  rfl
theorem edit_front {E : Eng} (h : E.Ok) (hR : E.R.Ok) (hrev : ∀ a ∈ E.l, a.rev ≤ (E.R.head : Nat)) {g rank : Int} {b : UInt8} (hb : b.toNat < 128) (hg0 : 0 ≤ g) (hg1 : g < 60) (hgo : g ∉ E.R.gone) (hh : E.R.head < 200) (hr0 : 0 ≤ rank) (hr1 : rank ≤ 1000000) (hlen : E.l.length < 4000) :
    editE E (E.R.head : Nat) g rank [⟨0, 0, [b]⟩] = (⟨⟨[b], (E.R.head : Int) + 1, g, rank, []⟩ :: E.l, { E.R.push E.R.top with grp := insS g E.R.grp }⟩, (E.R.head : Int) + 1, 0) := by
  have hcp := cp_ascii hb
  have hv := atoms_valid h.txt (E.R.head : Nat) (E.R.undone (E.R.head : Nat))
  have hle := atomsText_le (E.R.head : Nat) (E.R.undone (E.R.head : Nat)) h.txt
  have hck : check (E.text (E.R.head : Nat)) [⟨0, 0, [b]⟩] = 0 := check_front hv (valid_iff.2 ⟨[[b]], by simp, by simpa using hcp⟩) (by simp only [Eng.text, List.length_cons, List.length_nil]; omega)
  have hck' : check (atomsText (E.R.head : Nat) (E.R.undone (E.R.head : Nat)) E.l) [⟨0, 0, [b]⟩] = 0 := hck
  have hadd := add_good (R := E.R) hgo hg0 hg1 hh
  have hspot : spot E.l (places (E.R.head : Nat) (E.R.undone (E.R.head : Nat)) E.l 0) (E.R.head : Nat) (E.R.undone (E.R.head : Nat)) 0 rank = 0 := by
    unfold spot
    rw [spotF_low _ _ _ _ _ _ _ (places_nonneg _ _ _ _)]
    simp only [List.drop_zero]
    cases hE : E.l with
    | nil => rfl
    | cons a l =>
      have := hrev a (by rw [hE]; simp)
      rw [spotG, if_neg (by omega)]
  have hup : upon E.l (E.R.head : Nat) (E.R.undone (E.R.head : Nat)) [⟨0, 0, [b]⟩] ((E.R.head : Int) + 1) g rank = ⟨[b], (E.R.head : Int) + 1, g, rank, []⟩ :: E.l := by
    rw [upon, if_pos hck']
    have hct : cuts E.l (E.R.head : Nat) (E.R.undone (E.R.head : Nat)) [⟨0, 0, [b]⟩] = [] := by
      rw [cuts, if_pos hck']
      refine cutsF_none _ _ _ (fun p => ?_) _ _ _
      simp only [cutHit, List.any_cons, List.any_nil, Bool.or_false, Bool.and_eq_false_iff, decide_eq_false_iff_not]
      omega
    rw [hct, marked_nil]
    simp only [spotsN, List.map_cons, List.map_nil, hspot, List.zip_cons_cons, List.zip_nil_left, merged, List.take_zero, List.drop_nil, List.nil_append, List.drop_zero, ptsOf, pts_one hcp, Option.getD_some, newAtoms, List.singleton_append]
  have hlv := Eng.live_head hR
  have htl : ∀ (rev : Int) (u : List Int), (atomsText rev u (⟨[b], (E.R.head : Int) + 1, g, rank, []⟩ :: E.l)).length ≤ 20000 := fun rev u => by
    have := atomsText_le (l := ⟨[b], (E.R.head : Int) + 1, g, rank, []⟩ :: E.l) rev u (by
      intro a ha
      rcases List.mem_cons.1 ha with rfl | ha
      · exact hcp
      · exact h.txt a ha)
    simp only [List.length_cons] at this; omega
  rw [editE, if_neg (by simp [hlv]), if_neg (by simp [hck]), hadd, if_neg (by simp), if_neg (by omega), hup, if_neg (by simp only [List.length_cons]; omega), if_neg (by simp only [Eng.text]; exact Nat.not_lt.2 (htl _ _))]
theorem short_text {l : List Atom} (hl : l.length ≤ 4000) (hc : ∀ a ∈ l, IsCP a.text) (rev : Int) (u : List Int) : (atomsText rev u l).length ≤ 20000 := by have := atomsText_le rev u hc; omega
theorem atomsText_append (rev : Int) (u : List Int) : ∀ l m : List Atom, atomsText rev u (l ++ m) = atomsText rev u l ++ atomsText rev u m
  | [], m => rfl
  | a :: l, m => by simp only [List.cons_append, atomsText, atomsText_append rev u l m, List.append_assoc]
theorem atomsText_none (rev : Int) (u : List Int) : ∀ l : List Atom, (∀ a ∈ l, visible rev u a = false) → atomsText rev u l = []
  | [], _ => rfl
  | a :: l, h => by simp only [atomsText, h a (by simp), Bool.false_eq_true, if_false, List.nil_append, atomsText_none rev u l fun b hb => h b (List.mem_cons_of_mem _ hb)]
theorem visible_late {rev now : Int} {u : List Int} {a : Atom} {c : Cut} (hc : c.rev = now) (h : rev < now) : visible rev u { a with cuts := a.cuts ++ [c] } = visible rev u a := by
  have : cutHolds rev u c = false := by simp only [cutHolds, Bool.and_eq_false_iff, decide_eq_false_iff_not]; exact .inl (by omega)
  simp only [visible, List.any_append, List.any_cons, this, List.any_nil, Bool.or_false]
theorem marked_elder {rev now : Int} {u ct : List Int} {c : Cut} (hc : c.rev = now) (h : rev < now) : ∀ (l : List Atom) (i : Nat), atomsText rev u (marked ct c l i) = atomsText rev u l
  | [], _ => rfl
  | a :: l, i => by
    simp only [marked, atomsText, marked_elder hc h l (i + 1)]
    split
    · rw [visible_late hc h]
    · rfl
theorem merged_elder {new : List UInt8 → List Atom} {mk : List Atom} {rev : Int} {u : List Int} (hn : ∀ t, ∀ a ∈ new t, visible rev u a = false) : ∀ (r : List (Nat × List UInt8)) (at' : Nat), (r.map Prod.fst).Pairwise (· ≤ ·) → (∀ k ∈ r.map Prod.fst, at' ≤ k ∧ k ≤ mk.length) → atomsText rev u (merged new mk r at') = atomsText rev u (mk.drop at')
  | [], at', _, _ => rfl
  | (k, t) :: r, at', hs, hl => by
    have hk := hl k (by simp)
    have ih := merged_elder hn r k hs.of_cons fun q hq => ⟨List.rel_of_pairwise_cons hs hq, (hl q (List.mem_cons_of_mem _ hq)).2⟩
    rw [merged_cons, atomsText_append, atomsText_append, ih, atomsText_none rev u (new t) (hn t), List.append_nil, ← atomsText_append]
    congr 1
    have : mk.drop at' = (mk.take k).drop at' ++ mk.drop k := by
      conv => lhs; rw [← List.take_append_drop k mk]
      rw [List.drop_append_of_le_length (by rw [List.length_take]; omega)]
    rw [this]
theorem zip_fst {α β : Type} : ∀ (l : List α) (m : List β), (l.zip m).map Prod.fst = l.take m.length
  | [], m => by simp
  | a :: l, [] => by simp
  | a :: l, b :: m => by simp [zip_fst l m]
theorem upon_elder {l : List Atom} {base : Int} {u0 : List Int} {cs : List Chg} {now group rank rev : Int} {u : List Int} (h : rev < now) : atomsText rev u (upon l base u0 cs now group rank) = atomsText rev u l := by
  unfold upon
  split
  · rename_i h0
    obtain ⟨h1, h2⟩ := spotsN_sorted rank h0
    have hf : ((spotsN l base u0 cs rank).zip (cs.map Chg.text)).map Prod.fst = spotsN l base u0 cs rank := by
      rw [zip_fst, List.take_of_length_le]; simp [spotsN]
    rw [merged_elder (fun t a ha => ?_) _ _ (by rw [hf]; exact h1) (by rw [hf, marked_len]; exact fun k hk => ⟨Nat.zero_le _, h2 k hk⟩), List.drop_zero, marked_elder rfl h]
    simp only [newAtoms, List.mem_map] at ha
    obtain ⟨b, _, rfl⟩ := ha
    simp only [visible, Bool.and_eq_false_iff, decide_eq_false_iff_not]
    exact .inl (.inl (by omega))
  · rfl
theorem live_push {R : Revs} {s : List Int} {n : Int} (h : R.Ok) : (R.push s).live n = true ↔ R.live n = true ∨ n = ((R.head + 1 : Nat) : Int) := by
  have hl := List.length_pos_iff.2 h.one
  rw [live_iff, live_iff]
  simp only [Revs.push, List.length_append, List.length_cons, List.length_nil, Revs.head]; omega
theorem undone_grp (R : Revs) (g : List Int) (n : Int) : Revs.undone { R with grp := g } n = R.undone n := rfl
theorem edit_elder {E E' : Eng} {base group rank n : Int} {cs : List Chg} (hR : E.R.Ok) (e : editE E base group rank cs = (E', n, 0)) : n = ((E.R.head + 1 : Nat) : Int) ∧ E'.R.head = E.R.head + 1 ∧ E'.R.floor = E.R.floor ∧ ∀ k : Int, E.R.live k = true → E'.R.live k = true ∧ E'.text k = E.text k := by
  unfold editE at e
  split at e
  · cases e
  split at e
  · rename_i h2; simp only [Prod.mk.injEq] at e; exact absurd e.2.2 h2
  split at e
  · rename_i h2; simp only [Prod.mk.injEq] at e; exact absurd e.2.2 h2
  rename_i h3
  split at e
  · cases e
  split at e
  · cases e
  split at e
  · cases e
  obtain ⟨_, _, _, hh, e1, e2⟩ := addR_ok (by simpa using h3) hR
  cases e
  refine ⟨by rw [e1]; rfl, e2, by rw [e1]; rfl, fun k hk => ?_⟩
  have hlv := live_iff.1 hk
  have hl := List.length_pos_iff.2 hR.one
  refine ⟨by rw [e1]; exact (live_push hR).2 (.inl hk), ?_⟩
  simp only [Eng.text, e1]
  rw [upon_elder (by simp only [Revs.head]; omega), undone_grp, undone_push _ hR hk]
theorem edit_fail {E E' : Eng} {base group rank n c : Int} {cs : List Chg} (e : editE E base group rank cs = (E', n, c)) (hc : c ≠ 0) : E' = E ∧ n = 0 := by
  unfold editE at e
  repeat' split at e
  all_goals
    simp only [Prod.mk.injEq] at e
    first | exact ⟨e.1.symm, e.2.1.symm⟩ | exact absurd e.2.2.symm hc
theorem tmod_nat {a : Int} {n : Nat} (h0 : 0 ≤ a) (hn : 0 < n) : a.tmod (n : Int) = ((a.toNat % n : Nat) : Int) := by
  rw [Int.tmod_eq_emod_of_nonneg h0]
  obtain ⟨b, rfl⟩ : ∃ b : Nat, a = (b : Int) := ⟨a.toNat, by omega⟩
  rw [Int.toNat_natCast]; exact (Int.natCast_emod b n).symm
def OrdC (n : Nat) : List Chg → Int → Prop
  | [], at' => at' ≤ (n : Int)
  | c :: l, at' => at' ≤ c.frm ∧ c.frm ≤ c.to ∧ c.to ≤ (n : Int) ∧ OrdC n l c.to
theorem OrdC.low {n : Nat} : ∀ {l : List Chg} {at' : Int}, OrdC n l at' → ∀ c ∈ l, at' ≤ c.frm
  | [], _, _, c, h => by cases h
  | d :: l, at', h, c, hc => by
    obtain ⟨h1, h2, h3, h4⟩ := h
    rcases List.mem_cons.1 hc with rfl | hc
    · exact h1
    · have := h4.low c hc; omega
theorem OrdC.le {n : Nat} : ∀ {l : List Chg} {at' : Int}, OrdC n l at' → at' ≤ (n : Int)
  | [], _, h => h
  | d :: l, at', ⟨h1, h2, h3, h4⟩ => by omega
section
variable {r : Int} {u : List Int}
def posT (r : Int) (u : List Int) (l : List Atom) (j : Nat) : Nat := (atomsText r u (l.take j)).length
theorem take_text {l : List Atom} {j : Nat} (h : j < l.length) : atomsText r u (l.take (j + 1)) = atomsText r u (l.take j) ++ (if visible r u l[j] then l[j].text else []) := by
  rw [List.take_succ_eq_append_getElem h, atomsText_append]
  simp only [atomsText, List.append_nil]
theorem posT_succ {l : List Atom} {j : Nat} (h : j < l.length) : posT r u l (j + 1) = posT r u l j + (if visible r u l[j] then l[j].text.length else 0) := by
  simp only [posT]; rw [take_text h, List.length_append]
  split <;> rfl
theorem posT_step (l : List Atom) (j : Nat) : posT r u l j ≤ posT r u l (j + 1) := by
  by_cases h : j < l.length
  · rw [posT_succ h]; omega
  · simp only [posT]; rw [List.take_of_length_le (by omega), List.take_of_length_le (by omega)]; exact Nat.le_refl _
theorem posT_mono (l : List Atom) {i j : Nat} (h : i ≤ j) : posT r u l i ≤ posT r u l j := by
  induction j with
  | zero => have : i = 0 := by omega
            subst this; exact Nat.le_refl _
  | succ j ih =>
    by_cases e : i = j + 1
    · subst e; exact Nat.le_refl _
    · exact Nat.le_trans (ih (by omega)) (posT_step l j)
theorem places_at : ∀ (l : List Atom) (p0 j : Nat), j ≤ l.length → (places r u l p0)[j]? = some ((p0 + posT r u l j : Nat) : Int)
  | [], p0, j, h => by
    have : j = 0 := by simp at h; exact h
    subst this; rfl
  | a :: l, p0, 0, h => rfl
  | a :: l, p0, j + 1, h => by
    simp only [places, List.getElem?_cons_succ]
    rw [places_at l _ j (by simpa using h)]
    have e : posT r u (a :: l) (j + 1) = (if visible r u a then a.text.length else 0) + posT r u l j := by
      simp only [posT, List.take_succ_cons, atomsText, List.length_append]
      split <;> rfl
    rw [e, ← Nat.add_assoc]
theorem spotF_spec (x : Int) : ∀ (l : List Atom) (ps : List Int) (i acc : Nat), acc ≤ i →
    (∀ (j : Nat) (a : Atom) (p : Int), l[j]? = some a → ps[j]? = some p → spotF r u x l ps i acc ≤ i + j → visible r u a = true → x ≤ p) ∧
    (spotF r u x l ps i acc = acc ∨ ∃ (j : Nat) (a : Atom) (p : Int), l[j]? = some a ∧ ps[j]? = some p ∧ spotF r u x l ps i acc = i + j + 1 ∧ visible r u a = true ∧ p < x)
  | [], ps, i, acc, h => ⟨fun j a p h1 => by simp at h1, .inl (by simp [spotF])⟩
  | a :: l, [], i, acc, h => ⟨fun j a p _ h1 => by simp at h1, .inl (by simp [spotF])⟩
  | a :: l, p :: ps, i, acc, h => by
    simp only [spotF]
    obtain ⟨h1, h2⟩ := spotF_spec x l ps (i + 1) (if p < x ∧ visible r u a = true then i + 1 else acc) (by split <;> omega)
    refine ⟨fun j b q hb hq hle hv => ?_, ?_⟩
    · cases j with
      | zero =>
        simp at hb hq
        subst hb; subst hq
        refine Int.not_lt.1 fun hlt => ?_
        rw [if_pos ⟨hlt, hv⟩] at h2 hle
        rcases h2 with h2 | ⟨j, _, _, _, _, h2, _⟩ <;> omega
      | succ j => exact h1 j b q (by simpa using hb) (by simpa using hq) (by omega) hv
    · rcases h2 with h2 | ⟨j, b, q, hb, hq, h2, h3⟩
      · by_cases hc : p < x ∧ visible r u a = true
        · rw [if_pos hc] at h2 ⊢
          exact .inr ⟨0, a, p, rfl, rfl, h2, hc.2, hc.1⟩
        · rw [if_neg hc] at h2 ⊢
          exact .inl h2
      · exact .inr ⟨j + 1, b, q, by simpa using hb, by simpa using hq, by omega, h3⟩
def spotK (r : Int) (u : List Int) (l : List Atom) (x : Int) : Nat := spotF r u x l (places r u l 0) 0 0
theorem spotK_ge {l : List Atom} {x : Int} {j : Nat} (hj : j < l.length) (h : spotK r u l x ≤ j) (hv : visible r u l[j] = true) : x ≤ (posT r u l j : Int) := by
  have h1 := (spotF_spec (r := r) (u := u) x l (places r u l 0) 0 0 (Nat.le_refl _)).1 j l[j] _ (List.getElem?_eq_getElem hj) (places_at l 0 j (by omega)) (by simp only [spotK] at h; omega) hv
  simpa using h1
theorem spotK_lt {l : List Atom} {x : Int} {j : Nat} (h : j < spotK r u l x) : (posT r u l j : Int) < x := by
  rcases (spotF_spec (r := r) (u := u) x l (places r u l 0) 0 0 (Nat.le_refl _)).2 with h2 | ⟨i, a, p, ha, hp, h2, hv, hlt⟩
  · simp only [spotK] at h; omega
  · have hi : i < l.length := (List.getElem?_eq_some_iff.1 ha).1
    rw [places_at l 0 i (by omega)] at hp
    cases hp
    have : j ≤ i := by simp only [spotK] at h; omega
    have := posT_mono (r := r) (u := u) l this
    omega
end
end Go.Proofs.Ytfkiebglpagnaaa.M
namespace Go.Proofs.Ytfkiebglpagnaaa.M
open Go Go.Mini
attribute [local congr] go1_congr goM_congr goG_congr goV_congr drawwp_congr Xwp_congr
def baseA (p : List UInt8) : Atom := ⟨p, 1, 1, 0, []⟩
def putIn (f : Nat → Option Atom) (j : Nat) : List Atom := match f j with | some a => [a] | none => []
def mix (f : Nat → Option Atom) : List (List UInt8) → Nat → List Atom
  | [], j => putIn f j
  | p :: ps, j => putIn f j ++ baseA p :: mix f ps (j + 1)
def upd (f : Nat → Option Atom) (k : Nat) (a : Atom) : Nat → Option Atom := fun j => if j = k then some a else f j
def mixL (f : Nat → Option Atom) : List (List UInt8) → Nat → Nat → List Atom
  | _, _, 0 => []
  | [], _, _ + 1 => []
  | p :: ps, j, k + 1 => putIn f j ++ baseA p :: mixL f ps (j + 1) k
def mixR (f : Nat → Option Atom) : List (List UInt8) → Nat → Nat → List Atom
  | [], _, _ => []
  | p :: ps, j, 0 => baseA p :: mix f ps (j + 1)
  | _ :: ps, j, k + 1 => mixR f ps (j + 1) k
theorem mix_split (f : Nat → Option Atom) : ∀ (ps : List (List UInt8)) (j k : Nat), k ≤ ps.length → mix f ps j = mixL f ps j k ++ putIn f (j + k) ++ mixR f ps j k
  | [], j, 0, _ => by simp [mix, mixL, mixR]
  | p :: ps, j, 0, _ => by simp [mix, mixL, mixR]
  | p :: ps, j, k + 1, h => by
    have ih := mix_split f ps (j + 1) k (by simpa using h)
    simp only [mix, mixL, mixR, ih, show j + 1 + k = j + (k + 1) by omega, List.append_assoc, List.cons_append]
theorem mix_congr {f g : Nat → Option Atom} : ∀ (ps : List (List UInt8)) (j : Nat), (∀ i, j ≤ i → f i = g i) → mix f ps j = mix g ps j
  | [], j, h => by simp [mix, putIn, h j (Nat.le_refl _)]
  | p :: ps, j, h => by
    rw [mix, mix, mix_congr ps (j + 1) (fun i hi => h i (by omega)), putIn, putIn, h j (Nat.le_refl _)]
theorem mixL_upd {f : Nat → Option Atom} {a : Atom} : ∀ (ps : List (List UInt8)) (j k : Nat), mixL (upd f (j + k) a) ps j k = mixL f ps j k
  | [], j, 0 => rfl
  | p :: ps, j, 0 => rfl
  | [], j, k + 1 => rfl
  | p :: ps, j, k + 1 => by
    have ih := mixL_upd (f := f) (a := a) ps (j + 1) k
    rw [show j + 1 + k = j + (k + 1) by omega] at ih
    simp only [mixL, ih, putIn, upd, if_neg (show ¬ j = j + (k + 1) by omega)]
theorem mixR_upd {f : Nat → Option Atom} {a : Atom} : ∀ (ps : List (List UInt8)) (j k : Nat), mixR (upd f (j + k) a) ps j k = mixR f ps j k
  | [], j, k => by cases k <;> rfl
  | p :: ps, j, 0 => by
    simp only [mixR]
    rw [mix_congr ps (j + 1) (fun i hi => by simp only [upd]; rw [if_neg (by omega)])]
  | p :: ps, j, k + 1 => by
    have ih := mixR_upd (f := f) (a := a) ps (j + 1) k
    rw [show j + 1 + k = j + (k + 1) by omega] at ih
    simpa only [mixR] using ih
theorem mix_upd {f : Nat → Option Atom} {a : Atom} {ps : List (List UInt8)} {k : Nat} (h : k ≤ ps.length) (hf : f k = none) : mix (upd f k a) ps 0 = mixL f ps 0 k ++ a :: mixR f ps 0 k ∧ mix f ps 0 = mixL f ps 0 k ++ mixR f ps 0 k := by
  have h1 := mix_split (upd f k a) ps 0 k h
  have h2 := mix_split f ps 0 k h
  have h3 := mixL_upd (f := f) (a := a) ps 0 k
  have h4 := mixR_upd (f := f) (a := a) ps 0 k
  rw [Nat.zero_add] at h1 h2 h3 h4
  constructor
  · rw [h1, h3, h4]; simp [putIn, upd]
  · rw [h2]; simp [putIn, hf]
def EndSeen (r : Int) (u : List Int) (L : List Atom) : Prop := L = [] ∨ ∃ L' b, L = L' ++ [b] ∧ visible r u b = true ∧ b.text ≠ []
theorem posT_left (r : Int) (u : List Int) (L R : List Atom) : posT r u (L ++ R) L.length = (atomsText r u L).length := by
  rw [posT, List.take_left]
theorem spotK_at {r : Int} {u : List Int} {L : List Atom} (R : List Atom) (h : EndSeen r u L) : spotK r u (L ++ R) ((atomsText r u L).length : Nat) = L.length := by
  rcases Nat.lt_trichotomy (spotK r u (L ++ R) ((atomsText r u L).length : Nat)) L.length with h1 | h1 | h1
  · rcases h with rfl | ⟨L', b, rfl, hv, hb⟩
    · simp at h1
    · have hj : L'.length < (L' ++ [b] ++ R).length := by simp
      have hg : (L' ++ [b] ++ R)[L'.length] = b := by simp
      have h2 := spotK_ge (r := r) (u := u) (x := ((atomsText r u (L' ++ [b])).length : Nat)) hj (by rw [List.length_append, List.length_singleton] at h1; omega) (by rw [hg]; exact hv)
      rw [show L' ++ [b] ++ R = L' ++ ([b] ++ R) by simp, posT_left, atomsText_append] at h2
      have h3 : (atomsText r u [b]).length = b.text.length := by simp [atomsText, hv]
      have := List.length_pos_iff.2 hb
      rw [List.length_append] at h2
      omega
  · exact h1
  · have h2 := spotK_lt (r := r) (u := u) h1
    rw [posT_left] at h2; omega
theorem mixL_end {f : Nat → Option Atom} : ∀ (ps : List (List UInt8)) (j k : Nat), (∀ p ∈ ps, p ≠ []) → EndSeen 1 [] (mixL f ps j k)
  | _, _, 0, _ => .inl (by cases ‹List (List UInt8)› <;> rfl)
  | [], _, k + 1, _ => .inl rfl
  | p :: ps, j, k + 1, h => by
    have hv : visible 1 [] (baseA p) = true := rfl
    rcases mixL_end (f := f) ps (j + 1) k (fun q hq => h q (List.mem_cons_of_mem _ hq)) with h1 | ⟨L', b, h1, h2⟩
    · exact .inr ⟨putIn f j, baseA p, by rw [mixL, h1], hv, h p (by simp)⟩
    · exact .inr ⟨putIn f j ++ baseA p :: L', b, by rw [mixL, h1]; simp, h2⟩
theorem mixL_text {f : Nat → Option Atom} (hf : ∀ i a, f i = some a → visible 1 [] a = false) : ∀ (ps : List (List UInt8)) (j k : Nat), atomsText 1 [] (mixL f ps j k) = (ps.take k).flatten
  | _, _, 0 => by cases ‹List (List UInt8)› <;> rfl
  | [], _, k + 1 => rfl
  | p :: ps, j, k + 1 => by
    have hv : visible 1 [] (baseA p) = true := rfl
    have ih := mixL_text hf ps (j + 1) k
    have hp : atomsText 1 [] (putIn f j) = [] := by
      unfold putIn
      cases hj : f j with
      | none => rfl
      | some a => simp [atomsText, hf j a hj]
    rw [mixL, atomsText_append, hp, atomsText, hv, ih]; rfl
theorem upon_at {base rev g rank : Int} {u : List Int} {L R : List Atom} {b : UInt8} (hb : b.toNat < 128) (he : EndSeen base u L) (hR : ∀ a r, R = a :: r → a.rev ≤ base)
    (hck : check (atomsText base u (L ++ R)) [⟨((atomsText base u L).length : Nat), ((atomsText base u L).length : Nat), [b]⟩] = 0) :
    upon (L ++ R) base u [⟨((atomsText base u L).length : Nat), ((atomsText base u L).length : Nat), [b]⟩] rev g rank = L ++ ⟨[b], rev, g, rank, []⟩ :: R := by
  have hcp := cp_ascii hb
  have hsK := spotK_at (r := base) (u := u) R he
  have hspot : spot (L ++ R) (places base u (L ++ R) 0) base u ((atomsText base u L).length : Nat) rank = L.length := by
    rw [spot, show spotF base u (((atomsText base u L).length : Nat) : Int) (L ++ R) (places base u (L ++ R) 0) 0 0 = L.length from hsK, List.drop_left]
    cases hr : R with
    | nil => rfl
    | cons a r => rw [spotG, if_neg (by have := hR a r hr; omega)]
  have hct : cuts (L ++ R) base u [⟨((atomsText base u L).length : Nat), ((atomsText base u L).length : Nat), [b]⟩] = [] := by
    rw [cuts, if_pos hck]
    refine cutsF_none _ _ _ (fun p => ?_) _ _ _
    simp only [cutHit, List.any_cons, List.any_nil, Bool.or_false, Bool.and_eq_false_iff, decide_eq_false_iff_not]
    omega
  rw [upon, if_pos hck, hct, marked_nil]
  simp only [spotsN, List.map_cons, List.map_nil, hspot, List.zip_cons_cons, List.zip_nil_left, merged, List.drop_zero, ptsOf, pts_one hcp, Option.getD_some, newAtoms]
  simp
theorem check_at {s : List UInt8} (hv : valid s = true) {x : Nat} (hx : x ≤ s.length) (he : isEdge s x = true) {b : UInt8} (hb : b.toNat < 128) (hl : s.length ≤ 10000) : check s [⟨x, x, [b]⟩] = 0 := by
  have hvb : valid [b] = true := valid_iff.2 ⟨[[b]], by simp, by simpa using cp_ascii hb⟩
  have hg := gain_le s.length ⟨x, x, [b]⟩
  have hb1 : ([b] : List UInt8).length = 1 := rfl
  have hlong : longI s [⟨x, x, [b]⟩] = 0 := by
    simp only [longI, gains, List.map_cons, List.map_nil, List.sum_cons, List.sum_nil, longR]
    rw [if_neg (by omega), if_neg (by omega)]
  have n1 : ¬ ((x : Int) < 0) := by omega
  have n2 : ¬ ((x : Int) < (x : Int)) := by omega
  have n3 : ¬ ((s.length : Int) < (x : Int)) := by omega
  unfold check
  rw [if_neg (by rw [hv]; simp), if_neg (by simp)]
  simp only [errs, List.any_cons, List.any_nil, Bool.or_false, chgOut, chgIn, he, disorder, hvb, hlong, decide_eq_false n1, decide_eq_false n2, decide_eq_false n3]
  rfl
theorem mixR_text {f : Nat → Option Atom} (hf : ∀ i a, f i = some a → visible 1 [] a = false) : ∀ (ps : List (List UInt8)) (j k : Nat), atomsText 1 [] (mixR f ps j k) = (ps.drop k).flatten
  | [], j, k => by cases k <;> rfl
  | p :: ps, j, 0 => by
    have hv : visible 1 [] (baseA p) = true := rfl
    have ih := mixM_text hf ps (j + 1)
    rw [mixR, atomsText, hv, ih]; rfl
  | p :: ps, j, k + 1 => by rw [mixR, mixR_text hf ps (j + 1) k]; rfl
where
  mixM_text {f : Nat → Option Atom} (hf : ∀ i a, f i = some a → visible 1 [] a = false) : ∀ (ps : List (List UInt8)) (j : Nat), atomsText 1 [] (mix f ps j) = ps.flatten
  | [], j => by
    unfold mix putIn
    cases hj : f j with
    | none => rfl
    | some a => simp [atomsText, hf j a hj]
  | p :: ps, j => by
    have hv : visible 1 [] (baseA p) = true := rfl
    have hp : atomsText 1 [] (putIn f j) = [] := by
      unfold putIn
      cases hj : f j with
      | none => rfl
      | some a => simp [atomsText, hf j a hj]
    rw [mix, atomsText_append, hp, atomsText, hv, mixM_text hf ps (j + 1)]; rfl
theorem mixR_head {f : Nat → Option Atom} : ∀ (ps : List (List UInt8)) (j k : Nat) (a : Atom) (r : List Atom), mixR f ps j k = a :: r → a.rev ≤ 1
  | [], j, k, a, r, h => by cases k <;> simp [mixR] at h
  | p :: ps, j, 0, a, r, h => by
    rw [mixR] at h
    cases h; exact Int.le_refl _
  | p :: ps, j, k + 1, a, r, h => mixR_head ps (j + 1) k a r (by rwa [mixR] at h)
structure Step where
  what : Int
  base : Int
  group : Int
  rank : Int
  c : List Chg
  groups : List Int
def letter (j : Nat) : UInt8 := UInt8.ofNat (97 + j % 26)
theorem letter_nat (j : Nat) : (letter j).toNat = 97 + j % 26 := by simp only [letter, UInt8.toNat_ofNat']; omega
def stepM (E : Eng) (j : Nat) (g : Int) : Eng := ⟨⟨[letter j], (j : Int) + 1, g.tmod 10, 0, []⟩ :: E.l, { E.R.push [] with grp := insS (g.tmod 10) E.R.grp }⟩
structure MInv (E : Eng) (j : Nat) : Prop where
  und : E.R.und = List.replicate (j + 1) []
  floor : E.R.floor = 0
  gone : E.R.gone = []
  len : E.l.length = j
  rev : ∀ a ∈ E.l, a.rev ≤ (j : Int)
  grp : ∀ g ∈ E.R.grp, g < 10
  bare : ∀ a ∈ E.l, a.cuts = [] ∧ a.group ∈ E.R.grp
  ok : E.Ok
  R : E.R.Ok
theorem MInv.head {E : Eng} {j : Nat} (h : MInv E j) : E.R.head = j := by simp [Revs.head, h.floor, h.und]
theorem MInv.top {E : Eng} {j : Nat} (h : MInv E j) : E.R.top = [] := by
  simp only [Revs.top, h.und, List.replicate_succ', List.getLastD_eq_getLast?, List.getLast?_append, List.getLast?_singleton]; rfl
theorem MInv.new : MInv Eng.new 0 := ⟨rfl, rfl, rfl, rfl, fun a h => (by cases h), fun a h => (by cases h), fun a h => (by cases h), Eng.new_ok, ⟨by simp [Eng.new, Revs.new], by simp [Eng.new, Revs.new], by intro s hs; simp [Eng.new, Revs.new] at hs; subst hs; exact Rise.nil, Rise.nil, Rise.nil⟩⟩
theorem tmod10 {g : Int} (h : 0 ≤ g) : 0 ≤ g.tmod 10 ∧ g.tmod 10 < 10 := by rw [Int.tmod_eq_emod_of_nonneg h]; omega
theorem MInv.edit {E : Eng} {j : Nat} (h : MInv E j) (hj : j < 100) {g : Int} (hg : 0 ≤ g) : editE E (E.R.head : Nat) (g.tmod 10) 0 [⟨0, 0, [letter j]⟩] = (stepM E j g, (j : Int) + 1, 0) := by
  obtain ⟨g1, g2⟩ := tmod10 hg
  have hh := h.head
  have hl := h.len
  rw [edit_front h.ok h.R (fun a ha => by rw [hh]; exact h.rev a ha) (by rw [letter_nat]; omega) g1 (by omega) (by rw [h.gone]; simp) (by omega) (by omega) (by omega) (by omega), hh, h.top]; rfl
theorem MInv.step {E : Eng} {j : Nat} (h : MInv E j) (hj : j < 100) {g : Int} (hg : 0 ≤ g) : MInv (stepM E j g) (j + 1) := by
  obtain ⟨g1, g2⟩ := tmod10 hg
  have hl := h.len
  have he := h.edit hj hg
  have hok := editE_ok h.ok h.R (E.R.head : Nat) (g.tmod 10) 0 [⟨0, 0, [letter j]⟩]
  rw [he] at hok
  refine ⟨?_, h.floor, h.gone, by simp only [stepM, List.length_cons]; omega, ?_, ?_, ?_, hok, ?_⟩
  · simp only [stepM, Revs.push, h.und]; rw [← List.replicate_succ']
  · intro a ha
    rcases List.mem_cons.1 ha with rfl | ha
    · simp only; omega
    · have := h.rev a ha; omega
  · intro x hx
    rcases mem_insS.1 hx with rfl | hx
    · exact g2
    · exact h.grp x hx
  · intro a ha
    rcases List.mem_cons.1 ha with rfl | ha
    · exact ⟨rfl, mem_insS.2 (.inl rfl)⟩
    · have := h.bare a ha; exact ⟨this.1, mem_insS.2 (.inr this.2)⟩
  · refine ⟨by simp [stepM, Revs.push], ?_, ?_, h.R.grp.ins g1 (by omega), h.R.gone⟩
    · simp only [stepM, Revs.push, h.und, h.floor, List.length_append, List.length_replicate, List.length_cons, List.length_nil]; omega
    · intro s hs
      simp only [stepM, Revs.push, h.und, List.mem_append, List.mem_replicate, List.mem_singleton] at hs
      rcases hs with ⟨_, rfl⟩ | rfl <;> exact Rise.nil
def togsE (E : Eng) : List Int → Eng × Int
  | [] => (E, 0)
  | g :: l => if (toggleE E g).2.2 ≠ 0 then (E, (toggleE E g).2.2) else togsE (toggleE E g).1 l
def allE (E : Eng) (l : List Int) : Eng × Int × Int := if (togsE E l).2 ≠ 0 then (E, 0, (togsE E l).2) else ((togsE E l).1, ((togsE E l).1.R.head : Nat), 0)
theorem Keep.fresh {σ τ ρ : Heap} {fp : List Nat} (h : Keep [] σ τ) (h' : Keep fp τ ρ) (hf : ∀ x ∈ fp, σ.next ≤ x) : Keep [] σ ρ :=
  h.trans h' (fun x hx => .inr (hf x hx))
def held (E : Eng) : List Int := E.R.grp.filter fun x => !decide (x ∈ E.R.undone (E.R.head : Nat))
end Go.Proofs.Ytfkiebglpagnaaa.M
namespace Go.Proofs.Ytfkiebglpagnaaa.M
open Go Go.Mini
structure TInv (E : Eng) (l : List Atom) (grp u : List Int) (h : Nat) : Prop where
  ls : E.l = l
  sub : ∀ x ∈ u, x ∈ grp
  grp : E.R.grp = grp
  top : E.R.top = u
  head : E.R.head = h
  few : l.length ≤ 4000
  ok : E.Ok
  R : E.R.Ok
theorem TInv.rise {E : Eng} {l : List Atom} {grp u : List Int} {h : Nat} (t : TInv E l grp u h) : Rise u := by rw [← t.top]; exact t.R.top.2.1
theorem TInv.undone {E : Eng} {l : List Atom} {grp u : List Int} {h : Nat} (t : TInv E l grp u h) : E.R.undone (E.R.head : Nat) = u := by rw [t.R.top.1, t.top]
theorem push_ok {R : Revs} (h : R.Ok) {s : List Int} (hs : Rise s) (hh : R.head < 200) : (R.push s).Ok := by
  have hl := List.length_pos_iff.2 h.one
  refine ⟨by simp [Revs.push], ?_, ?_, h.grp, h.gone⟩
  · simp only [Revs.push, List.length_append, List.length_cons, List.length_nil]; simp only [Revs.head] at hh; omega
  · intro x hx
    simp only [Revs.push, List.mem_append, List.mem_singleton] at hx
    rcases hx with hx | rfl
    · exact h.rise x hx
    · exact hs
theorem TInv.toggle {E : Eng} {l : List Atom} {grp u : List Int} {h : Nat} (t : TInv E l grp u h) {g : Int} (hg : g ∈ grp) (hh : h < 200) :
    toggleE E g = (⟨E.l, E.R.push (flip g u)⟩, ((h + 1 : Nat) : Int), 0) ∧ TInv ⟨E.l, E.R.push (flip g u)⟩ l grp (flip g u) (h + 1) := by
  have hl := List.length_pos_iff.2 t.R.one
  have ht : toggleR E.R g = (E.R.push (flip g u), ((h + 1 : Nat) : Int), 0) := by
    have := toggle_of (R := E.R) (g := g) (by rw [t.grp]; exact hg) (by rw [t.head]; exact hh)
    rw [this, t.top, t.head]; rfl
  have hgb := t.R.grp.2 g (by rw [t.grp]; exact hg)
  have hhd : (E.R.push (flip g u)).head = h + 1 := by
    rw [← t.head]; simp only [Revs.head, Revs.push, List.length_append, List.length_cons, List.length_nil]; omega
  refine ⟨?_, t.ls, fun x hx => ?_, t.grp, top_push _ _, hhd, t.few, ⟨t.ok.len, t.ok.txt, fun a ha => ?_⟩, push_ok t.R (t.rise.flip hgb.1 hgb.2) (by rw [t.head]; exact hh)⟩
  · rw [toggleE, ht, if_neg (by simp), if_neg]
    simp only [Eng.text]
    exact Nat.not_lt.2 (short_text (by rw [t.ls]; exact t.few) t.ok.txt _ _)
  · have hm := (mem_flip (g := g) (x := x) t.rise).1 hx
    by_cases e : x = g
    · rw [e]; exact hg
    · rw [if_neg e] at hm; exact t.sub x hm
  · have h1 := t.ok.cuts a ha
    have h2 := t.head
    simp only [hhd]; omega
theorem TInv.toggle_no {E : Eng} {l : List Atom} {grp u : List Int} {h : Nat} (t : TInv E l grp u h) {g : Int} (hg : g ∉ grp) : toggleE E g = (E, 0, 210) := by
  rw [toggleE, toggle_bad (by rw [t.grp]; exact hg), if_pos (by simp)]
def flips (u l : List Int) : List Int := l.foldl (fun u g => flip g u) u
theorem TInv.togs {grp : List Int} {l : List Atom} : ∀ {ks : List Int} {E : Eng} {u : List Int} {h : Nat}, TInv E l grp u h → h + ks.length ≤ 200 →
    if ∀ g ∈ ks, g ∈ grp then (togsE E ks).2 = 0 ∧ TInv (togsE E ks).1 l grp (flips u ks) (h + ks.length) else (togsE E ks).2 = 210
  | [], E, u, h, t, _ => by rw [if_pos (by simp)]; exact ⟨rfl, t⟩
  | g :: ks, E, u, h, t, hl => by
    simp only [List.length_cons] at hl
    by_cases hg : g ∈ grp
    · obtain ⟨h1, h2⟩ := t.toggle hg (by omega)
      have ih := TInv.togs (ks := ks) h2 (by omega)
      have e : togsE E (g :: ks) = togsE ⟨E.l, E.R.push (flip g u)⟩ ks := by rw [togsE, h1, if_neg (by simp)]
      rw [e]
      by_cases hk : ∀ x ∈ ks, x ∈ grp
      · rw [if_pos hk] at ih
        rw [if_pos (by intro x hx; rcases List.mem_cons.1 hx with rfl | hx; exact hg; exact hk x hx)]
        refine ⟨ih.1, ?_⟩
        rw [List.length_cons, show h + (ks.length + 1) = h + 1 + ks.length by omega]
        exact ih.2
      · rw [if_neg hk] at ih
        rw [if_neg (fun h => hk fun x hx => h x (List.mem_cons_of_mem _ hx))]
        exact ih
    · rw [if_neg (fun h => hg (h g (by simp))), togsE, t.toggle_no hg, if_pos (by simp)]
theorem TInv.all {E : Eng} {l : List Atom} {grp u : List Int} {h : Nat} (t : TInv E l grp u h) {ks : List Int} (hl : h + ks.length ≤ 200) (hk : ∀ g ∈ ks, g ∈ grp) :
    ∃ E', allE E ks = (E', ((h + ks.length : Nat) : Int), 0) ∧ TInv E' l grp (flips u ks) (h + ks.length) := by
  have := t.togs hl
  rw [if_pos hk] at this
  exact ⟨_, by rw [allE, this.1, if_neg (by simp), this.2.head], this.2⟩
end Go.Proofs.Ytfkiebglpagnaaa.M
namespace Go.Proofs.Ytfkiebglpagnaaa.M
open Go Go.Mini
attribute [local congr] go1_congr goM_congr goG_congr goV_congr drawwp_congr
def Eng.Old (E : Eng) : Prop := ∀ a ∈ E.l, a.rev ≤ (E.R.head : Nat) ∧ ∀ c ∈ a.cuts, c.rev ≤ (E.R.head : Nat)
theorem Eng.new_old : Eng.new.Old := by intro a ha; cases ha
theorem edit_shape {E E' : Eng} {base group rank n : Int} {cs : List Chg} (hR : E.R.Ok) (e : editE E base group rank cs = (E', n, 0)) : group ∉ E.R.gone ∧ 0 ≤ group ∧ group < 60 ∧ E.R.head < 200 ∧ E.R.live base = true ∧ check (E.text base) cs = 0 ∧ 0 ≤ rank ∧ rank ≤ 1000000 ∧ n = ((E.R.head + 1 : Nat) : Int) ∧
    E' = ⟨upon E.l base (E.R.undone base) cs ((E.R.head + 1 : Nat) : Int) group rank, { E.R.push E.R.top with grp := insS group E.R.grp }⟩ ∧ E'.R.head = E.R.head + 1 := by
  unfold editE at e
  split at e
  · simp only [Prod.mk.injEq] at e; exact absurd e.2.2 (by decide)
  rename_i h1
  split at e
  · rename_i h2; simp only [Prod.mk.injEq] at e; exact absurd e.2.2 h2
  rename_i h2
  split at e
  · rename_i h3; simp only [Prod.mk.injEq] at e; exact absurd e.2.2 h3
  rename_i h3
  split at e
  · simp only [Prod.mk.injEq] at e; exact absurd e.2.2 (by decide)
  rename_i h4
  split at e
  · simp only [Prod.mk.injEq] at e; exact absurd e.2.2 (by decide)
  split at e
  · simp only [Prod.mk.injEq] at e; exact absurd e.2.2 (by decide)
  obtain ⟨q1, q2, q3, q4, e1, e2⟩ := addR_ok (by simpa using h3) hR
  cases e
  exact ⟨q1, q2, q3, q4, by simpa using h1, by simpa using h2, by omega, by omega, by rw [e1]; rfl, by rw [e1]; rfl, e2⟩
theorem edit_old {E E' : Eng} {base group rank n : Int} {cs : List Chg} (hR : E.R.Ok) (hO : E.Old) (e : editE E base group rank cs = (E', n, 0)) : E'.Old := by
  obtain ⟨_, _, _, _, _, _, _, _, _, he, hh⟩ := edit_shape hR e
  intro a ha
  rw [hh]
  rw [he] at ha
  rcases mem_upon ha with ⟨b, hb, rfl | rfl⟩ | ⟨b, _, rfl⟩
  · have := hO a hb; exact ⟨by omega, fun c hc => by have := this.2 c hc; omega⟩
  · have := hO b hb
    refine ⟨by simp only; omega, fun c hc => ?_⟩
    simp only [List.mem_append, List.mem_singleton] at hc
    rcases hc with hc | rfl
    · have := this.2 c hc; omega
    · simp only; omega
  · exact ⟨by simp only; omega, fun c hc => by cases hc⟩
structure TwInv (E : Eng) (i : Nat) : Prop where
  top : E.R.top = []
  head : E.R.head ≤ i
  old : E.Old
  grp : ∀ a ∈ E.l, a.group ∈ E.R.grp
theorem TwInv.new : TwInv Eng.new 0 := ⟨rfl, Nat.le_refl _, Eng.new_old, fun a h => by cases h⟩
theorem TwInv.mono {E : Eng} {i : Nat} (h : TwInv E i) : TwInv E (i + 1) := ⟨h.top, by have := h.head; omega, h.old, h.grp⟩
theorem TwInv.edit {E E' : Eng} {i : Nat} (h : TwInv E i) (hR : E.R.Ok) {base group rank n c : Int} {cs : List Chg} (e : editE E base group rank cs = (E', n, c)) : TwInv E' (i + 1) := by
  by_cases hc : c = 0
  · subst hc
    obtain ⟨_, _, _, _, _, _, _, _, _, he, hh⟩ := edit_shape hR e
    refine ⟨?_, by have := h.head; omega, edit_old hR h.old e, fun a ha => ?_⟩
    · rw [he]; show (E.R.push E.R.top).top = []; rw [top_push, h.top]
    · rw [he] at ha ⊢
      show a.group ∈ insS group E.R.grp
      rw [mem_insS]
      rcases mem_upon ha with ⟨b, hb, rfl | rfl⟩ | ⟨b, _, rfl⟩
      · exact .inr (h.grp a hb)
      · exact .inr (h.grp b hb)
      · exact .inl rfl
  · rw [(edit_fail e hc).1]; exact h.mono
end Go.Proofs.Ytfkiebglpagnaaa.M
namespace Go.Proofs.Ytfkiebglpagnaaa.M
open Go Go.Mini
attribute [local congr] go1_congr goM_congr goG_congr goV_congr drawwp_congr Xwp_congr
structure ApInv (ps : List (List UInt8)) (f : Nat → Option Atom) (E : Eng) (i : Nat) : Prop where
  l : E.l = mix f ps 0
  ok : E.Ok
  rok : E.R.Ok
  head : E.R.head = i + 1
  live : E.R.live 1 = true
  und : E.R.undone 1 = []
  gone : E.R.gone = []
  at' : ∀ j a, f j = some a → visible 1 [] a = false
  len : E.l.length = ps.length + i
theorem ap_step {ps : List (List UInt8)} {f : Nat → Option Atom} {E : Eng} {i : Nat} (h : ApInv ps f E i) (hcp : ∀ p ∈ ps, IsCP p) (hs : ps.flatten.length ≤ 60) (hpl : ps.length ≤ 60) (hi : i < 9) {k : Nat} (hk : k ≤ ps.length) (hf : f k = none) {b : UInt8} (hb : b.toNat < 128) :
    ∃ E', editE E 1 ((i + 2 : Nat) : Int) 0 [⟨((ps.take k).flatten.length : Nat), ((ps.take k).flatten.length : Nat), [b]⟩] = (E', ((i + 2 : Nat) : Int), 0) ∧ E'.l = mix (upd f k ⟨[b], ((i + 2 : Nat) : Int), ((i + 2 : Nat) : Int), 0, []⟩) ps 0 ∧ E'.R = { E.R.push E.R.top with grp := insS ((i + 2 : Nat) : Int) E.R.grp } := by
  have hL := mixL_text h.at' ps 0 k
  have hR := mixR_text h.at' ps 0 k
  obtain ⟨m1, m2⟩ := mix_upd (a := ⟨[b], ((i + 2 : Nat) : Int), ((i + 2 : Nat) : Int), 0, []⟩) hk hf
  have hsplit : ps.take k ++ ps.drop k = ps := List.take_append_drop k ps
  have htx : E.text 1 = ps.flatten := by
    rw [Eng.text, h.und, h.l, m2, atomsText_append, hL, hR, ← List.flatten_append, hsplit]
  have hxl : (ps.take k).flatten.length ≤ ps.flatten.length := by
    have : ps.flatten = (ps.take k).flatten ++ (ps.drop k).flatten := by rw [← List.flatten_append, hsplit]
    rw [this, List.length_append]; omega
  have hck : check ps.flatten [⟨((ps.take k).flatten.length : Nat), ((ps.take k).flatten.length : Nat), [b]⟩] = 0 := check_at (valid_flat hcp) hxl ((edge_flat hcp _).2 ⟨k, hk, rfl⟩) hb (by omega)
  have hck2 := hck
  rw [← htx, Eng.text, h.und, h.l, m2] at hck2
  have hup := upon_at (base := 1) (rev := ((i + 2 : Nat) : Int)) (g := ((i + 2 : Nat) : Int)) (rank := 0) (u := []) (L := mixL f ps 0 k) (R := mixR f ps 0 k) hb (mixL_end ps 0 k fun p hp => (hcp p hp).1) (fun a r e => mixR_head ps 0 k a r e) (by rw [hL]; exact hck2)
  rw [hL, ← m2, ← h.l, ← m1] at hup
  have hadd := add_good (R := E.R) (g := ((i + 2 : Nat) : Int)) (by rw [h.gone]; simp) (by omega) (by omega) (by rw [h.head]; omega)
  have hhd : (E.R.head : Int) + 1 = ((i + 2 : Nat) : Int) := by rw [h.head]; omega
  rw [hhd] at hadd
  have hlen : (mix (upd f k ⟨[b], ((i + 2 : Nat) : Int), ((i + 2 : Nat) : Int), 0, []⟩) ps 0).length ≤ 4000 := by
    have h1 := h.len
    rw [h.l, m2, List.length_append] at h1
    rw [m1, List.length_append, List.length_cons]; omega
  have hcps : ∀ a ∈ mix (upd f k ⟨[b], ((i + 2 : Nat) : Int), ((i + 2 : Nat) : Int), 0, []⟩) ps 0, IsCP a.text := by
    rw [m1]
    intro a ha
    have ho := h.ok.txt
    rw [h.l, m2] at ho
    rcases List.mem_append.1 ha with ha | ha
    · exact ho a (List.mem_append_left _ ha)
    rcases List.mem_cons.1 ha with rfl | ha
    · exact cp_ascii hb
    · exact ho a (List.mem_append_right _ ha)
  refine ⟨⟨mix (upd f k ⟨[b], ((i + 2 : Nat) : Int), ((i + 2 : Nat) : Int), 0, []⟩) ps 0, { E.R.push E.R.top with grp := insS ((i + 2 : Nat) : Int) E.R.grp }⟩, ?_, rfl, rfl⟩
  rw [editE, if_neg (by simp [h.live]), htx, if_neg (fun hn => hn hck), h.und, hadd, if_neg (by simp), if_neg (by decide), hup, if_neg (by omega), if_neg (by simp only [Eng.text]; exact Nat.not_lt.2 (short_text hlen hcps _ _))]
theorem ap_next {ps : List (List UInt8)} {f : Nat → Option Atom} {E : Eng} {i : Nat} (h : ApInv ps f E i) (hcp : ∀ p ∈ ps, IsCP p) (hs : ps.flatten.length ≤ 60) (hpl : ps.length ≤ 60) (hi : i < 9) {k : Nat} (hk : k ≤ ps.length) (hf : f k = none) {b : UInt8} (hb : b.toNat < 128) :
    ∃ E', editE E 1 ((i + 2 : Nat) : Int) 0 [⟨((ps.take k).flatten.length : Nat), ((ps.take k).flatten.length : Nat), [b]⟩] = (E', ((i + 2 : Nat) : Int), 0) ∧ ApInv ps (upd f k ⟨[b], ((i + 2 : Nat) : Int), ((i + 2 : Nat) : Int), 0, []⟩) E' (i + 1) ∧ E'.R.top = E.R.top := by
  obtain ⟨E', he, hl, hR⟩ := ap_step h hcp hs hpl hi hk hf hb
  obtain ⟨e1, e2, e3, e4⟩ := edit_elder h.rok he
  obtain ⟨m1, m2⟩ := mix_upd (a := ⟨[b], ((i + 2 : Nat) : Int), ((i + 2 : Nat) : Int), 0, []⟩) hk hf
  have hok := editE_ok h.ok h.rok 1 ((i + 2 : Nat) : Int) 0 [⟨((ps.take k).flatten.length : Nat), ((ps.take k).flatten.length : Nat), [b]⟩]
  rw [he] at hok
  refine ⟨E', he, ⟨hl, hok, ?_, by rw [e2, h.head], (e4 1 h.live).1, ?_, by rw [hR]; exact h.gone, fun j a ha => ?_, ?_⟩, by rw [hR]; exact top_push E.R E.R.top⟩
  · have p := push_ok h.rok h.rok.top.2.1 (by rw [h.head]; omega)
    rw [hR]
    exact ⟨p.one, p.few, p.rise, h.rok.grp.ins (by omega) (by omega), p.gone⟩
  · rw [hR, undone_grp, undone_push _ h.rok h.live]; exact h.und
  · simp only [upd] at ha
    split at ha
    · cases ha
      simp [visible]
      intro hx; omega
    · exact h.at' j a ha
  · have h1 := h.len
    rw [h.l, m2, List.length_append] at h1
    rw [hl, m1, List.length_append, List.length_cons]; omega
def putT (f : Nat → Option Atom) (j : Nat) : List UInt8 := match f j with | some a => a.text | none => []
def wantT (f : Nat → Option Atom) : List (List UInt8) → Nat → List UInt8
  | [], j => putT f j
  | p :: ps, j => putT f j ++ (p ++ wantT f ps (j + 1))
theorem mix_want {f : Nat → Option Atom} {r : Int} (hr : 1 ≤ r) (hf : ∀ i a, f i = some a → visible r [] a = true) : ∀ (ps : List (List UInt8)) (j : Nat), atomsText r [] (mix f ps j) = wantT f ps j
  | [], j => by
    unfold mix putIn wantT putT
    cases hj : f j with
    | none => rfl
    | some a => simp [atomsText, hf j a hj]
  | p :: ps, j => by
    have hv : visible r [] (baseA p) = true := by simp [visible, baseA, hr, holds]
    have hp : atomsText r [] (putIn f j) = putT f j := by
      unfold putIn putT
      cases hj : f j with
      | none => rfl
      | some a => simp [atomsText, hf j a hj]
    rw [mix, atomsText_append, hp, atomsText, hv, mix_want hr hf ps (j + 1)]; rfl
theorem mix_none : ∀ (ps : List (List UInt8)) (j : Nat), mix (fun _ => none) ps j = ps.map baseA
  | [], j => rfl
  | p :: ps, j => by rw [mix, mix_none ps (j + 1)]; rfl
theorem ap_first {ps : List (List UInt8)} (hcp : ∀ p ∈ ps, IsCP p) (hs : ps.flatten.length ≤ 60) (hpl : ps.length ≤ 60) : ∃ E, editE Eng.new 0 1 0 [⟨0, 0, ps.flatten⟩] = (E, 1, 0) ∧ E.l = mix (fun _ => none) ps 0 ∧ E.R = ⟨[[], []], 0, [1], []⟩ := by
  have hck : check [] [⟨0, 0, ps.flatten⟩] = 0 := check_front (s := []) ⟨[], rfl, by simp⟩ (valid_flat hcp) (by simp only [List.length_nil]; omega)
  have htx : Eng.new.text 0 = [] := rfl
  have hlv : Eng.new.R.live 0 = true := rfl
  have hun : Eng.new.R.undone 0 = [] := rfl
  have hadd : addR Eng.new.R 1 = (⟨[[], []], 0, [1], []⟩, 1, 0) := by kernel_rfl
  have hup : upon Eng.new.l 0 [] [⟨0, 0, ps.flatten⟩] 1 1 0 = mix (fun _ => none) ps 0 := by
    show upon [] 0 [] [⟨0, 0, ps.flatten⟩] 1 1 0 = _
    have hck' : check (atomsText 0 [] []) [⟨0, 0, ps.flatten⟩] = 0 := hck
    rw [upon, if_pos hck', mix_none]
    have hp : ptsOf ps.flatten = ps := by rw [ptsOf, pts_flat hcp]; rfl
    simp [spotsN, cuts, cutsF, marked, merged, spot, spotF, spotG, places, hp, newAtoms, baseA]
  have hcps : ∀ a ∈ mix (fun _ => none) ps 0, IsCP a.text := by
    rw [mix_none]
    intro a ha
    rw [List.mem_map] at ha
    obtain ⟨p, hp, rfl⟩ := ha
    exact hcp p hp
  have hlen : (mix (fun _ => none) ps 0).length ≤ 4000 := by rw [mix_none, List.length_map]; omega
  refine ⟨⟨mix (fun _ => none) ps 0, ⟨[[], []], 0, [1], []⟩⟩, ?_, rfl, rfl⟩
  rw [editE, if_neg (by simp [hlv]), htx, if_neg (fun hn => hn hck), hun, hadd, if_neg (by simp), if_neg (by decide), hup, if_neg (by omega), if_neg (by simp only [Eng.text]; exact Nat.not_lt.2 (short_text hlen hcps _ _))]
end Go.Proofs.Ytfkiebglpagnaaa.M
namespace Go.Proofs.Ytfkiebglpagnaaa.M
open Go Go.Mini
theorem ap_start {ps : List (List UInt8)} (hcp : ∀ p ∈ ps, IsCP p) (hs : ps.flatten.length ≤ 60) (hpl : ps.length ≤ 60) : ∃ E, editE Eng.new 0 1 0 [⟨0, 0, ps.flatten⟩] = (E, 1, 0) ∧ ApInv ps (fun _ => none) E 0 ∧ E.R.top = [] := by
  obtain ⟨E, he, hl, hR⟩ := ap_first hcp hs hpl
  have hok := editE_ok Eng.new_ok MInv.new.R 0 1 0 [⟨0, 0, ps.flatten⟩]
  rw [he] at hok
  have hadd : addR Eng.new.R 1 = (⟨[[], []], 0, [1], []⟩, 1, 0) := by kernel_rfl
  have p := push_ok (R := Eng.new.R) MInv.new.R (s := []) Rise.nil (by decide)
  refine ⟨E, he, ⟨hl, hok, ?_, by rw [hR]; rfl, by rw [hR]; rfl, by rw [hR]; rfl, by rw [hR], (fun j a h => by cases h), (by rw [hl, mix_none, List.length_map]; rfl)⟩, by rw [hR]; rfl⟩
  rw [hR]
  exact ⟨p.one, p.few, p.rise, Rise.ins (n := 1) Rise.nil (by decide) (by decide), p.gone⟩
def off (ps : List (List UInt8)) (j : Nat) : Nat := (ps.take j).flatten.length
def dig (k : Nat) : UInt8 := UInt8.ofNat (48 + k % 10)
theorem dig_lt (k : Nat) : (dig k).toNat < 128 := by
  simp only [dig, UInt8.toNat_ofNat']; omega
theorem off_cons (p : List UInt8) (ps : List (List UInt8)) (j : Nat) : off (p :: ps) (j + 1) = p.length + off ps j := by simp [off]
theorem off_zero (ps : List (List UInt8)) : off ps 0 = 0 := by simp [off]
theorem off_lt : ∀ {ps : List (List UInt8)}, (∀ p ∈ ps, p ≠ []) → ∀ {i j : Nat}, i < j → j ≤ ps.length → off ps i < off ps j
  | [], _, i, j, h, hj => by simp at hj; omega
  | p :: ps, hp, i, 0, h, hj => by omega
  | p :: ps, hp, 0, j + 1, h, hj => by
    rw [off_cons, off_zero]
    have := List.length_pos_iff.2 (hp p (by simp)); omega
  | p :: ps, hp, i + 1, j + 1, h, hj => by
    rw [off_cons, off_cons]
    have := off_lt (ps := ps) (fun q hq => hp q (List.mem_cons_of_mem _ hq)) (i := i) (j := j) (by omega) (by simpa using hj)
    omega
theorem off_inj {ps : List (List UInt8)} (hp : ∀ p ∈ ps, p ≠ []) {i j : Nat} (hi : i ≤ ps.length) (hj : j ≤ ps.length) (h : off ps i = off ps j) : i = j := by
  rcases Nat.lt_trichotomy i j with h1 | h1 | h1
  · have := off_lt hp h1 hj; omega
  · exact h1
  · have := off_lt hp h1 hi; omega
theorem flat_ge : ∀ {ps : List (List UInt8)}, (∀ p ∈ ps, p ≠ []) → ps.length ≤ ps.flatten.length
  | [], _ => by simp
  | p :: ps, h => by
    have h1 := List.length_pos_iff.2 (h p (by simp))
    have := flat_ge (ps := ps) fun q hq => h q (List.mem_cons_of_mem _ hq)
    simp only [List.length_cons, List.flatten_cons, List.length_append]; omega
structure ApRun (ps : List (List UInt8)) (m : List Nat) (E : Eng) : Prop where
  ex : ∃ f, ApInv ps f E m.length ∧ (∀ j, j ≤ ps.length → (f j).map Atom.text = if off ps j ∈ m then some [dig (off ps j)] else none) ∧ ∀ j a, f j = some a → a.rev ≤ (m.length : Int) + 1 ∧ a.cuts = []
  top : E.R.top = []
theorem ApRun.next {ps : List (List UInt8)} {m : List Nat} {E : Eng} (h : ApRun ps m E) (hcp : ∀ p ∈ ps, IsCP p) (hs : ps.flatten.length ≤ 60) (hm : m.length < 9) {k : Nat} (hk : ∃ j, j ≤ ps.length ∧ k = off ps j) (hn : k ∉ m) :
    ∃ E', editE E 1 ((m.length + 2 : Nat) : Int) 0 [⟨(k : Nat), (k : Nat), [dig k]⟩] = (E', ((m.length + 2 : Nat) : Int), 0) ∧ ApRun ps (m ++ [k]) E' := by
  obtain ⟨j, hj, rfl⟩ := hk
  have hp : ∀ p ∈ ps, p ≠ [] := fun p hp => (hcp p hp).1
  obtain ⟨f, hi, hf, hr⟩ := h.ex
  have hfj : f j = none := by have := hf j hj; rw [if_neg hn] at this; exact Option.map_eq_none_iff.1 this
  obtain ⟨E', he, hi', ht⟩ := ap_next hi hcp hs (Nat.le_trans (flat_ge hp) hs) hm hj hfj (dig_lt (off ps j))
  refine ⟨E', he, ⟨⟨upd f j _, by simpa using hi', fun i hi2 => ?_, fun i a ha => ?_⟩, ht.trans h.top⟩⟩
  · simp only [upd]
    by_cases e : i = j
    · subst e; simp
    · have : off ps i ≠ off ps j := fun e2 => e (off_inj hp hi2 hj e2)
      rw [if_neg e, hf i hi2]; simp [this]
  · simp only [upd] at ha
    split at ha
    · cases ha; exact ⟨by simp; omega, rfl⟩
    · have := hr i a ha; exact ⟨by simp; omega, this.2⟩
theorem ApRun.start {ps : List (List UInt8)} (hcp : ∀ p ∈ ps, IsCP p) (hs : ps.flatten.length ≤ 60) : ∃ E, editE Eng.new 0 1 0 [⟨0, 0, ps.flatten⟩] = (E, 1, 0) ∧ ApRun ps [] E := by
  obtain ⟨E, he, hi, ht⟩ := ap_start hcp hs (Nat.le_trans (flat_ge fun p hp => (hcp p hp).1) hs)
  exact ⟨E, he, ⟨⟨_, hi, fun j hj => by simp, fun j a ha => by cases ha⟩, ht⟩⟩
def wantB (P : Nat → Bool) : List UInt8 → Nat → List UInt8
  | [], k => if P k then [dig k] else []
  | c :: s, k => (if P k then [dig k] else []) ++ c :: wantB P s (k + 1)
theorem wantB_skip {P : Nat → Bool} {s : List UInt8} : ∀ (p : List UInt8) (k : Nat), (∀ i, i < p.length → P (k + i) = false) → wantB P (p ++ s) k = p ++ wantB P s (k + p.length)
  | [], k, _ => rfl
  | c :: p, k, h => by
    have h0 := h 0 (by simp)
    rw [Nat.add_zero] at h0
    have ih := wantB_skip (s := s) p (k + 1) fun i hi => by
      have := h (i + 1) (by simp only [List.length_cons]; omega)
      rw [show k + 1 + i = k + (i + 1) by omega]; exact this
    rw [List.cons_append, wantB, h0, ih, List.length_cons, show k + 1 + p.length = k + (p.length + 1) by omega]; rfl
theorem wantT_B {P : Nat → Bool} {f : Nat → Option Atom} : ∀ (ps : List (List UInt8)) (j k : Nat), (∀ i, i ≤ ps.length → putT f (j + i) = if P (k + off ps i) then [dig (k + off ps i)] else []) → (∀ x, P (k + x) = true → ∃ i, i ≤ ps.length ∧ x = off ps i) → (∀ p ∈ ps, p ≠ []) → wantT f ps j = wantB P ps.flatten k
  | [], j, k, h, _, _ => by
    have := h 0 (by simp)
    rw [off_zero, Nat.add_zero, Nat.add_zero] at this
    rw [wantT, this]; rfl
  | [] :: ps, j, k, _, _, hp => absurd rfl (hp [] (by simp))
  | (c :: r) :: ps, j, k, h, hP, hp => by
    have h0 := h 0 (by simp)
    rw [off_zero, Nat.add_zero, Nat.add_zero] at h0
    have ih := wantT_B (P := P) (f := f) ps (j + 1) (k + (r.length + 1)) (fun i hi => by
      have := h (i + 1) (by simp only [List.length_cons]; omega)
      rw [off_cons, List.length_cons] at this
      rw [show j + 1 + i = j + (i + 1) by omega, this, show k + (r.length + 1) + off ps i = k + (r.length + 1 + off ps i) by omega]) (fun x hx => by
      obtain ⟨i, hi, e⟩ := hP (r.length + 1 + x) (by rw [← Nat.add_assoc]; exact hx)
      cases i with
      | zero => rw [off_zero] at e; omega
      | succ i =>
        rw [off_cons, List.length_cons] at e
        exact ⟨i, by simpa using hi, by omega⟩) (fun p hq => hp p (List.mem_cons_of_mem _ hq))
    have hsk := wantB_skip (P := P) (s := ps.flatten) r (k + 1) fun i hi => by
      cases hv : P (k + 1 + i) with
      | false => rfl
      | true =>
        obtain ⟨i', hi', e⟩ := hP (1 + i) (by rw [← Nat.add_assoc]; exact hv)
        cases i' with
        | zero => rw [off_zero] at e; omega
        | succ i' => rw [off_cons, List.length_cons] at e; omega
    have hw : wantB P (c :: (r ++ ps.flatten)) k = (if P k then [dig k] else []) ++ c :: wantB P (r ++ ps.flatten) (k + 1) := rfl
    rw [wantT, h0, ih, List.flatten_cons, List.cons_append, List.cons_append, hw, hsk, show k + 1 + r.length = k + (r.length + 1) by omega]
theorem ApRun.text {ps : List (List UInt8)} {m : List Nat} {E : Eng} (h : ApRun ps m E) (hcp : ∀ p ∈ ps, IsCP p) (hm : ∀ k ∈ m, ∃ j, j ≤ ps.length ∧ k = off ps j) {P : Nat → Bool} (hP : ∀ k, P k = true ↔ k ∈ m) : E.text (E.R.head : Nat) = wantB P ps.flatten 0 := by
  obtain ⟨f, hi, hf, hr⟩ := h.ex
  rw [Eng.text, hi.rok.top.1, h.top, hi.l, mix_want (by rw [hi.head]; omega) (fun j a ha => by
    have h1 := hr j a ha
    have h2 : a.rev ≤ ((E.R.head : Nat) : Int) := by rw [hi.head]; exact h1.1
    simp [visible, holds, h1.2, h2])]
  refine wantT_B ps 0 0 (fun i hi2 => ?_) (fun x hx => ?_) (fun p hp => (hcp p hp).1)
  · have := hf i hi2
    rw [Nat.zero_add, Nat.zero_add]
    by_cases hx : off ps i ∈ m
    · rw [if_pos ((hP _).2 hx)]
      rw [if_pos hx] at this
      obtain ⟨a, ha, hb⟩ := Option.map_eq_some_iff.1 this
      simp only [putT, ha, hb]
    · rw [if_neg (fun h2 => hx ((hP _).1 h2))]
      rw [if_neg hx] at this
      simp only [putT, Option.map_eq_none_iff.1 this]
  · rw [Nat.zero_add] at hx
    exact hm x ((hP x).1 hx)
end Go.Proofs.Ytfkiebglpagnaaa.M
namespace Go.Proofs.Ytfkiebglpagnaaa.M
open Go Go.Mini
attribute [local congr] go1_congr goM_congr goG_congr goV_congr drawwp_congr Xwp_congr
theorem rand31 (b : UInt8) : bitOp .and .i64 (b.toNat : Int) 31 = ((b.toNat % 32 : Nat) : Int) := fin_byte (p := fun n => bitOp .and .i64 (n : Int) 31 = ((n % 32 : Nat) : Int)) (by decide +kernel) b
theorem rand15 (b : UInt8) : bitOp .and .i64 (b.toNat : Int) 15 = ((b.toNat % 16 : Nat) : Int) := fin_byte (p := fun n => bitOp .and .i64 (n : Int) 15 = ((n % 16 : Nat) : Int)) (by decide +kernel) b
theorem rand7 (b : UInt8) : bitOp .and .i64 (b.toNat : Int) 7 = ((b.toNat % 8 : Nat) : Int) := fin_byte (p := fun n => bitOp .and .i64 (n : Int) 7 = ((n % 8 : Nat) : Int)) (by decide +kernel) b
theorem rand63 (b : UInt8) : bitOp .and .i64 (b.toNat : Int) 63 = ((b.toNat % 64 : Nat) : Int) := fin_byte (p := fun n => bitOp .and .i64 (n : Int) 63 = ((n % 64 : Nat) : Int)) (by decide +kernel) b
theorem ror6 {x y : Nat} (hx : x < 33554432) (hy : y < 64) : bitOp .or .i64 ((x * 64 : Nat) : Int) (y : Int) = ((x * 64 + y : Nat) : Int) := by
  have h1 : (BitVec.ofInt 64 ((x * 64 : Nat) : Int)).toNat = x * 64 := by
    rw [BitVec.toNat_ofInt]; omega
  have h2 : (BitVec.ofInt 64 (y : Int)).toNat = y := by
    rw [BitVec.toNat_ofInt]; omega
  have h3 : (BitVec.ofInt 64 ((x * 64 : Nat) : Int) ||| BitVec.ofInt 64 (y : Int)).toNat = x * 64 + y := by
    rw [BitVec.toNat_or, h1, h2]
    have := Nat.two_pow_add_eq_or_of_lt (i := 6) (b := y) (by omega) x
    rw [show 2 ^ 6 * x = x * 64 by omega] at this
    exact this.symm
  simp only [bitOp]
  show IntKind.i64.wrap (((BitVec.ofInt 64 ((x * 64 : Nat) : Int) ||| BitVec.ofInt 64 (y : Int)).toNat : Nat) : Int) = _
  rw [h3, wrap_id (by omega) (by omega)]
theorem rshl6 {x : Nat} (hx : x < 33554432) : IntKind.i64.wrap ((x : Int) * 2 ^ (min 6 (IntKind.bits .i64))) = ((x * 64 : Nat) : Int) := by
  have e : (2 : Int) ^ (min 6 (IntKind.bits .i64)) = 64 := by decide
  rw [e, show (x : Int) * 64 = ((x * 64 : Nat) : Int) by push_cast; rfl, wrap_id (by omega) (by omega)]
theorem rshr6 (x : Nat) : (x : Int).fdiv (2 ^ (min 6 (IntKind.bits .i64))) = ((x / 64 : Nat) : Int) := by
  have e : (2 : Int) ^ (min 6 (IntKind.bits .i64)) = 64 := by decide
  rw [e, Int.fdiv_eq_ediv_of_nonneg _ (by decide)]; rfl
set_option maxHeartbeats 8000000 in
theorem rsize_call (σ : Heap) (s : List UInt8) (at' : Int) (hs : s.length ≤ maxRoom) : ACall Try.prog n_palinoderef1_Size [.str s, .int .i64 at'] σ (.int .i64 ((ptAt s at').2 : Int)) σ := by
  refine bare_call rfl rfl (fun W F => spec_of_awp mixed c_palinoderef1_Size (tl rfl) ?_) σ
  unfold f_palinoderef1_Size
  have hroom : maxRoom = 68719476736 := rfl
  by_cases h1 : at' < 0
  · simp only [↓evd, evu, evf, implies_true, reduceCtorEq, Nat.reduceEqDiff, ↓reduceIte, Nat.reduceAdd, Nat.reduceLeDiff, Nat.reduceLT, Nat.reduceMul, Int.reduceLT, Int.reduceLE, Int.reduceToNat, evz, h1]
    exact seen (by rw [ptAt, if_pos h1]; rfl) rfl rfl
  by_cases h2 : (s.length : Int) ≤ at'
  · simp only [↓evd, evu, evf, implies_true, reduceCtorEq, Nat.reduceEqDiff, ↓reduceIte, Nat.reduceAdd, Nat.reduceLeDiff, Nat.reduceLT, Nat.reduceMul, Int.reduceLT, Int.reduceLE, Int.reduceToNat, evz, h1, h2]
    refine seen ?_ rfl rfl
    rw [ptAt, if_neg h1, List.drop_eq_nil_of_le (by omega)]; rfl
  obtain ⟨i, rfl⟩ : ∃ i : Nat, at' = (i : Int) := ⟨at'.toNat, by omega⟩
  have hi : i < s.length := by omega
  have h0 : (0 : Int) ≤ (i : Int) := by omega
  have hg : s[i]? = some s[i] := List.getElem?_eq_getElem hi
  have hd := List.drop_eq_getElem_cons hi
  have hpt : ptAt s (i : Int) = pt (s[i] :: s.drop (i + 1)) := by rw [ptAt, if_neg h1, Int.toNat_natCast, hd]
  rw [hpt]
  generalize s[i] = a at hg
  have hab := a.toNat_lt
  have hw : IntKind.i64.wrap (a.toNat : Int) = (a.toNat : Int) := wrap_id (by omega) (by omega)
  have hrl : (s.drop (i + 1)).length = s.length - (i + 1) := List.length_drop
  by_cases c1 : a.toNat < 128
  · have c1' : (a.toNat : Int) < 128 := by omega
    simp only [↓evd, evu, evf, implies_true, reduceCtorEq, Nat.reduceEqDiff, ↓reduceIte, Nat.reduceAdd, Nat.reduceLeDiff, Nat.reduceLT, Nat.reduceMul, Int.reduceLT, Int.reduceLE, Int.reduceToNat, evz, h1, h2, h0, hg, hw, c1']
    exact seen (by rw [pt, if_pos c1]; rfl) rfl rfl
  have c1' : ¬ (a.toNat : Int) < 128 := by omega
  by_cases cn : ¬ (a.toNat / 32 = 6) ∧ ¬ (a.toNat / 16 = 14) ∧ ¬ (a.toNat / 8 = 30)
  · have e : pt (a :: s.drop (i + 1)) = (0, 0) := by rw [pt, if_neg c1, if_neg cn.1, if_neg cn.2.1, if_neg cn.2.2]
    rw [e]
    by_cases d1 : (192 : Int) ≤ a.toNat
    · have d2 : ¬ (a.toNat : Int) < 224 := by omega
      have d3 : (224 : Int) ≤ a.toNat := by omega
      have d4 : ¬ (a.toNat : Int) < 240 := by omega
      have d5 : (240 : Int) ≤ a.toNat := by omega
      have d6 : ¬ (a.toNat : Int) < 248 := by omega
      simp only [↓evd, evu, evf, implies_true, reduceCtorEq, Nat.reduceEqDiff, ↓reduceIte, Nat.reduceAdd, Nat.reduceLeDiff, Nat.reduceLT, Nat.reduceMul, Int.reduceLT, Int.reduceLE, Int.reduceToNat, evz, h1, h2, h0, hg, hw, c1', d1, d2, d3, d4, d5, d6]
      exact seen rfl rfl rfl
    · have d3 : ¬ (224 : Int) ≤ a.toNat := by omega
      have d5 : ¬ (240 : Int) ≤ a.toNat := by omega
      simp only [↓evd, evu, evf, implies_true, reduceCtorEq, Nat.reduceEqDiff, ↓reduceIte, Nat.reduceAdd, Nat.reduceLeDiff, Nat.reduceLT, Nat.reduceMul, Int.reduceLT, Int.reduceLE, Int.reduceToNat, evz, h1, h2, h0, hg, hw, c1', d1, d3, d5]
      exact seen rfl rfl rfl
  obtain ⟨n, v0, least, hpt2, hcase⟩ : ∃ n v0 least : Nat, pt (a :: s.drop (i + 1)) = ptN v0 n least (s.drop (i + 1)) ∧ ((a.toNat / 32 = 6 ∧ n = 2 ∧ v0 = a.toNat % 32 ∧ least = 128) ∨ (a.toNat / 16 = 14 ∧ n = 3 ∧ v0 = a.toNat % 16 ∧ least = 2048) ∨ (a.toNat / 8 = 30 ∧ n = 4 ∧ v0 = a.toNat % 8 ∧ least = 65536)) := by
    by_cases e1 : a.toNat / 32 = 6
    · exact ⟨2, _, 128, by rw [pt, if_neg c1, if_pos e1], .inl ⟨e1, rfl, rfl, rfl⟩⟩
    · by_cases e2 : a.toNat / 16 = 14
      · exact ⟨3, _, 2048, by rw [pt, if_neg c1, if_neg e1, if_pos e2], .inr (.inl ⟨e2, rfl, rfl, rfl⟩)⟩
      · have e3 : a.toNat / 8 = 30 := Classical.byContradiction fun e3 => cn ⟨e1, e2, e3⟩
        exact ⟨4, _, 65536, by rw [pt, if_neg c1, if_neg e1, if_neg e2, if_pos e3], .inr (.inr ⟨e3, rfl, rfl, rfl⟩)⟩
  rw [hpt2]
  have hn4 : 2 ≤ n ∧ n ≤ 4 := by rcases hcase with h | h | h <;> omega
  have hv0 : v0 < 32 := by rcases hcase with h | h | h <;> omega
  have hlw : IntKind.i64.wrap ((s.length : Int) - (i : Int)) = (s.length : Int) - (i : Int) := wrap_id (by omega) (by omega)
  rcases hcase with ⟨hc, hn, hv, hle⟩ | ⟨hc, hn, hv, hle⟩ | ⟨hc, hn, hv, hle⟩
  all_goals
    by_cases hsh : (s.length : Int) - (i : Int) < (n : Int)
    · have hcn : ptN v0 n least (s.drop (i + 1)) = (0, 0) := by
        rw [ptN, conts_short (n - 1) v0 _ (by omega)]
      rw [hcn]
      rw [hn] at hsh
      first
        | (have d1 : (192 : Int) ≤ a.toNat := by omega
           have d2 : (a.toNat : Int) < 224 := by omega
           simp only [↓evd, evu, evf, implies_true, reduceCtorEq, Nat.reduceEqDiff, ↓reduceIte, Nat.reduceAdd, Nat.reduceLeDiff, Nat.reduceLT, Nat.reduceMul, Int.reduceLT, Int.reduceLE, Int.reduceToNat, evz, h1, h2, h0, hg, hw, c1', d1, d2, hlw]
           have hsh' : (s.length : Int) - (i : Int) < 2 := hsh
           simp only [↓evd, evu, evf, implies_true, reduceCtorEq, Nat.reduceEqDiff, ↓reduceIte, Nat.reduceAdd, Nat.reduceLeDiff, Nat.reduceLT, Nat.reduceMul, Int.reduceLT, Int.reduceLE, Int.reduceToNat, evz, hsh']
           exact seen rfl rfl rfl)
        | (have d1 : (192 : Int) ≤ a.toNat := by omega
           have d2 : ¬ (a.toNat : Int) < 224 := by omega
           have d3 : (224 : Int) ≤ a.toNat := by omega
           have d4 : (a.toNat : Int) < 240 := by omega
           simp only [↓evd, evu, evf, implies_true, reduceCtorEq, Nat.reduceEqDiff, ↓reduceIte, Nat.reduceAdd, Nat.reduceLeDiff, Nat.reduceLT, Nat.reduceMul, Int.reduceLT, Int.reduceLE, Int.reduceToNat, evz, h1, h2, h0, hg, hw, c1', d1, d2, d3, d4, hlw]
           have hsh' : (s.length : Int) - (i : Int) < 3 := hsh
           simp only [↓evd, evu, evf, implies_true, reduceCtorEq, Nat.reduceEqDiff, ↓reduceIte, Nat.reduceAdd, Nat.reduceLeDiff, Nat.reduceLT, Nat.reduceMul, Int.reduceLT, Int.reduceLE, Int.reduceToNat, evz, hsh']
           exact seen rfl rfl rfl)
        | (have d1 : (192 : Int) ≤ a.toNat := by omega
           have d2 : ¬ (a.toNat : Int) < 224 := by omega
           have d3 : (224 : Int) ≤ a.toNat := by omega
           have d4 : ¬ (a.toNat : Int) < 240 := by omega
           have d5 : (240 : Int) ≤ a.toNat := by omega
           have d6 : (a.toNat : Int) < 248 := by omega
           simp only [↓evd, evu, evf, implies_true, reduceCtorEq, Nat.reduceEqDiff, ↓reduceIte, Nat.reduceAdd, Nat.reduceLeDiff, Nat.reduceLT, Nat.reduceMul, Int.reduceLT, Int.reduceLE, Int.reduceToNat, evz, h1, h2, h0, hg, hw, c1', d1, d2, d3, d4, d5, d6, hlw]
           have hsh' : (s.length : Int) - (i : Int) < 4 := hsh
           simp only [↓evd, evu, evf, implies_true, reduceCtorEq, Nat.reduceEqDiff, ↓reduceIte, Nat.reduceAdd, Nat.reduceLeDiff, Nat.reduceLT, Nat.reduceMul, Int.reduceLT, Int.reduceLE, Int.reduceToNat, evz, hsh']
           exact seen rfl rfl rfl)
    · have hsh' := hsh
      rw [hn] at hsh'
      first
        | (have d1 : (192 : Int) ≤ a.toNat := by omega
           have d2 : (a.toNat : Int) < 224 := by omega
           have hshn : ¬ (s.length : Int) - (i : Int) < 2 := hsh'
           simp only [↓evd, evu, evf, implies_true, reduceCtorEq, Nat.reduceEqDiff, ↓reduceIte, Nat.reduceAdd, Nat.reduceLeDiff, Nat.reduceLT, Nat.reduceMul, Int.reduceLT, Int.reduceLE, Int.reduceToNat, evz, h1, h2, h0, hg, hw, c1', d1, d2, hlw, hshn, rand31])
        | (have d1 : (192 : Int) ≤ a.toNat := by omega
           have d2 : ¬ (a.toNat : Int) < 224 := by omega
           have d3 : (224 : Int) ≤ a.toNat := by omega
           have d4 : (a.toNat : Int) < 240 := by omega
           have hshn : ¬ (s.length : Int) - (i : Int) < 3 := hsh'
           simp only [↓evd, evu, evf, implies_true, reduceCtorEq, Nat.reduceEqDiff, ↓reduceIte, Nat.reduceAdd, Nat.reduceLeDiff, Nat.reduceLT, Nat.reduceMul, Int.reduceLT, Int.reduceLE, Int.reduceToNat, evz, h1, h2, h0, hg, hw, c1', d1, d2, d3, d4, hlw, hshn, rand15])
        | (have d1 : (192 : Int) ≤ a.toNat := by omega
           have d2 : ¬ (a.toNat : Int) < 224 := by omega
           have d3 : (224 : Int) ≤ a.toNat := by omega
           have d4 : ¬ (a.toNat : Int) < 240 := by omega
           have d5 : (240 : Int) ≤ a.toNat := by omega
           have d6 : (a.toNat : Int) < 248 := by omega
           have hshn : ¬ (s.length : Int) - (i : Int) < 4 := hsh'
           simp only [↓evd, evu, evf, implies_true, reduceCtorEq, Nat.reduceEqDiff, ↓reduceIte, Nat.reduceAdd, Nat.reduceLeDiff, Nat.reduceLT, Nat.reduceMul, Int.reduceLT, Int.reduceLE, Int.reduceToNat, evz, h1, h2, h0, hg, hw, c1', d1, d2, d3, d4, d5, d6, hlw, hshn, rand7])
      refine awp_loop (fun m fr τ => ∃ j x : Nat, m + j = n ∧ 1 ≤ j ∧ j ≤ n ∧ fr.get 0 = .str s ∧ fr.get 1 = .int .i64 (i : Int) ∧ fr.get 6 = .int .i64 (n : Int) ∧ fr.get 8 = .int .i64 (least : Int) ∧ fr.get 7 = .int .i64 (x : Int) ∧ fr.get 9 = .int .i64 (j : Int) ∧ x < 32 * 64 ^ (j - 1) ∧ conts x (n - j) (s.drop (i + j)) = conts v0 (n - 1) (s.drop (i + 1)) ∧ τ.W = W ∧ τ.F0 = F) ?_ (m := n - 1) ?_
      · rintro m fr τ ⟨j, x, hm, hj1, hj2, e0, e1, e6, e8, e7, e9, hx, hcc, hW, hF⟩
        have hx25 : x < 33554432 := by
          have h3 : j - 1 ≤ 3 := by omega
          have := Nat.pow_le_pow_right (n := 64) (by omega) h3
          have : (64 : Nat) ^ 3 = 262144 := by decide
          omega
        by_cases hlt : j < n
        · have hlt' : (j : Int) < (n : Int) := by omega
          have hai : i + j < s.length := by omega
          have hw2 : IntKind.i64.wrap ((i : Int) + (j : Int)) = ((i + j : Nat) : Int) := by rw [wrap_id (by omega) (by omega)]; omega
          have h0j : (0 : Int) ≤ ((i + j : Nat) : Int) := by omega
          have hgi : s[i + j]? = some s[i + j] := List.getElem?_eq_getElem hai
          have hwj := wrap_succ (i := j) (by omega)
          obtain ⟨k, hk⟩ : ∃ k, n - j = k + 1 := ⟨n - j - 1, by omega⟩
          rw [List.drop_eq_getElem_cons hai, hk, conts] at hcc
          generalize s[i + j] = b at hgi hcc
          have hbb := b.toNat_lt
          have hwb : IntKind.i64.wrap (b.toNat : Int) = (b.toNat : Int) := wrap_id (by omega) (by omega)
          by_cases hb : b.toNat / 64 = 2
          · rw [if_pos hb] at hcc
            have hbn : (((b.toNat / 64 : Nat) : Int) != 2) = false := by rw [hb]; rfl
            have hor := ror6 (x := x) (y := b.toNat % 64) hx25 (by omega)
            simp only [↓evd, evu, evf, implies_true, reduceCtorEq, Nat.reduceEqDiff, ↓reduceIte, Nat.reduceAdd, Nat.reduceLeDiff, Nat.reduceLT, Nat.reduceMul, Int.reduceLT, Int.reduceLE, Int.reduceToNat, evz, e0, e1, e6, e8, e7, e9, hlt', hw2, h0j, hgi, hwb, rshr6, hbn, rshl6 hx25, rand63, hor, hwj]
            refine ⟨m - 1, by omega, j + 1, x * 64 + b.toNat % 64, by omega, by omega, by omega, rfl, rfl, ?_, ?_, hW, hF⟩
            · rw [Nat.add_sub_cancel]
              obtain ⟨q, rfl⟩ : ∃ q, j = q + 1 := ⟨j - 1, by omega⟩
              rw [Nat.add_sub_cancel] at hx
              rw [Nat.pow_succ]; omega
            · rw [← hcc, show n - (j + 1) = k by omega, show i + (j + 1) = i + j + 1 by omega]
          · rw [if_neg hb] at hcc
            have hbn : (((b.toNat / 64 : Nat) : Int) != 2) = true := by
              rw [bne_iff_ne]; intro h; apply hb; omega
            simp only [↓evd, evu, evf, implies_true, reduceCtorEq, Nat.reduceEqDiff, ↓reduceIte, Nat.reduceAdd, Nat.reduceLeDiff, Nat.reduceLT, Nat.reduceMul, Int.reduceLT, Int.reduceLE, Int.reduceToNat, evz, e0, e1, e6, e8, e7, e9, hlt', hw2, h0j, hgi, hwb, rshr6, hbn]
            exact seen (by rw [ptN, ← hcc]; rfl) hW hF
        · have hlt' : ¬ (j : Int) < (n : Int) := by omega
          have hjn : n - j = 0 := by omega
          rw [hjn, conts] at hcc
          have hp : ptN v0 n least (s.drop (i + 1)) = if (decide (x < least) || !isPt x) = true then (0, 0) else (x, n) := by rw [ptN, ← hcc]
          rw [hp]
          by_cases q1 : x < least
          · have q1' : (x : Int) < (least : Int) := by omega
            simp only [↓evd, evu, evf, implies_true, reduceCtorEq, Nat.reduceEqDiff, ↓reduceIte, Nat.reduceAdd, Nat.reduceLeDiff, Nat.reduceLT, Nat.reduceMul, Int.reduceLT, Int.reduceLE, Int.reduceToNat, evz, e0, e1, e6, e8, e7, e9, hlt', q1']
            exact seen (by simp [q1]) hW hF
          have q1' : ¬ (x : Int) < (least : Int) := by omega
          by_cases q2 : (1114111 : Int) < (x : Int)
          · simp only [↓evd, evu, evf, implies_true, reduceCtorEq, Nat.reduceEqDiff, ↓reduceIte, Nat.reduceAdd, Nat.reduceLeDiff, Nat.reduceLT, Nat.reduceMul, Int.reduceLT, Int.reduceLE, Int.reduceToNat, evz, e0, e1, e6, e8, e7, e9, hlt', q1', q2]
            have : isPt x = false := by simp only [isPt]; rw [decide_eq_false (by omega)]; rfl
            exact seen (by simp [q1, this]) hW hF
          by_cases q3 : (55296 : Int) ≤ (x : Int)
          · by_cases q4 : (x : Int) < 57344
            · simp only [↓evd, evu, evf, implies_true, reduceCtorEq, Nat.reduceEqDiff, ↓reduceIte, Nat.reduceAdd, Nat.reduceLeDiff, Nat.reduceLT, Nat.reduceMul, Int.reduceLT, Int.reduceLE, Int.reduceToNat, evz, e0, e1, e6, e8, e7, e9, hlt', q1', q2, q3, q4]
              have : isPt x = false := by simp only [isPt]; rw [decide_eq_false (show ¬ x < 55296 by omega), decide_eq_false (show ¬ 57343 < x by omega)]; simp
              exact seen (by simp [q1, this]) hW hF
            · simp only [↓evd, evu, evf, implies_true, reduceCtorEq, Nat.reduceEqDiff, ↓reduceIte, Nat.reduceAdd, Nat.reduceLeDiff, Nat.reduceLT, Nat.reduceMul, Int.reduceLT, Int.reduceLE, Int.reduceToNat, evz, e0, e1, e6, e8, e7, e9, hlt', q1', q2, q3, q4]
              have : isPt x = true := by simp only [isPt]; rw [decide_eq_true (show x ≤ 1114111 by omega), decide_eq_true (show 57343 < x by omega)]; simp
              exact seen (by simp [q1, this]) hW hF
          · simp only [↓evd, evu, evf, implies_true, reduceCtorEq, Nat.reduceEqDiff, ↓reduceIte, Nat.reduceAdd, Nat.reduceLeDiff, Nat.reduceLT, Nat.reduceMul, Int.reduceLT, Int.reduceLE, Int.reduceToNat, evz, e0, e1, e6, e8, e7, e9, hlt', q1', q2, q3]
            have : isPt x = true := by simp only [isPt]; rw [decide_eq_true (show x ≤ 1114111 by omega), decide_eq_true (show x < 55296 by omega)]; simp
            exact seen (by simp [q1, this]) hW hF
      · refine ⟨1, v0, by omega, Nat.le_refl _, by omega, ?_⟩
        simp only [↓evd, evu, evf, implies_true, reduceCtorEq, Nat.reduceEqDiff, ↓reduceIte, Nat.reduceAdd, Nat.reduceLeDiff, Nat.reduceLT, Nat.reduceMul, Int.reduceLT, Int.reduceLE, Int.reduceToNat, evz, hn, hv, hle]
        first | done | simpa using hv0 | (simp; omega)
end Go.Proofs.Ytfkiebglpagnaaa.M
namespace Go.Proofs.Ytfkiebglpagnaaa.M
open Go Go.Mini
attribute [local congr] go1_congr goM_congr goG_congr goV_congr drawwp_congr Xwp_congr
set_option maxHeartbeats 1000000 in
theorem rvalid_call (σ : Heap) (s : List UInt8) (hs : s.length ≤ maxRoom) : ACall Try.prog n_palinoderef1_Valid [.str s] σ (.bool (valid s)) σ := by
  refine bare_call rfl rfl (fun W F => spec_of_awp mixed c_palinoderef1_Valid (tl rfl) ?_) σ
  unfold f_palinoderef1_Valid
  have hroom : maxRoom = 68719476736 := rfl
  simp only [↓evd, evu, evf, implies_true, reduceCtorEq, Nat.reduceEqDiff, ↓reduceIte, Nat.reduceAdd, Nat.reduceLeDiff, Nat.reduceLT, Nat.reduceMul, Int.reduceLT, Int.reduceLE, Int.reduceToNat, evz]
  refine awp_loop (fun m fr τ => ∃ i, m + i = s.length ∧ fr.get 0 = .str s ∧ fr.get 3 = .int .i64 (i : Nat) ∧ τ = ⟨W, F, .nil, 0⟩ ∧ valid (s.drop i) = valid s) ?_ (m := s.length) ?_
  · rintro m fr τ ⟨i, hi, e0, e3, rfl, hv⟩
    by_cases hlt : i < s.length
    · have hlt' : (i : Int) < (s.length : Int) := by omega
      have hne : s.drop i ≠ [] := by intro h; have := congrArg List.length h; simp at this; omega
      have hle := pt_le (s.drop i)
      rw [List.length_drop] at hle
      rw [valid_step hne] at hv
      have hpa : ptAt s (i : Int) = pt (s.drop i) := by simp only [ptAt]; rw [if_neg (by omega), Int.toNat_natCast]
      simp only [↓evd, evu, evf, implies_true, reduceCtorEq, Nat.reduceEqDiff, ↓reduceIte, Nat.reduceAdd, Nat.reduceLeDiff, Nat.reduceLT, Nat.reduceMul, Int.reduceLT, Int.reduceLE, Int.reduceToNat, evz, e0, e3, hlt']
      refine MSpec.of (rsize_call _ s i hs) ?_
      rw [hpa]
      by_cases hz : (pt (s.drop i)).2 = 0
      · have hb : (((pt (s.drop i)).2 : Int) == 0) = true := by rw [hz]; rfl
        rw [if_pos hz] at hv
        simp only [↓evd, evu, evf, implies_true, reduceCtorEq, Nat.reduceEqDiff, ↓reduceIte, Nat.reduceAdd, Nat.reduceLeDiff, Nat.reduceLT, Nat.reduceMul, Int.reduceLT, Int.reduceLE, Int.reduceToNat, evz, hb]
        exact seen (by rw [← hv]) rfl rfl
      · have hb : (((pt (s.drop i)).2 : Int) == 0) = false := by rw [beq_eq_false_iff_ne]; omega
        rw [if_neg hz, List.drop_drop] at hv
        have hw : IntKind.i64.wrap ((i : Int) + ((pt (s.drop i)).2 : Int)) = ((i + (pt (s.drop i)).2 : Nat) : Int) := by rw [wrap_id (by omega) (by omega)]; omega
        simp only [↓evd, evu, evf, implies_true, reduceCtorEq, Nat.reduceEqDiff, ↓reduceIte, Nat.reduceAdd, Nat.reduceLeDiff, Nat.reduceLT, Nat.reduceMul, Int.reduceLT, Int.reduceLE, Int.reduceToNat, evz, hb, e0, e3, hw]
        exact ⟨m - (pt (s.drop i)).2, by omega, i + (pt (s.drop i)).2, by omega, rfl, hv⟩
    · have hlt' : ¬ (i : Int) < (s.length : Int) := by omega
      rw [List.drop_eq_nil_of_le (by omega)] at hv
      simp only [↓evd, evu, evf, implies_true, reduceCtorEq, Nat.reduceEqDiff, ↓reduceIte, Nat.reduceAdd, Nat.reduceLeDiff, Nat.reduceLT, Nat.reduceMul, Int.reduceLT, Int.reduceLE, Int.reduceToNat, evz, e0, e3, hlt']
      exact seen (by rw [← hv]; rfl) rfl rfl
  · exact ⟨0, by omega, by first | (simp only [↓evd, evu, evf, implies_true, reduceCtorEq, Nat.reduceEqDiff, ↓reduceIte, Nat.reduceAdd, Nat.reduceLeDiff, Nat.reduceLT, Nat.reduceMul, Int.reduceLT, Int.reduceLE, Int.reduceToNat, evz]; done) | (simp only [↓evd, evu, evf, implies_true, reduceCtorEq, Nat.reduceEqDiff, ↓reduceIte, Nat.reduceAdd, Nat.reduceLeDiff, Nat.reduceLT, Nat.reduceMul, Int.reduceLT, Int.reduceLE, Int.reduceToNat, evz]; first | rfl | (repeat' apply And.intro) <;> rfl)⟩
set_option maxHeartbeats 1000000 in
theorem risEdge_call (σ : Heap) (s : List UInt8) (i : Int) (hs : s.length ≤ maxRoom) : ACall Try.prog n_palinoderef1_IsEdge [.str s, .int .i64 i] σ (.bool (isEdge s i)) σ := by
  refine bare_call rfl rfl (fun W F => spec_of_awp mixed c_palinoderef1_IsEdge (tl rfl) ?_) σ
  unfold f_palinoderef1_IsEdge
  by_cases h1 : i < 0
  · simp only [↓evd, evu, evf, implies_true, reduceCtorEq, Nat.reduceEqDiff, ↓reduceIte, Nat.reduceAdd, Nat.reduceLeDiff, Nat.reduceLT, Nat.reduceMul, Int.reduceLT, Int.reduceLE, Int.reduceToNat, evz, h1]
    exact seen (by simp only [isEdge, decide_eq_false (show ¬ 0 ≤ i by omega)]; simp) rfl rfl
  by_cases h2 : (s.length : Int) < i
  · simp only [↓evd, evu, evf, implies_true, reduceCtorEq, Nat.reduceEqDiff, ↓reduceIte, Nat.reduceAdd, Nat.reduceLeDiff, Nat.reduceLT, Nat.reduceMul, Int.reduceLT, Int.reduceLE, Int.reduceToNat, evz, h1, h2]
    exact seen (by simp only [isEdge, decide_eq_false (show ¬ i ≤ (s.length : Int) by omega)]; simp) rfl rfl
  have h1' : 0 ≤ i := by omega
  have h2' : i ≤ (s.length : Int) := by omega
  simp only [↓evd, evu, evf, implies_true, reduceCtorEq, Nat.reduceEqDiff, ↓reduceIte, Nat.reduceAdd, Nat.reduceLeDiff, Nat.reduceLT, Nat.reduceMul, Int.reduceLT, Int.reduceLE, Int.reduceToNat, evz, h1, h2]
  refine MSpec.of (rvalid_call _ s hs) ?_
  cases hv : valid s with
  | false =>
    simp only [↓evd, evu, evf, implies_true, reduceCtorEq, Nat.reduceEqDiff, ↓reduceIte, Nat.reduceAdd, Nat.reduceLeDiff, Nat.reduceLT, Nat.reduceMul, Int.reduceLT, Int.reduceLE, Int.reduceToNat, evz]
    exact seen (by simp only [isEdge, hv, Bool.and_false]) rfl rfl
  | true =>
    by_cases h3 : i = (s.length : Int)
    · have hb : (i == (s.length : Int)) = true := by simpa using h3
      simp only [↓evd, evu, evf, implies_true, reduceCtorEq, Nat.reduceEqDiff, ↓reduceIte, Nat.reduceAdd, Nat.reduceLeDiff, Nat.reduceLT, Nat.reduceMul, Int.reduceLT, Int.reduceLE, Int.reduceToNat, evz, hb]
      exact seen (by simp only [isEdge, decide_eq_true h1', decide_eq_true h2', decide_eq_true h3, hv]; rfl) rfl rfl
    · have hb : (i == (s.length : Int)) = false := by simpa using h3
      have hlt : i.toNat < s.length := by omega
      have hg : s[i.toNat]? = some s[i.toNat] := List.getElem?_eq_getElem hlt
      have hw : IntKind.i64.wrap (s[i.toNat].toNat : Int) = (s[i.toNat].toNat : Int) := wrap_id (by omega) (by have := s[i.toNat].toNat_lt; omega)
      by_cases hc : s[i.toNat].toNat / 64 = 2
      · have hb' : (((s[i.toNat].toNat / 64 : Nat) : Int) != 2) = false := by rw [hc]; rfl
        simp only [↓evd, evu, evf, implies_true, reduceCtorEq, Nat.reduceEqDiff, ↓reduceIte, Nat.reduceAdd, Nat.reduceLeDiff, Nat.reduceLT, Nat.reduceMul, Int.reduceLT, Int.reduceLE, Int.reduceToNat, evz, hb, h1', hg, hw, rshr6, hb']
        refine seen ?_ rfl rfl
        simp only [isEdge, decide_eq_false h3, hg, decide_eq_true hc]; simp
      · have hb' : (((s[i.toNat].toNat / 64 : Nat) : Int) != 2) = true := by
          rw [bne_iff_ne]; intro h; apply hc; omega
        simp only [↓evd, evu, evf, implies_true, reduceCtorEq, Nat.reduceEqDiff, ↓reduceIte, Nat.reduceAdd, Nat.reduceLeDiff, Nat.reduceLT, Nat.reduceMul, Int.reduceLT, Int.reduceLE, Int.reduceToNat, evz, hb, h1', hg, hw, rshr6, hb']
        refine seen ?_ rfl rfl
        simp only [isEdge, decide_eq_true h1', decide_eq_true h2', decide_eq_false h3, hg, decide_eq_false hc, hv]; rfl
end Go.Proofs.Ytfkiebglpagnaaa.M
namespace Go.Proofs.Ytfkiebglpagnaaa.M
open Go Go.Mini
structure TwoA (ρ : Heap) (k1 k2 : Nat) (E F : Eng) (fp1 fp2 : List Nat) (row : List AVal) (W : World) : Prop where
  e : IsEng ρ k1 E fp1
  f : IsEng ρ k2 F fp2
  dis : ∀ x ∈ fp1, x ∉ fp2
  p1 : 0 ∉ fp1
  p2 : 0 ∉ fp2
  row : ρ.get 0 = some (.cells row none)
  pos : 0 < ρ.next
  W : ρ.W = W
variable {ρ τ : Heap} {k1 k2 : Nat} {E F E' F' : Eng} {fp1 fp2 fp1' fp2' : List Nat} {row : List AVal} {W : World}
theorem TwoA.junk (h : TwoA ρ k1 k2 E F fp1 fp2 row W) (hk : Keep [] ρ τ) : TwoA τ k1 k2 E F fp1 fp2 row W :=
  ⟨h.e.keep hk (fun x _ => by simp), h.f.keep hk (fun x _ => by simp), h.dis, h.p1, h.p2, by rw [hk.2.2.2 0 h.pos (by simp)]; exact h.row, Nat.lt_of_lt_of_le h.pos hk.2.2.1, hk.1.trans h.W⟩
theorem TwoA.stepE (h : TwoA ρ k1 k2 E F fp1 fp2 row W) (h1 : IsEng τ k1 E' fp1') (hk : Keep fp1 ρ τ) (q : Fresh fp1 ρ fp1') : TwoA τ k1 k2 E' F fp1' fp2 row W := by
  refine ⟨h1, h.f.keep hk (fun x hx hm => h.dis x hm hx), fun x hx hm => ?_, fun hx => ?_, h.p2, by rw [hk.2.2.2 0 h.pos h.p1]; exact h.row, Nat.lt_of_lt_of_le h.pos hk.2.2.1, hk.1.trans h.W⟩
  · rcases q x hx with h3 | h3
    · exact h.dis x h3 hm
    · have := h.f.low x hm; omega
  · rcases q 0 hx with h3 | h3
    · exact h.p1 h3
    · have := h.pos; omega
theorem TwoA.stepF (h : TwoA ρ k1 k2 E F fp1 fp2 row W) (h1 : IsEng τ k2 F' fp2') (hk : Keep fp2 ρ τ) (q : Fresh fp2 ρ fp2') : TwoA τ k1 k2 E F' fp1 fp2' row W := by
  refine ⟨h.e.keep hk h.dis, h1, fun x hx hm => ?_, h.p1, fun hx => ?_, by rw [hk.2.2.2 0 h.pos h.p2]; exact h.row, Nat.lt_of_lt_of_le h.pos hk.2.2.1, hk.1.trans h.W⟩
  · rcases q x hm with h3 | h3
    · exact h.dis x hx h3
    · have := h.e.low x hx; omega
  · rcases q 0 hx with h3 | h3
    · exact h.p2 h3
    · have := h.pos; omega
def rotN (l : List Nat) (t i : Nat) : List Nat := (List.range i).map fun j => l[(j + t) % l.length]!
theorem rotN_succ (l : List Nat) (t i : Nat) : rotN l t (i + 1) = rotN l t i ++ [l[(i + t) % l.length]!] := by
  simp only [rotN, List.range_succ, List.map_append, List.map_cons, List.map_nil]
theorem rotN_len (l : List Nat) (t i : Nat) : (rotN l t i).length = i := by simp [rotN]
theorem rotN_perm (l : List Nat) (t : Nat) : (rotN l t l.length).Perm l := by
  rcases Nat.eq_zero_or_pos l.length with h | h
  · have : l = [] := List.eq_nil_of_length_eq_zero h
    subst this; exact List.Perm.refl _
  have hm := Nat.mod_lt t h
  have e : rotN l t l.length = l.drop (t % l.length) ++ l.take (t % l.length) := by
    apply List.ext_getElem
    · simp [rotN]; omega
    · intro i h1 h2
      have hi : i < l.length := by simpa [rotN] using h1
      simp only [rotN, List.getElem_map, List.getElem_range, List.getElem_append, List.length_drop, List.getElem_drop, List.getElem_take]
      have hmod : (i + t) % l.length = (i + t % l.length) % l.length := by simp
      split
      · rename_i hlt
        rw [getElem!_pos l _ (Nat.mod_lt _ h)]
        congr 1
        rw [hmod, Nat.mod_eq_of_lt (by omega)]; omega
      · rename_i hge
        rw [getElem!_pos l _ (Nat.mod_lt _ h)]
        congr 1
        rw [hmod, Nat.mod_eq_sub_mod (by omega), Nat.mod_eq_of_lt (by omega)]; omega
  rw [e]
  exact (List.perm_append_comm).trans (by rw [List.take_append_drop])
theorem rotN_fresh {l : List Nat} {t i : Nat} (h : l.Nodup) (hi : i < l.length) : l[(i + t) % l.length]! ∉ rotN l t i := by
  have e : rotN l t (i + 1) = (rotN l t l.length).take (i + 1) := by
    simp only [rotN, ← List.map_take, List.take_range]
    rw [Nat.min_eq_left (by omega)]
  have hn : (rotN l t (i + 1)).Nodup := by rw [e]; exact ((rotN_perm l t).nodup_iff.2 h).sublist (List.take_sublist _ _)
  rw [rotN_succ, List.nodup_append] at hn
  exact fun hm => hn.2.2 _ hm _ (by simp) rfl
end Go.Proofs.Ytfkiebglpagnaaa.M
namespace Go.Proofs.Ytfkiebglpagnaaa.M
open Go Go.Mini
attribute [local congr] go1_congr goM_congr goG_congr goV_congr drawwp_congr Xwp_congr
theorem wu8 {x : Nat} (hx : x < 256) : IntKind.u8.wrap (x : Int) = (x : Int) := by
  have e1 : (2 : Int) ^ 8 = 256 := by decide
  simp only [IntKind.wrap, IntKind.bits, IntKind.signed, Bool.false_and, e1]
  simp; omega
theorem dig10 (k : Nat) : ((k : Int).tmod 10 = ((k % 10 : Nat) : Int)) ∧ IntKind.u8.wrap ((k % 10 : Nat) : Int) = ((k % 10 : Nat) : Int) ∧ IntKind.u8.wrap (48 + ((k % 10 : Nat) : Int)) = ((48 + k % 10 : Nat) : Int) :=
  ⟨by rw [Int.tmod_eq_emod_of_nonneg (by omega)]; rfl, wu8 (by omega), by rw [← wu8 (x := 48 + k % 10) (by omega)]; rfl⟩
theorem keeps_none {σ τ : Heap} (h : τ.W = σ.W) : Keeps (fun _ => False) σ τ := ⟨h, fun _ h => h.elim⟩
theorem ap_add {a b : List UInt8} (h : a.length + b.length ≤ 1000) : aStr .add a b = some (.str (a ++ b)) := by
  simp only [aStr]; rw [if_pos (Nat.le_trans h (by decide))]
theorem slc_byte {s : List UInt8} {k : Nat} (h : k < s.length) : aSlcS (.str s) (some (.int .i64 (k : Nat))) (some (.int .i64 ((k + 1 : Nat) : Int))) = some (.str [s[k]]) := by
  have e : (s.take (k + 1)).drop k = [s[k]] := by
    rw [List.drop_take, List.drop_eq_getElem_cons h, show k + 1 - k = 1 by omega]; rfl
  have b1 : aBound (some (.int .i64 ((k + 1 : Nat) : Int))) s.length s.length = some (k + 1) := by
    simp only [aBound]; rw [if_pos (by simp; omega)]; rfl
  have b2 : aBound (some (.int .i64 (k : Nat))) 0 (k + 1) = some k := by
    simp only [aBound]; rw [if_pos (by simp; omega)]; rfl
  simp only [aSlcS, b1, b2, e]
structure Picked (ps : List (List UInt8)) (L : List Nat) (P : Nat → Bool) : Prop where
  nd : L.Nodup
  ed : ∀ k ∈ L, ∃ j, j ≤ ps.length ∧ k = off ps j
  P : ∀ k, P k = true ↔ k ∈ L
theorem Picked.add {ps : List (List UInt8)} {L : List Nat} {P : Nat → Bool} (h : Picked ps L P) (hcp : ∀ p ∈ ps, IsCP p) {k : Nat} (he : isEdge ps.flatten (k : Int) = true) (hP : P k = false) : Picked ps (L ++ [k]) (fun j => if j = k then true else P j) := by
  have hk : k ∉ L := fun hm => by rw [(h.P k).2 hm] at hP; cases hP
  refine ⟨?_, fun x hx => ?_, fun x => ?_⟩
  · rw [List.nodup_append]
    exact ⟨h.nd, by simp, fun a ha b hb e => hk (by rw [List.mem_singleton.1 hb] at e; exact e ▸ ha)⟩
  · rcases List.mem_append.1 hx with hx | hx
    · exact h.ed x hx
    · rw [List.mem_singleton.1 hx]
      obtain ⟨j, hj, e⟩ := (edge_flat hcp _).1 he
      exact ⟨j, hj, by unfold off; omega⟩
  · rw [List.mem_append, List.mem_singleton, ← h.P x]
    by_cases e : x = k
    · simp [e]
    · simp [e]
set_option maxHeartbeats 8000000 in
theorem apart_fspec (W : World) (s : List UInt8) (l : List Int) (t : Int) (hb : ∀ b ∈ l, 0 ≤ b ∧ b < 256) (ht0 : 0 ≤ t) (ht1 : t < 256) : FSpec Try.prog n_palinodelaw20_EngineApart [.str s, eU8s l, .int .u8 t] (Heap.bare W (cellsOf W)) fun v σ => v = .bool true ∧ σ.W = W := by
  refine fspec_of_xwp c_palinodelaw20_EngineApart (tl rfl) ?_
  unfold f_palinodelaw20_EngineApart
  refine x_seq mixed ?_
  simp +decide only [↓evd, evw, evz, reduceCtorEq, ↓reduceIte]
  refine x_seq mixed ?_
  simp +decide only [↓evd, evw, evz, reduceCtorEq, ↓reduceIte]
  refine MSpec.of (known20_call _ rfl) ?_
  simp +decide only [↓evd, evw, evz, reduceCtorEq, ↓reduceIte]
  refine x_seq mixed ?_
  simp +decide only [↓evd, evw, evz, reduceCtorEq, ↓reduceIte]
  by_cases h1 : (s.length : Int) < 1
  · simp +decide only [↓evd, evw, evz, reduceCtorEq, ↓reduceIte, eU8s, h1]
  by_cases h2 : (60 : Int) < s.length
  · simp +decide only [↓evd, evw, evz, reduceCtorEq, ↓reduceIte, eU8s, h1, h2]
  by_cases h3 : (8 : Int) < l.length
  · simp +decide only [↓evd, evw, evz, reduceCtorEq, ↓reduceIte, eU8s, h1, h2, h3]
  have hv := rvalid_call (Heap.bare W (cellsOf W)) s (by unfold maxRoom; omega)
  simp +decide only [↓evd, evw, evz, reduceCtorEq, ↓reduceIte, eU8s, h1, h2, h3]
  refine MSpec.of hv ?_
  cases hvs : valid s with
  | false => simp +decide only [↓evd, evw, evz, reduceCtorEq, ↓reduceIte]
  | true =>
  obtain ⟨ps, hsf, hcp⟩ := valid_iff.1 hvs
  have hsl : s.length ≤ 60 := by omega
  have hpl : ps.flatten.length ≤ 60 := by rw [← hsf]; exact hsl
  have hroom : s.length ≤ maxRoom := by unfold maxRoom; omega
  clear hv h1 h2
  simp +decide only [↓evd, evw, evz, reduceCtorEq, ↓reduceIte]
  refine x_seq mixed ?_
  simp +decide only [↓evd, evw, evz, reduceCtorEq, ↓reduceIte]
  refine x_seq mixed ?_
  simp +decide only [↓evd, evw, evz, reduceCtorEq, ↓reduceIte]
  refine x_seq mixed ?_
  simp +decide only [↓evd, evw, evz, reduceCtorEq, ↓reduceIte]
  refine awp_loop (fun m fr ρ => ∃ (i : Nat) (L : List Nat) (P : Nat → Bool), m + i = l.length ∧ fr.get 0 = .str s ∧ fr.get 1 = eU8s l ∧ fr.get 2 = .int .u8 t ∧ fr.get 7 = .ptr (.new 0) 0 ∧ fr.get 9 = .int .i64 (i : Nat) ∧ Own 1 ρ t_int 1 (fr.get 8) ((L.map fun k : Nat => (k : Int)).map (AVal.int .i64 ·)) ∧ Picked ps L P ∧ L.length ≤ i ∧ ρ.get 0 = some (.cells (bitRow 64 P) none) ∧ 1 ≤ ρ.next ∧ ρ.W = W ∧ ρ.F0.dr = false) ?_ (m := l.length) ?_
  · rintro m fr ρ ⟨i, L, P, hi, e0, e1, e2, e7, e9, hO, hpk, hLi, hrow, hn1, hW, hdr⟩
    generalize hx8 : fr.get 8 = x8 at hO
    by_cases hlt : i < l.length
    · have hlt' : (i : Int) < (l.length : Int) := by omega
      have hs := wrap_succ (i := i) (by omega)
      have hgt := map_get (AVal.int .u8 ·) l i hlt
      have hbi := hb _ (List.getElem_mem hlt)
      generalize l[i] = b at hgt hbi
      have hwb : IntKind.i64.wrap b = b := wrap_id (by omega) (by omega)
      have hw1 : IntKind.i64.wrap ((s.length : Int) + 1) = ((s.length + 1 : Nat) : Int) := wrap_succ (by omega)
      have hnz : (((s.length + 1 : Nat) : Int) = 0) = False := eq_false (by omega)
      have hmod := tmod_nat (n := s.length + 1) hbi.1 (by omega)
      have hkl : b.toNat % (s.length + 1) ≤ s.length := by have := Nat.mod_lt b.toNat (show 0 < s.length + 1 by omega); omega
      generalize b.toNat % (s.length + 1) = k at hmod hkl
      have hed := risEdge_call ρ s (k : Int) hroom
      simp +decide only [↓evd, evw, evz, reduceCtorEq, ↓reduceIte, e0, e1, e7, e9, eU8s, hlt', hgt, hwb, hw1, hnz, hmod]
      refine MSpec.of hed ?_
      have hk0 : (0 : Int) ≤ (k : Int) := by omega
      have hk64 : (k : Int) < 64 := by omega
      have hkn : k < 64 := by omega
      have hix := aIdxR_lt (n := 64) (k := 1) (off := 0) (i := .new 0) (K := .i64) (j := k) hkn
      simp only [Nat.mul_one, Nat.zero_add] at hix
      cases hie : isEdge s (k : Int) with
      | false =>
        simp +decide only [↓evd, evw, evz, reduceCtorEq, ↓reduceIte, e0, e1, e7, e9, hs]
        exact ⟨m - 1, by omega, i + 1, L, P, by omega, rfl, e2, rfl, by rw [hx8]; exact hO, hpk, by omega, hrow, hn1, hW, hdr⟩
      | true =>
      have hbit := bitRow_get P hkn
      cases hPk : P k with
      | true =>
        rw [hPk] at hbit
        simp +decide only [↓evd, evw, evz, reduceCtorEq, ↓reduceIte, e0, e1, e7, e9, hix, hrow, hbit, hs]
        exact ⟨m - 1, by omega, i + 1, L, P, by omega, rfl, e2, rfl, by rw [hx8]; exact hO, hpk, by omega, rfl, hn1, hW, hdr⟩
      | false =>
        rw [hPk] at hbit
        have hset := bitRow_set P true hkn
        have hle : decide (k + 1 ≤ 64) = true := by simp; omega
        have hO1 : Own 1 (ρ.set 0 (.cells (bitRow 64 fun j => if j = k then true else P j) none)) t_int 1 x8 ((L.map fun k : Nat => (k : Int)).map (AVal.int .i64 ·)) := by
          refine Own.move hO (by simp) fun K o n c e => ?_
          rw [Heap.get_set, if_neg]
          have := (hO.low e).1; omega
        have hll : (L.map fun k : Nat => (k : Int)).length ≤ 1000000 := by simp; omega
        obtain ⟨y, ρ1, a1, a2, a3, a4, a5, a6, a7⟩ := own_int hO1 (by simpa using hn1) hll (k : Int)
        simp only [Heap.set_next] at a1
        simp +decide only [↓evd, evw, evz, reduceCtorEq, ↓reduceIte, e0, e1, e7, e9, hx8, hix, hrow, hbit, bitRow_len, hle, hset, a1, hs]
        refine ⟨m - 1, by omega, i + 1, L ++ [k], _, by omega, rfl, e2, rfl, ?_, hpk.add hcp (hsf ▸ hie) hPk, by simp; omega, ?_, by have := a5; simp at this; omega, a3.trans hW, by rw [a4]; exact hdr⟩
        · rw [List.map_append]; exact a2
        · rw [a6 0 (by simp only [Heap.set_next]; omega) (fun K o n c e hk => by have := (hO.low e).1; omega), Heap.get_set, if_pos rfl]
    · have hlt' : ¬ (i : Int) < (l.length : Int) := by omega
      obtain ⟨τ1, s1, d1⟩ := Own.sees2 hO
      have hrow1 : τ1.get 0 = some (.cells (bitRow 64 P) none) := by
        rcases d1 with rfl | ⟨K, _, rfl, hK⟩
        · exact hrow
        · rw [Heap.get_set, if_neg (by omega)]; exact hrow
      have hn1' : 1 ≤ τ1.next := by rcases d1 with rfl | ⟨K, _, rfl, hK⟩ <;> simpa using hn1
      have hW1 : τ1.W = W := by rcases d1 with rfl | ⟨K, _, rfl, hK⟩ <;> simpa using hW
      have hdr1 : τ1.F0.dr = false := by rcases d1 with rfl | ⟨K, _, rfl, hK⟩ <;> simpa using hdr
      have hL8 : L.length ≤ 8 := by omega
      simp +decide only [↓evd, evw, evz, reduceCtorEq, ↓reduceIte, e0, e1, e7, e9, eU8s, hlt']
      refine x_freeze (FSees.reg (t := 8) (by decide) (by simp +decide only [↓evd, evw, evz, reduceCtorEq, ↓reduceIte, hx8]) s1) ?_
      refine x_of_awp mixed ?_
      clear hO d1 s1 hrow hn1 hW hdr e9 hx8 hLi hi hlt hlt'
      simp +decide only [↓evd, evw, evz, reduceCtorEq, ↓reduceIte]
      refine (enew_at τ1 hdr1).mono ?_
      rintro v τ2 ⟨k1, fp1, rfl, hE0, hf1, kk1⟩
      simp +decide only [↓evd, evw, evz, reduceCtorEq, ↓reduceIte]
      refine (enew_at τ2 (by rw [kk1.2.1]; exact hdr1)).mono ?_
      rintro v τ3 ⟨k2, fp2, rfl, hF0, hf2, kk2⟩
      have hT : TwoA τ3 k1 k2 Eng.new Eng.new fp1 fp2 (bitRow 64 P) W := by
        have kk := kk1.trans kk2 (fun x hx => nomatch hx)
        refine ⟨hE0.keep kk2 (fun x _ => by simp), hF0, fun x hx hm => ?_, fun hm => ?_, fun hm => ?_, ?_, ?_, kk.1.trans hW1⟩
        · have := hE0.low x hx; have := hf2 x hm; omega
        · have := hf1 0 hm; omega
        · have := hf2 0 hm; have := kk1.2.2.1; omega
        · rw [kk.2.2.2 0 (by omega) (by simp)]; exact hrow1
        · have := kk.2.2.1; omega
      obtain ⟨E1, he1, hr1⟩ := ApRun.start hcp hpl
      rw [← hsf] at he1
      clear hE0 hF0 hf1 hf2 kk1 kk2 hrow1 hn1' hW1 hdr1
      simp +decide only [↓evd, evw, evz, reduceCtorEq, ↓reduceIte, e0]
      refine (eedit_lit hT.e (q := 1) rfl (by simp) (by intro c hc; simp at hc; subst hc; simp only; omega) he1).mono ?_
      rintro v τ4 ⟨rfl, fp3, h3, kk3, f3⟩
      have hT1 := hT.stepE h3 kk3 f3
      simp +decide only [↓evd, evw, evz, reduceCtorEq, ↓reduceIte, e0]
      refine (eedit_lit hT1.f (q := 1) rfl (by simp) (by intro c hc; simp at hc; subst hc; simp only; omega) he1).mono ?_
      rintro v τ5 ⟨rfl, fp4, h4, kk4, f4⟩
      have hT2 := hT1.stepF h4 kk4 f4
      clear hT hT1 h3 kk3 f3 h4 kk4 f4
      have hrun : ∀ k, k ∈ L → ∃ j, j ≤ ps.length ∧ k = off ps j := hpk.ed
      simp +decide only [↓evd, evw, evz, reduceCtorEq, ↓reduceIte]
      refine awp_loop (fun m fr ρ => ∃ (i : Nat) (E F : Eng) (fp1 fp2 : List Nat), m + i = L.length ∧ fr.get 0 = .str s ∧ fr.get 2 = .int .u8 t ∧ fr.get 7 = .ptr (.new 0) 0 ∧ fr.get 8 = .fsl 1 ((L.map fun k : Nat => (k : Int)).map (AVal.int .i64 ·)) ∧ fr.get 11 = .ptr (.new k1) 0 ∧ fr.get 12 = .ptr (.new k2) 0 ∧ fr.get 13 = .int .i64 (i : Nat) ∧ TwoA ρ k1 k2 E F fp1 fp2 (bitRow 64 P) W ∧ ApRun ps (L.take i) E ∧ ApRun ps (rotN L t.toNat i) F) ?_ (m := L.length) ?_
      · clear e0 e1 e2 e7 hT2
        rintro m fr ρ ⟨i, E, F, fq1, fq2, hi, e0, e2, e7, e8, e11, e12, e13, hT, hrE, hrF⟩
        by_cases hlt : i < L.length
        · have hlt' : (i : Int) < (L.length : Int) := by omega
          have hs := wrap_succ (i := i) (by omega)
          have hLp : 0 < L.length := by omega
          obtain ⟨q, hq⟩ : ∃ q, q = (i + t.toNat) % L.length := ⟨_, rfl⟩
          have hql : q < L.length := by rw [hq]; exact Nat.mod_lt _ hLp
          have hg1 : ((L.map fun k : Nat => (k : Int)).map (AVal.int .i64 ·))[i]? = some (.int .i64 ((L[i] : Nat) : Int)) := by simp [hlt]
          have hg2 : ((L.map fun k : Nat => (k : Int)).map (AVal.int .i64 ·))[q]? = some (.int .i64 ((L[q] : Nat) : Int)) := by simp [hql]
          have hsum : IntKind.i64.wrap ((i : Int) + t) = (i : Int) + t := wrap_id (by omega) (by omega)
          have hwt : IntKind.i64.wrap t = t := wrap_id (by omega) (by omega)
          have hnl : ((L.length : Int) = 0) = False := eq_false (by omega)
          have hmod : ((i : Int) + t).tmod (L.length : Int) = (q : Int) := by
            rw [tmod_nat (by omega) hLp, hq]
            congr 2; omega
          have hq0 : (0 : Int) ≤ (q : Int) := by omega
          have hql' : (q : Int) < (L.length : Int) := by omega
          have hi0 : (0 : Int) ≤ (i : Int) := by omega
          have hw2 : IntKind.i64.wrap (2 + (i : Int)) = ((i + 2 : Nat) : Int) := by rw [wrap_id (by omega) (by omega)]; omega
          have hli : (L.take i).length = i := by rw [List.length_take]; omega
          have hlf : (rotN L t.toNat i).length = i := rotN_len _ _ _
          have htk := List.take_succ_eq_append_getElem hlt
          have hrk := rotN_succ L t.toNat i
          have hfre := rotN_fresh (t := t.toNat) hpk.nd hlt
          rw [← hq, getElem!_pos L q hql] at hrk hfre
          have hnE : L[i] ∉ L.take i := by
            have hnd := hpk.nd.sublist (List.take_sublist (i + 1) L)
            rw [htk, List.nodup_append] at hnd
            exact fun hm => hnd.2.2 _ hm _ (by simp) rfl
          obtain ⟨E', hE', hrE'⟩ := hrE.next hcp hpl (by omega) (hrun _ (List.getElem_mem hlt)) hnE
          obtain ⟨F', hF', hrF'⟩ := hrF.next hcp hpl (by omega) (hrun _ (List.getElem_mem hql)) hfre
          rw [hli] at hE'
          rw [hlf] at hF'
          rw [← htk] at hrE'
          rw [← hrk] at hrF'
          generalize L[i] = x at hg1 hE'
          generalize L[q] = y at hg2 hF'
          obtain ⟨x1, x2, x3⟩ := dig10 x
          obtain ⟨y1, y2, y3⟩ := dig10 y
          have h10 : ((10 : Int) = 0) = False := eq_false (by decide)
          have hdx : UInt8.ofNat (48 + x % 10) = dig x := rfl
          have hdy : UInt8.ofNat (48 + y % 10) = dig y := rfl
          have hTa := hT.junk ((Keep.refl [] ρ).new (.cells [.int .u8 ((48 + x % 10 : Nat) : Int)] none))
          have qE := eedit_lit (cs := [⟨(x : Nat), (x : Nat), [dig x]⟩]) hTa.e (q := 1) rfl (by simp) (by simp) hE'
          simp +decide only [↓evd, evw, evz, reduceCtorEq, ↓reduceIte, e0, e2, e7, e8, e11, e12, e13, hlt', hwt, hsum, hnl, hmod, hq0, hql', hql, hg2]
          with_reducible refine draw_of_grow (fun _ => False) (ms := [false, false, false, false, false, false, false, false, false, false, false, false, false, false, false, false, false, false, false, true, false, false, true, false, false, false, false, false]) (by kernel_rfl) ?_
          simp +decide only [↓evd, evw, evz, reduceCtorEq, ↓reduceIte, e0, e2, e7, e8, e11, e12, e13, hw2, hi0, hlt', hlt, hg1, h10, x1, x2, x3, hdx]
          with_reducible refine ⟨.inr (keeps_none rfl), ?_⟩
          simp +decide only [↓evd, evw, evz, reduceCtorEq, ↓reduceIte, asByte, asBytes, aBstr, slcCells, hdx]
          with_reducible refine ⟨.inr (keeps_none rfl), ?_⟩
          simp +decide only [↓evd, evw, evz, reduceCtorEq, ↓reduceIte]
          refine qE.mono ?_
          rintro v ρ2 ⟨rfl, gq1, g1, kk1, f1⟩
          have hTb := hTa.stepE g1 kk1 f1
          have hTc := hTb.junk ((Keep.refl [] ρ2).new (.cells [.int .u8 ((48 + y % 10 : Nat) : Int)] none))
          have qF := eedit_lit (cs := [⟨(y : Nat), (y : Nat), [dig y]⟩]) hTc.f (q := 1) rfl (by simp) (by simp) hF'
          clear qE g1 kk1 f1 hTa hT
          have z0 : ((0 : Int) != 0) = false := rfl
          simp +decide only [↓evd, evw, evz, reduceCtorEq, ↓reduceIte, e0, e2, e7, e8, e11, e12, e13, hw2, h10, y1, y2, y3, hdy, asByte, asBytes, aBstr, slcCells]
          refine qF.mono ?_
          rintro v ρ3 ⟨rfl, gq2, g2, kk2, f2⟩
          have hTd := hTc.stepF g2 kk2 f2
          simp +decide only [↓evd, evw, evz, reduceCtorEq, ↓reduceIte, e0, e2, e7, e8, e11, e12, e13, z0, hs]
          exact ⟨m - 1, by omega, i + 1, E', F', gq1, gq2, by omega, rfl, hTd, hrE', hrF'⟩
        · have hlt' : ¬ (i : Int) < (L.length : Int) := by omega
          have hiL : i = L.length := by omega
          subst hiL
          rw [List.take_length] at hrE
          have hperm := rotN_perm L t.toNat
          have htE := hrE.text hcp hrun hpk.P
          have htF := hrF.text hcp (fun k hk => hrun k (hperm.mem_iff.1 hk)) (P := P) (fun k => (hpk.P k).trans hperm.mem_iff.symm)
          rw [← hsf] at htE htF
          obtain ⟨tot, htot⟩ : ∃ tot, tot = wantB P s 0 := ⟨_, rfl⟩
          rw [← htot] at htE htF
          simp +decide only [↓evd, evw, evz, reduceCtorEq, ↓reduceIte, e0, e2, e7, e8, e11, e12, e13, hlt']
          refine awp_loop (fun m fr ρ => ∃ (k : Nat) (acc : List UInt8), m + k = s.length + 1 ∧ fr.get 0 = .str s ∧ fr.get 7 = .ptr (.new 0) 0 ∧ fr.get 11 = .ptr (.new k1) 0 ∧ fr.get 12 = .ptr (.new k2) 0 ∧ fr.get 19 = .str acc ∧ fr.get 20 = .int .i64 (k : Nat) ∧ TwoA ρ k1 k2 E F fq1 fq2 (bitRow 64 P) W ∧ (k ≤ s.length → acc ++ wantB P (s.drop k) k = tot) ∧ (k = s.length + 1 → acc = tot) ∧ acc.length ≤ 2 * k) ?_ (m := s.length + 1) ?_
          · clear hT e0 e2 e7 e8 e11 e12 e13
            rintro m fr ρ ⟨k, acc, hk, e0, e7, e11, e12, e19, e20, hT, ha1, ha2, hal⟩
            by_cases hle : k ≤ s.length
            · have hle' : (k : Int) ≤ (s.length : Int) := by omega
              have hs := wrap_succ (i := k) (by omega)
              have hkn : k < 64 := by omega
              have hix := aIdxR_lt (n := 64) (k := 1) (off := 0) (i := .new 0) (K := .i64) (j := k) hkn
              simp only [Nat.mul_one, Nat.zero_add] at hix
              have hbit := bitRow_get P hkn
              have hrow := hT.row
              have ha1 := ha1 hle
              obtain ⟨x1, x2, x3⟩ := dig10 k
              have h10 : ((10 : Int) = 0) = False := eq_false (by decide)
              have hdk : UInt8.ofNat (48 + k % 10) = dig k := rfl
              have hTa := hT.junk ((Keep.refl [] ρ).new (.cells [.int .u8 ((48 + k % 10 : Nat) : Int)] none))
              have hd := ap_add (a := acc) (b := [dig k]) (by simp; omega)
              by_cases hlt : k < s.length
              · have hlt' : (k : Int) < (s.length : Int) := by omega
                have hsl1 := slc_byte hlt
                have hdr := List.drop_eq_getElem_cons hlt
                rw [hdr, wantB] at ha1
                generalize s[k] = c at ha1 hsl1
                have hd1 := ap_add (a := acc ++ [dig k]) (b := [c]) (by simp; omega)
                have hd2 := ap_add (a := acc) (b := [c]) (by simp; omega)
                cases hP : P k with
                | true =>
                  rw [hP] at hbit
                  rw [if_pos hP] at ha1
                  simp +decide only [↓evd, evw, evz, reduceCtorEq, ↓reduceIte, e0, e7, e11, e12, e19, e20, hle', hix, hrow, hbit, h10, x1, x2, x3, hdk, asByte, asBytes, aBstr, slcCells, hlt', hd, hs, hsl1, hd1]
                  exact ⟨m - 1, by omega, k + 1, acc ++ [dig k] ++ [c], by omega, rfl, rfl, hTa, fun _ => by rw [← ha1]; simp, fun h => by omega, by simp; omega⟩
                | false =>
                  rw [hP] at hbit
                  rw [if_neg (by simp [hP])] at ha1
                  simp +decide only [↓evd, evw, evz, reduceCtorEq, ↓reduceIte, e0, e7, e11, e12, e19, e20, hle', hix, hrow, hbit, hlt', hs, hsl1, hd2]
                  exact ⟨m - 1, by omega, k + 1, acc ++ [c], by omega, rfl, rfl, hT, fun _ => by rw [← ha1]; simp, fun h => by omega, by simp; omega⟩
              · have hlt' : ¬ (k : Int) < (s.length : Int) := by omega
                rw [List.drop_eq_nil_of_le (by omega), wantB] at ha1
                cases hP : P k with
                | true =>
                  rw [hP] at hbit
                  rw [if_pos hP] at ha1
                  simp +decide only [↓evd, evw, evz, reduceCtorEq, ↓reduceIte, e0, e7, e11, e12, e19, e20, hle', hix, hrow, hbit, h10, x1, x2, x3, hdk, asByte, asBytes, aBstr, slcCells, hlt', hd, hs]
                  exact ⟨m - 1, by omega, k + 1, acc ++ [dig k], by omega, rfl, rfl, hTa, fun h => by omega, fun _ => ha1, by simp; omega⟩
                | false =>
                  rw [hP] at hbit
                  rw [if_neg (by simp [hP]), List.append_nil] at ha1
                  simp +decide only [↓evd, evw, evz, reduceCtorEq, ↓reduceIte, e0, e7, e11, e12, e19, e20, hle', hix, hrow, hbit, hlt', hs]
                  exact ⟨m - 1, by omega, k + 1, acc, by omega, rfl, rfl, hT, fun h => by omega, fun _ => ha1, by omega⟩
            · have hle' : ¬ (k : Int) ≤ (s.length : Int) := by omega
              have hh1 := ehead_at hT.e
              have hh2 := ehead_at hT.f
              have hx1 := etext_at hT.e (E.R.head : Nat)
              have hx2 := etext_at hT.f (F.R.head : Nat)
              rw [textV_head hT.e.ok.2, htE] at hx1
              rw [textV_head hT.f.ok.2, htF] at hx2
              have hacc := ha2 (by omega)
              subst hacc
              simp +decide only [↓evd, evw, evz, reduceCtorEq, ↓reduceIte, e0, e7, e11, e12, e19, e20, hle']
              refine MSpec.of hh1 ?_
              simp +decide only [↓evd, evw, evz, reduceCtorEq, ↓reduceIte, e0, e7, e11, e12, e19, e20]
              refine MSpec.of hx1 ?_
              simp +decide only [↓evd, evw, evz, reduceCtorEq, ↓reduceIte, e0, e7, e11, e12, e19, e20]
              refine MSpec.of hh2 ?_
              simp +decide only [↓evd, evw, evz, reduceCtorEq, ↓reduceIte, e0, e7, e11, e12, e19, e20]
              refine MSpec.of hx2 ?_
              simp +decide only [↓evd, evw, evz, reduceCtorEq, ↓reduceIte, e0, e7, e11, e12, e19, e20, aStr_self]
              exact hT.W
          · refine ⟨0, [], by omega, ?_⟩
            simp +decide only [↓evd, evw, evz, reduceCtorEq, ↓reduceIte, e0, e7, e11, e12]
            exact ⟨hT, fun _ => htot.symm, fun h => h.elim⟩
      · refine ⟨0, E1, E1, fp3, fp4, by omega, ?_⟩
        simp +decide only [↓evd, evw, evz, reduceCtorEq, ↓reduceIte, e0, e2, e7]
        exact ⟨hT2, hr1, hr1⟩
  · refine ⟨0, [], fun _ => false, by omega, ?_⟩
    simp +decide only [↓evd, evw, evz, reduceCtorEq, ↓reduceIte, eU8s]
    exact ⟨Own.nil _ _ _ _, ⟨List.nodup_nil, (fun k h => by cases h), (fun k => by simp)⟩, rfl⟩
theorem engineApart_row (W : World) (a0 : List UInt8) (a1 : List Int) (a2 : Int) (g0 : GStr a0) (g1 : GList (GInt .u8) a1) (g2 : GInt .u8 a2) : FSpec Try.prog n_palinodelaw20_EngineApart [.str a0, .fsl 1 (a1.map (fun n : Int => AVal.int .u8 n)), .int .u8 a2] (Heap.bare W (cellsOf W)) fun v s => v = .bool true ∧ s.W = W :=
  apart_fspec W a0 a1 a2 (fun b hb => gint_u8 (g1.1 b hb)) (gint_u8 g2).1 (gint_u8 g2).2
end Go.Proofs.Ytfkiebglpagnaaa.M

