/- A part of the seat's proofs over the abstract machine. No condition. -/
import Derived.Test.YtkjikdohnomajaaGreatWA
import Derived.Test.YtkjikdohnomajaaGreatMB
set_option linter.unusedSimpArgs false
set_option linter.unusedVariables false
set_option maxRecDepth 100000
namespace Go.Proofs.YtkjikdohnomajaaGreat.M
open Go Go.Mini
def IsCP (p : List UInt8) : Prop := p ≠ [] ∧ (pt p).2 = p.length
theorem conts_app : ∀ (k v : Nat) (r t : List UInt8) (x : Nat), conts v k r = some x → conts v k (r ++ t) = some x
  | 0, v, r, t, x, h => h
  | k + 1, v, [], t, x, h => by simp [conts] at h
  | k + 1, v, b :: r, t, x, h => by
    simp only [List.cons_append, conts] at h ⊢
    split at h
    · rename_i hb; rw [if_pos hb]; exact conts_app k _ r t x h
    · cases h
theorem ptN_app {v n least : Nat} {r t : List UInt8} (h : (ptN v n least r).2 ≠ 0) : ptN v n least (r ++ t) = ptN v n least r := by
  unfold ptN at h ⊢
  split at h
  · rename_i x hx; rw [conts_app _ _ _ t _ hx]
  · simp at h
theorem pt_app {r t : List UInt8} (h : (pt r).2 ≠ 0) : pt (r ++ t) = pt r := by
  cases r with
  | nil => simp [pt] at h
  | cons a r =>
    simp only [List.cons_append]
    rw [pt] at h
    rw [pt, pt]
    split at h
    · rename_i h1; rw [if_pos h1, if_pos h1]
    · rename_i h1; rw [if_neg h1, if_neg h1]
      split at h
      · rename_i h2; rw [if_pos h2, if_pos h2, ptN_app h]
      · rename_i h2; rw [if_neg h2, if_neg h2]
        split at h
        · rename_i h3; rw [if_pos h3, if_pos h3, ptN_app h]
        · rename_i h3; rw [if_neg h3, if_neg h3]
          split at h
          · rename_i h4; rw [if_pos h4, if_pos h4, ptN_app h]
          · simp at h
theorem IsCP.ne0 {p : List UInt8} (h : IsCP p) : (pt p).2 ≠ 0 := by
  rw [h.2]; exact fun e => h.1 (List.eq_nil_of_length_eq_zero e)
theorem take_cp {r : List UInt8} (h : (pt r).2 ≠ 0) : IsCP (r.take (pt r).2) := by
  have key : pt (r.take (pt r).2) = pt r := by
    rcases pt_shapes h with ⟨a, t, rfl, h1, e⟩ | ⟨a, b, t, x, rfl, h1, h2, h3, h4, h5, e⟩ | ⟨a, b, c, t, x, rfl, h1, h2, h3, h4, h5, h6, e⟩ | ⟨a, b, c, d, t, x, rfl, h1, h2, h3, h4, h5, h6, h7, e⟩
    · rw [e]; simp only [List.take_succ_cons, List.take_zero]; rw [pt, if_pos h1]
    · rw [e]; simp only [List.take_succ_cons, List.take_zero]
      have e' := e
      rw [pt] at e' ⊢
      rw [if_neg (by omega), if_pos h1] at e' ⊢
      rw [← e']
      simp only [ptN, conts]
    · rw [e]; simp only [List.take_succ_cons, List.take_zero]
      have e' := e
      rw [pt] at e' ⊢
      rw [if_neg (by omega), if_neg (by omega), if_pos h1] at e' ⊢
      rw [← e']
      simp only [ptN, conts]
    · rw [e]; simp only [List.take_succ_cons, List.take_zero]
      have e' := e
      rw [pt] at e' ⊢
      rw [if_neg (by omega), if_neg (by omega), if_neg (by omega), if_pos h1] at e' ⊢
      rw [← e']
      simp only [ptN, conts]
  have hle := pt_le r
  refine ⟨?_, by rw [key, List.length_take]; omega⟩
  intro e
  rw [e] at key
  rw [← key] at h
  simp [pt] at h
theorem pts_cp : ∀ (n : Nat) (s : List UInt8) (ps : List (List UInt8)), s.length ≤ n → pts s = some ps → s = ps.flatten ∧ ∀ p ∈ ps, IsCP p
  | 0, s, ps, h, hp => by
    have : s = [] := List.eq_nil_of_length_eq_zero (by omega)
    subst this; cases hp; simp
  | n + 1, s, ps, h, hp => by
    cases s with
    | nil => cases hp; simp
    | cons a r =>
      rw [pts_step (by simp)] at hp
      split at hp
      · cases hp
      · rename_i h0
        rw [Option.map_eq_some_iff] at hp
        obtain ⟨q, hq, rfl⟩ := hp
        obtain ⟨g1, g2⟩ := pts_cp n _ q (by rw [List.length_drop]; simp only [List.length_cons] at *; omega) hq
        refine ⟨?_, fun p hp => ?_⟩
        · rw [List.flatten_cons, ← g1, List.take_append_drop]
        · rcases List.mem_cons.1 hp with rfl | hp
          · exact take_cp h0
          · exact g2 p hp
theorem pts_app {p t : List UInt8} (h : IsCP p) : pts (p ++ t) = (pts t).map (p :: ·) := by
  rw [pts_step (by intro e; exact h.1 (List.append_eq_nil_iff.1 e).1), pt_app h.ne0, if_neg h.ne0, h.2, List.drop_left, List.take_left]
theorem pts_flat : ∀ {ps : List (List UInt8)}, (∀ p ∈ ps, IsCP p) → pts ps.flatten = some ps
  | [], _ => rfl
  | p :: ps, h => by
    rw [List.flatten_cons, pts_app (h p (by simp)), pts_flat fun q hq => h q (List.mem_cons_of_mem _ hq)]; rfl
theorem pts_one {p : List UInt8} (h : IsCP p) : pts p = some [p] := by
  have := pts_app (t := []) h
  rw [List.append_nil] at this
  rw [this]; rfl
theorem cp_len {p : List UInt8} (h : IsCP p) : 1 ≤ p.length ∧ p.length ≤ 4 := by
  have h0 := h.ne0
  have h2 := h.2
  rcases pt_shapes h0 with ⟨a, t, rfl, h1, e⟩ | ⟨a, b, t, x, rfl, _, _, _, _, _, e⟩ | ⟨a, b, c, t, x, rfl, _, _, _, _, _, _, e⟩ | ⟨a, b, c, d, t, x, rfl, _, _, _, _, _, _, _, e⟩ <;> (rw [e] at h2; simp only [List.length_cons] at h2 ⊢; omega)
theorem cp_bytes {p : List UInt8} (h : IsCP p) : ∀ (i : Nat) (b : UInt8), p[i]? = some b → (b.toNat / 64 = 2 ↔ i ≠ 0) := by
  have h0 := h.ne0
  have h2 := h.2
  rcases pt_shapes h0 with ⟨a, t, rfl, h1, e⟩ | ⟨a, b, t, x, rfl, q1, q2, _, _, _, e⟩ | ⟨a, b, c, t, x, rfl, q1, q2, q3, _, _, _, e⟩ | ⟨a, b, c, d, t, x, rfl, q1, q2, q3, q4, _, _, _, e⟩
  all_goals
    rw [e] at h2
    simp at h2
    subst h2
    intro i y hy
  · rcases i with _ | i
    · simp at hy; subst hy; simp; omega
    · simp at hy
  · rcases i with _ | _ | i
    · simp at hy; subst hy; simp; omega
    · simp at hy; subst hy; simp; omega
    · simp at hy
  · rcases i with _ | _ | _ | i
    · simp at hy; subst hy; simp; omega
    · simp at hy; subst hy; simp; omega
    · simp at hy; subst hy; simp; omega
    · simp at hy
  · rcases i with _ | _ | _ | _ | i
    · simp at hy; subst hy; simp; omega
    · simp at hy; subst hy; simp; omega
    · simp at hy; subst hy; simp; omega
    · simp at hy; subst hy; simp; omega
    · simp at hy
theorem valid_iff {s : List UInt8} : valid s = true ↔ ∃ ps : List (List UInt8), s = ps.flatten ∧ ∀ p ∈ ps, IsCP p := by
  constructor
  · intro h
    obtain ⟨ps, hp⟩ := Option.isSome_iff_exists.1 h
    exact ⟨ps, pts_cp _ s ps (Nat.le_refl _) hp⟩
  · rintro ⟨ps, rfl, h⟩
    simp only [valid, pts_flat h, Option.isSome_some]
theorem valid_flat {ps : List (List UInt8)} (h : ∀ p ∈ ps, IsCP p) : valid ps.flatten = true := valid_iff.2 ⟨ps, rfl, h⟩
theorem edge_flat {ps : List (List UInt8)} (h : ∀ p ∈ ps, IsCP p) (i : Int) : isEdge ps.flatten i = true ↔ ∃ j : Nat, j ≤ ps.length ∧ i = ((ps.take j).flatten.length : Nat) := by
  have key : ∀ (ps : List (List UInt8)), (∀ p ∈ ps, IsCP p) → ∀ n : Nat, n ≤ ps.flatten.length → ((n = ps.flatten.length ∨ ∃ b, ps.flatten[n]? = some b ∧ ¬ b.toNat / 64 = 2) ↔ ∃ j : Nat, j ≤ ps.length ∧ n = (ps.take j).flatten.length) := by
    intro ps
    induction ps with
    | nil => intro _ n hn; simp at hn; subst hn; simp
    | cons p ps ih =>
      intro h n hn
      have hp := h p (by simp)
      have hl := cp_len hp
      rw [List.flatten_cons, List.length_append] at hn
      rcases Nat.lt_or_ge n p.length with hlt | hge
      · constructor
        · rintro (e | ⟨b, hb, hb2⟩)
          · rw [List.flatten_cons, List.length_append] at e; omega
          · rw [List.flatten_cons, List.getElem?_append_left hlt] at hb
            have := cp_bytes hp n b hb
            have h0 : n = 0 := by
              rcases Nat.eq_zero_or_pos n with h | h
              · exact h
              · exact absurd (this.2 (by omega)) hb2
            exact ⟨0, Nat.zero_le _, by simp [h0]⟩
        · rintro ⟨j, hj, e⟩
          cases j with
          | zero =>
            simp at e; subst e
            have hg : p[0]? = some p[0] := List.getElem?_eq_getElem hlt
            refine .inr ⟨p[0], by rw [List.flatten_cons, List.getElem?_append_left hlt]; exact hg, fun hb => ?_⟩
            exact (cp_bytes hp 0 _ hg).1 hb rfl
          | succ j => rw [List.take_succ_cons, List.flatten_cons, List.length_append] at e; omega
      · obtain ⟨m, rfl⟩ : ∃ m, n = p.length + m := ⟨n - p.length, by omega⟩
        have hi := ih (fun q hq => h q (List.mem_cons_of_mem _ hq)) m (by omega)
        have e1 : (p.length + m = (p :: ps).flatten.length ∨ ∃ b, (p :: ps).flatten[p.length + m]? = some b ∧ ¬ b.toNat / 64 = 2) ↔ (m = ps.flatten.length ∨ ∃ b, ps.flatten[m]? = some b ∧ ¬ b.toNat / 64 = 2) := by
          rw [List.flatten_cons, List.length_append, List.getElem?_append_right (by omega), Nat.add_sub_cancel_left]
          constructor
          · rintro (h | h)
            · exact .inl (by omega)
            · exact .inr h
          · rintro (h | h)
            · exact .inl (by omega)
            · exact .inr h
        rw [e1, hi]
        constructor
        · rintro ⟨j, hj, e⟩
          exact ⟨j + 1, by simp only [List.length_cons]; omega, by rw [List.take_succ_cons, List.flatten_cons, List.length_append, e]⟩
        · rintro ⟨j, hj, e⟩
          cases j with
          | zero => rw [List.take_zero] at e; simp only [List.flatten_nil, List.length_nil] at e; omega
          | succ j =>
            rw [List.take_succ_cons, List.flatten_cons, List.length_append] at e
            exact ⟨j, by simp only [List.length_cons] at hj; omega, by omega⟩
  have hv := valid_flat h
  constructor
  · intro he
    simp only [isEdge, hv, Bool.and_true, Bool.and_eq_true, decide_eq_true_eq, Bool.or_eq_true] at he
    obtain ⟨⟨h1, h2⟩, h3⟩ := he
    have : ∃ j : Nat, j ≤ ps.length ∧ i.toNat = (ps.take j).flatten.length := by
      refine (key ps h i.toNat (by omega)).1 ?_
      rcases h3 with h3 | h3
      · exact .inl (by omega)
      · right
        split at h3
        · rename_i b hb; exact ⟨b, hb, by simpa using h3⟩
        · cases h3
    obtain ⟨j, hj, e⟩ := this
    exact ⟨j, hj, by omega⟩
  · rintro ⟨j, hj, rfl⟩
    have hle : (ps.take j).flatten.length ≤ ps.flatten.length := by
      have := congrArg List.length (show (ps.take j).flatten ++ (ps.drop j).flatten = ps.flatten by rw [← List.flatten_append, List.take_append_drop])
      rw [List.length_append] at this; omega
    simp only [isEdge, hv, Bool.and_true, Bool.and_eq_true, decide_eq_true_eq, Bool.or_eq_true]
    refine ⟨⟨by omega, by omega⟩, ?_⟩
    rcases (key ps h (ps.take j).flatten.length hle).2 ⟨j, hj, rfl⟩ with e | ⟨b, hb, hb2⟩
    · exact .inl (by omega)
    · right
      rw [Int.toNat_natCast, hb]
      simpa using hb2
structure Eng where
  l : List Atom
  R : Revs
def Eng.new : Eng := ⟨[], Revs.new⟩
structure Eng.Ok (E : Eng) : Prop where
  len : E.l.length ≤ 4000
  txt : ∀ a ∈ E.l, IsCP a.text
  cuts : ∀ a ∈ E.l, a.cuts.length ≤ E.R.head
theorem Eng.new_ok : Eng.new.Ok := ⟨by simp [Eng.new], by simp [Eng.new], by simp [Eng.new]⟩
def Eng.text (E : Eng) (rev : Int) : List UInt8 := atomsText rev (E.R.undone rev) E.l
def editE (E : Eng) (base group rank : Int) (cs : List Chg) : Eng × Int × Int :=
  if E.R.live base = false then (E, 0, 190) else
  if check (E.text base) cs ≠ 0 then (E, 0, check (E.text base) cs) else
  if (addR E.R group).2.2 ≠ 0 then (E, 0, (addR E.R group).2.2) else
  if rank < 0 ∨ 1000000 < rank then (E, 0, 10) else
  if 4000 < (upon E.l base (E.R.undone base) cs (addR E.R group).2.1 group rank).length then (E, 0, 70) else
  if 20000 < (Eng.text ⟨upon E.l base (E.R.undone base) cs (addR E.R group).2.1 group rank, (addR E.R group).1⟩ (addR E.R group).1.head).length then (E, 0, 13) else
  (⟨upon E.l base (E.R.undone base) cs (addR E.R group).2.1 group rank, (addR E.R group).1⟩, (addR E.R group).2.1, 0)
def toggleE (E : Eng) (g : Int) : Eng × Int × Int :=
  if (toggleR E.R g).2.2 ≠ 0 then (E, 0, (toggleR E.R g).2.2) else
  if 20000 < (Eng.text ⟨E.l, (toggleR E.R g).1⟩ (toggleR E.R g).1.head).length then (E, 0, 13) else
  (⟨E.l, (toggleR E.R g).1⟩, (toggleR E.R g).2.1, 0)
theorem fits_of {l : List Atom} {n : Nat} (h1 : l.length ≤ 4000) (h2 : ∀ a ∈ l, IsCP a.text) (h3 : ∀ a ∈ l, a.cuts.length ≤ n) (hn : n ≤ 1000000) : Fits l := by
  refine ⟨by omega, fun a ha => by have := h3 a ha; omega, ?_⟩
  have : (l.map fun a => a.text.length).sum ≤ l.length * 4 := by
    clear h1 h3
    induction l with
    | nil => simp
    | cons a l ih =>
      have h4 := (cp_len (h2 a (by simp))).2
      have := ih fun b hb => h2 b (List.mem_cons_of_mem _ hb)
      simp only [List.map_cons, List.sum_cons, List.length_cons]; omega
  unfold maxRoom; omega
theorem atomsText_le {l : List Atom} (rev : Int) (u : List Int) (h2 : ∀ a ∈ l, IsCP a.text) : (atomsText rev u l).length ≤ l.length * 4 := by
  induction l with
  | nil => simp [atomsText]
  | cons a l ih =>
    have h4 := (cp_len (h2 a (by simp))).2
    have := ih fun b hb => h2 b (List.mem_cons_of_mem _ hb)
    simp only [atomsText, List.length_append, List.length_cons]
    split <;> (try simp only [List.length_nil]) <;> omega
theorem mem_marked {ct : List Int} {c : Cut} {x : Atom} : ∀ {l : List Atom} {i : Nat}, x ∈ marked ct c l i → ∃ a ∈ l, x = a ∨ x = { a with cuts := a.cuts ++ [c] }
  | [], i, h => by simp [marked] at h
  | a :: l, i, h => by
    simp only [marked, List.mem_cons] at h
    rcases h with h | h
    · refine ⟨a, by simp, ?_⟩
      split at h
      · exact .inr h
      · exact .inl h
    · obtain ⟨b, hb, h⟩ := mem_marked h
      exact ⟨b, List.mem_cons_of_mem _ hb, h⟩
theorem mem_merged {new : List UInt8 → List Atom} {mk : List Atom} {x : Atom} : ∀ {r : List (Nat × List UInt8)} {at' : Nat}, x ∈ merged new mk r at' → x ∈ mk ∨ ∃ kt ∈ r, x ∈ new kt.2
  | [], at', h => .inl (List.mem_of_mem_drop (by simpa [merged] using h))
  | (k, t) :: r, at', h => by
    rw [merged_cons, List.mem_append, List.mem_append] at h
    rcases h with (h | h) | h
    · exact .inl (List.mem_of_mem_take (List.mem_of_mem_drop h))
    · exact .inr ⟨(k, t), by simp, h⟩
    · rcases mem_merged h with h | ⟨kt, hk, h⟩
      · exact .inl h
      · exact .inr ⟨kt, List.mem_cons_of_mem _ hk, h⟩
theorem mem_upon {l : List Atom} {rev : Int} {u : List Int} {cs : List Chg} {rev' group rank : Int} {x : Atom} (h : x ∈ upon l rev u cs rev' group rank) :
    (∃ a ∈ l, x = a ∨ x = { a with cuts := a.cuts ++ [⟨rev', group⟩] }) ∨ (∃ b, IsCP b ∧ x = ⟨b, rev', group, rank, []⟩) := by
  unfold upon at h
  split at h
  · rename_i h0
    rcases mem_merged h with h | ⟨kt, hk, h⟩
    · exact .inl (mem_marked h)
    · right
      simp only [newAtoms, List.mem_map] at h
      obtain ⟨b, hb, rfl⟩ := h
      refine ⟨b, ?_, rfl⟩
      cases hp : pts kt.2 with
      | none => rw [ptsOf, hp] at hb; cases hb
      | some ps => rw [ptsOf, hp] at hb; exact (pts_cp _ _ ps (Nat.le_refl _) hp).2 b hb
  · exact .inl ⟨x, h, .inl rfl⟩
theorem addR_ok {R : Revs} {g : Int} (h : (addR R g).2.2 = 0) (ho : R.Ok) : g ∉ R.gone ∧ 0 ≤ g ∧ g < 60 ∧ R.head < 200 ∧ addR R g = ({ R.push R.top with grp := insS g R.grp }, (R.head : Int) + 1, 0) ∧ (addR R g).1.head = R.head + 1 := by
  have hl := List.length_pos_iff.2 ho.one
  by_cases h1 : g ∈ R.gone ∨ g < 0 ∨ 60 ≤ g
  · rw [add_bad h1] at h; cases h
  · by_cases h2 : 200 ≤ R.head
    · rw [add_many (fun hg => h1 (.inl hg)) (by omega) (by omega) h2] at h; cases h
    · have e := add_good (R := R) (g := g) (fun hg => h1 (.inl hg)) (by omega) (by omega) (by omega)
      refine ⟨fun hg => h1 (.inl hg), by omega, by omega, by omega, e, ?_⟩
      rw [e]; simp only [Revs.head, Revs.push, List.length_append, List.length_cons, List.length_nil]; omega
theorem toggleR_ok {R : Revs} {g : Int} (h : (toggleR R g).2.2 = 0) (ho : R.Ok) : g ∈ R.grp ∧ R.head < 200 ∧ toggleR R g = (R.push (flip g R.top), (R.head : Int) + 1, 0) ∧ (toggleR R g).1.head = R.head + 1 := by
  have hl := List.length_pos_iff.2 ho.one
  by_cases h1 : g ∈ R.grp
  · by_cases h2 : 200 ≤ R.head
    · simp only [toggleR, if_neg (show ¬ g ∉ R.grp from fun h => h h1), if_pos h2] at h; cases h
    · have e := toggle_of h1 (show R.head < 200 by omega)
      refine ⟨h1, by omega, e, ?_⟩
      rw [e]; simp only [Revs.head, Revs.push, List.length_append, List.length_cons, List.length_nil]; omega
  · rw [toggle_bad h1] at h; cases h
theorem head_le {R : Revs} (h : R.Ok) : R.head ≤ 200 := by have := h.few; simp only [Revs.head]; omega
theorem Eng.Ok.fits {E : Eng} (h : E.Ok) (hR : E.R.Ok) : Fits E.l := fits_of h.len h.txt h.cuts (by have := head_le hR; omega)
theorem upon_facts {E : Eng} (h : E.Ok) {base group rank now : Int} {cs : List Chg} {u : List Int} : (∀ a ∈ upon E.l base u cs now group rank, IsCP a.text) ∧ ∀ a ∈ upon E.l base u cs now group rank, a.cuts.length ≤ E.R.head + 1 := by
  constructor <;> intro a ha <;> rcases mem_upon ha with ⟨b, hb, rfl | rfl⟩ | ⟨b, hb, rfl⟩
  · exact h.txt a hb
  · exact h.txt b hb
  · exact hb
  · have := h.cuts a hb; omega
  · have := h.cuts b hb; simp only [List.length_append, List.length_cons, List.length_nil]; omega
  · simp
theorem editE_ok {E : Eng} (h : E.Ok) (hR : E.R.Ok) (base group rank : Int) (cs : List Chg) : (editE E base group rank cs).1.Ok := by
  unfold editE
  split
  · exact h
  split
  · exact h
  split
  · exact h
  rename_i h3
  split
  · exact h
  split
  · exact h
  rename_i h5
  split
  · exact h
  have h3' : (addR E.R group).2.2 = 0 := by simpa using h3
  obtain ⟨_, _, _, _, e1, e2⟩ := addR_ok h3' hR
  obtain ⟨f1, f2⟩ := upon_facts h (base := base) (group := group) (rank := rank) (now := (addR E.R group).2.1) (cs := cs) (u := E.R.undone base)
  exact ⟨by simp only; omega, f1, fun a ha => by simp only [e2]; exact f2 a ha⟩
theorem toggleE_ok {E : Eng} (h : E.Ok) (hR : E.R.Ok) (g : Int) : (toggleE E g).1.Ok := by
  unfold toggleE
  split
  · exact h
  split
  · exact h
  rename_i h3 _
  have h3' : (toggleR E.R g).2.2 = 0 := by simpa using h3
  obtain ⟨_, _, e1, e2⟩ := toggleR_ok h3' hR
  exact ⟨h.len, h.txt, fun a ha => by have := h.cuts a ha; simp only [e2]; omega⟩
end Go.Proofs.YtkjikdohnomajaaGreat.M
namespace Go.Proofs.YtkjikdohnomajaaGreat.M
open Go Go.Mini
attribute [local congr] go1_congr goM_congr goG_congr goV_congr drawwp_congr Xwp_congr
def AtomLst (x : AVal) (l : List Atom) : Prop := x = eAtoms l ∨ (x = .nils ∧ l = [])
theorem AtomLst.sees {x : AVal} {l : List Atom} (h : AtomLst x l) (σ : Heap) : Sees σ x σ (eAtoms l) := by
  rcases h with rfl | ⟨rfl, rfl⟩
  · exact Sees.refl _ _
  · exact Sees.nils σ 5
theorem AtomLst.cells {x : AVal} {l : List Atom} (h : AtomLst x l) : x.cells = [x] ∧ x.isCell = true ∧ x.isRaw = false := by
  rcases h with rfl | ⟨rfl, rfl⟩ <;> exact ⟨rfl, rfl, rfl⟩
theorem SeesL.same (σ : Heap) : ∀ l : List AVal, SeesL σ l σ l
  | [] => .nil _
  | a :: l => .cons (Sees.refl _ _) (SeesL.same σ l)
theorem AtomLst.call {x : AVal} {l : List Atom} (h : AtomLst x l) {f : FuncId} {args : List AVal} {σ τ : Heap} {v : AVal} (hc : ACall Tryz.prog f (eAtoms l :: args) σ v τ) : ACall Tryz.prog f (x :: args) σ v τ := by
  rcases h with rfl | ⟨rfl, rfl⟩
  · exact hc
  · intro φ w vs hvs hr o a next Q hn
    obtain ⟨φ1, h1, h2, h3⟩ := SeesL.cons (Sees.nils σ 5) (SeesL.same σ args) φ w vs hvs hr
    exact hc φ1 w vs h2 h3 o a next Q fun φ' v' w' g1 g2 g3 => hn φ' v' w' (Phi.le_trans h1 g1) g2 g3
structure EngAt (σ : Heap) (k : Nat) (E : Eng) (x : AVal) (kr : Nat) (fpr : List Nat) : Prop where
  blk : σ.get k = some (.cells [x, .ptr (.new kr) 0] none)
  lst : AtomLst x E.l
  revs : IsRevs σ kr E.R fpr
  out : k ∉ fpr
  low : k < σ.next
  ok : E.Ok
def IsEng (σ : Heap) (k : Nat) (E : Eng) (fp : List Nat) : Prop := ∃ x kr fpr, EngAt σ k E x kr fpr ∧ fp = k :: fpr
theorem EngAt.keep {σ τ : Heap} {k : Nat} {E : Eng} {x : AVal} {kr : Nat} {fpr fp' : List Nat} (h : EngAt σ k E x kr fpr) (hk : Keep fp' σ τ) (hd : ∀ y ∈ k :: fpr, y ∉ fp') : EngAt τ k E x kr fpr where
  blk := by rw [hk.2.2.2 k h.low (hd k (by simp))]; exact h.blk
  lst := h.lst
  revs := h.revs.keep hk fun y hy => hd y (List.mem_cons_of_mem _ hy)
  out := h.out
  low := Nat.lt_of_lt_of_le h.low hk.2.2.1
  ok := h.ok
theorem IsEng.keep {σ τ : Heap} {k : Nat} {E : Eng} {fp fp' : List Nat} (h : IsEng σ k E fp) (hk : Keep fp' σ τ) (hd : ∀ y ∈ fp, y ∉ fp') : IsEng τ k E fp := by
  obtain ⟨x, kr, fpr, h, rfl⟩ := h
  exact ⟨x, kr, fpr, h.keep hk hd, rfl⟩
theorem IsEng.low {σ : Heap} {k : Nat} {E : Eng} {fp : List Nat} (h : IsEng σ k E fp) : ∀ x ∈ fp, x < σ.next := by
  obtain ⟨x, kr, fpr, h, rfl⟩ := h
  intro y hy
  rcases List.mem_cons.1 hy with rfl | hy
  · exact h.low
  · exact h.revs.low y hy
theorem IsEng.ok {σ : Heap} {k : Nat} {E : Eng} {fp : List Nat} (h : IsEng σ k E fp) : E.Ok ∧ E.R.Ok := by
  obtain ⟨x, kr, fpr, h, rfl⟩ := h
  exact ⟨h.ok, h.revs.ok⟩
theorem undone_rise {R : Revs} (h : R.Ok) (n : Int) : Rise (R.undone n) := by
  unfold Revs.undone
  split
  · unfold Revs.at
    cases he : R.und[(n - R.floor).toNat]? with
    | none => exact Rise.nil
    | some s => exact h.rise s (List.mem_of_getElem? he)
  · exact Rise.nil
theorem undone_few {R : Revs} (h : R.Ok) (n : Int) : (R.undone n).length ≤ 1000000 := by have := rise_len (undone_rise h n); omega
section
variable {σ : Heap} {k : Nat} {E : Eng} {fp : List Nat} {x : AVal} {kr : Nat} {fpr : List Nat}
theorem EngAt.head (h : EngAt σ k E x kr fpr) : ACall Tryz.prog n_engine_Engine_Head [.ptr (.new k) 0] σ (.int .i64 (E.R.head : Nat)) σ := by
  refine exact_call (spec_of_awp mixed c_engine_Engine_Head (tl rfl) ?_)
  unfold f_engine_Engine_Head
  have hk := h.blk
  simp +decide only [↓evd, evw, evz, reduceCtorEq, ↓reduceIte, hk]
  refine MSpec.of (head_at h.revs) ?_
  simp +decide only [↓evd, evw, evz, reduceCtorEq, ↓reduceIte]
theorem EngAt.live (h : EngAt σ k E x kr fpr) (n : Int) : ACall Tryz.prog n_engine_Engine_Live [.ptr (.new k) 0, .int .i64 n] σ (.bool (E.R.live n)) σ := by
  refine exact_call (spec_of_awp mixed c_engine_Engine_Live (tl rfl) ?_)
  unfold f_engine_Engine_Live
  have hk := h.blk
  simp +decide only [↓evd, evw, evz, reduceCtorEq, ↓reduceIte, hk]
  refine MSpec.of (live_at h.revs n) ?_
  simp +decide only [↓evd, evw, evz, reduceCtorEq, ↓reduceIte]
theorem EngAt.undoneAt (h : EngAt σ k E x kr fpr) (n : Int) : ACall Tryz.prog n_engine_Engine_UndoneAt [.ptr (.new k) 0, .int .i64 n] σ (ints (E.R.undone n)) σ := by
  refine exact_call (spec_of_awp mixed c_engine_Engine_UndoneAt (tl rfl) ?_)
  unfold f_engine_Engine_UndoneAt
  have hk := h.blk
  simp +decide only [↓evd, evw, evz, reduceCtorEq, ↓reduceIte, hk]
  refine MSpec.of (undone_at h.revs n) ?_
  simp +decide only [↓evd, evw, evz, reduceCtorEq, ↓reduceIte]
theorem EngAt.undone (h : EngAt σ k E x kr fpr) : ACall Tryz.prog n_engine_Engine_Undone [.ptr (.new k) 0] σ (ints (E.R.undone (E.R.head : Nat))) σ := by
  refine exact_call (spec_of_awp mixed c_engine_Engine_Undone (tl rfl) ?_)
  unfold f_engine_Engine_Undone
  have hk := h.blk
  simp +decide only [↓evd, evw, evz, reduceCtorEq, ↓reduceIte]
  with_reducible refine draw_of_grow (fun _ => True) (ms := [false, false, false, false, false, false, false, false]) (by kernel_rfl) ?_
  simp +decide only [↓evd, evw, evz, reduceCtorEq, ↓reduceIte, hk]
  refine MSpec.of h.head ⟨.inr Keeps.rfl, ?_⟩
  simp +decide only [↓evd, evw, evz, reduceCtorEq, ↓reduceIte, hk]
  refine MSpec.of (undone_at h.revs (E.R.head : Nat)) ⟨.inr Keeps.rfl, ?_⟩
  simp +decide only [↓evd, evw, evz, reduceCtorEq, ↓reduceIte]
theorem EngAt.groups (h : EngAt σ k E x kr fpr) : ACall Tryz.prog n_engine_Engine_Groups [.ptr (.new k) 0] σ (ints E.R.grp) σ := by
  refine exact_call (spec_of_awp mixed c_engine_Engine_Groups (tl rfl) ?_)
  unfold f_engine_Engine_Groups
  have hk := h.blk
  simp +decide only [↓evd, evw, evz, reduceCtorEq, ↓reduceIte, hk]
  refine MSpec.of (groups_at h.revs) ?_
  simp +decide only [↓evd, evw, evz, reduceCtorEq, ↓reduceIte]
def textV (E : Eng) (n : Int) : AVal := if E.R.live n then .tup [.str (E.text n), .int .i64 0] else .tup [.str [], .int .i64 190]
theorem EngAt.text (h : EngAt σ k E x kr fpr) (n : Int) : ACall Tryz.prog n_engine_Engine_Text [.ptr (.new k) 0, .int .i64 n] σ (textV E n) σ := by
  refine exact_call (spec_of_awp mixed c_engine_Engine_Text (tl rfl) ?_)
  unfold f_engine_Engine_Text
  have hk := h.blk
  have hf := h.ok.fits h.revs.ok
  have hc := h.lst.call (text_call σ E.l n (E.R.undone n) (undone_few h.revs.ok n) hf)
  have hr := h.lst.cells.2.2
  have hu := h.undoneAt n
  simp only [ints] at hc hu
  simp +decide only [↓evd, evw, evz, reduceCtorEq, ↓reduceIte]
  refine MSpec.of (h.live n) ?_
  cases hl : E.R.live n with
  | false =>
    simp +decide only [↓evd, evw, evz, reduceCtorEq, ↓reduceIte, textV, hl]
  | true =>
    simp +decide only [↓evd, evw, evz, reduceCtorEq, ↓reduceIte]
    with_reducible refine draw_of_grow (fun _ => True) (ms := [false, false, false, false, false, false, false, false, false, false, false]) (by kernel_rfl) ?_
    simp +decide only [↓evd, evw, evz, reduceCtorEq, ↓reduceIte, hk, hr]
    refine MSpec.of hu ⟨.inr Keeps.rfl, ?_⟩
    simp +decide only [↓evd, evw, evz, reduceCtorEq, ↓reduceIte]
    refine MSpec.of hc ⟨.inr Keeps.rfl, ?_⟩
    simp +decide only [↓evd, evw, evz, reduceCtorEq, ↓reduceIte, textV, hl, Eng.text]
theorem Eng.live_head {E : Eng} (h : E.R.Ok) : E.R.live (E.R.head : Nat) = true := h.top.2.2
theorem EngAt.fitsC (h : EngAt σ k E x kr fpr) : ACall Tryz.prog n_engine_Engine_fits [.ptr (.new k) 0] σ (.bool (decide (((E.text (E.R.head : Nat)).length : Int) ≤ 20000))) σ := by
  refine exact_call (spec_of_awp mixed c_engine_Engine_fits (tl rfl) ?_)
  unfold f_engine_Engine_fits
  have hl := Eng.live_head h.revs.ok
  have ht := h.text (E.R.head : Nat)
  rw [textV, if_pos hl] at ht
  simp +decide only [↓evd, evw, evz, reduceCtorEq, ↓reduceIte]
  refine MSpec.of h.head ?_
  simp +decide only [↓evd, evw, evz, reduceCtorEq, ↓reduceIte]
  refine MSpec.of ht ?_
  simp +decide only [↓evd, evw, evz, reduceCtorEq, ↓reduceIte]
end
theorem enew_at (σ : Heap) (hd : σ.F0.dr = false) : MSpec Tryz.prog n_engine_New [] σ fun v τ => ∃ k fp, v = .ptr (.new k) 0 ∧ IsEng τ k Eng.new fp ∧ (∀ x ∈ fp, σ.next ≤ x) ∧ Keep [] σ τ := by
  refine spec_of_awp mixed c_engine_New (tl rfl) ?_
  unfold f_engine_New
  simp +decide only [↓evd, evw, evz, reduceCtorEq, ↓reduceIte]
  refine (new_at σ hd).mono ?_
  rintro v τ ⟨rfl, ⟨fp, hR, hf⟩, hk⟩
  simp +decide only [↓evd, evw, evz, reduceCtorEq, ↓reduceIte]
  have hkn : Keep [] τ (τ.new (.cells [.nils, .ptr (.new (σ.next + 4)) 0] none)) := (Keep.refl [] τ).new _
  refine ⟨_, _, rfl, ⟨.nils, σ.next + 4, fp, ⟨by rw [Heap.get_new, if_pos rfl], .inr ⟨rfl, rfl⟩, hR.keep hkn (fun x _ => by simp), fun hm => by have := hR.low _ hm; omega, by simp, Eng.new_ok⟩, rfl⟩, ?_, hk.trans hkn (fun x hx => nomatch hx)⟩
  intro y hy
  rcases List.mem_cons.1 hy with rfl | hy
  · exact hk.2.2.1
  · exact hf y hy
theorem ecopy_at {σ : Heap} {k : Nat} {E : Eng} {fp : List Nat} (h : IsEng σ k E fp) : MSpec Tryz.prog n_engine_Engine_Copy [.ptr (.new k) 0] σ fun v τ => ∃ k' kr' fpr', v = .ptr (.new k') 0 ∧ EngAt τ k' E (eAtoms E.l) kr' fpr' ∧ (∀ x ∈ k' :: fpr', σ.next ≤ x) ∧ Keep [] σ τ := by
  obtain ⟨x, kr, fpr, h, rfl⟩ := h
  refine spec_of_awp mixed c_engine_Engine_Copy (tl rfl) ?_
  unfold f_engine_Engine_Copy
  have hk := h.blk
  have hkl := h.low
  have hf := h.ok.fits h.revs.ok
  have hc := h.lst.call (copy_call σ E.l hf.1 hf.2.1)
  have hr := h.lst.cells.2.2
  simp only [eAtoms] at hc
  simp +decide only [↓evd, evw, evz, reduceCtorEq, ↓reduceIte]
  with_reducible refine draw_of_grow (fun q => q < σ.next) (ms := [false, false, false, false, false, false, false, false, false, false, false, false, false]) (by kernel_rfl) ?_
  simp +decide only [↓evd, evw, evz, reduceCtorEq, ↓reduceIte, hk, hkl, hr]
  refine MSpec.of hc ⟨.inr Keeps.rfl, ?_⟩
  simp +decide only [↓evd, evw, evz, reduceCtorEq, ↓reduceIte, hk, hkl, hr]
  refine (copy_at h.revs).mono ?_
  rintro v τ ⟨rfl, ⟨fpr', hR, hf'⟩, hkk⟩
  refine ⟨.inr ⟨hkk.1, fun q hq => hkk.2.2.2 q hq (by simp)⟩, ?_⟩
  simp +decide only [↓evd, evw, evz, reduceCtorEq, ↓reduceIte]
  have hn := hkk.2.2.1
  refine ⟨.inr (keeps_new (fun q hq => by omega) _), ?_⟩
  simp +decide only [↓evd, evw, evz, reduceCtorEq, ↓reduceIte]
  have hkn : Keep [] τ (τ.new (.cells [eAtoms E.l, .ptr (.new (σ.next + 2)) 0] none)) := (Keep.refl [] τ).new _
  refine ⟨_, _, fpr', rfl, ⟨by rw [Heap.get_new, if_pos rfl], .inl rfl, hR.keep hkn (fun x _ => by simp), fun hm => by have := hR.low _ hm; omega, by simp, h.ok⟩, ?_, hkk.trans hkn (fun x hx => nomatch hx)⟩
  intro y hy
  rcases List.mem_cons.1 hy with rfl | hy
  · exact hn
  · exact hf' y hy
section
variable {σ : Heap} {k : Nat} {E : Eng} {fp : List Nat}
theorem IsEng.took {τ : Heap} {kr' : Nat} {E' : Eng} {x : AVal} {fpr' : List Nat} (hk : k < τ.next) (hlow : ∀ y ∈ fpr', y < τ.next) (hx : AtomLst x E'.l) (hR : IsRevs τ kr' E'.R fpr') (hkf : k ∉ fpr') (hok : E'.Ok) :
    IsEng (τ.set k (.cells [x, .ptr (.new kr') 0] none)) k E' (k :: fpr') := by
  have hkn : Keep [k] τ (τ.set k (.cells [x, .ptr (.new kr') 0] none)) := (Keep.refl _ _).set (.inl (by simp)) _
  exact ⟨x, kr', fpr', ⟨by rw [Heap.get_set, if_pos rfl], hx, hR.keep hkn (fun y hy hm => by simp at hm; subst hm; exact hkf hy), hkf, by simpa using hk, hok⟩, rfl⟩
set_option maxHeartbeats 2000000 in
theorem etoggle_at {E' : Eng} {n c : Int} (h : IsEng σ k E fp) {g : Int} (e : toggleE E g = (E', n, c)) : MSpec Tryz.prog n_engine_Engine_Toggle [.ptr (.new k) 0, .int .i64 g] σ fun v τ => v = .tup [.int .i64 n, .int .i64 c] ∧ ∃ fp', IsEng τ k E' fp' ∧ Keep fp σ τ ∧ Fresh fp σ fp' := by
  refine spec_of_awp mixed c_engine_Engine_Toggle (tl rfl) ?_
  unfold f_engine_Engine_Toggle
  have hlow := h.low
  have hok := h.ok
  obtain ⟨x0, kr0, fpr0, h0, rfl⟩ := id h
  simp +decide only [↓evd, evw, evz, reduceCtorEq, ↓reduceIte]
  refine (ecopy_at h).mono ?_
  rintro v τ ⟨k', kr', fpr', rfl, hC, hf', hK⟩
  have hb := hC.blk
  have hE := h.keep hK (fun y _ => by simp)
  rcases ht : toggleR E.R g with ⟨R', n', c'⟩
  simp +decide only [↓evd, evw, evz, reduceCtorEq, ↓reduceIte, hb]
  refine (toggle_at hC.revs ht).mono ?_
  rintro v τ1 ⟨rfl, fpr1, hR1, hK1, hF1⟩
  have hE1 := hE.keep hK1 (fun y hy hm => by have := hlow y hy; have := hf' y (List.mem_cons_of_mem _ hm); omega)
  have hKn := hK.2.2.1
  have hKn1 := hK1.2.2.1
  have hkk := hf' k' (by simp)
  have hb1 : τ1.get k' = some (.cells [eAtoms E.l, .ptr (.new kr') 0] none) := by rw [hK1.2.2.2 k' hC.low hC.out]; exact hb
  have hkp : Keep (k :: fpr0) σ τ1 := (hK.mono (fun x hx => nomatch hx)).trans hK1 (fun x hx => .inr (hf' x (List.mem_cons_of_mem _ hx)))
  by_cases hc : c' = 0
  case neg =>
    have hb : (c' != 0) = true := by simpa using hc
    have : toggleE E g = (E, 0, c') := by rw [toggleE, ht, if_pos hc]
    rw [this] at e; cases e
    simp +decide only [↓evd, evw, evz, reduceCtorEq, ↓reduceIte, hb]
    exact ⟨k :: fpr0, hE1, hkp, fun x hx => .inl hx⟩
  subst hc
  have hcb : ((0 : Int) != 0) = false := rfl
  obtain ⟨_, _, t1, t2⟩ := toggleR_ok (R := E.R) (g := g) (by rw [ht]) hok.2
  rw [ht] at t2
  simp only at t2
  have hok2 : Eng.Ok ⟨E.l, R'⟩ := ⟨hok.1.len, hok.1.txt, fun a ha => by have := hok.1.cuts a ha; simp only [t2]; omega⟩
  have hN : EngAt τ1 k' ⟨E.l, R'⟩ (eAtoms E.l) kr' fpr1 := ⟨hb1, .inl rfl, hR1, fun hm => by
    rcases hF1 k' hm with h1 | h1
    · exact hC.out h1
    · have := hC.low; omega, Nat.lt_of_lt_of_le hC.low hKn1, hok2⟩
  have hfit := hN.fitsC
  have hf1 : ∀ y ∈ fpr1, σ.next ≤ y := fun y hy => by
    rcases hF1 y hy with h1 | h1
    · exact hf' y (List.mem_cons_of_mem _ h1)
    · omega
  simp +decide only [↓evd, evw, evz, reduceCtorEq, ↓reduceIte, hcb]
  refine MSpec.of hfit ?_
  by_cases hl : ((Eng.text ⟨E.l, R'⟩ (R'.head : Nat)).length : Int) ≤ 20000
  · have : toggleE E g = (⟨E.l, R'⟩, n', 0) := by rw [toggleE, ht, if_neg (by simp), if_neg (by simp only; omega)]
    rw [this] at e; cases e
    have hk0 := h0.low
    have hle : k < τ1.next := by omega
    obtain ⟨y, kry, fpry, hy, hye⟩ := id hE1
    have hby := hy.blk
    simp +decide only [↓evd, evw, evz, reduceCtorEq, ↓reduceIte, decide_eq_true hl, hb1, hby]
    refine ⟨k :: fpr1, IsEng.took hle hR1.low (.inl rfl) hR1 (fun hm => by have := hf1 k hm; omega) hok2, hkp.set (.inl (by simp)) _, fun x hx => ?_⟩
    rcases List.mem_cons.1 hx with rfl | hx
    · exact .inl (by simp)
    · exact .inr (hf1 x hx)
  · have : toggleE E g = (E, 0, 13) := by rw [toggleE, ht, if_neg (by simp), if_pos (by simp only; omega)]
    rw [this] at e; cases e
    simp +decide only [↓evd, evw, evz, reduceCtorEq, ↓reduceIte, decide_eq_false hl]
    exact ⟨k :: fpr0, hE1, hkp, fun x hx => .inl hx⟩
end
section
variable {σ : Heap} {k : Nat} {E : Eng} {fp : List Nat}
theorem upon_few {l : List Atom} (hl : l.length ≤ 4000) (rev : Int) (u : List Int) {cs : List Chg} (hcl : cs.length ≤ 1000) (hc : ∀ c ∈ cs, c.text.length ≤ 1000000) (rev' group rank : Int) : (upon l rev u cs rev' group rank).length ≤ 100000000000 := by
  unfold upon
  split
  case isFalse => omega
  rename_i h0
  have hml : (marked (cuts l rev u cs) ⟨rev', group⟩ l 0).length ≤ 4000 := by rw [marked_len]; exact hl
  generalize marked (cuts l rev u cs) ⟨rev', group⟩ l 0 = mk at hml
  have key : ∀ (r : List (Nat × List UInt8)) (at' : Nat), (∀ kt ∈ r, kt.2.length ≤ 1000000) → (merged (fun t => newAtoms rev' group rank (ptsOf t)) mk r at').length ≤ 4000 + r.length * 1004000 := by
    intro r
    induction r with
    | nil => intro at' _; simp only [merged, List.length_drop]; omega
    | cons kt r ih =>
      intro at' hk
      obtain ⟨q, t⟩ := kt
      have h1 := ih q fun z hz => hk z (List.mem_cons_of_mem _ hz)
      have h2 := hk (q, t) (by simp)
      have h3 : (newAtoms rev' group rank (ptsOf t)).length ≤ t.length := by
        simp only [newAtoms, List.length_map, ptsOf]
        cases hp : pts t with
        | none => simp
        | some ps => exact pts_len _ t ps (Nat.le_refl _) hp
      simp only [merged_cons, List.length_append, List.length_drop, List.length_take, List.length_cons]
      simp only at h2
      omega
  have h2 := key ((spotsN l rev u cs rank).zip (cs.map Chg.text)) 0 (by
    rintro ⟨q, t⟩ hz
    have := (List.of_mem_zip hz).2
    rw [List.mem_map] at this
    obtain ⟨c, hcm, rfl⟩ := this
    exact hc c hcm)
  have h3 : ((spotsN l rev u cs rank).zip (cs.map Chg.text)).length ≤ 1000 := by rw [List.length_zip]; simp; omega
  omega
set_option maxHeartbeats 4000000 in
theorem eedit_at {E' : Eng} {n c : Int} (h : IsEng σ k E fp) {base group rank : Int} {cs : List Chg} (hcl : cs.length ≤ 1000) (hct : ∀ c ∈ cs, c.text.length ≤ 1000000) (e : editE E base group rank cs = (E', n, c)) :
    MSpec Tryz.prog n_engine_Engine_Edit [.ptr (.new k) 0, .int .i64 base, .int .i64 group, .int .i64 rank, eChgs cs] σ fun v τ => v = .tup [.int .i64 n, .int .i64 c] ∧ ∃ fp', IsEng τ k E' fp' ∧ Keep fp σ τ ∧ Fresh fp σ fp' := by
  refine spec_of_awp mixed c_engine_Engine_Edit (tl rfl) ?_
  unfold f_engine_Engine_Edit
  have hlow := h.low
  have hok := h.ok
  obtain ⟨x0, kr0, fpr0, h0, rfl⟩ := id h
  have hb0 := h0.blk
  have hx0 := h0.lst.cells.2.2
  have htx := h0.text base
  have hsame : ∃ fp', IsEng σ k E fp' ∧ Keep (k :: fpr0) σ σ ∧ Fresh (k :: fpr0) σ fp' := ⟨_, h, Keep.refl _ _, fun x hx => .inl hx⟩
  have hroom : maxRoom = 68719476736 := rfl
  cases hl : E.R.live base with
  | false =>
    have : editE E base group rank cs = (E, 0, 190) := by rw [editE, if_pos hl]
    rw [this] at e; cases e
    rw [textV, hl, if_neg (by simp)] at htx
    have hb : ((190 : Int) != 0) = true := rfl
    simp +decide only [↓evd, evw, evz, reduceCtorEq, ↓reduceIte]
    refine MSpec.of htx ?_
    simp +decide only [↓evd, evw, evz, reduceCtorEq, ↓reduceIte, hb]
    exact hsame
  | true =>
  rw [textV, if_pos hl] at htx
  have hlt := atomsText_le base (E.R.undone base) hok.1.txt
  have hl4 := hok.1.len
  have hck := check_call σ (E.text base) cs (by unfold Eng.text; omega) (by omega) (fun c hc => by have := hct c hc; unfold ChgFits; omega)
  have hcb : ((0 : Int) != 0) = false := rfl
  simp +decide only [↓evd, evw, evz, reduceCtorEq, ↓reduceIte]
  refine MSpec.of htx ?_
  simp +decide only [↓evd, evw, evz, reduceCtorEq, ↓reduceIte, hcb]
  simp only [eChgs] at hck
  refine MSpec.of hck ?_
  by_cases hc0 : check (E.text base) cs = 0
  case neg =>
    have : editE E base group rank cs = (E, 0, check (E.text base) cs) := by rw [editE, if_neg (by simp [hl]), if_pos hc0]
    rw [this] at e; cases e
    have hb : (check (E.text base) cs != 0) = true := by simpa using hc0
    simp +decide only [↓evd, evw, evz, reduceCtorEq, ↓reduceIte, hb]
    exact hsame
  rw [hc0]
  simp +decide only [↓evd, evw, evz, reduceCtorEq, ↓reduceIte, hcb]
  refine (ecopy_at h).mono ?_
  rintro v τ ⟨k', kr', fpr', rfl, hC, hf', hK⟩
  have hb := hC.blk
  have hE := h.keep hK (fun y _ => by simp)
  rcases ht : addR E.R group with ⟨R', n', c'⟩
  simp +decide only [↓evd, evw, evz, reduceCtorEq, ↓reduceIte, hb]
  refine (add_at hC.revs ht).mono ?_
  rintro v τ1 ⟨rfl, fpr1, hR1, hK1, hF1⟩
  have hdis : ∀ y ∈ k :: fpr0, y ∉ fpr' := fun y hy hm => by have := hlow y hy; have := hf' y (List.mem_cons_of_mem _ hm); omega
  have hE1 := hE.keep hK1 hdis
  have hA1 := (h0.keep hK (fun y _ => by simp)).keep hK1 hdis
  have hKn := hK.2.2.1
  have hKn1 := hK1.2.2.1
  have hkk := hf' k' (by simp)
  have hb1 : τ1.get k' = some (.cells [eAtoms E.l, .ptr (.new kr') 0] none) := by rw [hK1.2.2.2 k' hC.low hC.out]; exact hb
  have hkp : Keep (k :: fpr0) σ τ1 := (hK.mono (fun x hx => nomatch hx)).trans hK1 (fun x hx => .inr (hf' x (List.mem_cons_of_mem _ hx)))
  have hfin : ∃ fp', IsEng τ1 k E fp' ∧ Keep (k :: fpr0) σ τ1 ∧ Fresh (k :: fpr0) σ fp' := ⟨k :: fpr0, hE1, hkp, fun x hx => .inl hx⟩
  have hne : editE E base group rank cs = if c' ≠ 0 then (E, 0, c') else if rank < 0 ∨ 1000000 < rank then (E, 0, 10) else
      if 4000 < (upon E.l base (E.R.undone base) cs n' group rank).length then (E, 0, 70) else
      if 20000 < (Eng.text ⟨upon E.l base (E.R.undone base) cs n' group rank, R'⟩ R'.head).length then (E, 0, 13) else (⟨upon E.l base (E.R.undone base) cs n' group rank, R'⟩, n', 0) := by
    rw [editE, if_neg (by simp [hl]), if_neg (by simp [hc0]), ht]
  by_cases hc : c' = 0
  case neg =>
    have hb : (c' != 0) = true := by simpa using hc
    rw [if_pos hc] at hne
    rw [hne] at e; cases e
    simp +decide only [↓evd, evw, evz, reduceCtorEq, ↓reduceIte, hb]
    exact hfin
  subst hc
  rw [if_neg (by simp)] at hne
  by_cases hr : rank < 0 ∨ 1000000 < rank
  · rw [if_pos hr] at hne
    rw [hne] at e; cases e
    by_cases hr1 : rank < 0
    · simp +decide only [↓evd, evw, evz, reduceCtorEq, ↓reduceIte, hcb, hr1]
      exact hfin
    · have hr2 := hr.resolve_left hr1
      simp +decide only [↓evd, evw, evz, reduceCtorEq, ↓reduceIte, hcb, hr1, hr2]
      exact hfin
  rw [if_neg hr] at hne
  have hr1 : ¬ rank < 0 := fun h => hr (.inl h)
  have hr2 : ¬ 1000000 < rank := fun h => hr (.inr h)
  obtain ⟨_, _, _, _, t1, t2⟩ := addR_ok (R := E.R) (g := group) (by rw [ht]) hok.2
  rw [ht] at t2
  simp only at t2
  have hfit0 := hok.1.fits hok.2
  have hup := hA1.lst.call (upon_call τ1 E.l base (E.R.undone base) cs n' group rank (undone_few hok.2 base) hfit0 (by omega) hct (fun a ha => by have := hok.1.cuts a ha; have := head_le hok.2; omega) (by omega))
  have hun := hA1.undoneAt base
  obtain ⟨uf1, uf2⟩ := upon_facts hok.1 (base := base) (group := group) (rank := rank) (now := n') (cs := cs) (u := E.R.undone base)
  have hb01 := hA1.blk
  have hlen := upon_few hok.1.len base (E.R.undone base) hcl hct n' group rank
  generalize upon E.l base (E.R.undone base) cs n' group rank = l' at hup hne uf1 uf2 hlen
  simp only [ints, eChgs, eAtoms] at hup
  simp only [ints] at hun
  simp only [eAtoms] at hb1
  simp +decide only [↓evd, evw, evz, reduceCtorEq, ↓reduceIte, hcb, hr1, hr2]
  with_reducible refine draw_of_grow (fun _ => True) (ms := [false, false, false, false, false, false, false, false, false, false, false, false, false, false, false, false, true]) (by kernel_rfl) ?_
  simp +decide only [↓evd, evw, evz, reduceCtorEq, ↓reduceIte, hb01, hx0]
  refine MSpec.of hun ⟨.inr Keeps.rfl, ?_⟩
  simp +decide only [↓evd, evw, evz, reduceCtorEq, ↓reduceIte]
  refine MSpec.of hup ⟨.inr Keeps.rfl, ?_⟩
  simp +decide only [↓evd, evw, evz, reduceCtorEq, ↓reduceIte, hb1]
  have hK2 : Keep [k'] τ1 (τ1.set k' (.cells [.fsl 5 (l'.map eAtom), .ptr (.new kr') 0] none)) := (Keep.refl _ _).set (.inl (by simp)) _
  have hkf : k' ∉ fpr1 := fun hm => by
    rcases hF1 k' hm with h1 | h1
    · exact hC.out h1
    · have := hC.low; omega
  have hkp2 : Keep (k :: fpr0) σ (τ1.set k' (.cells [.fsl 5 (l'.map eAtom), .ptr (.new kr') 0] none)) := hkp.set (.inr hkk) _
  have hE2 := hE1.keep hK2 (fun y hy hm => by simp at hm; have := hlow y hy; omega)
  have hfin2 : ∃ fp', IsEng (τ1.set k' (.cells [.fsl 5 (l'.map eAtom), .ptr (.new kr') 0] none)) k E fp' ∧ Keep (k :: fpr0) σ (τ1.set k' (.cells [.fsl 5 (l'.map eAtom), .ptr (.new kr') 0] none)) ∧ Fresh (k :: fpr0) σ fp' := ⟨k :: fpr0, hE2, hkp2, fun x hx => .inl hx⟩
  by_cases hm : 4000 < l'.length
  · have hm' : (4000 : Int) < (l'.length : Int) := by omega
    rw [if_pos hm] at hne
    rw [hne] at e; cases e
    simp +decide only [↓evd, evw, evz, reduceCtorEq, ↓reduceIte, hm']
    exact hfin2
  have hm' : ¬ (4000 : Int) < (l'.length : Int) := by omega
  rw [if_neg hm] at hne
  have hR2 := hR1.keep hK2 (fun y hy hm => by simp at hm; subst hm; exact hkf hy)
  have hok2 : Eng.Ok ⟨l', R'⟩ := ⟨by simp only; omega, uf1, fun a ha => by have := uf2 a ha; simp only [t2]; omega⟩
  have hN : EngAt (τ1.set k' (.cells [.fsl 5 (l'.map eAtom), .ptr (.new kr') 0] none)) k' ⟨l', R'⟩ (eAtoms l') kr' fpr1 := ⟨by rw [Heap.get_set, if_pos rfl]; rfl, .inl rfl, hR2, hkf, by have := hC.low; simp only [Heap.set_next]; omega, hok2⟩
  have hfit := hN.fitsC
  have hf1 : ∀ y ∈ fpr1, σ.next ≤ y := fun y hy => by
    rcases hF1 y hy with h1 | h1
    · exact hf' y (List.mem_cons_of_mem _ h1)
    · omega
  simp +decide only [↓evd, evw, evz, reduceCtorEq, ↓reduceIte, hm']
  refine MSpec.of hfit ?_
  by_cases hl : ((Eng.text ⟨l', R'⟩ (R'.head : Nat)).length : Int) ≤ 20000
  · rw [if_neg (by omega)] at hne
    rw [hne] at e; cases e
    have hk0 := h0.low
    have hle : k < τ1.next := by omega
    have hne2 : (k' = k) = False := eq_false (by omega)
    simp +decide only [↓evd, evw, evz, reduceCtorEq, ↓reduceIte, decide_eq_true hl, hb01, hne2]
    refine ⟨k :: fpr1, IsEng.took (by simpa using hle) hR2.low (.inl rfl) hR2 (fun hm => by have := hf1 k hm; omega) hok2, hkp2.set (.inl (by simp)) _, fun x hx => ?_⟩
    rcases List.mem_cons.1 hx with rfl | hx
    · exact .inl (by simp)
    · exact .inr (hf1 x hx)
  · rw [if_pos (by omega)] at hne
    rw [hne] at e; cases e
    simp +decide only [↓evd, evw, evz, reduceCtorEq, ↓reduceIte, decide_eq_false hl]
    exact hfin2
end
theorem chgs_row (cs : List Chg) : ∀ z ∈ cs.map eChg, z.cells.length = 3 := by
  intro z hz; rw [List.mem_map] at hz; obtain ⟨c, _, rfl⟩ := hz; rfl
theorem sees_chgs {σ : Heap} {K n : Nat} {cs : List Chg} (hn : n = cs.length) (hg : σ.get K = some (.cells ((cs.map eChg).flatMap AVal.cells) none)) : Sees σ (.slc (.new K) 0 n (.ex n)) (σ.set K .dead) (eChgs cs) := by
  refine Sees.own hg (by simp [hn]) (chgs_row cs) ?_ (fun c hc => by cases hc; exact Nat.le_refl _)
  have := flat_len (chgs_row cs)
  rw [List.length_map] at this
  rw [List.drop_zero, List.take_of_length_le (by omega)]
section
variable {σ : Heap} {k : Nat} {E : Eng} {fp : List Nat}
theorem eedit_own {E' : Eng} {n c : Int} (h : IsEng σ k E fp) {base group rank : Int} {cs : List Chg} {K q : Nat} (hq : q = cs.length) (hg : σ.get K = some (.cells ((cs.map eChg).flatMap AVal.cells) none)) (hK : K ∉ fp) (hcl : cs.length ≤ 1000) (hct : ∀ c ∈ cs, c.text.length ≤ 1000000) (e : editE E base group rank cs = (E', n, c)) :
    MSpec Tryz.prog n_engine_Engine_Edit [.ptr (.new k) 0, .int .i64 base, .int .i64 group, .int .i64 rank, .slc (.new K) 0 q (.ex q)] σ fun v τ => v = .tup [.int .i64 n, .int .i64 c] ∧ ∃ fp', IsEng τ k E' fp' ∧ Keep (K :: fp) σ τ ∧ Fresh fp σ fp' := by
  have hk : Keep [K] σ (σ.set K .dead) := (Keep.refl _ _).set (.inl (by simp)) _
  refine mspec_seen (.cons (Sees.refl _ _) (.cons (Sees.refl _ _) (.cons (Sees.refl _ _) (.cons (Sees.refl _ _) (.cons (sees_chgs hq hg) (.nil _)))))) ?_
  refine (eedit_at (h.keep hk fun x hx hm => hK (by simp at hm; exact hm ▸ hx)) hcl hct e).mono ?_
  rintro v τ ⟨hv, fp', h1, h2, h3⟩
  exact ⟨hv, fp', h1, (hk.mono (fun x hx _ => by simp at hx; simp [hx])).trans (h2.mono fun x hx _ => List.mem_cons_of_mem _ hx) (fun x hx => .inl hx), h3⟩
theorem eedit_lit {E' : Eng} {n c : Int} (h : IsEng σ k E fp) {base group rank : Int} {cs : List Chg} {q : Nat} (hq : q = cs.length) (hcl : cs.length ≤ 1000) (hct : ∀ c ∈ cs, c.text.length ≤ 1000000) (e : editE E base group rank cs = (E', n, c)) :
    MSpec Tryz.prog n_engine_Engine_Edit [.ptr (.new k) 0, .int .i64 base, .int .i64 group, .int .i64 rank, .slc (.new σ.next) 0 q (.ex q)] (σ.new (.cells ((cs.map eChg).flatMap AVal.cells) none)) fun v τ => v = .tup [.int .i64 n, .int .i64 c] ∧ ∃ fp', IsEng τ k E' fp' ∧ Keep fp σ τ ∧ Fresh fp σ fp' := by
  have hk : Keep [] σ (σ.new (.cells ((cs.map eChg).flatMap AVal.cells) none)) := (Keep.refl _ _).new _
  refine (eedit_own (K := σ.next) (h.keep hk (fun x _ => by simp)) hq (by rw [Heap.get_new, if_pos rfl]) (fun hm => by have := h.low _ hm; omega) hcl hct e).mono ?_
  rintro v τ ⟨hv, fp', h1, h2, h3⟩
  refine ⟨hv, fp', h1, ⟨h2.1, h2.2.1, Nat.le_of_succ_le h2.2.2.1, fun q hq hn => ?_⟩, fun x hx => ?_⟩
  · rw [h2.2.2.2 q (Nat.lt_succ_of_lt hq) (fun hm => by rcases List.mem_cons.1 hm with h | h; omega; exact hn h), Heap.get_new, if_neg (by omega)]
  · rcases h3 x hx with h4 | h4
    · exact .inl h4
    · exact .inr (Nat.le_of_succ_le h4)
end
theorem etext_at {σ : Heap} {k : Nat} {E : Eng} {fp : List Nat} (h : IsEng σ k E fp) (n : Int) : ACall Tryz.prog n_engine_Engine_Text [.ptr (.new k) 0, .int .i64 n] σ (textV E n) σ := by obtain ⟨_, _, _, h, _⟩ := h; exact h.text n
theorem ehead_at {σ : Heap} {k : Nat} {E : Eng} {fp : List Nat} (h : IsEng σ k E fp) : ACall Tryz.prog n_engine_Engine_Head [.ptr (.new k) 0] σ (.int .i64 (E.R.head : Nat)) σ := by obtain ⟨_, _, _, h, _⟩ := h; exact h.head
theorem egroups_at {σ : Heap} {k : Nat} {E : Eng} {fp : List Nat} (h : IsEng σ k E fp) : ACall Tryz.prog n_engine_Engine_Groups [.ptr (.new k) 0] σ (ints E.R.grp) σ := by obtain ⟨_, _, _, h, _⟩ := h; exact h.groups
theorem textV_head {E : Eng} (h : E.R.Ok) : textV E (E.R.head : Nat) = .tup [.str (E.text (E.R.head : Nat)), .int .i64 0] := by rw [textV, if_pos (Eng.live_head h)]
theorem aStr_self (s : List UInt8) : aStr .eql s s = some (.bool true) := by simp [aStr]
theorem aStr_nself (s : List UInt8) : aStr .neq s s = some (.bool false) := by simp [aStr]
def at1 (b : UInt8) (cs : List Cut) : Atom := ⟨[b], 1, 1, 0, cs⟩
def kE1 : Eng := ⟨[at1 104 [], at1 101 [], at1 108 [], at1 108 [], at1 111 []], ⟨[[], []], 0, [1], []⟩⟩
def kE2 : Eng := ⟨[⟨[106], 2, 2, 0, []⟩, at1 104 [⟨2, 2⟩], at1 101 [], at1 108 [], at1 108 [], at1 111 []], ⟨[[], [], []], 0, [1, 2], []⟩⟩
def kE3 : Eng := ⟨[⟨[106], 2, 2, 0, []⟩, at1 104 [⟨2, 2⟩], at1 101 [], at1 108 [], at1 108 [], at1 111 [], ⟨[33], 3, 3, 0, []⟩], ⟨[[], [], [], []], 0, [1, 2, 3], []⟩⟩
def kE4 : Eng := ⟨kE3.l, ⟨[[], [], [], [], [2]], 0, [1, 2, 3], []⟩⟩
theorem k1 : editE Eng.new 0 1 0 [⟨0, 0, [104, 101, 108, 108, 111]⟩] = (kE1, 1, 0) := by kernel_rfl
theorem k2 : editE kE1 1 2 0 [⟨0, 1, [106]⟩] = (kE2, 2, 0) := by kernel_rfl
theorem k3 : editE kE2 1 3 0 [⟨5, 5, [33]⟩] = (kE3, 3, 0) := by kernel_rfl
theorem k4 : toggleE kE3 2 = (kE4, 4, 0) := by kernel_rfl
theorem k5 : editE kE4 9 1 0 [] = (kE4, 0, 190) := by kernel_rfl
end Go.Proofs.YtkjikdohnomajaaGreat.M
namespace Go.Proofs.YtkjikdohnomajaaGreat.M
open Go Go.Mini
theorem places_nonneg (rev : Int) (u : List Int) : ∀ (l : List Atom) (n : Nat), ∀ p ∈ places rev u l n, 0 ≤ p
  | [], n, p, h => by simp [places] at h; omega
  | a :: l, n, p, h => by
    simp only [places, List.mem_cons] at h
    rcases h with rfl | h
    · omega
    · exact places_nonneg rev u l _ p h
theorem spotF_low (rev : Int) (u : List Int) (at' : Int) : ∀ (l : List Atom) (ps : List Int) (i acc : Nat), (∀ p ∈ ps, at' ≤ p) → spotF rev u at' l ps i acc = acc
  | [], ps, i, acc, h => by simp [spotF]
  | a :: l, [], i, acc, h => by simp [spotF]
  | a :: l, p :: ps, i, acc, h => by
    have h1 := h p (by simp)
    simp only [spotF]
    rw [if_neg (fun h2 => by omega)]
    exact spotF_low rev u at' l ps _ _ fun q hq => h q (List.mem_cons_of_mem _ hq)
theorem cutsF_none (rev : Int) (u : List Int) (cs : List Chg) (h : ∀ p, cutHit cs p = false) : ∀ (l : List Atom) (ps : List Int) (i : Nat), cutsF rev u cs l ps i = []
  | [], ps, i => by simp [cutsF]
  | a :: l, [], i => by simp [cutsF]
  | a :: l, p :: ps, i => by
    simp only [cutsF, h, Bool.and_false, Bool.false_eq_true, if_false, List.nil_append]
    exact cutsF_none rev u cs h l ps _
theorem marked_nil (c : Cut) : ∀ (l : List Atom) (i : Nat), marked [] c l i = l
  | [], i => rfl
  | a :: l, i => by simp only [marked, List.not_mem_nil, if_false, marked_nil c l]
theorem atoms_valid {l : List Atom} (h : ∀ a ∈ l, IsCP a.text) (rev : Int) (u : List Int) : ∃ ps, atomsText rev u l = List.flatten ps ∧ ∀ p ∈ ps, IsCP p := by
  refine ⟨(l.filter (visible rev u)).map Atom.text, ?_, ?_⟩
  · induction l with
    | nil => rfl
    | cons a l ih =>
      simp only [atomsText, List.filter_cons]
      rw [ih fun b hb => h b (List.mem_cons_of_mem _ hb)]
      split <;> simp
  · intro p hp
    simp only [List.mem_map, List.mem_filter] at hp
    obtain ⟨a, ⟨ha, _⟩, rfl⟩ := hp
    exact h a ha
theorem cp_ascii {b : UInt8} (h : b.toNat < 128) : IsCP [b] := ⟨by simp, by rw [pt, if_pos h]; rfl⟩
theorem check_front {s : List UInt8} (hs : ∃ ps, s = List.flatten ps ∧ ∀ p ∈ ps, IsCP p) {t : List UInt8} (ht : valid t = true) (hl : s.length + t.length ≤ 20000) : check s [⟨0, 0, t⟩] = 0 := by
  obtain ⟨ps, rfl, hp⟩ := hs
  have hv := valid_flat hp
  have he : isEdge ps.flatten 0 = true := (edge_flat hp 0).2 ⟨0, Nat.zero_le _, by simp⟩
  have hw : IntKind.i64.wrap ((0 : Int) - 0) = 0 := by decide
  have hg : gain ps.flatten.length ⟨0, 0, t⟩ = 0 := by
    simp only [gain, gain0, hw]
    rw [if_neg (show ¬ (0 : Int) < 0 by omega), if_neg (by omega)]
  have hlong : longI ps.flatten [⟨0, 0, t⟩] = 0 := by
    simp only [longI, gains, List.map_cons, List.map_nil, hg, List.sum_cons, List.sum_nil, longR]
    rw [if_neg (by omega), if_neg (by omega)]
  have hn : ¬ ((ps.flatten.length : Int) < 0) := by omega
  unfold check
  rw [if_neg (by rw [hv]; simp), if_neg (by simp)]
  simp only [errs, List.any_cons, List.any_nil, Bool.or_false, chgOut, chgIn, he, disorder, ht, hlong, decide_eq_false hn]
  rfl
theorem edit_front {E : Eng} (h : E.Ok) (hR : E.R.Ok) (hrev : ∀ a ∈ E.l, a.rev ≤ (E.R.head : Nat)) {g rank : Int} {b : UInt8} (hb : b.toNat < 128) (hg0 : 0 ≤ g) (hg1 : g < 60) (hgo : g ∉ E.R.gone) (hh : E.R.head < 200) (hr0 : 0 ≤ rank) (hr1 : rank ≤ 1000000) (hlen : E.l.length < 4000) :
    editE E (E.R.head : Nat) g rank [⟨0, 0, [b]⟩] = (⟨⟨[b], (E.R.head : Int) + 1, g, rank, []⟩ :: E.l, { E.R.push E.R.top with grp := insS g E.R.grp }⟩, (E.R.head : Int) + 1, 0) := by
  have hcp := cp_ascii hb
  have hv := atoms_valid h.txt (E.R.head : Nat) (E.R.undone (E.R.head : Nat))
  have hle := atomsText_le (E.R.head : Nat) (E.R.undone (E.R.head : Nat)) h.txt
  have hck : check (E.text (E.R.head : Nat)) [⟨0, 0, [b]⟩] = 0 := check_front hv (valid_iff.2 ⟨[[b]], by simp, by simpa using hcp⟩) (by simp only [Eng.text, List.length_cons, List.length_nil]; omega)
  have hck' : check (atomsText (E.R.head : Nat) (E.R.undone (E.R.head : Nat)) E.l) [⟨0, 0, [b]⟩] = 0 := hck
  have hadd := add_good (R := E.R) hgo hg0 hg1 hh
  have hspot : spot E.l (places (E.R.head : Nat) (E.R.undone (E.R.head : Nat)) E.l 0) (E.R.head : Nat) (E.R.undone (E.R.head : Nat)) 0 rank = 0 := by
    unfold spot
    rw [spotF_low _ _ _ _ _ _ _ (places_nonneg _ _ _ _)]
    simp only [List.drop_zero]
    cases hE : E.l with
    | nil => rfl
    | cons a l =>
      have := hrev a (by rw [hE]; simp)
      rw [spotG, if_neg (by omega)]
  have hup : upon E.l (E.R.head : Nat) (E.R.undone (E.R.head : Nat)) [⟨0, 0, [b]⟩] ((E.R.head : Int) + 1) g rank = ⟨[b], (E.R.head : Int) + 1, g, rank, []⟩ :: E.l := by
    rw [upon, if_pos hck']
    have hct : cuts E.l (E.R.head : Nat) (E.R.undone (E.R.head : Nat)) [⟨0, 0, [b]⟩] = [] := by
      rw [cuts, if_pos hck']
      refine cutsF_none _ _ _ (fun p => ?_) _ _ _
      simp only [cutHit, List.any_cons, List.any_nil, Bool.or_false, Bool.and_eq_false_iff, decide_eq_false_iff_not]
      omega
    rw [hct, marked_nil]
    simp only [spotsN, List.map_cons, List.map_nil, hspot, List.zip_cons_cons, List.zip_nil_left, merged, List.take_zero, List.drop_nil, List.nil_append, List.drop_zero, ptsOf, pts_one hcp, Option.getD_some, newAtoms, List.singleton_append]
  have hlv := Eng.live_head hR
  have htl : ∀ (rev : Int) (u : List Int), (atomsText rev u (⟨[b], (E.R.head : Int) + 1, g, rank, []⟩ :: E.l)).length ≤ 20000 := fun rev u => by
    have := atomsText_le (l := ⟨[b], (E.R.head : Int) + 1, g, rank, []⟩ :: E.l) rev u (by
      intro a ha
      rcases List.mem_cons.1 ha with rfl | ha
      · exact hcp
      · exact h.txt a ha)
    simp only [List.length_cons] at this; omega
  rw [editE, if_neg (by simp [hlv]), if_neg (by simp [hck]), hadd, if_neg (by simp), if_neg (by omega), hup, if_neg (by simp only [List.length_cons]; omega), if_neg (by simp only [Eng.text]; exact Nat.not_lt.2 (htl _ _))]
theorem short_text {l : List Atom} (hl : l.length ≤ 4000) (hc : ∀ a ∈ l, IsCP a.text) (rev : Int) (u : List Int) : (atomsText rev u l).length ≤ 20000 := by have := atomsText_le rev u hc; omega
theorem atomsText_append (rev : Int) (u : List Int) : ∀ l m : List Atom, atomsText rev u (l ++ m) = atomsText rev u l ++ atomsText rev u m
  | [], m => rfl
  | a :: l, m => by simp only [List.cons_append, atomsText, atomsText_append rev u l m, List.append_assoc]
theorem edit_fail {E E' : Eng} {base group rank n c : Int} {cs : List Chg} (e : editE E base group rank cs = (E', n, c)) (hc : c ≠ 0) : E' = E ∧ n = 0 := by
  unfold editE at e
  repeat' split at e
  all_goals
    simp only [Prod.mk.injEq] at e
    first | exact ⟨e.1.symm, e.2.1.symm⟩ | exact absurd e.2.2.symm hc
theorem toggle_fail {E E' : Eng} {g n c : Int} (e : toggleE E g = (E', n, c)) (hc : c ≠ 0) : E' = E ∧ n = 0 := by
  unfold toggleE at e
  repeat' split at e
  all_goals
    simp only [Prod.mk.injEq] at e
    first | exact ⟨e.1.symm, e.2.1.symm⟩ | exact absurd e.2.2.symm hc
def OrdC (n : Nat) : List Chg → Int → Prop
  | [], at' => at' ≤ (n : Int)
  | c :: l, at' => at' ≤ c.frm ∧ c.frm ≤ c.to ∧ c.to ≤ (n : Int) ∧ OrdC n l c.to
theorem OrdC.low {n : Nat} : ∀ {l : List Chg} {at' : Int}, OrdC n l at' → ∀ c ∈ l, at' ≤ c.frm
  | [], _, _, c, h => by cases h
  | d :: l, at', h, c, hc => by
    obtain ⟨h1, h2, h3, h4⟩ := h
    rcases List.mem_cons.1 hc with rfl | hc
    · exact h1
    · have := h4.low c hc; omega
theorem OrdC.le {n : Nat} : ∀ {l : List Chg} {at' : Int}, OrdC n l at' → at' ≤ (n : Int)
  | [], _, h => h
  | d :: l, at', ⟨h1, h2, h3, h4⟩ => by omega
section
variable {r : Int} {u : List Int}
def posT (r : Int) (u : List Int) (l : List Atom) (j : Nat) : Nat := (atomsText r u (l.take j)).length
theorem take_text {l : List Atom} {j : Nat} (h : j < l.length) : atomsText r u (l.take (j + 1)) = atomsText r u (l.take j) ++ (if visible r u l[j] then l[j].text else []) := by
  rw [List.take_succ_eq_append_getElem h, atomsText_append]
  simp only [atomsText, List.append_nil]
theorem posT_succ {l : List Atom} {j : Nat} (h : j < l.length) : posT r u l (j + 1) = posT r u l j + (if visible r u l[j] then l[j].text.length else 0) := by
  simp only [posT]; rw [take_text h, List.length_append]
  split <;> rfl
theorem posT_step (l : List Atom) (j : Nat) : posT r u l j ≤ posT r u l (j + 1) := by
  by_cases h : j < l.length
  · rw [posT_succ h]; omega
  · simp only [posT]; rw [List.take_of_length_le (by omega), List.take_of_length_le (by omega)]; exact Nat.le_refl _
theorem posT_mono (l : List Atom) {i j : Nat} (h : i ≤ j) : posT r u l i ≤ posT r u l j := by
  induction j with
  | zero => have : i = 0 := by omega
            subst this; exact Nat.le_refl _
  | succ j ih =>
    by_cases e : i = j + 1
    · subst e; exact Nat.le_refl _
    · exact Nat.le_trans (ih (by omega)) (posT_step l j)
theorem places_at : ∀ (l : List Atom) (p0 j : Nat), j ≤ l.length → (places r u l p0)[j]? = some ((p0 + posT r u l j : Nat) : Int)
  | [], p0, j, h => by
    have : j = 0 := by simp at h; exact h
    subst this; rfl
  | a :: l, p0, 0, h => rfl
  | a :: l, p0, j + 1, h => by
    simp only [places, List.getElem?_cons_succ]
    rw [places_at l _ j (by simpa using h)]
    have e : posT r u (a :: l) (j + 1) = (if visible r u a then a.text.length else 0) + posT r u l j := by
      simp only [posT, List.take_succ_cons, atomsText, List.length_append]
      split <;> rfl
    rw [e, ← Nat.add_assoc]
theorem spotF_spec (x : Int) : ∀ (l : List Atom) (ps : List Int) (i acc : Nat), acc ≤ i →
    (∀ (j : Nat) (a : Atom) (p : Int), l[j]? = some a → ps[j]? = some p → spotF r u x l ps i acc ≤ i + j → visible r u a = true → x ≤ p) ∧
    (spotF r u x l ps i acc = acc ∨ ∃ (j : Nat) (a : Atom) (p : Int), l[j]? = some a ∧ ps[j]? = some p ∧ spotF r u x l ps i acc = i + j + 1 ∧ visible r u a = true ∧ p < x)
  | [], ps, i, acc, h => ⟨fun j a p h1 => by simp at h1, .inl (by simp [spotF])⟩
  | a :: l, [], i, acc, h => ⟨fun j a p _ h1 => by simp at h1, .inl (by simp [spotF])⟩
  | a :: l, p :: ps, i, acc, h => by
    simp only [spotF]
    obtain ⟨h1, h2⟩ := spotF_spec x l ps (i + 1) (if p < x ∧ visible r u a = true then i + 1 else acc) (by split <;> omega)
    refine ⟨fun j b q hb hq hle hv => ?_, ?_⟩
    · cases j with
      | zero =>
        simp at hb hq
        subst hb; subst hq
        refine Int.not_lt.1 fun hlt => ?_
        rw [if_pos ⟨hlt, hv⟩] at h2 hle
        rcases h2 with h2 | ⟨j, _, _, _, _, h2, _⟩ <;> omega
      | succ j => exact h1 j b q (by simpa using hb) (by simpa using hq) (by omega) hv
    · rcases h2 with h2 | ⟨j, b, q, hb, hq, h2, h3⟩
      · by_cases hc : p < x ∧ visible r u a = true
        · rw [if_pos hc] at h2 ⊢
          exact .inr ⟨0, a, p, rfl, rfl, h2, hc.2, hc.1⟩
        · rw [if_neg hc] at h2 ⊢
          exact .inl h2
      · exact .inr ⟨j + 1, b, q, by simpa using hb, by simpa using hq, by omega, h3⟩
def spotK (r : Int) (u : List Int) (l : List Atom) (x : Int) : Nat := spotF r u x l (places r u l 0) 0 0
theorem spotK_ge {l : List Atom} {x : Int} {j : Nat} (hj : j < l.length) (h : spotK r u l x ≤ j) (hv : visible r u l[j] = true) : x ≤ (posT r u l j : Int) := by
  have h1 := (spotF_spec (r := r) (u := u) x l (places r u l 0) 0 0 (Nat.le_refl _)).1 j l[j] _ (List.getElem?_eq_getElem hj) (places_at l 0 j (by omega)) (by simp only [spotK] at h; omega) hv
  simpa using h1
theorem spotK_lt {l : List Atom} {x : Int} {j : Nat} (h : j < spotK r u l x) : (posT r u l j : Int) < x := by
  rcases (spotF_spec (r := r) (u := u) x l (places r u l 0) 0 0 (Nat.le_refl _)).2 with h2 | ⟨i, a, p, ha, hp, h2, hv, hlt⟩
  · simp only [spotK] at h; omega
  · have hi : i < l.length := (List.getElem?_eq_some_iff.1 ha).1
    rw [places_at l 0 i (by omega)] at hp
    cases hp
    have : j ≤ i := by simp only [spotK] at h; omega
    have := posT_mono (r := r) (u := u) l this
    omega
end
end Go.Proofs.YtkjikdohnomajaaGreat.M
namespace Go.Proofs.YtkjikdohnomajaaGreat.M
open Go Go.Mini
attribute [local congr] go1_congr goM_congr goG_congr goV_congr drawwp_congr Xwp_congr
def EndSeen (r : Int) (u : List Int) (L : List Atom) : Prop := L = [] ∨ ∃ L' b, L = L' ++ [b] ∧ visible r u b = true ∧ b.text ≠ []
theorem posT_left (r : Int) (u : List Int) (L R : List Atom) : posT r u (L ++ R) L.length = (atomsText r u L).length := by
  rw [posT, List.take_left]
theorem spotK_at {r : Int} {u : List Int} {L : List Atom} (R : List Atom) (h : EndSeen r u L) : spotK r u (L ++ R) ((atomsText r u L).length : Nat) = L.length := by
  rcases Nat.lt_trichotomy (spotK r u (L ++ R) ((atomsText r u L).length : Nat)) L.length with h1 | h1 | h1
  · rcases h with rfl | ⟨L', b, rfl, hv, hb⟩
    · simp at h1
    · have hj : L'.length < (L' ++ [b] ++ R).length := by simp
      have hg : (L' ++ [b] ++ R)[L'.length] = b := by simp
      have h2 := spotK_ge (r := r) (u := u) (x := ((atomsText r u (L' ++ [b])).length : Nat)) hj (by rw [List.length_append, List.length_singleton] at h1; omega) (by rw [hg]; exact hv)
      rw [show L' ++ [b] ++ R = L' ++ ([b] ++ R) by simp, posT_left, atomsText_append] at h2
      have h3 : (atomsText r u [b]).length = b.text.length := by simp [atomsText, hv]
      have := List.length_pos_iff.2 hb
      rw [List.length_append] at h2
      omega
  · exact h1
  · have h2 := spotK_lt (r := r) (u := u) h1
    rw [posT_left] at h2; omega
def cv : List Cut → List AVal
  | [] => []
  | c :: l => .int .i64 c.rev :: .int .i64 c.group :: cv l
section
variable {σ : Heap} {b4 b5 b7 b8 : Nat} {gs u : List Int}
end
structure Step where
  what : Int
  base : Int
  group : Int
  rank : Int
  c : List Chg
  groups : List Int
def letter (j : Nat) : UInt8 := UInt8.ofNat (97 + j % 26)
theorem letter_nat (j : Nat) : (letter j).toNat = 97 + j % 26 := by simp only [letter, UInt8.toNat_ofNat']; omega
def stepM (E : Eng) (j : Nat) (g : Int) : Eng := ⟨⟨[letter j], (j : Int) + 1, g.tmod 10, 0, []⟩ :: E.l, { E.R.push [] with grp := insS (g.tmod 10) E.R.grp }⟩
structure MInv (E : Eng) (j : Nat) : Prop where
  und : E.R.und = List.replicate (j + 1) []
  floor : E.R.floor = 0
  gone : E.R.gone = []
  len : E.l.length = j
  rev : ∀ a ∈ E.l, a.rev ≤ (j : Int)
  grp : ∀ g ∈ E.R.grp, g < 10
  bare : ∀ a ∈ E.l, a.cuts = [] ∧ a.group ∈ E.R.grp
  ok : E.Ok
  R : E.R.Ok
theorem MInv.head {E : Eng} {j : Nat} (h : MInv E j) : E.R.head = j := by simp [Revs.head, h.floor, h.und]
theorem MInv.top {E : Eng} {j : Nat} (h : MInv E j) : E.R.top = [] := by
  simp only [Revs.top, h.und, List.replicate_succ', List.getLastD_eq_getLast?, List.getLast?_append, List.getLast?_singleton]; rfl
theorem MInv.new : MInv Eng.new 0 := ⟨rfl, rfl, rfl, rfl, fun a h => (by cases h), fun a h => (by cases h), fun a h => (by cases h), Eng.new_ok, ⟨by simp [Eng.new, Revs.new], by simp [Eng.new, Revs.new], by intro s hs; simp [Eng.new, Revs.new] at hs; subst hs; exact Rise.nil, Rise.nil, Rise.nil⟩⟩
theorem tmod10 {g : Int} (h : 0 ≤ g) : 0 ≤ g.tmod 10 ∧ g.tmod 10 < 10 := by rw [Int.tmod_eq_emod_of_nonneg h]; omega
theorem MInv.edit {E : Eng} {j : Nat} (h : MInv E j) (hj : j < 100) {g : Int} (hg : 0 ≤ g) : editE E (E.R.head : Nat) (g.tmod 10) 0 [⟨0, 0, [letter j]⟩] = (stepM E j g, (j : Int) + 1, 0) := by
  obtain ⟨g1, g2⟩ := tmod10 hg
  have hh := h.head
  have hl := h.len
  rw [edit_front h.ok h.R (fun a ha => by rw [hh]; exact h.rev a ha) (by rw [letter_nat]; omega) g1 (by omega) (by rw [h.gone]; simp) (by omega) (by omega) (by omega) (by omega), hh, h.top]; rfl
theorem MInv.step {E : Eng} {j : Nat} (h : MInv E j) (hj : j < 100) {g : Int} (hg : 0 ≤ g) : MInv (stepM E j g) (j + 1) := by
  obtain ⟨g1, g2⟩ := tmod10 hg
  have hl := h.len
  have he := h.edit hj hg
  have hok := editE_ok h.ok h.R (E.R.head : Nat) (g.tmod 10) 0 [⟨0, 0, [letter j]⟩]
  rw [he] at hok
  refine ⟨?_, h.floor, h.gone, by simp only [stepM, List.length_cons]; omega, ?_, ?_, ?_, hok, ?_⟩
  · simp only [stepM, Revs.push, h.und]; rw [← List.replicate_succ']
  · intro a ha
    rcases List.mem_cons.1 ha with rfl | ha
    · simp only; omega
    · have := h.rev a ha; omega
  · intro x hx
    rcases mem_insS.1 hx with rfl | hx
    · exact g2
    · exact h.grp x hx
  · intro a ha
    rcases List.mem_cons.1 ha with rfl | ha
    · exact ⟨rfl, mem_insS.2 (.inl rfl)⟩
    · have := h.bare a ha; exact ⟨this.1, mem_insS.2 (.inr this.2)⟩
  · refine ⟨by simp [stepM, Revs.push], ?_, ?_, h.R.grp.ins g1 (by omega), h.R.gone⟩
    · simp only [stepM, Revs.push, h.und, h.floor, List.length_append, List.length_replicate, List.length_cons, List.length_nil]; omega
    · intro s hs
      simp only [stepM, Revs.push, h.und, List.mem_append, List.mem_replicate, List.mem_singleton] at hs
      rcases hs with ⟨_, rfl⟩ | rfl <;> exact Rise.nil
def togsE (E : Eng) : List Int → Eng × Int
  | [] => (E, 0)
  | g :: l => if (toggleE E g).2.2 ≠ 0 then (E, (toggleE E g).2.2) else togsE (toggleE E g).1 l
def allE (E : Eng) (l : List Int) : Eng × Int × Int := if (togsE E l).2 ≠ 0 then (E, 0, (togsE E l).2) else ((togsE E l).1, ((togsE E l).1.R.head : Nat), 0)
theorem Keep.fresh {σ τ ρ : Heap} {fp : List Nat} (h : Keep [] σ τ) (h' : Keep fp τ ρ) (hf : ∀ x ∈ fp, σ.next ≤ x) : Keep [] σ ρ :=
  h.trans h' (fun x hx => .inr (hf x hx))
def held (E : Eng) : List Int := E.R.grp.filter fun x => !decide (x ∈ E.R.undone (E.R.head : Nat))
theorem in_call (σ : Heap) (l : List Int) (g : Int) (hl : l.length ≤ 1000000) : ACall Tryz.prog n_palinoderef17_In [ints l, .int .i64 g] σ (.bool (decide (g ∈ l))) σ := by
  refine bare_call (by simp only [AVal.pures, ints_pure]; rfl) rfl (fun W F => spec_of_awp mixed c_palinoderef17_In (tl rfl) ?_) σ
  unfold f_palinoderef17_In
  simp +decide only [↓evd, evw, evz, reduceCtorEq, ↓reduceIte]
  refine awp_loop (fun m fr τ => ∃ i, m + i = l.length ∧ fr.get 0 = ints l ∧ fr.get 1 = .int .i64 g ∧ fr.get 5 = .int .i64 (i : Nat) ∧ g ∉ l.take i ∧ τ.W = W ∧ τ.F0 = F) ?_ (m := l.length) ?_
  · rintro m fr τ ⟨i, hi, e0, e1, e5, ht, hW, hF⟩
    by_cases hlt : i < l.length
    · have hlt' : (i : Int) < (l.length : Int) := by omega
      have hg := map_get (AVal.int .i64 ·) l i hlt
      have hs := wrap_succ (i := i) (by omega)
      have t1 := List.take_succ_eq_append_getElem hlt
      have hm := List.getElem_mem hlt
      generalize l[i] = x at hg t1 hm
      by_cases hx : x = g
      · subst hx
        have hb : (x == x) = true := by simp
        simp +decide only [↓evd, evw, evz, reduceCtorEq, ↓reduceIte, e0, e1, e5, hlt', hg, hb, mem_bool hm]
        exact seen rfl hW hF
      · have hb : (x == g) = false := by simpa using hx
        simp +decide only [↓evd, evw, evz, reduceCtorEq, ↓reduceIte, e0, e1, e5, hlt', hg, hb, hs]
        exact ⟨m - 1, by omega, i + 1, by omega, rfl, by rw [t1]; simp [ht, Ne.symm hx], hW, hF⟩
    · have hlt' : ¬ (i : Int) < (l.length : Int) := by omega
      rw [List.take_of_length_le (by omega)] at ht
      simp +decide only [↓evd, evw, evz, reduceCtorEq, ↓reduceIte, e0, e1, e5, hlt', not_mem_bool ht]
      exact seen rfl hW hF
  · refine ⟨0, by omega, ?_⟩
    simp +decide only [↓evd, evw, evz, reduceCtorEq, ↓reduceIte]
    simp
end Go.Proofs.YtkjikdohnomajaaGreat.M
namespace Go.Proofs.YtkjikdohnomajaaGreat.M
open Go Go.Mini
structure TInv (E : Eng) (l : List Atom) (grp u : List Int) (h : Nat) : Prop where
  ls : E.l = l
  sub : ∀ x ∈ u, x ∈ grp
  grp : E.R.grp = grp
  top : E.R.top = u
  head : E.R.head = h
  few : l.length ≤ 4000
  ok : E.Ok
  R : E.R.Ok
theorem TInv.rise {E : Eng} {l : List Atom} {grp u : List Int} {h : Nat} (t : TInv E l grp u h) : Rise u := by rw [← t.top]; exact t.R.top.2.1
theorem TInv.undone {E : Eng} {l : List Atom} {grp u : List Int} {h : Nat} (t : TInv E l grp u h) : E.R.undone (E.R.head : Nat) = u := by rw [t.R.top.1, t.top]
theorem push_ok {R : Revs} (h : R.Ok) {s : List Int} (hs : Rise s) (hh : R.head < 200) : (R.push s).Ok := by
  have hl := List.length_pos_iff.2 h.one
  refine ⟨by simp [Revs.push], ?_, ?_, h.grp, h.gone⟩
  · simp only [Revs.push, List.length_append, List.length_cons, List.length_nil]; simp only [Revs.head] at hh; omega
  · intro x hx
    simp only [Revs.push, List.mem_append, List.mem_singleton] at hx
    rcases hx with hx | rfl
    · exact h.rise x hx
    · exact hs
theorem TInv.toggle {E : Eng} {l : List Atom} {grp u : List Int} {h : Nat} (t : TInv E l grp u h) {g : Int} (hg : g ∈ grp) (hh : h < 200) :
    toggleE E g = (⟨E.l, E.R.push (flip g u)⟩, ((h + 1 : Nat) : Int), 0) ∧ TInv ⟨E.l, E.R.push (flip g u)⟩ l grp (flip g u) (h + 1) := by
  have hl := List.length_pos_iff.2 t.R.one
  have ht : toggleR E.R g = (E.R.push (flip g u), ((h + 1 : Nat) : Int), 0) := by
    have := toggle_of (R := E.R) (g := g) (by rw [t.grp]; exact hg) (by rw [t.head]; exact hh)
    rw [this, t.top, t.head]; rfl
  have hgb := t.R.grp.2 g (by rw [t.grp]; exact hg)
  have hhd : (E.R.push (flip g u)).head = h + 1 := by
    rw [← t.head]; simp only [Revs.head, Revs.push, List.length_append, List.length_cons, List.length_nil]; omega
  refine ⟨?_, t.ls, fun x hx => ?_, t.grp, top_push _ _, hhd, t.few, ⟨t.ok.len, t.ok.txt, fun a ha => ?_⟩, push_ok t.R (t.rise.flip hgb.1 hgb.2) (by rw [t.head]; exact hh)⟩
  · rw [toggleE, ht, if_neg (by simp), if_neg]
    simp only [Eng.text]
    exact Nat.not_lt.2 (short_text (by rw [t.ls]; exact t.few) t.ok.txt _ _)
  · have hm := (mem_flip (g := g) (x := x) t.rise).1 hx
    by_cases e : x = g
    · rw [e]; exact hg
    · rw [if_neg e] at hm; exact t.sub x hm
  · have h1 := t.ok.cuts a ha
    have h2 := t.head
    simp only [hhd]; omega
theorem TInv.toggle_no {E : Eng} {l : List Atom} {grp u : List Int} {h : Nat} (t : TInv E l grp u h) {g : Int} (hg : g ∉ grp) : toggleE E g = (E, 0, 210) := by
  rw [toggleE, toggle_bad (by rw [t.grp]; exact hg), if_pos (by simp)]
def flips (u l : List Int) : List Int := l.foldl (fun u g => flip g u) u
theorem TInv.togs {grp : List Int} {l : List Atom} : ∀ {ks : List Int} {E : Eng} {u : List Int} {h : Nat}, TInv E l grp u h → h + ks.length ≤ 200 →
    if ∀ g ∈ ks, g ∈ grp then (togsE E ks).2 = 0 ∧ TInv (togsE E ks).1 l grp (flips u ks) (h + ks.length) else (togsE E ks).2 = 210
  | [], E, u, h, t, _ => by rw [if_pos (by simp)]; exact ⟨rfl, t⟩
  | g :: ks, E, u, h, t, hl => by
    simp only [List.length_cons] at hl
    by_cases hg : g ∈ grp
    · obtain ⟨h1, h2⟩ := t.toggle hg (by omega)
      have ih := TInv.togs (ks := ks) h2 (by omega)
      have e : togsE E (g :: ks) = togsE ⟨E.l, E.R.push (flip g u)⟩ ks := by rw [togsE, h1, if_neg (by simp)]
      rw [e]
      by_cases hk : ∀ x ∈ ks, x ∈ grp
      · rw [if_pos hk] at ih
        rw [if_pos (by intro x hx; rcases List.mem_cons.1 hx with rfl | hx; exact hg; exact hk x hx)]
        refine ⟨ih.1, ?_⟩
        rw [List.length_cons, show h + (ks.length + 1) = h + 1 + ks.length by omega]
        exact ih.2
      · rw [if_neg hk] at ih
        rw [if_neg (fun h => hk fun x hx => h x (List.mem_cons_of_mem _ hx))]
        exact ih
    · rw [if_neg (fun h => hg (h g (by simp))), togsE, t.toggle_no hg, if_pos (by simp)]
theorem TInv.all {E : Eng} {l : List Atom} {grp u : List Int} {h : Nat} (t : TInv E l grp u h) {ks : List Int} (hl : h + ks.length ≤ 200) (hk : ∀ g ∈ ks, g ∈ grp) :
    ∃ E', allE E ks = (E', ((h + ks.length : Nat) : Int), 0) ∧ TInv E' l grp (flips u ks) (h + ks.length) := by
  have := t.togs hl
  rw [if_pos hk] at this
  exact ⟨_, by rw [allE, this.1, if_neg (by simp), this.2.head], this.2⟩
end Go.Proofs.YtkjikdohnomajaaGreat.M
namespace Go.Proofs.YtkjikdohnomajaaGreat.M
open Go Go.Mini
attribute [local congr] go1_congr goM_congr goG_congr goV_congr drawwp_congr
def Eng.Old (E : Eng) : Prop := ∀ a ∈ E.l, a.rev ≤ (E.R.head : Nat) ∧ ∀ c ∈ a.cuts, c.rev ≤ (E.R.head : Nat)
theorem Eng.new_old : Eng.new.Old := by intro a ha; cases ha
theorem edit_shape {E E' : Eng} {base group rank n : Int} {cs : List Chg} (hR : E.R.Ok) (e : editE E base group rank cs = (E', n, 0)) : group ∉ E.R.gone ∧ 0 ≤ group ∧ group < 60 ∧ E.R.head < 200 ∧ E.R.live base = true ∧ check (E.text base) cs = 0 ∧ 0 ≤ rank ∧ rank ≤ 1000000 ∧ n = ((E.R.head + 1 : Nat) : Int) ∧
    E' = ⟨upon E.l base (E.R.undone base) cs ((E.R.head + 1 : Nat) : Int) group rank, { E.R.push E.R.top with grp := insS group E.R.grp }⟩ ∧ E'.R.head = E.R.head + 1 := by
  unfold editE at e
  split at e
  · simp only [Prod.mk.injEq] at e; exact absurd e.2.2 (by decide)
  rename_i h1
  split at e
  · rename_i h2; simp only [Prod.mk.injEq] at e; exact absurd e.2.2 h2
  rename_i h2
  split at e
  · rename_i h3; simp only [Prod.mk.injEq] at e; exact absurd e.2.2 h3
  rename_i h3
  split at e
  · simp only [Prod.mk.injEq] at e; exact absurd e.2.2 (by decide)
  rename_i h4
  split at e
  · simp only [Prod.mk.injEq] at e; exact absurd e.2.2 (by decide)
  split at e
  · simp only [Prod.mk.injEq] at e; exact absurd e.2.2 (by decide)
  obtain ⟨q1, q2, q3, q4, e1, e2⟩ := addR_ok (by simpa using h3) hR
  cases e
  exact ⟨q1, q2, q3, q4, by simpa using h1, by simpa using h2, by omega, by omega, by rw [e1]; rfl, by rw [e1]; rfl, e2⟩
theorem edit_old {E E' : Eng} {base group rank n : Int} {cs : List Chg} (hR : E.R.Ok) (hO : E.Old) (e : editE E base group rank cs = (E', n, 0)) : E'.Old := by
  obtain ⟨_, _, _, _, _, _, _, _, _, he, hh⟩ := edit_shape hR e
  intro a ha
  rw [hh]
  rw [he] at ha
  rcases mem_upon ha with ⟨b, hb, rfl | rfl⟩ | ⟨b, _, rfl⟩
  · have := hO a hb; exact ⟨by omega, fun c hc => by have := this.2 c hc; omega⟩
  · have := hO b hb
    refine ⟨by simp only; omega, fun c hc => ?_⟩
    simp only [List.mem_append, List.mem_singleton] at hc
    rcases hc with hc | rfl
    · have := this.2 c hc; omega
    · simp only; omega
  · exact ⟨by simp only; omega, fun c hc => by cases hc⟩
theorem toggle_shape {E E' : Eng} {g n : Int} (hR : E.R.Ok) (e : toggleE E g = (E', n, 0)) : g ∈ E.R.grp ∧ E.R.head < 200 ∧ n = ((E.R.head + 1 : Nat) : Int) ∧ E' = ⟨E.l, E.R.push (flip g E.R.top)⟩ ∧ E'.R.head = E.R.head + 1 := by
  unfold toggleE at e
  split at e
  · rename_i h2; simp only [Prod.mk.injEq] at e; exact absurd e.2.2 h2
  rename_i h3
  split at e
  · simp only [Prod.mk.injEq] at e; exact absurd e.2.2 (by decide)
  obtain ⟨q1, q2, e1, e2⟩ := toggleR_ok (by simpa using h3) hR
  cases e
  exact ⟨q1, q2, by rw [e1]; rfl, by rw [e1], e2⟩
theorem toggle_old {E E' : Eng} {g n : Int} (hR : E.R.Ok) (hO : E.Old) (e : toggleE E g = (E', n, 0)) : E'.Old := by
  obtain ⟨_, _, _, he, hh⟩ := toggle_shape hR e
  intro a ha
  rw [he] at ha
  have := hO a ha
  rw [hh]
  exact ⟨by omega, fun c hc => by have := this.2 c hc; omega⟩
structure TwInv (E : Eng) (i : Nat) : Prop where
  top : E.R.top = []
  head : E.R.head ≤ i
  old : E.Old
  grp : ∀ a ∈ E.l, a.group ∈ E.R.grp
theorem TwInv.new : TwInv Eng.new 0 := ⟨rfl, Nat.le_refl _, Eng.new_old, fun a h => by cases h⟩
theorem TwInv.mono {E : Eng} {i : Nat} (h : TwInv E i) : TwInv E (i + 1) := ⟨h.top, by have := h.head; omega, h.old, h.grp⟩
theorem TwInv.edit {E E' : Eng} {i : Nat} (h : TwInv E i) (hR : E.R.Ok) {base group rank n c : Int} {cs : List Chg} (e : editE E base group rank cs = (E', n, c)) : TwInv E' (i + 1) := by
  by_cases hc : c = 0
  · subst hc
    obtain ⟨_, _, _, _, _, _, _, _, _, he, hh⟩ := edit_shape hR e
    refine ⟨?_, by have := h.head; omega, edit_old hR h.old e, fun a ha => ?_⟩
    · rw [he]; show (E.R.push E.R.top).top = []; rw [top_push, h.top]
    · rw [he] at ha ⊢
      show a.group ∈ insS group E.R.grp
      rw [mem_insS]
      rcases mem_upon ha with ⟨b, hb, rfl | rfl⟩ | ⟨b, _, rfl⟩
      · exact .inr (h.grp a hb)
      · exact .inr (h.grp b hb)
      · exact .inl rfl
  · rw [(edit_fail e hc).1]; exact h.mono
end Go.Proofs.YtkjikdohnomajaaGreat.M
namespace Go.Proofs.YtkjikdohnomajaaGreat.M
open Go Go.Mini
attribute [local congr] go1_congr goM_congr goG_congr goV_congr drawwp_congr Xwp_congr
end Go.Proofs.YtkjikdohnomajaaGreat.M
namespace Go.Proofs.YtkjikdohnomajaaGreat.M
open Go Go.Mini
structure Eng.Known (E : Eng) : Prop where
  old : E.Old
  grp : ∀ a ∈ E.l, (a.group ∈ E.R.grp ∨ a.group = -1) ∧ ∀ c ∈ a.cuts, c.group ∈ E.R.grp
structure Eng.Whole (E : Eng) : Prop where
  ok : E.Ok
  rok : E.R.Ok
  known : E.Known
theorem Eng.Known.new : Eng.new.Known := ⟨Eng.new_old, fun a h => by cases h⟩
theorem Eng.Known.edit {E E' : Eng} {base group rank n c : Int} {cs : List Chg} (hR : E.R.Ok) (h : E.Known) (e : editE E base group rank cs = (E', n, c)) : E'.Known := by
  by_cases hc : c = 0
  case neg => rw [(edit_fail e hc).1]; exact h
  subst hc
  refine ⟨edit_old hR h.old e, ?_⟩
  obtain ⟨_, _, _, _, _, _, _, _, _, he, _⟩ := edit_shape hR e
  intro a ha
  rw [he] at ha ⊢
  have hm : ∀ g, g ∈ E.R.grp → g ∈ insS group E.R.grp := fun g hg => mem_insS.2 (.inr hg)
  rcases mem_upon ha with ⟨b, hb, rfl | rfl⟩ | ⟨b, _, rfl⟩
  · exact ⟨(h.grp a hb).1.imp (hm _) id, fun c hc => hm _ ((h.grp a hb).2 c hc)⟩
  · refine ⟨(h.grp b hb).1.imp (hm _) id, fun c hc => ?_⟩
    simp only [List.mem_append, List.mem_singleton] at hc
    rcases hc with hc | rfl
    · exact hm _ ((h.grp b hb).2 c hc)
    · exact mem_insS.2 (.inl rfl)
  · exact ⟨.inl (mem_insS.2 (.inl rfl)), fun c hc => by cases hc⟩
theorem Eng.Known.toggle {E E' : Eng} {g n c : Int} (hR : E.R.Ok) (h : E.Known) (e : toggleE E g = (E', n, c)) : E'.Known := by
  by_cases hc : c = 0
  case neg => rw [(toggle_fail e hc).1]; exact h
  subst hc
  refine ⟨toggle_old hR h.old e, ?_⟩
  obtain ⟨_, _, _, he, _⟩ := toggle_shape hR e
  intro a ha
  rw [he] at ha ⊢
  exact h.grp a ha
theorem rok_edit {R : Revs} (h : R.Ok) (hh : R.head < 200) {g : Int} (h0 : 0 ≤ g) (h1 : g < 60) : Revs.Ok { R.push R.top with grp := insS g R.grp } := by
  have p := push_ok h h.top.2.1 hh
  exact ⟨p.one, p.few, p.rise, h.grp.ins h0 h1, p.gone⟩
theorem rise_flip {s : List Int} (hs : Rise s) {g : Int} (h0 : 0 ≤ g) (h1 : g < 60) : Rise (flip g s) := by
  unfold flip
  split
  · exact hs.erase g
  · exact hs.ins h0 h1
theorem Eng.Whole.new : Eng.new.Whole := ⟨Eng.new_ok, ⟨by simp [Eng.new, Revs.new], by simp [Eng.new, Revs.new], fun s hs => by simp [Eng.new, Revs.new] at hs; subst hs; exact Rise.nil, Rise.nil, Rise.nil⟩, Eng.Known.new⟩
theorem Eng.Whole.edit {E E' : Eng} {base group rank n c : Int} {cs : List Chg} (h : E.Whole) (e : editE E base group rank cs = (E', n, c)) : E'.Whole := by
  have h1 := editE_ok h.ok h.rok base group rank cs
  rw [e] at h1
  refine ⟨h1, ?_, h.known.edit h.rok e⟩
  by_cases hc : c = 0
  case neg => rw [(edit_fail e hc).1]; exact h.rok
  subst hc
  obtain ⟨_, g0, g1, hh, _, _, _, _, _, he, _⟩ := edit_shape h.rok e
  rw [he]; exact rok_edit h.rok hh g0 g1
theorem Eng.Whole.toggle {E E' : Eng} {g n c : Int} (h : E.Whole) (e : toggleE E g = (E', n, c)) : E'.Whole := by
  have h1 := toggleE_ok h.ok h.rok g
  rw [e] at h1
  refine ⟨h1, ?_, h.known.toggle h.rok e⟩
  by_cases hc : c = 0
  case neg => rw [(toggle_fail e hc).1]; exact h.rok
  subst hc
  obtain ⟨hg, hh, _, he, _⟩ := toggle_shape h.rok e
  have hb := h.rok.grp.2 g hg
  rw [he]; exact push_ok h.rok (rise_flip h.rok.top.2.1 hb.1 hb.2) hh
theorem ptsOf_len {s : List UInt8} (hs : valid s = true) : (ptsOf s).length ≤ s.length ∧ (ptsOf s).flatten = s ∧ ∀ p ∈ ptsOf s, IsCP p := by
  obtain ⟨ps, rfl, hp⟩ := valid_iff.1 hs
  have e : ptsOf ps.flatten = ps := by rw [ptsOf, pts_flat hp]; rfl
  rw [e]
  refine ⟨?_, rfl, hp⟩
  clear hs e
  induction ps with
  | nil => simp
  | cons p ps ih =>
    have h1 := List.length_pos_iff.2 (hp p (by simp)).1
    have := ih fun q hq => hp q (List.mem_cons_of_mem _ hq)
    simp only [List.length_cons, List.flatten_cons, List.length_append]; omega
theorem all_text {h : Int} {u : List Int} : ∀ {l : List Atom}, (∀ a ∈ l, visible h u a = true) → atomsText h u l = (l.map (·.text)).flatten
  | [], _ => rfl
  | a :: l, hv => by
    rw [atomsText, hv a (by simp), all_text fun b hb => hv b (List.mem_cons_of_mem _ hb)]; rfl
theorem filter_text (h : Int) (u : List Int) : ∀ l : List Atom, atomsText h u l = ((l.filter (visible h u)).map (·.text)).flatten
  | [] => rfl
  | a :: l => by
    rw [atomsText, filter_text h u l, List.filter_cons]
    split <;> simp
theorem check_end {t s : List UInt8} (ht : valid t = true) (hs : valid s = true) (hl : t.length + s.length ≤ 20000) : check t [⟨(t.length : Nat), (t.length : Nat), s⟩] = 0 := by
  obtain ⟨ps, rfl, hp⟩ := valid_iff.1 ht
  have he : isEdge ps.flatten (ps.flatten.length : Nat) = true := (edge_flat hp _).2 ⟨ps.length, Nat.le_refl _, by rw [List.take_length]⟩
  generalize ps.flatten = t at *
  have hg := gain_le t.length ⟨(t.length : Nat), (t.length : Nat), s⟩
  have hlong : longI t [⟨(t.length : Nat), (t.length : Nat), s⟩] = 0 := by
    simp only [longI, gains, List.map_cons, List.map_nil, List.sum_cons, List.sum_nil, longR]
    rw [if_neg (by omega), if_neg (by omega)]
  have n1 : ¬ ((t.length : Int) < 0) := by omega
  have n2 : ¬ ((t.length : Int) < (t.length : Int)) := by omega
  unfold check
  rw [if_neg (by rw [ht]; simp), if_neg (by simp)]
  simp only [errs, List.any_cons, List.any_nil, Bool.or_false, chgOut, chgIn, he, disorder, hs, hlong, decide_eq_false n1, decide_eq_false n2]
  rfl
theorem upon_end {base rev g rank : Int} {u : List Int} {L : List Atom} {s : List UInt8} (he : EndSeen base u L)
    (hck : check (atomsText base u L) [⟨((atomsText base u L).length : Nat), ((atomsText base u L).length : Nat), s⟩] = 0) :
    upon L base u [⟨((atomsText base u L).length : Nat), ((atomsText base u L).length : Nat), s⟩] rev g rank = L ++ newAtoms rev g rank (ptsOf s) := by
  have hsK := spotK_at (r := base) (u := u) [] he
  rw [List.append_nil] at hsK
  have hspot : spot L (places base u L 0) base u ((atomsText base u L).length : Nat) rank = L.length := by
    rw [spot, show spotF base u (((atomsText base u L).length : Nat) : Int) L (places base u L 0) 0 0 = L.length from hsK, List.drop_length]; rfl
  have hct : cuts L base u [⟨((atomsText base u L).length : Nat), ((atomsText base u L).length : Nat), s⟩] = [] := by
    rw [cuts, if_pos hck]
    refine cutsF_none _ _ _ (fun p => ?_) _ _ _
    simp only [cutHit, List.any_cons, List.any_nil, Bool.or_false, Bool.and_eq_false_iff, decide_eq_false_iff_not]
    omega
  rw [upon, if_pos hck, hct, marked_nil]
  simp only [spotsN, List.map_cons, List.map_nil, hspot, List.zip_cons_cons, List.zip_nil_left, merged, List.drop_zero, List.take_length, List.drop_length, List.append_nil]
structure GrInv (E : Eng) (i : Nat) (t u : List UInt8) : Prop where
  whole : E.Whole
  head : E.R.head = i
  top : E.R.top = []
  gone : E.R.gone = []
  cuts : ∀ a ∈ E.l, a.cuts = []
  g01 : ∀ a ∈ E.l, a.group = 0 ∨ a.group = 1
  txt : (E.l.map (·.text)).flatten = t
  sub : ((E.l.filter fun a => decide (a.group ≠ 1)).map (·.text)).flatten = u
  len : E.l.length ≤ t.length
theorem GrInv.new : GrInv Eng.new 0 [] [] := ⟨Eng.Whole.new, rfl, rfl, rfl, fun a h => (by cases h), fun a h => (by cases h), rfl, rfl, by simp [Eng.new]⟩
theorem GrInv.vis {E : Eng} {i : Nat} {t u : List UInt8} (h : GrInv E i t u) : ∀ a ∈ E.l, visible (E.R.head : Nat) [] a = true := fun a ha => by
  have h1 := (h.whole.known.old a ha).1
  simp [visible, holds, h.cuts a ha, h1]
theorem GrInv.text {E : Eng} {i : Nat} {t u : List UInt8} (h : GrInv E i t u) : E.text (E.R.head : Nat) = t := by
  rw [Eng.text, h.whole.rok.top.1, h.top, all_text h.vis, h.txt]
theorem GrInv.step {E : Eng} {i : Nat} {t u s : List UInt8} (h : GrInv E i t u) (hs : valid s = true) {g : Int} (hg : g = 0 ∨ g = 1) (hi : i < 100) (hl : t.length + s.length ≤ 4000) :
    ∃ E', editE E (i : Nat) g 0 [⟨(t.length : Nat), (t.length : Nat), s⟩] = (E', ((i + 1 : Nat) : Int), 0) ∧ GrInv E' (i + 1) (t ++ s) (if g = 0 then u ++ s else u) := by
  obtain ⟨p1, p2, p3⟩ := ptsOf_len hs
  have hrok := h.whole.rok
  have htx := h.text
  have hvt : valid t = true := by rw [← htx]; exact valid_iff.2 (atoms_valid h.whole.ok.txt _ _)
  have hck := check_end hvt hs (by omega)
  have hun : E.R.undone (E.R.head : Nat) = [] := hrok.top.1.trans h.top
  have htx' : atomsText (E.R.head : Nat) [] E.l = t := by rw [← hun]; exact htx
  have hend : EndSeen (E.R.head : Nat) [] E.l := by
    rcases List.eq_nil_or_concat E.l with e | ⟨L', b, e⟩
    · exact .inl e
    · refine .inr ⟨L', b, by rw [e]; simp, h.vis b (by rw [e]; simp), (h.whole.ok.txt b (by rw [e]; simp)).1⟩
  have hup := upon_end (rev := (E.R.head : Int) + 1) (g := g) (rank := 0) (s := s) hend (by rw [htx']; exact hck)
  rw [htx'] at hup
  have hadd := add_good (R := E.R) (g := g) (by rw [h.gone]; simp) (by omega) (by omega) (by rw [h.head]; omega)
  have hnl : (newAtoms ((E.R.head : Int) + 1) g 0 (ptsOf s)).length = (ptsOf s).length := by simp [newAtoms]
  have hlen : (E.l ++ newAtoms ((E.R.head : Int) + 1) g 0 (ptsOf s)).length ≤ 4000 := by have := h.len; rw [List.length_append, hnl]; omega
  have hcps : ∀ a ∈ E.l ++ newAtoms ((E.R.head : Int) + 1) g 0 (ptsOf s), IsCP a.text := fun a ha => by
    rcases List.mem_append.1 ha with ha | ha
    · exact h.whole.ok.txt a ha
    · rw [newAtoms, List.mem_map] at ha; obtain ⟨p, hp, rfl⟩ := ha; exact p3 p hp
  have he : editE E (i : Nat) g 0 [⟨(t.length : Nat), (t.length : Nat), s⟩] = (⟨E.l ++ newAtoms ((E.R.head : Int) + 1) g 0 (ptsOf s), { E.R.push E.R.top with grp := insS g E.R.grp }⟩, ((i + 1 : Nat) : Int), 0) := by
    rw [← h.head]
    have hlv := Eng.live_head hrok
    rw [editE, if_neg (by simp [hlv]), htx, if_neg (fun hn => hn hck), hun, hadd, if_neg (by simp), if_neg (by decide), hup, if_neg (by omega), if_neg (by simp only [Eng.text]; exact Nat.not_lt.2 (short_text hlen hcps _ _))]
    rfl
  have hw' := h.whole.edit he
  obtain ⟨_, _, _, _, _, _, _, _, _, _, hh'⟩ := edit_shape hrok he
  have hgn : ∀ a ∈ newAtoms ((E.R.head : Int) + 1) g 0 (ptsOf s), a.cuts = [] ∧ a.group = g := fun a ha => by
    rw [newAtoms, List.mem_map] at ha; obtain ⟨p, hp, rfl⟩ := ha; exact ⟨rfl, rfl⟩
  have hnt : ((newAtoms ((E.R.head : Int) + 1) g 0 (ptsOf s)).map (·.text)).flatten = s := by
    rw [newAtoms, List.map_map]
    rw [show (List.map ((fun x => x.text) ∘ fun b => (⟨b, (E.R.head : Int) + 1, g, 0, []⟩ : Atom)) (ptsOf s)) = ptsOf s from List.map_id _, p2]
  refine ⟨_, he, ⟨hw', by rw [hh', h.head], top_push E.R E.R.top |>.trans h.top, h.gone, fun a ha => ?_, fun a ha => ?_, ?_, ?_, ?_⟩⟩
  · rcases List.mem_append.1 ha with ha | ha
    · exact h.cuts a ha
    · exact (hgn a ha).1
  · rcases List.mem_append.1 ha with ha | ha
    · exact h.g01 a ha
    · rw [(hgn a ha).2]; exact hg
  · simp only [List.map_append, List.flatten_append, h.txt, hnt]
  · simp only [List.filter_append, List.map_append, List.flatten_append, h.sub]
    rcases hg with rfl | rfl
    · rw [if_pos rfl, List.filter_eq_self.2 (fun a ha => by rw [(hgn a ha).2]; rfl), hnt]
    · rw [if_neg (by decide), List.filter_eq_nil_iff.2 (fun a ha => by rw [(hgn a ha).2]; simp)]; simp
  · simp only [List.length_append, hnl]; have := h.len; omega
theorem GrInv.same {E : Eng} {i : Nat} {t u : List UInt8} (h : GrInv E i t u) (h1 : (1 : Int) ∉ E.R.grp) : t = u := by
  rw [← h.txt, ← h.sub, List.filter_eq_self.2]
  intro a ha
  have hg := (h.whole.known.grp a ha).1
  have h2 := h.g01 a ha
  simp only [decide_eq_true_eq]
  intro e
  rw [e] at hg
  rcases hg with hg | hg
  · exact h1 hg
  · cases hg
theorem GrInv.toggle {E : Eng} {i : Nat} {t u : List UInt8} (h : GrInv E i t u) (hi : i < 200) (h1 : (1 : Int) ∈ E.R.grp) : ∃ E', toggleE E 1 = (E', ((i + 1 : Nat) : Int), 0) ∧ E'.R.Ok ∧ E'.text (E'.R.head : Nat) = u := by
  have hrok := h.whole.rok
  have ht : toggleR E.R 1 = (E.R.push (flip 1 E.R.top), (E.R.head : Int) + 1, 0) := by
    rw [toggleR, if_neg (by simp [h1]), if_neg (by rw [h.head]; omega)]
  have he : toggleE E 1 = (⟨E.l, E.R.push (flip 1 E.R.top)⟩, ((i + 1 : Nat) : Int), 0) := by
    rw [toggleE, ht, if_neg (by simp), if_neg (by simp only [Eng.text]; exact Nat.not_lt.2 (short_text h.whole.ok.len h.whole.ok.txt _ _)), h.head]; rfl
  have hw' := h.whole.toggle he
  obtain ⟨_, _, _, _, hh'⟩ := toggle_shape hrok he
  have hun := hw'.rok.top.1
  have htp : (E.R.push (flip 1 E.R.top)).top = [1] := by rw [top_push, h.top]; rfl
  simp only [htp] at hun
  refine ⟨_, he, hw'.rok, ?_⟩
  rw [Eng.text]
  simp only at hh' ⊢
  rw [hun, hh', filter_text, ← h.sub]
  congr 2
  refine List.filter_congr fun a ha => ?_
  have h2 := (h.whole.known.old a ha).1
  have h3 := h.g01 a ha
  have h4 : a.rev ≤ (E.R.head : Int) + 1 := by omega
  rcases h3 with h3 | h3 <;> simp [visible, holds, h.cuts a ha, h3, h4]
end Go.Proofs.YtkjikdohnomajaaGreat.M
namespace Go.Proofs.YtkjikdohnomajaaGreat.M
open Go Go.Mini
attribute [local congr] go1_congr goM_congr goG_congr goV_congr drawwp_congr Xwp_congr
theorem rand31 (b : UInt8) : bitOp .and .i64 (b.toNat : Int) 31 = ((b.toNat % 32 : Nat) : Int) := fin_byte (p := fun n => bitOp .and .i64 (n : Int) 31 = ((n % 32 : Nat) : Int)) (by decide +kernel) b
theorem rand15 (b : UInt8) : bitOp .and .i64 (b.toNat : Int) 15 = ((b.toNat % 16 : Nat) : Int) := fin_byte (p := fun n => bitOp .and .i64 (n : Int) 15 = ((n % 16 : Nat) : Int)) (by decide +kernel) b
theorem rand7 (b : UInt8) : bitOp .and .i64 (b.toNat : Int) 7 = ((b.toNat % 8 : Nat) : Int) := fin_byte (p := fun n => bitOp .and .i64 (n : Int) 7 = ((n % 8 : Nat) : Int)) (by decide +kernel) b
theorem rand63 (b : UInt8) : bitOp .and .i64 (b.toNat : Int) 63 = ((b.toNat % 64 : Nat) : Int) := fin_byte (p := fun n => bitOp .and .i64 (n : Int) 63 = ((n % 64 : Nat) : Int)) (by decide +kernel) b
theorem ror6 {x y : Nat} (hx : x < 33554432) (hy : y < 64) : bitOp .or .i64 ((x * 64 : Nat) : Int) (y : Int) = ((x * 64 + y : Nat) : Int) := by
  have h1 : (BitVec.ofInt 64 ((x * 64 : Nat) : Int)).toNat = x * 64 := by
    rw [BitVec.toNat_ofInt]; omega
  have h2 : (BitVec.ofInt 64 (y : Int)).toNat = y := by
    rw [BitVec.toNat_ofInt]; omega
  have h3 : (BitVec.ofInt 64 ((x * 64 : Nat) : Int) ||| BitVec.ofInt 64 (y : Int)).toNat = x * 64 + y := by
    rw [BitVec.toNat_or, h1, h2]
    have := Nat.two_pow_add_eq_or_of_lt (i := 6) (b := y) (by omega) x
    rw [show 2 ^ 6 * x = x * 64 by omega] at this
    exact this.symm
  simp only [bitOp]
  show IntKind.i64.wrap (((BitVec.ofInt 64 ((x * 64 : Nat) : Int) ||| BitVec.ofInt 64 (y : Int)).toNat : Nat) : Int) = _
  rw [h3, wrap_id (by omega) (by omega)]
theorem rshl6 {x : Nat} (hx : x < 33554432) : IntKind.i64.wrap ((x : Int) * 2 ^ (min 6 (IntKind.bits .i64))) = ((x * 64 : Nat) : Int) := by
  have e : (2 : Int) ^ (min 6 (IntKind.bits .i64)) = 64 := by decide
  rw [e, show (x : Int) * 64 = ((x * 64 : Nat) : Int) by push_cast; rfl, wrap_id (by omega) (by omega)]
theorem rshr6 (x : Nat) : (x : Int).fdiv (2 ^ (min 6 (IntKind.bits .i64))) = ((x / 64 : Nat) : Int) := by
  have e : (2 : Int) ^ (min 6 (IntKind.bits .i64)) = 64 := by decide
  rw [e, Int.fdiv_eq_ediv_of_nonneg _ (by decide)]; rfl
set_option maxHeartbeats 8000000 in
theorem rsize_call (σ : Heap) (s : List UInt8) (at' : Int) (hs : s.length ≤ maxRoom) : ACall Tryz.prog n_palinoderef1_Size [.str s, .int .i64 at'] σ (.int .i64 ((ptAt s at').2 : Int)) σ := by
  refine bare_call rfl rfl (fun W F => spec_of_awp mixed c_palinoderef1_Size (tl rfl) ?_) σ
  unfold f_palinoderef1_Size
  have hroom : maxRoom = 68719476736 := rfl
  by_cases h1 : at' < 0
  · simp only [↓evd, evu, evf, implies_true, reduceCtorEq, Nat.reduceEqDiff, ↓reduceIte, Nat.reduceAdd, Nat.reduceLeDiff, Nat.reduceLT, Nat.reduceMul, Int.reduceLT, Int.reduceLE, Int.reduceToNat, evz, h1]
    exact seen (by rw [ptAt, if_pos h1]; rfl) rfl rfl
  by_cases h2 : (s.length : Int) ≤ at'
  · simp only [↓evd, evu, evf, implies_true, reduceCtorEq, Nat.reduceEqDiff, ↓reduceIte, Nat.reduceAdd, Nat.reduceLeDiff, Nat.reduceLT, Nat.reduceMul, Int.reduceLT, Int.reduceLE, Int.reduceToNat, evz, h1, h2]
    refine seen ?_ rfl rfl
    rw [ptAt, if_neg h1, List.drop_eq_nil_of_le (by omega)]; rfl
  obtain ⟨i, rfl⟩ : ∃ i : Nat, at' = (i : Int) := ⟨at'.toNat, by omega⟩
  have hi : i < s.length := by omega
  have h0 : (0 : Int) ≤ (i : Int) := by omega
  have hg : s[i]? = some s[i] := List.getElem?_eq_getElem hi
  have hd := List.drop_eq_getElem_cons hi
  have hpt : ptAt s (i : Int) = pt (s[i] :: s.drop (i + 1)) := by rw [ptAt, if_neg h1, Int.toNat_natCast, hd]
  rw [hpt]
  generalize s[i] = a at hg
  have hab := a.toNat_lt
  have hw : IntKind.i64.wrap (a.toNat : Int) = (a.toNat : Int) := wrap_id (by omega) (by omega)
  have hrl : (s.drop (i + 1)).length = s.length - (i + 1) := List.length_drop
  by_cases c1 : a.toNat < 128
  · have c1' : (a.toNat : Int) < 128 := by omega
    simp only [↓evd, evu, evf, implies_true, reduceCtorEq, Nat.reduceEqDiff, ↓reduceIte, Nat.reduceAdd, Nat.reduceLeDiff, Nat.reduceLT, Nat.reduceMul, Int.reduceLT, Int.reduceLE, Int.reduceToNat, evz, h1, h2, h0, hg, hw, c1']
    exact seen (by rw [pt, if_pos c1]; rfl) rfl rfl
  have c1' : ¬ (a.toNat : Int) < 128 := by omega
  by_cases cn : ¬ (a.toNat / 32 = 6) ∧ ¬ (a.toNat / 16 = 14) ∧ ¬ (a.toNat / 8 = 30)
  · have e : pt (a :: s.drop (i + 1)) = (0, 0) := by rw [pt, if_neg c1, if_neg cn.1, if_neg cn.2.1, if_neg cn.2.2]
    rw [e]
    by_cases d1 : (192 : Int) ≤ a.toNat
    · have d2 : ¬ (a.toNat : Int) < 224 := by omega
      have d3 : (224 : Int) ≤ a.toNat := by omega
      have d4 : ¬ (a.toNat : Int) < 240 := by omega
      have d5 : (240 : Int) ≤ a.toNat := by omega
      have d6 : ¬ (a.toNat : Int) < 248 := by omega
      simp only [↓evd, evu, evf, implies_true, reduceCtorEq, Nat.reduceEqDiff, ↓reduceIte, Nat.reduceAdd, Nat.reduceLeDiff, Nat.reduceLT, Nat.reduceMul, Int.reduceLT, Int.reduceLE, Int.reduceToNat, evz, h1, h2, h0, hg, hw, c1', d1, d2, d3, d4, d5, d6]
      exact seen rfl rfl rfl
    · have d3 : ¬ (224 : Int) ≤ a.toNat := by omega
      have d5 : ¬ (240 : Int) ≤ a.toNat := by omega
      simp only [↓evd, evu, evf, implies_true, reduceCtorEq, Nat.reduceEqDiff, ↓reduceIte, Nat.reduceAdd, Nat.reduceLeDiff, Nat.reduceLT, Nat.reduceMul, Int.reduceLT, Int.reduceLE, Int.reduceToNat, evz, h1, h2, h0, hg, hw, c1', d1, d3, d5]
      exact seen rfl rfl rfl
  obtain ⟨n, v0, least, hpt2, hcase⟩ : ∃ n v0 least : Nat, pt (a :: s.drop (i + 1)) = ptN v0 n least (s.drop (i + 1)) ∧ ((a.toNat / 32 = 6 ∧ n = 2 ∧ v0 = a.toNat % 32 ∧ least = 128) ∨ (a.toNat / 16 = 14 ∧ n = 3 ∧ v0 = a.toNat % 16 ∧ least = 2048) ∨ (a.toNat / 8 = 30 ∧ n = 4 ∧ v0 = a.toNat % 8 ∧ least = 65536)) := by
    by_cases e1 : a.toNat / 32 = 6
    · exact ⟨2, _, 128, by rw [pt, if_neg c1, if_pos e1], .inl ⟨e1, rfl, rfl, rfl⟩⟩
    · by_cases e2 : a.toNat / 16 = 14
      · exact ⟨3, _, 2048, by rw [pt, if_neg c1, if_neg e1, if_pos e2], .inr (.inl ⟨e2, rfl, rfl, rfl⟩)⟩
      · have e3 : a.toNat / 8 = 30 := Classical.byContradiction fun e3 => cn ⟨e1, e2, e3⟩
        exact ⟨4, _, 65536, by rw [pt, if_neg c1, if_neg e1, if_neg e2, if_pos e3], .inr (.inr ⟨e3, rfl, rfl, rfl⟩)⟩
  rw [hpt2]
  have hn4 : 2 ≤ n ∧ n ≤ 4 := by rcases hcase with h | h | h <;> omega
  have hv0 : v0 < 32 := by rcases hcase with h | h | h <;> omega
  have hlw : IntKind.i64.wrap ((s.length : Int) - (i : Int)) = (s.length : Int) - (i : Int) := wrap_id (by omega) (by omega)
  rcases hcase with ⟨hc, hn, hv, hle⟩ | ⟨hc, hn, hv, hle⟩ | ⟨hc, hn, hv, hle⟩
  all_goals
    by_cases hsh : (s.length : Int) - (i : Int) < (n : Int)
    · have hcn : ptN v0 n least (s.drop (i + 1)) = (0, 0) := by
        rw [ptN, conts_short (n - 1) v0 _ (by omega)]
      rw [hcn]
      rw [hn] at hsh
      first
        | (have d1 : (192 : Int) ≤ a.toNat := by omega
           have d2 : (a.toNat : Int) < 224 := by omega
           simp only [↓evd, evu, evf, implies_true, reduceCtorEq, Nat.reduceEqDiff, ↓reduceIte, Nat.reduceAdd, Nat.reduceLeDiff, Nat.reduceLT, Nat.reduceMul, Int.reduceLT, Int.reduceLE, Int.reduceToNat, evz, h1, h2, h0, hg, hw, c1', d1, d2, hlw]
           have hsh' : (s.length : Int) - (i : Int) < 2 := hsh
           simp only [↓evd, evu, evf, implies_true, reduceCtorEq, Nat.reduceEqDiff, ↓reduceIte, Nat.reduceAdd, Nat.reduceLeDiff, Nat.reduceLT, Nat.reduceMul, Int.reduceLT, Int.reduceLE, Int.reduceToNat, evz, hsh']
           exact seen rfl rfl rfl)
        | (have d1 : (192 : Int) ≤ a.toNat := by omega
           have d2 : ¬ (a.toNat : Int) < 224 := by omega
           have d3 : (224 : Int) ≤ a.toNat := by omega
           have d4 : (a.toNat : Int) < 240 := by omega
           simp only [↓evd, evu, evf, implies_true, reduceCtorEq, Nat.reduceEqDiff, ↓reduceIte, Nat.reduceAdd, Nat.reduceLeDiff, Nat.reduceLT, Nat.reduceMul, Int.reduceLT, Int.reduceLE, Int.reduceToNat, evz, h1, h2, h0, hg, hw, c1', d1, d2, d3, d4, hlw]
           have hsh' : (s.length : Int) - (i : Int) < 3 := hsh
           simp only [↓evd, evu, evf, implies_true, reduceCtorEq, Nat.reduceEqDiff, ↓reduceIte, Nat.reduceAdd, Nat.reduceLeDiff, Nat.reduceLT, Nat.reduceMul, Int.reduceLT, Int.reduceLE, Int.reduceToNat, evz, hsh']
           exact seen rfl rfl rfl)
        | (have d1 : (192 : Int) ≤ a.toNat := by omega
           have d2 : ¬ (a.toNat : Int) < 224 := by omega
           have d3 : (224 : Int) ≤ a.toNat := by omega
           have d4 : ¬ (a.toNat : Int) < 240 := by omega
           have d5 : (240 : Int) ≤ a.toNat := by omega
           have d6 : (a.toNat : Int) < 248 := by omega
           simp only [↓evd, evu, evf, implies_true, reduceCtorEq, Nat.reduceEqDiff, ↓reduceIte, Nat.reduceAdd, Nat.reduceLeDiff, Nat.reduceLT, Nat.reduceMul, Int.reduceLT, Int.reduceLE, Int.reduceToNat, evz, h1, h2, h0, hg, hw, c1', d1, d2, d3, d4, d5, d6, hlw]
           have hsh' : (s.length : Int) - (i : Int) < 4 := hsh
           simp only [↓evd, evu, evf, implies_true, reduceCtorEq, Nat.reduceEqDiff, ↓reduceIte, Nat.reduceAdd, Nat.reduceLeDiff, Nat.reduceLT, Nat.reduceMul, Int.reduceLT, Int.reduceLE, Int.reduceToNat, evz, hsh']
           exact seen rfl rfl rfl)
    · have hsh' := hsh
      rw [hn] at hsh'
      first
        | (have d1 : (192 : Int) ≤ a.toNat := by omega
           have d2 : (a.toNat : Int) < 224 := by omega
           have hshn : ¬ (s.length : Int) - (i : Int) < 2 := hsh'
           simp only [↓evd, evu, evf, implies_true, reduceCtorEq, Nat.reduceEqDiff, ↓reduceIte, Nat.reduceAdd, Nat.reduceLeDiff, Nat.reduceLT, Nat.reduceMul, Int.reduceLT, Int.reduceLE, Int.reduceToNat, evz, h1, h2, h0, hg, hw, c1', d1, d2, hlw, hshn, rand31])
        | (have d1 : (192 : Int) ≤ a.toNat := by omega
           have d2 : ¬ (a.toNat : Int) < 224 := by omega
           have d3 : (224 : Int) ≤ a.toNat := by omega
           have d4 : (a.toNat : Int) < 240 := by omega
           have hshn : ¬ (s.length : Int) - (i : Int) < 3 := hsh'
           simp only [↓evd, evu, evf, implies_true, reduceCtorEq, Nat.reduceEqDiff, ↓reduceIte, Nat.reduceAdd, Nat.reduceLeDiff, Nat.reduceLT, Nat.reduceMul, Int.reduceLT, Int.reduceLE, Int.reduceToNat, evz, h1, h2, h0, hg, hw, c1', d1, d2, d3, d4, hlw, hshn, rand15])
        | (have d1 : (192 : Int) ≤ a.toNat := by omega
           have d2 : ¬ (a.toNat : Int) < 224 := by omega
           have d3 : (224 : Int) ≤ a.toNat := by omega
           have d4 : ¬ (a.toNat : Int) < 240 := by omega
           have d5 : (240 : Int) ≤ a.toNat := by omega
           have d6 : (a.toNat : Int) < 248 := by omega
           have hshn : ¬ (s.length : Int) - (i : Int) < 4 := hsh'
           simp only [↓evd, evu, evf, implies_true, reduceCtorEq, Nat.reduceEqDiff, ↓reduceIte, Nat.reduceAdd, Nat.reduceLeDiff, Nat.reduceLT, Nat.reduceMul, Int.reduceLT, Int.reduceLE, Int.reduceToNat, evz, h1, h2, h0, hg, hw, c1', d1, d2, d3, d4, d5, d6, hlw, hshn, rand7])
      refine awp_loop (fun m fr τ => ∃ j x : Nat, m + j = n ∧ 1 ≤ j ∧ j ≤ n ∧ fr.get 0 = .str s ∧ fr.get 1 = .int .i64 (i : Int) ∧ fr.get 6 = .int .i64 (n : Int) ∧ fr.get 8 = .int .i64 (least : Int) ∧ fr.get 7 = .int .i64 (x : Int) ∧ fr.get 9 = .int .i64 (j : Int) ∧ x < 32 * 64 ^ (j - 1) ∧ conts x (n - j) (s.drop (i + j)) = conts v0 (n - 1) (s.drop (i + 1)) ∧ τ.W = W ∧ τ.F0 = F) ?_ (m := n - 1) ?_
      · rintro m fr τ ⟨j, x, hm, hj1, hj2, e0, e1, e6, e8, e7, e9, hx, hcc, hW, hF⟩
        have hx25 : x < 33554432 := by
          have h3 : j - 1 ≤ 3 := by omega
          have := Nat.pow_le_pow_right (n := 64) (by omega) h3
          have : (64 : Nat) ^ 3 = 262144 := by decide
          omega
        by_cases hlt : j < n
        · have hlt' : (j : Int) < (n : Int) := by omega
          have hai : i + j < s.length := by omega
          have hw2 : IntKind.i64.wrap ((i : Int) + (j : Int)) = ((i + j : Nat) : Int) := by rw [wrap_id (by omega) (by omega)]; omega
          have h0j : (0 : Int) ≤ ((i + j : Nat) : Int) := by omega
          have hgi : s[i + j]? = some s[i + j] := List.getElem?_eq_getElem hai
          have hwj := wrap_succ (i := j) (by omega)
          obtain ⟨k, hk⟩ : ∃ k, n - j = k + 1 := ⟨n - j - 1, by omega⟩
          rw [List.drop_eq_getElem_cons hai, hk, conts] at hcc
          generalize s[i + j] = b at hgi hcc
          have hbb := b.toNat_lt
          have hwb : IntKind.i64.wrap (b.toNat : Int) = (b.toNat : Int) := wrap_id (by omega) (by omega)
          by_cases hb : b.toNat / 64 = 2
          · rw [if_pos hb] at hcc
            have hbn : (((b.toNat / 64 : Nat) : Int) != 2) = false := by rw [hb]; rfl
            have hor := ror6 (x := x) (y := b.toNat % 64) hx25 (by omega)
            simp only [↓evd, evu, evf, implies_true, reduceCtorEq, Nat.reduceEqDiff, ↓reduceIte, Nat.reduceAdd, Nat.reduceLeDiff, Nat.reduceLT, Nat.reduceMul, Int.reduceLT, Int.reduceLE, Int.reduceToNat, evz, e0, e1, e6, e8, e7, e9, hlt', hw2, h0j, hgi, hwb, rshr6, hbn, rshl6 hx25, rand63, hor, hwj]
            refine ⟨m - 1, by omega, j + 1, x * 64 + b.toNat % 64, by omega, by omega, by omega, rfl, rfl, ?_, ?_, hW, hF⟩
            · rw [Nat.add_sub_cancel]
              obtain ⟨q, rfl⟩ : ∃ q, j = q + 1 := ⟨j - 1, by omega⟩
              rw [Nat.add_sub_cancel] at hx
              rw [Nat.pow_succ]; omega
            · rw [← hcc, show n - (j + 1) = k by omega, show i + (j + 1) = i + j + 1 by omega]
          · rw [if_neg hb] at hcc
            have hbn : (((b.toNat / 64 : Nat) : Int) != 2) = true := by
              rw [bne_iff_ne]; intro h; apply hb; omega
            simp only [↓evd, evu, evf, implies_true, reduceCtorEq, Nat.reduceEqDiff, ↓reduceIte, Nat.reduceAdd, Nat.reduceLeDiff, Nat.reduceLT, Nat.reduceMul, Int.reduceLT, Int.reduceLE, Int.reduceToNat, evz, e0, e1, e6, e8, e7, e9, hlt', hw2, h0j, hgi, hwb, rshr6, hbn]
            exact seen (by rw [ptN, ← hcc]; rfl) hW hF
        · have hlt' : ¬ (j : Int) < (n : Int) := by omega
          have hjn : n - j = 0 := by omega
          rw [hjn, conts] at hcc
          have hp : ptN v0 n least (s.drop (i + 1)) = if (decide (x < least) || !isPt x) = true then (0, 0) else (x, n) := by rw [ptN, ← hcc]
          rw [hp]
          by_cases q1 : x < least
          · have q1' : (x : Int) < (least : Int) := by omega
            simp only [↓evd, evu, evf, implies_true, reduceCtorEq, Nat.reduceEqDiff, ↓reduceIte, Nat.reduceAdd, Nat.reduceLeDiff, Nat.reduceLT, Nat.reduceMul, Int.reduceLT, Int.reduceLE, Int.reduceToNat, evz, e0, e1, e6, e8, e7, e9, hlt', q1']
            exact seen (by simp [q1]) hW hF
          have q1' : ¬ (x : Int) < (least : Int) := by omega
          by_cases q2 : (1114111 : Int) < (x : Int)
          · simp only [↓evd, evu, evf, implies_true, reduceCtorEq, Nat.reduceEqDiff, ↓reduceIte, Nat.reduceAdd, Nat.reduceLeDiff, Nat.reduceLT, Nat.reduceMul, Int.reduceLT, Int.reduceLE, Int.reduceToNat, evz, e0, e1, e6, e8, e7, e9, hlt', q1', q2]
            have : isPt x = false := by simp only [isPt]; rw [decide_eq_false (by omega)]; rfl
            exact seen (by simp [q1, this]) hW hF
          by_cases q3 : (55296 : Int) ≤ (x : Int)
          · by_cases q4 : (x : Int) < 57344
            · simp only [↓evd, evu, evf, implies_true, reduceCtorEq, Nat.reduceEqDiff, ↓reduceIte, Nat.reduceAdd, Nat.reduceLeDiff, Nat.reduceLT, Nat.reduceMul, Int.reduceLT, Int.reduceLE, Int.reduceToNat, evz, e0, e1, e6, e8, e7, e9, hlt', q1', q2, q3, q4]
              have : isPt x = false := by simp only [isPt]; rw [decide_eq_false (show ¬ x < 55296 by omega), decide_eq_false (show ¬ 57343 < x by omega)]; simp
              exact seen (by simp [q1, this]) hW hF
            · simp only [↓evd, evu, evf, implies_true, reduceCtorEq, Nat.reduceEqDiff, ↓reduceIte, Nat.reduceAdd, Nat.reduceLeDiff, Nat.reduceLT, Nat.reduceMul, Int.reduceLT, Int.reduceLE, Int.reduceToNat, evz, e0, e1, e6, e8, e7, e9, hlt', q1', q2, q3, q4]
              have : isPt x = true := by simp only [isPt]; rw [decide_eq_true (show x ≤ 1114111 by omega), decide_eq_true (show 57343 < x by omega)]; simp
              exact seen (by simp [q1, this]) hW hF
          · simp only [↓evd, evu, evf, implies_true, reduceCtorEq, Nat.reduceEqDiff, ↓reduceIte, Nat.reduceAdd, Nat.reduceLeDiff, Nat.reduceLT, Nat.reduceMul, Int.reduceLT, Int.reduceLE, Int.reduceToNat, evz, e0, e1, e6, e8, e7, e9, hlt', q1', q2, q3]
            have : isPt x = true := by simp only [isPt]; rw [decide_eq_true (show x ≤ 1114111 by omega), decide_eq_true (show x < 55296 by omega)]; simp
            exact seen (by simp [q1, this]) hW hF
      · refine ⟨1, v0, by omega, Nat.le_refl _, by omega, ?_⟩
        simp only [↓evd, evu, evf, implies_true, reduceCtorEq, Nat.reduceEqDiff, ↓reduceIte, Nat.reduceAdd, Nat.reduceLeDiff, Nat.reduceLT, Nat.reduceMul, Int.reduceLT, Int.reduceLE, Int.reduceToNat, evz, hn, hv, hle]
        first | done | simpa using hv0 | (simp; omega)
end Go.Proofs.YtkjikdohnomajaaGreat.M
namespace Go.Proofs.YtkjikdohnomajaaGreat.M
open Go Go.Mini
attribute [local congr] go1_congr goM_congr goG_congr goV_congr drawwp_congr Xwp_congr
set_option maxHeartbeats 1000000 in
theorem rvalid_call (σ : Heap) (s : List UInt8) (hs : s.length ≤ maxRoom) : ACall Tryz.prog n_palinoderef1_Valid [.str s] σ (.bool (valid s)) σ := by
  refine bare_call rfl rfl (fun W F => spec_of_awp mixed c_palinoderef1_Valid (tl rfl) ?_) σ
  unfold f_palinoderef1_Valid
  have hroom : maxRoom = 68719476736 := rfl
  simp only [↓evd, evu, evf, implies_true, reduceCtorEq, Nat.reduceEqDiff, ↓reduceIte, Nat.reduceAdd, Nat.reduceLeDiff, Nat.reduceLT, Nat.reduceMul, Int.reduceLT, Int.reduceLE, Int.reduceToNat, evz]
  refine awp_loop (fun m fr τ => ∃ i, m + i = s.length ∧ fr.get 0 = .str s ∧ fr.get 3 = .int .i64 (i : Nat) ∧ τ = ⟨W, F, .nil, 0⟩ ∧ valid (s.drop i) = valid s) ?_ (m := s.length) ?_
  · rintro m fr τ ⟨i, hi, e0, e3, rfl, hv⟩
    by_cases hlt : i < s.length
    · have hlt' : (i : Int) < (s.length : Int) := by omega
      have hne : s.drop i ≠ [] := by intro h; have := congrArg List.length h; simp at this; omega
      have hle := pt_le (s.drop i)
      rw [List.length_drop] at hle
      rw [valid_step hne] at hv
      have hpa : ptAt s (i : Int) = pt (s.drop i) := by simp only [ptAt]; rw [if_neg (by omega), Int.toNat_natCast]
      simp only [↓evd, evu, evf, implies_true, reduceCtorEq, Nat.reduceEqDiff, ↓reduceIte, Nat.reduceAdd, Nat.reduceLeDiff, Nat.reduceLT, Nat.reduceMul, Int.reduceLT, Int.reduceLE, Int.reduceToNat, evz, e0, e3, hlt']
      refine MSpec.of (rsize_call _ s i hs) ?_
      rw [hpa]
      by_cases hz : (pt (s.drop i)).2 = 0
      · have hb : (((pt (s.drop i)).2 : Int) == 0) = true := by rw [hz]; rfl
        rw [if_pos hz] at hv
        simp only [↓evd, evu, evf, implies_true, reduceCtorEq, Nat.reduceEqDiff, ↓reduceIte, Nat.reduceAdd, Nat.reduceLeDiff, Nat.reduceLT, Nat.reduceMul, Int.reduceLT, Int.reduceLE, Int.reduceToNat, evz, hb]
        exact seen (by rw [← hv]) rfl rfl
      · have hb : (((pt (s.drop i)).2 : Int) == 0) = false := by rw [beq_eq_false_iff_ne]; omega
        rw [if_neg hz, List.drop_drop] at hv
        have hw : IntKind.i64.wrap ((i : Int) + ((pt (s.drop i)).2 : Int)) = ((i + (pt (s.drop i)).2 : Nat) : Int) := by rw [wrap_id (by omega) (by omega)]; omega
        simp only [↓evd, evu, evf, implies_true, reduceCtorEq, Nat.reduceEqDiff, ↓reduceIte, Nat.reduceAdd, Nat.reduceLeDiff, Nat.reduceLT, Nat.reduceMul, Int.reduceLT, Int.reduceLE, Int.reduceToNat, evz, hb, e0, e3, hw]
        exact ⟨m - (pt (s.drop i)).2, by omega, i + (pt (s.drop i)).2, by omega, rfl, hv⟩
    · have hlt' : ¬ (i : Int) < (s.length : Int) := by omega
      rw [List.drop_eq_nil_of_le (by omega)] at hv
      simp only [↓evd, evu, evf, implies_true, reduceCtorEq, Nat.reduceEqDiff, ↓reduceIte, Nat.reduceAdd, Nat.reduceLeDiff, Nat.reduceLT, Nat.reduceMul, Int.reduceLT, Int.reduceLE, Int.reduceToNat, evz, e0, e3, hlt']
      exact seen (by rw [← hv]; rfl) rfl rfl
  · exact ⟨0, by omega, by first | (simp only [↓evd, evu, evf, implies_true, reduceCtorEq, Nat.reduceEqDiff, ↓reduceIte, Nat.reduceAdd, Nat.reduceLeDiff, Nat.reduceLT, Nat.reduceMul, Int.reduceLT, Int.reduceLE, Int.reduceToNat, evz]; done) | (simp only [↓evd, evu, evf, implies_true, reduceCtorEq, Nat.reduceEqDiff, ↓reduceIte, Nat.reduceAdd, Nat.reduceLeDiff, Nat.reduceLT, Nat.reduceMul, Int.reduceLT, Int.reduceLE, Int.reduceToNat, evz]; first | rfl | (repeat' apply And.intro) <;> rfl)⟩
end Go.Proofs.YtkjikdohnomajaaGreat.M
set_option maxRecDepth 1000000
set_option maxHeartbeats 0
namespace Go.Proofs.YtkjikdohnomajaaGreat.M
open Go Go.Mini
def tblK : List (Nat × SFunc) := [(n_palinodetop_known, f_palinodetop_known), (n_engine_New, f_engine_New), (n_engine_Engine_Edit, f_engine_Engine_Edit), (n_engine_Engine_Head, f_engine_Engine_Head), (n_diff_Between, f_diff_Between), (n_engine_Engine_Text, f_engine_Engine_Text), (n_engine_Engine_Live, f_engine_Engine_Live), (n_view_New, f_view_New), (n_view_View_Do, f_view_View_Do), (n_view_View_Text, f_view_View_Text), (n_view_View_Head, f_view_View_Head), (n_rev_New, f_rev_New), (n_edit_Check, f_edit_Check), (n_engine_Engine_Copy, f_engine_Engine_Copy), (n_rev_Revs_Add, f_rev_Revs_Add), (n_edit_Upon, f_edit_Upon), (n_engine_Engine_UndoneAt, f_engine_Engine_UndoneAt), (n_engine_Engine_fits, f_engine_Engine_fits), (n_rev_Revs_Head, f_rev_Revs_Head), (n_engine_Engine_Atoms, f_engine_Engine_Atoms), (n_atom_Visible, f_atom_Visible), (n_delta_NewMaker, f_delta_NewMaker), (n_diff_each, f_diff_each), (n_diff_Between_1, f_diff_Between_1), (n_delta_Maker_Copy, f_delta_Maker_Copy), (n_delta_Maker_Put, f_delta_Maker_Put), (n_delta_Maker_Delta, f_delta_Maker_Delta), (n_atom_Text, f_atom_Text), (n_delta_Is, f_delta_Is), (n_delta_Size, f_delta_Size), (n_rev_Revs_Live, f_rev_Revs_Live), (n_slices_Contains_int_int, f_slices_Contains_int_int), (n_view_View_told, f_view_View_told), (n_view_View_Copy, f_view_View_Copy), (n_view_edits, f_view_edits), (n_view_View_edits, f_view_View_edits), (n_view_View_follows, f_view_View_follows), (n_rope_Rope_String, f_rope_Rope_String), (n_utf_Valid, f_utf_Valid), (n_edit_Check_1, f_edit_Check_1), (n_utf_IsEdge, f_utf_IsEdge), (n_edit_first, f_edit_first), (n_edit_Check_2, f_edit_Check_2), (n_edit_Check_3, f_edit_Check_3), (n_edit_order, f_edit_order), (n_edit_Check_4, f_edit_Check_4), (n_edit_long, f_edit_long), (n_atom_Copy, f_atom_Copy), (n_rev_Revs_Copy, f_rev_Revs_Copy), (n_rev_Revs_next, f_rev_Revs_next), (n_edit_Spots, f_edit_Spots), (n_edit_Cuts, f_edit_Cuts), (n_atom_Put, f_atom_Put), (n_rev_Revs_Undone, f_rev_Revs_Undone), (n_rev_set_sorted, f_rev_set_sorted), (n_slices_ContainsFunc_api_Cut_api_Cut, f_slices_ContainsFunc_api_Cut_api_Cut), (n_slices_Clone_api_Cut_api_Cut, f_slices_Clone_api_Cut_api_Cut), (n_atom_holds, f_atom_holds), (n_delta_IsCopy, f_delta_IsCopy), (n_strings_Builder_WriteString, f_strings_Builder_WriteString), (n_delta_elem, f_delta_elem), (n_delta_sums, f_delta_sums), (n_slices_Index_int_int, f_slices_Index_int_int), (n_rope_New, f_rope_New), (n_view_View_Selection, f_view_View_Selection), (n_view_View_Spans, f_view_View_Spans), (n_view_View_Breaks, f_view_View_Breaks), (n_carets_Type, f_carets_Type), (n_region_Move, f_region_Move), (n_spans_Edit, f_spans_Edit), (n_breaks_Edit, f_breaks_Edit), (n_tree_Seq_rope_piece_rope_counts_All, f_tree_Seq_rope_piece_rope_counts_All), (n_utf_Size, f_utf_Size), (n_atom_Places, f_atom_Places), (n_edit_spot, f_edit_spot), (n_utf_Clean, f_utf_Clean), (n_maps_Keys_rev_set_int_unit, f_maps_Keys_rev_set_int_unit), (n_slices_IndexFunc_api_Cut_api_Cut, f_slices_IndexFunc_api_Cut_api_Cut), (n_rope_made, f_rope_made), (n_view_copied_api_Region, f_view_copied_api_Region), (n_view_copied_api_Span, f_view_copied_api_Span), (n_view_copied_int, f_view_copied_int), (n_region_Span, f_region_Span), (n_region_every_api_Region, f_region_every_api_Region), (n_region_Move_1, f_region_Move_1), (n_interval_Is, f_interval_Is), (n_region_count, f_region_count), (n_offset_Move, f_offset_Move), (n_region_apart, f_region_apart), (n_spans_Is, f_spans_Is), (n_spans_told, f_spans_told), (n_breaks_Is, f_breaks_Is), (n_tree_Seq_rope_piece_rope_counts_Len, f_tree_Seq_rope_piece_rope_counts_Len), (n_tree_node_rope_piece_rope_counts_all, f_tree_node_rope_piece_rope_counts_all), (n_utf_point, f_utf_point), (n_tree_Make_rope_piece_rope_counts, f_tree_Make_rope_piece_rope_counts), (n_slices_ContainsFunc_api_Region_api_Region, f_slices_ContainsFunc_api_Region_api_Region), (n_region_every_api_Region_1, f_region_every_api_Region_1), (n_slices_Clone_api_Region_api_Region, f_slices_Clone_api_Region_api_Region), (n_slices_SortStableFunc_api_Region_api_Region, f_slices_SortStableFunc_api_Region_api_Region), (n_interval_Folded_api_Region, f_interval_Folded_api_Region), (n_spans_row_int_sorted, f_spans_row_int_sorted), (n_utf_forms, f_utf_forms), (n_utf_long, f_utf_long), (n_utf_isPoint, f_utf_isPoint), (n_tree_spread_rope_piece_tree_node_rope_piece_rope_counts, f_tree_spread_rope_piece_tree_node_rope_piece_rope_counts), (n_tree_leaf_rope_piece_rope_counts, f_tree_leaf_rope_piece_rope_counts), (n_slices_IndexFunc_api_Region_api_Region, f_slices_IndexFunc_api_Region_api_Region), (n_slices_stableCmpFunc_api_Region, f_slices_stableCmpFunc_api_Region), (n_slices_SortStableFunc_spans_row_int_spans_run_int, f_slices_SortStableFunc_spans_row_int_spans_run_int), (n_slices_insertionSortCmpFunc_api_Region, f_slices_insertionSortCmpFunc_api_Region), (n_slices_stableCmpFunc_spans_run_int, f_slices_stableCmpFunc_spans_run_int), (n_slices_insertionSortCmpFunc_spans_run_int, f_slices_insertionSortCmpFunc_spans_run_int), (n_rope_piece_Sum, f_rope_piece_Sum), (n_count_Of, f_count_Of), (n_count_Plus, f_count_Plus), (n_count_of, f_count_of), (n_count_units, f_count_units), (n_rope_counts_Plus, f_rope_counts_Plus)]
theorem tblK_ok : TblOk Tryz.prog tblK := List.forall_mem_cons.2 ⟨c_palinodetop_known, List.forall_mem_cons.2 ⟨c_engine_New, List.forall_mem_cons.2 ⟨c_engine_Engine_Edit, List.forall_mem_cons.2 ⟨c_engine_Engine_Head, List.forall_mem_cons.2 ⟨c_diff_Between, List.forall_mem_cons.2 ⟨c_engine_Engine_Text, List.forall_mem_cons.2 ⟨c_engine_Engine_Live, List.forall_mem_cons.2 ⟨c_view_New, List.forall_mem_cons.2 ⟨c_view_View_Do, List.forall_mem_cons.2 ⟨c_view_View_Text, List.forall_mem_cons.2 ⟨c_view_View_Head, List.forall_mem_cons.2 ⟨c_rev_New, List.forall_mem_cons.2 ⟨c_edit_Check, List.forall_mem_cons.2 ⟨c_engine_Engine_Copy, List.forall_mem_cons.2 ⟨c_rev_Revs_Add, List.forall_mem_cons.2 ⟨c_edit_Upon, List.forall_mem_cons.2 ⟨c_engine_Engine_UndoneAt, List.forall_mem_cons.2 ⟨c_engine_Engine_fits, List.forall_mem_cons.2 ⟨c_rev_Revs_Head, List.forall_mem_cons.2 ⟨c_engine_Engine_Atoms, List.forall_mem_cons.2 ⟨c_atom_Visible, List.forall_mem_cons.2 ⟨c_delta_NewMaker, List.forall_mem_cons.2 ⟨c_diff_each, List.forall_mem_cons.2 ⟨c_diff_Between_1, List.forall_mem_cons.2 ⟨c_delta_Maker_Copy, List.forall_mem_cons.2 ⟨c_delta_Maker_Put, List.forall_mem_cons.2 ⟨c_delta_Maker_Delta, List.forall_mem_cons.2 ⟨c_atom_Text, List.forall_mem_cons.2 ⟨c_delta_Is, List.forall_mem_cons.2 ⟨c_delta_Size, List.forall_mem_cons.2 ⟨c_rev_Revs_Live, List.forall_mem_cons.2 ⟨c_slices_Contains_int_int, List.forall_mem_cons.2 ⟨c_view_View_told, List.forall_mem_cons.2 ⟨c_view_View_Copy, List.forall_mem_cons.2 ⟨c_view_edits, List.forall_mem_cons.2 ⟨c_view_View_edits, List.forall_mem_cons.2 ⟨c_view_View_follows, List.forall_mem_cons.2 ⟨c_rope_Rope_String, List.forall_mem_cons.2 ⟨c_utf_Valid, List.forall_mem_cons.2 ⟨c_edit_Check_1, List.forall_mem_cons.2 ⟨c_utf_IsEdge, List.forall_mem_cons.2 ⟨c_edit_first, List.forall_mem_cons.2 ⟨c_edit_Check_2, List.forall_mem_cons.2 ⟨c_edit_Check_3, List.forall_mem_cons.2 ⟨c_edit_order, List.forall_mem_cons.2 ⟨c_edit_Check_4, List.forall_mem_cons.2 ⟨c_edit_long, List.forall_mem_cons.2 ⟨c_atom_Copy, List.forall_mem_cons.2 ⟨c_rev_Revs_Copy, List.forall_mem_cons.2 ⟨c_rev_Revs_next, List.forall_mem_cons.2 ⟨c_edit_Spots, List.forall_mem_cons.2 ⟨c_edit_Cuts, List.forall_mem_cons.2 ⟨c_atom_Put, List.forall_mem_cons.2 ⟨c_rev_Revs_Undone, List.forall_mem_cons.2 ⟨c_rev_set_sorted, List.forall_mem_cons.2 ⟨c_slices_ContainsFunc_api_Cut_api_Cut, List.forall_mem_cons.2 ⟨c_slices_Clone_api_Cut_api_Cut, List.forall_mem_cons.2 ⟨c_atom_holds, List.forall_mem_cons.2 ⟨c_delta_IsCopy, List.forall_mem_cons.2 ⟨c_strings_Builder_WriteString, List.forall_mem_cons.2 ⟨c_delta_elem, List.forall_mem_cons.2 ⟨c_delta_sums, List.forall_mem_cons.2 ⟨c_slices_Index_int_int, List.forall_mem_cons.2 ⟨c_rope_New, List.forall_mem_cons.2 ⟨c_view_View_Selection, List.forall_mem_cons.2 ⟨c_view_View_Spans, List.forall_mem_cons.2 ⟨c_view_View_Breaks, List.forall_mem_cons.2 ⟨c_carets_Type, List.forall_mem_cons.2 ⟨c_region_Move, List.forall_mem_cons.2 ⟨c_spans_Edit, List.forall_mem_cons.2 ⟨c_breaks_Edit, List.forall_mem_cons.2 ⟨c_tree_Seq_rope_piece_rope_counts_All, List.forall_mem_cons.2 ⟨c_utf_Size, List.forall_mem_cons.2 ⟨c_atom_Places, List.forall_mem_cons.2 ⟨c_edit_spot, List.forall_mem_cons.2 ⟨c_utf_Clean, List.forall_mem_cons.2 ⟨c_maps_Keys_rev_set_int_unit, List.forall_mem_cons.2 ⟨c_slices_IndexFunc_api_Cut_api_Cut, List.forall_mem_cons.2 ⟨c_rope_made, List.forall_mem_cons.2 ⟨c_view_copied_api_Region, List.forall_mem_cons.2 ⟨c_view_copied_api_Span, List.forall_mem_cons.2 ⟨c_view_copied_int, List.forall_mem_cons.2 ⟨c_region_Span, List.forall_mem_cons.2 ⟨c_region_every_api_Region, List.forall_mem_cons.2 ⟨c_region_Move_1, List.forall_mem_cons.2 ⟨c_interval_Is, List.forall_mem_cons.2 ⟨c_region_count, List.forall_mem_cons.2 ⟨c_offset_Move, List.forall_mem_cons.2 ⟨c_region_apart, List.forall_mem_cons.2 ⟨c_spans_Is, List.forall_mem_cons.2 ⟨c_spans_told, List.forall_mem_cons.2 ⟨c_breaks_Is, List.forall_mem_cons.2 ⟨c_tree_Seq_rope_piece_rope_counts_Len, List.forall_mem_cons.2 ⟨c_tree_node_rope_piece_rope_counts_all, List.forall_mem_cons.2 ⟨c_utf_point, List.forall_mem_cons.2 ⟨c_tree_Make_rope_piece_rope_counts, List.forall_mem_cons.2 ⟨c_slices_ContainsFunc_api_Region_api_Region, List.forall_mem_cons.2 ⟨c_region_every_api_Region_1, List.forall_mem_cons.2 ⟨c_slices_Clone_api_Region_api_Region, List.forall_mem_cons.2 ⟨c_slices_SortStableFunc_api_Region_api_Region, List.forall_mem_cons.2 ⟨c_interval_Folded_api_Region, List.forall_mem_cons.2 ⟨c_spans_row_int_sorted, List.forall_mem_cons.2 ⟨c_utf_forms, List.forall_mem_cons.2 ⟨c_utf_long, List.forall_mem_cons.2 ⟨c_utf_isPoint, List.forall_mem_cons.2 ⟨c_tree_spread_rope_piece_tree_node_rope_piece_rope_counts, List.forall_mem_cons.2 ⟨c_tree_leaf_rope_piece_rope_counts, List.forall_mem_cons.2 ⟨c_slices_IndexFunc_api_Region_api_Region, List.forall_mem_cons.2 ⟨c_slices_stableCmpFunc_api_Region, List.forall_mem_cons.2 ⟨c_slices_SortStableFunc_spans_row_int_spans_run_int, List.forall_mem_cons.2 ⟨c_slices_insertionSortCmpFunc_api_Region, List.forall_mem_cons.2 ⟨c_slices_stableCmpFunc_spans_run_int, List.forall_mem_cons.2 ⟨c_slices_insertionSortCmpFunc_spans_run_int, List.forall_mem_cons.2 ⟨c_rope_piece_Sum, List.forall_mem_cons.2 ⟨c_count_Of, List.forall_mem_cons.2 ⟨c_count_Plus, List.forall_mem_cons.2 ⟨c_count_of, List.forall_mem_cons.2 ⟨c_count_units, List.forall_mem_cons.2 ⟨c_rope_counts_Plus, fun _ h => by cases h⟩⟩⟩⟩⟩⟩⟩⟩⟩⟩⟩⟩⟩⟩⟩⟩⟩⟩⟩⟩⟩⟩⟩⟩⟩⟩⟩⟩⟩⟩⟩⟩⟩⟩⟩⟩⟩⟩⟩⟩⟩⟩⟩⟩⟩⟩⟩⟩⟩⟩⟩⟩⟩⟩⟩⟩⟩⟩⟩⟩⟩⟩⟩⟩⟩⟩⟩⟩⟩⟩⟩⟩⟩⟩⟩⟩⟩⟩⟩⟩⟩⟩⟩⟩⟩⟩⟩⟩⟩⟩⟩⟩⟩⟩⟩⟩⟩⟩⟩⟩⟩⟩⟩⟩⟩⟩⟩⟩⟩⟩⟩⟩⟩⟩⟩⟩⟩⟩⟩
theorem knownT_call (σ : Heap) (hd : σ.F0.dr = false) : ACall Tryz.prog n_palinodetop_known [] σ (.bool true) σ :=
  acall_ran_d mixed ext_ok tblK_ok (k := 50) (n := 60) rfl rfl (fun W F => by kernel_rfl) σ hd
end Go.Proofs.YtkjikdohnomajaaGreat.M
namespace Go.Proofs.YtkjikdohnomajaaGreat.M
open Go Go.Mini
attribute [local congr] go1_congr goM_congr goG_congr goV_congr drawwp_congr Xwp_congr
theorem now_call {σ : Heap} {k : Nat} {E : Eng} {fp : List Nat} (h : IsEng σ k E fp) (hR : E.R.Ok) : ACall Tryz.prog n_palinodetop_now [.ptr (.new k) 0] σ (.str (E.text (E.R.head : Nat))) σ := by
  refine exact_call (spec_of_awp mixed c_palinodetop_now (tl rfl) ?_)
  unfold f_palinodetop_now
  have hx := etext_at h (E.R.head : Nat)
  rw [textV_head hR] at hx
  simp +decide only [↓evd, evw, evz, reduceCtorEq, ↓reduceIte]
  refine MSpec.of (ehead_at h) ?_
  simp +decide only [↓evd, evw, evz, reduceCtorEq, ↓reduceIte]
  refine MSpec.of hx ?_
  simp +decide only [↓evd, evw, evz, reduceCtorEq, ↓reduceIte]
theorem tadd {a b : List UInt8} (h : a.length + b.length ≤ 1000000) : aStr .add a b = some (.str (a ++ b)) := by
  simp only [aStr]; rw [if_pos (Nat.le_trans h (by decide))]
theorem and1 (x : Int) : bitOp .and .u32 x 1 = 0 ∨ bitOp .and .u32 x 1 = 1 := by
  have h3 : (BitVec.ofInt 32 x &&& BitVec.ofInt 32 1).toNat = (BitVec.ofInt 32 x).toNat % 2 := by
    rw [BitVec.toNat_and]
    exact Nat.and_two_pow_sub_one_eq_mod _ 1
  have h4 : ∀ y : Nat, y < 2 → IntKind.u32.wrap (y : Int) = (y : Int) := by decide
  have h5 : bitOp .and .u32 x 1 = (((BitVec.ofInt 32 x).toNat % 2 : Nat) : Int) := by
    simp only [bitOp]
    show IntKind.u32.wrap (((BitVec.ofInt 32 x &&& BitVec.ofInt 32 1).toNat : Nat) : Int) = _
    rw [h3, h4 _ (by omega)]
  omega
theorem wu64 {x : Nat} (h : x < 1000000) : IntKind.u64.wrap (x : Int) = (x : Int) := by
  have e1 : (2 : Int) ^ 64 = 18446744073709551616 := by decide
  simp only [IntKind.wrap, IntKind.bits, IntKind.signed, Bool.false_and, e1]
  simp; omega
def eStrs (l : List (List UInt8)) : AVal := .fsl 1 (l.map AVal.str)
set_option maxHeartbeats 8000000 in
theorem wholeGroups_fspec (W : World) (l : List (List UInt8)) (mask : Int) : FSpec Tryz.prog n_palinodetop_WholeGroups [eStrs l, .int .u32 mask] (Heap.bare W (cellsOf W)) fun v s => v = .bool true ∧ s.W = W := by
  refine fspec_of_awp mixed c_palinodetop_WholeGroups (tl rfl) ?_
  unfold f_palinodetop_WholeGroups
  simp +decide only [↓evd, evw, evz, reduceCtorEq, ↓reduceIte]
  refine MSpec.of (knownT_call _ rfl) ?_
  by_cases h20 : (20 : Int) < l.length
  · simp +decide only [↓evd, evw, evz, reduceCtorEq, ↓reduceIte, eStrs, h20]
  simp +decide only [↓evd, evw, evz, reduceCtorEq, ↓reduceIte, eStrs, h20]
  refine (enew_at _ rfl).mono ?_
  rintro v τ ⟨k, fp0, rfl, h0, hf0, k0⟩
  simp +decide only [↓evd, evw, evz, reduceCtorEq, ↓reduceIte]
  refine awp_loop (fun m fr ρ => ∃ (i : Nat) (E : Eng) (fp : List Nat) (t u : List UInt8), m + i = l.length ∧ fr.get 0 = eStrs l ∧ fr.get 1 = .int .u32 mask ∧ fr.get 5 = .ptr (.new k) 0 ∧ fr.get 6 = .str t ∧ fr.get 7 = .str u ∧ fr.get 8 = .int .i64 (i : Nat) ∧ IsEng ρ k E fp ∧ GrInv E i t u ∧ t.length ≤ 20 * i ∧ u.length ≤ 20 * i ∧ ρ.W = W) ?_ (m := l.length) ?_
  · clear h0 hf0 k0
    rintro m fr ρ ⟨i, E, fp, t, u, hi, e0, e1, e5, e6, e7, e8, hE, hI, htl, hul, hW⟩
    by_cases hlt : i < l.length
    · have hlt' : (i : Int) < (l.length : Int) := by omega
      have hs := wrap_succ (i := i) (by omega)
      have hgt := map_get AVal.str l i hlt
      generalize l[i] = s at hgt
      by_cases hs20 : (20 : Int) < (s.length : Int)
      · simp +decide only [↓evd, evw, evz, reduceCtorEq, ↓reduceIte, e0, e1, e5, e6, e7, e8, hlt', eStrs, hgt, hs20]
        exact hW
      have hva := rvalid_call ρ s (by unfold maxRoom; omega)
      simp +decide only [↓evd, evw, evz, reduceCtorEq, ↓reduceIte, e0, e1, e5, e6, e7, e8, hlt', eStrs, hgt, hs20]
      refine MSpec.of hva ?_
      cases hvs : valid s with
      | false => simp +decide only [↓evd, evw, evz, reduceCtorEq, ↓reduceIte]; exact hW
      | true =>
      have hwi : IntKind.u64.wrap (i : Int) = (i : Int) := wu64 (by omega)
      have hng : ¬ (i : Int) < 0 := by omega
      obtain ⟨g, hg⟩ : ∃ g, g = bitOp .and .u32 (mask.fdiv (2 ^ min i IntKind.u32.bits)) 1 := ⟨_, rfl⟩
      have hg01 : g = 0 ∨ g = 1 := by rw [hg]; exact and1 _
      have hwg : IntKind.i64.wrap g = g := wrap_id (by omega) (by omega)
      obtain ⟨E', he, hI'⟩ := hI.step hvs hg01 (by omega) (by omega)
      have hh := ehead_at hE
      rw [hI.head] at hh
      have hEz := fun z => hE.keep ((Keep.refl [] ρ).new (.cells z none)) (fun x _ => by simp)
      have hhz := fun z => ehead_at (hEz z)
      rw [hI.head] at hhz
      have hed := eedit_lit (q := 1) hE rfl (by simp) (by intro c hc; simp at hc; subst hc; simp only; omega) he
      have z0 : ((0 : Int) != 0) = false := rfl
      have a1 := tadd (a := t) (b := s) (by omega)
      have a2 := tadd (a := u) (b := s) (by omega)
      simp +decide only [↓evd, evw, evz, reduceCtorEq, ↓reduceIte, e0, e1, e5, e6, e7, e8, hlt', hgt, hwi, hng, ← hg, hwg]
      refine ⟨[.int .i64 (t.length : Nat), .int .i64 (t.length : Nat), .str s], ?_⟩
      with_reducible refine draw_of_grow (fun _ => True) (ms := [false, false, false, false, false, false, false, false, false, false, false, false, false, false, true, false, false, false, false, false]) (by kernel_rfl) ?_
      simp +decide only [↓evd, evw, evz, reduceCtorEq, ↓reduceIte, e0, e1, e5, e6, e7, e8, hlt', hgt]
      refine MSpec.of (hhz _) ⟨.inr Keeps.rfl, ?_⟩
      simp +decide only [↓evd, evw, evz, reduceCtorEq, ↓reduceIte, e0, e1, e5, e6, e7, e8, hlt', eStrs, hgt, Nat.add_zero, beq_self_eq_true]
      refine hed.mono ?_
      rintro v ρ2 ⟨rfl, fp', hE', kk, ff⟩
      by_cases hg0 : g = 0
      · have hb : (g == 0) = true := by simpa using hg0
        rw [if_pos hg0] at hI'
        simp +decide only [↓evd, evw, evz, reduceCtorEq, ↓reduceIte, e0, e1, e5, e6, e7, e8, hlt', eStrs, hgt, z0, a1, hb, a2, hs]
        exact ⟨m - 1, by omega, i + 1, E', fp', t ++ s, u ++ s, by omega, rfl, rfl, rfl, hE', hI', by simp; omega, by simp; omega, kk.1.trans hW⟩
      · have hb : (g == 0) = false := by simpa using hg0
        rw [if_neg hg0] at hI'
        simp +decide only [↓evd, evw, evz, reduceCtorEq, ↓reduceIte, e0, e1, e5, e6, e7, e8, hlt', eStrs, hgt, z0, a1, hb, hs]
        exact ⟨m - 1, by omega, i + 1, E', fp', t ++ s, u, by omega, rfl, rfl, rfl, hE', hI', by simp; omega, by omega, kk.1.trans hW⟩
    · have hlt' : ¬ (i : Int) < (l.length : Int) := by omega
      have hn1 := now_call hE hI.whole.rok
      rw [hI.text] at hn1
      have hgr := egroups_at hE
      have hin := in_call ρ E.R.grp 1 (by have := rise_len hI.whole.rok.grp; omega)
      simp only [ints] at hgr hin
      simp +decide only [↓evd, evw, evz, reduceCtorEq, ↓reduceIte, e0, e1, e5, e6, e7, e8, hlt', eStrs]
      refine MSpec.of hn1 ?_
      simp +decide only [↓evd, evw, evz, reduceCtorEq, ↓reduceIte, e5, e6, e7, aStr_nself]
      refine MSpec.of hgr ?_
      simp +decide only [↓evd, evw, evz, reduceCtorEq, ↓reduceIte, e5, e6, e7]
      refine MSpec.of hin ?_
      by_cases h1 : (1 : Int) ∈ E.R.grp
      · obtain ⟨E', he, hR', ht'⟩ := hI.toggle (by omega) h1
        simp +decide only [↓evd, evw, evz, reduceCtorEq, ↓reduceIte, e5, e6, e7, decide_eq_true h1]
        refine (etoggle_at hE he).mono ?_
        rintro v ρ2 ⟨rfl, fp', hE', kk, ff⟩
        have hn2 := now_call hE' hR'
        rw [ht'] at hn2
        have b0 : ((0 : Int) == 0) = true := rfl
        simp +decide only [↓evd, evw, evz, reduceCtorEq, ↓reduceIte, e5, e6, e7, b0]
        refine MSpec.of hn2 ?_
        simp +decide only [↓evd, evw, evz, reduceCtorEq, ↓reduceIte, e5, e6, e7, aStr_self]
        exact kk.1.trans hW
      · have htu := hI.same h1
        subst htu
        simp +decide only [↓evd, evw, evz, reduceCtorEq, ↓reduceIte, e5, e6, e7, decide_eq_false h1, aStr_self]
        exact hW
  · refine ⟨0, Eng.new, fp0, [], [], by omega, ?_⟩
    simp +decide only [↓evd, evw, evz, reduceCtorEq, ↓reduceIte, eStrs]
    exact ⟨h0, GrInv.new, k0.1⟩
theorem wholeGroups_row (W : World) (a0 : List (List UInt8)) (a1 : Int) (g0 : GList GStr a0) (g1 : GInt .u32 a1) : FSpec Tryz.prog n_palinodetop_WholeGroups [.fsl 1 (a0.map AVal.str), .int .u32 a1] (Heap.bare W (cellsOf W)) fun v s => v = .bool true ∧ s.W = W :=
  wholeGroups_fspec W a0 a1
end Go.Proofs.YtkjikdohnomajaaGreat.M

