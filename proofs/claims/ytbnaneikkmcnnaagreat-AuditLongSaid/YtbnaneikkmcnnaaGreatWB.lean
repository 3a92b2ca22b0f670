/- A part of the seat's proofs over the abstract machine. No condition. -/
import Derived.Test.YtbnaneikkmcnnaaGreatWA
import Derived.Test.YtbnaneikkmcnnaaGreatMB
set_option linter.unusedSimpArgs false
set_option linter.unusedVariables false
set_option maxRecDepth 100000
namespace Go.Proofs.YtbnaneikkmcnnaaGreat.M
open Go Go.Mini
def IsCP (p : List UInt8) : Prop := p ≠ [] ∧ (pt p).2 = p.length
theorem conts_app : ∀ (k v : Nat) (r t : List UInt8) (x : Nat), conts v k r = some x → conts v k (r ++ t) = some x
  | 0, v, r, t, x, h => h
  | k + 1, v, [], t, x, h => by simp [conts] at h
  | k + 1, v, b :: r, t, x, h => by
    simp only [List.cons_append, conts] at h ⊢
    split at h
    · rename_i hb; rw [if_pos hb]; exact conts_app k _ r t x h
    · cases h
theorem ptN_app {v n least : Nat} {r t : List UInt8} (h : (ptN v n least r).2 ≠ 0) : ptN v n least (r ++ t) = ptN v n least r := by
  unfold ptN at h ⊢
  split at h
  · rename_i x hx; rw [conts_app _ _ _ t _ hx]
  · simp at h
theorem pt_app {r t : List UInt8} (h : (pt r).2 ≠ 0) : pt (r ++ t) = pt r := by
  cases r with
  | nil => simp [pt] at h
  | cons a r =>
    simp only [List.cons_append]
    rw [pt] at h
    rw [pt, pt]
    split at h
    · rename_i h1; rw [if_pos h1, if_pos h1]
    · rename_i h1; rw [if_neg h1, if_neg h1]
      split at h
      · rename_i h2; rw [if_pos h2, if_pos h2, ptN_app h]
      · rename_i h2; rw [if_neg h2, if_neg h2]
        split at h
        · rename_i h3; rw [if_pos h3, if_pos h3, ptN_app h]
        · rename_i h3; rw [if_neg h3, if_neg h3]
          split at h
          · rename_i h4; rw [if_pos h4, if_pos h4, ptN_app h]
          · simp at h
theorem IsCP.ne0 {p : List UInt8} (h : IsCP p) : (pt p).2 ≠ 0 := by
  rw [h.2]; exact fun e => h.1 (List.eq_nil_of_length_eq_zero e)
theorem take_cp {r : List UInt8} (h : (pt r).2 ≠ 0) : IsCP (r.take (pt r).2) := by
  have key : pt (r.take (pt r).2) = pt r := by
    rcases pt_shapes h with ⟨a, t, rfl, h1, e⟩ | ⟨a, b, t, x, rfl, h1, h2, h3, h4, h5, e⟩ | ⟨a, b, c, t, x, rfl, h1, h2, h3, h4, h5, h6, e⟩ | ⟨a, b, c, d, t, x, rfl, h1, h2, h3, h4, h5, h6, h7, e⟩
    · rw [e]; simp only [List.take_succ_cons, List.take_zero]; rw [pt, if_pos h1]
    · rw [e]; simp only [List.take_succ_cons, List.take_zero]
      have e' := e
      rw [pt] at e' ⊢
      rw [if_neg (by omega), if_pos h1] at e' ⊢
      rw [← e']
      simp only [ptN, conts]
    · rw [e]; simp only [List.take_succ_cons, List.take_zero]
      have e' := e
      rw [pt] at e' ⊢
      rw [if_neg (by omega), if_neg (by omega), if_pos h1] at e' ⊢
      rw [← e']
      simp only [ptN, conts]
    · rw [e]; simp only [List.take_succ_cons, List.take_zero]
      have e' := e
      rw [pt] at e' ⊢
      rw [if_neg (by omega), if_neg (by omega), if_neg (by omega), if_pos h1] at e' ⊢
      rw [← e']
      simp only [ptN, conts]
  have hle := pt_le r
  refine ⟨?_, by rw [key, List.length_take]; omega⟩
  intro e
  rw [e] at key
  rw [← key] at h
  simp [pt] at h
theorem pts_cp : ∀ (n : Nat) (s : List UInt8) (ps : List (List UInt8)), s.length ≤ n → pts s = some ps → s = ps.flatten ∧ ∀ p ∈ ps, IsCP p
  | 0, s, ps, h, hp => by
    have : s = [] := List.eq_nil_of_length_eq_zero (by omega)
    subst this; cases hp; simp
  | n + 1, s, ps, h, hp => by
    cases s with
    | nil => cases hp; simp
    | cons a r =>
      rw [pts_step (by simp)] at hp
      split at hp
      · cases hp
      · rename_i h0
        rw [Option.map_eq_some_iff] at hp
        obtain ⟨q, hq, rfl⟩ := hp
        obtain ⟨g1, g2⟩ := pts_cp n _ q (by rw [List.length_drop]; simp only [List.length_cons] at *; omega) hq
        refine ⟨?_, fun p hp => ?_⟩
        · rw [List.flatten_cons, ← g1, List.take_append_drop]
        · rcases List.mem_cons.1 hp with rfl | hp
          · exact take_cp h0
          · exact g2 p hp
theorem pts_app {p t : List UInt8} (h : IsCP p) : pts (p ++ t) = (pts t).map (p :: ·) := by
  rw [pts_step (by intro e; exact h.1 (List.append_eq_nil_iff.1 e).1), pt_app h.ne0, if_neg h.ne0, h.2, List.drop_left, List.take_left]
theorem pts_flat : ∀ {ps : List (List UInt8)}, (∀ p ∈ ps, IsCP p) → pts ps.flatten = some ps
  | [], _ => rfl
  | p :: ps, h => by
    rw [List.flatten_cons, pts_app (h p (by simp)), pts_flat fun q hq => h q (List.mem_cons_of_mem _ hq)]; rfl
theorem pts_one {p : List UInt8} (h : IsCP p) : pts p = some [p] := by
  have := pts_app (t := []) h
  rw [List.append_nil] at this
  rw [this]; rfl
theorem cp_len {p : List UInt8} (h : IsCP p) : 1 ≤ p.length ∧ p.length ≤ 4 := by
  have h0 := h.ne0
  have h2 := h.2
  rcases pt_shapes h0 with ⟨a, t, rfl, h1, e⟩ | ⟨a, b, t, x, rfl, _, _, _, _, _, e⟩ | ⟨a, b, c, t, x, rfl, _, _, _, _, _, _, e⟩ | ⟨a, b, c, d, t, x, rfl, _, _, _, _, _, _, _, e⟩ <;> (rw [e] at h2; simp only [List.length_cons] at h2 ⊢; omega)
theorem cp_bytes {p : List UInt8} (h : IsCP p) : ∀ (i : Nat) (b : UInt8), p[i]? = some b → (b.toNat / 64 = 2 ↔ i ≠ 0) := by
  have h0 := h.ne0
  have h2 := h.2
  rcases pt_shapes h0 with ⟨a, t, rfl, h1, e⟩ | ⟨a, b, t, x, rfl, q1, q2, _, _, _, e⟩ | ⟨a, b, c, t, x, rfl, q1, q2, q3, _, _, _, e⟩ | ⟨a, b, c, d, t, x, rfl, q1, q2, q3, q4, _, _, _, e⟩
  all_goals
    rw [e] at h2
    simp at h2
    subst h2
    intro i y hy
  · rcases i with _ | i
    · simp at hy; subst hy; simp; omega
    · simp at hy
  · rcases i with _ | _ | i
    · simp at hy; subst hy; simp; omega
    · simp at hy; subst hy; simp; omega
    · simp at hy
  · rcases i with _ | _ | _ | i
    · simp at hy; subst hy; simp; omega
    · simp at hy; subst hy; simp; omega
    · simp at hy; subst hy; simp; omega
    · simp at hy
  · rcases i with _ | _ | _ | _ | i
    · simp at hy; subst hy; simp; omega
    · simp at hy; subst hy; simp; omega
    · simp at hy; subst hy; simp; omega
    · simp at hy; subst hy; simp; omega
    · simp at hy
theorem valid_iff {s : List UInt8} : valid s = true ↔ ∃ ps : List (List UInt8), s = ps.flatten ∧ ∀ p ∈ ps, IsCP p := by
  constructor
  · intro h
    obtain ⟨ps, hp⟩ := Option.isSome_iff_exists.1 h
    exact ⟨ps, pts_cp _ s ps (Nat.le_refl _) hp⟩
  · rintro ⟨ps, rfl, h⟩
    simp only [valid, pts_flat h, Option.isSome_some]
theorem valid_flat {ps : List (List UInt8)} (h : ∀ p ∈ ps, IsCP p) : valid ps.flatten = true := valid_iff.2 ⟨ps, rfl, h⟩
theorem edge_flat {ps : List (List UInt8)} (h : ∀ p ∈ ps, IsCP p) (i : Int) : isEdge ps.flatten i = true ↔ ∃ j : Nat, j ≤ ps.length ∧ i = ((ps.take j).flatten.length : Nat) := by
  have key : ∀ (ps : List (List UInt8)), (∀ p ∈ ps, IsCP p) → ∀ n : Nat, n ≤ ps.flatten.length → ((n = ps.flatten.length ∨ ∃ b, ps.flatten[n]? = some b ∧ ¬ b.toNat / 64 = 2) ↔ ∃ j : Nat, j ≤ ps.length ∧ n = (ps.take j).flatten.length) := by
    intro ps
    induction ps with
    | nil => intro _ n hn; simp at hn; subst hn; simp
    | cons p ps ih =>
      intro h n hn
      have hp := h p (by simp)
      have hl := cp_len hp
      rw [List.flatten_cons, List.length_append] at hn
      rcases Nat.lt_or_ge n p.length with hlt | hge
      · constructor
        · rintro (e | ⟨b, hb, hb2⟩)
          · rw [List.flatten_cons, List.length_append] at e; omega
          · rw [List.flatten_cons, List.getElem?_append_left hlt] at hb
            have := cp_bytes hp n b hb
            have h0 : n = 0 := by
              rcases Nat.eq_zero_or_pos n with h | h
              · exact h
              · exact absurd (this.2 (by omega)) hb2
            exact ⟨0, Nat.zero_le _, by simp [h0]⟩
        · rintro ⟨j, hj, e⟩
          cases j with
          | zero =>
            simp at e; subst e
            have hg : p[0]? = some p[0] := List.getElem?_eq_getElem hlt
            refine .inr ⟨p[0], by rw [List.flatten_cons, List.getElem?_append_left hlt]; exact hg, fun hb => ?_⟩
            exact (cp_bytes hp 0 _ hg).1 hb rfl
          | succ j => rw [List.take_succ_cons, List.flatten_cons, List.length_append] at e; omega
      · obtain ⟨m, rfl⟩ : ∃ m, n = p.length + m := ⟨n - p.length, by omega⟩
        have hi := ih (fun q hq => h q (List.mem_cons_of_mem _ hq)) m (by omega)
        have e1 : (p.length + m = (p :: ps).flatten.length ∨ ∃ b, (p :: ps).flatten[p.length + m]? = some b ∧ ¬ b.toNat / 64 = 2) ↔ (m = ps.flatten.length ∨ ∃ b, ps.flatten[m]? = some b ∧ ¬ b.toNat / 64 = 2) := by
          rw [List.flatten_cons, List.length_append, List.getElem?_append_right (by omega), Nat.add_sub_cancel_left]
          constructor
          · rintro (h | h)
            · exact .inl (by omega)
            · exact .inr h
          · rintro (h | h)
            · exact .inl (by omega)
            · exact .inr h
        rw [e1, hi]
        constructor
        · rintro ⟨j, hj, e⟩
          exact ⟨j + 1, by simp only [List.length_cons]; omega, by rw [List.take_succ_cons, List.flatten_cons, List.length_append, e]⟩
        · rintro ⟨j, hj, e⟩
          cases j with
          | zero => rw [List.take_zero] at e; simp only [List.flatten_nil, List.length_nil] at e; omega
          | succ j =>
            rw [List.take_succ_cons, List.flatten_cons, List.length_append] at e
            exact ⟨j, by simp only [List.length_cons] at hj; omega, by omega⟩
  have hv := valid_flat h
  constructor
  · intro he
    simp only [isEdge, hv, Bool.and_true, Bool.and_eq_true, decide_eq_true_eq, Bool.or_eq_true] at he
    obtain ⟨⟨h1, h2⟩, h3⟩ := he
    have : ∃ j : Nat, j ≤ ps.length ∧ i.toNat = (ps.take j).flatten.length := by
      refine (key ps h i.toNat (by omega)).1 ?_
      rcases h3 with h3 | h3
      · exact .inl (by omega)
      · right
        split at h3
        · rename_i b hb; exact ⟨b, hb, by simpa using h3⟩
        · cases h3
    obtain ⟨j, hj, e⟩ := this
    exact ⟨j, hj, by omega⟩
  · rintro ⟨j, hj, rfl⟩
    have hle : (ps.take j).flatten.length ≤ ps.flatten.length := by
      have := congrArg List.length (show (ps.take j).flatten ++ (ps.drop j).flatten = ps.flatten by rw [← List.flatten_append, List.take_append_drop])
      rw [List.length_append] at this; omega
    simp only [isEdge, hv, Bool.and_true, Bool.and_eq_true, decide_eq_true_eq, Bool.or_eq_true]
    refine ⟨⟨by omega, by omega⟩, ?_⟩
    rcases (key ps h (ps.take j).flatten.length hle).2 ⟨j, hj, rfl⟩ with e | ⟨b, hb, hb2⟩
    · exact .inl (by omega)
    · right
      rw [Int.toNat_natCast, hb]
      simpa using hb2
structure Eng where
  l : List Atom
  R : Revs
def Eng.new : Eng := ⟨[], Revs.new⟩
structure Eng.Ok (E : Eng) : Prop where
  len : E.l.length ≤ 4000
  txt : ∀ a ∈ E.l, IsCP a.text
  cuts : ∀ a ∈ E.l, a.cuts.length ≤ E.R.head
theorem Eng.new_ok : Eng.new.Ok := ⟨by simp [Eng.new], by simp [Eng.new], by simp [Eng.new]⟩
def Eng.text (E : Eng) (rev : Int) : List UInt8 := atomsText rev (E.R.undone rev) E.l
def editE (E : Eng) (base group rank : Int) (cs : List Chg) : Eng × Int × Int :=
  if E.R.live base = false then (E, 0, 190) else
  if check (E.text base) cs ≠ 0 then (E, 0, check (E.text base) cs) else
  if (addR E.R group).2.2 ≠ 0 then (E, 0, (addR E.R group).2.2) else
  if rank < 0 ∨ 1000000 < rank then (E, 0, 10) else
  if 4000 < (upon E.l base (E.R.undone base) cs (addR E.R group).2.1 group rank).length then (E, 0, 70) else
  if 20000 < (Eng.text ⟨upon E.l base (E.R.undone base) cs (addR E.R group).2.1 group rank, (addR E.R group).1⟩ (addR E.R group).1.head).length then (E, 0, 13) else
  (⟨upon E.l base (E.R.undone base) cs (addR E.R group).2.1 group rank, (addR E.R group).1⟩, (addR E.R group).2.1, 0)
def toggleE (E : Eng) (g : Int) : Eng × Int × Int :=
  if (toggleR E.R g).2.2 ≠ 0 then (E, 0, (toggleR E.R g).2.2) else
  if 20000 < (Eng.text ⟨E.l, (toggleR E.R g).1⟩ (toggleR E.R g).1.head).length then (E, 0, 13) else
  (⟨E.l, (toggleR E.R g).1⟩, (toggleR E.R g).2.1, 0)
theorem fits_of {l : List Atom} {n : Nat} (h1 : l.length ≤ 4000) (h2 : ∀ a ∈ l, IsCP a.text) (h3 : ∀ a ∈ l, a.cuts.length ≤ n) (hn : n ≤ 1000000) : Fits l := by
  refine ⟨by omega, fun a ha => by have := h3 a ha; omega, ?_⟩
  have : (l.map fun a => a.text.length).sum ≤ l.length * 4 := by
    clear h1 h3
    induction l with
    | nil => simp
    | cons a l ih =>
      have h4 := (cp_len (h2 a (by simp))).2
      have := ih fun b hb => h2 b (List.mem_cons_of_mem _ hb)
      simp only [List.map_cons, List.sum_cons, List.length_cons]; omega
  unfold maxRoom; omega
theorem atomsText_le {l : List Atom} (rev : Int) (u : List Int) (h2 : ∀ a ∈ l, IsCP a.text) : (atomsText rev u l).length ≤ l.length * 4 := by
  induction l with
  | nil => simp [atomsText]
  | cons a l ih =>
    have h4 := (cp_len (h2 a (by simp))).2
    have := ih fun b hb => h2 b (List.mem_cons_of_mem _ hb)
    simp only [atomsText, List.length_append, List.length_cons]
    split <;> (try simp only [List.length_nil]) <;> omega
theorem mem_marked {ct : List Int} {c : Cut} {x : Atom} : ∀ {l : List Atom} {i : Nat}, x ∈ marked ct c l i → ∃ a ∈ l, x = a ∨ x = { a with cuts := a.cuts ++ [c] }
  | [], i, h => by simp [marked] at h
  | a :: l, i, h => by
    simp only [marked, List.mem_cons] at h
    rcases h with h | h
    · refine ⟨a, by simp, ?_⟩
      split at h
      · exact .inr h
      · exact .inl h
    · obtain ⟨b, hb, h⟩ := mem_marked h
      exact ⟨b, List.mem_cons_of_mem _ hb, h⟩
theorem mem_merged {new : List UInt8 → List Atom} {mk : List Atom} {x : Atom} : ∀ {r : List (Nat × List UInt8)} {at' : Nat}, x ∈ merged new mk r at' → x ∈ mk ∨ ∃ kt ∈ r, x ∈ new kt.2
  | [], at', h => .inl (List.mem_of_mem_drop (by simpa [merged] using h))
  | (k, t) :: r, at', h => by
    rw [merged_cons, List.mem_append, List.mem_append] at h
    rcases h with (h | h) | h
    · exact .inl (List.mem_of_mem_take (List.mem_of_mem_drop h))
    · exact .inr ⟨(k, t), by simp, h⟩
    · rcases mem_merged h with h | ⟨kt, hk, h⟩
      · exact .inl h
      · exact .inr ⟨kt, List.mem_cons_of_mem _ hk, h⟩
theorem mem_upon {l : List Atom} {rev : Int} {u : List Int} {cs : List Chg} {rev' group rank : Int} {x : Atom} (h : x ∈ upon l rev u cs rev' group rank) :
    (∃ a ∈ l, x = a ∨ x = { a with cuts := a.cuts ++ [⟨rev', group⟩] }) ∨ (∃ b, IsCP b ∧ x = ⟨b, rev', group, rank, []⟩) := by
  unfold upon at h
  split at h
  · rename_i h0
    rcases mem_merged h with h | ⟨kt, hk, h⟩
    · exact .inl (mem_marked h)
    · right
      simp only [newAtoms, List.mem_map] at h
      obtain ⟨b, hb, rfl⟩ := h
      refine ⟨b, ?_, rfl⟩
      cases hp : pts kt.2 with
      | none => rw [ptsOf, hp] at hb; cases hb
      | some ps => rw [ptsOf, hp] at hb; exact (pts_cp _ _ ps (Nat.le_refl _) hp).2 b hb
  · exact .inl ⟨x, h, .inl rfl⟩
theorem addR_ok {R : Revs} {g : Int} (h : (addR R g).2.2 = 0) (ho : R.Ok) : g ∉ R.gone ∧ 0 ≤ g ∧ g < 60 ∧ R.head < 200 ∧ addR R g = ({ R.push R.top with grp := insS g R.grp }, (R.head : Int) + 1, 0) ∧ (addR R g).1.head = R.head + 1 := by
  have hl := List.length_pos_iff.2 ho.one
  by_cases h1 : g ∈ R.gone ∨ g < 0 ∨ 60 ≤ g
  · rw [add_bad h1] at h; cases h
  · by_cases h2 : 200 ≤ R.head
    · rw [add_many (fun hg => h1 (.inl hg)) (by omega) (by omega) h2] at h; cases h
    · have e := add_good (R := R) (g := g) (fun hg => h1 (.inl hg)) (by omega) (by omega) (by omega)
      refine ⟨fun hg => h1 (.inl hg), by omega, by omega, by omega, e, ?_⟩
      rw [e]; simp only [Revs.head, Revs.push, List.length_append, List.length_cons, List.length_nil]; omega
theorem toggleR_ok {R : Revs} {g : Int} (h : (toggleR R g).2.2 = 0) (ho : R.Ok) : g ∈ R.grp ∧ R.head < 200 ∧ toggleR R g = (R.push (flip g R.top), (R.head : Int) + 1, 0) ∧ (toggleR R g).1.head = R.head + 1 := by
  have hl := List.length_pos_iff.2 ho.one
  by_cases h1 : g ∈ R.grp
  · by_cases h2 : 200 ≤ R.head
    · simp only [toggleR, if_neg (show ¬ g ∉ R.grp from fun h => h h1), if_pos h2] at h; cases h
    · have e := toggle_of h1 (show R.head < 200 by omega)
      refine ⟨h1, by omega, e, ?_⟩
      rw [e]; simp only [Revs.head, Revs.push, List.length_append, List.length_cons, List.length_nil]; omega
  · rw [toggle_bad h1] at h; cases h
theorem head_le {R : Revs} (h : R.Ok) : R.head ≤ 200 := by have := h.few; simp only [Revs.head]; omega
theorem Eng.Ok.fits {E : Eng} (h : E.Ok) (hR : E.R.Ok) : Fits E.l := fits_of h.len h.txt h.cuts (by have := head_le hR; omega)
theorem upon_facts {E : Eng} (h : E.Ok) {base group rank now : Int} {cs : List Chg} {u : List Int} : (∀ a ∈ upon E.l base u cs now group rank, IsCP a.text) ∧ ∀ a ∈ upon E.l base u cs now group rank, a.cuts.length ≤ E.R.head + 1 := by
  constructor <;> intro a ha <;> rcases mem_upon ha with ⟨b, hb, rfl | rfl⟩ | ⟨b, hb, rfl⟩
  · exact h.txt a hb
  · exact h.txt b hb
  · exact hb
  · have := h.cuts a hb; omega
  · have := h.cuts b hb; simp only [List.length_append, List.length_cons, List.length_nil]; omega
  · simp
theorem editE_ok {E : Eng} (h : E.Ok) (hR : E.R.Ok) (base group rank : Int) (cs : List Chg) : (editE E base group rank cs).1.Ok := by
  unfold editE
  split
  · exact h
  split
  · exact h
  split
  · exact h
  rename_i h3
  split
  · exact h
  split
  · exact h
  rename_i h5
  split
  · exact h
  have h3' : (addR E.R group).2.2 = 0 := by simpa using h3
  obtain ⟨_, _, _, _, e1, e2⟩ := addR_ok h3' hR
  obtain ⟨f1, f2⟩ := upon_facts h (base := base) (group := group) (rank := rank) (now := (addR E.R group).2.1) (cs := cs) (u := E.R.undone base)
  exact ⟨by simp only; omega, f1, fun a ha => by simp only [e2]; exact f2 a ha⟩
theorem toggleE_ok {E : Eng} (h : E.Ok) (hR : E.R.Ok) (g : Int) : (toggleE E g).1.Ok := by
  unfold toggleE
  split
  · exact h
  split
  · exact h
  rename_i h3 _
  have h3' : (toggleR E.R g).2.2 = 0 := by simpa using h3
  obtain ⟨_, _, e1, e2⟩ := toggleR_ok h3' hR
  exact ⟨h.len, h.txt, fun a ha => by have := h.cuts a ha; simp only [e2]; omega⟩
end Go.Proofs.YtbnaneikkmcnnaaGreat.M
namespace Go.Proofs.YtbnaneikkmcnnaaGreat.M
open Go Go.Mini
attribute [local congr] go1_congr goM_congr goG_congr goV_congr drawwp_congr Xwp_congr
def AtomLst (x : AVal) (l : List Atom) : Prop := x = eAtoms l ∨ (x = .nils ∧ l = [])
theorem AtomLst.sees {x : AVal} {l : List Atom} (h : AtomLst x l) (σ : Heap) : Sees σ x σ (eAtoms l) := by
  rcases h with rfl | ⟨rfl, rfl⟩
  · exact Sees.refl _ _
  · exact Sees.nils σ 5
theorem AtomLst.cells {x : AVal} {l : List Atom} (h : AtomLst x l) : x.cells = [x] ∧ x.isCell = true ∧ x.isRaw = false := by
  rcases h with rfl | ⟨rfl, rfl⟩ <;> exact ⟨rfl, rfl, rfl⟩
theorem SeesL.same (σ : Heap) : ∀ l : List AVal, SeesL σ l σ l
  | [] => .nil _
  | a :: l => .cons (Sees.refl _ _) (SeesL.same σ l)
theorem AtomLst.call {x : AVal} {l : List Atom} (h : AtomLst x l) {f : FuncId} {args : List AVal} {σ τ : Heap} {v : AVal} (hc : ACall Tryz.prog f (eAtoms l :: args) σ v τ) : ACall Tryz.prog f (x :: args) σ v τ := by
  rcases h with rfl | ⟨rfl, rfl⟩
  · exact hc
  · intro φ w vs hvs hr o a next Q hn
    obtain ⟨φ1, h1, h2, h3⟩ := SeesL.cons (Sees.nils σ 5) (SeesL.same σ args) φ w vs hvs hr
    exact hc φ1 w vs h2 h3 o a next Q fun φ' v' w' g1 g2 g3 => hn φ' v' w' (Phi.le_trans h1 g1) g2 g3
structure EngAt (σ : Heap) (k : Nat) (E : Eng) (x : AVal) (kr : Nat) (fpr : List Nat) : Prop where
  blk : σ.get k = some (.cells [x, .ptr (.new kr) 0] none)
  lst : AtomLst x E.l
  revs : IsRevs σ kr E.R fpr
  out : k ∉ fpr
  low : k < σ.next
  ok : E.Ok
def IsEng (σ : Heap) (k : Nat) (E : Eng) (fp : List Nat) : Prop := ∃ x kr fpr, EngAt σ k E x kr fpr ∧ fp = k :: fpr
theorem EngAt.keep {σ τ : Heap} {k : Nat} {E : Eng} {x : AVal} {kr : Nat} {fpr fp' : List Nat} (h : EngAt σ k E x kr fpr) (hk : Keep fp' σ τ) (hd : ∀ y ∈ k :: fpr, y ∉ fp') : EngAt τ k E x kr fpr where
  blk := by rw [hk.2.2.2 k h.low (hd k (by simp))]; exact h.blk
  lst := h.lst
  revs := h.revs.keep hk fun y hy => hd y (List.mem_cons_of_mem _ hy)
  out := h.out
  low := Nat.lt_of_lt_of_le h.low hk.2.2.1
  ok := h.ok
theorem IsEng.keep {σ τ : Heap} {k : Nat} {E : Eng} {fp fp' : List Nat} (h : IsEng σ k E fp) (hk : Keep fp' σ τ) (hd : ∀ y ∈ fp, y ∉ fp') : IsEng τ k E fp := by
  obtain ⟨x, kr, fpr, h, rfl⟩ := h
  exact ⟨x, kr, fpr, h.keep hk hd, rfl⟩
theorem IsEng.low {σ : Heap} {k : Nat} {E : Eng} {fp : List Nat} (h : IsEng σ k E fp) : ∀ x ∈ fp, x < σ.next := by
  obtain ⟨x, kr, fpr, h, rfl⟩ := h
  intro y hy
  rcases List.mem_cons.1 hy with rfl | hy
  · exact h.low
  · exact h.revs.low y hy
theorem IsEng.ok {σ : Heap} {k : Nat} {E : Eng} {fp : List Nat} (h : IsEng σ k E fp) : E.Ok ∧ E.R.Ok := by
  obtain ⟨x, kr, fpr, h, rfl⟩ := h
  exact ⟨h.ok, h.revs.ok⟩
theorem undone_rise {R : Revs} (h : R.Ok) (n : Int) : Rise (R.undone n) := by
  unfold Revs.undone
  split
  · unfold Revs.at
    cases he : R.und[(n - R.floor).toNat]? with
    | none => exact Rise.nil
    | some s => exact h.rise s (List.mem_of_getElem? he)
  · exact Rise.nil
theorem undone_few {R : Revs} (h : R.Ok) (n : Int) : (R.undone n).length ≤ 1000000 := by have := rise_len (undone_rise h n); omega
section
variable {σ : Heap} {k : Nat} {E : Eng} {fp : List Nat} {x : AVal} {kr : Nat} {fpr : List Nat}
theorem EngAt.head (h : EngAt σ k E x kr fpr) : ACall Tryz.prog n_engine_Engine_Head [.ptr (.new k) 0] σ (.int .i64 (E.R.head : Nat)) σ := by
  refine exact_call (spec_of_awp mixed c_engine_Engine_Head (tl rfl) ?_)
  unfold f_engine_Engine_Head
  have hk := h.blk
  simp +decide only [↓evd, evw, evz, reduceCtorEq, ↓reduceIte, hk]
  refine MSpec.of (head_at h.revs) ?_
  simp +decide only [↓evd, evw, evz, reduceCtorEq, ↓reduceIte]
theorem EngAt.live (h : EngAt σ k E x kr fpr) (n : Int) : ACall Tryz.prog n_engine_Engine_Live [.ptr (.new k) 0, .int .i64 n] σ (.bool (E.R.live n)) σ := by
  refine exact_call (spec_of_awp mixed c_engine_Engine_Live (tl rfl) ?_)
  unfold f_engine_Engine_Live
  have hk := h.blk
  simp +decide only [↓evd, evw, evz, reduceCtorEq, ↓reduceIte, hk]
  refine MSpec.of (live_at h.revs n) ?_
  simp +decide only [↓evd, evw, evz, reduceCtorEq, ↓reduceIte]
theorem EngAt.undoneAt (h : EngAt σ k E x kr fpr) (n : Int) : ACall Tryz.prog n_engine_Engine_UndoneAt [.ptr (.new k) 0, .int .i64 n] σ (ints (E.R.undone n)) σ := by
  refine exact_call (spec_of_awp mixed c_engine_Engine_UndoneAt (tl rfl) ?_)
  unfold f_engine_Engine_UndoneAt
  have hk := h.blk
  simp +decide only [↓evd, evw, evz, reduceCtorEq, ↓reduceIte, hk]
  refine MSpec.of (undone_at h.revs n) ?_
  simp +decide only [↓evd, evw, evz, reduceCtorEq, ↓reduceIte]
theorem EngAt.undone (h : EngAt σ k E x kr fpr) : ACall Tryz.prog n_engine_Engine_Undone [.ptr (.new k) 0] σ (ints (E.R.undone (E.R.head : Nat))) σ := by
  refine exact_call (spec_of_awp mixed c_engine_Engine_Undone (tl rfl) ?_)
  unfold f_engine_Engine_Undone
  have hk := h.blk
  simp +decide only [↓evd, evw, evz, reduceCtorEq, ↓reduceIte]
  with_reducible refine draw_of_grow (fun _ => True) (ms := [false, false, false, false, false, false, false, false]) (by kernel_rfl) ?_
  simp +decide only [↓evd, evw, evz, reduceCtorEq, ↓reduceIte, hk]
  refine MSpec.of h.head ⟨.inr Keeps.rfl, ?_⟩
  simp +decide only [↓evd, evw, evz, reduceCtorEq, ↓reduceIte, hk]
  refine MSpec.of (undone_at h.revs (E.R.head : Nat)) ⟨.inr Keeps.rfl, ?_⟩
  simp +decide only [↓evd, evw, evz, reduceCtorEq, ↓reduceIte]
theorem EngAt.groups (h : EngAt σ k E x kr fpr) : ACall Tryz.prog n_engine_Engine_Groups [.ptr (.new k) 0] σ (ints E.R.grp) σ := by
  refine exact_call (spec_of_awp mixed c_engine_Engine_Groups (tl rfl) ?_)
  unfold f_engine_Engine_Groups
  have hk := h.blk
  simp +decide only [↓evd, evw, evz, reduceCtorEq, ↓reduceIte, hk]
  refine MSpec.of (groups_at h.revs) ?_
  simp +decide only [↓evd, evw, evz, reduceCtorEq, ↓reduceIte]
theorem EngAt.atoms (h : EngAt σ k E x kr fpr) : ACall Tryz.prog n_engine_Engine_Atoms [.ptr (.new k) 0] σ (eAtoms E.l) σ := by
  refine exact_call (spec_of_awp mixed c_engine_Engine_Atoms (tl rfl) ?_)
  unfold f_engine_Engine_Atoms
  have hk := h.blk
  have hf := h.ok.fits h.revs.ok
  have hc := h.lst.call (copy_call σ E.l hf.1 hf.2.1)
  have hr := h.lst.cells.2.2
  simp only [eAtoms] at hc
  simp +decide only [↓evd, evw, evz, reduceCtorEq, ↓reduceIte, hk, hr]
  refine MSpec.of hc ?_
  simp +decide only [↓evd, evw, evz, reduceCtorEq, ↓reduceIte]
def textV (E : Eng) (n : Int) : AVal := if E.R.live n then .tup [.str (E.text n), .int .i64 0] else .tup [.str [], .int .i64 190]
theorem EngAt.text (h : EngAt σ k E x kr fpr) (n : Int) : ACall Tryz.prog n_engine_Engine_Text [.ptr (.new k) 0, .int .i64 n] σ (textV E n) σ := by
  refine exact_call (spec_of_awp mixed c_engine_Engine_Text (tl rfl) ?_)
  unfold f_engine_Engine_Text
  have hk := h.blk
  have hf := h.ok.fits h.revs.ok
  have hc := h.lst.call (text_call σ E.l n (E.R.undone n) (undone_few h.revs.ok n) hf)
  have hr := h.lst.cells.2.2
  have hu := h.undoneAt n
  simp only [ints] at hc hu
  simp +decide only [↓evd, evw, evz, reduceCtorEq, ↓reduceIte]
  refine MSpec.of (h.live n) ?_
  cases hl : E.R.live n with
  | false =>
    simp +decide only [↓evd, evw, evz, reduceCtorEq, ↓reduceIte, textV, hl]
  | true =>
    simp +decide only [↓evd, evw, evz, reduceCtorEq, ↓reduceIte]
    with_reducible refine draw_of_grow (fun _ => True) (ms := [false, false, false, false, false, false, false, false, false, false, false]) (by kernel_rfl) ?_
    simp +decide only [↓evd, evw, evz, reduceCtorEq, ↓reduceIte, hk, hr]
    refine MSpec.of hu ⟨.inr Keeps.rfl, ?_⟩
    simp +decide only [↓evd, evw, evz, reduceCtorEq, ↓reduceIte]
    refine MSpec.of hc ⟨.inr Keeps.rfl, ?_⟩
    simp +decide only [↓evd, evw, evz, reduceCtorEq, ↓reduceIte, textV, hl, Eng.text]
theorem Eng.live_head {E : Eng} (h : E.R.Ok) : E.R.live (E.R.head : Nat) = true := h.top.2.2
theorem EngAt.fitsC (h : EngAt σ k E x kr fpr) : ACall Tryz.prog n_engine_Engine_fits [.ptr (.new k) 0] σ (.bool (decide (((E.text (E.R.head : Nat)).length : Int) ≤ 20000))) σ := by
  refine exact_call (spec_of_awp mixed c_engine_Engine_fits (tl rfl) ?_)
  unfold f_engine_Engine_fits
  have hl := Eng.live_head h.revs.ok
  have ht := h.text (E.R.head : Nat)
  rw [textV, if_pos hl] at ht
  simp +decide only [↓evd, evw, evz, reduceCtorEq, ↓reduceIte]
  refine MSpec.of h.head ?_
  simp +decide only [↓evd, evw, evz, reduceCtorEq, ↓reduceIte]
  refine MSpec.of ht ?_
  simp +decide only [↓evd, evw, evz, reduceCtorEq, ↓reduceIte]
end
theorem enew_at (σ : Heap) (hd : σ.F0.dr = false) : MSpec Tryz.prog n_engine_New [] σ fun v τ => ∃ k fp, v = .ptr (.new k) 0 ∧ IsEng τ k Eng.new fp ∧ (∀ x ∈ fp, σ.next ≤ x) ∧ Keep [] σ τ := by
  refine spec_of_awp mixed c_engine_New (tl rfl) ?_
  unfold f_engine_New
  simp +decide only [↓evd, evw, evz, reduceCtorEq, ↓reduceIte]
  refine (new_at σ hd).mono ?_
  rintro v τ ⟨rfl, ⟨fp, hR, hf⟩, hk⟩
  simp +decide only [↓evd, evw, evz, reduceCtorEq, ↓reduceIte]
  have hkn : Keep [] τ (τ.new (.cells [.nils, .ptr (.new (σ.next + 4)) 0] none)) := (Keep.refl [] τ).new _
  refine ⟨_, _, rfl, ⟨.nils, σ.next + 4, fp, ⟨by rw [Heap.get_new, if_pos rfl], .inr ⟨rfl, rfl⟩, hR.keep hkn (fun x _ => by simp), fun hm => by have := hR.low _ hm; omega, by simp, Eng.new_ok⟩, rfl⟩, ?_, hk.trans hkn (fun x hx => nomatch hx)⟩
  intro y hy
  rcases List.mem_cons.1 hy with rfl | hy
  · exact hk.2.2.1
  · exact hf y hy
theorem ecopy_at {σ : Heap} {k : Nat} {E : Eng} {fp : List Nat} (h : IsEng σ k E fp) : MSpec Tryz.prog n_engine_Engine_Copy [.ptr (.new k) 0] σ fun v τ => ∃ k' kr' fpr', v = .ptr (.new k') 0 ∧ EngAt τ k' E (eAtoms E.l) kr' fpr' ∧ (∀ x ∈ k' :: fpr', σ.next ≤ x) ∧ Keep [] σ τ := by
  obtain ⟨x, kr, fpr, h, rfl⟩ := h
  refine spec_of_awp mixed c_engine_Engine_Copy (tl rfl) ?_
  unfold f_engine_Engine_Copy
  have hk := h.blk
  have hkl := h.low
  have hf := h.ok.fits h.revs.ok
  have hc := h.lst.call (copy_call σ E.l hf.1 hf.2.1)
  have hr := h.lst.cells.2.2
  simp only [eAtoms] at hc
  simp +decide only [↓evd, evw, evz, reduceCtorEq, ↓reduceIte]
  with_reducible refine draw_of_grow (fun q => q < σ.next) (ms := [false, false, false, false, false, false, false, false, false, false, false, false, false]) (by kernel_rfl) ?_
  simp +decide only [↓evd, evw, evz, reduceCtorEq, ↓reduceIte, hk, hkl, hr]
  refine MSpec.of hc ⟨.inr Keeps.rfl, ?_⟩
  simp +decide only [↓evd, evw, evz, reduceCtorEq, ↓reduceIte, hk, hkl, hr]
  refine (copy_at h.revs).mono ?_
  rintro v τ ⟨rfl, ⟨fpr', hR, hf'⟩, hkk⟩
  refine ⟨.inr ⟨hkk.1, fun q hq => hkk.2.2.2 q hq (by simp)⟩, ?_⟩
  simp +decide only [↓evd, evw, evz, reduceCtorEq, ↓reduceIte]
  have hn := hkk.2.2.1
  refine ⟨.inr (keeps_new (fun q hq => by omega) _), ?_⟩
  simp +decide only [↓evd, evw, evz, reduceCtorEq, ↓reduceIte]
  have hkn : Keep [] τ (τ.new (.cells [eAtoms E.l, .ptr (.new (σ.next + 2)) 0] none)) := (Keep.refl [] τ).new _
  refine ⟨_, _, fpr', rfl, ⟨by rw [Heap.get_new, if_pos rfl], .inl rfl, hR.keep hkn (fun x _ => by simp), fun hm => by have := hR.low _ hm; omega, by simp, h.ok⟩, ?_, hkk.trans hkn (fun x hx => nomatch hx)⟩
  intro y hy
  rcases List.mem_cons.1 hy with rfl | hy
  · exact hn
  · exact hf' y hy
section
variable {σ : Heap} {k : Nat} {E : Eng} {fp : List Nat}
theorem IsEng.took {τ : Heap} {kr' : Nat} {E' : Eng} {x : AVal} {fpr' : List Nat} (hk : k < τ.next) (hlow : ∀ y ∈ fpr', y < τ.next) (hx : AtomLst x E'.l) (hR : IsRevs τ kr' E'.R fpr') (hkf : k ∉ fpr') (hok : E'.Ok) :
    IsEng (τ.set k (.cells [x, .ptr (.new kr') 0] none)) k E' (k :: fpr') := by
  have hkn : Keep [k] τ (τ.set k (.cells [x, .ptr (.new kr') 0] none)) := (Keep.refl _ _).set (.inl (by simp)) _
  exact ⟨x, kr', fpr', ⟨by rw [Heap.get_set, if_pos rfl], hx, hR.keep hkn (fun y hy hm => by simp at hm; subst hm; exact hkf hy), hkf, by simpa using hk, hok⟩, rfl⟩
end
section
variable {σ : Heap} {k : Nat} {E : Eng} {fp : List Nat}
theorem upon_few {l : List Atom} (hl : l.length ≤ 4000) (rev : Int) (u : List Int) {cs : List Chg} (hcl : cs.length ≤ 1000) (hc : ∀ c ∈ cs, c.text.length ≤ 1000000) (rev' group rank : Int) : (upon l rev u cs rev' group rank).length ≤ 100000000000 := by
  unfold upon
  split
  case isFalse => omega
  rename_i h0
  have hml : (marked (cuts l rev u cs) ⟨rev', group⟩ l 0).length ≤ 4000 := by rw [marked_len]; exact hl
  generalize marked (cuts l rev u cs) ⟨rev', group⟩ l 0 = mk at hml
  have key : ∀ (r : List (Nat × List UInt8)) (at' : Nat), (∀ kt ∈ r, kt.2.length ≤ 1000000) → (merged (fun t => newAtoms rev' group rank (ptsOf t)) mk r at').length ≤ 4000 + r.length * 1004000 := by
    intro r
    induction r with
    | nil => intro at' _; simp only [merged, List.length_drop]; omega
    | cons kt r ih =>
      intro at' hk
      obtain ⟨q, t⟩ := kt
      have h1 := ih q fun z hz => hk z (List.mem_cons_of_mem _ hz)
      have h2 := hk (q, t) (by simp)
      have h3 : (newAtoms rev' group rank (ptsOf t)).length ≤ t.length := by
        simp only [newAtoms, List.length_map, ptsOf]
        cases hp : pts t with
        | none => simp
        | some ps => exact pts_len _ t ps (Nat.le_refl _) hp
      simp only [merged_cons, List.length_append, List.length_drop, List.length_take, List.length_cons]
      simp only at h2
      omega
  have h2 := key ((spotsN l rev u cs rank).zip (cs.map Chg.text)) 0 (by
    rintro ⟨q, t⟩ hz
    have := (List.of_mem_zip hz).2
    rw [List.mem_map] at this
    obtain ⟨c, hcm, rfl⟩ := this
    exact hc c hcm)
  have h3 : ((spotsN l rev u cs rank).zip (cs.map Chg.text)).length ≤ 1000 := by rw [List.length_zip]; simp; omega
  omega
set_option maxHeartbeats 4000000 in
theorem eedit_at {E' : Eng} {n c : Int} (h : IsEng σ k E fp) {base group rank : Int} {cs : List Chg} (hcl : cs.length ≤ 1000) (hct : ∀ c ∈ cs, c.text.length ≤ 1000000) (e : editE E base group rank cs = (E', n, c)) :
    MSpec Tryz.prog n_engine_Engine_Edit [.ptr (.new k) 0, .int .i64 base, .int .i64 group, .int .i64 rank, eChgs cs] σ fun v τ => v = .tup [.int .i64 n, .int .i64 c] ∧ ∃ fp', IsEng τ k E' fp' ∧ Keep fp σ τ ∧ Fresh fp σ fp' := by
  refine spec_of_awp mixed c_engine_Engine_Edit (tl rfl) ?_
  unfold f_engine_Engine_Edit
  have hlow := h.low
  have hok := h.ok
  obtain ⟨x0, kr0, fpr0, h0, rfl⟩ := id h
  have hb0 := h0.blk
  have hx0 := h0.lst.cells.2.2
  have htx := h0.text base
  have hsame : ∃ fp', IsEng σ k E fp' ∧ Keep (k :: fpr0) σ σ ∧ Fresh (k :: fpr0) σ fp' := ⟨_, h, Keep.refl _ _, fun x hx => .inl hx⟩
  have hroom : maxRoom = 68719476736 := rfl
  cases hl : E.R.live base with
  | false =>
    have : editE E base group rank cs = (E, 0, 190) := by rw [editE, if_pos hl]
    rw [this] at e; cases e
    rw [textV, hl, if_neg (by simp)] at htx
    have hb : ((190 : Int) != 0) = true := rfl
    simp +decide only [↓evd, evw, evz, reduceCtorEq, ↓reduceIte]
    refine MSpec.of htx ?_
    simp +decide only [↓evd, evw, evz, reduceCtorEq, ↓reduceIte, hb]
    exact hsame
  | true =>
  rw [textV, if_pos hl] at htx
  have hlt := atomsText_le base (E.R.undone base) hok.1.txt
  have hl4 := hok.1.len
  have hck := check_call σ (E.text base) cs (by unfold Eng.text; omega) (by omega) (fun c hc => by have := hct c hc; unfold ChgFits; omega)
  have hcb : ((0 : Int) != 0) = false := rfl
  simp +decide only [↓evd, evw, evz, reduceCtorEq, ↓reduceIte]
  refine MSpec.of htx ?_
  simp +decide only [↓evd, evw, evz, reduceCtorEq, ↓reduceIte, hcb]
  simp only [eChgs] at hck
  refine MSpec.of hck ?_
  by_cases hc0 : check (E.text base) cs = 0
  case neg =>
    have : editE E base group rank cs = (E, 0, check (E.text base) cs) := by rw [editE, if_neg (by simp [hl]), if_pos hc0]
    rw [this] at e; cases e
    have hb : (check (E.text base) cs != 0) = true := by simpa using hc0
    simp +decide only [↓evd, evw, evz, reduceCtorEq, ↓reduceIte, hb]
    exact hsame
  rw [hc0]
  simp +decide only [↓evd, evw, evz, reduceCtorEq, ↓reduceIte, hcb]
  refine (ecopy_at h).mono ?_
  rintro v τ ⟨k', kr', fpr', rfl, hC, hf', hK⟩
  have hb := hC.blk
  have hE := h.keep hK (fun y _ => by simp)
  rcases ht : addR E.R group with ⟨R', n', c'⟩
  simp +decide only [↓evd, evw, evz, reduceCtorEq, ↓reduceIte, hb]
  refine (add_at hC.revs ht).mono ?_
  rintro v τ1 ⟨rfl, fpr1, hR1, hK1, hF1⟩
  have hdis : ∀ y ∈ k :: fpr0, y ∉ fpr' := fun y hy hm => by have := hlow y hy; have := hf' y (List.mem_cons_of_mem _ hm); omega
  have hE1 := hE.keep hK1 hdis
  have hA1 := (h0.keep hK (fun y _ => by simp)).keep hK1 hdis
  have hKn := hK.2.2.1
  have hKn1 := hK1.2.2.1
  have hkk := hf' k' (by simp)
  have hb1 : τ1.get k' = some (.cells [eAtoms E.l, .ptr (.new kr') 0] none) := by rw [hK1.2.2.2 k' hC.low hC.out]; exact hb
  have hkp : Keep (k :: fpr0) σ τ1 := (hK.mono (fun x hx => nomatch hx)).trans hK1 (fun x hx => .inr (hf' x (List.mem_cons_of_mem _ hx)))
  have hfin : ∃ fp', IsEng τ1 k E fp' ∧ Keep (k :: fpr0) σ τ1 ∧ Fresh (k :: fpr0) σ fp' := ⟨k :: fpr0, hE1, hkp, fun x hx => .inl hx⟩
  have hne : editE E base group rank cs = if c' ≠ 0 then (E, 0, c') else if rank < 0 ∨ 1000000 < rank then (E, 0, 10) else
      if 4000 < (upon E.l base (E.R.undone base) cs n' group rank).length then (E, 0, 70) else
      if 20000 < (Eng.text ⟨upon E.l base (E.R.undone base) cs n' group rank, R'⟩ R'.head).length then (E, 0, 13) else (⟨upon E.l base (E.R.undone base) cs n' group rank, R'⟩, n', 0) := by
    rw [editE, if_neg (by simp [hl]), if_neg (by simp [hc0]), ht]
  by_cases hc : c' = 0
  case neg =>
    have hb : (c' != 0) = true := by simpa using hc
    rw [if_pos hc] at hne
    rw [hne] at e; cases e
    simp +decide only [↓evd, evw, evz, reduceCtorEq, ↓reduceIte, hb]
    exact hfin
  subst hc
  rw [if_neg (by simp)] at hne
  by_cases hr : rank < 0 ∨ 1000000 < rank
  · rw [if_pos hr] at hne
    rw [hne] at e; cases e
    by_cases hr1 : rank < 0
    · simp +decide only [↓evd, evw, evz, reduceCtorEq, ↓reduceIte, hcb, hr1]
      exact hfin
    · have hr2 := hr.resolve_left hr1
      simp +decide only [↓evd, evw, evz, reduceCtorEq, ↓reduceIte, hcb, hr1, hr2]
      exact hfin
  rw [if_neg hr] at hne
  have hr1 : ¬ rank < 0 := fun h => hr (.inl h)
  have hr2 : ¬ 1000000 < rank := fun h => hr (.inr h)
  obtain ⟨_, _, _, _, t1, t2⟩ := addR_ok (R := E.R) (g := group) (by rw [ht]) hok.2
  rw [ht] at t2
  simp only at t2
  have hfit0 := hok.1.fits hok.2
  have hup := hA1.lst.call (upon_call τ1 E.l base (E.R.undone base) cs n' group rank (undone_few hok.2 base) hfit0 (by omega) hct (fun a ha => by have := hok.1.cuts a ha; have := head_le hok.2; omega) (by omega))
  have hun := hA1.undoneAt base
  obtain ⟨uf1, uf2⟩ := upon_facts hok.1 (base := base) (group := group) (rank := rank) (now := n') (cs := cs) (u := E.R.undone base)
  have hb01 := hA1.blk
  have hlen := upon_few hok.1.len base (E.R.undone base) hcl hct n' group rank
  generalize upon E.l base (E.R.undone base) cs n' group rank = l' at hup hne uf1 uf2 hlen
  simp only [ints, eChgs, eAtoms] at hup
  simp only [ints] at hun
  simp only [eAtoms] at hb1
  simp +decide only [↓evd, evw, evz, reduceCtorEq, ↓reduceIte, hcb, hr1, hr2]
  with_reducible refine draw_of_grow (fun _ => True) (ms := [false, false, false, false, false, false, false, false, false, false, false, false, false, false, false, false, true]) (by kernel_rfl) ?_
  simp +decide only [↓evd, evw, evz, reduceCtorEq, ↓reduceIte, hb01, hx0]
  refine MSpec.of hun ⟨.inr Keeps.rfl, ?_⟩
  simp +decide only [↓evd, evw, evz, reduceCtorEq, ↓reduceIte]
  refine MSpec.of hup ⟨.inr Keeps.rfl, ?_⟩
  simp +decide only [↓evd, evw, evz, reduceCtorEq, ↓reduceIte, hb1]
  have hK2 : Keep [k'] τ1 (τ1.set k' (.cells [.fsl 5 (l'.map eAtom), .ptr (.new kr') 0] none)) := (Keep.refl _ _).set (.inl (by simp)) _
  have hkf : k' ∉ fpr1 := fun hm => by
    rcases hF1 k' hm with h1 | h1
    · exact hC.out h1
    · have := hC.low; omega
  have hkp2 : Keep (k :: fpr0) σ (τ1.set k' (.cells [.fsl 5 (l'.map eAtom), .ptr (.new kr') 0] none)) := hkp.set (.inr hkk) _
  have hE2 := hE1.keep hK2 (fun y hy hm => by simp at hm; have := hlow y hy; omega)
  have hfin2 : ∃ fp', IsEng (τ1.set k' (.cells [.fsl 5 (l'.map eAtom), .ptr (.new kr') 0] none)) k E fp' ∧ Keep (k :: fpr0) σ (τ1.set k' (.cells [.fsl 5 (l'.map eAtom), .ptr (.new kr') 0] none)) ∧ Fresh (k :: fpr0) σ fp' := ⟨k :: fpr0, hE2, hkp2, fun x hx => .inl hx⟩
  by_cases hm : 4000 < l'.length
  · have hm' : (4000 : Int) < (l'.length : Int) := by omega
    rw [if_pos hm] at hne
    rw [hne] at e; cases e
    simp +decide only [↓evd, evw, evz, reduceCtorEq, ↓reduceIte, hm']
    exact hfin2
  have hm' : ¬ (4000 : Int) < (l'.length : Int) := by omega
  rw [if_neg hm] at hne
  have hR2 := hR1.keep hK2 (fun y hy hm => by simp at hm; subst hm; exact hkf hy)
  have hok2 : Eng.Ok ⟨l', R'⟩ := ⟨by simp only; omega, uf1, fun a ha => by have := uf2 a ha; simp only [t2]; omega⟩
  have hN : EngAt (τ1.set k' (.cells [.fsl 5 (l'.map eAtom), .ptr (.new kr') 0] none)) k' ⟨l', R'⟩ (eAtoms l') kr' fpr1 := ⟨by rw [Heap.get_set, if_pos rfl]; rfl, .inl rfl, hR2, hkf, by have := hC.low; simp only [Heap.set_next]; omega, hok2⟩
  have hfit := hN.fitsC
  have hf1 : ∀ y ∈ fpr1, σ.next ≤ y := fun y hy => by
    rcases hF1 y hy with h1 | h1
    · exact hf' y (List.mem_cons_of_mem _ h1)
    · omega
  simp +decide only [↓evd, evw, evz, reduceCtorEq, ↓reduceIte, hm']
  refine MSpec.of hfit ?_
  by_cases hl : ((Eng.text ⟨l', R'⟩ (R'.head : Nat)).length : Int) ≤ 20000
  · rw [if_neg (by omega)] at hne
    rw [hne] at e; cases e
    have hk0 := h0.low
    have hle : k < τ1.next := by omega
    have hne2 : (k' = k) = False := eq_false (by omega)
    simp +decide only [↓evd, evw, evz, reduceCtorEq, ↓reduceIte, decide_eq_true hl, hb01, hne2]
    refine ⟨k :: fpr1, IsEng.took (by simpa using hle) hR2.low (.inl rfl) hR2 (fun hm => by have := hf1 k hm; omega) hok2, hkp2.set (.inl (by simp)) _, fun x hx => ?_⟩
    rcases List.mem_cons.1 hx with rfl | hx
    · exact .inl (by simp)
    · exact .inr (hf1 x hx)
  · rw [if_pos (by omega)] at hne
    rw [hne] at e; cases e
    simp +decide only [↓evd, evw, evz, reduceCtorEq, ↓reduceIte, decide_eq_false hl]
    exact hfin2
end
theorem chgs_row (cs : List Chg) : ∀ z ∈ cs.map eChg, z.cells.length = 3 := by
  intro z hz; rw [List.mem_map] at hz; obtain ⟨c, _, rfl⟩ := hz; rfl
theorem sees_chgs {σ : Heap} {K n : Nat} {cs : List Chg} (hn : n = cs.length) (hg : σ.get K = some (.cells ((cs.map eChg).flatMap AVal.cells) none)) : Sees σ (.slc (.new K) 0 n (.ex n)) (σ.set K .dead) (eChgs cs) := by
  refine Sees.own hg (by simp [hn]) (chgs_row cs) ?_ (fun c hc => by cases hc; exact Nat.le_refl _)
  have := flat_len (chgs_row cs)
  rw [List.length_map] at this
  rw [List.drop_zero, List.take_of_length_le (by omega)]
section
variable {σ : Heap} {k : Nat} {E : Eng} {fp : List Nat}
theorem eedit_own {E' : Eng} {n c : Int} (h : IsEng σ k E fp) {base group rank : Int} {cs : List Chg} {K q : Nat} (hq : q = cs.length) (hg : σ.get K = some (.cells ((cs.map eChg).flatMap AVal.cells) none)) (hK : K ∉ fp) (hcl : cs.length ≤ 1000) (hct : ∀ c ∈ cs, c.text.length ≤ 1000000) (e : editE E base group rank cs = (E', n, c)) :
    MSpec Tryz.prog n_engine_Engine_Edit [.ptr (.new k) 0, .int .i64 base, .int .i64 group, .int .i64 rank, .slc (.new K) 0 q (.ex q)] σ fun v τ => v = .tup [.int .i64 n, .int .i64 c] ∧ ∃ fp', IsEng τ k E' fp' ∧ Keep (K :: fp) σ τ ∧ Fresh fp σ fp' := by
  have hk : Keep [K] σ (σ.set K .dead) := (Keep.refl _ _).set (.inl (by simp)) _
  refine mspec_seen (.cons (Sees.refl _ _) (.cons (Sees.refl _ _) (.cons (Sees.refl _ _) (.cons (Sees.refl _ _) (.cons (sees_chgs hq hg) (.nil _)))))) ?_
  refine (eedit_at (h.keep hk fun x hx hm => hK (by simp at hm; exact hm ▸ hx)) hcl hct e).mono ?_
  rintro v τ ⟨hv, fp', h1, h2, h3⟩
  exact ⟨hv, fp', h1, (hk.mono (fun x hx _ => by simp at hx; simp [hx])).trans (h2.mono fun x hx _ => List.mem_cons_of_mem _ hx) (fun x hx => .inl hx), h3⟩
theorem eedit_lit {E' : Eng} {n c : Int} (h : IsEng σ k E fp) {base group rank : Int} {cs : List Chg} {q : Nat} (hq : q = cs.length) (hcl : cs.length ≤ 1000) (hct : ∀ c ∈ cs, c.text.length ≤ 1000000) (e : editE E base group rank cs = (E', n, c)) :
    MSpec Tryz.prog n_engine_Engine_Edit [.ptr (.new k) 0, .int .i64 base, .int .i64 group, .int .i64 rank, .slc (.new σ.next) 0 q (.ex q)] (σ.new (.cells ((cs.map eChg).flatMap AVal.cells) none)) fun v τ => v = .tup [.int .i64 n, .int .i64 c] ∧ ∃ fp', IsEng τ k E' fp' ∧ Keep fp σ τ ∧ Fresh fp σ fp' := by
  have hk : Keep [] σ (σ.new (.cells ((cs.map eChg).flatMap AVal.cells) none)) := (Keep.refl _ _).new _
  refine (eedit_own (K := σ.next) (h.keep hk (fun x _ => by simp)) hq (by rw [Heap.get_new, if_pos rfl]) (fun hm => by have := h.low _ hm; omega) hcl hct e).mono ?_
  rintro v τ ⟨hv, fp', h1, h2, h3⟩
  refine ⟨hv, fp', h1, ⟨h2.1, h2.2.1, Nat.le_of_succ_le h2.2.2.1, fun q hq hn => ?_⟩, fun x hx => ?_⟩
  · rw [h2.2.2.2 q (Nat.lt_succ_of_lt hq) (fun hm => by rcases List.mem_cons.1 hm with h | h; omega; exact hn h), Heap.get_new, if_neg (by omega)]
  · rcases h3 x hx with h4 | h4
    · exact .inl h4
    · exact .inr (Nat.le_of_succ_le h4)
end
theorem etext_at {σ : Heap} {k : Nat} {E : Eng} {fp : List Nat} (h : IsEng σ k E fp) (n : Int) : ACall Tryz.prog n_engine_Engine_Text [.ptr (.new k) 0, .int .i64 n] σ (textV E n) σ := by obtain ⟨_, _, _, h, _⟩ := h; exact h.text n
theorem ehead_at {σ : Heap} {k : Nat} {E : Eng} {fp : List Nat} (h : IsEng σ k E fp) : ACall Tryz.prog n_engine_Engine_Head [.ptr (.new k) 0] σ (.int .i64 (E.R.head : Nat)) σ := by obtain ⟨_, _, _, h, _⟩ := h; exact h.head
theorem eatoms_at {σ : Heap} {k : Nat} {E : Eng} {fp : List Nat} (h : IsEng σ k E fp) : ACall Tryz.prog n_engine_Engine_Atoms [.ptr (.new k) 0] σ (eAtoms E.l) σ := by obtain ⟨_, _, _, h, _⟩ := h; exact h.atoms
theorem egroups_at {σ : Heap} {k : Nat} {E : Eng} {fp : List Nat} (h : IsEng σ k E fp) : ACall Tryz.prog n_engine_Engine_Groups [.ptr (.new k) 0] σ (ints E.R.grp) σ := by obtain ⟨_, _, _, h, _⟩ := h; exact h.groups
def at1 (b : UInt8) (cs : List Cut) : Atom := ⟨[b], 1, 1, 0, cs⟩
def kE1 : Eng := ⟨[at1 104 [], at1 101 [], at1 108 [], at1 108 [], at1 111 []], ⟨[[], []], 0, [1], []⟩⟩
def kE2 : Eng := ⟨[⟨[106], 2, 2, 0, []⟩, at1 104 [⟨2, 2⟩], at1 101 [], at1 108 [], at1 108 [], at1 111 []], ⟨[[], [], []], 0, [1, 2], []⟩⟩
def kE3 : Eng := ⟨[⟨[106], 2, 2, 0, []⟩, at1 104 [⟨2, 2⟩], at1 101 [], at1 108 [], at1 108 [], at1 111 [], ⟨[33], 3, 3, 0, []⟩], ⟨[[], [], [], []], 0, [1, 2, 3], []⟩⟩
def kE4 : Eng := ⟨kE3.l, ⟨[[], [], [], [], [2]], 0, [1, 2, 3], []⟩⟩
theorem k1 : editE Eng.new 0 1 0 [⟨0, 0, [104, 101, 108, 108, 111]⟩] = (kE1, 1, 0) := by kernel_rfl
theorem k2 : editE kE1 1 2 0 [⟨0, 1, [106]⟩] = (kE2, 2, 0) := by kernel_rfl
theorem k3 : editE kE2 1 3 0 [⟨5, 5, [33]⟩] = (kE3, 3, 0) := by kernel_rfl
theorem k4 : toggleE kE3 2 = (kE4, 4, 0) := by kernel_rfl
theorem k5 : editE kE4 9 1 0 [] = (kE4, 0, 190) := by kernel_rfl
end Go.Proofs.YtbnaneikkmcnnaaGreat.M
namespace Go.Proofs.YtbnaneikkmcnnaaGreat.M
open Go Go.Mini
theorem atomsText_append (rev : Int) (u : List Int) : ∀ l m : List Atom, atomsText rev u (l ++ m) = atomsText rev u l ++ atomsText rev u m
  | [], m => rfl
  | a :: l, m => by simp only [List.cons_append, atomsText, atomsText_append rev u l m, List.append_assoc]
theorem edit_fail {E E' : Eng} {base group rank n c : Int} {cs : List Chg} (e : editE E base group rank cs = (E', n, c)) (hc : c ≠ 0) : E' = E ∧ n = 0 := by
  unfold editE at e
  repeat' split at e
  all_goals
    simp only [Prod.mk.injEq] at e
    first | exact ⟨e.1.symm, e.2.1.symm⟩ | exact absurd e.2.2.symm hc
theorem toggle_fail {E E' : Eng} {g n c : Int} (e : toggleE E g = (E', n, c)) (hc : c ≠ 0) : E' = E ∧ n = 0 := by
  unfold toggleE at e
  repeat' split at e
  all_goals
    simp only [Prod.mk.injEq] at e
    first | exact ⟨e.1.symm, e.2.1.symm⟩ | exact absurd e.2.2.symm hc
theorem tmod_nat {a : Int} {n : Nat} (h0 : 0 ≤ a) (hn : 0 < n) : a.tmod (n : Int) = ((a.toNat % n : Nat) : Int) := by
  rw [Int.tmod_eq_emod_of_nonneg h0]
  obtain ⟨b, rfl⟩ : ∃ b : Nat, a = (b : Int) := ⟨a.toNat, by omega⟩
  rw [Int.toNat_natCast]; exact (Int.natCast_emod b n).symm
end Go.Proofs.YtbnaneikkmcnnaaGreat.M
namespace Go.Proofs.YtbnaneikkmcnnaaGreat.M
open Go Go.Mini
attribute [local congr] go1_congr goM_congr goG_congr goV_congr drawwp_congr Xwp_congr
def cv : List Cut → List AVal
  | [] => []
  | c :: l => .int .i64 c.rev :: .int .i64 c.group :: cv l
section
variable {σ : Heap} {b4 b5 b7 b8 : Nat} {gs u : List Int}
end
structure Step where
  what : Int
  base : Int
  group : Int
  rank : Int
  c : List Chg
  groups : List Int
end Go.Proofs.YtbnaneikkmcnnaaGreat.M
namespace Go.Proofs.YtbnaneikkmcnnaaGreat.M
open Go Go.Mini
theorem places_nonneg (rev : Int) (u : List Int) : ∀ (l : List Atom) (n : Nat), ∀ p ∈ places rev u l n, 0 ≤ p
  | [], n, p, h => by simp [places] at h; omega
  | a :: l, n, p, h => by
    simp only [places, List.mem_cons] at h
    rcases h with rfl | h
    · omega
    · exact places_nonneg rev u l _ p h
theorem spotF_low (rev : Int) (u : List Int) (at' : Int) : ∀ (l : List Atom) (ps : List Int) (i acc : Nat), (∀ p ∈ ps, at' ≤ p) → spotF rev u at' l ps i acc = acc
  | [], ps, i, acc, h => by simp [spotF]
  | a :: l, [], i, acc, h => by simp [spotF]
  | a :: l, p :: ps, i, acc, h => by
    have h1 := h p (by simp)
    simp only [spotF]
    rw [if_neg (fun h2 => by omega)]
    exact spotF_low rev u at' l ps _ _ fun q hq => h q (List.mem_cons_of_mem _ hq)
theorem cutsF_none (rev : Int) (u : List Int) (cs : List Chg) (h : ∀ p, cutHit cs p = false) : ∀ (l : List Atom) (ps : List Int) (i : Nat), cutsF rev u cs l ps i = []
  | [], ps, i => by simp [cutsF]
  | a :: l, [], i => by simp [cutsF]
  | a :: l, p :: ps, i => by
    simp only [cutsF, h, Bool.and_false, Bool.false_eq_true, if_false, List.nil_append]
    exact cutsF_none rev u cs h l ps _
theorem marked_nil (c : Cut) : ∀ (l : List Atom) (i : Nat), marked [] c l i = l
  | [], i => rfl
  | a :: l, i => by simp only [marked, List.not_mem_nil, if_false, marked_nil c l]
theorem atoms_valid {l : List Atom} (h : ∀ a ∈ l, IsCP a.text) (rev : Int) (u : List Int) : ∃ ps, atomsText rev u l = List.flatten ps ∧ ∀ p ∈ ps, IsCP p := by
  refine ⟨(l.filter (visible rev u)).map Atom.text, ?_, ?_⟩
  · induction l with
    | nil => rfl
    | cons a l ih =>
      simp only [atomsText, List.filter_cons]
      rw [ih fun b hb => h b (List.mem_cons_of_mem _ hb)]
      split <;> simp
  · intro p hp
    simp only [List.mem_map, List.mem_filter] at hp
    obtain ⟨a, ⟨ha, _⟩, rfl⟩ := hp
    exact h a ha
theorem cp_ascii {b : UInt8} (h : b.toNat < 128) : IsCP [b] := ⟨by simp, by rw [pt, if_pos h]; rfl⟩
theorem check_front {s : List UInt8} (hs : ∃ ps, s = List.flatten ps ∧ ∀ p ∈ ps, IsCP p) {t : List UInt8} (ht : valid t = true) (hl : s.length + t.length ≤ 20000) : check s [⟨0, 0, t⟩] = 0 := by
  obtain ⟨ps, rfl, hp⟩ := hs
  have hv := valid_flat hp
  have he : isEdge ps.flatten 0 = true := (edge_flat hp 0).2 ⟨0, Nat.zero_le _, by simp⟩
  have hw : IntKind.i64.wrap ((0 : Int) - 0) = 0 := by decide
  have hg : gain ps.flatten.length ⟨0, 0, t⟩ = 0 := by
    simp only [gain, gain0, hw]
    rw [if_neg (show ¬ (0 : Int) < 0 by omega), if_neg (by omega)]
  have hlong : longI ps.flatten [⟨0, 0, t⟩] = 0 := by
    simp only [longI, gains, List.map_cons, List.map_nil, hg, List.sum_cons, List.sum_nil, longR]
    rw [if_neg (by omega), if_neg (by omega)]
  have hn : ¬ ((ps.flatten.length : Int) < 0) := by omega
  unfold check
  rw [if_neg (by rw [hv]; simp), if_neg (by simp)]
  simp only [errs, List.any_cons, List.any_nil, Bool.or_false, chgOut, chgIn, he, disorder, ht, hlong, decide_eq_false hn]
  rfl
theorem edit_front {E : Eng} (h : E.Ok) (hR : E.R.Ok) (hrev : ∀ a ∈ E.l, a.rev ≤ (E.R.head : Nat)) {g rank : Int} {b : UInt8} (hb : b.toNat < 128) (hg0 : 0 ≤ g) (hg1 : g < 60) (hgo : g ∉ E.R.gone) (hh : E.R.head < 200) (hr0 : 0 ≤ rank) (hr1 : rank ≤ 1000000) (hlen : E.l.length < 4000) :
    editE E (E.R.head : Nat) g rank [⟨0, 0, [b]⟩] = (⟨⟨[b], (E.R.head : Int) + 1, g, rank, []⟩ :: E.l, { E.R.push E.R.top with grp := insS g E.R.grp }⟩, (E.R.head : Int) + 1, 0) := by
  have hcp := cp_ascii hb
  have hv := atoms_valid h.txt (E.R.head : Nat) (E.R.undone (E.R.head : Nat))
  have hle := atomsText_le (E.R.head : Nat) (E.R.undone (E.R.head : Nat)) h.txt
  have hck : check (E.text (E.R.head : Nat)) [⟨0, 0, [b]⟩] = 0 := check_front hv (valid_iff.2 ⟨[[b]], by simp, by simpa using hcp⟩) (by simp only [Eng.text, List.length_cons, List.length_nil]; omega)
  have hck' : check (atomsText (E.R.head : Nat) (E.R.undone (E.R.head : Nat)) E.l) [⟨0, 0, [b]⟩] = 0 := hck
  have hadd := add_good (R := E.R) hgo hg0 hg1 hh
  have hspot : spot E.l (places (E.R.head : Nat) (E.R.undone (E.R.head : Nat)) E.l 0) (E.R.head : Nat) (E.R.undone (E.R.head : Nat)) 0 rank = 0 := by
    unfold spot
    rw [spotF_low _ _ _ _ _ _ _ (places_nonneg _ _ _ _)]
    simp only [List.drop_zero]
    cases hE : E.l with
    | nil => rfl
    | cons a l =>
      have := hrev a (by rw [hE]; simp)
      rw [spotG, if_neg (by omega)]
  have hup : upon E.l (E.R.head : Nat) (E.R.undone (E.R.head : Nat)) [⟨0, 0, [b]⟩] ((E.R.head : Int) + 1) g rank = ⟨[b], (E.R.head : Int) + 1, g, rank, []⟩ :: E.l := by
    rw [upon, if_pos hck']
    have hct : cuts E.l (E.R.head : Nat) (E.R.undone (E.R.head : Nat)) [⟨0, 0, [b]⟩] = [] := by
      rw [cuts, if_pos hck']
      refine cutsF_none _ _ _ (fun p => ?_) _ _ _
      simp only [cutHit, List.any_cons, List.any_nil, Bool.or_false, Bool.and_eq_false_iff, decide_eq_false_iff_not]
      omega
    rw [hct, marked_nil]
    simp only [spotsN, List.map_cons, List.map_nil, hspot, List.zip_cons_cons, List.zip_nil_left, merged, List.take_zero, List.drop_nil, List.nil_append, List.drop_zero, ptsOf, pts_one hcp, Option.getD_some, newAtoms, List.singleton_append]
  have hlv := Eng.live_head hR
  have htl : ∀ (rev : Int) (u : List Int), (atomsText rev u (⟨[b], (E.R.head : Int) + 1, g, rank, []⟩ :: E.l)).length ≤ 20000 := fun rev u => by
    have := atomsText_le (l := ⟨[b], (E.R.head : Int) + 1, g, rank, []⟩ :: E.l) rev u (by
      intro a ha
      rcases List.mem_cons.1 ha with rfl | ha
      · exact hcp
      · exact h.txt a ha)
    simp only [List.length_cons] at this; omega
  rw [editE, if_neg (by simp [hlv]), if_neg (by simp [hck]), hadd, if_neg (by simp), if_neg (by omega), hup, if_neg (by simp only [List.length_cons]; omega), if_neg (by simp only [Eng.text]; exact Nat.not_lt.2 (htl _ _))]
theorem short_text {l : List Atom} (hl : l.length ≤ 4000) (hc : ∀ a ∈ l, IsCP a.text) (rev : Int) (u : List Int) : (atomsText rev u l).length ≤ 20000 := by have := atomsText_le rev u hc; omega
end Go.Proofs.YtbnaneikkmcnnaaGreat.M
namespace Go.Proofs.YtbnaneikkmcnnaaGreat.M
open Go Go.Mini
attribute [local congr] go1_congr goM_congr goG_congr goV_congr drawwp_congr Xwp_congr
def letter (j : Nat) : UInt8 := UInt8.ofNat (97 + j % 26)
theorem letter_nat (j : Nat) : (letter j).toNat = 97 + j % 26 := by simp only [letter, UInt8.toNat_ofNat']; omega
def stepM (E : Eng) (j : Nat) (g : Int) : Eng := ⟨⟨[letter j], (j : Int) + 1, g.tmod 10, 0, []⟩ :: E.l, { E.R.push [] with grp := insS (g.tmod 10) E.R.grp }⟩
structure MInv (E : Eng) (j : Nat) : Prop where
  und : E.R.und = List.replicate (j + 1) []
  floor : E.R.floor = 0
  gone : E.R.gone = []
  len : E.l.length = j
  rev : ∀ a ∈ E.l, a.rev ≤ (j : Int)
  grp : ∀ g ∈ E.R.grp, g < 10
  bare : ∀ a ∈ E.l, a.cuts = [] ∧ a.group ∈ E.R.grp
  ok : E.Ok
  R : E.R.Ok
theorem MInv.head {E : Eng} {j : Nat} (h : MInv E j) : E.R.head = j := by simp [Revs.head, h.floor, h.und]
theorem MInv.top {E : Eng} {j : Nat} (h : MInv E j) : E.R.top = [] := by
  simp only [Revs.top, h.und, List.replicate_succ', List.getLastD_eq_getLast?, List.getLast?_append, List.getLast?_singleton]; rfl
theorem MInv.new : MInv Eng.new 0 := ⟨rfl, rfl, rfl, rfl, fun a h => (by cases h), fun a h => (by cases h), fun a h => (by cases h), Eng.new_ok, ⟨by simp [Eng.new, Revs.new], by simp [Eng.new, Revs.new], by intro s hs; simp [Eng.new, Revs.new] at hs; subst hs; exact Rise.nil, Rise.nil, Rise.nil⟩⟩
theorem tmod10 {g : Int} (h : 0 ≤ g) : 0 ≤ g.tmod 10 ∧ g.tmod 10 < 10 := by rw [Int.tmod_eq_emod_of_nonneg h]; omega
theorem MInv.edit {E : Eng} {j : Nat} (h : MInv E j) (hj : j < 100) {g : Int} (hg : 0 ≤ g) : editE E (E.R.head : Nat) (g.tmod 10) 0 [⟨0, 0, [letter j]⟩] = (stepM E j g, (j : Int) + 1, 0) := by
  obtain ⟨g1, g2⟩ := tmod10 hg
  have hh := h.head
  have hl := h.len
  rw [edit_front h.ok h.R (fun a ha => by rw [hh]; exact h.rev a ha) (by rw [letter_nat]; omega) g1 (by omega) (by rw [h.gone]; simp) (by omega) (by omega) (by omega) (by omega), hh, h.top]; rfl
theorem MInv.step {E : Eng} {j : Nat} (h : MInv E j) (hj : j < 100) {g : Int} (hg : 0 ≤ g) : MInv (stepM E j g) (j + 1) := by
  obtain ⟨g1, g2⟩ := tmod10 hg
  have hl := h.len
  have he := h.edit hj hg
  have hok := editE_ok h.ok h.R (E.R.head : Nat) (g.tmod 10) 0 [⟨0, 0, [letter j]⟩]
  rw [he] at hok
  refine ⟨?_, h.floor, h.gone, by simp only [stepM, List.length_cons]; omega, ?_, ?_, ?_, hok, ?_⟩
  · simp only [stepM, Revs.push, h.und]; rw [← List.replicate_succ']
  · intro a ha
    rcases List.mem_cons.1 ha with rfl | ha
    · simp only; omega
    · have := h.rev a ha; omega
  · intro x hx
    rcases mem_insS.1 hx with rfl | hx
    · exact g2
    · exact h.grp x hx
  · intro a ha
    rcases List.mem_cons.1 ha with rfl | ha
    · exact ⟨rfl, mem_insS.2 (.inl rfl)⟩
    · have := h.bare a ha; exact ⟨this.1, mem_insS.2 (.inr this.2)⟩
  · refine ⟨by simp [stepM, Revs.push], ?_, ?_, h.R.grp.ins g1 (by omega), h.R.gone⟩
    · simp only [stepM, Revs.push, h.und, h.floor, List.length_append, List.length_replicate, List.length_cons, List.length_nil]; omega
    · intro s hs
      simp only [stepM, Revs.push, h.und, List.mem_append, List.mem_replicate, List.mem_singleton] at hs
      rcases hs with ⟨_, rfl⟩ | rfl <;> exact Rise.nil
def togsE (E : Eng) : List Int → Eng × Int
  | [] => (E, 0)
  | g :: l => if (toggleE E g).2.2 ≠ 0 then (E, (toggleE E g).2.2) else togsE (toggleE E g).1 l
def allE (E : Eng) (l : List Int) : Eng × Int × Int := if (togsE E l).2 ≠ 0 then (E, 0, (togsE E l).2) else ((togsE E l).1, ((togsE E l).1.R.head : Nat), 0)
theorem Keep.fresh {σ τ ρ : Heap} {fp : List Nat} (h : Keep [] σ τ) (h' : Keep fp τ ρ) (hf : ∀ x ∈ fp, σ.next ≤ x) : Keep [] σ ρ :=
  h.trans h' (fun x hx => .inr (hf x hx))
def held (E : Eng) : List Int := E.R.grp.filter fun x => !decide (x ∈ E.R.undone (E.R.head : Nat))
end Go.Proofs.YtbnaneikkmcnnaaGreat.M
namespace Go.Proofs.YtbnaneikkmcnnaaGreat.M
open Go Go.Mini
structure TInv (E : Eng) (l : List Atom) (grp u : List Int) (h : Nat) : Prop where
  ls : E.l = l
  sub : ∀ x ∈ u, x ∈ grp
  grp : E.R.grp = grp
  top : E.R.top = u
  head : E.R.head = h
  few : l.length ≤ 4000
  ok : E.Ok
  R : E.R.Ok
theorem TInv.rise {E : Eng} {l : List Atom} {grp u : List Int} {h : Nat} (t : TInv E l grp u h) : Rise u := by rw [← t.top]; exact t.R.top.2.1
theorem TInv.undone {E : Eng} {l : List Atom} {grp u : List Int} {h : Nat} (t : TInv E l grp u h) : E.R.undone (E.R.head : Nat) = u := by rw [t.R.top.1, t.top]
theorem push_ok {R : Revs} (h : R.Ok) {s : List Int} (hs : Rise s) (hh : R.head < 200) : (R.push s).Ok := by
  have hl := List.length_pos_iff.2 h.one
  refine ⟨by simp [Revs.push], ?_, ?_, h.grp, h.gone⟩
  · simp only [Revs.push, List.length_append, List.length_cons, List.length_nil]; simp only [Revs.head] at hh; omega
  · intro x hx
    simp only [Revs.push, List.mem_append, List.mem_singleton] at hx
    rcases hx with hx | rfl
    · exact h.rise x hx
    · exact hs
theorem TInv.toggle {E : Eng} {l : List Atom} {grp u : List Int} {h : Nat} (t : TInv E l grp u h) {g : Int} (hg : g ∈ grp) (hh : h < 200) :
    toggleE E g = (⟨E.l, E.R.push (flip g u)⟩, ((h + 1 : Nat) : Int), 0) ∧ TInv ⟨E.l, E.R.push (flip g u)⟩ l grp (flip g u) (h + 1) := by
  have hl := List.length_pos_iff.2 t.R.one
  have ht : toggleR E.R g = (E.R.push (flip g u), ((h + 1 : Nat) : Int), 0) := by
    have := toggle_of (R := E.R) (g := g) (by rw [t.grp]; exact hg) (by rw [t.head]; exact hh)
    rw [this, t.top, t.head]; rfl
  have hgb := t.R.grp.2 g (by rw [t.grp]; exact hg)
  have hhd : (E.R.push (flip g u)).head = h + 1 := by
    rw [← t.head]; simp only [Revs.head, Revs.push, List.length_append, List.length_cons, List.length_nil]; omega
  refine ⟨?_, t.ls, fun x hx => ?_, t.grp, top_push _ _, hhd, t.few, ⟨t.ok.len, t.ok.txt, fun a ha => ?_⟩, push_ok t.R (t.rise.flip hgb.1 hgb.2) (by rw [t.head]; exact hh)⟩
  · rw [toggleE, ht, if_neg (by simp), if_neg]
    simp only [Eng.text]
    exact Nat.not_lt.2 (short_text (by rw [t.ls]; exact t.few) t.ok.txt _ _)
  · have hm := (mem_flip (g := g) (x := x) t.rise).1 hx
    by_cases e : x = g
    · rw [e]; exact hg
    · rw [if_neg e] at hm; exact t.sub x hm
  · have h1 := t.ok.cuts a ha
    have h2 := t.head
    simp only [hhd]; omega
theorem TInv.toggle_no {E : Eng} {l : List Atom} {grp u : List Int} {h : Nat} (t : TInv E l grp u h) {g : Int} (hg : g ∉ grp) : toggleE E g = (E, 0, 210) := by
  rw [toggleE, toggle_bad (by rw [t.grp]; exact hg), if_pos (by simp)]
def flips (u l : List Int) : List Int := l.foldl (fun u g => flip g u) u
theorem TInv.togs {grp : List Int} {l : List Atom} : ∀ {ks : List Int} {E : Eng} {u : List Int} {h : Nat}, TInv E l grp u h → h + ks.length ≤ 200 →
    if ∀ g ∈ ks, g ∈ grp then (togsE E ks).2 = 0 ∧ TInv (togsE E ks).1 l grp (flips u ks) (h + ks.length) else (togsE E ks).2 = 210
  | [], E, u, h, t, _ => by rw [if_pos (by simp)]; exact ⟨rfl, t⟩
  | g :: ks, E, u, h, t, hl => by
    simp only [List.length_cons] at hl
    by_cases hg : g ∈ grp
    · obtain ⟨h1, h2⟩ := t.toggle hg (by omega)
      have ih := TInv.togs (ks := ks) h2 (by omega)
      have e : togsE E (g :: ks) = togsE ⟨E.l, E.R.push (flip g u)⟩ ks := by rw [togsE, h1, if_neg (by simp)]
      rw [e]
      by_cases hk : ∀ x ∈ ks, x ∈ grp
      · rw [if_pos hk] at ih
        rw [if_pos (by intro x hx; rcases List.mem_cons.1 hx with rfl | hx; exact hg; exact hk x hx)]
        refine ⟨ih.1, ?_⟩
        rw [List.length_cons, show h + (ks.length + 1) = h + 1 + ks.length by omega]
        exact ih.2
      · rw [if_neg hk] at ih
        rw [if_neg (fun h => hk fun x hx => h x (List.mem_cons_of_mem _ hx))]
        exact ih
    · rw [if_neg (fun h => hg (h g (by simp))), togsE, t.toggle_no hg, if_pos (by simp)]
theorem TInv.all {E : Eng} {l : List Atom} {grp u : List Int} {h : Nat} (t : TInv E l grp u h) {ks : List Int} (hl : h + ks.length ≤ 200) (hk : ∀ g ∈ ks, g ∈ grp) :
    ∃ E', allE E ks = (E', ((h + ks.length : Nat) : Int), 0) ∧ TInv E' l grp (flips u ks) (h + ks.length) := by
  have := t.togs hl
  rw [if_pos hk] at this
  exact ⟨_, by rw [allE, this.1, if_neg (by simp), this.2.head], this.2⟩
end Go.Proofs.YtbnaneikkmcnnaaGreat.M
namespace Go.Proofs.YtbnaneikkmcnnaaGreat.M
open Go Go.Mini
attribute [local congr] go1_congr goM_congr goG_congr goV_congr drawwp_congr
def Eng.Old (E : Eng) : Prop := ∀ a ∈ E.l, a.rev ≤ (E.R.head : Nat) ∧ ∀ c ∈ a.cuts, c.rev ≤ (E.R.head : Nat)
theorem Eng.new_old : Eng.new.Old := by intro a ha; cases ha
theorem edit_shape {E E' : Eng} {base group rank n : Int} {cs : List Chg} (hR : E.R.Ok) (e : editE E base group rank cs = (E', n, 0)) : group ∉ E.R.gone ∧ 0 ≤ group ∧ group < 60 ∧ E.R.head < 200 ∧ E.R.live base = true ∧ check (E.text base) cs = 0 ∧ 0 ≤ rank ∧ rank ≤ 1000000 ∧ n = ((E.R.head + 1 : Nat) : Int) ∧
    E' = ⟨upon E.l base (E.R.undone base) cs ((E.R.head + 1 : Nat) : Int) group rank, { E.R.push E.R.top with grp := insS group E.R.grp }⟩ ∧ E'.R.head = E.R.head + 1 := by
  unfold editE at e
  split at e
  · simp only [Prod.mk.injEq] at e; exact absurd e.2.2 (by decide)
  rename_i h1
  split at e
  · rename_i h2; simp only [Prod.mk.injEq] at e; exact absurd e.2.2 h2
  rename_i h2
  split at e
  · rename_i h3; simp only [Prod.mk.injEq] at e; exact absurd e.2.2 h3
  rename_i h3
  split at e
  · simp only [Prod.mk.injEq] at e; exact absurd e.2.2 (by decide)
  rename_i h4
  split at e
  · simp only [Prod.mk.injEq] at e; exact absurd e.2.2 (by decide)
  split at e
  · simp only [Prod.mk.injEq] at e; exact absurd e.2.2 (by decide)
  obtain ⟨q1, q2, q3, q4, e1, e2⟩ := addR_ok (by simpa using h3) hR
  cases e
  exact ⟨q1, q2, q3, q4, by simpa using h1, by simpa using h2, by omega, by omega, by rw [e1]; rfl, by rw [e1]; rfl, e2⟩
theorem edit_old {E E' : Eng} {base group rank n : Int} {cs : List Chg} (hR : E.R.Ok) (hO : E.Old) (e : editE E base group rank cs = (E', n, 0)) : E'.Old := by
  obtain ⟨_, _, _, _, _, _, _, _, _, he, hh⟩ := edit_shape hR e
  intro a ha
  rw [hh]
  rw [he] at ha
  rcases mem_upon ha with ⟨b, hb, rfl | rfl⟩ | ⟨b, _, rfl⟩
  · have := hO a hb; exact ⟨by omega, fun c hc => by have := this.2 c hc; omega⟩
  · have := hO b hb
    refine ⟨by simp only; omega, fun c hc => ?_⟩
    simp only [List.mem_append, List.mem_singleton] at hc
    rcases hc with hc | rfl
    · have := this.2 c hc; omega
    · simp only; omega
  · exact ⟨by simp only; omega, fun c hc => by cases hc⟩
theorem toggle_shape {E E' : Eng} {g n : Int} (hR : E.R.Ok) (e : toggleE E g = (E', n, 0)) : g ∈ E.R.grp ∧ E.R.head < 200 ∧ n = ((E.R.head + 1 : Nat) : Int) ∧ E' = ⟨E.l, E.R.push (flip g E.R.top)⟩ ∧ E'.R.head = E.R.head + 1 := by
  unfold toggleE at e
  split at e
  · rename_i h2; simp only [Prod.mk.injEq] at e; exact absurd e.2.2 h2
  rename_i h3
  split at e
  · simp only [Prod.mk.injEq] at e; exact absurd e.2.2 (by decide)
  obtain ⟨q1, q2, e1, e2⟩ := toggleR_ok (by simpa using h3) hR
  cases e
  exact ⟨q1, q2, by rw [e1]; rfl, by rw [e1], e2⟩
theorem toggle_old {E E' : Eng} {g n : Int} (hR : E.R.Ok) (hO : E.Old) (e : toggleE E g = (E', n, 0)) : E'.Old := by
  obtain ⟨_, _, _, he, hh⟩ := toggle_shape hR e
  intro a ha
  rw [he] at ha
  have := hO a ha
  rw [hh]
  exact ⟨by omega, fun c hc => by have := this.2 c hc; omega⟩
structure TwInv (E : Eng) (i : Nat) : Prop where
  top : E.R.top = []
  head : E.R.head ≤ i
  old : E.Old
  grp : ∀ a ∈ E.l, a.group ∈ E.R.grp
theorem TwInv.new : TwInv Eng.new 0 := ⟨rfl, Nat.le_refl _, Eng.new_old, fun a h => by cases h⟩
theorem TwInv.mono {E : Eng} {i : Nat} (h : TwInv E i) : TwInv E (i + 1) := ⟨h.top, by have := h.head; omega, h.old, h.grp⟩
theorem TwInv.edit {E E' : Eng} {i : Nat} (h : TwInv E i) (hR : E.R.Ok) {base group rank n c : Int} {cs : List Chg} (e : editE E base group rank cs = (E', n, c)) : TwInv E' (i + 1) := by
  by_cases hc : c = 0
  · subst hc
    obtain ⟨_, _, _, _, _, _, _, _, _, he, hh⟩ := edit_shape hR e
    refine ⟨?_, by have := h.head; omega, edit_old hR h.old e, fun a ha => ?_⟩
    · rw [he]; show (E.R.push E.R.top).top = []; rw [top_push, h.top]
    · rw [he] at ha ⊢
      show a.group ∈ insS group E.R.grp
      rw [mem_insS]
      rcases mem_upon ha with ⟨b, hb, rfl | rfl⟩ | ⟨b, _, rfl⟩
      · exact .inr (h.grp a hb)
      · exact .inr (h.grp b hb)
      · exact .inl rfl
  · rw [(edit_fail e hc).1]; exact h.mono
end Go.Proofs.YtbnaneikkmcnnaaGreat.M
namespace Go.Proofs.YtbnaneikkmcnnaaGreat.M
open Go Go.Mini
attribute [local congr] go1_congr goM_congr goG_congr goV_congr drawwp_congr Xwp_congr
end Go.Proofs.YtbnaneikkmcnnaaGreat.M
namespace Go.Proofs.YtbnaneikkmcnnaaGreat.M
open Go Go.Mini
structure Eng.Known (E : Eng) : Prop where
  old : E.Old
  grp : ∀ a ∈ E.l, (a.group ∈ E.R.grp ∨ a.group = -1) ∧ ∀ c ∈ a.cuts, c.group ∈ E.R.grp
structure Eng.Whole (E : Eng) : Prop where
  ok : E.Ok
  rok : E.R.Ok
  known : E.Known
theorem Eng.Known.new : Eng.new.Known := ⟨Eng.new_old, fun a h => by cases h⟩
theorem Eng.Known.edit {E E' : Eng} {base group rank n c : Int} {cs : List Chg} (hR : E.R.Ok) (h : E.Known) (e : editE E base group rank cs = (E', n, c)) : E'.Known := by
  by_cases hc : c = 0
  case neg => rw [(edit_fail e hc).1]; exact h
  subst hc
  refine ⟨edit_old hR h.old e, ?_⟩
  obtain ⟨_, _, _, _, _, _, _, _, _, he, _⟩ := edit_shape hR e
  intro a ha
  rw [he] at ha ⊢
  have hm : ∀ g, g ∈ E.R.grp → g ∈ insS group E.R.grp := fun g hg => mem_insS.2 (.inr hg)
  rcases mem_upon ha with ⟨b, hb, rfl | rfl⟩ | ⟨b, _, rfl⟩
  · exact ⟨(h.grp a hb).1.imp (hm _) id, fun c hc => hm _ ((h.grp a hb).2 c hc)⟩
  · refine ⟨(h.grp b hb).1.imp (hm _) id, fun c hc => ?_⟩
    simp only [List.mem_append, List.mem_singleton] at hc
    rcases hc with hc | rfl
    · exact hm _ ((h.grp b hb).2 c hc)
    · exact mem_insS.2 (.inl rfl)
  · exact ⟨.inl (mem_insS.2 (.inl rfl)), fun c hc => by cases hc⟩
theorem Eng.Known.toggle {E E' : Eng} {g n c : Int} (hR : E.R.Ok) (h : E.Known) (e : toggleE E g = (E', n, c)) : E'.Known := by
  by_cases hc : c = 0
  case neg => rw [(toggle_fail e hc).1]; exact h
  subst hc
  refine ⟨toggle_old hR h.old e, ?_⟩
  obtain ⟨_, _, _, he, _⟩ := toggle_shape hR e
  intro a ha
  rw [he] at ha ⊢
  exact h.grp a ha
theorem rok_edit {R : Revs} (h : R.Ok) (hh : R.head < 200) {g : Int} (h0 : 0 ≤ g) (h1 : g < 60) : Revs.Ok { R.push R.top with grp := insS g R.grp } := by
  have p := push_ok h h.top.2.1 hh
  exact ⟨p.one, p.few, p.rise, h.grp.ins h0 h1, p.gone⟩
theorem rise_flip {s : List Int} (hs : Rise s) {g : Int} (h0 : 0 ≤ g) (h1 : g < 60) : Rise (flip g s) := by
  unfold flip
  split
  · exact hs.erase g
  · exact hs.ins h0 h1
theorem Eng.Whole.new : Eng.new.Whole := ⟨Eng.new_ok, ⟨by simp [Eng.new, Revs.new], by simp [Eng.new, Revs.new], fun s hs => by simp [Eng.new, Revs.new] at hs; subst hs; exact Rise.nil, Rise.nil, Rise.nil⟩, Eng.Known.new⟩
theorem Eng.Whole.edit {E E' : Eng} {base group rank n c : Int} {cs : List Chg} (h : E.Whole) (e : editE E base group rank cs = (E', n, c)) : E'.Whole := by
  have h1 := editE_ok h.ok h.rok base group rank cs
  rw [e] at h1
  refine ⟨h1, ?_, h.known.edit h.rok e⟩
  by_cases hc : c = 0
  case neg => rw [(edit_fail e hc).1]; exact h.rok
  subst hc
  obtain ⟨_, g0, g1, hh, _, _, _, _, _, he, _⟩ := edit_shape h.rok e
  rw [he]; exact rok_edit h.rok hh g0 g1
theorem Eng.Whole.toggle {E E' : Eng} {g n c : Int} (h : E.Whole) (e : toggleE E g = (E', n, c)) : E'.Whole := by
  have h1 := toggleE_ok h.ok h.rok g
  rw [e] at h1
  refine ⟨h1, ?_, h.known.toggle h.rok e⟩
  by_cases hc : c = 0
  case neg => rw [(toggle_fail e hc).1]; exact h.rok
  subst hc
  obtain ⟨hg, hh, _, he, _⟩ := toggle_shape h.rok e
  have hb := h.rok.grp.2 g hg
  rw [he]; exact push_ok h.rok (rise_flip h.rok.top.2.1 hb.1 hb.2) hh
end Go.Proofs.YtbnaneikkmcnnaaGreat.M
namespace Go.Proofs.YtbnaneikkmcnnaaGreat.M
open Go Go.Mini
attribute [local congr] go1_congr goM_congr goG_congr goV_congr drawwp_congr Xwp_congr
theorem within_call (σ : Heap) {n a b : Int} (h1 : a ≤ n) (h2 : n ≤ b) : ACall Tryz.prog n_atom_within [.int .i64 n, .int .i64 a, .int .i64 b] σ (.bool true) σ := by
  refine bare_call rfl rfl (fun W F => spec_of_awp mixed c_atom_within (tl rfl) ?_) σ
  unfold f_atom_within
  simp +decide only [↓evd, evw, evz, reduceCtorEq, ↓reduceIte, h1, h2]
  exact seen rfl rfl rfl
theorem isGroup_call (σ : Heap) {n : Int} (h1 : -1 ≤ n) (h2 : n ≤ 59) : ACall Tryz.prog n_atom_isGroup [.int .i64 n] σ (.bool true) σ := by
  refine bare_call rfl rfl (fun W F => spec_of_awp mixed c_atom_isGroup (tl rfl) ?_) σ
  unfold f_atom_isGroup
  simp +decide only [↓evd, evw, evz, reduceCtorEq, ↓reduceIte]
  refine MSpec.of (within_call _ h1 h2) ?_
  simp +decide only [↓evd, evw, evz, reduceCtorEq, ↓reduceIte]
  exact seen rfl rfl rfl
def CutFine (c : Cut) : Prop := (0 ≤ c.rev ∧ c.rev ≤ 1000000) ∧ -1 ≤ c.group ∧ c.group ≤ 59
structure AtomFine (a : Atom) : Prop where
  txt : IsCP a.text
  rev : 0 ≤ a.rev ∧ a.rev ≤ 1000000
  rank : 0 ≤ a.rank ∧ a.rank ≤ 1000000
  grp : -1 ≤ a.group ∧ a.group ≤ 59
  len : a.cuts.length ≤ 200
  cuts : ∀ c ∈ a.cuts, CutFine c
theorem is1_call (σ : Heap) {c : Cut} (h : CutFine c) : ACall Tryz.prog n_atom_is_1 [eCut c] σ (.bool false) σ := by
  refine bare_call rfl rfl (fun W F => spec_of_awp mixed c_atom_is_1 (tl rfl) ?_) σ
  unfold f_atom_is_1
  simp +decide only [↓evd, evw, evz, reduceCtorEq, ↓reduceIte, eCut]
  refine MSpec.of (within_call _ h.1.1 h.1.2) ?_
  simp +decide only [↓evd, evw, evz, reduceCtorEq, ↓reduceIte]
  refine MSpec.of (isGroup_call _ h.2.1 h.2.2) ?_
  simp +decide only [↓evd, evw, evz, reduceCtorEq, ↓reduceIte]
  exact seen rfl rfl rfl
set_option maxHeartbeats 2000000 in
theorem is_call (σ : Heap) {a : Atom} (h : AtomFine a) : ACall Tryz.prog n_atom_is [eAtom a] σ (.bool true) σ := by
  refine bare_call (by simp only [AVal.pures, eAtom_pure]; rfl) rfl (fun W F => spec_of_awp mixed c_atom_is (tl rfl) ?_) σ
  unfold f_atom_is
  have hl := cp_len h.txt
  have hne : (a.text == []) = false := by
    cases he : a.text with
    | nil => rw [he] at hl; simp at hl
    | cons _ _ => rfl
  have hsz := fun τ => size_call τ a.text 0 (by unfold maxRoom; omega)
  have hp : (ptAt a.text 0).2 = a.text.length := by
    rw [ptAt, if_neg (by decide)]; exact h.txt.2
  rw [hp] at hsz
  have hbe : (((a.text.length : Nat) : Int) != (a.text.length : Int)) = false := by simp
  have hst : aStr .eql a.text [] = some (.bool false) := by simp only [aStr, hne]
  have hc2 : ¬ (200 : Int) < (a.cuts.length : Int) := by have := h.len; omega
  have hcf := fun τ => containsFunc_call τ a.cuts n_atom_is_1 [] (fun _ => false) (by have := h.len; omega) (fun c hc => is1_call τ (h.cuts c hc))
  simp only [eCuts] at hcf
  have hany : (a.cuts.any fun _ => false) = false := by simp
  rw [hany] at hcf
  simp +decide only [↓evd, evw, evz, reduceCtorEq, ↓reduceIte, eAtom]
  with_reducible refine draw_of_grow (fun _ => True) (ms := [false, false, false, false, false, false, false, false, false, false, false, false, false, false, false, false, false, false, false, false, false, false, false, false, false, false, false, false, false, false, false, false, false, false, false, false]) (by kernel_rfl) ?_
  simp +decide only [↓evd, evw, evz, reduceCtorEq, ↓reduceIte, eAtom, hst]
  refine MSpec.of (hsz _) ⟨.inr Keeps.rfl, ?_⟩
  simp +decide only [↓evd, evw, evz, reduceCtorEq, ↓reduceIte, hbe]
  refine MSpec.of (within_call _ h.rev.1 h.rev.2) ⟨.inr Keeps.rfl, ?_⟩
  simp +decide only [↓evd, evw, evz, reduceCtorEq, ↓reduceIte]
  refine MSpec.of (within_call _ h.rank.1 h.rank.2) ⟨.inr Keeps.rfl, ?_⟩
  simp +decide only [↓evd, evw, evz, reduceCtorEq, ↓reduceIte]
  refine MSpec.of (isGroup_call _ h.grp.1 h.grp.2) ⟨.inr Keeps.rfl, ?_⟩
  simp +decide only [↓evd, evw, evz, reduceCtorEq, ↓reduceIte, eCuts, hc2]
  refine MSpec.of (hcf _) ?_
  simp +decide only [↓evd, evw, evz, reduceCtorEq, ↓reduceIte]
  exact seen rfl rfl rfl
theorem isA1_call (σ : Heap) {a : Atom} (h : AtomFine a) : ACall Tryz.prog n_atom_Is_1 [eAtom a] σ (.bool false) σ := by
  refine bare_call (by simp only [AVal.pures, eAtom_pure]; rfl) rfl (fun W F => spec_of_awp mixed c_atom_Is_1 (tl rfl) ?_) σ
  unfold f_atom_Is_1
  have hi := fun τ => is_call τ h
  simp only [eAtom] at hi
  simp +decide only [↓evd, evw, evz, reduceCtorEq, ↓reduceIte, eAtom]
  refine MSpec.of (hi _) ?_
  simp +decide only [↓evd, evw, evz, reduceCtorEq, ↓reduceIte]
  exact seen rfl rfl rfl
theorem indexFuncA_call (σ : Heap) (l : List Atom) (g : FuncId) (caps : List AVal) (hl : l.length ≤ 4611686018427387904) (hp : ∀ a ∈ l, ACall Tryz.prog g (eAtom a :: caps) σ (.bool false) σ) :
    ACall Tryz.prog n_slices_IndexFunc_api_Atom_api_Atom [eAtoms l, .fn g caps] σ (.int .i64 (-1)) σ := by
  refine exact_call (spec_of_awp mixed c_slices_IndexFunc_api_Atom_api_Atom (tl rfl) ?_)
  unfold f_slices_IndexFunc_api_Atom_api_Atom
  simp +decide only [↓evd, evw, evz, reduceCtorEq, ↓reduceIte, eAtoms]
  refine awp_loop (fun m fr τ => ∃ i, m + i = l.length ∧ fr.get 0 = eAtoms l ∧ fr.get 1 = .fn g caps ∧ fr.get 7 = .int .i64 l.length ∧ fr.get 8 = .int .i64 (i : Nat) ∧ τ = σ) ?_ (m := l.length) ?_
  · rintro m fr τ ⟨i, hi, e0, e1, e7, e8, rfl⟩
    by_cases hlt : i < l.length
    · have hlt' : (i : Int) < (l.length : Int) := by omega
      have hg := map_get eAtom l i hlt
      have hw := wrap_succ (i := i) (by omega)
      have hpp := hp l[i] (List.getElem_mem hlt)
      simp +decide only [↓evd, evw, evz, reduceCtorEq, ↓reduceIte, e0, e1, e7, e8, hlt', eAtoms, hg]
      refine MSpec.of hpp ?_
      simp +decide only [↓evd, evw, evz, reduceCtorEq, ↓reduceIte, e0, e1, e7, e8, hw]
      exact ⟨m - 1, by omega, i + 1, by omega, by (repeat' apply And.intro) <;> first | rfl | assumption⟩
    · have hlt' : ¬ (i : Int) < (l.length : Int) := by omega
      simp +decide only [↓evd, evw, evz, reduceCtorEq, ↓reduceIte, e7, e8, hlt']
  · exact ⟨0, by omega, by first | (simp +decide only [↓evd, evw, evz, reduceCtorEq, ↓reduceIte]; done) | (simp +decide only [↓evd, evw, evz, reduceCtorEq, ↓reduceIte]; first | rfl | (repeat' apply And.intro) <;> rfl)⟩
theorem Is_call (σ : Heap) (l : List Atom) (hl : l.length ≤ 4000) (h : ∀ a ∈ l, AtomFine a) : ACall Tryz.prog n_atom_Is [eAtoms l] σ (.bool true) σ := by
  refine exact_call (spec_of_awp mixed c_atom_Is (tl rfl) ?_)
  unfold f_atom_Is
  have hl' : (l.length : Int) ≤ 4000 := by omega
  have hi : ACall Tryz.prog n_slices_ContainsFunc_api_Atom_api_Atom [eAtoms l, .fn n_atom_Is_1 []] σ (.bool false) σ := by
    refine exact_call (spec_of_awp mixed c_slices_ContainsFunc_api_Atom_api_Atom (tl rfl) ?_)
    unfold f_slices_ContainsFunc_api_Atom_api_Atom
    simp +decide only [↓evd, evw, evz, reduceCtorEq, ↓reduceIte]
    refine MSpec.of (indexFuncA_call _ _ _ _ (by omega) fun a ha => isA1_call _ (h a ha)) ?_
    simp +decide only [↓evd, evw, evz, reduceCtorEq, ↓reduceIte]
  simp only [eAtoms] at hi
  simp +decide only [↓evd, evw, evz, reduceCtorEq, ↓reduceIte, eAtoms, hl']
  refine MSpec.of hi ?_
  simp +decide only [↓evd, evw, evz, reduceCtorEq, ↓reduceIte]
end Go.Proofs.YtbnaneikkmcnnaaGreat.M
namespace Go.Proofs.YtbnaneikkmcnnaaGreat.M
open Go Go.Mini
structure Eng.Fine (E : Eng) : Prop where
  whole : E.Whole
  low : ∀ a ∈ E.l, 0 ≤ a.rev ∧ (0 ≤ a.rank ∧ a.rank ≤ 1000000) ∧ ∀ c ∈ a.cuts, 0 ≤ c.rev
theorem Eng.Fine.new : Eng.new.Fine := ⟨Eng.Whole.new, fun a h => by cases h⟩
theorem Eng.Fine.edit {E E' : Eng} {base group rank n c : Int} {cs : List Chg} (h : E.Fine) (e : editE E base group rank cs = (E', n, c)) : E'.Fine := by
  refine ⟨h.whole.edit e, ?_⟩
  by_cases hc : c = 0
  case neg => rw [(edit_fail e hc).1]; exact h.low
  subst hc
  obtain ⟨_, _, _, _, _, _, hr0, hr1, _, he, _⟩ := edit_shape h.whole.rok e
  intro a ha
  rw [he] at ha
  rcases mem_upon ha with ⟨b, hb, rfl | rfl⟩ | ⟨b, _, rfl⟩
  · exact h.low a hb
  · refine ⟨(h.low b hb).1, (h.low b hb).2.1, fun c hc => ?_⟩
    simp only [List.mem_append, List.mem_singleton] at hc
    rcases hc with hc | rfl
    · exact (h.low b hb).2.2 c hc
    · simp only; omega
  · exact ⟨by simp only; omega, ⟨hr0, hr1⟩, fun c hc => by cases hc⟩
theorem Eng.Fine.toggle {E E' : Eng} {g n c : Int} (h : E.Fine) (e : toggleE E g = (E', n, c)) : E'.Fine := by
  refine ⟨h.whole.toggle e, ?_⟩
  by_cases hc : c = 0
  case neg => rw [(toggle_fail e hc).1]; exact h.low
  subst hc
  obtain ⟨_, _, _, he, _⟩ := toggle_shape h.whole.rok e
  rw [he]; exact h.low
theorem Eng.Fine.atom {E : Eng} (h : E.Fine) : ∀ a ∈ E.l, AtomFine a := fun a ha => by
  have ho := h.whole.known.old a ha
  have hl := h.low a ha
  have hg := h.whole.known.grp a ha
  have hR := h.whole.rok.grp
  have hh := head_le h.whole.rok
  have hc := h.whole.ok.cuts a ha
  refine ⟨h.whole.ok.txt a ha, ⟨hl.1, by omega⟩, hl.2.1, ?_, by omega, fun c hcm => ⟨⟨hl.2.2 c hcm, by have := ho.2 c hcm; omega⟩, ?_⟩⟩
  · rcases hg.1 with hg | hg
    · have := hR.2 _ hg; omega
    · omega
  · have := hR.2 _ (hg.2 c hcm); omega
theorem Eng.Fine.valid {E : Eng} (h : E.Fine) (n : Int) : valid (E.text n) = true ∧ (E.text n).length ≤ 16000 := by
  have h1 := h.whole.ok
  refine ⟨valid_iff.2 (atoms_valid h1.txt n _), ?_⟩
  have := atomsText_le n (E.R.undone n) h1.txt
  have := h1.len
  unfold Eng.text; omega
def doF (s : List UInt8) : List Chg → Nat → List UInt8
  | [], at' => s.drop at'
  | c :: l, at' => (s.take c.frm.toNat).drop at' ++ c.text ++ doF s l c.to.toNat
def OrdC (n : Nat) : List Chg → Int → Prop
  | [], at' => at' ≤ (n : Int)
  | c :: l, at' => at' ≤ c.frm ∧ c.frm ≤ c.to ∧ c.to ≤ (n : Int) ∧ OrdC n l c.to
theorem OrdC.low {n : Nat} : ∀ {l : List Chg} {at' : Int}, OrdC n l at' → ∀ c ∈ l, at' ≤ c.frm
  | [], _, _, c, h => by cases h
  | d :: l, at', h, c, hc => by
    obtain ⟨h1, h2, h3, h4⟩ := h
    rcases List.mem_cons.1 hc with rfl | hc
    · exact h1
    · have := h4.low c hc; omega
theorem OrdC.le {n : Nat} : ∀ {l : List Chg} {at' : Int}, OrdC n l at' → at' ≤ (n : Int)
  | [], _, h => h
  | d :: l, at', ⟨h1, h2, h3, h4⟩ => by omega
theorem ord_of {s : List UInt8} : ∀ {l : List Chg} {at' : Int}, l.any (chgOut s) = false → disorder l = false → at' ≤ (s.length : Int) → (∀ c, l.head? = some c → at' ≤ c.frm) → OrdC s.length l at'
  | [], at', _, _, h, _ => h
  | [c], at', h1, _, _, h3 => by
    simp only [List.any_cons, List.any_nil, Bool.or_false, chgOut, Bool.or_eq_false_iff, decide_eq_false_iff_not] at h1
    exact ⟨h3 c rfl, by omega, by omega, by simp only [OrdC]; omega⟩
  | c :: d :: l, at', h1, h2, _, h3 => by
    rw [List.any_cons, Bool.or_eq_false_iff] at h1
    rw [disorder, Bool.or_eq_false_iff] at h2
    have h4 := h1.1
    simp only [chgOut, Bool.or_eq_false_iff, decide_eq_false_iff_not] at h4
    have h5 := h2.1
    simp only [chgBad, Bool.or_eq_false_iff, decide_eq_false_iff_not] at h5
    refine ⟨h3 c rfl, by omega, by omega, ord_of h1.2 h2.2 (by omega) fun e he => ?_⟩
    simp at he; subst he; omega
theorem check_ord {s : List UInt8} {l : List Chg} (h : check s l = 0) : OrdC s.length l 0 := by
  obtain ⟨_, _, h1, _, h2, _, _⟩ := check_zero h
  refine ord_of h1 h2 (by omega) fun c hc => ?_
  have hm : c ∈ l := by cases l with | nil => cases hc | cons d l => simp at hc; subst hc; simp
  rw [List.any_eq_false] at h1
  have := h1 c hm
  simp only [chgOut, Bool.or_eq_true, decide_eq_true_eq, not_or] at this
  omega
section
variable {r : Int} {u : List Int}
def posT (r : Int) (u : List Int) (l : List Atom) (j : Nat) : Nat := (atomsText r u (l.take j)).length
theorem take_text {l : List Atom} {j : Nat} (h : j < l.length) : atomsText r u (l.take (j + 1)) = atomsText r u (l.take j) ++ (if visible r u l[j] then l[j].text else []) := by
  rw [List.take_succ_eq_append_getElem h, atomsText_append]
  simp only [atomsText, List.append_nil]
theorem posT_succ {l : List Atom} {j : Nat} (h : j < l.length) : posT r u l (j + 1) = posT r u l j + (if visible r u l[j] then l[j].text.length else 0) := by
  simp only [posT]; rw [take_text h, List.length_append]
  split <;> rfl
theorem posT_step (l : List Atom) (j : Nat) : posT r u l j ≤ posT r u l (j + 1) := by
  by_cases h : j < l.length
  · rw [posT_succ h]; omega
  · simp only [posT]; rw [List.take_of_length_le (by omega), List.take_of_length_le (by omega)]; exact Nat.le_refl _
theorem posT_mono (l : List Atom) {i j : Nat} (h : i ≤ j) : posT r u l i ≤ posT r u l j := by
  induction j with
  | zero => have : i = 0 := by omega
            subst this; exact Nat.le_refl _
  | succ j ih =>
    by_cases e : i = j + 1
    · subst e; exact Nat.le_refl _
    · exact Nat.le_trans (ih (by omega)) (posT_step l j)
theorem places_at : ∀ (l : List Atom) (p0 j : Nat), j ≤ l.length → (places r u l p0)[j]? = some ((p0 + posT r u l j : Nat) : Int)
  | [], p0, j, h => by
    have : j = 0 := by simp at h; exact h
    subst this; rfl
  | a :: l, p0, 0, h => rfl
  | a :: l, p0, j + 1, h => by
    simp only [places, List.getElem?_cons_succ]
    rw [places_at l _ j (by simpa using h)]
    have e : posT r u (a :: l) (j + 1) = (if visible r u a then a.text.length else 0) + posT r u l j := by
      simp only [posT, List.take_succ_cons, atomsText, List.length_append]
      split <;> rfl
    rw [e, ← Nat.add_assoc]
theorem spotF_spec (x : Int) : ∀ (l : List Atom) (ps : List Int) (i acc : Nat), acc ≤ i →
    (∀ (j : Nat) (a : Atom) (p : Int), l[j]? = some a → ps[j]? = some p → spotF r u x l ps i acc ≤ i + j → visible r u a = true → x ≤ p) ∧
    (spotF r u x l ps i acc = acc ∨ ∃ (j : Nat) (a : Atom) (p : Int), l[j]? = some a ∧ ps[j]? = some p ∧ spotF r u x l ps i acc = i + j + 1 ∧ visible r u a = true ∧ p < x)
  | [], ps, i, acc, h => ⟨fun j a p h1 => by simp at h1, .inl (by simp [spotF])⟩
  | a :: l, [], i, acc, h => ⟨fun j a p _ h1 => by simp at h1, .inl (by simp [spotF])⟩
  | a :: l, p :: ps, i, acc, h => by
    simp only [spotF]
    obtain ⟨h1, h2⟩ := spotF_spec x l ps (i + 1) (if p < x ∧ visible r u a = true then i + 1 else acc) (by split <;> omega)
    refine ⟨fun j b q hb hq hle hv => ?_, ?_⟩
    · cases j with
      | zero =>
        simp at hb hq
        subst hb; subst hq
        refine Int.not_lt.1 fun hlt => ?_
        rw [if_pos ⟨hlt, hv⟩] at h2 hle
        rcases h2 with h2 | ⟨j, _, _, _, _, h2, _⟩ <;> omega
      | succ j => exact h1 j b q (by simpa using hb) (by simpa using hq) (by omega) hv
    · rcases h2 with h2 | ⟨j, b, q, hb, hq, h2, h3⟩
      · by_cases hc : p < x ∧ visible r u a = true
        · rw [if_pos hc] at h2 ⊢
          exact .inr ⟨0, a, p, rfl, rfl, h2, hc.2, hc.1⟩
        · rw [if_neg hc] at h2 ⊢
          exact .inl h2
      · exact .inr ⟨j + 1, b, q, by simpa using hb, by simpa using hq, by omega, h3⟩
def spotK (r : Int) (u : List Int) (l : List Atom) (x : Int) : Nat := spotF r u x l (places r u l 0) 0 0
theorem spotK_le (l : List Atom) (x : Int) : spotK r u l x ≤ l.length := by
  have := spotF_le r u x l (places r u l 0) 0 0 (Nat.le_refl _)
  simpa [spotK] using this
theorem spotK_ge {l : List Atom} {x : Int} {j : Nat} (hj : j < l.length) (h : spotK r u l x ≤ j) (hv : visible r u l[j] = true) : x ≤ (posT r u l j : Int) := by
  have h1 := (spotF_spec (r := r) (u := u) x l (places r u l 0) 0 0 (Nat.le_refl _)).1 j l[j] _ (List.getElem?_eq_getElem hj) (places_at l 0 j (by omega)) (by simp only [spotK] at h; omega) hv
  simpa using h1
theorem spotK_lt {l : List Atom} {x : Int} {j : Nat} (h : j < spotK r u l x) : (posT r u l j : Int) < x := by
  rcases (spotF_spec (r := r) (u := u) x l (places r u l 0) 0 0 (Nat.le_refl _)).2 with h2 | ⟨i, a, p, ha, hp, h2, hv, hlt⟩
  · simp only [spotK] at h; omega
  · have hi : i < l.length := (List.getElem?_eq_some_iff.1 ha).1
    rw [places_at l 0 i (by omega)] at hp
    cases hp
    have : j ≤ i := by simp only [spotK] at h; omega
    have := posT_mono (r := r) (u := u) l this
    omega
theorem spotK_mono (l : List Atom) {x y : Int} (h : x ≤ y) : spotK r u l x ≤ spotK r u l y := spotF_mono r u h l (places r u l 0) 0 0 0 (Nat.le_refl _) (Nat.le_refl _)
theorem text_take {l : List Atom} {k : Nat} : atomsText r u (l.take k) = (atomsText r u l).take (posT r u l k) := by
  have : atomsText r u l = atomsText r u (l.take k) ++ atomsText r u (l.drop k) := by rw [← atomsText_append, List.take_append_drop]
  rw [this, posT, List.take_left]
def Bnd (r : Int) (u : List Int) (l : List Atom) (x : Int) : Prop := ∃ j, j ≤ l.length ∧ x = (posT r u l j : Int)
theorem spotK_pos {l : List Atom} (hcp : ∀ a ∈ l, IsCP a.text) {x : Int} (hb : Bnd r u l x) : (posT r u l (spotK r u l x) : Int) = x := by
  obtain ⟨j0, hj0, rfl⟩ := hb
  have hK := spotK_le (r := r) (u := u) l (posT r u l j0 : Int)
  generalize hk : spotK r u l (posT r u l j0 : Int) = K at hK
  have h1 : posT r u l K ≤ posT r u l j0 := by
    rcases Nat.eq_zero_or_pos K with h0 | h0
    · rw [h0]; exact posT_mono l (Nat.zero_le _)
    · have := spotK_lt (r := r) (u := u) (l := l) (x := (posT r u l j0 : Int)) (j := K - 1) (by omega)
      refine posT_mono l (Nat.not_lt.1 fun hlt => ?_)
      have := posT_mono (r := r) (u := u) l (show j0 ≤ K - 1 by omega)
      omega
  have h2 : posT r u l j0 ≤ posT r u l K := by
    rcases Nat.lt_or_ge K j0 with hlt | hge
    · have key : ∀ d, K + d ≤ j0 → posT r u l (K + d) = posT r u l K := by
        intro d
        induction d with
        | zero => intro _; rfl
        | succ d ih =>
          intro hd
          have hi := ih (by omega)
          have hlt2 : K + d < l.length := by omega
          have hs := posT_succ (r := r) (u := u) hlt2
          by_cases hv : visible r u l[K + d] = true
          · have h3 := spotK_ge (x := (posT r u l j0 : Int)) hlt2 (by omega) hv
            rw [if_pos hv] at hs
            have h4 := (cp_len (hcp _ (List.getElem_mem hlt2))).1
            have h5 := posT_mono (r := r) (u := u) l (show K + d + 1 ≤ j0 by omega)
            omega
          · rw [if_neg hv] at hs
            rw [show K + (d + 1) = K + d + 1 by omega, hs]; omega
      have := key (j0 - K) (by omega)
      rw [show K + (j0 - K) = j0 by omega] at this
      omega
    · exact posT_mono l hge
  omega
theorem bnd_edge {l : List Atom} (hcp : ∀ a ∈ l, IsCP a.text) {x : Int} (h : isEdge (atomsText r u l) x = true) : Bnd r u l x := by
  have key : ∀ (l : List Atom) (j : Nat), j ≤ (l.filter (visible r u)).length → ∃ j0, j0 ≤ l.length ∧ (((l.filter (visible r u)).map Atom.text).take j).flatten = atomsText r u (l.take j0) := by
    intro l
    induction l with
    | nil => intro j _; exact ⟨0, Nat.le_refl _, by simp [atomsText]⟩
    | cons a l ih =>
      intro j hj
      cases hv : visible r u a with
      | false =>
        rw [List.filter_cons, if_neg (by simp [hv])] at hj ⊢
        obtain ⟨j0, h1, h2⟩ := ih j hj
        exact ⟨j0 + 1, by simp; omega, by rw [h2]; simp only [List.take_succ_cons, atomsText, hv]; simp⟩
      | true =>
        rw [List.filter_cons, if_pos hv] at hj ⊢
        cases j with
        | zero => exact ⟨0, Nat.zero_le _, by simp [atomsText]⟩
        | succ j =>
          obtain ⟨j0, h1, h2⟩ := ih j (by simpa using hj)
          exact ⟨j0 + 1, by simp; omega, by rw [List.map_cons, List.take_succ_cons, List.flatten_cons, h2]; simp only [List.take_succ_cons, atomsText, hv]; simp⟩
  have hfl : ∀ l : List Atom, atomsText r u l = ((l.filter (visible r u)).map Atom.text).flatten := by
    intro l
    induction l with
    | nil => rfl
    | cons a l ih =>
      simp only [atomsText, List.filter_cons, ih]
      split <;> simp
  have hps : ∀ p ∈ (l.filter (visible r u)).map Atom.text, IsCP p := by
    intro p hp
    simp only [List.mem_map, List.mem_filter] at hp
    obtain ⟨a, ⟨ha, _⟩, rfl⟩ := hp
    exact hcp a ha
  rw [hfl l] at h
  obtain ⟨j, hj, rfl⟩ := (edge_flat hps x).1 h
  rw [List.length_map] at hj
  obtain ⟨j0, h1, h2⟩ := key l j hj
  exact ⟨j0, h1, by rw [posT, h2]⟩
def segT (r : Int) (u : List Int) (Q : Int → Bool) : List Atom → Nat → List UInt8
  | [], _ => []
  | a :: l, p => (if visible r u a && Q p then a.text else []) ++ segT r u Q l (p + (if visible r u a then a.text.length else 0))
theorem segT_congr {Q Q' : Int → Bool} : ∀ {l : List Atom} {p : Nat}, (∀ (j : Nat) (hj : j < l.length), visible r u l[j] = true → Q ((p + posT r u l j : Nat) : Int) = Q' ((p + posT r u l j : Nat) : Int)) → segT r u Q l p = segT r u Q' l p
  | [], p, _ => rfl
  | a :: l, p, h => by
    have ih := segT_congr (Q := Q) (Q' := Q') (l := l) (p := p + (if visible r u a then a.text.length else 0)) (fun j hj hv => by
      have := h (j + 1) (by simp; omega) (by simpa using hv)
      have e : posT r u (a :: l) (j + 1) = (if visible r u a then a.text.length else 0) + posT r u l j := by
        simp only [posT, List.take_succ_cons, atomsText, List.length_append]
        split <;> rfl
      rw [e, ← Nat.add_assoc] at this
      exact this)
    simp only [segT, ih]
    congr 1
    cases hv : visible r u a with
    | false => simp
    | true =>
      have h0 := h 0 (by simp) (by simpa using hv)
      simp only [posT, List.take_zero, atomsText, List.length_nil, Nat.add_zero] at h0
      rw [h0]
theorem segT_from (x : Int) : ∀ {l : List Atom} {p : Nat}, (∀ a ∈ l, IsCP a.text) → (x ≤ (p : Int) ∨ ∃ j, j ≤ l.length ∧ x = ((p + posT r u l j : Nat) : Int)) → segT r u (fun q => decide (x ≤ q)) l p = (atomsText r u l).drop (x - (p : Int)).toNat
  | [], p, _, _ => by simp [segT, atomsText]
  | a :: l, p, hcp, hb => by
    have hl := cp_len (hcp a (by simp))
    simp only [segT, atomsText]
    have hpos : ∀ j, posT r u (a :: l) (j + 1) = (if visible r u a then a.text.length else 0) + posT r u l j := fun j => by
      simp only [posT, List.take_succ_cons, atomsText, List.length_append]
      split <;> rfl
    have hnext : x ≤ ((p + (if visible r u a then a.text.length else 0) : Nat) : Int) ∨ ∃ j, j ≤ l.length ∧ x = ((p + (if visible r u a then a.text.length else 0) + posT r u l j : Nat) : Int) := by
      rcases hb with h | ⟨j, hj, rfl⟩
      · left; split <;> omega
      · cases j with
        | zero => left; simp only [posT, List.take_zero, atomsText, List.length_nil]; split <;> omega
        | succ j => right; exact ⟨j, by simpa using hj, by rw [hpos, ← Nat.add_assoc]⟩
    rw [segT_from x (fun b hb => hcp b (List.mem_cons_of_mem _ hb)) hnext]
    cases hv : visible r u a with
    | false => simp
    | true =>
      simp only [Bool.true_and, if_true, decide_eq_true_eq]
      by_cases hx : x ≤ (p : Int)
      · rw [if_pos hx, show (x - (p : Int)).toNat = 0 by omega, show (x - ((p + a.text.length : Nat) : Int)).toNat = 0 by omega]; simp
      · rw [if_neg hx, List.nil_append]
        have hge : ((p + a.text.length : Nat) : Int) ≤ x := by
          rcases hb with h | ⟨j, hj, rfl⟩
          · exact absurd h hx
          · cases j with
            | zero => simp [posT, atomsText] at hx
            | succ j => rw [hpos, hv, if_pos rfl]; omega
        rw [show (x - (p : Int)).toNat = a.text.length + (x - ((p + a.text.length : Nat) : Int)).toNat by omega, ← List.drop_drop, List.drop_left]
end
theorem marked_drop (ct : List Int) (c : Cut) : ∀ (l : List Atom) (i k : Nat), (marked ct c l i).drop k = marked ct c (l.drop k) (i + k)
  | l, i, 0 => rfl
  | [], i, k + 1 => by simp [marked]
  | a :: l, i, k + 1 => by
    simp only [marked, List.drop_succ_cons]
    rw [marked_drop ct c l (i + 1) k, show i + 1 + k = i + (k + 1) by omega]
theorem marked_take (ct : List Int) (c : Cut) : ∀ (l : List Atom) (i k : Nat), (marked ct c l i).take k = marked ct c (l.take k) i
  | l, i, 0 => by simp [marked]
  | [], i, k + 1 => by simp [marked]
  | a :: l, i, k + 1 => by simp only [marked, List.take_succ_cons, marked_take ct c l (i + 1) k]
theorem mem_cutsF {r : Int} {u : List Int} {cs : List Chg} : ∀ {l : List Atom} {ps : List Int} {i : Nat} {x : Int}, x ∈ cutsF r u cs l ps i ↔ ∃ (j : Nat) (a : Atom) (p : Int), l[j]? = some a ∧ ps[j]? = some p ∧ x = ((i + j : Nat) : Int) ∧ visible r u a = true ∧ cutHit cs p = true
  | [], ps, i, x => by simp [cutsF]
  | a :: l, [], i, x => by simp [cutsF]
  | a :: l, p :: ps, i, x => by
    rw [cutsF, List.mem_append, mem_cutsF (l := l)]
    constructor
    · rintro (h | ⟨j, b, q, h1, h2, h3, h4, h5⟩)
      · split at h
        · rename_i hc
          rw [Bool.and_eq_true] at hc
          simp at h
          exact ⟨0, a, p, rfl, rfl, by simpa using h, hc.1, hc.2⟩
        · cases h
      · exact ⟨j + 1, b, q, by simpa using h1, by simpa using h2, by omega, h4, h5⟩
    · rintro ⟨j, b, q, h1, h2, h3, h4, h5⟩
      cases j with
      | zero =>
        simp at h1 h2
        subst h1; subst h2
        left; rw [if_pos (by simp [h4, h5])]; simp [h3]
      | succ j => exact .inr ⟨j, b, q, by simpa using h1, by simpa using h2, by omega, h4, h5⟩
section
variable {h now g rank : Int} {u : List Int}
theorem visible_old {a : Atom} (ho : a.rev ≤ h ∧ ∀ c ∈ a.cuts, c.rev ≤ h) (hn : h < now) : visible now u a = visible h u a := by
  have hc : a.cuts.any (cutHolds now u) = a.cuts.any (cutHolds h u) := by
    rw [Bool.eq_iff_iff, List.any_eq_true, List.any_eq_true]
    constructor <;> rintro ⟨c, hc, hh⟩ <;> refine ⟨c, hc, ?_⟩ <;> have := ho.2 c hc <;> simp only [cutHolds, Bool.and_eq_true, decide_eq_true_eq] at hh ⊢ <;> exact ⟨by omega, hh.2⟩
  simp only [visible, hc]
  rw [decide_eq_true (show a.rev ≤ now by omega), decide_eq_true ho.1]
theorem visible_cut {a : Atom} (hg : holds u g = true) : visible now u { a with cuts := a.cuts ++ [⟨now, g⟩] } = false := by
  have : cutHolds now u ⟨now, g⟩ = true := by simp [cutHolds, hg]
  simp only [visible, List.any_append, List.any_cons, this, Bool.true_or, Bool.or_true, Bool.not_true, Bool.and_false]
theorem mark_seg (hg : holds u g = true) (hn : h < now) (Hit : Int → Bool) (ct : List Int) : ∀ {m : List Atom} {i0 p : Nat}, (∀ a ∈ m, a.rev ≤ h ∧ ∀ c ∈ a.cuts, c.rev ≤ h) → (∀ (j : Nat) (hj : j < m.length), ((i0 + j : Nat) : Int) ∈ ct ↔ visible h u m[j] = true ∧ Hit ((p + posT h u m j : Nat) : Int) = true) →
    atomsText now u (marked ct ⟨now, g⟩ m i0) = segT h u (fun q => !Hit q) m p
  | [], i0, p, _, _ => rfl
  | a :: m, i0, p, ho, hi => by
    have ih := mark_seg hg hn Hit ct (m := m) (i0 := i0 + 1) (p := p + (if visible h u a then a.text.length else 0)) (fun b hb => ho b (List.mem_cons_of_mem _ hb)) (fun j hj => by
      have := hi (j + 1) (by simp; omega)
      have e : posT h u (a :: m) (j + 1) = (if visible h u a then a.text.length else 0) + posT h u m j := by
        simp only [posT, List.take_succ_cons, atomsText, List.length_append]
        split <;> rfl
      rw [e, show i0 + (j + 1) = i0 + 1 + j by omega, ← Nat.add_assoc p] at this
      exact this)
    simp only [marked, atomsText, segT, ih]
    congr 1
    have h0 := hi 0 (by simp)
    simp only [Nat.add_zero, List.getElem_cons_zero, posT, List.take_zero, atomsText, List.length_nil] at h0
    have hv := visible_old (u := u) (ho a (by simp)) hn
    by_cases hc : (i0 : Int) ∈ ct
    · rw [if_pos hc, visible_cut hg]
      have := h0.1 hc
      simp [this.2]
    · rw [if_neg hc, hv]
      have hnot : ¬ (visible h u a = true ∧ Hit (p : Int) = true) := fun hh => hc (h0.2 hh)
      cases hva : visible h u a with
      | false => simp
      | true =>
        have : Hit (p : Int) = false := by
          cases hh : Hit (p : Int) with
          | false => rfl
          | true => exact absurd ⟨hva, hh⟩ hnot
        simp [this]
theorem posT_part {l : List Atom} {k0 k1 j : Nat} (hk : k1 ≤ l.length) (hj : k0 + j ≤ k1) : posT h u l k0 + posT h u ((l.take k1).drop k0) j = posT h u l (k0 + j) := by
  have e : l.take (k0 + j) = l.take k0 ++ ((l.take k1).drop k0).take j := by
    rw [List.take_drop, List.take_take, Nat.min_eq_left hj]
    have e2 : l.take k0 = (l.take (k0 + j)).take k0 := by rw [List.take_take, Nat.min_eq_left (by omega)]
    rw [e2, List.take_append_drop]
  simp only [posT]
  rw [e, atomsText_append, List.length_append]
theorem seg_main {l : List Atom} {ct : List Int} {cs : List Chg} (hcp : ∀ a ∈ l, IsCP a.text) (hold : ∀ a ∈ l, a.rev ≤ h ∧ ∀ c ∈ a.cuts, c.rev ≤ h) (hn : h < now) (hg : holds u g = true) (hct : ct = cutsF h u cs l (places h u l 0) 0)
    {frm to : Int} {k1 : Nat} (hf : Bnd h u l frm) (ht : Bnd h u l to) (hft : frm ≤ to) (hk1 : k1 ≤ l.length) (hk : spotK h u l to ≤ k1) (hit : ∀ (j : Nat) (hj : j < l.length), spotK h u l frm ≤ j → j < k1 → visible h u l[j] = true → cutHit cs (posT h u l j : Int) = decide ((posT h u l j : Int) < to)) :
    atomsText now u (((marked ct ⟨now, g⟩ l 0).take k1).drop (spotK h u l frm)) = (atomsText h u (l.take k1)).drop to.toNat := by
  have hk01 := spotK_mono (r := h) (u := u) l hft
  have p0 := spotK_pos hcp hf
  have pt := spotK_pos hcp ht
  have hf0 : 0 ≤ frm := by omega
  generalize hk0 : spotK h u l frm = k0 at hit p0 hk01
  generalize hkt : spotK h u l to = kt at hk pt hk01
  rw [marked_take, marked_drop, Nat.zero_add]
  have hml : ((l.take k1).drop k0).length = k1 - k0 := by rw [List.length_drop, List.length_take]; omega
  have hmg : ∀ (j : Nat) (hj : j < ((l.take k1).drop k0).length), ((l.take k1).drop k0)[j] = l[k0 + j]'(by omega) := fun j hj => by
    rw [List.getElem_drop, List.getElem_take]
  have hmem : ∀ a ∈ (l.take k1).drop k0, a ∈ l := fun a ha => List.mem_of_mem_take (List.mem_of_mem_drop ha)
  rw [mark_seg (m := (l.take k1).drop k0) (p := posT h u l k0) hg hn (cutHit cs) ct (fun a ha => hold a (hmem a ha)) (fun j hj => by
    rw [hct, mem_cutsF, hmg j hj, posT_part hk1 (by omega)]
    constructor
    · rintro ⟨i, a, p, h1, h2, h3, h4, h5⟩
      have hi : i = k0 + j := by omega
      subst hi
      rw [List.getElem?_eq_getElem (by omega)] at h1
      cases h1
      rw [places_at l 0 (k0 + j) (by omega)] at h2
      cases h2
      rw [Nat.zero_add] at h5
      exact ⟨h4, h5⟩
    · rintro ⟨h1, h2⟩
      exact ⟨k0 + j, _, _, List.getElem?_eq_getElem (by omega), places_at l 0 (k0 + j) (by omega), by omega, h1, by rw [Nat.zero_add]; exact h2⟩)]
  rw [segT_congr (Q' := fun q => decide (to ≤ q)) (fun j hj hv => by
    rw [hmg j hj] at hv
    have := hit (k0 + j) (by omega) (by omega) (by omega) hv
    rw [posT_part hk1 (by omega)]
    simp only [this]
    by_cases hlt : (posT h u l (k0 + j) : Int) < to
    · rw [decide_eq_true hlt, decide_eq_false (by omega)]; rfl
    · rw [decide_eq_false hlt, decide_eq_true (by omega)]; rfl)]
  rw [segT_from to (fun a ha => hcp a (hmem a ha)) (.inr ⟨kt - k0, by omega, by rw [posT_part hk1 (by omega), show k0 + (kt - k0) = kt by omega]; exact pt.symm⟩)]
  have e : atomsText h u (l.take k1) = atomsText h u (l.take k0) ++ atomsText h u ((l.take k1).drop k0) := by
    rw [← atomsText_append]
    congr 1
    have e2 : l.take k0 = (l.take k1).take k0 := by rw [List.take_take, Nat.min_eq_left (by omega)]
    rw [e2, List.take_append_drop]
  rw [e]
  have hlen : (atomsText h u (l.take k0)).length = frm.toNat := by
    have : (posT h u l k0 : Int) = frm := p0
    simp only [posT] at this; omega
  rw [show to.toNat = frm.toNat + (to - frm).toNat by omega, ← List.drop_drop, ← hlen, List.drop_left]
  congr 1
  have : (posT h u l k0 : Int) = frm := p0
  omega
theorem new_text (hg : holds u g = true) {t : List UInt8} (ht : valid t = true) : atomsText now u (newAtoms now g rank (ptsOf t)) = t := by
  obtain ⟨ps, hp⟩ := Option.isSome_iff_exists.1 ht
  obtain ⟨h1, h2⟩ := pts_cp _ t ps (Nat.le_refl _) hp
  have e : ptsOf t = ps := by rw [ptsOf, hp]; rfl
  rw [e, h1]
  clear hp e h1 ht
  induction ps with
  | nil => rfl
  | cons p ps ih =>
    have hv : visible now u ⟨p, now, g, rank, []⟩ = true := by simp [visible, hg]
    simp only [newAtoms, List.map_cons, atomsText, hv, if_true, List.flatten_cons]
    congr 1
    exact ih fun q hq => h2 q (List.mem_cons_of_mem _ hq)
theorem merged_text {l : List Atom} {ct : List Int} {CS : List Chg} (hcp : ∀ a ∈ l, IsCP a.text) (hold : ∀ a ∈ l, a.rev ≤ h ∧ ∀ c ∈ a.cuts, c.rev ≤ h) (hn : h < now) (hg : holds u g = true) (hct : ct = cutsF h u CS l (places h u l 0) 0) :
    ∀ (cs : List Chg) (frm to : Int), OrdC (atomsText h u l).length cs to → frm ≤ to → Bnd h u l frm → Bnd h u l to → (∀ c ∈ cs, Bnd h u l c.frm ∧ Bnd h u l c.to) → (∀ c ∈ cs, valid c.text = true) → (∀ p : Int, frm ≤ p → cutHit CS p = (decide (p < to) || cutHit cs p)) →
    atomsText now u (merged (fun t => newAtoms now g rank (ptsOf t)) (marked ct ⟨now, g⟩ l 0) ((cs.map fun c => spotK h u l c.frm).zip (cs.map Chg.text)) (spotK h u l frm)) = doF (atomsText h u l) cs to.toNat
  | [], frm, to, ho, hft, hbf, hbt, _, _, hH => by
    have hkl := spotK_le (r := h) (u := u) l to
    have := seg_main (k1 := l.length) (now := now) (g := g) (cs := CS) hcp hold hn hg hct hbf hbt hft (Nat.le_refl _) hkl (fun j hj hk _ hv => by
      have h1 := spotK_ge hj hk hv
      rw [hH _ h1]; simp [cutHit])
    rw [List.take_of_length_le (by rw [marked_len]; exact Nat.le_refl _), List.take_of_length_le (Nat.le_refl _)] at this
    simpa [merged, doF] using this
  | c :: cs, frm, to, ⟨o1, o2, o3, o4⟩, hft, hbf, hbt, hbc, hvt, hH => by
    obtain ⟨bf, bt⟩ := hbc c (by simp)
    have ih := merged_text hcp hold hn hg hct cs c.frm c.to o4 o2 bf bt (fun d hd => hbc d (List.mem_cons_of_mem _ hd)) (fun d hd => hvt d (List.mem_cons_of_mem _ hd)) (fun p hp => by
      rw [hH p (by omega)]
      simp only [cutHit, List.any_cons]
      rw [decide_eq_false (show ¬ p < to by omega), decide_eq_true hp]; rfl)
    have hkl := spotK_le (r := h) (u := u) l c.frm
    have hs := seg_main (k1 := spotK h u l c.frm) (now := now) (g := g) (cs := CS) hcp hold hn hg hct hbf hbt hft hkl (spotK_mono l o1) (fun j hj hk hlt hv => by
      have h1 := spotK_ge hj hk hv
      have h2 := spotK_lt (r := h) (u := u) (l := l) (x := c.frm) hlt
      rw [hH _ h1]
      have : cutHit (c :: cs) (posT h u l j : Int) = false := by
        simp only [cutHit, List.any_eq_false, Bool.and_eq_true, decide_eq_true_eq, not_and]
        intro d hd hle
        rcases List.mem_cons.1 hd with rfl | hd
        · omega
        · have := o4.low d hd; omega
      rw [this, Bool.or_false])
    have hpc := spotK_pos hcp bf
    simp only [List.map_cons, List.zip_cons_cons, merged_cons, atomsText_append, doF]
    rw [ih, hs, new_text hg (hvt c (by simp)), text_take]
    have : posT h u l (spotK h u l c.frm) = c.frm.toNat := by omega
    rw [this]
theorem spotG_none {rev rank : Int} {l : List Atom} (k : Nat) (h : ∀ a ∈ l, a.rev ≤ rev) : spotG rev rank l k = k := by
  cases l with
  | nil => rfl
  | cons a l => rw [spotG, if_neg (by have := h a (by simp); omega)]
theorem edit_text {l : List Atom} {cs : List Chg} (hcp : ∀ a ∈ l, IsCP a.text) (hold : ∀ a ∈ l, a.rev ≤ h ∧ ∀ c ∈ a.cuts, c.rev ≤ h) (hn : h < now) (hg : holds u g = true) (hc : check (atomsText h u l) cs = 0) :
    atomsText now u (upon l h u cs now g rank) = doF (atomsText h u l) cs 0 := by
  obtain ⟨z1, z2, z3, z4, z5, z6, z7⟩ := check_zero hc
  have hord := check_ord hc
  have hb0 : Bnd h u l 0 := ⟨0, Nat.zero_le _, by simp [posT, atomsText]⟩
  have hbc : ∀ c ∈ cs, Bnd h u l c.frm ∧ Bnd h u l c.to := fun c hcm => by
    rw [List.any_eq_false] at z4
    have := z4 c hcm
    simp only [chgIn, Bool.or_eq_true, Bool.not_eq_true', not_or, Bool.not_eq_false] at this
    exact ⟨bnd_edge hcp this.1, bnd_edge hcp this.2⟩
  have hk0 : spotK h u l 0 = 0 := spotF_low h u 0 l (places h u l 0) 0 0 (places_nonneg h u l 0)
  have hsp : spotsN l h u cs rank = cs.map fun c => spotK h u l c.frm := by
    simp only [spotsN]
    apply List.map_congr_left
    intro c _
    simp only [spot]
    exact spotG_none _ fun a ha => (hold a (List.mem_of_mem_drop ha)).1
  have hm := merged_text (CS := cs) (ct := cuts l h u cs) (rank := rank) hcp hold hn hg (by rw [cuts, if_pos hc]) cs 0 0 hord (Int.le_refl _) hb0 hb0 hbc z6 (fun p hp => by rw [decide_eq_false (by omega)]; rfl)
  rw [hk0] at hm
  rw [upon, if_pos hc, hsp]
  exact hm
end
theorem merged_eq {new : List UInt8 → List Atom} {mk : List Atom} : ∀ (r : List (Nat × List UInt8)) (at' : Nat), (r.map Prod.fst).Pairwise (· ≤ ·) → (∀ k ∈ r.map Prod.fst, at' ≤ k ∧ k ≤ mk.length) → at' ≤ mk.length → (merged new mk r at').length = mk.length - at' + (r.map fun kt => (new kt.2).length).sum
  | [], at', _, _, _ => by simp [merged]
  | (k, t) :: r, at', hs, hl, ha => by
    have hk := hl k (by simp)
    have ih := merged_eq (new := new) r k hs.of_cons (fun q hq => ⟨List.rel_of_pairwise_cons hs hq, (hl q (List.mem_cons_of_mem _ hq)).2⟩) hk.2
    simp only [merged_cons, List.length_append, List.length_drop, List.length_take, List.map_cons, List.sum_cons]
    omega
theorem al_upon {l : List Atom} {rev now g rank : Int} {u : List Int} {x y : Chg} (h0 : check (atomsText rev u l) [x, y] = 0) : (upon l rev u [x, y] now g rank).length = l.length + ((ptsOf x.text).length + (ptsOf y.text).length) := by
  obtain ⟨h1, h2⟩ := spotsN_sorted rank h0
  rw [upon, if_pos h0]
  simp only [spotsN, List.map_cons, List.map_nil, List.zip_cons_cons, List.zip_nil_left] at h1 h2 ⊢
  rw [merged_eq _ 0 (by simpa using h1) (fun k hk => ⟨Nat.zero_le _, by rw [marked_len]; exact h2 k (by simpa using hk)⟩) (Nat.zero_le _), marked_len]
  simp [newAtoms]
theorem rep_len (c : List UInt8) (k : Nat) : (List.replicate k c).flatten.length = k * c.length := by simp
theorem rep_cp {c : List UInt8} (hc : IsCP c) (k : Nat) : ∀ p ∈ List.replicate k c, IsCP p := fun p hp => by rw [(List.mem_replicate.1 hp).2]; exact hc
theorem al_check {c : List UInt8} (hc : IsCP c) {k : Nat} (hk : 1 ≤ k) (hk2 : k ≤ 1000) {n : Nat} (hn : n = (List.replicate k c).flatten.length) :
    check (List.replicate k c).flatten [⟨0, (c.length : Nat), []⟩, ⟨(n : Nat), (n : Nat), c⟩] = 0 := by
  have hl := cp_len hc
  have hcp := rep_cp hc k
  have hv := valid_flat hcp
  have hlen := rep_len c k
  have h4 : k * c.length ≤ 1000 * 4 := Nat.mul_le_mul hk2 hl.2
  have h1 : 1 * c.length ≤ k * c.length := Nat.mul_le_mul_right _ hk
  have e0 : isEdge (List.replicate k c).flatten 0 = true := (edge_flat hcp 0).2 ⟨0, Nat.zero_le _, by simp⟩
  have e1 : isEdge (List.replicate k c).flatten (c.length : Nat) = true := (edge_flat hcp _).2 ⟨1, by simpa using hk, by rw [List.take_replicate, Nat.min_eq_left hk]; simp⟩
  have e2 : isEdge (List.replicate k c).flatten (n : Nat) = true := (edge_flat hcp _).2 ⟨k, by simp, by rw [hn, List.take_of_length_le (by simp)]⟩
  have hvc : valid c = true := valid_iff.2 ⟨[c], by simp, by simpa using hc⟩
  have hv0 : valid [] = true := rfl
  generalize hs : (List.replicate k c).flatten = s at *
  have hg := gains_le s.length [⟨0, (c.length : Nat), []⟩, ⟨(n : Nat), (n : Nat), c⟩]
  have hlong : longI s [⟨0, (c.length : Nat), []⟩, ⟨(n : Nat), (n : Nat), c⟩] = 0 := by
    simp only [longI]
    generalize gains s.length [⟨0, (c.length : Nat), []⟩, ⟨(n : Nat), (n : Nat), c⟩] = gg at hg
    simp only [longR, List.length_nil]
    rw [if_neg (by omega), if_neg (by omega), if_neg (by omega)]
  have n1 : ¬ ((0 : Int) < 0) := by omega
  have n2 : ¬ ((c.length : Int) < 0) := by omega
  have n3 : ¬ ((s.length : Int) < (c.length : Int)) := by omega
  have n4 : ¬ ((n : Int) < 0) := by omega
  have n5 : ¬ ((n : Int) < (n : Int)) := by omega
  have n6 : ¬ ((s.length : Int) < (n : Int)) := by omega
  have n7 : ¬ ((n : Int) < (c.length : Int)) := by omega
  have n8 : ¬ ((0 : Int) = (n : Int)) := by omega
  unfold check
  rw [if_neg (by rw [hv]; simp), if_neg (by simp)]
  simp only [errs, List.any_cons, List.any_nil, Bool.or_false, chgOut, chgIn, e0, e1, e2, disorder, chgBad, hvc, hv0, hlong, decide_eq_false n1, decide_eq_false n2, decide_eq_false n3, decide_eq_false n4, decide_eq_false n5, decide_eq_false n6, decide_eq_false n7, decide_eq_false n8]
  rfl
theorem fresh_text : ∀ ps : List (List UInt8), atomsText 1 [] (newAtoms 1 1 0 ps) = ps.flatten
  | [] => rfl
  | p :: ps => by
    have hv : visible 1 [] (⟨p, 1, 1, 0, []⟩ : Atom) = true := rfl
    have ih := fresh_text ps
    simp only [newAtoms, List.map_cons] at ih ⊢
    rw [atomsText, hv, ih]; rfl
theorem al_first {ps : List (List UInt8)} (hcp : ∀ p ∈ ps, IsCP p) (hs : ps.flatten.length ≤ 4000) (hpl : ps.length ≤ 4000) : editE Eng.new 0 1 0 [⟨0, 0, ps.flatten⟩] = (⟨newAtoms 1 1 0 ps, ⟨[[], []], 0, [1], []⟩⟩, 1, 0) := by
  have hck : check [] [⟨0, 0, ps.flatten⟩] = 0 := check_front (s := []) ⟨[], rfl, by simp⟩ (valid_flat hcp) (by simp only [List.length_nil]; omega)
  have htx : Eng.new.text 0 = [] := rfl
  have hlv : Eng.new.R.live 0 = true := rfl
  have hun : Eng.new.R.undone 0 = [] := rfl
  have hadd : addR Eng.new.R 1 = (⟨[[], []], 0, [1], []⟩, 1, 0) := by kernel_rfl
  have hup : upon Eng.new.l 0 [] [⟨0, 0, ps.flatten⟩] 1 1 0 = newAtoms 1 1 0 ps := by
    show upon [] 0 [] [⟨0, 0, ps.flatten⟩] 1 1 0 = _
    have hck' : check (atomsText 0 [] []) [⟨0, 0, ps.flatten⟩] = 0 := hck
    rw [upon, if_pos hck']
    have hp : ptsOf ps.flatten = ps := by rw [ptsOf, pts_flat hcp]; rfl
    simp [spotsN, cuts, cutsF, marked, merged, spot, spotF, spotG, places, hp, newAtoms]
  have hcps : ∀ a ∈ newAtoms 1 1 0 ps, IsCP a.text := by
    intro a ha
    rw [newAtoms, List.mem_map] at ha
    obtain ⟨p, hp, rfl⟩ := ha
    exact hcp p hp
  have hlen : (newAtoms 1 1 0 ps).length ≤ 4000 := by rw [newAtoms, List.length_map]; omega
  rw [editE, if_neg (by simp [hlv]), htx, if_neg (fun hn => hn hck), hun, hadd, if_neg (by simp), if_neg (by decide), hup, if_neg (by omega), if_neg (by simp only [Eng.text]; exact Nat.not_lt.2 (short_text hlen hcps _ _))]
theorem al_edits {c : List UInt8} (hc : IsCP c) {k : Nat} (hk : 1 ≤ k) (hk2 : k ≤ 1000) {n : Nat} (hn : n = (List.replicate k c).flatten.length) :
    ∃ E1 E2, editE Eng.new 0 1 0 [⟨0, 0, (List.replicate k c).flatten⟩] = (E1, 1, 0) ∧ editE E1 1 2 0 [⟨0, (c.length : Nat), []⟩, ⟨(n : Nat), (n : Nat), c⟩] = (E2, 2, 0) ∧ E2.l.length = k + 1 ∧ E2.R.live 2 = true ∧ (E2.text 2).length = n := by
  have hl := cp_len hc
  have hcp := rep_cp hc k
  have hlen := rep_len c k
  have h4 : k * c.length ≤ 1000 * 4 := Nat.mul_le_mul hk2 hl.2
  have h1c : 1 * c.length ≤ k * c.length := Nat.mul_le_mul_right _ hk
  have hck := al_check hc hk hk2 hn
  have htx := fresh_text (List.replicate k c)
  have hpc : ptsOf c = [c] := by rw [ptsOf, pts_one hc]; rfl
  have hp0 : ptsOf [] = [] := rfl
  have hnl : (newAtoms 1 1 0 (List.replicate k c)).length = k := by simp [newAtoms]
  have hcps : ∀ a ∈ newAtoms 1 1 0 (List.replicate k c), IsCP a.text := by
    intro a ha
    rw [newAtoms, List.mem_map] at ha
    obtain ⟨p, hp, rfl⟩ := ha
    exact hcp p hp
  have hold : ∀ a ∈ newAtoms 1 1 0 (List.replicate k c), a.rev ≤ 1 ∧ ∀ c ∈ a.cuts, c.rev ≤ 1 := by
    intro a ha
    rw [newAtoms, List.mem_map] at ha
    obtain ⟨p, hp, rfl⟩ := ha
    exact ⟨by simp, fun c hc => by cases hc⟩
  have e1 := al_first hcp (by omega) (by simp; omega)
  have hw := Eng.Whole.new.edit e1
  generalize newAtoms 1 1 0 (List.replicate k c) = l at e1 htx hnl hcps hold hw
  have hck' : check (atomsText 1 [] l) [⟨0, (c.length : Nat), []⟩, ⟨(n : Nat), (n : Nat), c⟩] = 0 := by rw [htx]; exact hck
  have hup := al_upon (now := 2) (g := 2) (rank := 0) hck'
  simp only [hpc, hp0, List.length_nil, List.length_cons] at hup
  have htx2 := edit_text (l := l) (u := []) (h := 1) (now := 2) (g := 2) (rank := 0) hcps hold (by decide) rfl hck'
  rw [htx] at htx2
  have hf := upon_facts hw.ok (base := 1) (group := 2) (rank := 0) (now := 2) (cs := [⟨0, (c.length : Nat), []⟩, ⟨(n : Nat), (n : Nat), c⟩]) (u := [])
  simp only at hf
  have hadd : addR ⟨[[], []], 0, [1], []⟩ 2 = (⟨[[], [], []], 0, [1, 2], []⟩, 2, 0) := by kernel_rfl
  have hlv : Revs.live ⟨[[], []], 0, [1], []⟩ 1 = true := rfl
  have hun : Revs.undone ⟨[[], []], 0, [1], []⟩ 1 = [] := rfl
  have hx1 : Eng.text ⟨l, ⟨[[], []], 0, [1], []⟩⟩ 1 = (List.replicate k c).flatten := htx
  refine ⟨_, ⟨upon l 1 [] [⟨0, (c.length : Nat), []⟩, ⟨(n : Nat), (n : Nat), c⟩] 2 2 0, ⟨[[], [], []], 0, [1, 2], []⟩⟩, e1, ?_, by simp only; omega, rfl, ?_⟩
  · have hup' : (upon l 1 [] [⟨0, (c.length : Nat), []⟩, ⟨(n : Nat), (n : Nat), c⟩] 2 2 0).length ≤ 4000 := by omega
    rw [editE, if_neg (by simp [hlv]), hx1, if_neg (fun hn => hn hck), hun, hadd, if_neg (by simp), if_neg (by decide), if_neg (Nat.not_lt.2 hup'), if_neg (by simp only [Eng.text]; exact Nat.not_lt.2 (short_text hup' hf.1 _ _))]
  · show (atomsText 2 [] (upon l 1 [] _ 2 2 0)).length = n
    rw [htx2]
    simp only [doF, Int.toNat_natCast, Int.toNat_zero, List.append_nil, List.length_append, List.length_drop, List.length_take, List.length_nil, List.drop_zero, List.take_zero]
    omega
end Go.Proofs.YtbnaneikkmcnnaaGreat.M
namespace Go.Proofs.YtbnaneikkmcnnaaGreat.M
open Go Go.Mini
attribute [local congr] go1_congr goM_congr goG_congr goV_congr drawwp_congr Xwp_congr
theorem rshr6 (x : Nat) : (x : Int).fdiv (2 ^ (min 6 (IntKind.bits .i64))) = ((x / 64 : Nat) : Int) := by
  have e : (2 : Int) ^ (min 6 (IntKind.bits .i64)) = 64 := by decide
  rw [e, Int.fdiv_eq_ediv_of_nonneg _ (by decide)]; rfl
theorem cp2 {a b : UInt8} (ha : a.toNat / 32 = 6) (hb : b.toNat / 64 = 2) (h : 128 ≤ a.toNat % 32 * 64 + b.toNat % 64) : IsCP [a, b] := by
  refine ⟨by simp, ?_⟩
  have hp : isPt (a.toNat % 32 * 64 + b.toNat % 64) = true := by simp [isPt]; omega
  rw [pt, if_neg (by omega), if_pos ha]
  simp only [ptN, conts, hb, if_true, hp]
  rw [if_neg (by simp; omega)]; rfl
theorem cp3 {a b c : UInt8} (ha : a.toNat / 16 = 14) (hb : b.toNat / 64 = 2) (hc : c.toNat / 64 = 2) {x : Nat} (hx : x = (a.toNat % 16 * 64 + b.toNat % 64) * 64 + c.toNat % 64) (h : 2048 ≤ x) (hp : isPt x = true) : IsCP [a, b, c] := by
  refine ⟨by simp, ?_⟩
  rw [pt, if_neg (by omega), if_neg (by omega), if_pos ha]
  simp only [ptN, conts, hb, hc, if_true, ← hx, hp]
  rw [if_neg (by simp; omega)]; rfl
theorem cp4 {a b c d : UInt8} (ha : a.toNat / 8 = 30) (hb : b.toNat / 64 = 2) (hc : c.toNat / 64 = 2) (hd : d.toNat / 64 = 2) {x : Nat} (hx : x = ((a.toNat % 8 * 64 + b.toNat % 64) * 64 + c.toNat % 64) * 64 + d.toNat % 64) (h : 65536 ≤ x) (hp : isPt x = true) : IsCP [a, b, c, d] := by
  refine ⟨by simp, ?_⟩
  rw [pt, if_neg (by omega), if_neg (by omega), if_neg (by omega), if_pos ha]
  simp only [ptN, conts, hb, hc, hd, if_true, ← hx, hp]
  rw [if_neg (by simp; omega)]; rfl
theorem mor128 {n : Nat} (h : n < 64) : bitOp .or .i64 128 (n : Int) = ((128 + n : Nat) : Int) := (show ∀ n, n < 64 → bitOp .or .i64 128 ((n : Nat) : Int) = ((128 + n : Nat) : Int) by decide +kernel) n h
theorem mor192 {n : Nat} (h : n < 32) : bitOp .or .i64 192 (n : Int) = ((192 + n : Nat) : Int) := (show ∀ n, n < 32 → bitOp .or .i64 192 ((n : Nat) : Int) = ((192 + n : Nat) : Int) by decide +kernel) n h
theorem mor224 {n : Nat} (h : n < 16) : bitOp .or .i64 224 (n : Int) = ((224 + n : Nat) : Int) := (show ∀ n, n < 16 → bitOp .or .i64 224 ((n : Nat) : Int) = ((224 + n : Nat) : Int) by decide +kernel) n h
theorem mor240 {n : Nat} (h : n < 8) : bitOp .or .i64 240 (n : Int) = ((240 + n : Nat) : Int) := (show ∀ n, n < 8 → bitOp .or .i64 240 ((n : Nat) : Int) = ((240 + n : Nat) : Int) by decide +kernel) n h
theorem mand63 {x : Nat} (hx : x < 4294967296) : bitOp .and .i64 (x : Int) 63 = ((x % 64 : Nat) : Int) := by
  have h1 : (BitVec.ofInt 64 (x : Int)).toNat = x := by rw [BitVec.toNat_ofInt]; omega
  have h3 : (BitVec.ofInt 64 (x : Int) &&& BitVec.ofInt 64 63).toNat = x % 64 := by
    rw [BitVec.toNat_and, h1]
    exact Nat.and_two_pow_sub_one_eq_mod x 6
  simp only [bitOp]
  show IntKind.i64.wrap (((BitVec.ofInt 64 (x : Int) &&& BitVec.ofInt 64 63).toNat : Nat) : Int) = _
  rw [h3, wrap_id (by omega) (by omega)]
theorem mshr12 (x : Nat) : (x : Int).fdiv (2 ^ (min 12 (IntKind.bits .i64))) = ((x / 4096 : Nat) : Int) := by
  have e : (2 : Int) ^ (min 12 (IntKind.bits .i64)) = 4096 := by decide
  rw [e, Int.fdiv_eq_ediv_of_nonneg _ (by decide)]; rfl
theorem mshr18 (x : Nat) : (x : Int).fdiv (2 ^ (min 18 (IntKind.bits .i64))) = ((x / 262144 : Nat) : Int) := by
  have e : (2 : Int) ^ (min 18 (IntKind.bits .i64)) = 262144 := by decide
  rw [e, Int.fdiv_eq_ediv_of_nonneg _ (by decide)]; rfl
theorem mu8 {x : Nat} (hx : x < 256) : IntKind.u8.wrap (x : Int) = (x : Int) := by
  have e1 : (2 : Int) ^ 8 = 256 := by decide
  simp only [IntKind.wrap, IntKind.bits, IntKind.signed, Bool.false_and, e1]
  simp; omega
theorem mkb {x : Nat} (hx : x < 256) : (UInt8.ofNat x).toNat = x := by rw [UInt8.toNat_ofNat']; omega
set_option maxHeartbeats 4000000 in
theorem make_call {v : Nat} (h1 : v ≤ 1114111) : ∃ c, IsCP c ∧ ∀ σ, ACall Tryz.prog n_palinoderef1_Make [.int .i64 (v : Nat)] σ (.str c) σ := by
  have b0 : (0 : Int) ≤ (v : Int) := by omega
  by_cases c1 : v < 128
  · refine ⟨[UInt8.ofNat v], cp_ascii (by rw [mkb (by omega)]; exact c1), fun σ => bare_call rfl rfl (fun W F => spec_of_awp mixed c_palinoderef1_Make (tl rfl) ?_) σ⟩
    unfold f_palinoderef1_Make
    have d1 : (v : Int) < 128 := by omega
    simp +decide only [↓evd, evw, evz, reduceCtorEq, ↓reduceIte, b0, d1, mu8 (show v < 256 by omega), asByte, asBytes, aBstr, slcCells]
    exact seen rfl rfl rfl
  have d1 : ¬ (v : Int) < 128 := by omega
  have e1 : (128 : Int) ≤ (v : Int) := by omega
  have m63 := mand63 (x := v) (by omega)
  have s6 : (v : Int).fdiv (2 ^ min (Int.toNat 6) IntKind.i64.bits) = ((v / 64 : Nat) : Int) := rshr6 v
  have s12 : (v : Int).fdiv (2 ^ min (Int.toNat 12) IntKind.i64.bits) = ((v / 4096 : Nat) : Int) := mshr12 v
  have s18 : (v : Int).fdiv (2 ^ min (Int.toNat 18) IntKind.i64.bits) = ((v / 262144 : Nat) : Int) := mshr18 v
  have m63b := mand63 (x := v / 64) (by omega)
  have m63c := mand63 (x := v / 4096) (by omega)
  have o1 := mor128 (n := v % 64) (by omega)
  have o2 := mor128 (n := v / 64 % 64) (by omega)
  have o3 := mor128 (n := v / 4096 % 64) (by omega)
  have w1 := mu8 (x := 128 + v % 64) (by omega)
  have w2 := mu8 (x := 128 + v / 64 % 64) (by omega)
  have w3 := mu8 (x := 128 + v / 4096 % 64) (by omega)
  by_cases c2 : v < 2048
  · have d2 : (v : Int) < 2048 := by omega
    have o4 := mor192 (n := v / 64) (by omega)
    have w4 := mu8 (x := 192 + v / 64) (by omega)
    refine ⟨[UInt8.ofNat (192 + v / 64), UInt8.ofNat (128 + v % 64)], cp2 (by rw [mkb (by omega)]; omega) (by rw [mkb (by omega)]; omega) (by rw [mkb (by omega), mkb (by omega)]; omega), fun σ => bare_call rfl rfl (fun W F => spec_of_awp mixed c_palinoderef1_Make (tl rfl) ?_) σ⟩
    unfold f_palinoderef1_Make
    simp +decide only [↓evd, evw, evz, reduceCtorEq, ↓reduceIte, b0, d1, e1, d2, s6, m63, o1, o4, w1, w4, asByte, asBytes, aBstr, slcCells]
    exact seen rfl rfl rfl
  have d2 : ¬ (v : Int) < 2048 := by omega
  have e2 : (2048 : Int) ≤ (v : Int) := by omega
  by_cases c3 : v < 65536
  · have d3 : (v : Int) < 65536 := by omega
    by_cases c4 : v < 55296 ∨ 57344 ≤ v
    · have o4 := mor224 (n := v / 4096) (by omega)
      have w4 := mu8 (x := 224 + v / 4096) (by omega)
      refine ⟨[UInt8.ofNat (224 + v / 4096), UInt8.ofNat (128 + v / 64 % 64), UInt8.ofNat (128 + v % 64)], cp3 (x := v) (by rw [mkb (by omega)]; omega) (by rw [mkb (by omega)]; omega) (by rw [mkb (by omega)]; omega) (by rw [mkb (by omega), mkb (by omega), mkb (by omega)]; omega) (by omega) (by simp [isPt]; omega), fun σ => bare_call rfl rfl (fun W F => spec_of_awp mixed c_palinoderef1_Make (tl rfl) ?_) σ⟩
      unfold f_palinoderef1_Make
      by_cases c5 : v < 55296
      · have d5 : (v : Int) < 55296 := by omega
        simp +decide only [↓evd, evw, evz, reduceCtorEq, ↓reduceIte, b0, d1, e1, d2, e2, d3, d5, s6, s12, m63, m63b, o1, o2, o4, w1, w2, w4, asByte, asBytes, aBstr, slcCells]
        exact seen rfl rfl rfl
      · have d5 : ¬ (v : Int) < 55296 := by omega
        have d6 : (57344 : Int) ≤ (v : Int) := by omega
        simp +decide only [↓evd, evw, evz, reduceCtorEq, ↓reduceIte, b0, d1, e1, d2, e2, d3, d5, d6, s6, s12, m63, m63b, o1, o2, o4, w1, w2, w4, asByte, asBytes, aBstr, slcCells]
        exact seen rfl rfl rfl
    · have d5 : ¬ (v : Int) < 55296 := by omega
      have d6 : ¬ (57344 : Int) ≤ (v : Int) := by omega
      have d7 : ¬ (65536 : Int) ≤ (v : Int) := by omega
      refine ⟨[239, 191, 189], ⟨by simp, by decide⟩, fun σ => bare_call rfl rfl (fun W F => spec_of_awp mixed c_palinoderef1_Make (tl rfl) ?_) σ⟩
      unfold f_palinoderef1_Make
      simp +decide only [↓evd, evw, evz, reduceCtorEq, ↓reduceIte, b0, d1, e1, d2, e2, d3, d5, d6, d7]
      exact seen rfl rfl rfl
  have d3 : ¬ (v : Int) < 65536 := by omega
  have e3 : (65536 : Int) ≤ (v : Int) := by omega
  have e4 : (v : Int) ≤ 1114111 := by omega
  have o4 := mor240 (n := v / 262144) (by omega)
  have w4 := mu8 (x := 240 + v / 262144) (by omega)
  refine ⟨[UInt8.ofNat (240 + v / 262144), UInt8.ofNat (128 + v / 4096 % 64), UInt8.ofNat (128 + v / 64 % 64), UInt8.ofNat (128 + v % 64)], cp4 (x := v) (by rw [mkb (by omega)]; omega) (by rw [mkb (by omega)]; omega) (by rw [mkb (by omega)]; omega) (by rw [mkb (by omega)]; omega) (by rw [mkb (by omega), mkb (by omega), mkb (by omega), mkb (by omega)]; omega) (by omega) (by simp [isPt]; omega), fun σ => bare_call rfl rfl (fun W F => spec_of_awp mixed c_palinoderef1_Make (tl rfl) ?_) σ⟩
  unfold f_palinoderef1_Make
  simp +decide only [↓evd, evw, evz, reduceCtorEq, ↓reduceIte, b0, d1, e1, d2, e2, d3, e3, e4, s6, s12, s18, m63, m63b, m63c, o1, o2, o3, o4, w1, w2, w3, w4, asByte, asBytes, aBstr, slcCells]
  exact seen rfl rfl rfl
variable {σ : Heap} {k : Nat} {E : Eng} {fp : List Nat}
theorem atexts_call (hE : IsEng σ k E fp) (hF : E.Fine) : ACall Tryz.prog n_audit_texts [.ptr (.new k) 0] σ (.bool true) σ := by
  refine exact_call (spec_of_awp mixed c_audit_texts (tl rfl) ?_)
  unfold f_audit_texts
  have hh := ehead_at hE
  have hle := head_le hF.whole.rok
  have hw := wrap_succ (i := E.R.head) (by omega)
  simp +decide only [↓evd, evw, evz, reduceCtorEq, ↓reduceIte]
  refine MSpec.of hh ?_
  simp +decide only [↓evd, evw, evz, reduceCtorEq, ↓reduceIte, hw]
  refine awp_loop (fun m fr τ => ∃ i : Nat, m + i = E.R.head + 1 ∧ fr.get 0 = .ptr (.new k) 0 ∧ fr.get 8 = .int .i64 ((E.R.head + 1 : Nat) : Int) ∧ fr.get 9 = .int .i64 (i : Nat) ∧ τ = σ) ?_ (m := E.R.head + 1) ?_
  · rintro m fr τ ⟨i, hi, e0, e8, e9, rfl⟩
    by_cases hlt : i < E.R.head + 1
    · have hlt' : (i : Int) < ((E.R.head + 1 : Nat) : Int) := by omega
      have hs := wrap_succ (i := i) (by omega)
      have hx := etext_at hE (i : Int)
      obtain ⟨hv, hl⟩ := hF.valid (i : Int)
      have hva := valid_call τ (E.text (i : Int)) (by unfold maxRoom; omega)
      rw [hv] at hva
      have z0 : ((0 : Int) != 0) = false := rfl
      have z1 : ((190 : Int) != 0) = true := rfl
      cases hlv : E.R.live (i : Int) with
      | true =>
        rw [textV, if_pos hlv] at hx
        simp +decide only [↓evd, evw, evz, reduceCtorEq, ↓reduceIte, e0, e8, e9, hlt']
        refine MSpec.of hx ?_
        simp +decide only [↓evd, evw, evz, reduceCtorEq, ↓reduceIte, z0]
        refine MSpec.of hva ?_
        simp +decide only [↓evd, evw, evz, reduceCtorEq, ↓reduceIte, e0, e8, e9, hs]
        exact ⟨m - 1, by omega, i + 1, by omega, by (repeat' apply And.intro) <;> first | rfl | assumption⟩
      | false =>
        rw [textV, if_neg (by rw [hlv]; simp)] at hx
        simp +decide only [↓evd, evw, evz, reduceCtorEq, ↓reduceIte, e0, e8, e9, hlt']
        refine MSpec.of hx ?_
        simp +decide only [↓evd, evw, evz, reduceCtorEq, ↓reduceIte, z1, e0, e8, e9, hs]
        exact ⟨m - 1, by omega, i + 1, by omega, by (repeat' apply And.intro) <;> first | rfl | assumption⟩
    · have hlt' : ¬ (i : Int) < ((E.R.head + 1 : Nat) : Int) := by omega
      simp +decide only [↓evd, evw, evz, reduceCtorEq, ↓reduceIte, e8, e9, hlt']
  · exact ⟨0, by omega, by first | (simp +decide only [↓evd, evw, evz, reduceCtorEq, ↓reduceIte]; done) | (simp +decide only [↓evd, evw, evz, reduceCtorEq, ↓reduceIte]; first | rfl | (repeat' apply And.intro) <;> rfl)⟩
theorem afine_call {i j : Nat} (hE : IsEng σ k E fp) (hi : σ.get i = some (.cells [.ptr (.new k) 0] none)) (hj : σ.get j = some (.cells [ints E.R.grp] none)) {rev g : Int} (hg60 : E.R.grp.length ≤ 60) (h1 : rev ≤ (E.R.head : Nat)) (h2 : g = -1 ∨ g ∈ E.R.grp) :
    ACall Tryz.prog n_audit_Engine_1 [.int .i64 rev, .int .i64 g, .ptr (.new i) 0, .ptr (.new j) 0] σ (.bool true) σ := by
  refine exact_call (spec_of_awp mixed c_audit_Engine_1 (tl rfl) ?_)
  unfold f_audit_Engine_1
  have hh := ehead_at hE
  simp only [ints] at hj
  simp +decide only [↓evd, evw, evz, reduceCtorEq, ↓reduceIte, hi]
  refine MSpec.of hh ?_
  by_cases hg : g = -1
  · have hb : (g == -1) = true := by simpa using hg
    simp +decide only [↓evd, evw, evz, reduceCtorEq, ↓reduceIte, h1, hb]
  · have hb : (g == -1) = false := by simpa using hg
    have hm : g ∈ E.R.grp := h2.resolve_left hg
    have hc := contains_call σ E.R.grp g (by omega)
    rw [decide_eq_true hm] at hc
    simp only [ints] at hc
    simp +decide only [↓evd, evw, evz, reduceCtorEq, ↓reduceIte, h1, hb, hj]
    refine MSpec.of hc ?_
    simp +decide only [↓evd, evw, evz, reduceCtorEq, ↓reduceIte]
theorem acut_call {i j q : Nat} (hE : IsEng σ k E fp) (hi : σ.get i = some (.cells [.ptr (.new k) 0] none)) (hj : σ.get j = some (.cells [ints E.R.grp] none)) (hq : σ.get q = some (.cells [.fn n_audit_Engine_1 [.ptr (.new i) 0, .ptr (.new j) 0]] none)) (hn : i < σ.next ∧ j < σ.next ∧ q < σ.next) {c : Cut} (hg60 : E.R.grp.length ≤ 60) (h1 : c.rev ≤ (E.R.head : Nat)) (h2 : c.group ∈ E.R.grp) :
    ACall Tryz.prog n_audit_Engine_2 [eCut c, .ptr (.new q) 0] σ (.bool false) σ := by
  refine gc_call rfl (spec_of_awp mixed c_audit_Engine_2 (tl rfl) ?_)
  unfold f_audit_Engine_2
  have hk := (Keep.refl [] σ).new (.cells [.int .i64 c.rev, .int .i64 c.group] none)
  have hE' := hE.keep hk (fun x _ => by simp)
  have hf := afine_call (i := i) (j := j) hE' (by rw [hk.2.2.2 i hn.1 (by simp)]; exact hi) (by rw [hk.2.2.2 j hn.2.1 (by simp)]; exact hj) hg60 h1 (.inr h2)
  have hqn : ¬ σ.next = q := by omega
  have hqn' : ¬ q = σ.next := by omega
  simp +decide only [↓evd, evw, evz, reduceCtorEq, ↓reduceIte, eCut, hq, hqn, hqn']
  refine MSpec.of hf ?_
  simp +decide only [↓evd, evw, evz, reduceCtorEq, ↓reduceIte]
  exact fun x hx => if_neg (by omega)
variable {σ : Heap} {k : Nat} {E : Eng} {fp : List Nat}
set_option maxHeartbeats 4000000 in
theorem auditE_call (hE : IsEng σ k E fp) (hF : E.Fine) : ACall Tryz.prog n_audit_Engine [.ptr (.new k) 0] σ (.bool true) σ := by
  refine gc_call rfl (spec_of_awp mixed c_audit_Engine (tl rfl) ?_)
  unfold f_audit_Engine
  have hg60 := rise_len hF.whole.rok.grp
  have hl4 := hF.whole.ok.len
  have n1 : (σ.next + 1 = σ.next) = False := eq_false (by omega)
  have n2 : (σ.next = σ.next + 1) = False := eq_false (by omega)
  have n3 : (σ.next + 1 + 1 = σ.next) = False := eq_false (by omega)
  have n4 : (σ.next + 1 + 1 = σ.next + 1) = False := eq_false (by omega)
  obtain ⟨τ, hτ⟩ : ∃ τ, τ = (σ.new (.cells [.ptr (.new k) 0] none)).new (.cells [.nils] none) := ⟨_, rfl⟩
  have hk : Keep [] σ τ := by rw [hτ]; exact ((Keep.refl [] σ).new _).new _
  have hEτ := hE.keep hk (fun x _ => by simp)
  have ha := eatoms_at hEτ
  have hg := egroups_at hEτ
  rw [hτ] at ha hg
  simp only [eAtoms, ints] at ha hg
  simp +decide only [↓evd, evw, evz, reduceCtorEq, ↓reduceIte]
  with_reducible refine draw_of_grow (fun _ => True) (ms := [false, false, false, false, false, false, true]) (by kernel_rfl) ?_
  simp +decide only [↓evd, evw, evz, reduceCtorEq, ↓reduceIte, n1, n2, Nat.add_zero]
  refine MSpec.of ha ⟨.inr Keeps.rfl, ?_⟩
  simp +decide only [↓evd, evw, evz, reduceCtorEq, ↓reduceIte, n1, n2, Nat.add_zero]
  refine MSpec.of hg ⟨.inr Keeps.rfl, ?_⟩
  simp +decide only [↓evd, evw, evz, reduceCtorEq, ↓reduceIte, n1, n2, Nat.add_zero]
  obtain ⟨ρ1, hρ1⟩ : ∃ ρ1, ρ1 = (((((σ.new (.cells [.ptr (.new k) 0] none)).new (.cells [.nils] none)).set (σ.next + 1) (.cells [.fsl 1 (List.map (fun x => AVal.int IntKind.i64 x) E.R.grp)] none)).new (.cells [.raw Value.nilFunc] none)).set (σ.next + 1 + 1) (.cells [.fn n_audit_Engine_1 [.ptr (.new σ.next) 0, .ptr (.new (σ.next + 1)) 0]] none)) := ⟨_, rfl⟩
  have hk1 : Keep [] σ ρ1 := by
    rw [hρ1]
    exact ((((((Keep.refl [] σ).new _).new _).set (.inr (by omega)) _).new _).set (.inr (by omega)) _)
  have gi : ρ1.get σ.next = some (.cells [.ptr (.new k) 0] none) := by
    rw [hρ1]; simp only [Heap.get_set, Heap.get_new, Heap.new_next, Heap.set_next, n1, n2, if_false, if_true]
    rw [if_neg (by omega), if_neg (by omega)]
  have gj : ρ1.get (σ.next + 1) = some (.cells [ints E.R.grp] none) := by
    rw [hρ1]; simp only [Heap.get_set, Heap.get_new, Heap.new_next, Heap.set_next, if_true]
    rw [if_neg (by omega), if_neg (by omega)]; rfl
  have gq : ρ1.get (σ.next + 1 + 1) = some (.cells [.fn n_audit_Engine_1 [.ptr (.new σ.next) 0, .ptr (.new (σ.next + 1)) 0]] none) := by
    rw [hρ1, Heap.get_set, if_pos rfl]
  have gn : σ.next + 1 + 1 < ρ1.next := by rw [hρ1]; simp only [Heap.set_next, Heap.new_next]; omega
  rw [← hρ1]
  have hE1 := hE.keep hk1 (fun x _ => by simp)
  clear hρ1 hτ ha hg hEτ hk
  generalize hA : σ.next = A at gi gj gq gn ⊢
  have hIs := Is_call ρ1 E.l hl4 hF.atom
  simp only [eAtoms] at hIs
  refine MSpec.of hIs ?_
  simp +decide only [↓evd, evw, evz, reduceCtorEq, ↓reduceIte]
  refine awp_loop (fun m fr τ => ∃ i : Nat, m + i = E.l.length ∧ fr.get 1 = .ptr (.new A) 0 ∧ fr.get 5 = .ptr (.new (A + 1 + 1)) 0 ∧ fr.get 16 = eAtoms E.l ∧ fr.get 17 = .int .i64 (E.l.length : Nat) ∧ fr.get 18 = .int .i64 (i : Nat) ∧ Keep [] ρ1 τ) ?_ (m := E.l.length) ?_
  · rintro m fr τ ⟨i, hi, e1, e5, e16, e17, e18, hK⟩
    have hEt := hE1.keep hK (fun x _ => by simp)
    have ti : τ.get A = some (.cells [.ptr (.new k) 0] none) := by rw [hK.2.2.2 A (by omega) (by simp)]; exact gi
    by_cases hlt : i < E.l.length
    · have hlt' : (i : Int) < (E.l.length : Int) := by omega
      have hs := wrap_succ (i := i) (by omega)
      have hgt := map_get eAtom E.l i hlt
      have hat := List.getElem_mem hlt
      generalize E.l[i] = a at hgt hat
      have hold := hF.whole.known.old a hat
      have hgr := hF.whole.known.grp a hat
      have hcl := (hF.atom a hat).len
      have hn := hK.2.2.1
      obtain ⟨ρ, hρ⟩ : ∃ ρ, ρ = (τ.new (.cells [.str [], .int .i64 0, .int .i64 0, .int .i64 0, .nils] none)).set τ.next (.cells [.str a.text, .int .i64 a.rev, .int .i64 a.group, .int .i64 a.rank, eCuts a.cuts] none) := ⟨_, rfl⟩
      have hkρ : Keep [] τ ρ := by rw [hρ]; exact (Keep.refl _ _).junk _ _
      have hK2 := hK.trans hkρ (fun x hx => nomatch hx)
      have hEρ := hEt.keep hkρ (fun x _ => by simp)
      have hn2 := hK2.2.2.1
      have ri : ρ.get A = some (.cells [.ptr (.new k) 0] none) := by rw [hK2.2.2.2 A (by omega) (by simp)]; exact gi
      have rj : ρ.get (A + 1) = some (.cells [ints E.R.grp] none) := by rw [hK2.2.2.2 (A + 1) (by omega) (by simp)]; exact gj
      have rq : ρ.get (A + 1 + 1) = some (.cells [.fn n_audit_Engine_1 [.ptr (.new A) 0, .ptr (.new (A + 1)) 0]] none) := by rw [hK2.2.2.2 (A + 1 + 1) (by omega) (by simp)]; exact gq
      have hf := afine_call hEρ ri rj hg60 hold.1 hgr.1.symm
      have hcc := containsFunc_call ρ a.cuts n_audit_Engine_2 [.ptr (.new (A + 1 + 1)) 0] (fun _ => false) (by omega) (fun c hc => acut_call hEρ ri rj rq ⟨by omega, by omega, by omega⟩ hg60 (hold.2 c hc) (hgr.2 c hc))
      rw [show (a.cuts.any fun _ => false) = false by simp] at hcc
      have m1 : (A + 1 + 1 = τ.next) = False := eq_false (by omega)
      have m2 : (τ.next = A + 1 + 1) = False := eq_false (by omega)
      have tq : τ.get (A + 1 + 1) = some (.cells [.fn n_audit_Engine_1 [.ptr (.new A) 0, .ptr (.new (A + 1)) 0]] none) := by rw [hK.2.2.2 (A + 1 + 1) (by omega) (by simp)]; exact gq
      have rt : ρ.get τ.next = some (.cells [.str a.text, .int .i64 a.rev, .int .i64 a.group, .int .i64 a.rank, eCuts a.cuts] none) := by rw [hρ, Heap.get_set, if_pos rfl]
      simp only [eCuts] at hρ hcc rt
      simp +decide only [↓evd, evw, evz, reduceCtorEq, ↓reduceIte, e1, e5, e16, e17, e18, hlt', eAtoms, hgt, eAtom, eCuts, m1, m2, tq]
      rw [← hρ]
      refine MSpec.of hf ?_
      simp +decide only [↓evd, evw, evz, reduceCtorEq, ↓reduceIte, e1, e5, e16, e17, e18, rt]
      refine MSpec.of hcc ?_
      simp +decide only [↓evd, evw, evz, reduceCtorEq, ↓reduceIte, e1, e5, e16, e17, e18, hs]
      exact ⟨m - 1, by omega, i + 1, by omega, rfl, hK2⟩
    · have hlt' : ¬ (i : Int) < (E.l.length : Int) := by omega
      have htx := atexts_call hEt hF
      simp +decide only [↓evd, evw, evz, reduceCtorEq, ↓reduceIte, e1, e5, e16, e17, e18, hlt', ti]
      refine MSpec.of htx ?_
      simp +decide only [↓evd, evw, evz, reduceCtorEq, ↓reduceIte]
      exact ⟨hK.1.trans hk1.1, hK.2.1.trans hk1.2.1, fun x hx => by
        have hx1 : x < σ.next := by omega
        rw [hK.2.2.2 x (Nat.lt_of_lt_of_le hx1 hk1.2.2.1) (by simp), hk1.2.2.2 x hx1 (by simp)]⟩
  · refine ⟨0, by omega, ?_⟩
    simp +decide only [↓evd, evw, evz, reduceCtorEq, ↓reduceIte, eAtoms]
    exact Keep.refl _ _
end Go.Proofs.YtbnaneikkmcnnaaGreat.M
set_option maxRecDepth 1000000
set_option maxHeartbeats 0
namespace Go.Proofs.YtbnaneikkmcnnaaGreat.M
open Go Go.Mini
def tblK : List (Nat × SFunc) := [(n_palinodelaw27_known, f_palinodelaw27_known), (n_engine_New, f_engine_New), (n_engine_Engine_Edit, f_engine_Engine_Edit), (n_engine_Engine_Text, f_engine_Engine_Text), (n_engine_Engine_Atoms, f_engine_Engine_Atoms), (n_audit_Engine, f_audit_Engine), (n_engine_Engine_Head, f_engine_Engine_Head), (n_view_New, f_view_New), (n_audit_View, f_audit_View), (n_audit_Counts, f_audit_Counts), (n_view_View_Engine, f_view_View_Engine), (n_rev_New, f_rev_New), (n_edit_Check, f_edit_Check), (n_engine_Engine_Copy, f_engine_Engine_Copy), (n_rev_Revs_Add, f_rev_Revs_Add), (n_edit_Upon, f_edit_Upon), (n_engine_Engine_UndoneAt, f_engine_Engine_UndoneAt), (n_engine_Engine_fits, f_engine_Engine_fits), (n_engine_Engine_Live, f_engine_Engine_Live), (n_atom_Text, f_atom_Text), (n_atom_Copy, f_atom_Copy), (n_engine_Engine_Groups, f_engine_Engine_Groups), (n_audit_Engine_1, f_audit_Engine_1), (n_slices_Contains_int_int, f_slices_Contains_int_int), (n_atom_Is, f_atom_Is), (n_slices_ContainsFunc_api_Cut_api_Cut, f_slices_ContainsFunc_api_Cut_api_Cut), (n_audit_texts, f_audit_texts), (n_rev_Revs_Head, f_rev_Revs_Head), (n_view_View_told, f_view_View_told), (n_view_View_Text, f_view_View_Text), (n_utf_IsEdge, f_utf_IsEdge), (n_region_Is, f_region_Is), (n_view_View_Selection, f_view_View_Selection), (n_spans_Is, f_spans_Is), (n_view_View_Spans, f_view_View_Spans), (n_breaks_Is, f_breaks_Is), (n_view_View_Breaks, f_view_View_Breaks), (n_slices_ContainsFunc_int_int, f_slices_ContainsFunc_int_int), (n_view_View_Convert, f_view_View_Convert), (n_utf_Valid, f_utf_Valid), (n_edit_Check_1, f_edit_Check_1), (n_edit_first, f_edit_first), (n_edit_Check_2, f_edit_Check_2), (n_edit_Check_3, f_edit_Check_3), (n_edit_order, f_edit_order), (n_edit_Check_4, f_edit_Check_4), (n_edit_long, f_edit_long), (n_rev_Revs_Copy, f_rev_Revs_Copy), (n_rev_Revs_next, f_rev_Revs_next), (n_edit_Spots, f_edit_Spots), (n_edit_Cuts, f_edit_Cuts), (n_atom_Put, f_atom_Put), (n_rev_Revs_Undone, f_rev_Revs_Undone), (n_rev_Revs_Live, f_rev_Revs_Live), (n_atom_Visible, f_atom_Visible), (n_strings_Builder_WriteString, f_strings_Builder_WriteString), (n_slices_Clone_api_Cut_api_Cut, f_slices_Clone_api_Cut_api_Cut), (n_rev_Revs_Groups, f_rev_Revs_Groups), (n_slices_Index_int_int, f_slices_Index_int_int), (n_slices_ContainsFunc_api_Atom_api_Atom, f_slices_ContainsFunc_api_Atom_api_Atom), (n_atom_Is_1, f_atom_Is_1), (n_atom_is, f_atom_is), (n_slices_IndexFunc_api_Cut_api_Cut, f_slices_IndexFunc_api_Cut_api_Cut), (n_view_View_Head, f_view_View_Head), (n_rope_New, f_rope_New), (n_rope_Rope_String, f_rope_Rope_String), (n_region_every_api_Region, f_region_every_api_Region), (n_region_inside, f_region_inside), (n_region_edges, f_region_edges), (n_region_Span, f_region_Span), (n_view_copied_api_Region, f_view_copied_api_Region), (n_view_copied_api_Span, f_view_copied_api_Span), (n_view_copied_int, f_view_copied_int), (n_slices_IndexFunc_int_int, f_slices_IndexFunc_int_int), (n_metric_Convert, f_metric_Convert), (n_utf_Size, f_utf_Size), (n_atom_Places, f_atom_Places), (n_edit_spot, f_edit_spot), (n_utf_Clean, f_utf_Clean), (n_rev_set_sorted, f_rev_set_sorted), (n_atom_holds, f_atom_holds), (n_slices_IndexFunc_api_Atom_api_Atom, f_slices_IndexFunc_api_Atom_api_Atom), (n_atom_within, f_atom_within), (n_atom_isGroup, f_atom_isGroup), (n_rope_made, f_rope_made), (n_tree_Seq_rope_piece_rope_counts_All, f_tree_Seq_rope_piece_rope_counts_All), (n_slices_ContainsFunc_api_Region_api_Region, f_slices_ContainsFunc_api_Region_api_Region), (n_region_every_api_Region_1, f_region_every_api_Region_1), (n_region_inside_1, f_region_inside_1), (n_interval_Is, f_interval_Is), (n_region_edges_1, f_region_edges_1), (n_count_Is, f_count_Is), (n_metric_To, f_metric_To), (n_metric_From, f_metric_From), (n_utf_point, f_utf_point), (n_maps_Keys_rev_set_int_unit, f_maps_Keys_rev_set_int_unit), (n_tree_Make_rope_piece_rope_counts, f_tree_Make_rope_piece_rope_counts), (n_tree_Seq_rope_piece_rope_counts_Len, f_tree_Seq_rope_piece_rope_counts_Len), (n_slices_IndexFunc_api_Region_api_Region, f_slices_IndexFunc_api_Region_api_Region), (n_metric_Whole, f_metric_Whole), (n_count_Get, f_count_Get), (n_utf_forms, f_utf_forms), (n_utf_long, f_utf_long), (n_utf_isPoint, f_utf_isPoint), (n_rope_Rope_Counts, f_rope_Rope_Counts), (n_tree_Seq_rope_piece_rope_counts_Sum, f_tree_Seq_rope_piece_rope_counts_Sum)]
theorem tblK_ok : TblOk Tryz.prog tblK := List.forall_mem_cons.2 ⟨c_palinodelaw27_known, List.forall_mem_cons.2 ⟨c_engine_New, List.forall_mem_cons.2 ⟨c_engine_Engine_Edit, List.forall_mem_cons.2 ⟨c_engine_Engine_Text, List.forall_mem_cons.2 ⟨c_engine_Engine_Atoms, List.forall_mem_cons.2 ⟨c_audit_Engine, List.forall_mem_cons.2 ⟨c_engine_Engine_Head, List.forall_mem_cons.2 ⟨c_view_New, List.forall_mem_cons.2 ⟨c_audit_View, List.forall_mem_cons.2 ⟨c_audit_Counts, List.forall_mem_cons.2 ⟨c_view_View_Engine, List.forall_mem_cons.2 ⟨c_rev_New, List.forall_mem_cons.2 ⟨c_edit_Check, List.forall_mem_cons.2 ⟨c_engine_Engine_Copy, List.forall_mem_cons.2 ⟨c_rev_Revs_Add, List.forall_mem_cons.2 ⟨c_edit_Upon, List.forall_mem_cons.2 ⟨c_engine_Engine_UndoneAt, List.forall_mem_cons.2 ⟨c_engine_Engine_fits, List.forall_mem_cons.2 ⟨c_engine_Engine_Live, List.forall_mem_cons.2 ⟨c_atom_Text, List.forall_mem_cons.2 ⟨c_atom_Copy, List.forall_mem_cons.2 ⟨c_engine_Engine_Groups, List.forall_mem_cons.2 ⟨c_audit_Engine_1, List.forall_mem_cons.2 ⟨c_slices_Contains_int_int, List.forall_mem_cons.2 ⟨c_atom_Is, List.forall_mem_cons.2 ⟨c_slices_ContainsFunc_api_Cut_api_Cut, List.forall_mem_cons.2 ⟨c_audit_texts, List.forall_mem_cons.2 ⟨c_rev_Revs_Head, List.forall_mem_cons.2 ⟨c_view_View_told, List.forall_mem_cons.2 ⟨c_view_View_Text, List.forall_mem_cons.2 ⟨c_utf_IsEdge, List.forall_mem_cons.2 ⟨c_region_Is, List.forall_mem_cons.2 ⟨c_view_View_Selection, List.forall_mem_cons.2 ⟨c_spans_Is, List.forall_mem_cons.2 ⟨c_view_View_Spans, List.forall_mem_cons.2 ⟨c_breaks_Is, List.forall_mem_cons.2 ⟨c_view_View_Breaks, List.forall_mem_cons.2 ⟨c_slices_ContainsFunc_int_int, List.forall_mem_cons.2 ⟨c_view_View_Convert, List.forall_mem_cons.2 ⟨c_utf_Valid, List.forall_mem_cons.2 ⟨c_edit_Check_1, List.forall_mem_cons.2 ⟨c_edit_first, List.forall_mem_cons.2 ⟨c_edit_Check_2, List.forall_mem_cons.2 ⟨c_edit_Check_3, List.forall_mem_cons.2 ⟨c_edit_order, List.forall_mem_cons.2 ⟨c_edit_Check_4, List.forall_mem_cons.2 ⟨c_edit_long, List.forall_mem_cons.2 ⟨c_rev_Revs_Copy, List.forall_mem_cons.2 ⟨c_rev_Revs_next, List.forall_mem_cons.2 ⟨c_edit_Spots, List.forall_mem_cons.2 ⟨c_edit_Cuts, List.forall_mem_cons.2 ⟨c_atom_Put, List.forall_mem_cons.2 ⟨c_rev_Revs_Undone, List.forall_mem_cons.2 ⟨c_rev_Revs_Live, List.forall_mem_cons.2 ⟨c_atom_Visible, List.forall_mem_cons.2 ⟨c_strings_Builder_WriteString, List.forall_mem_cons.2 ⟨c_slices_Clone_api_Cut_api_Cut, List.forall_mem_cons.2 ⟨c_rev_Revs_Groups, List.forall_mem_cons.2 ⟨c_slices_Index_int_int, List.forall_mem_cons.2 ⟨c_slices_ContainsFunc_api_Atom_api_Atom, List.forall_mem_cons.2 ⟨c_atom_Is_1, List.forall_mem_cons.2 ⟨c_atom_is, List.forall_mem_cons.2 ⟨c_slices_IndexFunc_api_Cut_api_Cut, List.forall_mem_cons.2 ⟨c_view_View_Head, List.forall_mem_cons.2 ⟨c_rope_New, List.forall_mem_cons.2 ⟨c_rope_Rope_String, List.forall_mem_cons.2 ⟨c_region_every_api_Region, List.forall_mem_cons.2 ⟨c_region_inside, List.forall_mem_cons.2 ⟨c_region_edges, List.forall_mem_cons.2 ⟨c_region_Span, List.forall_mem_cons.2 ⟨c_view_copied_api_Region, List.forall_mem_cons.2 ⟨c_view_copied_api_Span, List.forall_mem_cons.2 ⟨c_view_copied_int, List.forall_mem_cons.2 ⟨c_slices_IndexFunc_int_int, List.forall_mem_cons.2 ⟨c_metric_Convert, List.forall_mem_cons.2 ⟨c_utf_Size, List.forall_mem_cons.2 ⟨c_atom_Places, List.forall_mem_cons.2 ⟨c_edit_spot, List.forall_mem_cons.2 ⟨c_utf_Clean, List.forall_mem_cons.2 ⟨c_rev_set_sorted, List.forall_mem_cons.2 ⟨c_atom_holds, List.forall_mem_cons.2 ⟨c_slices_IndexFunc_api_Atom_api_Atom, List.forall_mem_cons.2 ⟨c_atom_within, List.forall_mem_cons.2 ⟨c_atom_isGroup, List.forall_mem_cons.2 ⟨c_rope_made, List.forall_mem_cons.2 ⟨c_tree_Seq_rope_piece_rope_counts_All, List.forall_mem_cons.2 ⟨c_slices_ContainsFunc_api_Region_api_Region, List.forall_mem_cons.2 ⟨c_region_every_api_Region_1, List.forall_mem_cons.2 ⟨c_region_inside_1, List.forall_mem_cons.2 ⟨c_interval_Is, List.forall_mem_cons.2 ⟨c_region_edges_1, List.forall_mem_cons.2 ⟨c_count_Is, List.forall_mem_cons.2 ⟨c_metric_To, List.forall_mem_cons.2 ⟨c_metric_From, List.forall_mem_cons.2 ⟨c_utf_point, List.forall_mem_cons.2 ⟨c_maps_Keys_rev_set_int_unit, List.forall_mem_cons.2 ⟨c_tree_Make_rope_piece_rope_counts, List.forall_mem_cons.2 ⟨c_tree_Seq_rope_piece_rope_counts_Len, List.forall_mem_cons.2 ⟨c_slices_IndexFunc_api_Region_api_Region, List.forall_mem_cons.2 ⟨c_metric_Whole, List.forall_mem_cons.2 ⟨c_count_Get, List.forall_mem_cons.2 ⟨c_utf_forms, List.forall_mem_cons.2 ⟨c_utf_long, List.forall_mem_cons.2 ⟨c_utf_isPoint, List.forall_mem_cons.2 ⟨c_rope_Rope_Counts, List.forall_mem_cons.2 ⟨c_tree_Seq_rope_piece_rope_counts_Sum, fun _ h => by cases h⟩⟩⟩⟩⟩⟩⟩⟩⟩⟩⟩⟩⟩⟩⟩⟩⟩⟩⟩⟩⟩⟩⟩⟩⟩⟩⟩⟩⟩⟩⟩⟩⟩⟩⟩⟩⟩⟩⟩⟩⟩⟩⟩⟩⟩⟩⟩⟩⟩⟩⟩⟩⟩⟩⟩⟩⟩⟩⟩⟩⟩⟩⟩⟩⟩⟩⟩⟩⟩⟩⟩⟩⟩⟩⟩⟩⟩⟩⟩⟩⟩⟩⟩⟩⟩⟩⟩⟩⟩⟩⟩⟩⟩⟩⟩⟩⟩⟩⟩⟩⟩⟩⟩⟩⟩⟩
theorem known27_call (σ : Heap) (hd : σ.F0.dr = false) : ACall Tryz.prog n_palinodelaw27_known [] σ (.bool true) σ :=
  acall_ran_d mixed ext_ok tblK_ok (k := 50) (n := 60) rfl rfl (fun W F => by kernel_rfl) σ hd
end Go.Proofs.YtbnaneikkmcnnaaGreat.M
namespace Go.Proofs.YtbnaneikkmcnnaaGreat.M
open Go Go.Mini
attribute [local congr] go1_congr goM_congr goG_congr goV_congr drawwp_congr Xwp_congr
theorem al_bytes : ∀ s : List UInt8, asBytes (byteCells s) = some s
  | [] => rfl
  | b :: s => by
    have ih := al_bytes s
    simp only [byteCells, List.map_cons] at ih ⊢
    simp [asBytes, asByte, ih]
theorem al_bstr {B : Nat} {σ : Heap} {x : AVal} {s : List UInt8} (h : Row B σ t_u8 1 x (byteCells s)) : aBstr x σ = some (.str s) := by
  rcases h.2 with ⟨rfl, h0⟩ | ⟨K, cap, cs, opn, rfl, hg, ht, _, _, hc⟩
  · have : s = [] := by simpa [byteCells] using h0
    subst this; rfl
  · rw [byteCells_flat] at ht
    have hle : (byteCells s).length * 1 ≤ cs.length := by
      rcases hc with ⟨_, _, h3⟩ | ⟨c, _, h2, h3⟩ <;> omega
    have hcf : cellsFrom σ (.new K) 0 ((byteCells s).length * 1) = some (byteCells s) := by
      rw [cellsFrom_get hg _ _ (by omega), List.drop_zero, ht]
    simp only [aBstr, slcCells]
    rcases hc with ⟨rfl, _⟩ | ⟨c, rfl, h2, _⟩
    · simp only [Nat.le_refl, if_true, hcf, al_bytes, Option.map_some]
    · simp only [h2, Nat.le_refl, if_true, hcf, al_bytes, Option.map_some]
theorem al_app {B : Nat} {σ : Heap} {x : AVal} {s : List UInt8} (h : Row B σ t_u8 1 x (byteCells s)) (hB : B ≤ σ.next) (t : List UInt8) (hr : s.length + t.length ≤ maxRoom) :
    ∃ x' σ', aApp t_u8 1 1 x (.str t) σ = some (x', σ') ∧ Row B σ' t_u8 1 x' (byteCells (s ++ t)) ∧ Ext B σ σ' := by
  obtain ⟨x', σ', g1, g2, g3, g4⟩ := row_app (bytes := 1) (y := .str t) (ys := byteCells t) h hB (by simp only [aLenOf, byteCells_len]) (by
    rw [byteCells_flat, byteCells_len]; simp [srcCells]) (byteCells_one t) (by rw [byteCells_flat]; exact byteCells_cell t) (by omega) (by omega) (by rw [byteCells_len, byteCells_len]; omega)
  exact ⟨x', σ', g1, by rw [byteCells_app]; exact g2, g3⟩
set_option maxHeartbeats 8000000 in
theorem auditLong_fspec (W : World) (v n : Int) (hv0 : 0 ≤ v) (hv1 : v < 4294967296) (hn0 : 0 ≤ n) (hn1 : n < 65536) : FSpec Tryz.prog n_palinodelaw27_AuditLong [.int .u32 v, .int .u16 n] (Heap.bare W (cellsOf W)) fun v s => v = .bool true ∧ s.W = W := by
  refine fspec_of_awp mixed c_palinodelaw27_AuditLong (tl rfl) ?_
  unfold f_palinodelaw27_AuditLong
  have hd := tmod_nat (n := 1114112) hv0 (by omega)
  have hdl : v.toNat % 1114112 ≤ 1114111 := by omega
  generalize v.toNat % 1114112 = d at hd hdl
  obtain ⟨c, hc, hmk⟩ := make_call hdl
  have hcl := cp_len hc
  have hm := tmod_nat (n := 1000) hn0 (by omega)
  have hml : n.toNat % 1000 ≤ 999 := by omega
  generalize n.toNat % 1000 = m0 at hm hml
  have wd : IntKind.i64.wrap (d : Int) = (d : Int) := wrap_id (by omega) (by omega)
  have wn : IntKind.i64.wrap n = n := wrap_id (by omega) (by omega)
  have wm := wrap_succ (i := m0) (by omega)
  obtain ⟨k, hk⟩ : ∃ k, k = m0 + 1 := ⟨_, rfl⟩
  rw [← hk] at wm
  have w4 : IntKind.i64.wrap (4 * (k : Int)) = ((4 * k : Nat) : Int) := by rw [wrap_id (by omega) (by omega)]; omega
  have z0 : (0 : Int) ≤ ((4 * k : Nat) : Int) := by omega
  have z1 : 4 * k ≤ maxRoom := by unfold maxRoom; omega
  have z2 : ((4 * k : Nat) : Int) ≤ 2 ^ 62 := by omega
  have q1 : ((1114112 : Int) = 0) = False := eq_false (by decide)
  have q2 : ((1000 : Int) = 0) = False := eq_false (by decide)
  have hd' : v.tmod 1114112 = (d : Int) := hd
  have hm' : n.tmod 1000 = (m0 : Int) := hm
  simp +decide only [↓evd, evw, evz, reduceCtorEq, ↓reduceIte]
  refine MSpec.of (known27_call _ rfl) ?_
  simp +decide only [↓evd, evw, evz, reduceCtorEq, ↓reduceIte, hd', q1, wd]
  refine MSpec.of (hmk _) ?_
  simp +decide only [↓evd, evw, evz, reduceCtorEq, ↓reduceIte, wn, hm', q2, wm, w4, z0, z1, z2]
  refine awp_loop (fun m fr ρ => ∃ i : Nat, m + i = k ∧ fr.get 5 = .str c ∧ fr.get 6 = .int .i64 (k : Nat) ∧ fr.get 8 = .int .i64 (i : Nat) ∧ Row 0 ρ t_u8 1 (fr.get 7) (byteCells (List.replicate i c).flatten) ∧ ρ.W = W ∧ ρ.F0.dr = false) ?_ (m := k) ?_
  · rintro m fr ρ ⟨i, hi, e5, e6, e8, hR, hW, hdr⟩
    generalize hx7 : fr.get 7 = x7 at hR
    by_cases hlt : i < k
    · have hlt' : (i : Int) < (k : Int) := by omega
      have hs := wrap_succ (i := i) (by omega)
      have hrl := rep_len c i
      have h4 : i * c.length ≤ 1000 * 4 := Nat.mul_le_mul (by omega) hcl.2
      obtain ⟨y, ρ1, a1, a2, a3⟩ := al_app hR (by omega) c (by unfold maxRoom; omega)
      simp +decide only [↓evd, evw, evz, reduceCtorEq, ↓reduceIte, e5, e6, e8, hx7, hlt', a1, hs]
      refine ⟨m - 1, by omega, i + 1, by omega, rfl, ?_, a3.1.trans hW, by rw [a3.2.1]; exact hdr⟩
      rw [List.replicate_succ', List.flatten_append, List.flatten_singleton]; exact a2
    · have hlt' : ¬ (i : Int) < (k : Int) := by omega
      have hik : i = k := by omega
      subst hik
      have hrl := rep_len c i
      have h4 : i * c.length ≤ 1000 * 4 := Nat.mul_le_mul (by omega) hcl.2
      have h1c : 1 * c.length ≤ i * c.length := Nat.mul_le_mul_right _ (by omega)
      obtain ⟨nn, hnn⟩ : ∃ nn, nn = (List.replicate i c).flatten.length := ⟨_, rfl⟩
      obtain ⟨E1, E2, he1, he2, hl2, hlv, htl⟩ := al_edits hc (k := i) (by omega) (by omega) hnn
      have hF1 := Eng.Fine.new.edit he1
      have hF2 := hF1.edit he2
      have hlen := hR.len
      rw [byteCells_len, ← hnn] at hlen
      have hki : IntKind.i64.wrap ((i : Int) + 1) = ((i + 1 : Nat) : Int) := wrap_succ (by omega)
      simp +decide only [↓evd, evw, evz, reduceCtorEq, ↓reduceIte, e5, e6, e8, hx7, hlt']
      refine (enew_at ρ hdr).mono ?_
      rintro w τ ⟨q, fp0, rfl, h0, hf0, k0⟩
      have hRτ : Row 0 τ t_u8 1 x7 (byteCells (List.replicate i c).flatten) := Row.move hR k0.2.2.1 (fun K hK => by
        obtain ⟨o, n, c, e⟩ := mem_uid.1 hK
        exact k0.2.2.2 K (hR.low e).2 (by simp))
      have hbs := al_bstr hRτ
      generalize (List.replicate i c).flatten = s at *
      simp +decide only [↓evd, evw, evz, reduceCtorEq, ↓reduceIte, e5, e6, hx7, hbs]
      refine (eedit_lit h0 (q := 1) rfl (by simp) (by intro c hc; simp at hc; subst hc; simp only; omega) he1).mono ?_
      rintro w τ1 ⟨rfl, fp1, hE1, kk1, f1⟩
      simp +decide only [↓evd, evw, evz, reduceCtorEq, ↓reduceIte, e5, e6, hx7, hlen]
      refine (eedit_lit hE1 (q := 2) rfl (by simp) (by intro x hx; simp at hx; rcases hx with rfl | rfl <;> simp; omega) he2).mono ?_
      rintro w τ2 ⟨rfl, fp2, hE2, kk2, f2⟩
      have hx := etext_at hE2 2
      rw [textV, if_pos hlv] at hx
      have ha := eatoms_at hE2
      have hau := auditE_call hE2 hF2
      have b0 : ((0 : Int) == 0) = true := rfl
      have b1 : (((E2.text 2).length : Int) == (nn : Int)) = true := by rw [htl]; simp
      have b2 : ((E2.l.length : Int) == ((i + 1 : Nat) : Int)) = true := by rw [hl2]; simp
      simp only [eAtoms] at ha
      simp +decide only [↓evd, evw, evz, reduceCtorEq, ↓reduceIte, e5, e6, hx7]
      refine MSpec.of hx ?_
      simp +decide only [↓evd, evw, evz, reduceCtorEq, ↓reduceIte, e5, e6, hx7, hlen, b0, b1]
      refine MSpec.of ha ?_
      simp +decide only [↓evd, evw, evz, reduceCtorEq, ↓reduceIte, e5, e6, hki, b2]
      refine MSpec.of hau ?_
      simp +decide only [↓evd, evw, evz, reduceCtorEq, ↓reduceIte]
      exact kk2.1.trans (kk1.1.trans (k0.1.trans hW))
  · refine ⟨0, by omega, ?_⟩
    simp +decide only [↓evd, evw, evz, reduceCtorEq, ↓reduceIte]
    exact ⟨Row.make (σ := { W := W, F0 := cellsOf W, tr := Trie.nil, next := 0 }) (Nat.le_refl 0) t_u8 1 (4 * k) _ none (by simp), rfl⟩
theorem auditLong_row (W : World) (a0 a1 : Int) (g0 : GInt .u32 a0) (g1 : GInt .u16 a1) : FSpec Tryz.prog n_palinodelaw27_AuditLong [.int .u32 a0, .int .u16 a1] (Heap.bare W (cellsOf W)) fun v s => v = .bool true ∧ s.W = W := by
  have h := gint_bounds g0
  simp [IntKind.min, IntKind.max, IntKind.signed, IntKind.bits] at h
  exact auditLong_fspec W a0 a1 (by omega) (by omega) (gint_u16 g1).1 (gint_u16 g1).2
end Go.Proofs.YtbnaneikkmcnnaaGreat.M

