/- A part of the seat's proofs over the abstract machine. No condition. -/
import Derived.Test.YtaakajfmbjjigaaCtr
import Derived.Test.YtaakajfmbjjigaaMF
import Derived.Test.YtaakajfmbjjigaaMF
set_option linter.unusedSimpArgs false
set_option linter.unusedVariables false
set_option maxRecDepth 100000
namespace Go.Proofs.Ytaakajfmbjjigaa.M
open Go Go.Mini
attribute [local congr] go1_congr goM_congr goG_congr goV_congr
theorem drawwp_congr {P : Program} {tab : List Nat} {i : Nat} {ops : List SOper} {past : List Ev} {K : Mini.Frame → Heap → Prop} {fr fr' : Mini.Frame} {σ σ' : Heap} (h : fr = fr') (h' : σ = σ') : drawwp P tab i ops past K fr σ = drawwp P tab i ops past K fr' σ' := by rw [h, h']
def ints (l : List Int) : AVal := .fsl 1 (l.map (.int .i64 ·))
theorem ints_pure (l : List Int) : (ints l).pure = true := by simp only [ints, AVal.pure]; exact pures_map _ _ (fun _ _ => rfl)
theorem wrap_id {x : Int} (h1 : -9223372036854775808 ≤ x) (h2 : x < 9223372036854775808) : IntKind.i64.wrap x = x := by
  have e1 : (2 : Int) ^ 64 = 18446744073709551616 := by decide
  have e2 : (2 : Int) ^ (64 - 1) = 9223372036854775808 := by decide
  simp only [IntKind.wrap, IntKind.bits, IntKind.signed, Bool.true_and, decide_eq_true_eq, e1, e2]
  split <;> omega
theorem wrap_succ {i : Nat} (h : i ≤ 4611686018427387904) : IntKind.i64.wrap ((i : Int) + 1) = ((i + 1 : Nat) : Int) := by rw [wrap_id (by omega) (by omega)]; rfl
/-- a call seen from an empty heap -/
theorem bare_call {f : FuncId} {args : List AVal} {v : AVal} (ha : AVal.pures args = true) (hv : v.pure = true) (h : ∀ W F, MSpec Try.prog f args (Heap.bare W F) fun u σ' => ∃ τ, Sees σ' u τ v ∧ τ.W = W ∧ τ.F0 = F) (σ : Heap) : ACall Try.prog f args σ v σ :=
  acall_bare ha hv (fun W F => by obtain ⟨u, σ', h1, h2⟩ := h W F; exact ⟨u, σ', h1, h2⟩) σ
theorem seen {W : World} {F : FB} {σ' : Heap} {u v : AVal} (he : u = v) (h1 : σ'.W = W) (h2 : σ'.F0 = F) : ∃ τ, Sees σ' u τ v ∧ τ.W = W ∧ τ.F0 = F := ⟨σ', he ▸ Sees.refl _ _, h1, h2⟩
theorem map_get {α β : Type} (f : α → β) (l : List α) (i : Nat) (h : i < l.length) : (l.map f)[i]? = some (f l[i]) := by simp [h]
theorem exact_call {f : FuncId} {args : List AVal} {v : AVal} {σ τ : Heap} (h : MSpec Try.prog f args σ fun u σ' => u = v ∧ σ' = τ) : ACall Try.prog f args σ v τ := by
  obtain ⟨u, σ', h, rfl, rfl⟩ := h; exact h
theorem gc_call {f : FuncId} {args : List AVal} {v : AVal} {σ : Heap} (hv : v.pure = true) (h : MSpec Try.prog f args σ fun u τ => u = v ∧ τ.W = σ.W ∧ τ.F0 = σ.F0 ∧ ∀ k, k < σ.next → τ.get k = σ.get k) : ACall Try.prog f args σ v σ := by
  obtain ⟨u, τ, h, rfl, h1, h2, h3⟩ := h
  exact acall_gc h hv h1 h2 h3
/-- an answer seen as data, what was made let go -/
theorem acall_see {f : FuncId} {args : List AVal} {u v : AVal} {σ σ1 τ : Heap} (h : ACall Try.prog f args σ u σ1) (hs : Sees σ1 u τ v) : ACall Try.prog f args σ v τ := by
  intro φ w vs hvs hr o a next Q hn
  refine h φ w vs hvs hr o a next Q ?_
  intro φ1 v' w' hle hv' hr'
  obtain ⟨φ2, hle2, hv2, hr2⟩ := hs φ1 w' v' hv' hr'
  exact hn φ2 v' w' (Phi.le_trans hle hle2) hv2 hr2
theorem lt_next {k n : Nat} (h : k < n) : (n = k) = False := eq_false (by omega)
theorem lt_next_add {k n j : Nat} (h : k < n) : (n + j = k) = False := eq_false (by omega)
theorem lt_next2 {k n : Nat} (h : k < n) : (n + 1 + 1 = k) = False := eq_false (by omega)
theorem lt_next3 {k n : Nat} (h : k < n) : (n + 1 + 1 + 1 = k) = False := eq_false (by omega)
theorem aLen_fsl (k : Nat) (els : List AVal) : aLen (.fsl k els) = some (.int .i64 els.length) := rfl
theorem aLen_nils : aLen .nils = some (.int .i64 (0 : Nat)) := rfl
theorem aLen_emp0 : aLen .emp0 = some (.int .i64 (0 : Nat)) := rfl
theorem aLen_emp : aLen .emp = some (.int .i64 (0 : Nat)) := rfl
theorem aLen_slc (i : Mini.Id) (off len : Nat) (c : Cap) : aLen (.slc i off len c) = some (.int .i64 len) := rfl

/-! ### Sets of groups -/
def uents (l : List Int) : List (Int × AVal) := l.map fun g => (g, .agg [])
def insS (n : Int) : List Int → List Int
  | [] => [n]
  | m :: l => if m = n then n :: l else if n < m then n :: m :: l else m :: insS n l
theorem put_set (n : Int) : ∀ l : List Int, mapPut n (.agg []) (uents l) = uents (insS n l)
  | [] => rfl
  | m :: l => by
    simp only [uents, List.map_cons, mapPut, insS]
    split
    · rfl
    · split
      · rfl
      · have := put_set n l; simp only [uents] at this; rw [this]; rfl
theorem del_set (n : Int) : ∀ l : List Int, mapDel n (uents l) = uents (l.erase n)
  | [] => rfl
  | m :: l => by
    simp only [uents, List.map_cons, mapDel, List.erase_cons]
    by_cases h : m = n
    · subst h; simp
    · have hb : (m == n) = false := by simpa using h
      rw [if_neg h, hb]
      have := del_set n l; simp only [uents] at this; simp [this]
theorem find_set (n : Int) : ∀ l : List Int, mapFind n (uents l) = if n ∈ l then some (.agg []) else none
  | [] => rfl
  | m :: l => by
    have ih := find_set n l
    simp only [uents, List.map_cons, mapFind] at ih ⊢
    by_cases h : m = n
    · subst h; simp
    · rw [if_neg h, ih]; simp [Ne.symm h]
theorem look_set {σ : Heap} {m : Nat} {l : List Int} {g : Int} (h : σ.get m = some (.map (uents l))) : aLook (.agg []) true (.mp (.new m)) (.int .i64 g) σ = some (.tup [.agg [], .bool (decide (g ∈ l))]) := by
  simp only [aLook, h, find_set]
  by_cases hg : g ∈ l <;> simp [hg]
theorem lenM_set {σ : Heap} {m : Nat} {l : List Int} (h : σ.get m = some (.map (uents l))) : aLenM (.mp (.new m)) σ = some (.int .i64 (l.length : Nat)) := by
  simp only [aLenM, h, uents, List.length_map]
theorem mem_insS {x n : Int} : ∀ {l : List Int}, x ∈ insS n l ↔ x = n ∨ x ∈ l
  | [] => by simp [insS]
  | m :: l => by
    simp only [insS]
    split
    · rename_i h; subst h; simp
    · split
      · simp
      · simp only [List.mem_cons, mem_insS (l := l)]
        constructor
        · rintro (h | h | h)
          · exact .inr (.inl h)
          · exact .inl h
          · exact .inr (.inr h)
        · rintro (h | h | h)
          · exact .inr (.inl h)
          · exact .inl h
          · exact .inr (.inr h)
/-- strictly rising numbers of groups -/
def Rise (l : List Int) : Prop := l.Pairwise (· < ·) ∧ ∀ g ∈ l, 0 ≤ g ∧ g < 60
theorem Rise.nil : Rise [] := ⟨.nil, fun _ h => by cases h⟩
theorem pair_insS {n : Int} : ∀ {l : List Int}, l.Pairwise (· < ·) → (insS n l).Pairwise (· < ·)
  | [], _ => by simp [insS]
  | m :: l, h => by
    simp only [insS]
    have h1 := fun x (hx : x ∈ l) => List.rel_of_pairwise_cons h hx
    split
    · rename_i e; subst e; exact h
    · split
      · rename_i hlt
        refine .cons ?_ h
        intro x hx
        rcases List.mem_cons.1 hx with rfl | hx
        · exact hlt
        · exact Int.lt_trans hlt (h1 x hx)
      · refine .cons ?_ (pair_insS h.of_cons)
        intro x hx
        rcases mem_insS.1 hx with rfl | hx
        · omega
        · exact h1 x hx
theorem Rise.ins {l : List Int} {n : Int} (h : Rise l) (h0 : 0 ≤ n) (h1 : n < 60) : Rise (insS n l) :=
  ⟨pair_insS h.1, fun g hg => by rcases mem_insS.1 hg with rfl | hg; exact ⟨h0, h1⟩; exact h.2 g hg⟩
theorem Rise.erase {l : List Int} (n : Int) (h : Rise l) : Rise (l.erase n) := ⟨h.1.sublist List.erase_sublist, fun g hg => h.2 g (List.mem_of_mem_erase hg)⟩
theorem Rise.nodup {l : List Int} (h : Rise l) : l.Nodup := h.1.imp fun h => by omega
theorem Rise.mem_erase {l : List Int} (h : Rise l) {x n : Int} : x ∈ l.erase n ↔ x ≠ n ∧ x ∈ l := h.nodup.mem_erase_iff
theorem rise_ext {l m : List Int} (hl : Rise l) (hm : Rise m) (h : ∀ x, x ∈ l ↔ x ∈ m) : l = m := by
  have hp : l.Perm m := (List.perm_ext_iff_of_nodup hl.nodup hm.nodup).2 h
  exact hp.eq_of_pairwise (fun a b _ _ h1 h2 => by omega) hl.1 hm.1
theorem rise_len {l : List Int} (h : Rise l) : l.length ≤ 60 := by
  have key : ∀ (l : List Int) (a : Int), (∀ x ∈ l, a ≤ x ∧ x < 60) → l.Pairwise (· < ·) → a ≤ 60 → (l.length : Int) ≤ 60 - a := by
    intro l
    induction l with
    | nil => intro a _ _ ha; simp; omega
    | cons x l ih =>
      intro a h1 h2 ha
      have hx := h1 x (List.mem_cons_self ..)
      have := ih (x + 1) (fun y hy => by have := List.rel_of_pairwise_cons h2 hy; have := (h1 y (List.mem_cons_of_mem _ hy)).2; omega) h2.of_cons (by omega)
      simp only [List.length_cons]; omega
  have := key l 0 h.2 h.1 (by omega)
  omega

/-! ### Revisions -/
structure Revs where
  und : List (List Int)
  floor : Nat
  grp : List Int
  gone : List Int
def Revs.head (R : Revs) : Nat := R.floor + R.und.length - 1
def Revs.top (R : Revs) : List Int := R.und.getLastD []
structure Revs.Ok (R : Revs) : Prop where
  one : R.und ≠ []
  few : R.floor + R.und.length ≤ 201
  rise : ∀ s ∈ R.und, Rise s
  grp : Rise R.grp
  gone : Rise R.gone
abbrev t_set : TypeId := 57
/-- what lies below is as it was, but for some blocks -/
def Keep (fp : List Nat) (σ τ : Heap) : Prop := τ.W = σ.W ∧ τ.F0 = σ.F0 ∧ σ.next ≤ τ.next ∧ ∀ q, q < σ.next → q ∉ fp → τ.get q = σ.get q
theorem Keep.refl (fp : List Nat) (σ : Heap) : Keep fp σ σ := ⟨rfl, rfl, Nat.le_refl _, fun _ _ _ => rfl⟩
def Fresh (fp : List Nat) (σ : Heap) (fp' : List Nat) : Prop := ∀ x ∈ fp', x ∈ fp ∨ σ.next ≤ x
theorem Keep.trans {fp fp' : List Nat} {σ τ ρ : Heap} (h : Keep fp σ τ) (h' : Keep fp' τ ρ) (hf : Fresh fp σ fp') : Keep fp σ ρ :=
  ⟨h'.1.trans h.1, h'.2.1.trans h.2.1, Nat.le_trans h.2.2.1 h'.2.2.1, fun q hq hn => by
    rw [h'.2.2.2 q (Nat.lt_of_lt_of_le hq h.2.2.1) (fun hm => by rcases hf q hm with h1 | h1; exact hn h1; omega), h.2.2.2 q hq hn]⟩
theorem Fresh.trans {fp fp' fp'' : List Nat} {σ τ : Heap} (h : Fresh fp σ fp') (hk : σ.next ≤ τ.next) (h' : Fresh fp' τ fp'') : Fresh fp σ fp'' := fun x hx => by
  rcases h' x hx with h1 | h1
  · exact h x h1
  · exact .inr (Nat.le_trans hk h1)
theorem Keep.mono {fp fp' : List Nat} {σ τ : Heap} (h : Keep fp σ τ) (hs : ∀ x ∈ fp, x < σ.next → x ∈ fp') : Keep fp' σ τ := ⟨h.1, h.2.1, h.2.2.1, fun q hq hn => h.2.2.2 q hq fun hm => hn (hs q hm hq)⟩
theorem Keep.new {fp : List Nat} {σ τ : Heap} (h : Keep fp σ τ) (b : ABlk) : Keep fp σ (τ.new b) := ⟨h.1, h.2.1, Nat.le_succ_of_le h.2.2.1, fun q hq hn => by rw [Heap.get_new, if_neg (by have := h.2.2.1; omega)]; exact h.2.2.2 q hq hn⟩
theorem Keep.set {fp : List Nat} {σ τ : Heap} (h : Keep fp σ τ) {j : Nat} (hj : j ∈ fp ∨ σ.next ≤ j) (b : ABlk) : Keep fp σ (τ.set j b) := ⟨h.1, h.2.1, h.2.2.1, fun q hq hn => by
  rw [Heap.get_set, if_neg (fun e => by subst e; rcases hj with h | h; exact hn h; omega)]; exact h.2.2.2 q hq hn⟩
def mps (ms : List Nat) : List AVal := ms.map fun m => .mp (.new m)
/-- a row of maps' addresses in block K -/
def SetRow (σ : Heap) (K : Nat) (cap : Cap) (ms : List Nat) : Prop := ∃ cs opn, σ.get K = some (.cells cs opn) ∧ cs.take ms.length = mps ms ∧ ((cap = .gr 1 ∧ opn = some t_set ∧ cs.length = ms.length) ∨ ∃ c, cap = .ex c ∧ ms.length ≤ c ∧ cs.length = c)
theorem mps_len (ms : List Nat) : (mps ms).length = ms.length := by simp [mps]
theorem mps_flat : ∀ ms : List Nat, (mps ms).flatMap AVal.cells = mps ms
  | [] => rfl
  | m :: ms => by have := mps_flat ms; simp only [mps, List.map_cons, List.flatMap_cons, AVal.cells] at *; rw [this]; rfl
theorem mps_one (ms : List Nat) : ∀ z ∈ mps ms, z.cells.length = 1 := by
  intro z hz; simp only [mps, List.mem_map] at hz; obtain ⟨m, _, rfl⟩ := hz; rfl
theorem SetRow.row {σ : Heap} {K : Nat} {cap : Cap} {ms : List Nat} (h : SetRow σ K cap ms) (hK : K < σ.next) : Row 0 σ t_set 1 (.slc (.new K) 0 ms.length cap) (mps ms) := by
  obtain ⟨cs, opn, h1, h2, h3⟩ := h
  refine ⟨mps_one ms, .inr ⟨K, cap, cs, opn, by rw [mps_len], h1, by rw [mps_flat, mps_len, Nat.mul_one]; exact h2, Nat.zero_le _, hK, ?_⟩⟩
  rw [mps_len]
  rcases h3 with ⟨a, b, c⟩ | ⟨c, a, b, d⟩
  · exact .inl ⟨a, b, by omega⟩
  · exact .inr ⟨c, a, b, by omega⟩
theorem Row.setRow {σ : Heap} {x : AVal} {ms : List Nat} (h : Row 0 σ t_set 1 x (mps ms)) (h0 : ms ≠ []) : ∃ K cap, x = .slc (.new K) 0 ms.length cap ∧ SetRow σ K cap ms ∧ K < σ.next := by
  rcases h.2 with ⟨_, h1⟩ | ⟨K, cap, cs, opn, h1, h2, h3, h4, h5, h6⟩
  · exact absurd (by simpa [mps] using h1) h0
  · rw [mps_len] at h1 h6
    refine ⟨K, cap, h1, ⟨cs, opn, h2, by rw [mps_flat, mps_len, Nat.mul_one] at h3; exact h3, ?_⟩, h5⟩
    rcases h6 with ⟨a, b, c⟩ | ⟨c, a, b, d⟩
    · exact .inl ⟨a, b, by omega⟩
    · exact .inr ⟨c, a, b, by omega⟩
theorem SetRow.cell {σ : Heap} {K : Nat} {cap : Cap} {ms : List Nat} (h : SetRow σ K cap ms) {i m : Nat} (hi : ms[i]? = some m) : σ.cell (.new K) i = some (.mp (.new m)) := by
  obtain ⟨cs, opn, h1, h2, h3⟩ := h
  have hlt := (List.getElem?_eq_some_iff.1 hi).1
  have : (cs.take ms.length)[i]? = some (.mp (.new m)) := by rw [h2]; simp [mps, hi]
  rw [List.getElem?_take, if_pos hlt] at this
  simp only [Heap.cell, h1, this]
structure RevsAt (σ : Heap) (k : Nat) (R : Revs) (K : Nat) (cap : Cap) (ms : List Nat) (mg mf : Nat) : Prop where
  blk : σ.get k = some (.cells [.slc (.new K) 0 ms.length cap, .int .i64 (R.floor : Nat), .mp (.new mg), .mp (.new mf)] none)
  row : SetRow σ K cap ms
  len : ms.length = R.und.length
  maps : ∀ (i : Nat) (m : Nat) (s : List Int), ms[i]? = some m → R.und[i]? = some s → σ.get m = some (.map (uents s))
  grp : σ.get mg = some (.map (uents R.grp))
  gone : σ.get mf = some (.map (uents R.gone))
  nodup : (k :: K :: mg :: mf :: ms).Nodup
  low : ∀ x ∈ k :: K :: mg :: mf :: ms, x < σ.next
  ok : R.Ok
  dr : σ.F0.dr = false
def IsRevs (σ : Heap) (k : Nat) (R : Revs) (fp : List Nat) : Prop := ∃ K cap ms mg mf, RevsAt σ k R K cap ms mg mf ∧ fp = k :: K :: mg :: mf :: ms
theorem RevsAt.at {σ τ : Heap} {k : Nat} {R : Revs} {K : Nat} {cap : Cap} {ms : List Nat} {mg mf : Nat} (h : RevsAt σ k R K cap ms mg mf) (hn : σ.next ≤ τ.next) (hF : τ.F0 = σ.F0) (hk : ∀ q ∈ k :: K :: mg :: mf :: ms, τ.get q = σ.get q) : RevsAt τ k R K cap ms mg mf where
  blk := by rw [hk k (by simp)]; exact h.blk
  row := by
    obtain ⟨cs, opn, h1, h2⟩ := h.row
    exact ⟨cs, opn, by rw [hk K (by simp)]; exact h1, h2⟩
  len := h.len
  maps := fun i m s h1 h2 => by rw [hk m (by have := List.mem_of_getElem? h1; simp [this])]; exact h.maps i m s h1 h2
  grp := by rw [hk mg (by simp)]; exact h.grp
  gone := by rw [hk mf (by simp)]; exact h.gone
  nodup := h.nodup
  low := fun x hx => Nat.lt_of_lt_of_le (h.low x hx) hn
  ok := h.ok
  dr := by rw [hF]; exact h.dr
theorem IsRevs.keep {σ τ : Heap} {k : Nat} {R : Revs} {fp fp' : List Nat} (h : IsRevs σ k R fp) (hk : Keep fp' σ τ) (hd : ∀ x ∈ fp, x ∉ fp') : IsRevs τ k R fp := by
  obtain ⟨K, cap, ms, mg, mf, h, rfl⟩ := h
  exact ⟨K, cap, ms, mg, mf, h.at hk.2.2.1 hk.2.1 fun q hq => hk.2.2.2 q (h.low q hq) (hd q hq), rfl⟩
end Go.Proofs.Ytaakajfmbjjigaa.M
