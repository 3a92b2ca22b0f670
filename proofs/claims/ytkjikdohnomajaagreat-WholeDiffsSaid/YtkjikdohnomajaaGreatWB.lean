/- A part of the seat's proofs over the abstract machine. No condition. -/
import Derived.Test.YtkjikdohnomajaaGreatWA
import Derived.Test.YtkjikdohnomajaaGreatMB
set_option linter.unusedSimpArgs false
set_option linter.unusedVariables false
set_option maxRecDepth 100000
namespace Go.Proofs.YtkjikdohnomajaaGreat.M
open Go Go.Mini
attribute [local congr] go1_congr goM_congr goG_congr goV_congr drawwp_congr Xwp_congr
theorem falses_row : ∀ n : Nat, (List.replicate n [AVal.bool false]).flatten = bitRow n fun _ => false
  | 0 => rfl
  | n + 1 => by
    have h := falses_row n
    rw [List.replicate_succ', List.flatten_append, h]
    simp only [bitRow, List.range_succ, List.map_append]; rfl
theorem copy_slc {σ : Heap} {a b n k : Nat} {zs ys : List AVal} {o1 o2 : Option TypeId} {ca cb : Cap} (hk : 0 < k) (ha : σ.get a = some (.cells zs o1)) (hb : σ.get b = some (.cells ys o2)) (hz : zs.length = n * k) (hy : ys.length = n * k) (hc : ys.all AVal.isCell = true) :
    ∃ σ', aCopy k (.slc (.new a) 0 n ca) (.slc (.new b) 0 n cb) σ = some (.int .i64 (n : Nat), σ') ∧ σ'.get a = some (.cells ys o1) ∧ σ'.W = σ.W ∧ σ'.F0 = σ.F0 ∧ σ'.next = σ.next ∧ ∀ q, q ≠ a → σ'.get q = σ.get q := by
  have h1 := cellsFrom_whole hb
  rw [hy] at h1
  by_cases h0 : n = 0
  · subst h0
    have e1 : zs = [] := List.eq_nil_of_length_eq_zero (by omega)
    have e2 : ys = [] := List.eq_nil_of_length_eq_zero (by omega)
    subst e1; subst e2
    refine ⟨σ, ?_, ha, rfl, rfl, rfl, fun _ _ => rfl⟩
    simp only [aCopy, aSLen, aLenOf, Nat.min_self, srcCells, slcCells, Nat.le_refl, if_true, h1]; rfl
  · refine ⟨σ.set a (.cells ys o1), ?_, by rw [Heap.get_set, if_pos rfl], rfl, rfl, rfl, fun q hq => by rw [Heap.get_set, if_neg (fun e => hq e.symm)]⟩
    simp only [aCopy, aSLen, aLenOf, Nat.min_self, srcCells, slcCells, Nat.le_refl, if_true, h1, if_neg h0, storeAt, ha]
    rw [if_pos (by simp only [hc, Bool.and_true, decide_eq_true_eq]; omega)]
    simp only [Option.map_some, over, List.take_zero, List.nil_append, Nat.zero_add, List.drop_eq_nil_of_le (show zs.length ≤ ys.length by omega), List.append_nil]
theorem flatR_cell : ∀ {l : List Atom} {zs : List AVal}, (∀ z ∈ zs, z.isCell = true) → (flatR l zs).all AVal.isCell = true
  | [], _, _ => by simp [flatR]
  | _ :: _, [], _ => by simp [flatR]
  | a :: l, z :: zs, h => by
    simp only [flatR, List.all_cons, h z (by simp), flatR_cell (l := l) (fun y hy => h y (List.mem_cons_of_mem _ hy))]; rfl
theorem AtomsOwn.cell {B : Nat} {τ : Heap} {K : Nat} {l : List Atom} {zs : List AVal} (h : AtomsOwn B τ K l zs l.length) : ∀ z ∈ zs, z.isCell = true := by
  intro z hz
  obtain ⟨j, hj, rfl⟩ := List.getElem_of_mem hz
  have hjl : j < l.length := by rw [← h.len]; exact hj
  rcases (h.own j l[j] zs[j] hjl (List.getElem?_eq_getElem hjl) (List.getElem?_eq_getElem hj)).cells with e | ⟨K', n, cap, e, _⟩ <;> rw [e] <;> rfl
theorem AtomsOwn.copied {B : Nat} {τ τ' : Heap} {K K' : Nat} {l : List Atom} {zs : List AVal} (h : AtomsOwn B τ K l zs l.length) (hK : K' < B) (hg : τ'.get K' = some (.cells (flatR l zs) none)) (hn : τ.next ≤ τ'.next) (ho : ∀ q, q ≠ K' → τ'.get q = τ.get q) : AtomsOwn B τ' K' l zs l.length where
  len := h.len
  blk := hg
  low := hK
  own := fun j a z hj ha hz => by
    have h1 := h.own j a z hj ha hz
    refine h1.move hn fun k hk => ho k ?_
    have := (h1.low k hk).1
    omega
  rest := h.rest
  apart := h.apart
set_option maxHeartbeats 8000000 in
theorem upon_call (σ : Heap) (l : List Atom) (rev : Int) (u : List Int) (cs : List Chg) (rev' group rank : Int) (hu : u.length ≤ 1000000) (hl : Fits l) (hcl : cs.length ≤ 1000000) (hc : ∀ c ∈ cs, c.text.length ≤ 1000000) (hlc : ∀ a ∈ l, a.cuts.length ≤ 100000) (hll : l.length ≤ 100000) :
    ACall Tryz.prog n_edit_Upon [eAtoms l, .int .i64 rev, ints u, eChgs cs, .int .i64 rev', .int .i64 group, .int .i64 rank] σ (eAtoms (upon l rev u cs rev' group rank)) σ := by
  refine bare_call (by simp only [AVal.pures, eAtoms_pure, ints_pure, eChgs_pure]; rfl) (eAtoms_pure _) (fun W F => spec_of_xwp c_edit_Upon (tl rfl) ?_) σ
  unfold f_edit_Upon
  have ht := atomsText_len rev u l
  have ht2 := hl.2.2
  have hroom : maxRoom = 68719476736 := rfl
  have hc' : ∀ c ∈ cs, ChgFits c := fun c h => by have := hc c h; unfold ChgFits; omega
  refine x_seq mixed ?_
  simp +decide only [↓evd, evw, evz, reduceCtorEq, ↓reduceIte]
  refine x_seq mixed ?_
  simp +decide only [↓evd, evw, evz, reduceCtorEq, ↓reduceIte]
  refine MSpec.of (spots_call _ l rev u cs rank hu hl hcl hc') ?_
  simp +decide only [↓evd, evw, evz, reduceCtorEq, ↓reduceIte]
  refine x_seq mixed ?_
  simp +decide only [↓evd, evw, evz, reduceCtorEq, ↓reduceIte]
  refine MSpec.of (text_call _ l rev u hu hl) ?_
  simp +decide only [↓evd, evw, evz, reduceCtorEq, ↓reduceIte]
  refine MSpec.of (check_call _ (atomsText rev u l) cs (by omega) hcl hc') ?_
  by_cases h0 : check (atomsText rev u l) cs = 0
  case neg =>
    have hb : (check (atomsText rev u l) cs != 0) = true := by simpa using h0
    simp +decide only [↓evd, evw, evz, reduceCtorEq, ↓reduceIte, hb]
    refine MSpec.of (copy_call _ l hl.1 hl.2.1) ?_
    simp +decide only [↓evd, evw, evz, reduceCtorEq, ↓reduceIte]
    rw [upon, if_neg h0]
    exact seen rfl rfl rfl
  have hb : (check (atomsText rev u l) cs != 0) = false := by simpa using h0
  have hz := check_zero h0
  have hm0 : (0 : Int) ≤ (l.length : Int) := by omega
  have hm2 : l.length * 64 ≤ maxRoom := by omega
  have hm4 : l.length ≤ maxRoom := by omega
  have hm3 : (l.length : Int) ≤ 2 ^ 62 := by omega
  simp +decide only [↓evd, evw, evz, reduceCtorEq, ↓reduceIte, hb]
  refine x_seq mixed ?_
  simp +decide only [↓evd, evw, evz, reduceCtorEq, ↓reduceIte]
  simp +decide only [↓evd, evw, evz, reduceCtorEq, ↓reduceIte, hm0, hm2, hm3]
  refine x_seq mixed ?_
  simp +decide only [↓evd, evw, evz, reduceCtorEq, ↓reduceIte]
  simp +decide only [↓evd, evw, evz, reduceCtorEq, ↓reduceIte, hm0, hm4, hm3]
  refine x_seq mixed ?_
  simp +decide only [↓evd, evw, evz, reduceCtorEq, ↓reduceIte]
  refine MSpec.of (cuts_call _ l rev u cs hu hl hcl hc') ?_
  have hctl := cuts_len l rev u cs
  have hctn := fun x => cuts_lt (l := l) (rev := rev) (u := u) (cs := cs) (x := x)
  have hup : upon l rev u cs rev' group rank = merged (fun t => newAtoms rev' group rank (ptsOf t)) (marked (cuts l rev u cs) ⟨rev', group⟩ l 0) ((spotsN l rev u cs rank).zip (cs.map Chg.text)) 0 := if_pos h0
  rw [hup]
  have hspe := spots_eq rank h0
  obtain ⟨hsp1, hsp2⟩ := spotsN_sorted rank h0
  rw [hspe]
  generalize cuts l rev u cs = ct at hctl hctn
  simp +decide only [↓evd, evw, evz, reduceCtorEq, ↓reduceIte]
  have hc0 : ((List.replicate l.length [AVal.str [], AVal.int IntKind.i64 0, AVal.int IntKind.i64 0, AVal.int IntKind.i64 0, AVal.nils]).flatten).length = l.length * 5 := by
    exact repl_len l.length _
  generalize (List.replicate l.length [AVal.str [], AVal.int IntKind.i64 0, AVal.int IntKind.i64 0, AVal.int IntKind.i64 0, AVal.nils]).flatten = cs0 at hc0
  refine awp_loop (fun m fr τ => ∃ i, m + i = ct.length ∧ fr.get 0 = eAtoms l ∧ fr.get 3 = eChgs cs ∧ fr.get 4 = .int .i64 rev' ∧ fr.get 5 = .int .i64 group ∧ fr.get 6 = .int .i64 rank ∧ fr.get 15 = ints ((spotsN l rev u cs rank).map fun n : Nat => (n : Int)) ∧ fr.get 16 = .slc (.new 0) 0 0 (.ex l.length) ∧ fr.get 17 = .slc (.new 1) 0 l.length (.ex l.length) ∧ fr.get 50 = ints ct ∧ fr.get 51 = .int .i64 ct.length ∧ fr.get 52 = .int .i64 (i : Nat) ∧
    τ.get 0 = some (.cells cs0 none) ∧ τ.get 1 = some (.cells (bitRow l.length fun k => decide ((k : Int) ∈ ct.take i)) none) ∧ 1 < τ.next ∧ τ.W = W ∧ τ.F0 = F) ?_ (m := ct.length) ?_
  · rintro m fr τ ⟨i, hi, e0, e3, e4, e5, e6, e15, e16, e17, e50, e51, e52, hb0, hb1, hn, hW, hF⟩
    by_cases hlt : i < ct.length
    · have hlt' : (i : Int) < (ct.length : Int) := by omega
      have hw := wrap_succ (i := i) (by omega)
      have hg := map_get (AVal.int .i64 ·) ct i hlt
      have t1 := List.take_succ_eq_append_getElem hlt
      obtain ⟨j, hj1, hj2⟩ := hctn _ (List.getElem_mem hlt)
      generalize ct[i] = x at hg t1 hj1
      subst hj1
      have hj' : (j : Int) < (l.length : Int) := by omega
      have hle : decide (j + 1 ≤ l.length) = true := by simp; omega
      have hset := bitRow_set (n := l.length) (j := j) (fun k => decide ((k : Int) ∈ ct.take i)) true hj2
      have hcg : bitRow l.length (fun k => if k = j then true else decide ((k : Int) ∈ ct.take i)) = bitRow l.length fun k => decide ((k : Int) ∈ ct.take (i + 1)) := bitRow_congr fun k _ => by
        rw [t1]
        by_cases e : k = j
        · subst e; simp
        · have e' : ¬ (k : Int) = (j : Int) := by omega
          simp [e, e']
      rw [hcg] at hset
      simp +decide only [↓evd, evw, evz, reduceCtorEq, ↓reduceIte, e0, e3, e4, e5, e6, e15, e16, e17, e50, e51, e52, hlt', hg, hj', hb1, bitRow_len, hle, hset, hw]
      exact ⟨m - 1, by omega, i + 1, by omega, rfl, hb0, rfl, hn, hW, hF⟩
    · have hlt' : ¬ (i : Int) < (ct.length : Int) := by omega
      rw [List.take_of_length_le (by omega)] at hb1
      simp +decide only [↓evd, evw, evz, reduceCtorEq, ↓reduceIte, e0, e3, e4, e5, e6, e15, e16, e17, e50, e51, e52, hlt']
      clear e50 e51 e52 hlt hlt' hi
      refine x_seq mixed ?_
      simp +decide only [↓evd, evw, evz, reduceCtorEq, ↓reduceIte]
      simp +decide only [↓evd, evw, evz, reduceCtorEq, ↓reduceIte, e0, hm0, hm2, hm3]
      refine x_seq mixed ?_
      simp +decide only [↓evd, evw, evz, reduceCtorEq, ↓reduceIte]
      simp +decide only [↓evd, evw, evz, reduceCtorEq, ↓reduceIte, e0]
      have hc1 : ((List.replicate l.length [AVal.str [], AVal.int IntKind.i64 0, AVal.int IntKind.i64 0, AVal.int IntKind.i64 0, AVal.nils]).flatten).length = l.length * 5 := by
        exact repl_len l.length _
      generalize (List.replicate l.length [AVal.str [], AVal.int IntKind.i64 0, AVal.int IntKind.i64 0, AVal.int IntKind.i64 0, AVal.nils]).flatten = cs1 at hc1
      refine (copy_own (τ.new (.cells cs1 none)) l hl.1 hl.2.1).mono ?_
      rintro v ρ ⟨rfl, hK, hn1, zs, hA⟩
      simp only [Heap.new_next] at hA hn1
      have hgt : ρ.get τ.next = some (.cells cs1 none) := by rw [hK.get (by simp), Heap.get_new, if_pos rfl]
      obtain ⟨ρ1, g1, g2, g3, g4, g5, g6⟩ := copy_slc (ca := .ex l.length) (cb := .ex l.length) (by omega) hgt hA.blk hc1 (flatR_len hA.len) (flatR_cell hA.cell)
      have hA1 := hA.copied (K' := τ.next) (by omega) g2 (by omega) g6
      have hW1 : ρ1.W = W := g3.trans (hK.1.trans hW)
      have hF1 : ρ1.F0 = F := g4.trans (hK.2.1.trans hF)
      have hb0' : ρ1.get 0 = some (.cells cs0 none) := by rw [g6 0 (by omega), hK.get (by rw [Heap.new_next]; omega), Heap.get_new, if_neg (by omega)]; exact hb0
      have hb1' : ρ1.get 1 = some (.cells (bitRow l.length fun k => decide ((k : Int) ∈ ct)) none) := by rw [g6 1 (by omega), hK.get (by rw [Heap.new_next]; omega), Heap.get_new, if_neg (by omega)]; exact hb1
      simp +decide only [↓evd, evw, evz, reduceCtorEq, ↓reduceIte, e0, e3, e4, e5, e6, e15, e16, e17, g1]
      have hl5 : l.length ≤ 1000000 := hl.1
      have hBn : τ.next + 1 + 1 ≤ ρ1.next := by have := hK.2.2.1; simp at this; omega
      have hml : ∀ i, i ≤ l.length → (markTo ct ⟨rev', group⟩ l i).length = l.length := fun i h => markTo_len ct ⟨rev', group⟩ l h
      refine x_seq mixed ?_
      simp +decide only [↓evd, evw, evz, reduceCtorEq, ↓reduceIte]
      refine awp_loop (fun m fr ρ => ∃ i zs, m + i = l.length ∧ i ≤ l.length ∧ fr.get 3 = eChgs cs ∧ fr.get 4 = .int .i64 rev' ∧ fr.get 5 = .int .i64 group ∧ fr.get 6 = .int .i64 rank ∧ fr.get 15 = ints ((spotsN l rev u cs rank).map fun n : Nat => (n : Int)) ∧ fr.get 16 = .slc (.new 0) 0 0 (.ex l.length) ∧ fr.get 17 = .slc (.new 1) 0 l.length (.ex l.length) ∧ fr.get 20 = .slc (.new τ.next) 0 l.length (.ex l.length) ∧ fr.get 68 = .int .i64 l.length ∧ fr.get 69 = .int .i64 (i : Nat) ∧
        ρ.get 0 = some (.cells cs0 none) ∧ ρ.get 1 = some (.cells (bitRow l.length fun k => decide ((k : Int) ∈ ct)) none) ∧ AtomsOwn (τ.next + 1 + 1) ρ τ.next (markTo ct ⟨rev', group⟩ l i) zs (markTo ct ⟨rev', group⟩ l i).length ∧ τ.next + 1 + 1 ≤ ρ.next ∧ ρ.W = W ∧ ρ.F0 = F) ?_ (m := l.length) ?_
      · clear e0 e3 e4 e5 e6 e15 e16 e17 hb0' hb1' hA1 hBn hW1 hF1 hA g1 g2 g3 g4 g5 g6 hn1 hgt hK hb0 hb1 hW hF
        rintro m fr ρ ⟨i, zs, hi, hil, e3, e4, e5, e6, e15, e16, e17, e20, e68, e69, hb0, hb1, hA, hBn, hW, hF⟩
        by_cases hlt : i < l.length
        · have hlt' : (i : Int) < (l.length : Int) := by omega
          have hw := wrap_succ (i := i) (by omega)
          have hbit := bitRow_get (n := l.length) (fun k => decide ((k : Int) ∈ ct)) hlt
          by_cases hin : (i : Int) ∈ ct
          case neg =>
            simp +decide only [↓evd, evw, evz, reduceCtorEq, ↓reduceIte, e3, e4, e5, e6, e15, e16, e17, e20, e68, e69, hlt', hb1, hbit, not_mem_bool hin, hw]
            refine ⟨m - 1, by omega, i + 1, zs, by omega, by omega, rfl, hb0, ?_, hBn, hW, hF⟩
            rw [markTo_skip ct _ l hlt hin]; exact hA
          have hzl : i < zs.length := by rw [hA.len, hml i hil]; exact hlt
          have hgm := markTo_get ct ⟨rev', group⟩ l hlt
          have hz := List.getElem?_eq_getElem hzl
          have hown := hA.own i _ _ (by rw [hml i hil]; exact hlt) hgm hz
          have hcell : (flatR (markTo ct ⟨rev', group⟩ l i) zs)[i * 5 + 4]? = some zs[i] := by rw [flatR_get hA.len, hz]
          have hfl := flatR_len hA.len
          rw [hml i hil] at hfl
          have hblk := hA.blk
          have hca := hlc _ (List.getElem_mem hlt)
          obtain ⟨x', σ', g1, g2, g3, g4, g5, g6, g7⟩ := cut_app hown hBn (by omega) ⟨rev', group⟩
          have hmk := hA.mark hBn hgm hz g2 (Nat.le_of_lt g5) g6 g7
          have hms := markTo_succ ct ⟨rev', group⟩ l hlt
          rw [if_pos hin] at hms
          rw [← hms] at hmk
          have hB0 : ∀ q, q < τ.next → σ'.get q = ρ.get q := fun q hq => g6 q (by omega) fun hm => by have := (hown.low q hm).1; omega
          have hblk2 : σ'.get τ.next = some (.cells (flatR (markTo ct ⟨rev', group⟩ l i) zs) none) := by
            rw [g6 τ.next (by omega) (fun hm => by have := (hown.low _ hm).1; omega)]; exact hblk
          have hov := over_set (l := flatR (markTo ct ⟨rev', group⟩ l i) zs) (j := i * 5 + 4) (x := x') (by rw [hfl]; omega)
          rw [flatR_set hA.len] at hov
          have hle : decide (i * 5 + 4 + 1 ≤ (flatR (markTo ct ⟨rev', group⟩ l i) zs).length) = true := by rw [hfl]; simp; omega
          have hb0' : σ'.get 0 = some (.cells cs0 none) := by rw [hB0 0 (by omega)]; exact hb0
          have hb1' : σ'.get 1 = some (.cells (bitRow l.length fun k => decide ((k : Int) ∈ ct)) none) := by rw [hB0 1 (by omega)]; exact hb1
          have hW' : σ'.W = W := g3.trans hW
          have hF' : σ'.F0 = F := g4.trans hF
          have hn0 : (τ.next = 0) = False := eq_false (by omega)
          have hn1 : (τ.next = 1) = False := eq_false (by omega)
          have hsz := hown.cells
          have hsx := g2.cells
          generalize hzz : zs[i] = z at g1 hcell hsz
          rcases hsz with rfl | ⟨Kz, nz, capz, rfl, _⟩ <;> rcases hsx with rfl | ⟨Kx, nx, capx, rfl, _⟩
          all_goals
            simp +decide only [↓evd, evw, evz, reduceCtorEq, ↓reduceIte, e3, e4, e5, e6, e15, e16, e17, e20, e68, e69, hlt', hb1, hbit, mem_bool hin, hblk, hcell, g1, hblk2, hle, hov, hw, hn0, hn1]
            exact ⟨m - 1, by omega, i + 1, _, by omega, by omega, rfl, hb0', hb1', hmk, by omega, hW', hF'⟩
        · have hlt' : ¬ (i : Int) < (l.length : Int) := by omega
          simp +decide only [↓evd, evw, evz, reduceCtorEq, ↓reduceIte, e3, e4, e5, e6, e15, e16, e17, e20, e68, e69, hlt']
          have hii : i = l.length := by omega
          subst hii
          rw [markTo_all] at hA
          obtain ⟨ρ2, s1, s2, s3, s4, s5, s6⟩ := hA.sees (n := l.length) (cap := .ex l.length)
          have hb0' : ρ2.get 0 = some (.cells cs0 none) := by rw [s6 0 (by omega) (by omega)]; exact hb0
          have hW2 : ρ2.W = W := s3.trans hW
          have hF2 : ρ2.F0 = F := s4.trans hF
          refine x_freeze (FSees.reg (t := 20) (by decide) (by simp +decide only [↓evd, evw, evz, reduceCtorEq, ↓reduceIte, e20]) s1) ?_
          refine x_of_awp mixed ?_
          clear hA s1 s3 s4 s6 hb0 hb1 hW hF
          have hml2 := marked_len ct ⟨rev', group⟩ l 0
          generalize marked ct ⟨rev', group⟩ l 0 = mk at s2 hml2
          have hsn := hsp2
          have hss := hsp1
          have hcs8 : cs.length ≤ 8 := hz.2.1
          have hval := hz.2.2.2.2.2.1
          have hspl : (spotsN l rev u cs rank).length = cs.length := by simp [spotsN]
          generalize spotsN l rev u cs rank = sp at hsn hss hspl e15 ⊢
          have hmr : ∀ z ∈ mk.map eAtom, z.cells.length = 5 := atoms_row mk
          have hml3 : (mk.map eAtom).length = l.length := by rw [List.length_map, hml2]
          have hK0 : τ.next ≠ 0 := by omega
          have hn2 : τ.next + 1 + 1 ≤ ρ2.next := by rw [s5]; exact hBn
          have hR0 : Row 0 ρ2 t_Atom 5 (.slc (.new 0) 0 0 (.ex l.length)) (([] : List Atom).map eAtom) := ⟨(fun _ h => nomatch h), .inr ⟨0, _, cs0, none, rfl, hb0', rfl, Nat.le_refl _, by omega, .inr ⟨l.length, rfl, Nat.zero_le _, hc0⟩⟩⟩
          clear hb0' s5 hBn e17 e68 e69 hlt hlt' hi hil hctl hctn hup hspe hsp1 hsp2
          simp +decide only [↓evd, evw, evz, reduceCtorEq, ↓reduceIte, e3, e4, e5, e6, e15, e16, e20]
          refine awp_loop (fun m fr ρ => ∃ i at' acc, m + i = cs.length ∧ fr.get 4 = .int .i64 rev' ∧ fr.get 5 = .int .i64 group ∧ fr.get 6 = .int .i64 rank ∧ fr.get 15 = ints (sp.map fun n : Nat => (n : Int)) ∧ fr.get 20 = .slc (.new τ.next) 0 l.length (.ex l.length) ∧ fr.get 22 = .int .i64 (at' : Nat) ∧ fr.get 91 = eChgs cs ∧ fr.get 92 = .int .i64 cs.length ∧ fr.get 93 = .int .i64 (i : Nat) ∧
            ρ.get τ.next = some (.cells ((mk.map eAtom).flatMap AVal.cells) none) ∧ Row 0 ρ t_Atom 5 (fr.get 16) (acc.map eAtom) ∧ (∀ K o n c, fr.get 16 = .slc (.new K) o n c → K ≠ τ.next) ∧ τ.next < ρ.next ∧
            acc ++ merged (fun t => newAtoms rev' group rank (ptsOf t)) mk ((sp.drop i).zip ((cs.drop i).map Chg.text)) at' = merged (fun t => newAtoms rev' group rank (ptsOf t)) mk (sp.zip (cs.map Chg.text)) 0 ∧ at' ≤ l.length ∧ (∀ k ∈ sp.drop i, at' ≤ k) ∧ acc.length ≤ at' + i * 1000000 ∧ ρ.W = W ∧ ρ.F0 = F) ?_ (m := cs.length) ?_
          · clear e3 e4 e5 e6 e15 e16 e20 hR0 s2 hn2 hW2 hF2
            rintro m fr ρ ⟨i, at', acc, hi, e4, e5, e6, e15, e20, e22, e91, e92, e93, hblk, hR, hne, hnx, hmg, hat, hge, hal, hW, hF⟩
            by_cases hlt : i < cs.length
            · have hlt' : (i : Int) < (cs.length : Int) := by omega
              have hw := wrap_succ (i := i) (by omega)
              have hg := map_get eChg cs i hlt
              have hlts : i < sp.length := by omega
              have hltm : i < (sp.map fun n : Nat => (n : Int)).length := by simp; omega
              have hlt2 : (i : Int) < ((sp.map fun n : Nat => (n : Int)).length : Int) := by omega
              have hg2 := map_get (AVal.int .i64 ·) (sp.map fun n : Nat => (n : Int)) i hltm
              rw [List.getElem_map] at hg2
              rw [List.drop_eq_getElem_cons hlt, List.drop_eq_getElem_cons hlts, List.map_cons, List.zip_cons_cons, merged_cons] at hmg
              rw [List.drop_eq_getElem_cons hlts] at hge
              have hk1 : at' ≤ sp[i] := hge _ (List.mem_cons_self ..)
              have hk2 : sp[i] ≤ l.length := hsn _ (List.getElem_mem hlts)
              have hk3 : ∀ k ∈ sp.drop (i + 1), sp[i] ≤ k := by
                have := hss.sublist (List.drop_sublist i sp)
                rw [List.drop_eq_getElem_cons hlts] at this
                exact fun k hk => List.rel_of_pairwise_cons this hk
              have hcv := hval _ (List.getElem_mem hlt)
              have hct := hc _ (List.getElem_mem hlt)
              generalize cs[i] = c at hg hmg hcv hct
              generalize sp[i] = k at hg2 hmg hk1 hk2 hk3
              obtain ⟨ps, hps⟩ : ∃ ps, pts c.text = some ps := Option.isSome_iff_exists.1 hcv
              have hpl := pts_len _ _ ps (Nat.le_refl _) hps
              have hptsOf : ptsOf c.text = ps := by simp only [ptsOf, hps, Option.getD_some]
              simp only [hptsOf] at hmg
              have hR1 := Row.var hR (.cells [.int .i64 0, .int .i64 0, .str []] none) (.cells [.int .i64 c.frm, .int .i64 c.to, .str c.text] none)
              have hblk1 : ((ρ.new (.cells [.int .i64 0, .int .i64 0, .str []] none)).set ρ.next (.cells [.int .i64 c.frm, .int .i64 c.to, .str c.text] none)).get τ.next = some (.cells ((mk.map eAtom).flatMap AVal.cells) none) := by
                rw [Heap.get_set, if_neg (by omega), Heap.get_new, if_neg (by omega)]; exact hblk
              obtain ⟨q1, _, q3, q4⟩ := src_part hblk1 hmr hml3 hk1 hk2
              have hys : ∀ z ∈ ((mk.map eAtom).take k).drop at', z.cells.length = 5 := fun z hz => hmr z (List.mem_of_mem_take (List.mem_of_mem_drop hz))
              have hyc : ((((mk.map eAtom).take k).drop at').flatMap AVal.cells).all AVal.isCell = true := by
                rw [← List.map_take, ← List.map_drop]; exact atoms_cell _
              have hpl1 : (((mk.map eAtom).take k).drop at').length = k - at' := by simp [hml2]; omega
              obtain ⟨x1, ρ1, a1, a2, a3, a4, a5⟩ := row_app2 (bytes := 64) hR1 (Nat.zero_le _) q3 q4 hys hyc (by omega) (by omega) (by rw [hpl1, List.length_map]; omega)
              have hput := put_call ρ1 c.text rev' group rank ps hct hps
              have hsrc := src_fsl ρ1 5 ((newAtoms rev' group rank ps).map eAtom)
              obtain ⟨x2, ρ2', b1, b2, b3, b4, b5⟩ := row_app2 (bytes := 64) a2 (Nat.zero_le _) hsrc.1 hsrc.2 (atoms_row _) (atoms_cell _) (by omega) (by omega) (by rw [List.length_append, hpl1, List.length_map, List.length_map]; simp only [newAtoms, List.length_map]; omega)
              have hN1 : ρ.next + 1 ≤ ρ1.next := by have := a3.2.2.1; simpa using this
              have hN2 := b3.2.2.1
              have hx1 : ∀ K o n c, x1 = .slc (.new K) o n c → K ≠ τ.next := fun K o n c' e => by
                rcases a5 K o n c' e with h | ⟨o', n', c'', h⟩
                · simp at h; omega
                · exact hne _ _ _ _ h
              have hx2 : ∀ K o n c, x2 = .slc (.new K) o n c → K ≠ τ.next := fun K o n c' e => by
                rcases b5 K o n c' e with h | ⟨o', n', c'', h⟩
                · omega
                · exact hx1 _ _ _ _ h
              have hcv1 : ρ1.get ρ.next = some (.cells [.int .i64 c.frm, .int .i64 c.to, .str c.text] none) := by
                rw [a4 ρ.next (by simp) (fun K o n c' e => by have := (hR.low e).2; omega), Heap.get_set, if_pos rfl]
              have hblk2 : ρ2'.get τ.next = some (.cells ((mk.map eAtom).flatMap AVal.cells) none) := by
                rw [b4 τ.next (by omega) (fun K o n c e => (hx1 K o n c e).symm), a4 τ.next (by simp; omega) (fun K o n c e => (hne K o n c e).symm)]; exact hblk1
              simp only [eAtoms] at hput
              simp +decide only [↓evd, evw, evz, reduceCtorEq, ↓reduceIte, e4, e5, e6, e15, e20, e22, e91, e92, e93, hlt', hg, hlt2, hg2, q1, a1, hcv1]
              refine MSpec.of hput ?_
              simp +decide only [↓evd, evw, evz, reduceCtorEq, ↓reduceIte, e4, e5, e6, e15, e20, e22, e91, e92, e93, b1, hlt2, hg2, hw]
              refine ⟨m - 1, by omega, i + 1, k, acc ++ (mk.take k).drop at' ++ newAtoms rev' group rank ps, by omega, rfl, rfl, hblk2, ?_, hx2, by omega, ?_, hk2, hk3, ?_, b3.1.trans (a3.1.trans hW), b3.2.1.trans (a3.2.1.trans hF)⟩
              · rw [List.map_append, List.map_append, List.map_drop, List.map_take]; exact b2
              · rw [← hmg]; simp only [List.append_assoc]
              · simp only [List.length_append, List.length_drop, List.length_take, newAtoms, List.length_map]; omega
            · have hlt' : ¬ (i : Int) < (cs.length : Int) := by omega
              rw [List.drop_eq_nil_of_le (show sp.length ≤ i by omega), List.zip_nil_left, merged] at hmg
              obtain ⟨_, q2, q3, q4⟩ := src_part hblk hmr hml3 hat (Nat.le_refl _)
              have q2 := q2 rfl
              rw [List.take_of_length_le (by omega)] at q3 q4
              have hys : ∀ z ∈ (mk.map eAtom).drop at', z.cells.length = 5 := fun z hz => hmr z (List.mem_of_mem_drop hz)
              have hyc : (((mk.map eAtom).drop at').flatMap AVal.cells).all AVal.isCell = true := by
                rw [← List.map_drop]; exact atoms_cell _
              obtain ⟨x1, ρ1, a1, a2, a3, a4, a5⟩ := row_app2 (bytes := 64) hR (Nat.zero_le _) q3 q4 hys hyc (by omega) (by omega) (by simp [hml2]; omega)
              simp +decide only [↓evd, evw, evz, reduceCtorEq, ↓reduceIte, e4, e5, e6, e15, e20, e22, e91, e92, e93, hlt', q2, a1]
              rw [← List.map_drop, ← List.map_append, hmg] at a2
              obtain ⟨ρ3, s1, s2, s3, _⟩ := Row.sees2 a2
              exact ⟨ρ3, s1, s2.trans (a3.1.trans hW), s3.trans (a3.2.1.trans hF)⟩
          · refine ⟨0, 0, [], by omega, ?_⟩
            simp +decide only [↓evd, evw, evz, reduceCtorEq, ↓reduceIte, e4, e5, e6, e15, e16, e20]
            refine ⟨s2, hR0, fun K o n c e => ?_, by omega, Nat.zero_le _, fun _ _ => Nat.zero_le _, hW2, hF2⟩
            cases e; omega
      · refine ⟨0, zs, by omega, Nat.zero_le _, ?_⟩
        simp +decide only [↓evd, evw, evz, reduceCtorEq, ↓reduceIte, e0, e3, e4, e5, e6, e15, e16, e17]
        exact ⟨hb0', hb1', hA1, hBn, hW1, hF1⟩
  · refine ⟨0, by omega, ?_⟩
    simp +decide only [↓evd, evw, evz, reduceCtorEq, ↓reduceIte]
    simp only [falses_row, List.take_zero, List.not_mem_nil, decide_false]
end Go.Proofs.YtkjikdohnomajaaGreat.M
namespace Go.Proofs.YtkjikdohnomajaaGreat.M
open Go Go.Mini
def IsCP (p : List UInt8) : Prop := p ≠ [] ∧ (pt p).2 = p.length
theorem conts_app : ∀ (k v : Nat) (r t : List UInt8) (x : Nat), conts v k r = some x → conts v k (r ++ t) = some x
  | 0, v, r, t, x, h => h
  | k + 1, v, [], t, x, h => by simp [conts] at h
  | k + 1, v, b :: r, t, x, h => by
    simp only [List.cons_append, conts] at h ⊢
    split at h
    · rename_i hb; rw [if_pos hb]; exact conts_app k _ r t x h
    · cases h
theorem ptN_app {v n least : Nat} {r t : List UInt8} (h : (ptN v n least r).2 ≠ 0) : ptN v n least (r ++ t) = ptN v n least r := by
  unfold ptN at h ⊢
  split at h
  · rename_i x hx; rw [conts_app _ _ _ t _ hx]
  · simp at h
theorem pt_app {r t : List UInt8} (h : (pt r).2 ≠ 0) : pt (r ++ t) = pt r := by
  cases r with
  | nil => simp [pt] at h
  | cons a r =>
    simp only [List.cons_append]
    rw [pt] at h
    rw [pt, pt]
    split at h
    · rename_i h1; rw [if_pos h1, if_pos h1]
    · rename_i h1; rw [if_neg h1, if_neg h1]
      split at h
      · rename_i h2; rw [if_pos h2, if_pos h2, ptN_app h]
      · rename_i h2; rw [if_neg h2, if_neg h2]
        split at h
        · rename_i h3; rw [if_pos h3, if_pos h3, ptN_app h]
        · rename_i h3; rw [if_neg h3, if_neg h3]
          split at h
          · rename_i h4; rw [if_pos h4, if_pos h4, ptN_app h]
          · simp at h
theorem IsCP.ne0 {p : List UInt8} (h : IsCP p) : (pt p).2 ≠ 0 := by
  rw [h.2]; exact fun e => h.1 (List.eq_nil_of_length_eq_zero e)
theorem take_cp {r : List UInt8} (h : (pt r).2 ≠ 0) : IsCP (r.take (pt r).2) := by
  have key : pt (r.take (pt r).2) = pt r := by
    rcases pt_shapes h with ⟨a, t, rfl, h1, e⟩ | ⟨a, b, t, x, rfl, h1, h2, h3, h4, h5, e⟩ | ⟨a, b, c, t, x, rfl, h1, h2, h3, h4, h5, h6, e⟩ | ⟨a, b, c, d, t, x, rfl, h1, h2, h3, h4, h5, h6, h7, e⟩
    · rw [e]; simp only [List.take_succ_cons, List.take_zero]; rw [pt, if_pos h1]
    · rw [e]; simp only [List.take_succ_cons, List.take_zero]
      have e' := e
      rw [pt] at e' ⊢
      rw [if_neg (by omega), if_pos h1] at e' ⊢
      rw [← e']
      simp only [ptN, conts]
    · rw [e]; simp only [List.take_succ_cons, List.take_zero]
      have e' := e
      rw [pt] at e' ⊢
      rw [if_neg (by omega), if_neg (by omega), if_pos h1] at e' ⊢
      rw [← e']
      simp only [ptN, conts]
    · rw [e]; simp only [List.take_succ_cons, List.take_zero]
      have e' := e
      rw [pt] at e' ⊢
      rw [if_neg (by omega), if_neg (by omega), if_neg (by omega), if_pos h1] at e' ⊢
      rw [← e']
      simp only [ptN, conts]
  have hle := pt_le r
  refine ⟨?_, by rw [key, List.length_take]; omega⟩
  intro e
  rw [e] at key
  rw [← key] at h
  simp [pt] at h
theorem pts_cp : ∀ (n : Nat) (s : List UInt8) (ps : List (List UInt8)), s.length ≤ n → pts s = some ps → s = ps.flatten ∧ ∀ p ∈ ps, IsCP p
  | 0, s, ps, h, hp => by
    have : s = [] := List.eq_nil_of_length_eq_zero (by omega)
    subst this; cases hp; simp
  | n + 1, s, ps, h, hp => by
    cases s with
    | nil => cases hp; simp
    | cons a r =>
      rw [pts_step (by simp)] at hp
      split at hp
      · cases hp
      · rename_i h0
        rw [Option.map_eq_some_iff] at hp
        obtain ⟨q, hq, rfl⟩ := hp
        obtain ⟨g1, g2⟩ := pts_cp n _ q (by rw [List.length_drop]; simp only [List.length_cons] at *; omega) hq
        refine ⟨?_, fun p hp => ?_⟩
        · rw [List.flatten_cons, ← g1, List.take_append_drop]
        · rcases List.mem_cons.1 hp with rfl | hp
          · exact take_cp h0
          · exact g2 p hp
theorem pts_app {p t : List UInt8} (h : IsCP p) : pts (p ++ t) = (pts t).map (p :: ·) := by
  rw [pts_step (by intro e; exact h.1 (List.append_eq_nil_iff.1 e).1), pt_app h.ne0, if_neg h.ne0, h.2, List.drop_left, List.take_left]
theorem pts_flat : ∀ {ps : List (List UInt8)}, (∀ p ∈ ps, IsCP p) → pts ps.flatten = some ps
  | [], _ => rfl
  | p :: ps, h => by
    rw [List.flatten_cons, pts_app (h p (by simp)), pts_flat fun q hq => h q (List.mem_cons_of_mem _ hq)]; rfl
theorem pts_one {p : List UInt8} (h : IsCP p) : pts p = some [p] := by
  have := pts_app (t := []) h
  rw [List.append_nil] at this
  rw [this]; rfl
theorem cp_len {p : List UInt8} (h : IsCP p) : 1 ≤ p.length ∧ p.length ≤ 4 := by
  have h0 := h.ne0
  have h2 := h.2
  rcases pt_shapes h0 with ⟨a, t, rfl, h1, e⟩ | ⟨a, b, t, x, rfl, _, _, _, _, _, e⟩ | ⟨a, b, c, t, x, rfl, _, _, _, _, _, _, e⟩ | ⟨a, b, c, d, t, x, rfl, _, _, _, _, _, _, _, e⟩ <;> (rw [e] at h2; simp only [List.length_cons] at h2 ⊢; omega)
theorem cp_bytes {p : List UInt8} (h : IsCP p) : ∀ (i : Nat) (b : UInt8), p[i]? = some b → (b.toNat / 64 = 2 ↔ i ≠ 0) := by
  have h0 := h.ne0
  have h2 := h.2
  rcases pt_shapes h0 with ⟨a, t, rfl, h1, e⟩ | ⟨a, b, t, x, rfl, q1, q2, _, _, _, e⟩ | ⟨a, b, c, t, x, rfl, q1, q2, q3, _, _, _, e⟩ | ⟨a, b, c, d, t, x, rfl, q1, q2, q3, q4, _, _, _, e⟩
  all_goals
    rw [e] at h2
    simp at h2
    subst h2
    intro i y hy
  · rcases i with _ | i
    · simp at hy; subst hy; simp; omega
    · simp at hy
  · rcases i with _ | _ | i
    · simp at hy; subst hy; simp; omega
    · simp at hy; subst hy; simp; omega
    · simp at hy
  · rcases i with _ | _ | _ | i
    · simp at hy; subst hy; simp; omega
    · simp at hy; subst hy; simp; omega
    · simp at hy; subst hy; simp; omega
    · simp at hy
  · rcases i with _ | _ | _ | _ | i
    · simp at hy; subst hy; simp; omega
    · simp at hy; subst hy; simp; omega
    · simp at hy; subst hy; simp; omega
    · simp at hy; subst hy; simp; omega
    · simp at hy
theorem valid_iff {s : List UInt8} : valid s = true ↔ ∃ ps : List (List UInt8), s = ps.flatten ∧ ∀ p ∈ ps, IsCP p := by
  constructor
  · intro h
    obtain ⟨ps, hp⟩ := Option.isSome_iff_exists.1 h
    exact ⟨ps, pts_cp _ s ps (Nat.le_refl _) hp⟩
  · rintro ⟨ps, rfl, h⟩
    simp only [valid, pts_flat h, Option.isSome_some]
theorem valid_flat {ps : List (List UInt8)} (h : ∀ p ∈ ps, IsCP p) : valid ps.flatten = true := valid_iff.2 ⟨ps, rfl, h⟩
theorem edge_flat {ps : List (List UInt8)} (h : ∀ p ∈ ps, IsCP p) (i : Int) : isEdge ps.flatten i = true ↔ ∃ j : Nat, j ≤ ps.length ∧ i = ((ps.take j).flatten.length : Nat) := by
  have key : ∀ (ps : List (List UInt8)), (∀ p ∈ ps, IsCP p) → ∀ n : Nat, n ≤ ps.flatten.length → ((n = ps.flatten.length ∨ ∃ b, ps.flatten[n]? = some b ∧ ¬ b.toNat / 64 = 2) ↔ ∃ j : Nat, j ≤ ps.length ∧ n = (ps.take j).flatten.length) := by
    intro ps
    induction ps with
    | nil => intro _ n hn; simp at hn; subst hn; simp
    | cons p ps ih =>
      intro h n hn
      have hp := h p (by simp)
      have hl := cp_len hp
      rw [List.flatten_cons, List.length_append] at hn
      rcases Nat.lt_or_ge n p.length with hlt | hge
      · constructor
        · rintro (e | ⟨b, hb, hb2⟩)
          · rw [List.flatten_cons, List.length_append] at e; omega
          · rw [List.flatten_cons, List.getElem?_append_left hlt] at hb
            have := cp_bytes hp n b hb
            have h0 : n = 0 := by
              rcases Nat.eq_zero_or_pos n with h | h
              · exact h
              · exact absurd (this.2 (by omega)) hb2
            exact ⟨0, Nat.zero_le _, by simp [h0]⟩
        · rintro ⟨j, hj, e⟩
          cases j with
          | zero =>
            simp at e; subst e
            have hg : p[0]? = some p[0] := List.getElem?_eq_getElem hlt
            refine .inr ⟨p[0], by rw [List.flatten_cons, List.getElem?_append_left hlt]; exact hg, fun hb => ?_⟩
            exact (cp_bytes hp 0 _ hg).1 hb rfl
          | succ j => rw [List.take_succ_cons, List.flatten_cons, List.length_append] at e; omega
      · obtain ⟨m, rfl⟩ : ∃ m, n = p.length + m := ⟨n - p.length, by omega⟩
        have hi := ih (fun q hq => h q (List.mem_cons_of_mem _ hq)) m (by omega)
        have e1 : (p.length + m = (p :: ps).flatten.length ∨ ∃ b, (p :: ps).flatten[p.length + m]? = some b ∧ ¬ b.toNat / 64 = 2) ↔ (m = ps.flatten.length ∨ ∃ b, ps.flatten[m]? = some b ∧ ¬ b.toNat / 64 = 2) := by
          rw [List.flatten_cons, List.length_append, List.getElem?_append_right (by omega), Nat.add_sub_cancel_left]
          constructor
          · rintro (h | h)
            · exact .inl (by omega)
            · exact .inr h
          · rintro (h | h)
            · exact .inl (by omega)
            · exact .inr h
        rw [e1, hi]
        constructor
        · rintro ⟨j, hj, e⟩
          exact ⟨j + 1, by simp only [List.length_cons]; omega, by rw [List.take_succ_cons, List.flatten_cons, List.length_append, e]⟩
        · rintro ⟨j, hj, e⟩
          cases j with
          | zero => rw [List.take_zero] at e; simp only [List.flatten_nil, List.length_nil] at e; omega
          | succ j =>
            rw [List.take_succ_cons, List.flatten_cons, List.length_append] at e
            exact ⟨j, by simp only [List.length_cons] at hj; omega, by omega⟩
  have hv := valid_flat h
  constructor
  · intro he
    simp only [isEdge, hv, Bool.and_true, Bool.and_eq_true, decide_eq_true_eq, Bool.or_eq_true] at he
    obtain ⟨⟨h1, h2⟩, h3⟩ := he
    have : ∃ j : Nat, j ≤ ps.length ∧ i.toNat = (ps.take j).flatten.length := by
      refine (key ps h i.toNat (by omega)).1 ?_
      rcases h3 with h3 | h3
      · exact .inl (by omega)
      · right
        split at h3
        · rename_i b hb; exact ⟨b, hb, by simpa using h3⟩
        · cases h3
    obtain ⟨j, hj, e⟩ := this
    exact ⟨j, hj, by omega⟩
  · rintro ⟨j, hj, rfl⟩
    have hle : (ps.take j).flatten.length ≤ ps.flatten.length := by
      have := congrArg List.length (show (ps.take j).flatten ++ (ps.drop j).flatten = ps.flatten by rw [← List.flatten_append, List.take_append_drop])
      rw [List.length_append] at this; omega
    simp only [isEdge, hv, Bool.and_true, Bool.and_eq_true, decide_eq_true_eq, Bool.or_eq_true]
    refine ⟨⟨by omega, by omega⟩, ?_⟩
    rcases (key ps h (ps.take j).flatten.length hle).2 ⟨j, hj, rfl⟩ with e | ⟨b, hb, hb2⟩
    · exact .inl (by omega)
    · right
      rw [Int.toNat_natCast, hb]
      simpa using hb2
structure Eng where
  l : List Atom
  R : Revs
def Eng.new : Eng := ⟨[], Revs.new⟩
structure Eng.Ok (E : Eng) : Prop where
  len : E.l.length ≤ 4000
  txt : ∀ a ∈ E.l, IsCP a.text
  cuts : ∀ a ∈ E.l, a.cuts.length ≤ E.R.head
theorem Eng.new_ok : Eng.new.Ok := ⟨by simp [Eng.new], by simp [Eng.new], by simp [Eng.new]⟩
def Eng.text (E : Eng) (rev : Int) : List UInt8 := atomsText rev (E.R.undone rev) E.l
def editE (E : Eng) (base group rank : Int) (cs : List Chg) : Eng × Int × Int :=
  if E.R.live base = false then (E, 0, 190) else
  if check (E.text base) cs ≠ 0 then (E, 0, check (E.text base) cs) else
  if (addR E.R group).2.2 ≠ 0 then (E, 0, (addR E.R group).2.2) else
  if rank < 0 ∨ 1000000 < rank then (E, 0, 10) else
  if 4000 < (upon E.l base (E.R.undone base) cs (addR E.R group).2.1 group rank).length then (E, 0, 70) else
  if 20000 < (Eng.text ⟨upon E.l base (E.R.undone base) cs (addR E.R group).2.1 group rank, (addR E.R group).1⟩ (addR E.R group).1.head).length then (E, 0, 13) else
  (⟨upon E.l base (E.R.undone base) cs (addR E.R group).2.1 group rank, (addR E.R group).1⟩, (addR E.R group).2.1, 0)
def toggleE (E : Eng) (g : Int) : Eng × Int × Int :=
  if (toggleR E.R g).2.2 ≠ 0 then (E, 0, (toggleR E.R g).2.2) else
  if 20000 < (Eng.text ⟨E.l, (toggleR E.R g).1⟩ (toggleR E.R g).1.head).length then (E, 0, 13) else
  (⟨E.l, (toggleR E.R g).1⟩, (toggleR E.R g).2.1, 0)
theorem fits_of {l : List Atom} {n : Nat} (h1 : l.length ≤ 4000) (h2 : ∀ a ∈ l, IsCP a.text) (h3 : ∀ a ∈ l, a.cuts.length ≤ n) (hn : n ≤ 1000000) : Fits l := by
  refine ⟨by omega, fun a ha => by have := h3 a ha; omega, ?_⟩
  have : (l.map fun a => a.text.length).sum ≤ l.length * 4 := by
    clear h1 h3
    induction l with
    | nil => simp
    | cons a l ih =>
      have h4 := (cp_len (h2 a (by simp))).2
      have := ih fun b hb => h2 b (List.mem_cons_of_mem _ hb)
      simp only [List.map_cons, List.sum_cons, List.length_cons]; omega
  unfold maxRoom; omega
theorem atomsText_le {l : List Atom} (rev : Int) (u : List Int) (h2 : ∀ a ∈ l, IsCP a.text) : (atomsText rev u l).length ≤ l.length * 4 := by
  induction l with
  | nil => simp [atomsText]
  | cons a l ih =>
    have h4 := (cp_len (h2 a (by simp))).2
    have := ih fun b hb => h2 b (List.mem_cons_of_mem _ hb)
    simp only [atomsText, List.length_append, List.length_cons]
    split <;> (try simp only [List.length_nil]) <;> omega
theorem mem_marked {ct : List Int} {c : Cut} {x : Atom} : ∀ {l : List Atom} {i : Nat}, x ∈ marked ct c l i → ∃ a ∈ l, x = a ∨ x = { a with cuts := a.cuts ++ [c] }
  | [], i, h => by simp [marked] at h
  | a :: l, i, h => by
    simp only [marked, List.mem_cons] at h
    rcases h with h | h
    · refine ⟨a, by simp, ?_⟩
      split at h
      · exact .inr h
      · exact .inl h
    · obtain ⟨b, hb, h⟩ := mem_marked h
      exact ⟨b, List.mem_cons_of_mem _ hb, h⟩
theorem mem_merged {new : List UInt8 → List Atom} {mk : List Atom} {x : Atom} : ∀ {r : List (Nat × List UInt8)} {at' : Nat}, x ∈ merged new mk r at' → x ∈ mk ∨ ∃ kt ∈ r, x ∈ new kt.2
  | [], at', h => .inl (List.mem_of_mem_drop (by simpa [merged] using h))
  | (k, t) :: r, at', h => by
    rw [merged_cons, List.mem_append, List.mem_append] at h
    rcases h with (h | h) | h
    · exact .inl (List.mem_of_mem_take (List.mem_of_mem_drop h))
    · exact .inr ⟨(k, t), by simp, h⟩
    · rcases mem_merged h with h | ⟨kt, hk, h⟩
      · exact .inl h
      · exact .inr ⟨kt, List.mem_cons_of_mem _ hk, h⟩
theorem mem_upon {l : List Atom} {rev : Int} {u : List Int} {cs : List Chg} {rev' group rank : Int} {x : Atom} (h : x ∈ upon l rev u cs rev' group rank) :
    (∃ a ∈ l, x = a ∨ x = { a with cuts := a.cuts ++ [⟨rev', group⟩] }) ∨ (∃ b, IsCP b ∧ x = ⟨b, rev', group, rank, []⟩) := by
  unfold upon at h
  split at h
  · rename_i h0
    rcases mem_merged h with h | ⟨kt, hk, h⟩
    · exact .inl (mem_marked h)
    · right
      simp only [newAtoms, List.mem_map] at h
      obtain ⟨b, hb, rfl⟩ := h
      refine ⟨b, ?_, rfl⟩
      cases hp : pts kt.2 with
      | none => rw [ptsOf, hp] at hb; cases hb
      | some ps => rw [ptsOf, hp] at hb; exact (pts_cp _ _ ps (Nat.le_refl _) hp).2 b hb
  · exact .inl ⟨x, h, .inl rfl⟩
theorem addR_ok {R : Revs} {g : Int} (h : (addR R g).2.2 = 0) (ho : R.Ok) : g ∉ R.gone ∧ 0 ≤ g ∧ g < 60 ∧ R.head < 200 ∧ addR R g = ({ R.push R.top with grp := insS g R.grp }, (R.head : Int) + 1, 0) ∧ (addR R g).1.head = R.head + 1 := by
  have hl := List.length_pos_iff.2 ho.one
  by_cases h1 : g ∈ R.gone ∨ g < 0 ∨ 60 ≤ g
  · rw [add_bad h1] at h; cases h
  · by_cases h2 : 200 ≤ R.head
    · rw [add_many (fun hg => h1 (.inl hg)) (by omega) (by omega) h2] at h; cases h
    · have e := add_good (R := R) (g := g) (fun hg => h1 (.inl hg)) (by omega) (by omega) (by omega)
      refine ⟨fun hg => h1 (.inl hg), by omega, by omega, by omega, e, ?_⟩
      rw [e]; simp only [Revs.head, Revs.push, List.length_append, List.length_cons, List.length_nil]; omega
theorem toggleR_ok {R : Revs} {g : Int} (h : (toggleR R g).2.2 = 0) (ho : R.Ok) : g ∈ R.grp ∧ R.head < 200 ∧ toggleR R g = (R.push (flip g R.top), (R.head : Int) + 1, 0) ∧ (toggleR R g).1.head = R.head + 1 := by
  have hl := List.length_pos_iff.2 ho.one
  by_cases h1 : g ∈ R.grp
  · by_cases h2 : 200 ≤ R.head
    · simp only [toggleR, if_neg (show ¬ g ∉ R.grp from fun h => h h1), if_pos h2] at h; cases h
    · have e := toggle_of h1 (show R.head < 200 by omega)
      refine ⟨h1, by omega, e, ?_⟩
      rw [e]; simp only [Revs.head, Revs.push, List.length_append, List.length_cons, List.length_nil]; omega
  · rw [toggle_bad h1] at h; cases h
theorem head_le {R : Revs} (h : R.Ok) : R.head ≤ 200 := by have := h.few; simp only [Revs.head]; omega
theorem Eng.Ok.fits {E : Eng} (h : E.Ok) (hR : E.R.Ok) : Fits E.l := fits_of h.len h.txt h.cuts (by have := head_le hR; omega)
theorem upon_facts {E : Eng} (h : E.Ok) {base group rank now : Int} {cs : List Chg} {u : List Int} : (∀ a ∈ upon E.l base u cs now group rank, IsCP a.text) ∧ ∀ a ∈ upon E.l base u cs now group rank, a.cuts.length ≤ E.R.head + 1 := by
  constructor <;> intro a ha <;> rcases mem_upon ha with ⟨b, hb, rfl | rfl⟩ | ⟨b, hb, rfl⟩
  · exact h.txt a hb
  · exact h.txt b hb
  · exact hb
  · have := h.cuts a hb; omega
  · have := h.cuts b hb; simp only [List.length_append, List.length_cons, List.length_nil]; omega
  · simp
theorem editE_ok {E : Eng} (h : E.Ok) (hR : E.R.Ok) (base group rank : Int) (cs : List Chg) : (editE E base group rank cs).1.Ok := by
  unfold editE
  split
  · exact h
  split
  · exact h
  split
  · exact h
  rename_i h3
  split
  · exact h
  split
  · exact h
  rename_i h5
  split
  · exact h
  have h3' : (addR E.R group).2.2 = 0 := by simpa using h3
  obtain ⟨_, _, _, _, e1, e2⟩ := addR_ok h3' hR
  obtain ⟨f1, f2⟩ := upon_facts h (base := base) (group := group) (rank := rank) (now := (addR E.R group).2.1) (cs := cs) (u := E.R.undone base)
  exact ⟨by simp only; omega, f1, fun a ha => by simp only [e2]; exact f2 a ha⟩
theorem toggleE_ok {E : Eng} (h : E.Ok) (hR : E.R.Ok) (g : Int) : (toggleE E g).1.Ok := by
  unfold toggleE
  split
  · exact h
  split
  · exact h
  rename_i h3 _
  have h3' : (toggleR E.R g).2.2 = 0 := by simpa using h3
  obtain ⟨_, _, e1, e2⟩ := toggleR_ok h3' hR
  exact ⟨h.len, h.txt, fun a ha => by have := h.cuts a ha; simp only [e2]; omega⟩
end Go.Proofs.YtkjikdohnomajaaGreat.M
namespace Go.Proofs.YtkjikdohnomajaaGreat.M
open Go Go.Mini
attribute [local congr] go1_congr goM_congr goG_congr goV_congr drawwp_congr Xwp_congr
def AtomLst (x : AVal) (l : List Atom) : Prop := x = eAtoms l ∨ (x = .nils ∧ l = [])
theorem AtomLst.sees {x : AVal} {l : List Atom} (h : AtomLst x l) (σ : Heap) : Sees σ x σ (eAtoms l) := by
  rcases h with rfl | ⟨rfl, rfl⟩
  · exact Sees.refl _ _
  · exact Sees.nils σ 5
theorem AtomLst.cells {x : AVal} {l : List Atom} (h : AtomLst x l) : x.cells = [x] ∧ x.isCell = true ∧ x.isRaw = false := by
  rcases h with rfl | ⟨rfl, rfl⟩ <;> exact ⟨rfl, rfl, rfl⟩
theorem SeesL.same (σ : Heap) : ∀ l : List AVal, SeesL σ l σ l
  | [] => .nil _
  | a :: l => .cons (Sees.refl _ _) (SeesL.same σ l)
theorem AtomLst.call {x : AVal} {l : List Atom} (h : AtomLst x l) {f : FuncId} {args : List AVal} {σ τ : Heap} {v : AVal} (hc : ACall Tryz.prog f (eAtoms l :: args) σ v τ) : ACall Tryz.prog f (x :: args) σ v τ := by
  rcases h with rfl | ⟨rfl, rfl⟩
  · exact hc
  · intro φ w vs hvs hr o a next Q hn
    obtain ⟨φ1, h1, h2, h3⟩ := SeesL.cons (Sees.nils σ 5) (SeesL.same σ args) φ w vs hvs hr
    exact hc φ1 w vs h2 h3 o a next Q fun φ' v' w' g1 g2 g3 => hn φ' v' w' (Phi.le_trans h1 g1) g2 g3
structure EngAt (σ : Heap) (k : Nat) (E : Eng) (x : AVal) (kr : Nat) (fpr : List Nat) : Prop where
  blk : σ.get k = some (.cells [x, .ptr (.new kr) 0] none)
  lst : AtomLst x E.l
  revs : IsRevs σ kr E.R fpr
  out : k ∉ fpr
  low : k < σ.next
  ok : E.Ok
def IsEng (σ : Heap) (k : Nat) (E : Eng) (fp : List Nat) : Prop := ∃ x kr fpr, EngAt σ k E x kr fpr ∧ fp = k :: fpr
theorem EngAt.keep {σ τ : Heap} {k : Nat} {E : Eng} {x : AVal} {kr : Nat} {fpr fp' : List Nat} (h : EngAt σ k E x kr fpr) (hk : Keep fp' σ τ) (hd : ∀ y ∈ k :: fpr, y ∉ fp') : EngAt τ k E x kr fpr where
  blk := by rw [hk.2.2.2 k h.low (hd k (by simp))]; exact h.blk
  lst := h.lst
  revs := h.revs.keep hk fun y hy => hd y (List.mem_cons_of_mem _ hy)
  out := h.out
  low := Nat.lt_of_lt_of_le h.low hk.2.2.1
  ok := h.ok
theorem IsEng.keep {σ τ : Heap} {k : Nat} {E : Eng} {fp fp' : List Nat} (h : IsEng σ k E fp) (hk : Keep fp' σ τ) (hd : ∀ y ∈ fp, y ∉ fp') : IsEng τ k E fp := by
  obtain ⟨x, kr, fpr, h, rfl⟩ := h
  exact ⟨x, kr, fpr, h.keep hk hd, rfl⟩
theorem IsEng.low {σ : Heap} {k : Nat} {E : Eng} {fp : List Nat} (h : IsEng σ k E fp) : ∀ x ∈ fp, x < σ.next := by
  obtain ⟨x, kr, fpr, h, rfl⟩ := h
  intro y hy
  rcases List.mem_cons.1 hy with rfl | hy
  · exact h.low
  · exact h.revs.low y hy
theorem IsEng.ok {σ : Heap} {k : Nat} {E : Eng} {fp : List Nat} (h : IsEng σ k E fp) : E.Ok ∧ E.R.Ok := by
  obtain ⟨x, kr, fpr, h, rfl⟩ := h
  exact ⟨h.ok, h.revs.ok⟩
theorem undone_rise {R : Revs} (h : R.Ok) (n : Int) : Rise (R.undone n) := by
  unfold Revs.undone
  split
  · unfold Revs.at
    cases he : R.und[(n - R.floor).toNat]? with
    | none => exact Rise.nil
    | some s => exact h.rise s (List.mem_of_getElem? he)
  · exact Rise.nil
theorem undone_few {R : Revs} (h : R.Ok) (n : Int) : (R.undone n).length ≤ 1000000 := by have := rise_len (undone_rise h n); omega
section
variable {σ : Heap} {k : Nat} {E : Eng} {fp : List Nat} {x : AVal} {kr : Nat} {fpr : List Nat}
theorem EngAt.head (h : EngAt σ k E x kr fpr) : ACall Tryz.prog n_engine_Engine_Head [.ptr (.new k) 0] σ (.int .i64 (E.R.head : Nat)) σ := by
  refine exact_call (spec_of_awp mixed c_engine_Engine_Head (tl rfl) ?_)
  unfold f_engine_Engine_Head
  have hk := h.blk
  simp +decide only [↓evd, evw, evz, reduceCtorEq, ↓reduceIte, hk]
  refine MSpec.of (head_at h.revs) ?_
  simp +decide only [↓evd, evw, evz, reduceCtorEq, ↓reduceIte]
theorem EngAt.live (h : EngAt σ k E x kr fpr) (n : Int) : ACall Tryz.prog n_engine_Engine_Live [.ptr (.new k) 0, .int .i64 n] σ (.bool (E.R.live n)) σ := by
  refine exact_call (spec_of_awp mixed c_engine_Engine_Live (tl rfl) ?_)
  unfold f_engine_Engine_Live
  have hk := h.blk
  simp +decide only [↓evd, evw, evz, reduceCtorEq, ↓reduceIte, hk]
  refine MSpec.of (live_at h.revs n) ?_
  simp +decide only [↓evd, evw, evz, reduceCtorEq, ↓reduceIte]
theorem EngAt.undoneAt (h : EngAt σ k E x kr fpr) (n : Int) : ACall Tryz.prog n_engine_Engine_UndoneAt [.ptr (.new k) 0, .int .i64 n] σ (ints (E.R.undone n)) σ := by
  refine exact_call (spec_of_awp mixed c_engine_Engine_UndoneAt (tl rfl) ?_)
  unfold f_engine_Engine_UndoneAt
  have hk := h.blk
  simp +decide only [↓evd, evw, evz, reduceCtorEq, ↓reduceIte, hk]
  refine MSpec.of (undone_at h.revs n) ?_
  simp +decide only [↓evd, evw, evz, reduceCtorEq, ↓reduceIte]
theorem EngAt.undone (h : EngAt σ k E x kr fpr) : ACall Tryz.prog n_engine_Engine_Undone [.ptr (.new k) 0] σ (ints (E.R.undone (E.R.head : Nat))) σ := by
  refine exact_call (spec_of_awp mixed c_engine_Engine_Undone (tl rfl) ?_)
  unfold f_engine_Engine_Undone
  have hk := h.blk
  simp +decide only [↓evd, evw, evz, reduceCtorEq, ↓reduceIte]
  with_reducible refine draw_of_grow (fun _ => True) (ms := [false, false, false, false, false, false, false, false]) (by kernel_rfl) ?_
  simp +decide only [↓evd, evw, evz, reduceCtorEq, ↓reduceIte, hk]
  refine MSpec.of h.head ⟨.inr Keeps.rfl, ?_⟩
  simp +decide only [↓evd, evw, evz, reduceCtorEq, ↓reduceIte, hk]
  refine MSpec.of (undone_at h.revs (E.R.head : Nat)) ⟨.inr Keeps.rfl, ?_⟩
  simp +decide only [↓evd, evw, evz, reduceCtorEq, ↓reduceIte]
theorem EngAt.groups (h : EngAt σ k E x kr fpr) : ACall Tryz.prog n_engine_Engine_Groups [.ptr (.new k) 0] σ (ints E.R.grp) σ := by
  refine exact_call (spec_of_awp mixed c_engine_Engine_Groups (tl rfl) ?_)
  unfold f_engine_Engine_Groups
  have hk := h.blk
  simp +decide only [↓evd, evw, evz, reduceCtorEq, ↓reduceIte, hk]
  refine MSpec.of (groups_at h.revs) ?_
  simp +decide only [↓evd, evw, evz, reduceCtorEq, ↓reduceIte]
theorem EngAt.atoms (h : EngAt σ k E x kr fpr) : ACall Tryz.prog n_engine_Engine_Atoms [.ptr (.new k) 0] σ (eAtoms E.l) σ := by
  refine exact_call (spec_of_awp mixed c_engine_Engine_Atoms (tl rfl) ?_)
  unfold f_engine_Engine_Atoms
  have hk := h.blk
  have hf := h.ok.fits h.revs.ok
  have hc := h.lst.call (copy_call σ E.l hf.1 hf.2.1)
  have hr := h.lst.cells.2.2
  simp only [eAtoms] at hc
  simp +decide only [↓evd, evw, evz, reduceCtorEq, ↓reduceIte, hk, hr]
  refine MSpec.of hc ?_
  simp +decide only [↓evd, evw, evz, reduceCtorEq, ↓reduceIte]
def textV (E : Eng) (n : Int) : AVal := if E.R.live n then .tup [.str (E.text n), .int .i64 0] else .tup [.str [], .int .i64 190]
theorem EngAt.text (h : EngAt σ k E x kr fpr) (n : Int) : ACall Tryz.prog n_engine_Engine_Text [.ptr (.new k) 0, .int .i64 n] σ (textV E n) σ := by
  refine exact_call (spec_of_awp mixed c_engine_Engine_Text (tl rfl) ?_)
  unfold f_engine_Engine_Text
  have hk := h.blk
  have hf := h.ok.fits h.revs.ok
  have hc := h.lst.call (text_call σ E.l n (E.R.undone n) (undone_few h.revs.ok n) hf)
  have hr := h.lst.cells.2.2
  have hu := h.undoneAt n
  simp only [ints] at hc hu
  simp +decide only [↓evd, evw, evz, reduceCtorEq, ↓reduceIte]
  refine MSpec.of (h.live n) ?_
  cases hl : E.R.live n with
  | false =>
    simp +decide only [↓evd, evw, evz, reduceCtorEq, ↓reduceIte, textV, hl]
  | true =>
    simp +decide only [↓evd, evw, evz, reduceCtorEq, ↓reduceIte]
    with_reducible refine draw_of_grow (fun _ => True) (ms := [false, false, false, false, false, false, false, false, false, false, false]) (by kernel_rfl) ?_
    simp +decide only [↓evd, evw, evz, reduceCtorEq, ↓reduceIte, hk, hr]
    refine MSpec.of hu ⟨.inr Keeps.rfl, ?_⟩
    simp +decide only [↓evd, evw, evz, reduceCtorEq, ↓reduceIte]
    refine MSpec.of hc ⟨.inr Keeps.rfl, ?_⟩
    simp +decide only [↓evd, evw, evz, reduceCtorEq, ↓reduceIte, textV, hl, Eng.text]
theorem Eng.live_head {E : Eng} (h : E.R.Ok) : E.R.live (E.R.head : Nat) = true := h.top.2.2
theorem EngAt.fitsC (h : EngAt σ k E x kr fpr) : ACall Tryz.prog n_engine_Engine_fits [.ptr (.new k) 0] σ (.bool (decide (((E.text (E.R.head : Nat)).length : Int) ≤ 20000))) σ := by
  refine exact_call (spec_of_awp mixed c_engine_Engine_fits (tl rfl) ?_)
  unfold f_engine_Engine_fits
  have hl := Eng.live_head h.revs.ok
  have ht := h.text (E.R.head : Nat)
  rw [textV, if_pos hl] at ht
  simp +decide only [↓evd, evw, evz, reduceCtorEq, ↓reduceIte]
  refine MSpec.of h.head ?_
  simp +decide only [↓evd, evw, evz, reduceCtorEq, ↓reduceIte]
  refine MSpec.of ht ?_
  simp +decide only [↓evd, evw, evz, reduceCtorEq, ↓reduceIte]
end
theorem enew_at (σ : Heap) (hd : σ.F0.dr = false) : MSpec Tryz.prog n_engine_New [] σ fun v τ => ∃ k fp, v = .ptr (.new k) 0 ∧ IsEng τ k Eng.new fp ∧ (∀ x ∈ fp, σ.next ≤ x) ∧ Keep [] σ τ := by
  refine spec_of_awp mixed c_engine_New (tl rfl) ?_
  unfold f_engine_New
  simp +decide only [↓evd, evw, evz, reduceCtorEq, ↓reduceIte]
  refine (new_at σ hd).mono ?_
  rintro v τ ⟨rfl, ⟨fp, hR, hf⟩, hk⟩
  simp +decide only [↓evd, evw, evz, reduceCtorEq, ↓reduceIte]
  have hkn : Keep [] τ (τ.new (.cells [.nils, .ptr (.new (σ.next + 4)) 0] none)) := (Keep.refl [] τ).new _
  refine ⟨_, _, rfl, ⟨.nils, σ.next + 4, fp, ⟨by rw [Heap.get_new, if_pos rfl], .inr ⟨rfl, rfl⟩, hR.keep hkn (fun x _ => by simp), fun hm => by have := hR.low _ hm; omega, by simp, Eng.new_ok⟩, rfl⟩, ?_, hk.trans hkn (fun x hx => nomatch hx)⟩
  intro y hy
  rcases List.mem_cons.1 hy with rfl | hy
  · exact hk.2.2.1
  · exact hf y hy
theorem ecopy_at {σ : Heap} {k : Nat} {E : Eng} {fp : List Nat} (h : IsEng σ k E fp) : MSpec Tryz.prog n_engine_Engine_Copy [.ptr (.new k) 0] σ fun v τ => ∃ k' kr' fpr', v = .ptr (.new k') 0 ∧ EngAt τ k' E (eAtoms E.l) kr' fpr' ∧ (∀ x ∈ k' :: fpr', σ.next ≤ x) ∧ Keep [] σ τ := by
  obtain ⟨x, kr, fpr, h, rfl⟩ := h
  refine spec_of_awp mixed c_engine_Engine_Copy (tl rfl) ?_
  unfold f_engine_Engine_Copy
  have hk := h.blk
  have hkl := h.low
  have hf := h.ok.fits h.revs.ok
  have hc := h.lst.call (copy_call σ E.l hf.1 hf.2.1)
  have hr := h.lst.cells.2.2
  simp only [eAtoms] at hc
  simp +decide only [↓evd, evw, evz, reduceCtorEq, ↓reduceIte]
  with_reducible refine draw_of_grow (fun q => q < σ.next) (ms := [false, false, false, false, false, false, false, false, false, false, false, false, false]) (by kernel_rfl) ?_
  simp +decide only [↓evd, evw, evz, reduceCtorEq, ↓reduceIte, hk, hkl, hr]
  refine MSpec.of hc ⟨.inr Keeps.rfl, ?_⟩
  simp +decide only [↓evd, evw, evz, reduceCtorEq, ↓reduceIte, hk, hkl, hr]
  refine (copy_at h.revs).mono ?_
  rintro v τ ⟨rfl, ⟨fpr', hR, hf'⟩, hkk⟩
  refine ⟨.inr ⟨hkk.1, fun q hq => hkk.2.2.2 q hq (by simp)⟩, ?_⟩
  simp +decide only [↓evd, evw, evz, reduceCtorEq, ↓reduceIte]
  have hn := hkk.2.2.1
  refine ⟨.inr (keeps_new (fun q hq => by omega) _), ?_⟩
  simp +decide only [↓evd, evw, evz, reduceCtorEq, ↓reduceIte]
  have hkn : Keep [] τ (τ.new (.cells [eAtoms E.l, .ptr (.new (σ.next + 2)) 0] none)) := (Keep.refl [] τ).new _
  refine ⟨_, _, fpr', rfl, ⟨by rw [Heap.get_new, if_pos rfl], .inl rfl, hR.keep hkn (fun x _ => by simp), fun hm => by have := hR.low _ hm; omega, by simp, h.ok⟩, ?_, hkk.trans hkn (fun x hx => nomatch hx)⟩
  intro y hy
  rcases List.mem_cons.1 hy with rfl | hy
  · exact hn
  · exact hf' y hy
section
variable {σ : Heap} {k : Nat} {E : Eng} {fp : List Nat}
theorem IsEng.took {τ : Heap} {kr' : Nat} {E' : Eng} {x : AVal} {fpr' : List Nat} (hk : k < τ.next) (hlow : ∀ y ∈ fpr', y < τ.next) (hx : AtomLst x E'.l) (hR : IsRevs τ kr' E'.R fpr') (hkf : k ∉ fpr') (hok : E'.Ok) :
    IsEng (τ.set k (.cells [x, .ptr (.new kr') 0] none)) k E' (k :: fpr') := by
  have hkn : Keep [k] τ (τ.set k (.cells [x, .ptr (.new kr') 0] none)) := (Keep.refl _ _).set (.inl (by simp)) _
  exact ⟨x, kr', fpr', ⟨by rw [Heap.get_set, if_pos rfl], hx, hR.keep hkn (fun y hy hm => by simp at hm; subst hm; exact hkf hy), hkf, by simpa using hk, hok⟩, rfl⟩
set_option maxHeartbeats 2000000 in
theorem etoggle_at {E' : Eng} {n c : Int} (h : IsEng σ k E fp) {g : Int} (e : toggleE E g = (E', n, c)) : MSpec Tryz.prog n_engine_Engine_Toggle [.ptr (.new k) 0, .int .i64 g] σ fun v τ => v = .tup [.int .i64 n, .int .i64 c] ∧ ∃ fp', IsEng τ k E' fp' ∧ Keep fp σ τ ∧ Fresh fp σ fp' := by
  refine spec_of_awp mixed c_engine_Engine_Toggle (tl rfl) ?_
  unfold f_engine_Engine_Toggle
  have hlow := h.low
  have hok := h.ok
  obtain ⟨x0, kr0, fpr0, h0, rfl⟩ := id h
  simp +decide only [↓evd, evw, evz, reduceCtorEq, ↓reduceIte]
  refine (ecopy_at h).mono ?_
  rintro v τ ⟨k', kr', fpr', rfl, hC, hf', hK⟩
  have hb := hC.blk
  have hE := h.keep hK (fun y _ => by simp)
  rcases ht : toggleR E.R g with ⟨R', n', c'⟩
  simp +decide only [↓evd, evw, evz, reduceCtorEq, ↓reduceIte, hb]
  refine (toggle_at hC.revs ht).mono ?_
  rintro v τ1 ⟨rfl, fpr1, hR1, hK1, hF1⟩
  have hE1 := hE.keep hK1 (fun y hy hm => by have := hlow y hy; have := hf' y (List.mem_cons_of_mem _ hm); omega)
  have hKn := hK.2.2.1
  have hKn1 := hK1.2.2.1
  have hkk := hf' k' (by simp)
  have hb1 : τ1.get k' = some (.cells [eAtoms E.l, .ptr (.new kr') 0] none) := by rw [hK1.2.2.2 k' hC.low hC.out]; exact hb
  have hkp : Keep (k :: fpr0) σ τ1 := (hK.mono (fun x hx => nomatch hx)).trans hK1 (fun x hx => .inr (hf' x (List.mem_cons_of_mem _ hx)))
  by_cases hc : c' = 0
  case neg =>
    have hb : (c' != 0) = true := by simpa using hc
    have : toggleE E g = (E, 0, c') := by rw [toggleE, ht, if_pos hc]
    rw [this] at e; cases e
    simp +decide only [↓evd, evw, evz, reduceCtorEq, ↓reduceIte, hb]
    exact ⟨k :: fpr0, hE1, hkp, fun x hx => .inl hx⟩
  subst hc
  have hcb : ((0 : Int) != 0) = false := rfl
  obtain ⟨_, _, t1, t2⟩ := toggleR_ok (R := E.R) (g := g) (by rw [ht]) hok.2
  rw [ht] at t2
  simp only at t2
  have hok2 : Eng.Ok ⟨E.l, R'⟩ := ⟨hok.1.len, hok.1.txt, fun a ha => by have := hok.1.cuts a ha; simp only [t2]; omega⟩
  have hN : EngAt τ1 k' ⟨E.l, R'⟩ (eAtoms E.l) kr' fpr1 := ⟨hb1, .inl rfl, hR1, fun hm => by
    rcases hF1 k' hm with h1 | h1
    · exact hC.out h1
    · have := hC.low; omega, Nat.lt_of_lt_of_le hC.low hKn1, hok2⟩
  have hfit := hN.fitsC
  have hf1 : ∀ y ∈ fpr1, σ.next ≤ y := fun y hy => by
    rcases hF1 y hy with h1 | h1
    · exact hf' y (List.mem_cons_of_mem _ h1)
    · omega
  simp +decide only [↓evd, evw, evz, reduceCtorEq, ↓reduceIte, hcb]
  refine MSpec.of hfit ?_
  by_cases hl : ((Eng.text ⟨E.l, R'⟩ (R'.head : Nat)).length : Int) ≤ 20000
  · have : toggleE E g = (⟨E.l, R'⟩, n', 0) := by rw [toggleE, ht, if_neg (by simp), if_neg (by simp only; omega)]
    rw [this] at e; cases e
    have hk0 := h0.low
    have hle : k < τ1.next := by omega
    obtain ⟨y, kry, fpry, hy, hye⟩ := id hE1
    have hby := hy.blk
    simp +decide only [↓evd, evw, evz, reduceCtorEq, ↓reduceIte, decide_eq_true hl, hb1, hby]
    refine ⟨k :: fpr1, IsEng.took hle hR1.low (.inl rfl) hR1 (fun hm => by have := hf1 k hm; omega) hok2, hkp.set (.inl (by simp)) _, fun x hx => ?_⟩
    rcases List.mem_cons.1 hx with rfl | hx
    · exact .inl (by simp)
    · exact .inr (hf1 x hx)
  · have : toggleE E g = (E, 0, 13) := by rw [toggleE, ht, if_neg (by simp), if_pos (by simp only; omega)]
    rw [this] at e; cases e
    simp +decide only [↓evd, evw, evz, reduceCtorEq, ↓reduceIte, decide_eq_false hl]
    exact ⟨k :: fpr0, hE1, hkp, fun x hx => .inl hx⟩
end
section
variable {σ : Heap} {k : Nat} {E : Eng} {fp : List Nat}
theorem upon_few {l : List Atom} (hl : l.length ≤ 4000) (rev : Int) (u : List Int) {cs : List Chg} (hcl : cs.length ≤ 1000) (hc : ∀ c ∈ cs, c.text.length ≤ 1000000) (rev' group rank : Int) : (upon l rev u cs rev' group rank).length ≤ 100000000000 := by
  unfold upon
  split
  case isFalse => omega
  rename_i h0
  have hml : (marked (cuts l rev u cs) ⟨rev', group⟩ l 0).length ≤ 4000 := by rw [marked_len]; exact hl
  generalize marked (cuts l rev u cs) ⟨rev', group⟩ l 0 = mk at hml
  have key : ∀ (r : List (Nat × List UInt8)) (at' : Nat), (∀ kt ∈ r, kt.2.length ≤ 1000000) → (merged (fun t => newAtoms rev' group rank (ptsOf t)) mk r at').length ≤ 4000 + r.length * 1004000 := by
    intro r
    induction r with
    | nil => intro at' _; simp only [merged, List.length_drop]; omega
    | cons kt r ih =>
      intro at' hk
      obtain ⟨q, t⟩ := kt
      have h1 := ih q fun z hz => hk z (List.mem_cons_of_mem _ hz)
      have h2 := hk (q, t) (by simp)
      have h3 : (newAtoms rev' group rank (ptsOf t)).length ≤ t.length := by
        simp only [newAtoms, List.length_map, ptsOf]
        cases hp : pts t with
        | none => simp
        | some ps => exact pts_len _ t ps (Nat.le_refl _) hp
      simp only [merged_cons, List.length_append, List.length_drop, List.length_take, List.length_cons]
      simp only at h2
      omega
  have h2 := key ((spotsN l rev u cs rank).zip (cs.map Chg.text)) 0 (by
    rintro ⟨q, t⟩ hz
    have := (List.of_mem_zip hz).2
    rw [List.mem_map] at this
    obtain ⟨c, hcm, rfl⟩ := this
    exact hc c hcm)
  have h3 : ((spotsN l rev u cs rank).zip (cs.map Chg.text)).length ≤ 1000 := by rw [List.length_zip]; simp; omega
  omega
set_option maxHeartbeats 4000000 in
theorem eedit_at {E' : Eng} {n c : Int} (h : IsEng σ k E fp) {base group rank : Int} {cs : List Chg} (hcl : cs.length ≤ 1000) (hct : ∀ c ∈ cs, c.text.length ≤ 1000000) (e : editE E base group rank cs = (E', n, c)) :
    MSpec Tryz.prog n_engine_Engine_Edit [.ptr (.new k) 0, .int .i64 base, .int .i64 group, .int .i64 rank, eChgs cs] σ fun v τ => v = .tup [.int .i64 n, .int .i64 c] ∧ ∃ fp', IsEng τ k E' fp' ∧ Keep fp σ τ ∧ Fresh fp σ fp' := by
  refine spec_of_awp mixed c_engine_Engine_Edit (tl rfl) ?_
  unfold f_engine_Engine_Edit
  have hlow := h.low
  have hok := h.ok
  obtain ⟨x0, kr0, fpr0, h0, rfl⟩ := id h
  have hb0 := h0.blk
  have hx0 := h0.lst.cells.2.2
  have htx := h0.text base
  have hsame : ∃ fp', IsEng σ k E fp' ∧ Keep (k :: fpr0) σ σ ∧ Fresh (k :: fpr0) σ fp' := ⟨_, h, Keep.refl _ _, fun x hx => .inl hx⟩
  have hroom : maxRoom = 68719476736 := rfl
  cases hl : E.R.live base with
  | false =>
    have : editE E base group rank cs = (E, 0, 190) := by rw [editE, if_pos hl]
    rw [this] at e; cases e
    rw [textV, hl, if_neg (by simp)] at htx
    have hb : ((190 : Int) != 0) = true := rfl
    simp +decide only [↓evd, evw, evz, reduceCtorEq, ↓reduceIte]
    refine MSpec.of htx ?_
    simp +decide only [↓evd, evw, evz, reduceCtorEq, ↓reduceIte, hb]
    exact hsame
  | true =>
  rw [textV, if_pos hl] at htx
  have hlt := atomsText_le base (E.R.undone base) hok.1.txt
  have hl4 := hok.1.len
  have hck := check_call σ (E.text base) cs (by unfold Eng.text; omega) (by omega) (fun c hc => by have := hct c hc; unfold ChgFits; omega)
  have hcb : ((0 : Int) != 0) = false := rfl
  simp +decide only [↓evd, evw, evz, reduceCtorEq, ↓reduceIte]
  refine MSpec.of htx ?_
  simp +decide only [↓evd, evw, evz, reduceCtorEq, ↓reduceIte, hcb]
  simp only [eChgs] at hck
  refine MSpec.of hck ?_
  by_cases hc0 : check (E.text base) cs = 0
  case neg =>
    have : editE E base group rank cs = (E, 0, check (E.text base) cs) := by rw [editE, if_neg (by simp [hl]), if_pos hc0]
    rw [this] at e; cases e
    have hb : (check (E.text base) cs != 0) = true := by simpa using hc0
    simp +decide only [↓evd, evw, evz, reduceCtorEq, ↓reduceIte, hb]
    exact hsame
  rw [hc0]
  simp +decide only [↓evd, evw, evz, reduceCtorEq, ↓reduceIte, hcb]
  refine (ecopy_at h).mono ?_
  rintro v τ ⟨k', kr', fpr', rfl, hC, hf', hK⟩
  have hb := hC.blk
  have hE := h.keep hK (fun y _ => by simp)
  rcases ht : addR E.R group with ⟨R', n', c'⟩
  simp +decide only [↓evd, evw, evz, reduceCtorEq, ↓reduceIte, hb]
  refine (add_at hC.revs ht).mono ?_
  rintro v τ1 ⟨rfl, fpr1, hR1, hK1, hF1⟩
  have hdis : ∀ y ∈ k :: fpr0, y ∉ fpr' := fun y hy hm => by have := hlow y hy; have := hf' y (List.mem_cons_of_mem _ hm); omega
  have hE1 := hE.keep hK1 hdis
  have hA1 := (h0.keep hK (fun y _ => by simp)).keep hK1 hdis
  have hKn := hK.2.2.1
  have hKn1 := hK1.2.2.1
  have hkk := hf' k' (by simp)
  have hb1 : τ1.get k' = some (.cells [eAtoms E.l, .ptr (.new kr') 0] none) := by rw [hK1.2.2.2 k' hC.low hC.out]; exact hb
  have hkp : Keep (k :: fpr0) σ τ1 := (hK.mono (fun x hx => nomatch hx)).trans hK1 (fun x hx => .inr (hf' x (List.mem_cons_of_mem _ hx)))
  have hfin : ∃ fp', IsEng τ1 k E fp' ∧ Keep (k :: fpr0) σ τ1 ∧ Fresh (k :: fpr0) σ fp' := ⟨k :: fpr0, hE1, hkp, fun x hx => .inl hx⟩
  have hne : editE E base group rank cs = if c' ≠ 0 then (E, 0, c') else if rank < 0 ∨ 1000000 < rank then (E, 0, 10) else
      if 4000 < (upon E.l base (E.R.undone base) cs n' group rank).length then (E, 0, 70) else
      if 20000 < (Eng.text ⟨upon E.l base (E.R.undone base) cs n' group rank, R'⟩ R'.head).length then (E, 0, 13) else (⟨upon E.l base (E.R.undone base) cs n' group rank, R'⟩, n', 0) := by
    rw [editE, if_neg (by simp [hl]), if_neg (by simp [hc0]), ht]
  by_cases hc : c' = 0
  case neg =>
    have hb : (c' != 0) = true := by simpa using hc
    rw [if_pos hc] at hne
    rw [hne] at e; cases e
    simp +decide only [↓evd, evw, evz, reduceCtorEq, ↓reduceIte, hb]
    exact hfin
  subst hc
  rw [if_neg (by simp)] at hne
  by_cases hr : rank < 0 ∨ 1000000 < rank
  · rw [if_pos hr] at hne
    rw [hne] at e; cases e
    by_cases hr1 : rank < 0
    · simp +decide only [↓evd, evw, evz, reduceCtorEq, ↓reduceIte, hcb, hr1]
      exact hfin
    · have hr2 := hr.resolve_left hr1
      simp +decide only [↓evd, evw, evz, reduceCtorEq, ↓reduceIte, hcb, hr1, hr2]
      exact hfin
  rw [if_neg hr] at hne
  have hr1 : ¬ rank < 0 := fun h => hr (.inl h)
  have hr2 : ¬ 1000000 < rank := fun h => hr (.inr h)
  obtain ⟨_, _, _, _, t1, t2⟩ := addR_ok (R := E.R) (g := group) (by rw [ht]) hok.2
  rw [ht] at t2
  simp only at t2
  have hfit0 := hok.1.fits hok.2
  have hup := hA1.lst.call (upon_call τ1 E.l base (E.R.undone base) cs n' group rank (undone_few hok.2 base) hfit0 (by omega) hct (fun a ha => by have := hok.1.cuts a ha; have := head_le hok.2; omega) (by omega))
  have hun := hA1.undoneAt base
  obtain ⟨uf1, uf2⟩ := upon_facts hok.1 (base := base) (group := group) (rank := rank) (now := n') (cs := cs) (u := E.R.undone base)
  have hb01 := hA1.blk
  have hlen := upon_few hok.1.len base (E.R.undone base) hcl hct n' group rank
  generalize upon E.l base (E.R.undone base) cs n' group rank = l' at hup hne uf1 uf2 hlen
  simp only [ints, eChgs, eAtoms] at hup
  simp only [ints] at hun
  simp only [eAtoms] at hb1
  simp +decide only [↓evd, evw, evz, reduceCtorEq, ↓reduceIte, hcb, hr1, hr2]
  with_reducible refine draw_of_grow (fun _ => True) (ms := [false, false, false, false, false, false, false, false, false, false, false, false, false, false, false, false, true]) (by kernel_rfl) ?_
  simp +decide only [↓evd, evw, evz, reduceCtorEq, ↓reduceIte, hb01, hx0]
  refine MSpec.of hun ⟨.inr Keeps.rfl, ?_⟩
  simp +decide only [↓evd, evw, evz, reduceCtorEq, ↓reduceIte]
  refine MSpec.of hup ⟨.inr Keeps.rfl, ?_⟩
  simp +decide only [↓evd, evw, evz, reduceCtorEq, ↓reduceIte, hb1]
  have hK2 : Keep [k'] τ1 (τ1.set k' (.cells [.fsl 5 (l'.map eAtom), .ptr (.new kr') 0] none)) := (Keep.refl _ _).set (.inl (by simp)) _
  have hkf : k' ∉ fpr1 := fun hm => by
    rcases hF1 k' hm with h1 | h1
    · exact hC.out h1
    · have := hC.low; omega
  have hkp2 : Keep (k :: fpr0) σ (τ1.set k' (.cells [.fsl 5 (l'.map eAtom), .ptr (.new kr') 0] none)) := hkp.set (.inr hkk) _
  have hE2 := hE1.keep hK2 (fun y hy hm => by simp at hm; have := hlow y hy; omega)
  have hfin2 : ∃ fp', IsEng (τ1.set k' (.cells [.fsl 5 (l'.map eAtom), .ptr (.new kr') 0] none)) k E fp' ∧ Keep (k :: fpr0) σ (τ1.set k' (.cells [.fsl 5 (l'.map eAtom), .ptr (.new kr') 0] none)) ∧ Fresh (k :: fpr0) σ fp' := ⟨k :: fpr0, hE2, hkp2, fun x hx => .inl hx⟩
  by_cases hm : 4000 < l'.length
  · have hm' : (4000 : Int) < (l'.length : Int) := by omega
    rw [if_pos hm] at hne
    rw [hne] at e; cases e
    simp +decide only [↓evd, evw, evz, reduceCtorEq, ↓reduceIte, hm']
    exact hfin2
  have hm' : ¬ (4000 : Int) < (l'.length : Int) := by omega
  rw [if_neg hm] at hne
  have hR2 := hR1.keep hK2 (fun y hy hm => by simp at hm; subst hm; exact hkf hy)
  have hok2 : Eng.Ok ⟨l', R'⟩ := ⟨by simp only; omega, uf1, fun a ha => by have := uf2 a ha; simp only [t2]; omega⟩
  have hN : EngAt (τ1.set k' (.cells [.fsl 5 (l'.map eAtom), .ptr (.new kr') 0] none)) k' ⟨l', R'⟩ (eAtoms l') kr' fpr1 := ⟨by rw [Heap.get_set, if_pos rfl]; rfl, .inl rfl, hR2, hkf, by have := hC.low; simp only [Heap.set_next]; omega, hok2⟩
  have hfit := hN.fitsC
  have hf1 : ∀ y ∈ fpr1, σ.next ≤ y := fun y hy => by
    rcases hF1 y hy with h1 | h1
    · exact hf' y (List.mem_cons_of_mem _ h1)
    · omega
  simp +decide only [↓evd, evw, evz, reduceCtorEq, ↓reduceIte, hm']
  refine MSpec.of hfit ?_
  by_cases hl : ((Eng.text ⟨l', R'⟩ (R'.head : Nat)).length : Int) ≤ 20000
  · rw [if_neg (by omega)] at hne
    rw [hne] at e; cases e
    have hk0 := h0.low
    have hle : k < τ1.next := by omega
    have hne2 : (k' = k) = False := eq_false (by omega)
    simp +decide only [↓evd, evw, evz, reduceCtorEq, ↓reduceIte, decide_eq_true hl, hb01, hne2]
    refine ⟨k :: fpr1, IsEng.took (by simpa using hle) hR2.low (.inl rfl) hR2 (fun hm => by have := hf1 k hm; omega) hok2, hkp2.set (.inl (by simp)) _, fun x hx => ?_⟩
    rcases List.mem_cons.1 hx with rfl | hx
    · exact .inl (by simp)
    · exact .inr (hf1 x hx)
  · rw [if_pos (by omega)] at hne
    rw [hne] at e; cases e
    simp +decide only [↓evd, evw, evz, reduceCtorEq, ↓reduceIte, decide_eq_false hl]
    exact hfin2
end
theorem chgs_row (cs : List Chg) : ∀ z ∈ cs.map eChg, z.cells.length = 3 := by
  intro z hz; rw [List.mem_map] at hz; obtain ⟨c, _, rfl⟩ := hz; rfl
section
variable {σ : Heap} {k : Nat} {E : Eng} {fp : List Nat}
end
theorem etext_at {σ : Heap} {k : Nat} {E : Eng} {fp : List Nat} (h : IsEng σ k E fp) (n : Int) : ACall Tryz.prog n_engine_Engine_Text [.ptr (.new k) 0, .int .i64 n] σ (textV E n) σ := by obtain ⟨_, _, _, h, _⟩ := h; exact h.text n
theorem ehead_at {σ : Heap} {k : Nat} {E : Eng} {fp : List Nat} (h : IsEng σ k E fp) : ACall Tryz.prog n_engine_Engine_Head [.ptr (.new k) 0] σ (.int .i64 (E.R.head : Nat)) σ := by obtain ⟨_, _, _, h, _⟩ := h; exact h.head
theorem eatoms_at {σ : Heap} {k : Nat} {E : Eng} {fp : List Nat} (h : IsEng σ k E fp) : ACall Tryz.prog n_engine_Engine_Atoms [.ptr (.new k) 0] σ (eAtoms E.l) σ := by obtain ⟨_, _, _, h, _⟩ := h; exact h.atoms
theorem elive_at {σ : Heap} {k : Nat} {E : Eng} {fp : List Nat} (h : IsEng σ k E fp) (n : Int) : ACall Tryz.prog n_engine_Engine_Live [.ptr (.new k) 0, .int .i64 n] σ (.bool (E.R.live n)) σ := by obtain ⟨_, _, _, h, _⟩ := h; exact h.live n
theorem textV_head {E : Eng} (h : E.R.Ok) : textV E (E.R.head : Nat) = .tup [.str (E.text (E.R.head : Nat)), .int .i64 0] := by rw [textV, if_pos (Eng.live_head h)]
theorem aStr_self (s : List UInt8) : aStr .eql s s = some (.bool true) := by simp [aStr]
theorem aStr_nself (s : List UInt8) : aStr .neq s s = some (.bool false) := by simp [aStr]
def at1 (b : UInt8) (cs : List Cut) : Atom := ⟨[b], 1, 1, 0, cs⟩
def kE1 : Eng := ⟨[at1 104 [], at1 101 [], at1 108 [], at1 108 [], at1 111 []], ⟨[[], []], 0, [1], []⟩⟩
def kE2 : Eng := ⟨[⟨[106], 2, 2, 0, []⟩, at1 104 [⟨2, 2⟩], at1 101 [], at1 108 [], at1 108 [], at1 111 []], ⟨[[], [], []], 0, [1, 2], []⟩⟩
def kE3 : Eng := ⟨[⟨[106], 2, 2, 0, []⟩, at1 104 [⟨2, 2⟩], at1 101 [], at1 108 [], at1 108 [], at1 111 [], ⟨[33], 3, 3, 0, []⟩], ⟨[[], [], [], []], 0, [1, 2, 3], []⟩⟩
def kE4 : Eng := ⟨kE3.l, ⟨[[], [], [], [], [2]], 0, [1, 2, 3], []⟩⟩
theorem k1 : editE Eng.new 0 1 0 [⟨0, 0, [104, 101, 108, 108, 111]⟩] = (kE1, 1, 0) := by kernel_rfl
theorem k2 : editE kE1 1 2 0 [⟨0, 1, [106]⟩] = (kE2, 2, 0) := by kernel_rfl
theorem k3 : editE kE2 1 3 0 [⟨5, 5, [33]⟩] = (kE3, 3, 0) := by kernel_rfl
theorem k4 : toggleE kE3 2 = (kE4, 4, 0) := by kernel_rfl
theorem k5 : editE kE4 9 1 0 [] = (kE4, 0, 190) := by kernel_rfl
end Go.Proofs.YtkjikdohnomajaaGreat.M
namespace Go.Proofs.YtkjikdohnomajaaGreat.M
open Go Go.Mini
theorem places_nonneg (rev : Int) (u : List Int) : ∀ (l : List Atom) (n : Nat), ∀ p ∈ places rev u l n, 0 ≤ p
  | [], n, p, h => by simp [places] at h; omega
  | a :: l, n, p, h => by
    simp only [places, List.mem_cons] at h
    rcases h with rfl | h
    · omega
    · exact places_nonneg rev u l _ p h
theorem spotF_low (rev : Int) (u : List Int) (at' : Int) : ∀ (l : List Atom) (ps : List Int) (i acc : Nat), (∀ p ∈ ps, at' ≤ p) → spotF rev u at' l ps i acc = acc
  | [], ps, i, acc, h => by simp [spotF]
  | a :: l, [], i, acc, h => by simp [spotF]
  | a :: l, p :: ps, i, acc, h => by
    have h1 := h p (by simp)
    simp only [spotF]
    rw [if_neg (fun h2 => by omega)]
    exact spotF_low rev u at' l ps _ _ fun q hq => h q (List.mem_cons_of_mem _ hq)
theorem cutsF_none (rev : Int) (u : List Int) (cs : List Chg) (h : ∀ p, cutHit cs p = false) : ∀ (l : List Atom) (ps : List Int) (i : Nat), cutsF rev u cs l ps i = []
  | [], ps, i => by simp [cutsF]
  | a :: l, [], i => by simp [cutsF]
  | a :: l, p :: ps, i => by
    simp only [cutsF, h, Bool.and_false, Bool.false_eq_true, if_false, List.nil_append]
    exact cutsF_none rev u cs h l ps _
theorem marked_nil (c : Cut) : ∀ (l : List Atom) (i : Nat), marked [] c l i = l
  | [], i => rfl
  | a :: l, i => by simp only [marked, List.not_mem_nil, if_false, marked_nil c l]
theorem atoms_valid {l : List Atom} (h : ∀ a ∈ l, IsCP a.text) (rev : Int) (u : List Int) : ∃ ps, atomsText rev u l = List.flatten ps ∧ ∀ p ∈ ps, IsCP p := by
  refine ⟨(l.filter (visible rev u)).map Atom.text, ?_, ?_⟩
  · induction l with
    | nil => rfl
    | cons a l ih =>
      simp only [atomsText, List.filter_cons]
      rw [ih fun b hb => h b (List.mem_cons_of_mem _ hb)]
      split <;> simp
  · intro p hp
    simp only [List.mem_map, List.mem_filter] at hp
    obtain ⟨a, ⟨ha, _⟩, rfl⟩ := hp
    exact h a ha
theorem cp_ascii {b : UInt8} (h : b.toNat < 128) : IsCP [b] := ⟨by simp, by rw [pt, if_pos h]; rfl⟩
theorem check_front {s : List UInt8} (hs : ∃ ps, s = List.flatten ps ∧ ∀ p ∈ ps, IsCP p) {t : List UInt8} (ht : valid t = true) (hl : s.length + t.length ≤ 20000) : check s [⟨0, 0, t⟩] = 0 := by
  obtain ⟨ps, rfl, hp⟩ := hs
  have hv := valid_flat hp
  have he : isEdge ps.flatten 0 = true := (edge_flat hp 0).2 ⟨0, Nat.zero_le _, by simp⟩
  have hw : IntKind.i64.wrap ((0 : Int) - 0) = 0 := by decide
  have hg : gain ps.flatten.length ⟨0, 0, t⟩ = 0 := by
    simp only [gain, gain0, hw]
    rw [if_neg (show ¬ (0 : Int) < 0 by omega), if_neg (by omega)]
  have hlong : longI ps.flatten [⟨0, 0, t⟩] = 0 := by
    simp only [longI, gains, List.map_cons, List.map_nil, hg, List.sum_cons, List.sum_nil, longR]
    rw [if_neg (by omega), if_neg (by omega)]
  have hn : ¬ ((ps.flatten.length : Int) < 0) := by omega
  unfold check
  rw [if_neg (by rw [hv]; simp), if_neg (by simp)]
  simp only [errs, List.any_cons, List.any_nil, Bool.or_false, chgOut, chgIn, he, disorder, ht, hlong, decide_eq_false hn]
  rfl
theorem edit_front {E : Eng} (h : E.Ok) (hR : E.R.Ok) (hrev : ∀ a ∈ E.l, a.rev ≤ (E.R.head : Nat)) {g rank : Int} {b : UInt8} (hb : b.toNat < 128) (hg0 : 0 ≤ g) (hg1 : g < 60) (hgo : g ∉ E.R.gone) (hh : E.R.head < 200) (hr0 : 0 ≤ rank) (hr1 : rank ≤ 1000000) (hlen : E.l.length < 4000) :
    editE E (E.R.head : Nat) g rank [⟨0, 0, [b]⟩] = (⟨⟨[b], (E.R.head : Int) + 1, g, rank, []⟩ :: E.l, { E.R.push E.R.top with grp := insS g E.R.grp }⟩, (E.R.head : Int) + 1, 0) := by
  have hcp := cp_ascii hb
  have hv := atoms_valid h.txt (E.R.head : Nat) (E.R.undone (E.R.head : Nat))
  have hle := atomsText_le (E.R.head : Nat) (E.R.undone (E.R.head : Nat)) h.txt
  have hck : check (E.text (E.R.head : Nat)) [⟨0, 0, [b]⟩] = 0 := check_front hv (valid_iff.2 ⟨[[b]], by simp, by simpa using hcp⟩) (by simp only [Eng.text, List.length_cons, List.length_nil]; omega)
  have hck' : check (atomsText (E.R.head : Nat) (E.R.undone (E.R.head : Nat)) E.l) [⟨0, 0, [b]⟩] = 0 := hck
  have hadd := add_good (R := E.R) hgo hg0 hg1 hh
  have hspot : spot E.l (places (E.R.head : Nat) (E.R.undone (E.R.head : Nat)) E.l 0) (E.R.head : Nat) (E.R.undone (E.R.head : Nat)) 0 rank = 0 := by
    unfold spot
    rw [spotF_low _ _ _ _ _ _ _ (places_nonneg _ _ _ _)]
    simp only [List.drop_zero]
    cases hE : E.l with
    | nil => rfl
    | cons a l =>
      have := hrev a (by rw [hE]; simp)
      rw [spotG, if_neg (by omega)]
  have hup : upon E.l (E.R.head : Nat) (E.R.undone (E.R.head : Nat)) [⟨0, 0, [b]⟩] ((E.R.head : Int) + 1) g rank = ⟨[b], (E.R.head : Int) + 1, g, rank, []⟩ :: E.l := by
    rw [upon, if_pos hck']
    have hct : cuts E.l (E.R.head : Nat) (E.R.undone (E.R.head : Nat)) [⟨0, 0, [b]⟩] = [] := by
      rw [cuts, if_pos hck']
      refine cutsF_none _ _ _ (fun p => ?_) _ _ _
      simp only [cutHit, List.any_cons, List.any_nil, Bool.or_false, Bool.and_eq_false_iff, decide_eq_false_iff_not]
      omega
    rw [hct, marked_nil]
    simp only [spotsN, List.map_cons, List.map_nil, hspot, List.zip_cons_cons, List.zip_nil_left, merged, List.take_zero, List.drop_nil, List.nil_append, List.drop_zero, ptsOf, pts_one hcp, Option.getD_some, newAtoms, List.singleton_append]
  have hlv := Eng.live_head hR
  have htl : ∀ (rev : Int) (u : List Int), (atomsText rev u (⟨[b], (E.R.head : Int) + 1, g, rank, []⟩ :: E.l)).length ≤ 20000 := fun rev u => by
    have := atomsText_le (l := ⟨[b], (E.R.head : Int) + 1, g, rank, []⟩ :: E.l) rev u (by
      intro a ha
      rcases List.mem_cons.1 ha with rfl | ha
      · exact hcp
      · exact h.txt a ha)
    simp only [List.length_cons] at this; omega
  rw [editE, if_neg (by simp [hlv]), if_neg (by simp [hck]), hadd, if_neg (by simp), if_neg (by omega), hup, if_neg (by simp only [List.length_cons]; omega), if_neg (by simp only [Eng.text]; exact Nat.not_lt.2 (htl _ _))]
theorem short_text {l : List Atom} (hl : l.length ≤ 4000) (hc : ∀ a ∈ l, IsCP a.text) (rev : Int) (u : List Int) : (atomsText rev u l).length ≤ 20000 := by have := atomsText_le rev u hc; omega
theorem atomsText_append (rev : Int) (u : List Int) : ∀ l m : List Atom, atomsText rev u (l ++ m) = atomsText rev u l ++ atomsText rev u m
  | [], m => rfl
  | a :: l, m => by simp only [List.cons_append, atomsText, atomsText_append rev u l m, List.append_assoc]
theorem edit_fail {E E' : Eng} {base group rank n c : Int} {cs : List Chg} (e : editE E base group rank cs = (E', n, c)) (hc : c ≠ 0) : E' = E ∧ n = 0 := by
  unfold editE at e
  repeat' split at e
  all_goals
    simp only [Prod.mk.injEq] at e
    first | exact ⟨e.1.symm, e.2.1.symm⟩ | exact absurd e.2.2.symm hc
theorem toggle_fail {E E' : Eng} {g n c : Int} (e : toggleE E g = (E', n, c)) (hc : c ≠ 0) : E' = E ∧ n = 0 := by
  unfold toggleE at e
  repeat' split at e
  all_goals
    simp only [Prod.mk.injEq] at e
    first | exact ⟨e.1.symm, e.2.1.symm⟩ | exact absurd e.2.2.symm hc
theorem tmod_nat {a : Int} {n : Nat} (h0 : 0 ≤ a) (hn : 0 < n) : a.tmod (n : Int) = ((a.toNat % n : Nat) : Int) := by
  rw [Int.tmod_eq_emod_of_nonneg h0]
  obtain ⟨b, rfl⟩ : ∃ b : Nat, a = (b : Int) := ⟨a.toNat, by omega⟩
  rw [Int.toNat_natCast]; exact (Int.natCast_emod b n).symm
def OrdC (n : Nat) : List Chg → Int → Prop
  | [], at' => at' ≤ (n : Int)
  | c :: l, at' => at' ≤ c.frm ∧ c.frm ≤ c.to ∧ c.to ≤ (n : Int) ∧ OrdC n l c.to
theorem OrdC.low {n : Nat} : ∀ {l : List Chg} {at' : Int}, OrdC n l at' → ∀ c ∈ l, at' ≤ c.frm
  | [], _, _, c, h => by cases h
  | d :: l, at', h, c, hc => by
    obtain ⟨h1, h2, h3, h4⟩ := h
    rcases List.mem_cons.1 hc with rfl | hc
    · exact h1
    · have := h4.low c hc; omega
theorem OrdC.le {n : Nat} : ∀ {l : List Chg} {at' : Int}, OrdC n l at' → at' ≤ (n : Int)
  | [], _, h => h
  | d :: l, at', ⟨h1, h2, h3, h4⟩ => by omega
section
variable {r : Int} {u : List Int}
def posT (r : Int) (u : List Int) (l : List Atom) (j : Nat) : Nat := (atomsText r u (l.take j)).length
theorem take_text {l : List Atom} {j : Nat} (h : j < l.length) : atomsText r u (l.take (j + 1)) = atomsText r u (l.take j) ++ (if visible r u l[j] then l[j].text else []) := by
  rw [List.take_succ_eq_append_getElem h, atomsText_append]
  simp only [atomsText, List.append_nil]
theorem posT_succ {l : List Atom} {j : Nat} (h : j < l.length) : posT r u l (j + 1) = posT r u l j + (if visible r u l[j] then l[j].text.length else 0) := by
  simp only [posT]; rw [take_text h, List.length_append]
  split <;> rfl
theorem posT_step (l : List Atom) (j : Nat) : posT r u l j ≤ posT r u l (j + 1) := by
  by_cases h : j < l.length
  · rw [posT_succ h]; omega
  · simp only [posT]; rw [List.take_of_length_le (by omega), List.take_of_length_le (by omega)]; exact Nat.le_refl _
theorem posT_mono (l : List Atom) {i j : Nat} (h : i ≤ j) : posT r u l i ≤ posT r u l j := by
  induction j with
  | zero => have : i = 0 := by omega
            subst this; exact Nat.le_refl _
  | succ j ih =>
    by_cases e : i = j + 1
    · subst e; exact Nat.le_refl _
    · exact Nat.le_trans (ih (by omega)) (posT_step l j)
theorem places_at : ∀ (l : List Atom) (p0 j : Nat), j ≤ l.length → (places r u l p0)[j]? = some ((p0 + posT r u l j : Nat) : Int)
  | [], p0, j, h => by
    have : j = 0 := by simp at h; exact h
    subst this; rfl
  | a :: l, p0, 0, h => rfl
  | a :: l, p0, j + 1, h => by
    simp only [places, List.getElem?_cons_succ]
    rw [places_at l _ j (by simpa using h)]
    have e : posT r u (a :: l) (j + 1) = (if visible r u a then a.text.length else 0) + posT r u l j := by
      simp only [posT, List.take_succ_cons, atomsText, List.length_append]
      split <;> rfl
    rw [e, ← Nat.add_assoc]
theorem spotF_spec (x : Int) : ∀ (l : List Atom) (ps : List Int) (i acc : Nat), acc ≤ i →
    (∀ (j : Nat) (a : Atom) (p : Int), l[j]? = some a → ps[j]? = some p → spotF r u x l ps i acc ≤ i + j → visible r u a = true → x ≤ p) ∧
    (spotF r u x l ps i acc = acc ∨ ∃ (j : Nat) (a : Atom) (p : Int), l[j]? = some a ∧ ps[j]? = some p ∧ spotF r u x l ps i acc = i + j + 1 ∧ visible r u a = true ∧ p < x)
  | [], ps, i, acc, h => ⟨fun j a p h1 => by simp at h1, .inl (by simp [spotF])⟩
  | a :: l, [], i, acc, h => ⟨fun j a p _ h1 => by simp at h1, .inl (by simp [spotF])⟩
  | a :: l, p :: ps, i, acc, h => by
    simp only [spotF]
    obtain ⟨h1, h2⟩ := spotF_spec x l ps (i + 1) (if p < x ∧ visible r u a = true then i + 1 else acc) (by split <;> omega)
    refine ⟨fun j b q hb hq hle hv => ?_, ?_⟩
    · cases j with
      | zero =>
        simp at hb hq
        subst hb; subst hq
        refine Int.not_lt.1 fun hlt => ?_
        rw [if_pos ⟨hlt, hv⟩] at h2 hle
        rcases h2 with h2 | ⟨j, _, _, _, _, h2, _⟩ <;> omega
      | succ j => exact h1 j b q (by simpa using hb) (by simpa using hq) (by omega) hv
    · rcases h2 with h2 | ⟨j, b, q, hb, hq, h2, h3⟩
      · by_cases hc : p < x ∧ visible r u a = true
        · rw [if_pos hc] at h2 ⊢
          exact .inr ⟨0, a, p, rfl, rfl, h2, hc.2, hc.1⟩
        · rw [if_neg hc] at h2 ⊢
          exact .inl h2
      · exact .inr ⟨j + 1, b, q, by simpa using hb, by simpa using hq, by omega, h3⟩
def spotK (r : Int) (u : List Int) (l : List Atom) (x : Int) : Nat := spotF r u x l (places r u l 0) 0 0
theorem spotK_ge {l : List Atom} {x : Int} {j : Nat} (hj : j < l.length) (h : spotK r u l x ≤ j) (hv : visible r u l[j] = true) : x ≤ (posT r u l j : Int) := by
  have h1 := (spotF_spec (r := r) (u := u) x l (places r u l 0) 0 0 (Nat.le_refl _)).1 j l[j] _ (List.getElem?_eq_getElem hj) (places_at l 0 j (by omega)) (by simp only [spotK] at h; omega) hv
  simpa using h1
theorem spotK_lt {l : List Atom} {x : Int} {j : Nat} (h : j < spotK r u l x) : (posT r u l j : Int) < x := by
  rcases (spotF_spec (r := r) (u := u) x l (places r u l 0) 0 0 (Nat.le_refl _)).2 with h2 | ⟨i, a, p, ha, hp, h2, hv, hlt⟩
  · simp only [spotK] at h; omega
  · have hi : i < l.length := (List.getElem?_eq_some_iff.1 ha).1
    rw [places_at l 0 i (by omega)] at hp
    cases hp
    have : j ≤ i := by simp only [spotK] at h; omega
    have := posT_mono (r := r) (u := u) l this
    omega
end
end Go.Proofs.YtkjikdohnomajaaGreat.M
namespace Go.Proofs.YtkjikdohnomajaaGreat.M
open Go Go.Mini
attribute [local congr] go1_congr goM_congr goG_congr goV_congr drawwp_congr Xwp_congr
def EndSeen (r : Int) (u : List Int) (L : List Atom) : Prop := L = [] ∨ ∃ L' b, L = L' ++ [b] ∧ visible r u b = true ∧ b.text ≠ []
theorem posT_left (r : Int) (u : List Int) (L R : List Atom) : posT r u (L ++ R) L.length = (atomsText r u L).length := by
  rw [posT, List.take_left]
theorem spotK_at {r : Int} {u : List Int} {L : List Atom} (R : List Atom) (h : EndSeen r u L) : spotK r u (L ++ R) ((atomsText r u L).length : Nat) = L.length := by
  rcases Nat.lt_trichotomy (spotK r u (L ++ R) ((atomsText r u L).length : Nat)) L.length with h1 | h1 | h1
  · rcases h with rfl | ⟨L', b, rfl, hv, hb⟩
    · simp at h1
    · have hj : L'.length < (L' ++ [b] ++ R).length := by simp
      have hg : (L' ++ [b] ++ R)[L'.length] = b := by simp
      have h2 := spotK_ge (r := r) (u := u) (x := ((atomsText r u (L' ++ [b])).length : Nat)) hj (by rw [List.length_append, List.length_singleton] at h1; omega) (by rw [hg]; exact hv)
      rw [show L' ++ [b] ++ R = L' ++ ([b] ++ R) by simp, posT_left, atomsText_append] at h2
      have h3 : (atomsText r u [b]).length = b.text.length := by simp [atomsText, hv]
      have := List.length_pos_iff.2 hb
      rw [List.length_append] at h2
      omega
  · exact h1
  · have h2 := spotK_lt (r := r) (u := u) h1
    rw [posT_left] at h2; omega
def cv : List Cut → List AVal
  | [] => []
  | c :: l => .int .i64 c.rev :: .int .i64 c.group :: cv l
theorem cv_flat : ∀ l : List Cut, (l.map eCut).flatMap AVal.cells = cv l
  | [] => rfl
  | c :: l => by simp only [List.map_cons, List.flatMap_cons, cv_flat l, cv]; rfl
theorem cv_len : ∀ l : List Cut, (cv l).length = l.length * 2
  | [] => rfl
  | c :: l => by simp only [cv, List.length_cons, cv_len l]; omega
theorem cv_append : ∀ l m : List Cut, cv (l ++ m) = cv l ++ cv m
  | [], m => rfl
  | c :: l, m => by simp only [List.cons_append, cv, cv_append l m]
theorem cv_get : ∀ {l : List Cut} {i : Nat} {w : List AVal} (h : i < l.length), (cv l ++ w)[i * 2]? = some (.int .i64 l[i].rev) ∧ (cv l ++ w)[i * 2 + 1]? = some (.int .i64 l[i].group)
  | c :: l, 0, w, h => ⟨rfl, rfl⟩
  | c :: l, i + 1, w, h => by
    have := cv_get (l := l) (i := i) (w := w) (by simpa using h)
    rw [show (i + 1) * 2 = i * 2 + 1 + 1 by omega, show i * 2 + 1 + 1 + 1 = i * 2 + 1 + 1 + 1 from rfl]
    simp only [cv, List.cons_append, List.getElem?_cons_succ, List.getElem_cons_succ]
    exact this
theorem cv_set : ∀ {l : List Cut} {i : Nat} {w : List AVal} (x : Cut) (h : i < l.length), (cv l ++ w).take (i * 2) ++ [AVal.int .i64 x.rev, AVal.int .i64 x.group] ++ (cv l ++ w).drop (i * 2 + 2) = cv (l.set i x) ++ w
  | c :: l, 0, w, x, h => rfl
  | c :: l, i + 1, w, x, h => by
    have := cv_set (l := l) (i := i) (w := w) x (by simpa using h)
    rw [show (i + 1) * 2 = i * 2 + 1 + 1 by omega, show i * 2 + 1 + 1 + 2 = i * 2 + 2 + 1 + 1 by omega]
    simp only [cv, List.cons_append, List.take_succ_cons, List.drop_succ_cons, List.set_cons_succ]
    rw [this]
def firstC (p : Cut → Bool) : List Cut → Nat → Int
  | x :: l, i => if p x then (i : Int) else firstC p l (i + 1)
  | [], _ => -1
theorem firstC_none (p : Cut → Bool) : ∀ (l : List Cut) (i : Nat), firstC p l i = -1 → l.filter (fun x => !p x) = l
  | [], i, _ => rfl
  | x :: l, i, h => by
    rw [firstC] at h
    split at h
    · omega
    · rename_i hp
      rw [List.filter_cons, if_pos (by simpa using hp), firstC_none p l _ h]
theorem firstC_some (p : Cut → Bool) : ∀ (l : List Cut) (i : Nat), firstC p l i ≠ -1 → ∃ j : Nat, firstC p l i = ((i + j : Nat) : Int) ∧ j < l.length ∧ (l.take (j + 1)).filter (fun x => !p x) = l.take j
  | [], i, h => absurd rfl h
  | x :: l, i, h => by
    rw [firstC] at h ⊢
    split
    · rename_i hp
      refine ⟨0, rfl, by simp, ?_⟩
      simp [hp]
    · rename_i hp
      rw [if_neg hp] at h
      obtain ⟨j, h1, h2, h3⟩ := firstC_some p l (i + 1) h
      refine ⟨j + 1, by rw [h1]; omega, by simp; omega, ?_⟩
      rw [List.take_succ_cons, List.filter_cons, if_pos (by simpa using hp), h3, List.take_succ_cons]
theorem indexC_call (σ : Heap) (K : Nat) (cap : Cap) (l : List Cut) (w : List AVal) (opn : Option TypeId) (g : FuncId) (caps : List AVal) (p : Cut → Bool) (hl : l.length ≤ 1000000) (hg : σ.get K = some (.cells (cv l ++ w) opn)) (hp : ∀ x ∈ l, ACall Tryz.prog g (eCut x :: caps) σ (.bool (p x)) σ) :
    ACall Tryz.prog n_slices_IndexFunc_api_Cut_api_Cut [.slc (.new K) 0 l.length cap, .fn g caps] σ (.int .i64 (firstC p l 0)) σ := by
  refine exact_call (spec_of_awp mixed c_slices_IndexFunc_api_Cut_api_Cut (tl rfl) ?_)
  unfold f_slices_IndexFunc_api_Cut_api_Cut
  simp +decide only [↓evd, evw, evz, reduceCtorEq, ↓reduceIte]
  refine awp_loop (fun m fr τ => ∃ i, m + i = l.length ∧ fr.get 0 = .slc (.new K) 0 l.length cap ∧ fr.get 1 = .fn g caps ∧ fr.get 7 = .int .i64 (l.length : Nat) ∧ fr.get 8 = .int .i64 (i : Nat) ∧ firstC p (l.drop i) i = firstC p l 0 ∧ τ = σ) ?_ (m := l.length) ?_
  · rintro m fr τ ⟨i, hi, e0, e1, e7, e8, hf, rfl⟩
    by_cases hlt : i < l.length
    · have hlt' : (i : Int) < (l.length : Int) := by omega
      have hs := wrap_succ (i := i) (by omega)
      obtain ⟨hg0, hg1⟩ := cv_get (w := w) hlt
      have hpx := hp _ (List.getElem_mem hlt)
      rw [List.drop_eq_getElem_cons hlt, firstC] at hf
      generalize l[i] = x at hg0 hg1 hpx hf
      simp only [eCut] at hpx
      simp +decide only [↓evd, evw, evz, reduceCtorEq, ↓reduceIte, e0, e1, e7, e8, hlt', hg, hg0, hg1]
      refine MSpec.of hpx ?_
      cases hpb : p x with
      | true =>
        rw [hpb, if_pos rfl] at hf
        simp +decide only [↓evd, evw, evz, reduceCtorEq, ↓reduceIte, e0, e1, e7, e8, hf]
      | false =>
        rw [hpb, if_neg (by simp)] at hf
        simp +decide only [↓evd, evw, evz, reduceCtorEq, ↓reduceIte, e0, e1, e7, e8, hs]
        exact ⟨m - 1, by omega, i + 1, by omega, rfl, hf⟩
    · have hlt' : ¬ (i : Int) < (l.length : Int) := by omega
      rw [List.drop_eq_nil_of_le (by omega), firstC] at hf
      simp +decide only [↓evd, evw, evz, reduceCtorEq, ↓reduceIte, e0, e1, e7, e8, hlt', hf]
  · refine ⟨0, by omega, ?_⟩
    simp +decide only [↓evd, evw, evz, reduceCtorEq, ↓reduceIte]
theorem takeC_filter {l : List Cut} {i : Nat} (p : Cut → Bool) (h : i < l.length) : (l.take (i + 1)).filter p = (l.take i).filter p ++ (if p l[i] then [l[i]] else []) := by
  rw [List.take_succ_eq_append_getElem h, List.filter_append]
  congr 1
  simp only [List.filter_cons, List.filter_nil]
theorem row_parts {K n j k : Nat} {cap : Cap} (hc : (cap = .gr k) ∨ ∃ c, cap = .ex c ∧ n ≤ c) (hj : j < n) :
    (∃ cap', aSlc k (.slc (.new K) 0 n cap) (some (.int .i64 (j : Nat))) none none = some (.slc (.new K) (j * k) (n - j) cap')) ∧ aSlc k (.slc (.new K) 0 n cap) none (some (.int .i64 (j : Nat))) none = some (.slc (.new K) 0 j cap) := by
  have b1 : aBound (some (.int .i64 (j : Nat))) 0 n = some j := by simp only [aBound]; rw [if_pos (by simp; omega)]; rfl
  have b2 : aBound none n n = some n := rfl
  have b3 : aBound none 0 j = some 0 := rfl
  have b4 : aBound (some (.int .i64 (j : Nat))) n n = some j := by simp only [aBound]; rw [if_pos (by simp; omega)]; rfl
  rcases hc with rfl | ⟨c, rfl, hc⟩
  · constructor
    · refine ⟨.gr k, ?_⟩
      simp only [aSlc, b1, b2, ne_eq, not_true_eq_false, if_false, Nat.zero_add]
      by_cases h0 : j = 0
      · subst h0; simp
      · rw [if_neg h0, if_pos hj]
    · simp only [aSlc, b4, b3, ne_eq, not_true_eq_false, if_false, if_true]
  · have b5 : aBound none c c = some c := rfl
    have b6 : aBound none n c = some n := rfl
    have b7 : aBound (some (.int .i64 (j : Nat))) n c = some j := by simp only [aBound]; rw [if_pos (by simp; omega)]; rfl
    constructor
    · refine ⟨.ex (c - j), ?_⟩
      simp only [aSlc, b5, b6, b1, Option.isSome_none, Bool.false_and, Bool.false_eq_true, if_false, Nat.zero_add, if_neg (show ¬ c = j by omega)]
    · simp only [aSlc, b5, b7, b3, Option.isSome_none, Bool.false_and, Bool.false_eq_true, if_false, Nat.zero_mul, Nat.add_zero, if_neg (show ¬ c = 0 by omega), Nat.sub_zero]
set_option maxHeartbeats 4000000 in
theorem deleteC_spec (σ : Heap) (K : Nat) (cap : Cap) (l : List Cut) (w : List AVal) (opn : Option TypeId) (g : FuncId) (caps : List AVal) (p : Cut → Bool) (hl : l.length ≤ 1000000) (hcap : (cap = .gr 2) ∨ ∃ c, cap = .ex c ∧ l.length ≤ c) (hg : σ.get K = some (.cells (cv l ++ w) opn))
    (hp : ∀ τ, Keep [K] σ τ → ∀ x ∈ l, ACall Tryz.prog g (eCut x :: caps) τ (.bool (p x)) τ) (hKn : K < σ.next) :
    MSpec Tryz.prog n_slices_DeleteFunc_api_Cut_api_Cut [.slc (.new K) 0 l.length cap, .fn g caps] σ fun v τ => v = .slc (.new K) 0 (l.filter (fun x => !p x)).length cap ∧ Keep [K] σ τ ∧ ∃ w', τ.get K = some (.cells (cv (l.filter (fun x => !p x)) ++ w') opn) := by
  refine spec_of_awp mixed c_slices_DeleteFunc_api_Cut_api_Cut (tl rfl) ?_
  unfold f_slices_DeleteFunc_api_Cut_api_Cut
  have hidx := indexC_call σ K cap l w opn g caps p hl hg (hp σ (Keep.refl _ _))
  simp +decide only [↓evd, evw, evz, reduceCtorEq, ↓reduceIte]
  refine MSpec.of hidx ?_
  by_cases h0 : firstC p l 0 = -1
  · have hb : (firstC p l 0 == -1) = true := by simpa using h0
    have hf := firstC_none p l 0 h0
    simp +decide only [↓evd, evw, evz, reduceCtorEq, ↓reduceIte, hb]
    rw [hf]
    exact ⟨rfl, Keep.refl _ _, w, hg⟩
  have hb : (firstC p l 0 == -1) = false := by simpa using h0
  obtain ⟨j0, h1, h2, h3⟩ := firstC_some p l 0 h0
  rw [Nat.zero_add] at h1
  rw [h1] at hb
  have hw0 := wrap_succ (i := j0) (by omega)
  rw [h1]
  simp +decide only [↓evd, evw, evz, reduceCtorEq, ↓reduceIte, hb, hw0]
  refine awp_loop (fun m fr τ => ∃ j kept mid, m + j = l.length ∧ j ≤ l.length ∧ fr.get 0 = .slc (.new K) 0 l.length cap ∧ fr.get 1 = .fn g caps ∧ fr.get 5 = .int .i64 (kept.length : Nat) ∧ fr.get 6 = .int .i64 (j : Nat) ∧ kept = (l.take j).filter (fun x => !p x) ∧ mid ≠ [] ∧ (kept ++ mid).length = j ∧ τ.get K = some (.cells (cv (kept ++ mid ++ l.drop j) ++ w) opn) ∧ Keep [K] σ τ) ?_ (m := l.length - (j0 + 1)) ?_
  · rintro m fr τ ⟨j, kept, mid, hm, hjl, e0, e1, e5, e6, hk, hmid, hkm, hcs, hK⟩
    by_cases hlt : j < l.length
    · have hlt' : (j : Int) < (l.length : Int) := by omega
      have hs := wrap_succ (i := j) (by omega)
      have hlen : (kept ++ mid ++ l.drop j).length = l.length := by rw [List.length_append, hkm, List.length_drop]; omega
      have hgx : (kept ++ mid ++ l.drop j)[j]'(by omega) = l[j] := by
        rw [List.getElem_append_right (by omega)]
        simp only [hkm, Nat.sub_self, List.getElem_drop, Nat.add_zero]
      obtain ⟨hg0, hg1⟩ := cv_get (w := w) (show j < (kept ++ mid ++ l.drop j).length by omega)
      rw [hgx] at hg0 hg1
      have hmem := List.getElem_mem hlt
      have htk : (l.take (j + 1)).filter (fun x => !p x) = kept ++ (if !p l[j] then [l[j]] else []) := by rw [takeC_filter _ hlt, ← hk]
      have hdr := List.drop_eq_getElem_cons hlt
      have hKlt : K < τ.next := by have := hK.2.2.1; omega
      have hk1 : ∀ x : Cut, Keep [K] σ ((τ.new (.cells [.int .i64 0, .int .i64 0] none)).set τ.next (.cells [.int .i64 x.rev, .int .i64 x.group] none)) := fun x => by
        refine ⟨hK.1, hK.2.1, Nat.le_succ_of_le hK.2.2.1, fun q hq hn => ?_⟩
        have := hK.2.2.1
        rw [Heap.get_set, if_neg (by omega), Heap.get_new, if_neg (by omega)]
        exact hK.2.2.2 q hq hn
      have hpx := hp _ (hk1 l[j]) _ hmem
      generalize l[j] = x at hg0 hg1 hpx htk hdr hmem
      simp only [eCut] at hpx
      have hKne : (τ.next = K) = False := eq_false (by omega)
      have hKne2 : (K = τ.next) = False := eq_false (by omega)
      simp +decide only [↓evd, evw, evz, reduceCtorEq, ↓reduceIte, e0, e1, e5, e6, hlt', hcs, hg0, hg1]
      refine MSpec.of hpx ?_
      cases hpb : p x with
      | true =>
        rw [hpb] at htk
        simp only [Bool.not_true, Bool.false_eq_true, if_false, List.append_nil] at htk
        simp +decide only [↓evd, evw, evz, reduceCtorEq, ↓reduceIte, e0, e1, e5, e6, hs]
        refine ⟨m - 1, by omega, j + 1, kept, mid ++ [x], by omega, by omega, rfl, rfl, htk.symm, by simp, by simp at hkm ⊢; omega, ?_, hk1 x⟩
        rw [if_neg (by omega), if_neg (by omega), hcs, hdr]; simp
      | false =>
        rw [hpb] at htk
        simp only [Bool.not_false, if_true] at htk
        obtain ⟨y, mid', rfl⟩ : ∃ y mid', mid = y :: mid' := by
          cases mid with
          | nil => exact absurd rfl hmid
          | cons y mid' => exact ⟨y, mid', rfl⟩
        have hkl : kept.length < l.length := by simp at hkm; omega
        have hkl' : (kept.length : Int) < (l.length : Int) := by omega
        have hs2 := wrap_succ (i := kept.length) (by omega)
        have hle : decide (kept.length * 2 + 2 ≤ (cv (kept ++ y :: mid' ++ l.drop j) ++ w).length) = true := by
          rw [List.length_append, cv_len, hlen]; simp; omega
        have hov := cv_set (w := w) x (show kept.length < (kept ++ y :: mid' ++ l.drop j).length by omega)
        have hset : (kept ++ y :: mid' ++ l.drop j).set kept.length x = kept ++ [x] ++ (mid' ++ [x]) ++ l.drop (j + 1) := by
          rw [hdr, List.append_assoc, List.set_append_right _ _ (Nat.le_refl _)]
          simp
        rw [hset] at hov
        simp +decide only [↓evd, evw, evz, reduceCtorEq, ↓reduceIte, e0, e1, e5, e6, hkl', hKne, hcs, hle, hov, hs, hs2]
        refine ⟨m - 1, by omega, j + 1, kept ++ [x], mid' ++ [x], by omega, by omega, by simp, rfl, htk.symm, by simp, by simp at hkm ⊢; omega, ?_, (hk1 x).set (.inl (by simp)) _⟩
        rfl
    · have hjl2 : j = l.length := by omega
      subst hjl2
      have hlt' : ¬ (l.length : Int) < (l.length : Int) := by omega
      rw [List.take_length] at hk
      rw [List.drop_length, List.append_nil] at hcs
      have hkl : kept.length < l.length := by
        have : 0 < mid.length := List.length_pos_iff.2 hmid
        simp at hkm; omega
      obtain ⟨⟨cap', q1⟩, q2⟩ := row_parts (K := K) hcap hkl
      have hcvl : (cv (kept ++ mid) ++ w).length = l.length * 2 + w.length := by rw [List.length_append, cv_len, hkm]
      have hzl : ((List.replicate (l.length - kept.length) [AVal.int IntKind.i64 0, AVal.int IntKind.i64 0]).flatten).length = (l.length - kept.length) * 2 := by simp
      have hzc : ((List.replicate (l.length - kept.length) [AVal.int IntKind.i64 0, AVal.int IntKind.i64 0]).flatten).all AVal.isCell = true := by simp [AVal.isCell]
      obtain ⟨zs, hze⟩ : ∃ zs, (List.replicate (l.length - kept.length) [AVal.int IntKind.i64 0, AVal.int IntKind.i64 0]).flatten = zs := ⟨_, rfl⟩
      rw [hze] at hzl hzc
      have hle : decide (kept.length * 2 + (l.length - kept.length) * 2 ≤ l.length * 2 + w.length) = true := by simp; omega
      have htake : (cv (kept ++ mid) ++ w).take (kept.length * 2) = cv kept := by
        rw [cv_append, List.append_assoc, List.take_append_of_le_length (by rw [cv_len]; exact Nat.le_refl _), List.take_of_length_le (by rw [cv_len]; exact Nat.le_refl _)]
      simp +decide only [↓evd, evw, evz, reduceCtorEq, ↓reduceIte, e0, e1, e5, e6, hlt', q1, hcs, hze, hzl, hzc, hcvl, hle, htake, q2]
      rw [← hk]
      refine ⟨rfl, hK.set (.inl (by simp)) _, zs ++ (cv (kept ++ mid) ++ w).drop (kept.length * 2 + (l.length - kept.length) * 2), ?_⟩
      rw [List.append_assoc]
  · refine ⟨j0 + 1, l.take j0, [l[j0]], by omega, by omega, ?_⟩
    have hlj : (l.take j0).length = j0 := by simp; omega
    have happ : l.take j0 ++ [l[j0]] = l.take (j0 + 1) := (List.take_succ_eq_append_getElem h2).symm
    simp +decide only [↓evd, evw, evz, reduceCtorEq, ↓reduceIte, hlj]
    refine ⟨h3.symm, by rw [happ, List.length_take]; omega, by rw [happ, List.take_append_drop]; exact hg, Keep.refl _ _⟩
theorem index_emp (σ : Heap) (g : FuncId) (caps : List AVal) : ACall Tryz.prog n_slices_IndexFunc_api_Cut_api_Cut [.emp0, .fn g caps] σ (.int .i64 (-1)) σ := by
  refine exact_call (spec_of_awp mixed c_slices_IndexFunc_api_Cut_api_Cut (tl rfl) ?_)
  unfold f_slices_IndexFunc_api_Cut_api_Cut
  simp +decide only [↓evd, evw, evz, reduceCtorEq, ↓reduceIte]
  refine awp_loop_unroll ?_
  simp +decide only [↓evd, evw, evz, reduceCtorEq, ↓reduceIte]
theorem delete_emp (σ : Heap) (g : FuncId) (caps : List AVal) : ACall Tryz.prog n_slices_DeleteFunc_api_Cut_api_Cut [.emp0, .fn g caps] σ .emp0 σ := by
  refine exact_call (spec_of_awp mixed c_slices_DeleteFunc_api_Cut_api_Cut (tl rfl) ?_)
  unfold f_slices_DeleteFunc_api_Cut_api_Cut
  have hb : ((-1 : Int) == -1) = true := rfl
  simp +decide only [↓evd, evw, evz, reduceCtorEq, ↓reduceIte]
  refine MSpec.of (index_emp σ g caps) ?_
  simp +decide only [↓evd, evw, evz, reduceCtorEq, ↓reduceIte, hb]
theorem delete_own {B : Nat} {σ : Heap} {z : AVal} {cs : List Cut} (h : CutOwn B σ z cs) (hl : cs.length ≤ 1000000) (g : FuncId) (caps : List AVal) (p : Cut → Bool) (hp : ∀ τ, Keep (uid z) σ τ → ∀ x ∈ cs, ACall Tryz.prog g (eCut x :: caps) τ (.bool (p x)) τ) :
    ∃ τ, ACall Tryz.prog n_slices_DeleteFunc_api_Cut_api_Cut [z, .fn g caps] σ (eCuts (cs.filter fun x => !p x)) τ ∧ Keep (uid z) σ τ := by
  rcases h with ⟨rfl, rfl⟩ | ⟨h0, h⟩
  · exact ⟨σ, acall_see (delete_emp σ g caps) (Sees.emp0 σ 2), Keep.refl _ _⟩
  · rcases h.2 with ⟨rfl, h1⟩ | ⟨K, cap, cs', opn, rfl, hg, ht, hB, hK, hcap⟩
    · simp at h1; exact absurd h1 h0
    rw [List.length_map] at ht hcap
    rw [List.length_map] at hp ⊢
    rw [cv_flat] at ht
    have hsplit : cs' = cv cs ++ cs'.drop (cs.length * 2) := by rw [← ht, List.take_append_drop]
    rw [hsplit] at hg
    have hcap' : (cap = .gr 2) ∨ ∃ c, cap = .ex c ∧ cs.length ≤ c := by
      rcases hcap with ⟨h1, _⟩ | ⟨c, h1, h2, _⟩
      · exact .inl h1
      · exact .inr ⟨c, h1, h2⟩
    obtain ⟨v, τ, hc, rfl, hk, w', hw⟩ := deleteC_spec σ K cap cs _ opn g caps p hl hcap' hg hp hK
    have hfl : (cs.filter fun x => !p x).length ≤ cs.length := List.length_filter_le _ _
    refine ⟨τ.set K .dead, acall_see hc ?_, hk.set (.inl (by simp)) _⟩
    refine Sees.own hw (by simp) (cuts_row _) ?_ ?_
    · rw [List.drop_zero, cv_flat, List.take_append_of_le_length (by rw [cv_len]; exact Nat.le_refl _), List.take_of_length_le (by rw [cv_len]; exact Nat.le_refl _)]
    · intro c hc2
      rcases hcap' with h1 | ⟨c', h1, h2⟩
      · rw [h1] at hc2; cases hc2
      · rw [h1] at hc2; cases hc2; omega
def goneG (gs u : List Int) (g : Int) : Bool := decide (g ∈ gs) && decide (g ∈ u)
def staysG (gs u : List Int) (g : Int) : Bool := decide (g ∈ gs) && !decide (g ∈ u)
def restA (gs u : List Int) (a : Atom) : Option Atom :=
  if (goneG gs u a.group || a.cuts.any fun c => staysG gs u c.group) = true then none else
  some { a with cuts := a.cuts.filter (fun c => !goneG gs u c.group), group := if a.group ∈ gs then -1 else a.group }
def restL (gs u : List Int) (l : List Atom) : List Atom := l.filterMap (restA gs u)
section
variable {σ : Heap} {b4 b5 b7 b8 : Nat} {gs u : List Int}
theorem rest1_call (h4 : σ.get b4 = some (.cells [ints gs] none)) (h5 : σ.get b5 = some (.cells [ints u] none)) (hg : gs.length ≤ 1000000) (hu : u.length ≤ 1000000) (g : Int) : ACall Tryz.prog n_engine_rest_1 [.int .i64 g, .ptr (.new b4) 0, .ptr (.new b5) 0] σ (.bool (goneG gs u g)) σ := by
  refine exact_call (spec_of_awp mixed c_engine_rest_1 (tl rfl) ?_)
  unfold f_engine_rest_1
  have hc1 := contains_call σ gs g (by omega)
  have hc2 := contains_call σ u g (by omega)
  simp only [ints] at h4 h5 hc1 hc2
  simp +decide only [↓evd, evw, evz, reduceCtorEq, ↓reduceIte, h4]
  refine MSpec.of hc1 ?_
  by_cases h : g ∈ gs
  · simp +decide only [↓evd, evw, evz, reduceCtorEq, ↓reduceIte, mem_bool h, h5]
    refine MSpec.of hc2 ?_
    simp +decide only [↓evd, evw, evz, reduceCtorEq, ↓reduceIte, goneG, mem_bool h]
  · simp +decide only [↓evd, evw, evz, reduceCtorEq, ↓reduceIte, not_mem_bool h, goneG]
theorem rest2_call (h4 : σ.get b4 = some (.cells [ints gs] none)) (h5 : σ.get b5 = some (.cells [ints u] none)) (hg : gs.length ≤ 1000000) (hu : u.length ≤ 1000000) (g : Int) : ACall Tryz.prog n_engine_rest_2 [.int .i64 g, .ptr (.new b4) 0, .ptr (.new b5) 0] σ (.bool (staysG gs u g)) σ := by
  refine exact_call (spec_of_awp mixed c_engine_rest_2 (tl rfl) ?_)
  unfold f_engine_rest_2
  have hc1 := contains_call σ gs g (by omega)
  have hc2 := contains_call σ u g (by omega)
  simp only [ints] at h4 h5 hc1 hc2
  simp +decide only [↓evd, evw, evz, reduceCtorEq, ↓reduceIte, h4]
  refine MSpec.of hc1 ?_
  by_cases h : g ∈ gs
  · simp +decide only [↓evd, evw, evz, reduceCtorEq, ↓reduceIte, mem_bool h, h5]
    refine MSpec.of hc2 ?_
    simp +decide only [↓evd, evw, evz, reduceCtorEq, ↓reduceIte, staysG, mem_bool h]
  · simp +decide only [↓evd, evw, evz, reduceCtorEq, ↓reduceIte, not_mem_bool h, staysG]
theorem rest3_call (h8 : σ.get b8 = some (.cells [.fn n_engine_rest_2 [.ptr (.new b4) 0, .ptr (.new b5) 0]] none)) (h4 : σ.get b4 = some (.cells [ints gs] none)) (h5 : σ.get b5 = some (.cells [ints u] none)) (l8 : b8 < σ.next) (l4 : b4 < σ.next) (l5 : b5 < σ.next) (hg : gs.length ≤ 1000000) (hu : u.length ≤ 1000000) (c : Cut) :
    ACall Tryz.prog n_engine_rest_3 [eCut c, .ptr (.new b8) 0] σ (.bool (staysG gs u c.group)) σ := by
  refine gc_call rfl (spec_of_awp mixed c_engine_rest_3 (tl rfl) ?_)
  unfold f_engine_rest_3
  have hc := rest2_call (σ := σ.new (.cells [.int .i64 c.rev, .int .i64 c.group] none)) (b4 := b4) (b5 := b5) (gs := gs) (u := u) (by rw [new_get l4]; exact h4) (by rw [new_get l5]; exact h5) hg hu c.group
  have e8 : (σ.next = b8) = False := lt_next l8
  simp +decide only [↓evd, evw, evz, reduceCtorEq, ↓reduceIte, e8, h8]
  refine MSpec.of hc ?_
  simp +decide only [↓evd, evw, evz, reduceCtorEq, ↓reduceIte]
  exact fun k hk => by rw [if_neg (by omega)]
theorem rest4_call (h7 : σ.get b7 = some (.cells [.fn n_engine_rest_1 [.ptr (.new b4) 0, .ptr (.new b5) 0]] none)) (h4 : σ.get b4 = some (.cells [ints gs] none)) (h5 : σ.get b5 = some (.cells [ints u] none)) (l7 : b7 < σ.next) (l4 : b4 < σ.next) (l5 : b5 < σ.next) (hg : gs.length ≤ 1000000) (hu : u.length ≤ 1000000) (c : Cut) :
    ACall Tryz.prog n_engine_rest_4 [eCut c, .ptr (.new b7) 0] σ (.bool (goneG gs u c.group)) σ := by
  refine gc_call rfl (spec_of_awp mixed c_engine_rest_4 (tl rfl) ?_)
  unfold f_engine_rest_4
  have hc := rest1_call (σ := σ.new (.cells [.int .i64 c.rev, .int .i64 c.group] none)) (b4 := b4) (b5 := b5) (gs := gs) (u := u) (by rw [new_get l4]; exact h4) (by rw [new_get l5]; exact h5) hg hu c.group
  have e7 : (σ.next = b7) = False := lt_next l7
  simp +decide only [↓evd, evw, evz, reduceCtorEq, ↓reduceIte, e7, h7]
  refine MSpec.of hc ?_
  simp +decide only [↓evd, evw, evz, reduceCtorEq, ↓reduceIte]
  exact fun k hk => by rw [if_neg (by omega)]
end
theorem slc_to {K n i k : Nat} (h : i ≤ n) : aSlc k (.slc (.new K) 0 n (.ex n)) none (some (.int .i64 (i : Nat))) none = some (.slc (.new K) 0 i (.ex n)) := by
  have b3 : aBound none n n = some n := rfl
  have b1 : aBound (some (.int .i64 (i : Nat))) n n = some i := by simp only [aBound]; rw [if_pos (by simp; omega)]; rfl
  have b4 : aBound none 0 i = some 0 := rfl
  simp only [aSlc, b3, b1, b4, Option.isSome_none, Bool.false_and, Bool.false_eq_true, if_false, Nat.zero_mul, Nat.add_zero, Nat.sub_zero, ite_self]
theorem copy_one {σ : Heap} {K B n i : Nat} {F r : List AVal} {c0 c1 c2 c3 c4 : AVal} {cap1 cap2 : Cap} (hK : σ.get K = some (.cells (F ++ r) none)) (hB : σ.get B = some (.cells [c0, c1, c2, c3, c4] none)) (hF : F.length = i * 5) (hr : r.length = (n - i) * 5) (hi : i < n) (hc : [c0, c1, c2, c3, c4].all AVal.isCell = true) :
    aCopy 5 (.slc (.new K) (i * 5) (n - i) cap1) (.slc (.new B) 0 1 cap2) σ = some (.int .i64 1, σ.set K (.cells (F ++ [c0, c1, c2, c3, c4] ++ r.drop 5) none)) := by
  have h1 := cellsFrom_whole hB
  have hm : min 1 (n - i) = 1 := by omega
  simp only [aCopy, aSLen, aLenOf, hm, srcCells, slcCells, Nat.le_refl, if_true, Nat.one_mul]
  rw [show cellsFrom σ (.new B) 0 5 = some [c0, c1, c2, c3, c4] from h1]
  simp only [show ¬ (1 : Nat) = 0 by decide, if_false, storeAt, hK]
  rw [if_pos (by simp only [hc, Bool.and_true, decide_eq_true_eq, List.length_append, hF, hr, List.length_cons, List.length_nil]; omega)]
  simp only [Option.map_some, over, ← hF, List.take_left]
  simp only [List.length_cons, List.length_nil, Nat.zero_add, Nat.reduceAdd]
  rw [List.drop_append, List.drop_eq_nil_of_le (show F.length ≤ F.length + 5 by omega)]
  simp
theorem restL_take {gs u : List Int} {l : List Atom} {i : Nat} (h : i < l.length) : restL gs u (l.take (i + 1)) = restL gs u (l.take i) ++ (restA gs u l[i]).toList := by
  rw [restL, List.take_succ_eq_append_getElem h, List.filterMap_append]
  congr 1
theorem restL_len (gs u : List Int) (l : List Atom) : (restL gs u l).length ≤ l.length := List.length_filterMap_le _ _
set_option maxHeartbeats 8000000 in
theorem rest_call (σ : Heap) (l : List Atom) (gs u : List Int) (hg : gs.length ≤ 1000000) (hu : u.length ≤ 1000000) (hl : l.length ≤ 1000000) (hc : ∀ a ∈ l, a.cuts.length ≤ 1000000) :
    ACall Tryz.prog n_engine_rest [eAtoms l, ints gs, ints u] σ (eAtoms (restL gs u l)) σ := by
  refine bare_call (by simp only [AVal.pures, eAtoms_pure, ints_pure]; rfl) (eAtoms_pure _) (fun W F => spec_of_awp mixed c_engine_rest (tl rfl) ?_) σ
  unfold f_engine_rest
  have hm0 : (0 : Int) ≤ (l.length : Int) := by omega
  have hm2 : l.length * 64 ≤ maxRoom := by unfold maxRoom; omega
  have hm4 : l.length ≤ maxRoom := by unfold maxRoom; omega
  have hm3 : (l.length : Int) ≤ 2 ^ 62 := by omega
  simp +decide only [↓evd, evw, evz, reduceCtorEq, ↓reduceIte, hm0, hm2, hm3, hm4]
  have hc0 : ((List.replicate l.length [AVal.str [], AVal.int IntKind.i64 0, AVal.int IntKind.i64 0, AVal.int IntKind.i64 0, AVal.nils]).flatten).length = l.length * 5 := by
    exact repl_len l.length _
  generalize (List.replicate l.length [AVal.str [], AVal.int IntKind.i64 0, AVal.int IntKind.i64 0, AVal.int IntKind.i64 0, AVal.nils]).flatten = cs0 at hc0
  refine awp_loop (fun m fr τ => ∃ (i : Nat) (r : List AVal), m + i = l.length ∧ fr.get 4 = .ptr (.new 0) 0 ∧ fr.get 7 = .ptr (.new 2) 0 ∧ fr.get 8 = .ptr (.new 3) 0 ∧ fr.get 9 = .slc (.new 4) 0 l.length (.ex l.length) ∧ fr.get 10 = .int .i64 ((restL gs u (l.take i)).length : Nat) ∧ fr.get 18 = eAtoms l ∧ fr.get 19 = .int .i64 (l.length : Nat) ∧ fr.get 20 = .int .i64 (i : Nat) ∧
    τ.get 0 = some (.cells [ints gs] none) ∧ τ.get 1 = some (.cells [ints u] none) ∧ τ.get 2 = some (.cells [.fn n_engine_rest_1 [.ptr (.new 0) 0, .ptr (.new 1) 0]] none) ∧ τ.get 3 = some (.cells [.fn n_engine_rest_2 [.ptr (.new 0) 0, .ptr (.new 1) 0]] none) ∧
    τ.get 4 = some (.cells (((restL gs u (l.take i)).map eAtom).flatMap AVal.cells ++ r) none) ∧ r.length = (l.length - (restL gs u (l.take i)).length) * 5 ∧ 5 ≤ τ.next ∧ τ.W = W ∧ τ.F0 = F) ?_ (m := l.length) ?_
  · rintro m fr τ ⟨i, r, hi, e4, e7, e8, e9, e10, e18, e19, e20, g0, g1, g2, g3, g4, hr, hn5, hW, hF⟩
    by_cases hlt : i < l.length
    · have hlt' : (i : Int) < (l.length : Int) := by omega
      have hs := wrap_succ (i := i) (by omega)
      have hgt := map_get eAtom l i hlt
      have hrt := restL_take (gs := gs) (u := u) hlt
      have hcl := hc _ (List.getElem_mem hlt)
      have hdl : (restL gs u (l.take i)).length ≤ i := by have := restL_len gs u (l.take i); rw [List.length_take] at this; omega
      generalize l[i] = a at hgt hrt hcl
      obtain ⟨A, hA⟩ : ∃ A, τ.next = A := ⟨_, rfl⟩
      have hk1 : Keep [] τ ((τ.new (.cells [.str [], .int .i64 0, .int .i64 0, .int .i64 0, .nils] none)).set τ.next (.cells [.str a.text, .int .i64 a.rev, .int .i64 a.group, .int .i64 a.rank, eCuts a.cuts] none)) := (Keep.refl _ _).junk _ _
      have hAget : ((τ.new (.cells [.str [], .int .i64 0, .int .i64 0, .int .i64 0, .nils] none)).set τ.next (.cells [.str a.text, .int .i64 a.rev, .int .i64 a.group, .int .i64 a.rank, eCuts a.cuts] none)).get τ.next = some (.cells [.str a.text, .int .i64 a.rev, .int .i64 a.group, .int .i64 a.rank, eCuts a.cuts] none) := by rw [Heap.get_set, if_pos rfl]
      have hnx : ((τ.new (.cells [.str [], .int .i64 0, .int .i64 0, .int .i64 0, .nils] none)).set τ.next (.cells [.str a.text, .int .i64 a.rev, .int .i64 a.group, .int .i64 a.rank, eCuts a.cuts] none)).next = τ.next + 1 := by simp
      obtain ⟨τa, hτa⟩ : ∃ τa, (τ.new (.cells [.str [], .int .i64 0, .int .i64 0, .int .i64 0, .nils] none)).set τ.next (.cells [.str a.text, .int .i64 a.rev, .int .i64 a.group, .int .i64 a.rank, eCuts a.cuts] none) = τa := ⟨_, rfl⟩
      rw [hτa] at hk1 hAget hnx
      have a0 : τa.get 0 = some (.cells [ints gs] none) := by rw [hk1.get (by omega)]; exact g0
      have a1 : τa.get 1 = some (.cells [ints u] none) := by rw [hk1.get (by omega)]; exact g1
      have a2 : τa.get 2 = some (.cells [.fn n_engine_rest_1 [.ptr (.new 0) 0, .ptr (.new 1) 0]] none) := by rw [hk1.get (by omega)]; exact g2
      have a3 : τa.get 3 = some (.cells [.fn n_engine_rest_2 [.ptr (.new 0) 0, .ptr (.new 1) 0]] none) := by rw [hk1.get (by omega)]; exact g3
      have a4 : τa.get 4 = some (.cells (((restL gs u (l.take i)).map eAtom).flatMap AVal.cells ++ r) none) := by rw [hk1.get (by omega)]; exact g4
      have hWa : τa.W = W := hk1.1.trans hW
      have hFa : τa.F0 = F := hk1.2.1.trans hF
      have c1 := rest1_call a0 a1 hg hu a.group
      have c2 := containsFunc_call τa a.cuts n_engine_rest_3 [.ptr (.new 3) 0] (fun c => staysG gs u c.group) (by omega) (fun c _ => rest3_call a3 a0 a1 (by omega) (by omega) (by omega) hg hu c)
      rw [hA] at hAget hnx hτa
      simp only [eCuts] at c2 hAget hτa
      simp +decide only [↓evd, evw, evz, reduceCtorEq, ↓reduceIte, e4, e7, e8, e9, e10, e18, e19, e20, hlt', hgt, hA, hτa, a2, hAget]
      refine MSpec.of c1 ?_
      cases hgone : goneG gs u a.group with
      | true =>
        have hra : restA gs u a = none := by rw [restA, hgone, Bool.true_or, if_pos rfl]
        rw [hra, Option.toList_none, List.append_nil] at hrt
        simp +decide only [↓evd, evw, evz, reduceCtorEq, ↓reduceIte, e4, e7, e8, e9, e10, e18, e19, e20, hs]
        rw [← hrt] at a4 hr
        exact ⟨m - 1, by omega, i + 1, r, by omega, by rw [hrt], rfl, a0, a1, a2, a3, a4, hr, by omega, hWa, hFa⟩
      | false =>
      simp +decide only [↓evd, evw, evz, reduceCtorEq, ↓reduceIte, e4, e7, e8, e9, e10, e18, e19, e20, hAget]
      refine MSpec.of c2 ?_
      cases hany : a.cuts.any (fun c => staysG gs u c.group) with
      | true =>
        have hra : restA gs u a = none := by rw [restA, hgone, hany]; rfl
        rw [hra, Option.toList_none, List.append_nil] at hrt
        simp +decide only [↓evd, evw, evz, reduceCtorEq, ↓reduceIte, e4, e7, e8, e9, e10, e18, e19, e20, hs]
        rw [← hrt] at a4 hr
        exact ⟨m - 1, by omega, i + 1, r, by omega, by rw [hrt], rfl, a0, a1, a2, a3, a4, hr, by omega, hWa, hFa⟩
      | false =>
      have hra : restA gs u a = some { a with cuts := a.cuts.filter (fun c => !goneG gs u c.group), group := if a.group ∈ gs then -1 else a.group } := by rw [restA, hgone, hany]; rfl
      rw [hra, Option.toList_some] at hrt
      have hcc := clone_cut τa a.cuts (by omega)
      simp only [eCuts] at hcc
      simp +decide only [↓evd, evw, evz, reduceCtorEq, ↓reduceIte, e4, e7, e8, e9, e10, e18, e19, e20, hAget]
      refine hcc.mono ?_
      rintro z τ1 ⟨hz, hk2⟩
      have k2 := fun q (hq : q < A + 1) => hk2.get (k := q) (by omega)
      have hz1 := hz.low
      obtain ⟨τ2, hdel, hk3⟩ := delete_own hz (by omega) n_engine_rest_4 [.ptr (.new 2) 0] (fun c => goneG gs u c.group) (fun ρ hkρ c _ => by
        have hget : ∀ q, q < A + 1 → ρ.get q = τa.get q := fun q hq => by
          rw [hkρ.2.2.2 q (by have := hk2.2.2.1; omega) (fun hm => by have := (hz1 q hm).1; omega), k2 q hq]
        have hnρ := hkρ.2.2.1
        have hn1 := hk2.2.2.1
        exact rest4_call (by rw [hget 2 (by omega)]; exact a2) (by rw [hget 0 (by omega)]; exact a0) (by rw [hget 1 (by omega)]; exact a1) (by omega) (by omega) (by omega) hg hu c)
      have hget : ∀ q, q < A + 1 → τ2.get q = τa.get q := fun q hq => by
        rw [hk3.2.2.2 q (by have := hk2.2.2.1; omega) (fun hm => by have := (hz1 q hm).1; omega), k2 q hq]
      have hn2 : A + 1 ≤ τ2.next := by have := hk2.2.2.1; have := hk3.2.2.1; omega
      have d0 : τ2.get 0 = some (.cells [ints gs] none) := by rw [hget 0 (by omega)]; exact a0
      have dA : τ2.get A = some (.cells [.str a.text, .int .i64 a.rev, .int .i64 a.group, .int .i64 a.rank, .fsl 2 (a.cuts.map eCut)] none) := by rw [hget A (by omega)]; exact hAget
      have d4 : τ2.get 4 = some (.cells (((restL gs u (l.take i)).map eAtom).flatMap AVal.cells ++ r) none) := by rw [hget 4 (by omega)]; exact a4
      have hW2 : τ2.W = W := hk3.1.trans (hk2.1.trans hWa)
      have hF2 : τ2.F0 = F := hk3.2.1.trans (hk2.2.1.trans hFa)
      have fA : ∀ q, q < 5 → (A = q) = False := fun q hq => eq_false (by omega)
      have cgs := fun ρ => contains_call ρ gs a.group (by omega)
      simp only [ints] at cgs d0
      generalize hck : a.cuts.filter (fun c => !goneG gs u c.group) = ck at hra hrt hdel
      simp only [eCuts] at hdel
      simp +decide only [↓evd, evw, evz, reduceCtorEq, ↓reduceIte, e4, e7, e8, e9, e10, e18, e19, e20]
      refine MSpec.of hdel ?_
      simp +decide only [↓evd, evw, evz, reduceCtorEq, ↓reduceIte, e4, e7, e8, e9, e10, e18, e19, e20, dA, fA 0 (by omega), d0]
      refine MSpec.of (cgs _) ?_
      have fin : ∀ (gr : Int) (ρ : Heap), gr = (if a.group ∈ gs then -1 else a.group) → ρ.next = τ2.next → ρ.W = W → ρ.F0 = F → (∀ q, q ≠ A → ρ.get q = τ2.get q) →
          ∃ ρ2, aCopy 5 (.slc (.new 4) ((restL gs u (l.take i)).length * 5) (l.length - (restL gs u (l.take i)).length) (.ex (l.length - (restL gs u (l.take i)).length))) (.slc (.new ρ.next) 0 1 (.ex 1)) (ρ.new (.cells [.str a.text, .int .i64 a.rev, .int .i64 gr, .int .i64 a.rank, .fsl 2 (ck.map eCut)] none)) = some (.int .i64 1, ρ2) ∧
          (∀ q, q ≠ 4 → q < A → ρ2.get q = τ2.get q) ∧ ρ2.get A = ρ.get A ∧ ρ2.get 4 = some (.cells (((restL gs u (l.take (i + 1))).map eAtom).flatMap AVal.cells ++ r.drop 5) none) ∧ ρ2.W = W ∧ ρ2.F0 = F ∧ 5 ≤ ρ2.next := by
        intro gr ρ hgr hnρ hWρ hFρ hgρ
        have h4 : (ρ.new (.cells [.str a.text, .int .i64 a.rev, .int .i64 gr, .int .i64 a.rank, .fsl 2 (ck.map eCut)] none)).get 4 = some (.cells (((restL gs u (l.take i)).map eAtom).flatMap AVal.cells ++ r) none) := by
          rw [Heap.get_new, if_neg (by omega), hgρ 4 (by omega)]; exact d4
        have hfl := flat_len (atoms_row (restL gs u (l.take i)))
        rw [List.length_map] at hfl
        refine ⟨_, copy_one h4 (by rw [Heap.get_new, if_pos rfl]) hfl hr (by omega) rfl, ?_, ?_, ?_, ?_, ?_, ?_⟩
        · intro q h1 h2
          rw [Heap.get_set, if_neg (fun e => h1 e.symm), Heap.get_new, if_neg (by omega), hgρ q (by omega)]
        · rw [Heap.get_set, if_neg (by omega), Heap.get_new, if_neg (by omega)]
        · rw [Heap.get_set, if_pos rfl, hrt, List.map_append, List.flatMap_append, hgr]
          simp only [List.map_cons, List.map_nil, List.flatMap_cons, List.flatMap_nil, List.append_nil]
          rfl
        · rw [Heap.set_W, Heap.new_W]; exact hWρ
        · rw [Heap.set_F0, Heap.new_F0]; exact hFρ
        · simp only [Heap.set_next, Heap.new_next, hnρ]; omega
      have hq1 : aSlc 5 (.slc (.new 4) 0 l.length (.ex l.length)) (some (.int .i64 ((restL gs u (l.take i)).length : Nat))) none none = some (.slc (.new 4) ((restL gs u (l.take i)).length * 5) (l.length - (restL gs u (l.take i)).length) (.ex (l.length - (restL gs u (l.take i)).length))) := by
        have := (row_parts (K := 4) (n := l.length) (j := (restL gs u (l.take i)).length) (k := 5) (cap := .ex l.length) (.inr ⟨_, rfl, Nat.le_refl _⟩) (by omega))
        have b3 : aBound none l.length l.length = some l.length := rfl
        have b2 : aBound (some (.int .i64 ((restL gs u (l.take i)).length : Nat))) 0 l.length = some (restL gs u (l.take i)).length := by simp only [aBound]; rw [if_pos (by simp; omega)]; rfl
        simp only [aSlc, b3, b2, Option.isSome_none, Bool.false_and, Bool.false_eq_true, if_false, Nat.zero_add, if_neg (show ¬ l.length = (restL gs u (l.take i)).length by omega)]
      have hlen1 : (restL gs u (l.take (i + 1))).length = (restL gs u (l.take i)).length + 1 := by rw [hrt, List.length_append]; rfl
      have hw1 := wrap_succ (i := (restL gs u (l.take i)).length) (by omega)
      have hrd : (r.drop 5).length = (l.length - (restL gs u (l.take (i + 1))).length) * 5 := by rw [List.length_drop, hr, hlen1]; omega
      have hAn : (τ2.next = A) = False := eq_false (by omega)
      have key : ∀ ρ2 : Heap, (∀ q, q ≠ 4 → q < A → ρ2.get q = τ2.get q) → ρ2.get 0 = some (.cells [ints gs] none) ∧ ρ2.get 1 = some (.cells [ints u] none) ∧ ρ2.get 2 = some (.cells [.fn n_engine_rest_1 [.ptr (.new 0) 0, .ptr (.new 1) 0]] none) ∧ ρ2.get 3 = some (.cells [.fn n_engine_rest_2 [.ptr (.new 0) 0, .ptr (.new 1) 0]] none) := fun ρ2 h =>
        ⟨by rw [h 0 (by omega) (by omega), hget 0 (by omega)]; exact a0, by rw [h 1 (by omega) (by omega), hget 1 (by omega)]; exact a1, by rw [h 2 (by omega) (by omega), hget 2 (by omega)]; exact a2, by rw [h 3 (by omega) (by omega), hget 3 (by omega)]; exact a3⟩
      by_cases hin : a.group ∈ gs
      · obtain ⟨ρ2, f1, f2, fAA, f3, f4, f5, f6⟩ := fin (-1) ((τ2.set A (.cells [.str a.text, .int .i64 a.rev, .int .i64 a.group, .int .i64 a.rank, .fsl 2 (ck.map eCut)] none)).set A (.cells [.str a.text, .int .i64 a.rev, .int .i64 (-1), .int .i64 a.rank, .fsl 2 (ck.map eCut)] none)) (by rw [if_pos hin]) rfl hW2 hF2 (fun q hq => by rw [Heap.get_set, if_neg (fun e => hq e.symm), Heap.get_set, if_neg (fun e => hq e.symm)])
        simp only [Heap.set_next] at f1
        obtain ⟨k0, k1, k2', k3⟩ := key ρ2 f2
        simp +decide only [↓evd, evw, evz, reduceCtorEq, ↓reduceIte, e4, e7, e8, e9, e10, e18, e19, e20, mem_bool hin]
        with_reducible refine draw_of_grow (fun q => q = A) (ms := [false, false, false, false, false, false, false, false, false]) (by kernel_rfl) ?_
        simp +decide only [↓evd, evw, evz, reduceCtorEq, ↓reduceIte, e4, e7, e8, e9, e10, e18, e19, e20, hq1, hAn]
        refine ⟨.inr (keeps_new (fun q hq => by subst hq; simp only [Heap.set_next]; omega) _), ?_⟩
        simp +decide only [↓evd, evw, evz, reduceCtorEq, ↓reduceIte, e4, e7, e8, e9, e10, e18, e19, e20, f1]
        refine ⟨.inr ⟨by rw [f4, Heap.new_W, Heap.set_W, Heap.set_W, hW2], fun q hq => by subst hq; rw [fAA, Heap.get_new, if_neg (by simp only [Heap.set_next]; omega)]⟩, ?_⟩
        simp +decide only [↓evd, evw, evz, reduceCtorEq, ↓reduceIte, e4, e7, e8, e9, e10, e18, e19, e20, hw1, hs]
        exact ⟨m - 1, by omega, i + 1, _, by omega, by rw [hlen1], rfl, k0, k1, k2', k3, f3, hrd, f6, f4, f5⟩
      · obtain ⟨ρ2, f1, f2, fAA, f3, f4, f5, f6⟩ := fin a.group (τ2.set A (.cells [.str a.text, .int .i64 a.rev, .int .i64 a.group, .int .i64 a.rank, .fsl 2 (ck.map eCut)] none)) (by rw [if_neg hin]) (Heap.set_next _ _ _) hW2 hF2 (fun q hq => by rw [Heap.get_set, if_neg (fun e => hq e.symm)])
        simp only [Heap.set_next] at f1
        obtain ⟨k0, k1, k2', k3⟩ := key ρ2 f2
        simp +decide only [↓evd, evw, evz, reduceCtorEq, ↓reduceIte, e4, e7, e8, e9, e10, e18, e19, e20, not_mem_bool hin]
        with_reducible refine draw_of_grow (fun q => q = A) (ms := [false, false, false, false, false, false, false, false, false]) (by kernel_rfl) ?_
        simp +decide only [↓evd, evw, evz, reduceCtorEq, ↓reduceIte, e4, e7, e8, e9, e10, e18, e19, e20, hq1, hAn]
        refine ⟨.inr (keeps_new (fun q hq => by subst hq; simp only [Heap.set_next]; omega) _), ?_⟩
        simp +decide only [↓evd, evw, evz, reduceCtorEq, ↓reduceIte, e4, e7, e8, e9, e10, e18, e19, e20, f1]
        refine ⟨.inr ⟨by rw [f4, Heap.new_W, Heap.set_W, hW2], fun q hq => by subst hq; rw [fAA, Heap.get_new, if_neg (by simp only [Heap.set_next]; omega)]⟩, ?_⟩
        simp +decide only [↓evd, evw, evz, reduceCtorEq, ↓reduceIte, e4, e7, e8, e9, e10, e18, e19, e20, hw1, hs]
        exact ⟨m - 1, by omega, i + 1, _, by omega, by rw [hlen1], rfl, k0, k1, k2', k3, f3, hrd, f6, f4, f5⟩
    · have hlt' : ¬ (i : Int) < (l.length : Int) := by omega
      rw [List.take_of_length_le (by omega)] at e10 g4 hr
      have hdl := restL_len gs u l
      have hq := slc_to (K := 4) (k := 5) hdl
      simp +decide only [↓evd, evw, evz, reduceCtorEq, ↓reduceIte, e4, e7, e8, e9, e10, e18, e19, e20, hlt', hq]
      have hfl := flat_len (atoms_row (restL gs u l))
      rw [List.length_map] at hfl
      refine ⟨τ.set 4 .dead, Sees.own g4 (by simp) (atoms_row _) ?_ (fun c hc => by cases hc; exact hdl), hW, hF⟩
      rw [List.drop_zero, List.take_append_of_le_length (by omega), List.take_of_length_le (by omega)]
  · refine ⟨0, cs0, by omega, ?_⟩
    simp +decide only [↓evd, evw, evz, reduceCtorEq, ↓reduceIte]
    simp only [List.take_zero, restL, List.filterMap_nil, List.map_nil, List.flatMap_nil, List.nil_append, List.length_nil, Nat.sub_zero]
    exact ⟨rfl, trivial, hc0⟩
structure Step where
  what : Int
  base : Int
  group : Int
  rank : Int
  c : List Chg
  groups : List Int
def eStep (x : Step) : AVal := .agg [.int .i64 x.what, .int .i64 x.base, .int .i64 x.group, .int .i64 x.rank, eChgs x.c, ints x.groups]
def eSteps (l : List Step) : AVal := .fsl 6 (l.map eStep)
def fewOne (x : Step) : Bool := x.c.all (fun c => decide (c.text.length ≤ 60)) && decide (x.c.length ≤ 12) && decide (x.groups.length ≤ 20)
def StepFits (x : Step) : Prop := x.c.length ≤ 9223372036854775807 ∧ x.groups.length ≤ 9223372036854775807
theorem fewOne_iff {x : Step} : fewOne x = true ↔ (∀ c ∈ x.c, c.text.length ≤ 60) ∧ x.c.length ≤ 12 ∧ x.groups.length ≤ 20 := by
  simp only [fewOne, Bool.and_eq_true, List.all_eq_true, decide_eq_true_eq, and_assoc]
def gChg (x : Chg) : Prop := GInt .i64 x.frm ∧ GInt .i64 x.to ∧ GStr x.text
def gStep (x : Step) : Prop := GInt .i64 x.what ∧ GInt .i64 x.base ∧ GInt .i64 x.group ∧ GInt .i64 x.rank ∧ GList gChg x.c ∧ GList (GInt .i64) x.groups
theorem maxLen_le : maxLen ≤ 9223372036854775807 := by decide
theorem steps_fit {l : List Step} (h : GList gStep l) : l.length ≤ 9223372036854775807 ∧ ∀ x ∈ l, StepFits x := by
  have hm := maxLen_le
  refine ⟨Nat.le_trans h.2 hm, fun x hx => ?_⟩
  obtain ⟨_, _, _, _, h5, h6⟩ := h.1 x hx
  exact ⟨Nat.le_trans h5.2 hm, Nat.le_trans h6.2 hm⟩
def letter (j : Nat) : UInt8 := UInt8.ofNat (97 + j % 26)
theorem letter_nat (j : Nat) : (letter j).toNat = 97 + j % 26 := by simp only [letter, UInt8.toNat_ofNat']; omega
def stepM (E : Eng) (j : Nat) (g : Int) : Eng := ⟨⟨[letter j], (j : Int) + 1, g.tmod 10, 0, []⟩ :: E.l, { E.R.push [] with grp := insS (g.tmod 10) E.R.grp }⟩
structure MInv (E : Eng) (j : Nat) : Prop where
  und : E.R.und = List.replicate (j + 1) []
  floor : E.R.floor = 0
  gone : E.R.gone = []
  len : E.l.length = j
  rev : ∀ a ∈ E.l, a.rev ≤ (j : Int)
  grp : ∀ g ∈ E.R.grp, g < 10
  bare : ∀ a ∈ E.l, a.cuts = [] ∧ a.group ∈ E.R.grp
  ok : E.Ok
  R : E.R.Ok
theorem MInv.head {E : Eng} {j : Nat} (h : MInv E j) : E.R.head = j := by simp [Revs.head, h.floor, h.und]
theorem MInv.top {E : Eng} {j : Nat} (h : MInv E j) : E.R.top = [] := by
  simp only [Revs.top, h.und, List.replicate_succ', List.getLastD_eq_getLast?, List.getLast?_append, List.getLast?_singleton]; rfl
theorem MInv.new : MInv Eng.new 0 := ⟨rfl, rfl, rfl, rfl, fun a h => (by cases h), fun a h => (by cases h), fun a h => (by cases h), Eng.new_ok, ⟨by simp [Eng.new, Revs.new], by simp [Eng.new, Revs.new], by intro s hs; simp [Eng.new, Revs.new] at hs; subst hs; exact Rise.nil, Rise.nil, Rise.nil⟩⟩
theorem tmod10 {g : Int} (h : 0 ≤ g) : 0 ≤ g.tmod 10 ∧ g.tmod 10 < 10 := by rw [Int.tmod_eq_emod_of_nonneg h]; omega
theorem MInv.edit {E : Eng} {j : Nat} (h : MInv E j) (hj : j < 100) {g : Int} (hg : 0 ≤ g) : editE E (E.R.head : Nat) (g.tmod 10) 0 [⟨0, 0, [letter j]⟩] = (stepM E j g, (j : Int) + 1, 0) := by
  obtain ⟨g1, g2⟩ := tmod10 hg
  have hh := h.head
  have hl := h.len
  rw [edit_front h.ok h.R (fun a ha => by rw [hh]; exact h.rev a ha) (by rw [letter_nat]; omega) g1 (by omega) (by rw [h.gone]; simp) (by omega) (by omega) (by omega) (by omega), hh, h.top]; rfl
theorem MInv.step {E : Eng} {j : Nat} (h : MInv E j) (hj : j < 100) {g : Int} (hg : 0 ≤ g) : MInv (stepM E j g) (j + 1) := by
  obtain ⟨g1, g2⟩ := tmod10 hg
  have hl := h.len
  have he := h.edit hj hg
  have hok := editE_ok h.ok h.R (E.R.head : Nat) (g.tmod 10) 0 [⟨0, 0, [letter j]⟩]
  rw [he] at hok
  refine ⟨?_, h.floor, h.gone, by simp only [stepM, List.length_cons]; omega, ?_, ?_, ?_, hok, ?_⟩
  · simp only [stepM, Revs.push, h.und]; rw [← List.replicate_succ']
  · intro a ha
    rcases List.mem_cons.1 ha with rfl | ha
    · simp only; omega
    · have := h.rev a ha; omega
  · intro x hx
    rcases mem_insS.1 hx with rfl | hx
    · exact g2
    · exact h.grp x hx
  · intro a ha
    rcases List.mem_cons.1 ha with rfl | ha
    · exact ⟨rfl, mem_insS.2 (.inl rfl)⟩
    · have := h.bare a ha; exact ⟨this.1, mem_insS.2 (.inr this.2)⟩
  · refine ⟨by simp [stepM, Revs.push], ?_, ?_, h.R.grp.ins g1 (by omega), h.R.gone⟩
    · simp only [stepM, Revs.push, h.und, h.floor, List.length_append, List.length_replicate, List.length_cons, List.length_nil]; omega
    · intro s hs
      simp only [stepM, Revs.push, h.und, List.mem_append, List.mem_replicate, List.mem_singleton] at hs
      rcases hs with ⟨_, rfl⟩ | rfl <;> exact Rise.nil
def togsE (E : Eng) : List Int → Eng × Int
  | [] => (E, 0)
  | g :: l => if (toggleE E g).2.2 ≠ 0 then (E, (toggleE E g).2.2) else togsE (toggleE E g).1 l
def allE (E : Eng) (l : List Int) : Eng × Int × Int := if (togsE E l).2 ≠ 0 then (E, 0, (togsE E l).2) else ((togsE E l).1, ((togsE E l).1.R.head : Nat), 0)
theorem Keep.fresh {σ τ ρ : Heap} {fp : List Nat} (h : Keep [] σ τ) (h' : Keep fp τ ρ) (hf : ∀ x ∈ fp, σ.next ≤ x) : Keep [] σ ρ :=
  h.trans h' (fun x hx => .inr (hf x hx))
def held (E : Eng) : List Int := E.R.grp.filter fun x => !decide (x ∈ E.R.undone (E.R.head : Nat))
end Go.Proofs.YtkjikdohnomajaaGreat.M
namespace Go.Proofs.YtkjikdohnomajaaGreat.M
open Go Go.Mini
structure TInv (E : Eng) (l : List Atom) (grp u : List Int) (h : Nat) : Prop where
  ls : E.l = l
  sub : ∀ x ∈ u, x ∈ grp
  grp : E.R.grp = grp
  top : E.R.top = u
  head : E.R.head = h
  few : l.length ≤ 4000
  ok : E.Ok
  R : E.R.Ok
theorem TInv.rise {E : Eng} {l : List Atom} {grp u : List Int} {h : Nat} (t : TInv E l grp u h) : Rise u := by rw [← t.top]; exact t.R.top.2.1
theorem TInv.undone {E : Eng} {l : List Atom} {grp u : List Int} {h : Nat} (t : TInv E l grp u h) : E.R.undone (E.R.head : Nat) = u := by rw [t.R.top.1, t.top]
theorem push_ok {R : Revs} (h : R.Ok) {s : List Int} (hs : Rise s) (hh : R.head < 200) : (R.push s).Ok := by
  have hl := List.length_pos_iff.2 h.one
  refine ⟨by simp [Revs.push], ?_, ?_, h.grp, h.gone⟩
  · simp only [Revs.push, List.length_append, List.length_cons, List.length_nil]; simp only [Revs.head] at hh; omega
  · intro x hx
    simp only [Revs.push, List.mem_append, List.mem_singleton] at hx
    rcases hx with hx | rfl
    · exact h.rise x hx
    · exact hs
theorem TInv.toggle {E : Eng} {l : List Atom} {grp u : List Int} {h : Nat} (t : TInv E l grp u h) {g : Int} (hg : g ∈ grp) (hh : h < 200) :
    toggleE E g = (⟨E.l, E.R.push (flip g u)⟩, ((h + 1 : Nat) : Int), 0) ∧ TInv ⟨E.l, E.R.push (flip g u)⟩ l grp (flip g u) (h + 1) := by
  have hl := List.length_pos_iff.2 t.R.one
  have ht : toggleR E.R g = (E.R.push (flip g u), ((h + 1 : Nat) : Int), 0) := by
    have := toggle_of (R := E.R) (g := g) (by rw [t.grp]; exact hg) (by rw [t.head]; exact hh)
    rw [this, t.top, t.head]; rfl
  have hgb := t.R.grp.2 g (by rw [t.grp]; exact hg)
  have hhd : (E.R.push (flip g u)).head = h + 1 := by
    rw [← t.head]; simp only [Revs.head, Revs.push, List.length_append, List.length_cons, List.length_nil]; omega
  refine ⟨?_, t.ls, fun x hx => ?_, t.grp, top_push _ _, hhd, t.few, ⟨t.ok.len, t.ok.txt, fun a ha => ?_⟩, push_ok t.R (t.rise.flip hgb.1 hgb.2) (by rw [t.head]; exact hh)⟩
  · rw [toggleE, ht, if_neg (by simp), if_neg]
    simp only [Eng.text]
    exact Nat.not_lt.2 (short_text (by rw [t.ls]; exact t.few) t.ok.txt _ _)
  · have hm := (mem_flip (g := g) (x := x) t.rise).1 hx
    by_cases e : x = g
    · rw [e]; exact hg
    · rw [if_neg e] at hm; exact t.sub x hm
  · have h1 := t.ok.cuts a ha
    have h2 := t.head
    simp only [hhd]; omega
theorem TInv.toggle_no {E : Eng} {l : List Atom} {grp u : List Int} {h : Nat} (t : TInv E l grp u h) {g : Int} (hg : g ∉ grp) : toggleE E g = (E, 0, 210) := by
  rw [toggleE, toggle_bad (by rw [t.grp]; exact hg), if_pos (by simp)]
def flips (u l : List Int) : List Int := l.foldl (fun u g => flip g u) u
theorem TInv.togs {grp : List Int} {l : List Atom} : ∀ {ks : List Int} {E : Eng} {u : List Int} {h : Nat}, TInv E l grp u h → h + ks.length ≤ 200 →
    if ∀ g ∈ ks, g ∈ grp then (togsE E ks).2 = 0 ∧ TInv (togsE E ks).1 l grp (flips u ks) (h + ks.length) else (togsE E ks).2 = 210
  | [], E, u, h, t, _ => by rw [if_pos (by simp)]; exact ⟨rfl, t⟩
  | g :: ks, E, u, h, t, hl => by
    simp only [List.length_cons] at hl
    by_cases hg : g ∈ grp
    · obtain ⟨h1, h2⟩ := t.toggle hg (by omega)
      have ih := TInv.togs (ks := ks) h2 (by omega)
      have e : togsE E (g :: ks) = togsE ⟨E.l, E.R.push (flip g u)⟩ ks := by rw [togsE, h1, if_neg (by simp)]
      rw [e]
      by_cases hk : ∀ x ∈ ks, x ∈ grp
      · rw [if_pos hk] at ih
        rw [if_pos (by intro x hx; rcases List.mem_cons.1 hx with rfl | hx; exact hg; exact hk x hx)]
        refine ⟨ih.1, ?_⟩
        rw [List.length_cons, show h + (ks.length + 1) = h + 1 + ks.length by omega]
        exact ih.2
      · rw [if_neg hk] at ih
        rw [if_neg (fun h => hk fun x hx => h x (List.mem_cons_of_mem _ hx))]
        exact ih
    · rw [if_neg (fun h => hg (h g (by simp))), togsE, t.toggle_no hg, if_pos (by simp)]
theorem TInv.all {E : Eng} {l : List Atom} {grp u : List Int} {h : Nat} (t : TInv E l grp u h) {ks : List Int} (hl : h + ks.length ≤ 200) (hk : ∀ g ∈ ks, g ∈ grp) :
    ∃ E', allE E ks = (E', ((h + ks.length : Nat) : Int), 0) ∧ TInv E' l grp (flips u ks) (h + ks.length) := by
  have := t.togs hl
  rw [if_pos hk] at this
  exact ⟨_, by rw [allE, this.1, if_neg (by simp), this.2.head], this.2⟩
end Go.Proofs.YtkjikdohnomajaaGreat.M
namespace Go.Proofs.YtkjikdohnomajaaGreat.M
open Go Go.Mini
attribute [local congr] go1_congr goM_congr goG_congr goV_congr drawwp_congr
def Eng.Old (E : Eng) : Prop := ∀ a ∈ E.l, a.rev ≤ (E.R.head : Nat) ∧ ∀ c ∈ a.cuts, c.rev ≤ (E.R.head : Nat)
theorem Eng.new_old : Eng.new.Old := by intro a ha; cases ha
theorem edit_shape {E E' : Eng} {base group rank n : Int} {cs : List Chg} (hR : E.R.Ok) (e : editE E base group rank cs = (E', n, 0)) : group ∉ E.R.gone ∧ 0 ≤ group ∧ group < 60 ∧ E.R.head < 200 ∧ E.R.live base = true ∧ check (E.text base) cs = 0 ∧ 0 ≤ rank ∧ rank ≤ 1000000 ∧ n = ((E.R.head + 1 : Nat) : Int) ∧
    E' = ⟨upon E.l base (E.R.undone base) cs ((E.R.head + 1 : Nat) : Int) group rank, { E.R.push E.R.top with grp := insS group E.R.grp }⟩ ∧ E'.R.head = E.R.head + 1 := by
  unfold editE at e
  split at e
  · simp only [Prod.mk.injEq] at e; exact absurd e.2.2 (by decide)
  rename_i h1
  split at e
  · rename_i h2; simp only [Prod.mk.injEq] at e; exact absurd e.2.2 h2
  rename_i h2
  split at e
  · rename_i h3; simp only [Prod.mk.injEq] at e; exact absurd e.2.2 h3
  rename_i h3
  split at e
  · simp only [Prod.mk.injEq] at e; exact absurd e.2.2 (by decide)
  rename_i h4
  split at e
  · simp only [Prod.mk.injEq] at e; exact absurd e.2.2 (by decide)
  split at e
  · simp only [Prod.mk.injEq] at e; exact absurd e.2.2 (by decide)
  obtain ⟨q1, q2, q3, q4, e1, e2⟩ := addR_ok (by simpa using h3) hR
  cases e
  exact ⟨q1, q2, q3, q4, by simpa using h1, by simpa using h2, by omega, by omega, by rw [e1]; rfl, by rw [e1]; rfl, e2⟩
theorem edit_old {E E' : Eng} {base group rank n : Int} {cs : List Chg} (hR : E.R.Ok) (hO : E.Old) (e : editE E base group rank cs = (E', n, 0)) : E'.Old := by
  obtain ⟨_, _, _, _, _, _, _, _, _, he, hh⟩ := edit_shape hR e
  intro a ha
  rw [hh]
  rw [he] at ha
  rcases mem_upon ha with ⟨b, hb, rfl | rfl⟩ | ⟨b, _, rfl⟩
  · have := hO a hb; exact ⟨by omega, fun c hc => by have := this.2 c hc; omega⟩
  · have := hO b hb
    refine ⟨by simp only; omega, fun c hc => ?_⟩
    simp only [List.mem_append, List.mem_singleton] at hc
    rcases hc with hc | rfl
    · have := this.2 c hc; omega
    · simp only; omega
  · exact ⟨by simp only; omega, fun c hc => by cases hc⟩
theorem toggle_shape {E E' : Eng} {g n : Int} (hR : E.R.Ok) (e : toggleE E g = (E', n, 0)) : g ∈ E.R.grp ∧ E.R.head < 200 ∧ n = ((E.R.head + 1 : Nat) : Int) ∧ E' = ⟨E.l, E.R.push (flip g E.R.top)⟩ ∧ E'.R.head = E.R.head + 1 := by
  unfold toggleE at e
  split at e
  · rename_i h2; simp only [Prod.mk.injEq] at e; exact absurd e.2.2 h2
  rename_i h3
  split at e
  · simp only [Prod.mk.injEq] at e; exact absurd e.2.2 (by decide)
  obtain ⟨q1, q2, e1, e2⟩ := toggleR_ok (by simpa using h3) hR
  cases e
  exact ⟨q1, q2, by rw [e1]; rfl, by rw [e1], e2⟩
theorem toggle_old {E E' : Eng} {g n : Int} (hR : E.R.Ok) (hO : E.Old) (e : toggleE E g = (E', n, 0)) : E'.Old := by
  obtain ⟨_, _, _, he, hh⟩ := toggle_shape hR e
  intro a ha
  rw [he] at ha
  have := hO a ha
  rw [hh]
  exact ⟨by omega, fun c hc => by have := this.2 c hc; omega⟩
structure TwInv (E : Eng) (i : Nat) : Prop where
  top : E.R.top = []
  head : E.R.head ≤ i
  old : E.Old
  grp : ∀ a ∈ E.l, a.group ∈ E.R.grp
theorem TwInv.new : TwInv Eng.new 0 := ⟨rfl, Nat.le_refl _, Eng.new_old, fun a h => by cases h⟩
theorem TwInv.mono {E : Eng} {i : Nat} (h : TwInv E i) : TwInv E (i + 1) := ⟨h.top, by have := h.head; omega, h.old, h.grp⟩
theorem TwInv.edit {E E' : Eng} {i : Nat} (h : TwInv E i) (hR : E.R.Ok) {base group rank n c : Int} {cs : List Chg} (e : editE E base group rank cs = (E', n, c)) : TwInv E' (i + 1) := by
  by_cases hc : c = 0
  · subst hc
    obtain ⟨_, _, _, _, _, _, _, _, _, he, hh⟩ := edit_shape hR e
    refine ⟨?_, by have := h.head; omega, edit_old hR h.old e, fun a ha => ?_⟩
    · rw [he]; show (E.R.push E.R.top).top = []; rw [top_push, h.top]
    · rw [he] at ha ⊢
      show a.group ∈ insS group E.R.grp
      rw [mem_insS]
      rcases mem_upon ha with ⟨b, hb, rfl | rfl⟩ | ⟨b, _, rfl⟩
      · exact .inr (h.grp a hb)
      · exact .inr (h.grp b hb)
      · exact .inl rfl
  · rw [(edit_fail e hc).1]; exact h.mono
end Go.Proofs.YtkjikdohnomajaaGreat.M
namespace Go.Proofs.YtkjikdohnomajaaGreat.M
open Go Go.Mini
attribute [local congr] go1_congr goM_congr goG_congr goV_congr drawwp_congr Xwp_congr
def forgetE (E : Eng) (gs : List Int) : Eng × Int := if (forgetR E.R gs).2 ≠ 0 then (E, (forgetR E.R gs).2) else (⟨restL gs (E.R.undone (E.R.head : Nat)) E.l, (forgetR E.R gs).1⟩, 0)
theorem restA_some {gs u : List Int} {a b : Atom} (h : restA gs u a = some b) : b = { a with cuts := a.cuts.filter (fun c => !goneG gs u c.group), group := if a.group ∈ gs then -1 else a.group } ∧ goneG gs u a.group = false ∧ (a.cuts.any fun c => staysG gs u c.group) = false := by
  unfold restA at h
  split at h
  · cases h
  · rename_i hn
    rw [Bool.not_eq_true, Bool.or_eq_false_iff] at hn
    cases h; exact ⟨rfl, hn⟩
theorem forgetR_ok {R : Revs} {gs : List Int} (h : (forgetR R gs).2 = 0) : Good R gs ∧ forgetR R gs = (⟨[delAll R.top gs], R.head, delAll R.grp gs, goneAll R.gone gs⟩, 0) ∧ (forgetR R gs).1.head = R.head := by
  by_cases hg : Good R gs
  · have e := forget_good hg
    refine ⟨hg, e, ?_⟩
    rw [e]; simp [Revs.head]
  · rw [forget_bad hg] at h; cases h
theorem forget_ok {E : Eng} (h : E.Ok) {gs : List Int} (hz : (forgetR E.R gs).2 = 0) : Eng.Ok ⟨restL gs (E.R.undone (E.R.head : Nat)) E.l, (forgetR E.R gs).1⟩ := by
  obtain ⟨_, _, hh⟩ := forgetR_ok hz
  refine ⟨?_, fun b hb => ?_, fun b hb => ?_⟩
  · have := restL_len gs (E.R.undone (E.R.head : Nat)) E.l; have := h.len; simp only; omega
  · simp only [restL, List.mem_filterMap] at hb
    obtain ⟨a, ha, hb⟩ := hb
    rw [(restA_some hb).1]; exact h.txt a ha
  · simp only [restL, List.mem_filterMap] at hb
    obtain ⟨a, ha, hb⟩ := hb
    rw [(restA_some hb).1]
    have := h.cuts a ha
    have := List.length_filter_le (fun c : Cut => !goneG gs (E.R.undone (E.R.head : Nat)) c.group) a.cuts
    simp only [hh]; omega
set_option maxHeartbeats 2000000 in
theorem eforget_at {σ : Heap} {k : Nat} {E E' : Eng} {fp : List Nat} {c : Int} (h : IsEng σ k E fp) {gs : List Int} (hl : gs.length ≤ 1000000) (e : forgetE E gs = (E', c)) : MSpec Tryz.prog n_engine_Engine_Forget [.ptr (.new k) 0, ints gs] σ fun v τ => v = .int .i64 c ∧ ∃ fp', IsEng τ k E' fp' ∧ Keep fp σ τ ∧ Fresh fp σ fp' := by
  refine spec_of_awp mixed c_engine_Engine_Forget (tl rfl) ?_
  unfold f_engine_Engine_Forget
  have hlow := h.low
  have hok := h.ok
  obtain ⟨x, kr, fpr, hA, rfl⟩ := id h
  have hb := hA.blk
  have hx := hA.lst.cells.2.2
  have hun := hA.undone
  have hfits := hok.1.fits hok.2
  rcases hf : forgetR E.R gs with ⟨R', c'⟩
  have hfo := forget_at hA.revs hl hf
  simp only [ints] at hun hfo
  simp +decide only [↓evd, evw, evz, reduceCtorEq, ↓reduceIte]
  refine MSpec.of hun ?_
  simp +decide only [↓evd, evw, evz, reduceCtorEq, ↓reduceIte, hb]
  refine hfo.mono ?_
  rintro v τ ⟨rfl, fpr1, hR1, hK1, hF1⟩
  have hkp : Keep (k :: fpr) σ τ := hK1.mono fun y hy _ => List.mem_cons_of_mem _ hy
  have hbk : τ.get k = some (.cells [x, .ptr (.new kr) 0] none) := by rw [hK1.2.2.2 k hA.low hA.out]; exact hb
  have hkf : k ∉ fpr1 := fun hm => by
    rcases hF1 k hm with h1 | h1
    · exact hA.out h1
    · have := hA.low; omega
  by_cases hc : c' = 0
  · subst hc
    have hcb : ((0 : Int) != 0) = false := rfl
    have hok2 := forget_ok hok.1 (gs := gs) (by rw [hf])
    rw [hf] at hok2
    rw [forgetE, hf, if_neg (by simp)] at e
    cases e
    have hre := hA.lst.call (rest_call τ E.l gs (E.R.undone (E.R.head : Nat)) hl (undone_few hok.2 _) hfits.1 hfits.2.1)
    simp only [ints, eAtoms] at hre
    have hkl : k < τ.next := by have := hA.low; have := hK1.2.2.1; omega
    have hT := IsEng.took (E' := ⟨restL gs (E.R.undone (E.R.head : Nat)) E.l, R'⟩) hkl hR1.low (.inl rfl) hR1 hkf hok2
    simp only [eAtoms] at hT
    simp +decide only [↓evd, evw, evz, reduceCtorEq, ↓reduceIte, hcb, hbk, hx]
    refine MSpec.of hre ?_
    simp +decide only [↓evd, evw, evz, reduceCtorEq, ↓reduceIte, hbk]
    refine ⟨k :: fpr1, hT, hkp.set (.inl (by simp)) _, fun y hy => ?_⟩
    rcases List.mem_cons.1 hy with rfl | hy
    · exact .inl (by simp)
    · rcases hF1 y hy with h1 | h1
      · exact .inl (List.mem_cons_of_mem _ h1)
      · exact .inr h1
  · have hcb : (c' != 0) = true := by simpa using hc
    have hRR : R' = E.R := by
      by_cases hg : Good E.R gs
      · rw [forget_good hg] at hf; cases hf; exact absurd rfl hc
      · rw [forget_bad hg] at hf; cases hf; rfl
    subst hRR
    rw [forgetE, hf, if_pos hc] at e
    cases e
    simp +decide only [↓evd, evw, evz, reduceCtorEq, ↓reduceIte, hcb]
    refine ⟨k :: fpr1, ⟨x, kr, fpr1, ⟨hbk, hA.lst, hR1, hkf, by have := hA.low; have := hK1.2.2.1; omega, hA.ok⟩, rfl⟩, hkp, fun y hy => ?_⟩
    rcases List.mem_cons.1 hy with rfl | hy
    · exact .inl (by simp)
    · rcases hF1 y hy with h1 | h1
      · exact .inl (List.mem_cons_of_mem _ h1)
      · exact .inr h1
end Go.Proofs.YtkjikdohnomajaaGreat.M
namespace Go.Proofs.YtkjikdohnomajaaGreat.M
open Go Go.Mini
theorem mem_delL {s ks : List Int} {x : Int} : x ∈ delAll s ks ↔ x ∈ s ∧ x ∉ ks := by simp [delAll]
structure Eng.Known (E : Eng) : Prop where
  old : E.Old
  grp : ∀ a ∈ E.l, (a.group ∈ E.R.grp ∨ a.group = -1) ∧ ∀ c ∈ a.cuts, c.group ∈ E.R.grp
structure Eng.Whole (E : Eng) : Prop where
  ok : E.Ok
  rok : E.R.Ok
  known : E.Known
theorem Eng.Known.new : Eng.new.Known := ⟨Eng.new_old, fun a h => by cases h⟩
theorem Eng.Known.edit {E E' : Eng} {base group rank n c : Int} {cs : List Chg} (hR : E.R.Ok) (h : E.Known) (e : editE E base group rank cs = (E', n, c)) : E'.Known := by
  by_cases hc : c = 0
  case neg => rw [(edit_fail e hc).1]; exact h
  subst hc
  refine ⟨edit_old hR h.old e, ?_⟩
  obtain ⟨_, _, _, _, _, _, _, _, _, he, _⟩ := edit_shape hR e
  intro a ha
  rw [he] at ha ⊢
  have hm : ∀ g, g ∈ E.R.grp → g ∈ insS group E.R.grp := fun g hg => mem_insS.2 (.inr hg)
  rcases mem_upon ha with ⟨b, hb, rfl | rfl⟩ | ⟨b, _, rfl⟩
  · exact ⟨(h.grp a hb).1.imp (hm _) id, fun c hc => hm _ ((h.grp a hb).2 c hc)⟩
  · refine ⟨(h.grp b hb).1.imp (hm _) id, fun c hc => ?_⟩
    simp only [List.mem_append, List.mem_singleton] at hc
    rcases hc with hc | rfl
    · exact hm _ ((h.grp b hb).2 c hc)
    · exact mem_insS.2 (.inl rfl)
  · exact ⟨.inl (mem_insS.2 (.inl rfl)), fun c hc => by cases hc⟩
theorem Eng.Known.toggle {E E' : Eng} {g n c : Int} (hR : E.R.Ok) (h : E.Known) (e : toggleE E g = (E', n, c)) : E'.Known := by
  by_cases hc : c = 0
  case neg => rw [(toggle_fail e hc).1]; exact h
  subst hc
  refine ⟨toggle_old hR h.old e, ?_⟩
  obtain ⟨_, _, _, he, _⟩ := toggle_shape hR e
  intro a ha
  rw [he] at ha ⊢
  exact h.grp a ha
theorem forget_shape {E E' : Eng} {gs : List Int} (e : forgetE E gs = (E', 0)) : Good E.R gs ∧ E' = ⟨restL gs (E.R.undone (E.R.head : Nat)) E.l, ⟨[delAll E.R.top gs], E.R.head, delAll E.R.grp gs, goneAll E.R.gone gs⟩⟩ := by
  unfold forgetE at e
  split at e
  · rename_i h; simp only [Prod.mk.injEq] at e; exact absurd e.2 h
  · rename_i h
    obtain ⟨hg, he, _⟩ := forgetR_ok (by simpa using h)
    rw [he] at e
    cases e
    exact ⟨hg, rfl⟩
theorem forget_fail {E E' : Eng} {gs : List Int} {c : Int} (e : forgetE E gs = (E', c)) (hc : c ≠ 0) : E' = E := by
  unfold forgetE at e
  split at e
  · cases e; rfl
  · cases e; exact absurd rfl hc
theorem Eng.Known.forget {E E' : Eng} {gs : List Int} {c : Int} (h : E.Known) (e : forgetE E gs = (E', c)) : E'.Known := by
  by_cases hc : c = 0
  case neg => rw [forget_fail e hc]; exact h
  subst hc
  obtain ⟨hg, he⟩ := forget_shape e
  have hhead : E'.R.head = E.R.head := by rw [he]; simp [Revs.head]
  constructor
  · intro b hb
    rw [hhead]
    rw [he] at hb
    simp only [restL, List.mem_filterMap] at hb
    obtain ⟨a, ha, hb⟩ := hb
    have ho := h.old a ha
    rw [(restA_some hb).1]
    exact ⟨ho.1, fun c hc => ho.2 c (List.mem_filter.1 hc).1⟩
  · intro b hb
    rw [he] at hb ⊢
    simp only [restL, List.mem_filterMap] at hb
    obtain ⟨a, ha, hb⟩ := hb
    have hk := h.grp a ha
    obtain ⟨hbe, hgone, hstay⟩ := restA_some hb
    constructor
    · rw [hbe]
      by_cases hin : a.group ∈ gs
      · right; simp only [if_pos hin]
      · simp only [if_neg hin]
        exact hk.1.imp (fun h => mem_delL.2 ⟨h, hin⟩) id
    · intro c hc
      rw [hbe] at hc
      simp only [List.mem_filter] at hc
      refine mem_delL.2 ⟨hk.2 c hc.1, fun hin => ?_⟩
      have h1 : staysG gs (E.R.undone (E.R.head : Nat)) c.group = false := by
        rw [List.any_eq_false] at hstay
        simpa using hstay c hc.1
      have h2 : goneG gs (E.R.undone (E.R.head : Nat)) c.group = false := by simpa using hc.2
      simp [staysG, goneG, hin] at h1 h2
      exact h2 h1
theorem rok_edit {R : Revs} (h : R.Ok) (hh : R.head < 200) {g : Int} (h0 : 0 ≤ g) (h1 : g < 60) : Revs.Ok { R.push R.top with grp := insS g R.grp } := by
  have p := push_ok h h.top.2.1 hh
  exact ⟨p.one, p.few, p.rise, h.grp.ins h0 h1, p.gone⟩
theorem rok_forget {R : Revs} (h : R.Ok) {gs : List Int} (hg : Good R gs) : Revs.Ok ⟨[delAll R.top gs], R.head, delAll R.grp gs, goneAll R.gone gs⟩ := by
  have hf := h.few
  have h1 := List.length_pos_iff.2 h.one
  refine ⟨by simp, by simp only [Revs.head, List.length_cons, List.length_nil]; omega, fun s hs => ?_, h.grp.delAll gs, h.gone.goneAll fun g hm => h.grp.2 g (hg.2 g hm)⟩
  rw [List.mem_singleton] at hs; subst hs
  exact h.top.2.1.delAll gs
theorem rise_flip {s : List Int} (hs : Rise s) {g : Int} (h0 : 0 ≤ g) (h1 : g < 60) : Rise (flip g s) := by
  unfold flip
  split
  · exact hs.erase g
  · exact hs.ins h0 h1
theorem Eng.Whole.new : Eng.new.Whole := ⟨Eng.new_ok, ⟨by simp [Eng.new, Revs.new], by simp [Eng.new, Revs.new], fun s hs => by simp [Eng.new, Revs.new] at hs; subst hs; exact Rise.nil, Rise.nil, Rise.nil⟩, Eng.Known.new⟩
theorem Eng.Whole.edit {E E' : Eng} {base group rank n c : Int} {cs : List Chg} (h : E.Whole) (e : editE E base group rank cs = (E', n, c)) : E'.Whole := by
  have h1 := editE_ok h.ok h.rok base group rank cs
  rw [e] at h1
  refine ⟨h1, ?_, h.known.edit h.rok e⟩
  by_cases hc : c = 0
  case neg => rw [(edit_fail e hc).1]; exact h.rok
  subst hc
  obtain ⟨_, g0, g1, hh, _, _, _, _, _, he, _⟩ := edit_shape h.rok e
  rw [he]; exact rok_edit h.rok hh g0 g1
theorem Eng.Whole.toggle {E E' : Eng} {g n c : Int} (h : E.Whole) (e : toggleE E g = (E', n, c)) : E'.Whole := by
  have h1 := toggleE_ok h.ok h.rok g
  rw [e] at h1
  refine ⟨h1, ?_, h.known.toggle h.rok e⟩
  by_cases hc : c = 0
  case neg => rw [(toggle_fail e hc).1]; exact h.rok
  subst hc
  obtain ⟨hg, hh, _, he, _⟩ := toggle_shape h.rok e
  have hb := h.rok.grp.2 g hg
  rw [he]; exact push_ok h.rok (rise_flip h.rok.top.2.1 hb.1 hb.2) hh
theorem Eng.Whole.forget {E E' : Eng} {gs : List Int} {c : Int} (h : E.Whole) (e : forgetE E gs = (E', c)) : E'.Whole := by
  refine ⟨?_, ?_, h.known.forget e⟩ <;> by_cases hc : c = 0
  case neg => rw [forget_fail e hc]; exact h.ok
  case neg => rw [forget_fail e hc]; exact h.rok
  · subst hc
    obtain ⟨hg, he⟩ := forget_shape e
    have := forget_ok h.ok (gs := gs) (by rw [forget_good hg])
    rw [forget_good hg] at this
    rw [he]; exact this
  · subst hc
    obtain ⟨hg, he⟩ := forget_shape e
    rw [he]; exact rok_forget h.rok hg
theorem keep_call {f : FuncId} {args : List AVal} {v : AVal} {σ : Heap} (hv : v.pure = true) (h : MSpec Tryz.prog f args σ fun u τ => u = v ∧ Keep [] σ τ) : ACall Tryz.prog f args σ v σ :=
  gc_call hv (h.mono fun u τ ⟨h1, h2⟩ => ⟨h1, h2.1, h2.2.1, fun q hq => h2.2.2.2 q hq (by simp)⟩)
theorem ptsOf_len {s : List UInt8} (hs : valid s = true) : (ptsOf s).length ≤ s.length ∧ (ptsOf s).flatten = s ∧ ∀ p ∈ ptsOf s, IsCP p := by
  obtain ⟨ps, rfl, hp⟩ := valid_iff.1 hs
  have e : ptsOf ps.flatten = ps := by rw [ptsOf, pts_flat hp]; rfl
  rw [e]
  refine ⟨?_, rfl, hp⟩
  clear hs e
  induction ps with
  | nil => simp
  | cons p ps ih =>
    have h1 := List.length_pos_iff.2 (hp p (by simp)).1
    have := ih fun q hq => hp q (List.mem_cons_of_mem _ hq)
    simp only [List.length_cons, List.flatten_cons, List.length_append]; omega
theorem all_text {h : Int} {u : List Int} : ∀ {l : List Atom}, (∀ a ∈ l, visible h u a = true) → atomsText h u l = (l.map (·.text)).flatten
  | [], _ => rfl
  | a :: l, hv => by
    rw [atomsText, hv a (by simp), all_text fun b hb => hv b (List.mem_cons_of_mem _ hb)]; rfl
theorem filter_text (h : Int) (u : List Int) : ∀ l : List Atom, atomsText h u l = ((l.filter (visible h u)).map (·.text)).flatten
  | [] => rfl
  | a :: l => by
    rw [atomsText, filter_text h u l, List.filter_cons]
    split <;> simp
theorem check_end {t s : List UInt8} (ht : valid t = true) (hs : valid s = true) (hl : t.length + s.length ≤ 20000) : check t [⟨(t.length : Nat), (t.length : Nat), s⟩] = 0 := by
  obtain ⟨ps, rfl, hp⟩ := valid_iff.1 ht
  have he : isEdge ps.flatten (ps.flatten.length : Nat) = true := (edge_flat hp _).2 ⟨ps.length, Nat.le_refl _, by rw [List.take_length]⟩
  generalize ps.flatten = t at *
  have hg := gain_le t.length ⟨(t.length : Nat), (t.length : Nat), s⟩
  have hlong : longI t [⟨(t.length : Nat), (t.length : Nat), s⟩] = 0 := by
    simp only [longI, gains, List.map_cons, List.map_nil, List.sum_cons, List.sum_nil, longR]
    rw [if_neg (by omega), if_neg (by omega)]
  have n1 : ¬ ((t.length : Int) < 0) := by omega
  have n2 : ¬ ((t.length : Int) < (t.length : Int)) := by omega
  unfold check
  rw [if_neg (by rw [ht]; simp), if_neg (by simp)]
  simp only [errs, List.any_cons, List.any_nil, Bool.or_false, chgOut, chgIn, he, disorder, hs, hlong, decide_eq_false n1, decide_eq_false n2]
  rfl
theorem upon_end {base rev g rank : Int} {u : List Int} {L : List Atom} {s : List UInt8} (he : EndSeen base u L)
    (hck : check (atomsText base u L) [⟨((atomsText base u L).length : Nat), ((atomsText base u L).length : Nat), s⟩] = 0) :
    upon L base u [⟨((atomsText base u L).length : Nat), ((atomsText base u L).length : Nat), s⟩] rev g rank = L ++ newAtoms rev g rank (ptsOf s) := by
  have hsK := spotK_at (r := base) (u := u) [] he
  rw [List.append_nil] at hsK
  have hspot : spot L (places base u L 0) base u ((atomsText base u L).length : Nat) rank = L.length := by
    rw [spot, show spotF base u (((atomsText base u L).length : Nat) : Int) L (places base u L 0) 0 0 = L.length from hsK, List.drop_length]; rfl
  have hct : cuts L base u [⟨((atomsText base u L).length : Nat), ((atomsText base u L).length : Nat), s⟩] = [] := by
    rw [cuts, if_pos hck]
    refine cutsF_none _ _ _ (fun p => ?_) _ _ _
    simp only [cutHit, List.any_cons, List.any_nil, Bool.or_false, Bool.and_eq_false_iff, decide_eq_false_iff_not]
    omega
  rw [upon, if_pos hck, hct, marked_nil]
  simp only [spotsN, List.map_cons, List.map_nil, hspot, List.zip_cons_cons, List.zip_nil_left, merged, List.drop_zero, List.take_length, List.drop_length, List.append_nil]
structure GrInv (E : Eng) (i : Nat) (t u : List UInt8) : Prop where
  whole : E.Whole
  head : E.R.head = i
  top : E.R.top = []
  gone : E.R.gone = []
  cuts : ∀ a ∈ E.l, a.cuts = []
  g01 : ∀ a ∈ E.l, a.group = 0 ∨ a.group = 1
  txt : (E.l.map (·.text)).flatten = t
  sub : ((E.l.filter fun a => decide (a.group ≠ 1)).map (·.text)).flatten = u
  len : E.l.length ≤ t.length
theorem GrInv.new : GrInv Eng.new 0 [] [] := ⟨Eng.Whole.new, rfl, rfl, rfl, fun a h => (by cases h), fun a h => (by cases h), rfl, rfl, by simp [Eng.new]⟩
theorem GrInv.vis {E : Eng} {i : Nat} {t u : List UInt8} (h : GrInv E i t u) : ∀ a ∈ E.l, visible (E.R.head : Nat) [] a = true := fun a ha => by
  have h1 := (h.whole.known.old a ha).1
  simp [visible, holds, h.cuts a ha, h1]
theorem GrInv.text {E : Eng} {i : Nat} {t u : List UInt8} (h : GrInv E i t u) : E.text (E.R.head : Nat) = t := by
  rw [Eng.text, h.whole.rok.top.1, h.top, all_text h.vis, h.txt]
theorem GrInv.step {E : Eng} {i : Nat} {t u s : List UInt8} (h : GrInv E i t u) (hs : valid s = true) {g : Int} (hg : g = 0 ∨ g = 1) (hi : i < 100) (hl : t.length + s.length ≤ 4000) :
    ∃ E', editE E (i : Nat) g 0 [⟨(t.length : Nat), (t.length : Nat), s⟩] = (E', ((i + 1 : Nat) : Int), 0) ∧ GrInv E' (i + 1) (t ++ s) (if g = 0 then u ++ s else u) := by
  obtain ⟨p1, p2, p3⟩ := ptsOf_len hs
  have hrok := h.whole.rok
  have htx := h.text
  have hvt : valid t = true := by rw [← htx]; exact valid_iff.2 (atoms_valid h.whole.ok.txt _ _)
  have hck := check_end hvt hs (by omega)
  have hun : E.R.undone (E.R.head : Nat) = [] := hrok.top.1.trans h.top
  have htx' : atomsText (E.R.head : Nat) [] E.l = t := by rw [← hun]; exact htx
  have hend : EndSeen (E.R.head : Nat) [] E.l := by
    rcases List.eq_nil_or_concat E.l with e | ⟨L', b, e⟩
    · exact .inl e
    · refine .inr ⟨L', b, by rw [e]; simp, h.vis b (by rw [e]; simp), (h.whole.ok.txt b (by rw [e]; simp)).1⟩
  have hup := upon_end (rev := (E.R.head : Int) + 1) (g := g) (rank := 0) (s := s) hend (by rw [htx']; exact hck)
  rw [htx'] at hup
  have hadd := add_good (R := E.R) (g := g) (by rw [h.gone]; simp) (by omega) (by omega) (by rw [h.head]; omega)
  have hnl : (newAtoms ((E.R.head : Int) + 1) g 0 (ptsOf s)).length = (ptsOf s).length := by simp [newAtoms]
  have hlen : (E.l ++ newAtoms ((E.R.head : Int) + 1) g 0 (ptsOf s)).length ≤ 4000 := by have := h.len; rw [List.length_append, hnl]; omega
  have hcps : ∀ a ∈ E.l ++ newAtoms ((E.R.head : Int) + 1) g 0 (ptsOf s), IsCP a.text := fun a ha => by
    rcases List.mem_append.1 ha with ha | ha
    · exact h.whole.ok.txt a ha
    · rw [newAtoms, List.mem_map] at ha; obtain ⟨p, hp, rfl⟩ := ha; exact p3 p hp
  have he : editE E (i : Nat) g 0 [⟨(t.length : Nat), (t.length : Nat), s⟩] = (⟨E.l ++ newAtoms ((E.R.head : Int) + 1) g 0 (ptsOf s), { E.R.push E.R.top with grp := insS g E.R.grp }⟩, ((i + 1 : Nat) : Int), 0) := by
    rw [← h.head]
    have hlv := Eng.live_head hrok
    rw [editE, if_neg (by simp [hlv]), htx, if_neg (fun hn => hn hck), hun, hadd, if_neg (by simp), if_neg (by decide), hup, if_neg (by omega), if_neg (by simp only [Eng.text]; exact Nat.not_lt.2 (short_text hlen hcps _ _))]
    rfl
  have hw' := h.whole.edit he
  obtain ⟨_, _, _, _, _, _, _, _, _, _, hh'⟩ := edit_shape hrok he
  have hgn : ∀ a ∈ newAtoms ((E.R.head : Int) + 1) g 0 (ptsOf s), a.cuts = [] ∧ a.group = g := fun a ha => by
    rw [newAtoms, List.mem_map] at ha; obtain ⟨p, hp, rfl⟩ := ha; exact ⟨rfl, rfl⟩
  have hnt : ((newAtoms ((E.R.head : Int) + 1) g 0 (ptsOf s)).map (·.text)).flatten = s := by
    rw [newAtoms, List.map_map]
    rw [show (List.map ((fun x => x.text) ∘ fun b => (⟨b, (E.R.head : Int) + 1, g, 0, []⟩ : Atom)) (ptsOf s)) = ptsOf s from List.map_id _, p2]
  refine ⟨_, he, ⟨hw', by rw [hh', h.head], top_push E.R E.R.top |>.trans h.top, h.gone, fun a ha => ?_, fun a ha => ?_, ?_, ?_, ?_⟩⟩
  · rcases List.mem_append.1 ha with ha | ha
    · exact h.cuts a ha
    · exact (hgn a ha).1
  · rcases List.mem_append.1 ha with ha | ha
    · exact h.g01 a ha
    · rw [(hgn a ha).2]; exact hg
  · simp only [List.map_append, List.flatten_append, h.txt, hnt]
  · simp only [List.filter_append, List.map_append, List.flatten_append, h.sub]
    rcases hg with rfl | rfl
    · rw [if_pos rfl, List.filter_eq_self.2 (fun a ha => by rw [(hgn a ha).2]; rfl), hnt]
    · rw [if_neg (by decide), List.filter_eq_nil_iff.2 (fun a ha => by rw [(hgn a ha).2]; simp)]; simp
  · simp only [List.length_append, hnl]; have := h.len; omega
theorem GrInv.same {E : Eng} {i : Nat} {t u : List UInt8} (h : GrInv E i t u) (h1 : (1 : Int) ∉ E.R.grp) : t = u := by
  rw [← h.txt, ← h.sub, List.filter_eq_self.2]
  intro a ha
  have hg := (h.whole.known.grp a ha).1
  have h2 := h.g01 a ha
  simp only [decide_eq_true_eq]
  intro e
  rw [e] at hg
  rcases hg with hg | hg
  · exact h1 hg
  · cases hg
theorem GrInv.toggle {E : Eng} {i : Nat} {t u : List UInt8} (h : GrInv E i t u) (hi : i < 200) (h1 : (1 : Int) ∈ E.R.grp) : ∃ E', toggleE E 1 = (E', ((i + 1 : Nat) : Int), 0) ∧ E'.R.Ok ∧ E'.text (E'.R.head : Nat) = u := by
  have hrok := h.whole.rok
  have ht : toggleR E.R 1 = (E.R.push (flip 1 E.R.top), (E.R.head : Int) + 1, 0) := by
    rw [toggleR, if_neg (by simp [h1]), if_neg (by rw [h.head]; omega)]
  have he : toggleE E 1 = (⟨E.l, E.R.push (flip 1 E.R.top)⟩, ((i + 1 : Nat) : Int), 0) := by
    rw [toggleE, ht, if_neg (by simp), if_neg (by simp only [Eng.text]; exact Nat.not_lt.2 (short_text h.whole.ok.len h.whole.ok.txt _ _)), h.head]; rfl
  have hw' := h.whole.toggle he
  obtain ⟨_, _, _, _, hh'⟩ := toggle_shape hrok he
  have hun := hw'.rok.top.1
  have htp : (E.R.push (flip 1 E.R.top)).top = [1] := by rw [top_push, h.top]; rfl
  simp only [htp] at hun
  refine ⟨_, he, hw'.rok, ?_⟩
  rw [Eng.text]
  simp only at hh' ⊢
  rw [hun, hh', filter_text, ← h.sub]
  congr 2
  refine List.filter_congr fun a ha => ?_
  have h2 := (h.whole.known.old a ha).1
  have h3 := h.g01 a ha
  have h4 : a.rev ≤ (E.R.head : Int) + 1 := by omega
  rcases h3 with h3 | h3 <;> simp [visible, holds, h.cuts a ha, h3, h4]
end Go.Proofs.YtkjikdohnomajaaGreat.M
namespace Go.Proofs.YtkjikdohnomajaaGreat.M
open Go Go.Mini
attribute [local congr] go1_congr goM_congr goG_congr goV_congr drawwp_congr Xwp_congr
end Go.Proofs.YtkjikdohnomajaaGreat.M
set_option maxRecDepth 1000000
set_option maxHeartbeats 0
namespace Go.Proofs.YtkjikdohnomajaaGreat.M
open Go Go.Mini
def tblK : List (Nat × SFunc) := [(n_palinodetop_known, f_palinodetop_known), (n_engine_New, f_engine_New), (n_engine_Engine_Edit, f_engine_Engine_Edit), (n_engine_Engine_Head, f_engine_Engine_Head), (n_diff_Between, f_diff_Between), (n_engine_Engine_Text, f_engine_Engine_Text), (n_engine_Engine_Live, f_engine_Engine_Live), (n_view_New, f_view_New), (n_view_View_Do, f_view_View_Do), (n_view_View_Text, f_view_View_Text), (n_view_View_Head, f_view_View_Head), (n_rev_New, f_rev_New), (n_edit_Check, f_edit_Check), (n_engine_Engine_Copy, f_engine_Engine_Copy), (n_rev_Revs_Add, f_rev_Revs_Add), (n_edit_Upon, f_edit_Upon), (n_engine_Engine_UndoneAt, f_engine_Engine_UndoneAt), (n_engine_Engine_fits, f_engine_Engine_fits), (n_rev_Revs_Head, f_rev_Revs_Head), (n_engine_Engine_Atoms, f_engine_Engine_Atoms), (n_atom_Visible, f_atom_Visible), (n_delta_NewMaker, f_delta_NewMaker), (n_diff_each, f_diff_each), (n_diff_Between_1, f_diff_Between_1), (n_delta_Maker_Copy, f_delta_Maker_Copy), (n_delta_Maker_Put, f_delta_Maker_Put), (n_delta_Maker_Delta, f_delta_Maker_Delta), (n_atom_Text, f_atom_Text), (n_delta_Is, f_delta_Is), (n_delta_Size, f_delta_Size), (n_rev_Revs_Live, f_rev_Revs_Live), (n_slices_Contains_int_int, f_slices_Contains_int_int), (n_view_View_told, f_view_View_told), (n_view_View_Copy, f_view_View_Copy), (n_view_edits, f_view_edits), (n_view_View_edits, f_view_View_edits), (n_view_View_follows, f_view_View_follows), (n_rope_Rope_String, f_rope_Rope_String), (n_utf_Valid, f_utf_Valid), (n_edit_Check_1, f_edit_Check_1), (n_utf_IsEdge, f_utf_IsEdge), (n_edit_first, f_edit_first), (n_edit_Check_2, f_edit_Check_2), (n_edit_Check_3, f_edit_Check_3), (n_edit_order, f_edit_order), (n_edit_Check_4, f_edit_Check_4), (n_edit_long, f_edit_long), (n_atom_Copy, f_atom_Copy), (n_rev_Revs_Copy, f_rev_Revs_Copy), (n_rev_Revs_next, f_rev_Revs_next), (n_edit_Spots, f_edit_Spots), (n_edit_Cuts, f_edit_Cuts), (n_atom_Put, f_atom_Put), (n_rev_Revs_Undone, f_rev_Revs_Undone), (n_rev_set_sorted, f_rev_set_sorted), (n_slices_ContainsFunc_api_Cut_api_Cut, f_slices_ContainsFunc_api_Cut_api_Cut), (n_slices_Clone_api_Cut_api_Cut, f_slices_Clone_api_Cut_api_Cut), (n_atom_holds, f_atom_holds), (n_delta_IsCopy, f_delta_IsCopy), (n_strings_Builder_WriteString, f_strings_Builder_WriteString), (n_delta_elem, f_delta_elem), (n_delta_sums, f_delta_sums), (n_slices_Index_int_int, f_slices_Index_int_int), (n_rope_New, f_rope_New), (n_view_View_Selection, f_view_View_Selection), (n_view_View_Spans, f_view_View_Spans), (n_view_View_Breaks, f_view_View_Breaks), (n_carets_Type, f_carets_Type), (n_region_Move, f_region_Move), (n_spans_Edit, f_spans_Edit), (n_breaks_Edit, f_breaks_Edit), (n_tree_Seq_rope_piece_rope_counts_All, f_tree_Seq_rope_piece_rope_counts_All), (n_utf_Size, f_utf_Size), (n_atom_Places, f_atom_Places), (n_edit_spot, f_edit_spot), (n_utf_Clean, f_utf_Clean), (n_maps_Keys_rev_set_int_unit, f_maps_Keys_rev_set_int_unit), (n_slices_IndexFunc_api_Cut_api_Cut, f_slices_IndexFunc_api_Cut_api_Cut), (n_rope_made, f_rope_made), (n_view_copied_api_Region, f_view_copied_api_Region), (n_view_copied_api_Span, f_view_copied_api_Span), (n_view_copied_int, f_view_copied_int), (n_region_Span, f_region_Span), (n_region_every_api_Region, f_region_every_api_Region), (n_region_Move_1, f_region_Move_1), (n_interval_Is, f_interval_Is), (n_region_count, f_region_count), (n_offset_Move, f_offset_Move), (n_region_apart, f_region_apart), (n_spans_Is, f_spans_Is), (n_spans_told, f_spans_told), (n_breaks_Is, f_breaks_Is), (n_tree_Seq_rope_piece_rope_counts_Len, f_tree_Seq_rope_piece_rope_counts_Len), (n_tree_node_rope_piece_rope_counts_all, f_tree_node_rope_piece_rope_counts_all), (n_utf_point, f_utf_point), (n_tree_Make_rope_piece_rope_counts, f_tree_Make_rope_piece_rope_counts), (n_slices_ContainsFunc_api_Region_api_Region, f_slices_ContainsFunc_api_Region_api_Region), (n_region_every_api_Region_1, f_region_every_api_Region_1), (n_slices_Clone_api_Region_api_Region, f_slices_Clone_api_Region_api_Region), (n_slices_SortStableFunc_api_Region_api_Region, f_slices_SortStableFunc_api_Region_api_Region), (n_interval_Folded_api_Region, f_interval_Folded_api_Region), (n_spans_row_int_sorted, f_spans_row_int_sorted), (n_utf_forms, f_utf_forms), (n_utf_long, f_utf_long), (n_utf_isPoint, f_utf_isPoint), (n_tree_spread_rope_piece_tree_node_rope_piece_rope_counts, f_tree_spread_rope_piece_tree_node_rope_piece_rope_counts), (n_tree_leaf_rope_piece_rope_counts, f_tree_leaf_rope_piece_rope_counts), (n_slices_IndexFunc_api_Region_api_Region, f_slices_IndexFunc_api_Region_api_Region), (n_slices_stableCmpFunc_api_Region, f_slices_stableCmpFunc_api_Region), (n_slices_SortStableFunc_spans_row_int_spans_run_int, f_slices_SortStableFunc_spans_row_int_spans_run_int), (n_slices_insertionSortCmpFunc_api_Region, f_slices_insertionSortCmpFunc_api_Region), (n_slices_stableCmpFunc_spans_run_int, f_slices_stableCmpFunc_spans_run_int), (n_slices_insertionSortCmpFunc_spans_run_int, f_slices_insertionSortCmpFunc_spans_run_int), (n_rope_piece_Sum, f_rope_piece_Sum), (n_count_Of, f_count_Of), (n_count_Plus, f_count_Plus), (n_count_of, f_count_of), (n_count_units, f_count_units), (n_rope_counts_Plus, f_rope_counts_Plus)]
theorem tblK_ok : TblOk Tryz.prog tblK := List.forall_mem_cons.2 ⟨c_palinodetop_known, List.forall_mem_cons.2 ⟨c_engine_New, List.forall_mem_cons.2 ⟨c_engine_Engine_Edit, List.forall_mem_cons.2 ⟨c_engine_Engine_Head, List.forall_mem_cons.2 ⟨c_diff_Between, List.forall_mem_cons.2 ⟨c_engine_Engine_Text, List.forall_mem_cons.2 ⟨c_engine_Engine_Live, List.forall_mem_cons.2 ⟨c_view_New, List.forall_mem_cons.2 ⟨c_view_View_Do, List.forall_mem_cons.2 ⟨c_view_View_Text, List.forall_mem_cons.2 ⟨c_view_View_Head, List.forall_mem_cons.2 ⟨c_rev_New, List.forall_mem_cons.2 ⟨c_edit_Check, List.forall_mem_cons.2 ⟨c_engine_Engine_Copy, List.forall_mem_cons.2 ⟨c_rev_Revs_Add, List.forall_mem_cons.2 ⟨c_edit_Upon, List.forall_mem_cons.2 ⟨c_engine_Engine_UndoneAt, List.forall_mem_cons.2 ⟨c_engine_Engine_fits, List.forall_mem_cons.2 ⟨c_rev_Revs_Head, List.forall_mem_cons.2 ⟨c_engine_Engine_Atoms, List.forall_mem_cons.2 ⟨c_atom_Visible, List.forall_mem_cons.2 ⟨c_delta_NewMaker, List.forall_mem_cons.2 ⟨c_diff_each, List.forall_mem_cons.2 ⟨c_diff_Between_1, List.forall_mem_cons.2 ⟨c_delta_Maker_Copy, List.forall_mem_cons.2 ⟨c_delta_Maker_Put, List.forall_mem_cons.2 ⟨c_delta_Maker_Delta, List.forall_mem_cons.2 ⟨c_atom_Text, List.forall_mem_cons.2 ⟨c_delta_Is, List.forall_mem_cons.2 ⟨c_delta_Size, List.forall_mem_cons.2 ⟨c_rev_Revs_Live, List.forall_mem_cons.2 ⟨c_slices_Contains_int_int, List.forall_mem_cons.2 ⟨c_view_View_told, List.forall_mem_cons.2 ⟨c_view_View_Copy, List.forall_mem_cons.2 ⟨c_view_edits, List.forall_mem_cons.2 ⟨c_view_View_edits, List.forall_mem_cons.2 ⟨c_view_View_follows, List.forall_mem_cons.2 ⟨c_rope_Rope_String, List.forall_mem_cons.2 ⟨c_utf_Valid, List.forall_mem_cons.2 ⟨c_edit_Check_1, List.forall_mem_cons.2 ⟨c_utf_IsEdge, List.forall_mem_cons.2 ⟨c_edit_first, List.forall_mem_cons.2 ⟨c_edit_Check_2, List.forall_mem_cons.2 ⟨c_edit_Check_3, List.forall_mem_cons.2 ⟨c_edit_order, List.forall_mem_cons.2 ⟨c_edit_Check_4, List.forall_mem_cons.2 ⟨c_edit_long, List.forall_mem_cons.2 ⟨c_atom_Copy, List.forall_mem_cons.2 ⟨c_rev_Revs_Copy, List.forall_mem_cons.2 ⟨c_rev_Revs_next, List.forall_mem_cons.2 ⟨c_edit_Spots, List.forall_mem_cons.2 ⟨c_edit_Cuts, List.forall_mem_cons.2 ⟨c_atom_Put, List.forall_mem_cons.2 ⟨c_rev_Revs_Undone, List.forall_mem_cons.2 ⟨c_rev_set_sorted, List.forall_mem_cons.2 ⟨c_slices_ContainsFunc_api_Cut_api_Cut, List.forall_mem_cons.2 ⟨c_slices_Clone_api_Cut_api_Cut, List.forall_mem_cons.2 ⟨c_atom_holds, List.forall_mem_cons.2 ⟨c_delta_IsCopy, List.forall_mem_cons.2 ⟨c_strings_Builder_WriteString, List.forall_mem_cons.2 ⟨c_delta_elem, List.forall_mem_cons.2 ⟨c_delta_sums, List.forall_mem_cons.2 ⟨c_slices_Index_int_int, List.forall_mem_cons.2 ⟨c_rope_New, List.forall_mem_cons.2 ⟨c_view_View_Selection, List.forall_mem_cons.2 ⟨c_view_View_Spans, List.forall_mem_cons.2 ⟨c_view_View_Breaks, List.forall_mem_cons.2 ⟨c_carets_Type, List.forall_mem_cons.2 ⟨c_region_Move, List.forall_mem_cons.2 ⟨c_spans_Edit, List.forall_mem_cons.2 ⟨c_breaks_Edit, List.forall_mem_cons.2 ⟨c_tree_Seq_rope_piece_rope_counts_All, List.forall_mem_cons.2 ⟨c_utf_Size, List.forall_mem_cons.2 ⟨c_atom_Places, List.forall_mem_cons.2 ⟨c_edit_spot, List.forall_mem_cons.2 ⟨c_utf_Clean, List.forall_mem_cons.2 ⟨c_maps_Keys_rev_set_int_unit, List.forall_mem_cons.2 ⟨c_slices_IndexFunc_api_Cut_api_Cut, List.forall_mem_cons.2 ⟨c_rope_made, List.forall_mem_cons.2 ⟨c_view_copied_api_Region, List.forall_mem_cons.2 ⟨c_view_copied_api_Span, List.forall_mem_cons.2 ⟨c_view_copied_int, List.forall_mem_cons.2 ⟨c_region_Span, List.forall_mem_cons.2 ⟨c_region_every_api_Region, List.forall_mem_cons.2 ⟨c_region_Move_1, List.forall_mem_cons.2 ⟨c_interval_Is, List.forall_mem_cons.2 ⟨c_region_count, List.forall_mem_cons.2 ⟨c_offset_Move, List.forall_mem_cons.2 ⟨c_region_apart, List.forall_mem_cons.2 ⟨c_spans_Is, List.forall_mem_cons.2 ⟨c_spans_told, List.forall_mem_cons.2 ⟨c_breaks_Is, List.forall_mem_cons.2 ⟨c_tree_Seq_rope_piece_rope_counts_Len, List.forall_mem_cons.2 ⟨c_tree_node_rope_piece_rope_counts_all, List.forall_mem_cons.2 ⟨c_utf_point, List.forall_mem_cons.2 ⟨c_tree_Make_rope_piece_rope_counts, List.forall_mem_cons.2 ⟨c_slices_ContainsFunc_api_Region_api_Region, List.forall_mem_cons.2 ⟨c_region_every_api_Region_1, List.forall_mem_cons.2 ⟨c_slices_Clone_api_Region_api_Region, List.forall_mem_cons.2 ⟨c_slices_SortStableFunc_api_Region_api_Region, List.forall_mem_cons.2 ⟨c_interval_Folded_api_Region, List.forall_mem_cons.2 ⟨c_spans_row_int_sorted, List.forall_mem_cons.2 ⟨c_utf_forms, List.forall_mem_cons.2 ⟨c_utf_long, List.forall_mem_cons.2 ⟨c_utf_isPoint, List.forall_mem_cons.2 ⟨c_tree_spread_rope_piece_tree_node_rope_piece_rope_counts, List.forall_mem_cons.2 ⟨c_tree_leaf_rope_piece_rope_counts, List.forall_mem_cons.2 ⟨c_slices_IndexFunc_api_Region_api_Region, List.forall_mem_cons.2 ⟨c_slices_stableCmpFunc_api_Region, List.forall_mem_cons.2 ⟨c_slices_SortStableFunc_spans_row_int_spans_run_int, List.forall_mem_cons.2 ⟨c_slices_insertionSortCmpFunc_api_Region, List.forall_mem_cons.2 ⟨c_slices_stableCmpFunc_spans_run_int, List.forall_mem_cons.2 ⟨c_slices_insertionSortCmpFunc_spans_run_int, List.forall_mem_cons.2 ⟨c_rope_piece_Sum, List.forall_mem_cons.2 ⟨c_count_Of, List.forall_mem_cons.2 ⟨c_count_Plus, List.forall_mem_cons.2 ⟨c_count_of, List.forall_mem_cons.2 ⟨c_count_units, List.forall_mem_cons.2 ⟨c_rope_counts_Plus, fun _ h => by cases h⟩⟩⟩⟩⟩⟩⟩⟩⟩⟩⟩⟩⟩⟩⟩⟩⟩⟩⟩⟩⟩⟩⟩⟩⟩⟩⟩⟩⟩⟩⟩⟩⟩⟩⟩⟩⟩⟩⟩⟩⟩⟩⟩⟩⟩⟩⟩⟩⟩⟩⟩⟩⟩⟩⟩⟩⟩⟩⟩⟩⟩⟩⟩⟩⟩⟩⟩⟩⟩⟩⟩⟩⟩⟩⟩⟩⟩⟩⟩⟩⟩⟩⟩⟩⟩⟩⟩⟩⟩⟩⟩⟩⟩⟩⟩⟩⟩⟩⟩⟩⟩⟩⟩⟩⟩⟩⟩⟩⟩⟩⟩⟩⟩⟩⟩⟩⟩⟩⟩
theorem knownT_call (σ : Heap) (hd : σ.F0.dr = false) : ACall Tryz.prog n_palinodetop_known [] σ (.bool true) σ :=
  acall_ran_d mixed ext_ok tblK_ok (k := 50) (n := 60) rfl rfl (fun W F => by kernel_rfl) σ hd
end Go.Proofs.YtkjikdohnomajaaGreat.M
namespace Go.Proofs.YtkjikdohnomajaaGreat.M
open Go Go.Mini
attribute [local congr] go1_congr goM_congr goG_congr goV_congr drawwp_congr Xwp_congr
theorem now_call {σ : Heap} {k : Nat} {E : Eng} {fp : List Nat} (h : IsEng σ k E fp) (hR : E.R.Ok) : ACall Tryz.prog n_palinodetop_now [.ptr (.new k) 0] σ (.str (E.text (E.R.head : Nat))) σ := by
  refine exact_call (spec_of_awp mixed c_palinodetop_now (tl rfl) ?_)
  unfold f_palinodetop_now
  have hx := etext_at h (E.R.head : Nat)
  rw [textV_head hR] at hx
  simp +decide only [↓evd, evw, evz, reduceCtorEq, ↓reduceIte]
  refine MSpec.of (ehead_at h) ?_
  simp +decide only [↓evd, evw, evz, reduceCtorEq, ↓reduceIte]
  refine MSpec.of hx ?_
  simp +decide only [↓evd, evw, evz, reduceCtorEq, ↓reduceIte]
structure Dlt where
  base : Int
  els : List Chg
def eDelta (d : Dlt) : AVal := .agg [.int .i64 d.base, eChgs d.els]
theorem eDelta_pure (d : Dlt) : (eDelta d).pure = true := by simp only [eDelta, AVal.pure, AVal.pures, eChgs_pure]; rfl
def isCp (x : Chg) : Bool := x.text == []
def toR : List Chg → Int
  | x :: r => if isCp x then x.to else toR r
  | [] => 0
def copR : List Chg → Bool
  | x :: _ => isCp x
  | [] => false
def elemOk (base : Int) (x : Chg) (to : Int) (ahead copied : Bool) : Bool :=
  if isCp x then decide (to ≤ x.frm) && (decide (to < x.frm) || !copied) && decide (x.frm < x.to) && decide (x.to ≤ base)
  else decide (x.frm = 0) && decide (x.to = 0) && (!ahead || copied) && decide (x.text.length ≤ 20000) && valid x.text
def WFr (base : Int) : List Chg → Prop
  | [] => True
  | x :: r => WFr base r ∧ elemOk base x (toR r) (!r.isEmpty) (copR r) = true
def keptL (l : List Chg) : Int := (l.map fun x => x.to - x.frm).sum
def putL (l : List Chg) : Nat := (l.map fun x => x.text.length).sum
structure DOk (d : Dlt) : Prop where
  b0 : 0 ≤ d.base
  b1 : d.base ≤ 20000
  few : d.els.length ≤ 60
  wf : WFr d.base d.els.reverse
  size : keptL d.els + (putL d.els : Nat) ≤ 20000
theorem keptL_app (l m : List Chg) : keptL (l ++ m) = keptL l + keptL m := by simp [keptL]
theorem putL_app (l m : List Chg) : putL (l ++ m) = putL l + putL m := by simp [putL]
theorem keptL_one (x : Chg) : keptL [x] = x.to - x.frm := by simp [keptL]
theorem putL_one (x : Chg) : putL [x] = x.text.length := by simp [putL]
theorem WFr.tail {base : Int} : ∀ {l m : List Chg}, WFr base (l ++ m) → WFr base m
  | [], m, h => h
  | x :: l, m, h => WFr.tail (l := l) h.1
theorem elemOk_facts {base : Int} {x : Chg} {to : Int} {a c : Bool} (h : elemOk base x to a c = true) : (x.text = [] ∧ to ≤ x.frm ∧ x.frm < x.to ∧ x.to ≤ base) ∨ (x.text ≠ [] ∧ x.frm = 0 ∧ x.to = 0 ∧ x.text.length ≤ 20000) := by
  unfold elemOk at h
  split at h
  · rename_i hc
    simp only [Bool.and_eq_true, decide_eq_true_eq] at h
    exact .inl ⟨by simpa [isCp] using hc, h.1.1.1, h.1.2, h.2⟩
  · rename_i hc
    simp only [Bool.and_eq_true, decide_eq_true_eq] at h
    exact .inr ⟨by simpa [isCp] using hc, h.1.1.1.1, h.1.1.1.2, h.1.2⟩
theorem toR_nonneg {base : Int} : ∀ {r : List Chg}, WFr base r → 0 ≤ toR r
  | [], _ => by simp [toR]
  | x :: r, h => by
    have ih := toR_nonneg h.1
    unfold toR
    split
    · rename_i hc
      rcases elemOk_facts h.2 with ⟨_, h1, h2, _⟩ | ⟨h1, _⟩
      · omega
      · exact absurd (by simpa [isCp] using hc) h1
    · exact ih
theorem DOk.at {d : Dlt} (h : DOk d) {i : Nat} (hi : i < d.els.length) : elemOk d.base d.els[i] (toR (d.els.take i).reverse) (!(d.els.take i).reverse.isEmpty) (copR (d.els.take i).reverse) = true ∧ 0 ≤ toR (d.els.take i).reverse := by
  have h1 := h.wf
  have e : d.els.reverse = (d.els.drop (i + 1)).reverse ++ (d.els[i] :: (d.els.take i).reverse) := by
    conv => lhs; rw [← List.take_append_drop (i + 1) d.els]
    rw [List.reverse_append, List.take_succ_eq_append_getElem hi, List.reverse_append]; rfl
  rw [e] at h1
  have h2 := WFr.tail h1
  exact ⟨h2.2, toR_nonneg h2.1⟩
theorem take_snoc {l : List Chg} {i : Nat} (h : i < l.length) : (l.take (i + 1)).reverse = l[i] :: (l.take i).reverse := by
  rw [List.take_succ_eq_append_getElem h, List.reverse_append]; rfl
theorem DOk.prefix {d : Dlt} (h : DOk d) : ∀ i, i ≤ d.els.length → 0 ≤ keptL (d.els.take i) ∧ keptL (d.els.take i) + (putL (d.els.take i) : Nat) ≤ 20000 ∧ 0 ≤ keptL d.els - keptL (d.els.take i) := by
  have hpos : ∀ m : List Chg, (∀ x ∈ m, 0 ≤ x.to - x.frm) → 0 ≤ keptL m := by
    intro m
    induction m with
    | nil => intro _; simp [keptL]
    | cons x m ih =>
      intro hm
      have h1 := hm x (by simp)
      have h2 := ih fun y hy => hm y (List.mem_cons_of_mem _ hy)
      simp only [keptL, List.map_cons, List.sum_cons] at h2 ⊢; omega
  have hall : ∀ x ∈ d.els, 0 ≤ x.to - x.frm := by
    intro x hx
    obtain ⟨i, hi, rfl⟩ := List.getElem_of_mem hx
    rcases elemOk_facts (h.at hi).1 with ⟨_, _, h2, _⟩ | ⟨_, h1, h2, _⟩ <;> omega
  intro i hi
  have e1 := keptL_app (d.els.take i) (d.els.drop i)
  have e2 := putL_app (d.els.take i) (d.els.drop i)
  rw [List.take_append_drop] at e1 e2
  have p1 := hpos (d.els.take i) fun x hx => hall x (List.mem_of_mem_take hx)
  have p2 := hpos (d.els.drop i) fun x hx => hall x (List.mem_of_mem_drop hx)
  have := h.size
  omega
theorem isCopy_call (σ : Heap) (x : Chg) : ACall Tryz.prog n_delta_IsCopy [eChg x] σ (.bool (isCp x)) σ := by
  refine keep_call rfl (spec_of_awp mixed c_delta_IsCopy (tl rfl) ?_)
  unfold f_delta_IsCopy
  simp +decide only [↓evd, evw, evz, reduceCtorEq, ↓reduceIte, eChg, aStr]
  first | exact ⟨rfl, (Keep.refl _ _).new _⟩ | exact (Keep.refl _ _).new _
theorem elem_call (σ : Heap) (base : Int) (x : Chg) (to : Int) (a c : Bool) (hl : x.text.length ≤ maxRoom) (h : elemOk base x to a c = true) : ACall Tryz.prog n_delta_elem [eChg x, .int .i64 base, .int .i64 to, .bool a, .bool c] σ (.bool true) σ := by
  refine keep_call rfl (spec_of_awp mixed c_delta_elem (tl rfl) ?_)
  unfold f_delta_elem
  have hic := fun ρ => isCopy_call ρ x
  have hv := fun ρ => valid_call ρ x.text hl
  have hk : Keep [] σ (σ.new (.cells [.int .i64 x.frm, .int .i64 x.to, .str x.text] none)) := (Keep.refl _ _).new _
  have hk2 : Keep [] σ (((σ.new (.cells [.int .i64 x.frm, .int .i64 x.to, .str x.text] none)).new (.cells [.int .i64 0, .int .i64 0, .str []] none)).set (σ.next + 1) (.cells [.int .i64 0, .int .i64 0, .str x.text] none)) := ((hk.new _).set (.inr (by omega)) _)
  have ne1 : (σ.next + 1 = σ.next) = False := eq_false (by omega)
  simp only [eChg] at hic
  unfold elemOk at h
  cases hc : isCp x
  · rw [hc] at h
    rw [hc] at hic
    simp only [Bool.false_eq_true, if_false, Bool.and_eq_true, decide_eq_true_eq] at h
    obtain ⟨⟨⟨⟨h1, h2⟩, h3⟩, h4⟩, h5⟩ := h
    rw [h5] at hv
    rw [h1, h2] at hk2
    have h4' : (x.text.length : Int) ≤ 20000 := by omega
    have b0 : ((0 : Int) == 0) = true := rfl
    simp +decide only [↓evd, evw, evz, reduceCtorEq, ↓reduceIte, eChg]
    refine MSpec.of (hic _) ?_
    simp +decide only [↓evd, evw, evz, reduceCtorEq, ↓reduceIte, h1, h2, ne1, b0, beq_self_eq_true]
    cases a <;> cases c <;> simp only [Bool.not_false, Bool.not_true, Bool.or_true, Bool.true_or, Bool.or_false, Bool.false_or, Bool.false_eq_true] at h3
    all_goals
      simp +decide only [↓evd, evw, evz, reduceCtorEq, ↓reduceIte, h1, h2, ne1, h4', b0, beq_self_eq_true]
      refine MSpec.of (hv _) ?_
      simp +decide only [↓evd, evw, evz, reduceCtorEq, ↓reduceIte]
      first | exact hk2 | exact ⟨rfl, hk2⟩
  · rw [hc] at h
    rw [hc] at hic
    simp only [if_true, Bool.and_eq_true, decide_eq_true_eq] at h
    obtain ⟨⟨⟨h1, h2⟩, h3⟩, h4⟩ := h
    simp +decide only [↓evd, evw, evz, reduceCtorEq, ↓reduceIte, eChg]
    refine MSpec.of (hic _) ?_
    by_cases hlt : to < x.frm
    · simp +decide only [↓evd, evw, evz, reduceCtorEq, ↓reduceIte, h1, h3, h4, hlt]
      first | exact hk | exact ⟨rfl, hk⟩
    · have hcf : c = false := by simpa [hlt] using h2
      subst hcf
      simp +decide only [↓evd, evw, evz, reduceCtorEq, ↓reduceIte, h1, h3, h4, hlt]
      first | exact hk | exact ⟨rfl, hk⟩
def szI (l : List Chg) : Int := keptL l + (putL l : Nat)
theorem szI_take {l : List Chg} {i : Nat} (h : i < l.length) : szI (l.take (i + 1)) = szI (l.take i) + ((l[i].to - l[i].frm) + (l[i].text.length : Nat)) := by
  simp only [szI, List.take_succ_eq_append_getElem h, keptL_app, putL_app, keptL_one, putL_one]; omega
theorem DOk.nums {d : Dlt} (h : DOk d) {i : Nat} (hi : i < d.els.length) : 0 ≤ d.els[i].to - d.els[i].frm ∧ 0 ≤ d.els[i].frm ∧ d.els[i].to ≤ 20000 ∧ d.els[i].text.length ≤ 20000 := by
  obtain ⟨h1, h2⟩ := h.at hi
  have hb := h.b1
  have hb0 := h.b0
  rcases elemOk_facts h1 with ⟨e, _, _, _⟩ | ⟨_, _, _, _⟩
  · rw [e]; simp only [List.length_nil]; omega
  · omega
set_option maxHeartbeats 4000000 in
theorem isD_call (σ : Heap) (d : Dlt) (h : DOk d) : ACall Tryz.prog n_delta_Is [eDelta d] σ (.bool true) σ := by
  refine keep_call rfl (spec_of_awp mixed c_delta_Is (tl rfl) ?_)
  unfold f_delta_Is
  have hb0 := h.b0
  have hb1 := h.b1
  have hfew := h.few
  have n0 : ¬ d.base < 0 := by omega
  have n1 : ¬ (20000 : Int) < d.base := by omega
  have n2 : ¬ (60 : Int) < (d.els.length : Int) := by omega
  obtain ⟨σ1, hσ1⟩ : ∃ σ1, σ1 = σ.new (.cells [.int .i64 d.base, .fsl 3 (d.els.map eChg)] none) := ⟨_, rfl⟩
  have hk1 : Keep [] σ σ1 := by rw [hσ1]; exact (Keep.refl _ _).new _
  have hg1 : σ1.get σ.next = some (.cells [.int .i64 d.base, .fsl 3 (d.els.map eChg)] none) := by rw [hσ1, Heap.get_new, if_pos rfl]
  have hn1 : σ.next < σ1.next := by rw [hσ1]; simp
  simp +decide only [↓evd, evw, evz, reduceCtorEq, ↓reduceIte, eDelta, eChgs, n0, n1, n2]
  rw [← hσ1]
  generalize σ.next = K at hg1 hn1 ⊢
  refine awp_loop (fun m fr τ => ∃ (i : Nat), m + i = d.els.length ∧ fr.get 1 = .ptr (.new K) 0 ∧ fr.get 3 = .int .i64 (szI (d.els.take i)) ∧ fr.get 4 = .int .i64 (toR (d.els.take i).reverse) ∧ fr.get 23 = .fsl 3 (d.els.map eChg) ∧ fr.get 24 = .int .i64 (d.els.length : Nat) ∧ fr.get 25 = .int .i64 (i : Nat) ∧ Keep [] σ1 τ) ?_ (m := d.els.length) ?_
  · rintro m fr τ ⟨i, hi, e1, e3, e4, e23, e24, e25, hK⟩
    by_cases hlt : i < d.els.length
    · have hlt' : (i : Int) < (d.els.length : Int) := by omega
      have hw := wrap_succ (i := i) (by omega)
      have hg := map_get eChg d.els i hlt
      have hg2 : τ.get K = some (.cells [.int .i64 d.base, .fsl 3 (d.els.map eChg)] none) := by rw [hK.get hn1]; exact hg1
      have hat := h.at hlt
      have hnum := h.nums hlt
      have hsz := szI_take hlt
      have hts := take_snoc hlt
      have hp := (h.prefix (i + 1) (by omega)).2.1
      have hp1 := (h.prefix i (by omega)).1
      have hp0 : 0 ≤ szI (d.els.take i) := by simp only [szI]; omega
      have hsz2 : szI (d.els.take (i + 1)) ≤ 20000 := hp
      have hprev : ∀ hi0 : 0 < i, (d.els.take i).reverse = d.els[i - 1] :: (d.els.take (i - 1)).reverse := fun hi0 => by
        have := take_snoc (l := d.els) (i := i - 1) (by omega)
        rwa [show i - 1 + 1 = i by omega] at this
      have hgp : ∀ hi0 : 0 < i, (d.els.map eChg)[i - 1]? = some (eChg (d.els[i - 1]'(by omega))) := fun hi0 => map_get eChg d.els (i - 1) (by omega)
      generalize d.els[i] = x at hg hat hnum hsz hts
      have hkn : Keep [] τ ((τ.new (.cells [.int .i64 0, .int .i64 0, .str []] none)).set τ.next (.cells [.int .i64 x.frm, .int .i64 x.to, .str x.text] none)) := (Keep.refl _ _).junk _ _
      have hK' := hK.junk (.cells [.int .i64 0, .int .i64 0, .str []] none) (.cells [.int .i64 x.frm, .int .i64 x.to, .str x.text] none)
      have hneK : (τ.next = K) = False := eq_false (by have := hK.2.2.1; omega)
      have hto : toR (d.els.take (i + 1)).reverse = if isCp x then x.to else toR (d.els.take i).reverse := by rw [hts]; rfl
      have w1 : IntKind.i64.wrap (x.to - x.frm) = x.to - x.frm := wrap_id (by omega) (by omega)
      have w2 : IntKind.i64.wrap ((x.to - x.frm) + (x.text.length : Int)) = (x.to - x.frm) + (x.text.length : Int) := wrap_id (by omega) (by omega)
      have w3 : IntKind.i64.wrap (szI (d.els.take i) + ((x.to - x.frm) + (x.text.length : Int))) = szI (d.els.take (i + 1)) := by rw [wrap_id (by omega) (by omega), hsz]
      have n3 : ¬ (20000 : Int) < szI (d.els.take (i + 1)) := by omega
      have hic := fun ρ => isCopy_call ρ x
      have hel := fun ρ => elem_call ρ d.base x (toR (d.els.take i).reverse) (!(d.els.take i).reverse.isEmpty) (copR (d.els.take i).reverse) (by unfold maxRoom; omega) hat.1
      simp only [eChg] at hic hel
      have main : ∀ fr2 : Mini.Frame, True := fun _ => trivial
      rcases Nat.eq_zero_or_pos i with h0 | h0
      case' inl =>
        have hgt : ¬ (0 : Int) < (i : Int) := by omega
        have hnon : (!(d.els.take i).reverse.isEmpty) = false := by rw [h0]; rfl
        have hcop : copR (d.els.take i).reverse = false := by rw [h0]; rfl
        rw [hnon, hcop] at hel
        simp +decide only [↓evd, evw, evz, reduceCtorEq, ↓reduceIte, e1, e3, e4, e23, e24, e25, hlt', hg, eChg, hg2, hneK, hgt]
        refine MSpec.of (hel _) ?_
      case' inr =>
        have hgt : (0 : Int) < (i : Int) := by omega
        have wp : IntKind.i64.wrap ((i : Int) - 1) = ((i - 1 : Nat) : Int) := by rw [wrap_id (by omega) (by omega)]; omega
        have hgp' := hgp h0
        have hpr := hprev h0
        have hnon : (!(d.els.take i).reverse.isEmpty) = true := by rw [hpr]; rfl
        have hcop : copR (d.els.take i).reverse = isCp (d.els[i - 1]'(by omega)) := by rw [hpr]; rfl
        rw [hnon, hcop] at hel
        generalize (d.els[i - 1]'(by omega)) = y at hgp' hel
        have hiy := fun ρ => isCopy_call ρ y
        simp only [eChg] at hiy hgp'
        simp +decide only [↓evd, evw, evz, reduceCtorEq, ↓reduceIte, e1, e3, e4, e23, e24, e25, hlt', hg, eChg, hg2, hneK, hgt, wp, hgp']
        refine MSpec.of (hiy _) ?_
        simp +decide only [↓evd, evw, evz, reduceCtorEq, ↓reduceIte, e1, e3, e4, e23, e24, e25, hlt', hg, eChg, hg2, hneK, hgt]
        refine MSpec.of (hel _) ?_
      all_goals
        simp +decide only [↓evd, evw, evz, reduceCtorEq, ↓reduceIte, e1, e3, e4, e23, e24, e25]
        refine MSpec.of (hic _) ?_
        cases hc : isCp x
        · rw [hc] at hto
          simp only [Bool.false_eq_true, if_false] at hto
          simp +decide only [↓evd, evw, evz, reduceCtorEq, ↓reduceIte, e1, e3, e4, e23, e24, e25, w1, w2, w3, n3, hw]
          exact ⟨m - 1, by omega, _, by omega, rfl, by rw [hto], rfl, hK'⟩
        · rw [hc] at hto
          simp only [if_true] at hto
          simp +decide only [↓evd, evw, evz, reduceCtorEq, ↓reduceIte, e1, e3, e4, e23, e24, e25, w1, w2, w3, n3, hw]
          exact ⟨m - 1, by omega, _, by omega, rfl, by rw [hto], rfl, hK'⟩
    · have hlt' : ¬ (i : Int) < (d.els.length : Int) := by omega
      simp +decide only [↓evd, evw, evz, reduceCtorEq, ↓reduceIte, e1, e3, e4, e23, e24, e25, hlt']
      first | exact hk1.trans hK (fun x hx => nomatch hx) | exact ⟨rfl, hk1.trans hK (fun x hx => nomatch hx)⟩
  · refine ⟨0, by omega, ?_⟩
    simp +decide only [↓evd, evw, evz, reduceCtorEq, ↓reduceIte]
    first | exact ⟨rfl, rfl, Keep.refl _ _⟩ | exact Keep.refl _ _
theorem kept_take {l : List Chg} {i : Nat} (h : i < l.length) : keptL (l.take (i + 1)) = keptL (l.take i) + (l[i].to - l[i].frm) := by
  simp only [List.take_succ_eq_append_getElem h, keptL_app, keptL_one]
theorem put_take {l : List Chg} {i : Nat} (h : i < l.length) : putL (l.take (i + 1)) = putL (l.take i) + l[i].text.length := by
  simp only [List.take_succ_eq_append_getElem h, putL_app, putL_one]
theorem DOk.kept0 {d : Dlt} (h : DOk d) : 0 ≤ keptL d.els ∧ keptL d.els + (putL d.els : Nat) ≤ 20000 := by
  have := h.prefix d.els.length (Nat.le_refl _)
  rw [List.take_length] at this
  exact ⟨this.1, this.2.1⟩
theorem sums_call (σ : Heap) (d : Dlt) (h : DOk d) : ACall Tryz.prog n_delta_sums [eDelta d] σ (.tup [.int .i64 (keptL d.els), .int .i64 (putL d.els : Nat)]) σ := by
  refine keep_call rfl (spec_of_awp mixed c_delta_sums (tl rfl) ?_)
  unfold f_delta_sums
  have hfew := h.few
  have his := fun ρ => isD_call ρ d h
  obtain ⟨σ1, hσ1⟩ : ∃ σ1, σ1 = σ.new (.cells [.int .i64 d.base, .fsl 3 (d.els.map eChg)] none) := ⟨_, rfl⟩
  have hk1 : Keep [] σ σ1 := by rw [hσ1]; exact (Keep.refl _ _).new _
  simp only [eDelta, eChgs] at his
  simp +decide only [↓evd, evw, evz, reduceCtorEq, ↓reduceIte, eDelta, eChgs]
  rw [← hσ1]
  refine MSpec.of (his _) ?_
  have hg1 : σ1.get σ.next = some (.cells [.int .i64 d.base, .fsl 3 (d.els.map eChg)] none) := by rw [hσ1, Heap.get_new, if_pos rfl]
  simp +decide only [↓evd, evw, evz, reduceCtorEq, ↓reduceIte, hg1]
  refine awp_loop (fun m fr τ => ∃ (i : Nat), m + i = d.els.length ∧ fr.get 4 = .int .i64 (keptL (d.els.take i)) ∧ fr.get 5 = .int .i64 (putL (d.els.take i) : Nat) ∧ fr.get 12 = .fsl 3 (d.els.map eChg) ∧ fr.get 13 = .int .i64 (d.els.length : Nat) ∧ fr.get 14 = .int .i64 (i : Nat) ∧ Keep [] σ1 τ) ?_ (m := d.els.length) ?_
  · rintro m fr τ ⟨i, hi, e4, e5, e12, e13, e14, hK⟩
    by_cases hlt : i < d.els.length
    · have hlt' : (i : Int) < (d.els.length : Int) := by omega
      have hw := wrap_succ (i := i) (by omega)
      have hg := map_get eChg d.els i hlt
      have hnum := h.nums hlt
      have hkt := kept_take hlt
      have hpt := put_take hlt
      have hp0 := h.prefix i (by omega)
      have hp1 := h.prefix (i + 1) (by omega)
      generalize d.els[i] = x at hg hnum hkt hpt
      have w1 : IntKind.i64.wrap (x.to - x.frm) = x.to - x.frm := wrap_id (by omega) (by omega)
      have w2 : IntKind.i64.wrap (keptL (d.els.take i) + (x.to - x.frm)) = keptL (d.els.take (i + 1)) := by rw [wrap_id (by omega) (by omega), hkt]
      have w3 : IntKind.i64.wrap (((putL (d.els.take i) : Nat) : Int) + (x.text.length : Int)) = ((putL (d.els.take (i + 1)) : Nat) : Int) := by rw [wrap_id (by omega) (by omega), hpt]; omega
      have hK' := hK.junk (.cells [.int .i64 0, .int .i64 0, .str []] none) (.cells [.int .i64 x.frm, .int .i64 x.to, .str x.text] none)
      simp +decide only [↓evd, evw, evz, reduceCtorEq, ↓reduceIte, e4, e5, e12, e13, e14, hlt', hg, eChg, w1, w2, w3, hw]
      exact ⟨m - 1, by omega, i + 1, by omega, rfl, rfl, rfl, hK'⟩
    · have hlt' : ¬ (i : Int) < (d.els.length : Int) := by omega
      have hti : d.els.take i = d.els := List.take_of_length_le (by omega)
      rw [hti] at e4 e5
      simp +decide only [↓evd, evw, evz, reduceCtorEq, ↓reduceIte, e4, e5, e12, e13, e14, hlt']
      first | exact hk1.trans hK (fun x hx => nomatch hx) | exact ⟨rfl, hk1.trans hK (fun x hx => nomatch hx)⟩
  · refine ⟨0, by omega, ?_⟩
    simp +decide only [↓evd, evw, evz, reduceCtorEq, ↓reduceIte]
    first | exact ⟨rfl, rfl, Keep.refl _ _⟩ | exact Keep.refl _ _
theorem dsize_call (σ : Heap) (d : Dlt) (h : DOk d) : ACall Tryz.prog n_delta_Size [eDelta d] σ (.int .i64 (keptL d.els + (putL d.els : Nat))) σ := by
  refine keep_call rfl (spec_of_awp mixed c_delta_Size (tl rfl) ?_)
  unfold f_delta_Size
  have hsu := fun ρ => sums_call ρ d h
  have hz := h.kept0
  have hw : IntKind.i64.wrap (keptL d.els + ((putL d.els : Nat) : Int)) = keptL d.els + ((putL d.els : Nat) : Int) := wrap_id (by omega) (by omega)
  simp only [eDelta, eChgs] at hsu
  simp +decide only [↓evd, evw, evz, reduceCtorEq, ↓reduceIte, eDelta, eChgs]
  refine MSpec.of (hsu _) ?_
  simp +decide only [↓evd, evw, evz, reduceCtorEq, ↓reduceIte, hw]
  exact (Keep.refl _ _).new _
theorem slc_from {K N n : Nat} (h : n ≤ N) : aSlc 1 (.slc (.new K) 0 N (.ex N)) (some (.int .i64 (n : Nat))) none none = some (.slc (.new K) (if N = n then 0 else n) (N - n) (.ex (N - n))) := by
  have b3 : aBound none N N = some N := rfl
  have b2 : aBound (some (.int .i64 (n : Nat))) 0 N = some n := by simp only [aBound]; rw [if_pos (by simp; omega)]; rfl
  simp only [aSlc, b3, b2, Option.isSome_none, Bool.false_and, Bool.false_eq_true, if_false, Nat.zero_add, Nat.mul_one]
def applyE (s : List UInt8) (x : Chg) : List UInt8 := (s.take x.to.toNat).drop x.frm.toNat ++ x.text
def applyL (s : List UInt8) (l : List Chg) : List UInt8 := (l.map (applyE s)).flatten
theorem apply_take {s : List UInt8} {l : List Chg} {i : Nat} (h : i < l.length) : applyL s (l.take (i + 1)) = applyL s (l.take i) ++ applyE s l[i] := by
  simp only [applyL]
  rw [List.take_succ_eq_append_getElem h, List.map_append, List.flatten_append]
  simp
theorem applyE_len {s : List UInt8} {x : Chg} (h0 : 0 ≤ x.frm) (h1 : x.frm ≤ x.to) (h2 : x.to ≤ s.length) : ((applyE s x).length : Int) = (x.to - x.frm) + (x.text.length : Nat) := by
  simp only [applyE, List.length_append, List.length_drop, List.length_take]; omega
theorem byteCells_app2 (s t : List UInt8) : byteCells (s ++ t) = byteCells s ++ byteCells t := by simp [byteCells]
theorem byteCells_len2 (s : List UInt8) : (byteCells s).length = s.length := by simp [byteCells]
theorem byteCells_cells (s : List UInt8) : (byteCells s).all AVal.isCell = true := by
  rw [List.all_eq_true]; intro z hz; rw [byteCells, List.mem_map] at hz; obtain ⟨_, _, rfl⟩ := hz; rfl
theorem copy_str {σ : Heap} {K n N : Nat} {F t : List UInt8} {r : List AVal} {cap : Cap} (hK : σ.get K = some (.cells (byteCells F ++ r) none)) (hF : F.length = n) (hr : r.length = N - n) (ht : t.length ≤ N - n) {off : Nat} (ho : off = n ∨ N - n = 0) :
    ∃ σ', aCopy 1 (.slc (.new K) off (N - n) cap) (.str t) σ = some (.int .i64 (t.length : Nat), σ') ∧ σ'.get K = some (.cells (byteCells (F ++ t) ++ r.drop t.length) none) ∧ σ'.W = σ.W ∧ σ'.F0 = σ.F0 ∧ σ'.next = σ.next ∧ ∀ q, q ≠ K → σ'.get q = σ.get q := by
  have hm : min t.length (N - n) = t.length := by omega
  simp only [aCopy, aSLen, aLenOf, hm, srcCells]
  by_cases h0 : t.length = 0
  · have : t = [] := List.eq_nil_of_length_eq_zero h0
    subst this
    refine ⟨σ, ?_, by simpa using hK, rfl, rfl, rfl, fun _ _ => rfl⟩
    simp
  · have hoe : off = n := ho.resolve_right (by omega)
    rw [hoe]
    refine ⟨σ.set K (.cells (byteCells (F ++ t) ++ r.drop t.length) none), ?_, by rw [Heap.get_set, if_pos rfl], rfl, rfl, rfl, fun q hq => by rw [Heap.get_set, if_neg (Ne.symm hq)]⟩
    have hall := byteCells_cells t
    have hsz : n + t.length ≤ (byteCells F ++ r).length := by rw [List.length_append, byteCells_len2]; omega
    have hov : over (byteCells F ++ r) n (byteCells t) = byteCells (F ++ t) ++ r.drop t.length := by
      have h1 : (byteCells F).length = n := by rw [byteCells_len2]; exact hF
      have e1 : (byteCells F ++ r).take n = byteCells F := by rw [List.take_append_of_le_length (by omega), List.take_of_length_le (by omega)]
      have e2 : (byteCells F ++ r).drop (n + t.length) = r.drop t.length := by
        rw [List.drop_append, List.drop_eq_nil_of_le (by omega), List.nil_append, h1, Nat.add_sub_cancel_left]
      simp only [over, byteCells_len2, e1, e2, byteCells_app2]
    have hst : storeAt σ K n (byteCells t) = some (σ.set K (.cells (byteCells (F ++ t) ++ r.drop t.length) none)) := by
      simp only [storeAt, hK]
      rw [if_pos (by simp only [byteCells_cells, Bool.and_true, decide_eq_true_eq, byteCells_len2]; exact hsz), hov]
    simp only [Nat.le_refl, decide_true, Bool.and_true, if_true, List.take_length, if_neg h0, hst, Option.map_some]
theorem applyL_len {s : List UInt8} {d : Dlt} (h : DOk d) (hs : (s.length : Int) = d.base) : ∀ i, i ≤ d.els.length → ((applyL s (d.els.take i)).length : Int) = keptL (d.els.take i) + (putL (d.els.take i) : Nat) := by
  intro i
  induction i with
  | zero => intro _; simp [applyL, keptL, putL]
  | succ i ih =>
    intro hi
    have h1 := ih (by omega)
    have h2 := h.nums (i := i) (by omega)
    have h3 := h.at (i := i) (by omega)
    rw [apply_take (by omega), kept_take (by omega), put_take (by omega), List.length_append]
    have hle : d.els[i].to ≤ (s.length : Int) := by
      rw [hs]
      have hb := h.b0
      rcases elemOk_facts h3.1 with ⟨_, _, _, q⟩ | ⟨_, _, q, _⟩ <;> omega
    have := applyE_len (s := s) (x := d.els[i]) (by omega) (by omega) hle
    omega
theorem slcS_of {s : List UInt8} {a b : Int} (h0 : 0 ≤ a) (h1 : a ≤ b) (h2 : b ≤ s.length) : aSlcS (.str s) (some (.int .i64 a)) (some (.int .i64 b)) = some (.str ((s.take b.toNat).drop a.toNat)) := by
  have b1 : aBound (some (.int .i64 b)) s.length s.length = some b.toNat := by simp only [aBound]; rw [if_pos (by simp; omega)]
  have b2 : aBound (some (.int .i64 a)) 0 b.toNat = some a.toNat := by simp only [aBound]; rw [if_pos (by simp; omega)]
  simp only [aSlcS, b1, b2]
set_option maxHeartbeats 4000000 in
theorem apply_call (σ : Heap) (d : Dlt) (s : List UInt8) (h : DOk d) (hs : (s.length : Int) = d.base) : ACall Tryz.prog n_delta_Apply [eDelta d, .str s] σ (.tup [.str (applyL s d.els), .int .i64 0]) σ := by
  refine keep_call rfl (spec_of_awp mixed c_delta_Apply (tl rfl) ?_)
  unfold f_delta_Apply
  have hfew := h.few
  have his := fun ρ => isD_call ρ d h
  have hsz := fun ρ => dsize_call ρ d h
  have hz := h.kept0
  obtain ⟨N, hN⟩ : ∃ N : Nat, keptL d.els + ((putL d.els : Nat) : Int) = (N : Int) := ⟨(keptL d.els + ((putL d.els : Nat) : Int)).toNat, by omega⟩
  rw [hN] at hsz
  have hNb : N ≤ 20000 := by omega
  obtain ⟨σ1, hσ1⟩ : ∃ σ1, σ1 = σ.new (.cells [.int .i64 d.base, .fsl 3 (d.els.map eChg)] none) := ⟨_, rfl⟩
  have hk1 : Keep [] σ σ1 := by rw [hσ1]; exact (Keep.refl _ _).new _
  have hg1 : σ1.get σ.next = some (.cells [.int .i64 d.base, .fsl 3 (d.els.map eChg)] none) := by rw [hσ1, Heap.get_new, if_pos rfl]
  have hn1 : σ.next < σ1.next := by rw [hσ1]; simp
  have hbn : ((s.length : Int) != d.base) = false := by simp [hs]
  have z0 : (0 : Int) ≤ (N : Int) := by omega
  have z1 : N ≤ maxRoom := by unfold maxRoom; omega
  have z2 : (N : Int) ≤ 2 ^ 62 := by omega
  simp only [eDelta, eChgs] at his hsz
  simp +decide only [↓evd, evw, evz, reduceCtorEq, ↓reduceIte, eDelta, eChgs]
  rw [← hσ1]
  refine MSpec.of (his _) ?_
  simp +decide only [↓evd, evw, evz, reduceCtorEq, ↓reduceIte, hg1, hbn]
  refine MSpec.of (hsz _) ?_
  generalize σ.next = K at hg1 hn1 ⊢
  have hneq : (σ1.next = K) = False := eq_false (by omega)
  simp +decide only [↓evd, evw, evz, reduceCtorEq, ↓reduceIte, z0, z1, z2]
  simp +decide only [↓evd, evw, evz, reduceCtorEq, ↓reduceIte, hneq, hg1]
  have hz0 : ((List.replicate N [AVal.int IntKind.u8 0]).flatten).length = N := by simp
  obtain ⟨zs, hzs⟩ : ∃ zs, zs = (List.replicate N [AVal.int IntKind.u8 0]).flatten := ⟨_, rfl⟩
  rw [← hzs] at hz0
  rw [← hzs]
  obtain ⟨σ2, hσ2⟩ : ∃ σ2, σ2 = σ1.new (.cells zs none) := ⟨_, rfl⟩
  have hk2 : Keep [] σ σ2 := by rw [hσ2]; exact hk1.new _
  have hg2 : σ2.get σ1.next = some (.cells zs none) := by rw [hσ2, Heap.get_new, if_pos rfl]
  have hn2 : σ1.next < σ2.next := by rw [hσ2]; simp
  have hlow : σ.next ≤ σ1.next := hk1.2.2.1
  rw [← hσ2]
  generalize σ1.next = O at hg2 hn2 hlow ⊢
  clear hσ2 hσ1 hg1 hn1 hneq hzs
  refine awp_loop (fun m fr τ => ∃ (i : Nat) (r : List AVal), m + i = d.els.length ∧ fr.get 1 = .str s ∧ fr.get 6 = .slc (.new O) 0 N (.ex N) ∧ fr.get 7 = .int .i64 ((applyL s (d.els.take i)).length : Nat) ∧ fr.get 24 = .fsl 3 (d.els.map eChg) ∧ fr.get 25 = .int .i64 (d.els.length : Nat) ∧ fr.get 26 = .int .i64 (i : Nat) ∧
    τ.get O = some (.cells (byteCells (applyL s (d.els.take i)) ++ r) none) ∧ r.length = N - (applyL s (d.els.take i)).length ∧ O < τ.next ∧ Keep [] σ τ) ?_ (m := d.els.length) ?_
  · rintro m fr τ ⟨i, r, hi, e1, e6, e7, e24, e25, e26, hO, hr, hOn, hK⟩
    by_cases hlt : i < d.els.length
    · have hlt' : (i : Int) < (d.els.length : Int) := by omega
      have hw := wrap_succ (i := i) (by omega)
      have hg := map_get eChg d.els i hlt
      have hnum := h.nums hlt
      have hat := (h.at hlt).1
      have hal := apply_take (s := s) hlt
      have hl0 := applyL_len h hs i (by omega)
      have hl1 := applyL_len h hs (i + 1) (by omega)
      have hp1 := h.prefix (i + 1) (by omega)
      have hpn : keptL (d.els.take (i + 1)) + ((putL (d.els.take (i + 1)) : Nat) : Int) ≤ (N : Int) := by
        have e2 := putL_app (d.els.take (i + 1)) (d.els.drop (i + 1))
        rw [List.take_append_drop] at e2
        omega
      have hle : d.els[i].to ≤ (s.length : Int) := by
        rw [hs]
        have hb := h.b0
        rcases elemOk_facts hat with ⟨_, _, _, q⟩ | ⟨_, _, q, _⟩ <;> omega
      generalize d.els[i] = x at hg hnum hat hal hle
      have hsl := slcS_of (s := s) (a := x.frm) (b := x.to) (by omega) (by omega) hle
      generalize applyL s (d.els.take i) = F at e7 hO hr hl0 hal
      rw [hal, applyE, ← List.append_assoc] at hl1
      have hae : applyL s (d.els.take (i + 1)) = (F ++ (s.take x.to.toNat).drop x.frm.toNat) ++ x.text := by rw [hal, applyE, List.append_assoc]
      generalize (s.take x.to.toNat).drop x.frm.toNat = t1 at hsl hl1 hae
      rw [List.length_append, List.length_append] at hl1
      obtain ⟨A, hA⟩ : ∃ A, τ.next = A := ⟨_, rfl⟩
      obtain ⟨τ1, hτ1⟩ : ∃ τ1, τ1 = (τ.new (.cells [.int .i64 0, .int .i64 0, .str []] none)).set τ.next (.cells [.int .i64 x.frm, .int .i64 x.to, .str x.text] none) := ⟨_, rfl⟩
      have hK1 : Keep [] σ τ1 := by rw [hτ1]; exact hK.junk _ _
      have hA1 : τ1.get A = some (.cells [.int .i64 x.frm, .int .i64 x.to, .str x.text] none) := by rw [hτ1, Heap.get_set, if_pos hA]
      have hO1 : τ1.get O = some (.cells (byteCells F ++ r) none) := by rw [hτ1, Heap.get_set, if_neg (by omega), Heap.get_new, if_neg (by omega)]; exact hO
      have hnx : τ1.next = τ.next + 1 := by rw [hτ1]; simp
      have hsf := slc_from (K := O) (n := F.length) (N := N) (by omega)
      obtain ⟨τ2, c1, c2, c3, c4, c5, c6⟩ := copy_str (N := N) (n := F.length) (cap := .ex (N - F.length)) (off := if N = F.length then 0 else F.length) hO1 rfl hr (t := t1) (by omega) (by by_cases hq : N = F.length <;> simp [hq])
      have hA2 : τ2.get A = some (.cells [.int .i64 x.frm, .int .i64 x.to, .str x.text] none) := by rw [c6 A (by omega)]; exact hA1
      have w1 : IntKind.i64.wrap ((F.length : Int) + (t1.length : Int)) = ((F.length + t1.length : Nat) : Int) := by rw [wrap_id (by omega) (by omega)]; omega
      have hsf2 := slc_from (K := O) (n := F.length + t1.length) (N := N) (by omega)
      obtain ⟨τ3, d1, d2, d3, d4, d5, d6⟩ := copy_str (N := N) (n := F.length + t1.length) (cap := .ex (N - (F.length + t1.length))) (off := if N = F.length + t1.length then 0 else F.length + t1.length) c2 (by rw [List.length_append]) (by rw [List.length_drop, hr]; omega) (t := x.text) (by omega) (by by_cases hq : N = F.length + t1.length <;> simp [hq])
      have w2 : IntKind.i64.wrap (((F.length + t1.length : Nat) : Int) + (x.text.length : Int)) = (((F ++ t1) ++ x.text).length : Nat) := by rw [wrap_id (by omega) (by omega), List.length_append, List.length_append]; omega
      have hK3 : Keep [] σ τ3 := ⟨d3.trans (c3.trans hK1.1), d4.trans (c4.trans hK1.2.1), by rw [d5, c5]; exact hK1.2.2.1, fun q hq _ => by rw [d6 q (by omega), c6 q (by omega)]; exact hK1.get hq⟩
      simp +decide only [↓evd, evw, evz, reduceCtorEq, ↓reduceIte, e1, e6, e7, e24, e25, e26, hlt', hg, eChg]
      rw [← hτ1]
      simp only [hA]
      with_reducible refine draw_of_grow (fun q => q = A) (ms := [false, false, false, false, false, false, false, false, false, false, false, false, false]) (by kernel_rfl) ?_
      simp +decide only [↓evd, evw, evz, reduceCtorEq, ↓reduceIte, e1, e6, e7, e24, e25, e26, hsf, hA1, hsl, c1]
      refine ⟨.inr ⟨c3, fun q hq => by subst hq; rw [c6 _ (by omega)]⟩, ?_⟩
      simp +decide only [↓evd, evw, evz, reduceCtorEq, ↓reduceIte, e1, e6, e7, e24, e25, e26, w1]
      with_reducible refine draw_of_grow (fun q => q = A) (ms := [false, false, false, false, false, false, false, false, false]) (by kernel_rfl) ?_
      simp +decide only [↓evd, evw, evz, reduceCtorEq, ↓reduceIte, e1, e6, e7, e24, e25, e26, hsf2, hA2, d1]
      refine ⟨.inr ⟨d3, fun q hq => by subst hq; rw [d6 _ (by omega)]⟩, ?_⟩
      simp +decide only [↓evd, evw, evz, reduceCtorEq, ↓reduceIte, e1, e6, e7, e24, e25, e26, w2, hw]
      refine ⟨m - 1, by omega, i + 1, (r.drop t1.length).drop x.text.length, by omega, by rw [hae], rfl, by rw [hae]; exact d2, ?_, ?_, hK3⟩
      · rw [hae, List.length_drop, List.length_drop, hr, List.length_append, List.length_append]; omega
      · rw [d5, c5, hnx]; omega
    · have hlt' : ¬ (i : Int) < (d.els.length : Int) := by omega
      have hti : d.els.take i = d.els := List.take_of_length_le (by omega)
      have hl0 := applyL_len h hs d.els.length (Nat.le_refl _)
      rw [List.take_length] at hl0
      rw [hti] at hO hr
      have hrn : r = [] := List.eq_nil_of_length_eq_zero (by omega)
      subst hrn
      rw [List.append_nil] at hO
      have hlen : N = (applyL s d.els).length := by omega
      have hbs : aBstr (.slc (.new O) 0 N (.ex N)) τ = some (.str (applyL s d.els)) := by
        have hc := cellsFrom_whole hO
        rw [byteCells_len2] at hc
        simp only [aBstr, slcCells, Nat.le_refl, if_true, Nat.mul_one, hlen, hc, asBytes_app, Option.map_some]
      simp +decide only [↓evd, evw, evz, reduceCtorEq, ↓reduceIte, e1, e6, e7, e24, e25, e26, hlt', hbs]
      first | exact hK | exact ⟨rfl, hK⟩
  · refine ⟨0, zs, by omega, ?_⟩
    simp +decide only [↓evd, evw, evz, reduceCtorEq, ↓reduceIte]
    have e0 : applyL s (List.take 0 d.els) = [] := rfl
    simp only [e0, byteCells, List.map_nil, List.nil_append, List.length_nil, Nat.sub_zero]
    first | exact ⟨rfl, hg2, hz0, hn2, hk2⟩ | exact ⟨hg2, hz0, hn2, hk2⟩
abbrev t_Elem : TypeId := 98
def mkC (r : List Chg) (f t : Int) : List Chg := if f = t then r else
  match r with
  | e :: r' => if isCp e = true ∧ e.to = f then ⟨e.frm, t, e.text⟩ :: r' else ⟨f, t, []⟩ :: e :: r'
  | [] => [⟨f, t, []⟩]
def mkP (r : List Chg) (s : List UInt8) : List Chg := if s = [] then r else
  match r with
  | e :: r' => if isCp e = true then ⟨0, 0, s⟩ :: e :: r' else ⟨e.frm, e.to, e.text ++ s⟩ :: r'
  | [] => [⟨0, 0, s⟩]
def IsMk (σ : Heap) (k : Nat) (base : Int) (r : List Chg) (fp : List Nat) : Prop := ∃ x, σ.get k = some (.cells [.int .i64 base, x] none) ∧ Own 0 σ t_Elem 3 x (r.reverse.map eChg) ∧ k ∉ uid x ∧ k < σ.next ∧ fp = k :: uid x
theorem IsMk.keep {σ τ : Heap} {k : Nat} {base : Int} {r : List Chg} {fp fp' : List Nat} (h : IsMk σ k base r fp) (hk : Keep fp' σ τ) (hd : ∀ y ∈ fp, y ∉ fp') : IsMk τ k base r fp := by
  obtain ⟨x, h1, h2, h3, h4, rfl⟩ := h
  refine ⟨x, by rw [hk.2.2.2 k h4 (hd k (by simp))]; exact h1, Own.move h2 hk.2.2.1 (fun K o n c e => ?_), h3, Nat.lt_of_lt_of_le h4 hk.2.2.1, rfl⟩
  exact hk.2.2.2 K (h2.low e).2 (hd K (List.mem_cons_of_mem _ (mem_uid.2 ⟨_, _, _, e⟩)))
theorem IsMk.low {σ : Heap} {k : Nat} {base : Int} {r : List Chg} {fp : List Nat} (h : IsMk σ k base r fp) : ∀ y ∈ fp, y < σ.next := by
  obtain ⟨x, h1, h2, h3, h4, rfl⟩ := h
  intro y hy
  rcases List.mem_cons.1 hy with rfl | hy
  · exact h4
  · obtain ⟨o, n, c, e⟩ := mem_uid.1 hy; exact (h2.low e).2
theorem newMaker_at (σ : Heap) (base : Int) : MSpec Tryz.prog n_delta_NewMaker [.int .i64 base] σ fun v τ => v = .ptr (.new σ.next) 0 ∧ IsMk τ σ.next base [] [σ.next] ∧ Keep [] σ τ := by
  refine spec_of_awp mixed c_delta_NewMaker (tl rfl) ?_
  unfold f_delta_NewMaker
  simp +decide only [↓evd, evw, evz, reduceCtorEq, ↓reduceIte]
  exact ⟨⟨.nils, by rw [Heap.get_new, if_pos rfl], Own.nil _ _ _ _, by simp [uid], by simp, rfl⟩, (Keep.refl _ _).new _⟩
theorem flat3 (l : List Chg) (e : Chg) : ((l ++ [e]).map eChg).flatMap AVal.cells = (l.map eChg).flatMap AVal.cells ++ [.int .i64 e.frm, .int .i64 e.to, .str e.text] := by
  rw [List.map_append, List.flatMap_append]; rfl
theorem flat3_len (l : List Chg) : ((l.map eChg).flatMap AVal.cells).length = l.length * 3 := by
  have := flat_len (chgs_row l)
  rwa [List.length_map] at this
theorem own_elem {B : Nat} {σ : Heap} {x : AVal} {l : List Chg} (h : Own B σ t_Elem 3 x (l.map eChg)) (hB : B ≤ σ.next) (b : Chg) (hr : l.length ≤ 900000) :
    ∃ x' τ, aApp t_Elem 3 32 x (.slc (.new σ.next) 0 1 (.ex 1)) (σ.new (.cells [.int .i64 b.frm, .int .i64 b.to, .str b.text] none)) = some (x', τ) ∧ Own B τ t_Elem 3 x' ((l ++ [b]).map eChg) ∧ Ext B σ τ ∧ (∀ q, q < σ.next → q ∉ uid x → τ.get q = σ.get q) ∧ (∀ q ∈ uid x', σ.next ≤ q ∨ q ∈ uid x) := by
  have hsrc := src_one (σ := σ.new (.cells [.int .i64 b.frm, .int .i64 b.to, .str b.text] none)) (K := σ.next) (k := 3) (cs := [.int .i64 b.frm, .int .i64 b.to, .str b.text]) (opn := none) (z := eChg b) (cap := .ex 1) (by rw [Heap.get_new, if_pos rfl]) rfl rfl
  obtain ⟨x', τ, g1, g2, g3, g4, g5⟩ := own_app2 (bytes := 32) (h.new (.cells [.int .i64 b.frm, .int .i64 b.to, .str b.text] none)) (Nat.le_succ_of_le hB) hsrc.1 hsrc.2 (by intro y hy; simp at hy; subst hy; rfl) rfl (by omega) (by omega) (by unfold maxRoom; simp; omega)
  refine ⟨x', τ, g1, by rw [List.map_append]; exact g2, ⟨g3.1, g3.2.1, by have := g3.2.2.1; simp at this; omega, fun q hq => ?_⟩, fun q hq hn => ?_, fun q hq => ?_⟩
  · rw [g3.2.2.2 q hq, Heap.get_new, if_neg (by omega)]
  · rw [g4 q (by simp; omega) (fun K o n c e hqK => hn (mem_uid.2 ⟨o, n, c, by rw [hqK]; exact e⟩)), Heap.get_new, if_neg (by omega)]
  · obtain ⟨o, n, c, e⟩ := mem_uid.1 hq
    rcases g5 q o n c e with h1 | ⟨o', n', c', h1⟩
    · left; simp at h1; omega
    · exact .inr (mem_uid.2 ⟨o', n', c', h1⟩)
theorem mcopy_at {σ : Heap} {k : Nat} {base f t : Int} {r : List Chg} {fp : List Nat} (h : IsMk σ k base r fp) (hl : r.length ≤ 900000) : MSpec Tryz.prog n_delta_Maker_Copy [.ptr (.new k) 0, .int .i64 f, .int .i64 t] σ fun v τ => ∃ fp', IsMk τ k base (mkC r f t) fp' ∧ Keep fp σ τ ∧ Fresh fp σ fp' := by
  obtain ⟨x, hb, hO, hkx, hkn, rfl⟩ := id h
  refine spec_of_awp mixed c_delta_Maker_Copy (tl rfl) ?_
  unfold f_delta_Maker_Copy
  by_cases hft : f = t
  · have hbt : (f == t) = true := by simpa using hft
    have e : mkC r f t = r := by simp [mkC, hft]
    rw [e]
    simp +decide only [↓evd, evw, evz, reduceCtorEq, ↓reduceIte, hbt]
    exact ⟨_, h, Keep.refl _ _, fun y hy => .inl hy⟩
  have hbt : (f == t) = false := by simpa using hft
  have hxl := hO.len
  rw [List.length_map, List.length_reverse] at hxl
  have hw : IntKind.i64.wrap ((r.length : Int) - 1) = (r.length : Int) - 1 := wrap_id (by omega) (by omega)
  have hxr : x.isRaw = false := by rcases hO.2 with ⟨rfl, _⟩ | ⟨K, rfl, _⟩ <;> rfl
  have app : ∀ b : Chg, ∃ x' τ, aApp t_Elem 3 32 x (.slc (.new σ.next) 0 1 (.ex 1)) (σ.new (.cells [.int .i64 b.frm, .int .i64 b.to, .str b.text] none)) = some (x', τ) ∧ τ.get k = some (.cells [.int .i64 base, x] none) ∧ x'.isCell = true ∧ x'.isRaw = false ∧ x'.cells = [x'] ∧ ∃ fp', IsMk (τ.set k (.cells [.int .i64 base, x'] none)) k base (b :: r) fp' ∧ Keep (k :: uid x) σ (τ.set k (.cells [.int .i64 base, x'] none)) ∧ Fresh (k :: uid x) σ fp' := by
    intro b
    obtain ⟨x', τ, g1, g2, g3, g4, g5⟩ := own_elem hO (Nat.zero_le _) b (by rw [List.length_reverse]; omega)
    have hk' : k ∉ uid x' := fun hm => by
      rcases g5 k hm with h1 | h1
      · omega
      · exact hkx h1
    have hkp : Keep (k :: uid x) σ τ := ⟨g3.1, g3.2.1, g3.2.2.1, fun q hq hn => g4 q hq (fun hm => hn (List.mem_cons_of_mem _ hm))⟩
    refine ⟨x', τ, g1, by rw [g4 k hkn hkx]; exact hb, own_kind g2, by rcases g2.2 with ⟨rfl, _⟩ | ⟨K, rfl, _⟩ <;> rfl, by rcases g2.2 with ⟨rfl, _⟩ | ⟨K, rfl, _⟩ <;> rfl, k :: uid x', ⟨x', by rw [Heap.get_set, if_pos rfl], ?_, hk', by rw [Heap.set_next]; have := g3.2.2.1; omega, rfl⟩, hkp.set (.inl (by simp)) _, fun y hy => ?_⟩
    · rw [List.reverse_cons]
      exact Own.set g2 (fun K o n c e hj => hk' (mem_uid.2 ⟨o, n, c, by rw [hj]; exact e⟩)) _
    · rcases List.mem_cons.1 hy with rfl | hy
      · exact .inl (by simp)
      · rcases g5 y hy with h1 | h1
        · exact .inr h1
        · exact .inl (List.mem_cons_of_mem _ h1)
  obtain ⟨x1, τ1, a1, a2, a3, a6, a4, a5⟩ := app ⟨f, t, []⟩
  cases r with
  | nil =>
    have e : mkC [] f t = [⟨f, t, []⟩] := by simp [mkC, hft]
    have hxl0 : aLen x = some (.int .i64 0) := hxl
    have hw0 : IntKind.i64.wrap (0 - 1) = -1 := by decide
    have hn0 : ¬ (0 : Int) ≤ -1 := by decide
    simp only at a1
    rw [e]
    simp +decide only [↓evd, evw, evz, reduceCtorEq, ↓reduceIte, hbt, hb, hxl0, hxr, hw0, hn0, a1, a2, a3, a4, a6]
    exact a5
  | cons e r' =>
    rw [List.reverse_cons] at hO
    have hel : (List.map eChg (r'.reverse ++ [e])).length = r'.length + 1 := by simp
    obtain ⟨K, rfl, hgK, hKn⟩ : ∃ K, x = .slc (.new K) 0 (r'.length + 1) (.gr 3) ∧ σ.get K = some (.cells ((r'.reverse.map eChg).flatMap AVal.cells ++ [.int .i64 e.frm, .int .i64 e.to, .str e.text]) (some t_Elem)) ∧ K < σ.next := by
      rcases hO.2 with ⟨_, h0⟩ | ⟨K, h1, h2, _, h3⟩
      · simp at h0
      · rw [hel] at h1; rw [flat3] at h2; exact ⟨K, h1, h2, h3⟩
    have hAl : ((r'.reverse.map eChg).flatMap AVal.cells).length = r'.length * 3 := by rw [flat3_len, List.length_reverse]
    generalize hAe : (r'.reverse.map eChg).flatMap AVal.cells = A at hgK hAl
    have hcl : (A ++ [AVal.int .i64 e.frm, .int .i64 e.to, .str e.text]).length = r'.length * 3 + 3 := by rw [List.length_append, hAl]; rfl
    have hld : cellsFrom σ (.new K) (r'.length * 3) 3 = some [.int .i64 e.frm, .int .i64 e.to, .str e.text] := by
      rw [cellsFrom_get hgK _ _ (by omega), ← hAl, List.drop_left]; rfl
    have hc1 : σ.cell (.new K) (r'.length * 3 + 1) = some (.int .i64 e.to) := by
      simp only [Heap.cell, hgK]
      rw [← hAl, List.getElem?_append_right (by omega), Nat.add_sub_cancel_left]; rfl
    have hw1 : IntKind.i64.wrap (((r'.length + 1 : Nat) : Int) - 1) = (r'.length : Int) := by rw [wrap_id (by simp at hl; omega) (by simp at hl; omega)]; omega
    have hge : (0 : Int) ≤ (r'.length : Int) := by omega
    have hlt : ((r'.length : Nat) : Int) < ((r'.length + 1 : Nat) : Int) := by omega
    have hic := isCopy_call σ e
    simp only [eChg] at hic
    simp only at a1
    simp +decide only [↓evd, evw, evz, reduceCtorEq, ↓reduceIte, hbt, hb, hxl, hxr, hw1, hge, hlt, ↓hld]
    refine MSpec.of hic ?_
    have hKk : K ≠ k := fun e => hkx (by simp [uid, e])
    have wr : ∀ (c : Chg) (cs2 : List AVal), cs2 = A ++ [.int .i64 c.frm, .int .i64 c.to, .str c.text] → A = (r'.reverse.map eChg).flatMap AVal.cells → ∃ fp', IsMk (σ.set K (.cells cs2 (some t_Elem))) k base (c :: r') fp' ∧ Keep (k :: uid (.slc (.new K) 0 (r'.length + 1) (.gr 3))) σ (σ.set K (.cells cs2 (some t_Elem))) ∧ Fresh (k :: uid (.slc (.new K) 0 (r'.length + 1) (.gr 3))) σ fp' := by
      intro c cs2 h1 h2
      refine ⟨k :: uid (.slc (.new K) 0 (r'.length + 1) (.gr 3)), ⟨.slc (.new K) 0 (r'.length + 1) (.gr 3), by rw [Heap.get_set, if_neg hKk]; exact hb, ⟨chgs_row _, .inr ⟨K, by simp, ?_, Nat.zero_le _, by simpa using hKn⟩⟩, hkx, by simpa using hkn, rfl⟩, (Keep.refl _ _).set (.inl (by simp [uid])) _, fun y hy => .inl hy⟩
      rw [Heap.get_set, if_pos rfl, List.reverse_cons, flat3, h1, h2]
    cases hc : isCp e
    · have em : mkC (e :: r') f t = ⟨f, t, []⟩ :: e :: r' := by simp [mkC, hft, hc]
      rw [em]
      simp +decide only [↓evd, evw, evz, reduceCtorEq, ↓reduceIte, hbt, hb, hxl, hxr, hw1, hge, hlt, a1, a2, a3, a4, a6]
      exact a5
    · by_cases he : e.to = f
      · have hbe : (e.to == f) = true := by simpa using he
        have em : mkC (e :: r') f t = ⟨e.frm, t, e.text⟩ :: r' := by simp [mkC, hft, hc, he]
        rw [em]
        have hle : decide (r'.length * 3 + 1 + 1 ≤ (A ++ [AVal.int .i64 e.frm, .int .i64 e.to, .str e.text]).length) = true := by rw [hcl]; simp
        have hset : (A ++ [AVal.int .i64 e.frm, .int .i64 e.to, .str e.text]).take (r'.length * 3 + 1) ++ [AVal.int .i64 t] ++ (A ++ [AVal.int .i64 e.frm, .int .i64 e.to, .str e.text]).drop (r'.length * 3 + 1 + 1) = A ++ [.int .i64 e.frm, .int .i64 t, .str e.text] := by
          rw [← hAl, List.take_append, List.take_of_length_le (by omega), Nat.add_sub_cancel_left, Nat.add_assoc, List.drop_append, List.drop_eq_nil_of_le (by omega), Nat.add_sub_cancel_left]
          simp
        generalize A ++ [AVal.int .i64 e.frm, .int .i64 e.to, .str e.text] = cs at hgK hle hset
        simp +decide only [↓evd, evw, evz, reduceCtorEq, ↓reduceIte, hbt, hb, hxl, hxr, hw1, hge, hlt, hc1, hbe, hgK, hle, hset]
        exact wr ⟨e.frm, t, e.text⟩ _ rfl hAe.symm
      · have hbe : (e.to == f) = false := by simpa using he
        have em : mkC (e :: r') f t = ⟨f, t, []⟩ :: e :: r' := by simp [mkC, hft, hc, he]
        rw [em]
        simp +decide only [↓evd, evw, evz, reduceCtorEq, ↓reduceIte, hbt, hb, hxl, hxr, hw1, hge, hlt, hc1, hbe, a1, a2, a3, a4, a6]
        exact a5
set_option maxHeartbeats 1000000 in
theorem mput_at {σ : Heap} {k : Nat} {base : Int} {s : List UInt8} {r : List Chg} {fp : List Nat} (h : IsMk σ k base r fp) (hl : r.length ≤ 900000) (hs : s.length ≤ 1000000) (hrs : ∀ e ∈ r, e.text.length ≤ 1000000) : MSpec Tryz.prog n_delta_Maker_Put [.ptr (.new k) 0, .str s] σ fun v τ => ∃ fp', IsMk τ k base (mkP r s) fp' ∧ Keep fp σ τ ∧ Fresh fp σ fp' := by
  obtain ⟨x, hb, hO, hkx, hkn, rfl⟩ := id h
  refine spec_of_awp mixed c_delta_Maker_Put (tl rfl) ?_
  unfold f_delta_Maker_Put
  by_cases hft : s = []
  · have hbt : (s == []) = true := by simpa using hft
    have e : mkP r s = r := by simp [mkP, hft]
    rw [e]
    simp +decide only [↓evd, evw, evz, reduceCtorEq, ↓reduceIte, aStr, hbt]
    exact ⟨_, h, Keep.refl _ _, fun y hy => .inl hy⟩
  have hbt : (s == []) = false := by simpa using hft
  have hxl := hO.len
  rw [List.length_map, List.length_reverse] at hxl
  have hw : IntKind.i64.wrap ((r.length : Int) - 1) = (r.length : Int) - 1 := wrap_id (by omega) (by omega)
  have hxr : x.isRaw = false := by rcases hO.2 with ⟨rfl, _⟩ | ⟨K, rfl, _⟩ <;> rfl
  have app : ∀ b : Chg, ∃ x' τ, aApp t_Elem 3 32 x (.slc (.new σ.next) 0 1 (.ex 1)) (σ.new (.cells [.int .i64 b.frm, .int .i64 b.to, .str b.text] none)) = some (x', τ) ∧ τ.get k = some (.cells [.int .i64 base, x] none) ∧ x'.isCell = true ∧ x'.isRaw = false ∧ x'.cells = [x'] ∧ ∃ fp', IsMk (τ.set k (.cells [.int .i64 base, x'] none)) k base (b :: r) fp' ∧ Keep (k :: uid x) σ (τ.set k (.cells [.int .i64 base, x'] none)) ∧ Fresh (k :: uid x) σ fp' := by
    intro b
    obtain ⟨x', τ, g1, g2, g3, g4, g5⟩ := own_elem hO (Nat.zero_le _) b (by rw [List.length_reverse]; omega)
    have hk' : k ∉ uid x' := fun hm => by
      rcases g5 k hm with h1 | h1
      · omega
      · exact hkx h1
    have hkp : Keep (k :: uid x) σ τ := ⟨g3.1, g3.2.1, g3.2.2.1, fun q hq hn => g4 q hq (fun hm => hn (List.mem_cons_of_mem _ hm))⟩
    refine ⟨x', τ, g1, by rw [g4 k hkn hkx]; exact hb, own_kind g2, by rcases g2.2 with ⟨rfl, _⟩ | ⟨K, rfl, _⟩ <;> rfl, by rcases g2.2 with ⟨rfl, _⟩ | ⟨K, rfl, _⟩ <;> rfl, k :: uid x', ⟨x', by rw [Heap.get_set, if_pos rfl], ?_, hk', by rw [Heap.set_next]; have := g3.2.2.1; omega, rfl⟩, hkp.set (.inl (by simp)) _, fun y hy => ?_⟩
    · rw [List.reverse_cons]
      exact Own.set g2 (fun K o n c e hj => hk' (mem_uid.2 ⟨o, n, c, by rw [hj]; exact e⟩)) _
    · rcases List.mem_cons.1 hy with rfl | hy
      · exact .inl (by simp)
      · rcases g5 y hy with h1 | h1
        · exact .inr h1
        · exact .inl (List.mem_cons_of_mem _ h1)
  obtain ⟨x1, τ1, a1, a2, a3, a6, a4, a5⟩ := app ⟨0, 0, s⟩
  cases r with
  | nil =>
    have e : mkP [] s = [⟨0, 0, s⟩] := by simp [mkP, hft]
    have hxl0 : aLen x = some (.int .i64 0) := hxl
    have hw0 : IntKind.i64.wrap (0 - 1) = -1 := by decide
    have hn0 : ¬ (0 : Int) ≤ -1 := by decide
    simp only at a1
    rw [e]
    simp +decide only [↓evd, evw, evz, reduceCtorEq, ↓reduceIte, aStr, hbt, hb, hxl0, hxr, hw0, hn0, a1, a2, a3, a4, a6]
    exact a5
  | cons e r' =>
    rw [List.reverse_cons] at hO
    have hel : (List.map eChg (r'.reverse ++ [e])).length = r'.length + 1 := by simp
    obtain ⟨K, rfl, hgK, hKn⟩ : ∃ K, x = .slc (.new K) 0 (r'.length + 1) (.gr 3) ∧ σ.get K = some (.cells ((r'.reverse.map eChg).flatMap AVal.cells ++ [.int .i64 e.frm, .int .i64 e.to, .str e.text]) (some t_Elem)) ∧ K < σ.next := by
      rcases hO.2 with ⟨_, h0⟩ | ⟨K, h1, h2, _, h3⟩
      · simp at h0
      · rw [hel] at h1; rw [flat3] at h2; exact ⟨K, h1, h2, h3⟩
    have hAl : ((r'.reverse.map eChg).flatMap AVal.cells).length = r'.length * 3 := by rw [flat3_len, List.length_reverse]
    generalize hAe : (r'.reverse.map eChg).flatMap AVal.cells = A at hgK hAl
    have hcl : (A ++ [AVal.int .i64 e.frm, .int .i64 e.to, .str e.text]).length = r'.length * 3 + 3 := by rw [List.length_append, hAl]; rfl
    have hld : cellsFrom σ (.new K) (r'.length * 3) 3 = some [.int .i64 e.frm, .int .i64 e.to, .str e.text] := by
      rw [cellsFrom_get hgK _ _ (by omega), ← hAl, List.drop_left]; rfl
    have hc1 : σ.cell (.new K) (r'.length * 3 + 1) = some (.int .i64 e.to) := by
      simp only [Heap.cell, hgK]
      rw [← hAl, List.getElem?_append_right (by omega), Nat.add_sub_cancel_left]; rfl
    have hw1 : IntKind.i64.wrap (((r'.length + 1 : Nat) : Int) - 1) = (r'.length : Int) := by rw [wrap_id (by simp at hl; omega) (by simp at hl; omega)]; omega
    have hge : (0 : Int) ≤ (r'.length : Int) := by omega
    have hlt : ((r'.length : Nat) : Int) < ((r'.length + 1 : Nat) : Int) := by omega
    have hic := isCopy_call σ e
    simp only [eChg] at hic
    simp only at a1
    simp +decide only [↓evd, evw, evz, reduceCtorEq, ↓reduceIte, aStr, hbt, hb, hxl, hxr, hw1, hge, hlt, ↓hld]
    refine MSpec.of hic ?_
    have hKk : K ≠ k := fun e => hkx (by simp [uid, e])
    have wr : ∀ (c : Chg) (cs2 : List AVal), cs2 = A ++ [.int .i64 c.frm, .int .i64 c.to, .str c.text] → A = (r'.reverse.map eChg).flatMap AVal.cells → ∃ fp', IsMk (σ.set K (.cells cs2 (some t_Elem))) k base (c :: r') fp' ∧ Keep (k :: uid (.slc (.new K) 0 (r'.length + 1) (.gr 3))) σ (σ.set K (.cells cs2 (some t_Elem))) ∧ Fresh (k :: uid (.slc (.new K) 0 (r'.length + 1) (.gr 3))) σ fp' := by
      intro c cs2 h1 h2
      refine ⟨k :: uid (.slc (.new K) 0 (r'.length + 1) (.gr 3)), ⟨.slc (.new K) 0 (r'.length + 1) (.gr 3), by rw [Heap.get_set, if_neg hKk]; exact hb, ⟨chgs_row _, .inr ⟨K, by simp, ?_, Nat.zero_le _, by simpa using hKn⟩⟩, hkx, by simpa using hkn, rfl⟩, (Keep.refl _ _).set (.inl (by simp [uid])) _, fun y hy => .inl hy⟩
      rw [Heap.get_set, if_pos rfl, List.reverse_cons, flat3, h1, h2]
    cases hc : isCp e
    · have em : mkP (e :: r') s = ⟨e.frm, e.to, e.text ++ s⟩ :: r' := by simp [mkP, hft, hc]
      rw [em]
      have hc2 : σ.cell (.new K) (r'.length * 3 + 2) = some (.str e.text) := by
        simp only [Heap.cell, hgK]
        rw [← hAl, List.getElem?_append_right (by omega), Nat.add_sub_cancel_left]; rfl
      have hle : decide (r'.length * 3 + 2 + 1 ≤ (A ++ [AVal.int .i64 e.frm, .int .i64 e.to, .str e.text]).length) = true := by rw [hcl]; simp
      have hset : (A ++ [AVal.int .i64 e.frm, .int .i64 e.to, .str e.text]).take (r'.length * 3 + 2) ++ [AVal.str (e.text ++ s)] ++ (A ++ [AVal.int .i64 e.frm, .int .i64 e.to, .str e.text]).drop (r'.length * 3 + 2 + 1) = A ++ [.int .i64 e.frm, .int .i64 e.to, .str (e.text ++ s)] := by
        rw [← hAl, List.take_append, List.take_of_length_le (by omega), Nat.add_sub_cancel_left, Nat.add_assoc, List.drop_append, List.drop_eq_nil_of_le (by omega), Nat.add_sub_cancel_left]
        simp
      have hadd : aStr .add e.text s = some (.str (e.text ++ s)) := by
        have := hrs e (by simp)
        simp only [aStr]; rw [if_pos (by omega)]
      generalize A ++ [AVal.int .i64 e.frm, .int .i64 e.to, .str e.text] = cs at hgK hle hset
      simp +decide only [↓evd, evw, evz, reduceCtorEq, ↓reduceIte, hbt, hb, hxl, hxr, hw1, hge, hlt, hc2, hadd, hgK, hle, hset]
      exact wr ⟨e.frm, e.to, e.text ++ s⟩ _ rfl hAe.symm
    · have em : mkP (e :: r') s = ⟨0, 0, s⟩ :: e :: r' := by simp [mkP, hft, hc]
      rw [em]
      simp +decide only [↓evd, evw, evz, reduceCtorEq, ↓reduceIte, hbt, hb, hxl, hxr, hw1, hge, hlt, a1, a2, a3, a4, a6]
      exact a5
theorem seen_call {f : FuncId} {args : List AVal} {v : AVal} {σ : Heap} (hv : v.pure = true) (h : MSpec Tryz.prog f args σ fun u τ => Keep [] σ τ ∧ ∃ ρ, Sees τ u ρ v ∧ ρ.W = τ.W ∧ ρ.F0 = τ.F0 ∧ ∀ q, q < σ.next → ρ.get q = τ.get q) : ACall Tryz.prog f args σ v σ := by
  obtain ⟨u, τ, ha, hK, ρ, s1, s2, s3, s4⟩ := h
  exact acall_gc (acall_see ha s1) hv (s2.trans hK.1) (s3.trans hK.2.1) fun q hq => by rw [s4 q hq]; exact hK.get hq
theorem sees_delta {B : Nat} {σ : Heap} {x : AVal} {base : Int} {l : List Chg} (h : Own B σ t_Elem 3 x (l.map eChg)) : ∃ ρ, Sees σ (.agg [.int .i64 base, x]) ρ (eDelta ⟨base, l⟩) ∧ ρ.W = σ.W ∧ ρ.F0 = σ.F0 ∧ ρ.next = σ.next ∧ ∀ q, q < B → ρ.get q = σ.get q := by
  obtain ⟨ρ, s1, s2, s3, s4, s5⟩ := Own.sees h
  exact ⟨ρ, SeesL.agg (.cons (Sees.refl _ _) (.cons s1 (.nil _))), s2, s3, s4, s5⟩
theorem Own.raise {B k : Nat} {e : TypeId} {σ : Heap} {x : AVal} {els : List AVal} (h : Own 0 σ e k x els) (hB : ∀ q ∈ uid x, B ≤ q) : Own B σ e k x els :=
  ⟨h.1, h.2.imp id fun ⟨K, h1, h2, _, h4⟩ => ⟨K, h1, h2, hB K (mem_uid.2 ⟨_, _, _, h1⟩), h4⟩⟩
theorem mdelta_at {σ : Heap} {k : Nat} {base : Int} {r : List Chg} {fp : List Nat} (h : IsMk σ k base r fp) (hl : r.length ≤ 900000) : MSpec Tryz.prog n_delta_Maker_Delta [.ptr (.new k) 0] σ fun v τ => Keep [] σ τ ∧
    ((r.length ≤ 60 ∧ ∃ x, σ.get k = some (.cells [.int .i64 base, x] none) ∧ v = .tup [.agg [.int .i64 base, x], .int .i64 0]) ∨ (60 < r.length ∧ v = .tup [.agg [.int .i64 0, .nils], .int .i64 70])) := by
  obtain ⟨x, hb, hO, hkx, hkn, rfl⟩ := id h
  refine spec_of_awp mixed c_delta_Maker_Delta (tl rfl) ?_
  unfold f_delta_Maker_Delta
  have hxl := hO.len
  rw [List.length_map, List.length_reverse] at hxl
  have hxr : x.isRaw = false := by rcases hO.2 with ⟨rfl, _⟩ | ⟨K, rfl, _⟩ <;> rfl
  have hxc : x.isCell = true := own_kind hO
  have hxx : x.cells = [x] := by rcases hO.2 with ⟨rfl, _⟩ | ⟨K, rfl, _⟩ <;> rfl
  have hne : (σ.next = k) = False := eq_false (by omega)
  by_cases h60 : (60 : Int) < (r.length : Int)
  · simp +decide only [↓evd, evw, evz, reduceCtorEq, ↓reduceIte, hb, hxl, hxr, hne, h60]
    exact ⟨((Keep.refl [] σ).new _).set (.inr (Nat.le_refl _)) _, .inr (by omega)⟩
  · simp +decide only [↓evd, evw, evz, reduceCtorEq, ↓reduceIte, hb, hxl, hxr, hxc, hxx, hne, h60]
    refine ⟨((Keep.refl [] σ).new _).set (.inr (Nat.le_refl _)) _, .inl ⟨by omega, ?_⟩⟩
    first | exact ⟨x, rfl, rfl⟩ | trivial
theorem each_spec {σ : Heap} {k : Nat} {E : Eng} {fp : List Nat} (h : IsEng σ k E fp) (frm to : Int) (f : FuncId) (caps : List AVal) (Inv : Nat → Heap → Prop) (stab : ∀ i τ b c, Inv i τ → Inv i ((τ.new b).set τ.next c))
    (step : ∀ (i : Nat) (a : Atom) (τ : Heap), E.l[i]? = some a → Inv i τ → (visible frm (E.R.undone frm) a = false → visible to (E.R.undone to) a = false → Inv (i + 1) τ) ∧
      ((visible frm (E.R.undone frm) a || visible to (E.R.undone to) a) = true → MSpec Tryz.prog f (.str a.text :: .bool (visible frm (E.R.undone frm) a) :: .bool (visible to (E.R.undone to) a) :: caps) τ fun v τ' => Inv (i + 1) τ')) (h0 : Inv 0 σ) :
    MSpec Tryz.prog n_diff_each [.ptr (.new k) 0, .int .i64 frm, .int .i64 to, .fn f caps] σ fun v τ => (E.R.live frm = true ∧ E.R.live to = true ∧ v = .int .i64 0 ∧ Inv E.l.length τ) ∨ ((E.R.live frm && E.R.live to) = false ∧ v = .int .i64 190 ∧ τ = σ) := by
  refine spec_of_awp mixed c_diff_each (tl rfl) ?_
  unfold f_diff_each
  obtain ⟨hok, hRok⟩ := h.ok
  have hll := hok.len
  have hhd := head_le hRok
  have l1 := elive_at h frm
  have l2 := elive_at h to
  have hat := eatoms_at h
  have u1 : ACall Tryz.prog n_engine_Engine_UndoneAt [.ptr (.new k) 0, .int .i64 frm] σ (ints (E.R.undone frm)) σ := by obtain ⟨_, _, _, hA, _⟩ := h; exact hA.undoneAt frm
  have u2 : ACall Tryz.prog n_engine_Engine_UndoneAt [.ptr (.new k) 0, .int .i64 to] σ (ints (E.R.undone to)) σ := by obtain ⟨_, _, _, hA, _⟩ := h; exact hA.undoneAt to
  have f1 := undone_few hRok frm
  have f2 := undone_few hRok to
  simp only [eAtoms] at hat
  simp only [ints] at u1 u2
  generalize E.R.undone frm = uf at u1 f1 step
  generalize E.R.undone to = ut at u2 f2 step
  simp +decide only [↓evd, evw, evz, reduceCtorEq, ↓reduceIte]
  refine MSpec.of l1 ?_
  cases h1 : E.R.live frm
  · simp +decide only [↓evd, evw, evz, reduceCtorEq, ↓reduceIte]
  simp +decide only [↓evd, evw, evz, reduceCtorEq, ↓reduceIte]
  refine MSpec.of l2 ?_
  cases h2 : E.R.live to
  · simp +decide only [↓evd, evw, evz, reduceCtorEq, ↓reduceIte]
  simp +decide only [↓evd, evw, evz, reduceCtorEq, ↓reduceIte]
  refine MSpec.of u1 ?_
  simp +decide only [↓evd, evw, evz, reduceCtorEq, ↓reduceIte]
  refine MSpec.of u2 ?_
  simp +decide only [↓evd, evw, evz, reduceCtorEq, ↓reduceIte]
  refine MSpec.of hat ?_
  simp +decide only [↓evd, evw, evz, reduceCtorEq, ↓reduceIte, eAtoms]
  refine awp_loop (fun m fr τ => ∃ (i : Nat), m + i = E.l.length ∧ fr.get 1 = .int .i64 frm ∧ fr.get 2 = .int .i64 to ∧ fr.get 3 = .fn f caps ∧ fr.get 9 = ints uf ∧ fr.get 10 = ints ut ∧ fr.get 32 = eAtoms E.l ∧ fr.get 33 = .int .i64 (E.l.length : Nat) ∧ fr.get 34 = .int .i64 (i : Nat) ∧ Inv i τ) ?_ (m := E.l.length) ?_
  · rintro m fr τ ⟨i, hi, e1, e2, e3, e9, e10, e32, e33, e34, hI⟩
    by_cases hlt : i < E.l.length
    · have hlt' : (i : Int) < (E.l.length : Int) := by omega
      have hw := wrap_succ (i := i) (by omega)
      have hg := map_get eAtom E.l i hlt
      have hge := List.getElem?_eq_getElem hlt
      have hcl := hok.cuts _ (List.getElem_mem hlt)
      generalize E.l[i] = a at hg hge hcl
      have hI1 := stab i τ (.cells [.str [], .int .i64 0, .int .i64 0, .int .i64 0, .nils] none) (.cells [.str a.text, .int .i64 a.rev, .int .i64 a.group, .int .i64 a.rank, .fsl 2 (a.cuts.map eCut)] none) hI
      obtain ⟨A, hA⟩ : ∃ A, τ.next = A := ⟨_, rfl⟩
      obtain ⟨τ1, hτ1⟩ : ∃ τ1, τ1 = (τ.new (.cells [.str [], .int .i64 0, .int .i64 0, .int .i64 0, .nils] none)).set τ.next (.cells [.str a.text, .int .i64 a.rev, .int .i64 a.group, .int .i64 a.rank, .fsl 2 (a.cuts.map eCut)] none) := ⟨_, rfl⟩
      have hA1 : τ1.get A = some (.cells [.str a.text, .int .i64 a.rev, .int .i64 a.group, .int .i64 a.rank, .fsl 2 (a.cuts.map eCut)] none) := by rw [hτ1, Heap.get_set, if_pos hA]
      rw [← hτ1] at hI1
      obtain ⟨s1, s2⟩ := step i a τ1 hge hI1
      have v1 := visible_call τ1 a frm uf (by omega) (by omega)
      have v2 := visible_call τ1 a to ut (by omega) (by omega)
      simp only [eAtom, ints] at v1 v2
      simp +decide only [↓evd, evw, evz, reduceCtorEq, ↓reduceIte, e1, e2, e3, e9, e10, e32, e33, e34, hlt', hg, eAtom]
      rw [← hτ1]
      simp only [hA]
      with_reducible refine draw_of_grow (fun _ => True) (ms := [false, false, false, false, false, false, false, false, false, false]) (by kernel_rfl) ?_
      simp +decide only [↓evd, evw, evz, reduceCtorEq, ↓reduceIte, e1, e2, e3, e9, e10, e32, e33, e34, hA1]
      refine MSpec.of v1 ⟨.inr Keeps.rfl, ?_⟩
      simp +decide only [↓evd, evw, evz, reduceCtorEq, ↓reduceIte, e1, e2, e3, e9, e10, e32, e33, e34, hA1]
      refine MSpec.of v2 ⟨.inr Keeps.rfl, ?_⟩
      cases hv1 : visible frm uf a <;> cases hv2 : visible to ut a <;> rw [hv1, hv2] at s1 s2
      · simp +decide only [↓evd, evw, evz, reduceCtorEq, ↓reduceIte, e1, e2, e3, e9, e10, e32, e33, e34, hw]
        exact ⟨m - 1, by omega, i + 1, by omega, rfl, s1 rfl rfl⟩
      all_goals
        simp +decide only [↓evd, evw, evz, reduceCtorEq, ↓reduceIte, e1, e2, e3, e9, e10, e32, e33, e34, hA1]
        refine (s2 rfl).mono ?_
        rintro v τ2 hI2
        simp +decide only [↓evd, evw, evz, reduceCtorEq, ↓reduceIte, e1, e2, e3, e9, e10, e32, e33, e34, hw]
        exact ⟨m - 1, by omega, i + 1, by omega, rfl, hI2⟩
    · have hlt' : ¬ (i : Int) < (E.l.length : Int) := by omega
      have : i = E.l.length := by omega
      subst this
      simp +decide only [↓evd, evw, evz, reduceCtorEq, ↓reduceIte, e1, e2, e3, e9, e10, e32, e33, e34, hlt']
      first | exact .inl ⟨rfl, rfl, rfl, hI⟩ | simpa using hI
  · refine ⟨0, by omega, ?_⟩
    simp +decide only [↓evd, evw, evz, reduceCtorEq, ↓reduceIte]
    first | exact h0 | exact ⟨rfl, h0⟩
def bStep (w is : Bool) (t : List UInt8) (st : List Chg × Nat) : List Chg × Nat :=
  (if w && is then mkC st.1 st.2 ((st.2 + t.length : Nat) : Int) else if is then mkP st.1 t else st.1, if w then st.2 + t.length else st.2)
def bFold (frm to : Int) (uf ut : List Int) (l : List Atom) : List Chg × Nat := l.foldl (fun st a => bStep (visible frm uf a) (visible to ut a) a.text st) ([], 0)
theorem bFold_take {frm to : Int} {uf ut : List Int} {l : List Atom} {i : Nat} {a : Atom} (h : l[i]? = some a) : bFold frm to uf ut (l.take (i + 1)) = bStep (visible frm uf a) (visible to ut a) a.text (bFold frm to uf ut (l.take i)) := by
  obtain ⟨hi, rfl⟩ := List.getElem?_eq_some_iff.1 h
  rw [bFold, List.take_succ_eq_append_getElem hi, List.foldl_append]; rfl
theorem mkC_len (r : List Chg) (f t : Int) : (mkC r f t).length ≤ r.length + 1 := by
  unfold mkC; split
  · omega
  · split
    · split <;> simp
    · simp
theorem mkP_len (r : List Chg) (s : List UInt8) : (mkP r s).length ≤ r.length + 1 := by
  unfold mkP; split
  · omega
  · split
    · split <;> simp
    · simp
theorem mkC_txt {r : List Chg} {f t : Int} {n : Nat} (h : ∀ e ∈ r, e.text.length ≤ n) : ∀ e ∈ mkC r f t, e.text.length ≤ n := by
  unfold mkC; split
  · exact h
  · split
    · rename_i e r'
      split
      · intro x hx; rcases List.mem_cons.1 hx with rfl | hx
        · exact h e (by simp)
        · exact h x (by simp [hx])
      · intro x hx; rcases List.mem_cons.1 hx with rfl | hx
        · simp
        · exact h x hx
    · intro x hx; simp at hx; subst hx; simp
theorem mkP_txt {r : List Chg} {s : List UInt8} {n : Nat} (h : ∀ e ∈ r, e.text.length ≤ n) : ∀ e ∈ mkP r s, e.text.length ≤ n + s.length := by
  unfold mkP; split
  · intro x hx; have := h x hx; omega
  · split
    · rename_i e r'
      split
      · intro x hx; rcases List.mem_cons.1 hx with rfl | hx
        · simp
        · have := h x hx; omega
      · intro x hx; rcases List.mem_cons.1 hx with rfl | hx
        · have := h e (by simp); simp only [List.length_append]; omega
        · have := h x (by simp [hx]); omega
    · intro x hx; simp at hx; subst hx; simp
structure BSmall (i : Nat) (st : List Chg × Nat) : Prop where
  few : st.1.length ≤ i
  at_ : st.2 ≤ i * 4
  txt : ∀ e ∈ st.1, e.text.length ≤ i * 4
theorem BSmall.step {i : Nat} {st : List Chg × Nat} (h : BSmall i st) {t : List UInt8} (ht : t.length ≤ 4) (w is : Bool) : BSmall (i + 1) (bStep w is t st) := by
  obtain ⟨h1, h2, h3⟩ := h
  refine ⟨?_, ?_, ?_⟩
  · simp only [bStep]
    split
    · have := mkC_len st.1 st.2 ((st.2 + t.length : Nat) : Int); omega
    · split
      · have := mkP_len st.1 t; omega
      · omega
  · simp only [bStep]; split <;> omega
  · simp only [bStep]
    split
    · intro e he; have := mkC_txt h3 e he; omega
    · split
      · intro e he; have := mkP_txt h3 e he; omega
      · intro e he; have := h3 e he; omega
structure BInv (σ : Heap) (M P Q : Nat) (base : Int) (st : List Chg × Nat) (τ : Heap) : Prop where
  p : τ.get P = some (.cells [.ptr (.new M) 0] none)
  q : τ.get Q = some (.cells [.int .i64 (st.2 : Nat)] none)
  maker : ∃ fp, IsMk τ M base st.1 fp ∧ P ∉ fp ∧ Q ∉ fp ∧ ∀ y ∈ fp, σ.next < y
  pl : P < τ.next
  ql : Q < τ.next
  keep : Keep [] σ τ
  rr : τ.get σ.next = some (.cells [.int .i64 0, .nils] none)
theorem BInv.junk {σ : Heap} {M P Q : Nat} {base : Int} {st : List Chg × Nat} {τ : Heap} (hn : σ.next < τ.next) (h : BInv σ M P Q base st τ) (b c : ABlk) : BInv σ M P Q base st ((τ.new b).set τ.next c) := by
  have hk : Keep [] τ ((τ.new b).set τ.next c) := (Keep.refl _ _).junk _ _
  obtain ⟨fp, hM, h1, h2, h3⟩ := h.maker
  exact ⟨by rw [hk.get h.pl]; exact h.p, by rw [hk.get h.ql]; exact h.q, ⟨fp, hM.keep hk (fun y _ => by simp), h1, h2, h3⟩, Nat.lt_of_lt_of_le h.pl hk.2.2.1, Nat.lt_of_lt_of_le h.ql hk.2.2.1, h.keep.trans hk (fun x hx => nomatch hx), by rw [hk.get hn]; exact h.rr⟩
theorem between1_at {σ : Heap} {M P Q : Nat} {base : Int} {st : List Chg × Nat} {τ : Heap} {t : List UInt8} {w is : Bool} {i : Nat} (hPQ : P ≠ Q) (hP : σ.next < P) (hQ : σ.next < Q) (h : BInv σ M P Q base st τ) (hs : BSmall i st) (hi : i ≤ 4000) (ht : t.length ≤ 4) (hwi : (w || is) = true) :
    MSpec Tryz.prog n_diff_Between_1 [.str t, .bool w, .bool is, .ptr (.new P) 0, .ptr (.new Q) 0] τ fun v τ' => BInv σ M P Q base (bStep w is t st) τ' := by
  refine spec_of_awp mixed c_diff_Between_1 (tl rfl) ?_
  unfold f_diff_Between_1
  obtain ⟨fp, hM, h1, h2, h3⟩ := h.maker
  obtain ⟨s1, s2, s3⟩ := hs
  have hp := h.p
  have hq := h.q
  have hpl := h.pl
  have hql := h.ql
  have hnl : σ.next < τ.next := by omega
  have hw : IntKind.i64.wrap ((st.2 : Int) + (t.length : Int)) = ((st.2 + t.length : Nat) : Int) := by rw [wrap_id (by omega) (by omega)]; omega
  have hqp : (Q = P) = False := eq_false (Ne.symm hPQ)
  cases w
  · cases is
    · simp at hwi
    · -- put
      simp +decide only [↓evd, evw, evz, reduceCtorEq, ↓reduceIte, hp, hq]
      refine (mput_at hM (by omega) (by omega) (fun e he => by have := s3 e he; omega)).mono ?_
      rintro v τ1 ⟨fp1, hM1, hK1, hF1⟩
      have hP1 : P ∉ fp1 := fun hm => by rcases hF1 P hm with h | h; exact h1 h; omega
      have hQ1 : Q ∉ fp1 := fun hm => by rcases hF1 Q hm with h | h; exact h2 h; omega
      have hn1 := hK1.2.2.1
      simp +decide only [↓evd, evw, evz, reduceCtorEq, ↓reduceIte]
      refine ⟨by rw [hK1.2.2.2 _ hpl h1]; exact hp, by rw [hK1.2.2.2 _ hql h2]; exact hq, ⟨fp1, hM1, hP1, hQ1, fun y hy => ?_⟩, by omega, by omega, h.keep.trans (hK1) (fun y hy => .inr (Nat.le_of_lt (h3 y hy))), ?_⟩
      · rcases hF1 y hy with h | h
        · exact h3 y h
        · omega
      · rw [hK1.2.2.2 _ hnl (fun hm => by have := h3 _ hm; omega)]; exact h.rr
  · cases is
    · -- gone
      simp +decide only [↓evd, evw, evz, reduceCtorEq, ↓reduceIte, hp, hq, hw]
      have hk : Keep [Q] τ (τ.set Q (.cells [.int .i64 ((st.2 + t.length : Nat) : Int)] none)) := (Keep.refl _ _).set (.inl (by simp)) _
      refine ⟨by rw [Heap.get_set, if_neg (Ne.symm hPQ)]; exact hp, by rw [Heap.get_set, if_pos rfl]; rfl, ⟨fp, hM.keep hk (fun y hy hm => h2 (by simp at hm; exact hm ▸ hy)), h1, h2, h3⟩, by simpa using hpl, by simpa using hql, h.keep.trans hk (fun y hy => .inr (by simp at hy; omega)), ?_⟩
      rw [Heap.get_set, if_neg (by omega)]; exact h.rr
    · -- kept
      simp +decide only [↓evd, evw, evz, reduceCtorEq, ↓reduceIte, hp, hq, hw]
      refine (mcopy_at hM (by omega)).mono ?_
      rintro v τ1 ⟨fp1, hM1, hK1, hF1⟩
      have hP1 : P ∉ fp1 := fun hm => by rcases hF1 P hm with h | h; exact h1 h; omega
      have hQ1 : Q ∉ fp1 := fun hm => by rcases hF1 Q hm with h | h; exact h2 h; omega
      have hn1 := hK1.2.2.1
      have hq1 : τ1.get Q = some (.cells [.int .i64 (st.2 : Nat)] none) := by rw [hK1.2.2.2 _ hql h2]; exact hq
      have hk : Keep [Q] τ1 (τ1.set Q (.cells [.int .i64 ((st.2 + t.length : Nat) : Int)] none)) := (Keep.refl _ _).set (.inl (by simp)) _
      simp +decide only [↓evd, evw, evz, reduceCtorEq, ↓reduceIte, hq1, hw]
      refine ⟨by rw [Heap.get_set, if_neg (Ne.symm hPQ), hK1.2.2.2 _ hpl h1]; exact hp, by rw [Heap.get_set, if_pos rfl]; rfl, ⟨fp1, hM1.keep hk (fun y hy hm => hQ1 (by simp at hm; exact hm ▸ hy)), hP1, hQ1, fun y hy => ?_⟩, by simp; omega, by simp; omega, (h.keep.trans hK1 (fun y hy => .inr (Nat.le_of_lt (h3 y hy)))).trans hk (fun y hy => .inr (by simp at hy; omega)), ?_⟩
      · rcases hF1 y hy with h | h
        · exact h3 y h
        · omega
      · rw [Heap.get_set, if_neg (by omega), hK1.2.2.2 _ hnl (fun hm => by have := h3 _ hm; omega)]; exact h.rr
theorem bFold_small {frm to : Int} {uf ut : List Int} {l : List Atom} (h : ∀ a ∈ l, a.text.length ≤ 4) : ∀ i, i ≤ l.length → BSmall i (bFold frm to uf ut (l.take i))
  | 0, _ => ⟨by simp [bFold], by simp [bFold], by simp [bFold]⟩
  | i + 1, hi => by
    rw [bFold_take (List.getElem?_eq_getElem (show i < l.length by omega))]
    exact (bFold_small h i (by omega)).step (h _ (List.getElem_mem _)) _ _
def Eng.bst (E : Eng) (frm to : Int) : List Chg × Nat := bFold frm to (E.R.undone frm) (E.R.undone to) E.l
def betwE (E : Eng) (frm to : Int) : Dlt × Int :=
  if (E.R.live frm && E.R.live to) = true then
    if (E.bst frm to).1.length ≤ 60 then (⟨((E.text frm).length : Nat), (E.bst frm to).1.reverse⟩, 0) else (⟨0, []⟩, 70)
  else (⟨0, []⟩, 190)
set_option maxHeartbeats 1000000 in
theorem between_call {σ : Heap} {k : Nat} {E : Eng} {fp : List Nat} (h : IsEng σ k E fp) (frm to : Int) : ACall Tryz.prog n_diff_Between [.ptr (.new k) 0, .int .i64 frm, .int .i64 to] σ (.tup [eDelta (betwE E frm to).1, .int .i64 (betwE E frm to).2]) σ := by
  refine seen_call (by simp only [AVal.pure, AVal.pures, eDelta_pure]; rfl) (spec_of_awp mixed c_diff_Between (tl rfl) ?_)
  unfold f_diff_Between
  obtain ⟨hok, hRok⟩ := h.ok
  have hll := hok.len
  have h4 : ∀ a ∈ E.l, a.text.length ≤ 4 := fun a ha => (cp_len (hok.txt a ha)).2
  have hkR : Keep [] σ (σ.new (.cells [.int .i64 0, .nils] none)) := (Keep.refl _ _).new _
  have hER := h.keep hkR (fun y _ => by simp)
  have htx := etext_at hER frm
  obtain ⟨s, c, hs, hsl⟩ : ∃ s c, textV E frm = .tup [.str s, .int .i64 c] ∧ (E.R.live frm = true → s = E.text frm) := by
    unfold textV
    cases hl : E.R.live frm
    · exact ⟨_, _, rfl, fun e => nomatch e⟩
    · exact ⟨_, _, rfl, fun _ => rfl⟩
  rw [hs] at htx
  simp +decide only [↓evd, evw, evz, reduceCtorEq, ↓reduceIte]
  refine MSpec.of htx ?_
  simp +decide only [↓evd, evw, evz, reduceCtorEq, ↓reduceIte]
  refine (newMaker_at _ (s.length : Nat)).mono ?_
  rintro v τ ⟨rfl, hM, hK⟩
  simp only [Heap.new_next] at hM
  obtain ⟨τ2, hτ2⟩ : ∃ τ2, τ2 = (((τ.new (.cells [.nilp] none)).set τ.next (.cells [.ptr (.new (σ.next + 1)) 0] none)).new (.cells [.int .i64 0] none)).set (τ.next + 1) (.cells [.int .i64 0] none) := ⟨_, rfl⟩
  have hKn := hK.2.2.1
  simp only [Heap.new_next] at hKn
  have hk2 : Keep [] τ τ2 := by rw [hτ2]; exact (((Keep.refl [] τ).junk _ _).new _).set (.inr (by omega)) _
  have hKa : Keep [] σ τ2 := (hkR.trans hK (fun x hx => nomatch hx)).trans hk2 (fun x hx => nomatch hx)
  have hMl := hM.low _ (List.mem_singleton.2 rfl)
  have hB0 : BInv σ (σ.next + 1) τ.next (τ.next + 1) (s.length : Nat) ([], 0) τ2 := by
    refine ⟨by rw [hτ2, Heap.get_set, if_neg (by omega), Heap.get_new, if_neg (by simp), Heap.get_set, if_pos rfl], by rw [hτ2, Heap.get_set, if_pos rfl]; rfl, ⟨[σ.next + 1], hM.keep hk2 (fun y _ => by simp), by simp; omega, by simp; omega, by simp⟩, by rw [hτ2]; simp; omega, by rw [hτ2]; simp, hKa, ?_⟩
    rw [hk2.get (by omega), hK.get (by simp), Heap.get_new, if_pos rfl]
  have hE2 := h.keep hKa (fun y _ => by simp)
  have hn2 : τ2.next = τ.next + 2 := by rw [hτ2]; rfl
  have heach := each_spec hE2 frm to n_diff_Between_1 [.ptr (.new τ.next) 0, .ptr (.new (τ.next + 1)) 0] (fun i ρ => σ.next < ρ.next ∧ BInv σ (σ.next + 1) τ.next (τ.next + 1) (s.length : Nat) (bFold frm to (E.R.undone frm) (E.R.undone to) (E.l.take i)) ρ)
    (fun i ρ b c ⟨g1, g2⟩ => ⟨by simp; omega, g2.junk g1 b c⟩)
    (fun i a ρ ha ⟨g1, g2⟩ => ⟨fun v1 v2 => ⟨g1, by rw [bFold_take ha, v1, v2]; exact g2⟩, fun hv => by
      have hi := (List.getElem?_eq_some_iff.1 ha).1
      refine (between1_at (i := i) (by omega) (by omega) (by omega) g2 (bFold_small h4 i (by omega)) (by omega) (h4 a (List.mem_of_getElem? ha)) hv).mono fun v ρ' g3 => ?_
      refine ⟨by have := g3.ql; omega, ?_⟩
      rw [bFold_take ha]; exact g3⟩)
    ⟨by omega, hB0⟩
  have hneP : (τ.next + 1 = τ.next) = False := eq_false (by omega)
  simp +decide only [↓evd, evw, evz, reduceCtorEq, ↓reduceIte]
  rw [← hτ2]
  refine heach.mono ?_
  rintro v τ3 (⟨l1, l2, rfl, g1, g2⟩ | ⟨l1, rfl, rfl⟩)
  · rw [List.take_length] at g2
    have hst : bFold frm to (E.R.undone frm) (E.R.undone to) E.l = E.bst frm to := rfl
    rw [hst] at g2
    have hp := g2.p
    have hrr := g2.rr
    obtain ⟨fpm, hMk, _, _, hfl⟩ := g2.maker
    have hsm := bFold_small (frm := frm) (to := to) (uf := E.R.undone frm) (ut := E.R.undone to) h4 E.l.length (Nat.le_refl _)
    rw [List.take_length, hst] at hsm
    have hlen := hsm.few
    rw [hsl l1]  at hMk
    have b0 : ((0 : Int) != 0) = false := rfl
    simp +decide only [↓evd, evw, evz, reduceCtorEq, ↓reduceIte, b0, hp]
    refine (mdelta_at hMk (by omega)).mono ?_
    obtain ⟨x, hb, hO, hkx, hkn, rfl⟩ := id hMk
    rintro v τ4 ⟨hK4, ⟨h60, x', hx', rfl⟩ | ⟨h60, rfl⟩⟩
    · rw [hb] at hx'
      simp only [Option.some.injEq, ABlk.cells.injEq, List.cons.injEq, and_true, true_and] at hx'
      subst hx'
      have hbe : betwE E frm to = (⟨((E.text frm).length : Nat), (E.bst frm to).1.reverse⟩, 0) := by rw [betwE, if_pos (by simp [l1, l2]), if_pos h60]
      have hr4 : τ4.get σ.next = some (.cells [.int .i64 0, .nils] none) := by rw [hK4.get g1]; exact hrr
      have hxr : x.isRaw = false := by rcases hO.2 with ⟨rfl, _⟩ | ⟨K, rfl, _⟩ <;> rfl
      have hxc : x.isCell = true := own_kind hO
      have hxx : x.cells = [x] := by rcases hO.2 with ⟨rfl, _⟩ | ⟨K, rfl, _⟩ <;> rfl
      have hxl : ∀ q ∈ uid x, σ.next < q := fun q hq => hfl q (List.mem_cons_of_mem _ hq)
      rw [hbe]
      simp +decide only [↓evd, evw, evz, reduceCtorEq, ↓reduceIte, hr4, hxr, hxc, hxx]
      have hO4 : Own (σ.next + 1) (τ4.set σ.next (.cells [.int .i64 ((E.text frm).length : Nat), x] none)) t_Elem 3 x ((E.bst frm to).1.reverse.map eChg) :=
        Own.set (Own.raise (Own.move hO hK4.2.2.1 (fun K o n c e => hK4.get (hO.low e).2)) hxl) (fun K o m c e hj => by have := hxl K (mem_uid.2 ⟨_, _, _, e⟩); omega) _
      obtain ⟨ρ, s1, s2, s3, s4, s5⟩ := sees_delta (base := ((E.text frm).length : Nat)) hO4
      refine ⟨(g2.keep.trans hK4 (fun x hx => nomatch hx)).set (.inr (Nat.le_refl _)) _, ρ, SeesL.tup (.cons s1 (.cons (Sees.refl _ _) (.nil _))), s2, s3, fun q hq => ?_⟩
      rw [s5 q (by omega), Heap.get_set]
    · have hbe : betwE E frm to = (⟨0, []⟩, 70) := by rw [betwE, if_pos (by simp [l1, l2]), if_neg (by omega)]
      have hr4 : τ4.get σ.next = some (.cells [.int .i64 0, .nils] none) := by rw [hK4.get g1]; exact hrr
      rw [hbe]
      simp +decide only [↓evd, evw, evz, reduceCtorEq, ↓reduceIte, hr4]
      refine ⟨(g2.keep.trans hK4 (fun x hx => nomatch hx)).set (.inr (Nat.le_refl _)) _, _, SeesL.tup (.cons (SeesL.agg (.cons (Sees.refl _ _) (.cons (Sees.nils _ 3) (.nil _)))) (.cons (Sees.refl _ _) (.nil _))), rfl, rfl, fun q hq => ?_⟩
      rw [Heap.get_set]
  · have hbe : betwE E frm to = (⟨0, []⟩, 190) := by rw [betwE, if_neg (by simp [l1])]
    have b0 : ((190 : Int) != 0) = true := rfl
    have hr := hB0.rr
    rw [hbe]
    simp +decide only [↓evd, evw, evz, reduceCtorEq, ↓reduceIte, b0, hr]
    refine ⟨hKa.set (.inr (Nat.le_refl _)) _, _, SeesL.tup (.cons (SeesL.agg (.cons (Sees.refl _ _) (.cons (Sees.nils _ 3) (.nil _)))) (.cons (Sees.refl _ _) (.nil _))), rfl, rfl, fun q hq => ?_⟩
    rw [Heap.get_set]
def sumIf (p : Atom → Bool) (l : List Atom) : Nat := (l.map fun a => if p a then a.text.length else 0).sum
theorem sumIf_take {p : Atom → Bool} {l : List Atom} {i : Nat} {a : Atom} (h : l[i]? = some a) : sumIf p (l.take (i + 1)) = sumIf p (l.take i) + if p a then a.text.length else 0 := by
  obtain ⟨hi, rfl⟩ := List.getElem?_eq_some_iff.1 h
  simp [sumIf, List.take_succ_eq_append_getElem hi, -List.take_append_getElem]
theorem sumIf_le {p : Atom → Bool} : ∀ {l : List Atom}, (∀ a ∈ l, a.text.length ≤ 4) → sumIf p l ≤ l.length * 4
  | [], _ => by simp [sumIf]
  | a :: l, h => by
    have h1 := h a (by simp)
    have h2 := sumIf_le (p := p) fun b hb => h b (List.mem_cons_of_mem _ hb)
    simp only [sumIf, List.map_cons, List.sum_cons, List.length_cons] at h2 ⊢
    split <;> omega
def cameB (frm to : Int) (uf ut : List Int) (a : Atom) : Bool := !visible frm uf a && visible to ut a
structure S1Post (τ τ' : Heap) (P Q a b : Nat) : Prop where
  p : τ'.get P = some (.cells [.int .i64 (a : Nat)] none)
  q : τ'.get Q = some (.cells [.int .i64 (b : Nat)] none)
  k : Keep [P, Q] τ τ'
end Go.Proofs.YtkjikdohnomajaaGreat.M
namespace Go.Proofs.YtkjikdohnomajaaGreat.M
open Go Go.Mini
theorem sumIf_cons (p : Atom → Bool) (a : Atom) (l : List Atom) : sumIf p (a :: l) = (if p a then a.text.length else 0) + sumIf p l := by simp [sumIf]
theorem text_sum (r : Int) (u : List Int) : ∀ l : List Atom, (atomsText r u l).length = sumIf (visible r u) l
  | [] => rfl
  | a :: l => by
    rw [sumIf_cons, atomsText, List.length_append, text_sum r u l]
    split <;> simp
theorem sumIf_add {p q r : Atom → Bool} {l : List Atom} (h : ∀ a ∈ l, (if p a then a.text.length else 0) = (if q a then a.text.length else 0) + if r a then a.text.length else 0) : sumIf p l = sumIf q l + sumIf r l := by
  induction l with
  | nil => rfl
  | cons a l ih =>
    have := h a (by simp)
    have := ih fun b hb => h b (List.mem_cons_of_mem _ hb)
    rw [sumIf_cons, sumIf_cons, sumIf_cons]; omega
theorem take_mid {s : List UInt8} {f p n : Nat} (h : f ≤ p) (hp : p ≤ s.length) : (s.take (p + n)).drop f = (s.take p).drop f ++ (s.take (p + n)).drop p := by
  have e1 : s.take (p + n) = s.take p ++ (s.take (p + n)).drop p := by
    have h1 := (List.take_append_drop p (s.take (p + n))).symm
    rw [List.take_take, Nat.min_eq_left (by omega)] at h1
    exact h1
  have e2 := congrArg (List.drop f) e1
  rw [List.drop_append_of_le_length (by rw [List.length_take]; omega)] at e2
  exact e2
structure BOk (base : Nat) (s : List UInt8) (tt : List UInt8) (st : List Chg × Nat) (kp pt : Nat) : Prop where
  wf : WFr base st.1
  to : toR st.1 ≤ (st.2 : Nat)
  app : applyL s st.1.reverse = tt
  kept : keptL st.1.reverse = (kp : Nat)
  put : putL st.1.reverse = pt
theorem keptL_rev (e : Chg) (r : List Chg) : keptL (e :: r).reverse = keptL r.reverse + (e.to - e.frm) := by rw [List.reverse_cons, keptL_app, keptL_one]
theorem putL_rev (e : Chg) (r : List Chg) : putL (e :: r).reverse = putL r.reverse + e.text.length := by rw [List.reverse_cons, putL_app, putL_one]
theorem applyL_rev (s : List UInt8) (e : Chg) (r : List Chg) : applyL s (e :: r).reverse = applyL s r.reverse ++ applyE s e := by
  rw [List.reverse_cons, applyL, List.map_append, List.flatten_append]; simp [applyL]
theorem isCp_iff {e : Chg} : isCp e = true ↔ e.text = [] := by simp [isCp]
theorem BOk.copy {base : Nat} {s tt : List UInt8} {st : List Chg × Nat} {kp pt : Nat} (h : BOk base s tt st kp pt) {t : List UInt8} (ht : t ≠ []) (hb : st.2 + t.length ≤ base) (hs : (s.take (st.2 + t.length)).drop st.2 = t) : BOk base s (tt ++ t) (mkC st.1 st.2 ((st.2 + t.length : Nat) : Int), st.2 + t.length) (kp + t.length) pt := by
  obtain ⟨r, p⟩ := st
  obtain ⟨h1, h2, h3, h4, h5⟩ := h
  simp only at h1 h2 h3 h4 h5 hb hs ⊢
  have htl : 0 < t.length := List.length_pos_iff.2 ht
  have hne : ¬ (p : Int) = ((p + t.length : Nat) : Int) := by omega
  have new : BOk base s (tt ++ t) (⟨p, ((p + t.length : Nat) : Int), []⟩ :: r, p + t.length) (kp + t.length) pt ↔ (decide (toR r < (p : Int)) || !copR r) = true := by
    constructor
    · intro h
      have := h.wf.2
      unfold elemOk at this
      rw [if_pos (by rfl)] at this
      simp only [Bool.and_eq_true] at this
      exact this.1.1.2
    · intro hc
      refine ⟨⟨h1, ?_⟩, by simp only [toR]; rw [if_pos (by rfl)]; exact Int.le_refl _, ?_, by rw [keptL_rev, h4]; simp only; omega, by rw [putL_rev, h5]; rfl⟩
      · unfold elemOk
        rw [if_pos (by rfl), hc]
        simp only [Bool.and_true, Bool.and_eq_true, decide_eq_true_eq]
        omega
      · rw [applyL_rev, h3, applyE]
        simp only [Int.toNat_natCast, hs, List.append_nil]
  cases r with
  | nil =>
    have : mkC [] (p : Int) ((p + t.length : Nat) : Int) = [⟨p, ((p + t.length : Nat) : Int), []⟩] := by simp only [mkC, if_neg hne]
    rw [this]
    exact new.2 (by simp [copR])
  | cons e r' =>
    by_cases hc : isCp e = true ∧ e.to = (p : Int)
    · have : mkC (e :: r') (p : Int) ((p + t.length : Nat) : Int) = ⟨e.frm, ((p + t.length : Nat) : Int), e.text⟩ :: r' := by simp only [mkC, if_neg hne, if_pos hc]
      rw [this]
      obtain ⟨hcp, heto⟩ := hc
      have het := isCp_iff.1 hcp
      have hok := h1.2
      unfold elemOk at hok
      rw [if_pos hcp] at hok
      simp only [Bool.and_eq_true, decide_eq_true_eq] at hok
      obtain ⟨⟨⟨o1, o2⟩, o3⟩, o4⟩ := hok
      have hcp2 : isCp ⟨e.frm, ((p + t.length : Nat) : Int), e.text⟩ = true := hcp
      have hn := toR_nonneg h1.1
      refine ⟨⟨h1.1, ?_⟩, by simp only [toR]; rw [if_pos hcp2]; exact Int.le_refl _, ?_, ?_, ?_⟩
      · unfold elemOk
        rw [if_pos hcp2]
        simp only [Bool.and_eq_true, decide_eq_true_eq]
        exact ⟨⟨⟨o1, o2⟩, by omega⟩, by omega⟩
      · rw [applyL_rev] at h3 ⊢
        rw [← h3, List.append_assoc]
        congr 1
        simp only [applyE, het, List.append_nil, heto, Int.toNat_natCast]
        obtain ⟨f, hf⟩ : ∃ f : Nat, e.frm = (f : Int) := ⟨e.frm.toNat, by omega⟩
        rw [hf, Int.toNat_natCast]
        have hlen : p ≤ s.length := by
          have := congrArg List.length hs
          rw [List.length_drop, List.length_take] at this; omega
        rw [take_mid (by omega) hlen, hs]
      · rw [keptL_rev] at h4 ⊢; simp only; omega
      · rw [putL_rev] at h5 ⊢; exact h5
    · have : mkC (e :: r') (p : Int) ((p + t.length : Nat) : Int) = ⟨p, ((p + t.length : Nat) : Int), []⟩ :: e :: r' := by simp only [mkC, if_neg hne, if_neg hc]
      rw [this]
      refine new.2 ?_
      by_cases hcp : isCp e = true
      · have h6 : toR (e :: r') = e.to := by simp only [toR, if_pos hcp]
        rw [h6] at h2 ⊢
        have : e.to ≠ (p : Int) := fun h => hc ⟨hcp, h⟩
        rw [decide_eq_true (by omega), Bool.true_or]
      · simp only [copR]
        rw [Bool.not_eq_true] at hcp
        rw [hcp]; simp
theorem BOk.puts {base : Nat} {s tt : List UInt8} {st : List Chg × Nat} {kp pt : Nat} (h : BOk base s tt st kp pt) {t : List UInt8} (ht : valid t = true) (hl : pt + t.length ≤ 20000) : BOk base s (tt ++ t) (mkP st.1 t, st.2) kp (pt + t.length) := by
  obtain ⟨r, p⟩ := st
  obtain ⟨h1, h2, h3, h4, h5⟩ := h
  simp only at h1 h2 h3 h4 h5 ⊢
  by_cases ht0 : t = []
  · subst ht0
    have : mkP r [] = r := by simp [mkP]
    rw [this]
    simpa using ⟨h1, h2, h3, h4, h5⟩
  have hcp2 : isCp ⟨0, 0, t⟩ = false := by rw [← Bool.not_eq_true]; exact fun h => ht0 (isCp_iff.1 h)
  have new : (r = [] ∨ copR r = true) → BOk base s (tt ++ t) (⟨0, 0, t⟩ :: r, p) kp (pt + t.length) := by
    intro hc
    refine ⟨⟨h1, ?_⟩, by simp only [toR]; rw [if_neg (by simp [hcp2])]; exact h2, ?_, by rw [keptL_rev, h4]; simp, by rw [putL_rev, h5]⟩
    · unfold elemOk
      rw [if_neg (by simp [hcp2])]
      have : (!(!r.isEmpty) || copR r) = true := by
        rcases hc with rfl | hc
        · rfl
        · rw [hc]; simp
      rw [this, ht]
      simp only [Bool.and_true, decide_true, Bool.true_and, decide_eq_true_eq]
      omega
    · rw [applyL_rev, h3, applyE]; simp
  cases r with
  | nil =>
    have : mkP [] t = [⟨0, 0, t⟩] := by simp [mkP, ht0]
    rw [this]; exact new (.inl rfl)
  | cons e r' =>
    cases hcp : isCp e
    · have : mkP (e :: r') t = ⟨e.frm, e.to, e.text ++ t⟩ :: r' := by simp [mkP, ht0, hcp]
      rw [this]
      have hok := h1.2
      unfold elemOk at hok
      rw [if_neg (by simp [hcp])] at hok
      simp only [Bool.and_eq_true, decide_eq_true_eq] at hok
      obtain ⟨⟨⟨⟨o1, o2⟩, o3⟩, o4⟩, o5⟩ := hok
      have hcp3 : isCp ⟨e.frm, e.to, e.text ++ t⟩ = false := by
        rw [← Bool.not_eq_true]; exact fun h => ht0 (List.append_eq_nil_iff.1 (isCp_iff.1 h)).2
      rw [putL_rev] at h5
      refine ⟨⟨h1.1, ?_⟩, ?_, ?_, ?_, ?_⟩
      · unfold elemOk
        rw [if_neg (by simp [hcp3])]
        have hv : valid (e.text ++ t) = true := by
          obtain ⟨ps, e1, q1⟩ := valid_iff.1 o5
          obtain ⟨qs, e2, q2⟩ := valid_iff.1 ht
          exact valid_iff.2 ⟨ps ++ qs, by rw [e1, e2, List.flatten_append], fun p hp => (List.mem_append.1 hp).elim (q1 p) (q2 p)⟩
        simp only [Bool.and_eq_true, decide_eq_true_eq, List.length_append]
        exact ⟨⟨⟨⟨o1, o2⟩, o3⟩, by omega⟩, hv⟩
      · simp only [toR] at h2 ⊢
        rw [if_neg (by simp [hcp])] at h2
        rw [if_neg (by simp [hcp3])]; exact h2
      · rw [applyL_rev] at h3 ⊢
        rw [← h3, List.append_assoc]
        simp only [applyE, List.append_assoc]
      · rw [keptL_rev] at h4 ⊢; exact h4
      · rw [putL_rev]; simp only [List.length_append]; omega
    · have : mkP (e :: r') t = ⟨0, 0, t⟩ :: e :: r' := by simp [mkP, ht0, hcp]
      rw [this]; exact new (.inr hcp)
theorem BOk.gone {base : Nat} {s tt : List UInt8} {r : List Chg} {p n kp pt : Nat} (h : BOk base s tt (r, p) kp pt) (hn : p ≤ n) : BOk base s tt (r, n) kp pt :=
  ⟨h.wf, by have := h.to; simp only at this ⊢; omega, h.app, h.kept, h.put⟩
def keptB (frm to : Int) (uf ut : List Int) (a : Atom) : Bool := visible frm uf a && visible to ut a
theorem bst_ok {l : List Atom} (hcp : ∀ a ∈ l, IsCP a.text) (hl : l.length ≤ 4000) (frm to : Int) (uf ut : List Int) : ∀ i, i ≤ l.length →
    BOk (atomsText frm uf l).length (atomsText frm uf l) (atomsText to ut (l.take i)) (bFold frm to uf ut (l.take i)) (sumIf (keptB frm to uf ut) (l.take i)) (sumIf (cameB frm to uf ut) (l.take i)) ∧ (bFold frm to uf ut (l.take i)).2 = (atomsText frm uf (l.take i)).length
  | 0, _ => ⟨⟨trivial, by simp [bFold, toR], rfl, by simp [bFold, keptL, sumIf], by simp [bFold, putL, sumIf]⟩, rfl⟩
  | i + 1, hi => by
    have hlt : i < l.length := by omega
    obtain ⟨ih, ip⟩ := bst_ok hcp hl frm to uf ut i (by omega)
    have hge := List.getElem?_eq_getElem hlt
    have ha := hcp _ (List.getElem_mem hlt)
    have t1 := take_text (r := frm) (u := uf) hlt
    have t2 := take_text (r := to) (u := ut) hlt
    have hsum := sumIf_le (p := cameB frm to uf ut) (l := l.take (i + 1)) fun a hm => (cp_len (hcp a (List.mem_of_mem_take hm))).2
    rw [List.length_take] at hsum
    have hsp : atomsText frm uf l = atomsText frm uf (l.take (i + 1)) ++ atomsText frm uf (l.drop (i + 1)) := by
      rw [← atomsText_append, List.take_append_drop]
    rw [bFold_take hge, sumIf_take hge, sumIf_take hge, t1, t2]
    rw [sumIf_take hge] at hsum
    rw [t1] at hsp
    generalize l[i] = a at ha hsp hsum
    generalize hst : bFold frm to uf ut (l.take i) = st at ih ip
    obtain ⟨r, p⟩ := st
    simp only at ip
    have hla := cp_len ha
    have hva : valid a.text = true := valid_iff.2 ⟨[a.text], by simp, by simpa using ha⟩
    cases w : visible frm uf a <;> cases is : visible to ut a
    · simp only [w, is, keptB, cameB, bStep, Bool.and_self, Bool.not_false, Bool.and_false, Bool.false_eq_true, if_false, Nat.add_zero, List.append_nil]
      exact ⟨ih, ip⟩
    · simp only [w, is, cameB, Bool.not_false, Bool.and_self, if_true] at hsum
      simp only [w, is, keptB, cameB, bStep, Bool.false_and, Bool.not_false, Bool.and_self, Bool.false_eq_true, if_false, if_true, Nat.add_zero, List.append_nil]
      exact ⟨ih.puts hva (by omega), ip⟩
    · simp only [w, is, keptB, cameB, bStep, Bool.and_false, Bool.not_true, Bool.false_eq_true, if_false, if_true, Nat.add_zero, List.append_nil, List.length_append]
      exact ⟨ih.gone (by omega), by omega⟩
    · rw [w] at hsp
      simp only [if_true] at hsp
      simp only [w, is, keptB, cameB, bStep, Bool.and_self, Bool.not_true, Bool.false_and, Bool.false_eq_true, if_false, if_true, Nat.add_zero, List.length_append]
      refine ⟨ih.copy ha.1 ?_ ?_, by omega⟩
      · rw [hsp, List.length_append, List.length_append, ip]; omega
      · show ((atomsText frm uf l).take (p + a.text.length)).drop p = a.text
        rw [hsp, ip, ← List.length_append, List.take_left, List.drop_left]
theorem Eng.bst_ok {E : Eng} (h : E.Ok) (frm to : Int) : BOk (E.text frm).length (E.text frm) (E.text to) (E.bst frm to) (sumIf (keptB frm to (E.R.undone frm) (E.R.undone to)) E.l) (sumIf (cameB frm to (E.R.undone frm) (E.R.undone to)) E.l) := by
  have := (Go.Proofs.YtkjikdohnomajaaGreat.M.bst_ok h.txt h.len frm to (E.R.undone frm) (E.R.undone to) E.l.length (Nat.le_refl _)).1
  rw [List.take_length] at this
  exact this
theorem kept_came (E : Eng) (frm to : Int) : (E.text to).length = sumIf (keptB frm to (E.R.undone frm) (E.R.undone to)) E.l + sumIf (cameB frm to (E.R.undone frm) (E.R.undone to)) E.l := by
  rw [Eng.text, text_sum]
  refine sumIf_add fun a ha => ?_
  simp only [keptB, cameB]
  by_cases h1 : visible frm (E.R.undone frm) a = true <;> by_cases h2 : visible to (E.R.undone to) a = true <;> simp [h1, h2]
structure Btw (E : Eng) (frm to : Int) (d : Dlt) : Prop where
  ok : DOk d
  base : d.base = ((E.text frm).length : Nat)
  app : applyL (E.text frm) d.els = E.text to
  kept : keptL d.els = (sumIf (keptB frm to (E.R.undone frm) (E.R.undone to)) E.l : Nat)
  put : putL d.els = sumIf (cameB frm to (E.R.undone frm) (E.R.undone to)) E.l
  l1 : E.R.live frm = true
  l2 : E.R.live to = true
theorem betw_ok {E : Eng} (h : E.Ok) {frm to : Int} {d : Dlt} (e : betwE E frm to = (d, 0)) : Btw E frm to d := by
  unfold betwE at e
  split at e
  · rename_i hlv
    rw [Bool.and_eq_true] at hlv
    split at e
    · rename_i h60
      cases e
      have hb := E.bst_ok h frm to
      have hk := kept_came E frm to
      have l1 := atomsText_le frm (E.R.undone frm) h.txt
      have l2 := atomsText_le to (E.R.undone to) h.txt
      have hl := h.len
      simp only [Eng.text] at hk
      refine ⟨⟨by simp, by simp only [Eng.text]; omega, by simpa using h60, by rw [List.reverse_reverse]; exact hb.wf, ?_⟩, rfl, hb.app, hb.kept, hb.put, hlv.1, hlv.2⟩
      show keptL (E.bst frm to).1.reverse + ((putL (E.bst frm to).1.reverse : Nat) : Int) ≤ 20000
      rw [hb.kept, hb.put]; omega
    · simp only [Prod.mk.injEq] at e; exact absurd e.2 (by decide)
  · simp only [Prod.mk.injEq] at e; exact absurd e.2 (by decide)
theorem betw_err {E : Eng} {frm to : Int} {d : Dlt} {c : Int} (e : betwE E frm to = (d, c)) : (c = 0 ∨ (c = 70 ∧ d = ⟨0, []⟩) ∨ (c = 190 ∧ d = ⟨0, []⟩)) ∧ (c = 190 ↔ (E.R.live frm && E.R.live to) = false) := by
  unfold betwE at e
  split at e
  · rename_i hlv
    split at e
    · cases e; refine ⟨.inl rfl, ?_⟩; rw [hlv]; simp
    · cases e; refine ⟨.inr (.inl ⟨rfl, rfl⟩), ?_⟩; rw [hlv]; simp
  · rename_i hlv
    cases e
    refine ⟨.inr (.inr ⟨rfl, rfl⟩), ?_⟩
    simp only [Bool.not_eq_true] at hlv
    simp [hlv]
end Go.Proofs.YtkjikdohnomajaaGreat.M
namespace Go.Proofs.YtkjikdohnomajaaGreat.M
open Go Go.Mini
attribute [local congr] go1_congr goM_congr goG_congr goV_congr drawwp_congr Xwp_congr
def chgsB (l : List Chg) : Bool := l.all (fun c => decide (c.text.length ≤ 60)) && decide (l.length ≤ 12)
theorem fewC_call (σ : Heap) (l : List Chg) (hl : l.length ≤ 9223372036854775807) : ACall Tryz.prog n_palinodetop_fewChanges [eChgs l] σ (.bool (chgsB l)) σ := by
  refine exact_call (spec_of_awp mixed c_palinodetop_fewChanges (tl rfl) ?_)
  unfold f_palinodetop_fewChanges
  simp +decide only [↓evd, evw, evz, reduceCtorEq, ↓reduceIte]
  refine awp_loop (fun m fr τ => ∃ i, m + i = l.length ∧ fr.get 0 = eChgs l ∧ fr.get 3 = .int .i64 (i : Nat) ∧ τ = σ ∧ (l.take i).all (fun c => decide (c.text.length ≤ 60)) = true) ?_ (m := l.length) ?_
  · rintro m fr τ ⟨i, hi, e0, e3, rfl, hall⟩
    by_cases hlt : i < l.length
    · have hlt' : (i : Int) < (l.length : Int) := by omega
      have hs : IntKind.i64.wrap ((i : Int) + 1) = ((i + 1 : Nat) : Int) := by rw [wrap_id (by omega) (by omega)]; rfl
      have hg := map_get eChg l i hlt
      have htk := List.take_succ_eq_append_getElem hlt
      have hmem := List.getElem_mem hlt
      generalize l[i] = c at hg htk hmem
      by_cases h60 : (60 : Int) < (c.text.length : Int)
      · simp +decide only [↓evd, evw, evz, reduceCtorEq, ↓reduceIte, e0, e3, hlt', eChgs, hg, eChg, h60]
        rw [chgsB, List.all_eq_false.2 ⟨c, hmem, by simp; omega⟩]; rfl
      · simp +decide only [↓evd, evw, evz, reduceCtorEq, ↓reduceIte, e0, e3, hlt', eChgs, hg, eChg, h60, hs]
        refine ⟨m - 1, by omega, i + 1, by omega, rfl, ?_⟩
        rw [htk, List.all_append, hall]; simp; omega
    · have hlt' : ¬ (i : Int) < (l.length : Int) := by omega
      rw [List.take_of_length_le (by omega)] at hall
      by_cases h12 : (l.length : Int) ≤ 12
      · simp +decide only [↓evd, evw, evz, reduceCtorEq, ↓reduceIte, e0, e3, hlt', eChgs, h12]
        rw [chgsB, hall, decide_eq_true (by omega)]; rfl
      · simp +decide only [↓evd, evw, evz, reduceCtorEq, ↓reduceIte, e0, e3, hlt', eChgs, h12]
        rw [chgsB, hall, decide_eq_false (by omega)]; rfl
  · refine ⟨0, by omega, ?_⟩
    simp +decide only [↓evd, evw, evz, reduceCtorEq, ↓reduceIte, eChgs]
def fewT (l : List Step) : Bool := l.all (fun x => chgsB x.c && decide (x.groups.length ≤ 20)) && decide (l.length ≤ 30)
theorem fewT_one {l : List Step} (h : fewT l = true) : l.length ≤ 30 ∧ ∀ x ∈ l, fewOne x = true := by
  simp only [fewT, Bool.and_eq_true, List.all_eq_true, decide_eq_true_eq] at h
  refine ⟨h.2, fun x hx => ?_⟩
  have := h.1 x hx
  simp only [chgsB, Bool.and_eq_true, List.all_eq_true, decide_eq_true_eq] at this
  exact fewOne_iff.2 ⟨this.1.1, this.1.2, this.2⟩
theorem fewT_call (σ : Heap) (l : List Step) (hl : l.length ≤ 9223372036854775807) (hx : ∀ x ∈ l, StepFits x) : ACall Tryz.prog n_palinodetop_fewSteps [eSteps l] σ (.bool (fewT l)) σ := by
  refine exact_call (spec_of_awp mixed c_palinodetop_fewSteps (tl rfl) ?_)
  unfold f_palinodetop_fewSteps
  simp +decide only [↓evd, evw, evz, reduceCtorEq, ↓reduceIte]
  refine awp_loop (fun m fr τ => ∃ i, m + i = l.length ∧ fr.get 0 = eSteps l ∧ fr.get 3 = .int .i64 (i : Nat) ∧ τ = σ ∧ (l.take i).all (fun x => chgsB x.c && decide (x.groups.length ≤ 20)) = true) ?_ (m := l.length) ?_
  · rintro m fr τ ⟨i, hi, e0, e3, rfl, hall⟩
    by_cases hlt : i < l.length
    · have hlt' : (i : Int) < (l.length : Int) := by omega
      have hs : IntKind.i64.wrap ((i : Int) + 1) = ((i + 1 : Nat) : Int) := by rw [wrap_id (by omega) (by omega)]; rfl
      have hg := map_get eStep l i hlt
      have htk := List.take_succ_eq_append_getElem hlt
      have hmem := List.getElem_mem hlt
      generalize l[i] = x at hg htk hmem
      have hfx := hx x hmem
      have hfc := fewC_call τ x.c hfx.1
      simp only [eChgs] at hfc
      simp +decide only [↓evd, evw, evz, reduceCtorEq, ↓reduceIte, e0, e3, hlt', eSteps, hg, eStep, eChgs, ints]
      refine MSpec.of hfc ?_
      cases hc : chgsB x.c with
      | false =>
        simp +decide only [↓evd, evw, evz, reduceCtorEq, ↓reduceIte]
        rw [fewT, List.all_eq_false.2 ⟨x, hmem, by simp [hc]⟩]; rfl
      | true =>
        by_cases h20 : (20 : Int) < (x.groups.length : Int)
        · simp +decide only [↓evd, evw, evz, reduceCtorEq, ↓reduceIte, e0, e3, hlt', eSteps, hg, eStep, eChgs, ints, h20]
          rw [fewT, List.all_eq_false.2 ⟨x, hmem, by simp [hc]; omega⟩]; rfl
        · simp +decide only [↓evd, evw, evz, reduceCtorEq, ↓reduceIte, e0, e3, hlt', eSteps, hg, eStep, eChgs, ints, h20, hs]
          refine ⟨m - 1, by omega, i + 1, by omega, rfl, ?_⟩
          rw [htk, List.all_append, hall]; simp [hc]; omega
    · have hlt' : ¬ (i : Int) < (l.length : Int) := by omega
      rw [List.take_of_length_le (by omega)] at hall
      by_cases h30 : (l.length : Int) ≤ 30
      · simp +decide only [↓evd, evw, evz, reduceCtorEq, ↓reduceIte, e0, e3, hlt', eSteps, h30]
        rw [fewT, hall, decide_eq_true (by omega)]; rfl
      · simp +decide only [↓evd, evw, evz, reduceCtorEq, ↓reduceIte, e0, e3, hlt', eSteps, h30]
        rw [fewT, hall, decide_eq_false (by omega)]; rfl
  · refine ⟨0, by omega, ?_⟩
    simp +decide only [↓evd, evw, evz, reduceCtorEq, ↓reduceIte, eSteps]
def doT (E : Eng) (x : Step) : Eng := if x.what ≤ 4 then (editE E x.base x.group x.rank x.c).1 else if x.what ≤ 6 then (toggleE E x.group).1 else (forgetE E x.groups).1
theorem doT_whole {E : Eng} (h : E.Whole) (x : Step) : (doT E x).Whole := by
  unfold doT
  split
  · exact h.edit (Prod.ext rfl rfl)
  · split
    · exact h.toggle (Prod.ext rfl rfl)
    · exact h.forget (Prod.ext rfl rfl)
theorem doT_at {σ : Heap} {k : Nat} {E : Eng} {fp : List Nat} (h : IsEng σ k E fp) {x : Step} (hf : fewOne x = true) :
    MSpec Tryz.prog n_palinodetop_do [.ptr (.new k) 0, eStep x] σ fun v τ => (∃ n c : Int, v = .tup [.int .i64 n, .int .i64 c]) ∧ ∃ fp', IsEng τ k (doT E x) fp' ∧ Keep fp σ τ ∧ Fresh fp σ fp' := by
  obtain ⟨f1, f2, f3⟩ := fewOne_iff.1 hf
  refine spec_of_awp mixed c_palinodetop_do (tl rfl) ?_
  unfold f_palinodetop_do
  have hk := (Keep.refl [] σ).new (.cells [.int .i64 x.what, .int .i64 x.base, .int .i64 x.group, .int .i64 x.rank, eChgs x.c, ints x.groups] none)
  have hE := h.keep hk (fun y _ => by simp)
  have hlow := h.low
  have fin : ∀ {τ : Heap} {E2 : Eng} {fp' : List Nat}, IsEng τ k E2 fp' → Keep fp (σ.new (.cells [.int .i64 x.what, .int .i64 x.base, .int .i64 x.group, .int .i64 x.rank, eChgs x.c, ints x.groups] none)) τ → Fresh fp (σ.new (.cells [.int .i64 x.what, .int .i64 x.base, .int .i64 x.group, .int .i64 x.rank, eChgs x.c, ints x.groups] none)) fp' → ∃ fp', IsEng τ k E2 fp' ∧ Keep fp σ τ ∧ Fresh fp σ fp' := fun h1 h2 h3 =>
    ⟨_, h1, (hk.mono (fun y hy _ => by cases hy)).trans h2 (fun y hy => .inl hy), fun y hy => by
      rcases h3 y hy with h4 | h4
      · exact .inl h4
      · right; simp at h4; omega⟩
  by_cases w4 : x.what ≤ 4
  · rcases he : editE E x.base x.group x.rank x.c with ⟨E', n, c⟩
    have hd : doT E x = E' := by rw [doT, if_pos w4, he]
    have q1 := eedit_at hE (by omega) (fun c hc => by have := f1 c hc; omega) he
    rw [hd]
    simp only [eChgs, ints] at q1 fin
    simp +decide only [↓evd, evw, evz, reduceCtorEq, ↓reduceIte, eStep, eChgs, ints, w4]
    refine q1.mono ?_
    rintro v τ ⟨rfl, fp', h1, h2, h3⟩
    simp +decide only [↓evd, evw, evz, reduceCtorEq, ↓reduceIte]
    exact ⟨⟨_, _, rfl⟩, fin h1 h2 h3⟩
  · by_cases w6 : x.what ≤ 6
    · rcases he : toggleE E x.group with ⟨E', n, c⟩
      have hd : doT E x = E' := by rw [doT, if_neg w4, if_pos w6, he]
      have q1 := etoggle_at hE he
      rw [hd]
      simp only [eChgs, ints] at q1 fin
      simp +decide only [↓evd, evw, evz, reduceCtorEq, ↓reduceIte, eStep, eChgs, ints, w4, w6]
      refine q1.mono ?_
      rintro v τ ⟨rfl, fp', h1, h2, h3⟩
      simp +decide only [↓evd, evw, evz, reduceCtorEq, ↓reduceIte]
      exact ⟨⟨_, _, rfl⟩, fin h1 h2 h3⟩
    · rcases he : forgetE E x.groups with ⟨E', c⟩
      have hd : doT E x = E' := by rw [doT, if_neg w4, if_neg w6, he]
      have q1 := eforget_at hE (gs := x.groups) (by omega) he
      rw [hd]
      simp only [eChgs, ints] at q1 fin
      simp +decide only [↓evd, evw, evz, reduceCtorEq, ↓reduceIte, eStep, eChgs, ints, w4, w6]
      refine q1.mono ?_
      rintro v τ ⟨rfl, fp', h1, h2, h3⟩
      simp +decide only [↓evd, evw, evz, reduceCtorEq, ↓reduceIte]
      exact ⟨⟨_, _, rfl⟩, fin h1 h2 h3⟩
end Go.Proofs.YtkjikdohnomajaaGreat.M

