/- The abstract machine's operations against the model's, second part. No condition. -/
import Derived.Test.YtaakajfmbjjigaaMB
import Derived.Laws.BytesString
import Derived.Laws.IdiomStrings
set_option linter.unusedVariables false
set_option linter.unusedSimpArgs false
set_option maxHeartbeats 4000000
namespace Go.Mini
open Go

section
variable {P : Program} {φ : Phi} {σ : Heap} {w : World} {n : Nat} {fr : Frame} {a : Act}

theorem Doing.val' {s : Sem Value} {x : AVal} {v : Value} {w' : World} {φ' : Phi} {σ' : Heap} (h : s.run P w = .ok v w') (hl : φ.le φ') (hv : VR φ' x v) (hr : Rel φ' σ' w') : Doing P (do pure (.value (← s))) w φ x σ' :=
  ⟨v, w', φ', .inl (by simp [h]), hl, hv, hr⟩

def DoingV (P : Program) (s : Sem Value) (w : World) (φ : Phi) (x : AVal) (σ' : Heap) : Prop :=
  ∃ v w' φ', s.run P w = .ok v w' ∧ φ.le φ' ∧ VR φ' x v ∧ Rel φ' σ' w'
theorem DoingV.doing {s : Sem Value} {x : AVal} {σ' : Heap} (h : DoingV P s w φ x σ') : Doing P (do pure (.value (← s))) w φ x σ' := by
  obtain ⟨v, w', φ', h1, h2, h3, h4⟩ := h
  exact ⟨v, w', φ', .inl (by simp [h1]), h2, h3, h4⟩

/-! ### append -/
def isIntD : TypeDesc → Bool
  | .int _ => true
  | _ => false
theorem append_fits {t e u ty : TypeId} {D : TypeDesc} {ti : TypeInfo} (hu : P.underlying t = some (.slice e)) (hD : P.underlying u = some D) (hn : isIntD D = false) (hti : P.info? e = some ti)
    {base : Option Addr} {sLen sCap : Nat} {x : Value} {m : Nat} {new : Array Value} (hm : (Builtin.lenOf x).run P w = .ok m w) (hnew : (Builtin.firstCells ti.size m x).run P w = .ok new w) (h : sLen + m ≤ sCap) :
    (Builtin.append_ #[t, u] ty #[.slice base sLen sCap, x]).run P w = (match base with
          | some a => ((storeCells (a.add (sLen * ti.size)) new.toList).run P w).andThen fun _ w => .ok (.slice base (sLen + m) sCap) w
          | none => .ok (.slice base (sLen + m) sCap) w) := by
  have hsz : (sizeOf e).run P w = .ok ti.size w := by simp [sizeOf, typeInfo, hti]
  cases D <;> simp only [isIntD, Bool.true_eq_false] at hn
  all_goals
    simp only [Builtin.append_, List.getElem?_toArray, List.getElem?_cons_zero, List.getElem?_cons_succ, Sem.run_bind, run_underlying hu, run_underlying hD, Result.andThen_ok, hsz, Sem.run_pure, Bool.false_eq_true, if_false, hm, Bool.not_false, if_true, if_pos h, hnew]
    cases base <;> simp
theorem append_grows {t e u ty : TypeId} {D : TypeDesc} {ti : TypeInfo} {z : Value} (hu : P.underlying t = some (.slice e)) (hD : P.underlying u = some D) (hn : isIntD D = false) (hti : P.info? e = some ti)
    (hz : ti.zero = some z) (hb0 : ti.bytes ≠ 0) {base : Option Addr} {sLen sCap : Nat} {x : Value} {m : Nat} {old new : Array Value} (hm : (Builtin.lenOf x).run P w = .ok m w)
    (hold : (Builtin.firstCells ti.size sLen (.slice base sLen sCap)).run P w.drew = .ok old w.drew) (hnew : (Builtin.firstCells ti.size m x).run P w.drew = .ok new w.drew)
    (h : ¬ sLen + m ≤ sCap) (hsmall : (sLen + m) * ti.bytes ≤ maxRoom) :
    ∃ c, sLen + m ≤ c ∧ (Builtin.append_ #[t, u] ty #[.slice base sLen sCap, x]).run P w =
      .ok (.slice (some ⟨w.heap.size, 0, none⟩) (sLen + m) c) (w.drew.alloc (.cells (old ++ new ++ Builtin.zeroCells z.cells (c - (sLen + m))) e)) := by
  have hsz : (sizeOf e).run P w = .ok ti.size w := by simp [sizeOf, typeInfo, hti]
  have hinfo : ∀ w, (typeInfo e).run P w = .ok ti w := by intro w; simp [typeInfo, hti]
  have hzero : ∀ w, (zeroValue e).run P w = .ok z w := by intro w; simp [zeroValue, typeInfo, hti, hz]
  obtain ⟨c, hc, hrun⟩ := run_appendCap (P := P) (w := w) (sLen + m) sCap e
  refine ⟨c, hc, ?_⟩
  have hnext : ¬ Builtin.nextslicecap (sLen + m) sCap * ti.bytes > 2 ^ 48 := by
    have h1 := nextslicecap_le (sLen + m) sCap (by omega)
    have h2 : (4 * (sLen + m) + 1024) * ti.bytes ≤ 2 ^ 48 := by
      have h3 : sLen + m ≥ 1 := by omega
      have h4 : (4 * (sLen + m) + 1024) ≤ 1028 * (sLen + m) := by omega
      have h5 := Nat.mul_le_mul_right ti.bytes h4
      have h6 : 1028 * (sLen + m) * ti.bytes = 1028 * ((sLen + m) * ti.bytes) := Nat.mul_assoc ..
      unfold maxRoom at hsmall
      omega
    have := Nat.mul_le_mul_right ti.bytes h1
    omega
  cases D <;> simp only [isIntD, Bool.true_eq_false] at hn
  all_goals
    simp only [Builtin.append_, List.getElem?_toArray, List.getElem?_cons_zero, List.getElem?_cons_succ, Sem.run_bind, run_underlying hu, run_underlying hD, Result.andThen_ok, hsz, Sem.run_pure, Bool.false_eq_true, if_false, hm, Bool.not_false, if_true, if_neg h, hinfo, false_or, hb0, and_false, hnext, hrun, run_askRoom, hold, hnew, hzero, newRow, run_newObj_alloc]
    rfl

theorem take_app {α : Type} (l : List α) (xs : List α) (off : Nat) (h : off + xs.length ≤ l.length) : (over l off xs).take (off + xs.length) = l.take off ++ xs := by
  unfold over
  exact List.take_left' (by simp; omega)

theorem aApp_ok {t e u ty : TypeId} {D : TypeDesc} {ti : TypeInfo} {zv : Value} (hu : P.underlying t = some (.slice e)) (hD : P.underlying u = some D) (hn : isIntD D = false) (hti : P.info? e = some ti)
    (hz : ti.zero = some zv) (hzs : zv.cells.size = ti.size) {x y z : AVal} {v r : Value} {σ' : Heap} (h : aApp e ti.size ti.bytes x y σ = some (z, σ')) (hx : VR φ x v) (hy : VR φ y r) (hr : Rel φ σ w) :
    DoingV P (Builtin.append_ #[t, u] ty #[v, r]) w φ z σ' := by
  unfold aApp at h
  split at h
  · cases h
  · rename_i m hm
    split at h
    · cases h
    · rename_i ys hys
      split at h
      · cases h
      · rename_i hc
        simp only [Bool.or_eq_true, Bool.not_eq_true', decide_eq_true_eq, not_or, Bool.not_eq_false] at hc
        obtain ⟨⟨hcell, hb0⟩, hk0⟩ := hc
        have hlen := srcCells_length hys hy
        have hmr : ∀ w : World, (Builtin.lenOf r).run P w = .ok m w := fun w => aLenOf_ok hm hy
        obtain ⟨vs, hvs, hvr⟩ := srcCells_ok (P := P) hr hys hy
        obtain ⟨vs', hvs', hvr'⟩ := srcCells_ok (P := P) hr.drew hys hy
        have hvl := hvr.length
        have hvl' := hvr'.length
        split at h
        · -- nil
          cases hx
          split at h
          · rename_i hm0
            cases h
            subst hm0
            refine ⟨_, w, φ, ?_, Phi.le_refl φ, .nils, hr⟩
            rw [append_fits hu hD hn hti (hmr w) hvs (by omega)]
          · split at h
            · rename_i hm0 hsm
              cases h
              obtain ⟨c, hc1, hrun⟩ := append_grows (ty := ty) (base := none) (sLen := 0) (sCap := 0) (old := #[]) hu hD hn hti hz hb0 (hmr w) (by simp [Builtin.firstCells]) hvs' (by omega) (by simpa using hsm)
              obtain ⟨φ', h1, h2, h3⟩ := grow_ok hr.drew (us := []) .nil hvr' e (Builtin.zeroCells zv.cells (c - (0 + m))) ti.size c m (by
                rw [zeroCells_size, hzs, ← hvl', hlen]
                simp only [List.length_nil, Nat.zero_add]
                rw [← Nat.add_mul]; congr 1; omega) (by omega)
              exact ⟨_, _, φ', hrun, h1, by simpa using h2, by simpa using h3⟩
            · cases h
        · -- no room at all
          cases hx with
          | emp0 a =>
          split at h
          · rename_i hm0
            cases h
            subst hm0
            have : vs = [] := by
              cases vs with
              | nil => rfl
              | cons a l => simp [hlen] at hvl
            subst this
            refine ⟨_, w, φ, ?_, Phi.le_refl φ, .emp0 a, hr⟩
            rw [append_fits hu hD hn hti (hmr w) hvs (by omega)]
            cases a <;> simp [storeCells]
          · split at h
            · rename_i hm0 hsm
              cases h
              obtain ⟨c, hc1, hrun⟩ := append_grows (ty := ty) (base := a) (sLen := 0) (sCap := 0) (old := #[]) hu hD hn hti hz hb0 (hmr w) (by cases a <;> simp [Builtin.firstCells, loadCells, loadCellsFrom]) hvs' (by omega) (by simpa using hsm)
              obtain ⟨φ', h1, h2, h3⟩ := grow_ok hr.drew (us := []) .nil hvr' e (Builtin.zeroCells zv.cells (c - (0 + m))) ti.size c m (by
                rw [zeroCells_size, hzs, ← hvl', hlen]
                simp only [List.length_nil, Nat.zero_add]
                rw [← Nat.add_mul]; congr 1; omega) (by omega)
              exact ⟨_, _, φ', hrun, h1, by simpa using h2, by simpa using h3⟩
            · cases h
        · -- never changes: nothing is put behind it
          split at h
          · rename_i hm0
            cases h
            subst hm0
            have : vs = [] := by
              cases vs with
              | nil => rfl
              | cons a l => simp [hlen] at hvl
            subst this
            refine ⟨v, w, φ, ?_, Phi.le_refl φ, hx, hr⟩
            cases hx with
            | fslN _ a c _ =>
              rw [append_fits hu hD hn hti (hmr w) hvs (by omega)]
              cases a <;> simp [storeCells]
            | fsl c h1 h2 h3 h4 =>
              rw [append_fits hu hD hn hti (hmr w) hvs (by omega)]
              simp [storeCells]
          · cases h
        · -- exact
          rename_i i off len c
          cases hx with
          | slcE _ _ _ hib =>
            rename_i b
            split at h
            · rename_i hfit
              have hrun := append_fits (ty := ty) (base := some ⟨b, off, none⟩) hu hD hn hti (hmr w) hvs hfit
              split at h
              · rename_i hm0
                cases h
                subst hm0
                have : vs = [] := by
                  cases vs with
                  | nil => rfl
                  | cons a l => simp [hlen] at hvl
                subst this
                exact ⟨_, w, φ, by rw [hrun]; simp [storeCells], Phi.le_refl φ, .slcE _ _ _ hib, hr⟩
              · split at h
                · rename_i kk
                  rw [Option.map_eq_some_iff] at h
                  obtain ⟨σ1, hs, he⟩ := h
                  simp only [Prod.mk.injEq] at he
                  obtain ⟨rfl, rfl⟩ := he
                  simp only [Id.real, Option.map_eq_some_iff] at hib
                  obtain ⟨⟨b', sz⟩, hφ, rfl⟩ := hib
                  obtain ⟨w', hw', hr'⟩ := storeAt_ok (P := P) hs hvr hr hφ
                  refine ⟨_, w', φ, ?_, Phi.le_refl φ, .slcE (b := b') _ _ _ (by simp [Id.real, hφ]), hr'⟩
                  rw [hrun]
                  simp only [Addr.add_eq]
                  rw [hw']
                  rfl
                · cases h
            · split at h
              · rename_i hfit hsm
                split at h
                · rename_i xs hxs
                  cases h
                  obtain ⟨us, hus, hur⟩ := loadCells_ok (P := P) hr.drew hib (len * ti.size) off off 0 xs #[] hxs (by omega)
                  have hul := hur.length
                  have hxl := cellsFrom_length _ _ _ _ _ hxs
                  obtain ⟨c', hc1, hrun⟩ := append_grows (ty := ty) (base := some ⟨b, off, none⟩) (sLen := len) (sCap := c) (old := us.toArray) hu hD hn hti hz hb0 (hmr w) (by simpa [Builtin.firstCells, loadCells] using hus) hvs' (by omega) hsm
                  obtain ⟨φ', h1, h2, h3⟩ := grow_ok hr.drew hur hvr' e (Builtin.zeroCells zv.cells (c' - (len + m))) ti.size c' (len + m) (by
                    rw [zeroCells_size, hzs, ← hvl', hlen, ← hul, hxl]
                    rw [← Nat.add_mul, ← Nat.add_mul]; congr 1; omega) (by omega)
                  exact ⟨_, _, φ', hrun, h1, by simpa using h2, by simpa using h3⟩
                · cases h
              · cases h
        · -- grown
          rename_i kk off len k'
          cases hx with
          | slcG _ _ c hφ hsz hlc =>
            rename_i b sz
            have hib : (Id.new kk).real φ = some b := by simp [Id.real, hφ]
            split at h
            · rename_i hm0
              cases h
              subst hm0
              have : vs = [] := by
                cases vs with
                | nil => rfl
                | cons a l => simp [hlen] at hvl
              subst this
              have hrun := append_fits (ty := ty) (base := some ⟨b, off, none⟩) hu hD hn hti (hmr w) hvs (by omega : len + 0 ≤ c)
              exact ⟨_, w, φ, by rw [hrun]; simp [storeCells], Phi.le_refl φ, .slcG _ _ _ hφ hsz hlc, hr⟩
            · rename_i hm0
              split at h
              · rename_i hk
                simp only [Bool.and_eq_true, decide_eq_true_eq] at hk
                obtain ⟨hkk, hsm⟩ := hk
                subst hkk
                split at h
                · rename_i cs e' xs hg hxs
                  split at h
                  · rename_i hoff
                    simp only [Bool.and_eq_true, decide_eq_true_eq] at hoff
                    obtain ⟨⟨rfl, hcl⟩, he'⟩ := hoff
                    rw [he'] at hg
                    cases h
                    have hxl := cellsFrom_length _ _ _ _ _ hxs
                    by_cases hfit : len + m ≤ c
                    · have hrun := append_fits (ty := ty) (base := some ⟨b, 0, none⟩) hu hD hn hti (hmr w) hvs hfit
                      obtain ⟨cs', T, fz, ho, h1, h2, h3, hT, h4, h5⟩ := hr.block hφ hg
                      have hcm : (len + m) * ti.size ≤ sz := by
                        rw [← hsz, Nat.zero_add]; exact Nat.mul_le_mul_right _ hfit
                      rw [Nat.add_mul] at hcm
                      have hvlen : vs.length = m * ti.size := by omega
                      obtain ⟨w', hw', hW⟩ := storeCells_real (P := P) vs w b (len * ti.size) 0 cs' T fz ho (by rw [h1]; exact h5) (by omega) (hvr.oneCell hcell)
                      rw [Nat.add_zero] at hW
                      -- xs is cs
                      obtain ⟨us, hus, hur⟩ := loadCells_ok (P := P) hr hib (len * ti.size) 0 0 0 xs #[] hxs (by omega)
                      have hxs' : VRs φ xs (cs'.toList.take (len * ti.size)) := by
                        have hxcs : xs = cs := by
                          have : ∀ n off l, cellsFrom σ (.new kk) off n = some l → l = (cs.drop off).take n := by
                            intro n
                            induction n with
                            | zero => intro off l h; cases h; simp
                            | succ n ih =>
                              intro off l h
                              simp only [cellsFrom] at h
                              split at h
                              · rename_i a r ha hr'
                                cases h
                                simp only [Heap.cell, hg] at ha
                                have hlt : off < cs.length := by
                                  rcases Nat.lt_or_ge off cs.length with h | h
                                  · exact h
                                  · rw [List.getElem?_eq_none h] at ha; cases ha
                                rw [ih _ _ hr', List.drop_eq_getElem_cons hlt, List.take_succ_cons]
                                rw [List.getElem?_eq_getElem hlt] at ha
                                cases ha; rfl
                              · cases h
                          have := this _ _ _ hxs
                          rw [this, List.drop_zero, List.take_of_length_le (by omega)]
                        rw [hxcs, ← hcl]; exact h4
                      have hle := Phi.le_put (b, sz) (hr.fresh σ.next (Nat.le_refl _))
                      obtain ⟨g1, g2⟩ := hr.move (blk := .cells (xs ++ ys) (some e)) hφ hg hW (by
                        refine .cells ?_ ?_ (by intro h; cases h) (by intro T' h; cases h; exact hT _ rfl) ?_ h5
                        · simp only [List.size_toArray]
                          rw [over_length _ _ _ (by simp; omega)]
                          simpa using h1
                        · simp; omega
                        · have : (over cs'.toList (len * ti.size) vs).toArray.toList.take (xs ++ ys).length = cs'.toList.take (len * ti.size) ++ vs := by
                            simp only [List.length_append, hxl, hvl]
                            exact take_app _ _ _ (by simp; omega)
                          rw [this]
                          exact (hxs'.mono hle).append (hvr.mono hle))
                      refine ⟨_, w', _, ?_, g1, .slcG 0 (len + m) c (Phi.put_same ..) (by omega) hfit, g2⟩
                      rw [hrun]
                      simp only [Addr.add_eq, Nat.zero_add]
                      rw [hw']
                      rfl
                    · obtain ⟨us, hus, hur⟩ := loadCells_ok (P := P) hr.drew hib (len * ti.size) 0 0 0 xs #[] hxs (by omega)
                      have hul := hur.length
                      obtain ⟨c', hc1, hrun⟩ := append_grows (ty := ty) (base := some ⟨b, 0, none⟩) (sLen := len) (sCap := c) (old := us.toArray) hu hD hn hti hz hb0 (hmr w) (by simpa [Builtin.firstCells, loadCells] using hus) hvs' (by omega) hsm
                      obtain ⟨φ', g1, g2, g3⟩ := grow_ok (hr.drew.kill kk) hur hvr' e (Builtin.zeroCells zv.cells (c' - (len + m))) ti.size c' (len + m) (by
                        rw [zeroCells_size, hzs, ← hvl', hlen, ← hul, hxl]
                        rw [← Nat.add_mul, ← Nat.add_mul]; congr 1; omega) (by omega)
                      exact ⟨_, _, φ', hrun, g1, by simpa using g2, by simpa using g3⟩
                  · cases h
                · cases h
              · cases h
        · cases h
end
end Go.Mini
set_option linter.unusedVariables false
set_option linter.unusedSimpArgs false
namespace Go.Mini
open Go

section
variable {P : Program} {φ : Phi} {σ : Heap} {w : World} {n : Nat} {fr : Frame} {a : Act}

/-! ### copy -/
theorem VRs.nil_inv {vs : List Value} (h : VRs φ [] vs) : vs = [] := by cases h; rfl

theorem aCopy_ok {t u e ty : TypeId} {k : Nat} (hu : P.underlying t = some (.slice e)) (hk : cSize P e = some k) {x y z : AVal} {v r : Value} {σ' : Heap} (h : aCopy k x y σ = some (z, σ')) (hx : VR φ x v) (hy : VR φ y r) (hr : Rel φ σ w) :
    DoingV P (Builtin.copy_ #[t, u] ty #[v, r]) w φ z σ' := by
  unfold aCopy at h
  split at h
  · rename_i d s hd hs
    split at h
    · rename_i ys hys
      obtain ⟨vs, hvs, hvr⟩ := srcCells_ok (P := P) hr hys hy
      have hls := aLenOf_ok (P := P) (w := w) hs hy
      have hlen := srcCells_length hys hy
      have hcopy : ∀ (base : Option Addr) (c : Nat), (Builtin.copy_ #[t, u] ty #[.slice base d c, r]).run P w = (match base with
          | some a => ((storeCells a vs).run P w).andThen fun _ w => .ok (goInt (min s d : Nat)) w
          | none => .ok (goInt (min s d : Nat)) w) := by
        intro base c
        have hvs : (Builtin.firstCells k (Nat.min s d) r).run P w = .ok vs.toArray w := hvs
        simp only [Builtin.copy_, List.getElem?_toArray, List.getElem?_cons_zero, List.getElem?_cons_succ, Sem.run_bind, run_underlying hu, Result.andThen_ok, hls, cSize_ok hk, hvs]
        cases base <;> simp [Nat.min_def]
      split at h
      · rename_i hm0
        cases h
        have : vs = [] := by
          have : ys = [] := by
            cases ys with
            | nil => rfl
            | cons a l => rw [hm0] at hlen; simp at hlen
          subst this; exact hvr.nil_inv
        subst this
        have hz : VR φ (.int .i64 0) (goInt (min s d : Nat)) := by rw [hm0]; exact .int _ _
        refine ⟨_, w, φ, ?_, Phi.le_refl φ, hz, hr⟩
        cases hx <;> simp only [aSLen] at hd <;> try (cases hd; done)
        all_goals (cases hd; rw [hcopy]; try simp [storeCells])
      · split at h
        · rename_i b off len cap hm0
          rw [Option.map_eq_some_iff] at h
          obtain ⟨σ1, hst, he⟩ := h
          simp only [Prod.mk.injEq] at he
          obtain ⟨rfl, rfl⟩ := he
          simp only [aSLen, Option.some.injEq] at hd
          subst hd
          cases hx with
          | slcE _ _ _ hib =>
            simp only [Id.real, Option.map_eq_some_iff] at hib
            obtain ⟨⟨b', sz⟩, hφ, rfl⟩ := hib
            obtain ⟨w', hw', hr'⟩ := storeAt_ok (P := P) hst hvr hr hφ
            exact ⟨_, w', φ, by rw [hcopy]; simp only; rw [hw']; rfl, Phi.le_refl φ, .int _ _, hr'⟩
          | slcG _ _ _ hφ _ _ =>
            obtain ⟨w', hw', hr'⟩ := storeAt_ok (P := P) hst hvr hr hφ
            exact ⟨_, w', φ, by rw [hcopy]; simp only; rw [hw']; rfl, Phi.le_refl φ, .int _ _, hr'⟩
        · cases h
    · cases h
  · cases h

/-! ### Maps whose keys are ints -/
theorem findNow_ok {es0 : List (Int × AVal)} {es' : List MapEntry} (h : EntRel φ es0 es') (key : Int) : ∀ i : Nat,
    (Instr.findNow (.int .i64) (.int .i64 key) es' i = some none ∧ ∀ a, (key, a) ∉ es0) ∨
    ∃ (j : Nat) (x : AVal) (e : MapEntry), Instr.findNow (.int .i64) (.int .i64 key) es' i = some (some (i + j, e.val)) ∧ es0[j]? = some (key, x) ∧ es'[j]? = some e ∧ VR φ x e.val ∧ e.key = .int .i64 key := by
  induction h with
  | nil => intro i; exact .inl ⟨rfl, by simp⟩
  | @cons m x e es es' hk hv hes ih =>
    intro i
    simp only [Instr.findNow, hk, Instr.sameNow, if_true]
    by_cases hkm : key = m
    · subst hkm
      refine .inr ⟨0, x, e, by simp, rfl, rfl, hv, hk⟩
    · have : (key == m) = false := by simpa using hkm
      simp only [this]
      rcases ih (i + 1) with ⟨h1, h2⟩ | ⟨j, x', e', h1, h2, h3, h4, h5⟩
      · exact .inl ⟨h1, fun a hm => by
          cases hm with
          | head => exact hkm rfl
          | tail _ hm => exact h2 a hm⟩
      · refine .inr ⟨j + 1, x', e', ?_, by simpa using h2, by simpa using h3, h4, h5⟩
        rw [h1]; congr 3; omega

theorem mapFind_some {key : Int} {x : AVal} : ∀ {es : List (Int × AVal)}, es.Pairwise (fun x y => x.1 < y.1) → (key, x) ∈ es → mapFind key es = some x
  | [], _, h => by cases h
  | (m, y) :: es, hp, h => by
    rw [List.pairwise_cons] at hp
    simp only [mapFind]
    cases h with
    | head => simp
    | tail _ hm =>
      have := hp.1 _ hm
      rw [if_neg (by simp at this; omega)]
      exact mapFind_some hp.2 hm
theorem mapFind_none {key : Int} : ∀ {es : List (Int × AVal)}, (∀ a, (key, a) ∉ es) → mapFind key es = none
  | [], _ => rfl
  | (m, y) :: es, h => by
    simp only [mapFind]
    rw [if_neg (fun e => h y (by rw [e]; exact List.mem_cons_self ..))]
    exact mapFind_none fun a hm => h a (List.mem_cons_of_mem _ hm)

theorem checkKey_ok {kt : TypeId} {k : IntKind} (h : P.underlying kt = some (.int k)) (b : Bool) (m : Nat) (v : Value) : (Instr.checkKey b (m + 1) kt v).run P w = .ok () w := by
  simp only [Instr.checkKey, Sem.run_bind, run_underlying h, Result.andThen_ok]
  cases v <;> rfl

theorem mapBlock (hr : Rel φ σ w) {k b sz : Nat} {es : List (Int × AVal)} (hk : φ k = some (b, sz)) (hg : σ.get k = some (.map es)) :
    ∃ (es' : Array MapEntry) (clock : Nat), w.heap[b]? = some (.map es' clock) ∧ MapRel φ es es'.toList ∧ MapKept.Stamped es' clock := by
  obtain ⟨_, o, ho, hb⟩ := hr.new k b sz hk
  cases hb _ hg with
  | map h hs => exact ⟨_, _, ho, h, hs⟩

theorem run_getObj_map {b : Nat} {es' : Array MapEntry} {clock : Nat} (h : w.heap[b]? = some (.map es' clock)) : (getObj b).run P w = .ok (.map es' clock) w := by
  simp [getObj, Sem.run, h]
theorem run_setObj_map {b : Nat} {es' es2 : Array MapEntry} {c1 c2 : Nat} (h : w.heap[b]? = some (.map es' c1)) :
    ∃ w', (setObj b (.map es2 c2)).run P w = .ok () w' ∧ Wrote w w' b (.map es2 c2) := by
  refine ⟨{ w with heap := w.heap.setIfInBounds b (.map es2 c2) }, by simp [setObj, Sem.run, h], ?_, by simp, rfl, rfl, rfl, rfl⟩
  intro b'
  have hlt := (Array.getElem?_eq_some_iff.1 h).1
  by_cases e : b' = b
  · subst e; simp [hlt]
  · rw [if_neg e]
    simp [Array.getElem?_setIfInBounds_ne (fun h => e h.symm)]

theorem aLook_ok {t kt e : TypeId} {zv : Value} (hu : P.underlying t = some (.map kt e)) (hk : P.underlying kt = some (.int .i64)) (hz : cZero P e = some zv) {ok : Bool} {x key z : AVal} {v u : Value}
    (h : aLook (ofVal1 zv) ok x key σ = some z) (hx : VR φ x v) (hkey : VR φ key u) (hr : Rel φ σ w) :
    ∃ r, (Instr.lookup t v u ok).run P w = .ok r w ∧ VR φ z r := by
  unfold aLook at h
  split at h
  · rename_i m
    cases hkey
    split at h
    · rename_i es hes
      -- the entries
      have hent : ∃ es' : Array MapEntry, MapRel φ es es'.toList ∧ ∀ (f : Array MapEntry → Sem Value), (do
          let es ← match v with
            | .map none => pure #[]
            | .map (some r) => do
              let .map es _ ← getObj r | stuck "Lookup: map expected"
              pure es
            | _ => stuck "Lookup: map expected"
          f es : Sem Value).run P w = (f es').run P w := by
        split at hes
        · cases hes
          cases hx
          exact ⟨#[], ⟨.nil, [], .refl _, .nil⟩, fun f => by simp⟩
        · rename_i kk
          split at hes
          · rename_i es0 hg
            cases hes
            cases hx with
            | mp hib =>
              simp only [Id.real, Option.map_eq_some_iff] at hib
              obtain ⟨⟨b', sz⟩, hφ, rfl⟩ := hib
              obtain ⟨es', clock, ho, hm, _⟩ := mapBlock hr hφ hg
              exact ⟨es', hm, fun f => by simp [run_getObj_map ho]⟩
          · cases hes
        · cases hes
      obtain ⟨es', ⟨hsort, es0, hperm, hrel⟩, hrun⟩ := hent
      have hlook : (Instr.lookup t v (.int .i64 m) ok).run P w = (do
          Instr.checkKey es'.isEmpty 10000 kt (.int .i64 m)
          let (v, o) ← match ← Instr.findKey kt (.int .i64 m) es'.toList with
            | some (_, v) => pure (v, true)
            | none => pure (← zeroValue e, false)
          pure (if ok then .tuple #[v, .bool o] else v) : Sem Value).run P w := by
        unfold Instr.lookup
        simp only [Sem.run_bind, run_underlying hu, Result.andThen_ok]
        have := hrun (fun es => do
          Instr.checkKey es.isEmpty 10000 kt (.int .i64 m)
          let (v, o) ← match ← Instr.findKey kt (.int .i64 m) es.toList with
            | some (_, v) => pure (v, true)
            | none => pure (← zeroValue e, false)
          pure (if ok then .tuple #[v, .bool o] else v))
        simp only [Sem.run_bind] at this
        exact this
      rw [hlook]
      simp only [Sem.run_bind, checkKey_ok hk, Result.andThen_ok, Instr.findKey, run_underlying hk]
      rcases findNow_ok hrel m 0 with ⟨h1, h2⟩ | ⟨j, x', e', h1, h2, h3, h4, h5⟩
      · have : mapFind m es = none := mapFind_none fun a hm => h2 a (hperm.mem_iff.2 hm)
        rw [this] at h
        cases h
        simp only [h1, Sem.run_pure, Result.andThen_ok, Sem.run_bind, cZero_ok hz]
        cases ok
        · exact ⟨_, rfl, ofVal1_VR φ zv⟩
        · exact ⟨_, rfl, VR.tup (vs := [zv, .bool false]) (.cons (ofVal1_VR φ zv) (.cons (.bool _) .nil))⟩
      · have : mapFind m es = some x' := mapFind_some hsort (hperm.mem_iff.1 (List.mem_of_getElem? h2))
        rw [this] at h
        cases h
        simp only [h1, Sem.run_pure, Result.andThen_ok]
        cases ok
        · exact ⟨_, rfl, h4⟩
        · exact ⟨_, rfl, VR.tup (vs := [e'.val, .bool true]) (.cons h4 (.cons (.bool _) .nil))⟩
    · cases h
  · cases h
end
end Go.Mini
set_option linter.unusedVariables false
set_option linter.unusedSimpArgs false
namespace Go.Mini
open Go

section
variable {P : Program} {φ : Phi} {σ : Heap} {w : World} {n : Nat} {fr : Frame} {a : Act}

theorem EntRel.length {es : List (Int × AVal)} {es' : List MapEntry} (h : EntRel φ es es') : es.length = es'.length := by
  induction h with
  | nil => rfl
  | cons _ _ _ ih => simp [ih]
theorem EntRel.set {es : List (Int × AVal)} {es' : List MapEntry} (h : EntRel φ es es') {n : Int} {x : AVal} {e : MapEntry} (hk : e.key = .int .i64 n) (hv : VR φ x e.val) : ∀ j : Nat, EntRel φ (es.set j (n, x)) (es'.set j e) := by
  induction h with
  | nil => intro j; exact .nil
  | cons h1 h2 h3 ih =>
    intro j
    cases j with
    | zero => exact .cons hk hv h3
    | succ j => exact .cons h1 h2 (ih j)
theorem EntRel.snoc {es : List (Int × AVal)} {es' : List MapEntry} (h : EntRel φ es es') {n : Int} {x : AVal} {e : MapEntry} (hk : e.key = .int .i64 n) (hv : VR φ x e.val) : EntRel φ (es ++ [(n, x)]) (es' ++ [e]) := by
  induction h with
  | nil => exact .cons hk hv .nil
  | cons h1 h2 _ ih => exact .cons h1 h2 ih
theorem EntRel.erase {es : List (Int × AVal)} {es' : List MapEntry} (h : EntRel φ es es') : ∀ j : Nat, EntRel φ (es.eraseIdx j) (es'.eraseIdx j) := by
  induction h with
  | nil => intro j; simp; exact .nil
  | cons h1 h2 h3 ih =>
    intro j
    cases j with
    | zero => exact h3
    | succ j => exact .cons h1 h2 (ih j)

/-! sorted lists of entries -/
abbrev Sorted (es : List (Int × AVal)) : Prop := es.Pairwise (fun x y => x.1 < y.1)
theorem mapPut_keys {n : Int} {x : AVal} : ∀ {es : List (Int × AVal)} {p : Int × AVal}, p ∈ mapPut n x es → p = (n, x) ∨ p ∈ es
  | [], p, h => by simp [mapPut] at h; exact .inl h
  | (m, y) :: es, p, h => by
    simp only [mapPut] at h
    split at h
    · cases h with
      | head => exact .inl rfl
      | tail _ h => exact .inr (List.mem_cons_of_mem _ h)
    · split at h
      · cases h with
        | head => exact .inl rfl
        | tail _ h => exact .inr h
      · cases h with
        | head => exact .inr (List.mem_cons_self ..)
        | tail _ h => rcases mapPut_keys h with h | h
                      · exact .inl h
                      · exact .inr (List.mem_cons_of_mem _ h)
theorem mapPut_sorted {n : Int} {x : AVal} : ∀ {es : List (Int × AVal)}, Sorted es → Sorted (mapPut n x es)
  | [], _ => by simp [mapPut, Sorted]
  | (m, y) :: es, h => by
    have h' := h
    simp only [Sorted, List.pairwise_cons] at h
    simp only [mapPut]
    split
    · rename_i e; subst e
      simp only [Sorted, List.pairwise_cons]; exact h
    · split
      · rename_i h1 h2
        simp only [Sorted, List.pairwise_cons]
        refine ⟨?_, h⟩
        intro p hp
        cases hp with
        | head => exact h2
        | tail _ hp => have := h.1 p hp; omega
      · rename_i h1 h2
        simp only [Sorted, List.pairwise_cons]
        refine ⟨?_, mapPut_sorted h.2⟩
        intro p hp
        rcases mapPut_keys hp with rfl | hp
        · show m < n; omega
        · exact h.1 p hp
theorem mapPut_new {n : Int} {x : AVal} : ∀ {es : List (Int × AVal)}, (∀ y, (n, y) ∉ es) → (mapPut n x es).Perm (es ++ [(n, x)])
  | [], _ => .refl _
  | (m, y) :: es, h => by
    simp only [mapPut]
    rw [if_neg (fun e => h y (by rw [e]; exact List.mem_cons_self ..))]
    split
    · exact (List.perm_append_comm (l₁ := [(n, x)]) (l₂ := (m, y) :: es))
    · exact .cons _ (mapPut_new fun z hz => h z (List.mem_cons_of_mem _ hz))
theorem mapPut_old {n : Int} {x y : AVal} : ∀ {es : List (Int × AVal)}, Sorted es → (n, y) ∈ es → ∀ es0 : List (Int × AVal), es0.Perm es → ∀ j : Nat, es0[j]? = some (n, y) → (es0.set j (n, x)).Perm (mapPut n x es) := by
  have key : ∀ (es : List (Int × AVal)), Sorted es → (n, y) ∈ es → ∃ l r, es = l ++ (n, y) :: r ∧ mapPut n x es = l ++ (n, x) :: r := by
    intro es
    induction es with
    | nil => intro _ h; cases h
    | cons p es ih =>
      intro hs hm
      obtain ⟨m, z⟩ := p
      simp only [Sorted, List.pairwise_cons] at hs
      cases hm with
      | head => exact ⟨[], es, rfl, by simp [mapPut]⟩
      | tail _ hm =>
        have hlt : m < n := hs.1 _ hm
        obtain ⟨l, r, h1, h2⟩ := ih hs.2 hm
        refine ⟨(m, z) :: l, r, by rw [h1]; rfl, ?_⟩
        simp only [mapPut]
        rw [if_neg (by omega), if_neg (by omega), h2]; rfl
  intro es hs hm es0 hp j hj
  obtain ⟨l, r, h1, h2⟩ := key es hs hm
  have hlt : j < es0.length := by
    rcases Nat.lt_or_ge j es0.length with h | h
    · exact h
    · rw [List.getElem?_eq_none h] at hj; cases hj
  have e0 : es0 = es0.take j ++ (n, y) :: es0.drop (j + 1) := by
    rw [List.getElem?_eq_getElem hlt] at hj
    have := List.take_append_drop j es0
    rw [List.drop_eq_getElem_cons hlt] at this
    simp only [Option.some.injEq] at hj
    rw [hj] at this; exact this.symm
  have e1 : es0.set j (n, x) = es0.take j ++ (n, x) :: es0.drop (j + 1) := by
    rw [List.set_eq_take_append_cons_drop, if_pos hlt]
  rw [e1, h2]
  rw [e0, h1] at hp
  have hp' : (es0.take j ++ es0.drop (j + 1)).Perm (l ++ r) := by
    have a1 := (List.perm_middle (a := (n, y)) (l₁ := es0.take j) (l₂ := es0.drop (j + 1))).symm.trans (hp.trans (List.perm_middle (a := (n, y)) (l₁ := l) (l₂ := r)))
    exact List.Perm.cons_inv a1
  exact (List.perm_middle (a := (n, x))).trans ((hp'.cons _).trans (List.perm_middle (a := (n, x))).symm)
theorem mapDel_mem {n : Int} : ∀ {es : List (Int × AVal)} {p : Int × AVal}, p ∈ mapDel n es → p ∈ es
  | [], _, h => by cases h
  | (m, y) :: es, p, h => by
    simp only [mapDel] at h
    split at h
    · exact List.mem_cons_of_mem _ h
    · cases h with
      | head => exact List.mem_cons_self ..
      | tail _ h => exact List.mem_cons_of_mem _ (mapDel_mem h)
theorem mapDel_sorted {n : Int} : ∀ {es : List (Int × AVal)}, Sorted es → Sorted (mapDel n es)
  | [], h => h
  | (m, y) :: es, h => by
    simp only [Sorted, List.pairwise_cons] at h
    simp only [mapDel]
    split
    · exact h.2
    · simp only [Sorted, List.pairwise_cons]
      exact ⟨fun p hp => h.1 p (mapDel_mem hp), mapDel_sorted h.2⟩
theorem mapDel_none {n : Int} : ∀ {es : List (Int × AVal)}, (∀ y, (n, y) ∉ es) → mapDel n es = es
  | [], _ => rfl
  | (m, y) :: es, h => by
    simp only [mapDel]
    rw [if_neg (fun e => h y (by rw [e]; exact List.mem_cons_self ..)), mapDel_none fun z hz => h z (List.mem_cons_of_mem _ hz)]
theorem mapDel_old {n : Int} {y : AVal} : ∀ {es : List (Int × AVal)}, Sorted es → (n, y) ∈ es → ∀ es0 : List (Int × AVal), es0.Perm es → ∀ j : Nat, es0[j]? = some (n, y) → (es0.eraseIdx j).Perm (mapDel n es) := by
  have key : ∀ (es : List (Int × AVal)), Sorted es → (n, y) ∈ es → ∃ l r, es = l ++ (n, y) :: r ∧ mapDel n es = l ++ r := by
    intro es
    induction es with
    | nil => intro _ h; cases h
    | cons p es ih =>
      intro hs hm
      obtain ⟨m, z⟩ := p
      simp only [Sorted, List.pairwise_cons] at hs
      cases hm with
      | head => exact ⟨[], es, rfl, by simp [mapDel]⟩
      | tail _ hm =>
        have hlt : m < n := hs.1 _ hm
        obtain ⟨l, r, h1, h2⟩ := ih hs.2 hm
        refine ⟨(m, z) :: l, r, by rw [h1]; rfl, ?_⟩
        simp only [mapDel]
        rw [if_neg (by omega), h2]; rfl
  intro es hs hm es0 hp j hj
  obtain ⟨l, r, h1, h2⟩ := key es hs hm
  have hlt : j < es0.length := by
    rcases Nat.lt_or_ge j es0.length with h | h
    · exact h
    · rw [List.getElem?_eq_none h] at hj; cases hj
  have e0 : es0 = es0.take j ++ (n, y) :: es0.drop (j + 1) := by
    rw [List.getElem?_eq_getElem hlt] at hj
    have := List.take_append_drop j es0
    rw [List.drop_eq_getElem_cons hlt] at this
    simp only [Option.some.injEq] at hj
    rw [hj] at this; exact this.symm
  rw [List.eraseIdx_eq_take_drop_succ, h2]
  rw [e0, h1] at hp
  have a1 := (List.perm_middle (a := (n, y)) (l₁ := es0.take j) (l₂ := es0.drop (j + 1))).symm.trans (hp.trans (List.perm_middle (a := (n, y)) (l₁ := l) (l₂ := r)))
  exact List.Perm.cons_inv a1

theorem EntRel.keys {es : List (Int × AVal)} {es' : List MapEntry} (h : EntRel φ es es') : ∀ e ∈ es', ∃ z ∈ es, e.key = .int .i64 z.1 := by
  induction h with
  | nil => intro e he; cases he
  | cons h1 h2 _ ih =>
    intro e he
    cases he with
    | head => exact ⟨_, List.mem_cons_self .., h1⟩
    | tail _ he => obtain ⟨z, hz, e⟩ := ih e he; exact ⟨z, List.mem_cons_of_mem _ hz, e⟩
theorem Wrote.rel {w' : World} (hr : Rel φ σ w) {k b sz : Nat} {blk blk' : ABlk} {o : Obj} (hk : φ k = some (b, sz)) (hg : σ.get k = some blk) (hd : blk ≠ .dead) (hW : Wrote w w' b o) (hb : BRel φ sz blk' o) : Rel φ (σ.set k blk') w' :=
  hr.change hk hg hd hW.heap hW.size hW.tape hW.os hW.output (by rw [hW.drawn]; exact Nat.le_refl _) hb

theorem keyThatStays_ok (m : Int) : (Instr.keyThatStays (.int .i64 m) (.int .i64 m)).run P w = .ok (.int .i64 m) w := by
  simp [Instr.keyThatStays, Instr.sameBits]

theorem mapUp_ok {t kt e : TypeId} (hu : P.underlying t = some (.map kt e)) (hk : P.underlying kt = some (.int .i64)) {b : Nat} {m : Int} {x : AVal} {es : List (Int × AVal)} {v u y : Value}
    (hx : VR φ (.mp (.new b)) v) (hkey : VR φ (.int .i64 m) u) (hy : VR φ x y) (hg : σ.get b = some (.map es)) (hr : Rel φ σ w) :
    ∃ w', (Instr.mapUpdate t v u y).run P w = .ok () w' ∧ Rel φ (σ.set b (.map (mapPut m x es))) w' := by
  cases hkey
  cases hx with
  | mp hib =>
    simp only [Id.real, Option.map_eq_some_iff] at hib
    obtain ⟨⟨b', sz⟩, hφ, rfl⟩ := hib
    obtain ⟨es', clock, ho, ⟨hsort, es0, hperm, hrel⟩, hst⟩ := mapBlock hr hφ hg
    simp only [Instr.mapUpdate, Sem.run_bind, run_underlying hu, Result.andThen_ok, run_getObj_map ho, checkKey_ok hk, Instr.findKey, run_underlying hk]
    rcases findNow_ok hrel m 0 with ⟨h1, h2⟩ | ⟨j, x', e', h1, h2, h3, h4, h5⟩
    · obtain ⟨w', hw', hW⟩ := run_setObj_map (P := P) (es2 := es'.push { key := .int .i64 m, val := y, born := clock }) (c2 := clock + 1) ho
      refine ⟨w', by simp only [h1, Sem.run_pure, Result.andThen_ok]; exact hw', hW.rel hr hφ hg (by intro h; cases h) (.map ⟨mapPut_sorted hsort, es0 ++ [(m, x)], ?_, ?_⟩ (MapKept.stamped_push hst fun z hz => by
        obtain ⟨q, hq, e⟩ := EntRel.keys hrel z hz
        rw [e]; intro h; obtain ⟨q1, q2⟩ := q; cases h; exact h2 q2 hq))⟩
      · exact (hperm.append_right _).trans (mapPut_new fun z hz => h2 z (hperm.mem_iff.2 hz)).symm
      · rw [Array.toList_push]; exact hrel.snoc rfl hy
    · have hj : es'[j]? = some e' := by simpa using h3
      obtain ⟨w', hw', hW⟩ := run_setObj_map (P := P) (es2 := es'.modify j fun e => { e with key := .int .i64 m, val := y }) (c2 := clock) ho
      refine ⟨w', ?_, hW.rel hr hφ hg (by intro h; cases h) (.map ⟨mapPut_sorted hsort, es0.set j (m, x), ?_, ?_⟩ (MapKept.stamped_modify hst j _ (fun _ _ => rfl) fun q _ hq => by
        rw [hj] at hq; cases hq; exact h5.symm))⟩
      · simp only [h1, Sem.run_pure, Result.andThen_ok, Nat.zero_add, Sem.run_bind, hj, Option.map_some, Option.getD_some, h5, keyThatStays_ok]
        exact hw'
      · exact mapPut_old hsort (hperm.mem_iff.1 (List.mem_of_getElem? h2)) es0 hperm j h2
      · have : (es'.modify j fun e => { e with key := .int .i64 m, val := y }).toList = es'.toList.set j { e' with key := .int .i64 m, val := y } := by
          apply List.ext_getElem?
          intro i
          simp only [Array.getElem?_toList, Array.getElem?_modify]
          rw [List.getElem?_set]
          by_cases hij : j = i
          · subst hij
            have hlt := (Array.getElem?_eq_some_iff.1 hj).1
            have := (Array.getElem?_eq_some_iff.1 hj).2
            simp [hj, hlt, this]
          · simp [hij]
        rw [this]
        exact hrel.set (e := { e' with key := .int .i64 m, val := y }) rfl hy j

theorem del_ok {t kt e ty : TypeId} {u' : TypeId} (hu : P.underlying t = some (.map kt e)) (hk : P.underlying kt = some (.int .i64)) {b : Nat} {m : Int} {es : List (Int × AVal)} {v u : Value}
    (hx : VR φ (.mp (.new b)) v) (hkey : VR φ (.int .i64 m) u) (hg : σ.get b = some (.map es)) (hr : Rel φ σ w) :
    ∃ w', (Builtin.delete_ #[t, u'] ty #[v, u]).run P w = .ok (.tuple #[]) w' ∧ Rel φ (σ.set b (.map (mapDel m es))) w' := by
  cases hkey
  cases hx with
  | mp hib =>
    simp only [Id.real, Option.map_eq_some_iff] at hib
    obtain ⟨⟨b', sz⟩, hφ, rfl⟩ := hib
    obtain ⟨es', clock, ho, ⟨hsort, es0, hperm, hrel⟩, hst⟩ := mapBlock hr hφ hg
    simp only [Builtin.delete_, List.getElem?_toArray, List.getElem?_cons_zero, List.getElem?_cons_succ, Sem.run_bind, run_underlying hu, Result.andThen_ok, run_getObj_map ho, checkKey_ok hk, Instr.findKey, run_underlying hk]
    rcases findNow_ok hrel m 0 with ⟨h1, h2⟩ | ⟨j, x', e', h1, h2, h3, h4, h5⟩
    · obtain ⟨w', hw', hW⟩ := run_setObj_map (P := P) (es2 := es') (c2 := clock) ho
      refine ⟨w', by simp only [h1, Sem.run_pure, Result.andThen_ok, Sem.run_bind, hw'], hW.rel hr hφ hg (by intro h; cases h) (.map ?_ hst)⟩
      rw [mapDel_none fun z hz => h2 z (hperm.mem_iff.2 hz)]
      exact ⟨hsort, es0, hperm, hrel⟩
    · have hlt : j < es'.size := by
        have : j < es'.toList.length := by
          rcases Nat.lt_or_ge j es'.toList.length with h | h
          · exact h
          · rw [List.getElem?_eq_none h] at h3; cases h3
        simpa using this
      obtain ⟨w', hw', hW⟩ := run_setObj_map (P := P) (es2 := es'.eraseIdxIfInBounds j) (c2 := clock) ho
      refine ⟨w', ?_, hW.rel hr hφ hg (by intro h; cases h) (.map ⟨mapDel_sorted hsort, es0.eraseIdx j, ?_, ?_⟩ (MapKept.stamped_erase hst j))⟩
      · simp only [h1, Sem.run_pure, Result.andThen_ok, Nat.zero_add, Sem.run_bind, hw']
      · exact mapDel_old hsort (hperm.mem_iff.1 (List.mem_of_getElem? h2)) es0 hperm j h2
      · have : (es'.eraseIdxIfInBounds j).toList = es'.toList.eraseIdx j := by
          simp [Array.eraseIdxIfInBounds, hlt]
        rw [this]
        exact hrel.erase j
end
end Go.Mini
set_option linter.unusedVariables false
set_option linter.unusedSimpArgs false
namespace Go.Mini
open Go

section
variable {P : Program} {φ : Phi} {σ : Heap} {w : World} {n : Nat} {fr : Frame} {a : Act}

theorem zcells_VRs (φ : Phi) (z : Value) : VRs φ (zcells z) z.cells.toList := VRs.ofVal φ _

/-- a new block whose cells are all known -/
theorem new_ok (hr : Rel φ σ w) {cs : List AVal} {vs : Array Value} (h : VRs φ cs vs.toList) (e : TypeId) :
    ∃ φ', φ.le φ' ∧ φ' σ.next = some (w.heap.size, vs.size) ∧ Rel φ' (σ.new (.cells cs none)) (w.alloc (.cells vs e)) := by
  have hle := Phi.le_put (w.heap.size, vs.size) (hr.fresh σ.next (Nat.le_refl _))
  have hl := h.length
  obtain ⟨h1, h2⟩ := hr.alloc (blk := .cells cs none) (o := .cells vs e) (sz := vs.size) (by
    refine .cells rfl (by simp at hl; omega) (by intro _; simpa using hl) (by intro _ h; cases h) ?_ (by intro off _; simp)
    rw [hl, List.take_length]; exact h.mono hle)
  exact ⟨_, h1, Phi.put_same .., h2⟩

/-- the same at an id that was kept free -/
theorem place_ok (hr : Rel φ σ w) {k : Nat} (hk : φ.res k) {cs : List AVal} (hg : σ.get k = some (.cells cs none)) {vs : Array Value} (h : VRs φ cs vs.toList) (e : TypeId) :
    ∃ φ' : Phi, φ.sub φ' ∧ (∀ j, φ'.res j ↔ (φ.res j ∧ j ≠ k)) ∧ φ' k = some (w.heap.size, vs.size) ∧ Rel φ' σ (w.alloc (.cells vs e)) := by
  obtain ⟨hn, hlt⟩ := hr.resv k hk
  have hsub := (Phi.le_put (w.heap.size, vs.size) hn).1
  have hl := h.length
  have hput : ∀ j x, (φ.put k (w.heap.size, vs.size)).m j = some x → (j = k ∧ x = (w.heap.size, vs.size)) ∨ (j ≠ k ∧ φ j = some x) := by
    intro j x e
    by_cases hj : j = k
    · subst hj; rw [Phi.put_same] at e; cases e; exact .inl ⟨rfl, rfl⟩
    · rw [Phi.put_other _ _ hj] at e; exact .inr ⟨hj, e⟩
  refine ⟨⟨(φ.put k (w.heap.size, vs.size)).m, fun j => φ.res j ∧ j ≠ k, φ.F⟩, hsub, fun j => Iff.rfl, Phi.put_same .., ?_⟩
  constructor
  · simp only [World.size_alloc]; have := hr.size; omega
  · intro b hb
    have := hr.size
    rw [heap_alloc, if_neg (by omega)]; exact hr.old b hb
  · intro j b sz e'
    rcases hput j (b, sz) e' with ⟨rfl, hx⟩ | ⟨hj, hx⟩
    · cases hx
      refine ⟨hr.size, .cells vs e, by rw [heap_alloc, if_pos rfl], fun blk hb => ?_⟩
      rw [hg] at hb; cases hb
      refine .cells rfl (by simp at hl; omega) (by intro _; simpa using hl) (by intro _ h; cases h) ?_ (by intro off _; simp)
      rw [hl, List.take_length]; exact VRs.mono0 (φ' := ⟨(φ.put j (w.heap.size, vs.size)).m, fun i => φ.res i ∧ i ≠ j, φ.F⟩) hsub h
    · obtain ⟨h1, o', ho', h2⟩ := hr.new j b sz hx
      refine ⟨h1, o', ?_, fun blk hb => BRel.mono0 (φ' := ⟨(φ.put k (w.heap.size, vs.size)).m, fun j => φ.res j ∧ j ≠ k, φ.F⟩) hsub (h2 blk hb)⟩
      have := (Array.getElem?_eq_some_iff.1 ho').1
      rw [heap_alloc, if_neg (by omega)]; exact ho'
  · intro j j' b s1 s2 e1 e2 hl1 hl2
    rcases hput j _ e1 with ⟨hj, hx⟩ | ⟨hj, hx⟩ <;> rcases hput j' _ e2 with ⟨hj', hx'⟩ | ⟨hj', hx'⟩
    · rw [hj, hj']
    · cases hx; have := hr.lt hx'; omega
    · cases hx'; have := hr.lt hx; omega
    · exact hr.inj j j' b s1 s2 hx hx' hl1 hl2
  · intro j hj
    show (φ.put k (w.heap.size, vs.size)).m j = none
    rw [Phi.put_other _ _ (by omega)]; exact hr.fresh j hj
  · intro j ⟨h1, h2⟩
    refine ⟨?_, (hr.resv j h1).2⟩
    show (φ.put k (w.heap.size, vs.size)).m j = none
    rw [Phi.put_other _ _ h2]; exact (hr.resv j h1).1
  · exact hr.tape
  · exact hr.os
  · exact hr.output
  · intro b j v e
    have h := hr.frz b j v e
    have hb : b < w.heap.size := World.block_lt_of_cell? w ⟨b, j, none⟩ h
    simp only [World.cell?, heap_alloc]
    rw [if_neg (by omega)]
    exact h
  · intro j b sz i e hl
    rcases hput j _ e with ⟨rfl, hx⟩ | ⟨hj, hx⟩
    · cases hx
      show φ.F _ _ = none
      cases hF : φ.F w.heap.size i with
      | none => rfl
      | some v => have := World.block_lt_of_cell? w ⟨w.heap.size, i, none⟩ (hr.frz _ _ _ hF); simp only at this; omega
    · exact hr.apart j b sz i hx hl
  · exact hr.base
  · exact hr.drawn
theorem lay_ok {t : TypeId} {z : Value} (hz : cZero P t = some z) (hr : Rel φ σ w) {k : Nat} (hk : φ.res k) (hg : σ.get k = some (.cells (zcells z) none)) :
    ∃ v w' φ', (Instr.alloc t true (.tuple #[])).run P w = .ok v w' ∧ φ.sub φ' ∧ (∀ j, φ'.res j ↔ (φ.res j ∧ j ≠ k)) ∧ VR φ' (.ptr (.new k) 0) v ∧ Rel φ' σ w' := by
  obtain ⟨φ', h1, h2, h3, h4⟩ := place_ok hr hk hg (zcells_VRs φ z) t
  refine ⟨_, _, φ', ?_, h1, h2, .ptr 0 (by simp [Id.real, h3]; rfl), h4⟩
  simp [Instr.alloc, cZero_ok hz, newVar, newRow, run_newObj_alloc]
/-- ids are kept free -/
theorem Rel.keep (hr : Rel φ σ w) (zs : List AVal) : Rel ⟨φ.m, fun k => φ.res k ∨ k = σ.next, φ.F⟩ (σ.new (.cells zs none)) w := by
  have hg : ∀ k x, φ k = some x → (σ.new (.cells zs none)).get k = σ.get k := by
    intro k x e
    have : k ≠ σ.next := fun h => by subst h; rw [hr.fresh _ (Nat.le_refl _)] at e; cases e
    rw [Heap.get_new, if_neg (fun h => this h.symm)]
  constructor
  · exact hr.size
  · exact hr.old
  · intro k b sz e
    obtain ⟨h1, o, h2, h3⟩ := hr.new k b sz e
    exact ⟨h1, o, h2, fun blk hb => BRel.mono0 (φ := φ) (φ' := ⟨φ.m, fun k => φ.res k ∨ k = σ.next, φ.F⟩) ⟨fun _ _ e => e, fun _ _ _ e => e⟩ (h3 blk (by rw [← hg k _ e]; exact hb))⟩
  · intro k k' b s1 s2 e1 e2 hl1 hl2
    have l1 : σ.live k := by obtain ⟨x, hx, hd⟩ := hl1; exact ⟨x, by rw [← hg k _ e1]; exact hx, hd⟩
    have l2 : σ.live k' := by obtain ⟨x, hx, hd⟩ := hl2; exact ⟨x, by rw [← hg k' _ e2]; exact hx, hd⟩
    exact hr.inj k k' b s1 s2 e1 e2 l1 l2
  · intro k h; simp only [Heap.new_next] at h; exact hr.fresh k (by omega)
  · intro k h
    simp only [Heap.new_next]
    rcases h with h | h
    · have := hr.resv k h; exact ⟨this.1, by omega⟩
    · subst h; exact ⟨hr.fresh _ (Nat.le_refl _), by omega⟩
  · exact hr.tape
  · exact hr.os
  · exact hr.output
  · exact hr.frz
  · intro k b sz j e hl
    refine hr.apart k b sz j e ?_
    obtain ⟨x, hx, hd⟩ := hl; exact ⟨x, by rw [← hg k _ e]; exact hx, hd⟩
  · exact hr.base
  · exact hr.drawn
theorem Rel.less {R : Nat → Prop} (hr : Rel φ σ w) (h : ∀ k, R k → φ.res k) : Rel ⟨φ.m, R, φ.F⟩ σ w where
  size := hr.size
  old := hr.old
  new := fun k b sz e => by
    obtain ⟨h1, o, h2, h3⟩ := hr.new k b sz e
    exact ⟨h1, o, h2, fun blk hb => BRel.mono0 (φ := φ) (φ' := ⟨φ.m, R, φ.F⟩) ⟨fun _ _ e => e, fun _ _ _ e => e⟩ (h3 blk hb)⟩
  inj := hr.inj
  fresh := hr.fresh
  resv := fun k hk => hr.resv k (h k hk)
  tape := hr.tape
  os := hr.os
  output := hr.output
  frz := hr.frz
  apart := hr.apart
  base := hr.base
  drawn := hr.drawn

theorem alloc_ok {t : TypeId} {z : Value} (hz : cZero P t = some z) (hr : Rel φ σ w) : DoingV P (Instr.alloc t true (.tuple #[])) w φ (.ptr (.new σ.next) 0) (σ.new (.cells (zcells z) none)) := by
  obtain ⟨φ', h1, h2, h3⟩ := new_ok hr (zcells_VRs φ z) t
  refine ⟨_, _, φ', ?_, h1, .ptr 0 (by simp [Id.real, h2]; rfl), h3⟩
  simp [Instr.alloc, cZero_ok hz, newVar, newRow, run_newObj_alloc]
theorem newT_ok (hr : Rel φ σ w) {cs : List AVal} {vs : Array Value} (h : VRs φ cs vs.toList) (e : TypeId) :
    ∃ φ' : Phi, φ.le φ' ∧ φ' σ.next = some (w.heap.size, vs.size) ∧ Rel φ' (σ.new (.tcells e cs)) (w.alloc (.cells vs e)) := by
  have hle := Phi.le_put (w.heap.size, vs.size) (hr.fresh σ.next (Nat.le_refl _))
  obtain ⟨h1, h2⟩ := hr.alloc (blk := .tcells e cs) (o := .cells vs e) (sz := vs.size) (.tcells rfl (h.mono hle) (by intro off _; simp))
  exact ⟨_, h1, Phi.put_same .., h2⟩
theorem allocT_ok {t : TypeId} {z : Value} (hz : cZero P t = some z) (hr : Rel φ σ w) : DoingV P (Instr.alloc t true (.tuple #[])) w φ (.ptr (.new σ.next) 0) (σ.new (.tcells t (zcells z))) := by
  obtain ⟨φ', h1, h2, h3⟩ := newT_ok hr (zcells_VRs φ z) t
  refine ⟨_, _, φ', ?_, h1, .ptr 0 (by simp [Id.real, h2]; rfl), h3⟩
  simp [Instr.alloc, cZero_ok hz, newVar, newRow, run_newObj_alloc]
theorem box_ok {t : TypeId} {x : AVal} {v : Value} (hx : VR φ x v) (hn : x.isRaw = false) (hr : Rel φ σ w) : DoingV P (Instr.box t v) w φ (.ptr (.new σ.next) 0) (σ.new (.cells x.cells none)) := by
  obtain ⟨φ', h1, h2, h3⟩ := new_ok hr (hx.cells hn) t
  refine ⟨_, _, φ', ?_, h1, .ptr 0 (by simp [Id.real, h2]; rfl), h3⟩
  simp [Instr.box, newVar, newRow, run_newObj_alloc]

theorem repl_VRs {zs : List AVal} {vs : List Value} (h : VRs φ zs vs) : ∀ m : Nat, VRs φ (repl m zs) ((List.replicate m vs).flatten)
  | 0 => .nil
  | m + 1 => by
    have := h.append (repl_VRs h m)
    simpa [repl, List.replicate_succ] using this
theorem range_mod (z : Array Value) (m : Nat) : ((Array.range (m * z.size)).map (z[· % z.size]!)).toList = (List.replicate m z.toList).flatten := by
  induction m with
  | zero => simp
  | succ m ih =>
    have e : Array.range ((m + 1) * z.size) = Array.range (m * z.size) ++ (Array.range z.size).map (m * z.size + ·) := by
      apply Array.ext'
      simp only [Array.toList_range, Array.toList_append, Array.toList_map]
      rw [Nat.succ_mul, List.range_add]
    rw [e, Array.map_append, Array.toList_append, ih, List.replicate_succ', List.flatten_append]
    congr 1
    simp only [Array.map_map, List.flatten_singleton, List.flatten_cons, List.flatten_nil, List.append_nil]
    apply List.ext_getElem?
    intro i
    simp only [Array.toList_map, Array.toList_range, List.getElem?_map]
    by_cases hi : i < z.size
    · rw [List.getElem?_range hi]
      simp only [Option.map_some, Function.comp]
      have : (m * z.size + i) % z.size = i := by
        rw [Nat.mul_comm, Nat.mul_add_mod, Nat.mod_eq_of_lt hi]
      rw [this]
      simp [hi]
    · rw [List.getElem?_eq_none (by simp; omega), List.getElem?_eq_none (by simp; omega)]; rfl

theorem bslc_ok {t e : TypeId} {len : Nat} {ti : TypeInfo} {z : Value} (hu : P.underlying t = some (.slice e)) (hti : P.info? e = some ti) (hz : ti.zero = some z) (hzs : z.cells.size = ti.size) (hsm : len * ti.size ≤ 2 ^ 24)
    {parts : List (Nat × Operand)} {pl : List (Nat × Nat × Opd)} (hp : cParts n (fun j => some (j * ti.size, ti.size)) parts = some pl) (hf : FR φ n fr a) {cs : List AVal}
    (hfill : aFill (repl len (zcells z)) (evParts fr pl) = some cs) (hcs : cs.length = len * ti.size) (hr : Rel φ σ w) :
    DoingV P (Instr.buildSlice t len (parts.map fun (i, x) => (i, a.eval x)).toArray) w φ (.slc (.new σ.next) 0 len (.ex len)) (σ.new (.cells cs none)) := by
  have hzero : ∀ w : World, (zeroValue e).run P w = .ok z w := fun w => cZero_ok (by simp [cZero, hti, hz]) w
  have hsz : ∀ w : World, (sizeOf e).run P w = .ok ti.size w := fun w => cSize_ok (by simp [cSize, hti]) w
  have hinit : ∀ (zz : Array Value), (zz = if len * ti.size = 0 then #[] else z.cells) → VRs φ (repl len (zcells z)) ((Array.range (len * ti.size)).map (zz[· % zz.size]!)).toList := by
    intro zz hzz
    by_cases h0 : len * ti.size = 0
    · have hr0 : repl len (zcells z) = [] := by
        have : (repl len (zcells z)).length = 0 := by
          simp only [repl, zcells, List.length_flatten, List.map_replicate, List.length_map, Array.length_toList, hzs, List.sum_replicate_nat]; exact h0
        exact List.length_eq_zero_iff.1 this
      rw [hr0, h0]; simp; exact .nil
    · rw [hzz, if_neg h0, ← hzs, range_mod]
      exact repl_VRs (zcells_VRs φ z) len
  obtain ⟨us, hus, hur⟩ := fill_ok (fun i => some (i * ti.size, ti.size)) hf parts pl _ ((Array.range (len * ti.size)).map ((if len * ti.size = 0 then #[] else z.cells)[· % (if len * ti.size = 0 then (#[] : Array Value) else z.cells).size]!)) cs hp hfill (hinit _ rfl)
  obtain ⟨φ', h1, h2, h3⟩ := new_ok hr hur e
  refine ⟨_, _, φ', ?_, h1, .slcE (b := w.heap.size) 0 len len (by simp [Id.real, h2]), h3⟩
  have hpt : (parts.map fun (i, x) => (i, a.eval x)).toArray.toList = parts.map fun (i, x) => (i, a.eval x) := rfl
  by_cases h0 : len * ti.size = 0
  · simp only [if_pos h0] at hus
    simp only [Instr.buildSlice, Sem.run_bind, run_underlying hu, Result.andThen_ok, hsz, if_neg (show ¬ len * ti.size > 2 ^ 24 by omega), Sem.run_pure, if_pos h0, hpt, hus, newRow, run_newObj_alloc]
  · simp only [if_neg h0] at hus
    simp only [Instr.buildSlice, Sem.run_bind, run_underlying hu, Result.andThen_ok, hsz, if_neg (show ¬ len * ti.size > 2 ^ 24 by omega), Sem.run_pure, if_neg h0, hzero, hpt, hus, newRow, run_newObj_alloc]

theorem layB_ok {t e : TypeId} {len : Nat} {ti : TypeInfo} {z : Value} (hu : P.underlying t = some (.slice e)) (hti : P.info? e = some ti) (hz : ti.zero = some z) (hzs : z.cells.size = ti.size) (hsm : len * ti.size ≤ 2 ^ 24)
    {parts : List (Nat × Operand)} {pl : List (Nat × Nat × Opd)} (hp : cParts n (fun j => some (j * ti.size, ti.size)) parts = some pl) (hf : FR φ n fr a) {cs : List AVal}
    (hfill : aFill (repl len (zcells z)) (evParts fr pl) = some cs) (hcs : cs.length = len * ti.size) (hr : Rel φ σ w) {q : Nat} (hq : φ.res q) (hg : σ.get q = some (.cells cs none)) :
    ∃ v w' φ', (Instr.buildSlice t len (parts.map fun (i, x) => (i, a.eval x)).toArray).run P w = .ok v w' ∧ φ.sub φ' ∧ (∀ j, φ'.res j ↔ (φ.res j ∧ j ≠ q)) ∧ VR φ' (.slc (.new q) 0 len (.ex len)) v ∧ Rel φ' σ w' := by
  have hzero : ∀ w : World, (zeroValue e).run P w = .ok z w := fun w => cZero_ok (by simp [cZero, hti, hz]) w
  have hsz : ∀ w : World, (sizeOf e).run P w = .ok ti.size w := fun w => cSize_ok (by simp [cSize, hti]) w
  have hinit : ∀ (zz : Array Value), (zz = if len * ti.size = 0 then #[] else z.cells) → VRs φ (repl len (zcells z)) ((Array.range (len * ti.size)).map (zz[· % zz.size]!)).toList := by
    intro zz hzz
    by_cases h0 : len * ti.size = 0
    · have hr0 : repl len (zcells z) = [] := by
        have : (repl len (zcells z)).length = 0 := by
          simp only [repl, zcells, List.length_flatten, List.map_replicate, List.length_map, Array.length_toList, hzs, List.sum_replicate_nat]; exact h0
        exact List.length_eq_zero_iff.1 this
      rw [hr0, h0]; simp; exact .nil
    · rw [hzz, if_neg h0, ← hzs, range_mod]
      exact repl_VRs (zcells_VRs φ z) len
  obtain ⟨us, hus, hur⟩ := fill_ok (fun i => some (i * ti.size, ti.size)) hf parts pl _ ((Array.range (len * ti.size)).map ((if len * ti.size = 0 then #[] else z.cells)[· % (if len * ti.size = 0 then (#[] : Array Value) else z.cells).size]!)) cs hp hfill (hinit _ rfl)
  obtain ⟨φ', h1, h2, h3, h4⟩ := place_ok hr hq hg hur e
  refine ⟨_, _, φ', ?_, h1, h2, .slcE (b := w.heap.size) 0 len len (by simp [Id.real, h3]), h4⟩
  have hpt : (parts.map fun (i, x) => (i, a.eval x)).toArray.toList = parts.map fun (i, x) => (i, a.eval x) := rfl
  by_cases h0 : len * ti.size = 0
  · simp only [if_pos h0] at hus
    simp only [Instr.buildSlice, Sem.run_bind, run_underlying hu, Result.andThen_ok, hsz, if_neg (show ¬ len * ti.size > 2 ^ 24 by omega), Sem.run_pure, if_pos h0, hpt, hus, newRow, run_newObj_alloc]
  · simp only [if_neg h0] at hus
    simp only [Instr.buildSlice, Sem.run_bind, run_underlying hu, Result.andThen_ok, hsz, if_neg (show ¬ len * ti.size > 2 ^ 24 by omega), Sem.run_pure, if_neg h0, hzero, hpt, hus, newRow, run_newObj_alloc]

theorem mslc_ok {t e : TypeId} {l c : Int} {ti : TypeInfo} {z : Value} (hu : P.underlying t = some (.slice e)) (hti : P.info? e = some ti) (hz : ti.zero = some z) (hzs : z.cells.size = ti.size)
    {u v : Value} (hl : VR φ (.int .i64 l) u) (hc : VR φ (.int .i64 c) v) (h0 : 0 ≤ l) (h1 : l ≤ c) (h2 : c.toNat * ti.bytes ≤ maxRoom) (h3 : c ≤ 2 ^ 62) (hr : Rel φ σ w) :
    DoingV P (Instr.makeSlice t u v) w φ (.slc (.new σ.next) 0 l.toNat (.ex c.toNat)) (σ.new (.cells (repl c.toNat (zcells z)) none)) := by
  cases hl; cases hc
  have hzero : ∀ w : World, (zeroValue e).run P w = .ok z w := fun w => cZero_ok (by simp [cZero, hti, hz]) w
  have hsz : ∀ w : World, (sizeOf e).run P w = .ok ti.size w := fun w => cSize_ok (by simp [cSize, hti]) w
  have hinfo : ∀ w : World, (typeInfo e).run P w = .ok ti w := by intro w; simp [typeInfo, hti]
  have wl : IntKind.i64.wrap l = l := by rw [IntKind.wrap_i64]; omega
  have wc : IntKind.i64.wrap c = c := by rw [IntKind.wrap_i64]; omega
  have hb : (ti.bytes : Int) * c ≤ 2 ^ 36 := by
    unfold maxRoom at h2
    have : (c.toNat : Int) = c := Int.toNat_of_nonneg (by omega)
    rw [← this, Int.mul_comm]
    exact_mod_cast h2
  have hc0 : 0 ≤ (ti.bytes : Int) * c := Int.mul_nonneg (by omega) (by omega)
  obtain ⟨φ', g1, g2, g3⟩ := new_ok hr (cs := repl c.toNat (zcells z)) (vs := (Array.range (c.toNat * ti.size)).map ((if c.toNat * ti.size = 0 then #[] else z.cells)[· % (if c.toNat * ti.size = 0 then (#[] : Array Value) else z.cells).size]!)) (by
    by_cases h0 : c.toNat * ti.size = 0
    · have hr0 : repl c.toNat (zcells z) = [] := by
        have : (repl c.toNat (zcells z)).length = 0 := by
          simp only [repl, zcells, List.length_flatten, List.map_replicate, List.length_map, Array.length_toList, hzs, List.sum_replicate_nat]; exact h0
        exact List.length_eq_zero_iff.1 this
      rw [hr0, h0]; simp; exact .nil
    · rw [if_neg h0, ← hzs, range_mod]
      exact repl_VRs (zcells_VRs φ z) _) e
  refine ⟨_, _, φ', ?_, g1, .slcE (b := w.heap.size) 0 _ _ (by simp [Id.real, g2]), g3⟩
  simp only [Instr.makeSlice, Sem.run_bind, run_underlying hu, Result.andThen_ok, asInt, asIntOf, Sem.run_pure, hinfo, wl, wc]
  have hcond : ((decide (c < 0) || decide ((ti.bytes : Int) * c > 2 ^ 48)) || decide (l < 0) || decide (l > c)) = false := by
    simp only [Bool.or_eq_false_iff, decide_eq_false_iff_not]
    refine ⟨⟨⟨by omega, by omega⟩, by omega⟩, by omega⟩
  rw [hcond]
  by_cases h0 : c.toNat * ti.size = 0
  · simp only [Bool.false_eq_true, if_false, Sem.run_pure, Result.andThen_ok, run_askRoom, hsz, Sem.run_bind, if_pos h0, newRow, run_newObj_alloc]
  · simp only [Bool.false_eq_true, if_false, Sem.run_pure, Result.andThen_ok, run_askRoom, hsz, Sem.run_bind, if_neg h0, hzero, newRow, run_newObj_alloc]
end
end Go.Mini
set_option linter.unusedVariables false
set_option linter.unusedSimpArgs false
namespace Go.Mini
open Go

section
variable {P : Program} {φ : Phi} {σ : Heap} {w : World} {n : Nat} {fr : Frame} {a : Act}

theorem asBytes_ints : ∀ {cs : List AVal} {bs : List UInt8} {vs : List Value}, asBytes cs = some bs → VRs φ cs vs → ∃ ns : List Int, vs = ns.map (Value.int .u8) ∧ ns.map (fun n => UInt8.ofNat n.toNat) = bs
  | [], bs, vs, h, hv => by cases h; cases hv; exact ⟨[], rfl, rfl⟩
  | x :: cs, bs, vs, h, hv => by
    simp only [asBytes] at h
    split at h
    · rename_i b r hb hr
      cases h
      cases hv with
      | cons h1 h2 =>
        obtain ⟨ns, rfl, hns⟩ := asBytes_ints hr h2
        cases x <;> simp only [asByte] at hb <;> try (cases hb; done)
        rename_i k m
        cases k <;> simp only [asByte] at hb <;> try (cases hb; done)
        cases hb
        cases h1
        exact ⟨m :: ns, rfl, by simp [hns]⟩
    · cases h
theorem foldl_push (ns : List Int) : ∀ r : ByteArray, ns.foldl (fun r n => r.push (UInt8.ofNat n.toNat)) r = ⟨r.data ++ (ns.map fun n => UInt8.ofNat n.toNat).toArray⟩ := by
  induction ns with
  | nil => intro r; simp
  | cons n ns ih => intro r; simp only [List.foldl_cons]; rw [ih]; simp [ByteArray.push]

theorem aBstr_ok {src dst e : TypeId} (hs : P.underlying src = some (.slice e)) (he : P.underlying e = some (.int .u8)) (hd : P.underlying dst = some .string) {x z : AVal} {v : Value} (h : aBstr x σ = some z) (hx : VR φ x v) (hr : Rel φ σ w) :
    ∃ r, (convert src dst v).run P w = .ok r w ∧ VR φ z r := by
  unfold aBstr at h
  split at h
  · cases h; cases hx
    refine ⟨.string ⟨([] : List UInt8).toArray⟩, ?_, .str _⟩
    rw [run_convert_bytes_string w src dst e none 0 0 hs he hd]
    simp [Conv.bytesToString]
    rfl
  · rename_i i off len cap
    split at h
    · rename_i cs hcs
      rw [Option.map_eq_some_iff] at h
      obtain ⟨bs, hbs, rfl⟩ := h
      have key : ∀ (b c : Nat), i.real φ = some b → (convert src dst (.slice (some ⟨b, off, none⟩) len c)).run P w = .ok (.string ⟨bs.toArray⟩) w := by
        intro b c hib
        simp only [slcCells, Nat.le_refl, if_true, Nat.mul_one] at hcs
        obtain ⟨vs, h1, h2⟩ := loadCells_ok (P := P) hr hib len off off 0 cs #[] hcs (by omega)
        obtain ⟨ns, rfl, hns⟩ := asBytes_ints hbs h2
        rw [run_convert_bytes_string w src dst e _ _ _ hs he hd, run_bytesToString w _ len c ns (by simpa [loadCells] using h1), foldl_push, hns]
        simp
      cases hx with
      | slcE _ _ _ hib => exact ⟨_, key _ _ hib, .str _⟩
      | slcG _ _ _ hφ _ _ => exact ⟨_, key _ _ (by simp [Id.real, hφ]), .str _⟩
    · cases h
  · rename_i k els
    split at h
    · rename_i hk
      subst hk
      rw [Option.map_eq_some_iff] at h
      obtain ⟨bs, hbs, rfl⟩ := h
      cases hx with
      | fslN _ a c _ =>
        cases hbs
        refine ⟨.string ⟨([] : List UInt8).toArray⟩, ?_, .str _⟩
        rw [run_convert_bytes_string w src dst e a 0 c hs he hd]
        cases a with
        | none => simp [Conv.bytesToString]; rfl
        | some a => rw [run_bytesToString w a 0 c [] (by simp [loadCells, loadCellsFrom])]; rfl
      | @fsl _ _ vs b off c hv hh he' hc =>
        have hl := hv.flat_len he'
        have hld := loadF_ok (P := P) hr vs b off 0 #[] (fun i v e => by rw [Nat.zero_add]; exact hh i v e)
        obtain ⟨ns, rfl, hns⟩ := asBytes_ints hbs hv
        refine ⟨_, ?_, .str _⟩
        rw [run_convert_bytes_string w src dst e _ _ _ hs he hd, run_bytesToString w _ els.length c ns (by rw [hl, Nat.mul_one] at hld; simpa [loadCells] using hld), foldl_push, hns]
        simp
    · cases h
  · cases h

theorem bytes_ok {src dst e : TypeId} (hs : P.underlying src = some .string) (hd : P.underlying dst = some (.slice e)) (he : P.underlying e = some (.int .u8)) (s : List UInt8) (hr : Rel φ σ w) :
    DoingV P (convert src dst (.string ⟨s.toArray⟩)) w φ (.slc (.new σ.next) 0 s.length (.gr 1)) (σ.new (.cells (byteCells s) (some e))) := by
  have hrun := run_bytes_of_string w src dst e ⟨s.toArray⟩ hs hd he
  have hcap : s.length ≤ grownCap w (⟨s.toArray⟩ : ByteArray).size 0 e := by
    rw [bytes_size]; unfold grownCap; simp only [Question.cut]; exact Nat.le_add_right ..
  generalize hc : grownCap w (⟨s.toArray⟩ : ByteArray).size 0 e = c at hrun hcap
  have hsz : (bytesRow ⟨s.toArray⟩ c).size = c := by simp [bytesRow, bytes_size]; omega
  have hle := Phi.le_put (w.heap.size, c) (hr.fresh σ.next (Nat.le_refl _))
  obtain ⟨h1, h2⟩ := hr.drew.alloc (blk := .cells (byteCells s) (some e)) (o := .cells (bytesRow ⟨s.toArray⟩ c) e ((bytesRow ⟨s.toArray⟩ c).size, (bytesRow ⟨s.toArray⟩ c).size + 1)) (sz := c) (by
    refine .cells hsz (by simpa [byteCells] using hcap) (by intro h; cases h) (by intro T' h; cases h; rfl) ?_ ?_
    · have : (bytesRow ⟨s.toArray⟩ c).toList.take (byteCells s).length = s.map fun b => Value.int .u8 b.toNat := by
        have h1 : (bytesRow ⟨s.toArray⟩ c).toList = (s.map fun b => Value.int .u8 b.toNat) ++ (Array.replicate (c - (⟨s.toArray⟩ : ByteArray).size) (Value.int .u8 0)).toList := by
          simp [bytesRow]
        rw [h1]
        exact List.take_left' (by simp only [byteCells, List.length_map])
      rw [this]; exact VRs.bytes s
    · intro off hoff
      rw [hsz]
      simp; omega)
  refine ⟨_, _, _, hrun, h1, ?_, h2⟩
  have := VR.slcG (φ := φ.put σ.next (w.drew.heap.size, c)) (k := 1) 0 s.length c (Phi.put_same ..) (by omega) hcap
  rw [bytes_size]
  exact this

theorem iter_ok {t : TypeId} (hu : P.underlying t = some .string) {s : List UInt8} {v : Value} (hx : VR φ (.str s) v) (hr : Rel φ σ w) : DoingV P (Instr.range t v) w φ (.ptr (.new σ.next) 0) (σ.new (.iter s 0)) := by
  cases hx
  obtain ⟨h1, h2⟩ := hr.alloc (blk := .iter s 0) (o := .stringIter ⟨s.toArray⟩ 0) (sz := 0) (.iter s 0)
  refine ⟨_, _, _, ?_, h1, .ptr (b := w.heap.size) 0 (by simp [Id.real, Phi.put_same]), h2⟩
  simp [Instr.range, run_underlying hu, run_newObj_alloc]

theorem run_setObj_iter {b : Nat} {s : ByteArray} {p p' : Nat} (h : w.heap[b]? = some (.stringIter s p)) :
    ∃ w', (setObj b (.stringIter s p')).run P w = .ok () w' ∧ Wrote w w' b (.stringIter s p') := by
  refine ⟨{ w with heap := w.heap.setIfInBounds b (.stringIter s p') }, by simp [setObj, Sem.run, h], ?_, by simp, rfl, rfl, rfl, rfl⟩
  intro b'
  have hlt := (Array.getElem?_eq_some_iff.1 h).1
  by_cases e : b' = b
  · subst e; simp [hlt]
  · rw [if_neg e]
    simp [Array.getElem?_setIfInBounds_ne (fun h => e h.symm)]

theorem aNext_ok {x z : AVal} {v : Value} {σ' : Heap} (ty : TypeId) (h : aNext x σ = some (z, σ')) (hx : VR φ x v) (hr : Rel φ σ w) : DoingV P (Instr.next v true ty) w φ z σ' := by
  unfold aNext at h
  split at h
  · rename_i k
    split at h
    · rename_i s pos hg
      cases hx with
      | ptr _ hib =>
        simp only [Id.real, Option.map_eq_some_iff] at hib
        obtain ⟨⟨b, sz⟩, hφ, rfl⟩ := hib
        obtain ⟨_, o, ho, hb⟩ := hr.new k b sz hφ
        cases hb _ hg with
        | iter _ _ =>
          have hget : (getObj b).run P w = .ok (.stringIter ⟨s.toArray⟩ pos) w := by simp [getObj, Sem.run, ho]
          have hs := bytes_size s
          split at h
          · rename_i hlt
            obtain ⟨w', hw', hW⟩ := run_setObj_iter (P := P) (p' := pos + (Utf8.decode ⟨s.toArray⟩ pos).2) ho
            cases h
            refine ⟨.tuple #[.bool true, goInt pos, .int .i32 (Utf8.decode ⟨s.toArray⟩ pos).1], w', φ, ?_, Phi.le_refl φ, ?_, hW.rel hr hφ hg (by intro h; cases h) (.iter _ _)⟩
            · simp only [Instr.next, Sem.run_bind, hget, Result.andThen_ok, hs, if_pos hlt, hw', Sem.run_pure]
            · exact VR.tup (vs := [.bool true, goInt pos, .int .i32 (Utf8.decode ⟨s.toArray⟩ pos).1]) (.cons (.bool _) (.cons (.int _ _) (.cons (.int _ _) .nil)))
          · rename_i hlt
            cases h
            refine ⟨.tuple #[.bool false], w, φ, ?_, Phi.le_refl φ, VR.tup (vs := [.bool false]) (.cons (.bool _) .nil), hr⟩
            simp only [Instr.next, Sem.run_bind, hget, Result.andThen_ok, hs, if_neg hlt, Sem.run_pure]
    · cases h
  · cases h

theorem zeroCells_toList (z : Array Value) (m : Nat) : (Builtin.zeroCells z m).toList = (List.replicate m z.toList).flatten := by
  unfold Builtin.zeroCells
  exact range_mod z m

theorem clr_ok {t e ty : TypeId} {z : Value} {ti : TypeInfo} (hu : P.underlying t = some (.slice e)) (hti : P.info? e = some ti) (hz : ti.zero = some z) {b off len : Nat} {cap : Cap} {v : Value} {σ' : Heap}
    (hx : VR φ (.slc (.new b) off len cap) v) (h : storeAt σ b off (repl len (zcells z)) = some σ') (hr : Rel φ σ w) :
    ∃ w', (Builtin.clear_ #[t] ty #[v]).run P w = .ok (.tuple #[]) w' ∧ Rel φ σ' w' := by
  have hzero : ∀ w : World, (zeroValue e).run P w = .ok z w := fun w => cZero_ok (by simp [cZero, hti, hz]) w
  have key : ∀ (b' sz c : Nat), φ b = some (b', sz) → ∃ w', (Builtin.clear_ #[t] ty #[.slice (some ⟨b', off, none⟩) len c]).run P w = .ok (.tuple #[]) w' ∧ Rel φ σ' w' := by
    intro b' sz c hφ
    obtain ⟨w', hw', hr'⟩ := storeAt_ok (P := P) h (repl_VRs (zcells_VRs φ z) len) hr hφ
    cases len with
    | zero =>
      have hw'' : w' = w := by simpa [storeCells] using hw'.symm
      subst hw''
      exact ⟨w', by simp [Builtin.clear_, run_underlying hu], hr'⟩
    | succ len =>
      refine ⟨w', ?_, hr'⟩
      simp only [Builtin.clear_, List.getElem?_toArray, List.getElem?_cons_zero, Sem.run_bind, run_underlying hu, Result.andThen_ok, hzero, zeroCells_toList, hw', Sem.run_pure]
  cases hx with
  | slcE _ _ _ hib =>
    simp only [Id.real, Option.map_eq_some_iff] at hib
    obtain ⟨⟨b', sz⟩, hφ, rfl⟩ := hib
    exact key _ _ _ hφ
  | slcG _ _ _ hφ _ _ => exact key _ _ _ hφ
end
end Go.Mini
