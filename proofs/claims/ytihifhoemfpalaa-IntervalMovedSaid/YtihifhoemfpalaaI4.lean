/- A part of the seat's proofs over the abstract machine. No condition. -/
import Derived.Test.YtihifhoemfpalaaI3
set_option linter.unusedSimpArgs false
set_option linter.unusedVariables false
set_option maxRecDepth 100000
namespace Go.Proofs.Ytihifhoemfpalaa.M
open Go Go.Mini Go.Sort Go.Shelf
theorem grown_of_rel {φ : Phi} {σ : Heap} {w : World} (h : Rel φ σ w) (hd : σ.F0.dr = true) : ∃ q os', w = grow (σ.W.drewN q) os' := by
  refine ⟨w.drawn - σ.W.drawn, w.heap.extract σ.W.heap.size w.heap.size, ?_⟩
  have hd := h.drawn hd
  have hs := h.size
  have e1 : w.heap = σ.W.heap ++ w.heap.extract σ.W.heap.size w.heap.size := by
    apply Array.ext_getElem?
    intro i
    rw [Array.getElem?_append]
    split
    · rename_i hi; exact h.old i hi
    · rename_i hi
      rw [Array.getElem?_extract]
      split
      · congr 1; omega
      · rename_i h2
        rw [Array.getElem?_eq_none]; omega
  have e2 : w.drawn = σ.W.drawn + (w.drawn - σ.W.drawn) := by omega
  have ht := h.tape
  have ho := h.os
  have hu := h.output
  clear h hd hs
  generalize hx : w.heap.extract σ.W.heap.size w.heap.size = x at e1 ⊢
  generalize hy : w.drawn - σ.W.drawn = y at e2 ⊢
  clear hx hy
  obtain ⟨hp, tp, dr, os, out⟩ := w
  simp only [grow, World.drewN, World.mk.injEq]
  exact ⟨e1, ht, e2, ho, hu⟩
def encIv (x : Iv) : List Value := [.int .i64 x.lo, .int .i64 x.hi]
theorem cmp_calls (x y : Iv) (W : World) : Calls Try.prog n_interval_Cmp #[.agg (encIv x).toArray, .agg (encIv y).toArray] W fun e w' => e = .returned (.int .i64 (cmpIv x y)) ∧ ∃ q os', w' = grow (W.drewN q) os' := by
  obtain ⟨v, σ', h1, rfl, h2, h3⟩ := cmp_fspec W ⟨fun _ _ => none, true⟩ x y
  refine (h1 (Phi.bare fun _ _ => none) W [.agg (encIv x).toArray, .agg (encIv y).toArray] (.cons (.agg (.cons (.int _ _) (.cons (.int _ _) .nil))) (.cons (.agg (.cons (.int _ _) (.cons (.int _ _) .nil))) .nil)) (rel_bare W ⟨fun _ _ => none, true⟩ (fun _ _ _ h => by cases h))).mono ?_
  rintro e w' ⟨v', φ', rfl, g1, g2, g3⟩
  cases g2
  have := grown_of_rel g3 (by rw [h3])
  rw [h2] at this
  exact ⟨rfl, this⟩
theorem cmpLays (blk off size : Nat) (w : World) : CmpLays Try.prog n_interval_Cmp #[] encIv 2 cmpIv blk off size w := fun _ _ _ _ x y => cmp_calls x y _
theorem swoIv : SWO (ltOf cmpIv) where
  irrefl x := by rw [ltIv]; simp
  trans x y z h1 h2 := by rw [ltIv] at *; simp only [decide_eq_true_eq] at *; omega
  ntrans x y z h1 h2 := by rw [ltIv] at *; simp only [decide_eq_false_iff_not] at *; omega
theorem rel_grow {φ : Phi} {σ : Heap} {w : World} (h : Rel φ σ w) (n : Nat) (os : Array Obj) : Rel φ σ (grow (Sort.ahead w n) os) := by
  have keep : ∀ b, b < w.heap.size → (grow (Sort.ahead w n) os).heap[b]? = w.heap[b]? := by
    intro b hb
    show (w.heap ++ os)[b]? = _
    rw [Array.getElem?_append_left hb]
  have lt : ∀ b o, w.heap[b]? = some o → b < w.heap.size := fun b o e => (Array.getElem?_eq_some_iff.1 e).1
  refine ⟨?_, fun b hb => ?_, fun k b sz hk => ?_, h.inj, h.fresh, h.resv, h.tape, h.os, h.output, ?_, h.apart, h.base, ?_⟩
  · show _ ≤ (w.heap ++ os).size
    rw [Array.size_append]; have := h.size; omega
  · rw [keep b (Nat.lt_of_lt_of_le hb h.size)]; exact h.old b hb
  · obtain ⟨h1, o, h2, h3⟩ := h.new k b sz hk
    exact ⟨h1, o, by rw [keep b (lt b o h2)]; exact h2, h3⟩
  · intro b j v e
    have h1 := h.frz b j v e
    have hb : b < w.heap.size := World.block_lt_of_cell? w ⟨b, j, none⟩ h1
    simp only [World.cell?] at h1 ⊢
    rw [keep b hb]; exact h1
  · intro hd
    show _ ≤ w.drawn + n
    have := h.drawn hd; omega
def flatIv (l : List (Iv)) : List AVal := l.flatMap fun x => [.int .i64 x.lo, .int .i64 x.hi]
theorem flatIv_len : ∀ l, (flatIv l).length = l.length * 2
  | [] => rfl
  | x :: l => by
    have := flatIv_len l
    simp only [flatIv, List.flatMap_cons, List.length_append, List.length_cons, List.length_nil] at *
    omega
theorem flatIv_VRs (φ : Phi) : ∀ l, VRs φ (flatIv l) (l.flatMap encIv)
  | [] => .nil
  | x :: l => .cons (.int _ _) (.cons (.int _ _) (flatIv_VRs φ l))
theorem flatIv_eq {φ : Phi} : ∀ {l : List (Iv)} {us : List Value}, VRs φ (flatIv l) us → us = l.flatMap encIv
  | [], us, h => by cases h; rfl
  | x :: l, us, h => by
    have h' : VRs φ (.int .i64 x.lo :: .int .i64 x.hi :: flatIv l) us := h
    cases h' with
    | cons h1 h2 =>
      cases h2 with
      | cons h3 h4 =>
        cases h1; cases h3
        rw [flatIv_eq h4]; rfl
theorem flat_get : ∀ (l : List (Iv)) (t : Nat), t < l.length * 2 → (l.flatMap encIv)[t]? = some ((encIv (l[t / 2]!))[t % 2]!)
  | [], t, h => by simp at h
  | x :: l, t, h => by
    match t with
    | 0 => rfl
    | 1 => rfl
    | t + 2 =>
      have := flat_get l t (by simp at h; omega)
      have e1 : (t + 2) / 2 = t / 2 + 1 := by omega
      have e2 : (t + 2) % 2 = t % 2 := by omega
      rw [e1, e2]
      simpa [List.flatMap_cons, encIv] using this
theorem flatK_get (l : List (Iv)) (t : Nat) (h : t < l.length * 2) : (l.flatMap encIv)[t]? = some (flatK encIv 2 l.toArray)[t]! := by
  rw [get_flatK _ _ _ t (by simpa using h), flat_get l t h]
  simp

def sortIv (l : List (Iv)) : List (Iv) := (pdq (ltOf cmpIv) l.toArray 0 l.toArray.size (Lib.bitLen l.toArray.size) true true).toList
theorem sortIv_sorts (l : List (Iv)) : PermIn 0 l.toArray.size l.toArray (sortIv l).toArray ∧ SortedIn (ltOf cmpIv) 0 l.toArray.size (sortIv l).toArray := by
  have h := pdq_sorts (ltOf cmpIv) swoIv l.toArray 0 l.toArray.size (Lib.bitLen l.toArray.size) true true (Nat.zero_le _) (Nat.le_refl _) (Or.inl rfl)
  simpa [sortIv] using h
theorem sortIv_len (l : List (Iv)) : (sortIv l).length = l.length := by
  have := (sortIv_sorts l).1.1
  simpa using this
theorem isAgg23 : ∀ w, (isAgg (Try.sortIv_ren.t 24)).run Try.prog w = .ok true w := fun w => by rfl
theorem sizeOf23 : ∀ w, (Go.sizeOf (Try.sortIv_ren.t 24)).run Try.prog w = .ok 2 w := fun w => by rfl
theorem sort_afun (σ : Heap) (k : Nat) (l : List (Iv)) (hl : l.length < 4611686018427387904) (hg : σ.get k = some (.cells (flatIv l) (some t_Iv))) :
    AFun Try.prog n_slices_SortFunc_api_Interval_api_Interval [.slc (.new k) 0 l.length (.gr 2), .fn n_interval_Cmp []] σ (.tup []) (σ.set k (.cells (flatIv (sortIv l)) (some t_Iv))) := by
  intro φ w vs hvs hr
  cases hvs with
  | cons hv1 hvs =>
  cases hvs with
  | cons hv2 hvs =>
  cases hvs
  cases hv1 with
  | @slcG _ b sz _ _ _ c hk hsz hlc =>
  cases hv2 with
  | @fn _ _ us hcap =>
  cases hcap
  obtain ⟨h1, o, h2, h3⟩ := hr.new k b sz hk
  have hb := h3 _ hg
  cases hb with
  | @cells _ _ cs' T fz q1 q2 q3 qT q4 q5 =>
  have hlen : (flatIv l).length = l.length * 2 := flatIv_len l
  have heq := flatIv_eq q4
  rw [hlen] at heq q2
  have hH : HoldsK encIv 2 w b 0 l.toArray := by
    intro j hj
    have hj' : j < l.length * 2 := by simpa using hj
    have e := flatK_get l j hj'
    rw [← heq, List.getElem?_take, if_pos hj'] at e
    refine ⟨?_, ?_⟩
    · rw [Nat.zero_add, cell?_cells h2]
      simpa using e
    · simp only [World.frozen?, h2, Nat.zero_add]
      exact q5 j (by omega)
  have hblk : b < w.heap.size := hr.lt hk
  have hcon := AnyQ.slices_SortFunc_eq Try.sortIv 2 isAgg23 sizeOf23 encIv (fun _ => rfl) (fun x v hv => by simp [encIv] at hv; rcases hv with rfl | rfl <;> rfl) cmpIv swoIv 19 #[] b 0 c l.toArray w
    (enters_of Try.func19 (by kernel_rfl) rfl) (cmpLays b 0 l.toArray.size w) hH hblk (by simpa using hl)
  refine hcon.mono ?_
  rintro e w' ⟨rfl, n, os, rfl⟩
  refine ⟨_, φ, rfl, Phi.le_refl φ, VR.tup (vs := []) .nil, ?_⟩
  have hlen' : (flatIv (sortIv l)).length = l.length * 2 := by rw [flatIv_len, sortIv_len]
  refine rel_grow (w := putRowK encIv 2 w b 0 (sortIv l).toArray) ?_ n os
  refine hr.change (o := .cells (putCells id 0 (flatK encIv 2 (sortIv l).toArray) cs') T fz) hk hg (by intro h; cases h) ?_ ?_ rfl rfl rfl (Nat.le_refl _) ?_
  · intro b'
    show (w.heap.modify b _)[b']? = _
    rw [Array.getElem?_modify]
    by_cases e : b = b'
    · subst e; rw [if_pos rfl, if_pos rfl, h2]; rfl
    · rw [if_neg e, if_neg (fun h => e h.symm)]
  · exact size_putRow ..
  · refine .cells (by simp [putCells, q1]) (by rw [hlen']; exact q2) (by intro h; cases h) qT ?_ q5
    rw [hlen']
    have : (putCells id 0 (flatK encIv 2 (sortIv l).toArray) cs').toList.take (l.length * 2) = (sortIv l).flatMap encIv := by
      apply List.ext_getElem?
      intro t
      rw [List.getElem?_take]
      split
      · rename_i ht
        rw [flatK_get (sortIv l) t (by rw [sortIv_len]; exact ht)]
        have hts : t < cs'.size := by omega
        simp [putCells, hts, sortIv_len, ht]
      · rename_i ht
        rw [List.getElem?_eq_none]
        have := (flatIv_VRs φ (sortIv l)).length
        rw [← this, hlen']; omega
    rw [this]
    exact flatIv_VRs φ _
theorem func_facts {P : Program} {f : FuncId} {sf : SFunc} (hc : cFunc P f = some sf) : ∃ fn, P.funcs[f]? = some fn ∧ fn.body.isSome = true ∧ (fn.name == "runtime.NumGoroutine") = false := by
  unfold cFunc at hc
  split at hc
  · rename_i fn hfn
    split at hc
    · rename_i c hcb
      split at hc
      · split at hc
        · cases hc
        · rename_i hname
          exact ⟨fn, hfn, by rw [hcb]; rfl, by simpa using hname⟩
      · cases hc
    · cases hc
  · cases hc
theorem sort_call (σ : Heap) (k : Nat) (l : List (Iv)) (hl : l.length < 4611686018427387904) (hg : σ.get k = some (.cells (flatIv l) (some t_Iv))) :
    ACall Try.prog n_slices_SortFunc_api_Interval_api_Interval [.slc (.new k) 0 l.length (.gr 2), .fn n_interval_Cmp []] σ (.tup []) (σ.set k (.cells (flatIv (sortIv l)) (some t_Iv))) :=
  acall_of_afun (sort_afun σ k l hl hg) ⟨_, Try.func18, rfl, rfl⟩
theorem sort_none (σ : Heap) : ACall Try.prog n_slices_SortFunc_api_Interval_api_Interval [.nils, .fn n_interval_Cmp []] σ (.tup []) σ :=
  acall_ran mixed noExt_ok tbl_ok (k := 10) (n := 20) rfl rfl (fun W F => by kernel_rfl) σ
end Go.Proofs.Ytihifhoemfpalaa.M
