/- A part of the seat's proofs over the abstract machine. No condition. -/
import Derived.Test.YtihifhoemfpalaaI10
set_option linter.unusedSimpArgs false
set_option linter.unusedVariables false
set_option maxRecDepth 100000
namespace Go.Proofs.Ytihifhoemfpalaa.M
open Go Go.Mini Go.Sort Go.Shelf
attribute [local congr] go1_congr goM_congr goG_congr goV_congr drawwp_congr
/-- the first i of the list turned by t -/
def rot (l : List Iv) (t i : Nat) : List Iv := (List.range i).map fun j => l[(j + t) % l.length]!
theorem rot_succ (l : List Iv) (t i : Nat) : rot l t (i + 1) = rot l t i ++ [l[(i + t) % l.length]!] := by
  simp only [rot, List.range_succ, List.map_append, List.map_cons, List.map_nil]
theorem rot_perm (l : List Iv) (t : Nat) : (rot l t l.length).Perm l := by
  rcases Nat.eq_zero_or_pos l.length with h | h
  · have : l = [] := List.eq_nil_of_length_eq_zero h
    subst this; exact List.Perm.refl _
  have hm := Nat.mod_lt t h
  have e : rot l t l.length = l.drop (t % l.length) ++ l.take (t % l.length) := by
    apply List.ext_getElem
    · simp [rot]; omega
    · intro i h1 h2
      have hi : i < l.length := by simpa [rot] using h1
      simp only [rot, List.getElem_map, List.getElem_range, List.getElem_append, List.length_drop, List.getElem_drop, List.getElem_take]
      have hmod : (i + t) % l.length = (i + t % l.length) % l.length := by simp
      split
      · rename_i hlt
        rw [getElem!_pos l _ (Nat.mod_lt _ h)]
        congr 1
        rw [hmod, Nat.mod_eq_of_lt (by omega)]; omega
      · rename_i hge
        rw [getElem!_pos l _ (Nat.mod_lt _ h)]
        congr 1
        rw [hmod, Nat.mod_eq_sub_mod (by omega), Nat.mod_eq_of_lt (by omega)]; omega
  rw [e]
  exact (List.perm_append_comm).trans (by rw [List.take_append_drop])
end Go.Proofs.Ytihifhoemfpalaa.M
