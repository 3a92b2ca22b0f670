/-
  No cell of these rows narrows 'for every input' (looked for: loops, veiled, ifaces, maps, wideKeys, modest, calm, conditions, laid).
  DERIVED. THE GIVEN ROWS OF THIS SEAT. 5 by the template 'for every input the law returns true; each argument reads behind the call as it read before'; 0 by the template 'total and deterministic' (their statements: YtkjikdohnomajaaGreatTotals.lean).
  GIVEN WITH THE SEED: the statements are not yours to turn. If you find one false, say at which input.
  Laid BY PROGRAM, IN A SANDBOX (cutbox-rows.mjs): the forced cells as the released guide's own fill.sh prints them over the translation 627c1436cc477d4a… (all of the seat's roots in one cut). By AI agents, Wed Nov 11 2026. No macro, syntax, notation, axiom, sorry.
-/
import Derived.Test.YtkjikdohnomajaaGreatChecked
import GoSem.Claim
import GoSem.ClaimJoined
import GoSem.ClaimMapViews
import Derived.JoinedTies
import Derived.KernelRfl
namespace Go.Proofs.YtkjikdohnomajaaGreat
/- THE CELL 'sum', in the pinned program and in every row, IS THE sha256 OF THE DUMP (.gsa) THAT YtkjikdohnomajaaGreatProg.lean LOADS. Nothing in Lean hashes anything: it is a label: what it is worth is what the hold of that sum in a sandbox is worth. -/
noncomputable def Tryz.pinned : Pinned := { name := "ytkjikdohnomajaagreat", sum := "627c1436cc477d4aa1375cd4c15794e47d87dc888f0e8f14ec66ff44ff1b915d", checked := Tryz.checked }
namespace Rows
def none {H : Type} : Left H := { results := [], args := [] }

/-- 'palinodetop.WholeGroups': WHATEVER THE INPUT: true; the input reads as it did. -/
def wholeGroupsSpec : ChangeSpec := { name := "wholeGroups", fn := fun _ => fun
  | [d1, d2] => { results := [.lit (.bool true)], args := [d1, d2] }
  | _ => none }
def wholeGroupsRow : OpenClaim := { program := "ytkjikdohnomajaagreat", sum := "627c1436cc477d4aa1375cd4c15794e47d87dc888f0e8f14ec66ff44ff1b915d", func := "palinode/palinodetop.WholeGroups", spec := "wholeGroups", inPlace := ["internal/abi.NoEscape", "maps.clone", "slices.overlaps[int]"], unfollowed := true, recurses := true, apart := false }
def WholeGroupsSaid : Prop := wholeGroupsRow.holds Tryz.pinned (OpenSpec.ofChange wholeGroupsSpec)

/-- ITS FALSE NEIGHBOUR: 'it returns false'. Refute it at one input. -/
def wholeGroupsWrong : ChangeSpec := { name := "wholeGroups", fn := fun _ => fun
  | [d1, d2] => { results := [.lit (.bool false)], args := [d1, d2] }
  | _ => none }
def WholeGroupsWrongFalsely : Prop := wholeGroupsRow.holds Tryz.pinned (OpenSpec.ofChange wholeGroupsWrong)

/-- 'palinodetop.WholeLong': WHATEVER THE INPUT: true; the input reads as it did. -/
def wholeLongSpec : ChangeSpec := { name := "wholeLong", fn := fun _ => fun
  | [d] => { results := [.lit (.bool true)], args := [d] }
  | _ => none }
def wholeLongRow : OpenClaim := { program := "ytkjikdohnomajaagreat", sum := "627c1436cc477d4aa1375cd4c15794e47d87dc888f0e8f14ec66ff44ff1b915d", func := "palinode/palinodetop.WholeLong", spec := "wholeLong", inPlace := ["internal/abi.NoEscape", "maps.clone", "slices.overlaps[int]"], unfollowed := true, recurses := true, apart := false }
def WholeLongSaid : Prop := wholeLongRow.holds Tryz.pinned (OpenSpec.ofChange wholeLongSpec)

/-- ITS FALSE NEIGHBOUR: 'it returns false'. Refute it at one input. -/
def wholeLongWrong : ChangeSpec := { name := "wholeLong", fn := fun _ => fun
  | [d] => { results := [.lit (.bool false)], args := [d] }
  | _ => none }
def WholeLongWrongFalsely : Prop := wholeLongRow.holds Tryz.pinned (OpenSpec.ofChange wholeLongWrong)

/-- 'palinodetop.WholeBetween': WHATEVER THE INPUT: true; the input reads as it did. -/
def wholeBetweenSpec : ChangeSpec := { name := "wholeBetween", fn := fun _ => fun
  | [d1, d2, d3, d4] => { results := [.lit (.bool true)], args := [d1, d2, d3, d4] }
  | _ => none }
def wholeBetweenRow : OpenClaim := { program := "ytkjikdohnomajaagreat", sum := "627c1436cc477d4aa1375cd4c15794e47d87dc888f0e8f14ec66ff44ff1b915d", func := "palinode/palinodetop.WholeBetween", spec := "wholeBetween", inPlace := ["internal/abi.NoEscape", "maps.clone", "slices.overlaps[int]"], unfollowed := true, recurses := true, apart := false }
def WholeBetweenSaid : Prop := wholeBetweenRow.holds Tryz.pinned (OpenSpec.ofChange wholeBetweenSpec)

/-- ITS FALSE NEIGHBOUR: 'it returns false'. Refute it at one input. -/
def wholeBetweenWrong : ChangeSpec := { name := "wholeBetween", fn := fun _ => fun
  | [d1, d2, d3, d4] => { results := [.lit (.bool false)], args := [d1, d2, d3, d4] }
  | _ => none }
def WholeBetweenWrongFalsely : Prop := wholeBetweenRow.holds Tryz.pinned (OpenSpec.ofChange wholeBetweenWrong)

/-- 'palinodetop.WholeDiffs': WHATEVER THE INPUT: true; the input reads as it did. -/
def wholeDiffsSpec : ChangeSpec := { name := "wholeDiffs", fn := fun _ => fun
  | [d] => { results := [.lit (.bool true)], args := [d] }
  | _ => none }
def wholeDiffsRow : OpenClaim := { program := "ytkjikdohnomajaagreat", sum := "627c1436cc477d4aa1375cd4c15794e47d87dc888f0e8f14ec66ff44ff1b915d", func := "palinode/palinodetop.WholeDiffs", spec := "wholeDiffs", inPlace := ["internal/abi.NoEscape", "maps.clone", "slices.overlaps[int]"], unfollowed := true, recurses := true, apart := false }
def WholeDiffsSaid : Prop := wholeDiffsRow.holds Tryz.pinned (OpenSpec.ofChange wholeDiffsSpec)

/-- ITS FALSE NEIGHBOUR: 'it returns false'. Refute it at one input. -/
def wholeDiffsWrong : ChangeSpec := { name := "wholeDiffs", fn := fun _ => fun
  | [d] => { results := [.lit (.bool false)], args := [d] }
  | _ => none }
def WholeDiffsWrongFalsely : Prop := wholeDiffsRow.holds Tryz.pinned (OpenSpec.ofChange wholeDiffsWrong)

/-- 'palinodetop.WholeOnly': WHATEVER THE INPUT: true; the input reads as it did. -/
def wholeOnlySpec : ChangeSpec := { name := "wholeOnly", fn := fun _ => fun
  | [d1, d2] => { results := [.lit (.bool true)], args := [d1, d2] }
  | _ => none }
def wholeOnlyRow : OpenClaim := { program := "ytkjikdohnomajaagreat", sum := "627c1436cc477d4aa1375cd4c15794e47d87dc888f0e8f14ec66ff44ff1b915d", func := "palinode/palinodetop.WholeOnly", spec := "wholeOnly", inPlace := ["internal/abi.NoEscape", "maps.clone", "slices.overlaps[int]"], unfollowed := true, recurses := true, apart := false }
def WholeOnlySaid : Prop := wholeOnlyRow.holds Tryz.pinned (OpenSpec.ofChange wholeOnlySpec)

/-- ITS FALSE NEIGHBOUR: 'it returns false'. Refute it at one input. -/
def wholeOnlyWrong : ChangeSpec := { name := "wholeOnly", fn := fun _ => fun
  | [d1, d2] => { results := [.lit (.bool false)], args := [d1, d2] }
  | _ => none }
def WholeOnlyWrongFalsely : Prop := wholeOnlyRow.holds Tryz.pinned (OpenSpec.ofChange wholeOnlyWrong)

/- THE SECOND FORM. 'bulk': how many values and letters a reading holds, each counted each time it is reached (what is shared counts as often as it is met; a slice's spare places count too). A statement '..UptoSaid' is the law's where the arguments, and the package variables that the reading takes, are together of bulk at most 1048576: NARROWER than '..Said'. Prove '..Said' where nothing that the law and all that it calls make is longer than what came in: it says more and counts as full. Else prove '..UptoSaid'. A law counts once. -/
mutual
def uptoBulk {H : Type} : DataW H → Nat
  | .lit (.string bytes) => bytes.length + 1
  | .lit _ => 1
  | .nil => 1
  | .ptr d => uptoBulk d + 1
  | .slice elems spare => uptoBulkAll elems + uptoBulkAll spare + 1
  | .agg parts => uptoBulkAll parts + 1
  | .iface _ d => uptoBulk d + 1
  | .map entries => uptoBulkEntries entries + 1
  | .held _ => 1
def uptoBulkAll {H : Type} : List (DataW H) → Nat
  | [] => 0
  | d :: r => uptoBulk d + uptoBulkAll r
def uptoBulkEntries {H : Type} : List (Lit × DataW H) → Nat
  | [] => 0
  | x :: r => uptoBulkEntry x + uptoBulkEntries r
def uptoBulkEntry {H : Type} : Lit × DataW H → Nat
  | (.string bytes, d) => bytes.length + uptoBulk d + 1
  | (_, d) => uptoBulk d + 1
 end
def uptoSmall : (H : Type) → List (DataW H) → Bool := fun _ ds => decide (uptoBulkAll ds ≤ 1048576)
def OpenSpec.upto (s : _root_.Go.ChangeSpec) : _root_.Go.OpenSpec := { _root_.Go.OpenSpec.ofChange s with cond := some uptoSmall }

/-- 'palinodetop.WholeGroups', WHERE WHAT IT READS IS OF BULK AT MOST 1048576: true; the input reads as it did. -/
def wholeGroupsUptoRow : OpenClaim := { program := "ytkjikdohnomajaagreat", sum := "627c1436cc477d4aa1375cd4c15794e47d87dc888f0e8f14ec66ff44ff1b915d", func := "palinode/palinodetop.WholeGroups", spec := "wholeGroups", inPlace := ["internal/abi.NoEscape", "maps.clone", "slices.overlaps[int]"], unfollowed := true, recurses := true, apart := false, narrowed := true }
def WholeGroupsUptoSaid : Prop := wholeGroupsUptoRow.holds Tryz.pinned (OpenSpec.upto wholeGroupsSpec)

/-- 'palinodetop.WholeLong', WHERE WHAT IT READS IS OF BULK AT MOST 1048576: true; the input reads as it did. -/
def wholeLongUptoRow : OpenClaim := { program := "ytkjikdohnomajaagreat", sum := "627c1436cc477d4aa1375cd4c15794e47d87dc888f0e8f14ec66ff44ff1b915d", func := "palinode/palinodetop.WholeLong", spec := "wholeLong", inPlace := ["internal/abi.NoEscape", "maps.clone", "slices.overlaps[int]"], unfollowed := true, recurses := true, apart := false, narrowed := true }
def WholeLongUptoSaid : Prop := wholeLongUptoRow.holds Tryz.pinned (OpenSpec.upto wholeLongSpec)

/-- 'palinodetop.WholeBetween', WHERE WHAT IT READS IS OF BULK AT MOST 1048576: true; the input reads as it did. -/
def wholeBetweenUptoRow : OpenClaim := { program := "ytkjikdohnomajaagreat", sum := "627c1436cc477d4aa1375cd4c15794e47d87dc888f0e8f14ec66ff44ff1b915d", func := "palinode/palinodetop.WholeBetween", spec := "wholeBetween", inPlace := ["internal/abi.NoEscape", "maps.clone", "slices.overlaps[int]"], unfollowed := true, recurses := true, apart := false, narrowed := true }
def WholeBetweenUptoSaid : Prop := wholeBetweenUptoRow.holds Tryz.pinned (OpenSpec.upto wholeBetweenSpec)

/-- 'palinodetop.WholeDiffs', WHERE WHAT IT READS IS OF BULK AT MOST 1048576: true; the input reads as it did. -/
def wholeDiffsUptoRow : OpenClaim := { program := "ytkjikdohnomajaagreat", sum := "627c1436cc477d4aa1375cd4c15794e47d87dc888f0e8f14ec66ff44ff1b915d", func := "palinode/palinodetop.WholeDiffs", spec := "wholeDiffs", inPlace := ["internal/abi.NoEscape", "maps.clone", "slices.overlaps[int]"], unfollowed := true, recurses := true, apart := false, narrowed := true }
def WholeDiffsUptoSaid : Prop := wholeDiffsUptoRow.holds Tryz.pinned (OpenSpec.upto wholeDiffsSpec)

/-- 'palinodetop.WholeOnly', WHERE WHAT IT READS IS OF BULK AT MOST 1048576: true; the input reads as it did. -/
def wholeOnlyUptoRow : OpenClaim := { program := "ytkjikdohnomajaagreat", sum := "627c1436cc477d4aa1375cd4c15794e47d87dc888f0e8f14ec66ff44ff1b915d", func := "palinode/palinodetop.WholeOnly", spec := "wholeOnly", inPlace := ["internal/abi.NoEscape", "maps.clone", "slices.overlaps[int]"], unfollowed := true, recurses := true, apart := false, narrowed := true }
def WholeOnlyUptoSaid : Prop := wholeOnlyUptoRow.holds Tryz.pinned (OpenSpec.upto wholeOnlySpec)

end Rows
end Go.Proofs.YtkjikdohnomajaaGreat
