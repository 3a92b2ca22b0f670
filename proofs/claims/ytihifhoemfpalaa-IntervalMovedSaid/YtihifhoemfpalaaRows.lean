/-
  No cell of these rows narrows 'for every input' (looked for: loops, veiled, ifaces, maps, wideKeys, modest, calm, conditions, laid).
  DERIVED. THE GIVEN ROWS OF THIS SEAT. 5 by the template 'for every input the law returns true; each argument reads behind the call as it read before'; 0 by the template 'total and deterministic' (their statements: YtihifhoemfpalaaTotals.lean).
  GIVEN WITH THE SEED: the statements are not yours to turn. If you find one false, say at which input.
  Laid BY PROGRAM, IN A SANDBOX (cutbox-rows.mjs): the forced cells as the released guide's own fill.sh prints them over the translation 7d6a99fe6ecc5d4e… (all of the seat's roots in one cut). By AI agents, Wed Nov 11 2026. No macro, syntax, notation, axiom, sorry.
-/
import Derived.Test.YtihifhoemfpalaaChecked
import GoSem.Claim
import GoSem.ClaimJoined
import GoSem.ClaimMapViews
import Derived.JoinedTies
import Derived.KernelRfl
namespace Go.Proofs.Ytihifhoemfpalaa
/- THE CELL 'sum', in the pinned program and in every row, IS THE sha256 OF THE DUMP (.gsa) THAT YtihifhoemfpalaaProg.lean LOADS. Nothing in Lean hashes anything: it is a label: what it is worth is what the hold of that sum in a sandbox is worth. -/
noncomputable def Try.pinned : Pinned := { name := "ytihifhoemfpalaa", sum := "7d6a99fe6ecc5d4e0d4bb809c9c11ce581f53ecbb537d73df44579ecfdbb8b68", checked := Try.checked }
namespace Rows
def none {H : Type} : Left H := { results := [], args := [] }

/-- 'palinodelaw10.IntervalTells': WHATEVER THE INPUT: true; the input reads as it did. -/
def intervalTellsSpec : ChangeSpec := { name := "intervalTells", fn := fun _ => fun
  | [d1, d2, d3, d4] => { results := [.lit (.bool true)], args := [d1, d2, d3, d4] }
  | _ => none }
def intervalTellsRow : OpenClaim := { program := "ytihifhoemfpalaa", sum := "7d6a99fe6ecc5d4e0d4bb809c9c11ce581f53ecbb537d73df44579ecfdbb8b68", func := "palinode/palinodelaw10.IntervalTells", spec := "intervalTells", unfollowed := true, recurses := true, apart := false }
def IntervalTellsSaid : Prop := intervalTellsRow.holds Try.pinned (OpenSpec.ofChange intervalTellsSpec)

/-- ITS FALSE NEIGHBOUR: 'it returns false'. Refute it at one input. -/
def intervalTellsWrong : ChangeSpec := { name := "intervalTells", fn := fun _ => fun
  | [d1, d2, d3, d4] => { results := [.lit (.bool false)], args := [d1, d2, d3, d4] }
  | _ => none }
def IntervalTellsWrongFalsely : Prop := intervalTellsRow.holds Try.pinned (OpenSpec.ofChange intervalTellsWrong)

/-- 'palinodelaw10.IntervalMerges': WHATEVER THE INPUT: true; the input reads as it did. -/
def intervalMergesSpec : ChangeSpec := { name := "intervalMerges", fn := fun _ => fun
  | [d] => { results := [.lit (.bool true)], args := [d] }
  | _ => none }
def intervalMergesRow : OpenClaim := { program := "ytihifhoemfpalaa", sum := "7d6a99fe6ecc5d4e0d4bb809c9c11ce581f53ecbb537d73df44579ecfdbb8b68", func := "palinode/palinodelaw10.IntervalMerges", spec := "intervalMerges", unfollowed := true, recurses := true, apart := false }
def IntervalMergesSaid : Prop := intervalMergesRow.holds Try.pinned (OpenSpec.ofChange intervalMergesSpec)

/-- ITS FALSE NEIGHBOUR: 'it returns false'. Refute it at one input. -/
def intervalMergesWrong : ChangeSpec := { name := "intervalMerges", fn := fun _ => fun
  | [d] => { results := [.lit (.bool false)], args := [d] }
  | _ => none }
def IntervalMergesWrongFalsely : Prop := intervalMergesRow.holds Try.pinned (OpenSpec.ofChange intervalMergesWrong)

/-- 'palinodelaw10.IntervalTwice': WHATEVER THE INPUT: true; the input reads as it did. -/
def intervalTwiceSpec : ChangeSpec := { name := "intervalTwice", fn := fun _ => fun
  | [d1, d2] => { results := [.lit (.bool true)], args := [d1, d2] }
  | _ => none }
def intervalTwiceRow : OpenClaim := { program := "ytihifhoemfpalaa", sum := "7d6a99fe6ecc5d4e0d4bb809c9c11ce581f53ecbb537d73df44579ecfdbb8b68", func := "palinode/palinodelaw10.IntervalTwice", spec := "intervalTwice", unfollowed := true, recurses := true, apart := false }
def IntervalTwiceSaid : Prop := intervalTwiceRow.holds Try.pinned (OpenSpec.ofChange intervalTwiceSpec)

/-- ITS FALSE NEIGHBOUR: 'it returns false'. Refute it at one input. -/
def intervalTwiceWrong : ChangeSpec := { name := "intervalTwice", fn := fun _ => fun
  | [d1, d2] => { results := [.lit (.bool false)], args := [d1, d2] }
  | _ => none }
def IntervalTwiceWrongFalsely : Prop := intervalTwiceRow.holds Try.pinned (OpenSpec.ofChange intervalTwiceWrong)

/-- 'palinodelaw10.IntervalLaws': WHATEVER THE INPUT: true; the input reads as it did. -/
def intervalLawsSpec : ChangeSpec := { name := "intervalLaws", fn := fun _ => fun
  | [d1, d2, d3] => { results := [.lit (.bool true)], args := [d1, d2, d3] }
  | _ => none }
def intervalLawsRow : OpenClaim := { program := "ytihifhoemfpalaa", sum := "7d6a99fe6ecc5d4e0d4bb809c9c11ce581f53ecbb537d73df44579ecfdbb8b68", func := "palinode/palinodelaw10.IntervalLaws", spec := "intervalLaws", unfollowed := true, recurses := true, apart := false }
def IntervalLawsSaid : Prop := intervalLawsRow.holds Try.pinned (OpenSpec.ofChange intervalLawsSpec)

/-- ITS FALSE NEIGHBOUR: 'it returns false'. Refute it at one input. -/
def intervalLawsWrong : ChangeSpec := { name := "intervalLaws", fn := fun _ => fun
  | [d1, d2, d3] => { results := [.lit (.bool false)], args := [d1, d2, d3] }
  | _ => none }
def IntervalLawsWrongFalsely : Prop := intervalLawsRow.holds Try.pinned (OpenSpec.ofChange intervalLawsWrong)

/-- 'palinodelaw10.IntervalMoved': WHATEVER THE INPUT: true; the input reads as it did. -/
def intervalMovedSpec : ChangeSpec := { name := "intervalMoved", fn := fun _ => fun
  | [d1, d2] => { results := [.lit (.bool true)], args := [d1, d2] }
  | _ => none }
def intervalMovedRow : OpenClaim := { program := "ytihifhoemfpalaa", sum := "7d6a99fe6ecc5d4e0d4bb809c9c11ce581f53ecbb537d73df44579ecfdbb8b68", func := "palinode/palinodelaw10.IntervalMoved", spec := "intervalMoved", unfollowed := true, recurses := true, apart := false }
def IntervalMovedSaid : Prop := intervalMovedRow.holds Try.pinned (OpenSpec.ofChange intervalMovedSpec)

/-- ITS FALSE NEIGHBOUR: 'it returns false'. Refute it at one input. -/
def intervalMovedWrong : ChangeSpec := { name := "intervalMoved", fn := fun _ => fun
  | [d1, d2] => { results := [.lit (.bool false)], args := [d1, d2] }
  | _ => none }
def IntervalMovedWrongFalsely : Prop := intervalMovedRow.holds Try.pinned (OpenSpec.ofChange intervalMovedWrong)

/- THE SECOND FORM. 'bulk': how many values and letters a reading holds, each counted each time it is reached (what is shared counts as often as it is met; a slice's spare places count too). A statement '..UptoSaid' is the law's where the arguments, and the package variables that the reading takes, are together of bulk at most 1048576: NARROWER than '..Said'. Prove '..Said' where nothing that the law and all that it calls make is longer than what came in: it says more and counts as full. Else prove '..UptoSaid'. A law counts once. -/
mutual
def uptoBulk {H : Type} : DataW H → Nat
  | .lit (.string bytes) => bytes.length + 1
  | .lit _ => 1
  | .nil => 1
  | .ptr d => uptoBulk d + 1
  | .slice elems spare => uptoBulkAll elems + uptoBulkAll spare + 1
  | .agg parts => uptoBulkAll parts + 1
  | .iface _ d => uptoBulk d + 1
  | .map entries => uptoBulkEntries entries + 1
  | .held _ => 1
def uptoBulkAll {H : Type} : List (DataW H) → Nat
  | [] => 0
  | d :: r => uptoBulk d + uptoBulkAll r
def uptoBulkEntries {H : Type} : List (Lit × DataW H) → Nat
  | [] => 0
  | x :: r => uptoBulkEntry x + uptoBulkEntries r
def uptoBulkEntry {H : Type} : Lit × DataW H → Nat
  | (.string bytes, d) => bytes.length + uptoBulk d + 1
  | (_, d) => uptoBulk d + 1
 end
def uptoSmall : (H : Type) → List (DataW H) → Bool := fun _ ds => decide (uptoBulkAll ds ≤ 1048576)
def OpenSpec.upto (s : _root_.Go.ChangeSpec) : _root_.Go.OpenSpec := { _root_.Go.OpenSpec.ofChange s with cond := some uptoSmall }

/-- 'palinodelaw10.IntervalTells', WHERE WHAT IT READS IS OF BULK AT MOST 1048576: true; the input reads as it did. -/
def intervalTellsUptoRow : OpenClaim := { program := "ytihifhoemfpalaa", sum := "7d6a99fe6ecc5d4e0d4bb809c9c11ce581f53ecbb537d73df44579ecfdbb8b68", func := "palinode/palinodelaw10.IntervalTells", spec := "intervalTells", unfollowed := true, recurses := true, apart := false, narrowed := true }
def IntervalTellsUptoSaid : Prop := intervalTellsUptoRow.holds Try.pinned (OpenSpec.upto intervalTellsSpec)

/-- 'palinodelaw10.IntervalMerges', WHERE WHAT IT READS IS OF BULK AT MOST 1048576: true; the input reads as it did. -/
def intervalMergesUptoRow : OpenClaim := { program := "ytihifhoemfpalaa", sum := "7d6a99fe6ecc5d4e0d4bb809c9c11ce581f53ecbb537d73df44579ecfdbb8b68", func := "palinode/palinodelaw10.IntervalMerges", spec := "intervalMerges", unfollowed := true, recurses := true, apart := false, narrowed := true }
def IntervalMergesUptoSaid : Prop := intervalMergesUptoRow.holds Try.pinned (OpenSpec.upto intervalMergesSpec)

/-- 'palinodelaw10.IntervalTwice', WHERE WHAT IT READS IS OF BULK AT MOST 1048576: true; the input reads as it did. -/
def intervalTwiceUptoRow : OpenClaim := { program := "ytihifhoemfpalaa", sum := "7d6a99fe6ecc5d4e0d4bb809c9c11ce581f53ecbb537d73df44579ecfdbb8b68", func := "palinode/palinodelaw10.IntervalTwice", spec := "intervalTwice", unfollowed := true, recurses := true, apart := false, narrowed := true }
def IntervalTwiceUptoSaid : Prop := intervalTwiceUptoRow.holds Try.pinned (OpenSpec.upto intervalTwiceSpec)

/-- 'palinodelaw10.IntervalLaws', WHERE WHAT IT READS IS OF BULK AT MOST 1048576: true; the input reads as it did. -/
def intervalLawsUptoRow : OpenClaim := { program := "ytihifhoemfpalaa", sum := "7d6a99fe6ecc5d4e0d4bb809c9c11ce581f53ecbb537d73df44579ecfdbb8b68", func := "palinode/palinodelaw10.IntervalLaws", spec := "intervalLaws", unfollowed := true, recurses := true, apart := false, narrowed := true }
def IntervalLawsUptoSaid : Prop := intervalLawsUptoRow.holds Try.pinned (OpenSpec.upto intervalLawsSpec)

/-- 'palinodelaw10.IntervalMoved', WHERE WHAT IT READS IS OF BULK AT MOST 1048576: true; the input reads as it did. -/
def intervalMovedUptoRow : OpenClaim := { program := "ytihifhoemfpalaa", sum := "7d6a99fe6ecc5d4e0d4bb809c9c11ce581f53ecbb537d73df44579ecfdbb8b68", func := "palinode/palinodelaw10.IntervalMoved", spec := "intervalMoved", unfollowed := true, recurses := true, apart := false, narrowed := true }
def IntervalMovedUptoSaid : Prop := intervalMovedUptoRow.holds Try.pinned (OpenSpec.upto intervalMovedSpec)

end Rows
end Go.Proofs.Ytihifhoemfpalaa
