/-
  No cell of these rows narrows 'for every input' (looked for: loops, veiled, ifaces, maps, wideKeys, modest, calm, conditions, laid).
  DERIVED. THE GIVEN ROWS OF THIS SEAT. 5 by the template 'for every input the law returns true; each argument reads behind the call as it read before'; 0 by the template 'total and deterministic' (their statements: YtaakajfmbjjigaaTotals.lean).
  GIVEN WITH THE SEED: the statements are not yours to turn. If you find one false, say at which input.
  Laid BY PROGRAM, IN A SANDBOX (cutbox-rows.mjs): the forced cells as the released guide's own fill.sh prints them over the translation 1e16adc51475e2d7… (all of the seat's roots in one cut). By AI agents, Wed Nov 11 2026. No macro, syntax, notation, axiom, sorry.
-/
import Derived.Test.YtaakajfmbjjigaaChecked
import GoSem.Claim
import GoSem.ClaimJoined
import GoSem.ClaimMapViews
import Derived.JoinedTies
import Derived.KernelRfl
namespace Go.Proofs.Ytaakajfmbjjigaa
/- THE CELL 'sum', in the pinned program and in every row, IS THE sha256 OF THE DUMP (.gsa) THAT YtaakajfmbjjigaaProg.lean LOADS. Nothing in Lean hashes anything: it is a label: what it is worth is what the hold of that sum in a sandbox is worth. -/
noncomputable def Try.pinned : Pinned := { name := "ytaakajfmbjjigaa", sum := "1e16adc51475e2d73f6a2100d4c85d2066a5866711caf1a0eec6db6293bf84dd", checked := Try.checked }
namespace Rows
def none {H : Type} : Left H := { results := [], args := [] }

/-- 'palinodelaw19.RevTwice': WHATEVER THE INPUT: true; the input reads as it did. -/
def revTwiceSpec : ChangeSpec := { name := "revTwice", fn := fun _ => fun
  | [d1, d2] => { results := [.lit (.bool true)], args := [d1, d2] }
  | _ => none }
def revTwiceRow : OpenClaim := { program := "ytaakajfmbjjigaa", sum := "1e16adc51475e2d73f6a2100d4c85d2066a5866711caf1a0eec6db6293bf84dd", func := "palinode/palinodelaw19.RevTwice", spec := "revTwice", inPlace := ["maps.clone"], unfollowed := true, recurses := true, apart := false }
def RevTwiceSaid : Prop := revTwiceRow.holds Try.pinned (OpenSpec.ofChange revTwiceSpec)

/-- ITS FALSE NEIGHBOUR: 'it returns false'. Refute it at one input. -/
def revTwiceWrong : ChangeSpec := { name := "revTwice", fn := fun _ => fun
  | [d1, d2] => { results := [.lit (.bool false)], args := [d1, d2] }
  | _ => none }
def RevTwiceWrongFalsely : Prop := revTwiceRow.holds Try.pinned (OpenSpec.ofChange revTwiceWrong)

/-- 'palinodelaw19.RevMany': WHATEVER THE INPUT: true; the input reads as it did. -/
def revManySpec : ChangeSpec := { name := "revMany", fn := fun _ => fun
  | [d] => { results := [.lit (.bool true)], args := [d] }
  | _ => none }
def revManyRow : OpenClaim := { program := "ytaakajfmbjjigaa", sum := "1e16adc51475e2d73f6a2100d4c85d2066a5866711caf1a0eec6db6293bf84dd", func := "palinode/palinodelaw19.RevMany", spec := "revMany", inPlace := ["maps.clone"], unfollowed := true, recurses := true, apart := false }
def RevManySaid : Prop := revManyRow.holds Try.pinned (OpenSpec.ofChange revManySpec)

/-- ITS FALSE NEIGHBOUR: 'it returns false'. Refute it at one input. -/
def revManyWrong : ChangeSpec := { name := "revMany", fn := fun _ => fun
  | [d] => { results := [.lit (.bool false)], args := [d] }
  | _ => none }
def RevManyWrongFalsely : Prop := revManyRow.holds Try.pinned (OpenSpec.ofChange revManyWrong)

/-- 'palinodelaw19.RevForgets': WHATEVER THE INPUT: true; the input reads as it did. -/
def revForgetsSpec : ChangeSpec := { name := "revForgets", fn := fun _ => fun
  | [d1, d2, d3] => { results := [.lit (.bool true)], args := [d1, d2, d3] }
  | _ => none }
def revForgetsRow : OpenClaim := { program := "ytaakajfmbjjigaa", sum := "1e16adc51475e2d73f6a2100d4c85d2066a5866711caf1a0eec6db6293bf84dd", func := "palinode/palinodelaw19.RevForgets", spec := "revForgets", inPlace := ["maps.clone"], unfollowed := true, recurses := true, apart := false }
def RevForgetsSaid : Prop := revForgetsRow.holds Try.pinned (OpenSpec.ofChange revForgetsSpec)

/-- ITS FALSE NEIGHBOUR: 'it returns false'. Refute it at one input. -/
def revForgetsWrong : ChangeSpec := { name := "revForgets", fn := fun _ => fun
  | [d1, d2, d3] => { results := [.lit (.bool false)], args := [d1, d2, d3] }
  | _ => none }
def RevForgetsWrongFalsely : Prop := revForgetsRow.holds Try.pinned (OpenSpec.ofChange revForgetsWrong)

/-- 'palinodelaw19.RevPlays': WHATEVER THE INPUT: true; the input reads as it did. -/
def revPlaysSpec : ChangeSpec := { name := "revPlays", fn := fun _ => fun
  | [d] => { results := [.lit (.bool true)], args := [d] }
  | _ => none }
def revPlaysRow : OpenClaim := { program := "ytaakajfmbjjigaa", sum := "1e16adc51475e2d73f6a2100d4c85d2066a5866711caf1a0eec6db6293bf84dd", func := "palinode/palinodelaw19.RevPlays", spec := "revPlays", inPlace := ["maps.clone"], unfollowed := true, recurses := true, apart := false }
def RevPlaysSaid : Prop := revPlaysRow.holds Try.pinned (OpenSpec.ofChange revPlaysSpec)

/-- ITS FALSE NEIGHBOUR: 'it returns false'. Refute it at one input. -/
def revPlaysWrong : ChangeSpec := { name := "revPlays", fn := fun _ => fun
  | [d] => { results := [.lit (.bool false)], args := [d] }
  | _ => none }
def RevPlaysWrongFalsely : Prop := revPlaysRow.holds Try.pinned (OpenSpec.ofChange revPlaysWrong)

/-- 'palinodelaw19.RevCopies': WHATEVER THE INPUT: true; the input reads as it did. -/
def revCopiesSpec : ChangeSpec := { name := "revCopies", fn := fun _ => fun
  | [d1, d2] => { results := [.lit (.bool true)], args := [d1, d2] }
  | _ => none }
def revCopiesRow : OpenClaim := { program := "ytaakajfmbjjigaa", sum := "1e16adc51475e2d73f6a2100d4c85d2066a5866711caf1a0eec6db6293bf84dd", func := "palinode/palinodelaw19.RevCopies", spec := "revCopies", inPlace := ["maps.clone"], unfollowed := true, recurses := true, apart := false }
def RevCopiesSaid : Prop := revCopiesRow.holds Try.pinned (OpenSpec.ofChange revCopiesSpec)

/-- ITS FALSE NEIGHBOUR: 'it returns false'. Refute it at one input. -/
def revCopiesWrong : ChangeSpec := { name := "revCopies", fn := fun _ => fun
  | [d1, d2] => { results := [.lit (.bool false)], args := [d1, d2] }
  | _ => none }
def RevCopiesWrongFalsely : Prop := revCopiesRow.holds Try.pinned (OpenSpec.ofChange revCopiesWrong)

/- THE SECOND FORM. 'bulk': how many values and letters a reading holds, each counted each time it is reached (what is shared counts as often as it is met; a slice's spare places count too). A statement '..UptoSaid' is the law's where the arguments, and the package variables that the reading takes, are together of bulk at most 1048576: NARROWER than '..Said'. Prove '..Said' where nothing that the law and all that it calls make is longer than what came in: it says more and counts as full. Else prove '..UptoSaid'. A law counts once. -/
mutual
def uptoBulk {H : Type} : DataW H → Nat
  | .lit (.string bytes) => bytes.length + 1
  | .lit _ => 1
  | .nil => 1
  | .ptr d => uptoBulk d + 1
  | .slice elems spare => uptoBulkAll elems + uptoBulkAll spare + 1
  | .agg parts => uptoBulkAll parts + 1
  | .iface _ d => uptoBulk d + 1
  | .map entries => uptoBulkEntries entries + 1
  | .held _ => 1
def uptoBulkAll {H : Type} : List (DataW H) → Nat
  | [] => 0
  | d :: r => uptoBulk d + uptoBulkAll r
def uptoBulkEntries {H : Type} : List (Lit × DataW H) → Nat
  | [] => 0
  | x :: r => uptoBulkEntry x + uptoBulkEntries r
def uptoBulkEntry {H : Type} : Lit × DataW H → Nat
  | (.string bytes, d) => bytes.length + uptoBulk d + 1
  | (_, d) => uptoBulk d + 1
 end
def uptoSmall : (H : Type) → List (DataW H) → Bool := fun _ ds => decide (uptoBulkAll ds ≤ 1048576)
def OpenSpec.upto (s : _root_.Go.ChangeSpec) : _root_.Go.OpenSpec := { _root_.Go.OpenSpec.ofChange s with cond := some uptoSmall }

/-- 'palinodelaw19.RevTwice', WHERE WHAT IT READS IS OF BULK AT MOST 1048576: true; the input reads as it did. -/
def revTwiceUptoRow : OpenClaim := { program := "ytaakajfmbjjigaa", sum := "1e16adc51475e2d73f6a2100d4c85d2066a5866711caf1a0eec6db6293bf84dd", func := "palinode/palinodelaw19.RevTwice", spec := "revTwice", inPlace := ["maps.clone"], unfollowed := true, recurses := true, apart := false, narrowed := true }
def RevTwiceUptoSaid : Prop := revTwiceUptoRow.holds Try.pinned (OpenSpec.upto revTwiceSpec)

/-- 'palinodelaw19.RevMany', WHERE WHAT IT READS IS OF BULK AT MOST 1048576: true; the input reads as it did. -/
def revManyUptoRow : OpenClaim := { program := "ytaakajfmbjjigaa", sum := "1e16adc51475e2d73f6a2100d4c85d2066a5866711caf1a0eec6db6293bf84dd", func := "palinode/palinodelaw19.RevMany", spec := "revMany", inPlace := ["maps.clone"], unfollowed := true, recurses := true, apart := false, narrowed := true }
def RevManyUptoSaid : Prop := revManyUptoRow.holds Try.pinned (OpenSpec.upto revManySpec)

/-- 'palinodelaw19.RevForgets', WHERE WHAT IT READS IS OF BULK AT MOST 1048576: true; the input reads as it did. -/
def revForgetsUptoRow : OpenClaim := { program := "ytaakajfmbjjigaa", sum := "1e16adc51475e2d73f6a2100d4c85d2066a5866711caf1a0eec6db6293bf84dd", func := "palinode/palinodelaw19.RevForgets", spec := "revForgets", inPlace := ["maps.clone"], unfollowed := true, recurses := true, apart := false, narrowed := true }
def RevForgetsUptoSaid : Prop := revForgetsUptoRow.holds Try.pinned (OpenSpec.upto revForgetsSpec)

/-- 'palinodelaw19.RevPlays', WHERE WHAT IT READS IS OF BULK AT MOST 1048576: true; the input reads as it did. -/
def revPlaysUptoRow : OpenClaim := { program := "ytaakajfmbjjigaa", sum := "1e16adc51475e2d73f6a2100d4c85d2066a5866711caf1a0eec6db6293bf84dd", func := "palinode/palinodelaw19.RevPlays", spec := "revPlays", inPlace := ["maps.clone"], unfollowed := true, recurses := true, apart := false, narrowed := true }
def RevPlaysUptoSaid : Prop := revPlaysUptoRow.holds Try.pinned (OpenSpec.upto revPlaysSpec)

/-- 'palinodelaw19.RevCopies', WHERE WHAT IT READS IS OF BULK AT MOST 1048576: true; the input reads as it did. -/
def revCopiesUptoRow : OpenClaim := { program := "ytaakajfmbjjigaa", sum := "1e16adc51475e2d73f6a2100d4c85d2066a5866711caf1a0eec6db6293bf84dd", func := "palinode/palinodelaw19.RevCopies", spec := "revCopies", inPlace := ["maps.clone"], unfollowed := true, recurses := true, apart := false, narrowed := true }
def RevCopiesUptoSaid : Prop := revCopiesUptoRow.holds Try.pinned (OpenSpec.upto revCopiesSpec)

end Rows
end Go.Proofs.Ytaakajfmbjjigaa
