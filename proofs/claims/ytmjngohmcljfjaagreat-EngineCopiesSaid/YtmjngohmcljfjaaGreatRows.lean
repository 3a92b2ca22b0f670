/-
  No cell of these rows narrows 'for every input' (looked for: loops, veiled, ifaces, maps, wideKeys, modest, calm, conditions, laid).
  DERIVED. THE GIVEN ROWS OF THIS SEAT. 9 by the template 'for every input the law returns true; each argument reads behind the call as it read before'; 0 by the template 'total and deterministic' (their statements: YtmjngohmcljfjaaGreatTotals.lean).
  GIVEN WITH THE SEED: the statements are not yours to turn. If you find one false, say at which input.
  Laid BY PROGRAM, IN A SANDBOX (cutbox-rows.mjs): the forced cells as the released guide's own fill.sh prints them over the translation 8db68b23874f675f… (all of the seat's roots in one cut). By AI agents, Wed Nov 11 2026. No macro, syntax, notation, axiom, sorry.
-/
import Derived.Test.YtmjngohmcljfjaaGreatChecked
import GoSem.Claim
import GoSem.ClaimJoined
import GoSem.ClaimMapViews
import Derived.JoinedTies
import Derived.KernelRfl
namespace Go.Proofs.YtmjngohmcljfjaaGreat
/- THE CELL 'sum', in the pinned program and in every row, IS THE sha256 OF THE DUMP (.gsa) THAT YtmjngohmcljfjaaGreatProg.lean LOADS. Nothing in Lean hashes anything: it is a label: what it is worth is what the hold of that sum in a sandbox is worth. -/
noncomputable def Tryz.pinned : Pinned := { name := "ytmjngohmcljfjaagreat", sum := "8db68b23874f675f6068518e0424f201e40f70793760a5fd5c8265f0b52316d9", checked := Tryz.checked }
namespace Rows
def none {H : Type} : Left H := { results := [], args := [] }

/-- 'palinodelaw21.UndoAll': WHATEVER THE INPUT: true; the input reads as it did. -/
def undoAllSpec : ChangeSpec := { name := "undoAll", fn := fun _ => fun
  | [d1, d2, d3] => { results := [.lit (.bool true)], args := [d1, d2, d3] }
  | _ => none }
def undoAllRow : OpenClaim := { program := "ytmjngohmcljfjaagreat", sum := "8db68b23874f675f6068518e0424f201e40f70793760a5fd5c8265f0b52316d9", func := "palinode/palinodelaw21.UndoAll", spec := "undoAll", inPlace := ["internal/abi.NoEscape", "maps.clone"], unfollowed := true, recurses := true, apart := false }
def UndoAllSaid : Prop := undoAllRow.holds Tryz.pinned (OpenSpec.ofChange undoAllSpec)

/-- ITS FALSE NEIGHBOUR: 'it returns false'. Refute it at one input. -/
def undoAllWrong : ChangeSpec := { name := "undoAll", fn := fun _ => fun
  | [d1, d2, d3] => { results := [.lit (.bool false)], args := [d1, d2, d3] }
  | _ => none }
def UndoAllWrongFalsely : Prop := undoAllRow.holds Tryz.pinned (OpenSpec.ofChange undoAllWrong)

/-- 'palinodelaw21.UndoLast': WHATEVER THE INPUT: true; the input reads as it did. -/
def undoLastSpec : ChangeSpec := { name := "undoLast", fn := fun _ => fun
  | [d1, d2] => { results := [.lit (.bool true)], args := [d1, d2] }
  | _ => none }
def undoLastRow : OpenClaim := { program := "ytmjngohmcljfjaagreat", sum := "8db68b23874f675f6068518e0424f201e40f70793760a5fd5c8265f0b52316d9", func := "palinode/palinodelaw21.UndoLast", spec := "undoLast", inPlace := ["internal/abi.NoEscape", "maps.clone"], unfollowed := true, recurses := true, apart := false }
def UndoLastSaid : Prop := undoLastRow.holds Tryz.pinned (OpenSpec.ofChange undoLastSpec)

/-- ITS FALSE NEIGHBOUR: 'it returns false'. Refute it at one input. -/
def undoLastWrong : ChangeSpec := { name := "undoLast", fn := fun _ => fun
  | [d1, d2] => { results := [.lit (.bool false)], args := [d1, d2] }
  | _ => none }
def UndoLastWrongFalsely : Prop := undoLastRow.holds Tryz.pinned (OpenSpec.ofChange undoLastWrong)

/-- 'palinodelaw21.UndoWithout': WHATEVER THE INPUT: true; the input reads as it did. -/
def undoWithoutSpec : ChangeSpec := { name := "undoWithout", fn := fun _ => fun
  | [d1, d2, d3] => { results := [.lit (.bool true)], args := [d1, d2, d3] }
  | _ => none }
def undoWithoutRow : OpenClaim := { program := "ytmjngohmcljfjaagreat", sum := "8db68b23874f675f6068518e0424f201e40f70793760a5fd5c8265f0b52316d9", func := "palinode/palinodelaw21.UndoWithout", spec := "undoWithout", inPlace := ["internal/abi.NoEscape", "maps.clone"], unfollowed := true, recurses := true, apart := false }
def UndoWithoutSaid : Prop := undoWithoutRow.holds Tryz.pinned (OpenSpec.ofChange undoWithoutSpec)

/-- ITS FALSE NEIGHBOUR: 'it returns false'. Refute it at one input. -/
def undoWithoutWrong : ChangeSpec := { name := "undoWithout", fn := fun _ => fun
  | [d1, d2, d3] => { results := [.lit (.bool false)], args := [d1, d2, d3] }
  | _ => none }
def UndoWithoutWrongFalsely : Prop := undoWithoutRow.holds Tryz.pinned (OpenSpec.ofChange undoWithoutWrong)

/-- 'palinodelaw21.UndoOrder': WHATEVER THE INPUT: true; the input reads as it did. -/
def undoOrderSpec : ChangeSpec := { name := "undoOrder", fn := fun _ => fun
  | [d1, d2, d3] => { results := [.lit (.bool true)], args := [d1, d2, d3] }
  | _ => none }
def undoOrderRow : OpenClaim := { program := "ytmjngohmcljfjaagreat", sum := "8db68b23874f675f6068518e0424f201e40f70793760a5fd5c8265f0b52316d9", func := "palinode/palinodelaw21.UndoOrder", spec := "undoOrder", inPlace := ["internal/abi.NoEscape", "maps.clone"], unfollowed := true, recurses := true, apart := false }
def UndoOrderSaid : Prop := undoOrderRow.holds Tryz.pinned (OpenSpec.ofChange undoOrderSpec)

/-- ITS FALSE NEIGHBOUR: 'it returns false'. Refute it at one input. -/
def undoOrderWrong : ChangeSpec := { name := "undoOrder", fn := fun _ => fun
  | [d1, d2, d3] => { results := [.lit (.bool false)], args := [d1, d2, d3] }
  | _ => none }
def UndoOrderWrongFalsely : Prop := undoOrderRow.holds Tryz.pinned (OpenSpec.ofChange undoOrderWrong)

/-- 'palinodelaw20.EngineElder': WHATEVER THE INPUT: true; the input reads as it did. -/
def engineElderSpec : ChangeSpec := { name := "engineElder", fn := fun _ => fun
  | [d] => { results := [.lit (.bool true)], args := [d] }
  | _ => none }
def engineElderRow : OpenClaim := { program := "ytmjngohmcljfjaagreat", sum := "8db68b23874f675f6068518e0424f201e40f70793760a5fd5c8265f0b52316d9", func := "palinode/palinodelaw20.EngineElder", spec := "engineElder", inPlace := ["internal/abi.NoEscape", "maps.clone"], unfollowed := true, recurses := true, apart := false }
def EngineElderSaid : Prop := engineElderRow.holds Tryz.pinned (OpenSpec.ofChange engineElderSpec)

/-- ITS FALSE NEIGHBOUR: 'it returns false'. Refute it at one input. -/
def engineElderWrong : ChangeSpec := { name := "engineElder", fn := fun _ => fun
  | [d] => { results := [.lit (.bool false)], args := [d] }
  | _ => none }
def EngineElderWrongFalsely : Prop := engineElderRow.holds Tryz.pinned (OpenSpec.ofChange engineElderWrong)

/-- 'palinodelaw20.EnginePlays': WHATEVER THE INPUT: true; the input reads as it did. -/
def enginePlaysSpec : ChangeSpec := { name := "enginePlays", fn := fun _ => fun
  | [d] => { results := [.lit (.bool true)], args := [d] }
  | _ => none }
def enginePlaysRow : OpenClaim := { program := "ytmjngohmcljfjaagreat", sum := "8db68b23874f675f6068518e0424f201e40f70793760a5fd5c8265f0b52316d9", func := "palinode/palinodelaw20.EnginePlays", spec := "enginePlays", inPlace := ["internal/abi.NoEscape", "maps.clone"], unfollowed := true, recurses := true, apart := false }
def EnginePlaysSaid : Prop := enginePlaysRow.holds Tryz.pinned (OpenSpec.ofChange enginePlaysSpec)

/-- ITS FALSE NEIGHBOUR: 'it returns false'. Refute it at one input. -/
def enginePlaysWrong : ChangeSpec := { name := "enginePlays", fn := fun _ => fun
  | [d] => { results := [.lit (.bool false)], args := [d] }
  | _ => none }
def EnginePlaysWrongFalsely : Prop := enginePlaysRow.holds Tryz.pinned (OpenSpec.ofChange enginePlaysWrong)

/-- 'palinodelaw20.EngineTwice': WHATEVER THE INPUT: true; the input reads as it did. -/
def engineTwiceSpec : ChangeSpec := { name := "engineTwice", fn := fun _ => fun
  | [d1, d2] => { results := [.lit (.bool true)], args := [d1, d2] }
  | _ => none }
def engineTwiceRow : OpenClaim := { program := "ytmjngohmcljfjaagreat", sum := "8db68b23874f675f6068518e0424f201e40f70793760a5fd5c8265f0b52316d9", func := "palinode/palinodelaw20.EngineTwice", spec := "engineTwice", inPlace := ["internal/abi.NoEscape", "maps.clone"], unfollowed := true, recurses := true, apart := false }
def EngineTwiceSaid : Prop := engineTwiceRow.holds Tryz.pinned (OpenSpec.ofChange engineTwiceSpec)

/-- ITS FALSE NEIGHBOUR: 'it returns false'. Refute it at one input. -/
def engineTwiceWrong : ChangeSpec := { name := "engineTwice", fn := fun _ => fun
  | [d1, d2] => { results := [.lit (.bool false)], args := [d1, d2] }
  | _ => none }
def EngineTwiceWrongFalsely : Prop := engineTwiceRow.holds Tryz.pinned (OpenSpec.ofChange engineTwiceWrong)

/-- 'palinodelaw20.EngineForgets': WHATEVER THE INPUT: true; the input reads as it did. -/
def engineForgetsSpec : ChangeSpec := { name := "engineForgets", fn := fun _ => fun
  | [d1, d2] => { results := [.lit (.bool true)], args := [d1, d2] }
  | _ => none }
def engineForgetsRow : OpenClaim := { program := "ytmjngohmcljfjaagreat", sum := "8db68b23874f675f6068518e0424f201e40f70793760a5fd5c8265f0b52316d9", func := "palinode/palinodelaw20.EngineForgets", spec := "engineForgets", inPlace := ["internal/abi.NoEscape", "maps.clone"], unfollowed := true, recurses := true, apart := false }
def EngineForgetsSaid : Prop := engineForgetsRow.holds Tryz.pinned (OpenSpec.ofChange engineForgetsSpec)

/-- ITS FALSE NEIGHBOUR: 'it returns false'. Refute it at one input. -/
def engineForgetsWrong : ChangeSpec := { name := "engineForgets", fn := fun _ => fun
  | [d1, d2] => { results := [.lit (.bool false)], args := [d1, d2] }
  | _ => none }
def EngineForgetsWrongFalsely : Prop := engineForgetsRow.holds Tryz.pinned (OpenSpec.ofChange engineForgetsWrong)

/-- 'palinodelaw20.EngineCopies': WHATEVER THE INPUT: true; the input reads as it did. -/
def engineCopiesSpec : ChangeSpec := { name := "engineCopies", fn := fun _ => fun
  | [d1, d2] => { results := [.lit (.bool true)], args := [d1, d2] }
  | _ => none }
def engineCopiesRow : OpenClaim := { program := "ytmjngohmcljfjaagreat", sum := "8db68b23874f675f6068518e0424f201e40f70793760a5fd5c8265f0b52316d9", func := "palinode/palinodelaw20.EngineCopies", spec := "engineCopies", inPlace := ["internal/abi.NoEscape", "maps.clone"], unfollowed := true, recurses := true, apart := false }
def EngineCopiesSaid : Prop := engineCopiesRow.holds Tryz.pinned (OpenSpec.ofChange engineCopiesSpec)

/-- ITS FALSE NEIGHBOUR: 'it returns false'. Refute it at one input. -/
def engineCopiesWrong : ChangeSpec := { name := "engineCopies", fn := fun _ => fun
  | [d1, d2] => { results := [.lit (.bool false)], args := [d1, d2] }
  | _ => none }
def EngineCopiesWrongFalsely : Prop := engineCopiesRow.holds Tryz.pinned (OpenSpec.ofChange engineCopiesWrong)

/- THE SECOND FORM. 'bulk': how many values and letters a reading holds, each counted each time it is reached (what is shared counts as often as it is met; a slice's spare places count too). A statement '..UptoSaid' is the law's where the arguments, and the package variables that the reading takes, are together of bulk at most 1048576: NARROWER than '..Said'. Prove '..Said' where nothing that the law and all that it calls make is longer than what came in: it says more and counts as full. Else prove '..UptoSaid'. A law counts once. -/
mutual
def uptoBulk {H : Type} : DataW H → Nat
  | .lit (.string bytes) => bytes.length + 1
  | .lit _ => 1
  | .nil => 1
  | .ptr d => uptoBulk d + 1
  | .slice elems spare => uptoBulkAll elems + uptoBulkAll spare + 1
  | .agg parts => uptoBulkAll parts + 1
  | .iface _ d => uptoBulk d + 1
  | .map entries => uptoBulkEntries entries + 1
  | .held _ => 1
def uptoBulkAll {H : Type} : List (DataW H) → Nat
  | [] => 0
  | d :: r => uptoBulk d + uptoBulkAll r
def uptoBulkEntries {H : Type} : List (Lit × DataW H) → Nat
  | [] => 0
  | x :: r => uptoBulkEntry x + uptoBulkEntries r
def uptoBulkEntry {H : Type} : Lit × DataW H → Nat
  | (.string bytes, d) => bytes.length + uptoBulk d + 1
  | (_, d) => uptoBulk d + 1
 end
def uptoSmall : (H : Type) → List (DataW H) → Bool := fun _ ds => decide (uptoBulkAll ds ≤ 1048576)
def OpenSpec.upto (s : _root_.Go.ChangeSpec) : _root_.Go.OpenSpec := { _root_.Go.OpenSpec.ofChange s with cond := some uptoSmall }

/-- 'palinodelaw21.UndoAll', WHERE WHAT IT READS IS OF BULK AT MOST 1048576: true; the input reads as it did. -/
def undoAllUptoRow : OpenClaim := { program := "ytmjngohmcljfjaagreat", sum := "8db68b23874f675f6068518e0424f201e40f70793760a5fd5c8265f0b52316d9", func := "palinode/palinodelaw21.UndoAll", spec := "undoAll", inPlace := ["internal/abi.NoEscape", "maps.clone"], unfollowed := true, recurses := true, apart := false, narrowed := true }
def UndoAllUptoSaid : Prop := undoAllUptoRow.holds Tryz.pinned (OpenSpec.upto undoAllSpec)

/-- 'palinodelaw21.UndoLast', WHERE WHAT IT READS IS OF BULK AT MOST 1048576: true; the input reads as it did. -/
def undoLastUptoRow : OpenClaim := { program := "ytmjngohmcljfjaagreat", sum := "8db68b23874f675f6068518e0424f201e40f70793760a5fd5c8265f0b52316d9", func := "palinode/palinodelaw21.UndoLast", spec := "undoLast", inPlace := ["internal/abi.NoEscape", "maps.clone"], unfollowed := true, recurses := true, apart := false, narrowed := true }
def UndoLastUptoSaid : Prop := undoLastUptoRow.holds Tryz.pinned (OpenSpec.upto undoLastSpec)

/-- 'palinodelaw21.UndoWithout', WHERE WHAT IT READS IS OF BULK AT MOST 1048576: true; the input reads as it did. -/
def undoWithoutUptoRow : OpenClaim := { program := "ytmjngohmcljfjaagreat", sum := "8db68b23874f675f6068518e0424f201e40f70793760a5fd5c8265f0b52316d9", func := "palinode/palinodelaw21.UndoWithout", spec := "undoWithout", inPlace := ["internal/abi.NoEscape", "maps.clone"], unfollowed := true, recurses := true, apart := false, narrowed := true }
def UndoWithoutUptoSaid : Prop := undoWithoutUptoRow.holds Tryz.pinned (OpenSpec.upto undoWithoutSpec)

/-- 'palinodelaw21.UndoOrder', WHERE WHAT IT READS IS OF BULK AT MOST 1048576: true; the input reads as it did. -/
def undoOrderUptoRow : OpenClaim := { program := "ytmjngohmcljfjaagreat", sum := "8db68b23874f675f6068518e0424f201e40f70793760a5fd5c8265f0b52316d9", func := "palinode/palinodelaw21.UndoOrder", spec := "undoOrder", inPlace := ["internal/abi.NoEscape", "maps.clone"], unfollowed := true, recurses := true, apart := false, narrowed := true }
def UndoOrderUptoSaid : Prop := undoOrderUptoRow.holds Tryz.pinned (OpenSpec.upto undoOrderSpec)

/-- 'palinodelaw20.EngineElder', WHERE WHAT IT READS IS OF BULK AT MOST 1048576: true; the input reads as it did. -/
def engineElderUptoRow : OpenClaim := { program := "ytmjngohmcljfjaagreat", sum := "8db68b23874f675f6068518e0424f201e40f70793760a5fd5c8265f0b52316d9", func := "palinode/palinodelaw20.EngineElder", spec := "engineElder", inPlace := ["internal/abi.NoEscape", "maps.clone"], unfollowed := true, recurses := true, apart := false, narrowed := true }
def EngineElderUptoSaid : Prop := engineElderUptoRow.holds Tryz.pinned (OpenSpec.upto engineElderSpec)

/-- 'palinodelaw20.EnginePlays', WHERE WHAT IT READS IS OF BULK AT MOST 1048576: true; the input reads as it did. -/
def enginePlaysUptoRow : OpenClaim := { program := "ytmjngohmcljfjaagreat", sum := "8db68b23874f675f6068518e0424f201e40f70793760a5fd5c8265f0b52316d9", func := "palinode/palinodelaw20.EnginePlays", spec := "enginePlays", inPlace := ["internal/abi.NoEscape", "maps.clone"], unfollowed := true, recurses := true, apart := false, narrowed := true }
def EnginePlaysUptoSaid : Prop := enginePlaysUptoRow.holds Tryz.pinned (OpenSpec.upto enginePlaysSpec)

/-- 'palinodelaw20.EngineTwice', WHERE WHAT IT READS IS OF BULK AT MOST 1048576: true; the input reads as it did. -/
def engineTwiceUptoRow : OpenClaim := { program := "ytmjngohmcljfjaagreat", sum := "8db68b23874f675f6068518e0424f201e40f70793760a5fd5c8265f0b52316d9", func := "palinode/palinodelaw20.EngineTwice", spec := "engineTwice", inPlace := ["internal/abi.NoEscape", "maps.clone"], unfollowed := true, recurses := true, apart := false, narrowed := true }
def EngineTwiceUptoSaid : Prop := engineTwiceUptoRow.holds Tryz.pinned (OpenSpec.upto engineTwiceSpec)

/-- 'palinodelaw20.EngineForgets', WHERE WHAT IT READS IS OF BULK AT MOST 1048576: true; the input reads as it did. -/
def engineForgetsUptoRow : OpenClaim := { program := "ytmjngohmcljfjaagreat", sum := "8db68b23874f675f6068518e0424f201e40f70793760a5fd5c8265f0b52316d9", func := "palinode/palinodelaw20.EngineForgets", spec := "engineForgets", inPlace := ["internal/abi.NoEscape", "maps.clone"], unfollowed := true, recurses := true, apart := false, narrowed := true }
def EngineForgetsUptoSaid : Prop := engineForgetsUptoRow.holds Tryz.pinned (OpenSpec.upto engineForgetsSpec)

/-- 'palinodelaw20.EngineCopies', WHERE WHAT IT READS IS OF BULK AT MOST 1048576: true; the input reads as it did. -/
def engineCopiesUptoRow : OpenClaim := { program := "ytmjngohmcljfjaagreat", sum := "8db68b23874f675f6068518e0424f201e40f70793760a5fd5c8265f0b52316d9", func := "palinode/palinodelaw20.EngineCopies", spec := "engineCopies", inPlace := ["internal/abi.NoEscape", "maps.clone"], unfollowed := true, recurses := true, apart := false, narrowed := true }
def EngineCopiesUptoSaid : Prop := engineCopiesUptoRow.holds Tryz.pinned (OpenSpec.upto engineCopiesSpec)

end Rows
end Go.Proofs.YtmjngohmcljfjaaGreat
