/-
  No cell of these rows narrows 'for every input' (looked for: loops, veiled, ifaces, maps, wideKeys, modest, calm, conditions, laid).
  DERIVED. THE GIVEN ROWS OF THIS SEAT. 11 by the template 'for every input the law returns true; each argument reads behind the call as it read before'; 0 by the template 'total and deterministic' (their statements: YtioampofolilnaaGreatTotals.lean).
  GIVEN WITH THE SEED: the statements are not yours to turn. If you find one false, say at which input.
  Laid BY PROGRAM, IN A SANDBOX (cutbox-rows.mjs): the forced cells as the released guide's own fill.sh prints them over the translation 8d77d08af853eebc… (all of the seat's roots in one cut). By AI agents, Wed Nov 11 2026. No macro, syntax, notation, axiom, sorry.
-/
import Derived.Test.YtioampofolilnaaGreatChecked
import GoSem.Claim
import GoSem.ClaimJoined
import GoSem.ClaimMapViews
import Derived.JoinedTies
import Derived.KernelRfl
namespace Go.Proofs.YtioampofolilnaaGreat
/- THE CELL 'sum', in the pinned program and in every row, IS THE sha256 OF THE DUMP (.gsa) THAT YtioampofolilnaaGreatProg.lean LOADS. Nothing in Lean hashes anything: it is a label: what it is worth is what the hold of that sum in a sandbox is worth. -/
noncomputable def Tryz.pinned : Pinned := { name := "ytioampofolilnaagreat", sum := "8d77d08af853eebc08eb6c9d33e6a38f93503dc1c44286ca7dc72c9b64a1f58e", checked := Tryz.checked }
namespace Rows
def none {H : Type} : Left H := { results := [], args := [] }

/-- 'palinodelaw20.EnginePlays': WHATEVER THE INPUT: true; the input reads as it did. -/
def enginePlaysSpec : ChangeSpec := { name := "enginePlays", fn := fun _ => fun
  | [d] => { results := [.lit (.bool true)], args := [d] }
  | _ => none }
def enginePlaysRow : OpenClaim := { program := "ytioampofolilnaagreat", sum := "8d77d08af853eebc08eb6c9d33e6a38f93503dc1c44286ca7dc72c9b64a1f58e", func := "palinode/palinodelaw20.EnginePlays", spec := "enginePlays", inPlace := ["internal/abi.NoEscape", "maps.clone"], unfollowed := true, recurses := true, apart := false }
def EnginePlaysSaid : Prop := enginePlaysRow.holds Tryz.pinned (OpenSpec.ofChange enginePlaysSpec)

/-- ITS FALSE NEIGHBOUR: 'it returns false'. Refute it at one input. -/
def enginePlaysWrong : ChangeSpec := { name := "enginePlays", fn := fun _ => fun
  | [d] => { results := [.lit (.bool false)], args := [d] }
  | _ => none }
def EnginePlaysWrongFalsely : Prop := enginePlaysRow.holds Tryz.pinned (OpenSpec.ofChange enginePlaysWrong)

/-- 'palinodelaw23.GcTells': WHATEVER THE INPUT: true; the input reads as it did. -/
def gcTellsSpec : ChangeSpec := { name := "gcTells", fn := fun _ => fun
  | [d1, d2] => { results := [.lit (.bool true)], args := [d1, d2] }
  | _ => none }
def gcTellsRow : OpenClaim := { program := "ytioampofolilnaagreat", sum := "8d77d08af853eebc08eb6c9d33e6a38f93503dc1c44286ca7dc72c9b64a1f58e", func := "palinode/palinodelaw23.GcTells", spec := "gcTells", inPlace := ["internal/abi.NoEscape", "maps.clone"], unfollowed := true, recurses := true, apart := false }
def GcTellsSaid : Prop := gcTellsRow.holds Tryz.pinned (OpenSpec.ofChange gcTellsSpec)

/-- ITS FALSE NEIGHBOUR: 'it returns false'. Refute it at one input. -/
def gcTellsWrong : ChangeSpec := { name := "gcTells", fn := fun _ => fun
  | [d1, d2] => { results := [.lit (.bool false)], args := [d1, d2] }
  | _ => none }
def GcTellsWrongFalsely : Prop := gcTellsRow.holds Tryz.pinned (OpenSpec.ofChange gcTellsWrong)

/-- 'palinodelaw23.GcClean': WHATEVER THE INPUT: true; the input reads as it did. -/
def gcCleanSpec : ChangeSpec := { name := "gcClean", fn := fun _ => fun
  | [d] => { results := [.lit (.bool true)], args := [d] }
  | _ => none }
def gcCleanRow : OpenClaim := { program := "ytioampofolilnaagreat", sum := "8d77d08af853eebc08eb6c9d33e6a38f93503dc1c44286ca7dc72c9b64a1f58e", func := "palinode/palinodelaw23.GcClean", spec := "gcClean", inPlace := ["internal/abi.NoEscape", "maps.clone"], unfollowed := true, recurses := true, apart := false }
def GcCleanSaid : Prop := gcCleanRow.holds Tryz.pinned (OpenSpec.ofChange gcCleanSpec)

/-- ITS FALSE NEIGHBOUR: 'it returns false'. Refute it at one input. -/
def gcCleanWrong : ChangeSpec := { name := "gcClean", fn := fun _ => fun
  | [d] => { results := [.lit (.bool false)], args := [d] }
  | _ => none }
def GcCleanWrongFalsely : Prop := gcCleanRow.holds Tryz.pinned (OpenSpec.ofChange gcCleanWrong)

/-- 'palinodelaw23.GcSteps': WHATEVER THE INPUT: true; the input reads as it did. -/
def gcStepsSpec : ChangeSpec := { name := "gcSteps", fn := fun _ => fun
  | [d] => { results := [.lit (.bool true)], args := [d] }
  | _ => none }
def gcStepsRow : OpenClaim := { program := "ytioampofolilnaagreat", sum := "8d77d08af853eebc08eb6c9d33e6a38f93503dc1c44286ca7dc72c9b64a1f58e", func := "palinode/palinodelaw23.GcSteps", spec := "gcSteps", inPlace := ["internal/abi.NoEscape", "maps.clone"], unfollowed := true, recurses := true, apart := false }
def GcStepsSaid : Prop := gcStepsRow.holds Tryz.pinned (OpenSpec.ofChange gcStepsSpec)

/-- ITS FALSE NEIGHBOUR: 'it returns false'. Refute it at one input. -/
def gcStepsWrong : ChangeSpec := { name := "gcSteps", fn := fun _ => fun
  | [d] => { results := [.lit (.bool false)], args := [d] }
  | _ => none }
def GcStepsWrongFalsely : Prop := gcStepsRow.holds Tryz.pinned (OpenSpec.ofChange gcStepsWrong)

/-- 'palinodelaw23.GcPlain': WHATEVER THE INPUT: true; the input reads as it did. -/
def gcPlainSpec : ChangeSpec := { name := "gcPlain", fn := fun _ => fun
  | [d1, d2, d3, d4] => { results := [.lit (.bool true)], args := [d1, d2, d3, d4] }
  | _ => none }
def gcPlainRow : OpenClaim := { program := "ytioampofolilnaagreat", sum := "8d77d08af853eebc08eb6c9d33e6a38f93503dc1c44286ca7dc72c9b64a1f58e", func := "palinode/palinodelaw23.GcPlain", spec := "gcPlain", inPlace := ["internal/abi.NoEscape", "maps.clone"], unfollowed := true, recurses := true, apart := false }
def GcPlainSaid : Prop := gcPlainRow.holds Tryz.pinned (OpenSpec.ofChange gcPlainSpec)

/-- ITS FALSE NEIGHBOUR: 'it returns false'. Refute it at one input. -/
def gcPlainWrong : ChangeSpec := { name := "gcPlain", fn := fun _ => fun
  | [d1, d2, d3, d4] => { results := [.lit (.bool false)], args := [d1, d2, d3, d4] }
  | _ => none }
def GcPlainWrongFalsely : Prop := gcPlainRow.holds Tryz.pinned (OpenSpec.ofChange gcPlainWrong)

/-- 'palinodelaw23.GcAgain': WHATEVER THE INPUT: true; the input reads as it did. -/
def gcAgainSpec : ChangeSpec := { name := "gcAgain", fn := fun _ => fun
  | [d1, d2] => { results := [.lit (.bool true)], args := [d1, d2] }
  | _ => none }
def gcAgainRow : OpenClaim := { program := "ytioampofolilnaagreat", sum := "8d77d08af853eebc08eb6c9d33e6a38f93503dc1c44286ca7dc72c9b64a1f58e", func := "palinode/palinodelaw23.GcAgain", spec := "gcAgain", inPlace := ["internal/abi.NoEscape", "maps.clone"], unfollowed := true, recurses := true, apart := false }
def GcAgainSaid : Prop := gcAgainRow.holds Tryz.pinned (OpenSpec.ofChange gcAgainSpec)

/-- ITS FALSE NEIGHBOUR: 'it returns false'. Refute it at one input. -/
def gcAgainWrong : ChangeSpec := { name := "gcAgain", fn := fun _ => fun
  | [d1, d2] => { results := [.lit (.bool false)], args := [d1, d2] }
  | _ => none }
def GcAgainWrongFalsely : Prop := gcAgainRow.holds Tryz.pinned (OpenSpec.ofChange gcAgainWrong)

/-- 'palinodelaw22.DiffTells': WHATEVER THE INPUT: true; the input reads as it did. -/
def diffTellsSpec : ChangeSpec := { name := "diffTells", fn := fun _ => fun
  | [d1, d2, d3] => { results := [.lit (.bool true)], args := [d1, d2, d3] }
  | _ => none }
def diffTellsRow : OpenClaim := { program := "ytioampofolilnaagreat", sum := "8d77d08af853eebc08eb6c9d33e6a38f93503dc1c44286ca7dc72c9b64a1f58e", func := "palinode/palinodelaw22.DiffTells", spec := "diffTells", inPlace := ["internal/abi.NoEscape", "maps.clone"], unfollowed := true, recurses := true, apart := false }
def DiffTellsSaid : Prop := diffTellsRow.holds Tryz.pinned (OpenSpec.ofChange diffTellsSpec)

/-- ITS FALSE NEIGHBOUR: 'it returns false'. Refute it at one input. -/
def diffTellsWrong : ChangeSpec := { name := "diffTells", fn := fun _ => fun
  | [d1, d2, d3] => { results := [.lit (.bool false)], args := [d1, d2, d3] }
  | _ => none }
def DiffTellsWrongFalsely : Prop := diffTellsRow.holds Tryz.pinned (OpenSpec.ofChange diffTellsWrong)

/-- 'palinodelaw22.DiffBack': WHATEVER THE INPUT: true; the input reads as it did. -/
def diffBackSpec : ChangeSpec := { name := "diffBack", fn := fun _ => fun
  | [d1, d2, d3] => { results := [.lit (.bool true)], args := [d1, d2, d3] }
  | _ => none }
def diffBackRow : OpenClaim := { program := "ytioampofolilnaagreat", sum := "8d77d08af853eebc08eb6c9d33e6a38f93503dc1c44286ca7dc72c9b64a1f58e", func := "palinode/palinodelaw22.DiffBack", spec := "diffBack", inPlace := ["internal/abi.NoEscape", "maps.clone"], unfollowed := true, recurses := true, apart := false }
def DiffBackSaid : Prop := diffBackRow.holds Tryz.pinned (OpenSpec.ofChange diffBackSpec)

/-- ITS FALSE NEIGHBOUR: 'it returns false'. Refute it at one input. -/
def diffBackWrong : ChangeSpec := { name := "diffBack", fn := fun _ => fun
  | [d1, d2, d3] => { results := [.lit (.bool false)], args := [d1, d2, d3] }
  | _ => none }
def DiffBackWrongFalsely : Prop := diffBackRow.holds Tryz.pinned (OpenSpec.ofChange diffBackWrong)

/-- 'palinodelaw22.DiffDoes': WHATEVER THE INPUT: true; the input reads as it did. -/
def diffDoesSpec : ChangeSpec := { name := "diffDoes", fn := fun _ => fun
  | [d1, d2, d3] => { results := [.lit (.bool true)], args := [d1, d2, d3] }
  | _ => none }
def diffDoesRow : OpenClaim := { program := "ytioampofolilnaagreat", sum := "8d77d08af853eebc08eb6c9d33e6a38f93503dc1c44286ca7dc72c9b64a1f58e", func := "palinode/palinodelaw22.DiffDoes", spec := "diffDoes", inPlace := ["internal/abi.NoEscape", "maps.clone"], unfollowed := true, recurses := true, apart := false }
def DiffDoesSaid : Prop := diffDoesRow.holds Tryz.pinned (OpenSpec.ofChange diffDoesSpec)

/-- ITS FALSE NEIGHBOUR: 'it returns false'. Refute it at one input. -/
def diffDoesWrong : ChangeSpec := { name := "diffDoes", fn := fun _ => fun
  | [d1, d2, d3] => { results := [.lit (.bool false)], args := [d1, d2, d3] }
  | _ => none }
def DiffDoesWrongFalsely : Prop := diffDoesRow.holds Tryz.pinned (OpenSpec.ofChange diffDoesWrong)

/-- 'palinodelaw22.DiffToggles': WHATEVER THE INPUT: true; the input reads as it did. -/
def diffTogglesSpec : ChangeSpec := { name := "diffToggles", fn := fun _ => fun
  | [d1, d2, d3] => { results := [.lit (.bool true)], args := [d1, d2, d3] }
  | _ => none }
def diffTogglesRow : OpenClaim := { program := "ytioampofolilnaagreat", sum := "8d77d08af853eebc08eb6c9d33e6a38f93503dc1c44286ca7dc72c9b64a1f58e", func := "palinode/palinodelaw22.DiffToggles", spec := "diffToggles", inPlace := ["internal/abi.NoEscape", "maps.clone"], unfollowed := true, recurses := true, apart := false }
def DiffTogglesSaid : Prop := diffTogglesRow.holds Tryz.pinned (OpenSpec.ofChange diffTogglesSpec)

/-- ITS FALSE NEIGHBOUR: 'it returns false'. Refute it at one input. -/
def diffTogglesWrong : ChangeSpec := { name := "diffToggles", fn := fun _ => fun
  | [d1, d2, d3] => { results := [.lit (.bool false)], args := [d1, d2, d3] }
  | _ => none }
def DiffTogglesWrongFalsely : Prop := diffTogglesRow.holds Tryz.pinned (OpenSpec.ofChange diffTogglesWrong)

/-- 'palinodelaw22.DiffEdits': WHATEVER THE INPUT: true; the input reads as it did. -/
def diffEditsSpec : ChangeSpec := { name := "diffEdits", fn := fun _ => fun
  | [d1, d2] => { results := [.lit (.bool true)], args := [d1, d2] }
  | _ => none }
def diffEditsRow : OpenClaim := { program := "ytioampofolilnaagreat", sum := "8d77d08af853eebc08eb6c9d33e6a38f93503dc1c44286ca7dc72c9b64a1f58e", func := "palinode/palinodelaw22.DiffEdits", spec := "diffEdits", inPlace := ["internal/abi.NoEscape", "maps.clone"], unfollowed := true, recurses := true, apart := false }
def DiffEditsSaid : Prop := diffEditsRow.holds Tryz.pinned (OpenSpec.ofChange diffEditsSpec)

/-- ITS FALSE NEIGHBOUR: 'it returns false'. Refute it at one input. -/
def diffEditsWrong : ChangeSpec := { name := "diffEdits", fn := fun _ => fun
  | [d1, d2] => { results := [.lit (.bool false)], args := [d1, d2] }
  | _ => none }
def DiffEditsWrongFalsely : Prop := diffEditsRow.holds Tryz.pinned (OpenSpec.ofChange diffEditsWrong)

/- THE SECOND FORM. 'bulk': how many values and letters a reading holds, each counted each time it is reached (what is shared counts as often as it is met; a slice's spare places count too). A statement '..UptoSaid' is the law's where the arguments, and the package variables that the reading takes, are together of bulk at most 1048576: NARROWER than '..Said'. Prove '..Said' where nothing that the law and all that it calls make is longer than what came in: it says more and counts as full. Else prove '..UptoSaid'. A law counts once. -/
mutual
def uptoBulk {H : Type} : DataW H → Nat
  | .lit (.string bytes) => bytes.length + 1
  | .lit _ => 1
  | .nil => 1
  | .ptr d => uptoBulk d + 1
  | .slice elems spare => uptoBulkAll elems + uptoBulkAll spare + 1
  | .agg parts => uptoBulkAll parts + 1
  | .iface _ d => uptoBulk d + 1
  | .map entries => uptoBulkEntries entries + 1
  | .held _ => 1
def uptoBulkAll {H : Type} : List (DataW H) → Nat
  | [] => 0
  | d :: r => uptoBulk d + uptoBulkAll r
def uptoBulkEntries {H : Type} : List (Lit × DataW H) → Nat
  | [] => 0
  | x :: r => uptoBulkEntry x + uptoBulkEntries r
def uptoBulkEntry {H : Type} : Lit × DataW H → Nat
  | (.string bytes, d) => bytes.length + uptoBulk d + 1
  | (_, d) => uptoBulk d + 1
 end
def uptoSmall : (H : Type) → List (DataW H) → Bool := fun _ ds => decide (uptoBulkAll ds ≤ 1048576)
def OpenSpec.upto (s : _root_.Go.ChangeSpec) : _root_.Go.OpenSpec := { _root_.Go.OpenSpec.ofChange s with cond := some uptoSmall }

/-- 'palinodelaw20.EnginePlays', WHERE WHAT IT READS IS OF BULK AT MOST 1048576: true; the input reads as it did. -/
def enginePlaysUptoRow : OpenClaim := { program := "ytioampofolilnaagreat", sum := "8d77d08af853eebc08eb6c9d33e6a38f93503dc1c44286ca7dc72c9b64a1f58e", func := "palinode/palinodelaw20.EnginePlays", spec := "enginePlays", inPlace := ["internal/abi.NoEscape", "maps.clone"], unfollowed := true, recurses := true, apart := false, narrowed := true }
def EnginePlaysUptoSaid : Prop := enginePlaysUptoRow.holds Tryz.pinned (OpenSpec.upto enginePlaysSpec)

/-- 'palinodelaw23.GcTells', WHERE WHAT IT READS IS OF BULK AT MOST 1048576: true; the input reads as it did. -/
def gcTellsUptoRow : OpenClaim := { program := "ytioampofolilnaagreat", sum := "8d77d08af853eebc08eb6c9d33e6a38f93503dc1c44286ca7dc72c9b64a1f58e", func := "palinode/palinodelaw23.GcTells", spec := "gcTells", inPlace := ["internal/abi.NoEscape", "maps.clone"], unfollowed := true, recurses := true, apart := false, narrowed := true }
def GcTellsUptoSaid : Prop := gcTellsUptoRow.holds Tryz.pinned (OpenSpec.upto gcTellsSpec)

/-- 'palinodelaw23.GcClean', WHERE WHAT IT READS IS OF BULK AT MOST 1048576: true; the input reads as it did. -/
def gcCleanUptoRow : OpenClaim := { program := "ytioampofolilnaagreat", sum := "8d77d08af853eebc08eb6c9d33e6a38f93503dc1c44286ca7dc72c9b64a1f58e", func := "palinode/palinodelaw23.GcClean", spec := "gcClean", inPlace := ["internal/abi.NoEscape", "maps.clone"], unfollowed := true, recurses := true, apart := false, narrowed := true }
def GcCleanUptoSaid : Prop := gcCleanUptoRow.holds Tryz.pinned (OpenSpec.upto gcCleanSpec)

/-- 'palinodelaw23.GcSteps', WHERE WHAT IT READS IS OF BULK AT MOST 1048576: true; the input reads as it did. -/
def gcStepsUptoRow : OpenClaim := { program := "ytioampofolilnaagreat", sum := "8d77d08af853eebc08eb6c9d33e6a38f93503dc1c44286ca7dc72c9b64a1f58e", func := "palinode/palinodelaw23.GcSteps", spec := "gcSteps", inPlace := ["internal/abi.NoEscape", "maps.clone"], unfollowed := true, recurses := true, apart := false, narrowed := true }
def GcStepsUptoSaid : Prop := gcStepsUptoRow.holds Tryz.pinned (OpenSpec.upto gcStepsSpec)

/-- 'palinodelaw23.GcPlain', WHERE WHAT IT READS IS OF BULK AT MOST 1048576: true; the input reads as it did. -/
def gcPlainUptoRow : OpenClaim := { program := "ytioampofolilnaagreat", sum := "8d77d08af853eebc08eb6c9d33e6a38f93503dc1c44286ca7dc72c9b64a1f58e", func := "palinode/palinodelaw23.GcPlain", spec := "gcPlain", inPlace := ["internal/abi.NoEscape", "maps.clone"], unfollowed := true, recurses := true, apart := false, narrowed := true }
def GcPlainUptoSaid : Prop := gcPlainUptoRow.holds Tryz.pinned (OpenSpec.upto gcPlainSpec)

/-- 'palinodelaw23.GcAgain', WHERE WHAT IT READS IS OF BULK AT MOST 1048576: true; the input reads as it did. -/
def gcAgainUptoRow : OpenClaim := { program := "ytioampofolilnaagreat", sum := "8d77d08af853eebc08eb6c9d33e6a38f93503dc1c44286ca7dc72c9b64a1f58e", func := "palinode/palinodelaw23.GcAgain", spec := "gcAgain", inPlace := ["internal/abi.NoEscape", "maps.clone"], unfollowed := true, recurses := true, apart := false, narrowed := true }
def GcAgainUptoSaid : Prop := gcAgainUptoRow.holds Tryz.pinned (OpenSpec.upto gcAgainSpec)

/-- 'palinodelaw22.DiffTells', WHERE WHAT IT READS IS OF BULK AT MOST 1048576: true; the input reads as it did. -/
def diffTellsUptoRow : OpenClaim := { program := "ytioampofolilnaagreat", sum := "8d77d08af853eebc08eb6c9d33e6a38f93503dc1c44286ca7dc72c9b64a1f58e", func := "palinode/palinodelaw22.DiffTells", spec := "diffTells", inPlace := ["internal/abi.NoEscape", "maps.clone"], unfollowed := true, recurses := true, apart := false, narrowed := true }
def DiffTellsUptoSaid : Prop := diffTellsUptoRow.holds Tryz.pinned (OpenSpec.upto diffTellsSpec)

/-- 'palinodelaw22.DiffBack', WHERE WHAT IT READS IS OF BULK AT MOST 1048576: true; the input reads as it did. -/
def diffBackUptoRow : OpenClaim := { program := "ytioampofolilnaagreat", sum := "8d77d08af853eebc08eb6c9d33e6a38f93503dc1c44286ca7dc72c9b64a1f58e", func := "palinode/palinodelaw22.DiffBack", spec := "diffBack", inPlace := ["internal/abi.NoEscape", "maps.clone"], unfollowed := true, recurses := true, apart := false, narrowed := true }
def DiffBackUptoSaid : Prop := diffBackUptoRow.holds Tryz.pinned (OpenSpec.upto diffBackSpec)

/-- 'palinodelaw22.DiffDoes', WHERE WHAT IT READS IS OF BULK AT MOST 1048576: true; the input reads as it did. -/
def diffDoesUptoRow : OpenClaim := { program := "ytioampofolilnaagreat", sum := "8d77d08af853eebc08eb6c9d33e6a38f93503dc1c44286ca7dc72c9b64a1f58e", func := "palinode/palinodelaw22.DiffDoes", spec := "diffDoes", inPlace := ["internal/abi.NoEscape", "maps.clone"], unfollowed := true, recurses := true, apart := false, narrowed := true }
def DiffDoesUptoSaid : Prop := diffDoesUptoRow.holds Tryz.pinned (OpenSpec.upto diffDoesSpec)

/-- 'palinodelaw22.DiffToggles', WHERE WHAT IT READS IS OF BULK AT MOST 1048576: true; the input reads as it did. -/
def diffTogglesUptoRow : OpenClaim := { program := "ytioampofolilnaagreat", sum := "8d77d08af853eebc08eb6c9d33e6a38f93503dc1c44286ca7dc72c9b64a1f58e", func := "palinode/palinodelaw22.DiffToggles", spec := "diffToggles", inPlace := ["internal/abi.NoEscape", "maps.clone"], unfollowed := true, recurses := true, apart := false, narrowed := true }
def DiffTogglesUptoSaid : Prop := diffTogglesUptoRow.holds Tryz.pinned (OpenSpec.upto diffTogglesSpec)

/-- 'palinodelaw22.DiffEdits', WHERE WHAT IT READS IS OF BULK AT MOST 1048576: true; the input reads as it did. -/
def diffEditsUptoRow : OpenClaim := { program := "ytioampofolilnaagreat", sum := "8d77d08af853eebc08eb6c9d33e6a38f93503dc1c44286ca7dc72c9b64a1f58e", func := "palinode/palinodelaw22.DiffEdits", spec := "diffEdits", inPlace := ["internal/abi.NoEscape", "maps.clone"], unfollowed := true, recurses := true, apart := false, narrowed := true }
def DiffEditsUptoSaid : Prop := diffEditsUptoRow.holds Tryz.pinned (OpenSpec.upto diffEditsSpec)

end Rows
end Go.Proofs.YtioampofolilnaaGreat
