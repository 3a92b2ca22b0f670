/-
  No cell of these rows narrows 'for every input' (looked for: loops, veiled, ifaces, maps, wideKeys, modest, calm, conditions, laid).
  DERIVED. THE GIVEN ROWS OF THIS SEAT. 3 by the template 'for every input the law returns true; each argument reads behind the call as it read before'; 0 by the template 'total and deterministic' (their statements: YtmjngohmcljfjaaTotals.lean).
  GIVEN WITH THE SEED: the statements are not yours to turn. If you find one false, say at which input.
  Laid BY PROGRAM, IN A SANDBOX (cutbox-rows.mjs): the forced cells as the released guide's own fill.sh prints them over the translation 0f6ce3281dd0ee3d… (all of the seat's roots in one cut). By AI agents, Wed Nov 11 2026. No macro, syntax, notation, axiom, sorry.
-/
import Derived.Test.YtmjngohmcljfjaaChecked
import GoSem.Claim
import GoSem.ClaimJoined
import GoSem.ClaimMapViews
import Derived.JoinedTies
import Derived.KernelRfl
namespace Go.Proofs.Ytmjngohmcljfjaa
/- THE CELL 'sum', in the pinned program and in every row, IS THE sha256 OF THE DUMP (.gsa) THAT YtmjngohmcljfjaaProg.lean LOADS. Nothing in Lean hashes anything: it is a label: what it is worth is what the hold of that sum in a sandbox is worth. -/
noncomputable def Try.pinned : Pinned := { name := "ytmjngohmcljfjaa", sum := "0f6ce3281dd0ee3dd86e3ae69dfe1ffd57e0281a022a0ef5d430121a14da084d", checked := Try.checked }
namespace Rows
def none {H : Type} : Left H := { results := [], args := [] }

/-- 'palinodelaw20.EngineReplay': WHATEVER THE INPUT: true; the input reads as it did. -/
def engineReplaySpec : ChangeSpec := { name := "engineReplay", fn := fun _ => fun
  | [d] => { results := [.lit (.bool true)], args := [d] }
  | _ => none }
def engineReplayRow : OpenClaim := { program := "ytmjngohmcljfjaa", sum := "0f6ce3281dd0ee3dd86e3ae69dfe1ffd57e0281a022a0ef5d430121a14da084d", func := "palinode/palinodelaw20.EngineReplay", spec := "engineReplay", inPlace := ["internal/abi.NoEscape", "maps.clone"], unfollowed := true, recurses := true, apart := false }
def EngineReplaySaid : Prop := engineReplayRow.holds Try.pinned (OpenSpec.ofChange engineReplaySpec)

/-- ITS FALSE NEIGHBOUR: 'it returns false'. Refute it at one input. -/
def engineReplayWrong : ChangeSpec := { name := "engineReplay", fn := fun _ => fun
  | [d] => { results := [.lit (.bool false)], args := [d] }
  | _ => none }
def EngineReplayWrongFalsely : Prop := engineReplayRow.holds Try.pinned (OpenSpec.ofChange engineReplayWrong)

/-- 'palinodelaw20.EngineApart': WHATEVER THE INPUT: true; the input reads as it did. -/
def engineApartSpec : ChangeSpec := { name := "engineApart", fn := fun _ => fun
  | [d1, d2, d3] => { results := [.lit (.bool true)], args := [d1, d2, d3] }
  | _ => none }
def engineApartRow : OpenClaim := { program := "ytmjngohmcljfjaa", sum := "0f6ce3281dd0ee3dd86e3ae69dfe1ffd57e0281a022a0ef5d430121a14da084d", func := "palinode/palinodelaw20.EngineApart", spec := "engineApart", inPlace := ["internal/abi.NoEscape", "maps.clone"], unfollowed := true, recurses := true, apart := false }
def EngineApartSaid : Prop := engineApartRow.holds Try.pinned (OpenSpec.ofChange engineApartSpec)

/-- ITS FALSE NEIGHBOUR: 'it returns false'. Refute it at one input. -/
def engineApartWrong : ChangeSpec := { name := "engineApart", fn := fun _ => fun
  | [d1, d2, d3] => { results := [.lit (.bool false)], args := [d1, d2, d3] }
  | _ => none }
def EngineApartWrongFalsely : Prop := engineApartRow.holds Try.pinned (OpenSpec.ofChange engineApartWrong)

/-- 'palinodelaw20.EngineErrors': WHATEVER THE INPUT: true; the input reads as it did. -/
def engineErrorsSpec : ChangeSpec := { name := "engineErrors", fn := fun _ => fun
  | [d] => { results := [.lit (.bool true)], args := [d] }
  | _ => none }
def engineErrorsRow : OpenClaim := { program := "ytmjngohmcljfjaa", sum := "0f6ce3281dd0ee3dd86e3ae69dfe1ffd57e0281a022a0ef5d430121a14da084d", func := "palinode/palinodelaw20.EngineErrors", spec := "engineErrors", inPlace := ["internal/abi.NoEscape", "maps.clone"], unfollowed := true, recurses := true, apart := false }
def EngineErrorsSaid : Prop := engineErrorsRow.holds Try.pinned (OpenSpec.ofChange engineErrorsSpec)

/-- ITS FALSE NEIGHBOUR: 'it returns false'. Refute it at one input. -/
def engineErrorsWrong : ChangeSpec := { name := "engineErrors", fn := fun _ => fun
  | [d] => { results := [.lit (.bool false)], args := [d] }
  | _ => none }
def EngineErrorsWrongFalsely : Prop := engineErrorsRow.holds Try.pinned (OpenSpec.ofChange engineErrorsWrong)

/- THE SECOND FORM. 'bulk': how many values and letters a reading holds, each counted each time it is reached (what is shared counts as often as it is met; a slice's spare places count too). A statement '..UptoSaid' is the law's where the arguments, and the package variables that the reading takes, are together of bulk at most 1048576: NARROWER than '..Said'. Prove '..Said' where nothing that the law and all that it calls make is longer than what came in: it says more and counts as full. Else prove '..UptoSaid'. A law counts once. -/
mutual
def uptoBulk {H : Type} : DataW H → Nat
  | .lit (.string bytes) => bytes.length + 1
  | .lit _ => 1
  | .nil => 1
  | .ptr d => uptoBulk d + 1
  | .slice elems spare => uptoBulkAll elems + uptoBulkAll spare + 1
  | .agg parts => uptoBulkAll parts + 1
  | .iface _ d => uptoBulk d + 1
  | .map entries => uptoBulkEntries entries + 1
  | .held _ => 1
def uptoBulkAll {H : Type} : List (DataW H) → Nat
  | [] => 0
  | d :: r => uptoBulk d + uptoBulkAll r
def uptoBulkEntries {H : Type} : List (Lit × DataW H) → Nat
  | [] => 0
  | x :: r => uptoBulkEntry x + uptoBulkEntries r
def uptoBulkEntry {H : Type} : Lit × DataW H → Nat
  | (.string bytes, d) => bytes.length + uptoBulk d + 1
  | (_, d) => uptoBulk d + 1
 end
def uptoSmall : (H : Type) → List (DataW H) → Bool := fun _ ds => decide (uptoBulkAll ds ≤ 1048576)
def OpenSpec.upto (s : _root_.Go.ChangeSpec) : _root_.Go.OpenSpec := { _root_.Go.OpenSpec.ofChange s with cond := some uptoSmall }

/-- 'palinodelaw20.EngineReplay', WHERE WHAT IT READS IS OF BULK AT MOST 1048576: true; the input reads as it did. -/
def engineReplayUptoRow : OpenClaim := { program := "ytmjngohmcljfjaa", sum := "0f6ce3281dd0ee3dd86e3ae69dfe1ffd57e0281a022a0ef5d430121a14da084d", func := "palinode/palinodelaw20.EngineReplay", spec := "engineReplay", inPlace := ["internal/abi.NoEscape", "maps.clone"], unfollowed := true, recurses := true, apart := false, narrowed := true }
def EngineReplayUptoSaid : Prop := engineReplayUptoRow.holds Try.pinned (OpenSpec.upto engineReplaySpec)

/-- 'palinodelaw20.EngineApart', WHERE WHAT IT READS IS OF BULK AT MOST 1048576: true; the input reads as it did. -/
def engineApartUptoRow : OpenClaim := { program := "ytmjngohmcljfjaa", sum := "0f6ce3281dd0ee3dd86e3ae69dfe1ffd57e0281a022a0ef5d430121a14da084d", func := "palinode/palinodelaw20.EngineApart", spec := "engineApart", inPlace := ["internal/abi.NoEscape", "maps.clone"], unfollowed := true, recurses := true, apart := false, narrowed := true }
def EngineApartUptoSaid : Prop := engineApartUptoRow.holds Try.pinned (OpenSpec.upto engineApartSpec)

/-- 'palinodelaw20.EngineErrors', WHERE WHAT IT READS IS OF BULK AT MOST 1048576: true; the input reads as it did. -/
def engineErrorsUptoRow : OpenClaim := { program := "ytmjngohmcljfjaa", sum := "0f6ce3281dd0ee3dd86e3ae69dfe1ffd57e0281a022a0ef5d430121a14da084d", func := "palinode/palinodelaw20.EngineErrors", spec := "engineErrors", inPlace := ["internal/abi.NoEscape", "maps.clone"], unfollowed := true, recurses := true, apart := false, narrowed := true }
def EngineErrorsUptoSaid : Prop := engineErrorsUptoRow.holds Try.pinned (OpenSpec.upto engineErrorsSpec)

end Rows
end Go.Proofs.Ytmjngohmcljfjaa
