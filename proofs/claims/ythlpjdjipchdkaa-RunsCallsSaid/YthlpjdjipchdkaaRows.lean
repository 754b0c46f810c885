/-
  No cell of these rows narrows 'for every input' (looked for: loops, veiled, ifaces, maps, wideKeys, modest, calm, conditions, laid).
  DERIVED. THE GIVEN ROWS OF THIS SEAT. 4 by the template 'for every input the law returns true; each argument reads behind the call as it read before'; 0 by the template 'total and deterministic' (their statements: YthlpjdjipchdkaaTotals.lean).
  GIVEN WITH THE SEED: the statements are not yours to turn. If you find one false, say at which input.
  Laid BY PROGRAM, IN A SANDBOX (cutbox-rows.mjs): the forced cells as the released guide's own fill.sh prints them over the translation a6c2c0fd6c1112f3… (all of the seat's roots in one cut). By AI agents, Wed Nov 11 2026. No macro, syntax, notation, axiom, sorry.
-/
import Derived.Test.YthlpjdjipchdkaaChecked
import GoSem.Claim
import GoSem.ClaimJoined
import GoSem.ClaimMapViews
import Derived.JoinedTies
import Derived.KernelRfl
namespace Go.Proofs.Ythlpjdjipchdkaa
/- THE CELL 'sum', in the pinned program and in every row, IS THE sha256 OF THE DUMP (.gsa) THAT YthlpjdjipchdkaaProg.lean LOADS. Nothing in Lean hashes anything: it is a label: what it is worth is what the hold of that sum in a sandbox is worth. -/
noncomputable def Try.pinned : Pinned := { name := "ythlpjdjipchdkaa", sum := "a6c2c0fd6c1112f3b3238701cbe134ae151db1e1c2b23d3ad59c8eaa10b356f5", checked := Try.checked }
namespace Rows
def none {H : Type} : Left H := { results := [], args := [] }

/-- 'offshootlaw10.RunsFew': WHATEVER THE INPUT: true; the input reads as it did. -/
def runsFewSpec : ChangeSpec := { name := "runsFew", fn := fun _ => fun
  | [d] => { results := [.lit (.bool true)], args := [d] }
  | _ => none }
def runsFewRow : OpenClaim := { program := "ythlpjdjipchdkaa", sum := "a6c2c0fd6c1112f3b3238701cbe134ae151db1e1c2b23d3ad59c8eaa10b356f5", func := "offshoot/offshootlaw10.RunsFew", spec := "runsFew", inPlace := ["slices.overlaps[offshoot/runs.run]", "internal/abi.NoEscape"], unfollowed := true, recurses := true, apart := false }
def RunsFewSaid : Prop := runsFewRow.holds Try.pinned (OpenSpec.ofChange runsFewSpec)

/-- ITS FALSE NEIGHBOUR: 'it returns false'. Refute it at one input. -/
def runsFewWrong : ChangeSpec := { name := "runsFew", fn := fun _ => fun
  | [d] => { results := [.lit (.bool false)], args := [d] }
  | _ => none }
def RunsFewWrongFalsely : Prop := runsFewRow.holds Try.pinned (OpenSpec.ofChange runsFewWrong)

/-- 'offshootlaw10.RunsCalls': WHATEVER THE INPUT: true; the input reads as it did. -/
def runsCallsSpec : ChangeSpec := { name := "runsCalls", fn := fun _ => fun
  | [d1, d2, d3] => { results := [.lit (.bool true)], args := [d1, d2, d3] }
  | _ => none }
def runsCallsRow : OpenClaim := { program := "ythlpjdjipchdkaa", sum := "a6c2c0fd6c1112f3b3238701cbe134ae151db1e1c2b23d3ad59c8eaa10b356f5", func := "offshoot/offshootlaw10.RunsCalls", spec := "runsCalls", inPlace := ["slices.overlaps[offshoot/runs.run]", "internal/abi.NoEscape"], unfollowed := true, recurses := true, apart := false }
def RunsCallsSaid : Prop := runsCallsRow.holds Try.pinned (OpenSpec.ofChange runsCallsSpec)

/-- ITS FALSE NEIGHBOUR: 'it returns false'. Refute it at one input. -/
def runsCallsWrong : ChangeSpec := { name := "runsCalls", fn := fun _ => fun
  | [d1, d2, d3] => { results := [.lit (.bool false)], args := [d1, d2, d3] }
  | _ => none }
def RunsCallsWrongFalsely : Prop := runsCallsRow.holds Try.pinned (OpenSpec.ofChange runsCallsWrong)

/-- 'offshootlaw10.RunsPlaces': WHATEVER THE INPUT: true; the input reads as it did. -/
def runsPlacesSpec : ChangeSpec := { name := "runsPlaces", fn := fun _ => fun
  | [d] => { results := [.lit (.bool true)], args := [d] }
  | _ => none }
def runsPlacesRow : OpenClaim := { program := "ythlpjdjipchdkaa", sum := "a6c2c0fd6c1112f3b3238701cbe134ae151db1e1c2b23d3ad59c8eaa10b356f5", func := "offshoot/offshootlaw10.RunsPlaces", spec := "runsPlaces", inPlace := ["slices.overlaps[offshoot/runs.run]", "internal/abi.NoEscape"], unfollowed := true, recurses := true, apart := false }
def RunsPlacesSaid : Prop := runsPlacesRow.holds Try.pinned (OpenSpec.ofChange runsPlacesSpec)

/-- ITS FALSE NEIGHBOUR: 'it returns false'. Refute it at one input. -/
def runsPlacesWrong : ChangeSpec := { name := "runsPlaces", fn := fun _ => fun
  | [d] => { results := [.lit (.bool false)], args := [d] }
  | _ => none }
def RunsPlacesWrongFalsely : Prop := runsPlacesRow.holds Try.pinned (OpenSpec.ofChange runsPlacesWrong)

/-- 'offshootlaw10.RunsCut': WHATEVER THE INPUT: true; the input reads as it did. -/
def runsCutSpec : ChangeSpec := { name := "runsCut", fn := fun _ => fun
  | [d1, d2] => { results := [.lit (.bool true)], args := [d1, d2] }
  | _ => none }
def runsCutRow : OpenClaim := { program := "ythlpjdjipchdkaa", sum := "a6c2c0fd6c1112f3b3238701cbe134ae151db1e1c2b23d3ad59c8eaa10b356f5", func := "offshoot/offshootlaw10.RunsCut", spec := "runsCut", inPlace := ["slices.overlaps[offshoot/runs.run]", "internal/abi.NoEscape"], unfollowed := true, recurses := true, apart := false }
def RunsCutSaid : Prop := runsCutRow.holds Try.pinned (OpenSpec.ofChange runsCutSpec)

/-- ITS FALSE NEIGHBOUR: 'it returns false'. Refute it at one input. -/
def runsCutWrong : ChangeSpec := { name := "runsCut", fn := fun _ => fun
  | [d1, d2] => { results := [.lit (.bool false)], args := [d1, d2] }
  | _ => none }
def RunsCutWrongFalsely : Prop := runsCutRow.holds Try.pinned (OpenSpec.ofChange runsCutWrong)

/- THE SECOND FORM. 'bulk': how many values and letters a reading holds, each counted each time it is reached (what is shared counts as often as it is met; a slice's spare places count too). A statement '..UptoSaid' is the law's where the arguments, and the package variables that the reading takes, are together of bulk at most 1048576: NARROWER than '..Said'. Prove '..Said' where nothing that the law and all that it calls make is longer than what came in: it says more and counts as full. Else prove '..UptoSaid'. A law counts once. -/
mutual
def uptoBulk {H : Type} : DataW H → Nat
  | .lit (.string bytes) => bytes.length + 1
  | .lit _ => 1
  | .nil => 1
  | .ptr d => uptoBulk d + 1
  | .slice elems spare => uptoBulkAll elems + uptoBulkAll spare + 1
  | .agg parts => uptoBulkAll parts + 1
  | .iface _ d => uptoBulk d + 1
  | .map entries => uptoBulkEntries entries + 1
  | .held _ => 1
def uptoBulkAll {H : Type} : List (DataW H) → Nat
  | [] => 0
  | d :: r => uptoBulk d + uptoBulkAll r
def uptoBulkEntries {H : Type} : List (Lit × DataW H) → Nat
  | [] => 0
  | x :: r => uptoBulkEntry x + uptoBulkEntries r
def uptoBulkEntry {H : Type} : Lit × DataW H → Nat
  | (.string bytes, d) => bytes.length + uptoBulk d + 1
  | (_, d) => uptoBulk d + 1
 end
def uptoSmall : (H : Type) → List (DataW H) → Bool := fun _ ds => decide (uptoBulkAll ds ≤ 1048576)
def OpenSpec.upto (s : _root_.Go.ChangeSpec) : _root_.Go.OpenSpec := { _root_.Go.OpenSpec.ofChange s with cond := some uptoSmall }

/-- 'offshootlaw10.RunsFew', WHERE WHAT IT READS IS OF BULK AT MOST 1048576: true; the input reads as it did. -/
def runsFewUptoRow : OpenClaim := { program := "ythlpjdjipchdkaa", sum := "a6c2c0fd6c1112f3b3238701cbe134ae151db1e1c2b23d3ad59c8eaa10b356f5", func := "offshoot/offshootlaw10.RunsFew", spec := "runsFew", inPlace := ["slices.overlaps[offshoot/runs.run]", "internal/abi.NoEscape"], unfollowed := true, recurses := true, apart := false, narrowed := true }
def RunsFewUptoSaid : Prop := runsFewUptoRow.holds Try.pinned (OpenSpec.upto runsFewSpec)

/-- 'offshootlaw10.RunsCalls', WHERE WHAT IT READS IS OF BULK AT MOST 1048576: true; the input reads as it did. -/
def runsCallsUptoRow : OpenClaim := { program := "ythlpjdjipchdkaa", sum := "a6c2c0fd6c1112f3b3238701cbe134ae151db1e1c2b23d3ad59c8eaa10b356f5", func := "offshoot/offshootlaw10.RunsCalls", spec := "runsCalls", inPlace := ["slices.overlaps[offshoot/runs.run]", "internal/abi.NoEscape"], unfollowed := true, recurses := true, apart := false, narrowed := true }
def RunsCallsUptoSaid : Prop := runsCallsUptoRow.holds Try.pinned (OpenSpec.upto runsCallsSpec)

/-- 'offshootlaw10.RunsPlaces', WHERE WHAT IT READS IS OF BULK AT MOST 1048576: true; the input reads as it did. -/
def runsPlacesUptoRow : OpenClaim := { program := "ythlpjdjipchdkaa", sum := "a6c2c0fd6c1112f3b3238701cbe134ae151db1e1c2b23d3ad59c8eaa10b356f5", func := "offshoot/offshootlaw10.RunsPlaces", spec := "runsPlaces", inPlace := ["slices.overlaps[offshoot/runs.run]", "internal/abi.NoEscape"], unfollowed := true, recurses := true, apart := false, narrowed := true }
def RunsPlacesUptoSaid : Prop := runsPlacesUptoRow.holds Try.pinned (OpenSpec.upto runsPlacesSpec)

/-- 'offshootlaw10.RunsCut', WHERE WHAT IT READS IS OF BULK AT MOST 1048576: true; the input reads as it did. -/
def runsCutUptoRow : OpenClaim := { program := "ythlpjdjipchdkaa", sum := "a6c2c0fd6c1112f3b3238701cbe134ae151db1e1c2b23d3ad59c8eaa10b356f5", func := "offshoot/offshootlaw10.RunsCut", spec := "runsCut", inPlace := ["slices.overlaps[offshoot/runs.run]", "internal/abi.NoEscape"], unfollowed := true, recurses := true, apart := false, narrowed := true }
def RunsCutUptoSaid : Prop := runsCutUptoRow.holds Try.pinned (OpenSpec.upto runsCutSpec)

end Rows
end Go.Proofs.Ythlpjdjipchdkaa
