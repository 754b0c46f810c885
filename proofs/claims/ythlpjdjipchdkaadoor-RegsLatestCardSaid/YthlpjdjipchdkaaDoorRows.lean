/-
  NARROWER THAN 'FOR EVERY INPUT', by the rows' own cells (each row's printed sentence says how): RegsSay: laid · RegsOrders: laid · RegsLatest: laid · RegsApart: laid · MovesLast: laid · MovesOrders: laid · MovesTree: laid · MovesDo: laid.
  DERIVED. THE GIVEN ROWS OF THIS SEAT. 8 by the template 'for every input the law returns true; each argument reads behind the call as it read before'; 0 by the template 'total and deterministic' (their statements: YthlpjdjipchdkaaDoorTotals.lean).
  GIVEN WITH THE SEED: the statements are not yours to turn. If you find one false, say at which input.
  Laid BY PROGRAM, IN A SANDBOX (cutbox-rows.mjs): the forced cells as the released guide's own fill.sh prints them over the translation 5f23798e0bcb9997… (all of the seat's roots in one cut). By AI agents, Wed Nov 11 2026. No macro, syntax, notation, axiom, sorry.
-/
import Derived.Test.YthlpjdjipchdkaaDoorChecked
import GoSem.Claim
import GoSem.ClaimJoined
import GoSem.ClaimMapViews
import Derived.JoinedTies
import Derived.KernelRfl
namespace Go.Proofs.YthlpjdjipchdkaaDoor
/- THE CELL 'sum', in the pinned program and in every row, IS THE sha256 OF THE DUMP (.gsa) THAT YthlpjdjipchdkaaDoorProg.lean LOADS. Nothing in Lean hashes anything: it is a label: what it is worth is what the hold of that sum in a sandbox is worth. -/
noncomputable def Tryd.pinned : Pinned := { name := "ythlpjdjipchdkaadoor", sum := "5f23798e0bcb9997a78b33e815c150ba0cb0bcb3d3b157986717361676471171", checked := Tryd.checked }
namespace Rows
def none {H : Type} : Left H := { results := [], args := [] }

/- WHAT THE LISTED PACKAGE-LEVEL VARIABLES READ AS WHEN THE CALL BEGINS. Each datum BY PROGRAM (the guide's laid-datum.mjs) off the statement by which the dump's own 'gosem.cut.vars' lays the variable. In a bare row this is a premise. The card (YthlpjdjipchdkaaDoorCards.lean) ties it to the program's text. -/
def laid_offshoot_api_Root {H : Type} : DataW H := .agg [.lit (.int .i64 0), .lit (.int .i64 0)]
def laid_offshoot_api_Trash {H : Type} : DataW H := .agg [.lit (.int .i64 1), .lit (.int .i64 0)]

/-- 'offshootlaw15.RegsSay': WHATEVER THE INPUT: true; the input reads as it did. -/
def regsSaySpec : ChangeSpec := { name := "regsSay", fn := fun _ => fun
  | [d1, d2] => { results := [.lit (.bool true)], args := [d1, d2] }
  | _ => none }
def regsSayRow : OpenClaim := { program := "ythlpjdjipchdkaadoor", sum := "5f23798e0bcb9997a78b33e815c150ba0cb0bcb3d3b157986717361676471171", func := "offshoot/offshootlaw15.RegsSay", spec := "regsSay", unfollowed := true, recurses := true, named := ["offshoot/api.Root", "offshoot/api.Trash"], plainKeys := false, apart := false, laid := [("offshoot/api.Root", laid_offshoot_api_Root), ("offshoot/api.Trash", laid_offshoot_api_Trash)] }
def RegsSaySaid : Prop := regsSayRow.holds Tryd.pinned (OpenSpec.ofChange regsSaySpec)

/-- ITS FALSE NEIGHBOUR: 'it returns false'. Refute it at one input. -/
def regsSayWrong : ChangeSpec := { name := "regsSay", fn := fun _ => fun
  | [d1, d2] => { results := [.lit (.bool false)], args := [d1, d2] }
  | _ => none }
def RegsSayWrongFalsely : Prop := regsSayRow.holds Tryd.pinned (OpenSpec.ofChange regsSayWrong)

/-- 'offshootlaw15.RegsOrders': WHATEVER THE INPUT: true; the input reads as it did. -/
def regsOrdersSpec : ChangeSpec := { name := "regsOrders", fn := fun _ => fun
  | [d1, d2] => { results := [.lit (.bool true)], args := [d1, d2] }
  | _ => none }
def regsOrdersRow : OpenClaim := { program := "ythlpjdjipchdkaadoor", sum := "5f23798e0bcb9997a78b33e815c150ba0cb0bcb3d3b157986717361676471171", func := "offshoot/offshootlaw15.RegsOrders", spec := "regsOrders", unfollowed := true, recurses := true, named := ["offshoot/api.Root", "offshoot/api.Trash"], plainKeys := false, apart := false, laid := [("offshoot/api.Root", laid_offshoot_api_Root), ("offshoot/api.Trash", laid_offshoot_api_Trash)] }
def RegsOrdersSaid : Prop := regsOrdersRow.holds Tryd.pinned (OpenSpec.ofChange regsOrdersSpec)

/-- ITS FALSE NEIGHBOUR: 'it returns false'. Refute it at one input. -/
def regsOrdersWrong : ChangeSpec := { name := "regsOrders", fn := fun _ => fun
  | [d1, d2] => { results := [.lit (.bool false)], args := [d1, d2] }
  | _ => none }
def RegsOrdersWrongFalsely : Prop := regsOrdersRow.holds Tryd.pinned (OpenSpec.ofChange regsOrdersWrong)

/-- 'offshootlaw15.RegsLatest': WHATEVER THE INPUT: true; the input reads as it did. -/
def regsLatestSpec : ChangeSpec := { name := "regsLatest", fn := fun _ => fun
  | [d1, d2, d3] => { results := [.lit (.bool true)], args := [d1, d2, d3] }
  | _ => none }
def regsLatestRow : OpenClaim := { program := "ythlpjdjipchdkaadoor", sum := "5f23798e0bcb9997a78b33e815c150ba0cb0bcb3d3b157986717361676471171", func := "offshoot/offshootlaw15.RegsLatest", spec := "regsLatest", unfollowed := true, recurses := true, named := ["offshoot/api.Root", "offshoot/api.Trash"], plainKeys := false, apart := false, laid := [("offshoot/api.Root", laid_offshoot_api_Root), ("offshoot/api.Trash", laid_offshoot_api_Trash)] }
def RegsLatestSaid : Prop := regsLatestRow.holds Tryd.pinned (OpenSpec.ofChange regsLatestSpec)

/-- ITS FALSE NEIGHBOUR: 'it returns false'. Refute it at one input. -/
def regsLatestWrong : ChangeSpec := { name := "regsLatest", fn := fun _ => fun
  | [d1, d2, d3] => { results := [.lit (.bool false)], args := [d1, d2, d3] }
  | _ => none }
def RegsLatestWrongFalsely : Prop := regsLatestRow.holds Tryd.pinned (OpenSpec.ofChange regsLatestWrong)

/-- 'offshootlaw15.RegsApart': WHATEVER THE INPUT: true; the input reads as it did. -/
def regsApartSpec : ChangeSpec := { name := "regsApart", fn := fun _ => fun
  | [d1, d2] => { results := [.lit (.bool true)], args := [d1, d2] }
  | _ => none }
def regsApartRow : OpenClaim := { program := "ythlpjdjipchdkaadoor", sum := "5f23798e0bcb9997a78b33e815c150ba0cb0bcb3d3b157986717361676471171", func := "offshoot/offshootlaw15.RegsApart", spec := "regsApart", unfollowed := true, recurses := true, named := ["offshoot/api.Root", "offshoot/api.Trash"], plainKeys := false, apart := false, laid := [("offshoot/api.Root", laid_offshoot_api_Root), ("offshoot/api.Trash", laid_offshoot_api_Trash)] }
def RegsApartSaid : Prop := regsApartRow.holds Tryd.pinned (OpenSpec.ofChange regsApartSpec)

/-- ITS FALSE NEIGHBOUR: 'it returns false'. Refute it at one input. -/
def regsApartWrong : ChangeSpec := { name := "regsApart", fn := fun _ => fun
  | [d1, d2] => { results := [.lit (.bool false)], args := [d1, d2] }
  | _ => none }
def RegsApartWrongFalsely : Prop := regsApartRow.holds Tryd.pinned (OpenSpec.ofChange regsApartWrong)

/-- 'offshootlaw13.MovesLast': WHATEVER THE INPUT: true; the input reads as it did. -/
def movesLastSpec : ChangeSpec := { name := "movesLast", fn := fun _ => fun
  | [d1, d2, d3] => { results := [.lit (.bool true)], args := [d1, d2, d3] }
  | _ => none }
def movesLastRow : OpenClaim := { program := "ythlpjdjipchdkaadoor", sum := "5f23798e0bcb9997a78b33e815c150ba0cb0bcb3d3b157986717361676471171", func := "offshoot/offshootlaw13.MovesLast", spec := "movesLast", inPlace := ["maps.clone", "slices.overlaps[offshoot/moves.step]"], unfollowed := true, recurses := true, named := ["offshoot/api.Root", "offshoot/api.Trash"], plainKeys := false, apart := false, laid := [("offshoot/api.Root", laid_offshoot_api_Root), ("offshoot/api.Trash", laid_offshoot_api_Trash)] }
def MovesLastSaid : Prop := movesLastRow.holds Tryd.pinned (OpenSpec.ofChange movesLastSpec)

/-- ITS FALSE NEIGHBOUR: 'it returns false'. Refute it at one input. -/
def movesLastWrong : ChangeSpec := { name := "movesLast", fn := fun _ => fun
  | [d1, d2, d3] => { results := [.lit (.bool false)], args := [d1, d2, d3] }
  | _ => none }
def MovesLastWrongFalsely : Prop := movesLastRow.holds Tryd.pinned (OpenSpec.ofChange movesLastWrong)

/-- 'offshootlaw13.MovesOrders': WHATEVER THE INPUT: true; the input reads as it did. -/
def movesOrdersSpec : ChangeSpec := { name := "movesOrders", fn := fun _ => fun
  | [d1, d2] => { results := [.lit (.bool true)], args := [d1, d2] }
  | _ => none }
def movesOrdersRow : OpenClaim := { program := "ythlpjdjipchdkaadoor", sum := "5f23798e0bcb9997a78b33e815c150ba0cb0bcb3d3b157986717361676471171", func := "offshoot/offshootlaw13.MovesOrders", spec := "movesOrders", inPlace := ["maps.clone", "slices.overlaps[offshoot/moves.step]"], unfollowed := true, recurses := true, named := ["offshoot/api.Root", "offshoot/api.Trash"], plainKeys := false, apart := false, laid := [("offshoot/api.Root", laid_offshoot_api_Root), ("offshoot/api.Trash", laid_offshoot_api_Trash)] }
def MovesOrdersSaid : Prop := movesOrdersRow.holds Tryd.pinned (OpenSpec.ofChange movesOrdersSpec)

/-- ITS FALSE NEIGHBOUR: 'it returns false'. Refute it at one input. -/
def movesOrdersWrong : ChangeSpec := { name := "movesOrders", fn := fun _ => fun
  | [d1, d2] => { results := [.lit (.bool false)], args := [d1, d2] }
  | _ => none }
def MovesOrdersWrongFalsely : Prop := movesOrdersRow.holds Tryd.pinned (OpenSpec.ofChange movesOrdersWrong)

/-- 'offshootlaw13.MovesTree': WHATEVER THE INPUT: true; the input reads as it did. -/
def movesTreeSpec : ChangeSpec := { name := "movesTree", fn := fun _ => fun
  | [d] => { results := [.lit (.bool true)], args := [d] }
  | _ => none }
def movesTreeRow : OpenClaim := { program := "ythlpjdjipchdkaadoor", sum := "5f23798e0bcb9997a78b33e815c150ba0cb0bcb3d3b157986717361676471171", func := "offshoot/offshootlaw13.MovesTree", spec := "movesTree", inPlace := ["maps.clone", "slices.overlaps[offshoot/moves.step]"], unfollowed := true, recurses := true, named := ["offshoot/api.Root", "offshoot/api.Trash"], plainKeys := false, apart := false, laid := [("offshoot/api.Root", laid_offshoot_api_Root), ("offshoot/api.Trash", laid_offshoot_api_Trash)] }
def MovesTreeSaid : Prop := movesTreeRow.holds Tryd.pinned (OpenSpec.ofChange movesTreeSpec)

/-- ITS FALSE NEIGHBOUR: 'it returns false'. Refute it at one input. -/
def movesTreeWrong : ChangeSpec := { name := "movesTree", fn := fun _ => fun
  | [d] => { results := [.lit (.bool false)], args := [d] }
  | _ => none }
def MovesTreeWrongFalsely : Prop := movesTreeRow.holds Tryd.pinned (OpenSpec.ofChange movesTreeWrong)

/-- 'offshootlaw13.MovesDo': WHATEVER THE INPUT: true; the input reads as it did. -/
def movesDoSpec : ChangeSpec := { name := "movesDo", fn := fun _ => fun
  | [d1, d2, d3] => { results := [.lit (.bool true)], args := [d1, d2, d3] }
  | _ => none }
def movesDoRow : OpenClaim := { program := "ythlpjdjipchdkaadoor", sum := "5f23798e0bcb9997a78b33e815c150ba0cb0bcb3d3b157986717361676471171", func := "offshoot/offshootlaw13.MovesDo", spec := "movesDo", inPlace := ["maps.clone", "slices.overlaps[offshoot/moves.step]"], unfollowed := true, recurses := true, named := ["offshoot/api.Root", "offshoot/api.Trash"], plainKeys := false, apart := false, laid := [("offshoot/api.Root", laid_offshoot_api_Root), ("offshoot/api.Trash", laid_offshoot_api_Trash)] }
def MovesDoSaid : Prop := movesDoRow.holds Tryd.pinned (OpenSpec.ofChange movesDoSpec)

/-- ITS FALSE NEIGHBOUR: 'it returns false'. Refute it at one input. -/
def movesDoWrong : ChangeSpec := { name := "movesDo", fn := fun _ => fun
  | [d1, d2, d3] => { results := [.lit (.bool false)], args := [d1, d2, d3] }
  | _ => none }
def MovesDoWrongFalsely : Prop := movesDoRow.holds Tryd.pinned (OpenSpec.ofChange movesDoWrong)

/- THE SECOND FORM. 'bulk': how many values and letters a reading holds, each counted each time it is reached (what is shared counts as often as it is met; a slice's spare places count too). A statement '..UptoSaid' is the law's where the arguments, and the package variables that the reading takes, are together of bulk at most 1048576: NARROWER than '..Said'. Prove '..Said' where nothing that the law and all that it calls make is longer than what came in: it says more and counts as full. Else prove '..UptoSaid'. A law counts once. -/
mutual
def uptoBulk {H : Type} : DataW H → Nat
  | .lit (.string bytes) => bytes.length + 1
  | .lit _ => 1
  | .nil => 1
  | .ptr d => uptoBulk d + 1
  | .slice elems spare => uptoBulkAll elems + uptoBulkAll spare + 1
  | .agg parts => uptoBulkAll parts + 1
  | .iface _ d => uptoBulk d + 1
  | .map entries => uptoBulkEntries entries + 1
  | .held _ => 1
def uptoBulkAll {H : Type} : List (DataW H) → Nat
  | [] => 0
  | d :: r => uptoBulk d + uptoBulkAll r
def uptoBulkEntries {H : Type} : List (Lit × DataW H) → Nat
  | [] => 0
  | x :: r => uptoBulkEntry x + uptoBulkEntries r
def uptoBulkEntry {H : Type} : Lit × DataW H → Nat
  | (.string bytes, d) => bytes.length + uptoBulk d + 1
  | (_, d) => uptoBulk d + 1
 end
def uptoSmall : (H : Type) → List (DataW H) → Bool := fun _ ds => decide (uptoBulkAll ds ≤ 1048576)
def OpenSpec.upto (s : _root_.Go.ChangeSpec) : _root_.Go.OpenSpec := { _root_.Go.OpenSpec.ofChange s with cond := some uptoSmall }

/-- 'offshootlaw15.RegsSay', WHERE WHAT IT READS IS OF BULK AT MOST 1048576: true; the input reads as it did. -/
def regsSayUptoRow : OpenClaim := { program := "ythlpjdjipchdkaadoor", sum := "5f23798e0bcb9997a78b33e815c150ba0cb0bcb3d3b157986717361676471171", func := "offshoot/offshootlaw15.RegsSay", spec := "regsSay", unfollowed := true, recurses := true, named := ["offshoot/api.Root", "offshoot/api.Trash"], plainKeys := false, apart := false, laid := [("offshoot/api.Root", laid_offshoot_api_Root), ("offshoot/api.Trash", laid_offshoot_api_Trash)], narrowed := true }
def RegsSayUptoSaid : Prop := regsSayUptoRow.holds Tryd.pinned (OpenSpec.upto regsSaySpec)

/-- 'offshootlaw15.RegsOrders', WHERE WHAT IT READS IS OF BULK AT MOST 1048576: true; the input reads as it did. -/
def regsOrdersUptoRow : OpenClaim := { program := "ythlpjdjipchdkaadoor", sum := "5f23798e0bcb9997a78b33e815c150ba0cb0bcb3d3b157986717361676471171", func := "offshoot/offshootlaw15.RegsOrders", spec := "regsOrders", unfollowed := true, recurses := true, named := ["offshoot/api.Root", "offshoot/api.Trash"], plainKeys := false, apart := false, laid := [("offshoot/api.Root", laid_offshoot_api_Root), ("offshoot/api.Trash", laid_offshoot_api_Trash)], narrowed := true }
def RegsOrdersUptoSaid : Prop := regsOrdersUptoRow.holds Tryd.pinned (OpenSpec.upto regsOrdersSpec)

/-- 'offshootlaw15.RegsLatest', WHERE WHAT IT READS IS OF BULK AT MOST 1048576: true; the input reads as it did. -/
def regsLatestUptoRow : OpenClaim := { program := "ythlpjdjipchdkaadoor", sum := "5f23798e0bcb9997a78b33e815c150ba0cb0bcb3d3b157986717361676471171", func := "offshoot/offshootlaw15.RegsLatest", spec := "regsLatest", unfollowed := true, recurses := true, named := ["offshoot/api.Root", "offshoot/api.Trash"], plainKeys := false, apart := false, laid := [("offshoot/api.Root", laid_offshoot_api_Root), ("offshoot/api.Trash", laid_offshoot_api_Trash)], narrowed := true }
def RegsLatestUptoSaid : Prop := regsLatestUptoRow.holds Tryd.pinned (OpenSpec.upto regsLatestSpec)

/-- 'offshootlaw15.RegsApart', WHERE WHAT IT READS IS OF BULK AT MOST 1048576: true; the input reads as it did. -/
def regsApartUptoRow : OpenClaim := { program := "ythlpjdjipchdkaadoor", sum := "5f23798e0bcb9997a78b33e815c150ba0cb0bcb3d3b157986717361676471171", func := "offshoot/offshootlaw15.RegsApart", spec := "regsApart", unfollowed := true, recurses := true, named := ["offshoot/api.Root", "offshoot/api.Trash"], plainKeys := false, apart := false, laid := [("offshoot/api.Root", laid_offshoot_api_Root), ("offshoot/api.Trash", laid_offshoot_api_Trash)], narrowed := true }
def RegsApartUptoSaid : Prop := regsApartUptoRow.holds Tryd.pinned (OpenSpec.upto regsApartSpec)

/-- 'offshootlaw13.MovesLast', WHERE WHAT IT READS IS OF BULK AT MOST 1048576: true; the input reads as it did. -/
def movesLastUptoRow : OpenClaim := { program := "ythlpjdjipchdkaadoor", sum := "5f23798e0bcb9997a78b33e815c150ba0cb0bcb3d3b157986717361676471171", func := "offshoot/offshootlaw13.MovesLast", spec := "movesLast", inPlace := ["maps.clone", "slices.overlaps[offshoot/moves.step]"], unfollowed := true, recurses := true, named := ["offshoot/api.Root", "offshoot/api.Trash"], plainKeys := false, apart := false, laid := [("offshoot/api.Root", laid_offshoot_api_Root), ("offshoot/api.Trash", laid_offshoot_api_Trash)], narrowed := true }
def MovesLastUptoSaid : Prop := movesLastUptoRow.holds Tryd.pinned (OpenSpec.upto movesLastSpec)

/-- 'offshootlaw13.MovesOrders', WHERE WHAT IT READS IS OF BULK AT MOST 1048576: true; the input reads as it did. -/
def movesOrdersUptoRow : OpenClaim := { program := "ythlpjdjipchdkaadoor", sum := "5f23798e0bcb9997a78b33e815c150ba0cb0bcb3d3b157986717361676471171", func := "offshoot/offshootlaw13.MovesOrders", spec := "movesOrders", inPlace := ["maps.clone", "slices.overlaps[offshoot/moves.step]"], unfollowed := true, recurses := true, named := ["offshoot/api.Root", "offshoot/api.Trash"], plainKeys := false, apart := false, laid := [("offshoot/api.Root", laid_offshoot_api_Root), ("offshoot/api.Trash", laid_offshoot_api_Trash)], narrowed := true }
def MovesOrdersUptoSaid : Prop := movesOrdersUptoRow.holds Tryd.pinned (OpenSpec.upto movesOrdersSpec)

/-- 'offshootlaw13.MovesTree', WHERE WHAT IT READS IS OF BULK AT MOST 1048576: true; the input reads as it did. -/
def movesTreeUptoRow : OpenClaim := { program := "ythlpjdjipchdkaadoor", sum := "5f23798e0bcb9997a78b33e815c150ba0cb0bcb3d3b157986717361676471171", func := "offshoot/offshootlaw13.MovesTree", spec := "movesTree", inPlace := ["maps.clone", "slices.overlaps[offshoot/moves.step]"], unfollowed := true, recurses := true, named := ["offshoot/api.Root", "offshoot/api.Trash"], plainKeys := false, apart := false, laid := [("offshoot/api.Root", laid_offshoot_api_Root), ("offshoot/api.Trash", laid_offshoot_api_Trash)], narrowed := true }
def MovesTreeUptoSaid : Prop := movesTreeUptoRow.holds Tryd.pinned (OpenSpec.upto movesTreeSpec)

/-- 'offshootlaw13.MovesDo', WHERE WHAT IT READS IS OF BULK AT MOST 1048576: true; the input reads as it did. -/
def movesDoUptoRow : OpenClaim := { program := "ythlpjdjipchdkaadoor", sum := "5f23798e0bcb9997a78b33e815c150ba0cb0bcb3d3b157986717361676471171", func := "offshoot/offshootlaw13.MovesDo", spec := "movesDo", inPlace := ["maps.clone", "slices.overlaps[offshoot/moves.step]"], unfollowed := true, recurses := true, named := ["offshoot/api.Root", "offshoot/api.Trash"], plainKeys := false, apart := false, laid := [("offshoot/api.Root", laid_offshoot_api_Root), ("offshoot/api.Trash", laid_offshoot_api_Trash)], narrowed := true }
def MovesDoUptoSaid : Prop := movesDoUptoRow.holds Tryd.pinned (OpenSpec.upto movesDoSpec)

end Rows
end Go.Proofs.YthlpjdjipchdkaaDoor
