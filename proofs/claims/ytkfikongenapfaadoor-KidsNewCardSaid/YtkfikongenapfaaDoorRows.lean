/-
  NARROWER THAN 'FOR EVERY INPUT', by the rows' own cells (each row's printed sentence says how): KidsNew: laid · KidsEach: laid · OpBack: laid · OpOne: laid · OpNeeds: laid · OpDecodes: laid · OpLists: laid.
  DERIVED. THE GIVEN ROWS OF THIS SEAT. 7 by the template 'for every input the law returns true; each argument reads behind the call as it read before'; 0 by the template 'total and deterministic' (their statements: YtkfikongenapfaaDoorTotals.lean).
  GIVEN WITH THE SEED: the statements are not yours to turn. If you find one false, say at which input.
  Laid BY PROGRAM, IN A SANDBOX (cutbox-rows.mjs): the forced cells as the released guide's own fill.sh prints them over the translation 3658060946a32620… (all of the seat's roots in one cut). By AI agents, Wed Nov 11 2026. No macro, syntax, notation, axiom, sorry.
-/
import Derived.Test.YtkfikongenapfaaDoorChecked
import GoSem.Claim
import GoSem.ClaimJoined
import GoSem.ClaimMapViews
import Derived.JoinedTies
import Derived.KernelRfl
namespace Go.Proofs.YtkfikongenapfaaDoor
/- THE CELL 'sum', in the pinned program and in every row, IS THE sha256 OF THE DUMP (.gsa) THAT YtkfikongenapfaaDoorProg.lean LOADS. Nothing in Lean hashes anything: it is a label: what it is worth is what the hold of that sum in a sandbox is worth. -/
noncomputable def Tryd.pinned : Pinned := { name := "ytkfikongenapfaadoor", sum := "3658060946a3262073e5c663a34230b8e5082dc5dee3e5cd8536a73af1703a19", checked := Tryd.checked }
namespace Rows
def none {H : Type} : Left H := { results := [], args := [] }

/- WHAT THE LISTED PACKAGE-LEVEL VARIABLES READ AS WHEN THE CALL BEGINS. Each datum BY PROGRAM (the guide's laid-datum.mjs) off the statement by which the dump's own 'gosem.cut.vars' lays the variable. In a bare row this is a premise. The card (YtkfikongenapfaaDoorCards.lean) ties it to the program's text. -/
def laid_offshoot_api_Root {H : Type} : DataW H := .agg [.lit (.int .i64 0), .lit (.int .i64 0)]
def laid_offshoot_api_Trash {H : Type} : DataW H := .agg [.lit (.int .i64 1), .lit (.int .i64 0)]

/-- 'offshootlaw14.KidsNew': WHATEVER THE INPUT: true; the input reads as it did. -/
def kidsNewSpec : ChangeSpec := { name := "kidsNew", fn := fun _ => fun
  | [d1, d2, d3] => { results := [.lit (.bool true)], args := [d1, d2, d3] }
  | _ => none }
def kidsNewRow : OpenClaim := { program := "ytkfikongenapfaadoor", sum := "3658060946a3262073e5c663a34230b8e5082dc5dee3e5cd8536a73af1703a19", func := "offshoot/offshootlaw14.KidsNew", spec := "kidsNew", inPlace := ["internal/bytealg.abigen_runtime_cmpstring", "slices.overlaps[offshoot/kids.child]"], unfollowed := true, recurses := true, named := ["offshoot/api.Root", "offshoot/api.Trash"], plainKeys := false, apart := false, laid := [("offshoot/api.Root", laid_offshoot_api_Root), ("offshoot/api.Trash", laid_offshoot_api_Trash)] }
def KidsNewSaid : Prop := kidsNewRow.holds Tryd.pinned (OpenSpec.ofChange kidsNewSpec)

/-- ITS FALSE NEIGHBOUR: 'it returns false'. Refute it at one input. -/
def kidsNewWrong : ChangeSpec := { name := "kidsNew", fn := fun _ => fun
  | [d1, d2, d3] => { results := [.lit (.bool false)], args := [d1, d2, d3] }
  | _ => none }
def KidsNewWrongFalsely : Prop := kidsNewRow.holds Tryd.pinned (OpenSpec.ofChange kidsNewWrong)

/-- 'offshootlaw14.KidsEach': WHATEVER THE INPUT: true; the input reads as it did. -/
def kidsEachSpec : ChangeSpec := { name := "kidsEach", fn := fun _ => fun
  | [d1, d2] => { results := [.lit (.bool true)], args := [d1, d2] }
  | _ => none }
def kidsEachRow : OpenClaim := { program := "ytkfikongenapfaadoor", sum := "3658060946a3262073e5c663a34230b8e5082dc5dee3e5cd8536a73af1703a19", func := "offshoot/offshootlaw14.KidsEach", spec := "kidsEach", inPlace := ["internal/bytealg.abigen_runtime_cmpstring", "slices.overlaps[offshoot/kids.child]"], unfollowed := true, recurses := true, named := ["offshoot/api.Root", "offshoot/api.Trash"], plainKeys := false, apart := false, laid := [("offshoot/api.Root", laid_offshoot_api_Root), ("offshoot/api.Trash", laid_offshoot_api_Trash)] }
def KidsEachSaid : Prop := kidsEachRow.holds Tryd.pinned (OpenSpec.ofChange kidsEachSpec)

/-- ITS FALSE NEIGHBOUR: 'it returns false'. Refute it at one input. -/
def kidsEachWrong : ChangeSpec := { name := "kidsEach", fn := fun _ => fun
  | [d1, d2] => { results := [.lit (.bool false)], args := [d1, d2] }
  | _ => none }
def KidsEachWrongFalsely : Prop := kidsEachRow.holds Tryd.pinned (OpenSpec.ofChange kidsEachWrong)

/-- 'offshootlaw05.OpBack': WHATEVER THE INPUT: true; the input reads as it did. -/
def opBackSpec : ChangeSpec := { name := "opBack", fn := fun _ => fun
  | [d1, d2, d3] => { results := [.lit (.bool true)], args := [d1, d2, d3] }
  | _ => none }
def opBackRow : OpenClaim := { program := "ytkfikongenapfaadoor", sum := "3658060946a3262073e5c663a34230b8e5082dc5dee3e5cd8536a73af1703a19", func := "offshoot/offshootlaw05.OpBack", spec := "opBack", unfollowed := true, recurses := true, named := ["offshoot/api.Root", "offshoot/api.Trash"], plainKeys := false, apart := false, laid := [("offshoot/api.Root", laid_offshoot_api_Root), ("offshoot/api.Trash", laid_offshoot_api_Trash)] }
def OpBackSaid : Prop := opBackRow.holds Tryd.pinned (OpenSpec.ofChange opBackSpec)

/-- ITS FALSE NEIGHBOUR: 'it returns false'. Refute it at one input. -/
def opBackWrong : ChangeSpec := { name := "opBack", fn := fun _ => fun
  | [d1, d2, d3] => { results := [.lit (.bool false)], args := [d1, d2, d3] }
  | _ => none }
def OpBackWrongFalsely : Prop := opBackRow.holds Tryd.pinned (OpenSpec.ofChange opBackWrong)

/-- 'offshootlaw05.OpOne': WHATEVER THE INPUT: true; the input reads as it did. -/
def opOneSpec : ChangeSpec := { name := "opOne", fn := fun _ => fun
  | [d1, d2, d3] => { results := [.lit (.bool true)], args := [d1, d2, d3] }
  | _ => none }
def opOneRow : OpenClaim := { program := "ytkfikongenapfaadoor", sum := "3658060946a3262073e5c663a34230b8e5082dc5dee3e5cd8536a73af1703a19", func := "offshoot/offshootlaw05.OpOne", spec := "opOne", unfollowed := true, recurses := true, named := ["offshoot/api.Root", "offshoot/api.Trash"], plainKeys := false, apart := false, laid := [("offshoot/api.Root", laid_offshoot_api_Root), ("offshoot/api.Trash", laid_offshoot_api_Trash)] }
def OpOneSaid : Prop := opOneRow.holds Tryd.pinned (OpenSpec.ofChange opOneSpec)

/-- ITS FALSE NEIGHBOUR: 'it returns false'. Refute it at one input. -/
def opOneWrong : ChangeSpec := { name := "opOne", fn := fun _ => fun
  | [d1, d2, d3] => { results := [.lit (.bool false)], args := [d1, d2, d3] }
  | _ => none }
def OpOneWrongFalsely : Prop := opOneRow.holds Tryd.pinned (OpenSpec.ofChange opOneWrong)

/-- 'offshootlaw05.OpNeeds': WHATEVER THE INPUT: true; the input reads as it did. -/
def opNeedsSpec : ChangeSpec := { name := "opNeeds", fn := fun _ => fun
  | [d] => { results := [.lit (.bool true)], args := [d] }
  | _ => none }
def opNeedsRow : OpenClaim := { program := "ytkfikongenapfaadoor", sum := "3658060946a3262073e5c663a34230b8e5082dc5dee3e5cd8536a73af1703a19", func := "offshoot/offshootlaw05.OpNeeds", spec := "opNeeds", unfollowed := true, recurses := true, named := ["offshoot/api.Root", "offshoot/api.Trash"], plainKeys := false, apart := false, laid := [("offshoot/api.Root", laid_offshoot_api_Root), ("offshoot/api.Trash", laid_offshoot_api_Trash)] }
def OpNeedsSaid : Prop := opNeedsRow.holds Tryd.pinned (OpenSpec.ofChange opNeedsSpec)

/-- ITS FALSE NEIGHBOUR: 'it returns false'. Refute it at one input. -/
def opNeedsWrong : ChangeSpec := { name := "opNeeds", fn := fun _ => fun
  | [d] => { results := [.lit (.bool false)], args := [d] }
  | _ => none }
def OpNeedsWrongFalsely : Prop := opNeedsRow.holds Tryd.pinned (OpenSpec.ofChange opNeedsWrong)

/-- 'offshootlaw05.OpDecodes': WHATEVER THE INPUT: true; the input reads as it did. -/
def opDecodesSpec : ChangeSpec := { name := "opDecodes", fn := fun _ => fun
  | [d] => { results := [.lit (.bool true)], args := [d] }
  | _ => none }
def opDecodesRow : OpenClaim := { program := "ytkfikongenapfaadoor", sum := "3658060946a3262073e5c663a34230b8e5082dc5dee3e5cd8536a73af1703a19", func := "offshoot/offshootlaw05.OpDecodes", spec := "opDecodes", unfollowed := true, recurses := true, named := ["offshoot/api.Root", "offshoot/api.Trash"], plainKeys := false, apart := false, laid := [("offshoot/api.Root", laid_offshoot_api_Root), ("offshoot/api.Trash", laid_offshoot_api_Trash)] }
def OpDecodesSaid : Prop := opDecodesRow.holds Tryd.pinned (OpenSpec.ofChange opDecodesSpec)

/-- ITS FALSE NEIGHBOUR: 'it returns false'. Refute it at one input. -/
def opDecodesWrong : ChangeSpec := { name := "opDecodes", fn := fun _ => fun
  | [d] => { results := [.lit (.bool false)], args := [d] }
  | _ => none }
def OpDecodesWrongFalsely : Prop := opDecodesRow.holds Tryd.pinned (OpenSpec.ofChange opDecodesWrong)

/-- 'offshootlaw05.OpLists': WHATEVER THE INPUT: true; the input reads as it did. -/
def opListsSpec : ChangeSpec := { name := "opLists", fn := fun _ => fun
  | [d1, d2] => { results := [.lit (.bool true)], args := [d1, d2] }
  | _ => none }
def opListsRow : OpenClaim := { program := "ytkfikongenapfaadoor", sum := "3658060946a3262073e5c663a34230b8e5082dc5dee3e5cd8536a73af1703a19", func := "offshoot/offshootlaw05.OpLists", spec := "opLists", unfollowed := true, recurses := true, named := ["offshoot/api.Root", "offshoot/api.Trash"], plainKeys := false, apart := false, laid := [("offshoot/api.Root", laid_offshoot_api_Root), ("offshoot/api.Trash", laid_offshoot_api_Trash)] }
def OpListsSaid : Prop := opListsRow.holds Tryd.pinned (OpenSpec.ofChange opListsSpec)

/-- ITS FALSE NEIGHBOUR: 'it returns false'. Refute it at one input. -/
def opListsWrong : ChangeSpec := { name := "opLists", fn := fun _ => fun
  | [d1, d2] => { results := [.lit (.bool false)], args := [d1, d2] }
  | _ => none }
def OpListsWrongFalsely : Prop := opListsRow.holds Tryd.pinned (OpenSpec.ofChange opListsWrong)

/- THE SECOND FORM. 'bulk': how many values and letters a reading holds, each counted each time it is reached (what is shared counts as often as it is met; a slice's spare places count too). A statement '..UptoSaid' is the law's where the arguments, and the package variables that the reading takes, are together of bulk at most 1048576: NARROWER than '..Said'. Prove '..Said' where nothing that the law and all that it calls make is longer than what came in: it says more and counts as full. Else prove '..UptoSaid'. A law counts once. -/
mutual
def uptoBulk {H : Type} : DataW H → Nat
  | .lit (.string bytes) => bytes.length + 1
  | .lit _ => 1
  | .nil => 1
  | .ptr d => uptoBulk d + 1
  | .slice elems spare => uptoBulkAll elems + uptoBulkAll spare + 1
  | .agg parts => uptoBulkAll parts + 1
  | .iface _ d => uptoBulk d + 1
  | .map entries => uptoBulkEntries entries + 1
  | .held _ => 1
def uptoBulkAll {H : Type} : List (DataW H) → Nat
  | [] => 0
  | d :: r => uptoBulk d + uptoBulkAll r
def uptoBulkEntries {H : Type} : List (Lit × DataW H) → Nat
  | [] => 0
  | x :: r => uptoBulkEntry x + uptoBulkEntries r
def uptoBulkEntry {H : Type} : Lit × DataW H → Nat
  | (.string bytes, d) => bytes.length + uptoBulk d + 1
  | (_, d) => uptoBulk d + 1
 end
def uptoSmall : (H : Type) → List (DataW H) → Bool := fun _ ds => decide (uptoBulkAll ds ≤ 1048576)
def OpenSpec.upto (s : _root_.Go.ChangeSpec) : _root_.Go.OpenSpec := { _root_.Go.OpenSpec.ofChange s with cond := some uptoSmall }

/-- 'offshootlaw14.KidsNew', WHERE WHAT IT READS IS OF BULK AT MOST 1048576: true; the input reads as it did. -/
def kidsNewUptoRow : OpenClaim := { program := "ytkfikongenapfaadoor", sum := "3658060946a3262073e5c663a34230b8e5082dc5dee3e5cd8536a73af1703a19", func := "offshoot/offshootlaw14.KidsNew", spec := "kidsNew", inPlace := ["internal/bytealg.abigen_runtime_cmpstring", "slices.overlaps[offshoot/kids.child]"], unfollowed := true, recurses := true, named := ["offshoot/api.Root", "offshoot/api.Trash"], plainKeys := false, apart := false, laid := [("offshoot/api.Root", laid_offshoot_api_Root), ("offshoot/api.Trash", laid_offshoot_api_Trash)], narrowed := true }
def KidsNewUptoSaid : Prop := kidsNewUptoRow.holds Tryd.pinned (OpenSpec.upto kidsNewSpec)

/-- 'offshootlaw14.KidsEach', WHERE WHAT IT READS IS OF BULK AT MOST 1048576: true; the input reads as it did. -/
def kidsEachUptoRow : OpenClaim := { program := "ytkfikongenapfaadoor", sum := "3658060946a3262073e5c663a34230b8e5082dc5dee3e5cd8536a73af1703a19", func := "offshoot/offshootlaw14.KidsEach", spec := "kidsEach", inPlace := ["internal/bytealg.abigen_runtime_cmpstring", "slices.overlaps[offshoot/kids.child]"], unfollowed := true, recurses := true, named := ["offshoot/api.Root", "offshoot/api.Trash"], plainKeys := false, apart := false, laid := [("offshoot/api.Root", laid_offshoot_api_Root), ("offshoot/api.Trash", laid_offshoot_api_Trash)], narrowed := true }
def KidsEachUptoSaid : Prop := kidsEachUptoRow.holds Tryd.pinned (OpenSpec.upto kidsEachSpec)

/-- 'offshootlaw05.OpBack', WHERE WHAT IT READS IS OF BULK AT MOST 1048576: true; the input reads as it did. -/
def opBackUptoRow : OpenClaim := { program := "ytkfikongenapfaadoor", sum := "3658060946a3262073e5c663a34230b8e5082dc5dee3e5cd8536a73af1703a19", func := "offshoot/offshootlaw05.OpBack", spec := "opBack", unfollowed := true, recurses := true, named := ["offshoot/api.Root", "offshoot/api.Trash"], plainKeys := false, apart := false, laid := [("offshoot/api.Root", laid_offshoot_api_Root), ("offshoot/api.Trash", laid_offshoot_api_Trash)], narrowed := true }
def OpBackUptoSaid : Prop := opBackUptoRow.holds Tryd.pinned (OpenSpec.upto opBackSpec)

/-- 'offshootlaw05.OpOne', WHERE WHAT IT READS IS OF BULK AT MOST 1048576: true; the input reads as it did. -/
def opOneUptoRow : OpenClaim := { program := "ytkfikongenapfaadoor", sum := "3658060946a3262073e5c663a34230b8e5082dc5dee3e5cd8536a73af1703a19", func := "offshoot/offshootlaw05.OpOne", spec := "opOne", unfollowed := true, recurses := true, named := ["offshoot/api.Root", "offshoot/api.Trash"], plainKeys := false, apart := false, laid := [("offshoot/api.Root", laid_offshoot_api_Root), ("offshoot/api.Trash", laid_offshoot_api_Trash)], narrowed := true }
def OpOneUptoSaid : Prop := opOneUptoRow.holds Tryd.pinned (OpenSpec.upto opOneSpec)

/-- 'offshootlaw05.OpNeeds', WHERE WHAT IT READS IS OF BULK AT MOST 1048576: true; the input reads as it did. -/
def opNeedsUptoRow : OpenClaim := { program := "ytkfikongenapfaadoor", sum := "3658060946a3262073e5c663a34230b8e5082dc5dee3e5cd8536a73af1703a19", func := "offshoot/offshootlaw05.OpNeeds", spec := "opNeeds", unfollowed := true, recurses := true, named := ["offshoot/api.Root", "offshoot/api.Trash"], plainKeys := false, apart := false, laid := [("offshoot/api.Root", laid_offshoot_api_Root), ("offshoot/api.Trash", laid_offshoot_api_Trash)], narrowed := true }
def OpNeedsUptoSaid : Prop := opNeedsUptoRow.holds Tryd.pinned (OpenSpec.upto opNeedsSpec)

/-- 'offshootlaw05.OpDecodes', WHERE WHAT IT READS IS OF BULK AT MOST 1048576: true; the input reads as it did. -/
def opDecodesUptoRow : OpenClaim := { program := "ytkfikongenapfaadoor", sum := "3658060946a3262073e5c663a34230b8e5082dc5dee3e5cd8536a73af1703a19", func := "offshoot/offshootlaw05.OpDecodes", spec := "opDecodes", unfollowed := true, recurses := true, named := ["offshoot/api.Root", "offshoot/api.Trash"], plainKeys := false, apart := false, laid := [("offshoot/api.Root", laid_offshoot_api_Root), ("offshoot/api.Trash", laid_offshoot_api_Trash)], narrowed := true }
def OpDecodesUptoSaid : Prop := opDecodesUptoRow.holds Tryd.pinned (OpenSpec.upto opDecodesSpec)

/-- 'offshootlaw05.OpLists', WHERE WHAT IT READS IS OF BULK AT MOST 1048576: true; the input reads as it did. -/
def opListsUptoRow : OpenClaim := { program := "ytkfikongenapfaadoor", sum := "3658060946a3262073e5c663a34230b8e5082dc5dee3e5cd8536a73af1703a19", func := "offshoot/offshootlaw05.OpLists", spec := "opLists", unfollowed := true, recurses := true, named := ["offshoot/api.Root", "offshoot/api.Trash"], plainKeys := false, apart := false, laid := [("offshoot/api.Root", laid_offshoot_api_Root), ("offshoot/api.Trash", laid_offshoot_api_Trash)], narrowed := true }
def OpListsUptoSaid : Prop := opListsUptoRow.holds Tryd.pinned (OpenSpec.upto opListsSpec)

end Rows
end Go.Proofs.YtkfikongenapfaaDoor
