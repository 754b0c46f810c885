/-
  DERIVED. GIVEN WITH THE SEED: THE CARDS: each row of YtkfikongenapfaaDoorRows.lean that lists a variable, with what it lists TIED to the program's text (the seventh form; the later family's looks); each row that meets fmt, with fmt's text TOLD by the authors' own Lean function (tested against real Go, not proved from fmt's source: count such statements apart). THE CARD IS WHAT COUNTS. Prove the row's statement (the work); the ties are given (YtkfikongenapfaaDoorTie.lean); close each card by the builder's one call (the guide's Derived/Test/ToyasCard.lean, 'card_holds'). Laid BY PROGRAM, IN A SANDBOX (cutbox-door.mjs). By AI agents, Wed Nov 11 2026. No macro, syntax, notation, axiom, sorry.
-/
import Derived.Test.YtkfikongenapfaaDoorRows
import GoSem.ClaimSeven
namespace Go.Proofs.YtkfikongenapfaaDoor
namespace Rows

/-- THE TIED CARD OF 'offshootlaw14.KidsNew'. -/
def kidsNewCard : Claim7 := { stood := { row := kidsNewRow, standIns := [], harness := (true, "bbe5cb5e1d9543c684ed84915551536867f7c15d43d7e7be728311e675f2c023"), looks := false }, kinds := [], alts := [], laidByText := true, laidKinds := [.data, .data], laidTests := true, laidLooks := .later }
def KidsNewCardSaid : Prop := Claim7.holds Tryd.pinned (.plain (OpenSpec.ofChange kidsNewSpec)) kidsNewCard

/-- THE TIED CARD OF 'offshootlaw14.KidsEach'. -/
def kidsEachCard : Claim7 := { stood := { row := kidsEachRow, standIns := [], harness := (true, "bbe5cb5e1d9543c684ed84915551536867f7c15d43d7e7be728311e675f2c023"), looks := false }, kinds := [], alts := [], laidByText := true, laidKinds := [.data, .data], laidTests := true, laidLooks := .later }
def KidsEachCardSaid : Prop := Claim7.holds Tryd.pinned (.plain (OpenSpec.ofChange kidsEachSpec)) kidsEachCard

/-- THE TIED CARD OF 'offshootlaw05.OpBack'. -/
def opBackCard : Claim7 := { stood := { row := opBackRow, standIns := [], harness := (true, "bbe5cb5e1d9543c684ed84915551536867f7c15d43d7e7be728311e675f2c023"), looks := false }, kinds := [], alts := [], laidByText := true, laidKinds := [.data, .data], laidTests := true, laidLooks := .later }
def OpBackCardSaid : Prop := Claim7.holds Tryd.pinned (.plain (OpenSpec.ofChange opBackSpec)) opBackCard

/-- THE TIED CARD OF 'offshootlaw05.OpOne'. -/
def opOneCard : Claim7 := { stood := { row := opOneRow, standIns := [], harness := (true, "bbe5cb5e1d9543c684ed84915551536867f7c15d43d7e7be728311e675f2c023"), looks := false }, kinds := [], alts := [], laidByText := true, laidKinds := [.data, .data], laidTests := true, laidLooks := .later }
def OpOneCardSaid : Prop := Claim7.holds Tryd.pinned (.plain (OpenSpec.ofChange opOneSpec)) opOneCard

/-- THE TIED CARD OF 'offshootlaw05.OpNeeds'. -/
def opNeedsCard : Claim7 := { stood := { row := opNeedsRow, standIns := [], harness := (true, "bbe5cb5e1d9543c684ed84915551536867f7c15d43d7e7be728311e675f2c023"), looks := false }, kinds := [], alts := [], laidByText := true, laidKinds := [.data, .data], laidTests := true, laidLooks := .later }
def OpNeedsCardSaid : Prop := Claim7.holds Tryd.pinned (.plain (OpenSpec.ofChange opNeedsSpec)) opNeedsCard

/-- THE TIED CARD OF 'offshootlaw05.OpDecodes'. -/
def opDecodesCard : Claim7 := { stood := { row := opDecodesRow, standIns := [], harness := (true, "bbe5cb5e1d9543c684ed84915551536867f7c15d43d7e7be728311e675f2c023"), looks := false }, kinds := [], alts := [], laidByText := true, laidKinds := [.data, .data], laidTests := true, laidLooks := .later }
def OpDecodesCardSaid : Prop := Claim7.holds Tryd.pinned (.plain (OpenSpec.ofChange opDecodesSpec)) opDecodesCard

/-- THE TIED CARD OF 'offshootlaw05.OpLists'. -/
def opListsCard : Claim7 := { stood := { row := opListsRow, standIns := [], harness := (true, "bbe5cb5e1d9543c684ed84915551536867f7c15d43d7e7be728311e675f2c023"), looks := false }, kinds := [], alts := [], laidByText := true, laidKinds := [.data, .data], laidTests := true, laidLooks := .later }
def OpListsCardSaid : Prop := Claim7.holds Tryd.pinned (.plain (OpenSpec.ofChange opListsSpec)) opListsCard

/-- THE SECOND FORM's CARD OF 'offshootlaw14.KidsNew'. -/
def kidsNewUptoCard : Claim7 := { stood := { row := kidsNewUptoRow, standIns := [], harness := (true, "bbe5cb5e1d9543c684ed84915551536867f7c15d43d7e7be728311e675f2c023"), looks := false }, kinds := [], alts := [], laidByText := true, laidKinds := [.data, .data], laidTests := true, laidLooks := .later }
def KidsNewUptoCardSaid : Prop := Claim7.holds Tryd.pinned (.plain (OpenSpec.upto kidsNewSpec)) kidsNewUptoCard

/-- THE SECOND FORM's CARD OF 'offshootlaw14.KidsEach'. -/
def kidsEachUptoCard : Claim7 := { stood := { row := kidsEachUptoRow, standIns := [], harness := (true, "bbe5cb5e1d9543c684ed84915551536867f7c15d43d7e7be728311e675f2c023"), looks := false }, kinds := [], alts := [], laidByText := true, laidKinds := [.data, .data], laidTests := true, laidLooks := .later }
def KidsEachUptoCardSaid : Prop := Claim7.holds Tryd.pinned (.plain (OpenSpec.upto kidsEachSpec)) kidsEachUptoCard

/-- THE SECOND FORM's CARD OF 'offshootlaw05.OpBack'. -/
def opBackUptoCard : Claim7 := { stood := { row := opBackUptoRow, standIns := [], harness := (true, "bbe5cb5e1d9543c684ed84915551536867f7c15d43d7e7be728311e675f2c023"), looks := false }, kinds := [], alts := [], laidByText := true, laidKinds := [.data, .data], laidTests := true, laidLooks := .later }
def OpBackUptoCardSaid : Prop := Claim7.holds Tryd.pinned (.plain (OpenSpec.upto opBackSpec)) opBackUptoCard

/-- THE SECOND FORM's CARD OF 'offshootlaw05.OpOne'. -/
def opOneUptoCard : Claim7 := { stood := { row := opOneUptoRow, standIns := [], harness := (true, "bbe5cb5e1d9543c684ed84915551536867f7c15d43d7e7be728311e675f2c023"), looks := false }, kinds := [], alts := [], laidByText := true, laidKinds := [.data, .data], laidTests := true, laidLooks := .later }
def OpOneUptoCardSaid : Prop := Claim7.holds Tryd.pinned (.plain (OpenSpec.upto opOneSpec)) opOneUptoCard

/-- THE SECOND FORM's CARD OF 'offshootlaw05.OpNeeds'. -/
def opNeedsUptoCard : Claim7 := { stood := { row := opNeedsUptoRow, standIns := [], harness := (true, "bbe5cb5e1d9543c684ed84915551536867f7c15d43d7e7be728311e675f2c023"), looks := false }, kinds := [], alts := [], laidByText := true, laidKinds := [.data, .data], laidTests := true, laidLooks := .later }
def OpNeedsUptoCardSaid : Prop := Claim7.holds Tryd.pinned (.plain (OpenSpec.upto opNeedsSpec)) opNeedsUptoCard

/-- THE SECOND FORM's CARD OF 'offshootlaw05.OpDecodes'. -/
def opDecodesUptoCard : Claim7 := { stood := { row := opDecodesUptoRow, standIns := [], harness := (true, "bbe5cb5e1d9543c684ed84915551536867f7c15d43d7e7be728311e675f2c023"), looks := false }, kinds := [], alts := [], laidByText := true, laidKinds := [.data, .data], laidTests := true, laidLooks := .later }
def OpDecodesUptoCardSaid : Prop := Claim7.holds Tryd.pinned (.plain (OpenSpec.upto opDecodesSpec)) opDecodesUptoCard

/-- THE SECOND FORM's CARD OF 'offshootlaw05.OpLists'. -/
def opListsUptoCard : Claim7 := { stood := { row := opListsUptoRow, standIns := [], harness := (true, "bbe5cb5e1d9543c684ed84915551536867f7c15d43d7e7be728311e675f2c023"), looks := false }, kinds := [], alts := [], laidByText := true, laidKinds := [.data, .data], laidTests := true, laidLooks := .later }
def OpListsUptoCardSaid : Prop := Claim7.holds Tryd.pinned (.plain (OpenSpec.upto opListsSpec)) opListsUptoCard
end Rows
end Go.Proofs.YtkfikongenapfaaDoor
