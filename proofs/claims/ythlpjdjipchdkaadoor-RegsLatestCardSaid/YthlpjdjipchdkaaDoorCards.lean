/-
  DERIVED. GIVEN WITH THE SEED: THE CARDS: each row of YthlpjdjipchdkaaDoorRows.lean that lists a variable, with what it lists TIED to the program's text (the seventh form; the later family's looks); each row that meets fmt, with fmt's text TOLD by the authors' own Lean function (tested against real Go, not proved from fmt's source: count such statements apart). THE CARD IS WHAT COUNTS. Prove the row's statement (the work); the ties are given (YthlpjdjipchdkaaDoorTie.lean); close each card by the builder's one call (the guide's Derived/Test/ToyasCard.lean, 'card_holds'). Laid BY PROGRAM, IN A SANDBOX (cutbox-door.mjs). By AI agents, Wed Nov 11 2026. No macro, syntax, notation, axiom, sorry.
-/
import Derived.Test.YthlpjdjipchdkaaDoorRows
import GoSem.ClaimSeven
namespace Go.Proofs.YthlpjdjipchdkaaDoor
namespace Rows

/-- THE TIED CARD OF 'offshootlaw15.RegsSay'. -/
def regsSayCard : Claim7 := { stood := { row := regsSayRow, standIns := [], harness := (true, "8b21bcbfef2cfea6b872273ccc221a7fdcb15ee05317714a9029d6ab66e64f7b"), looks := true }, kinds := [], alts := [], laidByText := true, laidKinds := [.data, .data], laidTests := true, laidLooks := .later }
def RegsSayCardSaid : Prop := Claim7.holds Tryd.pinned (.plain (OpenSpec.ofChange regsSaySpec)) regsSayCard

/-- THE TIED CARD OF 'offshootlaw15.RegsOrders'. -/
def regsOrdersCard : Claim7 := { stood := { row := regsOrdersRow, standIns := [], harness := (true, "8b21bcbfef2cfea6b872273ccc221a7fdcb15ee05317714a9029d6ab66e64f7b"), looks := true }, kinds := [], alts := [], laidByText := true, laidKinds := [.data, .data], laidTests := true, laidLooks := .later }
def RegsOrdersCardSaid : Prop := Claim7.holds Tryd.pinned (.plain (OpenSpec.ofChange regsOrdersSpec)) regsOrdersCard

/-- THE TIED CARD OF 'offshootlaw15.RegsLatest'. -/
def regsLatestCard : Claim7 := { stood := { row := regsLatestRow, standIns := [], harness := (true, "8b21bcbfef2cfea6b872273ccc221a7fdcb15ee05317714a9029d6ab66e64f7b"), looks := true }, kinds := [], alts := [], laidByText := true, laidKinds := [.data, .data], laidTests := true, laidLooks := .later }
def RegsLatestCardSaid : Prop := Claim7.holds Tryd.pinned (.plain (OpenSpec.ofChange regsLatestSpec)) regsLatestCard

/-- THE TIED CARD OF 'offshootlaw15.RegsApart'. -/
def regsApartCard : Claim7 := { stood := { row := regsApartRow, standIns := [], harness := (true, "8b21bcbfef2cfea6b872273ccc221a7fdcb15ee05317714a9029d6ab66e64f7b"), looks := true }, kinds := [], alts := [], laidByText := true, laidKinds := [.data, .data], laidTests := true, laidLooks := .later }
def RegsApartCardSaid : Prop := Claim7.holds Tryd.pinned (.plain (OpenSpec.ofChange regsApartSpec)) regsApartCard

/-- THE TIED CARD OF 'offshootlaw13.MovesLast'. -/
def movesLastCard : Claim7 := { stood := { row := movesLastRow, standIns := [], harness := (true, "8b21bcbfef2cfea6b872273ccc221a7fdcb15ee05317714a9029d6ab66e64f7b"), looks := true }, kinds := [], alts := [], laidByText := true, laidKinds := [.data, .data], laidTests := true, laidLooks := .later }
def MovesLastCardSaid : Prop := Claim7.holds Tryd.pinned (.plain (OpenSpec.ofChange movesLastSpec)) movesLastCard

/-- THE TIED CARD OF 'offshootlaw13.MovesOrders'. -/
def movesOrdersCard : Claim7 := { stood := { row := movesOrdersRow, standIns := [], harness := (true, "8b21bcbfef2cfea6b872273ccc221a7fdcb15ee05317714a9029d6ab66e64f7b"), looks := true }, kinds := [], alts := [], laidByText := true, laidKinds := [.data, .data], laidTests := true, laidLooks := .later }
def MovesOrdersCardSaid : Prop := Claim7.holds Tryd.pinned (.plain (OpenSpec.ofChange movesOrdersSpec)) movesOrdersCard

/-- THE TIED CARD OF 'offshootlaw13.MovesTree'. -/
def movesTreeCard : Claim7 := { stood := { row := movesTreeRow, standIns := [], harness := (true, "8b21bcbfef2cfea6b872273ccc221a7fdcb15ee05317714a9029d6ab66e64f7b"), looks := true }, kinds := [], alts := [], laidByText := true, laidKinds := [.data, .data], laidTests := true, laidLooks := .later }
def MovesTreeCardSaid : Prop := Claim7.holds Tryd.pinned (.plain (OpenSpec.ofChange movesTreeSpec)) movesTreeCard

/-- THE TIED CARD OF 'offshootlaw13.MovesDo'. -/
def movesDoCard : Claim7 := { stood := { row := movesDoRow, standIns := [], harness := (true, "8b21bcbfef2cfea6b872273ccc221a7fdcb15ee05317714a9029d6ab66e64f7b"), looks := true }, kinds := [], alts := [], laidByText := true, laidKinds := [.data, .data], laidTests := true, laidLooks := .later }
def MovesDoCardSaid : Prop := Claim7.holds Tryd.pinned (.plain (OpenSpec.ofChange movesDoSpec)) movesDoCard

/-- THE SECOND FORM's CARD OF 'offshootlaw15.RegsSay'. -/
def regsSayUptoCard : Claim7 := { stood := { row := regsSayUptoRow, standIns := [], harness := (true, "8b21bcbfef2cfea6b872273ccc221a7fdcb15ee05317714a9029d6ab66e64f7b"), looks := true }, kinds := [], alts := [], laidByText := true, laidKinds := [.data, .data], laidTests := true, laidLooks := .later }
def RegsSayUptoCardSaid : Prop := Claim7.holds Tryd.pinned (.plain (OpenSpec.upto regsSaySpec)) regsSayUptoCard

/-- THE SECOND FORM's CARD OF 'offshootlaw15.RegsOrders'. -/
def regsOrdersUptoCard : Claim7 := { stood := { row := regsOrdersUptoRow, standIns := [], harness := (true, "8b21bcbfef2cfea6b872273ccc221a7fdcb15ee05317714a9029d6ab66e64f7b"), looks := true }, kinds := [], alts := [], laidByText := true, laidKinds := [.data, .data], laidTests := true, laidLooks := .later }
def RegsOrdersUptoCardSaid : Prop := Claim7.holds Tryd.pinned (.plain (OpenSpec.upto regsOrdersSpec)) regsOrdersUptoCard

/-- THE SECOND FORM's CARD OF 'offshootlaw15.RegsLatest'. -/
def regsLatestUptoCard : Claim7 := { stood := { row := regsLatestUptoRow, standIns := [], harness := (true, "8b21bcbfef2cfea6b872273ccc221a7fdcb15ee05317714a9029d6ab66e64f7b"), looks := true }, kinds := [], alts := [], laidByText := true, laidKinds := [.data, .data], laidTests := true, laidLooks := .later }
def RegsLatestUptoCardSaid : Prop := Claim7.holds Tryd.pinned (.plain (OpenSpec.upto regsLatestSpec)) regsLatestUptoCard

/-- THE SECOND FORM's CARD OF 'offshootlaw15.RegsApart'. -/
def regsApartUptoCard : Claim7 := { stood := { row := regsApartUptoRow, standIns := [], harness := (true, "8b21bcbfef2cfea6b872273ccc221a7fdcb15ee05317714a9029d6ab66e64f7b"), looks := true }, kinds := [], alts := [], laidByText := true, laidKinds := [.data, .data], laidTests := true, laidLooks := .later }
def RegsApartUptoCardSaid : Prop := Claim7.holds Tryd.pinned (.plain (OpenSpec.upto regsApartSpec)) regsApartUptoCard

/-- THE SECOND FORM's CARD OF 'offshootlaw13.MovesLast'. -/
def movesLastUptoCard : Claim7 := { stood := { row := movesLastUptoRow, standIns := [], harness := (true, "8b21bcbfef2cfea6b872273ccc221a7fdcb15ee05317714a9029d6ab66e64f7b"), looks := true }, kinds := [], alts := [], laidByText := true, laidKinds := [.data, .data], laidTests := true, laidLooks := .later }
def MovesLastUptoCardSaid : Prop := Claim7.holds Tryd.pinned (.plain (OpenSpec.upto movesLastSpec)) movesLastUptoCard

/-- THE SECOND FORM's CARD OF 'offshootlaw13.MovesOrders'. -/
def movesOrdersUptoCard : Claim7 := { stood := { row := movesOrdersUptoRow, standIns := [], harness := (true, "8b21bcbfef2cfea6b872273ccc221a7fdcb15ee05317714a9029d6ab66e64f7b"), looks := true }, kinds := [], alts := [], laidByText := true, laidKinds := [.data, .data], laidTests := true, laidLooks := .later }
def MovesOrdersUptoCardSaid : Prop := Claim7.holds Tryd.pinned (.plain (OpenSpec.upto movesOrdersSpec)) movesOrdersUptoCard

/-- THE SECOND FORM's CARD OF 'offshootlaw13.MovesTree'. -/
def movesTreeUptoCard : Claim7 := { stood := { row := movesTreeUptoRow, standIns := [], harness := (true, "8b21bcbfef2cfea6b872273ccc221a7fdcb15ee05317714a9029d6ab66e64f7b"), looks := true }, kinds := [], alts := [], laidByText := true, laidKinds := [.data, .data], laidTests := true, laidLooks := .later }
def MovesTreeUptoCardSaid : Prop := Claim7.holds Tryd.pinned (.plain (OpenSpec.upto movesTreeSpec)) movesTreeUptoCard

/-- THE SECOND FORM's CARD OF 'offshootlaw13.MovesDo'. -/
def movesDoUptoCard : Claim7 := { stood := { row := movesDoUptoRow, standIns := [], harness := (true, "8b21bcbfef2cfea6b872273ccc221a7fdcb15ee05317714a9029d6ab66e64f7b"), looks := true }, kinds := [], alts := [], laidByText := true, laidKinds := [.data, .data], laidTests := true, laidLooks := .later }
def MovesDoUptoCardSaid : Prop := Claim7.holds Tryd.pinned (.plain (OpenSpec.upto movesDoSpec)) movesDoUptoCard
end Rows
end Go.Proofs.YthlpjdjipchdkaaDoor
