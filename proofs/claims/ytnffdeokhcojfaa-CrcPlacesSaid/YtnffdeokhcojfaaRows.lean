/-
  No cell of these rows narrows 'for every input' (looked for: loops, veiled, ifaces, maps, wideKeys, modest, calm, conditions, laid).
  DERIVED. THE GIVEN ROWS OF THIS SEAT. 11 by the template 'for every input the law returns true; each argument reads behind the call as it read before'; 0 by the template 'total and deterministic' (their statements: YtnffdeokhcojfaaTotals.lean).
  GIVEN WITH THE SEED: the statements are not yours to turn. If you find one false, say at which input.
  Laid BY PROGRAM, IN A SANDBOX (cutbox-rows.mjs): the forced cells as the released guide's own fill.sh prints them over the translation 1fa5a7eb00219903… (all of the seat's roots in one cut). By AI agents, Wed Nov 11 2026. No macro, syntax, notation, axiom, sorry.
-/
import Derived.Test.YtnffdeokhcojfaaChecked
import GoSem.Claim
import GoSem.ClaimJoined
import GoSem.ClaimMapViews
import Derived.JoinedTies
import Derived.KernelRfl
namespace Go.Proofs.Ytnffdeokhcojfaa
/- THE CELL 'sum', in the pinned program and in every row, IS THE sha256 OF THE DUMP (.gsa) THAT YtnffdeokhcojfaaProg.lean LOADS. Nothing in Lean hashes anything: it is a label: what it is worth is what the hold of that sum in a sandbox is worth. -/
noncomputable def Try.pinned : Pinned := { name := "ytnffdeokhcojfaa", sum := "1fa5a7eb00219903a88e6231f1a4c997a37f9da64cf65187c62b342664d7b8a1", checked := Try.checked }
namespace Rows
def none {H : Type} : Left H := { results := [], args := [] }

/-- 'offshootlaw02.CrcBits': WHATEVER THE INPUT: true; the input reads as it did. -/
def crcBitsSpec : ChangeSpec := { name := "crcBits", fn := fun _ => fun
  | [d1, d2] => { results := [.lit (.bool true)], args := [d1, d2] }
  | _ => none }
def crcBitsRow : OpenClaim := { program := "ytnffdeokhcojfaa", sum := "1fa5a7eb00219903a88e6231f1a4c997a37f9da64cf65187c62b342664d7b8a1", func := "offshoot/offshootlaw02.CrcBits", spec := "crcBits", apart := false }
def CrcBitsSaid : Prop := crcBitsRow.holds Try.pinned (OpenSpec.ofChange crcBitsSpec)

/-- ITS FALSE NEIGHBOUR: 'it returns false'. Refute it at one input. -/
def crcBitsWrong : ChangeSpec := { name := "crcBits", fn := fun _ => fun
  | [d1, d2] => { results := [.lit (.bool false)], args := [d1, d2] }
  | _ => none }
def CrcBitsWrongFalsely : Prop := crcBitsRow.holds Try.pinned (OpenSpec.ofChange crcBitsWrong)

/-- 'offshootlaw02.CrcThree': WHATEVER THE INPUT: true; the input reads as it did. -/
def crcThreeSpec : ChangeSpec := { name := "crcThree", fn := fun _ => fun
  | [d1, d2, d3] => { results := [.lit (.bool true)], args := [d1, d2, d3] }
  | _ => none }
def crcThreeRow : OpenClaim := { program := "ytnffdeokhcojfaa", sum := "1fa5a7eb00219903a88e6231f1a4c997a37f9da64cf65187c62b342664d7b8a1", func := "offshoot/offshootlaw02.CrcThree", spec := "crcThree", apart := false }
def CrcThreeSaid : Prop := crcThreeRow.holds Try.pinned (OpenSpec.ofChange crcThreeSpec)

/-- ITS FALSE NEIGHBOUR: 'it returns false'. Refute it at one input. -/
def crcThreeWrong : ChangeSpec := { name := "crcThree", fn := fun _ => fun
  | [d1, d2, d3] => { results := [.lit (.bool false)], args := [d1, d2, d3] }
  | _ => none }
def CrcThreeWrongFalsely : Prop := crcThreeRow.holds Try.pinned (OpenSpec.ofChange crcThreeWrong)

/-- 'offshootlaw01.NumOrder': WHATEVER THE INPUT: true; the input reads as it did. -/
def numOrderSpec : ChangeSpec := { name := "numOrder", fn := fun _ => fun
  | [d1, d2] => { results := [.lit (.bool true)], args := [d1, d2] }
  | _ => none }
def numOrderRow : OpenClaim := { program := "ytnffdeokhcojfaa", sum := "1fa5a7eb00219903a88e6231f1a4c997a37f9da64cf65187c62b342664d7b8a1", func := "offshoot/offshootlaw01.NumOrder", spec := "numOrder", apart := false }
def NumOrderSaid : Prop := numOrderRow.holds Try.pinned (OpenSpec.ofChange numOrderSpec)

/-- ITS FALSE NEIGHBOUR: 'it returns false'. Refute it at one input. -/
def numOrderWrong : ChangeSpec := { name := "numOrder", fn := fun _ => fun
  | [d1, d2] => { results := [.lit (.bool false)], args := [d1, d2] }
  | _ => none }
def NumOrderWrongFalsely : Prop := numOrderRow.holds Try.pinned (OpenSpec.ofChange numOrderWrong)

/-- 'offshootlaw01.NumOne': WHATEVER THE INPUT: true; the input reads as it did. -/
def numOneSpec : ChangeSpec := { name := "numOne", fn := fun _ => fun
  | [d] => { results := [.lit (.bool true)], args := [d] }
  | _ => none }
def numOneRow : OpenClaim := { program := "ytnffdeokhcojfaa", sum := "1fa5a7eb00219903a88e6231f1a4c997a37f9da64cf65187c62b342664d7b8a1", func := "offshoot/offshootlaw01.NumOne", spec := "numOne", apart := false }
def NumOneSaid : Prop := numOneRow.holds Try.pinned (OpenSpec.ofChange numOneSpec)

/-- ITS FALSE NEIGHBOUR: 'it returns false'. Refute it at one input. -/
def numOneWrong : ChangeSpec := { name := "numOne", fn := fun _ => fun
  | [d] => { results := [.lit (.bool false)], args := [d] }
  | _ => none }
def NumOneWrongFalsely : Prop := numOneRow.holds Try.pinned (OpenSpec.ofChange numOneWrong)

/-- 'offshootlaw02.CrcAnswers': WHATEVER THE INPUT: true; the input reads as it did. -/
def crcAnswersSpec : ChangeSpec := { name := "crcAnswers", fn := fun _ => fun
  | [d1, d2] => { results := [.lit (.bool true)], args := [d1, d2] }
  | _ => none }
def crcAnswersRow : OpenClaim := { program := "ytnffdeokhcojfaa", sum := "1fa5a7eb00219903a88e6231f1a4c997a37f9da64cf65187c62b342664d7b8a1", func := "offshoot/offshootlaw02.CrcAnswers", spec := "crcAnswers", apart := false }
def CrcAnswersSaid : Prop := crcAnswersRow.holds Try.pinned (OpenSpec.ofChange crcAnswersSpec)

/-- ITS FALSE NEIGHBOUR: 'it returns false'. Refute it at one input. -/
def crcAnswersWrong : ChangeSpec := { name := "crcAnswers", fn := fun _ => fun
  | [d1, d2] => { results := [.lit (.bool false)], args := [d1, d2] }
  | _ => none }
def CrcAnswersWrongFalsely : Prop := crcAnswersRow.holds Try.pinned (OpenSpec.ofChange crcAnswersWrong)

/-- 'offshootlaw02.CrcBack': WHATEVER THE INPUT: true; the input reads as it did. -/
def crcBackSpec : ChangeSpec := { name := "crcBack", fn := fun _ => fun
  | [d1, d2] => { results := [.lit (.bool true)], args := [d1, d2] }
  | _ => none }
def crcBackRow : OpenClaim := { program := "ytnffdeokhcojfaa", sum := "1fa5a7eb00219903a88e6231f1a4c997a37f9da64cf65187c62b342664d7b8a1", func := "offshoot/offshootlaw02.CrcBack", spec := "crcBack", apart := false }
def CrcBackSaid : Prop := crcBackRow.holds Try.pinned (OpenSpec.ofChange crcBackSpec)

/-- ITS FALSE NEIGHBOUR: 'it returns false'. Refute it at one input. -/
def crcBackWrong : ChangeSpec := { name := "crcBack", fn := fun _ => fun
  | [d1, d2] => { results := [.lit (.bool false)], args := [d1, d2] }
  | _ => none }
def CrcBackWrongFalsely : Prop := crcBackRow.holds Try.pinned (OpenSpec.ofChange crcBackWrong)

/-- 'offshootlaw02.CrcPlaces': WHATEVER THE INPUT: true; the input reads as it did. -/
def crcPlacesSpec : ChangeSpec := { name := "crcPlaces", fn := fun _ => fun
  | [d1, d2] => { results := [.lit (.bool true)], args := [d1, d2] }
  | _ => none }
def crcPlacesRow : OpenClaim := { program := "ytnffdeokhcojfaa", sum := "1fa5a7eb00219903a88e6231f1a4c997a37f9da64cf65187c62b342664d7b8a1", func := "offshoot/offshootlaw02.CrcPlaces", spec := "crcPlaces", apart := false }
def CrcPlacesSaid : Prop := crcPlacesRow.holds Try.pinned (OpenSpec.ofChange crcPlacesSpec)

/-- ITS FALSE NEIGHBOUR: 'it returns false'. Refute it at one input. -/
def crcPlacesWrong : ChangeSpec := { name := "crcPlaces", fn := fun _ => fun
  | [d1, d2] => { results := [.lit (.bool false)], args := [d1, d2] }
  | _ => none }
def CrcPlacesWrongFalsely : Prop := crcPlacesRow.holds Try.pinned (OpenSpec.ofChange crcPlacesWrong)

/-- 'offshootlaw01.NumPuts': WHATEVER THE INPUT: true; the input reads as it did. -/
def numPutsSpec : ChangeSpec := { name := "numPuts", fn := fun _ => fun
  | [d1, d2] => { results := [.lit (.bool true)], args := [d1, d2] }
  | _ => none }
def numPutsRow : OpenClaim := { program := "ytnffdeokhcojfaa", sum := "1fa5a7eb00219903a88e6231f1a4c997a37f9da64cf65187c62b342664d7b8a1", func := "offshoot/offshootlaw01.NumPuts", spec := "numPuts", apart := false }
def NumPutsSaid : Prop := numPutsRow.holds Try.pinned (OpenSpec.ofChange numPutsSpec)

/-- ITS FALSE NEIGHBOUR: 'it returns false'. Refute it at one input. -/
def numPutsWrong : ChangeSpec := { name := "numPuts", fn := fun _ => fun
  | [d1, d2] => { results := [.lit (.bool false)], args := [d1, d2] }
  | _ => none }
def NumPutsWrongFalsely : Prop := numPutsRow.holds Try.pinned (OpenSpec.ofChange numPutsWrong)

/-- 'offshootlaw01.NumBack': WHATEVER THE INPUT: true; the input reads as it did. -/
def numBackSpec : ChangeSpec := { name := "numBack", fn := fun _ => fun
  | [d1, d2] => { results := [.lit (.bool true)], args := [d1, d2] }
  | _ => none }
def numBackRow : OpenClaim := { program := "ytnffdeokhcojfaa", sum := "1fa5a7eb00219903a88e6231f1a4c997a37f9da64cf65187c62b342664d7b8a1", func := "offshoot/offshootlaw01.NumBack", spec := "numBack", apart := false }
def NumBackSaid : Prop := numBackRow.holds Try.pinned (OpenSpec.ofChange numBackSpec)

/-- ITS FALSE NEIGHBOUR: 'it returns false'. Refute it at one input. -/
def numBackWrong : ChangeSpec := { name := "numBack", fn := fun _ => fun
  | [d1, d2] => { results := [.lit (.bool false)], args := [d1, d2] }
  | _ => none }
def NumBackWrongFalsely : Prop := numBackRow.holds Try.pinned (OpenSpec.ofChange numBackWrong)

/-- 'offshootlaw01.NumTakes': WHATEVER THE INPUT: true; the input reads as it did. -/
def numTakesSpec : ChangeSpec := { name := "numTakes", fn := fun _ => fun
  | [d1, d2] => { results := [.lit (.bool true)], args := [d1, d2] }
  | _ => none }
def numTakesRow : OpenClaim := { program := "ytnffdeokhcojfaa", sum := "1fa5a7eb00219903a88e6231f1a4c997a37f9da64cf65187c62b342664d7b8a1", func := "offshoot/offshootlaw01.NumTakes", spec := "numTakes", apart := false }
def NumTakesSaid : Prop := numTakesRow.holds Try.pinned (OpenSpec.ofChange numTakesSpec)

/-- ITS FALSE NEIGHBOUR: 'it returns false'. Refute it at one input. -/
def numTakesWrong : ChangeSpec := { name := "numTakes", fn := fun _ => fun
  | [d1, d2] => { results := [.lit (.bool false)], args := [d1, d2] }
  | _ => none }
def NumTakesWrongFalsely : Prop := numTakesRow.holds Try.pinned (OpenSpec.ofChange numTakesWrong)

/-- 'offshootlaw01.NumLost': WHATEVER THE INPUT: true; the input reads as it did. -/
def numLostSpec : ChangeSpec := { name := "numLost", fn := fun _ => fun
  | [d1, d2] => { results := [.lit (.bool true)], args := [d1, d2] }
  | _ => none }
def numLostRow : OpenClaim := { program := "ytnffdeokhcojfaa", sum := "1fa5a7eb00219903a88e6231f1a4c997a37f9da64cf65187c62b342664d7b8a1", func := "offshoot/offshootlaw01.NumLost", spec := "numLost", apart := false }
def NumLostSaid : Prop := numLostRow.holds Try.pinned (OpenSpec.ofChange numLostSpec)

/-- ITS FALSE NEIGHBOUR: 'it returns false'. Refute it at one input. -/
def numLostWrong : ChangeSpec := { name := "numLost", fn := fun _ => fun
  | [d1, d2] => { results := [.lit (.bool false)], args := [d1, d2] }
  | _ => none }
def NumLostWrongFalsely : Prop := numLostRow.holds Try.pinned (OpenSpec.ofChange numLostWrong)

/- THE SECOND FORM. 'bulk': how many values and letters a reading holds, each counted each time it is reached (what is shared counts as often as it is met; a slice's spare places count too). A statement '..UptoSaid' is the law's where the arguments, and the package variables that the reading takes, are together of bulk at most 1048576: NARROWER than '..Said'. Prove '..Said' where nothing that the law and all that it calls make is longer than what came in: it says more and counts as full. Else prove '..UptoSaid'. A law counts once. -/
mutual
def uptoBulk {H : Type} : DataW H → Nat
  | .lit (.string bytes) => bytes.length + 1
  | .lit _ => 1
  | .nil => 1
  | .ptr d => uptoBulk d + 1
  | .slice elems spare => uptoBulkAll elems + uptoBulkAll spare + 1
  | .agg parts => uptoBulkAll parts + 1
  | .iface _ d => uptoBulk d + 1
  | .map entries => uptoBulkEntries entries + 1
  | .held _ => 1
def uptoBulkAll {H : Type} : List (DataW H) → Nat
  | [] => 0
  | d :: r => uptoBulk d + uptoBulkAll r
def uptoBulkEntries {H : Type} : List (Lit × DataW H) → Nat
  | [] => 0
  | x :: r => uptoBulkEntry x + uptoBulkEntries r
def uptoBulkEntry {H : Type} : Lit × DataW H → Nat
  | (.string bytes, d) => bytes.length + uptoBulk d + 1
  | (_, d) => uptoBulk d + 1
 end
def uptoSmall : (H : Type) → List (DataW H) → Bool := fun _ ds => decide (uptoBulkAll ds ≤ 1048576)
def OpenSpec.upto (s : _root_.Go.ChangeSpec) : _root_.Go.OpenSpec := { _root_.Go.OpenSpec.ofChange s with cond := some uptoSmall }

/-- 'offshootlaw02.CrcBits', WHERE WHAT IT READS IS OF BULK AT MOST 1048576: true; the input reads as it did. -/
def crcBitsUptoRow : OpenClaim := { program := "ytnffdeokhcojfaa", sum := "1fa5a7eb00219903a88e6231f1a4c997a37f9da64cf65187c62b342664d7b8a1", func := "offshoot/offshootlaw02.CrcBits", spec := "crcBits", apart := false, narrowed := true }
def CrcBitsUptoSaid : Prop := crcBitsUptoRow.holds Try.pinned (OpenSpec.upto crcBitsSpec)

/-- 'offshootlaw02.CrcThree', WHERE WHAT IT READS IS OF BULK AT MOST 1048576: true; the input reads as it did. -/
def crcThreeUptoRow : OpenClaim := { program := "ytnffdeokhcojfaa", sum := "1fa5a7eb00219903a88e6231f1a4c997a37f9da64cf65187c62b342664d7b8a1", func := "offshoot/offshootlaw02.CrcThree", spec := "crcThree", apart := false, narrowed := true }
def CrcThreeUptoSaid : Prop := crcThreeUptoRow.holds Try.pinned (OpenSpec.upto crcThreeSpec)

/-- 'offshootlaw01.NumOrder', WHERE WHAT IT READS IS OF BULK AT MOST 1048576: true; the input reads as it did. -/
def numOrderUptoRow : OpenClaim := { program := "ytnffdeokhcojfaa", sum := "1fa5a7eb00219903a88e6231f1a4c997a37f9da64cf65187c62b342664d7b8a1", func := "offshoot/offshootlaw01.NumOrder", spec := "numOrder", apart := false, narrowed := true }
def NumOrderUptoSaid : Prop := numOrderUptoRow.holds Try.pinned (OpenSpec.upto numOrderSpec)

/-- 'offshootlaw01.NumOne', WHERE WHAT IT READS IS OF BULK AT MOST 1048576: true; the input reads as it did. -/
def numOneUptoRow : OpenClaim := { program := "ytnffdeokhcojfaa", sum := "1fa5a7eb00219903a88e6231f1a4c997a37f9da64cf65187c62b342664d7b8a1", func := "offshoot/offshootlaw01.NumOne", spec := "numOne", apart := false, narrowed := true }
def NumOneUptoSaid : Prop := numOneUptoRow.holds Try.pinned (OpenSpec.upto numOneSpec)

/-- 'offshootlaw02.CrcAnswers', WHERE WHAT IT READS IS OF BULK AT MOST 1048576: true; the input reads as it did. -/
def crcAnswersUptoRow : OpenClaim := { program := "ytnffdeokhcojfaa", sum := "1fa5a7eb00219903a88e6231f1a4c997a37f9da64cf65187c62b342664d7b8a1", func := "offshoot/offshootlaw02.CrcAnswers", spec := "crcAnswers", apart := false, narrowed := true }
def CrcAnswersUptoSaid : Prop := crcAnswersUptoRow.holds Try.pinned (OpenSpec.upto crcAnswersSpec)

/-- 'offshootlaw02.CrcBack', WHERE WHAT IT READS IS OF BULK AT MOST 1048576: true; the input reads as it did. -/
def crcBackUptoRow : OpenClaim := { program := "ytnffdeokhcojfaa", sum := "1fa5a7eb00219903a88e6231f1a4c997a37f9da64cf65187c62b342664d7b8a1", func := "offshoot/offshootlaw02.CrcBack", spec := "crcBack", apart := false, narrowed := true }
def CrcBackUptoSaid : Prop := crcBackUptoRow.holds Try.pinned (OpenSpec.upto crcBackSpec)

/-- 'offshootlaw02.CrcPlaces', WHERE WHAT IT READS IS OF BULK AT MOST 1048576: true; the input reads as it did. -/
def crcPlacesUptoRow : OpenClaim := { program := "ytnffdeokhcojfaa", sum := "1fa5a7eb00219903a88e6231f1a4c997a37f9da64cf65187c62b342664d7b8a1", func := "offshoot/offshootlaw02.CrcPlaces", spec := "crcPlaces", apart := false, narrowed := true }
def CrcPlacesUptoSaid : Prop := crcPlacesUptoRow.holds Try.pinned (OpenSpec.upto crcPlacesSpec)

/-- 'offshootlaw01.NumPuts', WHERE WHAT IT READS IS OF BULK AT MOST 1048576: true; the input reads as it did. -/
def numPutsUptoRow : OpenClaim := { program := "ytnffdeokhcojfaa", sum := "1fa5a7eb00219903a88e6231f1a4c997a37f9da64cf65187c62b342664d7b8a1", func := "offshoot/offshootlaw01.NumPuts", spec := "numPuts", apart := false, narrowed := true }
def NumPutsUptoSaid : Prop := numPutsUptoRow.holds Try.pinned (OpenSpec.upto numPutsSpec)

/-- 'offshootlaw01.NumBack', WHERE WHAT IT READS IS OF BULK AT MOST 1048576: true; the input reads as it did. -/
def numBackUptoRow : OpenClaim := { program := "ytnffdeokhcojfaa", sum := "1fa5a7eb00219903a88e6231f1a4c997a37f9da64cf65187c62b342664d7b8a1", func := "offshoot/offshootlaw01.NumBack", spec := "numBack", apart := false, narrowed := true }
def NumBackUptoSaid : Prop := numBackUptoRow.holds Try.pinned (OpenSpec.upto numBackSpec)

/-- 'offshootlaw01.NumTakes', WHERE WHAT IT READS IS OF BULK AT MOST 1048576: true; the input reads as it did. -/
def numTakesUptoRow : OpenClaim := { program := "ytnffdeokhcojfaa", sum := "1fa5a7eb00219903a88e6231f1a4c997a37f9da64cf65187c62b342664d7b8a1", func := "offshoot/offshootlaw01.NumTakes", spec := "numTakes", apart := false, narrowed := true }
def NumTakesUptoSaid : Prop := numTakesUptoRow.holds Try.pinned (OpenSpec.upto numTakesSpec)

/-- 'offshootlaw01.NumLost', WHERE WHAT IT READS IS OF BULK AT MOST 1048576: true; the input reads as it did. -/
def numLostUptoRow : OpenClaim := { program := "ytnffdeokhcojfaa", sum := "1fa5a7eb00219903a88e6231f1a4c997a37f9da64cf65187c62b342664d7b8a1", func := "offshoot/offshootlaw01.NumLost", spec := "numLost", apart := false, narrowed := true }
def NumLostUptoSaid : Prop := numLostUptoRow.holds Try.pinned (OpenSpec.upto numLostSpec)

end Rows
end Go.Proofs.Ytnffdeokhcojfaa
