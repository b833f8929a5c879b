/-
  DERIVED. GIVEN WITH THE SEED: THE CARDS: each row of YtnponnkcfgjeoaaDoorRows.lean that lists a variable, with what it lists TIED to the program's text (the seventh form; the later family's looks); each row that meets fmt, with fmt's text TOLD by the authors' own Lean function (tested against real Go, not proved from fmt's source: count such statements apart). THE CARD IS WHAT COUNTS. Prove the row's statement (the work); the ties are given (YtnponnkcfgjeoaaDoorTie.lean); close each card by the builder's one call (the guide's Derived/Test/ToyasCard.lean, 'card_holds'). Laid BY PROGRAM, IN A SANDBOX (cutbox-door.mjs). By AI agents, Wed Nov 11 2026. No macro, syntax, notation, axiom, sorry.
-/
import Derived.Test.YtnponnkcfgjeoaaDoorRows
import GoSem.ClaimSeven
namespace Go.Proofs.YtnponnkcfgjeoaaDoor
namespace Rows

/-- THE TIED CARD OF 'laws.FnExactFracCmp'. -/
def fnExactFracCmpCard : Claim7 := { stood := { row := fnExactFracCmpRow, standIns := [], harness := (true, "367200faf2c18a8d3acd0cadfc4f4a0300d2711da9ddbae6489321d2dd8a2082"), looks := true }, kinds := [], alts := [], laidByText := true, laidKinds := [.sentinel], laidTests := true, laidLooks := .later }
def FnExactFracCmpCardSaid : Prop := Claim7.holds Tryd.pinned (.plain (OpenSpec.ofChange fnExactFracCmpSpec)) fnExactFracCmpCard

/-- THE TIED CARD OF 'laws.FnFracBad'. -/
def fnFracBadCard : Claim7 := { stood := { row := fnFracBadRow, standIns := [], harness := (true, "367200faf2c18a8d3acd0cadfc4f4a0300d2711da9ddbae6489321d2dd8a2082"), looks := true }, kinds := [], alts := [], laidByText := true, laidKinds := [.sentinel], laidTests := true, laidLooks := .later }
def FnFracBadCardSaid : Prop := Claim7.holds Tryd.pinned (.plain (OpenSpec.ofChange fnFracBadSpec)) fnFracBadCard

/-- THE TIED CARD OF 'laws.FnFracWhole'. -/
def fnFracWholeCard : Claim7 := { stood := { row := fnFracWholeRow, standIns := [], harness := (true, "367200faf2c18a8d3acd0cadfc4f4a0300d2711da9ddbae6489321d2dd8a2082"), looks := true }, kinds := [], alts := [], laidByText := true, laidKinds := [.sentinel], laidTests := true, laidLooks := .later }
def FnFracWholeCardSaid : Prop := Claim7.holds Tryd.pinned (.plain (OpenSpec.ofChange fnFracWholeSpec)) fnFracWholeCard

/-- THE TIED CARD OF 'laws.FnFracOrder'. -/
def fnFracOrderCard : Claim7 := { stood := { row := fnFracOrderRow, standIns := [], harness := (true, "367200faf2c18a8d3acd0cadfc4f4a0300d2711da9ddbae6489321d2dd8a2082"), looks := true }, kinds := [], alts := [], laidByText := true, laidKinds := [.sentinel], laidTests := true, laidLooks := .later }
def FnFracOrderCardSaid : Prop := Claim7.holds Tryd.pinned (.plain (OpenSpec.ofChange fnFracOrderSpec)) fnFracOrderCard

/-- THE TIED CARD OF 'laws.FnFracThree'. -/
def fnFracThreeCard : Claim7 := { stood := { row := fnFracThreeRow, standIns := [], harness := (true, "367200faf2c18a8d3acd0cadfc4f4a0300d2711da9ddbae6489321d2dd8a2082"), looks := true }, kinds := [], alts := [], laidByText := true, laidKinds := [.sentinel], laidTests := true, laidLooks := .later }
def FnFracThreeCardSaid : Prop := Claim7.holds Tryd.pinned (.plain (OpenSpec.ofChange fnFracThreeSpec)) fnFracThreeCard

/-- THE TIED CARD OF 'laws.FnFarLonger'. -/
def fnFarLongerCard : Claim7 := { stood := { row := fnFarLongerRow, standIns := [], harness := (true, "367200faf2c18a8d3acd0cadfc4f4a0300d2711da9ddbae6489321d2dd8a2082"), looks := true }, kinds := [], alts := [], laidByText := true, laidKinds := [.sentinel], laidTests := true, laidLooks := .later }
def FnFarLongerCardSaid : Prop := Claim7.holds Tryd.pinned (.plain (OpenSpec.ofChange fnFarLongerSpec)) fnFarLongerCard

/-- THE TIED CARD OF 'laws.FnFarAll'. -/
def fnFarAllCard : Claim7 := { stood := { row := fnFarAllRow, standIns := [], harness := (true, "367200faf2c18a8d3acd0cadfc4f4a0300d2711da9ddbae6489321d2dd8a2082"), looks := true }, kinds := [], alts := [], laidByText := true, laidKinds := [.sentinel], laidTests := true, laidLooks := .later }
def FnFarAllCardSaid : Prop := Claim7.holds Tryd.pinned (.plain (OpenSpec.ofChange fnFarAllSpec)) fnFarAllCard

/-- THE TIED CARD OF 'laws.FnExactSegApart'. -/
def fnExactSegApartCard : Claim7 := { stood := { row := fnExactSegApartRow, standIns := [], harness := (true, "367200faf2c18a8d3acd0cadfc4f4a0300d2711da9ddbae6489321d2dd8a2082"), looks := true }, kinds := [], alts := [], laidByText := true, laidKinds := [.sentinel], laidTests := true, laidLooks := .later }
def FnExactSegApartCardSaid : Prop := Claim7.holds Tryd.pinned (.plain (OpenSpec.ofChange fnExactSegApartSpec)) fnExactSegApartCard

/-- THE TIED CARD OF 'laws.FnFarEnds'. -/
def fnFarEndsCard : Claim7 := { stood := { row := fnFarEndsRow, standIns := [], harness := (true, "367200faf2c18a8d3acd0cadfc4f4a0300d2711da9ddbae6489321d2dd8a2082"), looks := true }, kinds := [], alts := [], laidByText := true, laidKinds := [.sentinel], laidTests := true, laidLooks := .later }
def FnFarEndsCardSaid : Prop := Claim7.holds Tryd.pinned (.plain (OpenSpec.ofChange fnFarEndsSpec)) fnFarEndsCard

/-- THE TIED CARD OF 'laws.FnApartEnds'. -/
def fnApartEndsCard : Claim7 := { stood := { row := fnApartEndsRow, standIns := [], harness := (true, "367200faf2c18a8d3acd0cadfc4f4a0300d2711da9ddbae6489321d2dd8a2082"), looks := true }, kinds := [], alts := [], laidByText := true, laidKinds := [.sentinel], laidTests := true, laidLooks := .later }
def FnApartEndsCardSaid : Prop := Claim7.holds Tryd.pinned (.plain (OpenSpec.ofChange fnApartEndsSpec)) fnApartEndsCard

/-- THE TIED CARD OF 'laws.FnApartFar'. -/
def fnApartFarCard : Claim7 := { stood := { row := fnApartFarRow, standIns := [], harness := (true, "367200faf2c18a8d3acd0cadfc4f4a0300d2711da9ddbae6489321d2dd8a2082"), looks := true }, kinds := [], alts := [], laidByText := true, laidKinds := [.sentinel], laidTests := true, laidLooks := .later }
def FnApartFarCardSaid : Prop := Claim7.holds Tryd.pinned (.plain (OpenSpec.ofChange fnApartFarSpec)) fnApartFarCard

/-- THE TIED CARD OF 'laws.FnMeetApart'. -/
def fnMeetApartCard : Claim7 := { stood := { row := fnMeetApartRow, standIns := [], harness := (true, "367200faf2c18a8d3acd0cadfc4f4a0300d2711da9ddbae6489321d2dd8a2082"), looks := true }, kinds := [], alts := [], laidByText := true, laidKinds := [.sentinel], laidTests := true, laidLooks := .later }
def FnMeetApartCardSaid : Prop := Claim7.holds Tryd.pinned (.plain (OpenSpec.ofChange fnMeetApartSpec)) fnMeetApartCard

/-- THE SECOND FORM's CARD OF 'laws.FnExactFracCmp'. -/
def fnExactFracCmpUptoCard : Claim7 := { stood := { row := fnExactFracCmpUptoRow, standIns := [], harness := (true, "367200faf2c18a8d3acd0cadfc4f4a0300d2711da9ddbae6489321d2dd8a2082"), looks := true }, kinds := [], alts := [], laidByText := true, laidKinds := [.sentinel], laidTests := true, laidLooks := .later }
def FnExactFracCmpUptoCardSaid : Prop := Claim7.holds Tryd.pinned (.plain (OpenSpec.upto fnExactFracCmpSpec)) fnExactFracCmpUptoCard

/-- THE SECOND FORM's CARD OF 'laws.FnFracBad'. -/
def fnFracBadUptoCard : Claim7 := { stood := { row := fnFracBadUptoRow, standIns := [], harness := (true, "367200faf2c18a8d3acd0cadfc4f4a0300d2711da9ddbae6489321d2dd8a2082"), looks := true }, kinds := [], alts := [], laidByText := true, laidKinds := [.sentinel], laidTests := true, laidLooks := .later }
def FnFracBadUptoCardSaid : Prop := Claim7.holds Tryd.pinned (.plain (OpenSpec.upto fnFracBadSpec)) fnFracBadUptoCard

/-- THE SECOND FORM's CARD OF 'laws.FnFracWhole'. -/
def fnFracWholeUptoCard : Claim7 := { stood := { row := fnFracWholeUptoRow, standIns := [], harness := (true, "367200faf2c18a8d3acd0cadfc4f4a0300d2711da9ddbae6489321d2dd8a2082"), looks := true }, kinds := [], alts := [], laidByText := true, laidKinds := [.sentinel], laidTests := true, laidLooks := .later }
def FnFracWholeUptoCardSaid : Prop := Claim7.holds Tryd.pinned (.plain (OpenSpec.upto fnFracWholeSpec)) fnFracWholeUptoCard

/-- THE SECOND FORM's CARD OF 'laws.FnFracOrder'. -/
def fnFracOrderUptoCard : Claim7 := { stood := { row := fnFracOrderUptoRow, standIns := [], harness := (true, "367200faf2c18a8d3acd0cadfc4f4a0300d2711da9ddbae6489321d2dd8a2082"), looks := true }, kinds := [], alts := [], laidByText := true, laidKinds := [.sentinel], laidTests := true, laidLooks := .later }
def FnFracOrderUptoCardSaid : Prop := Claim7.holds Tryd.pinned (.plain (OpenSpec.upto fnFracOrderSpec)) fnFracOrderUptoCard

/-- THE SECOND FORM's CARD OF 'laws.FnFracThree'. -/
def fnFracThreeUptoCard : Claim7 := { stood := { row := fnFracThreeUptoRow, standIns := [], harness := (true, "367200faf2c18a8d3acd0cadfc4f4a0300d2711da9ddbae6489321d2dd8a2082"), looks := true }, kinds := [], alts := [], laidByText := true, laidKinds := [.sentinel], laidTests := true, laidLooks := .later }
def FnFracThreeUptoCardSaid : Prop := Claim7.holds Tryd.pinned (.plain (OpenSpec.upto fnFracThreeSpec)) fnFracThreeUptoCard

/-- THE SECOND FORM's CARD OF 'laws.FnFarLonger'. -/
def fnFarLongerUptoCard : Claim7 := { stood := { row := fnFarLongerUptoRow, standIns := [], harness := (true, "367200faf2c18a8d3acd0cadfc4f4a0300d2711da9ddbae6489321d2dd8a2082"), looks := true }, kinds := [], alts := [], laidByText := true, laidKinds := [.sentinel], laidTests := true, laidLooks := .later }
def FnFarLongerUptoCardSaid : Prop := Claim7.holds Tryd.pinned (.plain (OpenSpec.upto fnFarLongerSpec)) fnFarLongerUptoCard

/-- THE SECOND FORM's CARD OF 'laws.FnFarAll'. -/
def fnFarAllUptoCard : Claim7 := { stood := { row := fnFarAllUptoRow, standIns := [], harness := (true, "367200faf2c18a8d3acd0cadfc4f4a0300d2711da9ddbae6489321d2dd8a2082"), looks := true }, kinds := [], alts := [], laidByText := true, laidKinds := [.sentinel], laidTests := true, laidLooks := .later }
def FnFarAllUptoCardSaid : Prop := Claim7.holds Tryd.pinned (.plain (OpenSpec.upto fnFarAllSpec)) fnFarAllUptoCard

/-- THE SECOND FORM's CARD OF 'laws.FnExactSegApart'. -/
def fnExactSegApartUptoCard : Claim7 := { stood := { row := fnExactSegApartUptoRow, standIns := [], harness := (true, "367200faf2c18a8d3acd0cadfc4f4a0300d2711da9ddbae6489321d2dd8a2082"), looks := true }, kinds := [], alts := [], laidByText := true, laidKinds := [.sentinel], laidTests := true, laidLooks := .later }
def FnExactSegApartUptoCardSaid : Prop := Claim7.holds Tryd.pinned (.plain (OpenSpec.upto fnExactSegApartSpec)) fnExactSegApartUptoCard

/-- THE SECOND FORM's CARD OF 'laws.FnFarEnds'. -/
def fnFarEndsUptoCard : Claim7 := { stood := { row := fnFarEndsUptoRow, standIns := [], harness := (true, "367200faf2c18a8d3acd0cadfc4f4a0300d2711da9ddbae6489321d2dd8a2082"), looks := true }, kinds := [], alts := [], laidByText := true, laidKinds := [.sentinel], laidTests := true, laidLooks := .later }
def FnFarEndsUptoCardSaid : Prop := Claim7.holds Tryd.pinned (.plain (OpenSpec.upto fnFarEndsSpec)) fnFarEndsUptoCard

/-- THE SECOND FORM's CARD OF 'laws.FnApartEnds'. -/
def fnApartEndsUptoCard : Claim7 := { stood := { row := fnApartEndsUptoRow, standIns := [], harness := (true, "367200faf2c18a8d3acd0cadfc4f4a0300d2711da9ddbae6489321d2dd8a2082"), looks := true }, kinds := [], alts := [], laidByText := true, laidKinds := [.sentinel], laidTests := true, laidLooks := .later }
def FnApartEndsUptoCardSaid : Prop := Claim7.holds Tryd.pinned (.plain (OpenSpec.upto fnApartEndsSpec)) fnApartEndsUptoCard

/-- THE SECOND FORM's CARD OF 'laws.FnApartFar'. -/
def fnApartFarUptoCard : Claim7 := { stood := { row := fnApartFarUptoRow, standIns := [], harness := (true, "367200faf2c18a8d3acd0cadfc4f4a0300d2711da9ddbae6489321d2dd8a2082"), looks := true }, kinds := [], alts := [], laidByText := true, laidKinds := [.sentinel], laidTests := true, laidLooks := .later }
def FnApartFarUptoCardSaid : Prop := Claim7.holds Tryd.pinned (.plain (OpenSpec.upto fnApartFarSpec)) fnApartFarUptoCard

/-- THE SECOND FORM's CARD OF 'laws.FnMeetApart'. -/
def fnMeetApartUptoCard : Claim7 := { stood := { row := fnMeetApartUptoRow, standIns := [], harness := (true, "367200faf2c18a8d3acd0cadfc4f4a0300d2711da9ddbae6489321d2dd8a2082"), looks := true }, kinds := [], alts := [], laidByText := true, laidKinds := [.sentinel], laidTests := true, laidLooks := .later }
def FnMeetApartUptoCardSaid : Prop := Claim7.holds Tryd.pinned (.plain (OpenSpec.upto fnMeetApartSpec)) fnMeetApartUptoCard
end Rows
end Go.Proofs.YtnponnkcfgjeoaaDoor
