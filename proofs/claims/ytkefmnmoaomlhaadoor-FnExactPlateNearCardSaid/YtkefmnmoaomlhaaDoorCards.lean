/-
  DERIVED. GIVEN WITH THE SEED: THE CARDS: each row of YtkefmnmoaomlhaaDoorRows.lean that lists a variable, with what it lists TIED to the program's text (the seventh form; the later family's looks); each row that meets fmt, with fmt's text TOLD by the authors' own Lean function (tested against real Go, not proved from fmt's source: count such statements apart). THE CARD IS WHAT COUNTS. Prove the row's statement (the work); the ties are given (YtkefmnmoaomlhaaDoorTie.lean); close each card by the builder's one call (the guide's Derived/Test/ToyasCard.lean, 'card_holds'). Laid BY PROGRAM, IN A SANDBOX (cutbox-door.mjs). By AI agents, Wed Nov 11 2026. No macro, syntax, notation, axiom, sorry.
-/
import Derived.Test.YtkefmnmoaomlhaaDoorRows
import GoSem.ClaimSeven
namespace Go.Proofs.YtkefmnmoaomlhaaDoor
namespace Rows

/-- THE TIED CARD OF 'laws.FnPlateStep'. -/
def fnPlateStepCard : Claim7 := { stood := { row := fnPlateStepRow, standIns := [], harness := (true, "81de65706e8f648528cfb316c2c65b1eb27649638b9ac8b9a8b267c9286ff7f7"), looks := true }, kinds := [], alts := [], laidByText := true, laidKinds := [.sentinel], laidTests := true, laidLooks := .later }
def FnPlateStepCardSaid : Prop := Claim7.holds Tryd.pinned (.plain (OpenSpec.ofChange fnPlateStepSpec)) fnPlateStepCard

/-- THE TIED CARD OF 'laws.FnExactToolFits'. -/
def fnExactToolFitsCard : Claim7 := { stood := { row := fnExactToolFitsRow, standIns := [], harness := (true, "81de65706e8f648528cfb316c2c65b1eb27649638b9ac8b9a8b267c9286ff7f7"), looks := true }, kinds := [], alts := [], laidByText := true, laidKinds := [.sentinel], laidTests := true, laidLooks := .later }
def FnExactToolFitsCardSaid : Prop := Claim7.holds Tryd.pinned (.plain (OpenSpec.ofChange fnExactToolFitsSpec)) fnExactToolFitsCard

/-- THE TIED CARD OF 'laws.FnPlateLess'. -/
def fnPlateLessCard : Claim7 := { stood := { row := fnPlateLessRow, standIns := [], harness := (true, "81de65706e8f648528cfb316c2c65b1eb27649638b9ac8b9a8b267c9286ff7f7"), looks := true }, kinds := [], alts := [], laidByText := true, laidKinds := [.sentinel], laidTests := true, laidLooks := .later }
def FnPlateLessCardSaid : Prop := Claim7.holds Tryd.pinned (.plain (OpenSpec.ofChange fnPlateLessSpec)) fnPlateLessCard

/-- THE TIED CARD OF 'laws.FnExactPlateFar'. -/
def fnExactPlateFarCard : Claim7 := { stood := { row := fnExactPlateFarRow, standIns := [], harness := (true, "81de65706e8f648528cfb316c2c65b1eb27649638b9ac8b9a8b267c9286ff7f7"), looks := true }, kinds := [], alts := [], laidByText := true, laidKinds := [.sentinel], laidTests := true, laidLooks := .later }
def FnExactPlateFarCardSaid : Prop := Claim7.holds Tryd.pinned (.plain (OpenSpec.ofChange fnExactPlateFarSpec)) fnExactPlateFarCard

/-- THE TIED CARD OF 'laws.FnFitsLess'. -/
def fnFitsLessCard : Claim7 := { stood := { row := fnFitsLessRow, standIns := [], harness := (true, "81de65706e8f648528cfb316c2c65b1eb27649638b9ac8b9a8b267c9286ff7f7"), looks := true }, kinds := [], alts := [], laidByText := true, laidKinds := [.sentinel], laidTests := true, laidLooks := .later }
def FnFitsLessCardSaid : Prop := Claim7.holds Tryd.pinned (.plain (OpenSpec.ofChange fnFitsLessSpec)) fnFitsLessCard

/-- THE TIED CARD OF 'laws.FnPlateShift'. -/
def fnPlateShiftCard : Claim7 := { stood := { row := fnPlateShiftRow, standIns := [], harness := (true, "81de65706e8f648528cfb316c2c65b1eb27649638b9ac8b9a8b267c9286ff7f7"), looks := true }, kinds := [], alts := [], laidByText := true, laidKinds := [.sentinel], laidTests := true, laidLooks := .later }
def FnPlateShiftCardSaid : Prop := Claim7.holds Tryd.pinned (.plain (OpenSpec.ofChange fnPlateShiftSpec)) fnPlateShiftCard

/-- THE TIED CARD OF 'laws.FnFits'. -/
def fnFitsCard : Claim7 := { stood := { row := fnFitsRow, standIns := [], harness := (true, "81de65706e8f648528cfb316c2c65b1eb27649638b9ac8b9a8b267c9286ff7f7"), looks := true }, kinds := [], alts := [], laidByText := true, laidKinds := [.sentinel], laidTests := true, laidLooks := .later }
def FnFitsCardSaid : Prop := Claim7.holds Tryd.pinned (.plain (OpenSpec.ofChange fnFitsSpec)) fnFitsCard

/-- THE TIED CARD OF 'laws.FnPlateFar'. -/
def fnPlateFarCard : Claim7 := { stood := { row := fnPlateFarRow, standIns := [], harness := (true, "81de65706e8f648528cfb316c2c65b1eb27649638b9ac8b9a8b267c9286ff7f7"), looks := true }, kinds := [], alts := [], laidByText := true, laidKinds := [.sentinel], laidTests := true, laidLooks := .later }
def FnPlateFarCardSaid : Prop := Claim7.holds Tryd.pinned (.plain (OpenSpec.ofChange fnPlateFarSpec)) fnPlateFarCard

/-- THE TIED CARD OF 'laws.FnFitsMost'. -/
def fnFitsMostCard : Claim7 := { stood := { row := fnFitsMostRow, standIns := [], harness := (true, "81de65706e8f648528cfb316c2c65b1eb27649638b9ac8b9a8b267c9286ff7f7"), looks := true }, kinds := [], alts := [], laidByText := true, laidKinds := [.sentinel], laidTests := true, laidLooks := .later }
def FnFitsMostCardSaid : Prop := Claim7.holds Tryd.pinned (.plain (OpenSpec.ofChange fnFitsMostSpec)) fnFitsMostCard

/-- THE TIED CARD OF 'laws.FnPlateNear'. -/
def fnPlateNearCard : Claim7 := { stood := { row := fnPlateNearRow, standIns := [], harness := (true, "81de65706e8f648528cfb316c2c65b1eb27649638b9ac8b9a8b267c9286ff7f7"), looks := true }, kinds := [], alts := [], laidByText := true, laidKinds := [.sentinel], laidTests := true, laidLooks := .later }
def FnPlateNearCardSaid : Prop := Claim7.holds Tryd.pinned (.plain (OpenSpec.ofChange fnPlateNearSpec)) fnPlateNearCard

/-- THE TIED CARD OF 'laws.FnPlateInOver'. -/
def fnPlateInOverCard : Claim7 := { stood := { row := fnPlateInOverRow, standIns := [], harness := (true, "81de65706e8f648528cfb316c2c65b1eb27649638b9ac8b9a8b267c9286ff7f7"), looks := true }, kinds := [], alts := [], laidByText := true, laidKinds := [.sentinel], laidTests := true, laidLooks := .later }
def FnPlateInOverCardSaid : Prop := Claim7.holds Tryd.pinned (.plain (OpenSpec.ofChange fnPlateInOverSpec)) fnPlateInOverCard

/-- THE TIED CARD OF 'laws.FnExactPlateNear'. -/
def fnExactPlateNearCard : Claim7 := { stood := { row := fnExactPlateNearRow, standIns := [], harness := (true, "81de65706e8f648528cfb316c2c65b1eb27649638b9ac8b9a8b267c9286ff7f7"), looks := true }, kinds := [], alts := [], laidByText := true, laidKinds := [.sentinel], laidTests := true, laidLooks := .later }
def FnExactPlateNearCardSaid : Prop := Claim7.holds Tryd.pinned (.plain (OpenSpec.ofChange fnExactPlateNearSpec)) fnExactPlateNearCard

/-- THE SECOND FORM's CARD OF 'laws.FnPlateStep'. -/
def fnPlateStepUptoCard : Claim7 := { stood := { row := fnPlateStepUptoRow, standIns := [], harness := (true, "81de65706e8f648528cfb316c2c65b1eb27649638b9ac8b9a8b267c9286ff7f7"), looks := true }, kinds := [], alts := [], laidByText := true, laidKinds := [.sentinel], laidTests := true, laidLooks := .later }
def FnPlateStepUptoCardSaid : Prop := Claim7.holds Tryd.pinned (.plain (OpenSpec.upto fnPlateStepSpec)) fnPlateStepUptoCard

/-- THE SECOND FORM's CARD OF 'laws.FnExactToolFits'. -/
def fnExactToolFitsUptoCard : Claim7 := { stood := { row := fnExactToolFitsUptoRow, standIns := [], harness := (true, "81de65706e8f648528cfb316c2c65b1eb27649638b9ac8b9a8b267c9286ff7f7"), looks := true }, kinds := [], alts := [], laidByText := true, laidKinds := [.sentinel], laidTests := true, laidLooks := .later }
def FnExactToolFitsUptoCardSaid : Prop := Claim7.holds Tryd.pinned (.plain (OpenSpec.upto fnExactToolFitsSpec)) fnExactToolFitsUptoCard

/-- THE SECOND FORM's CARD OF 'laws.FnPlateLess'. -/
def fnPlateLessUptoCard : Claim7 := { stood := { row := fnPlateLessUptoRow, standIns := [], harness := (true, "81de65706e8f648528cfb316c2c65b1eb27649638b9ac8b9a8b267c9286ff7f7"), looks := true }, kinds := [], alts := [], laidByText := true, laidKinds := [.sentinel], laidTests := true, laidLooks := .later }
def FnPlateLessUptoCardSaid : Prop := Claim7.holds Tryd.pinned (.plain (OpenSpec.upto fnPlateLessSpec)) fnPlateLessUptoCard

/-- THE SECOND FORM's CARD OF 'laws.FnExactPlateFar'. -/
def fnExactPlateFarUptoCard : Claim7 := { stood := { row := fnExactPlateFarUptoRow, standIns := [], harness := (true, "81de65706e8f648528cfb316c2c65b1eb27649638b9ac8b9a8b267c9286ff7f7"), looks := true }, kinds := [], alts := [], laidByText := true, laidKinds := [.sentinel], laidTests := true, laidLooks := .later }
def FnExactPlateFarUptoCardSaid : Prop := Claim7.holds Tryd.pinned (.plain (OpenSpec.upto fnExactPlateFarSpec)) fnExactPlateFarUptoCard

/-- THE SECOND FORM's CARD OF 'laws.FnFitsLess'. -/
def fnFitsLessUptoCard : Claim7 := { stood := { row := fnFitsLessUptoRow, standIns := [], harness := (true, "81de65706e8f648528cfb316c2c65b1eb27649638b9ac8b9a8b267c9286ff7f7"), looks := true }, kinds := [], alts := [], laidByText := true, laidKinds := [.sentinel], laidTests := true, laidLooks := .later }
def FnFitsLessUptoCardSaid : Prop := Claim7.holds Tryd.pinned (.plain (OpenSpec.upto fnFitsLessSpec)) fnFitsLessUptoCard

/-- THE SECOND FORM's CARD OF 'laws.FnPlateShift'. -/
def fnPlateShiftUptoCard : Claim7 := { stood := { row := fnPlateShiftUptoRow, standIns := [], harness := (true, "81de65706e8f648528cfb316c2c65b1eb27649638b9ac8b9a8b267c9286ff7f7"), looks := true }, kinds := [], alts := [], laidByText := true, laidKinds := [.sentinel], laidTests := true, laidLooks := .later }
def FnPlateShiftUptoCardSaid : Prop := Claim7.holds Tryd.pinned (.plain (OpenSpec.upto fnPlateShiftSpec)) fnPlateShiftUptoCard

/-- THE SECOND FORM's CARD OF 'laws.FnFits'. -/
def fnFitsUptoCard : Claim7 := { stood := { row := fnFitsUptoRow, standIns := [], harness := (true, "81de65706e8f648528cfb316c2c65b1eb27649638b9ac8b9a8b267c9286ff7f7"), looks := true }, kinds := [], alts := [], laidByText := true, laidKinds := [.sentinel], laidTests := true, laidLooks := .later }
def FnFitsUptoCardSaid : Prop := Claim7.holds Tryd.pinned (.plain (OpenSpec.upto fnFitsSpec)) fnFitsUptoCard

/-- THE SECOND FORM's CARD OF 'laws.FnPlateFar'. -/
def fnPlateFarUptoCard : Claim7 := { stood := { row := fnPlateFarUptoRow, standIns := [], harness := (true, "81de65706e8f648528cfb316c2c65b1eb27649638b9ac8b9a8b267c9286ff7f7"), looks := true }, kinds := [], alts := [], laidByText := true, laidKinds := [.sentinel], laidTests := true, laidLooks := .later }
def FnPlateFarUptoCardSaid : Prop := Claim7.holds Tryd.pinned (.plain (OpenSpec.upto fnPlateFarSpec)) fnPlateFarUptoCard

/-- THE SECOND FORM's CARD OF 'laws.FnFitsMost'. -/
def fnFitsMostUptoCard : Claim7 := { stood := { row := fnFitsMostUptoRow, standIns := [], harness := (true, "81de65706e8f648528cfb316c2c65b1eb27649638b9ac8b9a8b267c9286ff7f7"), looks := true }, kinds := [], alts := [], laidByText := true, laidKinds := [.sentinel], laidTests := true, laidLooks := .later }
def FnFitsMostUptoCardSaid : Prop := Claim7.holds Tryd.pinned (.plain (OpenSpec.upto fnFitsMostSpec)) fnFitsMostUptoCard

/-- THE SECOND FORM's CARD OF 'laws.FnPlateNear'. -/
def fnPlateNearUptoCard : Claim7 := { stood := { row := fnPlateNearUptoRow, standIns := [], harness := (true, "81de65706e8f648528cfb316c2c65b1eb27649638b9ac8b9a8b267c9286ff7f7"), looks := true }, kinds := [], alts := [], laidByText := true, laidKinds := [.sentinel], laidTests := true, laidLooks := .later }
def FnPlateNearUptoCardSaid : Prop := Claim7.holds Tryd.pinned (.plain (OpenSpec.upto fnPlateNearSpec)) fnPlateNearUptoCard

/-- THE SECOND FORM's CARD OF 'laws.FnPlateInOver'. -/
def fnPlateInOverUptoCard : Claim7 := { stood := { row := fnPlateInOverUptoRow, standIns := [], harness := (true, "81de65706e8f648528cfb316c2c65b1eb27649638b9ac8b9a8b267c9286ff7f7"), looks := true }, kinds := [], alts := [], laidByText := true, laidKinds := [.sentinel], laidTests := true, laidLooks := .later }
def FnPlateInOverUptoCardSaid : Prop := Claim7.holds Tryd.pinned (.plain (OpenSpec.upto fnPlateInOverSpec)) fnPlateInOverUptoCard

/-- THE SECOND FORM's CARD OF 'laws.FnExactPlateNear'. -/
def fnExactPlateNearUptoCard : Claim7 := { stood := { row := fnExactPlateNearUptoRow, standIns := [], harness := (true, "81de65706e8f648528cfb316c2c65b1eb27649638b9ac8b9a8b267c9286ff7f7"), looks := true }, kinds := [], alts := [], laidByText := true, laidKinds := [.sentinel], laidTests := true, laidLooks := .later }
def FnExactPlateNearUptoCardSaid : Prop := Claim7.holds Tryd.pinned (.plain (OpenSpec.upto fnExactPlateNearSpec)) fnExactPlateNearUptoCard
end Rows
end Go.Proofs.YtkefmnmoaomlhaaDoor
