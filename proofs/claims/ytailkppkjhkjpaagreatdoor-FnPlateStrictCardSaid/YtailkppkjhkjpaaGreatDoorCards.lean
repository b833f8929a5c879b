/-
  DERIVED. GIVEN WITH THE SEED: THE CARDS: each row of YtailkppkjhkjpaaGreatDoorRows.lean that lists a variable, with what it lists TIED to the program's text (the seventh form; the later family's looks); each row that meets fmt, with fmt's text TOLD by the authors' own Lean function (tested against real Go, not proved from fmt's source: count such statements apart). THE CARD IS WHAT COUNTS. Prove the row's statement (the work); the ties are given (YtailkppkjhkjpaaGreatDoorTie.lean); close each card by the builder's one call (the guide's Derived/Test/ToyasCard.lean, 'card_holds'). Laid BY PROGRAM, IN A SANDBOX (cutbox-door.mjs). By AI agents, Wed Nov 11 2026. No macro, syntax, notation, axiom, sorry.
-/
import Derived.Test.YtailkppkjhkjpaaGreatDoorRows
import GoSem.ClaimSeven
namespace Go.Proofs.YtailkppkjhkjpaaGreatDoor
namespace Rows

/-- THE TIED CARD OF 'laws.FnPlateStrict'. -/
def fnPlateStrictCard : Claim7 := { stood := { row := fnPlateStrictRow, standIns := [], harness := (true, "88d3cfcfb5992bb044136702e0373ffa234de53f8d0e0788462d650f784c4194"), looks := false }, kinds := [], alts := [], laidByText := true, laidKinds := [.data, .data, .data, .data, .pinned], laidTests := true, laidLooks := .later }
def FnPlateStrictCardSaid : Prop := Claim7.holds Tryz.pinned (.plain (OpenSpec.ofChange fnPlateStrictSpec)) fnPlateStrictCard

/-- THE SECOND FORM's CARD OF 'laws.FnPlateStrict'. -/
def fnPlateStrictUptoCard : Claim7 := { stood := { row := fnPlateStrictUptoRow, standIns := [], harness := (true, "88d3cfcfb5992bb044136702e0373ffa234de53f8d0e0788462d650f784c4194"), looks := false }, kinds := [], alts := [], laidByText := true, laidKinds := [.data, .data, .data, .data, .pinned], laidTests := true, laidLooks := .later }
def FnPlateStrictUptoCardSaid : Prop := Claim7.holds Tryz.pinned (.plain (OpenSpec.upto fnPlateStrictSpec)) fnPlateStrictUptoCard
end Rows
end Go.Proofs.YtailkppkjhkjpaaGreatDoor
