/-
  DERIVED. GIVEN WITH THE SEED: THE CARDS: each row of YtailkppkjhkjpaaDoorRows.lean that lists a variable, with what it lists TIED to the program's text (the seventh form; the later family's looks); each row that meets fmt, with fmt's text TOLD by the authors' own Lean function (tested against real Go, not proved from fmt's source: count such statements apart). THE CARD IS WHAT COUNTS. Prove the row's statement (the work); the ties are given (YtailkppkjhkjpaaDoorTie.lean); close each card by the builder's one call (the guide's Derived/Test/ToyasCard.lean, 'card_holds'). Laid BY PROGRAM, IN A SANDBOX (cutbox-door.mjs). By AI agents, Wed Nov 11 2026. No macro, syntax, notation, axiom, sorry.
-/
import Derived.Test.YtailkppkjhkjpaaDoorRows
import GoSem.ClaimSeven
namespace Go.Proofs.YtailkppkjhkjpaaDoor
namespace Rows

/-- THE TIED CARD OF 'laws.FnPlateBack'. -/
def fnPlateBackCard : Claim7 := { stood := { row := fnPlateBackRow, standIns := [], harness := (true, "b4ab95a4db49b2771e2f8168cb46a810f1ec4b19641b07dd5b55ecff015c9d10"), looks := false }, kinds := [], alts := [], laidByText := true, laidKinds := [.data, .data, .data, .data, .pinned], laidTests := true, laidLooks := .later }
def FnPlateBackCardSaid : Prop := Claim7.holds Tryd.pinned (.plain (OpenSpec.ofChange fnPlateBackSpec)) fnPlateBackCard

/-- THE TIED CARD OF 'laws.FnExactPlateRead'. -/
def fnExactPlateReadCard : Claim7 := { stood := { row := fnExactPlateReadRow, standIns := [], harness := (true, "b4ab95a4db49b2771e2f8168cb46a810f1ec4b19641b07dd5b55ecff015c9d10"), looks := false }, kinds := [], alts := [], laidByText := true, laidKinds := [.data, .pinned], laidTests := true, laidLooks := .later }
def FnExactPlateReadCardSaid : Prop := Claim7.holds Tryd.pinned (.plain (OpenSpec.ofChange fnExactPlateReadSpec)) fnExactPlateReadCard

/-- THE TIED CARD OF 'laws.FnPlateLoop'. -/
def fnPlateLoopCard : Claim7 := { stood := { row := fnPlateLoopRow, standIns := [], harness := (true, "b4ab95a4db49b2771e2f8168cb46a810f1ec4b19641b07dd5b55ecff015c9d10"), looks := false }, kinds := [], alts := [], laidByText := true, laidKinds := [.data, .data, .data], laidTests := true, laidLooks := .later }
def FnPlateLoopCardSaid : Prop := Claim7.holds Tryd.pinned (.plain (OpenSpec.ofChange fnPlateLoopSpec)) fnPlateLoopCard

/-- THE SECOND FORM's CARD OF 'laws.FnPlateBack'. -/
def fnPlateBackUptoCard : Claim7 := { stood := { row := fnPlateBackUptoRow, standIns := [], harness := (true, "b4ab95a4db49b2771e2f8168cb46a810f1ec4b19641b07dd5b55ecff015c9d10"), looks := false }, kinds := [], alts := [], laidByText := true, laidKinds := [.data, .data, .data, .data, .pinned], laidTests := true, laidLooks := .later }
def FnPlateBackUptoCardSaid : Prop := Claim7.holds Tryd.pinned (.plain (OpenSpec.upto fnPlateBackSpec)) fnPlateBackUptoCard

/-- THE SECOND FORM's CARD OF 'laws.FnExactPlateRead'. -/
def fnExactPlateReadUptoCard : Claim7 := { stood := { row := fnExactPlateReadUptoRow, standIns := [], harness := (true, "b4ab95a4db49b2771e2f8168cb46a810f1ec4b19641b07dd5b55ecff015c9d10"), looks := false }, kinds := [], alts := [], laidByText := true, laidKinds := [.data, .pinned], laidTests := true, laidLooks := .later }
def FnExactPlateReadUptoCardSaid : Prop := Claim7.holds Tryd.pinned (.plain (OpenSpec.upto fnExactPlateReadSpec)) fnExactPlateReadUptoCard

/-- THE SECOND FORM's CARD OF 'laws.FnPlateLoop'. -/
def fnPlateLoopUptoCard : Claim7 := { stood := { row := fnPlateLoopUptoRow, standIns := [], harness := (true, "b4ab95a4db49b2771e2f8168cb46a810f1ec4b19641b07dd5b55ecff015c9d10"), looks := false }, kinds := [], alts := [], laidByText := true, laidKinds := [.data, .data, .data], laidTests := true, laidLooks := .later }
def FnPlateLoopUptoCardSaid : Prop := Claim7.holds Tryd.pinned (.plain (OpenSpec.upto fnPlateLoopSpec)) fnPlateLoopUptoCard
end Rows
end Go.Proofs.YtailkppkjhkjpaaDoor
