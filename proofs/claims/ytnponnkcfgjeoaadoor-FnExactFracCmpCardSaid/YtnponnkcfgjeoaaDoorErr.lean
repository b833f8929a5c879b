/- The variable errNoFrac holds a pointer to an errors.errorString; what lies below a world's end stays. -/
import Derived.Test.YtnponnkcfgjeoaaDoorIs
import Derived.Test.YtnponnkcfgjeoaaDoorWWords
set_option linter.unusedVariables false
namespace Go.Proofs.YtnponnkcfgjeoaaDoor
open Go.RowKit Go.Proofs.YtnponnkcfgjeoaaDoorW.PrintWords
/-- errNoFrac's cell. -/
def ErrW (w : World) : Prop := ∃ a : Addr, w.cell? ⟨0, 0, none⟩ = some (.iface 109 (.pointer (some a)))
theorem ErrW.below {w w' : World} (h : ErrW w) (hb : Below w.heap.size w w') : ErrW w' := by
  obtain ⟨a, ha⟩ := h
  exact ⟨a, pw_cell_below hb ha⟩
end Go.Proofs.YtnponnkcfgjeoaaDoor
