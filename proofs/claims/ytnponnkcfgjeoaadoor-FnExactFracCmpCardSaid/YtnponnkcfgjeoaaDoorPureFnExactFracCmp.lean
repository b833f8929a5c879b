/- FnExactFracCmp's plain law. -/
import Derived.Test.YtnponnkcfgjeoaaDoorFLawsFnExactFracCmp
import Derived.Test.YtnponnkcfgjeoaaDoorEvFrac
set_option linter.unusedVariables false
namespace Go.Proofs.YtnponnkcfgjeoaaDoor.Pure
open Go.RowKit Go.Proofs.YtnponnkcfgjeoaaDoor.X Go.Proofs.YtnponnkcfgjeoaaDoorW.PrintWords Go.Proofs.YtnponnkcfgjeoaaDoorW.PrintLast
open Mort
theorem FnExactFracCmp (a b c d : Int) : ∃ k, laws_FnExactFracCmp.f k a b c d = some true := by
  refine ⟨100000, ?_⟩
  unfold laws_FnExactFracCmp.f laws_toFrac.f
  simp only [Option.bind_some, sFracCmp (Nat.le_refl 100000), fracCmp_f, if_true]
end Go.Proofs.YtnponnkcfgjeoaaDoor.Pure
