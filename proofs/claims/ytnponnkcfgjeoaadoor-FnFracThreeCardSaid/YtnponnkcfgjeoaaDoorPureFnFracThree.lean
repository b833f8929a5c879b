/- FnFracThree's plain law. -/
import Derived.Test.YtnponnkcfgjeoaaDoorFLawsFnFracThree
import Derived.Test.YtnponnkcfgjeoaaDoorPureFnFracOrder
set_option linter.unusedVariables false
namespace Go.Proofs.YtnponnkcfgjeoaaDoor.Pure
open Go.RowKit Go.Proofs.YtnponnkcfgjeoaaDoor.X Go.Proofs.YtnponnkcfgjeoaaDoorW.PrintWords Go.Proofs.YtnponnkcfgjeoaaDoorW.PrintLast
open Mort
theorem FnFracThree : laws_FnFracThree.Pure := by
  intro l m _ _ hw _ _ hw'
  obtain ⟨a, b, c, d, hd, _⟩ := drawCmp_told l hw
  obtain ⟨e, f, g, h, he, _⟩ := drawCmp_told m hw'
  obtain ⟨K, hK⟩ : ∃ K : Nat, 100000 ≤ K := ⟨100000, Nat.le_refl _⟩
  refine ⟨K + 1 + 1, ?_⟩
  have key : ∀ x : Bool, laws_FnFracThree.j0 (K + 1 + 1) l m x = some true := by
    intro x
    simp only [laws_FnFracThree.j0]
    cases x with
    | true => rfl
    | false =>
      simp only [Bool.false_eq_true, if_false]
      rw [hd (K + 1) (by omega)]; simp only [Option.bind_some]
      rw [he (K + 1) (by omega)]; simp only [Option.bind_some]
      rw [fracCmp_f, sFracCmp (by omega)]; simp only [Option.bind_some, if_true]
      by_cases h2 : fracCmp (a, b) (c, d) = 2
      · rw [if_pos h2]
        simp only [laws_FnFracThree.j1, if_true]
        rw [sFracCmp hK]; simp [h2]
      · rw [if_neg h2, sFracOk (by omega)]; simp only [Option.bind_some]
        simp only [laws_FnFracThree.j1]
        cases h3 : fracOk (e, f) with
        | false => simp only [Bool.not_false, if_true]; rw [sFracCmp hK]; simp
        | true =>
          simp only [Bool.not_true, Bool.false_eq_true, if_false]
          obtain ⟨o1, o2⟩ := cmp_ok_of h2
          rw [fracCmp_f, fracCmp_f]; simp only [Option.bind_some]
          have x1 := cmp_le o1 o2
          have x2 := cmp_ge o1 o2
          have y1 := cmp_le o2 h3
          have y2 := cmp_ge o2 h3
          have z1 := cmp_le o1 h3
          have z2 := cmp_ge o1 h3
          have t1 : fracCmp (a, b) (c, d) ≤ 0 → fracCmp (c, d) (e, f) ≤ 0 → fracCmp (a, b) (e, f) ≤ 0 := fun p q => z1.2 (Rat.le_trans (x1.1 p) (y1.1 q))
          have t2 : 0 ≤ fracCmp (a, b) (c, d) → 0 ≤ fracCmp (c, d) (e, f) → 0 ≤ fracCmp (a, b) (e, f) := fun p q => z2.2 (Rat.le_trans (y2.1 q) (x2.1 p))
          have last : (if fracCmp (a, b) (c, d) < 0 then some true else (if fracCmp (c, d) (e, f) < 0 then some true else some (decide (fracCmp (a, b) (e, f) ≥ 0)))) = some true := by
            split
            · rfl
            · split
              · rfl
              · rw [decide_eq_true (t2 (by omega) (by omega))]
          split
          · exact last
          · split
            · exact last
            · rw [if_pos (t1 (by omega) (by omega))]; exact last
  unfold laws_FnFracThree.f
  split
  · exact key _
  · exact key _
end Go.Proofs.YtnponnkcfgjeoaaDoor.Pure
