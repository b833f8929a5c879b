/- FnFracOrder's plain law. -/
import Derived.Test.YtnponnkcfgjeoaaDoorFLawsFnFracOrder
import Derived.Test.YtnponnkcfgjeoaaDoorEvFrac
set_option linter.unusedVariables false
namespace Go.Proofs.YtnponnkcfgjeoaaDoor.X
open Go.RowKit Go.Proofs.YtnponnkcfgjeoaaDoorW.PrintWords Go.Proofs.YtnponnkcfgjeoaaDoorW.PrintLast
open Mort
theorem drawCmp_told (l : List Int) (h : ∀ x ∈ l, (Lit.int .u8 x).wf = true) :
    ∃ a b c d : Int, (∀ k, 100000 ≤ k → spec_DrawFracCmp.f k l = some (a, b, c, d)) ∧ (-1 ≤ a ∧ a ≤ 100000) ∧ (0 ≤ b ∧ b ≤ 20) ∧ (-1 ≤ c ∧ c ≤ 100000) ∧ (0 ≤ d ∧ d ≤ 20) := by
  obtain ⟨m, ho, hm⟩ := open_told l h
  obtain ⟨a, b, q, h1, q1, q2, a1, b1⟩ := l71Frac_told hm (p := 0) (by omega) (by omega)
  obtain ⟨r, h2, r1, r2⟩ := pick_told hm (p := q) (n := 4) (by omega) (by omega) (by omega) (by omega)
  obtain ⟨c, d, q', h3, q3, q4, c1, d1⟩ := l71Frac_told hm (p := q + 1) (by omega) (by omega)
  by_cases z : r = 0
  · refine ⟨a, b, a, b, fun k hk => ?_, a1, b1, a1, b1⟩
    unfold spec_DrawFracCmp.f
    rw [ho]; simp only [Option.bind_some]
    rw [h1 k hk]; simp only [Option.bind_some]
    rw [h2 k (by omega)]; simp only [Option.bind_some]
    rw [if_pos z]
  · refine ⟨a, b, c, d, fun k hk => ?_, a1, b1, c1, d1⟩
    unfold spec_DrawFracCmp.f
    rw [ho]; simp only [Option.bind_some]
    rw [h1 k hk]; simp only [Option.bind_some]
    rw [h2 k (by omega)]; simp only [Option.bind_some]
    rw [if_neg z, h3 k hk]; simp only [Option.bind_some]
end Go.Proofs.YtnponnkcfgjeoaaDoor.X
namespace Go.Proofs.YtnponnkcfgjeoaaDoor.Pure
open Go.RowKit Go.Proofs.YtnponnkcfgjeoaaDoor.X Go.Proofs.YtnponnkcfgjeoaaDoorW.PrintWords Go.Proofs.YtnponnkcfgjeoaaDoorW.PrintLast
open Mort
theorem FnFracOrder : laws_FnFracOrder.Pure := by
  intro l _ _ hw
  obtain ⟨a, b, c, d, hd, _⟩ := drawCmp_told l hw
  obtain ⟨K, hK⟩ : ∃ K : Nat, 100000 ≤ K := ⟨100000, Nat.le_refl _⟩
  refine ⟨K + 1, ?_⟩
  unfold laws_FnFracOrder.f
  split
  · rfl
  rw [hd (K + 1) (by omega)]; simp only [Option.bind_some]
  rw [fracCmp_f, sFracCmp (by omega)]; simp only [Option.bind_some, if_true]
  simp only [laws_FnFracOrder.j0]
  by_cases h2 : fracCmp (a, b) (c, d) = 2
  · rw [h2]; simp only [beq_self_eq_true, if_true]
    rw [sFracCmp hK]; simp [h2]
  · rw [beq_eq_false_iff_ne.mpr h2]
    simp only [Bool.false_eq_true, if_false]
    obtain ⟨o1, o2⟩ := cmp_ok_of h2
    have hv := cmp_vals o1 o2
    rw [fracCmp_f, cmp_anti _ _ h2]; simp only [Option.bind_some]
    rw [if_pos (by rw [w64 (by omega) (by omega)])]
    have e1 : ((fracCmp (a, b) (c, d) == 0) == (a == c && (b == d))) = true := by
      have := cmp_zero o1 o2
      rw [beq_iff_eq, Bool.eq_iff_iff]
      simp only [beq_iff_eq, Bool.and_eq_true]
      rw [this, Prod.mk.injEq]
    rw [if_pos e1, fracCmp_f, (cmp_zero o1 o1).2 rfl]
    rfl
end Go.Proofs.YtnponnkcfgjeoaaDoor.Pure
