/- FnFracWhole's plain law. -/
import Derived.Test.YtnponnkcfgjeoaaDoorFLawsFnFracWhole
import Derived.Test.YtnponnkcfgjeoaaDoorPureFnFracBad
set_option linter.unusedVariables false
namespace Go.Proofs.YtnponnkcfgjeoaaDoor.X
open Go.RowKit Go.Proofs.YtnponnkcfgjeoaaDoorW.PrintWords Go.Proofs.YtnponnkcfgjeoaaDoorW.PrintLast
open Mort
theorem fracOf_whole {k : Nat} (hk : 1 < k) {n : Int} (h0 : 0 ≤ n) (h1 : n ≤ 99999) : impl_FracOf.f k n 1 = some (n, 1, true) := by
  unfold impl_FracOf.f
  rw [if_neg (by omega), if_neg (by omega), if_neg (by decide), if_neg (by decide), gcd_told' h0 (by decide) (by omega)]
  have : (Int.gcd n 1 : Int) = 1 := by rw [Int.gcd_one_right]; rfl
  rw [this]; simp only [Option.bind_some]
  rw [if_neg (by decide)]
  simp only [Int.tdiv_one]
  rw [w64 (x := n) (by omega) (by omega), w64 (x := 1) (by omega) (by omega)]
theorem fracOf_great {k : Nat} {n : Int} (h1 : 99999 < n) : impl_FracOf.f k n 1 = some (0, 0, false) := by
  unfold impl_FracOf.f
  rw [if_neg (by omega), if_pos h1]
end Go.Proofs.YtnponnkcfgjeoaaDoor.X
namespace Go.Proofs.YtnponnkcfgjeoaaDoor.Pure
open Go.RowKit Go.Proofs.YtnponnkcfgjeoaaDoor.X Go.Proofs.YtnponnkcfgjeoaaDoorW.PrintWords Go.Proofs.YtnponnkcfgjeoaaDoorW.PrintLast
open Mort
theorem FnFracWhole : laws_FnFracWhole.Pure := by
  intro l _ _ hw
  obtain ⟨a, b, hd, a1, b1⟩ := drawOk_told l hw
  obtain ⟨K, hK⟩ : ∃ K : Nat, 100000 ≤ K := ⟨100000, Nat.le_refl _⟩
  refine ⟨K + 1, ?_⟩
  unfold laws_FnFracWhole.f
  split
  · rfl
  rw [hd (K + 1) (by omega)]; simp only [Option.bind_some]
  rw [fracOk_f, sFracOk (by omega)]; simp only [Option.bind_some, bne_self_eq_false, Bool.false_eq_true, if_false]
  simp only [laws_FnFracWhole.j0]
  cases h : fracOk (a, b) with
  | false => simp only [Bool.not_false, if_true]; rw [sFracOk hK]; simp [h]
  | true =>
    simp only [Bool.not_true, Bool.false_eq_true, if_false]
    obtain ⟨⟨n0, n1, d0, d1⟩, hg⟩ := (fracOk_iff _).1 h
    simp only at n0 n1 d0 d1 hg
    rw [if_neg (by omega)]
    have et : Int.tdiv a b = a / b := Int.tdiv_eq_ediv_of_nonneg n0
    have q0 : 0 ≤ a / b := Int.ediv_nonneg n0 (by omega)
    have q1 : a / b ≤ a := Int.ediv_le_self _ n0
    have m0 : a / b * b ≤ a := Int.ediv_mul_le _ (by omega)
    have m1 : a < (a / b + 1) * b := Int.lt_ediv_add_one_mul_self _ (by omega)
    rw [et, w64 (x := a / b) (by omega) (by omega), w64 (x := a / b + 1) (by omega) (by omega)]
    rw [fracOf_whole (by omega) q0 (by omega)]; simp only [Option.bind_some]
    have low : fracOk (a / b, 1) = true := fracOk_whole q0 (by omega)
    have cl : fracCmp (a, b) (a / b, 1) = if a = a / b * b then 0 else 1 := by
      rw [fracCmp_ok h low]
      unfold cmp0
      simp only [Int.mul_one]
      rw [if_neg (by omega)]
      by_cases z : a = a / b * b
      · rw [if_pos z, if_neg (by omega)]
      · rw [if_neg z, if_pos (by omega)]
    have fin : (some ((b == 1) == (fracCmp (a, b) (a / b, 1) == 0))) = some true := by
      rw [cl]
      by_cases z : b = 1
      · subst z
        rw [if_pos (by rw [Int.ediv_one, Int.mul_one])]; rfl
      · have : a ≠ a / b * b := by
          intro e
          have hb : b ∣ a := ⟨a / b, by rw [Int.mul_comm]; exact e⟩
          have : (Int.gcd a b : Int) = b := by
            rw [Int.gcd_eq_right (by omega) hb]
          omega
        rw [if_neg this, beq_eq_false_iff_ne.mpr z]; rfl
    have ge : fracCmp (a, b) (a / b, 1) ≥ 0 := by rw [cl]; split <;> decide
    by_cases hb : a / b + 1 ≤ 99999
    · rw [fracOf_whole (by omega) (by omega) hb]; simp only [Option.bind_some, if_true]
      rw [fracCmp_f]; simp only [Option.bind_some]
      rw [if_pos ge, fracCmp_f]; simp only [Option.bind_some]
      have hi : fracOk (a / b + 1, 1) = true := fracOk_whole (by omega) hb
      rw [if_pos (by rw [fracCmp_ok h hi]; unfold cmp0; simp only [Int.mul_one]; rw [if_pos m1]; decide)]
      exact fin
    · rw [fracOf_great (by omega)]; simp only [Option.bind_some, Bool.false_eq_true, if_false]
      rw [fracCmp_f]; simp only [Option.bind_some]
      rw [if_pos ge]
      exact fin
end Go.Proofs.YtnponnkcfgjeoaaDoor.Pure
