/- FnFracBad's plain law. -/
import Derived.Test.YtnponnkcfgjeoaaDoorFLawsFnFracBad
import Derived.Test.YtnponnkcfgjeoaaDoorEvFrac
set_option linter.unusedVariables false
namespace Go.Proofs.YtnponnkcfgjeoaaDoor.X
open Go.RowKit Go.Proofs.YtnponnkcfgjeoaaDoorW.PrintWords Go.Proofs.YtnponnkcfgjeoaaDoorW.PrintLast
open Mort
theorem drawOk_told (l : List Int) (h : ∀ x ∈ l, (Lit.int .u8 x).wf = true) :
    ∃ a b : Int, (∀ k, 100000 ≤ k → spec_DrawFracOk.f k l = some (a, b)) ∧ (-1 ≤ a ∧ a ≤ 100000) ∧ (0 ≤ b ∧ b ≤ 20) := by
  obtain ⟨m, ho, hm⟩ := open_told l h
  obtain ⟨a, b, q, h1, q1, q2, a1, b1⟩ := l71Frac_told hm (p := 0) (by omega) (by omega)
  refine ⟨a, b, fun k hk => ?_, a1, b1⟩
  unfold spec_DrawFracOk.f
  rw [ho]; simp only [Option.bind_some]
  rw [h1 k hk]; simp only [Option.bind_some]
theorem times_bad {n d q : Int} (hq : 2 ≤ q) : fracOk (n * q, d * q) = false := by
  cases h : fracOk (n * q, d * q) with
  | false => rfl
  | true =>
    have := ((fracOk_iff _).1 h).2
    simp only at this
    have h1 : q ∣ (Int.gcd (n * q) (d * q) : Int) := Int.dvd_coe_gcd ⟨n, Int.mul_comm _ _⟩ ⟨d, Int.mul_comm _ _⟩
    rw [this] at h1
    have := Int.le_of_dvd (by decide) h1
    omega
end Go.Proofs.YtnponnkcfgjeoaaDoor.X
namespace Go.Proofs.YtnponnkcfgjeoaaDoor.Pure
open Go.RowKit Go.Proofs.YtnponnkcfgjeoaaDoor.X Go.Proofs.YtnponnkcfgjeoaaDoorW.PrintWords Go.Proofs.YtnponnkcfgjeoaaDoorW.PrintLast
open Mort
theorem FnFracBad : laws_FnFracBad.Pure := by
  intro l m _ _ hw hm1 _ _
  unfold maxLen at hm1
  obtain ⟨a, b, hd, a1, b1⟩ := drawOk_told l hw
  obtain ⟨K, hK⟩ : ∃ K : Nat, 100000 ≤ K := ⟨100000, Nat.le_refl _⟩
  refine ⟨K + 1 + 1, ?_⟩
  have key : ∀ x : Bool, laws_FnFracBad.j0 (K + 1 + 1) l m x = some true := by
    intro x
    simp only [laws_FnFracBad.j0]
    cases x with
    | true => rfl
    | false =>
      simp only [Bool.false_eq_true, if_false]
      rw [hd (K + 1) (by omega)]; simp only [Option.bind_some]
      rw [fracOk_f, sFracOk (by omega)]; simp only [Option.bind_some, bne_self_eq_false, Bool.false_eq_true, if_false]
      simp only [laws_FnFracBad.j1]
      cases h : fracOk (a, b) with
      | false => simp only [Bool.not_false, if_true]; rw [sFracOk hK]; simp [h]
      | true =>
        simp only [Bool.not_true, Bool.false_eq_true, if_false]
        have q1 : 2 ≤ 2 + ((m.length : Int) % 7) ∧ 2 + ((m.length : Int) % 7) ≤ 8 := by omega
        generalize 2 + ((m.length : Int) % 7) = q at q1
        have c1 : -1 * 8 ≤ a * q ∧ a * q ≤ 100000 * 8 := by
          have z : q = 2 ∨ q = 3 ∨ q = 4 ∨ q = 5 ∨ q = 6 ∨ q = 7 ∨ q = 8 := by omega
          rcases z with rfl | rfl | rfl | rfl | rfl | rfl | rfl <;> omega
        have c2 : 0 ≤ b * q ∧ b * q ≤ 100000 * 8 := by
          have z : q = 2 ∨ q = 3 ∨ q = 4 ∨ q = 5 ∨ q = 6 ∨ q = 7 ∨ q = 8 := by omega
          rcases z with rfl | rfl | rfl | rfl | rfl | rfl | rfl <;> omega
        rw [w64 (by omega) (by omega), w64 (by omega) (by omega), fracOk_f, times_bad q1.1]; simp only [Option.bind_some, Bool.false_eq_true, if_false]
        have e1 : fracOk (a, 0) = false := by
          cases z : fracOk (a, 0) with
          | false => rfl
          | true => have := ((fracOk_iff _).1 z).1.2.2.1; simp only at this; omega
        have e2 : fracOk (-1, b) = false := by
          cases z : fracOk (-1, b) with
          | false => rfl
          | true => have := ((fracOk_iff _).1 z).1.1; simp only at this; omega
        rw [fracOk_f, e1]; simp only [Option.bind_some, Bool.false_eq_true, if_false]
        rw [fracOk_f, e2]; simp only [Option.bind_some, Bool.false_eq_true, if_false]
        rw [fracCmp_f]; simp only [Option.bind_some]
        have e3 : fracCmp (a, b) (2, 4) = 2 := by
          unfold fracCmp
          rw [show fracOk (2, 4) = false by decide]; simp
        rw [e3]; rfl
  unfold laws_FnFracBad.f
  split
  · exact key _
  · exact key _
end Go.Proofs.YtnponnkcfgjeoaaDoor.Pure
