/- What the printed functions of fractions and of the draws' reader come to, in plain words. -/
import Derived.Test.YtnponnkcfgjeoaaDoorHFrac
import Derived.Test.YtnponnkcfgjeoaaDoorFSpecFracCmp
import Derived.Test.YtnponnkcfgjeoaaDoorFSpecL71Frac
import Derived.Test.YtnponnkcfgjeoaaDoorFSpecL6Open
import Derived.Laws.Bits64
set_option linter.unusedVariables false
set_option linter.unusedSimpArgs false
namespace Go.Proofs.YtnponnkcfgjeoaaDoor.X
open Go.RowKit Go.Proofs.YtnponnkcfgjeoaaDoorW.PrintWords Go.Proofs.YtnponnkcfgjeoaaDoorW.PrintLast Go.Proofs.YtnponnkcfgjeoaaDoorW.PrintMore
open Mort

theorem w64 {x : Int} (h : -9223372036854775808 ≤ x) (h' : x ≤ 9223372036854775807) : wrap64 x = x := by unfold wrap64; omega

/-! ### the greatest common divisor -/
theorem sgcd_rounds (b : Nat) : ∀ (a : Nat) (k : Nat), b < k → spec_l1Gcd.l0 k (a : Int) (b : Int) = some ((Nat.gcd a b : Nat) : Int) := by
  induction b using Nat.strongRecOn with
  | _ b ih =>
    intro a k hk
    obtain ⟨k, rfl⟩ : ∃ m, k = m + 1 := ⟨k - 1, by omega⟩
    simp only [spec_l1Gcd.l0]
    by_cases h0 : b = 0
    · subst h0
      rw [if_neg (by decide), Nat.gcd_zero_right]
    · rw [if_pos (by omega), if_neg (by omega)]
      have hm : Int.tmod (a : Int) (b : Int) = ((a % b : Nat) : Int) := rfl
      rw [hm, ih (a % b) (Nat.mod_lt _ (by omega)) b k (by have := Nat.mod_lt a (show 0 < b by omega); omega)]
      rw [Nat.gcd_comm b (a % b), ← Nat.gcd_rec, Nat.gcd_comm]
theorem sgcd_told {n d : Int} (hn : 0 ≤ n) (hd : 0 ≤ d) {k : Nat} (hk : d < k) : spec_l1Gcd.f k n d = some (Int.gcd n d : Int) := by
  obtain ⟨a, rfl⟩ := Int.eq_ofNat_of_zero_le hn
  obtain ⟨b, rfl⟩ := Int.eq_ofNat_of_zero_le hd
  exact sgcd_rounds b a k (by omega)
theorem gcd_told' {n d : Int} (hn : 0 ≤ n) (hd : 0 ≤ d) {k : Nat} (hk : d < k) : impl_commonDivisor.f k n d = some (Int.gcd n d : Int) := by
  obtain ⟨a, rfl⟩ := Int.eq_ofNat_of_zero_le hn
  obtain ⟨b, rfl⟩ := Int.eq_ofNat_of_zero_le hd
  exact gcd_rounds b a k (by omega)

/-! ### fractions -/
theorem l6In_told (n a b : Int) : spec_l6In.f n a b = some (decide (a ≤ n) && decide (n ≤ b)) := by
  unfold spec_l6In.f
  by_cases h : n ≥ a
  · rw [if_pos h, decide_eq_true (show a ≤ n from h)]; rfl
  · rw [if_neg h, decide_eq_false (show ¬ a ≤ n from h)]; rfl
theorem sFracOk {k : Nat} (hk : 100000 ≤ k) (n d : Int) : spec_FracOk.f k n d = some (fracOk (n, d)) := by
  unfold spec_FracOk.f fracOk
  simp only [l6In_told, Option.bind_some]
  by_cases h1 : 0 ≤ n <;> by_cases h2 : n ≤ 99999 <;> by_cases h3 : 1 ≤ d <;> by_cases h4 : d ≤ 99999 <;> simp only [h1, h2, h3, h4, decide_true, decide_false, Bool.and_true, Bool.and_false, Bool.true_and, Bool.false_and, if_true, if_false, Bool.false_eq_true]
  rw [sgcd_told h1 (by omega) (by omega)]
  simp only [Option.bind_some]
  congr 1
  rw [Bool.eq_iff_iff]
  simp
  omega
theorem sFracCmp {k : Nat} (hk : 100000 ≤ k) (n d m q : Int) : spec_FracCmp.f k n d m q = some (fracCmp (n, d) (m, q)) := by
  unfold spec_FracCmp.f fracCmp
  rw [sFracOk hk]
  simp only [Option.bind_some]
  cases h1 : fracOk (n, d) with
  | false => rfl
  | true =>
    rw [sFracOk hk]
    simp only [Option.bind_some, if_true]
    cases h2 : fracOk (m, q) with
    | false => rfl
    | true =>
      obtain ⟨⟨a1, a2, a3, a4⟩, _⟩ := (fracOk_iff _).1 h1
      obtain ⟨⟨b1, b2, b3, b4⟩, _⟩ := (fracOk_iff _).1 h2
      simp only at a1 a2 a3 a4 b1 b2 b3 b4
      simp only [if_true, Bool.and_true]
      unfold spec_l1Cmp.f cmp0
      rw [prod_wrap a1 a2 (by omega) b4, prod_wrap b1 b2 (by omega) a4]
      simp only
      split
      · rfl
      · split <;> rfl
theorem l1Of_told {k : Nat} (hk : 100000 ≤ k) {n d : Int} (h : inR (n, d)) : spec_l1Of.f k n d = some ((red (n, d)).1, (red (n, d)).2) := by
  obtain ⟨a1, a2, a3, a4⟩ := h
  simp only at a1 a2 a3 a4
  have hg := gcd_pos (f := (n, d)) ⟨a1, a2, a3, a4⟩
  unfold spec_l1Of.f
  rw [sgcd_told a1 (by omega) (by omega)]
  simp only [Option.bind_some]
  simp only at hg
  rw [if_neg (by omega)]
  have e1 : Int.tdiv n (Int.gcd n d : Int) = n / (Int.gcd n d : Int) := Int.tdiv_eq_ediv_of_nonneg a1
  have e2 : Int.tdiv d (Int.gcd n d : Int) = d / (Int.gcd n d : Int) := Int.tdiv_eq_ediv_of_nonneg (by omega)
  have r := red_inR (f := (n, d)) ⟨a1, a2, a3, a4⟩
  obtain ⟨r1, r2, r3, r4⟩ := r
  unfold red at r1 r2 r3 r4 ⊢
  simp only at r1 r2 r3 r4 ⊢
  rw [e1, e2, w64 (by omega) (by omega), w64 (by omega) (by omega)]

/-! ### the reader -/
def Bytes (l : List Int) : Prop := (∀ x ∈ l, 0 ≤ x ∧ x ≤ 255) ∧ l.length ≤ 2000
theorem rd_byte {l : List Int} (h : Bytes l) (i : Int) : 0 ≤ rd l i ∧ rd l i ≤ 255 := by
  unfold rd
  by_cases hi : i.toNat < l.length
  · rw [List.getD_eq_getElem?_getD, List.getElem?_eq_getElem hi]
    exact h.1 _ (List.getElem_mem hi)
  · rw [List.getD_eq_getElem?_getD, List.getElem?_eq_none (by omega)]; simp
theorem xor_nn {a b : Int} (ha : 0 ≤ a) (ha' : a < 4294967296) (hb : 0 ≤ b) (hb' : b < 4294967296) : 0 ≤ Go.bits .xor .i64 a b := by
  obtain ⟨x, rfl⟩ := Int.eq_ofNat_of_zero_le ha
  obtain ⟨y, rfl⟩ := Int.eq_ofNat_of_zero_le hb
  have hx : x ^^^ y < 2 ^ 32 := Nat.xor_lt_two_pow (by omega) (by omega)
  have h1 : (BitVec.ofInt 64 (x : Int)).toNat = x := by
    rw [BitVec.ofInt_natCast, BitVec.toNat_ofNat]; exact Nat.mod_eq_of_lt (by omega)
  have h2 : (BitVec.ofInt 64 (y : Int)).toNat = y := by
    rw [BitVec.ofInt_natCast, BitVec.toNat_ofNat]; exact Nat.mod_eq_of_lt (by omega)
  show 0 ≤ IntKind.i64.wrap ((BitVec.ofInt 64 (x : Int) ^^^ BitVec.ofInt 64 (y : Int)).toNat : Int)
  rw [BitVec.toNat_xor, h1, h2]
  have : IntKind.i64.wrap ((x ^^^ y : Nat) : Int) = wrap64 ((x ^^^ y : Nat) : Int) := by
    simp [IntKind.wrap, IntKind.bits, IntKind.signed, wrap64]
    split <;> omega
  rw [this, w64 (by omega) (by omega)]
  omega
theorem tmod_in {a b : Int} (ha : 0 ≤ a) (hb : 1 ≤ b) : 0 ≤ Int.tmod a b ∧ Int.tmod a b < b := by
  rw [Int.tmod_eq_emod_of_nonneg ha]
  exact ⟨Int.emod_nonneg _ (by omega), Int.emod_lt_of_pos _ (by omega)⟩
theorem tdiv_in {a b : Int} (ha : 0 ≤ a) (hb : 1 ≤ b) : 0 ≤ Int.tdiv a b ∧ Int.tdiv a b ≤ a := by
  rw [Int.tdiv_eq_ediv_of_nonneg ha]
  exact ⟨Int.ediv_nonneg ha (by omega), Int.ediv_le_self _ ha⟩
/-- a pick: a number from 0 to n - 1; the place goes on by one -/
theorem pick_told {l : List Int} (hl : Bytes l) {p n : Int} (hp : 0 ≤ p) (hp' : p ≤ 1000000) (hn : 1 ≤ n) (hn' : n ≤ 1000000) :
    ∃ r, (∀ k, 1 ≤ k → spec_l6Rd_pick.f k l p n = some (r, p + 1)) ∧ 0 ≤ r ∧ r < n := by
  have e1 : wrap64 (p + 1) = p + 1 := w64 (by omega) (by omega)
  have e2 : wrap64 (p + 1 - 1) = p := by rw [w64 (by omega) (by omega)]; omega
  have hlen := hl.2
  by_cases h0 : (l.length : Int) = 0
  · refine ⟨0, fun k hk => ?_, by omega, by omega⟩
    obtain ⟨k, rfl⟩ : ∃ m, k = m + 1 := ⟨k - 1, by omega⟩
    unfold spec_l6Rd_pick.f
    rw [if_neg (by omega), e1]
    simp only [h0, beq_self_eq_true, spec_l6Rd_pick.j0, if_true]
  · have hb : ((l.length : Int) == 0) = false := beq_eq_false_iff_ne.mpr h0
    by_cases h1 : p < (l.length : Int)
    · have hr := rd_byte hl p
      have e3 : wrap64 (rd l p) = rd l p := w64 (by omega) (by omega)
      obtain ⟨t1, t2⟩ := tmod_in (b := n) hr.1 hn
      refine ⟨Int.tmod (rd l p) n, fun k hk => ?_, t1, t2⟩
      obtain ⟨k, rfl⟩ : ∃ m, k = m + 1 := ⟨k - 1, by omega⟩
      unfold spec_l6Rd_pick.f
      rw [if_neg (by omega), e1, hb]
      simp only [spec_l6Rd_pick.j0, Bool.false_eq_true, if_false]
      rw [e2, if_pos h1, if_pos hp, if_neg (by omega), e3]
    · have hl1 : 1 ≤ (l.length : Int) := by omega
      obtain ⟨a1, a2⟩ := tmod_in (b := (l.length : Int)) hp hl1
      have e7 : wrap64 (p * 7) = p * 7 := w64 (by omega) (by omega)
      have e8 : wrap64 (p * 7 + 3) = p * 7 + 3 := w64 (by omega) (by omega)
      obtain ⟨b1, b2⟩ := tmod_in (a := p * 7 + 3) (b := (l.length : Int)) (by omega) hl1
      obtain ⟨d1, d2⟩ := tdiv_in (b := (l.length : Int)) hp hl1
      have r1 := rd_byte hl (Int.tmod p (l.length : Int))
      have r2 := rd_byte hl (Int.tmod (p * 7 + 3) (l.length : Int))
      have key : ∃ X : Int, 0 ≤ X ∧ X < 4294967296 ∧ (wrap64 ((wrap64 ((wrap64 ((wrap64 ((wrap64 (rd l (Int.tmod p (l.length : Int)))) * 131)) + (wrap64 ((wrap64 (rd l (Int.tmod (p * 7 + 3) (l.length : Int)))) * 1117)))) + (wrap64 (p * 29)))) + (wrap64 ((wrap64 (Int.tdiv p (l.length : Int))) * 53)))) = X := by
        generalize rd l (Int.tmod p (l.length : Int)) = u at *
        generalize rd l (Int.tmod (p * 7 + 3) (l.length : Int)) = v at *
        generalize Int.tdiv p (l.length : Int) = q at *
        refine ⟨u * 131 + v * 1117 + p * 29 + q * 53, by omega, by omega, ?_⟩
        rw [w64 (x := u) (by omega) (by omega), w64 (x := v) (by omega) (by omega), w64 (x := q) (by omega) (by omega), w64 (x := u * 131) (by omega) (by omega), w64 (x := v * 1117) (by omega) (by omega), w64 (x := p * 29) (by omega) (by omega), w64 (x := q * 53) (by omega) (by omega), w64 (x := u * 131 + v * 1117) (by omega) (by omega), w64 (x := u * 131 + v * 1117 + p * 29) (by omega) (by omega), w64 (by omega) (by omega)]
      obtain ⟨X, x1, x2, hX⟩ := key
      obtain ⟨y1, y2⟩ := tdiv_in (a := X) (b := 64) x1 (by omega)
      have e9 : wrap64 (Int.tdiv X 64) = Int.tdiv X 64 := w64 (by omega) (by omega)
      obtain ⟨t1, t2⟩ := tmod_in (b := n) (xor_nn x1 x2 y1 (by omega)) hn
      refine ⟨Int.tmod (Go.bits .xor .i64 X (Int.tdiv X 64)) n, fun k hk => ?_, t1, t2⟩
      obtain ⟨k, rfl⟩ : ∃ m, k = m + 1 := ⟨k - 1, by omega⟩
      unfold spec_l6Rd_pick.f
      rw [if_neg (by omega), e1, hb]
      simp only [spec_l6Rd_pick.j0, Bool.false_eq_true, if_false]
      rw [e2, if_neg h1, if_neg h0, if_pos a1, if_pos a2, e7, e8, if_pos b1, if_pos b2, if_neg (by omega), hX, e9]
theorem open_told (l : List Int) (h : ∀ x ∈ l, (Lit.int .u8 x).wf = true) : ∃ m, spec_l6Open.f l = some (m, 0) ∧ Bytes m := by
  have hb : ∀ x ∈ l, 0 ≤ x ∧ x ≤ 255 := fun x hx => by
    have := h x hx
    simp [Lit.wf, IntKind.min, IntKind.max, IntKind.bits, IntKind.signed] at this
    omega
  unfold spec_l6Open.f
  by_cases hl : (l.length : Int) > 2000
  · rw [if_pos hl, if_pos (by omega)]
    exact ⟨l.take 2000, rfl, fun x hx => hb x (List.mem_of_mem_take hx), by rw [List.length_take]; omega⟩
  · rw [if_neg hl]
    exact ⟨l, rfl, hb, by omega⟩
/-- a drawn fraction: some two numbers; the place goes on by at most ten -/
theorem l71Frac_told {l : List Int} (hl : Bytes l) {p : Int} (hp : 0 ≤ p) (hp' : p ≤ 999000) :
    ∃ n d q, (∀ k, 100000 ≤ k → spec_l71Frac.f k l p = some (n, d, q)) ∧ p ≤ q ∧ q ≤ p + 10 ∧ (-1 ≤ n ∧ n ≤ 100000) ∧ (0 ≤ d ∧ d ≤ 20) := by
  obtain ⟨r1, h1, a1, b1⟩ := pick_told hl (p := p) (n := 60) hp (by omega) (by omega) (by omega)
  obtain ⟨r2, h2, a2, b2⟩ := pick_told hl (p := p + 1) (n := 20) (by omega) (by omega) (by omega) (by omega)
  obtain ⟨r3, h3, a3, b3⟩ := pick_told hl (p := p + 1 + 1) (n := 12) (by omega) (by omega) (by omega) (by omega)
  obtain ⟨r4, h4, a4, b4⟩ := pick_told hl (p := p + 1 + 1 + 1) (n := 3) (by omega) (by omega) (by omega) (by omega)
  have e1 : wrap64 (1 + r2) = 1 + r2 := w64 (by omega) (by omega)
  have hin : inR (r1, 1 + r2) := ⟨a1, by simp only; omega, by simp only; omega, by simp only; omega⟩
  have hr := red_inR hin
  have hr2 : (red (r1, 1 + r2)).1 ≤ r1 ∧ (red (r1, 1 + r2)).2 ≤ 1 + r2 := ⟨Int.ediv_le_self _ a1, Int.ediv_le_self _ (by simp only; omega)⟩
  obtain ⟨c1, c2, c3, c4⟩ := hr
  by_cases z0 : r3 = 0
  · refine ⟨rd [(-1), 99999, 100000] r4, (red (r1, 1 + r2)).2, p + 1 + 1 + 1 + 1, fun k hk => ?_, by omega, by omega, ?_, by omega⟩
    · unfold spec_l71Frac.f
      rw [h1 k (by omega)]; simp only [Option.bind_some]
      rw [h2 k (by omega)]; simp only [Option.bind_some]
      rw [e1, l1Of_told hk hin]; simp only [Option.bind_some]
      rw [h3 k (by omega)]; simp only [Option.bind_some]
      rw [if_pos z0, h4 k (by omega)]; simp only [Option.bind_some]
      rw [if_pos a4, if_pos (by simpa using b4)]
    · have : r4 = 0 ∨ r4 = 1 ∨ r4 = 2 := by omega
      rcases this with rfl | rfl | rfl <;> decide
  · by_cases z1 : r3 = 1
    · refine ⟨(red (r1, 1 + r2)).1, rd [0, 2, 4] r4, p + 1 + 1 + 1 + 1, fun k hk => ?_, by omega, by omega, by omega, ?_⟩
      · unfold spec_l71Frac.f
        rw [h1 k (by omega)]; simp only [Option.bind_some]
        rw [h2 k (by omega)]; simp only [Option.bind_some]
        rw [e1, l1Of_told hk hin]; simp only [Option.bind_some]
        rw [h3 k (by omega)]; simp only [Option.bind_some]
        rw [if_neg z0, if_pos z1, h4 k (by omega)]; simp only [Option.bind_some]
        rw [if_pos a4, if_pos (by simpa using b4)]
      · have : r4 = 0 ∨ r4 = 1 ∨ r4 = 2 := by omega
        rcases this with rfl | rfl | rfl <;> decide
    · refine ⟨(red (r1, 1 + r2)).1, (red (r1, 1 + r2)).2, p + 1 + 1 + 1, fun k hk => ?_, by omega, by omega, by omega, by omega⟩
      unfold spec_l71Frac.f
      rw [h1 k (by omega)]; simp only [Option.bind_some]
      rw [h2 k (by omega)]; simp only [Option.bind_some]
      rw [e1, l1Of_told hk hin]; simp only [Option.bind_some]
      rw [h3 k (by omega)]; simp only [Option.bind_some]
      rw [if_neg z0, if_neg z1]
theorem fracCmp_f (a b c d : Int) : impl_FracCmp.f a b c d = some (fracCmp (a, b) (c, d)) := rfl
theorem fracOk_f (a b : Int) : impl_FracOk.f a b = some (fracOk (a, b)) := rfl
end Go.Proofs.YtnponnkcfgjeoaaDoor.X
