/- impl.amountOf, FracOk, FracCmp: what they answer. -/
import Derived.Test.YtnponnkcfgjeoaaDoorErr
import Derived.Test.YtnponnkcfgjeoaaDoorGeo
import Derived.Test.YtnponnkcfgjeoaaDoorFImplCommonDivisor
import Derived.RegionTactic
import Derived.ChangeAlike
import Derived.OwnWalk
import Derived.Outline
import Derived.Deep.RegionWith
import Derived.WalkLawsBesides
set_option linter.unusedVariables false
set_option linter.unusedSimpArgs false
namespace Go.Proofs.YtnponnkcfgjeoaaDoor.X
open Go.RowKit Go.Proofs.YtnponnkcfgjeoaaDoorW.PrintWords Go.Proofs.YtnponnkcfgjeoaaDoorW.PrintLast Go.Proofs.YtnponnkcfgjeoaaDoorW.PrintMore
open Mort

/-- Euclid's rounds come to the greatest common divisor. -/
theorem gcd_rounds (b : Nat) : ∀ (a : Nat) (k : Nat), b < k → impl_commonDivisor.l0 k (a : Int) (b : Int) = some ((Nat.gcd a b : Nat) : Int) := by
  induction b using Nat.strongRecOn with
  | _ b ih =>
    intro a k hk
    obtain ⟨k, rfl⟩ : ∃ m, k = m + 1 := ⟨k - 1, by omega⟩
    simp only [impl_commonDivisor.l0]
    by_cases h0 : b = 0
    · subst h0
      rw [if_pos (by rfl), Nat.gcd_zero_right]
    · rw [if_neg (by omega)]
      have hm : Int.tmod (a : Int) (b : Int) = ((a % b : Nat) : Int) := rfl
      rw [hm, ih (a % b) (Nat.mod_lt _ (by omega)) b k (by have := Nat.mod_lt a (show 0 < b by omega); omega)]
      rw [Nat.gcd_comm b (a % b), ← Nat.gcd_rec, Nat.gcd_comm]
theorem gcd_told {n d : Int} (hn : 0 ≤ n) (hd : 0 ≤ d) : ∃ k, impl_commonDivisor.f k n d = some (Int.gcd n d : Int) := by
  obtain ⟨a, rfl⟩ := Int.eq_ofNat_of_zero_le hn
  obtain ⟨b, rfl⟩ := Int.eq_ofNat_of_zero_le hd
  exact ⟨b + 1, gcd_rounds b a (b + 1) (by omega)⟩

set_option maxHeartbeats 1000000 in
set_option maxRecDepth 100000 in
/-- amountOf, of a fraction that is ok. -/
theorem amountOf_ok (n d : Int) (w : World) (h : fracOk (n, d) = true) :
    Calls Tryd.prog 41 #[.agg #[.int .i64 n, .int .i64 d]] w fun e w' => e = .returned (.tuple #[.iface 87 (.agg #[.int .i64 n, .int .i64 d]), .nilIface]) ∧ Below w.heap.size w w' := by
  have hok := (fracOk_iff _).1 h
  obtain ⟨⟨h1, h2, h3, h4⟩, h5⟩ := hok
  simp only at h1 h2 h3 h4 h5
  obtain ⟨k, hk⟩ := gcd_told h1 (show 0 ≤ d by omega)
  rw [h5] at hk
  have HK := Aside0.mk hk
  clear hk h5 h
  have b1 : decide (n < 0) = false := decide_eq_false (by omega)
  have b2 : decide (99999 < n) = false := decide_eq_false (by omega)
  have b3 : decide (d < 1) = false := decide_eq_false (by omega)
  have b4 : decide (99999 < d) = false := decide_eq_false (by omega)
  go_enter Tryd.func41, Tryd.ntmps41
  go_wp2_with (go_at_call 47; refine (impl_commonDivisor.calls k n d 1 _ HK.out).mono ?_; rintro e w' ⟨rfl, ⟨nd, rfl⟩⟩)
  go_ret2
  exact ⟨rfl, by repeat (first | exact Below.refl _ _ | apply below_alloc | apply pw_below_drewN | apply below_drew1)⟩

theorem cell_boxed {w : World} {v : Value} (o : Obj) {p : Addr} (h : w.cell? p = some v) : (w.alloc o).cell? p = some v := pw_cell_below (below_alloc (Below.refl _ _) o) h

set_option maxHeartbeats 1000000 in
set_option maxRecDepth 100000 in
/-- amountOf, of what is no fraction. -/
theorem amountOf_bad (n d : Int) (a : Addr) (w : World) (hc : w.cell? ⟨0, 0, none⟩ = some (.iface 109 (.pointer (some a)))) (h : fracOk (n, d) = false) :
    Calls Tryd.prog 41 #[.agg #[.int .i64 n, .int .i64 d]] w fun e w' => e = .returned (.tuple #[.nilIface, .iface 109 (.pointer (some a))]) ∧ Below w.heap.size w w' := by
  have hc1 := cell_boxed (.cells #[.int .i64 n, .int .i64 d] 25) hc
  by_cases h1 : n < 0
  · have b1 : decide (n < 0) = true := decide_eq_true h1
    clear h1 h
    go_enter Tryd.func41, Tryd.ntmps41
    go_wp2
    go_region
    all_goals (go_wp2; go_ret2; exact ⟨rfl, by repeat (first | exact Below.refl _ _ | apply below_alloc | apply pw_below_drewN | apply below_drew1)⟩)
  have b1 : decide (n < 0) = false := decide_eq_false h1
  by_cases h2 : 99999 < n
  · have b2 : decide (99999 < n) = true := decide_eq_true h2
    clear h2 h
    go_enter Tryd.func41, Tryd.ntmps41
    go_wp2
    go_region
    all_goals (go_wp2; go_ret2; exact ⟨rfl, by repeat (first | exact Below.refl _ _ | apply below_alloc | apply pw_below_drewN | apply below_drew1)⟩)
  have b2 : decide (99999 < n) = false := decide_eq_false h2
  by_cases h3 : d < 1
  · have b3 : decide (d < 1) = true := decide_eq_true h3
    clear h3 h
    go_enter Tryd.func41, Tryd.ntmps41
    go_wp2
    go_region
    all_goals (go_wp2; go_ret2; exact ⟨rfl, by repeat (first | exact Below.refl _ _ | apply below_alloc | apply pw_below_drewN | apply below_drew1)⟩)
  have b3 : decide (d < 1) = false := decide_eq_false h3
  by_cases h4 : 99999 < d
  · have b4 : decide (99999 < d) = true := decide_eq_true h4
    clear h4 h
    go_enter Tryd.func41, Tryd.ntmps41
    go_wp2
    go_region
    all_goals (go_wp2; go_ret2; exact ⟨rfl, by repeat (first | exact Below.refl _ _ | apply below_alloc | apply pw_below_drewN | apply below_drew1)⟩)
  have b4 : decide (99999 < d) = false := decide_eq_false h4
  have h5 : Int.gcd n d ≠ 1 := by
    intro e
    rw [(fracOk_iff _).2 ⟨⟨by simp only; omega, by simp only; omega, by simp only; omega, by simp only; omega⟩, e⟩] at h
    cases h
  obtain ⟨k, hk⟩ := gcd_told (show 0 ≤ n by omega) (show 0 ≤ d by omega)
  generalize Int.gcd n d = q at h5 hk
  have b5 : ((q : Int) != 1) = true := bne_iff_ne.mpr (by omega)
  have HK := Aside0.mk hk
  clear hk h5 h h1 h2 h3 h4
  go_enter Tryd.func41, Tryd.ntmps41
  go_wp2_with (go_at_call 47; refine (impl_commonDivisor.calls k n d q _ HK.out).mono ?_; rintro e w' ⟨rfl, ⟨nd, rfl⟩⟩)
  go_region
  all_goals (go_wp2; go_ret2; exact ⟨rfl, by repeat (first | exact Below.refl _ _ | apply below_alloc | apply pw_below_drewN | apply below_drew1)⟩)

/-! ### FracOk -/
def impl_FracOk.f (a0_0 a0_1 : Int) : Option Bool := some (fracOk (a0_0, a0_1))
set_option maxHeartbeats 1000000 in
set_option maxRecDepth 100000 in
theorem impl_FracOk.calls (a0_0 a0_1 : Int) (r : Bool) (w : World) (hE : ErrW w) (h : impl_FracOk.f a0_0 a0_1 = some r) :
    Calls Tryd.prog 19 #[.agg #[.int .i64 a0_0, .int .i64 a0_1]] w fun e w' => e = .returned (.bool r) ∧ Below w.heap.size w w' := by
  have h := Option.some.inj h
  obtain ⟨a, hc⟩ := hE
  cases hk : fracOk (a0_0, a0_1) with
  | true =>
    rw [hk] at h; subst h
    go_enter Tryd.func19, Tryd.ntmps19
    go_wp2_with (first
      | (go_at_call 41; refine (amountOf_ok a0_0 a0_1 _ hk).mono ?_; rintro e w1 ⟨rfl, hb⟩; have hc1 := pw_cell_below (below_step (below_alloc (Below.refl w.heap.size w) _) hb) hc; have HB := Aside0.mk (below_step (below_alloc (Below.refl w.heap.size w) _) hb); clear hb)
      | (go_at_call 42; refine (is_nil a _).mono ?_; rintro e w' ⟨rfl, rfl⟩))
    go_ret
    exact ⟨rfl, HB.out⟩
  | false =>
    rw [hk] at h; subst h
    have hc0 := cell_boxed (.cells #[.int .i64 a0_0, .int .i64 a0_1] 25) hc
    go_enter Tryd.func19, Tryd.ntmps19
    go_wp2_with (first
      | (go_at_call 41; refine (amountOf_bad a0_0 a0_1 a _ hc0 hk).mono ?_; rintro e w1 ⟨rfl, hb⟩; have hc1 := pw_cell_below (below_step (below_alloc (Below.refl w.heap.size w) _) hb) hc; have HB := Aside0.mk (below_step (below_alloc (Below.refl w.heap.size w) _) hb); clear hb)
      | (go_at_call 42; refine (is_same a _).mono ?_; rintro e w' ⟨rfl, rfl⟩))
    go_ret
    exact ⟨rfl, HB.out⟩

/-! ### FracCmp -/
theorem methAgainst (v : Value) (w : World) : (Go.method 249 87 v "loop.example/mortiser/impl.against").run Tryd.prog w = .ok (91, v) w := by kernel_rfl
theorem methParts (v : Value) (w : World) : (Go.method 249 87 v "loop.example/mortiser/impl.parts").run Tryd.prog w = .ok (92, v) w := by kernel_rfl
theorem aheadAgainst (v : Value) (w : World) : (nilAhead 249 87 v "loop.example/mortiser/impl.against").run Tryd.prog w = .ok (some false) w := by kernel_rfl
theorem aheadParts (v : Value) (w : World) : (nilAhead 249 87 v "loop.example/mortiser/impl.parts").run Tryd.prog w = .ok (some false) w := by kernel_rfl

set_option maxHeartbeats 1000000 in
set_option maxRecDepth 100000 in
theorem ratio_parts (n d : Int) (w : World) :
    Calls Tryd.prog 92 #[.agg #[.int .i64 n, .int .i64 d]] w fun e w' => e = .returned (.tuple #[.int .i64 n, .int .i64 d]) ∧ Below w.heap.size w w' := by
  go_enter Tryd.func92, Tryd.ntmps92
  go_wp2
  try (go_region; all_goals go_wp2)
  all_goals (go_ret2; exact ⟨rfl, by repeat (first | exact Below.refl _ _ | apply below_alloc | apply pw_below_drewN | apply below_drew1)⟩)

theorem prod_wrap {x y : Int} (hx : 0 ≤ x) (hx' : x ≤ 99999) (hy : 0 ≤ y) (hy' : y ≤ 99999) : wrap64 (x * y) = x * y := by
  have h1 : 0 ≤ x * y := Int.mul_nonneg hx hy
  have h2 : x * y ≤ 99999 * 99999 := Int.mul_le_mul hx' hy' hy (by decide)
  unfold wrap64
  omega

set_option maxHeartbeats 1000000 in
set_option maxRecDepth 100000 in
theorem ratio_against (n d m q : Int) (w : World) (h1 : inR (n, d)) (h2 : inR (m, q)) :
    Calls Tryd.prog 91 #[.agg #[.int .i64 n, .int .i64 d], .iface 87 (.agg #[.int .i64 m, .int .i64 q])] w fun x w' => x = .returned (.int .i64 (cmp0 (n, d) (m, q))) ∧ Below w.heap.size w w' := by
  obtain ⟨a1, a2, a3, a4⟩ := h1
  obtain ⟨b1, b2, b3, b4⟩ := h2
  simp only at a1 a2 a3 a4 b1 b2 b3 b4
  have hw1 := prod_wrap a1 a2 (show 0 ≤ q by omega) b4
  have hw2 := prod_wrap b1 b2 (show 0 ≤ d by omega) a4
  have hm := methParts
  have ha := aheadParts
  have hr : cmp0 (n, d) (m, q) = if n * q < m * d then -1 else if m * d < n * q then 1 else 0 := rfl
  rw [hr]
  clear hr a1 a2 a3 a4 b1 b2 b3 b4
  have key : ∀ (v : Int) (c1 : Bool) (c2 : Bool), (v = if c1 then -1 else if c2 then 1 else 0) → decide (n * q < m * d) = c1 → decide (m * d < n * q) = c2 →
      Calls Tryd.prog 91 #[.agg #[.int .i64 n, .int .i64 d], .iface 87 (.agg #[.int .i64 m, .int .i64 q])] w fun x w' => x = .returned (.int .i64 v) ∧ Below w.heap.size w w' := by
    intro v c1 c2 hv t1 t2
    cases c1 <;> cases c2 <;> simp only [if_true, if_false, Bool.false_eq_true] at hv <;> subst hv
    all_goals
      go_enter Tryd.func91, Tryd.ntmps91
      go_wp2_with (go_at_call 92; refine (ratio_parts m q _).mono ?_; rintro e w1 ⟨rfl, hb⟩; have hk0 := pw_cell_below hb ((blk_cell (heap_alloc_new w _) 0).trans rfl); have hk1 := pw_cell_below hb ((blk_cell (heap_alloc_new w _) 1).trans rfl); have HB := Aside0.mk (below_step (below_alloc (Below.refl w.heap.size w) _) hb); clear hb)
      go_region
      all_goals (go_wp2; go_ret; exact ⟨rfl, by repeat (first | exact HB.out | apply below_alloc | apply pw_below_drewN | apply below_drew1)⟩)
  refine key _ (decide (n * q < m * d)) (decide (m * d < n * q)) ?_ rfl rfl
  simp only [decide_eq_true_eq]

def impl_FracCmp.f (a0_0 a0_1 a1_0 a1_1 : Int) : Option Int := some (fracCmp (a0_0, a0_1) (a1_0, a1_1))
set_option maxHeartbeats 1000000 in
set_option maxRecDepth 100000 in
theorem impl_FracCmp.calls (a0_0 a0_1 a1_0 a1_1 : Int) (r : Int) (w : World) (hE : ErrW w) (h : impl_FracCmp.f a0_0 a0_1 a1_0 a1_1 = some r) :
    Calls Tryd.prog 17 #[.agg #[.int .i64 a0_0, .int .i64 a0_1], .agg #[.int .i64 a1_0, .int .i64 a1_1]] w fun e w' => e = .returned (.int .i64 r) ∧ Below w.heap.size w w' := by
  have h := Option.some.inj h
  obtain ⟨a, hc⟩ := hE
  have hm := methAgainst
  have ha := aheadAgainst
  unfold fracCmp at h
  cases hk : fracOk (a0_0, a0_1) with
  | false =>
    rw [hk] at h; simp only [Bool.false_and, Bool.false_eq_true, if_false] at h; subst h
    have hc0 := cell_boxed (.cells #[.int .i64 a1_0, .int .i64 a1_1] 25) (cell_boxed (.cells #[.int .i64 a0_0, .int .i64 a0_1] 25) hc)
    go_enter Tryd.func17, Tryd.ntmps17
    go_wp2_with (first
      | (go_at_call 41; refine (amountOf_bad a0_0 a0_1 a _ hc0 hk).mono ?_; rintro e w1 ⟨rfl, hb⟩; have hc1 := pw_cell_below hb hc0; have HB := Aside0.mk (below_step (below_alloc (below_alloc (Below.refl w.heap.size w) _) _) hb); clear hb)
      | (go_at_call 42; refine (is_same a _).mono ?_; rintro e w' ⟨rfl, rfl⟩))
    go_ret
    exact ⟨rfl, HB.out⟩
  | true =>
    have hB0 := below_alloc (below_alloc (Below.refl w.heap.size w) (.cells #[.int .i64 a0_0, .int .i64 a0_1] 25)) (.cells #[.int .i64 a1_0, .int .i64 a1_1] 25)
    have hc0 := cell_boxed (.cells #[.int .i64 a1_0, .int .i64 a1_1] 25) (cell_boxed (.cells #[.int .i64 a0_0, .int .i64 a0_1] 25) hc)
    have hx0 := (blk_cell (heap_alloc_new (w.alloc (.cells #[.int .i64 a0_0, .int .i64 a0_1] 25)) (.cells #[.int .i64 a1_0, .int .i64 a1_1] 25)) 0).trans rfl
    have hx1 := (blk_cell (heap_alloc_new (w.alloc (.cells #[.int .i64 a0_0, .int .i64 a0_1] 25)) (.cells #[.int .i64 a1_0, .int .i64 a1_1] 25)) 1).trans rfl
    rw [World.size_alloc] at hx0 hx1
    have HB0 := Aside0.mk hB0
    have HX0 := Aside0.mk hx0
    have HX1 := Aside0.mk hx1
    have HC0 := Aside0.mk hc0
    have HC := Aside0.mk hc
    clear hB0 hx0 hx1 hc0 hc
    cases hk2 : fracOk (a1_0, a1_1) with
    | false =>
      rw [hk, hk2] at h; simp only [Bool.and_false, Bool.false_eq_true, if_false] at h; subst h
      go_enter Tryd.func17, Tryd.ntmps17
      go_wp2_with fail
      refine (amountOf_ok a0_0 a0_1 _ hk).mono ?_
      rintro e w1 ⟨rfl, hb⟩
      have hc1 := pw_cell_below hb HC0.out
      have hx0 := pw_cell_below hb HX0.out
      have hx1 := pw_cell_below hb HX1.out
      have HB := Aside0.mk (below_step HB0.out hb)
      clear hb HB0 HX0 HX1 HC0
      go_wp2_with fail
      refine (is_nil a _).mono ?_
      rintro e w' ⟨rfl, rfl⟩
      go_wp2_with fail
      refine (amountOf_bad a1_0 a1_1 a _ hc1 hk2).mono ?_
      rintro e w2 ⟨rfl, hb⟩
      have hc2 := pw_cell_below hb hc1
      have HB2 := Aside0.mk (below_step HB.out hb)
      clear hb hc1 hx0 hx1
      go_wp2_with fail
      refine (is_same a _).mono ?_
      rintro e w' ⟨rfl, rfl⟩
      go_wp2_with fail
      go_ret
      exact ⟨rfl, HB2.out⟩
    | true =>
      rw [hk, hk2] at h; simp only [Bool.and_true, if_true] at h; subst h
      go_enter Tryd.func17, Tryd.ntmps17
      go_wp2_with fail
      refine (amountOf_ok a0_0 a0_1 _ hk).mono ?_
      rintro e w1 ⟨rfl, hb⟩
      have hc1 := pw_cell_below hb HC0.out
      have hx0 := pw_cell_below hb HX0.out
      have hx1 := pw_cell_below hb HX1.out
      have HB := Aside0.mk (below_step HB0.out hb)
      clear hb HB0 HX0 HX1 HC0
      go_wp2_with fail
      refine (is_nil a _).mono ?_
      rintro e w' ⟨rfl, rfl⟩
      go_wp2_with fail
      refine (amountOf_ok a1_0 a1_1 _ hk2).mono ?_
      rintro e w2 ⟨rfl, hb⟩
      have hc2 := pw_cell_below hb hc1
      have HB2 := Aside0.mk (below_step HB.out hb)
      clear hb hc1 hx0 hx1
      go_wp2_with fail
      refine (is_nil a _).mono ?_
      rintro e w' ⟨rfl, rfl⟩
      go_wp2_with fail
      refine (ratio_against a0_0 a0_1 a1_0 a1_1 _ ((fracOk_iff _).1 hk).1 ((fracOk_iff _).1 hk2).1).mono ?_
      rintro e w3 ⟨rfl, hb⟩
      have HB3 := Aside0.mk (below_step HB2.out hb)
      clear hb
      go_wp2_with fail
      go_ret
      exact ⟨rfl, HB3.out⟩
end Go.Proofs.YtnponnkcfgjeoaaDoor.X
