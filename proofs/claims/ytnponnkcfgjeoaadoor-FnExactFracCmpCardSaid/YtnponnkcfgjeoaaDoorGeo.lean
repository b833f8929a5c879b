/-! Plain geometry of the grid: points, segments, distances; no program in sight. -/
set_option linter.unusedVariables false
set_option linter.unusedSimpArgs false
namespace Mort

abbrev Pt := Int × Int
abbrev Seg := Pt × Pt

def ptOk (p : Pt) : Bool := decide (0 ≤ p.1 ∧ p.1 ≤ 9 ∧ 0 ≤ p.2 ∧ p.2 ≤ 9)
def segOk (s : Seg) : Bool := ptOk s.1 && (ptOk s.2 && !(s.1.1 == s.2.1 && s.1.2 == s.2.2))
def cross (a b c : Pt) : Int := (b.1 - a.1) * (c.2 - a.2) - (b.2 - a.2) * (c.1 - a.1)
def dot (a b c : Pt) : Int := (b.1 - a.1) * (c.1 - a.1) + (b.2 - a.2) * (c.2 - a.2)
def sgn (n : Int) : Int := if n < 0 then -1 else if n > 0 then 1 else 0
/-- On the segment, ends too. -/
def has (s : Seg) (p : Pt) : Bool := cross s.1 s.2 p == 0 && (decide (0 ≤ dot s.1 s.2 p) && decide (dot s.1 s.2 p ≤ dot s.1 s.2 s.2))
def meet (s t : Seg) : Bool :=
  (decide (sgn (cross s.1 s.2 t.1) * sgn (cross s.1 s.2 t.2) < 0) && decide (sgn (cross t.1 t.2 s.1) * sgn (cross t.1 t.2 s.2) < 0)) ||
  (has s t.1 || (has s t.2 || (has t s.1 || has t s.2)))
def segTurn (a b c : Pt) : Int := if ptOk a && (ptOk b && ptOk c) then sgn (cross a b c) else 0
def segHas (s : Seg) (p : Pt) : Bool := segOk s && (ptOk p && has s p)
def segMeet (s t : Seg) : Bool := segOk s && (segOk t && meet s t)

theorem sq_nn (x : Rat) : 0 ≤ x * x := by
  rcases @Rat.le_total 0 x with h | h
  · exact Rat.mul_nonneg h h
  · have : 0 ≤ (-x) * (-x) := Rat.mul_nonneg (by grind) (by grind)
    grind

/-- how far p is from the segment a b, squared: what stands above and below -/
def far (s : Seg) (p : Pt) : Int × Int :=
  if dot s.1 s.2 p ≤ 0 then (dot s.1 p p, 1) else if dot s.1 s.2 s.2 ≤ dot s.1 s.2 p then (dot s.2 p p, 1)
  else (cross s.1 s.2 p * cross s.1 s.2 p, dot s.1 s.2 s.2)
def val (f : Int × Int) : Rat := (f.1 : Rat) / (f.2 : Rat)

def rcross (ax ay bx yb cx cy : Rat) : Rat := (bx - ax) * (cy - ay) - (yb - ay) * (cx - ax)
/-- the square of the way from (px, py) to the point at t between a and b -/
def dsq (a b : Pt) (t px py : Rat) : Rat :=
  (px - (a.1 + t * (b.1 - a.1))) * (px - (a.1 + t * (b.1 - a.1))) + (py - (a.2 + t * (b.2 - a.2))) * (py - (a.2 + t * (b.2 - a.2)))

theorem cast_dot (a b c : Pt) : ((dot a b c : Int) : Rat) = ((b.1 : Rat) - a.1) * (c.1 - a.1) + (b.2 - a.2) * (c.2 - a.2) := by
  unfold dot; push_cast; rfl
theorem cast_cross (a b c : Pt) : ((cross a b c : Int) : Rat) = ((b.1 : Rat) - a.1) * (c.2 - a.2) - (b.2 - a.2) * (c.1 - a.1) := by
  unfold cross; push_cast; rfl
theorem cast_le {a b : Int} : (a : Rat) ≤ (b : Rat) ↔ a ≤ b := Rat.intCast_le_intCast
theorem cast_lt {a b : Int} : (a : Rat) < (b : Rat) ↔ a < b := Rat.intCast_lt_intCast
theorem cast_inj {a b : Int} : (a : Rat) = (b : Rat) ↔ a = b := Rat.intCast_inj


theorem dot_self_nn (a b : Pt) : 0 ≤ dot a b b := by
  unfold dot
  have h1 : 0 ≤ (b.1 - a.1) * (b.1 - a.1) := by
    rcases Int.le_total 0 (b.1 - a.1) with h | h
    · exact Int.mul_nonneg h h
    · exact Int.mul_nonneg_of_nonpos_of_nonpos h h
  have h2 : 0 ≤ (b.2 - a.2) * (b.2 - a.2) := by
    rcases Int.le_total 0 (b.2 - a.2) with h | h
    · exact Int.mul_nonneg h h
    · exact Int.mul_nonneg_of_nonpos_of_nonpos h h
  omega
theorem isq_nn (x : Int) : 0 ≤ x * x := by
  rcases Int.le_total 0 x with h | h
  · exact Int.mul_nonneg h h
  · exact Int.mul_nonneg_of_nonpos_of_nonpos h h
theorem isq_pos {x : Int} (h : x ≠ 0) : 0 < x * x := by
  rcases Int.lt_or_gt_of_ne h with h | h
  · exact Int.mul_pos_of_neg_of_neg h h
  · exact Int.mul_pos h h
theorem dot_self_pos {a b : Pt} (h : ¬ (a.1 = b.1 ∧ a.2 = b.2)) : 0 < dot a b b := by
  unfold dot
  have h1 := isq_nn (b.1 - a.1)
  have h2 := isq_nn (b.2 - a.2)
  by_cases e : a.1 = b.1
  · have := isq_pos (x := b.2 - a.2) (by intro h3; exact h ⟨e, by omega⟩)
    omega
  · have := isq_pos (x := b.1 - a.1) (by intro h3; exact e (by omega))
    omega
theorem rat_le_of_mul {x y d : Rat} (hd : 0 < d) (h : x * d ≤ y * d) : x ≤ y := Rat.le_of_mul_le_mul_right h hd
theorem div_mul_self {x d : Rat} (hd : 0 < d) : x / d * d = x := by
  have : d ≠ 0 := by grind
  exact Rat.div_mul_cancel this

theorem div_one' (x : Rat) : x / 1 = x := by
  have := div_mul_self (x := x) (d := 1) (by decide)
  grind
theorem dsq_eq (a b : Pt) (t : Rat) (p : Pt) :
    dsq a b t p.1 p.2 = (dot a p p : Int) - 2 * (t * (dot a b p : Int)) + t * t * (dot a b b : Int) := by
  rw [cast_dot, cast_dot, cast_dot]; unfold dsq; grind
theorem dot_eq2 (a b p : Pt) : ((dot b p p : Int) : Rat) = (dot a p p : Int) - 2 * (dot a b p : Int) + (dot a b b : Int) := by
  rw [cast_dot, cast_dot, cast_dot, cast_dot]; grind
theorem cross_eq2 (a b p : Pt) : ((cross a b p : Int) : Rat) * (cross a b p : Int) = (dot a p p : Int) * (dot a b b : Int) - (dot a b p : Int) * (dot a b p : Int) := by
  rw [cast_dot, cast_dot, cast_dot, cast_cross]; grind

theorem lin1 {A t e d : Rat} (h : e ≤ 0) (ht : 0 ≤ t) (hd : 0 ≤ d) : A ≤ A - 2 * (t * e) + t * t * d := by
  have h1 : 0 ≤ t * (-e) := Rat.mul_nonneg ht (by grind)
  have h2 : 0 ≤ t * t * d := Rat.mul_nonneg (Rat.mul_nonneg ht ht) hd
  grind
theorem lin2 {A t e d : Rat} (h : d ≤ e) (ht : t ≤ 1) (hd : 0 ≤ d) : A - 2 * e + d ≤ A - 2 * (t * e) + t * t * d := by
  have h1 : 0 ≤ (1 - t) * (e - d) := Rat.mul_nonneg (by grind) (by grind)
  have h2 : 0 ≤ (1 - t) * (1 - t) * d := Rat.mul_nonneg (Rat.mul_nonneg (by grind) (by grind)) hd
  grind
theorem lin3 {A t e d : Rat} : A * d - e * e ≤ (A - 2 * (t * e) + t * t * d) * d := by
  have h1 := sq_nn (e - t * d)
  grind

/-- no point of the segment is nearer than 'far' says -/
theorem far_le (s : Seg) (p : Pt) (hs : 0 < dot s.1 s.2 s.2) (t : Rat) (h0 : 0 ≤ t) (h1 : t ≤ 1) : val (far s p) ≤ dsq s.1 s.2 t p.1 p.2 := by
  have hdR : (0 : Rat) < (dot s.1 s.2 s.2 : Int) := by exact_mod_cast hs
  have hdR' : (0 : Rat) ≤ (dot s.1 s.2 s.2 : Int) := by grind
  rw [dsq_eq]
  unfold far val
  split
  · rename_i h
    have hR : ((dot s.1 s.2 p : Int) : Rat) ≤ 0 := by exact_mod_cast h
    simp only [Rat.intCast_one, div_one']
    exact lin1 hR h0 hdR'
  · split
    · rename_i h
      have hR : ((dot s.1 s.2 s.2 : Int) : Rat) ≤ ((dot s.1 s.2 p : Int) : Rat) := by exact_mod_cast h
      simp only [Rat.intCast_one, div_one']
      rw [dot_eq2 s.1 s.2 p]
      exact lin2 hR h1 hdR'
    · apply rat_le_of_mul hdR
      simp only
      rw [div_mul_self hdR]
      push_cast
      rw [cross_eq2]
      exact lin3

/-- one is as near as 'far' says -/
theorem far_at (s : Seg) (p : Pt) (hs : 0 < dot s.1 s.2 s.2) : ∃ t : Rat, 0 ≤ t ∧ t ≤ 1 ∧ val (far s p) = dsq s.1 s.2 t p.1 p.2 := by
  have hdR : (0 : Rat) < (dot s.1 s.2 s.2 : Int) := by exact_mod_cast hs
  unfold far val
  split
  · refine ⟨0, by decide, by decide, ?_⟩
    simp only [Rat.intCast_one, div_one']
    rw [dsq_eq]; grind
  · split
    · refine ⟨1, by decide, by decide, ?_⟩
      simp only [Rat.intCast_one, div_one']
      rw [dsq_eq, dot_eq2 s.1 s.2 p]; grind
    · rename_i h h'
      have e0 : (0 : Rat) < ((dot s.1 s.2 p : Int) : Rat) := by exact_mod_cast (by omega : 0 < dot s.1 s.2 p)
      have e1 : ((dot s.1 s.2 p : Int) : Rat) < ((dot s.1 s.2 s.2 : Int) : Rat) := by exact_mod_cast (by omega : dot s.1 s.2 p < dot s.1 s.2 s.2)
      have et := div_mul_self (x := ((dot s.1 s.2 p : Int) : Rat)) hdR
      refine ⟨((dot s.1 s.2 p : Int) : Rat) / ((dot s.1 s.2 s.2 : Int) : Rat), ?_, ?_, ?_⟩
      · apply rat_le_of_mul hdR; rw [et]; grind
      · apply rat_le_of_mul hdR; rw [et]; grind
      · have e2 := div_mul_self (x := ((cross s.1 s.2 p : Int) : Rat) * ((cross s.1 s.2 p : Int) : Rat)) hdR
        simp only
        push_cast
        rw [dsq_eq]
        rw [cross_eq2] at e2 ⊢
        generalize ((dot s.1 s.2 p : Int) : Rat) / ((dot s.1 s.2 s.2 : Int) : Rat) = t at et ⊢
        generalize ((dot s.1 s.2 s.2 : Int) : Rat) = d at *
        generalize ((dot s.1 s.2 p : Int) : Rat) = e at *
        generalize ((dot s.1 p p : Int) : Rat) = A at *
        generalize (A * d - e * e) / d = y at *
        have : (y - (A - 2 * (t * e) + t * t * d)) * d = 0 := by
          have : t * t * d * d = e * e := by rw [← et]; grind
          grind
        grind


/-! ### points in common -/
theorem eq_of_mul {x y d : Rat} (hd : 0 < d) (h : (x - y) * d = 0) : x = y := by
  have : d ≠ 0 := by grind
  rcases Rat.mul_eq_zero.1 h with h | h
  · grind
  · exact absurd h this
def px (a b : Pt) (t : Rat) : Rat := a.1 + t * (b.1 - a.1)
def py (a b : Pt) (t : Rat) : Rat := a.2 + t * (b.2 - a.2)

theorem cross_at (a b c d : Pt) (v : Rat) : (((b.1 : Rat) - a.1) * (py c d v - a.2) - (b.2 - a.2) * (px c d v - a.1)) = (1 - v) * (cross a b c : Int) + v * (cross a b d : Int) := by
  rw [cast_cross, cast_cross]; unfold px py; grind
theorem dot_at (a b c d : Pt) (v : Rat) : (((b.1 : Rat) - a.1) * (px c d v - a.1) + (b.2 - a.2) * (py c d v - a.2)) = (1 - v) * (dot a b c : Int) + v * (dot a b d : Int) := by
  rw [cast_dot, cast_dot]; unfold px py; grind
theorem cross_self (a b : Pt) : cross a b a = 0 ∧ cross a b b = 0 := by unfold cross; constructor <;> grind
theorem dot_zero (a b : Pt) : dot a b a = 0 := by unfold dot; grind

theorem has_iff (s : Seg) (p : Pt) : has s p = true ↔ cross s.1 s.2 p = 0 ∧ 0 ≤ dot s.1 s.2 p ∧ dot s.1 s.2 p ≤ dot s.1 s.2 s.2 := by
  unfold has; simp

/-- what stands at a place between both ends is on the segment -/
theorem has_of_at (a b p : Pt) (u : Rat) (h0 : 0 ≤ u) (h1 : u ≤ 1) (hx : (p.1 : Rat) = px a b u) (hy : (p.2 : Rat) = py a b u) : has (a, b) p = true := by
  rw [has_iff]
  have hc := cross_at a b a b u
  have hd := dot_at a b a b u
  rw [← hx, ← hy, ← cast_cross, (cross_self a b).1, (cross_self a b).2] at hc
  rw [← hx, ← hy, ← cast_dot, dot_zero] at hd
  have hdd : (0 : Rat) ≤ (dot a b b : Int) := by exact_mod_cast dot_self_nn a b
  have h2 : 0 ≤ u * (dot a b b : Int) := Rat.mul_nonneg h0 hdd
  have h3 : 0 ≤ (1 - u) * ((dot a b b : Int) : Rat) := Rat.mul_nonneg (by grind) hdd
  refine ⟨?_, ?_, ?_⟩
  · have : ((cross a b p : Int) : Rat) = ((0 : Int) : Rat) := by rw [hc]; grind
    exact cast_inj.1 this
  · have : ((0 : Int) : Rat) ≤ ((dot a b p : Int) : Rat) := by rw [hd]; grind
    exact cast_le.1 this
  · have : ((dot a b p : Int) : Rat) ≤ ((dot a b b : Int) : Rat) := by rw [hd]; grind
    exact cast_le.1 this

/-- what is on a segment stands at a place between both ends -/
theorem at_of_has (s : Seg) (p : Pt) (hs : 0 < dot s.1 s.2 s.2) (h : has s p = true) :
    ∃ u : Rat, 0 ≤ u ∧ u ≤ 1 ∧ (p.1 : Rat) = px s.1 s.2 u ∧ (p.2 : Rat) = py s.1 s.2 u := by
  rw [has_iff] at h
  obtain ⟨hc, h0, h1⟩ := h
  have hdR : (0 : Rat) < (dot s.1 s.2 s.2 : Int) := by exact_mod_cast hs
  have e0 : (0 : Rat) ≤ ((dot s.1 s.2 p : Int) : Rat) := by exact_mod_cast h0
  have e1 : ((dot s.1 s.2 p : Int) : Rat) ≤ ((dot s.1 s.2 s.2 : Int) : Rat) := by exact_mod_cast h1
  have et := div_mul_self (x := ((dot s.1 s.2 p : Int) : Rat)) hdR
  have hcR : ((cross s.1 s.2 p : Int) : Rat) = 0 := by rw [hc]; rfl
  refine ⟨((dot s.1 s.2 p : Int) : Rat) / ((dot s.1 s.2 s.2 : Int) : Rat), ?_, ?_, ?_, ?_⟩
  · apply rat_le_of_mul hdR; rw [et]; grind
  · apply rat_le_of_mul hdR; rw [et]; grind
  · generalize ((dot s.1 s.2 p : Int) : Rat) / ((dot s.1 s.2 s.2 : Int) : Rat) = t at et ⊢
    rw [cast_cross] at hcR
    rw [cast_dot, cast_dot] at et
    rw [cast_dot] at hdR
    exact eq_of_mul hdR (by unfold px; grind)
  · generalize ((dot s.1 s.2 p : Int) : Rat) / ((dot s.1 s.2 s.2 : Int) : Rat) = t at et ⊢
    rw [cast_cross] at hcR
    rw [cast_dot, cast_dot] at et
    rw [cast_dot] at hdR
    exact eq_of_mul hdR (by unfold py; grind)

theorem meet_iff (s t : Seg) : meet s t = true ↔ (sgn (cross s.1 s.2 t.1) * sgn (cross s.1 s.2 t.2) < 0 ∧ sgn (cross t.1 t.2 s.1) * sgn (cross t.1 t.2 s.2) < 0) ∨
    has s t.1 = true ∨ has s t.2 = true ∨ has t s.1 = true ∨ has t s.2 = true := by
  unfold meet; simp
theorem sgn_mul_neg (x y : Int) : sgn x * sgn y < 0 ↔ (x < 0 ∧ 0 < y) ∨ (0 < x ∧ y < 0) := by
  unfold sgn; split <;> split <;> (try split) <;> (try split) <;> omega

/-- of two places in line at both ends of a way that comes by: opposite sides -/
theorem opp {C1 C2 : Int} {v : Rat} (h0 : 0 ≤ v) (h1 : v ≤ 1) (h : (1 - v) * (C1 : Rat) + v * (C2 : Rat) = 0) (n1 : C1 ≠ 0) (n2 : C2 ≠ 0) : sgn C1 * sgn C2 < 0 := by
  rw [sgn_mul_neg]
  rcases Int.lt_or_gt_of_ne n1 with a | a <;> rcases Int.lt_or_gt_of_ne n2 with b | b
  · exfalso
    have a' : (C1 : Rat) < 0 := by exact_mod_cast a
    have b' : (C2 : Rat) < 0 := by exact_mod_cast b
    have k1 : 0 ≤ (1 - v) * -(C1 : Rat) := Rat.mul_nonneg (by grind) (by grind)
    have k2 : 0 ≤ v * -(C2 : Rat) := Rat.mul_nonneg (by grind) (by grind)
    have k3 : (1 - v) * (C1 : Rat) = 0 := by grind
    have k4 : v * (C2 : Rat) = 0 := by grind
    rcases Rat.mul_eq_zero.1 k4 with k5 | k5
    · rw [k5] at k3; grind
    · grind
  · exact .inl ⟨a, b⟩
  · exact .inr ⟨a, b⟩
  · exfalso
    have a' : 0 < (C1 : Rat) := by exact_mod_cast a
    have b' : 0 < (C2 : Rat) := by exact_mod_cast b
    have k1 : 0 ≤ (1 - v) * (C1 : Rat) := Rat.mul_nonneg (by grind) (by grind)
    have k2 : 0 ≤ v * (C2 : Rat) := Rat.mul_nonneg (by grind) (by grind)
    have k3 : (1 - v) * (C1 : Rat) = 0 := by grind
    have k4 : v * (C2 : Rat) = 0 := by grind
    rcases Rat.mul_eq_zero.1 k4 with k5 | k5
    · rw [k5] at k3; grind
    · grind

theorem cast_ne {C : Int} (h : C ≠ 0) : (C : Rat) ≠ 0 := by exact_mod_cast h

/-- four places in line: one of them stands between the two others of the other segment -/
theorem line_meet (s t : Seg) (hs : 0 < dot s.1 s.2 s.2) (c1 : cross s.1 s.2 t.1 = 0) (c2 : cross s.1 s.2 t.2 = 0)
    {u v : Rat} (u0 : 0 ≤ u) (u1 : u ≤ 1) (v0 : 0 ≤ v) (v1 : v ≤ 1) (hx : px s.1 s.2 u = px t.1 t.2 v) (hy : py s.1 s.2 u = py t.1 t.2 v) :
    has s t.1 = true ∨ has s t.2 = true ∨ has t s.1 = true := by
  have hdR : (0 : Rat) < (dot s.1 s.2 s.2 : Int) := by exact_mod_cast hs
  have hd := dot_at s.1 s.2 t.1 t.2 v
  rw [← hx, ← hy] at hd
  have hd' := dot_at s.1 s.2 s.1 s.2 u
  rw [hd, dot_zero] at hd'
  by_cases a1 : 0 ≤ dot s.1 s.2 t.1 ∧ dot s.1 s.2 t.1 ≤ dot s.1 s.2 s.2
  · exact .inl ((has_iff _ _).2 ⟨c1, a1⟩)
  by_cases a2 : 0 ≤ dot s.1 s.2 t.2 ∧ dot s.1 s.2 t.2 ≤ dot s.1 s.2 s.2
  · exact .inr (.inl ((has_iff _ _).2 ⟨c2, a2⟩))
  refine .inr (.inr ?_)
  -- both beyond, on two sides
  have opposite : (dot s.1 s.2 t.1 < 0 ∧ dot s.1 s.2 s.2 < dot s.1 s.2 t.2) ∨ (dot s.1 s.2 t.2 < 0 ∧ dot s.1 s.2 s.2 < dot s.1 s.2 t.1) := by
    have m1 : 0 ≤ u * ((dot s.1 s.2 s.2 : Int) : Rat) := Rat.mul_nonneg u0 (by grind)
    have m2 : 0 ≤ (1 - u) * ((dot s.1 s.2 s.2 : Int) : Rat) := Rat.mul_nonneg (by grind) (by grind)
    by_cases n1 : dot s.1 s.2 t.1 < 0
    · by_cases n2 : dot s.1 s.2 t.2 < 0
      · exfalso
        have n1' : ((dot s.1 s.2 t.1 : Int) : Rat) < 0 := by exact_mod_cast n1
        have n2' : ((dot s.1 s.2 t.2 : Int) : Rat) < 0 := by exact_mod_cast n2
        have k1 : 0 ≤ (1 - v) * -((dot s.1 s.2 t.1 : Int) : Rat) := Rat.mul_nonneg (by grind) (by grind)
        have k2 : 0 ≤ v * -((dot s.1 s.2 t.2 : Int) : Rat) := Rat.mul_nonneg v0 (by grind)
        have k3 : (1 - v) * ((dot s.1 s.2 t.1 : Int) : Rat) = 0 := by grind
        have k4 : v * ((dot s.1 s.2 t.2 : Int) : Rat) = 0 := by grind
        rcases Rat.mul_eq_zero.1 k4 with k5 | k5
        · rw [k5] at k3; grind
        · grind
      · exact .inl ⟨n1, by omega⟩
    · by_cases n2 : dot s.1 s.2 t.2 < 0
      · exact .inr ⟨n2, by omega⟩
      · exfalso
        have n1' : ((dot s.1 s.2 s.2 : Int) : Rat) < ((dot s.1 s.2 t.1 : Int) : Rat) := by exact_mod_cast (by omega : dot s.1 s.2 s.2 < dot s.1 s.2 t.1)
        have n2' : ((dot s.1 s.2 s.2 : Int) : Rat) < ((dot s.1 s.2 t.2 : Int) : Rat) := by exact_mod_cast (by omega : dot s.1 s.2 s.2 < dot s.1 s.2 t.2)
        have k1 : 0 ≤ (1 - v) * (((dot s.1 s.2 t.1 : Int) : Rat) - ((dot s.1 s.2 s.2 : Int) : Rat)) := Rat.mul_nonneg (by grind) (by grind)
        have k2 : 0 ≤ v * (((dot s.1 s.2 t.2 : Int) : Rat) - ((dot s.1 s.2 s.2 : Int) : Rat)) := Rat.mul_nonneg v0 (by grind)
        have k3 : (1 - v) * (((dot s.1 s.2 t.1 : Int) : Rat) - ((dot s.1 s.2 s.2 : Int) : Rat)) = 0 := by grind
        have k4 : v * (((dot s.1 s.2 t.2 : Int) : Rat) - ((dot s.1 s.2 s.2 : Int) : Rat)) = 0 := by grind
        rcases Rat.mul_eq_zero.1 k4 with k5 | k5
        · rw [k5] at k3; grind
        · grind
  -- in whole numbers: D * (c - a) = e_c * (b - a)
  rw [has_iff]
  generalize hE : dot s.1 s.2 t.1 = E at *
  generalize hF : dot s.1 s.2 t.2 = G at *
  generalize hD : dot s.1 s.2 s.2 = D at *
  have x1 : D * (t.1.1 - s.1.1) = E * (s.2.1 - s.1.1) := by rw [← hD, ← hE]; unfold dot; unfold cross at c1; grind
  have y1 : D * (t.1.2 - s.1.2) = E * (s.2.2 - s.1.2) := by rw [← hD, ← hE]; unfold dot; unfold cross at c1; grind
  have x2 : D * (t.2.1 - s.1.1) = G * (s.2.1 - s.1.1) := by rw [← hD, ← hF]; unfold dot; unfold cross at c2; grind
  have y2 : D * (t.2.2 - s.1.2) = G * (s.2.2 - s.1.2) := by rw [← hD, ← hF]; unfold dot; unfold cross at c2; grind
  have kc : D * D * cross t.1 t.2 s.1 = 0 := by
    have : D * D * cross t.1 t.2 s.1 = (D * (t.2.1 - s.1.1) - D * (t.1.1 - s.1.1)) * (-(D * (t.1.2 - s.1.2))) - (D * (t.2.2 - s.1.2) - D * (t.1.2 - s.1.2)) * (-(D * (t.1.1 - s.1.1))) := by
      unfold cross; grind
    rw [this, x1, y1, x2, y2]; grind
  have kd : D * D * dot t.1 t.2 s.1 = (G - E) * (-E) * D := by
    have : D * D * dot t.1 t.2 s.1 = (D * (t.2.1 - s.1.1) - D * (t.1.1 - s.1.1)) * (-(D * (t.1.1 - s.1.1))) + (D * (t.2.2 - s.1.2) - D * (t.1.2 - s.1.2)) * (-(D * (t.1.2 - s.1.2))) := by
      unfold dot; grind
    rw [this, x1, y1, x2, y2, ← hD]; unfold dot; grind
  have ke : D * D * dot t.1 t.2 t.2 = (G - E) * (G - E) * D := by
    have : D * D * dot t.1 t.2 t.2 = (D * (t.2.1 - s.1.1) - D * (t.1.1 - s.1.1)) * (D * (t.2.1 - s.1.1) - D * (t.1.1 - s.1.1)) + (D * (t.2.2 - s.1.2) - D * (t.1.2 - s.1.2)) * (D * (t.2.2 - s.1.2) - D * (t.1.2 - s.1.2)) := by
      unfold dot; grind
    rw [this, x1, y1, x2, y2, ← hD]; unfold dot; grind
  have hDD : 0 < D * D := Int.mul_pos hs hs
  refine ⟨?_, ?_, ?_⟩
  · rcases Int.mul_eq_zero.1 kc with h | h
    · omega
    · exact h
  · have : 0 ≤ (G - E) * (-E) := by
      rcases opposite with ⟨o1, o2⟩ | ⟨o1, o2⟩
      · exact Int.mul_nonneg (by omega) (by omega)
      · exact Int.mul_nonneg_of_nonpos_of_nonpos (by omega) (by omega)
    have := Int.mul_nonneg this (by omega : 0 ≤ D)
    rw [← kd] at this
    exact Int.nonneg_of_mul_nonneg_right (a := D * D) this hDD
  · have : 0 ≤ (G - E) * G := by
      rcases opposite with ⟨o1, o2⟩ | ⟨o1, o2⟩
      · exact Int.mul_nonneg (by omega) (by omega)
      · exact Int.mul_nonneg_of_nonpos_of_nonpos (by omega) (by omega)
    have := Int.mul_nonneg this (by omega : 0 ≤ D)
    have h2 : D * D * (dot t.1 t.2 t.2 - dot t.1 t.2 s.1) = (G - E) * G * D := by
      rw [Int.mul_sub, ke, kd]; grind
    rw [← h2] at this
    have := Int.nonneg_of_mul_nonneg_right (a := D * D) this hDD
    omega

/-- a point in common: they meet -/
theorem meet_of_common (s t : Seg) (hs : 0 < dot s.1 s.2 s.2) (ht : 0 < dot t.1 t.2 t.2)
    {u v : Rat} (u0 : 0 ≤ u) (u1 : u ≤ 1) (v0 : 0 ≤ v) (v1 : v ≤ 1) (hx : px s.1 s.2 u = px t.1 t.2 v) (hy : py s.1 s.2 u = py t.1 t.2 v) : meet s t = true := by
  rw [meet_iff]
  have C := cross_at s.1 s.2 t.1 t.2 v
  rw [← hx, ← hy, cross_at s.1 s.2 s.1 s.2 u, (cross_self _ _).1, (cross_self _ _).2] at C
  have K := cross_at t.1 t.2 s.1 s.2 u
  rw [hx, hy, cross_at t.1 t.2 t.1 t.2 v, (cross_self _ _).1, (cross_self _ _).2] at K
  by_cases c1 : cross s.1 s.2 t.1 = 0
  · by_cases c2 : cross s.1 s.2 t.2 = 0
    · rcases line_meet s t hs c1 c2 u0 u1 v0 v1 hx hy with h | h | h
      · exact .inr (.inl h)
      · exact .inr (.inr (.inl h))
      · exact .inr (.inr (.inr (.inl h)))
    · have : v = 0 := by
        rw [c1] at C
        have := cast_ne c2
        have k : v * ((cross s.1 s.2 t.2 : Int) : Rat) = 0 := by grind
        rcases Rat.mul_eq_zero.1 k with h | h
        · exact h
        · exact absurd h this
      subst this
      exact .inr (.inl (has_of_at s.1 s.2 t.1 u u0 u1 (by rw [hx]; unfold px; grind) (by rw [hy]; unfold py; grind)))
  · by_cases c2 : cross s.1 s.2 t.2 = 0
    · have : v = 1 := by
        rw [c2] at C
        have := cast_ne c1
        have k : (1 - v) * ((cross s.1 s.2 t.1 : Int) : Rat) = 0 := by grind
        rcases Rat.mul_eq_zero.1 k with h | h
        · grind
        · exact absurd h this
      subst this
      exact .inr (.inr (.inl (has_of_at s.1 s.2 t.2 u u0 u1 (by rw [hx]; unfold px; grind) (by rw [hy]; unfold py; grind))))
    · by_cases d1 : cross t.1 t.2 s.1 = 0
      · by_cases d2 : cross t.1 t.2 s.2 = 0
        · rcases line_meet t s ht d1 d2 v0 v1 u0 u1 hx.symm hy.symm with h | h | h
          · exact .inr (.inr (.inr (.inl h)))
          · exact .inr (.inr (.inr (.inr h)))
          · exact .inr (.inl h)
        · have : u = 0 := by
            rw [d1] at K
            have := cast_ne d2
            have k : u * ((cross t.1 t.2 s.2 : Int) : Rat) = 0 := by grind
            rcases Rat.mul_eq_zero.1 k with h | h
            · exact h
            · exact absurd h this
          subst this
          exact .inr (.inr (.inr (.inl (has_of_at t.1 t.2 s.1 v v0 v1 (by rw [← hx]; unfold px; grind) (by rw [← hy]; unfold py; grind)))))
      · by_cases d2 : cross t.1 t.2 s.2 = 0
        · have : u = 1 := by
            rw [d2] at K
            have := cast_ne d1
            have k : (1 - u) * ((cross t.1 t.2 s.1 : Int) : Rat) = 0 := by grind
            rcases Rat.mul_eq_zero.1 k with h | h
            · grind
            · exact absurd h this
          subst this
          exact .inr (.inr (.inr (.inr (has_of_at t.1 t.2 s.2 v v0 v1 (by rw [← hx]; unfold px; grind) (by rw [← hy]; unfold py; grind)))))
        · exact .inl ⟨opp v0 v1 (by grind) c1 c2, opp u0 u1 (by grind) d1 d2⟩

/-! ### how far two segments are apart -/
theorem mul_le_one_of {l L : Rat} (_h0 : 0 ≤ l) (h1 : l ≤ L) {y : Rat} (hy : 0 ≤ y) : l * y ≤ L * y := Rat.mul_le_mul_of_nonneg_right h1 hy

theorem clip1 (x X : Rat) (x0 : 0 ≤ x) (x1 : x ≤ 1) : ∃ L : Rat, 0 ≤ L ∧ L ≤ 1 ∧ (∀ l : Rat, 0 ≤ l → l ≤ L → 0 ≤ x + l * (X - x) ∧ x + l * (X - x) ≤ 1) ∧
    ((0 ≤ X ∧ X ≤ 1) ∨ x + L * (X - x) = 0 ∨ x + L * (X - x) = 1) := by
  by_cases hX : 1 < X
  · have hd : 0 < X - x := by grind
    have e := div_mul_self (x := 1 - x) hd
    refine ⟨(1 - x) / (X - x), ?_, ?_, fun l l0 l1 => ?_, .inr (.inr (by rw [e]; grind))⟩
    · apply rat_le_of_mul hd; rw [e]; grind
    · apply rat_le_of_mul hd; rw [e]; grind
    · have k1 := mul_le_one_of l0 l1 (Rat.le_of_lt hd)
      rw [e] at k1
      have k2 : 0 ≤ l * (X - x) := Rat.mul_nonneg l0 (Rat.le_of_lt hd)
      constructor <;> grind
  · by_cases hX' : X < 0
    · have hd : 0 < x - X := by grind
      have e := div_mul_self (x := x) hd
      have e' : x / (x - X) * (X - x) = -x := by
        have : x / (x - X) * (X - x) = -(x / (x - X) * (x - X)) := by grind
        rw [this, e]
      refine ⟨x / (x - X), ?_, ?_, fun l l0 l1 => ?_, .inr (.inl (by rw [e']; grind))⟩
      · apply rat_le_of_mul hd; rw [e]; grind
      · apply rat_le_of_mul hd; rw [e]; grind
      · have k1 := mul_le_one_of l0 l1 (Rat.le_of_lt hd)
        rw [e] at k1
        have k2 : 0 ≤ l * (x - X) := Rat.mul_nonneg l0 (Rat.le_of_lt hd)
        have k3 : l * (X - x) = -(l * (x - X)) := by grind
        rw [k3]
        constructor <;> grind
    · refine ⟨1, by decide, by decide, fun l l0 l1 => ?_, .inl ⟨by grind, by grind⟩⟩
      have k1 : 0 ≤ l * X := Rat.mul_nonneg l0 (by grind)
      have k2 : 0 ≤ (1 - l) * x := Rat.mul_nonneg (by grind) x0
      have k3 : 0 ≤ l * (1 - X) := Rat.mul_nonneg l0 (by grind)
      have k4 : 0 ≤ (1 - l) * (1 - x) := Rat.mul_nonneg (by grind) (by grind)
      have k5 : x + l * (X - x) = l * X + (1 - l) * x := by grind
      have k6 : 1 - (x + l * (X - x)) = l * (1 - X) + (1 - l) * (1 - x) := by grind
      constructor
      · rw [k5]; grind
      · grind

theorem clip2 (x y X Y : Rat) (x0 : 0 ≤ x) (x1 : x ≤ 1) (y0 : 0 ≤ y) (y1 : y ≤ 1) (h : ¬ ((0 ≤ X ∧ X ≤ 1) ∧ (0 ≤ Y ∧ Y ≤ 1))) :
    ∃ l : Rat, 0 ≤ l ∧ l ≤ 1 ∧ (0 ≤ x + l * (X - x) ∧ x + l * (X - x) ≤ 1) ∧ (0 ≤ y + l * (Y - y) ∧ y + l * (Y - y) ≤ 1) ∧
      (x + l * (X - x) = 0 ∨ x + l * (X - x) = 1 ∨ y + l * (Y - y) = 0 ∨ y + l * (Y - y) = 1) := by
  obtain ⟨L, L0, L1, hL, eL⟩ := clip1 x X x0 x1
  obtain ⟨M, M0, M1, hM, eM⟩ := clip1 y Y y0 y1
  rcases eL with eL | eL
  · rcases eM with eM | eM
    · exact absurd ⟨eL, eM⟩ h
    · by_cases k : 0 ≤ X ∧ X ≤ 1
      · obtain ⟨N, N0, N1, hN, _⟩ := clip1 x X x0 x1
        have c1 : 0 ≤ M * X := Rat.mul_nonneg M0 k.1
        have c2 : 0 ≤ (1 - M) * x := Rat.mul_nonneg (by grind) x0
        have c3 : 0 ≤ M * (1 - X) := Rat.mul_nonneg M0 (by grind)
        have c4 : 0 ≤ (1 - M) * (1 - x) := Rat.mul_nonneg (by grind) (by grind)
        have k5 : x + M * (X - x) = M * X + (1 - M) * x := by grind
        have k6 : 1 - (x + M * (X - x)) = M * (1 - X) + (1 - M) * (1 - x) := by grind
        refine ⟨M, M0, M1, ⟨by rw [k5]; grind, by grind⟩, hM M M0 Rat.le_refl, ?_⟩
        rcases eM with e | e
        · exact .inr (.inr (.inl e))
        · exact .inr (.inr (.inr e))
      · exact absurd eL k
  · rcases @Rat.le_total L M with o | o
    · refine ⟨L, L0, L1, hL L L0 Rat.le_refl, hM L L0 o, ?_⟩
      rcases eL with e | e
      · exact .inl e
      · exact .inr (.inl e)
    · rcases eM with eM | eM
      · have c1 : 0 ≤ L * Y := Rat.mul_nonneg L0 eM.1
        have c2 : 0 ≤ (1 - L) * y := Rat.mul_nonneg (by grind) y0
        have c3 : 0 ≤ L * (1 - Y) := Rat.mul_nonneg L0 (by grind)
        have c4 : 0 ≤ (1 - L) * (1 - y) := Rat.mul_nonneg (by grind) (by grind)
        have k5 : y + L * (Y - y) = L * Y + (1 - L) * y := by grind
        have k6 : 1 - (y + L * (Y - y)) = L * (1 - Y) + (1 - L) * (1 - y) := by grind
        refine ⟨L, L0, L1, hL L L0 Rat.le_refl, ⟨by rw [k5]; grind, by grind⟩, ?_⟩
        rcases eL with e | e
        · exact .inl e
        · exact .inr (.inl e)
      · refine ⟨M, M0, M1, hL M M0 o, hM M M0 Rat.le_refl, ?_⟩
        rcases eM with e | e
        · exact .inr (.inr (.inl e))
        · exact .inr (.inr (.inr e))

/-- how far apart two points of two segments are, squared -/
def dd (s t : Seg) (u v : Rat) : Rat := (px s.1 s.2 u - px t.1 t.2 v) * (px s.1 s.2 u - px t.1 t.2 v) + (py s.1 s.2 u - py t.1 t.2 v) * (py s.1 s.2 u - py t.1 t.2 v)

def nearEnds (s t : Seg) (x : Rat) : Prop := val (far s t.1) ≤ x ∨ val (far s t.2) ≤ x ∨ val (far t s.1) ≤ x ∨ val (far t s.2) ≤ x
theorem nearEnds.mono {s t : Seg} {x y : Rat} (h : nearEnds s t x) (k : x ≤ y) : nearEnds s t y := by
  rcases h with h | h | h | h
  · exact .inl (Rat.le_trans h k)
  · exact .inr (.inl (Rat.le_trans h k))
  · exact .inr (.inr (.inl (Rat.le_trans h k)))
  · exact .inr (.inr (.inr (Rat.le_trans h k)))

theorem edge_near (s t : Seg) (hs : 0 < dot s.1 s.2 s.2) (ht : 0 < dot t.1 t.2 t.2) {u v : Rat} (u0 : 0 ≤ u) (u1 : u ≤ 1) (v0 : 0 ≤ v) (v1 : v ≤ 1)
    (h : u = 0 ∨ u = 1 ∨ v = 0 ∨ v = 1) : nearEnds s t (dd s t u v) := by
  rcases h with rfl | rfl | rfl | rfl
  · refine .inr (.inr (.inl ?_))
    have := far_le t s.1 ht v v0 v1
    have e : dd s t 0 v = dsq t.1 t.2 v s.1.1 s.1.2 := by unfold dd dsq px py; grind
    rw [e]; exact this
  · refine .inr (.inr (.inr ?_))
    have := far_le t s.2 ht v v0 v1
    have e : dd s t 1 v = dsq t.1 t.2 v s.2.1 s.2.2 := by unfold dd dsq px py; grind
    rw [e]; exact this
  · refine .inl ?_
    have := far_le s t.1 hs u u0 u1
    have e : dd s t u 0 = dsq s.1 s.2 u t.1.1 t.1.2 := by unfold dd dsq px py; grind
    rw [e]; exact this
  · refine .inr (.inl ?_)
    have := far_le s t.2 hs u u0 u1
    have e : dd s t u 1 = dsq s.1 s.2 u t.2.1 t.2.2 := by unfold dd dsq px py; grind
    rw [e]; exact this

theorem sq_shrink {l x : Rat} (l0 : 0 ≤ l) (l1 : l ≤ 1) (hx : 0 ≤ x) : (1 - l) * (1 - l) * x ≤ x := by
  have k1 : 0 ≤ l * (2 - l) := Rat.mul_nonneg l0 (by grind)
  have k2 : 0 ≤ l * (2 - l) * x := Rat.mul_nonneg k1 hx
  grind
theorem dd_nn (s t : Seg) (u v : Rat) : 0 ≤ dd s t u v := by
  have h1 := sq_nn (px s.1 s.2 u - px t.1 t.2 v)
  have h2 := sq_nn (py s.1 s.2 u - py t.1 t.2 v)
  unfold dd
  generalize (px s.1 s.2 u - px t.1 t.2 v) * (px s.1 s.2 u - px t.1 t.2 v) = x at *
  generalize (py s.1 s.2 u - py t.1 t.2 v) * (py s.1 s.2 u - py t.1 t.2 v) = y at *
  grind

/-- if two segments do not meet, no two of their points are nearer than an end is to the other segment -/
theorem apart_ends (s t : Seg) (hs : 0 < dot s.1 s.2 s.2) (ht : 0 < dot t.1 t.2 t.2) (hm : meet s t = false)
    {u v : Rat} (u0 : 0 ≤ u) (u1 : u ≤ 1) (v0 : 0 ≤ v) (v1 : v ≤ 1) : nearEnds s t (dd s t u v) := by
  by_cases hk : ((s.2.1 : Rat) - s.1.1) * (t.2.2 - t.1.2) - (s.2.2 - s.1.2) * (t.2.1 - t.1.1) = 0
  · -- side by side: go along both
    have hdR : (0 : Rat) < (dot s.1 s.2 s.2 : Int) := by exact_mod_cast hs
    have em := div_mul_self (x := ((s.2.1 : Rat) - s.1.1) * (t.2.1 - t.1.1) + (s.2.2 - s.1.2) * (t.2.2 - t.1.2)) hdR
    generalize (((s.2.1 : Rat) - s.1.1) * (t.2.1 - t.1.1) + (s.2.2 - s.1.2) * (t.2.2 - t.1.2)) / ((dot s.1 s.2 s.2 : Int) : Rat) = m at em
    rw [cast_dot] at em hdR
    have ex : ((t.2.1 : Rat) - t.1.1) = m * (s.2.1 - s.1.1) := eq_of_mul hdR (by grind)
    have ey : ((t.2.2 : Rat) - t.1.2) = m * (s.2.2 - s.1.2) := eq_of_mul hdR (by grind)
    obtain ⟨l, l0, l1, ⟨a0, a1⟩, ⟨b0, b1⟩, e⟩ := clip2 u v (u + m * 2) (v + 2) u0 u1 v0 v1 (by grind)
    have := edge_near s t hs ht a0 a1 b0 b1 e
    have k : dd s t (u + l * (u + m * 2 - u)) (v + l * (v + 2 - v)) = dd s t u v := by
      have kx : px s.1 s.2 (u + l * (u + m * 2 - u)) - px t.1 t.2 (v + l * (v + 2 - v)) = px s.1 s.2 u - px t.1 t.2 v := by unfold px; rw [ex]; grind
      have ky : py s.1 s.2 (u + l * (u + m * 2 - u)) - py t.1 t.2 (v + l * (v + 2 - v)) = py s.1 s.2 u - py t.1 t.2 v := by unfold py; rw [ey]; grind
      unfold dd; rw [kx, ky]
    rw [k] at this; exact this
  · -- towards the point in which their lines meet
    have e1 : (((t.1.1 : Rat) - s.1.1) * (t.2.2 - t.1.2) - (t.1.2 - s.1.2) * (t.2.1 - t.1.1)) / (((s.2.1 : Rat) - s.1.1) * (t.2.2 - t.1.2) - (s.2.2 - s.1.2) * (t.2.1 - t.1.1)) * (((s.2.1 : Rat) - s.1.1) * (t.2.2 - t.1.2) - (s.2.2 - s.1.2) * (t.2.1 - t.1.1)) = (((t.1.1 : Rat) - s.1.1) * (t.2.2 - t.1.2) - (t.1.2 - s.1.2) * (t.2.1 - t.1.1)) := Rat.div_mul_cancel hk
    have e2 : (((t.1.1 : Rat) - s.1.1) * (s.2.2 - s.1.2) - (t.1.2 - s.1.2) * (s.2.1 - s.1.1)) / (((s.2.1 : Rat) - s.1.1) * (t.2.2 - t.1.2) - (s.2.2 - s.1.2) * (t.2.1 - t.1.1)) * (((s.2.1 : Rat) - s.1.1) * (t.2.2 - t.1.2) - (s.2.2 - s.1.2) * (t.2.1 - t.1.1)) = (((t.1.1 : Rat) - s.1.1) * (s.2.2 - s.1.2) - (t.1.2 - s.1.2) * (s.2.1 - s.1.1)) := Rat.div_mul_cancel hk
    generalize (((t.1.1 : Rat) - s.1.1) * (t.2.2 - t.1.2) - (t.1.2 - s.1.2) * (t.2.1 - t.1.1)) / (((s.2.1 : Rat) - s.1.1) * (t.2.2 - t.1.2) - (s.2.2 - s.1.2) * (t.2.1 - t.1.1)) = U at e1
    generalize (((t.1.1 : Rat) - s.1.1) * (s.2.2 - s.1.2) - (t.1.2 - s.1.2) * (s.2.1 - s.1.1)) / (((s.2.1 : Rat) - s.1.1) * (t.2.2 - t.1.2) - (s.2.2 - s.1.2) * (t.2.1 - t.1.1)) = V at e2
    have hx : px s.1 s.2 U = px t.1 t.2 V := by
      have : (px s.1 s.2 U - px t.1 t.2 V) * (((s.2.1 : Rat) - s.1.1) * (t.2.2 - t.1.2) - (s.2.2 - s.1.2) * (t.2.1 - t.1.1)) = 0 := by unfold px; grind
      rcases Rat.mul_eq_zero.1 this with h | h
      · grind
      · exact absurd h hk
    have hy : py s.1 s.2 U = py t.1 t.2 V := by
      have : (py s.1 s.2 U - py t.1 t.2 V) * (((s.2.1 : Rat) - s.1.1) * (t.2.2 - t.1.2) - (s.2.2 - s.1.2) * (t.2.1 - t.1.1)) = 0 := by unfold py; grind
      rcases Rat.mul_eq_zero.1 this with h | h
      · grind
      · exact absurd h hk
    have hout : ¬ ((0 ≤ U ∧ U ≤ 1) ∧ (0 ≤ V ∧ V ≤ 1)) := by
      rintro ⟨⟨a, b⟩, ⟨c, d⟩⟩
      rw [meet_of_common s t hs ht a b c d hx hy] at hm
      cases hm
    obtain ⟨l, l0, l1, ⟨a0, a1⟩, ⟨b0, b1⟩, e⟩ := clip2 u v U V u0 u1 v0 v1 hout
    have := edge_near s t hs ht a0 a1 b0 b1 e
    refine this.mono ?_
    have k : dd s t (u + l * (U - u)) (v + l * (V - v)) = (1 - l) * (1 - l) * dd s t u v := by
      have kx : px s.1 s.2 (u + l * (U - u)) - px t.1 t.2 (v + l * (V - v)) = (1 - l) * (px s.1 s.2 u - px t.1 t.2 v) + l * (px s.1 s.2 U - px t.1 t.2 V) := by unfold px; grind
      have ky : py s.1 s.2 (u + l * (U - u)) - py t.1 t.2 (v + l * (V - v)) = (1 - l) * (py s.1 s.2 u - py t.1 t.2 v) + l * (py s.1 s.2 U - py t.1 t.2 V) := by unfold py; grind
      unfold dd; rw [kx, ky, hx, hy]; grind
    rw [k]
    exact sq_shrink l0 l1 (dd_nn s t u v)

/-! ### on which side of a loop -/
def rc (ax ay bx cy x y : Rat) : Rat := (bx - ax) * (y - ay) - (cy - ay) * (x - ax)
/-- an edge crosses the ray to the right of a place -/
def crsQ (ax ay bx cy x y : Rat) : Bool :=
  (decide (ay ≤ y) && (decide (y < cy) && decide (0 < rc ax ay bx cy x y))) || (decide (cy ≤ y) && (decide (y < ay) && decide (rc ax ay bx cy x y < 0)))
/-- the strip to the right of the way from P up to Q -/
def stripQ (px py qx qy x y : Rat) : Bool := decide (py < y) && (decide (y ≤ qy) && decide (rc px py qx qy x y < 0))
/-- no point in common -/
def NoC (ax ay bx cy px py qx qy : Rat) : Prop := ∀ u v : Rat, 0 ≤ u → u ≤ 1 → 0 ≤ v → v ≤ 1 → ax + u * (bx - ax) = px + v * (qx - px) → ay + u * (cy - ay) = py + v * (qy - py) → False

theorem lin_zero (f g : Rat) (h : ¬ (0 < f ∧ 0 < g)) (h' : ¬ (f < 0 ∧ g < 0)) : ∃ l : Rat, 0 ≤ l ∧ l ≤ 1 ∧ f + l * (g - f) = 0 := by
  by_cases e : f = 0
  · exact ⟨0, by decide, by decide, by grind⟩
  · by_cases p : 0 < f
    · have hg : g ≤ 0 := by grind
      have hd : 0 < f - g := by grind
      have e := div_mul_self (x := f) hd
      refine ⟨f / (f - g), ?_, ?_, ?_⟩
      · apply rat_le_of_mul hd; rw [e]; grind
      · apply rat_le_of_mul hd; rw [e]; grind
      · have : f / (f - g) * (g - f) = -(f / (f - g) * (f - g)) := by grind
        rw [this, e]; grind
    · have hg : 0 ≤ g := by grind
      have hd : 0 < g - f := by grind
      have e := div_mul_self (x := -f) hd
      refine ⟨-f / (g - f), ?_, ?_, ?_⟩
      · apply rat_le_of_mul hd; rw [e]; grind
      · apply rat_le_of_mul hd; rw [e]; grind
      · rw [e]; grind

/-- the place of a height between two ends -/
theorem height (ay cy y : Rat) (h : ay < cy) (h0 : ay ≤ y) (h1 : y ≤ cy) : ∃ u : Rat, 0 ≤ u ∧ u ≤ 1 ∧ ay + u * (cy - ay) = y := by
  have hd : 0 < cy - ay := by grind
  have e := div_mul_self (x := y - ay) hd
  refine ⟨(y - ay) / (cy - ay), ?_, ?_, ?_⟩
  · apply rat_le_of_mul hd; rw [e]; grind
  · apply rat_le_of_mul hd; rw [e]; grind
  · rw [e]; grind

theorem mul_pos_iff' {d x : Rat} (hd : 0 < d) : 0 < d * x ↔ 0 < x := by
  constructor
  · intro h
    rcases @Rat.le_total x 0 with k | k
    · have := Rat.mul_nonneg (Rat.le_of_lt hd) (by grind : 0 ≤ -x)
      grind
    · by_cases k' : x = 0
      · rw [k'] at h; grind
      · grind
  · exact Rat.mul_pos hd
theorem mul_neg_iff' {d x : Rat} (hd : 0 < d) : d * x < 0 ↔ x < 0 := by
  have := mul_pos_iff' (d := d) (x := -x) hd
  constructor
  · intro h
    have : 0 < -x := this.1 (by grind)
    grind
  · intro h
    have : 0 < d * -x := this.2 (by grind)
    grind

/-- two ways upward that have no point in common: at both ends of the heights that both have one of them is on the same side -/
theorem same_side {ax ay bx cy px py qx qy : Rat} (hn : NoC ax ay bx cy px py qx qy) {u v u' v' : Rat}
    (u0 : 0 ≤ u) (u1 : u ≤ 1) (v0 : 0 ≤ v) (v1 : v ≤ 1) (u0' : 0 ≤ u') (u1' : u' ≤ 1) (v0' : 0 ≤ v') (v1' : v' ≤ 1)
    (e : ay + u * (cy - ay) = py + v * (qy - py)) (e' : ay + u' * (cy - ay) = py + v' * (qy - py)) :
    (0 < ax + u * (bx - ax) - (px + v * (qx - px)) ↔ 0 < ax + u' * (bx - ax) - (px + v' * (qx - px))) := by
  have key : (0 < ax + u * (bx - ax) - (px + v * (qx - px)) ∧ 0 < ax + u' * (bx - ax) - (px + v' * (qx - px))) ∨ (ax + u * (bx - ax) - (px + v * (qx - px)) < 0 ∧ ax + u' * (bx - ax) - (px + v' * (qx - px)) < 0) := by
    apply Classical.byContradiction
    intro hno
    obtain ⟨l, l0, l1, hl⟩ := lin_zero _ _ (fun h => hno (.inl h)) (fun h => hno (.inr h))
    have i1 : 0 ≤ l * u' := Rat.mul_nonneg l0 u0'
    have i2 : 0 ≤ (1 - l) * u := Rat.mul_nonneg (by grind) u0
    have i3 : 0 ≤ l * (1 - u') := Rat.mul_nonneg l0 (by grind)
    have i4 : 0 ≤ (1 - l) * (1 - u) := Rat.mul_nonneg (by grind) (by grind)
    have j1 : 0 ≤ l * v' := Rat.mul_nonneg l0 v0'
    have j2 : 0 ≤ (1 - l) * v := Rat.mul_nonneg (by grind) v0
    have j3 : 0 ≤ l * (1 - v') := Rat.mul_nonneg l0 (by grind)
    have j4 : 0 ≤ (1 - l) * (1 - v) := Rat.mul_nonneg (by grind) (by grind)
    refine hn ((1 - l) * u + l * u') ((1 - l) * v + l * v') (by grind) (by grind) (by grind) (by grind) (by grind) ?_
    have : ay + ((1 - l) * u + l * u') * (cy - ay) = (1 - l) * (ay + u * (cy - ay)) + l * (ay + u' * (cy - ay)) := by grind
    rw [this, e, e']; grind
  constructor
  · intro h; rcases key with k | k
    · exact k.2
    · exact absurd h (by grind)
  · intro h; rcases key with k | k
    · exact k.1
    · exact absurd h (by grind)

theorem rc_at {ax ay bx cy x y u : Rat} (e : ay + u * (cy - ay) = y) : rc ax ay bx cy x y = (cy - ay) * (ax + u * (bx - ax) - x) := by
  unfold rc; rw [← e]; grind
theorem rc_rev (ax ay bx cy x y : Rat) : rc bx cy ax ay x y = - rc ax ay bx cy x y := by unfold rc; grind
theorem crs_rev (ax ay bx cy x y : Rat) : crsQ bx cy ax ay x y = crsQ ax ay bx cy x y := by
  unfold crsQ; rw [rc_rev]
  have h1 : (0 < - rc ax ay bx cy x y) = (rc ax ay bx cy x y < 0) := by apply propext; constructor <;> intro h <;> grind
  have h2 : (- rc ax ay bx cy x y < 0) = (0 < rc ax ay bx cy x y) := by apply propext; constructor <;> intro h <;> grind
  simp only [h1, h2]
  rw [Bool.or_comm]
theorem noC_rev {ax ay bx cy px py qx qy : Rat} (h : NoC ax ay bx cy px py qx qy) : NoC bx cy ax ay px py qx qy := by
  intro u v u0 u1 v0 v1 e e'
  exact h (1 - u) v (by grind) (by grind) v0 v1 (by grind) (by grind)
theorem noC_rev2 {ax ay bx cy px py qx qy : Rat} (h : NoC ax ay bx cy px py qx qy) : NoC ax ay bx cy qx qy px py := by
  intro u v u0 u1 v0 v1 e e'
  exact h u (1 - v) u0 u1 (by grind) (by grind) (by grind) (by grind)

/-- an edge that goes up, and a way that goes up -/
theorem edge_up {ax ay bx cy px py qx qy : Rat} (h1 : ay < cy) (h2 : py < qy) (hn : NoC ax ay bx cy px py qx qy) :
    (crsQ ax ay bx cy px py ^^ crsQ ax ay bx cy qx qy) = (stripQ px py qx qy ax ay ^^ stripQ px py qx qy bx cy) := by
  have hd : 0 < cy - ay := by grind
  have hq : 0 < qy - py := by grind
  have cP : crsQ ax ay bx cy px py = (decide (ay ≤ py) && (decide (py < cy) && decide (0 < rc ax ay bx cy px py))) := by
    unfold crsQ
    by_cases k : cy ≤ py
    · have : ¬ py < ay := by grind
      simp [this]
    · simp [k]
  have cQ : crsQ ax ay bx cy qx qy = (decide (ay ≤ qy) && (decide (qy < cy) && decide (0 < rc ax ay bx cy qx qy))) := by
    unfold crsQ
    by_cases k : cy ≤ qy
    · have : ¬ qy < ay := by grind
      simp [this]
    · simp [k]
  rw [cP, cQ]
  unfold stripQ
  by_cases hr : cy < py ∨ qy < ay
  · rcases hr with k | k
    · have a1 : ¬ py < cy := by grind
      have a2 : ¬ qy < cy := by grind
      have a3 : ¬ py < ay := by grind
      simp [a1, a2, a3]
    · have a1 : ¬ ay ≤ py := by grind
      have a2 : ¬ ay ≤ qy := by grind
      have a3 : ¬ cy ≤ qy := by grind
      simp [a1, a2, a3]
  · have k1 : py ≤ cy := by grind
    have k2 : ay ≤ qy := by grind
    by_cases c1 : ay ≤ py
    · obtain ⟨u, u0, u1, eu⟩ := height ay cy py h1 c1 k1
      have r1 : (0 < rc ax ay bx cy px py) = (0 < ax + u * (bx - ax) - (px + 0 * (qx - px))) := by
        rw [rc_at eu]; apply propext; rw [mul_pos_iff' hd]; constructor <;> intro h <;> grind
      have n3 : ¬ py < ay := by grind
      by_cases c2 : cy ≤ qy
      · obtain ⟨v, v0, v1, ev⟩ := height py qy cy h2 k1 c2
        have r2 : (rc px py qx qy bx cy < 0) = (0 < ax + 1 * (bx - ax) - (px + v * (qx - px))) := by
          rw [rc_at ev]; apply propext; rw [mul_neg_iff' hq]; constructor <;> intro h <;> grind
        have := same_side hn u0 u1 (v := 0) (by decide) (by decide) (u' := 1) (by decide) (by decide) v0 v1 (by grind) (by grind)
        have n4 : ¬ qy < cy := by grind
        simp only [r1, r2, this, c1, n3, c2, n4]
        by_cases z : py < cy <;> simp [z]
      · have a4 : qy < cy := by grind
        have a5 : py < cy := by grind
        obtain ⟨u', u0', u1', eu'⟩ := height ay cy qy h1 k2 (by grind)
        have r2 : (0 < rc ax ay bx cy qx qy) = (0 < ax + u' * (bx - ax) - (px + 1 * (qx - px))) := by
          rw [rc_at eu']; apply propext; rw [mul_pos_iff' hd]; constructor <;> intro h <;> grind
        have := same_side hn u0 u1 (v := 0) (by decide) (by decide) u0' u1' (v' := 1) (by decide) (by decide) (by grind) (by grind)
        simp only [r1, r2, this, c1, n3, c2, a4, a5, k2]
        simp
    · have n1 : py < ay := by grind
      obtain ⟨v, v0, v1, ev⟩ := height py qy ay h2 (by grind) k2
      have r1 : (rc px py qx qy ax ay < 0) = (0 < ax + 0 * (bx - ax) - (px + v * (qx - px))) := by
        rw [rc_at ev]; apply propext; rw [mul_neg_iff' hq]; constructor <;> intro h <;> grind
      have a5 : py < cy := by grind
      by_cases c2 : cy ≤ qy
      · obtain ⟨v', v0', v1', ev'⟩ := height py qy cy h2 k1 c2
        have r2 : (rc px py qx qy bx cy < 0) = (0 < ax + 1 * (bx - ax) - (px + v' * (qx - px))) := by
          rw [rc_at ev']; apply propext; rw [mul_neg_iff' hq]; constructor <;> intro h <;> grind
        have := same_side hn (u := 0) (by decide) (by decide) v0 v1 (u' := 1) (by decide) (by decide) v0' v1' (by grind) (by grind)
        have n4 : ¬ qy < cy := by grind
        simp only [r1, r2, this, c1, n1, c2, n4, k2, a5]
        simp
      · have a4 : qy < cy := by grind
        obtain ⟨u', u0', u1', eu'⟩ := height ay cy qy h1 k2 (by grind)
        have r2 : (0 < rc ax ay bx cy qx qy) = (0 < ax + u' * (bx - ax) - (px + 1 * (qx - px))) := by
          rw [rc_at eu']; apply propext; rw [mul_pos_iff' hd]; constructor <;> intro h <;> grind
        have := same_side hn (u := 0) (by decide) (by decide) v0 v1 u0' u1' (v' := 1) (by decide) (by decide) (by grind) (by grind)
        simp only [r1, r2, this, c1, n1, c2, a4, k2]
        simp

/-- an edge on one height, and a way that goes up -/
theorem edge_flat {ax ay bx px py qx qy : Rat} (h2 : py < qy) (hn : NoC ax ay bx ay px py qx qy) :
    (crsQ ax ay bx ay px py ^^ crsQ ax ay bx ay qx qy) = (stripQ px py qx qy ax ay ^^ stripQ px py qx qy bx ay) := by
  have c0 : ∀ x y, crsQ ax ay bx ay x y = false := by
    intro x y; unfold crsQ
    by_cases k : ay ≤ y
    · have : ¬ y < ay := by grind
      simp [this]
    · simp [k]
  rw [c0, c0]
  unfold stripQ
  by_cases k1 : py < ay
  · by_cases k2 : ay ≤ qy
    · have hq : 0 < qy - py := by grind
      obtain ⟨v, v0, v1, ev⟩ := height py qy ay h2 (by grind) k2
      have r1 : (rc px py qx qy ax ay < 0) = (0 < ax + 0 * (bx - ax) - (px + v * (qx - px))) := by
        rw [rc_at ev]; apply propext; rw [mul_neg_iff' hq]; constructor <;> intro h <;> grind
      have r2 : (rc px py qx qy bx ay < 0) = (0 < ax + 1 * (bx - ax) - (px + v * (qx - px))) := by
        rw [rc_at ev]; apply propext; rw [mul_neg_iff' hq]; constructor <;> intro h <;> grind
      have := same_side hn (u := 0) (by decide) (by decide) v0 v1 (u' := 1) (by decide) (by decide) v0 v1 (by grind) (by grind)
      simp only [r1, r2, this]
      simp
    · simp [k2]
  · simp [k1]

/-- an edge, and a way on one height -/
theorem edge_level {ax ay bx cy px py qx : Rat} (h1 : ay < cy) (hn : NoC ax ay bx cy px py qx py) :
    crsQ ax ay bx cy px py = crsQ ax ay bx cy qx py := by
  have hd : 0 < cy - ay := by grind
  unfold crsQ
  have n1 : ¬ (cy ≤ py ∧ py < ay) := by grind
  by_cases k1 : ay ≤ py
  · by_cases k2 : py < cy
    · obtain ⟨u, u0, u1, eu⟩ := height ay cy py h1 k1 (by grind)
      have r1 : (0 < rc ax ay bx cy px py) = (0 < ax + u * (bx - ax) - (px + 0 * (qx - px))) := by
        rw [rc_at eu]; apply propext; rw [mul_pos_iff' hd]; constructor <;> intro h <;> grind
      have r2 : (0 < rc ax ay bx cy qx py) = (0 < ax + u * (bx - ax) - (px + 1 * (qx - px))) := by
        rw [rc_at eu]; apply propext; rw [mul_pos_iff' hd]; constructor <;> intro h <;> grind
      have := same_side hn u0 u1 (v := 0) (by decide) (by decide) u0 u1 (v' := 1) (by decide) (by decide) (by grind) (by grind)
      have n3 : ¬ cy ≤ py := by grind
      simp only [r1, r2, this, n3]
      simp
    · have n3 : ¬ py < ay := by grind
      simp [k2, n3]
  · have n3 : ¬ cy ≤ py := by grind
    simp [k1, n3]

/-- whatever the edge, and the way not down -/
theorem edge_any {ax ay bx cy px py qx qy : Rat} (h2 : py ≤ qy) (hn : NoC ax ay bx cy px py qx qy) :
    (crsQ ax ay bx cy px py ^^ crsQ ax ay bx cy qx qy) = (stripQ px py qx qy ax ay ^^ stripQ px py qx qy bx cy) := by
  by_cases e : py = qy
  · subst e
    have s0 : ∀ x y, stripQ px py qx py x y = false := by
      intro x y; unfold stripQ
      by_cases k : py < y
      · have : ¬ y ≤ py := by grind
        simp [this]
      · simp [k]
    rw [s0, s0]
    rcases @Rat.le_total ay cy with o | o
    · by_cases e : ay = cy
      · subst e
        have c0 : ∀ x y, crsQ ax ay bx ay x y = false := by
          intro x y; unfold crsQ
          by_cases k : ay ≤ y
          · have : ¬ y < ay := by grind
            simp [this]
          · simp [k]
        rw [c0, c0]
      · rw [edge_level (by grind) hn]; simp
    · by_cases e : ay = cy
      · subst e
        have c0 : ∀ x y, crsQ ax ay bx ay x y = false := by
          intro x y; unfold crsQ
          by_cases k : ay ≤ y
          · have : ¬ y < ay := by grind
            simp [this]
          · simp [k]
        rw [c0, c0]
      · rw [← crs_rev, ← crs_rev ax ay, edge_level (by grind) (noC_rev hn)]; simp
  · have h3 : py < qy := by grind
    rcases @Rat.le_total ay cy with o | o
    · by_cases e : ay = cy
      · subst e; exact edge_flat h3 hn
      · exact edge_up (by grind) h3 hn
    · by_cases e : ay = cy
      · subst e; exact edge_flat h3 hn
      · rw [← crs_rev, ← crs_rev ax ay, edge_up (by grind) h3 (noC_rev hn), Bool.xor_comm]

/-! #### lists -/
def xorAll : List Bool → Bool
  | [] => false
  | b :: l => b ^^ xorAll l
theorem xorAll_append (l m : List Bool) : xorAll (l ++ m) = (xorAll l ^^ xorAll m) := by
  induction l with
  | nil => simp [xorAll]
  | cons b l ih => simp [xorAll, ih]
theorem xorAll_map {α : Type} (l : List α) (f g : α → Bool) : xorAll (l.map fun x => f x ^^ g x) = (xorAll (l.map f) ^^ xorAll (l.map g)) := by
  induction l with
  | nil => rfl
  | cons x l ih =>
    simp only [List.map_cons, xorAll, ih]
    cases f x <;> cases g x <;> cases xorAll (l.map f) <;> cases xorAll (l.map g) <;> rfl

def turned (l : List Pt) : List Pt := l.drop 1 ++ l.take 1
def edges (l : List Pt) : List Seg := l.zip (turned l)
theorem turned_length (l : List Pt) : (turned l).length = l.length := by
  unfold turned; simp; omega
theorem edges_length (l : List Pt) : (edges l).length = l.length := by
  unfold edges; simp [turned_length]
theorem edges_fst (l : List Pt) : (edges l).map Prod.fst = l := by
  unfold edges; exact List.map_fst_zip (by rw [turned_length]; exact Nat.le_refl _)
theorem edges_snd (l : List Pt) : (edges l).map Prod.snd = turned l := by
  unfold edges; exact List.map_snd_zip (by rw [turned_length]; exact Nat.le_refl _)
/-- a closed way comes back to where it was -/
theorem closed (l : List Pt) (g : Pt → Bool) : xorAll ((edges l).map fun e => g e.1 ^^ g e.2) = false := by
  rw [xorAll_map (edges l) (fun e => g e.1) (fun e => g e.2)]
  have h1 : (edges l).map (fun e => g e.1) = l.map g := by
    rw [show (fun e : Seg => g e.1) = g ∘ Prod.fst from rfl, ← List.map_map, edges_fst]
  have h2 : (edges l).map (fun e => g e.2) = (turned l).map g := by
    rw [show (fun e : Seg => g e.2) = g ∘ Prod.snd from rfl, ← List.map_map, edges_snd]
  rw [h1, h2]
  unfold turned
  rw [List.map_append, xorAll_append, Bool.xor_comm (xorAll ((l.drop 1).map g)), ← xorAll_append, ← List.map_append, List.take_append_drop]
  cases xorAll (l.map g) <;> rfl

/-- on which side of a loop: by how many edges cross the ray to the right -/
def par (l : List Pt) (x y : Rat) : Bool := xorAll ((edges l).map fun e => crsQ e.1.1 e.1.2 e.2.1 e.2.2 x y)
/-- an edge and a way have no point in common -/
def NoCE (e : Seg) (px py qx qy : Rat) : Prop := NoC e.1.1 e.1.2 e.2.1 e.2.2 px py qx qy

theorem xorAll_congr {α : Type} {l : List α} {f g : α → Bool} (h : ∀ x ∈ l, f x = g x) : xorAll (l.map f) = xorAll (l.map g) := by
  rw [List.map_congr_left h]

theorem par_up (l : List Pt) {px py qx qy : Rat} (h : py ≤ qy) (hn : ∀ e ∈ edges l, NoCE e px py qx qy) : par l px py = par l qx qy := by
  have k : xorAll ((edges l).map fun e => crsQ e.1.1 e.1.2 e.2.1 e.2.2 px py ^^ crsQ e.1.1 e.1.2 e.2.1 e.2.2 qx qy) = false := by
    rw [xorAll_congr (fun e he => edge_any h (hn e he))]
    exact closed l (fun v => stripQ px py qx qy v.1 v.2)
  rw [xorAll_map] at k
  unfold par
  revert k
  generalize xorAll _ = a
  generalize xorAll _ = b
  cases a <;> cases b <;> simp

/-- a way that has no point in common with an edge stays on one side -/
theorem par_way (l : List Pt) {px py qx qy : Rat} (hn : ∀ e ∈ edges l, NoCE e px py qx qy) : par l px py = par l qx qy := by
  rcases @Rat.le_total py qy with h | h
  · exact par_up l h hn
  · exact (par_up l h (fun e he => noC_rev2 (hn e he))).symm

/-! #### the other side; across and up exchanged -/
theorem rc_split (ax ay bx cy x y : Rat) : rc ax ay bx cy x y = (bx - x) * (y - ay) + (cy - y) * (ax - x) := by unfold rc; grind
theorem pp {x y : Rat} (hx : 0 ≤ x) (hy : 0 ≤ y) : 0 ≤ x * y := Rat.mul_nonneg hx hy
theorem pn {x y : Rat} (hx : 0 ≤ x) (hy : y ≤ 0) : x * y ≤ 0 := by
  have := Rat.mul_nonneg hx (by grind : 0 ≤ -y); grind
theorem np {x y : Rat} (hx : x ≤ 0) (hy : 0 ≤ y) : x * y ≤ 0 := by
  have := Rat.mul_nonneg (by grind : 0 ≤ -x) hy; grind
theorem nn {x y : Rat} (hx : x ≤ 0) (hy : y ≤ 0) : 0 ≤ x * y := by
  have := Rat.mul_nonneg (by grind : 0 ≤ -x) (by grind : 0 ≤ -y); grind
theorem pp' {x y : Rat} (hx : 0 < x) (hy : 0 < y) : 0 < x * y := Rat.mul_pos hx hy
theorem nn' {x y : Rat} (hx : x < 0) (hy : y < 0) : 0 < x * y := by
  have := Rat.mul_pos (by grind : 0 < -x) (by grind : 0 < -y); grind
theorem pn' {x y : Rat} (hx : 0 < x) (hy : y < 0) : x * y < 0 := by
  have := Rat.mul_pos hx (by grind : 0 < -y); grind

theorem rc_mir (ax ay bx cy x y k : Rat) : rc (k - ax) ay (k - bx) cy (k - x) y = - rc ax ay bx cy x y := by unfold rc; grind
theorem rc_swap (ax ay bx cy x y : Rat) : rc ay ax cy bx y x = - rc ax ay bx cy x y := by unfold rc; grind

/-- an edge that has not the place crosses the one ray or the other one just if it goes from below to above -/
theorem mir_edge {ax ay bx cy x y k : Rat} (h : (ay ≤ y ∧ y < cy ∨ cy ≤ y ∧ y < ay) → rc ax ay bx cy x y ≠ 0) :
    (crsQ ax ay bx cy x y ^^ crsQ (k - ax) ay (k - bx) cy (k - x) y) = (decide (ay ≤ y) ^^ decide (cy ≤ y)) := by
  unfold crsQ
  rw [rc_mir]
  by_cases c1 : ay ≤ y <;> by_cases c2 : cy ≤ y
  · have n1 : ¬ y < ay := by grind
    have n2 : ¬ y < cy := by grind
    simp [c1, c2, n1, n2]
  · have n1 : ¬ y < ay := by grind
    have n2 : y < cy := by grind
    have hz := h (.inl ⟨c1, n2⟩)
    have e : (0 < - rc ax ay bx cy x y) = ¬ (0 < rc ax ay bx cy x y) := by apply propext; constructor <;> intro h <;> grind
    simp only [c1, c2, n1, n2, e]
    by_cases r : 0 < rc ax ay bx cy x y <;> simp [r]
  · have n1 : y < ay := by grind
    have n2 : ¬ y < cy := by grind
    have hz := h (.inr ⟨c2, n1⟩)
    have e : (- rc ax ay bx cy x y < 0) = ¬ (rc ax ay bx cy x y < 0) := by apply propext; constructor <;> intro h <;> grind
    simp only [c1, c2, n1, n2, e]
    by_cases r : rc ax ay bx cy x y < 0 <;> simp [r]
  · simp [c1, c2]

theorem swap_edge {ax ay bx cy x y : Rat} (h : (ay ≤ y ∧ y < cy ∨ cy ≤ y ∧ y < ay) → rc ax ay bx cy x y ≠ 0) :
    (crsQ ax ay bx cy x y ^^ crsQ ay ax cy bx y x) = ((decide (x < ax) && decide (y < ay)) ^^ (decide (x < bx) && decide (y < cy))) := by
  unfold crsQ
  rw [rc_swap ax ay bx cy x y]
  have hr := rc_split ax ay bx cy x y
  generalize hR : rc ax ay bx cy x y = R at *
  by_cases c1 : ay ≤ y <;> by_cases c2 : cy ≤ y <;> by_cases c3 : ax ≤ x <;> by_cases c4 : bx ≤ x
  -- both below: no crossing to the right; one upward none
  · have n1 : ¬ y < ay := by grind
    have n2 : ¬ y < cy := by grind
    have n3 : ¬ x < ax := by grind
    have n4 : ¬ x < bx := by grind
    simp [n1, n2, n3, n4]
  · have n1 : ¬ y < ay := by grind
    have n2 : ¬ y < cy := by grind
    have n3 : ¬ x < ax := by grind
    have n4 : x < bx := by grind
    have k1 := pp (x := bx - x) (y := y - ay) (by grind) (by grind)
    have k2 := nn (x := cy - y) (y := ax - x) (by grind) (by grind)
    have n5 : ¬ 0 < -R := by grind
    simp [n1, n2, n3, n4, c4, n5]
  · have n1 : ¬ y < ay := by grind
    have n2 : ¬ y < cy := by grind
    have n3 : x < ax := by grind
    have n4 : ¬ x < bx := by grind
    have k1 := np (x := bx - x) (y := y - ay) (by grind) (by grind)
    have k2 := np (x := cy - y) (y := ax - x) (by grind) (by grind)
    have n5 : ¬ -R < 0 := by grind
    simp [n1, n2, n3, n4, c3, n5]
  · have n1 : ¬ y < ay := by grind
    have n2 : ¬ y < cy := by grind
    simp [n1, n2, c3, c4]
  -- goes up
  · have n1 : ¬ y < ay := by grind
    have n2 : y < cy := by grind
    have n3 : ¬ x < ax := by grind
    have n4 : ¬ x < bx := by grind
    have k1 := np (x := bx - x) (y := y - ay) (by grind) (by grind)
    have k2 := pn (x := cy - y) (y := ax - x) (by grind) (by grind)
    have n5 : ¬ 0 < R := by grind
    simp [n1, n3, n4, c2, n5]
  · have n1 : ¬ y < ay := by grind
    have n2 : y < cy := by grind
    have n3 : ¬ x < ax := by grind
    have n4 : x < bx := by grind
    have hz := h (.inl ⟨c1, n2⟩)
    have e : (0 < -R) = ¬ (0 < R) := by apply propext; constructor <;> intro h <;> grind
    simp only [c1, c2, c3, c4, n1, n2, n3, n4, e]
    by_cases r : 0 < R <;> simp [r]
  · have n1 : ¬ y < ay := by grind
    have n2 : y < cy := by grind
    have n3 : x < ax := by grind
    have n4 : ¬ x < bx := by grind
    have hz := h (.inl ⟨c1, n2⟩)
    have e : (-R < 0) = (0 < R) := by apply propext; constructor <;> intro h <;> grind
    simp only [c1, c2, c3, c4, n1, n2, n3, n4, e]
    by_cases r : 0 < R <;> simp [r]
  · have n1 : ¬ y < ay := by grind
    have n2 : y < cy := by grind
    have n3 : x < ax := by grind
    have n4 : x < bx := by grind
    have k1 := pp (x := bx - x) (y := y - ay) (by grind) (by grind)
    have k2 := pp' (x := cy - y) (y := ax - x) (by grind) (by grind)
    have n5 : 0 < R := by grind
    simp [c1, n1, n2, n3, n4, c2, c3, c4, n5]
  -- goes down
  · have n1 : y < ay := by grind
    have n2 : ¬ y < cy := by grind
    have n3 : ¬ x < ax := by grind
    have n4 : ¬ x < bx := by grind
    have k1 := nn (x := bx - x) (y := y - ay) (by grind) (by grind)
    have k2 := nn (x := cy - y) (y := ax - x) (by grind) (by grind)
    have n5 : ¬ R < 0 := by grind
    simp [c1, n2, n3, n4, n5]
  · have n1 : y < ay := by grind
    have n2 : ¬ y < cy := by grind
    have n3 : ¬ x < ax := by grind
    have n4 : x < bx := by grind
    have hz := h (.inr ⟨c2, n1⟩)
    have e : (0 < -R) = (R < 0) := by apply propext; constructor <;> intro h <;> grind
    simp only [c1, c2, c3, c4, n1, n2, n3, n4, e]
    by_cases r : R < 0 <;> simp [r]
  · have n1 : y < ay := by grind
    have n2 : ¬ y < cy := by grind
    have n3 : x < ax := by grind
    have n4 : ¬ x < bx := by grind
    have hz := h (.inr ⟨c2, n1⟩)
    have e : (-R < 0) = ¬ (R < 0) := by apply propext; constructor <;> intro h <;> grind
    simp only [c1, c2, c3, c4, n1, n2, n3, n4, e]
    by_cases r : R < 0 <;> simp [r]
  · have n1 : y < ay := by grind
    have n2 : ¬ y < cy := by grind
    have n3 : x < ax := by grind
    have n4 : x < bx := by grind
    have k1 := pn' (x := bx - x) (y := y - ay) (by grind) (by grind)
    have k2 := np (x := cy - y) (y := ax - x) (by grind) (by grind)
    have n5 : R < 0 := by grind
    simp [c1, n1, n2, n3, n4, c2, c3, c4, n5]
  -- both above
  · have n1 : y < ay := by grind
    have n2 : y < cy := by grind
    have n3 : ¬ x < ax := by grind
    have n4 : ¬ x < bx := by grind
    simp [c1, c2, n3, n4]
  · have n1 : y < ay := by grind
    have n2 : y < cy := by grind
    have n3 : ¬ x < ax := by grind
    have n4 : x < bx := by grind
    have k1 := pn' (x := bx - x) (y := y - ay) (by grind) (by grind)
    have k2 := pn (x := cy - y) (y := ax - x) (by grind) (by grind)
    have n5 : 0 < -R := by grind
    simp [c1, c2, n2, n3, n4, c3, n5]
  · have n1 : y < ay := by grind
    have n2 : y < cy := by grind
    have n3 : x < ax := by grind
    have n4 : ¬ x < bx := by grind
    have k1 := nn (x := bx - x) (y := y - ay) (by grind) (by grind)
    have k2 := pp' (x := cy - y) (y := ax - x) (by grind) (by grind)
    have n5 : -R < 0 := by grind
    simp [c1, c2, n1, n3, n4, c4, n5]
  · have n1 : y < ay := by grind
    have n2 : y < cy := by grind
    have n3 : x < ax := by grind
    have n4 : x < bx := by grind
    simp [c1, c2, n1, n2, n3, n4, c3, c4]

/-- if an edge goes by the height of a point, and the point is in line with it, it has the point -/
theorem on_of_line (e : Seg) (p : Pt) (hs : ((e.1.2 : Rat) ≤ p.2 ∧ (p.2 : Rat) < e.2.2) ∨ ((e.2.2 : Rat) ≤ p.2 ∧ (p.2 : Rat) < e.1.2))
    (h : rc e.1.1 e.1.2 e.2.1 e.2.2 p.1 p.2 = 0) : has e p = true := by
  have goal : ∀ u : Rat, 0 ≤ u → u ≤ 1 → (e.1.2 : Rat) + u * (e.2.2 - e.1.2) = p.2 → (e.2.2 : Rat) - e.1.2 ≠ 0 → has e p = true := by
    intro u u0 u1 eu hd
    have := rc_at (ax := e.1.1) (bx := e.2.1) (x := p.1) eu
    rw [h] at this
    rcases Rat.mul_eq_zero.1 this.symm with k | k
    · exact absurd k hd
    · exact has_of_at e.1 e.2 p u u0 u1 (by unfold px; grind) (by unfold py; grind)
  rcases hs with ⟨h1, h2⟩ | ⟨h1, h2⟩
  · obtain ⟨u, u0, u1, eu⟩ := height e.1.2 e.2.2 p.2 (by grind) h1 (by grind)
    exact goal u u0 u1 eu (by grind)
  · obtain ⟨u, u0, u1, eu⟩ := height e.2.2 e.1.2 p.2 (by grind) h1 (by grind)
    exact goal (1 - u) (by grind) (by grind) (by grind) (by grind)

def mir (p : Pt) : Pt := (9 - p.1, p.2)
def swp (p : Pt) : Pt := (p.2, p.1)
def shf (p : Pt) : Pt := (p.1, p.2 + 1)
theorem edges_map (f : Pt → Pt) (l : List Pt) : edges (l.map f) = (edges l).map fun e => (f e.1, f e.2) := by
  unfold edges turned
  rw [← List.map_drop, ← List.map_take, ← List.map_append, List.zip_map]
  rfl


theorem par_mir (l : List Pt) (p : Pt) (h : ∀ e ∈ edges l, has e p = false) : par (l.map mir) (mir p).1 (mir p).2 = par l p.1 p.2 := by
  have k : xorAll ((edges l).map fun e => crsQ e.1.1 e.1.2 e.2.1 e.2.2 p.1 p.2 ^^ crsQ (9 - e.1.1) e.1.2 (9 - e.2.1) e.2.2 (9 - p.1) p.2) = false := by
    rw [xorAll_congr (fun e he => mir_edge (k := 9) (fun hs hz => by have := on_of_line e p hs hz; rw [h e he] at this; cases this))]
    exact closed l (fun v => decide ((v.2 : Rat) ≤ p.2))
  rw [xorAll_map] at k
  unfold par
  rw [edges_map, List.map_map]
  have : ((fun e : Seg => crsQ e.1.1 e.1.2 e.2.1 e.2.2 (mir p).1 (mir p).2) ∘ fun e : Seg => (mir e.1, mir e.2)) = fun e : Seg => crsQ (9 - e.1.1) e.1.2 (9 - e.2.1) e.2.2 (9 - p.1) p.2 := by
    funext e; simp only [Function.comp, mir]; push_cast; rfl
  rw [this]
  revert k
  generalize xorAll _ = a
  generalize xorAll _ = b
  cases a <;> cases b <;> simp

theorem par_swp (l : List Pt) (p : Pt) (h : ∀ e ∈ edges l, has e p = false) : par (l.map swp) (swp p).1 (swp p).2 = par l p.1 p.2 := by
  have k : xorAll ((edges l).map fun e => crsQ e.1.1 e.1.2 e.2.1 e.2.2 p.1 p.2 ^^ crsQ e.1.2 e.1.1 e.2.2 e.2.1 p.2 p.1) = false := by
    rw [xorAll_congr (fun e he => swap_edge (fun hs hz => by have := on_of_line e p hs hz; rw [h e he] at this; cases this))]
    exact closed l (fun v => decide ((p.1 : Rat) < v.1) && decide ((p.2 : Rat) < v.2))
  rw [xorAll_map] at k
  unfold par
  rw [edges_map, List.map_map]
  have : ((fun e : Seg => crsQ e.1.1 e.1.2 e.2.1 e.2.2 (swp p).1 (swp p).2) ∘ fun e : Seg => (swp e.1, swp e.2)) = fun e : Seg => crsQ e.1.2 e.1.1 e.2.2 e.2.1 p.2 p.1 := rfl
  rw [this]
  revert k
  generalize xorAll _ = a
  generalize xorAll _ = b
  cases a <;> cases b <;> simp

/-! ### loops and plates -/
def nd (s : Seg) : Prop := 0 < dot s.1 s.2 s.2
theorem segOk_iff (s : Seg) : segOk s = true ↔ ptOk s.1 = true ∧ ptOk s.2 = true ∧ ¬ (s.1.1 = s.2.1 ∧ s.1.2 = s.2.2) := by
  unfold segOk
  by_cases a : s.1.1 = s.2.1 <;> by_cases b : s.1.2 = s.2.2 <;> simp [a, b]
theorem ptOk_iff (p : Pt) : ptOk p = true ↔ 0 ≤ p.1 ∧ p.1 ≤ 9 ∧ 0 ≤ p.2 ∧ p.2 ≤ 9 := by unfold ptOk; simp
theorem nd_of_ok {s : Seg} (h : segOk s = true) : nd s := dot_self_pos ((segOk_iff s).1 h).2.2

theorem noC_of_meet {e f : Seg} (he : nd e) (hf : nd f) (h : meet e f = false) : NoCE e f.1.1 f.1.2 f.2.1 f.2.2 := by
  intro u v u0 u1 v0 v1 hx hy
  have := meet_of_common e f he hf u0 u1 v0 v1 hx hy
  rw [h] at this; cases this

/-- along a segment that meets no edge of a loop one stays on one side -/
theorem par_on (l : List Pt) (f : Seg) (hf : nd f) (hl : ∀ e ∈ edges l, nd e) (h : ∀ e ∈ edges l, meet e f = false) {u : Rat} (u0 : 0 ≤ u) (u1 : u ≤ 1) :
    par l f.1.1 f.1.2 = par l (px f.1 f.2 u) (py f.1 f.2 u) := by
  apply par_way
  intro e he a b a0 a1 b0 b1 hx hy
  have k0 : 0 ≤ b * u := Rat.mul_nonneg b0 u0
  have k1 : 0 ≤ (1 - b) * u := Rat.mul_nonneg (by grind) u0
  refine noC_of_meet (hl e he) hf (h e he) a (b * u) a0 a1 k0 (by grind) ?_ ?_
  · rw [hx]; unfold px; grind
  · rw [hy]; unfold py; grind

def joined (s t : Seg) : Bool := !has s t.2 && !has t s.1
/-- edge number i (0 ≤ i) -/
def ed (l : List Pt) (i : Nat) : Seg := (l.getD i (0, 0), l.getD ((i + 1) % l.length) (0, 0))
theorem edges_getElem? (l : List Pt) (i : Nat) (h : i < l.length) : (edges l)[i]? = some (ed l i) := by
  have h2 : (turned l)[i]? = some (l.getD ((i + 1) % l.length) (0, 0)) := by
    unfold turned
    by_cases k : i + 1 < l.length
    · rw [Nat.mod_eq_of_lt k, List.getElem?_append_left (by simp; omega), List.getElem?_drop, Nat.add_comm 1 i]
      rw [List.getD_eq_getElem?_getD, List.getElem?_eq_getElem k]; rfl
    · have e : i + 1 = l.length := by omega
      rw [e, Nat.mod_self, List.getElem?_append_right (by simp; omega)]
      have : i - (l.drop 1).length = 0 := by simp; omega
      rw [this, List.getElem?_take_of_lt (by omega), List.getD_eq_getElem?_getD, List.getElem?_eq_getElem (by omega)]; rfl
  unfold edges
  rw [List.getElem?_zip_eq_some]
  refine ⟨?_, h2⟩
  unfold ed
  simp only
  rw [List.getD_eq_getElem?_getD, List.getElem?_eq_getElem h]; rfl
theorem mem_edges {l : List Pt} {e : Seg} : e ∈ edges l ↔ ∃ i, i < l.length ∧ e = ed l i := by
  rw [List.mem_iff_getElem?]
  constructor
  · rintro ⟨i, hi⟩
    have hlt := (List.getElem?_eq_some_iff.1 hi).1
    rw [edges_length] at hlt
    rw [edges_getElem? l i hlt] at hi
    exact ⟨i, hlt, by injection hi with hi; exact hi.symm⟩
  · rintro ⟨i, hi, rfl⟩
    exact ⟨i, edges_getElem? l i hi⟩
def pairOk (l : List Pt) (i j : Nat) : Bool :=
  if j ≤ i then true else if j = i + 1 then joined (ed l i) (ed l j) else if i = 0 ∧ j + 1 = l.length then joined (ed l j) (ed l i) else !meet (ed l i) (ed l j)
def loopOk (l : List Pt) : Bool :=
  (decide (3 ≤ l.length) && decide (l.length ≤ 8)) && ((edges l).all segOk && (List.range l.length).all fun i => (List.range l.length).all fun j => pairOk l i j)
def onB (l : List Pt) (p : Pt) : Bool := (edges l).any fun e => has e p
def inOf (l : List Pt) (p : Pt) : Int := if onB l p then 0 else if par l p.1 p.2 then 1 else -1
def loopIn (l : List Pt) (p : Pt) : Int := if loopOk l && ptOk p then inOf l p else -1
/-- no edges of two loops meet -/
def apartB (a b : List Pt) : Bool := (edges a).all fun e => (edges b).all fun f => !meet e f

theorem loopOk_iff (l : List Pt) : loopOk l = true ↔ 3 ≤ l.length ∧ l.length ≤ 8 ∧ (∀ e ∈ edges l, segOk e = true) ∧ ∀ i j, i < l.length → j < l.length → pairOk l i j = true := by
  unfold loopOk
  simp only [Bool.and_eq_true, decide_eq_true_eq, List.all_eq_true, List.mem_range]
  constructor
  · rintro ⟨⟨h1, h2⟩, h3, h4⟩
    exact ⟨h1, h2, h3, fun i j hi hj => h4 i hi j hj⟩
  · rintro ⟨h1, h2, h3, h4⟩
    exact ⟨⟨h1, h2⟩, h3, fun i hi j hj => h4 i j hi hj⟩
theorem onB_iff (l : List Pt) (p : Pt) : onB l p = true ↔ ∃ e ∈ edges l, has e p = true := by unfold onB; simp
theorem onB_false (l : List Pt) (p : Pt) : onB l p = false ↔ ∀ e ∈ edges l, has e p = false := by unfold onB; simp
theorem apartB_iff (a b : List Pt) : apartB a b = true ↔ ∀ e ∈ edges a, ∀ f ∈ edges b, meet e f = false := by unfold apartB; simp

/-! #### what the moves keep -/
/-- a map of points that keeps how far they are and on which side they are, but for one sign -/
structure Motion (f : Pt → Pt) (s : Int) : Prop where
  sq : s * s = 1
  dot : ∀ a b c, dot (f a) (f b) (f c) = Mort.dot a b c
  cross : ∀ a b c, cross (f a) (f b) (f c) = s * Mort.cross a b c
theorem motion_mir : Motion mir (-1) where
  sq := by decide
  dot := by intro a b c; unfold dot mir; grind
  cross := by intro a b c; unfold cross mir; grind
theorem motion_swp : Motion swp (-1) where
  sq := by decide
  dot := by intro a b c; unfold dot swp; grind
  cross := by intro a b c; unfold cross swp; grind
theorem motion_shf : Motion shf 1 where
  sq := by decide
  dot := by intro a b c; unfold dot shf; grind
  cross := by intro a b c; unfold cross shf; grind
def segMap (f : Pt → Pt) (s : Seg) : Seg := (f s.1, f s.2)
theorem Motion.sign {f : Pt → Pt} {s : Int} (h : Motion f s) : s = 1 ∨ s = -1 := by
  have := h.sq
  have : (s - 1) * (s + 1) = 0 := by grind
  rcases Int.mul_eq_zero.1 this with k | k
  · left; omega
  · right; omega
theorem Motion.has {f : Pt → Pt} {s : Int} (h : Motion f s) (e : Seg) (p : Pt) : has (segMap f e) (f p) = has e p := by
  unfold Mort.has segMap
  simp only [h.dot, h.cross]
  rcases h.sign with rfl | rfl
  · simp
  · have : (-1 * Mort.cross e.1 e.2 p == 0) = (Mort.cross e.1 e.2 p == 0) := by
      rw [Bool.eq_iff_iff]; simp
    rw [this]
theorem sgn_neg (n : Int) : sgn (-n) = - sgn n := by unfold sgn; split <;> split <;> (try split) <;> (try split) <;> omega
theorem Motion.meet {f : Pt → Pt} {s : Int} (h : Motion f s) (e t : Seg) : meet (segMap f e) (segMap f t) = meet e t := by
  have k : ∀ e t : Seg, (decide (sgn (Mort.cross (f e.1) (f e.2) (f t.1)) * sgn (Mort.cross (f e.1) (f e.2) (f t.2)) < 0)) = decide (sgn (Mort.cross e.1 e.2 t.1) * sgn (Mort.cross e.1 e.2 t.2) < 0) := by
    intro e t
    rw [h.cross, h.cross]
    rcases h.sign with rfl | rfl
    · simp
    · have : ∀ n : Int, -1 * n = -n := by intro n; omega
      rw [this, this, sgn_neg, sgn_neg, Int.neg_mul_neg]
  unfold Mort.meet
  rw [show (segMap f t).1 = f t.1 from rfl, show (segMap f t).2 = f t.2 from rfl, show (segMap f e).1 = f e.1 from rfl, show (segMap f e).2 = f e.2 from rfl]
  rw [h.has, h.has, h.has, h.has, k e t, k t e]
theorem Motion.far {f : Pt → Pt} {s : Int} (h : Motion f s) (e : Seg) (p : Pt) : far (segMap f e) (f p) = far e p := by
  unfold Mort.far segMap
  simp only [h.dot, h.cross]
  have : s * Mort.cross e.1 e.2 p * (s * Mort.cross e.1 e.2 p) = Mort.cross e.1 e.2 p * Mort.cross e.1 e.2 p := by
    have := h.sq
    have k : s * Mort.cross e.1 e.2 p * (s * Mort.cross e.1 e.2 p) = (s * s) * (Mort.cross e.1 e.2 p * Mort.cross e.1 e.2 p) := by grind
    rw [k, this, Int.one_mul]
  rw [this]

theorem edges_motion (f : Pt → Pt) (l : List Pt) : edges (l.map f) = (edges l).map (segMap f) := edges_map f l
theorem ed_map (f : Pt → Pt) (l : List Pt) (i : Nat) (h : i < l.length) : ed (l.map f) i = segMap f (ed l i) := by
  have h1 := edges_getElem? (l.map f) i (by simpa using h)
  rw [edges_motion, List.getElem?_map, edges_getElem? l i h] at h1
  simpa using h1.symm
theorem Motion.joined {f : Pt → Pt} {s : Int} (h : Motion f s) (e t : Seg) : joined (segMap f e) (segMap f t) = joined e t := by
  unfold Mort.joined
  rw [show (segMap f t).2 = f t.2 from rfl, show (segMap f e).1 = f e.1 from rfl, h.has, h.has]
theorem Motion.pairOk {f : Pt → Pt} {s : Int} (h : Motion f s) (l : List Pt) {i j : Nat} (hi : i < l.length) (hj : j < l.length) : pairOk (l.map f) i j = pairOk l i j := by
  unfold Mort.pairOk
  rw [ed_map f l i hi, ed_map f l j hj, h.joined, h.joined, h.meet, List.length_map]
theorem Motion.inj {f : Pt → Pt} {s : Int} (h : Motion f s) {a b : Pt} (hf : nd (a, b)) : ¬ ((f a).1 = (f b).1 ∧ (f a).2 = (f b).2) := by
  rintro ⟨e1, e2⟩
  have := h.dot a b b
  unfold nd at hf
  simp only at hf
  rw [← this] at hf
  unfold Mort.dot at hf
  rw [e1, e2] at hf
  simp at hf

/-- a loop whose points stay in the grid is one after a motion -/
theorem Motion.loopOk {f : Pt → Pt} {s : Int} (h : Motion f s) {l : List Pt} (hl : loopOk l = true) (hg : ∀ p ∈ l, ptOk (f p) = true) : loopOk (l.map f) = true := by
  rw [loopOk_iff] at hl ⊢
  obtain ⟨h1, h2, h3, h4⟩ := hl
  refine ⟨by simpa using h1, by simpa using h2, ?_, ?_⟩
  · intro e he
    rw [edges_motion] at he
    obtain ⟨e', he', rfl⟩ := List.mem_map.1 he
    have m1 : e'.1 ∈ l := by rw [← edges_fst l]; exact List.mem_map_of_mem he'
    have m2 : e'.2 ∈ l := by
      have : e'.2 ∈ turned l := by rw [← edges_snd l]; exact List.mem_map_of_mem he'
      unfold turned at this
      rcases List.mem_append.1 this with k | k
      · exact List.mem_of_mem_drop k
      · exact List.mem_of_mem_take k
    exact (segOk_iff _).2 ⟨hg _ m1, hg _ m2, h.inj (nd_of_ok (h3 e' he'))⟩
  · intro i j hi hj
    rw [List.length_map] at hi hj
    rw [h.pairOk l hi hj]
    exact h4 i j hi hj
theorem Motion.onB {f : Pt → Pt} {s : Int} (h : Motion f s) (l : List Pt) (p : Pt) : onB (l.map f) (f p) = onB l p := by
  unfold Mort.onB
  rw [edges_motion, List.any_map]
  congr 1
  funext e
  exact h.has e p
theorem Motion.apartB {f : Pt → Pt} {s : Int} (h : Motion f s) (a b : List Pt) : apartB (a.map f) (b.map f) = apartB a b := by
  unfold Mort.apartB
  rw [edges_motion, edges_motion, List.all_map]
  congr 1
  funext e
  simp only [Function.comp]
  rw [List.all_map]
  congr 1
  funext t
  simp only [Function.comp]
  rw [h.meet]
/-- a motion that keeps, too, on which side of a loop a point is -/
structure Keeps (f : Pt → Pt) : Prop where
  motion : ∃ s, Motion f s
  par : ∀ (l : List Pt) (p : Pt), (∀ e ∈ edges l, has e p = false) → par (l.map f) (f p).1 (f p).2 = Mort.par l p.1 p.2
theorem keeps_mir : Keeps mir := ⟨⟨_, motion_mir⟩, par_mir⟩
theorem keeps_swp : Keeps swp := ⟨⟨_, motion_swp⟩, par_swp⟩
theorem keeps_shf : Keeps shf := ⟨⟨_, motion_shf⟩, fun l p _ => by
  unfold par
  rw [edges_motion, List.map_map]
  congr 1
  apply List.map_congr_left
  intro e _
  simp only [Function.comp, segMap, shf]
  push_cast
  unfold crsQ rc
  have e1 : ∀ a b : Rat, (a + 1 ≤ b + 1) = (a ≤ b) := by intro a b; apply propext; constructor <;> intro h <;> grind
  have e2 : ∀ a b : Rat, (a + 1 < b + 1) = (a < b) := by intro a b; apply propext; constructor <;> intro h <;> grind
  have e3 : ∀ a b : Rat, a + 1 - (b + 1) = a - b := by intro a b; grind
  simp only [e1, e2, e3]⟩
theorem Keeps.inOf {f : Pt → Pt} (h : Keeps f) (l : List Pt) (p : Pt) : inOf (l.map f) (f p) = inOf l p := by
  obtain ⟨s, hs⟩ := h.motion
  unfold Mort.inOf
  rw [hs.onB]
  cases hb : Mort.onB l p with
  | true => rfl
  | false => rw [h.par l p ((onB_false l p).1 hb)]

/-! #### plates -/
abbrev Plate := List Pt × List (List Pt)
def nested (o : List Pt) (hs : List (List Pt)) : Bool :=
  hs.all fun h => inOf o (h.getD 0 (0, 0)) == 1
def plateOk (P : Plate) : Bool :=
  (decide (P.2.length ≤ 2) && loopOk P.1) && (P.2.all loopOk && (P.2.all (apartB P.1) && (nested P.1 P.2 && match P.2 with
    | [a, b] => apartB a b && (inOf b (a.getD 0 (0, 0)) == -1 && inOf a (b.getD 0 (0, 0)) == -1)
    | _ => true)))
def plateEdges (P : Plate) : List Seg := edges P.1 ++ P.2.flatMap edges
/-- on an edge: 0; in the outer loop and beyond each hole: 1; else -1 -/
def plateInB (P : Plate) (p : Pt) : Bool := inOf P.1 p == 1 && P.2.all fun h => inOf h p == -1
def plateOn (P : Plate) (p : Pt) : Bool := onB P.1 p || P.2.any fun h => onB h p
def plateInOf (P : Plate) (p : Pt) : Int := if plateOn P p then 0 else if plateInB P p then 1 else -1
def plateIn (P : Plate) (p : Pt) : Int := if plateOk P && ptOk p then plateInOf P p else -1

/-! ### fractions -/
abbrev Frac := Int × Int
def fracOk (f : Frac) : Bool := decide (0 ≤ f.1) && (decide (f.1 ≤ 99999) && (decide (1 ≤ f.2) && (decide (f.2 ≤ 99999) && Int.gcd f.1 f.2 == 1)))
def red (f : Int × Int) : Frac := (f.1 / (Int.gcd f.1 f.2 : Int), f.2 / (Int.gcd f.1 f.2 : Int))
def cmp0 (a b : Frac) : Int := if a.1 * b.2 < b.1 * a.2 then -1 else if a.1 * b.2 > b.1 * a.2 then 1 else 0
def fracCmp (a b : Frac) : Int := if fracOk a && fracOk b then cmp0 a b else 2
def inR (f : Int × Int) : Prop := 0 ≤ f.1 ∧ f.1 ≤ 99999 ∧ 1 ≤ f.2 ∧ f.2 ≤ 99999

theorem fracOk_iff (f : Frac) : fracOk f = true ↔ inR f ∧ Int.gcd f.1 f.2 = 1 := by
  unfold fracOk inR
  simp only [Bool.and_eq_true, decide_eq_true_eq, beq_iff_eq]
  constructor
  · rintro ⟨h1, h2, h3, h4, h5⟩; exact ⟨⟨h1, h2, h3, h4⟩, h5⟩
  · rintro ⟨⟨h1, h2, h3, h4⟩, h5⟩; exact ⟨h1, h2, h3, h4, h5⟩
theorem gcd_pos {f : Int × Int} (h : inR f) : 0 < Int.gcd f.1 f.2 := Int.gcd_pos_of_ne_zero_right _ (by have := h.2.2.1; omega)
theorem red_mul (f : Int × Int) : (red f).1 * (Int.gcd f.1 f.2 : Int) = f.1 ∧ (red f).2 * (Int.gcd f.1 f.2 : Int) = f.2 :=
  ⟨Int.ediv_mul_cancel (Int.gcd_dvd_left _ _), Int.ediv_mul_cancel (Int.gcd_dvd_right _ _)⟩
theorem red_inR {f : Int × Int} (h : inR f) : inR (red f) := by
  have hg := gcd_pos h
  have hm := red_mul f
  obtain ⟨h1, h2, h3, h4⟩ := h
  have g1 : (1 : Int) ≤ (Int.gcd f.1 f.2 : Int) := by omega
  refine ⟨?_, ?_, ?_, ?_⟩
  · exact Int.ediv_nonneg h1 (by omega)
  · exact Int.le_trans (Int.ediv_le_self _ h1) h2
  · have : (red f).2 ≠ 0 := by intro e; rw [e] at hm; omega
    have := Int.ediv_nonneg (a := f.2) (b := (Int.gcd f.1 f.2 : Int)) (by omega) (by omega)
    unfold red at *
    simp only at *
    omega
  · exact Int.le_trans (Int.ediv_le_self _ (by omega)) h4
theorem red_ok {f : Int × Int} (h : inR f) : fracOk (red f) = true := by
  rw [fracOk_iff]
  refine ⟨red_inR h, ?_⟩
  unfold red
  exact Int.gcd_ediv_gcd_ediv_gcd (gcd_pos h)
theorem red_of_ok {f : Frac} (h : fracOk f = true) : red f = f := by
  rw [fracOk_iff] at h
  unfold red
  rw [h.2]
  simp
theorem val_red {f : Int × Int} (h : inR f) : val (red f) = val f := by
  have hg := gcd_pos h
  have hm := red_mul f
  have hr := red_inR h
  have p1 : (0 : Rat) < ((red f).2 : Int) := by exact_mod_cast hr.2.2.1
  have p2 : (0 : Rat) < (f.2 : Int) := by exact_mod_cast h.2.2.1
  have e1 := div_mul_self (x := ((red f).1 : Int)) p1
  have e2 := div_mul_self (x := (f.1 : Int)) p2
  unfold val
  have k1 : (f.1 : Rat) = ((red f).1 : Int) * ((Int.gcd f.1 f.2 : Int) : Rat) := by exact_mod_cast hm.1.symm
  have k2 : (f.2 : Rat) = ((red f).2 : Int) * ((Int.gcd f.1 f.2 : Int) : Rat) := by exact_mod_cast hm.2.symm
  have k3 : (0 : Rat) < ((Int.gcd f.1 f.2 : Int) : Rat) := by exact_mod_cast hg
  generalize ((red f).1 : Rat) / ((red f).2 : Rat) = x at *
  generalize (f.1 : Rat) / (f.2 : Rat) = y at *
  apply eq_of_mul p2
  have : (x - y) * (f.2 : Rat) = x * (f.2 : Rat) - y * (f.2 : Rat) := by grind
  rw [this, e2, k1, k2, ← Rat.mul_assoc, e1]
  exact Rat.sub_self
theorem val_le {a b : Int × Int} (ha : 1 ≤ a.2) (hb : 1 ≤ b.2) : val a ≤ val b ↔ a.1 * b.2 ≤ b.1 * a.2 := by
  have p1 : (0 : Rat) < (a.2 : Int) := by exact_mod_cast ha
  have p2 : (0 : Rat) < (b.2 : Int) := by exact_mod_cast hb
  have e1 := div_mul_self (x := (a.1 : Int)) p1
  have e2 := div_mul_self (x := (b.1 : Int)) p2
  have p12 : (0 : Rat) < (a.2 : Int) * (b.2 : Int) := Rat.mul_pos p1 p2
  unfold val
  rw [← cast_le]
  push_cast
  generalize (a.1 : Rat) / (a.2 : Rat) = x at *
  generalize (b.1 : Rat) / (b.2 : Rat) = y at *
  rw [← e1, ← e2]
  have k1 : x * (a.2 : Rat) * (b.2 : Rat) = x * ((a.2 : Int) * (b.2 : Int)) := by grind
  have k2 : y * (b.2 : Rat) * (a.2 : Rat) = y * ((a.2 : Int) * (b.2 : Int)) := by grind
  rw [k1, k2]
  constructor
  · intro h; exact Rat.mul_le_mul_of_nonneg_right h (Rat.le_of_lt p12)
  · intro h; exact rat_le_of_mul p12 h
theorem cmp0_neg {a b : Frac} (ha : 1 ≤ a.2) (hb : 1 ≤ b.2) : cmp0 a b < 0 ↔ val a < val b := by
  have := val_le hb ha
  rw [← Rat.not_le, this]
  unfold cmp0
  split
  · simp; omega
  · split <;> simp <;> omega
theorem cmp0_pos {a b : Frac} (ha : 1 ≤ a.2) (hb : 1 ≤ b.2) : 0 < cmp0 a b ↔ val b < val a := by
  have := val_le ha hb
  rw [← Rat.not_le, this]
  unfold cmp0
  split
  · simp; omega
  · split <;> simp <;> omega
theorem cmp0_le {a b : Frac} (ha : 1 ≤ a.2) (hb : 1 ≤ b.2) : cmp0 a b ≤ 0 ↔ val a ≤ val b := by
  have := cmp0_pos ha hb
  rw [← Int.not_lt, this, Rat.not_lt]
theorem cmp0_ge {a b : Frac} (ha : 1 ≤ a.2) (hb : 1 ≤ b.2) : 0 ≤ cmp0 a b ↔ val b ≤ val a := by
  have := cmp0_neg ha hb
  rw [← Int.not_lt, this, Rat.not_lt]
theorem cmp0_zero {a b : Frac} (ha : 1 ≤ a.2) (hb : 1 ≤ b.2) : cmp0 a b = 0 ↔ val a = val b := by
  have h1 := cmp0_le ha hb
  have h2 := cmp0_ge ha hb
  constructor
  · intro h; exact Rat.le_antisymm (h1.1 (by omega)) (h2.1 (by omega))
  · intro h
    have := h1.2 (by rw [h]; exact Rat.le_refl)
    have := h2.2 (by rw [h]; exact Rat.le_refl)
    omega
theorem fracCmp_ok {a b : Frac} (ha : fracOk a = true) (hb : fracOk b = true) : fracCmp a b = cmp0 a b := by unfold fracCmp; rw [ha, hb]; rfl
theorem dvd_coprime {d n m : Int} (h : d ∣ n * m) (hg : Int.gcd d n = 1) : d ∣ m := by
  have h1 : d.natAbs ∣ n.natAbs * m.natAbs := by rw [← Int.natAbs_mul]; exact Int.natAbs_dvd_natAbs.2 h
  have h2 : Nat.Coprime d.natAbs n.natAbs := hg
  exact Int.natAbs_dvd_natAbs.1 (Nat.Coprime.dvd_of_dvd_mul_left h2 h1)
/-- of ok fractions the same amount is the same fraction -/
theorem frac_eq {a b : Frac} (ha : fracOk a = true) (hb : fracOk b = true) (h : val a = val b) : a = b := by
  have ha' := (fracOk_iff a).1 ha
  have hb' := (fracOk_iff b).1 hb
  have a2 := ha'.1.2.2.1
  have b2 := hb'.1.2.2.1
  have h1 := (val_le a2 b2).1 (by rw [h]; exact Rat.le_refl)
  have h2 := (val_le b2 a2).1 (by rw [h]; exact Rat.le_refl)
  have e : a.1 * b.2 = b.1 * a.2 := by omega
  have d1 : a.2 ∣ b.2 := by
    have : a.2 ∣ a.1 * b.2 := ⟨b.1, by rw [e, Int.mul_comm]⟩
    exact dvd_coprime this (by rw [Int.gcd_comm]; exact ha'.2)
  have d2 : b.2 ∣ a.2 := by
    have : b.2 ∣ b.1 * a.2 := ⟨a.1, by rw [← e, Int.mul_comm]⟩
    exact dvd_coprime this (by rw [Int.gcd_comm]; exact hb'.2)
  have e2 : a.2 = b.2 := Int.le_antisymm (Int.le_of_dvd (by omega) d1) (Int.le_of_dvd (by omega) d2)
  have e1 : a.1 = b.1 := by
    rw [e2] at e
    exact Int.eq_of_mul_eq_mul_right (by omega) e
  exact Prod.ext e1 e2

/-! #### segments -/
def segFar (s : Seg) (p : Pt) : Frac := if segOk s && ptOk p then red (far s p) else (0, 0)
def least (a b : Frac) : Frac := if cmp0 b a < 0 then b else a
def segApart (s t : Seg) : Frac :=
  if segOk s && segOk t then
    if meet s t then (0, 1) else least (least (red (far s t.1)) (red (far s t.2))) (least (red (far t s.1)) (red (far t s.2)))
  else (0, 0)
/-- a product of two numbers of at most 9 and 9 -/
theorem mul_bound {x y : Int} (hx : -9 ≤ x) (hx' : x ≤ 9) (hy : -9 ≤ y) (hy' : y ≤ 9) : -81 ≤ x * y ∧ x * y ≤ 81 := by
  have h1 : 0 ≤ (9 - x) * (9 + y) := Int.mul_nonneg (by omega) (by omega)
  have h2 : 0 ≤ (9 + x) * (9 - y) := Int.mul_nonneg (by omega) (by omega)
  have h3 : 0 ≤ (9 - x) * (9 - y) := Int.mul_nonneg (by omega) (by omega)
  have h4 : 0 ≤ (9 + x) * (9 + y) := Int.mul_nonneg (by omega) (by omega)
  constructor <;> grind
theorem dot_bound {a b c : Pt} (ha : ptOk a = true) (hb : ptOk b = true) (hc : ptOk c = true) : -162 ≤ dot a b c ∧ dot a b c ≤ 162 := by
  rw [ptOk_iff] at ha hb hc
  have h1 := mul_bound (x := b.1 - a.1) (y := c.1 - a.1) (by omega) (by omega) (by omega) (by omega)
  have h2 := mul_bound (x := b.2 - a.2) (y := c.2 - a.2) (by omega) (by omega) (by omega) (by omega)
  unfold dot; omega
theorem cross_bound {a b c : Pt} (ha : ptOk a = true) (hb : ptOk b = true) (hc : ptOk c = true) : -162 ≤ cross a b c ∧ cross a b c ≤ 162 := by
  rw [ptOk_iff] at ha hb hc
  have h1 := mul_bound (x := b.1 - a.1) (y := c.2 - a.2) (by omega) (by omega) (by omega) (by omega)
  have h2 := mul_bound (x := b.2 - a.2) (y := c.1 - a.1) (by omega) (by omega) (by omega) (by omega)
  unfold cross; omega
theorem sq_bound {x : Int} (h : -162 ≤ x) (h' : x ≤ 162) : x * x ≤ 26244 := by
  have : 0 ≤ (162 - x) * (162 + x) := Int.mul_nonneg (by omega) (by omega)
  grind
theorem far_inR {s : Seg} {p : Pt} (hs : segOk s = true) (hp : ptOk p = true) : inR (far s p) := by
  have hs' := (segOk_iff s).1 hs
  have hd := nd_of_ok hs
  unfold nd at hd
  unfold far inR
  have b1 := dot_bound hs'.1 hp hp
  have b2 := dot_bound hs'.2.1 hp hp
  have b3 := dot_bound hs'.1 hs'.2.1 hs'.2.1
  have b4 := cross_bound hs'.1 hs'.2.1 hp
  have b5 := sq_bound b4.1 b4.2
  have b6 := isq_nn (cross s.1 s.2 p)
  have b7 := dot_self_nn s.1 p
  have b8 := dot_self_nn s.2 p
  split
  · simp only; omega
  · split
    · simp only; omega
    · simp only; omega
theorem segFar_ok {s : Seg} {p : Pt} (hs : segOk s = true) (hp : ptOk p = true) : fracOk (segFar s p) = true ∧ val (segFar s p) = val (far s p) := by
  unfold segFar; rw [hs, hp]
  exact ⟨red_ok (far_inR hs hp), val_red (far_inR hs hp)⟩
theorem least_ok {a b : Frac} (ha : fracOk a = true) (hb : fracOk b = true) : fracOk (least a b) = true := by unfold least; split <;> assumption
theorem val_least {a b : Frac} (ha : fracOk a = true) (hb : fracOk b = true) : (val (least a b) ≤ val a ∧ val (least a b) ≤ val b) ∧ (least a b = a ∨ least a b = b) := by
  have a2 := ((fracOk_iff a).1 ha).1.2.2.1
  have b2 := ((fracOk_iff b).1 hb).1.2.2.1
  unfold least
  split
  · rename_i h
    have := (cmp0_neg b2 a2).1 h
    exact ⟨⟨Rat.le_of_lt this, Rat.le_refl⟩, .inr rfl⟩
  · rename_i h
    have : val a ≤ val b := by rw [← Rat.not_lt, ← cmp0_neg b2 a2]; exact h
    exact ⟨⟨Rat.le_refl, this⟩, .inl rfl⟩
theorem dot_rev (a b p : Pt) : dot b a p = dot a b b - dot a b p := by unfold dot; grind
theorem cross_rev (a b p : Pt) : cross b a p = - cross a b p := by unfold cross; grind
theorem has_rev (a b p : Pt) : has (b, a) p = has (a, b) p := by
  rw [Bool.eq_iff_iff, has_iff, has_iff]
  simp only [cross_rev a b p, dot_rev a b p, dot_rev a b a, dot_zero]
  omega
theorem meet_comm (s t : Seg) : meet s t = meet t s := by
  rw [Bool.eq_iff_iff, meet_iff, meet_iff]
  constructor
  · rintro (⟨a, b⟩ | a | a | a | a)
    · exact .inl ⟨b, a⟩
    · exact .inr (.inr (.inr (.inl a)))
    · exact .inr (.inr (.inr (.inr a)))
    · exact .inr (.inl a)
    · exact .inr (.inr (.inl a))
  · rintro (⟨a, b⟩ | a | a | a | a)
    · exact .inl ⟨b, a⟩
    · exact .inr (.inr (.inr (.inl a)))
    · exact .inr (.inr (.inr (.inr a)))
    · exact .inr (.inl a)
    · exact .inr (.inr (.inl a))

/-! ### what a loop is for another one that meets none of its edges -/
theorem meet_of_both {e f : Seg} (he : nd e) (hf : nd f) {p : Pt} (h1 : has e p = true) (h2 : has f p = true) : meet e f = true := by
  obtain ⟨u, u0, u1, ux, uy⟩ := at_of_has e p he h1
  obtain ⟨v, v0, v1, vx, vy⟩ := at_of_has f p hf h2
  exact meet_of_common e f he hf u0 u1 v0 v1 (by rw [← ux, vx]) (by rw [← uy, vy])

def ndl (l : List Pt) : Prop := ∀ e ∈ edges l, nd e
theorem ndl_of_ok {l : List Pt} (h : loopOk l = true) : ndl l := fun e he => nd_of_ok (((loopOk_iff l).1 h).2.2.1 e he)

theorem has_ends (s : Seg) : has s s.1 = true ∧ has s s.2 = true := by
  rw [has_iff, has_iff]
  have := dot_self_nn s.1 s.2
  exact ⟨⟨(cross_self _ _).1, by rw [dot_zero]; exact Int.le_refl _, by rw [dot_zero]; exact this⟩, ⟨(cross_self _ _).2, this, Int.le_refl _⟩⟩

section
variable {l h : List Pt} (hl : ndl l) (hh : ndl h) (ap : apartB l h = true)
include hl hh ap
theorem par_edge {f : Seg} (hf : f ∈ edges h) {u : Rat} (u0 : 0 ≤ u) (u1 : u ≤ 1) : par l f.1.1 f.1.2 = par l (px f.1 f.2 u) (py f.1 f.2 u) :=
  par_on l f (hh f hf) hl (fun e he => (apartB_iff l h).1 ap e he f hf) u0 u1
theorem par_ends {f : Seg} (hf : f ∈ edges h) : par l f.1.1 f.1.2 = par l f.2.1 f.2.2 := by
  have := par_edge hl hh ap hf (u := 1) (by decide) (by decide)
  rw [this]
  congr 1
  · unfold px; grind
  · unfold py; grind
theorem par_vertex : ∀ i, i < h.length → par l (h.getD i (0, 0)).1 (h.getD i (0, 0)).2 = par l (h.getD 0 (0, 0)).1 (h.getD 0 (0, 0)).2 := by
  intro i
  induction i with
  | zero => intro _; rfl
  | succ i ih =>
    intro hi
    have := par_ends hl hh ap (f := ed h i) (mem_edges.2 ⟨i, by omega, rfl⟩)
    have e1 : (ed h i).1 = h.getD i (0, 0) := rfl
    have e2 : (ed h i).2 = h.getD (i + 1) (0, 0) := by unfold ed; simp only; rw [Nat.mod_eq_of_lt hi]
    rw [e1, e2] at this
    rw [← this]
    exact ih (by omega)
theorem par_fst {f : Seg} (hf : f ∈ edges h) : par l f.1.1 f.1.2 = par l (h.getD 0 (0, 0)).1 (h.getD 0 (0, 0)).2 := by
  obtain ⟨i, hi, rfl⟩ := mem_edges.1 hf
  exact par_vertex hl hh ap i hi
/-- a point on an edge of the one loop is on the same side of the other one as that's first point, and on none of its edges -/
theorem on_side {p : Pt} (hp : onB h p = true) : onB l p = false ∧ par l p.1 p.2 = par l (h.getD 0 (0, 0)).1 (h.getD 0 (0, 0)).2 := by
  obtain ⟨f, hf, hfp⟩ := (onB_iff h p).1 hp
  constructor
  · rw [onB_false]
    intro e he
    cases k : has e p with
    | false => rfl
    | true =>
      have := meet_of_both (hl e he) (hh f hf) k hfp
      rw [(apartB_iff l h).1 ap e he f hf] at this; cases this
  · obtain ⟨u, u0, u1, ux, uy⟩ := at_of_has f p (hh f hf) hfp
    rw [ux, uy, ← par_edge hl hh ap hf u0 u1, par_fst hl hh ap hf]
end
theorem first_on {h : List Pt} (hn : 0 < h.length) : onB h (h.getD 0 (0, 0)) = true := by
  rw [onB_iff]
  exact ⟨ed h 0, mem_edges.2 ⟨0, hn, rfl⟩, (has_ends _).1⟩
theorem inOf_vals (l : List Pt) (p : Pt) : inOf l p = 0 ∨ inOf l p = 1 ∨ inOf l p = -1 := by
  unfold inOf; split
  · exact .inl rfl
  · split
    · exact .inr (.inl rfl)
    · exact .inr (.inr rfl)
theorem inOf_zero (l : List Pt) (p : Pt) : inOf l p = 0 ↔ onB l p = true := by
  unfold inOf; split
  · simp [*]
  · split <;> simp [*]
theorem on_inOf {l h : List Pt} (hl : ndl l) (hh : ndl h) (ap : apartB l h = true) (hn : 0 < h.length) {p : Pt} (hp : onB h p = true) : inOf l p = inOf l (h.getD 0 (0, 0)) := by
  obtain ⟨a1, a2⟩ := on_side hl hh ap hp
  obtain ⟨b1, _⟩ := on_side hl hh ap (first_on hn)
  unfold inOf; rw [a1, b1, a2]
theorem apartB_comm (a b : List Pt) : apartB a b = apartB b a := by
  rw [Bool.eq_iff_iff, apartB_iff, apartB_iff]
  constructor
  · intro h e he f hf; rw [meet_comm]; exact h f hf e he
  · intro h e he f hf; rw [meet_comm]; exact h f hf e he

structure PlateGood (P : Plate) : Prop where
  outer : loopOk P.1 = true
  few : P.2.length ≤ 2
  holes : ∀ h ∈ P.2, loopOk h = true
  away : ∀ h ∈ P.2, apartB P.1 h = true
  inside : ∀ h ∈ P.2, inOf P.1 (h.getD 0 (0, 0)) = 1
  two : ∀ a b, P.2 = [a, b] → apartB a b = true ∧ inOf b (a.getD 0 (0, 0)) = -1 ∧ inOf a (b.getD 0 (0, 0)) = -1
theorem plateOk_iff (P : Plate) : plateOk P = true ↔ PlateGood P := by
  unfold plateOk nested
  obtain ⟨o, hs⟩ := P
  simp only [Bool.and_eq_true, decide_eq_true_eq, List.all_eq_true, beq_iff_eq]
  constructor
  · rintro ⟨⟨h1, h2⟩, h3, h4, h5, h6⟩
    refine ⟨h2, h1, h3, h4, h5, ?_⟩
    intro a b e
    simp only at e; subst e
    simp only [Bool.and_eq_true, beq_iff_eq] at h6
    exact h6
  · intro g
    refine ⟨⟨g.few, g.outer⟩, g.holes, g.away, g.inside, ?_⟩
    have hf := g.few
    match hs, g, hf with
    | [], _, _ => rfl
    | [a], _, _ => rfl
    | [a, b], g, _ =>
      obtain ⟨x, y, z⟩ := g.two a b rfl
      simp only [x, y, z]; rfl
    | a :: b :: c :: r, _, hf => simp at hf
theorem loop_pos {l : List Pt} (h : loopOk l = true) : 0 < l.length := by have := ((loopOk_iff l).1 h).1; omega
/-- on the edge of a hole: in the outer loop, beyond the other hole -/
theorem PlateGood.on_hole {P : Plate} (g : PlateGood P) {h : List Pt} (hh : h ∈ P.2) {p : Pt} (hp : onB h p = true) : inOf P.1 p = 1 := by
  rw [on_inOf (ndl_of_ok g.outer) (ndl_of_ok (g.holes h hh)) (g.away h hh) (loop_pos (g.holes h hh)) hp]
  exact g.inside h hh
theorem PlateGood.on_other {P : Plate} (g : PlateGood P) {a b : List Pt} (e : P.2 = [a, b]) {p : Pt} : (onB a p = true → inOf b p = -1) ∧ (onB b p = true → inOf a p = -1) := by
  obtain ⟨x, y, z⟩ := g.two a b e
  have ha := g.holes a (by rw [e]; simp)
  have hb := g.holes b (by rw [e]; simp)
  constructor
  · intro hp
    rw [on_inOf (ndl_of_ok hb) (ndl_of_ok ha) (by rw [apartB_comm]; exact x) (loop_pos ha) hp]; exact y
  · intro hp
    rw [on_inOf (ndl_of_ok ha) (ndl_of_ok hb) x (loop_pos hb) hp]; exact z

/-! #### one step -/
theorem far_of_at (s : Seg) (p : Pt) (hs : nd s) {u : Rat} (u0 : 0 ≤ u) (u1 : u ≤ 1) : val (far s p) ≤ dsq s.1 s.2 u p.1 p.2 := far_le s p hs u u0 u1
/-- who is farther than one step from an edge meets none on a step -/
theorem step_noC (e : Seg) (p q : Pt) (he : nd e) (hd : (q.1 - p.1) * (q.1 - p.1) + (q.2 - p.2) * (q.2 - p.2) = 1) (h : 1 < val (far e p)) : NoCE e p.1 p.2 q.1 q.2 := by
  intro u v u0 u1 v0 v1 hx hy
  have h1 := far_le e p he u u0 u1
  have e1 : dsq e.1 e.2 u p.1 p.2 = (v * (q.1 - p.1)) * (v * (q.1 - p.1)) + (v * (q.2 - p.2)) * (v * (q.2 - p.2)) := by
    unfold dsq; rw [hx, hy]; grind
  have e2 : ((q.1 : Rat) - p.1) * (q.1 - p.1) + (q.2 - p.2) * (q.2 - p.2) = 1 := by exact_mod_cast hd
  have e3 : dsq e.1 e.2 u p.1 p.2 = v * v := by
    rw [e1]
    have : (v * ((q.1 : Rat) - p.1)) * (v * (q.1 - p.1)) + (v * (q.2 - p.2)) * (v * (q.2 - p.2)) = v * v * (((q.1 : Rat) - p.1) * (q.1 - p.1) + (q.2 - p.2) * (q.2 - p.2)) := by grind
    rw [this, e2]; grind
  have e4 : v * v ≤ 1 := by
    have := Rat.mul_nonneg (a := 1 - v) (b := 1 + v) (by grind) (by grind)
    grind
  grind
theorem has_noC {e : Seg} {p q : Pt} (he : nd e) (h : NoCE e p.1 p.2 q.1 q.2) : has e p = false ∧ has e q = false := by
  constructor
  · cases k : has e p with
    | false => rfl
    | true =>
      obtain ⟨u, u0, u1, ux, uy⟩ := at_of_has e p he k
      unfold px at ux; unfold py at uy
      exact (h u 0 u0 u1 (by decide) (by decide) (by rw [← ux]; grind) (by rw [← uy]; grind)).elim
  · cases k : has e q with
    | false => rfl
    | true =>
      obtain ⟨u, u0, u1, ux, uy⟩ := at_of_has e q he k
      unfold px at ux; unfold py at uy
      exact (h u 1 u0 u1 (by decide) (by decide) (by rw [← ux]; grind) (by rw [← uy]; grind)).elim
theorem inOf_step {l : List Pt} (hl : ndl l) {p q : Pt} (h : ∀ e ∈ edges l, NoCE e p.1 p.2 q.1 q.2) : inOf l p = inOf l q ∧ inOf l p ≠ 0 := by
  have o1 : onB l p = false := (onB_false l p).2 fun e he => (has_noC (hl e he) (h e he)).1
  have o2 : onB l q = false := (onB_false l q).2 fun e he => (has_noC (hl e he) (h e he)).2
  constructor
  · unfold inOf; rw [o1, o2, par_way l h]
  · rw [Ne, inOf_zero, o1]; decide

/-! ### what the laws of fractions and segments say -/
theorem fracOk_whole {n : Int} (h0 : 0 ≤ n) (h1 : n ≤ 99999) : fracOk (n, 1) = true := by
  rw [fracOk_iff]; refine ⟨⟨h0, h1, ?_, ?_⟩, ?_⟩
  · show (1 : Int) ≤ 1; decide
  · show (1 : Int) ≤ 99999; decide
  · exact Int.gcd_one_right ..
theorem val_whole (n : Int) : val (n, 1) = n := by unfold val; simp only [Rat.intCast_one, div_one']
theorem sq_whole {p q : Pt} (hp : ptOk p = true) (hq : ptOk q = true) : fracOk (dot p q q, 1) = true :=
  fracOk_whole (dot_self_nn p q) (by have := (dot_bound hp hq hq).2; omega)
theorem fracOk_den {f : Frac} (h : fracOk f = true) : 1 ≤ f.2 := ((fracOk_iff f).1 h).1.2.2.1
theorem cmp_le {a b : Frac} (ha : fracOk a = true) (hb : fracOk b = true) : fracCmp a b ≤ 0 ↔ val a ≤ val b := by
  rw [fracCmp_ok ha hb]; exact cmp0_le (fracOk_den ha) (fracOk_den hb)
theorem cmp_ge {a b : Frac} (ha : fracOk a = true) (hb : fracOk b = true) : 0 ≤ fracCmp a b ↔ val b ≤ val a := by
  rw [fracCmp_ok ha hb]; exact cmp0_ge (fracOk_den ha) (fracOk_den hb)
theorem cmp_zero {a b : Frac} (ha : fracOk a = true) (hb : fracOk b = true) : fracCmp a b = 0 ↔ a = b := by
  rw [fracCmp_ok ha hb, cmp0_zero (fracOk_den ha) (fracOk_den hb)]
  exact ⟨frac_eq ha hb, fun h => by rw [h]⟩
theorem cmp_lt {a b : Frac} (ha : fracOk a = true) (hb : fracOk b = true) : fracCmp a b < 0 ↔ val a < val b := by
  rw [fracCmp_ok ha hb]; exact cmp0_neg (fracOk_den ha) (fracOk_den hb)
theorem cmp0_anti (a b : Frac) : cmp0 b a = - cmp0 a b := by unfold cmp0; split <;> split <;> (try split) <;> (try split) <;> omega
theorem cmp_anti (a b : Frac) (h : fracCmp a b ≠ 2) : fracCmp b a = - fracCmp a b := by
  unfold fracCmp at *
  by_cases ha : fracOk a = true
  · by_cases hb : fracOk b = true
    · rw [ha, hb]; exact cmp0_anti a b
    · simp [hb] at h
  · simp [ha] at h
theorem cmp_vals {a b : Frac} (ha : fracOk a = true) (hb : fracOk b = true) : fracCmp a b = -1 ∨ fracCmp a b = 0 ∨ fracCmp a b = 1 := by
  rw [fracCmp_ok ha hb]; unfold cmp0; split
  · simp
  · split <;> simp
theorem cmp_ok_of {a b : Frac} (h : fracCmp a b ≠ 2) : fracOk a = true ∧ fracOk b = true := by
  unfold fracCmp at h
  by_cases ha : fracOk a = true
  · by_cases hb : fracOk b = true
    · exact ⟨ha, hb⟩
    · simp [hb] at h
  · simp [ha] at h

theorem dsq_ends (a b : Pt) (p : Pt) : dsq a b 0 p.1 p.2 = (dot a p p : Int) ∧ dsq a b 1 p.1 p.2 = (dot b p p : Int) := by
  constructor
  · rw [cast_dot]; unfold dsq; grind
  · rw [cast_dot]; unfold dsq; grind
theorem far_ends {s : Seg} {p : Pt} (hs : segOk s = true) (hp : ptOk p = true) :
    fracCmp (segFar s p) (dot s.1 p p, 1) ≤ 0 ∧ fracCmp (segFar s p) (dot s.2 p p, 1) ≤ 0 := by
  obtain ⟨h1, h2⟩ := segFar_ok hs hp
  have hs' := (segOk_iff s).1 hs
  rw [cmp_le h1 (sq_whole hs'.1 hp), cmp_le h1 (sq_whole hs'.2.1 hp), h2, val_whole, val_whole]
  have e := dsq_ends s.1 s.2 p
  rw [← e.1, ← e.2]
  exact ⟨far_le s p (nd_of_ok hs) 0 (by decide) (by decide), far_le s p (nd_of_ok hs) 1 (by decide) (by decide)⟩
def back (s : Seg) : Seg := (s.2, s.1)
theorem back_ok {s : Seg} (hs : segOk s = true) : segOk (back s) = true := by
  rw [segOk_iff] at *
  exact ⟨hs.2.1, hs.1, fun h => hs.2.2 ⟨h.1.symm, h.2.symm⟩⟩
theorem far_rev {s : Seg} {p : Pt} (hs : nd s) : val (far (back s) p) = val (far s p) := by
  have hb : nd (back s) := by unfold nd back at *; unfold dot at *; grind
  have k : ∀ t : Rat, dsq (back s).1 (back s).2 t p.1 p.2 = dsq s.1 s.2 (1 - t) p.1 p.2 := by intro t; unfold dsq back; grind
  apply Rat.le_antisymm
  · obtain ⟨t, t0, t1, e⟩ := far_at s p hs
    rw [e]
    have := far_le (back s) p hb (1 - t) (by grind) (by grind)
    rw [k] at this
    have e2 : (1 - (1 - t)) = t := by grind
    rw [e2] at this; exact this
  · obtain ⟨t, t0, t1, e⟩ := far_at (back s) p hb
    rw [e, k]
    exact far_le s p hs (1 - t) (by grind) (by grind)
theorem segFar_back {s : Seg} {p : Pt} (hs : segOk s = true) (hp : ptOk p = true) : segFar (back s) p = segFar s p := by
  obtain ⟨h1, h2⟩ := segFar_ok hs hp
  obtain ⟨h3, h4⟩ := segFar_ok (back_ok hs) hp
  exact frac_eq h3 h1 (by rw [h4, h2]; exact far_rev (nd_of_ok hs))
/-- a segment that goes on as far again -/
theorem far_longer {s : Seg} {p : Pt} (hs : segOk s = true) (hp : ptOk p = true) (ho : segOk (s.1, (2 * s.2.1 - s.1.1, 2 * s.2.2 - s.1.2)) = true) :
    fracCmp (segFar (s.1, (2 * s.2.1 - s.1.1, 2 * s.2.2 - s.1.2)) p) (segFar s p) ≤ 0 ∧ segHas (s.1, (2 * s.2.1 - s.1.1, 2 * s.2.2 - s.1.2)) s.2 = true := by
  obtain ⟨h1, h2⟩ := segFar_ok hs hp
  obtain ⟨h3, h4⟩ := segFar_ok ho hp
  have hs' := (segOk_iff s).1 hs
  constructor
  · rw [cmp_le h3 h1, h4, h2]
    obtain ⟨t, t0, t1, e⟩ := far_at s p (nd_of_ok hs)
    rw [e]
    have := far_le (s.1, (2 * s.2.1 - s.1.1, 2 * s.2.2 - s.1.2)) p (nd_of_ok ho) (t / 2) (by grind) (by grind)
    have k : dsq s.1 (2 * s.2.1 - s.1.1, 2 * s.2.2 - s.1.2) (t / 2) p.1 p.2 = dsq s.1 s.2 t p.1 p.2 := by
      unfold dsq; push_cast; grind
    simp only at this
    rw [k] at this; exact this
  · unfold segHas
    rw [ho, hs'.2.1]
    simp only [Bool.true_and]
    refine has_of_at s.1 (2 * s.2.1 - s.1.1, 2 * s.2.2 - s.1.2) s.2 (1 / 2) (by grind) (by grind) ?_ ?_
    · unfold px; push_cast; grind
    · unfold py; push_cast; grind
theorem segHas_iff (s : Seg) (p : Pt) : segHas s p = true ↔ segOk s = true ∧ ptOk p = true ∧ has s p = true := by unfold segHas; simp
theorem segMeet_iff (s t : Seg) : segMeet s t = true ↔ segOk s = true ∧ segOk t = true ∧ meet s t = true := by unfold segMeet; simp
theorem far_all {s : Seg} {p q : Pt} (hs : segOk s = true) (hp : ptOk p = true) (hq : segHas s q = true) : fracCmp (segFar s p) (dot p q q, 1) ≤ 0 := by
  obtain ⟨h1, h2⟩ := segFar_ok hs hp
  obtain ⟨_, hq1, hq2⟩ := (segHas_iff s q).1 hq
  rw [cmp_le h1 (sq_whole hp hq1), h2, val_whole]
  obtain ⟨u, u0, u1, ux, uy⟩ := at_of_has s q (nd_of_ok hs) hq2
  have := far_le s p (nd_of_ok hs) u u0 u1
  have k : dsq s.1 s.2 u p.1 p.2 = (dot p q q : Int) := by
    rw [cast_dot, ux, uy]; unfold dsq px py; grind
  rw [k] at this; exact this
/-- far is nothing just on the segment -/
theorem far_zero {s : Seg} {p : Pt} (hs : nd s) : val (far s p) = 0 ↔ has s p = true := by
  constructor
  · intro h
    obtain ⟨t, t0, t1, e⟩ := far_at s p hs
    rw [h] at e
    have k1 := sq_nn ((p.1 : Rat) - (s.1.1 + t * (s.2.1 - s.1.1)))
    have k2 := sq_nn ((p.2 : Rat) - (s.1.2 + t * (s.2.2 - s.1.2)))
    unfold dsq at e
    have e1 : ((p.1 : Rat) - (s.1.1 + t * (s.2.1 - s.1.1))) * ((p.1 : Rat) - (s.1.1 + t * (s.2.1 - s.1.1))) = 0 := by
      generalize ((p.1 : Rat) - (s.1.1 + t * (s.2.1 - s.1.1))) * ((p.1 : Rat) - (s.1.1 + t * (s.2.1 - s.1.1))) = a at *
      generalize ((p.2 : Rat) - (s.1.2 + t * (s.2.2 - s.1.2))) * ((p.2 : Rat) - (s.1.2 + t * (s.2.2 - s.1.2))) = b at *
      grind
    have e2 : ((p.2 : Rat) - (s.1.2 + t * (s.2.2 - s.1.2))) * ((p.2 : Rat) - (s.1.2 + t * (s.2.2 - s.1.2))) = 0 := by
      generalize ((p.1 : Rat) - (s.1.1 + t * (s.2.1 - s.1.1))) * ((p.1 : Rat) - (s.1.1 + t * (s.2.1 - s.1.1))) = a at *
      generalize ((p.2 : Rat) - (s.1.2 + t * (s.2.2 - s.1.2))) * ((p.2 : Rat) - (s.1.2 + t * (s.2.2 - s.1.2))) = b at *
      grind
    refine has_of_at s.1 s.2 p t t0 t1 ?_ ?_
    · unfold px; rcases Rat.mul_eq_zero.1 e1 with k | k <;> grind
    · unfold py; rcases Rat.mul_eq_zero.1 e2 with k | k <;> grind
  · intro h
    obtain ⟨u, u0, u1, ux, uy⟩ := at_of_has s p hs h
    obtain ⟨t, t0, t1, e⟩ := far_at s p hs
    have := far_le s p hs u u0 u1
    have k : dsq s.1 s.2 u p.1 p.2 = 0 := by rw [ux, uy]; unfold dsq px py; grind
    rw [k] at this
    have k1 := sq_nn ((p.1 : Rat) - (s.1.1 + t * (s.2.1 - s.1.1)))
    have k2 := sq_nn ((p.2 : Rat) - (s.1.2 + t * (s.2.2 - s.1.2)))
    apply Rat.le_antisymm this
    rw [e]; unfold dsq
    generalize ((p.1 : Rat) - (s.1.1 + t * (s.2.1 - s.1.1))) * ((p.1 : Rat) - (s.1.1 + t * (s.2.1 - s.1.1))) = a at *
    generalize ((p.2 : Rat) - (s.1.2 + t * (s.2.2 - s.1.2))) * ((p.2 : Rat) - (s.1.2 + t * (s.2.2 - s.1.2))) = b at *
    grind
theorem val_zero {f : Frac} (h : fracOk f = true) : f = (0, 1) ↔ val f = 0 := by
  have h01 : fracOk (0, 1) = true := by decide
  constructor
  · intro e; rw [e]; exact val_whole 0
  · intro e; exact frac_eq h h01 (by rw [e]; exact (val_whole 0).symm)
theorem val_nn {f : Frac} (h : fracOk f = true) : 0 ≤ val f := by
  have hk := (fracOk_iff f).1 h
  have p1 : (0 : Rat) < (f.2 : Int) := by exact_mod_cast hk.1.2.2.1
  apply rat_le_of_mul p1
  unfold val
  rw [div_mul_self p1]
  have : (0 : Rat) ≤ (f.1 : Int) := by exact_mod_cast hk.1.1
  grind

/-! #### how far apart -/
theorem apart_facts {s t : Seg} (hs : segOk s = true) (ht : segOk t = true) :
    fracOk (segApart s t) = true ∧ (val (segApart s t) ≤ val (segFar s t.1) ∧ val (segApart s t) ≤ val (segFar s t.2) ∧ val (segApart s t) ≤ val (segFar t s.1) ∧ val (segApart s t) ≤ val (segFar t s.2)) ∧
    (meet s t = true ∧ segApart s t = (0, 1) ∨ meet s t = false ∧ (segApart s t = segFar s t.1 ∨ segApart s t = segFar s t.2 ∨ segApart s t = segFar t s.1 ∨ segApart s t = segFar t s.2)) := by
  have hs' := (segOk_iff s).1 hs
  have ht' := (segOk_iff t).1 ht
  have f1 := (segFar_ok hs ht'.1).1
  have f2 := (segFar_ok hs ht'.2.1).1
  have f3 := (segFar_ok ht hs'.1).1
  have f4 := (segFar_ok ht hs'.2.1).1
  cases hm : meet s t with
  | true =>
    have e : segApart s t = (0, 1) := by unfold segApart; rw [hs, ht, hm]; rfl
    rw [e]
    have v0 : val ((0, 1) : Frac) = 0 := val_whole 0
    rw [v0]
    exact ⟨by decide, ⟨val_nn f1, val_nn f2, val_nn f3, val_nn f4⟩, .inl ⟨rfl, rfl⟩⟩
  | false =>
    have e : segApart s t = least (least (segFar s t.1) (segFar s t.2)) (least (segFar t s.1) (segFar t s.2)) := by
      unfold segApart segFar; rw [hs, ht, hm, hs'.1, hs'.2.1, ht'.1, ht'.2.1]; rfl
    rw [e]
    have o1 := least_ok f1 f2
    have o2 := least_ok f3 f4
    obtain ⟨⟨a1, a2⟩, a3⟩ := val_least f1 f2
    obtain ⟨⟨b1, b2⟩, b3⟩ := val_least f3 f4
    obtain ⟨⟨c1, c2⟩, c3⟩ := val_least o1 o2
    refine ⟨least_ok o1 o2, ⟨Rat.le_trans c1 a1, Rat.le_trans c1 a2, Rat.le_trans c2 b1, Rat.le_trans c2 b2⟩, .inr ⟨rfl, ?_⟩⟩
    rcases c3 with c | c <;> rw [c]
    · rcases a3 with a | a <;> rw [a] <;> simp
    · rcases b3 with a | a <;> rw [a] <;> simp
/-- SegApart is told by these alone -/
theorem apart_unique {s t : Seg} (hs : segOk s = true) (ht : segOk t = true) {f : Frac} (hf : fracOk f = true) (hm : meet s t = false)
    (hle : val f ≤ val (segFar s t.1) ∧ val f ≤ val (segFar s t.2) ∧ val f ≤ val (segFar t s.1) ∧ val f ≤ val (segFar t s.2))
    (he : f = segFar s t.1 ∨ f = segFar s t.2 ∨ f = segFar t s.1 ∨ f = segFar t s.2) : f = segApart s t := by
  obtain ⟨h1, ⟨k1, k2, k3, k4⟩, h3⟩ := apart_facts hs ht
  rw [hm] at h3
  have h3 := h3.resolve_left (by simp)
  obtain ⟨l1, l2, l3, l4⟩ := hle
  apply frac_eq hf h1
  apply Rat.le_antisymm
  · rcases h3.2 with e | e | e | e <;> rw [e] <;> assumption
  · rcases he with e | e | e | e <;> rw [e] <;> assumption
theorem apart_comm {s t : Seg} (hs : segOk s = true) (ht : segOk t = true) : segApart t s = segApart s t := by
  cases hm : meet s t with
  | true => unfold segApart; rw [hs, ht, meet_comm t s, hm]; rfl
  | false =>
    obtain ⟨h1, ⟨k1, k2, k3, k4⟩, h3⟩ := apart_facts ht hs
    rw [meet_comm t s, hm] at h3
    have h3 := h3.resolve_left (by simp)
    exact apart_unique hs ht h1 hm ⟨k3, k4, k1, k2⟩ (by rcases h3.2 with e | e | e | e <;> rw [e] <;> simp)
theorem apart_zero {s t : Seg} (hs : segOk s = true) (ht : segOk t = true) : segApart s t = (0, 1) ↔ meet s t = true := by
  have hs' := (segOk_iff s).1 hs
  have ht' := (segOk_iff t).1 ht
  obtain ⟨h1, _, h3⟩ := apart_facts hs ht
  constructor
  · intro e
    rcases h3 with h3 | ⟨_, h3⟩
    · exact h3.1
    · rw [e] at h3
      rw [meet_iff]
      right
      rcases h3 with h3 | h3 | h3 | h3
      · left; have := segFar_ok hs ht'.1; rw [← far_zero (nd_of_ok hs), ← this.2, ← h3]; exact val_whole 0
      · right; left; have := segFar_ok hs ht'.2.1; rw [← far_zero (nd_of_ok hs), ← this.2, ← h3]; exact val_whole 0
      · right; right; left; have := segFar_ok ht hs'.1; rw [← far_zero (nd_of_ok ht), ← this.2, ← h3]; exact val_whole 0
      · right; right; right; have := segFar_ok ht hs'.2.1; rw [← far_zero (nd_of_ok ht), ← this.2, ← h3]; exact val_whole 0
  · intro e
    rcases h3 with h3 | h3
    · exact h3.2
    · rw [e] at h3; simp at h3
theorem apart_motion {f : Pt → Pt} {k : Int} (h : Motion f k) {s t : Seg} (hs : segOk s = true) (ht : segOk t = true) (hs2 : segOk (segMap f s) = true) (ht2 : segOk (segMap f t) = true) :
    segApart (segMap f s) (segMap f t) = segApart s t := by
  unfold segApart
  rw [hs, ht, hs2, ht2, h.meet]
  rw [show (segMap f t).1 = f t.1 from rfl, show (segMap f t).2 = f t.2 from rfl, show (segMap f s).1 = f s.1 from rfl, show (segMap f s).2 = f s.2 from rfl]
  rw [h.far, h.far, h.far, h.far]
theorem ptOk_mir {p : Pt} (h : ptOk p = true) : ptOk (mir p) = true := by rw [ptOk_iff] at *; unfold mir; simp only; omega
theorem ptOk_swp {p : Pt} (h : ptOk p = true) : ptOk (swp p) = true := by rw [ptOk_iff] at *; unfold swp; simp only; omega
theorem segOk_motion {f : Pt → Pt} {k : Int} (h : Motion f k) {s : Seg} (hs : segOk s = true) (h1 : ptOk (f s.1) = true) (h2 : ptOk (f s.2) = true) : segOk (segMap f s) = true :=
  (segOk_iff _).2 ⟨h1, h2, h.inj (nd_of_ok hs)⟩
/-- no point of one segment is nearer to the other one than both are apart -/
theorem apart_far {s t : Seg} {q : Pt} (hs : segOk s = true) (ht : segOk t = true) (hq : segHas s q = true) : fracCmp (segApart s t) (segFar t q) ≤ 0 := by
  have hs' := (segOk_iff s).1 hs
  have ht' := (segOk_iff t).1 ht
  obtain ⟨_, hq1, hq2⟩ := (segHas_iff s q).1 hq
  obtain ⟨h1, ⟨k1, k2, k3, k4⟩, h3⟩ := apart_facts hs ht
  obtain ⟨h4, h5⟩ := segFar_ok ht hq1
  rw [cmp_le h1 h4]
  rcases h3 with ⟨_, e⟩ | ⟨hm, _⟩
  · rw [e, val_whole]; exact val_nn h4
  · obtain ⟨u, u0, u1, ux, uy⟩ := at_of_has s q (nd_of_ok hs) hq2
    obtain ⟨v, v0, v1, e⟩ := far_at t q (nd_of_ok ht)
    have := apart_ends s t (nd_of_ok hs) (nd_of_ok ht) hm u0 u1 v0 v1
    have k : dd s t u v = dsq t.1 t.2 v q.1 q.2 := by unfold dd dsq; rw [← ux, ← uy]; unfold px py; grind
    rw [k, ← e, ← h5] at this
    unfold nearEnds at this
    rw [← (segFar_ok hs ht'.1).2, ← (segFar_ok hs ht'.2.1).2, ← (segFar_ok ht hs'.1).2, ← (segFar_ok ht hs'.2.1).2] at this
    rcases this with h | h | h | h
    · exact Rat.le_trans k1 h
    · exact Rat.le_trans k2 h
    · exact Rat.le_trans k3 h
    · exact Rat.le_trans k4 h
end Mort
