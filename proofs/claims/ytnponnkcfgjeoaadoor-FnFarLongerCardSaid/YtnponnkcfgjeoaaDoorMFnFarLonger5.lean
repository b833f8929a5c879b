/- FnFarLonger: the law returns true for every input, and each input reads behind the call as before; part 5 of 5. No condition. Merged by program out of: EvSeg, HSeg, FLawsFnFarLonger, EvDraw, PureFnFarLonger, WSized, LawFnFarLonger. -/
import Derived.Test.YtnponnkcfgjeoaaDoorMFnFarLonger4
import Derived.RegionTactic
import Derived.ChangeAlike
import Derived.OwnWalk
import Derived.Outline
import Derived.Deep.RegionHeld3
import Derived.WalkLawsBesides
import Derived.SizedLaws
import Derived.ChangeSlices
import Derived.WalkKit
import Derived.ProofKit
import Derived.OpenShut
import Derived.ShutString
import Derived.ChangeOld
import Derived.Below
import Derived.SevenTiedAt
section
set_option linter.unusedVariables false
set_option linter.unusedSimpArgs false
namespace Go.Proofs.YtnponnkcfgjeoaaDoor.X
open Go.RowKit Go.Proofs.YtnponnkcfgjeoaaDoorW.PrintWords Go.Proofs.YtnponnkcfgjeoaaDoorW.PrintLast Go.Proofs.YtnponnkcfgjeoaaDoorW.PrintMore
open Mort
theorem iPtOk (x y : Int) : impl_PtOk.f x y = some (ptOk (x, y)) := by
  unfold impl_PtOk.f ptOk
  by_cases h1 : 0 ≤ x <;> by_cases h2 : x ≤ 9 <;> by_cases h3 : 0 ≤ y <;> by_cases h4 : y ≤ 9 <;> simp [h1, h2, h3, h4]
theorem sPtOk (x y : Int) : spec_PtOk.f x y = some (ptOk (x, y)) := by
  unfold spec_PtOk.f ptOk
  simp only [l6In_told, Option.bind_some]
  by_cases h1 : 0 ≤ x <;> by_cases h2 : x ≤ 9 <;> by_cases h3 : 0 ≤ y <;> by_cases h4 : y ≤ 9 <;> simp [h1, h2, h3, h4]
theorem iSegOk (a b c d : Int) : impl_SegOk.f a b c d = some (segOk ((a, b), (c, d))) := by
  unfold impl_SegOk.f segOk
  simp only [iPtOk, Option.bind_some]
  cases ptOk (a, b) <;> cases ptOk (c, d) <;> simp [Bool.not_and]
theorem sSegOk (a b c d : Int) : spec_SegOk.f a b c d = some (segOk ((a, b), (c, d))) := by
  unfold spec_SegOk.f segOk
  simp only [sPtOk, Option.bind_some]
  cases ptOk (a, b) <;> cases ptOk (c, d) <;> simp [Bool.not_and]
section
variable {a b c d e f : Int} (h1 : ptOk (a, b) = true) (h2 : ptOk (c, d) = true) (h3 : ptOk (e, f) = true)
include h1 h2 h3
theorem cross_nowrap : wrap64 ((wrap64 ((wrap64 (c - a)) * (wrap64 (f - b)))) - (wrap64 ((wrap64 (d - b)) * (wrap64 (e - a))))) = cross (a, b) (c, d) (e, f) := by
  rw [ptOk_iff] at h1 h2 h3
  simp only at h1 h2 h3
  rw [w64 (x := c - a) (by omega) (by omega), w64 (x := f - b) (by omega) (by omega), w64 (x := d - b) (by omega) (by omega), w64 (x := e - a) (by omega) (by omega)]
  have b1 := mul_bound (x := c - a) (y := f - b) (by omega) (by omega) (by omega) (by omega)
  have b2 := mul_bound (x := d - b) (y := e - a) (by omega) (by omega) (by omega) (by omega)
  rw [w64 (x := (c - a) * (f - b)) (by omega) (by omega), w64 (x := (d - b) * (e - a)) (by omega) (by omega), w64 (by omega) (by omega)]
  rfl
theorem dot_nowrap : wrap64 ((wrap64 ((wrap64 (c - a)) * (wrap64 (e - a)))) + (wrap64 ((wrap64 (d - b)) * (wrap64 (f - b))))) = dot (a, b) (c, d) (e, f) := by
  rw [ptOk_iff] at h1 h2 h3
  simp only at h1 h2 h3
  rw [w64 (x := c - a) (by omega) (by omega), w64 (x := f - b) (by omega) (by omega), w64 (x := d - b) (by omega) (by omega), w64 (x := e - a) (by omega) (by omega)]
  have b1 := mul_bound (x := c - a) (y := e - a) (by omega) (by omega) (by omega) (by omega)
  have b2 := mul_bound (x := d - b) (y := f - b) (by omega) (by omega) (by omega) (by omega)
  rw [w64 (x := (c - a) * (e - a)) (by omega) (by omega), w64 (x := (d - b) * (f - b)) (by omega) (by omega), w64 (by omega) (by omega)]
  rfl
theorem iCross : impl_cross.f a b c d e f = some (cross (a, b) (c, d) (e, f)) := congrArg some (cross_nowrap h1 h2 h3)
theorem iAlong : impl_along.f a b c d e f = some (dot (a, b) (c, d) (e, f)) := congrArg some (dot_nowrap h1 h2 h3)
theorem sCross : spec_l2Cross.f a b c d e f = some (cross (a, b) (c, d) (e, f)) := congrArg some (cross_nowrap h1 h2 h3)
theorem sDot : spec_l2Dot.f a b c d e f = some (dot (a, b) (c, d) (e, f)) := congrArg some (dot_nowrap h1 h2 h3)
end
theorem iBetween {a b c d : Int} (h1 : ptOk (a, b) = true) (h2 : ptOk (c, d) = true) : impl_between.f a b c d = some (dot (a, b) (c, d) (c, d)) := by
  unfold impl_between.f
  rw [iAlong h1 h2 h2]; rfl
theorem segOk_ends {a b c d : Int} (h : segOk ((a, b), (c, d)) = true) : ptOk (a, b) = true ∧ ptOk (c, d) = true := ⟨((segOk_iff _).1 h).1, ((segOk_iff _).1 h).2.1⟩
theorem iSegHas {k : Nat} (hk : 1 ≤ k) (a b c d e f : Int) : impl_SegHas.f k a b c d e f = some (segHas ((a, b), (c, d)) (e, f)) := by
  obtain ⟨k, rfl⟩ : ∃ m, k = m + 1 := ⟨k - 1, by omega⟩
  unfold impl_SegHas.f segHas has
  simp only [impl_SegHas.j0, iSegOk, iPtOk, Option.bind_some]
  cases hs : segOk ((a, b), (c, d)) with
  | false => simp
  | true =>
    cases hp : ptOk (e, f) with
    | false => simp
    | true =>
      obtain ⟨o1, o2⟩ := segOk_ends hs
      simp only [if_true, iCross o1 o2 hp, iAlong o1 o2 hp, iBetween o1 o2, Option.bind_some]
      by_cases z : cross (a, b) (c, d) (e, f) = 0
      · simp only [z, bne_self_eq_false, Bool.false_eq_true, if_false, beq_self_eq_true, Bool.true_and]
        by_cases z1 : 0 ≤ dot (a, b) (c, d) (e, f)
        · rw [if_pos z1, decide_eq_true z1]; rfl
        · rw [if_neg z1, decide_eq_false z1]; rfl
      · rw [bne_iff_ne.mpr z, beq_eq_false_iff_ne.mpr z]; rfl
theorem red_whole {n : Int} (h0 : 0 ≤ n) (h1 : n ≤ 99999) : red (n, 1) = (n, 1) := red_of_ok (fracOk_whole h0 h1)
theorem sL2Far {k : Nat} (hk : 100000 ≤ k) {a b c d e f : Int} (hs : segOk ((a, b), (c, d)) = true) (hp : ptOk (e, f) = true) :
    spec_l2Far.f k a b c d e f = some ((red (far ((a, b), (c, d)) (e, f))).1, (red (far ((a, b), (c, d)) (e, f))).2) := by
  obtain ⟨o1, o2⟩ := segOk_ends hs
  have hin := far_inR hs hp
  unfold spec_l2Far.f far at *
  simp only [sDot o1 o2 hp, sDot o1 o2 o2, sDot o1 hp hp, sDot o2 hp hp, sCross o1 o2 hp, Option.bind_some]
  by_cases z : dot (a, b) (c, d) (e, f) ≤ 0
  · rw [if_pos z, if_pos z, red_whole (dot_self_nn _ _) (by have := (dot_bound o1 hp hp).2; omega)]
  · rw [if_neg z, if_neg z]
    rw [if_neg z] at hin
    by_cases z' : dot (a, b) (c, d) (c, d) ≤ dot (a, b) (c, d) (e, f)
    · rw [if_pos z', if_pos z', red_whole (dot_self_nn _ _) (by have := (dot_bound o2 hp hp).2; omega)]
    · rw [if_neg z', if_neg z']
      rw [if_neg z'] at hin
      have hc := cross_bound o1 o2 hp
      have hq := sq_bound hc.1 hc.2
      have hq' := isq_nn (cross (a, b) (c, d) (e, f))
      rw [w64 (by omega) (by omega), l1Of_told hk hin]
      rfl
theorem sSegFar {k : Nat} (hk : 100000 ≤ k) (a b c d e f : Int) : spec_SegFar.f k a b c d e f = some ((segFar ((a, b), (c, d)) (e, f)).1, (segFar ((a, b), (c, d)) (e, f)).2) := by
  unfold spec_SegFar.f segFar
  simp only [sSegOk, sPtOk, Option.bind_some]
  cases hs : segOk ((a, b), (c, d)) with
  | false => simp
  | true =>
    cases hp : ptOk (e, f) with
    | false => simp
    | true => simp only [if_true, sL2Far hk hs hp, Option.bind_some, Bool.and_self]
theorem iFracOf {k : Nat} (hk : 100000 ≤ k) {n d : Int} (h : inR (n, d)) : impl_FracOf.f k n d = some ((red (n, d)).1, (red (n, d)).2, true) := by
  obtain ⟨a1, a2, a3, a4⟩ := h
  simp only at a1 a2 a3 a4
  have hg := gcd_pos (f := (n, d)) ⟨a1, a2, a3, a4⟩
  unfold impl_FracOf.f
  rw [if_neg (by omega), if_neg (by omega), if_neg (by omega), if_neg (by omega), gcd_told' a1 (by omega) (by omega)]
  simp only [Option.bind_some]
  simp only at hg
  rw [if_neg (by omega)]
  have e1 : Int.tdiv n (Int.gcd n d : Int) = n / (Int.gcd n d : Int) := Int.tdiv_eq_ediv_of_nonneg a1
  have e2 : Int.tdiv d (Int.gcd n d : Int) = d / (Int.gcd n d : Int) := Int.tdiv_eq_ediv_of_nonneg (by omega)
  have r := red_inR (f := (n, d)) ⟨a1, a2, a3, a4⟩
  obtain ⟨r1, r2, r3, r4⟩ := r
  unfold red at r1 r2 r3 r4 ⊢
  simp only at r1 r2 r3 r4 ⊢
  rw [e1, e2, w64 (by omega) (by omega), w64 (by omega) (by omega)]
theorem iFracOf1 {k : Nat} (hk : 100000 ≤ k) {n : Int} (h0 : 0 ≤ n) (h1 : n ≤ 99999) : impl_FracOf.f k n 1 = some (n, 1, true) := by
  rw [iFracOf hk (d := 1) ⟨h0, h1, Int.le_refl 1, by show (1 : Int) ≤ 99999; omega⟩, red_whole h0 h1]
theorem iStandOf {a b c d e f : Int} (hs : segOk ((a, b), (c, d)) = true) (hp : ptOk (e, f) = true) :
    impl_standOf.f a b c d e f = some (if dot (a, b) (c, d) (e, f) ≤ 0 then 0 else if dot (a, b) (c, d) (c, d) ≤ dot (a, b) (c, d) (e, f) then 2 else 1) := by
  obtain ⟨o1, o2⟩ := segOk_ends hs
  unfold impl_standOf.f
  simp only [iAlong o1 o2 hp, iBetween o1 o2, Option.bind_some]
  split
  · rfl
  · simp only [ge_iff_le]; split <;> rfl
end Go.Proofs.YtnponnkcfgjeoaaDoor.X
end
section
set_option linter.unusedVariables false
set_option linter.unusedSimpArgs false
namespace Go.Proofs.YtnponnkcfgjeoaaDoor.X
open Go.RowKit Go.Proofs.YtnponnkcfgjeoaaDoorW.PrintWords Go.Proofs.YtnponnkcfgjeoaaDoorW.PrintLast Go.Proofs.YtnponnkcfgjeoaaDoorW.PrintMore
open Mort
/-- a block of cells, known whole, some steps on -/
theorem blk_on {w w1 : World} {g : Nat} {o : Obj} (hb : Below w.heap.size w w1) (h : w.heap[g]? = some o) : w1.heap[g]? = some o := blk_below h hb
section
variable (bs bp : Nat) (a b c d e f : Int) (w : World) (k : Nat)
  (hs : w.heap[bs]? = some (.cells #[.int .i64 a, .int .i64 b, .int .i64 c, .int .i64 d] 40 (0, 0)))
  (hp : w.heap[bp]? = some (.cells #[.int .i64 e, .int .i64 f] 38 (0, 0)))
include hs hp
set_option maxHeartbeats 1000000 in
set_option maxRecDepth 100000 in
/-- behind the first end -/
theorem far1 {m n1 n2 : Int} (h1 : impl_between.f a b e f = some m) (h2 : impl_FracOf.f k m 1 = some (n1, n2, true)) :
    Calls Tryd.prog 53 #[.pointer (some ⟨bs, 0, none⟩), .pointer (some ⟨bp, 0, none⟩)] w fun x w' => x = .returned (.tuple #[.agg #[.int .i64 n1, .int .i64 n2], .bool true]) ∧ Below w.heap.size w w' := by
  have hB0 := below_alloc (Below.refl w.heap.size w) (.cells #[.int .i64 0, .int .i64 0] 25)
  have hs1 := blk_on hB0 hs
  have hp1 := blk_on hB0 hp
  have hn1 := heap_alloc_new w (.cells #[.int .i64 0, .int .i64 0] 25)
  have HB0 := Aside0.mk hB0
  have HN1 := Aside0.mk hn1
  have H1 := Aside0.mk h1
  have H2 := Aside0.mk h2
  have q0 : (w.alloc (.cells #[.int .i64 0, .int .i64 0] 25)).cell? ⟨bs, 0, none⟩ = some (.int .i64 a) := (blk_cell hs1 0).trans rfl
  have q1 : (w.alloc (.cells #[.int .i64 0, .int .i64 0] 25)).cell? ⟨bs, 1, none⟩ = some (.int .i64 b) := (blk_cell hs1 1).trans rfl
  have q2 : (w.alloc (.cells #[.int .i64 0, .int .i64 0] 25)).cell? ⟨bp, 0, none⟩ = some (.int .i64 e) := (blk_cell hp1 0).trans rfl
  have q3 : (w.alloc (.cells #[.int .i64 0, .int .i64 0] 25)).cell? ⟨bp, 1, none⟩ = some (.int .i64 f) := (blk_cell hp1 1).trans rfl
  have hu1 := Tryd.underlying40
  have hu2 := Tryd.underlying38
  have hu3 := Tryd.underlying25
  clear h1 h2 hs hp hs1 hp1 hn1 hB0
  go_enter Tryd.func53, Tryd.ntmps53
  go_wp2_with fail
  refine (impl_between.calls a b e f m _ H1.out).mono ?_
  rintro x w1 ⟨rfl, hb⟩
  have HB1 := Aside0.mk (below_step HB0.out hb)
  have HN2 := Aside0.mk (blk_on hb HN1.out)
  clear hb q0 q1 q2 q3 HN1
  go_wp2_with fail
  refine (impl_FracOf.calls k m 1 n1 n2 true _ H2.out).mono ?_
  rintro x w2 ⟨rfl, hb⟩
  have HB2 := Aside0.mk (below_step HB1.out hb)
  have HN3 := Aside0.mk (blk_on hb HN2.out)
  have q0 : w2.cell? ⟨w.heap.size, 0, none⟩ = some (.int .i64 0) := (blk_cell HN3.out 0).trans rfl
  have q1 : w2.cell? ⟨w.heap.size, 1, none⟩ = some (.int .i64 0) := (blk_cell HN3.out 1).trans rfl
  have q2 := blk_frozen HN3.out 0
  have q3 := blk_frozen HN3.out 1
  clear hb HN2
  go_wp2_with fail
  refine bodyPost_ret (results_ct rfl _ _ w.heap.size 25 #[.int .i64 n1, .int .i64 n2] (0, 0) _ rfl (by refine blk_put (cs := #[.int .i64 n1, .int .i64 0]) ?_ 1 _ rfl; refine blk_put (cs := #[.int .i64 0, .int .i64 0]) ?_ 0 _ rfl; exact HN3.out) Tryd.underlying25 rfl (by kernel_rfl)) rfl ?_
  exact ⟨rfl, by refine below_set ?_ (Nat.le_refl _); refine below_set ?_ (Nat.le_refl _); exact HB2.out⟩
set_option maxHeartbeats 1000000 in
set_option maxRecDepth 100000 in
/-- beside the segment -/
theorem far2 {t m n1 n2 : Int} (h0 : impl_cross.f a b c d e f = some t) (h1 : impl_between.f a b c d = some m) (h2 : impl_FracOf.f k (wrap64 (t * t)) m = some (n1, n2, true)) :
    Calls Tryd.prog 55 #[.pointer (some ⟨bs, 0, none⟩), .pointer (some ⟨bp, 0, none⟩)] w fun x w' => x = .returned (.tuple #[.agg #[.int .i64 n1, .int .i64 n2], .bool true]) ∧ Below w.heap.size w w' := by
  have hB0 := below_alloc (Below.refl w.heap.size w) (.cells #[.int .i64 0, .int .i64 0] 25)
  have hs1 := blk_on hB0 hs
  have hp1 := blk_on hB0 hp
  have hn1 := heap_alloc_new w (.cells #[.int .i64 0, .int .i64 0] 25)
  have HB0 := Aside0.mk hB0
  have HN1 := Aside0.mk hn1
  have HS := Aside0.mk hs
  have HP := Aside0.mk hp
  have H0 := Aside0.mk h0
  have H1 := Aside0.mk h1
  have H2 := Aside0.mk h2
  have q0 : (w.alloc (.cells #[.int .i64 0, .int .i64 0] 25)).cell? ⟨bs, 0, none⟩ = some (.int .i64 a) := (blk_cell hs1 0).trans rfl
  have q1 : (w.alloc (.cells #[.int .i64 0, .int .i64 0] 25)).cell? ⟨bs, 1, none⟩ = some (.int .i64 b) := (blk_cell hs1 1).trans rfl
  have q2 : (w.alloc (.cells #[.int .i64 0, .int .i64 0] 25)).cell? ⟨bs, 2, none⟩ = some (.int .i64 c) := (blk_cell hs1 2).trans rfl
  have q3 : (w.alloc (.cells #[.int .i64 0, .int .i64 0] 25)).cell? ⟨bs, 3, none⟩ = some (.int .i64 d) := (blk_cell hs1 3).trans rfl
  have q4 : (w.alloc (.cells #[.int .i64 0, .int .i64 0] 25)).cell? ⟨bp, 0, none⟩ = some (.int .i64 e) := (blk_cell hp1 0).trans rfl
  have q5 : (w.alloc (.cells #[.int .i64 0, .int .i64 0] 25)).cell? ⟨bp, 1, none⟩ = some (.int .i64 f) := (blk_cell hp1 1).trans rfl
  have hu1 := Tryd.underlying40
  have hu2 := Tryd.underlying38
  have hu3 := Tryd.underlying25
  clear h0 h1 h2 hs hp hs1 hp1 hn1 hB0
  go_enter Tryd.func55, Tryd.ntmps55
  go_wp2_with fail
  refine (impl_cross.calls a b c d e f t _ H0.out).mono ?_
  rintro x w1 ⟨rfl, hb⟩
  have HB1 := Aside0.mk (below_step HB0.out hb)
  have HN2 := Aside0.mk (blk_on hb HN1.out)
  have hs2 := blk_on HB1.out HS.out
  have hp2 := blk_on HB1.out HP.out
  clear hb q0 q1 q2 q3 q4 q5 HN1
  have q0 : w1.cell? ⟨bs, 0, none⟩ = some (.int .i64 a) := (blk_cell hs2 0).trans rfl
  have q1 : w1.cell? ⟨bs, 1, none⟩ = some (.int .i64 b) := (blk_cell hs2 1).trans rfl
  have q2 : w1.cell? ⟨bs, 2, none⟩ = some (.int .i64 c) := (blk_cell hs2 2).trans rfl
  have q3 : w1.cell? ⟨bs, 3, none⟩ = some (.int .i64 d) := (blk_cell hs2 3).trans rfl
  have q4 : w1.cell? ⟨bp, 0, none⟩ = some (.int .i64 e) := (blk_cell hp2 0).trans rfl
  have q5 : w1.cell? ⟨bp, 1, none⟩ = some (.int .i64 f) := (blk_cell hp2 1).trans rfl
  clear hs2 hp2
  go_wp2_with fail
  refine (impl_between.calls a b c d m _ H1.out).mono ?_
  rintro x w2 ⟨rfl, hb⟩
  have HB2 := Aside0.mk (below_step HB1.out hb)
  have HN3 := Aside0.mk (blk_on hb HN2.out)
  clear hb q0 q1 q2 q3 q4 q5 HN2
  go_wp2_with fail
  refine (impl_FracOf.calls k (wrap64 (t * t)) m n1 n2 true _ H2.out).mono ?_
  rintro x w3 ⟨rfl, hb⟩
  have HB3 := Aside0.mk (below_step HB2.out hb)
  have HN4 := Aside0.mk (blk_on hb HN3.out)
  have q0 : w3.cell? ⟨w.heap.size, 0, none⟩ = some (.int .i64 0) := (blk_cell HN4.out 0).trans rfl
  have q1 : w3.cell? ⟨w.heap.size, 1, none⟩ = some (.int .i64 0) := (blk_cell HN4.out 1).trans rfl
  have q2 := blk_frozen HN4.out 0
  have q3 := blk_frozen HN4.out 1
  clear hb HN3
  go_wp2_with fail
  refine bodyPost_ret (results_ct rfl _ _ w.heap.size 25 #[.int .i64 n1, .int .i64 n2] (0, 0) _ rfl (by refine blk_put (cs := #[.int .i64 n1, .int .i64 0]) ?_ 1 _ rfl; refine blk_put (cs := #[.int .i64 0, .int .i64 0]) ?_ 0 _ rfl; exact HN4.out) Tryd.underlying25 rfl (by kernel_rfl)) rfl ?_
  exact ⟨rfl, by refine below_set ?_ (Nat.le_refl _); refine below_set ?_ (Nat.le_refl _); exact HB3.out⟩
set_option maxHeartbeats 1000000 in
set_option maxRecDepth 100000 in
/-- past the other end -/
theorem far3 {m n1 n2 : Int} (h1 : impl_between.f c d e f = some m) (h2 : impl_FracOf.f k m 1 = some (n1, n2, true)) :
    Calls Tryd.prog 57 #[.pointer (some ⟨bs, 0, none⟩), .pointer (some ⟨bp, 0, none⟩)] w fun x w' => x = .returned (.tuple #[.agg #[.int .i64 n1, .int .i64 n2], .bool true]) ∧ Below w.heap.size w w' := by
  have hB0 := below_alloc (Below.refl w.heap.size w) (.cells #[.int .i64 0, .int .i64 0] 25)
  have hs1 := blk_on hB0 hs
  have hp1 := blk_on hB0 hp
  have hn1 := heap_alloc_new w (.cells #[.int .i64 0, .int .i64 0] 25)
  have HB0 := Aside0.mk hB0
  have HN1 := Aside0.mk hn1
  have H1 := Aside0.mk h1
  have H2 := Aside0.mk h2
  have q0 : (w.alloc (.cells #[.int .i64 0, .int .i64 0] 25)).cell? ⟨bs, 2, none⟩ = some (.int .i64 c) := (blk_cell hs1 2).trans rfl
  have q1 : (w.alloc (.cells #[.int .i64 0, .int .i64 0] 25)).cell? ⟨bs, 3, none⟩ = some (.int .i64 d) := (blk_cell hs1 3).trans rfl
  have q2 : (w.alloc (.cells #[.int .i64 0, .int .i64 0] 25)).cell? ⟨bp, 0, none⟩ = some (.int .i64 e) := (blk_cell hp1 0).trans rfl
  have q3 : (w.alloc (.cells #[.int .i64 0, .int .i64 0] 25)).cell? ⟨bp, 1, none⟩ = some (.int .i64 f) := (blk_cell hp1 1).trans rfl
  have hu1 := Tryd.underlying40
  have hu2 := Tryd.underlying38
  have hu3 := Tryd.underlying25
  clear h1 h2 hs hp hs1 hp1 hn1 hB0
  go_enter Tryd.func57, Tryd.ntmps57
  go_wp2_with fail
  refine (impl_between.calls c d e f m _ H1.out).mono ?_
  rintro x w1 ⟨rfl, hb⟩
  have HB1 := Aside0.mk (below_step HB0.out hb)
  have HN2 := Aside0.mk (blk_on hb HN1.out)
  clear hb q0 q1 q2 q3 HN1
  go_wp2_with fail
  refine (impl_FracOf.calls k m 1 n1 n2 true _ H2.out).mono ?_
  rintro x w2 ⟨rfl, hb⟩
  have HB2 := Aside0.mk (below_step HB1.out hb)
  have HN3 := Aside0.mk (blk_on hb HN2.out)
  have q0 : w2.cell? ⟨w.heap.size, 0, none⟩ = some (.int .i64 0) := (blk_cell HN3.out 0).trans rfl
  have q1 : w2.cell? ⟨w.heap.size, 1, none⟩ = some (.int .i64 0) := (blk_cell HN3.out 1).trans rfl
  have q2 := blk_frozen HN3.out 0
  have q3 := blk_frozen HN3.out 1
  clear hb HN2
  go_wp2_with fail
  refine bodyPost_ret (results_ct rfl _ _ w.heap.size 25 #[.int .i64 n1, .int .i64 n2] (0, 0) _ rfl (by refine blk_put (cs := #[.int .i64 n1, .int .i64 0]) ?_ 1 _ rfl; refine blk_put (cs := #[.int .i64 0, .int .i64 0]) ?_ 0 _ rfl; exact HN3.out) Tryd.underlying25 rfl (by kernel_rfl)) rfl ?_
  exact ⟨rfl, by refine below_set ?_ (Nat.le_refl _); refine below_set ?_ (Nat.le_refl _); exact HB2.out⟩
end
theorem boxes3 (w : World) (o1 o2 o3 : Obj) : Below w.heap.size w (((w.alloc o1).alloc o2).alloc o3) ∧ (((w.alloc o1).alloc o2).alloc o3).heap[w.heap.size]? = some o1 ∧
    (((w.alloc o1).alloc o2).alloc o3).heap[w.heap.size + 1]? = some o2 ∧ (((w.alloc o1).alloc o2).alloc o3).heap[w.heap.size + 1 + 1]? = some o3 := by
  have e1 : (w.alloc o1).heap.size = w.heap.size + 1 := Array.size_push _
  have e2 : ((w.alloc o1).alloc o2).heap.size = w.heap.size + 1 + 1 := (Array.size_push (xs := (w.alloc o1).heap) _).trans (congrArg (· + 1) e1)
  refine ⟨below_alloc (below_alloc (below_alloc (Below.refl _ _) _) _) _, ?_, ?_, ?_⟩
  · exact blk_alloc (blk_alloc (heap_alloc_new w o1) _) _
  · rw [← e1]; exact blk_alloc (heap_alloc_new _ o2) _
  · rw [← e2]; exact heap_alloc_new _ o3
@[local go_sem] theorem run_store_fn (P : Program) (w : World) (a : Addr) (m : Mode) (fn : Fn) (first captured : Array Value) : (store a (.func fn first captured) m).run P w = stored P w a (.func fn first captured) m := run_store P w a _ m rfl
@[local go_sem] theorem run_store_nofn (P : Program) (w : World) (a : Addr) (m : Mode) : (store a .nilFunc m).run P w = stored P w a .nilFunc m := run_store P w a _ m rfl
section
variable (a b c d e f : Int) (w : World)
set_option maxHeartbeats 1000000 in
set_option maxRecDepth 100000 in
theorem segFar_bad1 (h : impl_SegOk.f a b c d = some false) :
    Calls Tryd.prog 24 #[.agg #[.int .i64 a, .int .i64 b, .int .i64 c, .int .i64 d], .agg #[.int .i64 e, .int .i64 f]] w fun x w' => x = .returned (.agg #[.int .i64 0, .int .i64 0]) ∧ Below w.heap.size w w' := by
  have hu1 := Tryd.underlying40
  have hu2 := Tryd.underlying38
  have hu3 := Tryd.underlying25
  have HB := Aside0.mk (boxes3 w (.cells #[.int .i64 a, .int .i64 b, .int .i64 c, .int .i64 d] 40) (.cells #[.int .i64 e, .int .i64 f] 38) (.cells #[.int .i64 0, .int .i64 0] 25))
  have H := Aside0.mk h
  clear h
  go_enter Tryd.func24, Tryd.ntmps24
  go_wp2_with fail
  refine (impl_SegOk.calls a b c d false _ H.out).mono ?_
  rintro x w1 ⟨rfl, hb⟩
  have HS := Aside0.mk (blk_on hb HB.out.2.1)
  have HP := Aside0.mk (blk_on hb HB.out.2.2.1)
  have HR := Aside0.mk (blk_on hb HB.out.2.2.2)
  have HB1 := Aside0.mk (below_step HB.out.1 hb)
  clear hb
  have q0 : w1.cell? ⟨w.heap.size + 1 + 1, 0, none⟩ = some (.int .i64 0) := (blk_cell HR.out 0).trans rfl
  have q1 : w1.cell? ⟨w.heap.size + 1 + 1, 1, none⟩ = some (.int .i64 0) := (blk_cell HR.out 1).trans rfl
  have q2 := blk_frozen HR.out 0
  have q3 := blk_frozen HR.out 1
  go_wp2_with fail
  refine bodyPost_ret (results_cell_row rfl _ _ (w.heap.size + 1 + 1) 25 #[.int .i64 0, .int .i64 0] (0, 0) _ rfl (by refine blk_put (cs := #[.int .i64 0, .int .i64 0]) ?_ 1 _ rfl; refine blk_put (cs := #[.int .i64 0, .int .i64 0]) ?_ 0 _ rfl; exact HR.out) Tryd.underlying25 rfl (by kernel_rfl)) rfl ?_
  exact ⟨rfl, by refine below_set ?_ (by omega); refine below_set ?_ (by omega); exact HB1.out⟩
set_option maxHeartbeats 1000000 in
set_option maxRecDepth 100000 in
theorem segFar_bad2 (h : impl_SegOk.f a b c d = some true) (h' : impl_PtOk.f e f = some false) :
    Calls Tryd.prog 24 #[.agg #[.int .i64 a, .int .i64 b, .int .i64 c, .int .i64 d], .agg #[.int .i64 e, .int .i64 f]] w fun x w' => x = .returned (.agg #[.int .i64 0, .int .i64 0]) ∧ Below w.heap.size w w' := by
  have hu1 := Tryd.underlying40
  have hu2 := Tryd.underlying38
  have hu3 := Tryd.underlying25
  have HB := Aside0.mk (boxes3 w (.cells #[.int .i64 a, .int .i64 b, .int .i64 c, .int .i64 d] 40) (.cells #[.int .i64 e, .int .i64 f] 38) (.cells #[.int .i64 0, .int .i64 0] 25))
  have H := Aside0.mk h
  have H' := Aside0.mk h'
  clear h h'
  go_enter Tryd.func24, Tryd.ntmps24
  go_wp2_with fail
  refine (impl_SegOk.calls a b c d true _ H.out).mono ?_
  rintro x w1 ⟨rfl, hb⟩
  have HS := Aside0.mk (blk_on hb HB.out.2.1)
  have HP := Aside0.mk (blk_on hb HB.out.2.2.1)
  have HR := Aside0.mk (blk_on hb HB.out.2.2.2)
  have HB1 := Aside0.mk (below_step HB.out.1 hb)
  clear hb
  have q0 : w1.cell? ⟨w.heap.size + 1, 0, none⟩ = some (.int .i64 e) := (blk_cell HP.out 0).trans rfl
  have q1 : w1.cell? ⟨w.heap.size + 1, 1, none⟩ = some (.int .i64 f) := (blk_cell HP.out 1).trans rfl
  go_wp2_with fail
  refine (impl_PtOk.calls e f false _ H'.out).mono ?_
  rintro x w2 ⟨rfl, hb⟩
  have HS2 := Aside0.mk (blk_on hb HS.out)
  have HP2 := Aside0.mk (blk_on hb HP.out)
  have HR2 := Aside0.mk (blk_on hb HR.out)
  have HB2 := Aside0.mk (below_step HB1.out hb)
  clear hb q0 q1
  have q0 : w2.cell? ⟨w.heap.size + 1 + 1, 0, none⟩ = some (.int .i64 0) := (blk_cell HR2.out 0).trans rfl
  have q1 : w2.cell? ⟨w.heap.size + 1 + 1, 1, none⟩ = some (.int .i64 0) := (blk_cell HR2.out 1).trans rfl
  have q2 := blk_frozen HR2.out 0
  have q3 := blk_frozen HR2.out 1
  go_wp2_with fail
  refine bodyPost_ret (results_cell_row rfl _ _ (w.heap.size + 1 + 1) 25 #[.int .i64 0, .int .i64 0] (0, 0) _ rfl (by refine blk_put (cs := #[.int .i64 0, .int .i64 0]) ?_ 1 _ rfl; refine blk_put (cs := #[.int .i64 0, .int .i64 0]) ?_ 0 _ rfl; exact HR2.out) Tryd.underlying25 rfl (by kernel_rfl)) rfl ?_
  exact ⟨rfl, by refine below_set ?_ (by omega); refine below_set ?_ (by omega); exact HB2.out⟩
set_option maxHeartbeats 1000000 in
set_option maxRecDepth 100000 in
theorem segFar_way1 (k : Nat) {m t n1 n2 : Int} (h : impl_SegOk.f a b c d = some true) (h' : impl_PtOk.f e f = some true) (h2 : impl_standOf.f a b c d e f = some 0) (hw : impl_between.f a b e f = some m) (hf : impl_FracOf.f k m 1 = some (n1, n2, true)) :
    Calls Tryd.prog 24 #[.agg #[.int .i64 a, .int .i64 b, .int .i64 c, .int .i64 d], .agg #[.int .i64 e, .int .i64 f]] w fun x w' => x = .returned (.agg #[.int .i64 n1, .int .i64 n2]) ∧ Below w.heap.size w w' := by
  have hu1 := Tryd.underlying40
  have hu2 := Tryd.underlying38
  have hu3 := Tryd.underlying25
  have HB := Aside0.mk (boxes3 w (.cells #[.int .i64 a, .int .i64 b, .int .i64 c, .int .i64 d] 40) (.cells #[.int .i64 e, .int .i64 f] 38) (.cells #[.int .i64 0, .int .i64 0] 25))
  have H := Aside0.mk h
  have H' := Aside0.mk h'
  have H2 := Aside0.mk h2
  have HW := Aside0.mk hw
  have HF := Aside0.mk hf
  clear h h' h2 hw hf
  go_enter Tryd.func24, Tryd.ntmps24
  go_wp2_with fail
  refine (impl_SegOk.calls a b c d true _ H.out).mono ?_
  rintro x w1 ⟨rfl, hb⟩
  have HS := Aside0.mk (blk_on hb HB.out.2.1)
  have HP := Aside0.mk (blk_on hb HB.out.2.2.1)
  have HR := Aside0.mk (blk_on hb HB.out.2.2.2)
  have HB1 := Aside0.mk (below_step HB.out.1 hb)
  clear hb
  have q0 : w1.cell? ⟨w.heap.size + 1, 0, none⟩ = some (.int .i64 e) := (blk_cell HP.out 0).trans rfl
  have q1 : w1.cell? ⟨w.heap.size + 1, 1, none⟩ = some (.int .i64 f) := (blk_cell HP.out 1).trans rfl
  go_wp2_with fail
  refine (impl_PtOk.calls e f true _ H'.out).mono ?_
  rintro x w2 ⟨rfl, hb⟩
  have HS2 := Aside0.mk (blk_on hb HS.out)
  have HP2 := Aside0.mk (blk_on hb HP.out)
  have HR2 := Aside0.mk (blk_on hb HR.out)
  have HB2 := Aside0.mk (below_step HB1.out hb)
  clear hb q0 q1
  have q0 : ∀ o, (w2.alloc o).cell? ⟨w.heap.size, 0, none⟩ = some (.int .i64 a) := fun o => (blk_cell (blk_alloc HS2.out o) 0).trans rfl
  have q1 : ∀ o, (w2.alloc o).cell? ⟨w.heap.size, 1, none⟩ = some (.int .i64 b) := fun o => (blk_cell (blk_alloc HS2.out o) 1).trans rfl
  have q2 : ∀ o, (w2.alloc o).cell? ⟨w.heap.size, 2, none⟩ = some (.int .i64 c) := fun o => (blk_cell (blk_alloc HS2.out o) 2).trans rfl
  have q3 : ∀ o, (w2.alloc o).cell? ⟨w.heap.size, 3, none⟩ = some (.int .i64 d) := fun o => (blk_cell (blk_alloc HS2.out o) 3).trans rfl
  have q4 : ∀ o, (w2.alloc o).cell? ⟨w.heap.size + 1, 0, none⟩ = some (.int .i64 e) := fun o => (blk_cell (blk_alloc HP2.out o) 0).trans rfl
  have q5 : ∀ o, (w2.alloc o).cell? ⟨w.heap.size + 1, 1, none⟩ = some (.int .i64 f) := fun o => (blk_cell (blk_alloc HP2.out o) 1).trans rfl
  have HQ := Aside0.mk (heap_alloc_new w2 (.cells #[.nilFunc, .nilFunc, .nilFunc] 80))
  have r0 : (w2.alloc (.cells #[.nilFunc, .nilFunc, .nilFunc] 80)).cell? ⟨w2.heap.size, 0, none⟩ = some .nilFunc := (blk_cell HQ.out 0).trans rfl
  have s0 := blk_frozen HQ.out 0
  have r1 : (w2.alloc (.cells #[.nilFunc, .nilFunc, .nilFunc] 80)).cell? ⟨w2.heap.size, 1, none⟩ = some .nilFunc := (blk_cell HQ.out 1).trans rfl
  have s1 := blk_frozen HQ.out 1
  have r2 : (w2.alloc (.cells #[.nilFunc, .nilFunc, .nilFunc] 80)).cell? ⟨w2.heap.size, 2, none⟩ = some .nilFunc := (blk_cell HQ.out 2).trans rfl
  have s2 := blk_frozen HQ.out 2
  go_wp2_with fail
  refine (impl_standOf.calls a b c d e f 0 _ H2.out).mono ?_
  rintro x w3 ⟨rfl, hb⟩
  have HK := Aside0.mk (blk_on hb (heap_alloc_new w2 (.cells #[.func (.func 53) #[] #[.pointer (some ⟨w.heap.size, 0, none⟩), .pointer (some ⟨w.heap.size + 1, 0, none⟩)], .func (.func 55) #[] #[.pointer (some ⟨w.heap.size, 0, none⟩), .pointer (some ⟨w.heap.size + 1, 0, none⟩)], .func (.func 57) #[] #[.pointer (some ⟨w.heap.size, 0, none⟩), .pointer (some ⟨w.heap.size + 1, 0, none⟩)]] 80)))
  have HS3 := Aside0.mk (blk_on hb (blk_alloc HS2.out (.cells #[.func (.func 53) #[] #[.pointer (some ⟨w.heap.size, 0, none⟩), .pointer (some ⟨w.heap.size + 1, 0, none⟩)], .func (.func 55) #[] #[.pointer (some ⟨w.heap.size, 0, none⟩), .pointer (some ⟨w.heap.size + 1, 0, none⟩)], .func (.func 57) #[] #[.pointer (some ⟨w.heap.size, 0, none⟩), .pointer (some ⟨w.heap.size + 1, 0, none⟩)]] 80)))
  have HP3 := Aside0.mk (blk_on hb (blk_alloc HP2.out (.cells #[.func (.func 53) #[] #[.pointer (some ⟨w.heap.size, 0, none⟩), .pointer (some ⟨w.heap.size + 1, 0, none⟩)], .func (.func 55) #[] #[.pointer (some ⟨w.heap.size, 0, none⟩), .pointer (some ⟨w.heap.size + 1, 0, none⟩)], .func (.func 57) #[] #[.pointer (some ⟨w.heap.size, 0, none⟩), .pointer (some ⟨w.heap.size + 1, 0, none⟩)]] 80)))
  have HR3 := Aside0.mk (blk_on hb (blk_alloc HR2.out (.cells #[.func (.func 53) #[] #[.pointer (some ⟨w.heap.size, 0, none⟩), .pointer (some ⟨w.heap.size + 1, 0, none⟩)], .func (.func 55) #[] #[.pointer (some ⟨w.heap.size, 0, none⟩), .pointer (some ⟨w.heap.size + 1, 0, none⟩)], .func (.func 57) #[] #[.pointer (some ⟨w.heap.size, 0, none⟩), .pointer (some ⟨w.heap.size + 1, 0, none⟩)]] 80)))
  have HB3 := Aside0.mk (below_step (below_alloc HB2.out (.cells #[.func (.func 53) #[] #[.pointer (some ⟨w.heap.size, 0, none⟩), .pointer (some ⟨w.heap.size + 1, 0, none⟩)], .func (.func 55) #[] #[.pointer (some ⟨w.heap.size, 0, none⟩), .pointer (some ⟨w.heap.size + 1, 0, none⟩)], .func (.func 57) #[] #[.pointer (some ⟨w.heap.size, 0, none⟩), .pointer (some ⟨w.heap.size + 1, 0, none⟩)]] 80)) hb)
  clear hb q0 q1 q2 q3 q4 q5 r0 r1 r2 s0 s1 s2 HQ
  have q0 : w3.cell? ⟨w2.heap.size, 0, none⟩ = some (.func (.func 53) #[] #[.pointer (some ⟨w.heap.size, 0, none⟩), .pointer (some ⟨w.heap.size + 1, 0, none⟩)]) := (blk_cell HK.out 0).trans rfl
  go_wp2_with fail
  refine (far1 w.heap.size (w.heap.size + 1) a b c d e f w3 k HS3.out HP3.out HW.out HF.out).mono ?_
  rintro x w4 ⟨rfl, hb⟩
  have HR4 := Aside0.mk (blk_on hb HR3.out)
  have HB4 := Aside0.mk (below_step HB3.out hb)
  clear hb q0
  have HN := Aside0.mk (heap_alloc_new w4 (.cells #[.int .i64 0, .int .i64 0] 25))
  have u0 : (w4.alloc (.cells #[.int .i64 0, .int .i64 0] 25)).cell? ⟨w4.heap.size, 0, none⟩ = some (.int .i64 0) := (blk_cell HN.out 0).trans rfl
  have u1 : (w4.alloc (.cells #[.int .i64 0, .int .i64 0] 25)).cell? ⟨w4.heap.size, 1, none⟩ = some (.int .i64 0) := (blk_cell HN.out 1).trans rfl
  have u2 := blk_frozen HN.out 0
  have u3 := blk_frozen HN.out 1
  have q0 : ∀ o, (w4.alloc o).cell? ⟨w.heap.size + 1 + 1, 0, none⟩ = some (.int .i64 0) := fun o => (blk_cell (blk_alloc HR4.out o) 0).trans rfl
  have q1 : ∀ o, (w4.alloc o).cell? ⟨w.heap.size + 1 + 1, 1, none⟩ = some (.int .i64 0) := fun o => (blk_cell (blk_alloc HR4.out o) 1).trans rfl
  have q2 := fun o => blk_frozen (blk_alloc HR4.out o) 0
  have q3 := fun o => blk_frozen (blk_alloc HR4.out o) 1
  go_wp2_with fail
  refine bodyPost_ret (results_cell_row rfl _ _ (w.heap.size + 1 + 1) 25 #[.int .i64 n1, .int .i64 n2] (0, 0) _ rfl (by refine blk_put (cs := #[.int .i64 n1, .int .i64 0]) ?_ 1 _ rfl; refine blk_put (cs := #[.int .i64 0, .int .i64 0]) ?_ 0 _ rfl; exact blk_alloc HR4.out _) Tryd.underlying25 rfl (by kernel_rfl)) rfl ?_
  exact ⟨rfl, by refine below_set ?_ (by omega); refine below_set ?_ (by omega); exact below_alloc HB4.out _⟩
set_option maxHeartbeats 1000000 in
set_option maxRecDepth 100000 in
theorem segFar_way2 (k : Nat) {m t n1 n2 : Int} (h : impl_SegOk.f a b c d = some true) (h' : impl_PtOk.f e f = some true) (h2 : impl_standOf.f a b c d e f = some 1) (hv : impl_cross.f a b c d e f = some t) (hw : impl_between.f a b c d = some m) (hf : impl_FracOf.f k (wrap64 (t * t)) m = some (n1, n2, true)) :
    Calls Tryd.prog 24 #[.agg #[.int .i64 a, .int .i64 b, .int .i64 c, .int .i64 d], .agg #[.int .i64 e, .int .i64 f]] w fun x w' => x = .returned (.agg #[.int .i64 n1, .int .i64 n2]) ∧ Below w.heap.size w w' := by
  have hu1 := Tryd.underlying40
  have hu2 := Tryd.underlying38
  have hu3 := Tryd.underlying25
  have HB := Aside0.mk (boxes3 w (.cells #[.int .i64 a, .int .i64 b, .int .i64 c, .int .i64 d] 40) (.cells #[.int .i64 e, .int .i64 f] 38) (.cells #[.int .i64 0, .int .i64 0] 25))
  have H := Aside0.mk h
  have H' := Aside0.mk h'
  have H2 := Aside0.mk h2
  have HW := Aside0.mk hw
  have HF := Aside0.mk hf
  clear h h' h2 hw hf
  have HV := Aside0.mk hv
  clear hv
  go_enter Tryd.func24, Tryd.ntmps24
  go_wp2_with fail
  refine (impl_SegOk.calls a b c d true _ H.out).mono ?_
  rintro x w1 ⟨rfl, hb⟩
  have HS := Aside0.mk (blk_on hb HB.out.2.1)
  have HP := Aside0.mk (blk_on hb HB.out.2.2.1)
  have HR := Aside0.mk (blk_on hb HB.out.2.2.2)
  have HB1 := Aside0.mk (below_step HB.out.1 hb)
  clear hb
  have q0 : w1.cell? ⟨w.heap.size + 1, 0, none⟩ = some (.int .i64 e) := (blk_cell HP.out 0).trans rfl
  have q1 : w1.cell? ⟨w.heap.size + 1, 1, none⟩ = some (.int .i64 f) := (blk_cell HP.out 1).trans rfl
  go_wp2_with fail
  refine (impl_PtOk.calls e f true _ H'.out).mono ?_
  rintro x w2 ⟨rfl, hb⟩
  have HS2 := Aside0.mk (blk_on hb HS.out)
  have HP2 := Aside0.mk (blk_on hb HP.out)
  have HR2 := Aside0.mk (blk_on hb HR.out)
  have HB2 := Aside0.mk (below_step HB1.out hb)
  clear hb q0 q1
  have q0 : ∀ o, (w2.alloc o).cell? ⟨w.heap.size, 0, none⟩ = some (.int .i64 a) := fun o => (blk_cell (blk_alloc HS2.out o) 0).trans rfl
  have q1 : ∀ o, (w2.alloc o).cell? ⟨w.heap.size, 1, none⟩ = some (.int .i64 b) := fun o => (blk_cell (blk_alloc HS2.out o) 1).trans rfl
  have q2 : ∀ o, (w2.alloc o).cell? ⟨w.heap.size, 2, none⟩ = some (.int .i64 c) := fun o => (blk_cell (blk_alloc HS2.out o) 2).trans rfl
  have q3 : ∀ o, (w2.alloc o).cell? ⟨w.heap.size, 3, none⟩ = some (.int .i64 d) := fun o => (blk_cell (blk_alloc HS2.out o) 3).trans rfl
  have q4 : ∀ o, (w2.alloc o).cell? ⟨w.heap.size + 1, 0, none⟩ = some (.int .i64 e) := fun o => (blk_cell (blk_alloc HP2.out o) 0).trans rfl
  have q5 : ∀ o, (w2.alloc o).cell? ⟨w.heap.size + 1, 1, none⟩ = some (.int .i64 f) := fun o => (blk_cell (blk_alloc HP2.out o) 1).trans rfl
  have HQ := Aside0.mk (heap_alloc_new w2 (.cells #[.nilFunc, .nilFunc, .nilFunc] 80))
  have r0 : (w2.alloc (.cells #[.nilFunc, .nilFunc, .nilFunc] 80)).cell? ⟨w2.heap.size, 0, none⟩ = some .nilFunc := (blk_cell HQ.out 0).trans rfl
  have s0 := blk_frozen HQ.out 0
  have r1 : (w2.alloc (.cells #[.nilFunc, .nilFunc, .nilFunc] 80)).cell? ⟨w2.heap.size, 1, none⟩ = some .nilFunc := (blk_cell HQ.out 1).trans rfl
  have s1 := blk_frozen HQ.out 1
  have r2 : (w2.alloc (.cells #[.nilFunc, .nilFunc, .nilFunc] 80)).cell? ⟨w2.heap.size, 2, none⟩ = some .nilFunc := (blk_cell HQ.out 2).trans rfl
  have s2 := blk_frozen HQ.out 2
  go_wp2_with fail
  refine (impl_standOf.calls a b c d e f 1 _ H2.out).mono ?_
  rintro x w3 ⟨rfl, hb⟩
  have HK := Aside0.mk (blk_on hb (heap_alloc_new w2 (.cells #[.func (.func 53) #[] #[.pointer (some ⟨w.heap.size, 0, none⟩), .pointer (some ⟨w.heap.size + 1, 0, none⟩)], .func (.func 55) #[] #[.pointer (some ⟨w.heap.size, 0, none⟩), .pointer (some ⟨w.heap.size + 1, 0, none⟩)], .func (.func 57) #[] #[.pointer (some ⟨w.heap.size, 0, none⟩), .pointer (some ⟨w.heap.size + 1, 0, none⟩)]] 80)))
  have HS3 := Aside0.mk (blk_on hb (blk_alloc HS2.out (.cells #[.func (.func 53) #[] #[.pointer (some ⟨w.heap.size, 0, none⟩), .pointer (some ⟨w.heap.size + 1, 0, none⟩)], .func (.func 55) #[] #[.pointer (some ⟨w.heap.size, 0, none⟩), .pointer (some ⟨w.heap.size + 1, 0, none⟩)], .func (.func 57) #[] #[.pointer (some ⟨w.heap.size, 0, none⟩), .pointer (some ⟨w.heap.size + 1, 0, none⟩)]] 80)))
  have HP3 := Aside0.mk (blk_on hb (blk_alloc HP2.out (.cells #[.func (.func 53) #[] #[.pointer (some ⟨w.heap.size, 0, none⟩), .pointer (some ⟨w.heap.size + 1, 0, none⟩)], .func (.func 55) #[] #[.pointer (some ⟨w.heap.size, 0, none⟩), .pointer (some ⟨w.heap.size + 1, 0, none⟩)], .func (.func 57) #[] #[.pointer (some ⟨w.heap.size, 0, none⟩), .pointer (some ⟨w.heap.size + 1, 0, none⟩)]] 80)))
  have HR3 := Aside0.mk (blk_on hb (blk_alloc HR2.out (.cells #[.func (.func 53) #[] #[.pointer (some ⟨w.heap.size, 0, none⟩), .pointer (some ⟨w.heap.size + 1, 0, none⟩)], .func (.func 55) #[] #[.pointer (some ⟨w.heap.size, 0, none⟩), .pointer (some ⟨w.heap.size + 1, 0, none⟩)], .func (.func 57) #[] #[.pointer (some ⟨w.heap.size, 0, none⟩), .pointer (some ⟨w.heap.size + 1, 0, none⟩)]] 80)))
  have HB3 := Aside0.mk (below_step (below_alloc HB2.out (.cells #[.func (.func 53) #[] #[.pointer (some ⟨w.heap.size, 0, none⟩), .pointer (some ⟨w.heap.size + 1, 0, none⟩)], .func (.func 55) #[] #[.pointer (some ⟨w.heap.size, 0, none⟩), .pointer (some ⟨w.heap.size + 1, 0, none⟩)], .func (.func 57) #[] #[.pointer (some ⟨w.heap.size, 0, none⟩), .pointer (some ⟨w.heap.size + 1, 0, none⟩)]] 80)) hb)
  clear hb q0 q1 q2 q3 q4 q5 r0 r1 r2 s0 s1 s2 HQ
  have q0 : w3.cell? ⟨w2.heap.size, 1, none⟩ = some (.func (.func 55) #[] #[.pointer (some ⟨w.heap.size, 0, none⟩), .pointer (some ⟨w.heap.size + 1, 0, none⟩)]) := (blk_cell HK.out 1).trans rfl
  go_wp2_with fail
  refine (far2 w.heap.size (w.heap.size + 1) a b c d e f w3 k HS3.out HP3.out HV.out HW.out HF.out).mono ?_
  rintro x w4 ⟨rfl, hb⟩
  have HR4 := Aside0.mk (blk_on hb HR3.out)
  have HB4 := Aside0.mk (below_step HB3.out hb)
  clear hb q0
  have HN := Aside0.mk (heap_alloc_new w4 (.cells #[.int .i64 0, .int .i64 0] 25))
  have u0 : (w4.alloc (.cells #[.int .i64 0, .int .i64 0] 25)).cell? ⟨w4.heap.size, 0, none⟩ = some (.int .i64 0) := (blk_cell HN.out 0).trans rfl
  have u1 : (w4.alloc (.cells #[.int .i64 0, .int .i64 0] 25)).cell? ⟨w4.heap.size, 1, none⟩ = some (.int .i64 0) := (blk_cell HN.out 1).trans rfl
  have u2 := blk_frozen HN.out 0
  have u3 := blk_frozen HN.out 1
  have q0 : ∀ o, (w4.alloc o).cell? ⟨w.heap.size + 1 + 1, 0, none⟩ = some (.int .i64 0) := fun o => (blk_cell (blk_alloc HR4.out o) 0).trans rfl
  have q1 : ∀ o, (w4.alloc o).cell? ⟨w.heap.size + 1 + 1, 1, none⟩ = some (.int .i64 0) := fun o => (blk_cell (blk_alloc HR4.out o) 1).trans rfl
  have q2 := fun o => blk_frozen (blk_alloc HR4.out o) 0
  have q3 := fun o => blk_frozen (blk_alloc HR4.out o) 1
  go_wp2_with fail
  refine bodyPost_ret (results_cell_row rfl _ _ (w.heap.size + 1 + 1) 25 #[.int .i64 n1, .int .i64 n2] (0, 0) _ rfl (by refine blk_put (cs := #[.int .i64 n1, .int .i64 0]) ?_ 1 _ rfl; refine blk_put (cs := #[.int .i64 0, .int .i64 0]) ?_ 0 _ rfl; exact blk_alloc HR4.out _) Tryd.underlying25 rfl (by kernel_rfl)) rfl ?_
  exact ⟨rfl, by refine below_set ?_ (by omega); refine below_set ?_ (by omega); exact below_alloc HB4.out _⟩
set_option maxHeartbeats 1000000 in
set_option maxRecDepth 100000 in
theorem segFar_way3 (k : Nat) {m t n1 n2 : Int} (h : impl_SegOk.f a b c d = some true) (h' : impl_PtOk.f e f = some true) (h2 : impl_standOf.f a b c d e f = some 2) (hw : impl_between.f c d e f = some m) (hf : impl_FracOf.f k m 1 = some (n1, n2, true)) :
    Calls Tryd.prog 24 #[.agg #[.int .i64 a, .int .i64 b, .int .i64 c, .int .i64 d], .agg #[.int .i64 e, .int .i64 f]] w fun x w' => x = .returned (.agg #[.int .i64 n1, .int .i64 n2]) ∧ Below w.heap.size w w' := by
  have hu1 := Tryd.underlying40
  have hu2 := Tryd.underlying38
  have hu3 := Tryd.underlying25
  have HB := Aside0.mk (boxes3 w (.cells #[.int .i64 a, .int .i64 b, .int .i64 c, .int .i64 d] 40) (.cells #[.int .i64 e, .int .i64 f] 38) (.cells #[.int .i64 0, .int .i64 0] 25))
  have H := Aside0.mk h
  have H' := Aside0.mk h'
  have H2 := Aside0.mk h2
  have HW := Aside0.mk hw
  have HF := Aside0.mk hf
  clear h h' h2 hw hf
  go_enter Tryd.func24, Tryd.ntmps24
  go_wp2_with fail
  refine (impl_SegOk.calls a b c d true _ H.out).mono ?_
  rintro x w1 ⟨rfl, hb⟩
  have HS := Aside0.mk (blk_on hb HB.out.2.1)
  have HP := Aside0.mk (blk_on hb HB.out.2.2.1)
  have HR := Aside0.mk (blk_on hb HB.out.2.2.2)
  have HB1 := Aside0.mk (below_step HB.out.1 hb)
  clear hb
  have q0 : w1.cell? ⟨w.heap.size + 1, 0, none⟩ = some (.int .i64 e) := (blk_cell HP.out 0).trans rfl
  have q1 : w1.cell? ⟨w.heap.size + 1, 1, none⟩ = some (.int .i64 f) := (blk_cell HP.out 1).trans rfl
  go_wp2_with fail
  refine (impl_PtOk.calls e f true _ H'.out).mono ?_
  rintro x w2 ⟨rfl, hb⟩
  have HS2 := Aside0.mk (blk_on hb HS.out)
  have HP2 := Aside0.mk (blk_on hb HP.out)
  have HR2 := Aside0.mk (blk_on hb HR.out)
  have HB2 := Aside0.mk (below_step HB1.out hb)
  clear hb q0 q1
  have q0 : ∀ o, (w2.alloc o).cell? ⟨w.heap.size, 0, none⟩ = some (.int .i64 a) := fun o => (blk_cell (blk_alloc HS2.out o) 0).trans rfl
  have q1 : ∀ o, (w2.alloc o).cell? ⟨w.heap.size, 1, none⟩ = some (.int .i64 b) := fun o => (blk_cell (blk_alloc HS2.out o) 1).trans rfl
  have q2 : ∀ o, (w2.alloc o).cell? ⟨w.heap.size, 2, none⟩ = some (.int .i64 c) := fun o => (blk_cell (blk_alloc HS2.out o) 2).trans rfl
  have q3 : ∀ o, (w2.alloc o).cell? ⟨w.heap.size, 3, none⟩ = some (.int .i64 d) := fun o => (blk_cell (blk_alloc HS2.out o) 3).trans rfl
  have q4 : ∀ o, (w2.alloc o).cell? ⟨w.heap.size + 1, 0, none⟩ = some (.int .i64 e) := fun o => (blk_cell (blk_alloc HP2.out o) 0).trans rfl
  have q5 : ∀ o, (w2.alloc o).cell? ⟨w.heap.size + 1, 1, none⟩ = some (.int .i64 f) := fun o => (blk_cell (blk_alloc HP2.out o) 1).trans rfl
  have HQ := Aside0.mk (heap_alloc_new w2 (.cells #[.nilFunc, .nilFunc, .nilFunc] 80))
  have r0 : (w2.alloc (.cells #[.nilFunc, .nilFunc, .nilFunc] 80)).cell? ⟨w2.heap.size, 0, none⟩ = some .nilFunc := (blk_cell HQ.out 0).trans rfl
  have s0 := blk_frozen HQ.out 0
  have r1 : (w2.alloc (.cells #[.nilFunc, .nilFunc, .nilFunc] 80)).cell? ⟨w2.heap.size, 1, none⟩ = some .nilFunc := (blk_cell HQ.out 1).trans rfl
  have s1 := blk_frozen HQ.out 1
  have r2 : (w2.alloc (.cells #[.nilFunc, .nilFunc, .nilFunc] 80)).cell? ⟨w2.heap.size, 2, none⟩ = some .nilFunc := (blk_cell HQ.out 2).trans rfl
  have s2 := blk_frozen HQ.out 2
  go_wp2_with fail
  refine (impl_standOf.calls a b c d e f 2 _ H2.out).mono ?_
  rintro x w3 ⟨rfl, hb⟩
  have HK := Aside0.mk (blk_on hb (heap_alloc_new w2 (.cells #[.func (.func 53) #[] #[.pointer (some ⟨w.heap.size, 0, none⟩), .pointer (some ⟨w.heap.size + 1, 0, none⟩)], .func (.func 55) #[] #[.pointer (some ⟨w.heap.size, 0, none⟩), .pointer (some ⟨w.heap.size + 1, 0, none⟩)], .func (.func 57) #[] #[.pointer (some ⟨w.heap.size, 0, none⟩), .pointer (some ⟨w.heap.size + 1, 0, none⟩)]] 80)))
  have HS3 := Aside0.mk (blk_on hb (blk_alloc HS2.out (.cells #[.func (.func 53) #[] #[.pointer (some ⟨w.heap.size, 0, none⟩), .pointer (some ⟨w.heap.size + 1, 0, none⟩)], .func (.func 55) #[] #[.pointer (some ⟨w.heap.size, 0, none⟩), .pointer (some ⟨w.heap.size + 1, 0, none⟩)], .func (.func 57) #[] #[.pointer (some ⟨w.heap.size, 0, none⟩), .pointer (some ⟨w.heap.size + 1, 0, none⟩)]] 80)))
  have HP3 := Aside0.mk (blk_on hb (blk_alloc HP2.out (.cells #[.func (.func 53) #[] #[.pointer (some ⟨w.heap.size, 0, none⟩), .pointer (some ⟨w.heap.size + 1, 0, none⟩)], .func (.func 55) #[] #[.pointer (some ⟨w.heap.size, 0, none⟩), .pointer (some ⟨w.heap.size + 1, 0, none⟩)], .func (.func 57) #[] #[.pointer (some ⟨w.heap.size, 0, none⟩), .pointer (some ⟨w.heap.size + 1, 0, none⟩)]] 80)))
  have HR3 := Aside0.mk (blk_on hb (blk_alloc HR2.out (.cells #[.func (.func 53) #[] #[.pointer (some ⟨w.heap.size, 0, none⟩), .pointer (some ⟨w.heap.size + 1, 0, none⟩)], .func (.func 55) #[] #[.pointer (some ⟨w.heap.size, 0, none⟩), .pointer (some ⟨w.heap.size + 1, 0, none⟩)], .func (.func 57) #[] #[.pointer (some ⟨w.heap.size, 0, none⟩), .pointer (some ⟨w.heap.size + 1, 0, none⟩)]] 80)))
  have HB3 := Aside0.mk (below_step (below_alloc HB2.out (.cells #[.func (.func 53) #[] #[.pointer (some ⟨w.heap.size, 0, none⟩), .pointer (some ⟨w.heap.size + 1, 0, none⟩)], .func (.func 55) #[] #[.pointer (some ⟨w.heap.size, 0, none⟩), .pointer (some ⟨w.heap.size + 1, 0, none⟩)], .func (.func 57) #[] #[.pointer (some ⟨w.heap.size, 0, none⟩), .pointer (some ⟨w.heap.size + 1, 0, none⟩)]] 80)) hb)
  clear hb q0 q1 q2 q3 q4 q5 r0 r1 r2 s0 s1 s2 HQ
  have q0 : w3.cell? ⟨w2.heap.size, 2, none⟩ = some (.func (.func 57) #[] #[.pointer (some ⟨w.heap.size, 0, none⟩), .pointer (some ⟨w.heap.size + 1, 0, none⟩)]) := (blk_cell HK.out 2).trans rfl
  go_wp2_with fail
  refine (far3 w.heap.size (w.heap.size + 1) a b c d e f w3 k HS3.out HP3.out HW.out HF.out).mono ?_
  rintro x w4 ⟨rfl, hb⟩
  have HR4 := Aside0.mk (blk_on hb HR3.out)
  have HB4 := Aside0.mk (below_step HB3.out hb)
  clear hb q0
  have HN := Aside0.mk (heap_alloc_new w4 (.cells #[.int .i64 0, .int .i64 0] 25))
  have u0 : (w4.alloc (.cells #[.int .i64 0, .int .i64 0] 25)).cell? ⟨w4.heap.size, 0, none⟩ = some (.int .i64 0) := (blk_cell HN.out 0).trans rfl
  have u1 : (w4.alloc (.cells #[.int .i64 0, .int .i64 0] 25)).cell? ⟨w4.heap.size, 1, none⟩ = some (.int .i64 0) := (blk_cell HN.out 1).trans rfl
  have u2 := blk_frozen HN.out 0
  have u3 := blk_frozen HN.out 1
  have q0 : ∀ o, (w4.alloc o).cell? ⟨w.heap.size + 1 + 1, 0, none⟩ = some (.int .i64 0) := fun o => (blk_cell (blk_alloc HR4.out o) 0).trans rfl
  have q1 : ∀ o, (w4.alloc o).cell? ⟨w.heap.size + 1 + 1, 1, none⟩ = some (.int .i64 0) := fun o => (blk_cell (blk_alloc HR4.out o) 1).trans rfl
  have q2 := fun o => blk_frozen (blk_alloc HR4.out o) 0
  have q3 := fun o => blk_frozen (blk_alloc HR4.out o) 1
  go_wp2_with fail
  refine bodyPost_ret (results_cell_row rfl _ _ (w.heap.size + 1 + 1) 25 #[.int .i64 n1, .int .i64 n2] (0, 0) _ rfl (by refine blk_put (cs := #[.int .i64 n1, .int .i64 0]) ?_ 1 _ rfl; refine blk_put (cs := #[.int .i64 0, .int .i64 0]) ?_ 0 _ rfl; exact blk_alloc HR4.out _) Tryd.underlying25 rfl (by kernel_rfl)) rfl ?_
  exact ⟨rfl, by refine below_set ?_ (by omega); refine below_set ?_ (by omega); exact below_alloc HB4.out _⟩
end
def impl_SegFar.f (a b c d e f : Int) : Option (Int × Int) := some ((segFar ((a, b), (c, d)) (e, f)).1, (segFar ((a, b), (c, d)) (e, f)).2)
theorem impl_SegFar.calls (a b c d e f r1 r2 : Int) (w : World) (h : impl_SegFar.f a b c d e f = some (r1, r2)) :
    Calls Tryd.prog 24 #[.agg #[.int .i64 a, .int .i64 b, .int .i64 c, .int .i64 d], .agg #[.int .i64 e, .int .i64 f]] w fun x w' => x = .returned (.agg #[.int .i64 r1, .int .i64 r2]) ∧ Below w.heap.size w w' := by
  unfold impl_SegFar.f at h
  simp only [Option.some.injEq, Prod.mk.injEq] at h
  obtain ⟨rfl, rfl⟩ := h
  unfold segFar
  cases hs : segOk ((a, b), (c, d)) with
  | false => exact segFar_bad1 a b c d e f w ((iSegOk a b c d).trans (congrArg some hs))
  | true =>
    have h1 := (iSegOk a b c d).trans (congrArg some hs)
    cases hp : ptOk (e, f) with
    | false => exact segFar_bad2 a b c d e f w h1 ((iPtOk e f).trans (congrArg some hp))
    | true =>
      have h2 := (iPtOk e f).trans (congrArg some hp)
      obtain ⟨o1, o2⟩ := segOk_ends hs
      have h3 := iStandOf hs hp
      have hin := far_inR hs hp
      simp only [Bool.and_self, if_true]
      unfold far at hin ⊢
      by_cases z : dot (a, b) (c, d) (e, f) ≤ 0
      · rw [if_pos z] at h3 hin ⊢
        rw [red_whole (dot_self_nn _ _) (Int.le_trans (dot_bound o1 hp hp).2 (by decide))]
        exact segFar_way1 (t := 0) a b c d e f w 100000 h1 h2 h3 (iBetween o1 hp) (iFracOf1 (Nat.le_refl _) (dot_self_nn _ _) (Int.le_trans (dot_bound o1 hp hp).2 (by decide)))
      · rw [if_neg z] at h3 hin ⊢
        by_cases z' : dot (a, b) (c, d) (c, d) ≤ dot (a, b) (c, d) (e, f)
        · rw [if_pos z'] at h3 hin ⊢
          rw [red_whole (dot_self_nn _ _) (Int.le_trans (dot_bound o2 hp hp).2 (by decide))]
          exact segFar_way3 (t := 0) a b c d e f w 100000 h1 h2 h3 (iBetween o2 hp) (iFracOf1 (Nat.le_refl _) (dot_self_nn _ _) (Int.le_trans (dot_bound o2 hp hp).2 (by decide)))
        · rw [if_neg z'] at h3 hin ⊢
          have hc := cross_bound o1 o2 hp
          have hq := sq_bound hc.1 hc.2
          have hq' := isq_nn (cross (a, b) (c, d) (e, f))
          exact segFar_way2 a b c d e f w 100000 h1 h2 h3 (iCross o1 o2 hp) (iBetween o1 o2) (by rw [w64 (x := cross (a, b) (c, d) (e, f) * cross (a, b) (c, d) (e, f)) (by omega) (by omega)]; exact iFracOf (Nat.le_refl _) hin)
end Go.Proofs.YtnponnkcfgjeoaaDoor.X
end
section
namespace Go.Proofs.YtnponnkcfgjeoaaDoor.X
open Go.RowKit Go.Proofs.YtnponnkcfgjeoaaDoorW.PrintWords Go.Proofs.YtnponnkcfgjeoaaDoorW.PrintLast Go.Proofs.YtnponnkcfgjeoaaDoorW.PrintMore
attribute [local go_sem] max2_int min2_int max_two min_two max_three min_three max_four min_four
set_option linter.unusedVariables false
set_option linter.unusedSimpArgs false
attribute [local go_sem high] eqA25
def laws_FnFarLonger.j0 : Nat → Bool → Int → Int → Int → Int → Int → Int → Int → Int → Option (Bool)
  | 0, _, _, _, _, _, _, _, _, _ => none
  | k + 1, x32, x382000, x382001, x382002, x382003, x383000, x383001, x386000, x386001 => if x32 = true then ((spec_SegFar.f k x382000 x382001 x382002 x382003 x383000 x383001).bind fun bt390 => (some (x386000 == bt390.1 && (x386001 == bt390.2)))) else ((impl_SegOk.f x382000 x382001 (wrap64 ((wrap64 (2 * x382002)) - x382000)) (wrap64 ((wrap64 (2 * x382003)) - x382001))).bind fun t393 => (if t393 = true then ((impl_SegFar.f x382000 x382001 (wrap64 ((wrap64 (2 * x382002)) - x382000)) (wrap64 ((wrap64 (2 * x382003)) - x382001)) x383000 x383001).bind fun bt394 => ((impl_FracCmp.f bt394.1 bt394.2 x386000 x386001).bind fun t396 => (if t396 ≤ 0 then ((impl_SegHas.f k x382000 x382001 (wrap64 ((wrap64 (2 * x382002)) - x382000)) (wrap64 ((wrap64 (2 * x382003)) - x382001)) x382002 x382003).bind fun t397 => (some t397)) else (some false)))) else (some true)))
def laws_FnFarLonger.f (k : Nat) (l0 : List Int) : Option (Bool) := if (l0.length : Int) > 1048576 then (some true) else ((spec_DrawSegFar.f k l0).bind fun bt375 => ((impl_SegFar.f bt375.1 bt375.2.1 bt375.2.2.1 bt375.2.2.2.1 bt375.2.2.2.2.1 bt375.2.2.2.2.2).bind fun bt383 => ((spec_SegFar.f k bt375.1 bt375.2.1 bt375.2.2.1 bt375.2.2.2.1 bt375.2.2.2.2.1 bt375.2.2.2.2.2).bind fun bt386 => (if (!(bt383.1 == bt386.1) || (!(bt383.2 == bt386.2))) = true then (laws_FnFarLonger.j0 k true bt375.1 bt375.2.1 bt375.2.2.1 bt375.2.2.2.1 bt375.2.2.2.2.1 bt375.2.2.2.2.2 bt383.1 bt383.2) else ((spec_SegOk.f bt375.1 bt375.2.1 bt375.2.2.1 bt375.2.2.2.1).bind fun t388 => (if t388 = true then ((spec_PtOk.f bt375.2.2.2.2.1 bt375.2.2.2.2.2).bind fun t389 => (laws_FnFarLonger.j0 k (!t389) bt375.1 bt375.2.1 bt375.2.2.1 bt375.2.2.2.1 bt375.2.2.2.2.1 bt375.2.2.2.2.2 bt383.1 bt383.2)) else (laws_FnFarLonger.j0 k true bt375.1 bt375.2.1 bt375.2.2.1 bt375.2.2.2.1 bt375.2.2.2.2.1 bt375.2.2.2.2.2 bt383.1 bt383.2)))))))
def laws_FnFarLonger.T5 : Bool × List (List Nat × List Nat) := (true, [([], []), ([], []), ([], []), ([1, 2], [1, 2]), ([0, 3], [0, 3]), ([4, 3], [4]), ([5], [5]), ([6, 5, 5], [5, 6]), ([7, 5], [5, 7]), ([5, 8], [5, 8]), ([9, 7], [9]), ([10], [10]), ([11, 10, 10], [10, 11]), ([12, 10], [10, 12]), ([10, 13], [10, 13])])
def laws_FnFarLonger.B5 : List Nat := [0, 0, 0, 6, 15, 31, 63, 127, 255, 511, 1023, 2047, 4095, 8191, 16383]
theorem laws_FnFarLonger.tab5 : rtab .any (opsOf Tryd.f8 5) = laws_FnFarLonger.T5 := by kernel_rfl
theorem laws_FnFarLonger.bits5 : waitsOk laws_FnFarLonger.T5.2 laws_FnFarLonger.B5 = true := by kernel_rfl
def laws_FnFarLonger.T10 : Bool × List (List Nat × List Nat) := (true, [([], []), ([], []), ([0, 1], [0, 1]), ([], []), ([2, 3, 2], [2, 3]), ([4], [4]), ([5, 4], [5]), ([6], [6]), ([6], [6]), ([8, 6], [6, 8]), ([7, 9, 6, 6], [6, 7, 9]), ([6, 10], [6, 10]), ([11, 10, 0, 1, 2, 3, 4, 5, 6, 7, 8, 9, 10, 11], [11])])
def laws_FnFarLonger.B10 : List Nat := [0, 0, 3, 0, 15, 31, 63, 127, 127, 383, 1023, 2047, 4095]
theorem laws_FnFarLonger.tab10 : rtab .any (opsOf Tryd.f8 10) = laws_FnFarLonger.T10 := by kernel_rfl
theorem laws_FnFarLonger.bits10 : waitsOk laws_FnFarLonger.T10.2 laws_FnFarLonger.B10 = true := by kernel_rfl
set_option maxHeartbeats 8000000 in
set_option maxRecDepth 100000 in
theorem laws_FnFarLonger.calls (k : Nat) (A0 : Option Addr) (c0 : Nat) (l0 : List Int) (r : Bool) (w : World) (hr0 : Kd.C (Kd.int .u8) w A0 l0.length l0) (hc0 : l0.length ≤ c0) (hE : ErrW w) (h : laws_FnFarLonger.f k l0 = some r) :
    Calls Tryd.prog 8 #[.slice A0 l0.length c0] w fun e w' => e = .returned (.bool r) ∧ Below w.heap.size w w' := by
  have hu40 := Tryd.underlying40
  have hu38 := Tryd.underlying38
  have hu25 := Tryd.underlying25
  have HR0 := Aside0.mk hr0
  have HC0 := Aside0.mk hc0
  clear hr0 hc0
  have HB := Aside0.mk (Below.refl w.heap.size w)
  have HE := Aside0.mk hE
  clear hE
  have H : (if (l0.length : Int) > 1048576 then (some true) else ((spec_DrawSegFar.f k l0).bind fun bt375 => ((impl_SegFar.f bt375.1 bt375.2.1 bt375.2.2.1 bt375.2.2.2.1 bt375.2.2.2.2.1 bt375.2.2.2.2.2).bind fun bt383 => ((spec_SegFar.f k bt375.1 bt375.2.1 bt375.2.2.1 bt375.2.2.2.1 bt375.2.2.2.2.1 bt375.2.2.2.2.2).bind fun bt386 => (if (!(bt383.1 == bt386.1) || (!(bt383.2 == bt386.2))) = true then (laws_FnFarLonger.j0 k true bt375.1 bt375.2.1 bt375.2.2.1 bt375.2.2.2.1 bt375.2.2.2.2.1 bt375.2.2.2.2.2 bt383.1 bt383.2) else ((spec_SegOk.f bt375.1 bt375.2.1 bt375.2.2.1 bt375.2.2.2.1).bind fun t388 => (if t388 = true then ((spec_PtOk.f bt375.2.2.2.2.1 bt375.2.2.2.2.2).bind fun t389 => (laws_FnFarLonger.j0 k (!t389) bt375.1 bt375.2.1 bt375.2.2.1 bt375.2.2.2.1 bt375.2.2.2.2.1 bt375.2.2.2.2.2 bt383.1 bt383.2)) else (laws_FnFarLonger.j0 k true bt375.1 bt375.2.1 bt375.2.2.1 bt375.2.2.2.1 bt375.2.2.2.2.1 bt375.2.2.2.2.2 bt383.1 bt383.2)))))))) = some r := h
  clear h
  by_cases c2 : (l0.length : Int) > 1048576
  · rw [if_pos c2] at H
    have c2b0 : decide (1048576 < (l0.length : Int)) = true := decide_eq_true c2
    have c2b1 : decide (1048576 < l0.length) = true := decide_eq_true (by omega)
    clear c2
    obtain rfl := Option.some.inj H
    go_enter Tryd.func8, Tryd.ntmps8
    go_wp2
    go_ret
    exact ⟨by first | rfl | (simp [errW_none, errW_some] <;> rfl) | (simp [*, errW_none, errW_some] <;> rfl), by repeat (first | (with_reducible first | exact HB.out | apply below_alloc | apply pw_below_drewN | apply below_drew1) | exact HB.out)⟩
  · rw [if_neg c2] at H
    have c2b0 : decide (1048576 < (l0.length : Int)) = false := decide_eq_false c2
    have c2b1 : decide (1048576 < l0.length) = false := decide_eq_false (by omega)
    clear c2
    replace H := Option.bind_eq_some_iff.mp H
    obtain ⟨⟨t375, t376, t377, t378, t379, t380⟩, A30, H⟩ := H
    replace H : ((impl_SegFar.f t375 t376 t377 t378 t379 t380).bind fun bt383 => ((spec_SegFar.f k t375 t376 t377 t378 t379 t380).bind fun bt386 => (if (!(bt383.1 == bt386.1) || (!(bt383.2 == bt386.2))) = true then (laws_FnFarLonger.j0 k true t375 t376 t377 t378 t379 t380 bt383.1 bt383.2) else ((spec_SegOk.f t375 t376 t377 t378).bind fun t388 => (if t388 = true then ((spec_PtOk.f t379 t380).bind fun t389 => (laws_FnFarLonger.j0 k (!t389) t375 t376 t377 t378 t379 t380 bt383.1 bt383.2)) else (laws_FnFarLonger.j0 k true t375 t376 t377 t378 t379 t380 bt383.1 bt383.2)))))) = some r := H
    have A3 := Aside0.mk A30
    clear A30
    replace H := Option.bind_eq_some_iff.mp H
    obtain ⟨⟨t383, t384⟩, A40, H⟩ := H
    replace H : ((spec_SegFar.f k t375 t376 t377 t378 t379 t380).bind fun bt386 => (if (!(t383 == bt386.1) || (!(t384 == bt386.2))) = true then (laws_FnFarLonger.j0 k true t375 t376 t377 t378 t379 t380 t383 t384) else ((spec_SegOk.f t375 t376 t377 t378).bind fun t388 => (if t388 = true then ((spec_PtOk.f t379 t380).bind fun t389 => (laws_FnFarLonger.j0 k (!t389) t375 t376 t377 t378 t379 t380 t383 t384)) else (laws_FnFarLonger.j0 k true t375 t376 t377 t378 t379 t380 t383 t384))))) = some r := H
    have A4 := Aside0.mk A40
    clear A40
    have HC5 := Aside0.mk H
    clear H
    go_enter Tryd.func8, Tryd.ntmps8
    go_upto_region 5 with (first | ((with_reducible refine gate_callee (f := 23) rfl ?_); refine goesL_ (some 12) rfl rfl Tryd.func23 (by kernel_rfl) rfl #[.slice A0 l0.length c0] rfl (by (try simp only [List.map_toArray, List.map_cons, List.map_nil]); first | done | rfl | (simp only [List.length_drop, List.length_take]; rfl)) ?_; (with_reducible refine (spec_DrawSegFar.calls k _ _ l0 t375 t376 t377 t378 t379 t380 _ ?side1 ?side2 A3.out).mono ?_); (case side1 => repeat (first | exact HR0.out | (with_reducible refine Kd.C_alloc ?_ _) | (with_reducible refine Kd.C_drewN ?_ _) | (with_reducible refine Kd.C_drew ?_))); (case side2 => exact HC0.out); rintro e w6 ⟨rfl, hb⟩; refine ⟨_, rfl, ?_⟩; have n0_ := Aside0.mk (below_step (by repeat (first | (with_reducible first | exact HB.out | apply below_alloc | apply pw_below_drewN | apply below_drew1) | exact HB.out)) hb); clear HB; have HB := n0_; clear n0_; (try clear hb); (try clear hb2); (try clear hk); (try clear hi)) | ((with_reducible refine gate_dst (N := 3) rfl ?_); refine box_event ?hg (N := 3) ?hd (cs := #[.int .i64 0, .int .i64 0, .int .i64 0, .int .i64 0]) (t := 40) ?hr ?_; (case hd => rfl); (case hg => rfl); (case hr => first | (go_simp; done) | (go_simp; rfl)); intro gb381 hg w7 hbox hb; have n0_ := Aside0.mk (below_step (by repeat (first | (with_reducible first | exact HB.out | apply below_alloc | apply pw_below_drewN | apply below_drew1) | exact HB.out)) hb); have n1_ := Aside0.mk (hbox); have n2_ := Aside0.mk ((by rw [hg]; exact (below_size (by repeat (first | (with_reducible first | exact HB.out | apply below_alloc | apply pw_below_drewN | apply below_drew1) | exact HB.out))) : w.heap.size ≤ gb381)); have n3_ := Aside0.mk ((by rw [hg]; exact (below_size (by repeat (first | (with_reducible first | exact HB.out | apply below_alloc | apply pw_below_drewN | apply below_drew1) | exact HB.out))) : w.heap.size ≤ gb381)); clear HB; have HB := n0_; have BK381 := n1_; have GW381 := n2_; have GE381 := n3_; clear n0_ n1_ n2_ n3_; clear hb hbox hg) | ((with_reducible refine gate_dst (N := 4) rfl ?_); refine box_event ?hg (N := 4) ?hd (cs := #[.int .i64 0, .int .i64 0]) (t := 38) ?hr ?_; (case hd => rfl); (case hg => rfl); (case hr => first | (go_simp; done) | (go_simp; rfl)); intro gb382 hg w8 hbox hb; have n0_ := Aside0.mk (blk_below (g := gb381) (o := .cells #[.int .i64 0, .int .i64 0, .int .i64 0, .int .i64 0] 40 (0, 0)) (by (with_reducible repeat (first | refine blk_drewN ?_ _ | refine blk_drew ?_ | refine blk_alloc ?_ _)); exact BK381.out) hb); have n1_ := Aside0.mk (below_step (by repeat (first | (with_reducible first | exact HB.out | apply below_alloc | apply pw_below_drewN | apply below_drew1 | refine below_set ?_ GE381.out) | exact HB.out)) hb); have n2_ := Aside0.mk (hbox); have n3_ := Aside0.mk ((by rw [hg]; exact (below_size (by repeat (first | (with_reducible first | exact HB.out | apply below_alloc | apply pw_below_drewN | apply below_drew1 | refine below_set ?_ GE381.out) | exact HB.out))) : w.heap.size ≤ gb382)); have n4_ := Aside0.mk ((by rw [hg]; exact (below_size (by repeat (first | (with_reducible first | exact HB.out | apply below_alloc | apply pw_below_drewN | apply below_drew1 | refine below_set ?_ GE381.out) | exact HB.out))) : w.heap.size ≤ gb382)); have n5_ := Aside0.mk ((by rw [hg]; exact Nat.ne_of_lt (blk_lt (g := gb381) (o := .cells #[.int .i64 0, .int .i64 0, .int .i64 0, .int .i64 0] 40 (0, 0)) (by (with_reducible repeat (first | refine blk_drewN ?_ _ | refine blk_drew ?_ | refine blk_alloc ?_ _)); exact BK381.out)) : gb381 ≠ gb382)); have n6_ := Aside0.mk ((by rw [hg]; exact Nat.ne_of_gt (blk_lt (g := gb381) (o := .cells #[.int .i64 0, .int .i64 0, .int .i64 0, .int .i64 0] 40 (0, 0)) (by (with_reducible repeat (first | refine blk_drewN ?_ _ | refine blk_drew ?_ | refine blk_alloc ?_ _)); exact BK381.out)) : gb382 ≠ gb381)); clear BK381; clear HB; have BK381 := n0_; have HB := n1_; have BK382 := n2_; have GW382 := n3_; have GE382 := n4_; have NB381_382 := n5_; have NB382_381 := n6_; clear n0_ n1_ n2_ n3_ n4_ n5_ n6_; clear hb hbox hg; have hnb9 := NB381_382.out; have hnc9 := NB382_381.out; have hcz10_0 : w8.cell? ⟨gb381, 0, none⟩ = some (.int .i64 0) := (blk_cell BK381.out 0).trans rfl; have hcz10_1 : w8.cell? ⟨gb381, 1, none⟩ = some (.int .i64 0) := (blk_cell BK381.out 1).trans rfl; have hcz10_2 : w8.cell? ⟨gb381, 2, none⟩ = some (.int .i64 0) := (blk_cell BK381.out 2).trans rfl; have hcz10_3 : w8.cell? ⟨gb381, 3, none⟩ = some (.int .i64 0) := (blk_cell BK381.out 3).trans rfl; have hfz10_0 := blk_frozen BK381.out 0; have hfz10_1 := blk_frozen BK381.out 1; have hfz10_2 := blk_frozen BK381.out 2; have hfz10_3 := blk_frozen BK381.out 3; have hcz11_0 : w8.cell? ⟨gb382, 0, none⟩ = some (.int .i64 0) := (blk_cell BK382.out 0).trans rfl; have hcz11_1 : w8.cell? ⟨gb382, 1, none⟩ = some (.int .i64 0) := (blk_cell BK382.out 1).trans rfl; have hfz11_0 := blk_frozen BK382.out 0; have hfz11_1 := blk_frozen BK382.out 1) | ((with_reducible refine gate_callee (f := 24) rfl ?_); refine goesL_ (some 17) rfl rfl Tryd.func24 (by kernel_rfl) rfl #[.agg #[.int .i64 t375, .int .i64 t376, .int .i64 t377, .int .i64 t378], .agg #[.int .i64 t379, .int .i64 t380]] rfl (by (try simp only [List.map_toArray, List.map_cons, List.map_nil]); first | done | rfl | (simp only [List.length_drop, List.length_take]; rfl)) ?_; (with_reducible refine (impl_SegFar.calls t375 t376 t377 t378 t379 t380 t383 t384 _ A4.out).mono ?_); rintro e w12 ⟨rfl, hb⟩; refine ⟨_, rfl, ?_⟩; have n0_ := Aside0.mk (blk_below (g := gb381) (o := .cells #[.int .i64 t375, .int .i64 t376, .int .i64 t377, .int .i64 t378] 40 (0, 0)) (by (with_reducible repeat (first | refine blk_drewN ?_ _ | refine blk_drew ?_ | refine blk_alloc ?_ _)); refine blk_far ?_ NB381_382.out _; (with_reducible repeat (first | refine blk_drewN ?_ _ | refine blk_drew ?_ | refine blk_alloc ?_ _)); refine blk_far ?_ NB381_382.out _; (with_reducible repeat (first | refine blk_drewN ?_ _ | refine blk_drew ?_ | refine blk_alloc ?_ _)); refine blk_put (cs := #[.int .i64 t375, .int .i64 t376, .int .i64 t377, .int .i64 0]) ?_ 3 _ rfl; (with_reducible repeat (first | refine blk_drewN ?_ _ | refine blk_drew ?_ | refine blk_alloc ?_ _)); refine blk_put (cs := #[.int .i64 t375, .int .i64 t376, .int .i64 0, .int .i64 0]) ?_ 2 _ rfl; (with_reducible repeat (first | refine blk_drewN ?_ _ | refine blk_drew ?_ | refine blk_alloc ?_ _)); refine blk_put (cs := #[.int .i64 t375, .int .i64 0, .int .i64 0, .int .i64 0]) ?_ 1 _ rfl; (with_reducible repeat (first | refine blk_drewN ?_ _ | refine blk_drew ?_ | refine blk_alloc ?_ _)); refine blk_put (cs := #[.int .i64 0, .int .i64 0, .int .i64 0, .int .i64 0]) ?_ 0 _ rfl; (with_reducible repeat (first | refine blk_drewN ?_ _ | refine blk_drew ?_ | refine blk_alloc ?_ _)); exact BK381.out) hb); have n1_ := Aside0.mk (blk_below (g := gb382) (o := .cells #[.int .i64 t379, .int .i64 t380] 38 (0, 0)) (by (with_reducible repeat (first | refine blk_drewN ?_ _ | refine blk_drew ?_ | refine blk_alloc ?_ _)); refine blk_put (cs := #[.int .i64 t379, .int .i64 0]) ?_ 1 _ rfl; (with_reducible repeat (first | refine blk_drewN ?_ _ | refine blk_drew ?_ | refine blk_alloc ?_ _)); refine blk_put (cs := #[.int .i64 0, .int .i64 0]) ?_ 0 _ rfl; (with_reducible repeat (first | refine blk_drewN ?_ _ | refine blk_drew ?_ | refine blk_alloc ?_ _)); refine blk_far ?_ NB382_381.out _; (with_reducible repeat (first | refine blk_drewN ?_ _ | refine blk_drew ?_ | refine blk_alloc ?_ _)); refine blk_far ?_ NB382_381.out _; (with_reducible repeat (first | refine blk_drewN ?_ _ | refine blk_drew ?_ | refine blk_alloc ?_ _)); refine blk_far ?_ NB382_381.out _; (with_reducible repeat (first | refine blk_drewN ?_ _ | refine blk_drew ?_ | refine blk_alloc ?_ _)); refine blk_far ?_ NB382_381.out _; (with_reducible repeat (first | refine blk_drewN ?_ _ | refine blk_drew ?_ | refine blk_alloc ?_ _)); exact BK382.out) hb); have n2_ := Aside0.mk (below_step (by repeat (first | (with_reducible first | exact HB.out | apply below_alloc | apply pw_below_drewN | apply below_drew1 | refine below_set ?_ GE381.out | refine below_set ?_ GE382.out) | exact HB.out)) hb); clear BK381; clear BK382; clear HB; have BK381 := n0_; have BK382 := n1_; have HB := n2_; clear n0_ n1_ n2_; (try clear hb); (try clear hb2); (try clear hk); (try clear hi)) | ((with_reducible refine gate_dst (N := 5) rfl ?_); refine box_event ?hg (N := 5) ?hd (cs := #[.int .i64 0, .int .i64 0]) (t := 25) ?hr ?_; (case hd => rfl); (case hg => rfl); (case hr => first | (go_simp; done) | (go_simp; rfl)); intro gb385 hg w13 hbox hb; have n0_ := Aside0.mk (blk_below (g := gb381) (o := .cells #[.int .i64 t375, .int .i64 t376, .int .i64 t377, .int .i64 t378] 40 (0, 0)) (by (with_reducible repeat (first | refine blk_drewN ?_ _ | refine blk_drew ?_ | refine blk_alloc ?_ _)); exact BK381.out) hb); have n1_ := Aside0.mk (blk_below (g := gb382) (o := .cells #[.int .i64 t379, .int .i64 t380] 38 (0, 0)) (by (with_reducible repeat (first | refine blk_drewN ?_ _ | refine blk_drew ?_ | refine blk_alloc ?_ _)); exact BK382.out) hb); have n2_ := Aside0.mk (below_step (by repeat (first | (with_reducible first | exact HB.out | apply below_alloc | apply pw_below_drewN | apply below_drew1 | refine below_set ?_ GE381.out | refine below_set ?_ GE382.out) | exact HB.out)) hb); have n3_ := Aside0.mk (hbox); have n4_ := Aside0.mk ((by rw [hg]; exact (below_size (by repeat (first | (with_reducible first | exact HB.out | apply below_alloc | apply pw_below_drewN | apply below_drew1 | refine below_set ?_ GE381.out | refine below_set ?_ GE382.out) | exact HB.out))) : w.heap.size ≤ gb385)); have n5_ := Aside0.mk ((by rw [hg]; exact (below_size (by repeat (first | (with_reducible first | exact HB.out | apply below_alloc | apply pw_below_drewN | apply below_drew1 | refine below_set ?_ GE381.out | refine below_set ?_ GE382.out) | exact HB.out))) : w.heap.size ≤ gb385)); have n6_ := Aside0.mk ((by rw [hg]; exact Nat.ne_of_lt (blk_lt (g := gb381) (o := .cells #[.int .i64 t375, .int .i64 t376, .int .i64 t377, .int .i64 t378] 40 (0, 0)) (by (with_reducible repeat (first | refine blk_drewN ?_ _ | refine blk_drew ?_ | refine blk_alloc ?_ _)); exact BK381.out)) : gb381 ≠ gb385)); have n7_ := Aside0.mk ((by rw [hg]; exact Nat.ne_of_gt (blk_lt (g := gb381) (o := .cells #[.int .i64 t375, .int .i64 t376, .int .i64 t377, .int .i64 t378] 40 (0, 0)) (by (with_reducible repeat (first | refine blk_drewN ?_ _ | refine blk_drew ?_ | refine blk_alloc ?_ _)); exact BK381.out)) : gb385 ≠ gb381)); have n8_ := Aside0.mk ((by rw [hg]; exact Nat.ne_of_lt (blk_lt (g := gb382) (o := .cells #[.int .i64 t379, .int .i64 t380] 38 (0, 0)) (by (with_reducible repeat (first | refine blk_drewN ?_ _ | refine blk_drew ?_ | refine blk_alloc ?_ _)); exact BK382.out)) : gb382 ≠ gb385)); have n9_ := Aside0.mk ((by rw [hg]; exact Nat.ne_of_gt (blk_lt (g := gb382) (o := .cells #[.int .i64 t379, .int .i64 t380] 38 (0, 0)) (by (with_reducible repeat (first | refine blk_drewN ?_ _ | refine blk_drew ?_ | refine blk_alloc ?_ _)); exact BK382.out)) : gb385 ≠ gb382)); clear BK381; clear BK382; clear HB; have BK381 := n0_; have BK382 := n1_; have HB := n2_; have BK385 := n3_; have GW385 := n4_; have GE385 := n5_; have NB381_385 := n6_; have NB385_381 := n7_; have NB382_385 := n8_; have NB385_382 := n9_; clear n0_ n1_ n2_ n3_ n4_ n5_ n6_ n7_ n8_ n9_; clear hb hbox hg; have hnb14 := NB385_381.out; have hnc14 := NB381_385.out; have hnb15 := NB385_382.out; have hnc15 := NB382_385.out; have hcz16_0 : w13.cell? ⟨gb385, 0, none⟩ = some (.int .i64 0) := (blk_cell BK385.out 0).trans rfl; have hcz16_1 : w13.cell? ⟨gb385, 1, none⟩ = some (.int .i64 0) := (blk_cell BK385.out 1).trans rfl; have hfz16_0 := blk_frozen BK385.out 0; have hfz16_1 := blk_frozen BK385.out 1))
    (try simp only [Act.put, List.setIfInBounds_toArray, List.set_cons_zero, List.set_cons_succ])
    go_cut [32] (fun v32 wc => ∃ (kq : Nat) (x32_4 : Bool), v32 = .bool x32_4 ∧ Aside0 (laws_FnFarLonger.j0 kq x32_4 t375 t376 t377 t378 t379 t380 t383 t384 = some r) ∧ Aside0 (kq ≤ k) ∧ Aside0 (wc.heap[gb381]? = some (.cells #[.int .i64 t375, .int .i64 t376, .int .i64 t377, .int .i64 t378] 40 (0, 0))) ∧ Aside0 (wc.heap[gb382]? = some (.cells #[.int .i64 t379, .int .i64 t380] 38 (0, 0))) ∧ Aside0 (wc.heap[gb385]? = some (.cells #[.int .i64 t383, .int .i64 t384] 25 (0, 0))) ∧ Aside0 (Below w.heap.size w wc))
    case first =>
      have H := HC5.out
      clear HC5
      replace H := Option.bind_eq_some_iff.mp H
      obtain ⟨⟨t386, t387⟩, A170, H⟩ := H
      replace H : (if (!(t383 == t386) || (!(t384 == t387))) = true then (laws_FnFarLonger.j0 k true t375 t376 t377 t378 t379 t380 t383 t384) else ((spec_SegOk.f t375 t376 t377 t378).bind fun t388 => (if t388 = true then ((spec_PtOk.f t379 t380).bind fun t389 => (laws_FnFarLonger.j0 k (!t389) t375 t376 t377 t378 t379 t380 t383 t384)) else (laws_FnFarLonger.j0 k true t375 t376 t377 t378 t379 t380 t383 t384)))) = some r := H
      have A17 := Aside0.mk A170
      clear A170
      by_cases c18 : (!(t383 == t386) || (!(t384 == t387))) = true
      · rw [if_pos c18] at H
        have c18b0 : (!(t383 == t386) || (!(t384 == t387))) = true := c18
        clear c18
        (first | rw [c18b0] | (simp only [i64_w, i32_w]; rw [c18b0]) | skip)
        have H' := Aside0.mk H
        clear H
        try go_wp2
        have n0_ : Aside0 (((w13.setCell ⟨gb385, 0, none⟩ (.int .i64 t383)).setCell ⟨gb385, 1, none⟩ (.int .i64 t384)).heap[gb381]? = some (.cells #[.int .i64 t375, .int .i64 t376, .int .i64 t377, .int .i64 t378] 40 (0, 0))) := ⟨by (with_reducible repeat (first | refine blk_drewN ?_ _ | refine blk_drew ?_ | refine blk_alloc ?_ _)); refine blk_far ?_ NB381_385.out _; (with_reducible repeat (first | refine blk_drewN ?_ _ | refine blk_drew ?_ | refine blk_alloc ?_ _)); refine blk_far ?_ NB381_385.out _; (with_reducible repeat (first | refine blk_drewN ?_ _ | refine blk_drew ?_ | refine blk_alloc ?_ _)); exact BK381.out⟩
        have n1_ : Aside0 (((w13.setCell ⟨gb385, 0, none⟩ (.int .i64 t383)).setCell ⟨gb385, 1, none⟩ (.int .i64 t384)).heap[gb382]? = some (.cells #[.int .i64 t379, .int .i64 t380] 38 (0, 0))) := ⟨by (with_reducible repeat (first | refine blk_drewN ?_ _ | refine blk_drew ?_ | refine blk_alloc ?_ _)); refine blk_far ?_ NB382_385.out _; (with_reducible repeat (first | refine blk_drewN ?_ _ | refine blk_drew ?_ | refine blk_alloc ?_ _)); refine blk_far ?_ NB382_385.out _; (with_reducible repeat (first | refine blk_drewN ?_ _ | refine blk_drew ?_ | refine blk_alloc ?_ _)); exact BK382.out⟩
        have n2_ : Aside0 (((w13.setCell ⟨gb385, 0, none⟩ (.int .i64 t383)).setCell ⟨gb385, 1, none⟩ (.int .i64 t384)).heap[gb385]? = some (.cells #[.int .i64 t383, .int .i64 t384] 25 (0, 0))) := ⟨by (with_reducible repeat (first | refine blk_drewN ?_ _ | refine blk_drew ?_ | refine blk_alloc ?_ _)); refine blk_put (cs := #[.int .i64 t383, .int .i64 0]) ?_ 1 _ rfl; (with_reducible repeat (first | refine blk_drewN ?_ _ | refine blk_drew ?_ | refine blk_alloc ?_ _)); refine blk_put (cs := #[.int .i64 0, .int .i64 0]) ?_ 0 _ rfl; (with_reducible repeat (first | refine blk_drewN ?_ _ | refine blk_drew ?_ | refine blk_alloc ?_ _)); exact BK385.out⟩
        have n3_ : Aside0 (Below w.heap.size w ((w13.setCell ⟨gb385, 0, none⟩ (.int .i64 t383)).setCell ⟨gb385, 1, none⟩ (.int .i64 t384))) := ⟨by repeat (first | (with_reducible first | exact HB.out | apply below_alloc | apply pw_below_drewN | apply below_drew1 | refine below_set ?_ GE381.out | refine below_set ?_ GE382.out | refine below_set ?_ GE385.out) | exact HB.out)⟩
        (try clear BK381)
        (try clear BK382)
        (try clear BK385)
        (try clear HB)
        generalize ((w13.setCell ⟨gb385, 0, none⟩ (.int .i64 t383)).setCell ⟨gb385, 1, none⟩ (.int .i64 t384)) = w19 at n0_ n1_ n2_ n3_ ⊢
        have BK381 := n0_
        have BK382 := n1_
        have BK385 := n2_
        have HB := n3_
        clear n0_ n1_ n2_ n3_
        have n0_ := Aside0.mk (blk_drew BK381.out)
        have n1_ := Aside0.mk (blk_drew BK382.out)
        have n2_ := Aside0.mk (blk_drew BK385.out)
        have n3_ := Aside0.mk (below_drew1 HB.out)
        clear BK381
        clear BK382
        clear BK385
        clear HB
        have BK381 := n0_
        have BK382 := n1_
        have BK385 := n2_
        have HB := n3_
        clear n0_ n1_ n2_ n3_
        refine start_ (n := 15) (S := fun w' => w'.cell? ⟨gb385, 0, none⟩ = some (.int .i64 t383) ∧ w'.cell? ⟨gb385, 1, none⟩ = some (.int .i64 t384) ∧ w'.cell? ⟨gb381, 0, none⟩ = some (.int .i64 t375) ∧ w'.cell? ⟨gb381, 1, none⟩ = some (.int .i64 t376) ∧ w'.cell? ⟨gb381, 2, none⟩ = some (.int .i64 t377) ∧ w'.cell? ⟨gb381, 3, none⟩ = some (.int .i64 t378) ∧ w'.cell? ⟨gb382, 0, none⟩ = some (.int .i64 t379) ∧ w'.cell? ⟨gb382, 1, none⟩ = some (.int .i64 t380)) (ds := []) #[false, false, false, false, false, false, false, false, false, false, false, false, false, false, false] (by kernel_rfl) rfl rfl ⟨(blk_cell BK385.out 0).trans rfl, (blk_cell BK385.out 1).trans rfl, (blk_cell BK381.out 0).trans rfl, (blk_cell BK381.out 1).trans rfl, (blk_cell BK381.out 2).trans rfl, (blk_cell BK381.out 3).trans rfl, (blk_cell BK382.out 0).trans rfl, (blk_cell BK382.out 1).trans rfl⟩ (fun hHeld => ?_); refine with_tabW laws_FnFarLonger.tab5 laws_FnFarLonger.bits5 (fun HT_ HW_ => ?_)
        generalize w19.drew = w20 at BK381 BK382 BK385 HB hHeld ⊢
        refine take_ (i := 0) (N := some 18) (v := ?_) (a' := ?_) #[true, false, false, false, false, false, false, false, false, false, false, false, false, false, false] rfl rfl (take_ofW HT_.out HW_.out (by kernel_rfl)) (fun _ _ _ h => h) (Or.inl ⟨by rfl, ?_⟩) hHeld ?_ ?_
        rotate_left
        · rintro w' ⟨s0, s1, s2, s3, s4, s5, s6, s7⟩
          go_simp
          with_reducible rfl
        rotate_left
        · simp only [Act.put, List.setIfInBounds_toArray, List.set_cons_zero, List.set_cons_succ, i64_w, i32_w]
          rfl
        refine take_ (i := 1) (N := some 19) (v := ?_) (a' := ?_) #[true, true, false, false, false, false, false, false, false, false, false, false, false, false, false] rfl rfl (take_ofW HT_.out HW_.out (by kernel_rfl)) (fun _ _ _ h => h) (Or.inl ⟨by rfl, ?_⟩) hHeld ?_ ?_
        rotate_left
        · rintro w' ⟨s0, s1, s2, s3, s4, s5, s6, s7⟩
          go_simp
          with_reducible rfl
        rotate_left
        · simp only [Act.put, List.setIfInBounds_toArray, List.set_cons_zero, List.set_cons_succ, i64_w, i32_w]
          rfl
        refine take_ (i := 2) (N := some 20) (v := ?_) (a' := ?_) #[true, true, true, false, false, false, false, false, false, false, false, false, false, false, false] rfl rfl (take_ofW HT_.out HW_.out (by kernel_rfl)) (fun _ _ _ h => h) (Or.inl ⟨by rfl, ?_⟩) hHeld ?_ ?_
        rotate_left
        · rintro w' ⟨s0, s1, s2, s3, s4, s5, s6, s7⟩
          go_simp
          with_reducible rfl
        rotate_left
        · simp only [Act.put, List.setIfInBounds_toArray, List.set_cons_zero, List.set_cons_succ, i64_w, i32_w]
          rfl
        refine one_ (i := 3) (N := some 21) #[true, true, true, true, false, false, false, false, false, false, false, false, false, false, false] rfl rfl (one_of HT_.out (by kernel_rfl)) (by decide) (fun K hK => ?_)
        refine goes_ Tryd.func25 (by kernel_rfl) rfl #[.agg #[.int .i64 t375, .int .i64 t376, .int .i64 t377, .int .i64 t378], .agg #[.int .i64 t379, .int .i64 t380]] (by rfl) rfl rfl (by (try simp only [List.map_toArray, List.map_cons, List.map_nil]); first | done | rfl | (simp only [List.length_drop, List.length_take]; rfl)) ?_
        with_reducible refine (spec_SegFar.calls k t375 t376 t377 t378 t379 t380 t386 t387 _ A17.out).mono ?_
        rintro e w21 ⟨rfl, hb⟩
        refine ⟨_, rfl, ?_⟩
        have n0_ := Aside0.mk (blk_below (g := gb381) (o := .cells #[.int .i64 t375, .int .i64 t376, .int .i64 t377, .int .i64 t378] 40 (0, 0)) (by (with_reducible repeat (first | refine blk_drewN ?_ _ | refine blk_drew ?_ | refine blk_alloc ?_ _)); exact BK381.out) hb)
        have n1_ := Aside0.mk (blk_below (g := gb382) (o := .cells #[.int .i64 t379, .int .i64 t380] 38 (0, 0)) (by (with_reducible repeat (first | refine blk_drewN ?_ _ | refine blk_drew ?_ | refine blk_alloc ?_ _)); exact BK382.out) hb)
        have n2_ := Aside0.mk (blk_below (g := gb385) (o := .cells #[.int .i64 t383, .int .i64 t384] 25 (0, 0)) (by (with_reducible repeat (first | refine blk_drewN ?_ _ | refine blk_drew ?_ | refine blk_alloc ?_ _)); exact BK385.out) hb)
        have n3_ := Aside0.mk (below_step (by repeat (first | (with_reducible first | exact HB.out | apply below_alloc | apply pw_below_drewN | apply below_drew1 | refine below_set ?_ GE381.out | refine below_set ?_ GE382.out | refine below_set ?_ GE385.out) | exact HB.out)) hb)
        clear BK381
        clear BK382
        clear BK385
        clear HB
        have BK381 := n0_
        have BK382 := n1_
        have BK385 := n2_
        have HB := n3_
        clear n0_ n1_ n2_ n3_
        (try clear hb)
        (try clear hb2)
        (try clear hk)
        (try clear hi)
        refine hK.out _ _ ⟨(blk_cell BK385.out 0).trans rfl, (blk_cell BK385.out 1).trans rfl, (blk_cell BK381.out 0).trans rfl, (blk_cell BK381.out 1).trans rfl, (blk_cell BK381.out 2).trans rfl, (blk_cell BK381.out 3).trans rfl, (blk_cell BK382.out 0).trans rfl, (blk_cell BK382.out 1).trans rfl⟩ (fun hHeld => ?_)
        clear hK K
        refine norm_ (a' := ?_) ?_ ?_
        rotate_left
        · show Act.put _ (some 21) _ = _
          simp only [Act.put, List.setIfInBounds_toArray, List.set_cons_zero, List.set_cons_succ, i64_w, i32_w]
          rfl
        refine pure_ (i := 4) (N := some 22) (v := ?_) (a' := ?_) #[true, true, true, true, true, false, false, false, false, false, false, false, false, false, false] rfl rfl (any_of HT_.out (by kernel_rfl)) (fun _ _ _ h => h) (Or.inl ⟨by rfl, ?_⟩) ?_ ?_
        rotate_left
        · intro w'
          go_simp
          with_reducible rfl
        rotate_left
        · simp only [Act.put, List.setIfInBounds_toArray, List.set_cons_zero, List.set_cons_succ, i64_w, i32_w]
          rfl
        refine pure_ (i := 5) (N := some 23) (v := ?_) (a' := ?_) #[true, true, true, true, true, true, false, false, false, false, false, false, false, false, false] rfl rfl (any_of HT_.out (by kernel_rfl)) (fun _ _ _ h => h) (Or.inl ⟨by rfl, ?_⟩) ?_ ?_
        rotate_left
        · intro w'
          go_simp
          with_reducible rfl
        rotate_left
        · simp only [Act.put, List.setIfInBounds_toArray, List.set_cons_zero, List.set_cons_succ, i64_w, i32_w]
          rfl
        refine pure_ (i := 6) (N := some 24) (v := undef) (a' := ?_) #[true, true, true, true, true, true, true, false, false, false, false, false, false, false, false] rfl rfl (any_of HT_.out (by kernel_rfl)) (fun _ _ _ h => h) (Or.inr ⟨by rfl, rfl⟩) ?_ ?_
        rotate_left
        · simp only [Act.put, List.setIfInBounds_toArray, List.set_cons_zero, List.set_cons_succ, i64_w, i32_w]
          rfl
        refine pure_ (i := 7) (N := some 25) (v := undef) (a' := ?_) #[true, true, true, true, true, true, true, true, false, false, false, false, false, false, false] rfl rfl (any_of HT_.out (by kernel_rfl)) (fun _ _ _ h => h) (Or.inr ⟨by rfl, rfl⟩) ?_ ?_
        rotate_left
        · simp only [Act.put, List.setIfInBounds_toArray, List.set_cons_zero, List.set_cons_succ, i64_w, i32_w]
          rfl
        refine pure_ (i := 8) (N := some 26) (v := undef) (a' := ?_) #[true, true, true, true, true, true, true, true, true, false, false, false, false, false, false] rfl rfl (any_of HT_.out (by kernel_rfl)) (fun _ _ _ h => h) (Or.inr ⟨by rfl, rfl⟩) ?_ ?_
        rotate_left
        · simp only [Act.put, List.setIfInBounds_toArray, List.set_cons_zero, List.set_cons_succ, i64_w, i32_w]
          rfl
        refine pure_ (i := 9) (N := some 27) (v := ?_) (a' := ?_) #[true, true, true, true, true, true, true, true, true, true, false, false, false, false, false] rfl rfl (any_of HT_.out (by kernel_rfl)) (fun _ _ _ h => h) (Or.inl ⟨by rfl, ?_⟩) ?_ ?_
        rotate_left
        · intro w'
          go_simp
          with_reducible rfl
        rotate_left
        · simp only [Act.put, List.setIfInBounds_toArray, List.set_cons_zero, List.set_cons_succ, i64_w, i32_w]
          rfl
        refine pure_ (i := 10) (N := some 28) (v := ?_) (a' := ?_) #[true, true, true, true, true, true, true, true, true, true, true, false, false, false, false] rfl rfl (any_of HT_.out (by kernel_rfl)) (fun _ _ _ h => h) (Or.inl ⟨by rfl, ?_⟩) ?_ ?_
        rotate_left
        · intro w'
          go_simp
          with_reducible rfl
        rotate_left
        · simp only [Act.put, List.setIfInBounds_toArray, List.set_cons_zero, List.set_cons_succ, i64_w, i32_w]
          rfl
        refine pure_ (i := 11) (N := some 29) (v := undef) (a' := ?_) #[true, true, true, true, true, true, true, true, true, true, true, true, false, false, false] rfl rfl (any_of HT_.out (by kernel_rfl)) (fun _ _ _ h => h) (Or.inr ⟨by rfl, rfl⟩) ?_ ?_
        rotate_left
        · simp only [Act.put, List.setIfInBounds_toArray, List.set_cons_zero, List.set_cons_succ, i64_w, i32_w]
          rfl
        refine pure_ (i := 12) (N := some 30) (v := undef) (a' := ?_) #[true, true, true, true, true, true, true, true, true, true, true, true, true, false, false] rfl rfl (any_of HT_.out (by kernel_rfl)) (fun _ _ _ h => h) (Or.inr ⟨by rfl, rfl⟩) ?_ ?_
        rotate_left
        · simp only [Act.put, List.setIfInBounds_toArray, List.set_cons_zero, List.set_cons_succ, i64_w, i32_w]
          rfl
        refine pure_ (i := 13) (N := some 31) (v := undef) (a' := ?_) #[true, true, true, true, true, true, true, true, true, true, true, true, true, true, false] rfl rfl (any_of HT_.out (by kernel_rfl)) (fun _ _ _ h => h) (Or.inr ⟨by rfl, rfl⟩) ?_ ?_
        rotate_left
        · simp only [Act.put, List.setIfInBounds_toArray, List.set_cons_zero, List.set_cons_succ, i64_w, i32_w]
          rfl
        refine pure_ (i := 14) (N := some 32) (v := ?_) (a' := ?_) #[true, true, true, true, true, true, true, true, true, true, true, true, true, true, true] rfl rfl (any_of HT_.out (by kernel_rfl)) (fun _ _ _ h => h) (Or.inl ⟨by rfl, ?_⟩) ?_ ?_
        rotate_left
        · intro w'
          go_simp
          with_reducible rfl
        rotate_left
        · simp only [Act.put, List.setIfInBounds_toArray, List.set_cons_zero, List.set_cons_succ, i64_w, i32_w]
          rfl
        refine done_ (done_of HT_.out (by kernel_rfl)) ?_
        try go_wp2
        go_meet
        case rel => exact ⟨_, (true), (by first | rfl | (simp; done) | (simp [*]; done)), H', ⟨by first | omega | exact Nat.le_refl _⟩, ⟨by (with_reducible repeat (first | refine blk_drewN ?_ _ | refine blk_drew ?_ | refine blk_alloc ?_ _)); exact BK381.out⟩, ⟨by (with_reducible repeat (first | refine blk_drewN ?_ _ | refine blk_drew ?_ | refine blk_alloc ?_ _)); exact BK382.out⟩, ⟨by (with_reducible repeat (first | refine blk_drewN ?_ _ | refine blk_drew ?_ | refine blk_alloc ?_ _)); exact BK385.out⟩, ⟨by repeat (first | (with_reducible first | exact HB.out | apply below_alloc | apply pw_below_drewN | apply below_drew1 | refine below_set ?_ GE381.out | refine below_set ?_ GE382.out | refine below_set ?_ GE385.out) | exact HB.out)⟩⟩
      · rw [if_neg c18] at H
        have c18b0 : (!(t383 == t386) || (!(t384 == t387))) = false := by simpa using c18
        clear c18
        (first | rw [c18b0] | (simp only [i64_w, i32_w]; rw [c18b0]) | skip)
        replace H := Option.bind_eq_some_iff.mp H
        obtain ⟨t388, A220, H⟩ := H
        replace H : (if t388 = true then ((spec_PtOk.f t379 t380).bind fun t389 => (laws_FnFarLonger.j0 k (!t389) t375 t376 t377 t378 t379 t380 t383 t384)) else (laws_FnFarLonger.j0 k true t375 t376 t377 t378 t379 t380 t383 t384)) = some r := H
        have A22 := Aside0.mk A220
        clear A220
        by_cases c23 : t388 = true
        · subst c23
          have H1 : ((spec_PtOk.f t379 t380).bind fun t389 => (laws_FnFarLonger.j0 k (!t389) t375 t376 t377 t378 t379 t380 t383 t384)) = some r := by rw [if_pos rfl] at H; exact H
          clear H
          have H := H1
          clear H1
          replace H := Option.bind_eq_some_iff.mp H
          obtain ⟨t389, A240, H⟩ := H
          replace H : (laws_FnFarLonger.j0 k (!t389) t375 t376 t377 t378 t379 t380 t383 t384) = some r := H
          have A24 := Aside0.mk A240
          clear A240
          have H' := Aside0.mk H
          clear H
          try go_wp2
          have n0_ : Aside0 (((w13.setCell ⟨gb385, 0, none⟩ (.int .i64 t383)).setCell ⟨gb385, 1, none⟩ (.int .i64 t384)).heap[gb381]? = some (.cells #[.int .i64 t375, .int .i64 t376, .int .i64 t377, .int .i64 t378] 40 (0, 0))) := ⟨by (with_reducible repeat (first | refine blk_drewN ?_ _ | refine blk_drew ?_ | refine blk_alloc ?_ _)); refine blk_far ?_ NB381_385.out _; (with_reducible repeat (first | refine blk_drewN ?_ _ | refine blk_drew ?_ | refine blk_alloc ?_ _)); refine blk_far ?_ NB381_385.out _; (with_reducible repeat (first | refine blk_drewN ?_ _ | refine blk_drew ?_ | refine blk_alloc ?_ _)); exact BK381.out⟩
          have n1_ : Aside0 (((w13.setCell ⟨gb385, 0, none⟩ (.int .i64 t383)).setCell ⟨gb385, 1, none⟩ (.int .i64 t384)).heap[gb382]? = some (.cells #[.int .i64 t379, .int .i64 t380] 38 (0, 0))) := ⟨by (with_reducible repeat (first | refine blk_drewN ?_ _ | refine blk_drew ?_ | refine blk_alloc ?_ _)); refine blk_far ?_ NB382_385.out _; (with_reducible repeat (first | refine blk_drewN ?_ _ | refine blk_drew ?_ | refine blk_alloc ?_ _)); refine blk_far ?_ NB382_385.out _; (with_reducible repeat (first | refine blk_drewN ?_ _ | refine blk_drew ?_ | refine blk_alloc ?_ _)); exact BK382.out⟩
          have n2_ : Aside0 (((w13.setCell ⟨gb385, 0, none⟩ (.int .i64 t383)).setCell ⟨gb385, 1, none⟩ (.int .i64 t384)).heap[gb385]? = some (.cells #[.int .i64 t383, .int .i64 t384] 25 (0, 0))) := ⟨by (with_reducible repeat (first | refine blk_drewN ?_ _ | refine blk_drew ?_ | refine blk_alloc ?_ _)); refine blk_put (cs := #[.int .i64 t383, .int .i64 0]) ?_ 1 _ rfl; (with_reducible repeat (first | refine blk_drewN ?_ _ | refine blk_drew ?_ | refine blk_alloc ?_ _)); refine blk_put (cs := #[.int .i64 0, .int .i64 0]) ?_ 0 _ rfl; (with_reducible repeat (first | refine blk_drewN ?_ _ | refine blk_drew ?_ | refine blk_alloc ?_ _)); exact BK385.out⟩
          have n3_ : Aside0 (Below w.heap.size w ((w13.setCell ⟨gb385, 0, none⟩ (.int .i64 t383)).setCell ⟨gb385, 1, none⟩ (.int .i64 t384))) := ⟨by repeat (first | (with_reducible first | exact HB.out | apply below_alloc | apply pw_below_drewN | apply below_drew1 | refine below_set ?_ GE381.out | refine below_set ?_ GE382.out | refine below_set ?_ GE385.out) | exact HB.out)⟩
          (try clear BK381)
          (try clear BK382)
          (try clear BK385)
          (try clear HB)
          generalize ((w13.setCell ⟨gb385, 0, none⟩ (.int .i64 t383)).setCell ⟨gb385, 1, none⟩ (.int .i64 t384)) = w25 at n0_ n1_ n2_ n3_ ⊢
          have BK381 := n0_
          have BK382 := n1_
          have BK385 := n2_
          have HB := n3_
          clear n0_ n1_ n2_ n3_
          have n0_ := Aside0.mk (blk_drew BK381.out)
          have n1_ := Aside0.mk (blk_drew BK382.out)
          have n2_ := Aside0.mk (blk_drew BK385.out)
          have n3_ := Aside0.mk (below_drew1 HB.out)
          clear BK381
          clear BK382
          clear BK385
          clear HB
          have BK381 := n0_
          have BK382 := n1_
          have BK385 := n2_
          have HB := n3_
          clear n0_ n1_ n2_ n3_
          refine start_ (n := 15) (S := fun w' => w'.cell? ⟨gb385, 0, none⟩ = some (.int .i64 t383) ∧ w'.cell? ⟨gb385, 1, none⟩ = some (.int .i64 t384) ∧ w'.cell? ⟨gb381, 0, none⟩ = some (.int .i64 t375) ∧ w'.cell? ⟨gb381, 1, none⟩ = some (.int .i64 t376) ∧ w'.cell? ⟨gb381, 2, none⟩ = some (.int .i64 t377) ∧ w'.cell? ⟨gb381, 3, none⟩ = some (.int .i64 t378) ∧ w'.cell? ⟨gb382, 0, none⟩ = some (.int .i64 t379) ∧ w'.cell? ⟨gb382, 1, none⟩ = some (.int .i64 t380)) (ds := []) #[false, false, false, false, false, false, false, false, false, false, false, false, false, false, false] (by kernel_rfl) rfl rfl ⟨(blk_cell BK385.out 0).trans rfl, (blk_cell BK385.out 1).trans rfl, (blk_cell BK381.out 0).trans rfl, (blk_cell BK381.out 1).trans rfl, (blk_cell BK381.out 2).trans rfl, (blk_cell BK381.out 3).trans rfl, (blk_cell BK382.out 0).trans rfl, (blk_cell BK382.out 1).trans rfl⟩ (fun hHeld => ?_); refine with_tabW laws_FnFarLonger.tab5 laws_FnFarLonger.bits5 (fun HT_ HW_ => ?_)
          generalize w25.drew = w26 at BK381 BK382 BK385 HB hHeld ⊢
          refine take_ (i := 0) (N := some 18) (v := ?_) (a' := ?_) #[true, false, false, false, false, false, false, false, false, false, false, false, false, false, false] rfl rfl (take_ofW HT_.out HW_.out (by kernel_rfl)) (fun _ _ _ h => h) (Or.inl ⟨by rfl, ?_⟩) hHeld ?_ ?_
          rotate_left
          · rintro w' ⟨s0, s1, s2, s3, s4, s5, s6, s7⟩
            go_simp
            with_reducible rfl
          rotate_left
          · simp only [Act.put, List.setIfInBounds_toArray, List.set_cons_zero, List.set_cons_succ, i64_w, i32_w]
            rfl
          refine take_ (i := 1) (N := some 19) (v := ?_) (a' := ?_) #[true, true, false, false, false, false, false, false, false, false, false, false, false, false, false] rfl rfl (take_ofW HT_.out HW_.out (by kernel_rfl)) (fun _ _ _ h => h) (Or.inl ⟨by rfl, ?_⟩) hHeld ?_ ?_
          rotate_left
          · rintro w' ⟨s0, s1, s2, s3, s4, s5, s6, s7⟩
            go_simp
            with_reducible rfl
          rotate_left
          · simp only [Act.put, List.setIfInBounds_toArray, List.set_cons_zero, List.set_cons_succ, i64_w, i32_w]
            rfl
          refine take_ (i := 2) (N := some 20) (v := ?_) (a' := ?_) #[true, true, true, false, false, false, false, false, false, false, false, false, false, false, false] rfl rfl (take_ofW HT_.out HW_.out (by kernel_rfl)) (fun _ _ _ h => h) (Or.inl ⟨by rfl, ?_⟩) hHeld ?_ ?_
          rotate_left
          · rintro w' ⟨s0, s1, s2, s3, s4, s5, s6, s7⟩
            go_simp
            with_reducible rfl
          rotate_left
          · simp only [Act.put, List.setIfInBounds_toArray, List.set_cons_zero, List.set_cons_succ, i64_w, i32_w]
            rfl
          refine one_ (i := 3) (N := some 21) #[true, true, true, true, false, false, false, false, false, false, false, false, false, false, false] rfl rfl (one_of HT_.out (by kernel_rfl)) (by decide) (fun K hK => ?_)
          refine goes_ Tryd.func25 (by kernel_rfl) rfl #[.agg #[.int .i64 t375, .int .i64 t376, .int .i64 t377, .int .i64 t378], .agg #[.int .i64 t379, .int .i64 t380]] (by rfl) rfl rfl (by (try simp only [List.map_toArray, List.map_cons, List.map_nil]); first | done | rfl | (simp only [List.length_drop, List.length_take]; rfl)) ?_
          with_reducible refine (spec_SegFar.calls k t375 t376 t377 t378 t379 t380 t386 t387 _ A17.out).mono ?_
          rintro e w27 ⟨rfl, hb⟩
          refine ⟨_, rfl, ?_⟩
          have n0_ := Aside0.mk (blk_below (g := gb381) (o := .cells #[.int .i64 t375, .int .i64 t376, .int .i64 t377, .int .i64 t378] 40 (0, 0)) (by (with_reducible repeat (first | refine blk_drewN ?_ _ | refine blk_drew ?_ | refine blk_alloc ?_ _)); exact BK381.out) hb)
          have n1_ := Aside0.mk (blk_below (g := gb382) (o := .cells #[.int .i64 t379, .int .i64 t380] 38 (0, 0)) (by (with_reducible repeat (first | refine blk_drewN ?_ _ | refine blk_drew ?_ | refine blk_alloc ?_ _)); exact BK382.out) hb)
          have n2_ := Aside0.mk (blk_below (g := gb385) (o := .cells #[.int .i64 t383, .int .i64 t384] 25 (0, 0)) (by (with_reducible repeat (first | refine blk_drewN ?_ _ | refine blk_drew ?_ | refine blk_alloc ?_ _)); exact BK385.out) hb)
          have n3_ := Aside0.mk (below_step (by repeat (first | (with_reducible first | exact HB.out | apply below_alloc | apply pw_below_drewN | apply below_drew1 | refine below_set ?_ GE381.out | refine below_set ?_ GE382.out | refine below_set ?_ GE385.out) | exact HB.out)) hb)
          clear BK381
          clear BK382
          clear BK385
          clear HB
          have BK381 := n0_
          have BK382 := n1_
          have BK385 := n2_
          have HB := n3_
          clear n0_ n1_ n2_ n3_
          (try clear hb)
          (try clear hb2)
          (try clear hk)
          (try clear hi)
          refine hK.out _ _ ⟨(blk_cell BK385.out 0).trans rfl, (blk_cell BK385.out 1).trans rfl, (blk_cell BK381.out 0).trans rfl, (blk_cell BK381.out 1).trans rfl, (blk_cell BK381.out 2).trans rfl, (blk_cell BK381.out 3).trans rfl, (blk_cell BK382.out 0).trans rfl, (blk_cell BK382.out 1).trans rfl⟩ (fun hHeld => ?_)
          clear hK K
          refine norm_ (a' := ?_) ?_ ?_
          rotate_left
          · show Act.put _ (some 21) _ = _
            simp only [Act.put, List.setIfInBounds_toArray, List.set_cons_zero, List.set_cons_succ, i64_w, i32_w]
            rfl
          refine pure_ (i := 4) (N := some 22) (v := ?_) (a' := ?_) #[true, true, true, true, true, false, false, false, false, false, false, false, false, false, false] rfl rfl (any_of HT_.out (by kernel_rfl)) (fun _ _ _ h => h) (Or.inl ⟨by rfl, ?_⟩) ?_ ?_
          rotate_left
          · intro w'
            go_simp
            with_reducible rfl
          rotate_left
          · simp only [Act.put, List.setIfInBounds_toArray, List.set_cons_zero, List.set_cons_succ, i64_w, i32_w]
            rfl
          refine pure_ (i := 5) (N := some 23) (v := ?_) (a' := ?_) #[true, true, true, true, true, true, false, false, false, false, false, false, false, false, false] rfl rfl (any_of HT_.out (by kernel_rfl)) (fun _ _ _ h => h) (Or.inl ⟨by rfl, ?_⟩) ?_ ?_
          rotate_left
          · intro w'
            go_simp
            with_reducible rfl
          rotate_left
          · simp only [Act.put, List.setIfInBounds_toArray, List.set_cons_zero, List.set_cons_succ, i64_w, i32_w]
            rfl
          refine take_ (i := 6) (N := some 24) (v := ?_) (a' := ?_) #[true, true, true, true, true, true, true, false, false, false, false, false, false, false, false] rfl rfl (take_ofW HT_.out HW_.out (by kernel_rfl)) (fun _ _ _ h => h) (Or.inl ⟨by rfl, ?_⟩) hHeld ?_ ?_
          rotate_left
          · rintro w' ⟨s0, s1, s2, s3, s4, s5, s6, s7⟩
            go_simp
            with_reducible rfl
          rotate_left
          · simp only [Act.put, List.setIfInBounds_toArray, List.set_cons_zero, List.set_cons_succ, i64_w, i32_w]
            rfl
          refine one_ (i := 7) (N := some 25) #[true, true, true, true, true, true, true, true, false, false, false, false, false, false, false] rfl rfl (one_of HT_.out (by kernel_rfl)) (by decide) (fun K hK => ?_)
          refine goes_ Tryd.func26 (by kernel_rfl) rfl #[.agg #[.int .i64 t375, .int .i64 t376, .int .i64 t377, .int .i64 t378]] (by rfl) rfl rfl (by (try simp only [List.map_toArray, List.map_cons, List.map_nil]); first | done | rfl | (simp only [List.length_drop, List.length_take]; rfl)) ?_
          with_reducible refine (spec_SegOk.calls t375 t376 t377 t378 true _ A22.out).mono ?_
          rintro e w28 ⟨rfl, hb⟩
          refine ⟨_, rfl, ?_⟩
          have n0_ := Aside0.mk (blk_below (g := gb381) (o := .cells #[.int .i64 t375, .int .i64 t376, .int .i64 t377, .int .i64 t378] 40 (0, 0)) (by (with_reducible repeat (first | refine blk_drewN ?_ _ | refine blk_drew ?_ | refine blk_alloc ?_ _)); exact BK381.out) hb)
          have n1_ := Aside0.mk (blk_below (g := gb382) (o := .cells #[.int .i64 t379, .int .i64 t380] 38 (0, 0)) (by (with_reducible repeat (first | refine blk_drewN ?_ _ | refine blk_drew ?_ | refine blk_alloc ?_ _)); exact BK382.out) hb)
          have n2_ := Aside0.mk (blk_below (g := gb385) (o := .cells #[.int .i64 t383, .int .i64 t384] 25 (0, 0)) (by (with_reducible repeat (first | refine blk_drewN ?_ _ | refine blk_drew ?_ | refine blk_alloc ?_ _)); exact BK385.out) hb)
          have n3_ := Aside0.mk (below_step (by repeat (first | (with_reducible first | exact HB.out | apply below_alloc | apply pw_below_drewN | apply below_drew1 | refine below_set ?_ GE381.out | refine below_set ?_ GE382.out | refine below_set ?_ GE385.out) | exact HB.out)) hb)
          clear BK381
          clear BK382
          clear BK385
          clear HB
          have BK381 := n0_
          have BK382 := n1_
          have BK385 := n2_
          have HB := n3_
          clear n0_ n1_ n2_ n3_
          (try clear hb)
          (try clear hb2)
          (try clear hk)
          (try clear hi)
          refine hK.out _ _ ⟨(blk_cell BK385.out 0).trans rfl, (blk_cell BK385.out 1).trans rfl, (blk_cell BK381.out 0).trans rfl, (blk_cell BK381.out 1).trans rfl, (blk_cell BK381.out 2).trans rfl, (blk_cell BK381.out 3).trans rfl, (blk_cell BK382.out 0).trans rfl, (blk_cell BK382.out 1).trans rfl⟩ (fun hHeld => ?_)
          clear hK K
          refine norm_ (a' := ?_) ?_ ?_
          rotate_left
          · show Act.put _ (some 25) _ = _
            simp only [Act.put, List.setIfInBounds_toArray, List.set_cons_zero, List.set_cons_succ, i64_w, i32_w]
            rfl
          refine pure_ (i := 8) (N := some 26) (v := ?_) (a' := ?_) #[true, true, true, true, true, true, true, true, true, false, false, false, false, false, false] rfl rfl (any_of HT_.out (by kernel_rfl)) (fun _ _ _ h => h) (Or.inl ⟨by rfl, ?_⟩) ?_ ?_
          rotate_left
          · intro w'
            go_simp
            with_reducible rfl
          rotate_left
          · simp only [Act.put, List.setIfInBounds_toArray, List.set_cons_zero, List.set_cons_succ, i64_w, i32_w]
            rfl
          refine pure_ (i := 9) (N := some 27) (v := ?_) (a' := ?_) #[true, true, true, true, true, true, true, true, true, true, false, false, false, false, false] rfl rfl (any_of HT_.out (by kernel_rfl)) (fun _ _ _ h => h) (Or.inl ⟨by rfl, ?_⟩) ?_ ?_
          rotate_left
          · intro w'
            go_simp
            with_reducible rfl
          rotate_left
          · simp only [Act.put, List.setIfInBounds_toArray, List.set_cons_zero, List.set_cons_succ, i64_w, i32_w]
            rfl
          refine pure_ (i := 10) (N := some 28) (v := ?_) (a' := ?_) #[true, true, true, true, true, true, true, true, true, true, true, false, false, false, false] rfl rfl (any_of HT_.out (by kernel_rfl)) (fun _ _ _ h => h) (Or.inl ⟨by rfl, ?_⟩) ?_ ?_
          rotate_left
          · intro w'
            go_simp
            with_reducible rfl
          rotate_left
          · simp only [Act.put, List.setIfInBounds_toArray, List.set_cons_zero, List.set_cons_succ, i64_w, i32_w]
            rfl
          refine take_ (i := 11) (N := some 29) (v := ?_) (a' := ?_) #[true, true, true, true, true, true, true, true, true, true, true, true, false, false, false] rfl rfl (take_ofW HT_.out HW_.out (by kernel_rfl)) (fun _ _ _ h => h) (Or.inl ⟨by rfl, ?_⟩) hHeld ?_ ?_
          rotate_left
          · rintro w' ⟨s0, s1, s2, s3, s4, s5, s6, s7⟩
            go_simp
            with_reducible rfl
          rotate_left
          · simp only [Act.put, List.setIfInBounds_toArray, List.set_cons_zero, List.set_cons_succ, i64_w, i32_w]
            rfl
          refine one_ (i := 12) (N := some 30) #[true, true, true, true, true, true, true, true, true, true, true, true, true, false, false] rfl rfl (one_of HT_.out (by kernel_rfl)) (by decide) (fun K hK => ?_)
          refine goes_ Tryd.func27 (by kernel_rfl) rfl #[.agg #[.int .i64 t379, .int .i64 t380]] (by rfl) rfl rfl (by (try simp only [List.map_toArray, List.map_cons, List.map_nil]); first | done | rfl | (simp only [List.length_drop, List.length_take]; rfl)) ?_
          with_reducible refine (spec_PtOk.calls t379 t380 t389 _ A24.out).mono ?_
          rintro e w29 ⟨rfl, hb⟩
          refine ⟨_, rfl, ?_⟩
          have n0_ := Aside0.mk (blk_below (g := gb381) (o := .cells #[.int .i64 t375, .int .i64 t376, .int .i64 t377, .int .i64 t378] 40 (0, 0)) (by (with_reducible repeat (first | refine blk_drewN ?_ _ | refine blk_drew ?_ | refine blk_alloc ?_ _)); exact BK381.out) hb)
          have n1_ := Aside0.mk (blk_below (g := gb382) (o := .cells #[.int .i64 t379, .int .i64 t380] 38 (0, 0)) (by (with_reducible repeat (first | refine blk_drewN ?_ _ | refine blk_drew ?_ | refine blk_alloc ?_ _)); exact BK382.out) hb)
          have n2_ := Aside0.mk (blk_below (g := gb385) (o := .cells #[.int .i64 t383, .int .i64 t384] 25 (0, 0)) (by (with_reducible repeat (first | refine blk_drewN ?_ _ | refine blk_drew ?_ | refine blk_alloc ?_ _)); exact BK385.out) hb)
          have n3_ := Aside0.mk (below_step (by repeat (first | (with_reducible first | exact HB.out | apply below_alloc | apply pw_below_drewN | apply below_drew1 | refine below_set ?_ GE381.out | refine below_set ?_ GE382.out | refine below_set ?_ GE385.out) | exact HB.out)) hb)
          clear BK381
          clear BK382
          clear BK385
          clear HB
          have BK381 := n0_
          have BK382 := n1_
          have BK385 := n2_
          have HB := n3_
          clear n0_ n1_ n2_ n3_
          (try clear hb)
          (try clear hb2)
          (try clear hk)
          (try clear hi)
          refine hK.out _ _ ⟨(blk_cell BK385.out 0).trans rfl, (blk_cell BK385.out 1).trans rfl, (blk_cell BK381.out 0).trans rfl, (blk_cell BK381.out 1).trans rfl, (blk_cell BK381.out 2).trans rfl, (blk_cell BK381.out 3).trans rfl, (blk_cell BK382.out 0).trans rfl, (blk_cell BK382.out 1).trans rfl⟩ (fun hHeld => ?_)
          clear hK K
          refine norm_ (a' := ?_) ?_ ?_
          rotate_left
          · show Act.put _ (some 30) _ = _
            simp only [Act.put, List.setIfInBounds_toArray, List.set_cons_zero, List.set_cons_succ, i64_w, i32_w]
            rfl
          refine pure_ (i := 13) (N := some 31) (v := ?_) (a' := ?_) #[true, true, true, true, true, true, true, true, true, true, true, true, true, true, false] rfl rfl (any_of HT_.out (by kernel_rfl)) (fun _ _ _ h => h) (Or.inl ⟨by rfl, ?_⟩) ?_ ?_
          rotate_left
          · intro w'
            go_simp
            with_reducible rfl
          rotate_left
          · simp only [Act.put, List.setIfInBounds_toArray, List.set_cons_zero, List.set_cons_succ, i64_w, i32_w]
            rfl
          refine pure_ (i := 14) (N := some 32) (v := ?_) (a' := ?_) #[true, true, true, true, true, true, true, true, true, true, true, true, true, true, true] rfl rfl (any_of HT_.out (by kernel_rfl)) (fun _ _ _ h => h) (Or.inl ⟨by rfl, ?_⟩) ?_ ?_
          rotate_left
          · intro w'
            go_simp
            with_reducible rfl
          rotate_left
          · simp only [Act.put, List.setIfInBounds_toArray, List.set_cons_zero, List.set_cons_succ, i64_w, i32_w]
            rfl
          refine done_ (done_of HT_.out (by kernel_rfl)) ?_
          try go_wp2
          go_meet
          case rel => exact ⟨_, (!t389), (by first | rfl | (simp; done) | (simp [*]; done)), H', ⟨by first | omega | exact Nat.le_refl _⟩, ⟨by (with_reducible repeat (first | refine blk_drewN ?_ _ | refine blk_drew ?_ | refine blk_alloc ?_ _)); exact BK381.out⟩, ⟨by (with_reducible repeat (first | refine blk_drewN ?_ _ | refine blk_drew ?_ | refine blk_alloc ?_ _)); exact BK382.out⟩, ⟨by (with_reducible repeat (first | refine blk_drewN ?_ _ | refine blk_drew ?_ | refine blk_alloc ?_ _)); exact BK385.out⟩, ⟨by repeat (first | (with_reducible first | exact HB.out | apply below_alloc | apply pw_below_drewN | apply below_drew1 | refine below_set ?_ GE381.out | refine below_set ?_ GE382.out | refine below_set ?_ GE385.out) | exact HB.out)⟩⟩
        · replace c23 := Bool.eq_false_iff.mpr c23
          subst c23
          have H1 : (laws_FnFarLonger.j0 k true t375 t376 t377 t378 t379 t380 t383 t384) = some r := by rw [if_neg (show ¬ (false = true) by decide)] at H; exact H
          clear H
          have H := H1
          clear H1
          have H' := Aside0.mk H
          clear H
          try go_wp2
          have n0_ : Aside0 (((w13.setCell ⟨gb385, 0, none⟩ (.int .i64 t383)).setCell ⟨gb385, 1, none⟩ (.int .i64 t384)).heap[gb381]? = some (.cells #[.int .i64 t375, .int .i64 t376, .int .i64 t377, .int .i64 t378] 40 (0, 0))) := ⟨by (with_reducible repeat (first | refine blk_drewN ?_ _ | refine blk_drew ?_ | refine blk_alloc ?_ _)); refine blk_far ?_ NB381_385.out _; (with_reducible repeat (first | refine blk_drewN ?_ _ | refine blk_drew ?_ | refine blk_alloc ?_ _)); refine blk_far ?_ NB381_385.out _; (with_reducible repeat (first | refine blk_drewN ?_ _ | refine blk_drew ?_ | refine blk_alloc ?_ _)); exact BK381.out⟩
          have n1_ : Aside0 (((w13.setCell ⟨gb385, 0, none⟩ (.int .i64 t383)).setCell ⟨gb385, 1, none⟩ (.int .i64 t384)).heap[gb382]? = some (.cells #[.int .i64 t379, .int .i64 t380] 38 (0, 0))) := ⟨by (with_reducible repeat (first | refine blk_drewN ?_ _ | refine blk_drew ?_ | refine blk_alloc ?_ _)); refine blk_far ?_ NB382_385.out _; (with_reducible repeat (first | refine blk_drewN ?_ _ | refine blk_drew ?_ | refine blk_alloc ?_ _)); refine blk_far ?_ NB382_385.out _; (with_reducible repeat (first | refine blk_drewN ?_ _ | refine blk_drew ?_ | refine blk_alloc ?_ _)); exact BK382.out⟩
          have n2_ : Aside0 (((w13.setCell ⟨gb385, 0, none⟩ (.int .i64 t383)).setCell ⟨gb385, 1, none⟩ (.int .i64 t384)).heap[gb385]? = some (.cells #[.int .i64 t383, .int .i64 t384] 25 (0, 0))) := ⟨by (with_reducible repeat (first | refine blk_drewN ?_ _ | refine blk_drew ?_ | refine blk_alloc ?_ _)); refine blk_put (cs := #[.int .i64 t383, .int .i64 0]) ?_ 1 _ rfl; (with_reducible repeat (first | refine blk_drewN ?_ _ | refine blk_drew ?_ | refine blk_alloc ?_ _)); refine blk_put (cs := #[.int .i64 0, .int .i64 0]) ?_ 0 _ rfl; (with_reducible repeat (first | refine blk_drewN ?_ _ | refine blk_drew ?_ | refine blk_alloc ?_ _)); exact BK385.out⟩
          have n3_ : Aside0 (Below w.heap.size w ((w13.setCell ⟨gb385, 0, none⟩ (.int .i64 t383)).setCell ⟨gb385, 1, none⟩ (.int .i64 t384))) := ⟨by repeat (first | (with_reducible first | exact HB.out | apply below_alloc | apply pw_below_drewN | apply below_drew1 | refine below_set ?_ GE381.out | refine below_set ?_ GE382.out | refine below_set ?_ GE385.out) | exact HB.out)⟩
          (try clear BK381)
          (try clear BK382)
          (try clear BK385)
          (try clear HB)
          generalize ((w13.setCell ⟨gb385, 0, none⟩ (.int .i64 t383)).setCell ⟨gb385, 1, none⟩ (.int .i64 t384)) = w30 at n0_ n1_ n2_ n3_ ⊢
          have BK381 := n0_
          have BK382 := n1_
          have BK385 := n2_
          have HB := n3_
          clear n0_ n1_ n2_ n3_
          have n0_ := Aside0.mk (blk_drew BK381.out)
          have n1_ := Aside0.mk (blk_drew BK382.out)
          have n2_ := Aside0.mk (blk_drew BK385.out)
          have n3_ := Aside0.mk (below_drew1 HB.out)
          clear BK381
          clear BK382
          clear BK385
          clear HB
          have BK381 := n0_
          have BK382 := n1_
          have BK385 := n2_
          have HB := n3_
          clear n0_ n1_ n2_ n3_
          refine start_ (n := 15) (S := fun w' => w'.cell? ⟨gb385, 0, none⟩ = some (.int .i64 t383) ∧ w'.cell? ⟨gb385, 1, none⟩ = some (.int .i64 t384) ∧ w'.cell? ⟨gb381, 0, none⟩ = some (.int .i64 t375) ∧ w'.cell? ⟨gb381, 1, none⟩ = some (.int .i64 t376) ∧ w'.cell? ⟨gb381, 2, none⟩ = some (.int .i64 t377) ∧ w'.cell? ⟨gb381, 3, none⟩ = some (.int .i64 t378) ∧ w'.cell? ⟨gb382, 0, none⟩ = some (.int .i64 t379) ∧ w'.cell? ⟨gb382, 1, none⟩ = some (.int .i64 t380)) (ds := []) #[false, false, false, false, false, false, false, false, false, false, false, false, false, false, false] (by kernel_rfl) rfl rfl ⟨(blk_cell BK385.out 0).trans rfl, (blk_cell BK385.out 1).trans rfl, (blk_cell BK381.out 0).trans rfl, (blk_cell BK381.out 1).trans rfl, (blk_cell BK381.out 2).trans rfl, (blk_cell BK381.out 3).trans rfl, (blk_cell BK382.out 0).trans rfl, (blk_cell BK382.out 1).trans rfl⟩ (fun hHeld => ?_); refine with_tabW laws_FnFarLonger.tab5 laws_FnFarLonger.bits5 (fun HT_ HW_ => ?_)
          generalize w30.drew = w31 at BK381 BK382 BK385 HB hHeld ⊢
          refine take_ (i := 0) (N := some 18) (v := ?_) (a' := ?_) #[true, false, false, false, false, false, false, false, false, false, false, false, false, false, false] rfl rfl (take_ofW HT_.out HW_.out (by kernel_rfl)) (fun _ _ _ h => h) (Or.inl ⟨by rfl, ?_⟩) hHeld ?_ ?_
          rotate_left
          · rintro w' ⟨s0, s1, s2, s3, s4, s5, s6, s7⟩
            go_simp
            with_reducible rfl
          rotate_left
          · simp only [Act.put, List.setIfInBounds_toArray, List.set_cons_zero, List.set_cons_succ, i64_w, i32_w]
            rfl
          refine take_ (i := 1) (N := some 19) (v := ?_) (a' := ?_) #[true, true, false, false, false, false, false, false, false, false, false, false, false, false, false] rfl rfl (take_ofW HT_.out HW_.out (by kernel_rfl)) (fun _ _ _ h => h) (Or.inl ⟨by rfl, ?_⟩) hHeld ?_ ?_
          rotate_left
          · rintro w' ⟨s0, s1, s2, s3, s4, s5, s6, s7⟩
            go_simp
            with_reducible rfl
          rotate_left
          · simp only [Act.put, List.setIfInBounds_toArray, List.set_cons_zero, List.set_cons_succ, i64_w, i32_w]
            rfl
          refine take_ (i := 2) (N := some 20) (v := ?_) (a' := ?_) #[true, true, true, false, false, false, false, false, false, false, false, false, false, false, false] rfl rfl (take_ofW HT_.out HW_.out (by kernel_rfl)) (fun _ _ _ h => h) (Or.inl ⟨by rfl, ?_⟩) hHeld ?_ ?_
          rotate_left
          · rintro w' ⟨s0, s1, s2, s3, s4, s5, s6, s7⟩
            go_simp
            with_reducible rfl
          rotate_left
          · simp only [Act.put, List.setIfInBounds_toArray, List.set_cons_zero, List.set_cons_succ, i64_w, i32_w]
            rfl
          refine one_ (i := 3) (N := some 21) #[true, true, true, true, false, false, false, false, false, false, false, false, false, false, false] rfl rfl (one_of HT_.out (by kernel_rfl)) (by decide) (fun K hK => ?_)
          refine goes_ Tryd.func25 (by kernel_rfl) rfl #[.agg #[.int .i64 t375, .int .i64 t376, .int .i64 t377, .int .i64 t378], .agg #[.int .i64 t379, .int .i64 t380]] (by rfl) rfl rfl (by (try simp only [List.map_toArray, List.map_cons, List.map_nil]); first | done | rfl | (simp only [List.length_drop, List.length_take]; rfl)) ?_
          with_reducible refine (spec_SegFar.calls k t375 t376 t377 t378 t379 t380 t386 t387 _ A17.out).mono ?_
          rintro e w32 ⟨rfl, hb⟩
          refine ⟨_, rfl, ?_⟩
          have n0_ := Aside0.mk (blk_below (g := gb381) (o := .cells #[.int .i64 t375, .int .i64 t376, .int .i64 t377, .int .i64 t378] 40 (0, 0)) (by (with_reducible repeat (first | refine blk_drewN ?_ _ | refine blk_drew ?_ | refine blk_alloc ?_ _)); exact BK381.out) hb)
          have n1_ := Aside0.mk (blk_below (g := gb382) (o := .cells #[.int .i64 t379, .int .i64 t380] 38 (0, 0)) (by (with_reducible repeat (first | refine blk_drewN ?_ _ | refine blk_drew ?_ | refine blk_alloc ?_ _)); exact BK382.out) hb)
          have n2_ := Aside0.mk (blk_below (g := gb385) (o := .cells #[.int .i64 t383, .int .i64 t384] 25 (0, 0)) (by (with_reducible repeat (first | refine blk_drewN ?_ _ | refine blk_drew ?_ | refine blk_alloc ?_ _)); exact BK385.out) hb)
          have n3_ := Aside0.mk (below_step (by repeat (first | (with_reducible first | exact HB.out | apply below_alloc | apply pw_below_drewN | apply below_drew1 | refine below_set ?_ GE381.out | refine below_set ?_ GE382.out | refine below_set ?_ GE385.out) | exact HB.out)) hb)
          clear BK381
          clear BK382
          clear BK385
          clear HB
          have BK381 := n0_
          have BK382 := n1_
          have BK385 := n2_
          have HB := n3_
          clear n0_ n1_ n2_ n3_
          (try clear hb)
          (try clear hb2)
          (try clear hk)
          (try clear hi)
          refine hK.out _ _ ⟨(blk_cell BK385.out 0).trans rfl, (blk_cell BK385.out 1).trans rfl, (blk_cell BK381.out 0).trans rfl, (blk_cell BK381.out 1).trans rfl, (blk_cell BK381.out 2).trans rfl, (blk_cell BK381.out 3).trans rfl, (blk_cell BK382.out 0).trans rfl, (blk_cell BK382.out 1).trans rfl⟩ (fun hHeld => ?_)
          clear hK K
          refine norm_ (a' := ?_) ?_ ?_
          rotate_left
          · show Act.put _ (some 21) _ = _
            simp only [Act.put, List.setIfInBounds_toArray, List.set_cons_zero, List.set_cons_succ, i64_w, i32_w]
            rfl
          refine pure_ (i := 4) (N := some 22) (v := ?_) (a' := ?_) #[true, true, true, true, true, false, false, false, false, false, false, false, false, false, false] rfl rfl (any_of HT_.out (by kernel_rfl)) (fun _ _ _ h => h) (Or.inl ⟨by rfl, ?_⟩) ?_ ?_
          rotate_left
          · intro w'
            go_simp
            with_reducible rfl
          rotate_left
          · simp only [Act.put, List.setIfInBounds_toArray, List.set_cons_zero, List.set_cons_succ, i64_w, i32_w]
            rfl
          refine pure_ (i := 5) (N := some 23) (v := ?_) (a' := ?_) #[true, true, true, true, true, true, false, false, false, false, false, false, false, false, false] rfl rfl (any_of HT_.out (by kernel_rfl)) (fun _ _ _ h => h) (Or.inl ⟨by rfl, ?_⟩) ?_ ?_
          rotate_left
          · intro w'
            go_simp
            with_reducible rfl
          rotate_left
          · simp only [Act.put, List.setIfInBounds_toArray, List.set_cons_zero, List.set_cons_succ, i64_w, i32_w]
            rfl
          refine take_ (i := 6) (N := some 24) (v := ?_) (a' := ?_) #[true, true, true, true, true, true, true, false, false, false, false, false, false, false, false] rfl rfl (take_ofW HT_.out HW_.out (by kernel_rfl)) (fun _ _ _ h => h) (Or.inl ⟨by rfl, ?_⟩) hHeld ?_ ?_
          rotate_left
          · rintro w' ⟨s0, s1, s2, s3, s4, s5, s6, s7⟩
            go_simp
            with_reducible rfl
          rotate_left
          · simp only [Act.put, List.setIfInBounds_toArray, List.set_cons_zero, List.set_cons_succ, i64_w, i32_w]
            rfl
          refine one_ (i := 7) (N := some 25) #[true, true, true, true, true, true, true, true, false, false, false, false, false, false, false] rfl rfl (one_of HT_.out (by kernel_rfl)) (by decide) (fun K hK => ?_)
          refine goes_ Tryd.func26 (by kernel_rfl) rfl #[.agg #[.int .i64 t375, .int .i64 t376, .int .i64 t377, .int .i64 t378]] (by rfl) rfl rfl (by (try simp only [List.map_toArray, List.map_cons, List.map_nil]); first | done | rfl | (simp only [List.length_drop, List.length_take]; rfl)) ?_
          with_reducible refine (spec_SegOk.calls t375 t376 t377 t378 false _ A22.out).mono ?_
          rintro e w33 ⟨rfl, hb⟩
          refine ⟨_, rfl, ?_⟩
          have n0_ := Aside0.mk (blk_below (g := gb381) (o := .cells #[.int .i64 t375, .int .i64 t376, .int .i64 t377, .int .i64 t378] 40 (0, 0)) (by (with_reducible repeat (first | refine blk_drewN ?_ _ | refine blk_drew ?_ | refine blk_alloc ?_ _)); exact BK381.out) hb)
          have n1_ := Aside0.mk (blk_below (g := gb382) (o := .cells #[.int .i64 t379, .int .i64 t380] 38 (0, 0)) (by (with_reducible repeat (first | refine blk_drewN ?_ _ | refine blk_drew ?_ | refine blk_alloc ?_ _)); exact BK382.out) hb)
          have n2_ := Aside0.mk (blk_below (g := gb385) (o := .cells #[.int .i64 t383, .int .i64 t384] 25 (0, 0)) (by (with_reducible repeat (first | refine blk_drewN ?_ _ | refine blk_drew ?_ | refine blk_alloc ?_ _)); exact BK385.out) hb)
          have n3_ := Aside0.mk (below_step (by repeat (first | (with_reducible first | exact HB.out | apply below_alloc | apply pw_below_drewN | apply below_drew1 | refine below_set ?_ GE381.out | refine below_set ?_ GE382.out | refine below_set ?_ GE385.out) | exact HB.out)) hb)
          clear BK381
          clear BK382
          clear BK385
          clear HB
          have BK381 := n0_
          have BK382 := n1_
          have BK385 := n2_
          have HB := n3_
          clear n0_ n1_ n2_ n3_
          (try clear hb)
          (try clear hb2)
          (try clear hk)
          (try clear hi)
          refine hK.out _ _ ⟨(blk_cell BK385.out 0).trans rfl, (blk_cell BK385.out 1).trans rfl, (blk_cell BK381.out 0).trans rfl, (blk_cell BK381.out 1).trans rfl, (blk_cell BK381.out 2).trans rfl, (blk_cell BK381.out 3).trans rfl, (blk_cell BK382.out 0).trans rfl, (blk_cell BK382.out 1).trans rfl⟩ (fun hHeld => ?_)
          clear hK K
          refine norm_ (a' := ?_) ?_ ?_
          rotate_left
          · show Act.put _ (some 25) _ = _
            simp only [Act.put, List.setIfInBounds_toArray, List.set_cons_zero, List.set_cons_succ, i64_w, i32_w]
            rfl
          refine pure_ (i := 8) (N := some 26) (v := ?_) (a' := ?_) #[true, true, true, true, true, true, true, true, true, false, false, false, false, false, false] rfl rfl (any_of HT_.out (by kernel_rfl)) (fun _ _ _ h => h) (Or.inl ⟨by rfl, ?_⟩) ?_ ?_
          rotate_left
          · intro w'
            go_simp
            with_reducible rfl
          rotate_left
          · simp only [Act.put, List.setIfInBounds_toArray, List.set_cons_zero, List.set_cons_succ, i64_w, i32_w]
            rfl
          refine pure_ (i := 9) (N := some 27) (v := ?_) (a' := ?_) #[true, true, true, true, true, true, true, true, true, true, false, false, false, false, false] rfl rfl (any_of HT_.out (by kernel_rfl)) (fun _ _ _ h => h) (Or.inl ⟨by rfl, ?_⟩) ?_ ?_
          rotate_left
          · intro w'
            go_simp
            with_reducible rfl
          rotate_left
          · simp only [Act.put, List.setIfInBounds_toArray, List.set_cons_zero, List.set_cons_succ, i64_w, i32_w]
            rfl
          refine pure_ (i := 10) (N := some 28) (v := ?_) (a' := ?_) #[true, true, true, true, true, true, true, true, true, true, true, false, false, false, false] rfl rfl (any_of HT_.out (by kernel_rfl)) (fun _ _ _ h => h) (Or.inl ⟨by rfl, ?_⟩) ?_ ?_
          rotate_left
          · intro w'
            go_simp
            with_reducible rfl
          rotate_left
          · simp only [Act.put, List.setIfInBounds_toArray, List.set_cons_zero, List.set_cons_succ, i64_w, i32_w]
            rfl
          refine pure_ (i := 11) (N := some 29) (v := undef) (a' := ?_) #[true, true, true, true, true, true, true, true, true, true, true, true, false, false, false] rfl rfl (any_of HT_.out (by kernel_rfl)) (fun _ _ _ h => h) (Or.inr ⟨by rfl, rfl⟩) ?_ ?_
          rotate_left
          · simp only [Act.put, List.setIfInBounds_toArray, List.set_cons_zero, List.set_cons_succ, i64_w, i32_w]
            rfl
          refine pure_ (i := 12) (N := some 30) (v := undef) (a' := ?_) #[true, true, true, true, true, true, true, true, true, true, true, true, true, false, false] rfl rfl (any_of HT_.out (by kernel_rfl)) (fun _ _ _ h => h) (Or.inr ⟨by rfl, rfl⟩) ?_ ?_
          rotate_left
          · simp only [Act.put, List.setIfInBounds_toArray, List.set_cons_zero, List.set_cons_succ, i64_w, i32_w]
            rfl
          refine pure_ (i := 13) (N := some 31) (v := undef) (a' := ?_) #[true, true, true, true, true, true, true, true, true, true, true, true, true, true, false] rfl rfl (any_of HT_.out (by kernel_rfl)) (fun _ _ _ h => h) (Or.inr ⟨by rfl, rfl⟩) ?_ ?_
          rotate_left
          · simp only [Act.put, List.setIfInBounds_toArray, List.set_cons_zero, List.set_cons_succ, i64_w, i32_w]
            rfl
          refine pure_ (i := 14) (N := some 32) (v := ?_) (a' := ?_) #[true, true, true, true, true, true, true, true, true, true, true, true, true, true, true] rfl rfl (any_of HT_.out (by kernel_rfl)) (fun _ _ _ h => h) (Or.inl ⟨by rfl, ?_⟩) ?_ ?_
          rotate_left
          · intro w'
            go_simp
            with_reducible rfl
          rotate_left
          · simp only [Act.put, List.setIfInBounds_toArray, List.set_cons_zero, List.set_cons_succ, i64_w, i32_w]
            rfl
          refine done_ (done_of HT_.out (by kernel_rfl)) ?_
          try go_wp2
          go_meet
          case rel => exact ⟨_, (true), (by first | rfl | (simp; done) | (simp [*]; done)), H', ⟨by first | omega | exact Nat.le_refl _⟩, ⟨by (with_reducible repeat (first | refine blk_drewN ?_ _ | refine blk_drew ?_ | refine blk_alloc ?_ _)); exact BK381.out⟩, ⟨by (with_reducible repeat (first | refine blk_drewN ?_ _ | refine blk_drew ?_ | refine blk_alloc ?_ _)); exact BK382.out⟩, ⟨by (with_reducible repeat (first | refine blk_drewN ?_ _ | refine blk_drew ?_ | refine blk_alloc ?_ _)); exact BK385.out⟩, ⟨by repeat (first | (with_reducible first | exact HB.out | apply below_alloc | apply pw_below_drewN | apply below_drew1 | refine below_set ?_ GE381.out | refine below_set ?_ GE382.out | refine below_set ?_ GE385.out) | exact HB.out)⟩⟩
    case rest =>
      clear HC5
      try clear c1
      try clear c2
      try clear p2
      try clear c18
      try clear c18b0
      try clear c23
      try clear c25
      try clear c26
      try clear c27
      obtain ⟨kq, x32_4, rfl, HA, HJ4, BK381, BK382, BK385, HB⟩ := hcut
      cases kq with
      | zero => exact absurd HA.out (by simp [laws_FnFarLonger.j0])
      | succ kj4 =>
        have H := HA.out
        clear HA
        simp only [laws_FnFarLonger.j0] at H
        by_cases c34 : x32_4 = true
        · subst c34
          have H1 : ((spec_SegFar.f kj4 t375 t376 t377 t378 t379 t380).bind fun bt390 => (some (t383 == bt390.1 && (t384 == bt390.2)))) = some r := by rw [if_pos rfl] at H; exact H
          clear H
          have H := H1
          clear H1
          replace H := Option.bind_eq_some_iff.mp H
          obtain ⟨⟨t390, t391⟩, A350, H⟩ := H
          replace H : (some (t383 == t390 && (t384 == t391))) = some r := H
          have A35 := Aside0.mk A350
          clear A350
          obtain rfl := Option.some.inj H
          try go_wp2
          have n0_ := Aside0.mk (blk_drew BK381.out)
          have n1_ := Aside0.mk (blk_drew BK382.out)
          have n2_ := Aside0.mk (blk_drew BK385.out)
          have n3_ := Aside0.mk (below_drew1 HB.out)
          clear BK381
          clear BK382
          clear BK385
          clear HB
          have BK381 := n0_
          have BK382 := n1_
          have BK385 := n2_
          have HB := n3_
          clear n0_ n1_ n2_ n3_
          refine start_ (n := 6) (S := fun w' => w'.cell? ⟨gb385, 0, none⟩ = some (.int .i64 t383) ∧ w'.cell? ⟨gb385, 1, none⟩ = some (.int .i64 t384) ∧ w'.cell? ⟨gb381, 0, none⟩ = some (.int .i64 t375) ∧ w'.cell? ⟨gb381, 1, none⟩ = some (.int .i64 t376) ∧ w'.cell? ⟨gb381, 2, none⟩ = some (.int .i64 t377) ∧ w'.cell? ⟨gb381, 3, none⟩ = some (.int .i64 t378) ∧ w'.cell? ⟨gb382, 0, none⟩ = some (.int .i64 t379) ∧ w'.cell? ⟨gb382, 1, none⟩ = some (.int .i64 t380)) (ds := []) #[false, false, false, false, false, false] (by kernel_rfl) rfl rfl ⟨(blk_cell BK385.out 0).trans rfl, (blk_cell BK385.out 1).trans rfl, (blk_cell BK381.out 0).trans rfl, (blk_cell BK381.out 1).trans rfl, (blk_cell BK381.out 2).trans rfl, (blk_cell BK381.out 3).trans rfl, (blk_cell BK382.out 0).trans rfl, (blk_cell BK382.out 1).trans rfl⟩ (fun hHeld => ?_)
          generalize wc.drew = w36 at BK381 BK382 BK385 HB hHeld ⊢
          refine take_ (i := 0) (N := some 33) (v := ?_) (a' := ?_) #[true, false, false, false, false, false] rfl rfl (by kernel_rfl) (fun _ _ _ h => h) (Or.inl ⟨by rfl, ?_⟩) hHeld ?_ ?_
          rotate_left
          · rintro w' ⟨s0, s1, s2, s3, s4, s5, s6, s7⟩
            go_simp
            with_reducible rfl
          rotate_left
          · simp only [Act.put, List.setIfInBounds_toArray, List.set_cons_zero, List.set_cons_succ, i64_w, i32_w]
            rfl
          refine take_ (i := 1) (N := some 34) (v := ?_) (a' := ?_) #[true, true, false, false, false, false] rfl rfl (by kernel_rfl) (fun _ _ _ h => h) (Or.inl ⟨by rfl, ?_⟩) hHeld ?_ ?_
          rotate_left
          · rintro w' ⟨s0, s1, s2, s3, s4, s5, s6, s7⟩
            go_simp
            with_reducible rfl
          rotate_left
          · simp only [Act.put, List.setIfInBounds_toArray, List.set_cons_zero, List.set_cons_succ, i64_w, i32_w]
            rfl
          refine take_ (i := 2) (N := some 35) (v := ?_) (a' := ?_) #[true, true, true, false, false, false] rfl rfl (by kernel_rfl) (fun _ _ _ h => h) (Or.inl ⟨by rfl, ?_⟩) hHeld ?_ ?_
          rotate_left
          · rintro w' ⟨s0, s1, s2, s3, s4, s5, s6, s7⟩
            go_simp
            with_reducible rfl
          rotate_left
          · simp only [Act.put, List.setIfInBounds_toArray, List.set_cons_zero, List.set_cons_succ, i64_w, i32_w]
            rfl
          refine one_ (i := 3) (N := some 36) #[true, true, true, true, false, false] rfl rfl (by kernel_rfl) (by decide) (fun K hK => ?_)
          refine goes_ Tryd.func25 (by kernel_rfl) rfl #[.agg #[.int .i64 t375, .int .i64 t376, .int .i64 t377, .int .i64 t378], .agg #[.int .i64 t379, .int .i64 t380]] (by rfl) rfl rfl (by (try simp only [List.map_toArray, List.map_cons, List.map_nil]); first | done | rfl | (simp only [List.length_drop, List.length_take]; rfl)) ?_
          with_reducible refine (spec_SegFar.calls kj4 t375 t376 t377 t378 t379 t380 t390 t391 _ A35.out).mono ?_
          rintro e w37 ⟨rfl, hb⟩
          refine ⟨_, rfl, ?_⟩
          have n0_ := Aside0.mk (blk_below (g := gb381) (o := .cells #[.int .i64 t375, .int .i64 t376, .int .i64 t377, .int .i64 t378] 40 (0, 0)) (by (with_reducible repeat (first | refine blk_drewN ?_ _ | refine blk_drew ?_ | refine blk_alloc ?_ _)); exact BK381.out) hb)
          have n1_ := Aside0.mk (blk_below (g := gb382) (o := .cells #[.int .i64 t379, .int .i64 t380] 38 (0, 0)) (by (with_reducible repeat (first | refine blk_drewN ?_ _ | refine blk_drew ?_ | refine blk_alloc ?_ _)); exact BK382.out) hb)
          have n2_ := Aside0.mk (blk_below (g := gb385) (o := .cells #[.int .i64 t383, .int .i64 t384] 25 (0, 0)) (by (with_reducible repeat (first | refine blk_drewN ?_ _ | refine blk_drew ?_ | refine blk_alloc ?_ _)); exact BK385.out) hb)
          have n3_ := Aside0.mk (below_step (by repeat (first | (with_reducible first | exact HB.out | apply below_alloc | apply pw_below_drewN | apply below_drew1 | refine below_set ?_ GE381.out | refine below_set ?_ GE382.out | refine below_set ?_ GE385.out) | exact HB.out)) hb)
          clear BK381
          clear BK382
          clear BK385
          clear HB
          have BK381 := n0_
          have BK382 := n1_
          have BK385 := n2_
          have HB := n3_
          clear n0_ n1_ n2_ n3_
          (try clear hb)
          (try clear hb2)
          (try clear hk)
          (try clear hi)
          refine hK.out _ _ ⟨(blk_cell BK385.out 0).trans rfl, (blk_cell BK385.out 1).trans rfl, (blk_cell BK381.out 0).trans rfl, (blk_cell BK381.out 1).trans rfl, (blk_cell BK381.out 2).trans rfl, (blk_cell BK381.out 3).trans rfl, (blk_cell BK382.out 0).trans rfl, (blk_cell BK382.out 1).trans rfl⟩ (fun hHeld => ?_)
          clear hK K
          refine norm_ (a' := ?_) ?_ ?_
          rotate_left
          · show Act.put _ (some 36) _ = _
            simp only [Act.put, List.setIfInBounds_toArray, List.set_cons_zero, List.set_cons_succ, i64_w, i32_w]
            rfl
          refine pure_ (i := 4) (N := some 37) (v := ?_) (a' := ?_) #[true, true, true, true, true, false] rfl rfl (by kernel_rfl) (fun _ _ _ h => h) (Or.inl ⟨by rfl, ?_⟩) ?_ ?_
          rotate_left
          · intro w'
            go_simp
            with_reducible rfl
          rotate_left
          · simp only [Act.put, List.setIfInBounds_toArray, List.set_cons_zero, List.set_cons_succ, i64_w, i32_w]
            rfl
          refine pure_ (i := 5) (N := some 2) (v := ?_) (a' := ?_) #[true, true, true, true, true, true] rfl rfl (by kernel_rfl) (fun _ _ _ h => h) (Or.inl ⟨by rfl, ?_⟩) ?_ ?_
          rotate_left
          · intro w'
            go_simp
            with_reducible rfl
          rotate_left
          · simp only [Act.put, List.setIfInBounds_toArray, List.set_cons_zero, List.set_cons_succ, i64_w, i32_w]
            rfl
          refine done_ (by kernel_rfl) ?_
          try go_wp2
          go_ret
          exact ⟨by first | rfl | (simp [errW_none, errW_some] <;> rfl) | (simp [*, errW_none, errW_some] <;> rfl), by repeat (first | (with_reducible first | exact HB.out | apply below_alloc | apply pw_below_drewN | apply below_drew1 | refine below_set ?_ GE381.out | refine below_set ?_ GE382.out | refine below_set ?_ GE385.out) | exact HB.out)⟩
        · replace c34 := Bool.eq_false_iff.mpr c34
          subst c34
          have H1 : ((impl_SegOk.f t375 t376 (wrap64 ((wrap64 (2 * t377)) - t375)) (wrap64 ((wrap64 (2 * t378)) - t376))).bind fun t393 => (if t393 = true then ((impl_SegFar.f t375 t376 (wrap64 ((wrap64 (2 * t377)) - t375)) (wrap64 ((wrap64 (2 * t378)) - t376)) t379 t380).bind fun bt394 => ((impl_FracCmp.f bt394.1 bt394.2 t383 t384).bind fun t396 => (if t396 ≤ 0 then ((impl_SegHas.f kj4 t375 t376 (wrap64 ((wrap64 (2 * t377)) - t375)) (wrap64 ((wrap64 (2 * t378)) - t376)) t377 t378).bind fun t397 => (some t397)) else (some false)))) else (some true))) = some r := by rw [if_neg (show ¬ (false = true) by decide)] at H; exact H
          clear H
          have H := H1
          clear H1
          replace H := Option.bind_eq_some_iff.mp H
          obtain ⟨t393, A380, H⟩ := H
          replace H : (if t393 = true then ((impl_SegFar.f t375 t376 (wrap64 ((wrap64 (2 * t377)) - t375)) (wrap64 ((wrap64 (2 * t378)) - t376)) t379 t380).bind fun bt394 => ((impl_FracCmp.f bt394.1 bt394.2 t383 t384).bind fun t396 => (if t396 ≤ 0 then ((impl_SegHas.f kj4 t375 t376 (wrap64 ((wrap64 (2 * t377)) - t375)) (wrap64 ((wrap64 (2 * t378)) - t376)) t377 t378).bind fun t397 => (some t397)) else (some false)))) else (some true)) = some r := H
          have A38 := Aside0.mk A380
          clear A380
          by_cases c39 : t393 = true
          · subst c39
            have H1 : ((impl_SegFar.f t375 t376 (wrap64 ((wrap64 (2 * t377)) - t375)) (wrap64 ((wrap64 (2 * t378)) - t376)) t379 t380).bind fun bt394 => ((impl_FracCmp.f bt394.1 bt394.2 t383 t384).bind fun t396 => (if t396 ≤ 0 then ((impl_SegHas.f kj4 t375 t376 (wrap64 ((wrap64 (2 * t377)) - t375)) (wrap64 ((wrap64 (2 * t378)) - t376)) t377 t378).bind fun t397 => (some t397)) else (some false)))) = some r := by rw [if_pos rfl] at H; exact H
            clear H
            have H := H1
            clear H1
            replace H := Option.bind_eq_some_iff.mp H
            obtain ⟨⟨t394, t395⟩, A400, H⟩ := H
            replace H : ((impl_FracCmp.f t394 t395 t383 t384).bind fun t396 => (if t396 ≤ 0 then ((impl_SegHas.f kj4 t375 t376 (wrap64 ((wrap64 (2 * t377)) - t375)) (wrap64 ((wrap64 (2 * t378)) - t376)) t377 t378).bind fun t397 => (some t397)) else (some false))) = some r := H
            have A40 := Aside0.mk A400
            clear A400
            replace H := Option.bind_eq_some_iff.mp H
            obtain ⟨t396, A410, H⟩ := H
            replace H : (if t396 ≤ 0 then ((impl_SegHas.f kj4 t375 t376 (wrap64 ((wrap64 (2 * t377)) - t375)) (wrap64 ((wrap64 (2 * t378)) - t376)) t377 t378).bind fun t397 => (some t397)) else (some false)) = some r := H
            have A41 := Aside0.mk A410
            clear A410
            by_cases c42 : t396 ≤ 0
            · rw [if_pos c42] at H
              have c42b0 : decide (t396 ≤ 0) = true := decide_eq_true c42
              clear c42
              replace H := Option.bind_eq_some_iff.mp H
              obtain ⟨t397, A430, H⟩ := H
              replace H : (some t397) = some r := H
              have A43 := Aside0.mk A430
              clear A430
              obtain rfl := Option.some.inj H
              have hnb44 := NB381_382.out
              have hnc44 := NB382_381.out
              have hnb45 := NB381_385.out
              have hnc45 := NB385_381.out
              have hcz46_0 : wc.cell? ⟨gb381, 0, none⟩ = some (.int .i64 t375) := (blk_cell BK381.out 0).trans rfl
              have hcz46_1 : wc.cell? ⟨gb381, 1, none⟩ = some (.int .i64 t376) := (blk_cell BK381.out 1).trans rfl
              have hcz46_2 : wc.cell? ⟨gb381, 2, none⟩ = some (.int .i64 t377) := (blk_cell BK381.out 2).trans rfl
              have hcz46_3 : wc.cell? ⟨gb381, 3, none⟩ = some (.int .i64 t378) := (blk_cell BK381.out 3).trans rfl
              have hfz46_0 := blk_frozen BK381.out 0
              have hfz46_1 := blk_frozen BK381.out 1
              have hfz46_2 := blk_frozen BK381.out 2
              have hfz46_3 := blk_frozen BK381.out 3
              try go_wp2_with (first | ((with_reducible refine gate_dst (N := 6) rfl ?_); refine box_event ?hg (N := 6) ?hd (cs := #[.int .i64 0, .int .i64 0, .int .i64 0, .int .i64 0]) (t := 40) ?hr ?_; (case hd => rfl); (case hg => rfl); (case hr => first | (go_simp; done) | (go_simp; rfl)); intro gb392 hg w47 hbox hb; have n0_ := Aside0.mk (blk_below (g := gb381) (o := .cells #[.int .i64 t375, .int .i64 t376, .int .i64 t377, .int .i64 t378] 40 (0, 0)) (by (with_reducible repeat (first | refine blk_drewN ?_ _ | refine blk_drew ?_ | refine blk_alloc ?_ _)); exact BK381.out) hb); have n1_ := Aside0.mk (blk_below (g := gb382) (o := .cells #[.int .i64 t379, .int .i64 t380] 38 (0, 0)) (by (with_reducible repeat (first | refine blk_drewN ?_ _ | refine blk_drew ?_ | refine blk_alloc ?_ _)); exact BK382.out) hb); have n2_ := Aside0.mk (blk_below (g := gb385) (o := .cells #[.int .i64 t383, .int .i64 t384] 25 (0, 0)) (by (with_reducible repeat (first | refine blk_drewN ?_ _ | refine blk_drew ?_ | refine blk_alloc ?_ _)); exact BK385.out) hb); have n3_ := Aside0.mk (below_step (by repeat (first | (with_reducible first | exact HB.out | apply below_alloc | apply pw_below_drewN | apply below_drew1 | refine below_set ?_ GE381.out | refine below_set ?_ GE382.out | refine below_set ?_ GE385.out) | exact HB.out)) hb); have n4_ := Aside0.mk (hbox); have n5_ := Aside0.mk ((by rw [hg]; exact (below_size (by repeat (first | (with_reducible first | exact HB.out | apply below_alloc | apply pw_below_drewN | apply below_drew1 | refine below_set ?_ GE381.out | refine below_set ?_ GE382.out | refine below_set ?_ GE385.out) | exact HB.out))) : w.heap.size ≤ gb392)); have n6_ := Aside0.mk ((by rw [hg]; exact (below_size (by repeat (first | (with_reducible first | exact HB.out | apply below_alloc | apply pw_below_drewN | apply below_drew1 | refine below_set ?_ GE381.out | refine below_set ?_ GE382.out | refine below_set ?_ GE385.out) | exact HB.out))) : w.heap.size ≤ gb392)); have n7_ := Aside0.mk ((by rw [hg]; exact Nat.ne_of_lt (blk_lt (g := gb381) (o := .cells #[.int .i64 t375, .int .i64 t376, .int .i64 t377, .int .i64 t378] 40 (0, 0)) (by (with_reducible repeat (first | refine blk_drewN ?_ _ | refine blk_drew ?_ | refine blk_alloc ?_ _)); exact BK381.out)) : gb381 ≠ gb392)); have n8_ := Aside0.mk ((by rw [hg]; exact Nat.ne_of_gt (blk_lt (g := gb381) (o := .cells #[.int .i64 t375, .int .i64 t376, .int .i64 t377, .int .i64 t378] 40 (0, 0)) (by (with_reducible repeat (first | refine blk_drewN ?_ _ | refine blk_drew ?_ | refine blk_alloc ?_ _)); exact BK381.out)) : gb392 ≠ gb381)); have n9_ := Aside0.mk ((by rw [hg]; exact Nat.ne_of_lt (blk_lt (g := gb382) (o := .cells #[.int .i64 t379, .int .i64 t380] 38 (0, 0)) (by (with_reducible repeat (first | refine blk_drewN ?_ _ | refine blk_drew ?_ | refine blk_alloc ?_ _)); exact BK382.out)) : gb382 ≠ gb392)); have n10_ := Aside0.mk ((by rw [hg]; exact Nat.ne_of_gt (blk_lt (g := gb382) (o := .cells #[.int .i64 t379, .int .i64 t380] 38 (0, 0)) (by (with_reducible repeat (first | refine blk_drewN ?_ _ | refine blk_drew ?_ | refine blk_alloc ?_ _)); exact BK382.out)) : gb392 ≠ gb382)); have n11_ := Aside0.mk ((by rw [hg]; exact Nat.ne_of_lt (blk_lt (g := gb385) (o := .cells #[.int .i64 t383, .int .i64 t384] 25 (0, 0)) (by (with_reducible repeat (first | refine blk_drewN ?_ _ | refine blk_drew ?_ | refine blk_alloc ?_ _)); exact BK385.out)) : gb385 ≠ gb392)); have n12_ := Aside0.mk ((by rw [hg]; exact Nat.ne_of_gt (blk_lt (g := gb385) (o := .cells #[.int .i64 t383, .int .i64 t384] 25 (0, 0)) (by (with_reducible repeat (first | refine blk_drewN ?_ _ | refine blk_drew ?_ | refine blk_alloc ?_ _)); exact BK385.out)) : gb392 ≠ gb385)); clear BK381; clear BK382; clear BK385; clear HB; have BK381 := n0_; have BK382 := n1_; have BK385 := n2_; have HB := n3_; have BK392 := n4_; have GW392 := n5_; have GE392 := n6_; have NB381_392 := n7_; have NB392_381 := n8_; have NB382_392 := n9_; have NB392_382 := n10_; have NB385_392 := n11_; have NB392_385 := n12_; clear n0_ n1_ n2_ n3_ n4_ n5_ n6_ n7_ n8_ n9_ n10_ n11_ n12_; clear hb hbox hg; have hnb48 := NB392_381.out; have hnc48 := NB381_392.out; have hnb49 := NB392_382.out; have hnc49 := NB382_392.out; have hnb50 := NB392_385.out; have hnc50 := NB385_392.out; have hcz51_0 : w47.cell? ⟨gb392, 0, none⟩ = some (.int .i64 0) := (blk_cell BK392.out 0).trans rfl; have hcz51_1 : w47.cell? ⟨gb392, 1, none⟩ = some (.int .i64 0) := (blk_cell BK392.out 1).trans rfl; have hcz51_2 : w47.cell? ⟨gb392, 2, none⟩ = some (.int .i64 0) := (blk_cell BK392.out 2).trans rfl; have hcz51_3 : w47.cell? ⟨gb392, 3, none⟩ = some (.int .i64 0) := (blk_cell BK392.out 3).trans rfl; have hfz51_0 := blk_frozen BK392.out 0; have hfz51_1 := blk_frozen BK392.out 1; have hfz51_2 := blk_frozen BK392.out 2; have hfz51_3 := blk_frozen BK392.out 3) | ((with_reducible refine gate_callee (f := 28) rfl ?_); refine goesL_ (some 59) rfl rfl Tryd.func28 (by kernel_rfl) rfl #[.agg #[.int .i64 t375, .int .i64 t376, .int .i64 (wrap64 ((wrap64 (2 * t377)) - t375)), .int .i64 (wrap64 ((wrap64 (2 * t378)) - t376))]] rfl (by (try simp only [List.map_toArray, List.map_cons, List.map_nil]); first | done | rfl | (simp only [List.length_drop, List.length_take]; rfl)) ?_; (with_reducible refine (impl_SegOk.calls t375 t376 (wrap64 ((wrap64 (2 * t377)) - t375)) (wrap64 ((wrap64 (2 * t378)) - t376)) true _ A38.out).mono ?_); rintro e w52 ⟨rfl, hb⟩; refine ⟨_, rfl, ?_⟩; have n0_ := Aside0.mk (blk_below (g := gb381) (o := .cells #[.int .i64 t375, .int .i64 t376, .int .i64 t377, .int .i64 t378] 40 (0, 0)) (by (with_reducible repeat (first | refine blk_drewN ?_ _ | refine blk_drew ?_ | refine blk_alloc ?_ _)); refine blk_far ?_ NB381_392.out _; (with_reducible repeat (first | refine blk_drewN ?_ _ | refine blk_drew ?_ | refine blk_alloc ?_ _)); refine blk_far ?_ NB381_392.out _; (with_reducible repeat (first | refine blk_drewN ?_ _ | refine blk_drew ?_ | refine blk_alloc ?_ _)); refine blk_far ?_ NB381_392.out _; (with_reducible repeat (first | refine blk_drewN ?_ _ | refine blk_drew ?_ | refine blk_alloc ?_ _)); refine blk_far ?_ NB381_392.out _; (with_reducible repeat (first | refine blk_drewN ?_ _ | refine blk_drew ?_ | refine blk_alloc ?_ _)); exact BK381.out) hb); have n1_ := Aside0.mk (blk_below (g := gb382) (o := .cells #[.int .i64 t379, .int .i64 t380] 38 (0, 0)) (by (with_reducible repeat (first | refine blk_drewN ?_ _ | refine blk_drew ?_ | refine blk_alloc ?_ _)); refine blk_far ?_ NB382_392.out _; (with_reducible repeat (first | refine blk_drewN ?_ _ | refine blk_drew ?_ | refine blk_alloc ?_ _)); refine blk_far ?_ NB382_392.out _; (with_reducible repeat (first | refine blk_drewN ?_ _ | refine blk_drew ?_ | refine blk_alloc ?_ _)); refine blk_far ?_ NB382_392.out _; (with_reducible repeat (first | refine blk_drewN ?_ _ | refine blk_drew ?_ | refine blk_alloc ?_ _)); refine blk_far ?_ NB382_392.out _; (with_reducible repeat (first | refine blk_drewN ?_ _ | refine blk_drew ?_ | refine blk_alloc ?_ _)); exact BK382.out) hb); have n2_ := Aside0.mk (blk_below (g := gb385) (o := .cells #[.int .i64 t383, .int .i64 t384] 25 (0, 0)) (by (with_reducible repeat (first | refine blk_drewN ?_ _ | refine blk_drew ?_ | refine blk_alloc ?_ _)); refine blk_far ?_ NB385_392.out _; (with_reducible repeat (first | refine blk_drewN ?_ _ | refine blk_drew ?_ | refine blk_alloc ?_ _)); refine blk_far ?_ NB385_392.out _; (with_reducible repeat (first | refine blk_drewN ?_ _ | refine blk_drew ?_ | refine blk_alloc ?_ _)); refine blk_far ?_ NB385_392.out _; (with_reducible repeat (first | refine blk_drewN ?_ _ | refine blk_drew ?_ | refine blk_alloc ?_ _)); refine blk_far ?_ NB385_392.out _; (with_reducible repeat (first | refine blk_drewN ?_ _ | refine blk_drew ?_ | refine blk_alloc ?_ _)); exact BK385.out) hb); have n3_ := Aside0.mk (blk_below (g := gb392) (o := .cells #[.int .i64 t375, .int .i64 t376, .int .i64 (wrap64 ((wrap64 (2 * t377)) - t375)), .int .i64 (wrap64 ((wrap64 (2 * t378)) - t376))] 40 (0, 0)) (by (with_reducible repeat (first | refine blk_drewN ?_ _ | refine blk_drew ?_ | refine blk_alloc ?_ _)); refine blk_put (cs := #[.int .i64 t375, .int .i64 t376, .int .i64 (wrap64 ((wrap64 (2 * t377)) - t375)), .int .i64 0]) ?_ 3 _ rfl; (with_reducible repeat (first | refine blk_drewN ?_ _ | refine blk_drew ?_ | refine blk_alloc ?_ _)); refine blk_put (cs := #[.int .i64 t375, .int .i64 t376, .int .i64 0, .int .i64 0]) ?_ 2 _ rfl; (with_reducible repeat (first | refine blk_drewN ?_ _ | refine blk_drew ?_ | refine blk_alloc ?_ _)); refine blk_put (cs := #[.int .i64 t375, .int .i64 0, .int .i64 0, .int .i64 0]) ?_ 1 _ rfl; (with_reducible repeat (first | refine blk_drewN ?_ _ | refine blk_drew ?_ | refine blk_alloc ?_ _)); refine blk_put (cs := #[.int .i64 0, .int .i64 0, .int .i64 0, .int .i64 0]) ?_ 0 _ rfl; (with_reducible repeat (first | refine blk_drewN ?_ _ | refine blk_drew ?_ | refine blk_alloc ?_ _)); exact BK392.out) hb); have n4_ := Aside0.mk (below_step (by repeat (first | (with_reducible first | exact HB.out | apply below_alloc | apply pw_below_drewN | apply below_drew1 | refine below_set ?_ GE381.out | refine below_set ?_ GE382.out | refine below_set ?_ GE385.out | refine below_set ?_ GE392.out) | exact HB.out)) hb); clear BK381; clear BK382; clear BK385; clear BK392; clear HB; have BK381 := n0_; have BK382 := n1_; have BK385 := n2_; have BK392 := n3_; have HB := n4_; clear n0_ n1_ n2_ n3_ n4_; (try clear hb); (try clear hb2); (try clear hk); (try clear hi)))
              have n0_ := Aside0.mk (blk_drew BK381.out)
              have n1_ := Aside0.mk (blk_drew BK382.out)
              have n2_ := Aside0.mk (blk_drew BK385.out)
              have n3_ := Aside0.mk (blk_drew BK392.out)
              have n4_ := Aside0.mk (below_drew1 HB.out)
              clear BK381
              clear BK382
              clear BK385
              clear BK392
              clear HB
              have BK381 := n0_
              have BK382 := n1_
              have BK385 := n2_
              have BK392 := n3_
              have HB := n4_
              clear n0_ n1_ n2_ n3_ n4_
              refine start_ (n := 13) (S := fun w' => w'.cell? ⟨gb392, 0, none⟩ = some (.int .i64 t375) ∧ w'.cell? ⟨gb392, 1, none⟩ = some (.int .i64 t376) ∧ w'.cell? ⟨gb392, 2, none⟩ = some (.int .i64 (wrap64 ((wrap64 (2 * t377)) - t375))) ∧ w'.cell? ⟨gb392, 3, none⟩ = some (.int .i64 (wrap64 ((wrap64 (2 * t378)) - t376))) ∧ w'.cell? ⟨gb382, 0, none⟩ = some (.int .i64 t379) ∧ w'.cell? ⟨gb382, 1, none⟩ = some (.int .i64 t380) ∧ w'.cell? ⟨gb385, 0, none⟩ = some (.int .i64 t383) ∧ w'.cell? ⟨gb385, 1, none⟩ = some (.int .i64 t384) ∧ w'.cell? ⟨gb381, 0, none⟩ = some (.int .i64 t375) ∧ w'.cell? ⟨gb381, 1, none⟩ = some (.int .i64 t376) ∧ w'.cell? ⟨gb381, 2, none⟩ = some (.int .i64 t377) ∧ w'.cell? ⟨gb381, 3, none⟩ = some (.int .i64 t378)) (ds := []) #[false, false, false, false, false, false, false, false, false, false, false, false, false] (by kernel_rfl) rfl rfl ⟨(blk_cell BK392.out 0).trans rfl, (blk_cell BK392.out 1).trans rfl, (blk_cell BK392.out 2).trans rfl, (blk_cell BK392.out 3).trans rfl, (blk_cell BK382.out 0).trans rfl, (blk_cell BK382.out 1).trans rfl, (blk_cell BK385.out 0).trans rfl, (blk_cell BK385.out 1).trans rfl, (blk_cell BK381.out 0).trans rfl, (blk_cell BK381.out 1).trans rfl, (blk_cell BK381.out 2).trans rfl, (blk_cell BK381.out 3).trans rfl⟩ (fun hHeld => ?_); refine with_tabW laws_FnFarLonger.tab10 laws_FnFarLonger.bits10 (fun HT_ HW_ => ?_)
              generalize w52.drew = w53 at BK381 BK382 BK385 BK392 HB hHeld ⊢
              refine take_ (i := 0) (N := some 61) (v := ?_) (a' := ?_) #[true, false, false, false, false, false, false, false, false, false, false, false, false] rfl rfl (take_ofW HT_.out HW_.out (by kernel_rfl)) (fun _ _ _ h => h) (Or.inl ⟨by rfl, ?_⟩) hHeld ?_ ?_
              rotate_left
              · rintro w' ⟨s0, s1, s2, s3, s4, s5, s6, s7, s8, s9, s10, s11⟩
                go_simp
                with_reducible rfl
              rotate_left
              · simp only [Act.put, List.setIfInBounds_toArray, List.set_cons_zero, List.set_cons_succ, i64_w, i32_w]
                rfl
              refine take_ (i := 1) (N := some 62) (v := ?_) (a' := ?_) #[true, true, false, false, false, false, false, false, false, false, false, false, false] rfl rfl (take_ofW HT_.out HW_.out (by kernel_rfl)) (fun _ _ _ h => h) (Or.inl ⟨by rfl, ?_⟩) hHeld ?_ ?_
              rotate_left
              · rintro w' ⟨s0, s1, s2, s3, s4, s5, s6, s7, s8, s9, s10, s11⟩
                go_simp
                with_reducible rfl
              rotate_left
              · simp only [Act.put, List.setIfInBounds_toArray, List.set_cons_zero, List.set_cons_succ, i64_w, i32_w]
                rfl
              refine take_ (i := 3) (N := some 64) (v := ?_) (a' := ?_) #[true, true, false, true, false, false, false, false, false, false, false, false, false] rfl rfl (take_ofW HT_.out HW_.out (by kernel_rfl)) (fun _ _ _ h => h) (Or.inl ⟨by rfl, ?_⟩) hHeld ?_ ?_
              rotate_left
              · rintro w' ⟨s0, s1, s2, s3, s4, s5, s6, s7, s8, s9, s10, s11⟩
                go_simp
                with_reducible rfl
              rotate_left
              · simp only [Act.put, List.setIfInBounds_toArray, List.set_cons_zero, List.set_cons_succ, i64_w, i32_w]
                rfl
              refine one_ (i := 2) (N := some 63) #[true, true, true, true, false, false, false, false, false, false, false, false, false] rfl rfl (one_of HT_.out (by kernel_rfl)) (by decide) (fun K hK => ?_)
              refine goes_ Tryd.func24 (by kernel_rfl) rfl #[.agg #[.int .i64 t375, .int .i64 t376, .int .i64 (wrap64 ((wrap64 (2 * t377)) - t375)), .int .i64 (wrap64 ((wrap64 (2 * t378)) - t376))], .agg #[.int .i64 t379, .int .i64 t380]] (by rfl) rfl rfl (by (try simp only [List.map_toArray, List.map_cons, List.map_nil]); first | done | rfl | (simp only [List.length_drop, List.length_take]; rfl)) ?_
              with_reducible refine (impl_SegFar.calls t375 t376 (wrap64 ((wrap64 (2 * t377)) - t375)) (wrap64 ((wrap64 (2 * t378)) - t376)) t379 t380 t394 t395 _ A40.out).mono ?_
              rintro e w54 ⟨rfl, hb⟩
              refine ⟨_, rfl, ?_⟩
              have n0_ := Aside0.mk (blk_below (g := gb381) (o := .cells #[.int .i64 t375, .int .i64 t376, .int .i64 t377, .int .i64 t378] 40 (0, 0)) (by (with_reducible repeat (first | refine blk_drewN ?_ _ | refine blk_drew ?_ | refine blk_alloc ?_ _)); exact BK381.out) hb)
              have n1_ := Aside0.mk (blk_below (g := gb382) (o := .cells #[.int .i64 t379, .int .i64 t380] 38 (0, 0)) (by (with_reducible repeat (first | refine blk_drewN ?_ _ | refine blk_drew ?_ | refine blk_alloc ?_ _)); exact BK382.out) hb)
              have n2_ := Aside0.mk (blk_below (g := gb385) (o := .cells #[.int .i64 t383, .int .i64 t384] 25 (0, 0)) (by (with_reducible repeat (first | refine blk_drewN ?_ _ | refine blk_drew ?_ | refine blk_alloc ?_ _)); exact BK385.out) hb)
              have n3_ := Aside0.mk (blk_below (g := gb392) (o := .cells #[.int .i64 t375, .int .i64 t376, .int .i64 (wrap64 ((wrap64 (2 * t377)) - t375)), .int .i64 (wrap64 ((wrap64 (2 * t378)) - t376))] 40 (0, 0)) (by (with_reducible repeat (first | refine blk_drewN ?_ _ | refine blk_drew ?_ | refine blk_alloc ?_ _)); exact BK392.out) hb)
              have n4_ := Aside0.mk (below_step (by repeat (first | (with_reducible first | exact HB.out | apply below_alloc | apply pw_below_drewN | apply below_drew1 | refine below_set ?_ GE381.out | refine below_set ?_ GE382.out | refine below_set ?_ GE385.out | refine below_set ?_ GE392.out) | exact HB.out)) hb)
              clear BK381
              clear BK382
              clear BK385
              clear BK392
              clear HB
              have BK381 := n0_
              have BK382 := n1_
              have BK385 := n2_
              have BK392 := n3_
              have HB := n4_
              clear n0_ n1_ n2_ n3_ n4_
              (try clear hb)
              (try clear hb2)
              (try clear hk)
              (try clear hi)
              refine hK.out _ _ ⟨(blk_cell BK392.out 0).trans rfl, (blk_cell BK392.out 1).trans rfl, (blk_cell BK392.out 2).trans rfl, (blk_cell BK392.out 3).trans rfl, (blk_cell BK382.out 0).trans rfl, (blk_cell BK382.out 1).trans rfl, (blk_cell BK385.out 0).trans rfl, (blk_cell BK385.out 1).trans rfl, (blk_cell BK381.out 0).trans rfl, (blk_cell BK381.out 1).trans rfl, (blk_cell BK381.out 2).trans rfl, (blk_cell BK381.out 3).trans rfl⟩ (fun hHeld => ?_)
              clear hK K
              refine norm_ (a' := ?_) ?_ ?_
              rotate_left
              · show Act.put _ (some 63) _ = _
                simp only [Act.put, List.setIfInBounds_toArray, List.set_cons_zero, List.set_cons_succ, i64_w, i32_w]
                rfl
              refine one_ (i := 4) (N := some 65) #[true, true, true, true, true, false, false, false, false, false, false, false, false] rfl rfl (one_of HT_.out (by kernel_rfl)) (by decide) (fun K hK => ?_)
              refine goes_ Tryd.func17 (by kernel_rfl) rfl #[.agg #[.int .i64 t394, .int .i64 t395], .agg #[.int .i64 t383, .int .i64 t384]] (by rfl) rfl rfl (by (try simp only [List.map_toArray, List.map_cons, List.map_nil]); first | done | rfl | (simp only [List.length_drop, List.length_take]; rfl)) ?_
              with_reducible refine (impl_FracCmp.calls t394 t395 t383 t384 t396 _ ?side1 A41.out).mono ?_
              (case side1 => exact ErrW.below HE.out (by repeat (first | (with_reducible first | exact HB.out | apply below_alloc | apply pw_below_drewN | apply below_drew1 | refine below_set ?_ GE381.out | refine below_set ?_ GE382.out | refine below_set ?_ GE385.out | refine below_set ?_ GE392.out) | exact HB.out)))
              rintro e w55 ⟨rfl, hb⟩
              refine ⟨_, rfl, ?_⟩
              have n0_ := Aside0.mk (blk_below (g := gb381) (o := .cells #[.int .i64 t375, .int .i64 t376, .int .i64 t377, .int .i64 t378] 40 (0, 0)) (by (with_reducible repeat (first | refine blk_drewN ?_ _ | refine blk_drew ?_ | refine blk_alloc ?_ _)); exact BK381.out) hb)
              have n1_ := Aside0.mk (blk_below (g := gb382) (o := .cells #[.int .i64 t379, .int .i64 t380] 38 (0, 0)) (by (with_reducible repeat (first | refine blk_drewN ?_ _ | refine blk_drew ?_ | refine blk_alloc ?_ _)); exact BK382.out) hb)
              have n2_ := Aside0.mk (blk_below (g := gb385) (o := .cells #[.int .i64 t383, .int .i64 t384] 25 (0, 0)) (by (with_reducible repeat (first | refine blk_drewN ?_ _ | refine blk_drew ?_ | refine blk_alloc ?_ _)); exact BK385.out) hb)
              have n3_ := Aside0.mk (blk_below (g := gb392) (o := .cells #[.int .i64 t375, .int .i64 t376, .int .i64 (wrap64 ((wrap64 (2 * t377)) - t375)), .int .i64 (wrap64 ((wrap64 (2 * t378)) - t376))] 40 (0, 0)) (by (with_reducible repeat (first | refine blk_drewN ?_ _ | refine blk_drew ?_ | refine blk_alloc ?_ _)); exact BK392.out) hb)
              have n4_ := Aside0.mk (below_step (by repeat (first | (with_reducible first | exact HB.out | apply below_alloc | apply pw_below_drewN | apply below_drew1 | refine below_set ?_ GE381.out | refine below_set ?_ GE382.out | refine below_set ?_ GE385.out | refine below_set ?_ GE392.out) | exact HB.out)) hb)
              clear BK381
              clear BK382
              clear BK385
              clear BK392
              clear HB
              have BK381 := n0_
              have BK382 := n1_
              have BK385 := n2_
              have BK392 := n3_
              have HB := n4_
              clear n0_ n1_ n2_ n3_ n4_
              (try clear hb)
              (try clear hb2)
              (try clear hk)
              (try clear hi)
              refine hK.out _ _ ⟨(blk_cell BK392.out 0).trans rfl, (blk_cell BK392.out 1).trans rfl, (blk_cell BK392.out 2).trans rfl, (blk_cell BK392.out 3).trans rfl, (blk_cell BK382.out 0).trans rfl, (blk_cell BK382.out 1).trans rfl, (blk_cell BK385.out 0).trans rfl, (blk_cell BK385.out 1).trans rfl, (blk_cell BK381.out 0).trans rfl, (blk_cell BK381.out 1).trans rfl, (blk_cell BK381.out 2).trans rfl, (blk_cell BK381.out 3).trans rfl⟩ (fun hHeld => ?_)
              clear hK K
              refine norm_ (a' := ?_) ?_ ?_
              rotate_left
              · show Act.put _ (some 65) _ = _
                simp only [Act.put, List.setIfInBounds_toArray, List.set_cons_zero, List.set_cons_succ, i64_w, i32_w]
                rfl
              refine pure_ (i := 5) (N := some 66) (v := ?_) (a' := ?_) #[true, true, true, true, true, true, false, false, false, false, false, false, false] rfl rfl (any_of HT_.out (by kernel_rfl)) (fun _ _ _ h => h) (Or.inl ⟨by rfl, ?_⟩) ?_ ?_
              rotate_left
              · intro w'
                go_simp
                with_reducible rfl
              rotate_left
              · simp only [Act.put, List.setIfInBounds_toArray, List.set_cons_zero, List.set_cons_succ, i64_w, i32_w]
                rfl
              refine pure_ (i := 6) (N := some 67) (v := ?_) (a' := ?_) #[true, true, true, true, true, true, true, false, false, false, false, false, false] rfl rfl (any_of HT_.out (by kernel_rfl)) (fun _ _ _ h => h) (Or.inl ⟨by rfl, ?_⟩) ?_ ?_
              rotate_left
              · intro w'
                go_simp
                with_reducible rfl
              rotate_left
              · simp only [Act.put, List.setIfInBounds_toArray, List.set_cons_zero, List.set_cons_succ, i64_w, i32_w]
                rfl
              refine pure_ (i := 8) (N := some 69) (v := ?_) (a' := ?_) #[true, true, true, true, true, true, true, false, true, false, false, false, false] rfl rfl (any_of HT_.out (by kernel_rfl)) (fun _ _ _ h => h) (Or.inl ⟨by rfl, ?_⟩) ?_ ?_
              rotate_left
              · intro w'
                go_simp
                with_reducible rfl
              rotate_left
              · simp only [Act.put, List.setIfInBounds_toArray, List.set_cons_zero, List.set_cons_succ, i64_w, i32_w]
                rfl
              refine take_ (i := 7) (N := some 68) (v := ?_) (a' := ?_) #[true, true, true, true, true, true, true, true, true, false, false, false, false] rfl rfl (take_ofW HT_.out HW_.out (by kernel_rfl)) (fun _ _ _ h => h) (Or.inl ⟨by rfl, ?_⟩) hHeld ?_ ?_
              rotate_left
              · rintro w' ⟨s0, s1, s2, s3, s4, s5, s6, s7, s8, s9, s10, s11⟩
                go_simp
                with_reducible rfl
              rotate_left
              · simp only [Act.put, List.setIfInBounds_toArray, List.set_cons_zero, List.set_cons_succ, i64_w, i32_w]
                rfl
              refine take_ (i := 9) (N := some 70) (v := ?_) (a' := ?_) #[true, true, true, true, true, true, true, true, true, true, false, false, false] rfl rfl (take_ofW HT_.out HW_.out (by kernel_rfl)) (fun _ _ _ h => h) (Or.inl ⟨by rfl, ?_⟩) hHeld ?_ ?_
              rotate_left
              · rintro w' ⟨s0, s1, s2, s3, s4, s5, s6, s7, s8, s9, s10, s11⟩
                go_simp
                with_reducible rfl
              rotate_left
              · simp only [Act.put, List.setIfInBounds_toArray, List.set_cons_zero, List.set_cons_succ, i64_w, i32_w]
                rfl
              refine one_ (i := 10) (N := some 71) #[true, true, true, true, true, true, true, true, true, true, true, false, false] rfl rfl (one_of HT_.out (by kernel_rfl)) (by decide) (fun K hK => ?_)
              refine goes_ Tryd.func29 (by kernel_rfl) rfl #[.agg #[.int .i64 t375, .int .i64 t376, .int .i64 (wrap64 ((wrap64 (2 * t377)) - t375)), .int .i64 (wrap64 ((wrap64 (2 * t378)) - t376))], .agg #[.int .i64 t377, .int .i64 t378]] (by rfl) rfl rfl (by (try simp only [List.map_toArray, List.map_cons, List.map_nil]); first | done | rfl | (simp only [List.length_drop, List.length_take]; rfl)) ?_
              with_reducible refine (impl_SegHas.calls kj4 t375 t376 (wrap64 ((wrap64 (2 * t377)) - t375)) (wrap64 ((wrap64 (2 * t378)) - t376)) t377 t378 t397 _ A43.out).mono ?_
              rintro e w56 ⟨rfl, hb⟩
              refine ⟨_, rfl, ?_⟩
              have n0_ := Aside0.mk (blk_below (g := gb381) (o := .cells #[.int .i64 t375, .int .i64 t376, .int .i64 t377, .int .i64 t378] 40 (0, 0)) (by (with_reducible repeat (first | refine blk_drewN ?_ _ | refine blk_drew ?_ | refine blk_alloc ?_ _)); exact BK381.out) hb)
              have n1_ := Aside0.mk (blk_below (g := gb382) (o := .cells #[.int .i64 t379, .int .i64 t380] 38 (0, 0)) (by (with_reducible repeat (first | refine blk_drewN ?_ _ | refine blk_drew ?_ | refine blk_alloc ?_ _)); exact BK382.out) hb)
              have n2_ := Aside0.mk (blk_below (g := gb385) (o := .cells #[.int .i64 t383, .int .i64 t384] 25 (0, 0)) (by (with_reducible repeat (first | refine blk_drewN ?_ _ | refine blk_drew ?_ | refine blk_alloc ?_ _)); exact BK385.out) hb)
              have n3_ := Aside0.mk (blk_below (g := gb392) (o := .cells #[.int .i64 t375, .int .i64 t376, .int .i64 (wrap64 ((wrap64 (2 * t377)) - t375)), .int .i64 (wrap64 ((wrap64 (2 * t378)) - t376))] 40 (0, 0)) (by (with_reducible repeat (first | refine blk_drewN ?_ _ | refine blk_drew ?_ | refine blk_alloc ?_ _)); exact BK392.out) hb)
              have n4_ := Aside0.mk (below_step (by repeat (first | (with_reducible first | exact HB.out | apply below_alloc | apply pw_below_drewN | apply below_drew1 | refine below_set ?_ GE381.out | refine below_set ?_ GE382.out | refine below_set ?_ GE385.out | refine below_set ?_ GE392.out) | exact HB.out)) hb)
              clear BK381
              clear BK382
              clear BK385
              clear BK392
              clear HB
              have BK381 := n0_
              have BK382 := n1_
              have BK385 := n2_
              have BK392 := n3_
              have HB := n4_
              clear n0_ n1_ n2_ n3_ n4_
              (try clear hb)
              (try clear hb2)
              (try clear hk)
              (try clear hi)
              refine hK.out _ _ ⟨(blk_cell BK392.out 0).trans rfl, (blk_cell BK392.out 1).trans rfl, (blk_cell BK392.out 2).trans rfl, (blk_cell BK392.out 3).trans rfl, (blk_cell BK382.out 0).trans rfl, (blk_cell BK382.out 1).trans rfl, (blk_cell BK385.out 0).trans rfl, (blk_cell BK385.out 1).trans rfl, (blk_cell BK381.out 0).trans rfl, (blk_cell BK381.out 1).trans rfl, (blk_cell BK381.out 2).trans rfl, (blk_cell BK381.out 3).trans rfl⟩ (fun hHeld => ?_)
              clear hK K
              refine norm_ (a' := ?_) ?_ ?_
              rotate_left
              · show Act.put _ (some 71) _ = _
                simp only [Act.put, List.setIfInBounds_toArray, List.set_cons_zero, List.set_cons_succ, i64_w, i32_w]
                rfl
              refine pure_ (i := 11) (N := some 72) (v := ?_) (a' := ?_) #[true, true, true, true, true, true, true, true, true, true, true, true, false] rfl rfl (any_of HT_.out (by kernel_rfl)) (fun _ _ _ h => h) (Or.inl ⟨by rfl, ?_⟩) ?_ ?_
              rotate_left
              · intro w'
                go_simp
                with_reducible rfl
              rotate_left
              · simp only [Act.put, List.setIfInBounds_toArray, List.set_cons_zero, List.set_cons_succ, i64_w, i32_w]
                rfl
              refine pure_ (i := 12) (N := some 2) (v := ?_) (a' := ?_) #[true, true, true, true, true, true, true, true, true, true, true, true, true] rfl rfl (any_of HT_.out (by kernel_rfl)) (fun _ _ _ h => h) (Or.inl ⟨by rfl, ?_⟩) ?_ ?_
              rotate_left
              · intro w'
                go_simp
                with_reducible rfl
              rotate_left
              · simp only [Act.put, List.setIfInBounds_toArray, List.set_cons_zero, List.set_cons_succ, i64_w, i32_w]
                rfl
              refine done_ (done_of HT_.out (by kernel_rfl)) ?_
              try go_wp2
              go_ret
              exact ⟨by first | rfl | (simp [errW_none, errW_some] <;> rfl) | (simp [*, errW_none, errW_some] <;> rfl), by repeat (first | (with_reducible first | exact HB.out | apply below_alloc | apply pw_below_drewN | apply below_drew1 | refine below_set ?_ GE381.out | refine below_set ?_ GE382.out | refine below_set ?_ GE385.out | refine below_set ?_ GE392.out) | exact HB.out)⟩
            · rw [if_neg c42] at H
              have c42b0 : decide (t396 ≤ 0) = false := decide_eq_false c42
              clear c42
              obtain rfl := Option.some.inj H
              have hnb57 := NB381_382.out
              have hnc57 := NB382_381.out
              have hnb58 := NB381_385.out
              have hnc58 := NB385_381.out
              have hcz59_0 : wc.cell? ⟨gb381, 0, none⟩ = some (.int .i64 t375) := (blk_cell BK381.out 0).trans rfl
              have hcz59_1 : wc.cell? ⟨gb381, 1, none⟩ = some (.int .i64 t376) := (blk_cell BK381.out 1).trans rfl
              have hcz59_2 : wc.cell? ⟨gb381, 2, none⟩ = some (.int .i64 t377) := (blk_cell BK381.out 2).trans rfl
              have hcz59_3 : wc.cell? ⟨gb381, 3, none⟩ = some (.int .i64 t378) := (blk_cell BK381.out 3).trans rfl
              have hfz59_0 := blk_frozen BK381.out 0
              have hfz59_1 := blk_frozen BK381.out 1
              have hfz59_2 := blk_frozen BK381.out 2
              have hfz59_3 := blk_frozen BK381.out 3
              try go_wp2_with (first | ((with_reducible refine gate_dst (N := 6) rfl ?_); refine box_event ?hg (N := 6) ?hd (cs := #[.int .i64 0, .int .i64 0, .int .i64 0, .int .i64 0]) (t := 40) ?hr ?_; (case hd => rfl); (case hg => rfl); (case hr => first | (go_simp; done) | (go_simp; rfl)); intro gb392 hg w60 hbox hb; have n0_ := Aside0.mk (blk_below (g := gb381) (o := .cells #[.int .i64 t375, .int .i64 t376, .int .i64 t377, .int .i64 t378] 40 (0, 0)) (by (with_reducible repeat (first | refine blk_drewN ?_ _ | refine blk_drew ?_ | refine blk_alloc ?_ _)); exact BK381.out) hb); have n1_ := Aside0.mk (blk_below (g := gb382) (o := .cells #[.int .i64 t379, .int .i64 t380] 38 (0, 0)) (by (with_reducible repeat (first | refine blk_drewN ?_ _ | refine blk_drew ?_ | refine blk_alloc ?_ _)); exact BK382.out) hb); have n2_ := Aside0.mk (blk_below (g := gb385) (o := .cells #[.int .i64 t383, .int .i64 t384] 25 (0, 0)) (by (with_reducible repeat (first | refine blk_drewN ?_ _ | refine blk_drew ?_ | refine blk_alloc ?_ _)); exact BK385.out) hb); have n3_ := Aside0.mk (below_step (by repeat (first | (with_reducible first | exact HB.out | apply below_alloc | apply pw_below_drewN | apply below_drew1 | refine below_set ?_ GE381.out | refine below_set ?_ GE382.out | refine below_set ?_ GE385.out) | exact HB.out)) hb); have n4_ := Aside0.mk (hbox); have n5_ := Aside0.mk ((by rw [hg]; exact (below_size (by repeat (first | (with_reducible first | exact HB.out | apply below_alloc | apply pw_below_drewN | apply below_drew1 | refine below_set ?_ GE381.out | refine below_set ?_ GE382.out | refine below_set ?_ GE385.out) | exact HB.out))) : w.heap.size ≤ gb392)); have n6_ := Aside0.mk ((by rw [hg]; exact (below_size (by repeat (first | (with_reducible first | exact HB.out | apply below_alloc | apply pw_below_drewN | apply below_drew1 | refine below_set ?_ GE381.out | refine below_set ?_ GE382.out | refine below_set ?_ GE385.out) | exact HB.out))) : w.heap.size ≤ gb392)); have n7_ := Aside0.mk ((by rw [hg]; exact Nat.ne_of_lt (blk_lt (g := gb381) (o := .cells #[.int .i64 t375, .int .i64 t376, .int .i64 t377, .int .i64 t378] 40 (0, 0)) (by (with_reducible repeat (first | refine blk_drewN ?_ _ | refine blk_drew ?_ | refine blk_alloc ?_ _)); exact BK381.out)) : gb381 ≠ gb392)); have n8_ := Aside0.mk ((by rw [hg]; exact Nat.ne_of_gt (blk_lt (g := gb381) (o := .cells #[.int .i64 t375, .int .i64 t376, .int .i64 t377, .int .i64 t378] 40 (0, 0)) (by (with_reducible repeat (first | refine blk_drewN ?_ _ | refine blk_drew ?_ | refine blk_alloc ?_ _)); exact BK381.out)) : gb392 ≠ gb381)); have n9_ := Aside0.mk ((by rw [hg]; exact Nat.ne_of_lt (blk_lt (g := gb382) (o := .cells #[.int .i64 t379, .int .i64 t380] 38 (0, 0)) (by (with_reducible repeat (first | refine blk_drewN ?_ _ | refine blk_drew ?_ | refine blk_alloc ?_ _)); exact BK382.out)) : gb382 ≠ gb392)); have n10_ := Aside0.mk ((by rw [hg]; exact Nat.ne_of_gt (blk_lt (g := gb382) (o := .cells #[.int .i64 t379, .int .i64 t380] 38 (0, 0)) (by (with_reducible repeat (first | refine blk_drewN ?_ _ | refine blk_drew ?_ | refine blk_alloc ?_ _)); exact BK382.out)) : gb392 ≠ gb382)); have n11_ := Aside0.mk ((by rw [hg]; exact Nat.ne_of_lt (blk_lt (g := gb385) (o := .cells #[.int .i64 t383, .int .i64 t384] 25 (0, 0)) (by (with_reducible repeat (first | refine blk_drewN ?_ _ | refine blk_drew ?_ | refine blk_alloc ?_ _)); exact BK385.out)) : gb385 ≠ gb392)); have n12_ := Aside0.mk ((by rw [hg]; exact Nat.ne_of_gt (blk_lt (g := gb385) (o := .cells #[.int .i64 t383, .int .i64 t384] 25 (0, 0)) (by (with_reducible repeat (first | refine blk_drewN ?_ _ | refine blk_drew ?_ | refine blk_alloc ?_ _)); exact BK385.out)) : gb392 ≠ gb385)); clear BK381; clear BK382; clear BK385; clear HB; have BK381 := n0_; have BK382 := n1_; have BK385 := n2_; have HB := n3_; have BK392 := n4_; have GW392 := n5_; have GE392 := n6_; have NB381_392 := n7_; have NB392_381 := n8_; have NB382_392 := n9_; have NB392_382 := n10_; have NB385_392 := n11_; have NB392_385 := n12_; clear n0_ n1_ n2_ n3_ n4_ n5_ n6_ n7_ n8_ n9_ n10_ n11_ n12_; clear hb hbox hg; have hnb61 := NB392_381.out; have hnc61 := NB381_392.out; have hnb62 := NB392_382.out; have hnc62 := NB382_392.out; have hnb63 := NB392_385.out; have hnc63 := NB385_392.out; have hcz64_0 : w60.cell? ⟨gb392, 0, none⟩ = some (.int .i64 0) := (blk_cell BK392.out 0).trans rfl; have hcz64_1 : w60.cell? ⟨gb392, 1, none⟩ = some (.int .i64 0) := (blk_cell BK392.out 1).trans rfl; have hcz64_2 : w60.cell? ⟨gb392, 2, none⟩ = some (.int .i64 0) := (blk_cell BK392.out 2).trans rfl; have hcz64_3 : w60.cell? ⟨gb392, 3, none⟩ = some (.int .i64 0) := (blk_cell BK392.out 3).trans rfl; have hfz64_0 := blk_frozen BK392.out 0; have hfz64_1 := blk_frozen BK392.out 1; have hfz64_2 := blk_frozen BK392.out 2; have hfz64_3 := blk_frozen BK392.out 3) | ((with_reducible refine gate_callee (f := 28) rfl ?_); refine goesL_ (some 59) rfl rfl Tryd.func28 (by kernel_rfl) rfl #[.agg #[.int .i64 t375, .int .i64 t376, .int .i64 (wrap64 ((wrap64 (2 * t377)) - t375)), .int .i64 (wrap64 ((wrap64 (2 * t378)) - t376))]] rfl (by (try simp only [List.map_toArray, List.map_cons, List.map_nil]); first | done | rfl | (simp only [List.length_drop, List.length_take]; rfl)) ?_; (with_reducible refine (impl_SegOk.calls t375 t376 (wrap64 ((wrap64 (2 * t377)) - t375)) (wrap64 ((wrap64 (2 * t378)) - t376)) true _ A38.out).mono ?_); rintro e w65 ⟨rfl, hb⟩; refine ⟨_, rfl, ?_⟩; have n0_ := Aside0.mk (blk_below (g := gb381) (o := .cells #[.int .i64 t375, .int .i64 t376, .int .i64 t377, .int .i64 t378] 40 (0, 0)) (by (with_reducible repeat (first | refine blk_drewN ?_ _ | refine blk_drew ?_ | refine blk_alloc ?_ _)); refine blk_far ?_ NB381_392.out _; (with_reducible repeat (first | refine blk_drewN ?_ _ | refine blk_drew ?_ | refine blk_alloc ?_ _)); refine blk_far ?_ NB381_392.out _; (with_reducible repeat (first | refine blk_drewN ?_ _ | refine blk_drew ?_ | refine blk_alloc ?_ _)); refine blk_far ?_ NB381_392.out _; (with_reducible repeat (first | refine blk_drewN ?_ _ | refine blk_drew ?_ | refine blk_alloc ?_ _)); refine blk_far ?_ NB381_392.out _; (with_reducible repeat (first | refine blk_drewN ?_ _ | refine blk_drew ?_ | refine blk_alloc ?_ _)); exact BK381.out) hb); have n1_ := Aside0.mk (blk_below (g := gb382) (o := .cells #[.int .i64 t379, .int .i64 t380] 38 (0, 0)) (by (with_reducible repeat (first | refine blk_drewN ?_ _ | refine blk_drew ?_ | refine blk_alloc ?_ _)); refine blk_far ?_ NB382_392.out _; (with_reducible repeat (first | refine blk_drewN ?_ _ | refine blk_drew ?_ | refine blk_alloc ?_ _)); refine blk_far ?_ NB382_392.out _; (with_reducible repeat (first | refine blk_drewN ?_ _ | refine blk_drew ?_ | refine blk_alloc ?_ _)); refine blk_far ?_ NB382_392.out _; (with_reducible repeat (first | refine blk_drewN ?_ _ | refine blk_drew ?_ | refine blk_alloc ?_ _)); refine blk_far ?_ NB382_392.out _; (with_reducible repeat (first | refine blk_drewN ?_ _ | refine blk_drew ?_ | refine blk_alloc ?_ _)); exact BK382.out) hb); have n2_ := Aside0.mk (blk_below (g := gb385) (o := .cells #[.int .i64 t383, .int .i64 t384] 25 (0, 0)) (by (with_reducible repeat (first | refine blk_drewN ?_ _ | refine blk_drew ?_ | refine blk_alloc ?_ _)); refine blk_far ?_ NB385_392.out _; (with_reducible repeat (first | refine blk_drewN ?_ _ | refine blk_drew ?_ | refine blk_alloc ?_ _)); refine blk_far ?_ NB385_392.out _; (with_reducible repeat (first | refine blk_drewN ?_ _ | refine blk_drew ?_ | refine blk_alloc ?_ _)); refine blk_far ?_ NB385_392.out _; (with_reducible repeat (first | refine blk_drewN ?_ _ | refine blk_drew ?_ | refine blk_alloc ?_ _)); refine blk_far ?_ NB385_392.out _; (with_reducible repeat (first | refine blk_drewN ?_ _ | refine blk_drew ?_ | refine blk_alloc ?_ _)); exact BK385.out) hb); have n3_ := Aside0.mk (blk_below (g := gb392) (o := .cells #[.int .i64 t375, .int .i64 t376, .int .i64 (wrap64 ((wrap64 (2 * t377)) - t375)), .int .i64 (wrap64 ((wrap64 (2 * t378)) - t376))] 40 (0, 0)) (by (with_reducible repeat (first | refine blk_drewN ?_ _ | refine blk_drew ?_ | refine blk_alloc ?_ _)); refine blk_put (cs := #[.int .i64 t375, .int .i64 t376, .int .i64 (wrap64 ((wrap64 (2 * t377)) - t375)), .int .i64 0]) ?_ 3 _ rfl; (with_reducible repeat (first | refine blk_drewN ?_ _ | refine blk_drew ?_ | refine blk_alloc ?_ _)); refine blk_put (cs := #[.int .i64 t375, .int .i64 t376, .int .i64 0, .int .i64 0]) ?_ 2 _ rfl; (with_reducible repeat (first | refine blk_drewN ?_ _ | refine blk_drew ?_ | refine blk_alloc ?_ _)); refine blk_put (cs := #[.int .i64 t375, .int .i64 0, .int .i64 0, .int .i64 0]) ?_ 1 _ rfl; (with_reducible repeat (first | refine blk_drewN ?_ _ | refine blk_drew ?_ | refine blk_alloc ?_ _)); refine blk_put (cs := #[.int .i64 0, .int .i64 0, .int .i64 0, .int .i64 0]) ?_ 0 _ rfl; (with_reducible repeat (first | refine blk_drewN ?_ _ | refine blk_drew ?_ | refine blk_alloc ?_ _)); exact BK392.out) hb); have n4_ := Aside0.mk (below_step (by repeat (first | (with_reducible first | exact HB.out | apply below_alloc | apply pw_below_drewN | apply below_drew1 | refine below_set ?_ GE381.out | refine below_set ?_ GE382.out | refine below_set ?_ GE385.out | refine below_set ?_ GE392.out) | exact HB.out)) hb); clear BK381; clear BK382; clear BK385; clear BK392; clear HB; have BK381 := n0_; have BK382 := n1_; have BK385 := n2_; have BK392 := n3_; have HB := n4_; clear n0_ n1_ n2_ n3_ n4_; (try clear hb); (try clear hb2); (try clear hk); (try clear hi)))
              have n0_ := Aside0.mk (blk_drew BK381.out)
              have n1_ := Aside0.mk (blk_drew BK382.out)
              have n2_ := Aside0.mk (blk_drew BK385.out)
              have n3_ := Aside0.mk (blk_drew BK392.out)
              have n4_ := Aside0.mk (below_drew1 HB.out)
              clear BK381
              clear BK382
              clear BK385
              clear BK392
              clear HB
              have BK381 := n0_
              have BK382 := n1_
              have BK385 := n2_
              have BK392 := n3_
              have HB := n4_
              clear n0_ n1_ n2_ n3_ n4_
              refine start_ (n := 13) (S := fun w' => w'.cell? ⟨gb392, 0, none⟩ = some (.int .i64 t375) ∧ w'.cell? ⟨gb392, 1, none⟩ = some (.int .i64 t376) ∧ w'.cell? ⟨gb392, 2, none⟩ = some (.int .i64 (wrap64 ((wrap64 (2 * t377)) - t375))) ∧ w'.cell? ⟨gb392, 3, none⟩ = some (.int .i64 (wrap64 ((wrap64 (2 * t378)) - t376))) ∧ w'.cell? ⟨gb382, 0, none⟩ = some (.int .i64 t379) ∧ w'.cell? ⟨gb382, 1, none⟩ = some (.int .i64 t380) ∧ w'.cell? ⟨gb385, 0, none⟩ = some (.int .i64 t383) ∧ w'.cell? ⟨gb385, 1, none⟩ = some (.int .i64 t384)) (ds := []) #[false, false, false, false, false, false, false, false, false, false, false, false, false] (by kernel_rfl) rfl rfl ⟨(blk_cell BK392.out 0).trans rfl, (blk_cell BK392.out 1).trans rfl, (blk_cell BK392.out 2).trans rfl, (blk_cell BK392.out 3).trans rfl, (blk_cell BK382.out 0).trans rfl, (blk_cell BK382.out 1).trans rfl, (blk_cell BK385.out 0).trans rfl, (blk_cell BK385.out 1).trans rfl⟩ (fun hHeld => ?_); refine with_tabW laws_FnFarLonger.tab10 laws_FnFarLonger.bits10 (fun HT_ HW_ => ?_)
              generalize w65.drew = w66 at BK381 BK382 BK385 BK392 HB hHeld ⊢
              refine take_ (i := 0) (N := some 61) (v := ?_) (a' := ?_) #[true, false, false, false, false, false, false, false, false, false, false, false, false] rfl rfl (take_ofW HT_.out HW_.out (by kernel_rfl)) (fun _ _ _ h => h) (Or.inl ⟨by rfl, ?_⟩) hHeld ?_ ?_
              rotate_left
              · rintro w' ⟨s0, s1, s2, s3, s4, s5, s6, s7⟩
                go_simp
                with_reducible rfl
              rotate_left
              · simp only [Act.put, List.setIfInBounds_toArray, List.set_cons_zero, List.set_cons_succ, i64_w, i32_w]
                rfl
              refine take_ (i := 1) (N := some 62) (v := ?_) (a' := ?_) #[true, true, false, false, false, false, false, false, false, false, false, false, false] rfl rfl (take_ofW HT_.out HW_.out (by kernel_rfl)) (fun _ _ _ h => h) (Or.inl ⟨by rfl, ?_⟩) hHeld ?_ ?_
              rotate_left
              · rintro w' ⟨s0, s1, s2, s3, s4, s5, s6, s7⟩
                go_simp
                with_reducible rfl
              rotate_left
              · simp only [Act.put, List.setIfInBounds_toArray, List.set_cons_zero, List.set_cons_succ, i64_w, i32_w]
                rfl
              refine take_ (i := 3) (N := some 64) (v := ?_) (a' := ?_) #[true, true, false, true, false, false, false, false, false, false, false, false, false] rfl rfl (take_ofW HT_.out HW_.out (by kernel_rfl)) (fun _ _ _ h => h) (Or.inl ⟨by rfl, ?_⟩) hHeld ?_ ?_
              rotate_left
              · rintro w' ⟨s0, s1, s2, s3, s4, s5, s6, s7⟩
                go_simp
                with_reducible rfl
              rotate_left
              · simp only [Act.put, List.setIfInBounds_toArray, List.set_cons_zero, List.set_cons_succ, i64_w, i32_w]
                rfl
              refine one_ (i := 2) (N := some 63) #[true, true, true, true, false, false, false, false, false, false, false, false, false] rfl rfl (one_of HT_.out (by kernel_rfl)) (by decide) (fun K hK => ?_)
              refine goes_ Tryd.func24 (by kernel_rfl) rfl #[.agg #[.int .i64 t375, .int .i64 t376, .int .i64 (wrap64 ((wrap64 (2 * t377)) - t375)), .int .i64 (wrap64 ((wrap64 (2 * t378)) - t376))], .agg #[.int .i64 t379, .int .i64 t380]] (by rfl) rfl rfl (by (try simp only [List.map_toArray, List.map_cons, List.map_nil]); first | done | rfl | (simp only [List.length_drop, List.length_take]; rfl)) ?_
              with_reducible refine (impl_SegFar.calls t375 t376 (wrap64 ((wrap64 (2 * t377)) - t375)) (wrap64 ((wrap64 (2 * t378)) - t376)) t379 t380 t394 t395 _ A40.out).mono ?_
              rintro e w67 ⟨rfl, hb⟩
              refine ⟨_, rfl, ?_⟩
              have n0_ := Aside0.mk (blk_below (g := gb381) (o := .cells #[.int .i64 t375, .int .i64 t376, .int .i64 t377, .int .i64 t378] 40 (0, 0)) (by (with_reducible repeat (first | refine blk_drewN ?_ _ | refine blk_drew ?_ | refine blk_alloc ?_ _)); exact BK381.out) hb)
              have n1_ := Aside0.mk (blk_below (g := gb382) (o := .cells #[.int .i64 t379, .int .i64 t380] 38 (0, 0)) (by (with_reducible repeat (first | refine blk_drewN ?_ _ | refine blk_drew ?_ | refine blk_alloc ?_ _)); exact BK382.out) hb)
              have n2_ := Aside0.mk (blk_below (g := gb385) (o := .cells #[.int .i64 t383, .int .i64 t384] 25 (0, 0)) (by (with_reducible repeat (first | refine blk_drewN ?_ _ | refine blk_drew ?_ | refine blk_alloc ?_ _)); exact BK385.out) hb)
              have n3_ := Aside0.mk (blk_below (g := gb392) (o := .cells #[.int .i64 t375, .int .i64 t376, .int .i64 (wrap64 ((wrap64 (2 * t377)) - t375)), .int .i64 (wrap64 ((wrap64 (2 * t378)) - t376))] 40 (0, 0)) (by (with_reducible repeat (first | refine blk_drewN ?_ _ | refine blk_drew ?_ | refine blk_alloc ?_ _)); exact BK392.out) hb)
              have n4_ := Aside0.mk (below_step (by repeat (first | (with_reducible first | exact HB.out | apply below_alloc | apply pw_below_drewN | apply below_drew1 | refine below_set ?_ GE381.out | refine below_set ?_ GE382.out | refine below_set ?_ GE385.out | refine below_set ?_ GE392.out) | exact HB.out)) hb)
              clear BK381
              clear BK382
              clear BK385
              clear BK392
              clear HB
              have BK381 := n0_
              have BK382 := n1_
              have BK385 := n2_
              have BK392 := n3_
              have HB := n4_
              clear n0_ n1_ n2_ n3_ n4_
              (try clear hb)
              (try clear hb2)
              (try clear hk)
              (try clear hi)
              refine hK.out _ _ ⟨(blk_cell BK392.out 0).trans rfl, (blk_cell BK392.out 1).trans rfl, (blk_cell BK392.out 2).trans rfl, (blk_cell BK392.out 3).trans rfl, (blk_cell BK382.out 0).trans rfl, (blk_cell BK382.out 1).trans rfl, (blk_cell BK385.out 0).trans rfl, (blk_cell BK385.out 1).trans rfl⟩ (fun hHeld => ?_)
              clear hK K
              refine norm_ (a' := ?_) ?_ ?_
              rotate_left
              · show Act.put _ (some 63) _ = _
                simp only [Act.put, List.setIfInBounds_toArray, List.set_cons_zero, List.set_cons_succ, i64_w, i32_w]
                rfl
              refine one_ (i := 4) (N := some 65) #[true, true, true, true, true, false, false, false, false, false, false, false, false] rfl rfl (one_of HT_.out (by kernel_rfl)) (by decide) (fun K hK => ?_)
              refine goes_ Tryd.func17 (by kernel_rfl) rfl #[.agg #[.int .i64 t394, .int .i64 t395], .agg #[.int .i64 t383, .int .i64 t384]] (by rfl) rfl rfl (by (try simp only [List.map_toArray, List.map_cons, List.map_nil]); first | done | rfl | (simp only [List.length_drop, List.length_take]; rfl)) ?_
              with_reducible refine (impl_FracCmp.calls t394 t395 t383 t384 t396 _ ?side1 A41.out).mono ?_
              (case side1 => exact ErrW.below HE.out (by repeat (first | (with_reducible first | exact HB.out | apply below_alloc | apply pw_below_drewN | apply below_drew1 | refine below_set ?_ GE381.out | refine below_set ?_ GE382.out | refine below_set ?_ GE385.out | refine below_set ?_ GE392.out) | exact HB.out)))
              rintro e w68 ⟨rfl, hb⟩
              refine ⟨_, rfl, ?_⟩
              have n0_ := Aside0.mk (blk_below (g := gb381) (o := .cells #[.int .i64 t375, .int .i64 t376, .int .i64 t377, .int .i64 t378] 40 (0, 0)) (by (with_reducible repeat (first | refine blk_drewN ?_ _ | refine blk_drew ?_ | refine blk_alloc ?_ _)); exact BK381.out) hb)
              have n1_ := Aside0.mk (blk_below (g := gb382) (o := .cells #[.int .i64 t379, .int .i64 t380] 38 (0, 0)) (by (with_reducible repeat (first | refine blk_drewN ?_ _ | refine blk_drew ?_ | refine blk_alloc ?_ _)); exact BK382.out) hb)
              have n2_ := Aside0.mk (blk_below (g := gb385) (o := .cells #[.int .i64 t383, .int .i64 t384] 25 (0, 0)) (by (with_reducible repeat (first | refine blk_drewN ?_ _ | refine blk_drew ?_ | refine blk_alloc ?_ _)); exact BK385.out) hb)
              have n3_ := Aside0.mk (blk_below (g := gb392) (o := .cells #[.int .i64 t375, .int .i64 t376, .int .i64 (wrap64 ((wrap64 (2 * t377)) - t375)), .int .i64 (wrap64 ((wrap64 (2 * t378)) - t376))] 40 (0, 0)) (by (with_reducible repeat (first | refine blk_drewN ?_ _ | refine blk_drew ?_ | refine blk_alloc ?_ _)); exact BK392.out) hb)
              have n4_ := Aside0.mk (below_step (by repeat (first | (with_reducible first | exact HB.out | apply below_alloc | apply pw_below_drewN | apply below_drew1 | refine below_set ?_ GE381.out | refine below_set ?_ GE382.out | refine below_set ?_ GE385.out | refine below_set ?_ GE392.out) | exact HB.out)) hb)
              clear BK381
              clear BK382
              clear BK385
              clear BK392
              clear HB
              have BK381 := n0_
              have BK382 := n1_
              have BK385 := n2_
              have BK392 := n3_
              have HB := n4_
              clear n0_ n1_ n2_ n3_ n4_
              (try clear hb)
              (try clear hb2)
              (try clear hk)
              (try clear hi)
              refine hK.out _ _ ⟨(blk_cell BK392.out 0).trans rfl, (blk_cell BK392.out 1).trans rfl, (blk_cell BK392.out 2).trans rfl, (blk_cell BK392.out 3).trans rfl, (blk_cell BK382.out 0).trans rfl, (blk_cell BK382.out 1).trans rfl, (blk_cell BK385.out 0).trans rfl, (blk_cell BK385.out 1).trans rfl⟩ (fun hHeld => ?_)
              clear hK K
              refine norm_ (a' := ?_) ?_ ?_
              rotate_left
              · show Act.put _ (some 65) _ = _
                simp only [Act.put, List.setIfInBounds_toArray, List.set_cons_zero, List.set_cons_succ, i64_w, i32_w]
                rfl
              refine pure_ (i := 5) (N := some 66) (v := ?_) (a' := ?_) #[true, true, true, true, true, true, false, false, false, false, false, false, false] rfl rfl (any_of HT_.out (by kernel_rfl)) (fun _ _ _ h => h) (Or.inl ⟨by rfl, ?_⟩) ?_ ?_
              rotate_left
              · intro w'
                go_simp
                with_reducible rfl
              rotate_left
              · simp only [Act.put, List.setIfInBounds_toArray, List.set_cons_zero, List.set_cons_succ, i64_w, i32_w]
                rfl
              refine pure_ (i := 6) (N := some 67) (v := ?_) (a' := ?_) #[true, true, true, true, true, true, true, false, false, false, false, false, false] rfl rfl (any_of HT_.out (by kernel_rfl)) (fun _ _ _ h => h) (Or.inl ⟨by rfl, ?_⟩) ?_ ?_
              rotate_left
              · intro w'
                go_simp
                with_reducible rfl
              rotate_left
              · simp only [Act.put, List.setIfInBounds_toArray, List.set_cons_zero, List.set_cons_succ, i64_w, i32_w]
                rfl
              refine pure_ (i := 7) (N := some 68) (v := undef) (a' := ?_) #[true, true, true, true, true, true, true, true, false, false, false, false, false] rfl rfl (any_of HT_.out (by kernel_rfl)) (fun _ _ _ h => h) (Or.inr ⟨by rfl, rfl⟩) ?_ ?_
              rotate_left
              · simp only [Act.put, List.setIfInBounds_toArray, List.set_cons_zero, List.set_cons_succ, i64_w, i32_w]
                rfl
              refine pure_ (i := 8) (N := some 69) (v := undef) (a' := ?_) #[true, true, true, true, true, true, true, true, true, false, false, false, false] rfl rfl (any_of HT_.out (by kernel_rfl)) (fun _ _ _ h => h) (Or.inr ⟨by rfl, rfl⟩) ?_ ?_
              rotate_left
              · simp only [Act.put, List.setIfInBounds_toArray, List.set_cons_zero, List.set_cons_succ, i64_w, i32_w]
                rfl
              refine pure_ (i := 9) (N := some 70) (v := undef) (a' := ?_) #[true, true, true, true, true, true, true, true, true, true, false, false, false] rfl rfl (any_of HT_.out (by kernel_rfl)) (fun _ _ _ h => h) (Or.inr ⟨by rfl, rfl⟩) ?_ ?_
              rotate_left
              · simp only [Act.put, List.setIfInBounds_toArray, List.set_cons_zero, List.set_cons_succ, i64_w, i32_w]
                rfl
              refine pure_ (i := 10) (N := some 71) (v := undef) (a' := ?_) #[true, true, true, true, true, true, true, true, true, true, true, false, false] rfl rfl (any_of HT_.out (by kernel_rfl)) (fun _ _ _ h => h) (Or.inr ⟨by rfl, rfl⟩) ?_ ?_
              rotate_left
              · simp only [Act.put, List.setIfInBounds_toArray, List.set_cons_zero, List.set_cons_succ, i64_w, i32_w]
                rfl
              refine pure_ (i := 11) (N := some 72) (v := ?_) (a' := ?_) #[true, true, true, true, true, true, true, true, true, true, true, true, false] rfl rfl (any_of HT_.out (by kernel_rfl)) (fun _ _ _ h => h) (Or.inl ⟨by rfl, ?_⟩) ?_ ?_
              rotate_left
              · intro w'
                go_simp
                with_reducible rfl
              rotate_left
              · simp only [Act.put, List.setIfInBounds_toArray, List.set_cons_zero, List.set_cons_succ, i64_w, i32_w]
                rfl
              refine pure_ (i := 12) (N := some 2) (v := ?_) (a' := ?_) #[true, true, true, true, true, true, true, true, true, true, true, true, true] rfl rfl (any_of HT_.out (by kernel_rfl)) (fun _ _ _ h => h) (Or.inl ⟨by rfl, ?_⟩) ?_ ?_
              rotate_left
              · intro w'
                go_simp
                with_reducible rfl
              rotate_left
              · simp only [Act.put, List.setIfInBounds_toArray, List.set_cons_zero, List.set_cons_succ, i64_w, i32_w]
                rfl
              refine done_ (done_of HT_.out (by kernel_rfl)) ?_
              try go_wp2
              go_ret
              exact ⟨by first | rfl | (simp [errW_none, errW_some] <;> rfl) | (simp [*, errW_none, errW_some] <;> rfl), by repeat (first | (with_reducible first | exact HB.out | apply below_alloc | apply pw_below_drewN | apply below_drew1 | refine below_set ?_ GE381.out | refine below_set ?_ GE382.out | refine below_set ?_ GE385.out | refine below_set ?_ GE392.out) | exact HB.out)⟩
          · replace c39 := Bool.eq_false_iff.mpr c39
            subst c39
            have H1 : (some true) = some r := by rw [if_neg (show ¬ (false = true) by decide)] at H; exact H
            clear H
            have H := H1
            clear H1
            obtain rfl := Option.some.inj H
            have hnb69 := NB381_382.out
            have hnc69 := NB382_381.out
            have hnb70 := NB381_385.out
            have hnc70 := NB385_381.out
            have hcz71_0 : wc.cell? ⟨gb381, 0, none⟩ = some (.int .i64 t375) := (blk_cell BK381.out 0).trans rfl
            have hcz71_1 : wc.cell? ⟨gb381, 1, none⟩ = some (.int .i64 t376) := (blk_cell BK381.out 1).trans rfl
            have hcz71_2 : wc.cell? ⟨gb381, 2, none⟩ = some (.int .i64 t377) := (blk_cell BK381.out 2).trans rfl
            have hcz71_3 : wc.cell? ⟨gb381, 3, none⟩ = some (.int .i64 t378) := (blk_cell BK381.out 3).trans rfl
            have hfz71_0 := blk_frozen BK381.out 0
            have hfz71_1 := blk_frozen BK381.out 1
            have hfz71_2 := blk_frozen BK381.out 2
            have hfz71_3 := blk_frozen BK381.out 3
            go_wp2_with (first | ((with_reducible refine gate_dst (N := 6) rfl ?_); refine box_event ?hg (N := 6) ?hd (cs := #[.int .i64 0, .int .i64 0, .int .i64 0, .int .i64 0]) (t := 40) ?hr ?_; (case hd => rfl); (case hg => rfl); (case hr => first | (go_simp; done) | (go_simp; rfl)); intro gb392 hg w72 hbox hb; have n0_ := Aside0.mk (blk_below (g := gb381) (o := .cells #[.int .i64 t375, .int .i64 t376, .int .i64 t377, .int .i64 t378] 40 (0, 0)) (by (with_reducible repeat (first | refine blk_drewN ?_ _ | refine blk_drew ?_ | refine blk_alloc ?_ _)); exact BK381.out) hb); have n1_ := Aside0.mk (blk_below (g := gb382) (o := .cells #[.int .i64 t379, .int .i64 t380] 38 (0, 0)) (by (with_reducible repeat (first | refine blk_drewN ?_ _ | refine blk_drew ?_ | refine blk_alloc ?_ _)); exact BK382.out) hb); have n2_ := Aside0.mk (blk_below (g := gb385) (o := .cells #[.int .i64 t383, .int .i64 t384] 25 (0, 0)) (by (with_reducible repeat (first | refine blk_drewN ?_ _ | refine blk_drew ?_ | refine blk_alloc ?_ _)); exact BK385.out) hb); have n3_ := Aside0.mk (below_step (by repeat (first | (with_reducible first | exact HB.out | apply below_alloc | apply pw_below_drewN | apply below_drew1 | refine below_set ?_ GE381.out | refine below_set ?_ GE382.out | refine below_set ?_ GE385.out) | exact HB.out)) hb); have n4_ := Aside0.mk (hbox); have n5_ := Aside0.mk ((by rw [hg]; exact (below_size (by repeat (first | (with_reducible first | exact HB.out | apply below_alloc | apply pw_below_drewN | apply below_drew1 | refine below_set ?_ GE381.out | refine below_set ?_ GE382.out | refine below_set ?_ GE385.out) | exact HB.out))) : w.heap.size ≤ gb392)); have n6_ := Aside0.mk ((by rw [hg]; exact (below_size (by repeat (first | (with_reducible first | exact HB.out | apply below_alloc | apply pw_below_drewN | apply below_drew1 | refine below_set ?_ GE381.out | refine below_set ?_ GE382.out | refine below_set ?_ GE385.out) | exact HB.out))) : w.heap.size ≤ gb392)); have n7_ := Aside0.mk ((by rw [hg]; exact Nat.ne_of_lt (blk_lt (g := gb381) (o := .cells #[.int .i64 t375, .int .i64 t376, .int .i64 t377, .int .i64 t378] 40 (0, 0)) (by (with_reducible repeat (first | refine blk_drewN ?_ _ | refine blk_drew ?_ | refine blk_alloc ?_ _)); exact BK381.out)) : gb381 ≠ gb392)); have n8_ := Aside0.mk ((by rw [hg]; exact Nat.ne_of_gt (blk_lt (g := gb381) (o := .cells #[.int .i64 t375, .int .i64 t376, .int .i64 t377, .int .i64 t378] 40 (0, 0)) (by (with_reducible repeat (first | refine blk_drewN ?_ _ | refine blk_drew ?_ | refine blk_alloc ?_ _)); exact BK381.out)) : gb392 ≠ gb381)); have n9_ := Aside0.mk ((by rw [hg]; exact Nat.ne_of_lt (blk_lt (g := gb382) (o := .cells #[.int .i64 t379, .int .i64 t380] 38 (0, 0)) (by (with_reducible repeat (first | refine blk_drewN ?_ _ | refine blk_drew ?_ | refine blk_alloc ?_ _)); exact BK382.out)) : gb382 ≠ gb392)); have n10_ := Aside0.mk ((by rw [hg]; exact Nat.ne_of_gt (blk_lt (g := gb382) (o := .cells #[.int .i64 t379, .int .i64 t380] 38 (0, 0)) (by (with_reducible repeat (first | refine blk_drewN ?_ _ | refine blk_drew ?_ | refine blk_alloc ?_ _)); exact BK382.out)) : gb392 ≠ gb382)); have n11_ := Aside0.mk ((by rw [hg]; exact Nat.ne_of_lt (blk_lt (g := gb385) (o := .cells #[.int .i64 t383, .int .i64 t384] 25 (0, 0)) (by (with_reducible repeat (first | refine blk_drewN ?_ _ | refine blk_drew ?_ | refine blk_alloc ?_ _)); exact BK385.out)) : gb385 ≠ gb392)); have n12_ := Aside0.mk ((by rw [hg]; exact Nat.ne_of_gt (blk_lt (g := gb385) (o := .cells #[.int .i64 t383, .int .i64 t384] 25 (0, 0)) (by (with_reducible repeat (first | refine blk_drewN ?_ _ | refine blk_drew ?_ | refine blk_alloc ?_ _)); exact BK385.out)) : gb392 ≠ gb385)); clear BK381; clear BK382; clear BK385; clear HB; have BK381 := n0_; have BK382 := n1_; have BK385 := n2_; have HB := n3_; have BK392 := n4_; have GW392 := n5_; have GE392 := n6_; have NB381_392 := n7_; have NB392_381 := n8_; have NB382_392 := n9_; have NB392_382 := n10_; have NB385_392 := n11_; have NB392_385 := n12_; clear n0_ n1_ n2_ n3_ n4_ n5_ n6_ n7_ n8_ n9_ n10_ n11_ n12_; clear hb hbox hg; have hnb73 := NB392_381.out; have hnc73 := NB381_392.out; have hnb74 := NB392_382.out; have hnc74 := NB382_392.out; have hnb75 := NB392_385.out; have hnc75 := NB385_392.out; have hcz76_0 : w72.cell? ⟨gb392, 0, none⟩ = some (.int .i64 0) := (blk_cell BK392.out 0).trans rfl; have hcz76_1 : w72.cell? ⟨gb392, 1, none⟩ = some (.int .i64 0) := (blk_cell BK392.out 1).trans rfl; have hcz76_2 : w72.cell? ⟨gb392, 2, none⟩ = some (.int .i64 0) := (blk_cell BK392.out 2).trans rfl; have hcz76_3 : w72.cell? ⟨gb392, 3, none⟩ = some (.int .i64 0) := (blk_cell BK392.out 3).trans rfl; have hfz76_0 := blk_frozen BK392.out 0; have hfz76_1 := blk_frozen BK392.out 1; have hfz76_2 := blk_frozen BK392.out 2; have hfz76_3 := blk_frozen BK392.out 3) | ((with_reducible refine gate_callee (f := 28) rfl ?_); refine goesL_ (some 59) rfl rfl Tryd.func28 (by kernel_rfl) rfl #[.agg #[.int .i64 t375, .int .i64 t376, .int .i64 (wrap64 ((wrap64 (2 * t377)) - t375)), .int .i64 (wrap64 ((wrap64 (2 * t378)) - t376))]] rfl (by (try simp only [List.map_toArray, List.map_cons, List.map_nil]); first | done | rfl | (simp only [List.length_drop, List.length_take]; rfl)) ?_; (with_reducible refine (impl_SegOk.calls t375 t376 (wrap64 ((wrap64 (2 * t377)) - t375)) (wrap64 ((wrap64 (2 * t378)) - t376)) false _ A38.out).mono ?_); rintro e w77 ⟨rfl, hb⟩; refine ⟨_, rfl, ?_⟩; have n0_ := Aside0.mk (blk_below (g := gb381) (o := .cells #[.int .i64 t375, .int .i64 t376, .int .i64 t377, .int .i64 t378] 40 (0, 0)) (by (with_reducible repeat (first | refine blk_drewN ?_ _ | refine blk_drew ?_ | refine blk_alloc ?_ _)); refine blk_far ?_ NB381_392.out _; (with_reducible repeat (first | refine blk_drewN ?_ _ | refine blk_drew ?_ | refine blk_alloc ?_ _)); refine blk_far ?_ NB381_392.out _; (with_reducible repeat (first | refine blk_drewN ?_ _ | refine blk_drew ?_ | refine blk_alloc ?_ _)); refine blk_far ?_ NB381_392.out _; (with_reducible repeat (first | refine blk_drewN ?_ _ | refine blk_drew ?_ | refine blk_alloc ?_ _)); refine blk_far ?_ NB381_392.out _; (with_reducible repeat (first | refine blk_drewN ?_ _ | refine blk_drew ?_ | refine blk_alloc ?_ _)); exact BK381.out) hb); have n1_ := Aside0.mk (blk_below (g := gb382) (o := .cells #[.int .i64 t379, .int .i64 t380] 38 (0, 0)) (by (with_reducible repeat (first | refine blk_drewN ?_ _ | refine blk_drew ?_ | refine blk_alloc ?_ _)); refine blk_far ?_ NB382_392.out _; (with_reducible repeat (first | refine blk_drewN ?_ _ | refine blk_drew ?_ | refine blk_alloc ?_ _)); refine blk_far ?_ NB382_392.out _; (with_reducible repeat (first | refine blk_drewN ?_ _ | refine blk_drew ?_ | refine blk_alloc ?_ _)); refine blk_far ?_ NB382_392.out _; (with_reducible repeat (first | refine blk_drewN ?_ _ | refine blk_drew ?_ | refine blk_alloc ?_ _)); refine blk_far ?_ NB382_392.out _; (with_reducible repeat (first | refine blk_drewN ?_ _ | refine blk_drew ?_ | refine blk_alloc ?_ _)); exact BK382.out) hb); have n2_ := Aside0.mk (blk_below (g := gb385) (o := .cells #[.int .i64 t383, .int .i64 t384] 25 (0, 0)) (by (with_reducible repeat (first | refine blk_drewN ?_ _ | refine blk_drew ?_ | refine blk_alloc ?_ _)); refine blk_far ?_ NB385_392.out _; (with_reducible repeat (first | refine blk_drewN ?_ _ | refine blk_drew ?_ | refine blk_alloc ?_ _)); refine blk_far ?_ NB385_392.out _; (with_reducible repeat (first | refine blk_drewN ?_ _ | refine blk_drew ?_ | refine blk_alloc ?_ _)); refine blk_far ?_ NB385_392.out _; (with_reducible repeat (first | refine blk_drewN ?_ _ | refine blk_drew ?_ | refine blk_alloc ?_ _)); refine blk_far ?_ NB385_392.out _; (with_reducible repeat (first | refine blk_drewN ?_ _ | refine blk_drew ?_ | refine blk_alloc ?_ _)); exact BK385.out) hb); have n3_ := Aside0.mk (blk_below (g := gb392) (o := .cells #[.int .i64 t375, .int .i64 t376, .int .i64 (wrap64 ((wrap64 (2 * t377)) - t375)), .int .i64 (wrap64 ((wrap64 (2 * t378)) - t376))] 40 (0, 0)) (by (with_reducible repeat (first | refine blk_drewN ?_ _ | refine blk_drew ?_ | refine blk_alloc ?_ _)); refine blk_put (cs := #[.int .i64 t375, .int .i64 t376, .int .i64 (wrap64 ((wrap64 (2 * t377)) - t375)), .int .i64 0]) ?_ 3 _ rfl; (with_reducible repeat (first | refine blk_drewN ?_ _ | refine blk_drew ?_ | refine blk_alloc ?_ _)); refine blk_put (cs := #[.int .i64 t375, .int .i64 t376, .int .i64 0, .int .i64 0]) ?_ 2 _ rfl; (with_reducible repeat (first | refine blk_drewN ?_ _ | refine blk_drew ?_ | refine blk_alloc ?_ _)); refine blk_put (cs := #[.int .i64 t375, .int .i64 0, .int .i64 0, .int .i64 0]) ?_ 1 _ rfl; (with_reducible repeat (first | refine blk_drewN ?_ _ | refine blk_drew ?_ | refine blk_alloc ?_ _)); refine blk_put (cs := #[.int .i64 0, .int .i64 0, .int .i64 0, .int .i64 0]) ?_ 0 _ rfl; (with_reducible repeat (first | refine blk_drewN ?_ _ | refine blk_drew ?_ | refine blk_alloc ?_ _)); exact BK392.out) hb); have n4_ := Aside0.mk (below_step (by repeat (first | (with_reducible first | exact HB.out | apply below_alloc | apply pw_below_drewN | apply below_drew1 | refine below_set ?_ GE381.out | refine below_set ?_ GE382.out | refine below_set ?_ GE385.out | refine below_set ?_ GE392.out) | exact HB.out)) hb); clear BK381; clear BK382; clear BK385; clear BK392; clear HB; have BK381 := n0_; have BK382 := n1_; have BK385 := n2_; have BK392 := n3_; have HB := n4_; clear n0_ n1_ n2_ n3_ n4_; (try clear hb); (try clear hb2); (try clear hk); (try clear hi)))
            go_ret
            exact ⟨by first | rfl | (simp [errW_none, errW_some] <;> rfl) | (simp [*, errW_none, errW_some] <;> rfl), by repeat (first | (with_reducible first | exact HB.out | apply below_alloc | apply pw_below_drewN | apply below_drew1 | refine below_set ?_ GE381.out | refine below_set ?_ GE382.out | refine below_set ?_ GE385.out | refine below_set ?_ GE392.out) | exact HB.out)⟩
/-- THE ONE PURE STATEMENT of laws_FnFarLonger: yours. -/
def laws_FnFarLonger.Pure : Prop := ∀ (l0 : List Int), l0.length ≤ maxLen → l0.length * 1 ≤ 140737488351232 → (∀ x ∈ l0, (Lit.int .u8 x).wf = true) → ∃ k, laws_FnFarLonger.f k l0 = some true
theorem laws_FnFarLonger.walk (P : laws_FnFarLonger.Pure) (a0 : Option Addr) (len0 cap0 : Nat) (z0 : List Int) (w : World) (hE : ErrW w) (w0 : (a0 = none ∧ len0 = 0 ∧ cap0 = 0 ∧ z0 = []) ∨ ∃ x, a0 = some x ∧ len0 ≤ cap0 ∧ cap0 ≤ maxLen ∧ z0.length = cap0 ∧ (∀ i, i < z0.length → w.cell? (x.add i) = some (.int .u8 (z0.getD i 0))) ∧ ∀ n ∈ z0, (Lit.int .u8 n).wf = true) (y0 : len0 * 1 ≤ 140737488351232) :
    Calls Tryd.prog 8 #[.slice a0 len0 cap0] w fun e w' => e = .returned (.bool true) ∧ Below w.heap.size w w' := by
  obtain ⟨l0, rfl, hr0, hm0, hw0, hc0⟩ := ReadsInt.ofRowC w0
  obtain ⟨k, h⟩ := P l0 hm0 y0 hw0
  refine (laws_FnFarLonger.calls k _ _ l0 true w (Kd.C_of_reads (d := (0 : Int)) (h1 := fun _ => rfl) hr0) hc0 hE h).mono ?_
  rintro e w' ⟨rfl, hd⟩
  exact ⟨rfl, hd⟩
end Go.Proofs.YtnponnkcfgjeoaaDoor.X
end
section
set_option linter.unusedVariables false
set_option linter.unusedSimpArgs false
namespace Go.Proofs.YtnponnkcfgjeoaaDoor.X
open Go.RowKit Go.Proofs.YtnponnkcfgjeoaaDoorW.PrintWords Go.Proofs.YtnponnkcfgjeoaaDoorW.PrintLast Go.Proofs.YtnponnkcfgjeoaaDoorW.PrintMore
open Mort
def small (x : Int) : Prop := -100 ≤ x ∧ x ≤ 100
theorem l71Pt_told {l : List Int} (hl : Bytes l) {p : Int} (hp : 0 ≤ p) (hp' : p ≤ 900000) :
    ∃ x y q, (∀ k, 1 ≤ k → spec_l71Pt.f k l p = some (x, y, q)) ∧ p ≤ q ∧ q ≤ p + 10 ∧ small x ∧ small y := by
  obtain ⟨r1, h1, a1, b1⟩ := pick_told hl (p := p) (n := 10) hp (by omega) (by omega) (by omega)
  obtain ⟨r2, h2, a2, b2⟩ := pick_told hl (p := p + 1) (n := 10) (by omega) (by omega) (by omega) (by omega)
  obtain ⟨r3, h3, a3, b3⟩ := pick_told hl (p := p + 1 + 1) (n := 40) (by omega) (by omega) (by omega) (by omega)
  obtain ⟨r4, h4, a4, b4⟩ := pick_told hl (p := p + 1 + 1 + 1) (n := 2) (by omega) (by omega) (by omega) (by omega)
  have hr : -1 ≤ rd [(-1), 10] r4 ∧ rd [(-1), 10] r4 ≤ 10 := by
    have : r4 = 0 ∨ r4 = 1 := by omega
    rcases this with rfl | rfl <;> decide
  unfold small
  by_cases z0 : r3 = 0
  · refine ⟨rd [(-1), 10] r4, r2, p + 1 + 1 + 1 + 1, fun k hk => ?_, by omega, by omega, by omega, by omega⟩
    unfold spec_l71Pt.f
    rw [h1 k hk]; simp only [Option.bind_some]
    rw [h2 k hk]; simp only [Option.bind_some]
    rw [h3 k hk]; simp only [Option.bind_some]
    rw [if_pos z0, h4 k hk]; simp only [Option.bind_some]
    rw [if_pos a4, if_pos (by simpa using b4)]
  · by_cases z1 : r3 = 1
    · refine ⟨r1, rd [(-1), 10] r4, p + 1 + 1 + 1 + 1, fun k hk => ?_, by omega, by omega, by omega, by omega⟩
      unfold spec_l71Pt.f
      rw [h1 k hk]; simp only [Option.bind_some]
      rw [h2 k hk]; simp only [Option.bind_some]
      rw [h3 k hk]; simp only [Option.bind_some]
      rw [if_neg z0, if_pos z1, h4 k hk]; simp only [Option.bind_some]
      rw [if_pos a4, if_pos (by simpa using b4)]
    · refine ⟨r1, r2, p + 1 + 1 + 1, fun k hk => ?_, by omega, by omega, by omega, by omega⟩
      unfold spec_l71Pt.f
      rw [h1 k hk]; simp only [Option.bind_some]
      rw [h2 k hk]; simp only [Option.bind_some]
      rw [h3 k hk]; simp only [Option.bind_some]
      rw [if_neg z0, if_neg z1]
theorem l71Seg_told {l : List Int} (hl : Bytes l) {p : Int} (hp : 0 ≤ p) (hp' : p ≤ 800000) :
    ∃ a b c d q, (∀ k, 1 ≤ k → spec_l71Seg.f k l p = some (a, b, c, d, q)) ∧ p ≤ q ∧ q ≤ p + 30 ∧ small a ∧ small b ∧ small c ∧ small d := by
  obtain ⟨a, b, q1, h1, c1, d1, s1, t1⟩ := l71Pt_told hl (p := p) hp (by omega)
  obtain ⟨c, d, q2, h2, c2, d2, s2, t2⟩ := l71Pt_told hl (p := q1) (by omega) (by omega)
  obtain ⟨r, h3, a3, b3⟩ := pick_told hl (p := q2) (n := 4) (by omega) (by omega) (by omega) (by omega)
  by_cases z : r = 0
  · refine ⟨a, b, c, b, q2 + 1, fun k hk => ?_, by omega, by omega, s1, t1, s2, t1⟩
    unfold spec_l71Seg.f
    rw [h1 k hk]; simp only [Option.bind_some]
    rw [h2 k hk]; simp only [Option.bind_some]
    rw [h3 k hk]; simp only [Option.bind_some]
    rw [if_pos z]
  · refine ⟨a, b, c, d, q2 + 1, fun k hk => ?_, by omega, by omega, s1, t1, s2, t2⟩
    unfold spec_l71Seg.f
    rw [h1 k hk]; simp only [Option.bind_some]
    rw [h2 k hk]; simp only [Option.bind_some]
    rw [h3 k hk]; simp only [Option.bind_some]
    rw [if_neg z]
theorem l71On_told {l : List Int} (hl : Bytes l) {p : Int} (hp : 0 ≤ p) (hp' : p ≤ 700000) :
    ∃ a b c d e f q, (∀ k, 1 ≤ k → spec_l71On.f k l p = some (a, b, c, d, e, f, q)) ∧ p ≤ q ∧ q ≤ p + 100 := by
  obtain ⟨a, b, c, d, q1, h1, c1, d1, _⟩ := l71Seg_told hl (p := p) hp (by omega)
  obtain ⟨e, f, q2, h2, c2, d2, _⟩ := l71Pt_told hl (p := q1) (by omega) (by omega)
  obtain ⟨r3, h3, a3, b3⟩ := pick_told hl (p := q2) (n := 3) (by omega) (by omega) (by omega) (by omega)
  by_cases z : r3 > 0
  · obtain ⟨r4, h4, a4, b4⟩ := pick_told hl (p := q2 + 1) (n := 5) (by omega) (by omega) (by omega) (by omega)
    obtain ⟨r5, h5, a5, b5⟩ := pick_told hl (p := q2 + 1 + 1) (n := 5) (by omega) (by omega) (by omega) (by omega)
    obtain ⟨r6, h6, a6, b6⟩ := pick_told hl (p := q2 + 1 + 1 + 1) (n := 3) (by omega) (by omega) (by omega) (by omega)
    obtain ⟨r7, h7, a7, b7⟩ := pick_told hl (p := q2 + 1 + 1 + 1 + 1) (n := 3) (by omega) (by omega) (by omega) (by omega)
    obtain ⟨r8, h8, a8, b8⟩ := pick_told hl (p := q2 + 1 + 1 + 1 + 1 + 1) (n := 2) (by omega) (by omega) (by omega) (by omega)
    have e8 : wrap64 (wrap64 (1 + r8) + 1) = 1 + r8 + 1 := by rw [w64 (x := 1 + r8) (by omega) (by omega), w64 (by omega) (by omega)]
    obtain ⟨r9, h9, a9, b9⟩ := pick_told hl (p := q2 + 1 + 1 + 1 + 1 + 1 + 1) (n := 1 + r8 + 1) (by omega) (by omega) (by omega) (by omega)
    obtain ⟨ra, ha, aa, ba⟩ := pick_told hl (p := q2 + 1 + 1 + 1 + 1 + 1 + 1 + 1) (n := 1 + r8 + 1) (by omega) (by omega) (by omega) (by omega)
    obtain ⟨rb, hb, ab, bb⟩ := pick_told hl (p := q2 + 1 + 1 + 1 + 1 + 1 + 1 + 1 + 1) (n := 2) (by omega) (by omega) (by omega) (by omega)
    have go : ∀ k, 1 ≤ k → spec_l71On.f k l p = if rb = 0 then _ else _ := fun k hk => by
      unfold spec_l71On.f
      rw [h1 k hk]; simp only [Option.bind_some]
      rw [h2 k hk]; simp only [Option.bind_some]
      rw [h3 k hk]; simp only [Option.bind_some]
      rw [if_pos z, h4 k hk]; simp only [Option.bind_some]
      rw [h5 k hk]; simp only [Option.bind_some]
      rw [h6 k hk]; simp only [Option.bind_some]
      rw [h7 k hk]; simp only [Option.bind_some]
      rw [h8 k hk]; simp only [Option.bind_some]
      rw [e8, h9 k hk]; simp only [Option.bind_some]
      rw [ha k hk]; simp only [Option.bind_some]
      rw [hb k hk]; simp only [Option.bind_some]
      rfl
    by_cases y : rb = 0
    · exact ⟨_, _, _, _, _, _, _, fun k hk => by rw [go k hk, if_pos y], by omega, by omega⟩
    · exact ⟨_, _, _, _, _, _, _, fun k hk => by rw [go k hk, if_neg y], by omega, by omega⟩
  · refine ⟨a, b, c, d, e, f, q2 + 1, fun k hk => ?_, by omega, by omega⟩
    unfold spec_l71On.f
    rw [h1 k hk]; simp only [Option.bind_some]
    rw [h2 k hk]; simp only [Option.bind_some]
    rw [h3 k hk]; simp only [Option.bind_some]
    rw [if_neg z]
theorem drawSegFar_told (l : List Int) (h : ∀ x ∈ l, (Lit.int .u8 x).wf = true) :
    ∃ a b c d e f : Int, ∀ k, 1 ≤ k → spec_DrawSegFar.f k l = some (a, b, c, d, e, f) := by
  obtain ⟨m, ho, hm⟩ := open_told l h
  obtain ⟨r, h1, a1, b1⟩ := pick_told hm (p := 0) (n := 3) (by omega) (by omega) (by omega) (by omega)
  by_cases z : r = 0
  · obtain ⟨a, b, c, d, e, f, q, h2, _⟩ := l71On_told hm (p := 0 + 1) (by omega) (by omega)
    refine ⟨a, b, c, d, e, f, fun k hk => ?_⟩
    unfold spec_DrawSegFar.f
    rw [ho]; simp only [Option.bind_some]
    rw [h1 k hk]; simp only [Option.bind_some]
    rw [if_pos z, h2 k hk]; simp only [Option.bind_some]
  · obtain ⟨a, b, c, d, q1, h2, c2, d2, _⟩ := l71Seg_told hm (p := 0 + 1) (by omega) (by omega)
    obtain ⟨e, f, q2, h3, c3, d3, _⟩ := l71Pt_told hm (p := q1) (by omega) (by omega)
    refine ⟨a, b, c, d, e, f, fun k hk => ?_⟩
    unfold spec_DrawSegFar.f
    rw [ho]; simp only [Option.bind_some]
    rw [h1 k hk]; simp only [Option.bind_some]
    rw [if_neg z, h2 k hk]; simp only [Option.bind_some]
    rw [h3 k hk]; simp only [Option.bind_some]
end Go.Proofs.YtnponnkcfgjeoaaDoor.X
end
section
set_option linter.unusedVariables false
namespace Go.Proofs.YtnponnkcfgjeoaaDoor.Pure
open Go.RowKit Go.Proofs.YtnponnkcfgjeoaaDoor.X Go.Proofs.YtnponnkcfgjeoaaDoorW.PrintWords Go.Proofs.YtnponnkcfgjeoaaDoorW.PrintLast
open Mort
theorem FnFarLonger : laws_FnFarLonger.Pure := by
  intro l _ _ hw
  obtain ⟨a, b, c, d, e, f, hd⟩ := drawSegFar_told l hw
  refine ⟨100000 + 1, ?_⟩
  unfold laws_FnFarLonger.f
  split
  · rfl
  rw [hd _ (by omega)]; simp only [Option.bind_some]
  rw [sSegFar (by omega)]
  unfold impl_SegFar.f
  simp only [Option.bind_some, beq_self_eq_true, Bool.not_true, Bool.or_self, Bool.false_eq_true, if_false, sSegOk, sPtOk]
  have bad : laws_FnFarLonger.j0 (100000 + 1) true a b c d e f (segFar ((a, b), (c, d)) (e, f)).1 (segFar ((a, b), (c, d)) (e, f)).2 = some true := by
    simp only [laws_FnFarLonger.j0, if_true, sSegFar (Nat.le_refl 100000), Option.bind_some, beq_self_eq_true, Bool.and_self]
  cases hs : segOk ((a, b), (c, d)) with
  | false => exact bad
  | true =>
    simp only [if_true]
    cases hp : ptOk (e, f) with
    | false => exact bad
    | true =>
      obtain ⟨o1, o2⟩ := segOk_ends hs
      rw [ptOk_iff] at o1 o2
      simp only at o1 o2
      have e1 : wrap64 (wrap64 (2 * c) - a) = 2 * c - a := by rw [w64 (x := 2 * c) (by omega) (by omega), w64 (by omega) (by omega)]
      have e2 : wrap64 (wrap64 (2 * d) - b) = 2 * d - b := by rw [w64 (x := 2 * d) (by omega) (by omega), w64 (by omega) (by omega)]
      simp only [laws_FnFarLonger.j0, Bool.not_true, Bool.false_eq_true, if_false, e1, e2, iSegOk, Option.bind_some]
      cases ho : segOk ((a, b), (2 * c - a, 2 * d - b)) with
      | false => rfl
      | true =>
        have h := far_longer hs hp ho
        simp only [if_true, fracCmp_f, Option.bind_some, impl_SegFar.f]
        rw [if_pos h.1, iSegHas (by omega)]
        simp only [Option.bind_some]
        exact congrArg some h.2
end Go.Proofs.YtnponnkcfgjeoaaDoor.Pure
end
section
namespace Go.Proofs.YtnponnkcfgjeoaaDoorW.PrintWords
open Go.ChangeShapes Go.WideShapes
/-- A row's slice of whole numbers is no longer than its weight allows. -/
theorem sized_ints {H : Type} {enc : TypeId × Value → H} {P : Program} {W : World} {base : Nat} {spare : Nat → Bool} {held : Bool} {t e : TypeId} {k : IntKind} {a : Option Addr} {len cap : Nat} {d : DataW H} {ps : List MemPlace} {ts : List TypeId} {ds : List (DataW H)} {j : Nat}
    (hsz : (DataW.weightsEach P ts ds).all (· ≤ reachBytes) = true) (ht : ts[j]? = some t) (hd : ds[j]? = some d) (hu : P.underlying t = some (.slice e)) (he : P.underlying e = some (.int k)) (hc : P.cellsOf e = 1) {B : Nat} (hB : P.bytesOf e = B)
    (h : DataW.Trod enc P W base spare held t (.slice a len cap) d ps) : len * B ≤ 140737488351232 := by
  obtain ⟨fuel, hf⟩ := h
  rcases open_ints hu he hc hf with ⟨hcs, _⟩ | ⟨x, l, c, zs, hcs, _, hl, _, hz, hx, _, _⟩
  · simp [Value.cells] at hcs
    obtain ⟨rfl, rfl, rfl⟩ := hcs
    simp
  · simp [Value.cells] at hcs
    obtain ⟨rfl, rfl, rfl⟩ := hcs
    obtain ⟨hx, _⟩ := Prod.mk.inj hx
    subst hx
    have z := sized_slice hsz ht hd hu
    rw [hB] at z
    have hl2 : len ≤ zs.length := by
      rw [hz]
      split
      · exact hl
      · exact Nat.le_refl _
    have h1 : (lits (H := H) k (zs.take len)).length + (lits (H := H) k (zs.drop len)).length = zs.length := by
      simp [lits]
      omega
    rw [h1] at z
    exact Nat.le_trans (Nat.mul_le_mul_right _ hl2) z
end Go.Proofs.YtnponnkcfgjeoaaDoorW.PrintWords
end
section
set_option linter.unusedVariables false
namespace Go.Proofs.YtnponnkcfgjeoaaDoor.fnFarLonger
open Go Go.ChangeShapes Go.WideShapes Go.ChangeAt Go.RowKit Go.Proofs.YtnponnkcfgjeoaaDoorW
open Go.ChangeMaps (open_string shut_string)
def IsRow (k : IntKind) (w : World) (a : Option Addr) (len cap : Nat) (zs : List Int) : Prop :=
  (a = none ∧ len = 0 ∧ cap = 0 ∧ zs = []) ∨
  ∃ x, a = some x ∧ len ≤ cap ∧ cap ≤ maxLen ∧ zs.length = cap ∧ (∀ i, i < zs.length → w.cell? (x.add i) = some (.int k (zs.getD i 0))) ∧ ∀ n ∈ zs, (Lit.int k n).wf = true
set_option maxRecDepth 100000 in
theorem lifted (os : Os) (started : os.Started) (H : Type) (enc : TypeId × Value → H) :
    ReturnsInHanded {} Tryd.checked os 8 .any (fun w args => (Rows.fnFarLongerSpec.pre enc Tryd.prog Tryd.f8 [] false w args ∧ laidMet Tryd.prog laidErr w) ∧ sizedMet enc Tryd.prog Tryd.f8 (OpenSpec.ofChange Rows.fnFarLongerSpec) false w args) (Rows.fnFarLongerSpec.post enc Tryd.prog Tryd.f8 false true false false) := by
  refine returnsInHanded_of_change_and (C := Tryd.checked) (X := fun w _ => laidMet Tryd.prog laidErr w) (fun _ _ _ hh h => h.of_heap hh) own started (by kernel_rfl) Tryd.func8
    (ChangeSpec.witness_at (enc := enc) (C := Tryd.checked) (os := os) (X := fun w _ => laidMet Tryd.prog laidErr w) false (laidWorld os) #[.slice none 0 0] 8 rfl (by kernel_rfl) (by kernel_rfl) (by kernel_rfl) (by kernel_rfl) (by kernel_rfl) (laidWorld_met os _)) ?_
  intro W base args ds gs before hval0 hW hcnd hsz0 hL _
  have hsz : (DataW.weightsEach Tryd.prog (Tryd.f8.params.toList ++ Rows.fnFarLongerSpec.plain.varTypes Tryd.prog) (ds ++ gs)).all (· ≤ reachBytes) = true := hsz0
  have hval : ∀ (j : Nat) t v, Tryd.f8.params[j]? = some t → args[j]? = some v → Value.okWide Tryd.prog W .any base t v := hval0
  have hW' := hW
  obtain ⟨p, q, hA0, hV0, rfl, hfz, hnd⟩ := hW
  have hA : DataW.TrodAll enc Tryd.prog W 0 (fun _ => true) true Tryd.f8.params.toList args.toList ds p := hA0
  have hV : DataW.TrodVars enc Tryd.prog W (fun _ => true) ["loop.example/mortiser/impl.errNoFrac"] gs q := hV0
  rw [Tryd.params8] at hA hval hsz
  obtain ⟨v0, vs0, d0, ds0, p0, q0, hargs, rfl, rfl, h0, r0⟩ := trodAll_cons hA
  obtain ⟨rfl, rfl, rfl⟩ := trodAll_nil r0
  obtain rfl : args = #[v0] := by cases args; simp_all
  obtain ⟨a, st, hv, hcs, hs0, hz0⟩ := err_of_laid hL
  obtain ⟨rfl, rfl⟩ := hV.unique (errVars enc hv trivial _)
  have hE : ErrW W := ErrW.of_var hv
  obtain ⟨a0, len0, cap0, rfl⟩ := okWide_slice Tryd.underlying28 (hval 0 28 v0 rfl rfl)
  have k0 := h0
  have lt0 : ∀ x ∈ p0, x.block < W.heap.size := by obtain ⟨m, hm⟩ := k0; exact DataW.trod_lt m _ _ _ hm
  obtain ⟨z0, w0⟩ : ∃ zs, IsRow .u8 W a0 len0 cap0 zs := by
    obtain ⟨fuel, hf⟩ := h0
    rcases open_ints Tryd.underlying28 Tryd.underlying5 (by kernel_rfl) hf with ⟨hcs, _⟩ | ⟨x, l, c, zs, hcs, _, hl, hm, hz, _, hcell, hwz⟩
    · simp [Value.cells] at hcs
      obtain ⟨rfl, rfl, rfl⟩ := hcs
      exact ⟨[], .inl ⟨rfl, rfl, rfl, rfl⟩⟩
    · simp [Value.cells] at hcs
      obtain ⟨rfl, rfl, rfl⟩ := hcs
      exact ⟨zs, .inr ⟨_, rfl, hl, hm, by simpa using hz, hcell, hwz⟩⟩
  have y0 : len0 * 1 ≤ 140737488351232 := PrintWords.sized_ints hsz (j := 0) (t := 28) rfl rfl Tryd.underlying28 Tryd.underlying5 (by kernel_rfl) (by kernel_rfl) h0
  clear hA0 hval0 hsz0 hsz
  refine (X.laws_FnFarLonger.walk Pure.FnFarLonger a0 len0 cap0 z0 W hE w0 y0).mono fun e W' ⟨he, bel⟩ => ?_
  subst he
  exact ⟨_, rfl, _, _, _, [], _, [.cell 0 0], hW', trodAll_mk1 (shut_bool Tryd.underlying4 _), (trodAll_cons_mk (Below.trod laidOut (by kernel_rfl) (of_decide_eq_true (by kernel_rfl)) k0 bel lt0) trodAll_mk0), errVars enc (errBelow bel hv) trivial _, bel.frame _, fun h => by cases h⟩
theorem over : Rows.fnFarLongerRow.holds Tryd.pinned (OpenSpec.ofChange Rows.fnFarLongerSpec) :=
  OpenClaim.holds_of_wide 8 Tryd.f8 rfl rfl rfl rfl rfl rfl rfl ⟨rfl, rfl, rfl, rfl, rfl⟩ rfl rfl rfl rfl rfl (by kernel_rfl) Tryd.func8 (by kernel_rfl)
    (of_decide_eq_true (by kernel_rfl)) (by unfold Func.isWrapper; first | (rw [if_pos (by decide +kernel)]; kernel_rfl) | (rw [if_neg (by decide +kernel)]; exact ⟨rfl, rfl⟩))
    (fun os started H enc _ => lifted os started H enc)
theorem proved : Rows.FnFarLongerCardSaid :=
  Claim7.holds_tied_plain_at .later [] [.sentinel] true (true, "367200faf2c18a8d3acd0cadfc4f4a0300d2711da9ddbae6489321d2dd8a2082") true
    over (fun _ h => by cases h) (by kernel_rfl) (fun _ h => by cases h) fnFarLonger_row_tie rfl ⟨rfl, rfl⟩ (by kernel_rfl) rfl
    (fun f fn hf hfn => by
      obtain rfl : f = 8 := Option.some.inj ((show Tryd.prog.funcNamed "loop.example/mortiser/laws.FnFarLonger" = some 8 by kernel_rfl).symm.trans hf) |>.symm
      obtain rfl : fn = Tryd.f8 := (Option.some.inj (Tryd.func8.symm.trans hfn)).symm
      exact ⟨by kernel_rfl, fun j t ht => by
        rw [Tryd.params8] at ht
        have h3 : t = 28 := by
          rcases j with _ | j
          · simpa using ht.symm
          · simp at ht
        subst h3
        exact (show Tryd.prog.wantsStandIn 28 = false by kernel_rfl)⟩)
    (by kernel_rfl)
end Go.Proofs.YtnponnkcfgjeoaaDoor.fnFarLonger
namespace Go.Proofs.YtnponnkcfgjeoaaDoor
/-- The card, under a short name, for the claim. -/
theorem fnFarLonger_holds : Rows.FnFarLongerCardSaid := fnFarLonger.proved
end Go.Proofs.YtnponnkcfgjeoaaDoor
end
