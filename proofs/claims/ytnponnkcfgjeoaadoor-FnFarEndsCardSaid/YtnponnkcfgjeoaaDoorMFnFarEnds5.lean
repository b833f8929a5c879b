/- FnFarEnds: the law returns true for every input, and each input reads behind the call as before; part 5 of 7. No condition. Merged by program out of: FImplStandOf, EvSeg, HSeg. -/
import Derived.Test.YtnponnkcfgjeoaaDoorMFnFarEnds4
import Derived.RegionTactic
import Derived.ChangeAlike
import Derived.OwnWalk
import Derived.Outline
import Derived.Deep.RegionHeld3
import Derived.WalkLawsBesides
section
namespace Go.Proofs.YtnponnkcfgjeoaaDoor.X
open Go.RowKit Go.Proofs.YtnponnkcfgjeoaaDoorW.PrintWords Go.Proofs.YtnponnkcfgjeoaaDoorW.PrintLast Go.Proofs.YtnponnkcfgjeoaaDoorW.PrintMore
attribute [local go_sem] max2_int min2_int max_two min_two max_three min_three max_four min_four
set_option linter.unusedVariables false
set_option linter.unusedSimpArgs false
def impl_standOf.f (a0_0 : Int) (a0_1 : Int) (a0_2 : Int) (a0_3 : Int) (a1_0 : Int) (a1_1 : Int) : Option (Int) := (impl_along.f a0_0 a0_1 a0_2 a0_3 a1_0 a1_1).bind fun t334 => (if t334 ≤ 0 then (some 0) else ((impl_between.f a0_0 a0_1 a0_2 a0_3).bind fun t335 => (if t334 ≥ t335 then (some 2) else (some 1))))
set_option maxHeartbeats 8000000 in
set_option maxRecDepth 100000 in
theorem impl_standOf.calls (a0_0 : Int) (a0_1 : Int) (a0_2 : Int) (a0_3 : Int) (a1_0 : Int) (a1_1 : Int) (r : Int) (w : World) (h : impl_standOf.f a0_0 a0_1 a0_2 a0_3 a1_0 a1_1 = some r) :
    Calls Tryd.prog 58 #[.agg #[.int .i64 a0_0, .int .i64 a0_1, .int .i64 a0_2, .int .i64 a0_3], .agg #[.int .i64 a1_0, .int .i64 a1_1]] w fun e w' => e = .returned (.int .i64 r) ∧ Below w.heap.size w w' := by
  have hu40 := Tryd.underlying40
  have hu38 := Tryd.underlying38
  have HB := Aside0.mk (Below.refl w.heap.size w)
  have H : ((impl_along.f a0_0 a0_1 a0_2 a0_3 a1_0 a1_1).bind fun t334 => (if t334 ≤ 0 then (some 0) else ((impl_between.f a0_0 a0_1 a0_2 a0_3).bind fun t335 => (if t334 ≥ t335 then (some 2) else (some 1))))) = some r := h
  clear h
  replace H := Option.bind_eq_some_iff.mp H
  obtain ⟨t334, A30, H⟩ := H
  replace H : (if t334 ≤ 0 then (some 0) else ((impl_between.f a0_0 a0_1 a0_2 a0_3).bind fun t335 => (if t334 ≥ t335 then (some 2) else (some 1)))) = some r := H
  have A3 := Aside0.mk A30
  clear A30
  by_cases c4 : t334 ≤ 0
  · rw [if_pos c4] at H
    have c4b0 : decide (t334 ≤ 0) = true := decide_eq_true c4
    clear c4
    obtain rfl := Option.some.inj H
    go_enter Tryd.func58, Tryd.ntmps58
    go_wp2_with (first | ((with_reducible refine gate_dst (N := 2) rfl ?_); refine box_event ?hg (N := 2) ?hd (cs := #[.int .i64 a0_0, .int .i64 a0_1, .int .i64 a0_2, .int .i64 a0_3]) (t := 40) ?hr ?_; (case hd => rfl); (case hg => rfl); (case hr => first | (go_simp; done) | (go_simp; rfl)); intro gb332 hg w5 hbox hb; have n0_ := Aside0.mk (below_step (by repeat (first | (with_reducible first | exact HB.out | apply below_alloc | apply pw_below_drewN | apply below_drew1) | exact HB.out)) hb); have n1_ := Aside0.mk (hbox); have n2_ := Aside0.mk ((by rw [hg]; exact (below_size (by repeat (first | (with_reducible first | exact HB.out | apply below_alloc | apply pw_below_drewN | apply below_drew1) | exact HB.out))) : w.heap.size ≤ gb332)); have n3_ := Aside0.mk ((by rw [hg]; exact (below_size (by repeat (first | (with_reducible first | exact HB.out | apply below_alloc | apply pw_below_drewN | apply below_drew1) | exact HB.out))) : w.heap.size ≤ gb332)); clear HB; have HB := n0_; have BK332 := n1_; have GW332 := n2_; have GE332 := n3_; clear n0_ n1_ n2_ n3_; clear hb hbox hg) | ((with_reducible refine gate_dst (N := 3) rfl ?_); refine box_event ?hg (N := 3) ?hd (cs := #[.int .i64 a1_0, .int .i64 a1_1]) (t := 38) ?hr ?_; (case hd => rfl); (case hg => rfl); (case hr => first | (go_simp; done) | (go_simp; rfl)); intro gb333 hg w6 hbox hb; have n0_ := Aside0.mk (blk_below (g := gb332) (o := .cells #[.int .i64 a0_0, .int .i64 a0_1, .int .i64 a0_2, .int .i64 a0_3] 40 (0, 0)) (by (with_reducible repeat (first | refine blk_drewN ?_ _ | refine blk_drew ?_ | refine blk_alloc ?_ _)); exact BK332.out) hb); have n1_ := Aside0.mk (below_step (by repeat (first | (with_reducible first | exact HB.out | apply below_alloc | apply pw_below_drewN | apply below_drew1 | refine below_set ?_ GE332.out) | exact HB.out)) hb); have n2_ := Aside0.mk (hbox); have n3_ := Aside0.mk ((by rw [hg]; exact (below_size (by repeat (first | (with_reducible first | exact HB.out | apply below_alloc | apply pw_below_drewN | apply below_drew1 | refine below_set ?_ GE332.out) | exact HB.out))) : w.heap.size ≤ gb333)); have n4_ := Aside0.mk ((by rw [hg]; exact (below_size (by repeat (first | (with_reducible first | exact HB.out | apply below_alloc | apply pw_below_drewN | apply below_drew1 | refine below_set ?_ GE332.out) | exact HB.out))) : w.heap.size ≤ gb333)); have n5_ := Aside0.mk ((by rw [hg]; exact Nat.ne_of_lt (blk_lt (g := gb332) (o := .cells #[.int .i64 a0_0, .int .i64 a0_1, .int .i64 a0_2, .int .i64 a0_3] 40 (0, 0)) (by (with_reducible repeat (first | refine blk_drewN ?_ _ | refine blk_drew ?_ | refine blk_alloc ?_ _)); exact BK332.out)) : gb332 ≠ gb333)); have n6_ := Aside0.mk ((by rw [hg]; exact Nat.ne_of_gt (blk_lt (g := gb332) (o := .cells #[.int .i64 a0_0, .int .i64 a0_1, .int .i64 a0_2, .int .i64 a0_3] 40 (0, 0)) (by (with_reducible repeat (first | refine blk_drewN ?_ _ | refine blk_drew ?_ | refine blk_alloc ?_ _)); exact BK332.out)) : gb333 ≠ gb332)); clear BK332; clear HB; have BK332 := n0_; have HB := n1_; have BK333 := n2_; have GW333 := n3_; have GE333 := n4_; have NB332_333 := n5_; have NB333_332 := n6_; clear n0_ n1_ n2_ n3_ n4_ n5_ n6_; clear hb hbox hg; have hnb7 := NB332_333.out; have hnc7 := NB333_332.out; have hcz8_0 : w6.cell? ⟨gb332, 0, none⟩ = some (.int .i64 a0_0) := (blk_cell BK332.out 0).trans rfl; have hcz8_1 : w6.cell? ⟨gb332, 1, none⟩ = some (.int .i64 a0_1) := (blk_cell BK332.out 1).trans rfl; have hcz8_2 : w6.cell? ⟨gb332, 2, none⟩ = some (.int .i64 a0_2) := (blk_cell BK332.out 2).trans rfl; have hcz8_3 : w6.cell? ⟨gb332, 3, none⟩ = some (.int .i64 a0_3) := (blk_cell BK332.out 3).trans rfl; have hfz8_0 := blk_frozen BK332.out 0; have hfz8_1 := blk_frozen BK332.out 1; have hfz8_2 := blk_frozen BK332.out 2; have hfz8_3 := blk_frozen BK332.out 3; have hcz9_0 : w6.cell? ⟨gb333, 0, none⟩ = some (.int .i64 a1_0) := (blk_cell BK333.out 0).trans rfl; have hcz9_1 : w6.cell? ⟨gb333, 1, none⟩ = some (.int .i64 a1_1) := (blk_cell BK333.out 1).trans rfl; have hfz9_0 := blk_frozen BK333.out 0; have hfz9_1 := blk_frozen BK333.out 1) | ((with_reducible refine gate_callee (f := 60) rfl ?_); refine goesL_ (some 11) rfl rfl Tryd.func60 (by kernel_rfl) rfl #[.agg #[.int .i64 a0_0, .int .i64 a0_1], .agg #[.int .i64 a0_2, .int .i64 a0_3], .agg #[.int .i64 a1_0, .int .i64 a1_1]] rfl (by (try simp only [List.map_toArray, List.map_cons, List.map_nil]); first | done | rfl | (simp only [List.length_drop, List.length_take]; rfl)) ?_; (with_reducible refine (impl_along.calls a0_0 a0_1 a0_2 a0_3 a1_0 a1_1 t334 _ A3.out).mono ?_); rintro e w10 ⟨rfl, hb⟩; refine ⟨_, rfl, ?_⟩; have n0_ := Aside0.mk (blk_below (g := gb332) (o := .cells #[.int .i64 a0_0, .int .i64 a0_1, .int .i64 a0_2, .int .i64 a0_3] 40 (0, 0)) (by (with_reducible repeat (first | refine blk_drewN ?_ _ | refine blk_drew ?_ | refine blk_alloc ?_ _)); exact BK332.out) hb); have n1_ := Aside0.mk (blk_below (g := gb333) (o := .cells #[.int .i64 a1_0, .int .i64 a1_1] 38 (0, 0)) (by (with_reducible repeat (first | refine blk_drewN ?_ _ | refine blk_drew ?_ | refine blk_alloc ?_ _)); exact BK333.out) hb); have n2_ := Aside0.mk (below_step (by repeat (first | (with_reducible first | exact HB.out | apply below_alloc | apply pw_below_drewN | apply below_drew1 | refine below_set ?_ GE332.out | refine below_set ?_ GE333.out) | exact HB.out)) hb); clear BK332; clear BK333; clear HB; have BK332 := n0_; have BK333 := n1_; have HB := n2_; clear n0_ n1_ n2_; (try clear hb); (try clear hb2); (try clear hk); (try clear hi)))
    go_ret
    exact ⟨by first | rfl | (simp [errW_none, errW_some] <;> rfl) | (simp [*, errW_none, errW_some] <;> rfl), by repeat (first | (with_reducible first | exact HB.out | apply below_alloc | apply pw_below_drewN | apply below_drew1 | refine below_set ?_ GE332.out | refine below_set ?_ GE333.out) | exact HB.out)⟩
  · rw [if_neg c4] at H
    have c4b0 : decide (t334 ≤ 0) = false := decide_eq_false c4
    clear c4
    replace H := Option.bind_eq_some_iff.mp H
    obtain ⟨t335, A110, H⟩ := H
    replace H : (if t334 ≥ t335 then (some 2) else (some 1)) = some r := H
    have A11 := Aside0.mk A110
    clear A110
    by_cases c12 : t334 ≥ t335
    · rw [if_pos c12] at H
      have c12b0 : decide (t335 ≤ t334) = true := decide_eq_true c12
      clear c12
      obtain rfl := Option.some.inj H
      go_enter Tryd.func58, Tryd.ntmps58
      go_wp2_with (first | ((with_reducible refine gate_dst (N := 2) rfl ?_); refine box_event ?hg (N := 2) ?hd (cs := #[.int .i64 a0_0, .int .i64 a0_1, .int .i64 a0_2, .int .i64 a0_3]) (t := 40) ?hr ?_; (case hd => rfl); (case hg => rfl); (case hr => first | (go_simp; done) | (go_simp; rfl)); intro gb332 hg w13 hbox hb; have n0_ := Aside0.mk (below_step (by repeat (first | (with_reducible first | exact HB.out | apply below_alloc | apply pw_below_drewN | apply below_drew1) | exact HB.out)) hb); have n1_ := Aside0.mk (hbox); have n2_ := Aside0.mk ((by rw [hg]; exact (below_size (by repeat (first | (with_reducible first | exact HB.out | apply below_alloc | apply pw_below_drewN | apply below_drew1) | exact HB.out))) : w.heap.size ≤ gb332)); have n3_ := Aside0.mk ((by rw [hg]; exact (below_size (by repeat (first | (with_reducible first | exact HB.out | apply below_alloc | apply pw_below_drewN | apply below_drew1) | exact HB.out))) : w.heap.size ≤ gb332)); clear HB; have HB := n0_; have BK332 := n1_; have GW332 := n2_; have GE332 := n3_; clear n0_ n1_ n2_ n3_; clear hb hbox hg) | ((with_reducible refine gate_dst (N := 3) rfl ?_); refine box_event ?hg (N := 3) ?hd (cs := #[.int .i64 a1_0, .int .i64 a1_1]) (t := 38) ?hr ?_; (case hd => rfl); (case hg => rfl); (case hr => first | (go_simp; done) | (go_simp; rfl)); intro gb333 hg w14 hbox hb; have n0_ := Aside0.mk (blk_below (g := gb332) (o := .cells #[.int .i64 a0_0, .int .i64 a0_1, .int .i64 a0_2, .int .i64 a0_3] 40 (0, 0)) (by (with_reducible repeat (first | refine blk_drewN ?_ _ | refine blk_drew ?_ | refine blk_alloc ?_ _)); exact BK332.out) hb); have n1_ := Aside0.mk (below_step (by repeat (first | (with_reducible first | exact HB.out | apply below_alloc | apply pw_below_drewN | apply below_drew1 | refine below_set ?_ GE332.out) | exact HB.out)) hb); have n2_ := Aside0.mk (hbox); have n3_ := Aside0.mk ((by rw [hg]; exact (below_size (by repeat (first | (with_reducible first | exact HB.out | apply below_alloc | apply pw_below_drewN | apply below_drew1 | refine below_set ?_ GE332.out) | exact HB.out))) : w.heap.size ≤ gb333)); have n4_ := Aside0.mk ((by rw [hg]; exact (below_size (by repeat (first | (with_reducible first | exact HB.out | apply below_alloc | apply pw_below_drewN | apply below_drew1 | refine below_set ?_ GE332.out) | exact HB.out))) : w.heap.size ≤ gb333)); have n5_ := Aside0.mk ((by rw [hg]; exact Nat.ne_of_lt (blk_lt (g := gb332) (o := .cells #[.int .i64 a0_0, .int .i64 a0_1, .int .i64 a0_2, .int .i64 a0_3] 40 (0, 0)) (by (with_reducible repeat (first | refine blk_drewN ?_ _ | refine blk_drew ?_ | refine blk_alloc ?_ _)); exact BK332.out)) : gb332 ≠ gb333)); have n6_ := Aside0.mk ((by rw [hg]; exact Nat.ne_of_gt (blk_lt (g := gb332) (o := .cells #[.int .i64 a0_0, .int .i64 a0_1, .int .i64 a0_2, .int .i64 a0_3] 40 (0, 0)) (by (with_reducible repeat (first | refine blk_drewN ?_ _ | refine blk_drew ?_ | refine blk_alloc ?_ _)); exact BK332.out)) : gb333 ≠ gb332)); clear BK332; clear HB; have BK332 := n0_; have HB := n1_; have BK333 := n2_; have GW333 := n3_; have GE333 := n4_; have NB332_333 := n5_; have NB333_332 := n6_; clear n0_ n1_ n2_ n3_ n4_ n5_ n6_; clear hb hbox hg; have hnb15 := NB332_333.out; have hnc15 := NB333_332.out; have hcz16_0 : w14.cell? ⟨gb332, 0, none⟩ = some (.int .i64 a0_0) := (blk_cell BK332.out 0).trans rfl; have hcz16_1 : w14.cell? ⟨gb332, 1, none⟩ = some (.int .i64 a0_1) := (blk_cell BK332.out 1).trans rfl; have hcz16_2 : w14.cell? ⟨gb332, 2, none⟩ = some (.int .i64 a0_2) := (blk_cell BK332.out 2).trans rfl; have hcz16_3 : w14.cell? ⟨gb332, 3, none⟩ = some (.int .i64 a0_3) := (blk_cell BK332.out 3).trans rfl; have hfz16_0 := blk_frozen BK332.out 0; have hfz16_1 := blk_frozen BK332.out 1; have hfz16_2 := blk_frozen BK332.out 2; have hfz16_3 := blk_frozen BK332.out 3; have hcz17_0 : w14.cell? ⟨gb333, 0, none⟩ = some (.int .i64 a1_0) := (blk_cell BK333.out 0).trans rfl; have hcz17_1 : w14.cell? ⟨gb333, 1, none⟩ = some (.int .i64 a1_1) := (blk_cell BK333.out 1).trans rfl; have hfz17_0 := blk_frozen BK333.out 0; have hfz17_1 := blk_frozen BK333.out 1) | ((with_reducible refine gate_callee (f := 60) rfl ?_); refine goesL_ (some 11) rfl rfl Tryd.func60 (by kernel_rfl) rfl #[.agg #[.int .i64 a0_0, .int .i64 a0_1], .agg #[.int .i64 a0_2, .int .i64 a0_3], .agg #[.int .i64 a1_0, .int .i64 a1_1]] rfl (by (try simp only [List.map_toArray, List.map_cons, List.map_nil]); first | done | rfl | (simp only [List.length_drop, List.length_take]; rfl)) ?_; (with_reducible refine (impl_along.calls a0_0 a0_1 a0_2 a0_3 a1_0 a1_1 t334 _ A3.out).mono ?_); rintro e w18 ⟨rfl, hb⟩; refine ⟨_, rfl, ?_⟩; have n0_ := Aside0.mk (blk_below (g := gb332) (o := .cells #[.int .i64 a0_0, .int .i64 a0_1, .int .i64 a0_2, .int .i64 a0_3] 40 (0, 0)) (by (with_reducible repeat (first | refine blk_drewN ?_ _ | refine blk_drew ?_ | refine blk_alloc ?_ _)); exact BK332.out) hb); have n1_ := Aside0.mk (blk_below (g := gb333) (o := .cells #[.int .i64 a1_0, .int .i64 a1_1] 38 (0, 0)) (by (with_reducible repeat (first | refine blk_drewN ?_ _ | refine blk_drew ?_ | refine blk_alloc ?_ _)); exact BK333.out) hb); have n2_ := Aside0.mk (below_step (by repeat (first | (with_reducible first | exact HB.out | apply below_alloc | apply pw_below_drewN | apply below_drew1 | refine below_set ?_ GE332.out | refine below_set ?_ GE333.out) | exact HB.out)) hb); clear BK332; clear BK333; clear HB; have BK332 := n0_; have BK333 := n1_; have HB := n2_; clear n0_ n1_ n2_; (try clear hb); (try clear hb2); (try clear hk); (try clear hi); have hcz19_0 : w18.cell? ⟨gb332, 0, none⟩ = some (.int .i64 a0_0) := (blk_cell BK332.out 0).trans rfl; have hcz19_1 : w18.cell? ⟨gb332, 1, none⟩ = some (.int .i64 a0_1) := (blk_cell BK332.out 1).trans rfl; have hcz19_2 : w18.cell? ⟨gb332, 2, none⟩ = some (.int .i64 a0_2) := (blk_cell BK332.out 2).trans rfl; have hcz19_3 : w18.cell? ⟨gb332, 3, none⟩ = some (.int .i64 a0_3) := (blk_cell BK332.out 3).trans rfl; have hfz19_0 := blk_frozen BK332.out 0; have hfz19_1 := blk_frozen BK332.out 1; have hfz19_2 := blk_frozen BK332.out 2; have hfz19_3 := blk_frozen BK332.out 3) | ((with_reducible refine gate_callee (f := 54) rfl ?_); refine goesL_ (some 21) rfl rfl Tryd.func54 (by kernel_rfl) rfl #[.agg #[.int .i64 a0_0, .int .i64 a0_1], .agg #[.int .i64 a0_2, .int .i64 a0_3]] rfl (by (try simp only [List.map_toArray, List.map_cons, List.map_nil]); first | done | rfl | (simp only [List.length_drop, List.length_take]; rfl)) ?_; (with_reducible refine (impl_between.calls a0_0 a0_1 a0_2 a0_3 t335 _ A11.out).mono ?_); rintro e w20 ⟨rfl, hb⟩; refine ⟨_, rfl, ?_⟩; have n0_ := Aside0.mk (blk_below (g := gb332) (o := .cells #[.int .i64 a0_0, .int .i64 a0_1, .int .i64 a0_2, .int .i64 a0_3] 40 (0, 0)) (by (with_reducible repeat (first | refine blk_drewN ?_ _ | refine blk_drew ?_ | refine blk_alloc ?_ _)); exact BK332.out) hb); have n1_ := Aside0.mk (blk_below (g := gb333) (o := .cells #[.int .i64 a1_0, .int .i64 a1_1] 38 (0, 0)) (by (with_reducible repeat (first | refine blk_drewN ?_ _ | refine blk_drew ?_ | refine blk_alloc ?_ _)); exact BK333.out) hb); have n2_ := Aside0.mk (below_step (by repeat (first | (with_reducible first | exact HB.out | apply below_alloc | apply pw_below_drewN | apply below_drew1 | refine below_set ?_ GE332.out | refine below_set ?_ GE333.out) | exact HB.out)) hb); clear BK332; clear BK333; clear HB; have BK332 := n0_; have BK333 := n1_; have HB := n2_; clear n0_ n1_ n2_; (try clear hb); (try clear hb2); (try clear hk); (try clear hi)))
      go_ret
      exact ⟨by first | rfl | (simp [errW_none, errW_some] <;> rfl) | (simp [*, errW_none, errW_some] <;> rfl), by repeat (first | (with_reducible first | exact HB.out | apply below_alloc | apply pw_below_drewN | apply below_drew1 | refine below_set ?_ GE332.out | refine below_set ?_ GE333.out) | exact HB.out)⟩
    · rw [if_neg c12] at H
      have c12b0 : decide (t335 ≤ t334) = false := decide_eq_false c12
      clear c12
      obtain rfl := Option.some.inj H
      go_enter Tryd.func58, Tryd.ntmps58
      go_wp2_with (first | ((with_reducible refine gate_dst (N := 2) rfl ?_); refine box_event ?hg (N := 2) ?hd (cs := #[.int .i64 a0_0, .int .i64 a0_1, .int .i64 a0_2, .int .i64 a0_3]) (t := 40) ?hr ?_; (case hd => rfl); (case hg => rfl); (case hr => first | (go_simp; done) | (go_simp; rfl)); intro gb332 hg w21 hbox hb; have n0_ := Aside0.mk (below_step (by repeat (first | (with_reducible first | exact HB.out | apply below_alloc | apply pw_below_drewN | apply below_drew1) | exact HB.out)) hb); have n1_ := Aside0.mk (hbox); have n2_ := Aside0.mk ((by rw [hg]; exact (below_size (by repeat (first | (with_reducible first | exact HB.out | apply below_alloc | apply pw_below_drewN | apply below_drew1) | exact HB.out))) : w.heap.size ≤ gb332)); have n3_ := Aside0.mk ((by rw [hg]; exact (below_size (by repeat (first | (with_reducible first | exact HB.out | apply below_alloc | apply pw_below_drewN | apply below_drew1) | exact HB.out))) : w.heap.size ≤ gb332)); clear HB; have HB := n0_; have BK332 := n1_; have GW332 := n2_; have GE332 := n3_; clear n0_ n1_ n2_ n3_; clear hb hbox hg) | ((with_reducible refine gate_dst (N := 3) rfl ?_); refine box_event ?hg (N := 3) ?hd (cs := #[.int .i64 a1_0, .int .i64 a1_1]) (t := 38) ?hr ?_; (case hd => rfl); (case hg => rfl); (case hr => first | (go_simp; done) | (go_simp; rfl)); intro gb333 hg w22 hbox hb; have n0_ := Aside0.mk (blk_below (g := gb332) (o := .cells #[.int .i64 a0_0, .int .i64 a0_1, .int .i64 a0_2, .int .i64 a0_3] 40 (0, 0)) (by (with_reducible repeat (first | refine blk_drewN ?_ _ | refine blk_drew ?_ | refine blk_alloc ?_ _)); exact BK332.out) hb); have n1_ := Aside0.mk (below_step (by repeat (first | (with_reducible first | exact HB.out | apply below_alloc | apply pw_below_drewN | apply below_drew1 | refine below_set ?_ GE332.out) | exact HB.out)) hb); have n2_ := Aside0.mk (hbox); have n3_ := Aside0.mk ((by rw [hg]; exact (below_size (by repeat (first | (with_reducible first | exact HB.out | apply below_alloc | apply pw_below_drewN | apply below_drew1 | refine below_set ?_ GE332.out) | exact HB.out))) : w.heap.size ≤ gb333)); have n4_ := Aside0.mk ((by rw [hg]; exact (below_size (by repeat (first | (with_reducible first | exact HB.out | apply below_alloc | apply pw_below_drewN | apply below_drew1 | refine below_set ?_ GE332.out) | exact HB.out))) : w.heap.size ≤ gb333)); have n5_ := Aside0.mk ((by rw [hg]; exact Nat.ne_of_lt (blk_lt (g := gb332) (o := .cells #[.int .i64 a0_0, .int .i64 a0_1, .int .i64 a0_2, .int .i64 a0_3] 40 (0, 0)) (by (with_reducible repeat (first | refine blk_drewN ?_ _ | refine blk_drew ?_ | refine blk_alloc ?_ _)); exact BK332.out)) : gb332 ≠ gb333)); have n6_ := Aside0.mk ((by rw [hg]; exact Nat.ne_of_gt (blk_lt (g := gb332) (o := .cells #[.int .i64 a0_0, .int .i64 a0_1, .int .i64 a0_2, .int .i64 a0_3] 40 (0, 0)) (by (with_reducible repeat (first | refine blk_drewN ?_ _ | refine blk_drew ?_ | refine blk_alloc ?_ _)); exact BK332.out)) : gb333 ≠ gb332)); clear BK332; clear HB; have BK332 := n0_; have HB := n1_; have BK333 := n2_; have GW333 := n3_; have GE333 := n4_; have NB332_333 := n5_; have NB333_332 := n6_; clear n0_ n1_ n2_ n3_ n4_ n5_ n6_; clear hb hbox hg; have hnb23 := NB332_333.out; have hnc23 := NB333_332.out; have hcz24_0 : w22.cell? ⟨gb332, 0, none⟩ = some (.int .i64 a0_0) := (blk_cell BK332.out 0).trans rfl; have hcz24_1 : w22.cell? ⟨gb332, 1, none⟩ = some (.int .i64 a0_1) := (blk_cell BK332.out 1).trans rfl; have hcz24_2 : w22.cell? ⟨gb332, 2, none⟩ = some (.int .i64 a0_2) := (blk_cell BK332.out 2).trans rfl; have hcz24_3 : w22.cell? ⟨gb332, 3, none⟩ = some (.int .i64 a0_3) := (blk_cell BK332.out 3).trans rfl; have hfz24_0 := blk_frozen BK332.out 0; have hfz24_1 := blk_frozen BK332.out 1; have hfz24_2 := blk_frozen BK332.out 2; have hfz24_3 := blk_frozen BK332.out 3; have hcz25_0 : w22.cell? ⟨gb333, 0, none⟩ = some (.int .i64 a1_0) := (blk_cell BK333.out 0).trans rfl; have hcz25_1 : w22.cell? ⟨gb333, 1, none⟩ = some (.int .i64 a1_1) := (blk_cell BK333.out 1).trans rfl; have hfz25_0 := blk_frozen BK333.out 0; have hfz25_1 := blk_frozen BK333.out 1) | ((with_reducible refine gate_callee (f := 60) rfl ?_); refine goesL_ (some 11) rfl rfl Tryd.func60 (by kernel_rfl) rfl #[.agg #[.int .i64 a0_0, .int .i64 a0_1], .agg #[.int .i64 a0_2, .int .i64 a0_3], .agg #[.int .i64 a1_0, .int .i64 a1_1]] rfl (by (try simp only [List.map_toArray, List.map_cons, List.map_nil]); first | done | rfl | (simp only [List.length_drop, List.length_take]; rfl)) ?_; (with_reducible refine (impl_along.calls a0_0 a0_1 a0_2 a0_3 a1_0 a1_1 t334 _ A3.out).mono ?_); rintro e w26 ⟨rfl, hb⟩; refine ⟨_, rfl, ?_⟩; have n0_ := Aside0.mk (blk_below (g := gb332) (o := .cells #[.int .i64 a0_0, .int .i64 a0_1, .int .i64 a0_2, .int .i64 a0_3] 40 (0, 0)) (by (with_reducible repeat (first | refine blk_drewN ?_ _ | refine blk_drew ?_ | refine blk_alloc ?_ _)); exact BK332.out) hb); have n1_ := Aside0.mk (blk_below (g := gb333) (o := .cells #[.int .i64 a1_0, .int .i64 a1_1] 38 (0, 0)) (by (with_reducible repeat (first | refine blk_drewN ?_ _ | refine blk_drew ?_ | refine blk_alloc ?_ _)); exact BK333.out) hb); have n2_ := Aside0.mk (below_step (by repeat (first | (with_reducible first | exact HB.out | apply below_alloc | apply pw_below_drewN | apply below_drew1 | refine below_set ?_ GE332.out | refine below_set ?_ GE333.out) | exact HB.out)) hb); clear BK332; clear BK333; clear HB; have BK332 := n0_; have BK333 := n1_; have HB := n2_; clear n0_ n1_ n2_; (try clear hb); (try clear hb2); (try clear hk); (try clear hi); have hcz27_0 : w26.cell? ⟨gb332, 0, none⟩ = some (.int .i64 a0_0) := (blk_cell BK332.out 0).trans rfl; have hcz27_1 : w26.cell? ⟨gb332, 1, none⟩ = some (.int .i64 a0_1) := (blk_cell BK332.out 1).trans rfl; have hcz27_2 : w26.cell? ⟨gb332, 2, none⟩ = some (.int .i64 a0_2) := (blk_cell BK332.out 2).trans rfl; have hcz27_3 : w26.cell? ⟨gb332, 3, none⟩ = some (.int .i64 a0_3) := (blk_cell BK332.out 3).trans rfl; have hfz27_0 := blk_frozen BK332.out 0; have hfz27_1 := blk_frozen BK332.out 1; have hfz27_2 := blk_frozen BK332.out 2; have hfz27_3 := blk_frozen BK332.out 3) | ((with_reducible refine gate_callee (f := 54) rfl ?_); refine goesL_ (some 21) rfl rfl Tryd.func54 (by kernel_rfl) rfl #[.agg #[.int .i64 a0_0, .int .i64 a0_1], .agg #[.int .i64 a0_2, .int .i64 a0_3]] rfl (by (try simp only [List.map_toArray, List.map_cons, List.map_nil]); first | done | rfl | (simp only [List.length_drop, List.length_take]; rfl)) ?_; (with_reducible refine (impl_between.calls a0_0 a0_1 a0_2 a0_3 t335 _ A11.out).mono ?_); rintro e w28 ⟨rfl, hb⟩; refine ⟨_, rfl, ?_⟩; have n0_ := Aside0.mk (blk_below (g := gb332) (o := .cells #[.int .i64 a0_0, .int .i64 a0_1, .int .i64 a0_2, .int .i64 a0_3] 40 (0, 0)) (by (with_reducible repeat (first | refine blk_drewN ?_ _ | refine blk_drew ?_ | refine blk_alloc ?_ _)); exact BK332.out) hb); have n1_ := Aside0.mk (blk_below (g := gb333) (o := .cells #[.int .i64 a1_0, .int .i64 a1_1] 38 (0, 0)) (by (with_reducible repeat (first | refine blk_drewN ?_ _ | refine blk_drew ?_ | refine blk_alloc ?_ _)); exact BK333.out) hb); have n2_ := Aside0.mk (below_step (by repeat (first | (with_reducible first | exact HB.out | apply below_alloc | apply pw_below_drewN | apply below_drew1 | refine below_set ?_ GE332.out | refine below_set ?_ GE333.out) | exact HB.out)) hb); clear BK332; clear BK333; clear HB; have BK332 := n0_; have BK333 := n1_; have HB := n2_; clear n0_ n1_ n2_; (try clear hb); (try clear hb2); (try clear hk); (try clear hi)))
      go_ret
      exact ⟨by first | rfl | (simp [errW_none, errW_some] <;> rfl) | (simp [*, errW_none, errW_some] <;> rfl), by repeat (first | (with_reducible first | exact HB.out | apply below_alloc | apply pw_below_drewN | apply below_drew1 | refine below_set ?_ GE332.out | refine below_set ?_ GE333.out) | exact HB.out)⟩
end Go.Proofs.YtnponnkcfgjeoaaDoor.X
end
section
set_option linter.unusedVariables false
set_option linter.unusedSimpArgs false
namespace Go.Proofs.YtnponnkcfgjeoaaDoor.X
open Go.RowKit Go.Proofs.YtnponnkcfgjeoaaDoorW.PrintWords Go.Proofs.YtnponnkcfgjeoaaDoorW.PrintLast Go.Proofs.YtnponnkcfgjeoaaDoorW.PrintMore
open Mort
theorem iPtOk (x y : Int) : impl_PtOk.f x y = some (ptOk (x, y)) := by
  unfold impl_PtOk.f ptOk
  by_cases h1 : 0 ≤ x <;> by_cases h2 : x ≤ 9 <;> by_cases h3 : 0 ≤ y <;> by_cases h4 : y ≤ 9 <;> simp [h1, h2, h3, h4]
theorem sPtOk (x y : Int) : spec_PtOk.f x y = some (ptOk (x, y)) := by
  unfold spec_PtOk.f ptOk
  simp only [l6In_told, Option.bind_some]
  by_cases h1 : 0 ≤ x <;> by_cases h2 : x ≤ 9 <;> by_cases h3 : 0 ≤ y <;> by_cases h4 : y ≤ 9 <;> simp [h1, h2, h3, h4]
theorem iSegOk (a b c d : Int) : impl_SegOk.f a b c d = some (segOk ((a, b), (c, d))) := by
  unfold impl_SegOk.f segOk
  simp only [iPtOk, Option.bind_some]
  cases ptOk (a, b) <;> cases ptOk (c, d) <;> simp [Bool.not_and]
theorem sSegOk (a b c d : Int) : spec_SegOk.f a b c d = some (segOk ((a, b), (c, d))) := by
  unfold spec_SegOk.f segOk
  simp only [sPtOk, Option.bind_some]
  cases ptOk (a, b) <;> cases ptOk (c, d) <;> simp [Bool.not_and]
section
variable {a b c d e f : Int} (h1 : ptOk (a, b) = true) (h2 : ptOk (c, d) = true) (h3 : ptOk (e, f) = true)
include h1 h2 h3
theorem cross_nowrap : wrap64 ((wrap64 ((wrap64 (c - a)) * (wrap64 (f - b)))) - (wrap64 ((wrap64 (d - b)) * (wrap64 (e - a))))) = cross (a, b) (c, d) (e, f) := by
  rw [ptOk_iff] at h1 h2 h3
  simp only at h1 h2 h3
  rw [w64 (x := c - a) (by omega) (by omega), w64 (x := f - b) (by omega) (by omega), w64 (x := d - b) (by omega) (by omega), w64 (x := e - a) (by omega) (by omega)]
  have b1 := mul_bound (x := c - a) (y := f - b) (by omega) (by omega) (by omega) (by omega)
  have b2 := mul_bound (x := d - b) (y := e - a) (by omega) (by omega) (by omega) (by omega)
  rw [w64 (x := (c - a) * (f - b)) (by omega) (by omega), w64 (x := (d - b) * (e - a)) (by omega) (by omega), w64 (by omega) (by omega)]
  rfl
theorem dot_nowrap : wrap64 ((wrap64 ((wrap64 (c - a)) * (wrap64 (e - a)))) + (wrap64 ((wrap64 (d - b)) * (wrap64 (f - b))))) = dot (a, b) (c, d) (e, f) := by
  rw [ptOk_iff] at h1 h2 h3
  simp only at h1 h2 h3
  rw [w64 (x := c - a) (by omega) (by omega), w64 (x := f - b) (by omega) (by omega), w64 (x := d - b) (by omega) (by omega), w64 (x := e - a) (by omega) (by omega)]
  have b1 := mul_bound (x := c - a) (y := e - a) (by omega) (by omega) (by omega) (by omega)
  have b2 := mul_bound (x := d - b) (y := f - b) (by omega) (by omega) (by omega) (by omega)
  rw [w64 (x := (c - a) * (e - a)) (by omega) (by omega), w64 (x := (d - b) * (f - b)) (by omega) (by omega), w64 (by omega) (by omega)]
  rfl
theorem iCross : impl_cross.f a b c d e f = some (cross (a, b) (c, d) (e, f)) := congrArg some (cross_nowrap h1 h2 h3)
theorem iAlong : impl_along.f a b c d e f = some (dot (a, b) (c, d) (e, f)) := congrArg some (dot_nowrap h1 h2 h3)
theorem sCross : spec_l2Cross.f a b c d e f = some (cross (a, b) (c, d) (e, f)) := congrArg some (cross_nowrap h1 h2 h3)
theorem sDot : spec_l2Dot.f a b c d e f = some (dot (a, b) (c, d) (e, f)) := congrArg some (dot_nowrap h1 h2 h3)
end
theorem iBetween {a b c d : Int} (h1 : ptOk (a, b) = true) (h2 : ptOk (c, d) = true) : impl_between.f a b c d = some (dot (a, b) (c, d) (c, d)) := by
  unfold impl_between.f
  rw [iAlong h1 h2 h2]; rfl
theorem segOk_ends {a b c d : Int} (h : segOk ((a, b), (c, d)) = true) : ptOk (a, b) = true ∧ ptOk (c, d) = true := ⟨((segOk_iff _).1 h).1, ((segOk_iff _).1 h).2.1⟩
theorem red_whole {n : Int} (h0 : 0 ≤ n) (h1 : n ≤ 99999) : red (n, 1) = (n, 1) := red_of_ok (fracOk_whole h0 h1)
theorem sL2Far {k : Nat} (hk : 100000 ≤ k) {a b c d e f : Int} (hs : segOk ((a, b), (c, d)) = true) (hp : ptOk (e, f) = true) :
    spec_l2Far.f k a b c d e f = some ((red (far ((a, b), (c, d)) (e, f))).1, (red (far ((a, b), (c, d)) (e, f))).2) := by
  obtain ⟨o1, o2⟩ := segOk_ends hs
  have hin := far_inR hs hp
  unfold spec_l2Far.f far at *
  simp only [sDot o1 o2 hp, sDot o1 o2 o2, sDot o1 hp hp, sDot o2 hp hp, sCross o1 o2 hp, Option.bind_some]
  by_cases z : dot (a, b) (c, d) (e, f) ≤ 0
  · rw [if_pos z, if_pos z, red_whole (dot_self_nn _ _) (by have := (dot_bound o1 hp hp).2; omega)]
  · rw [if_neg z, if_neg z]
    rw [if_neg z] at hin
    by_cases z' : dot (a, b) (c, d) (c, d) ≤ dot (a, b) (c, d) (e, f)
    · rw [if_pos z', if_pos z', red_whole (dot_self_nn _ _) (by have := (dot_bound o2 hp hp).2; omega)]
    · rw [if_neg z', if_neg z']
      rw [if_neg z'] at hin
      have hc := cross_bound o1 o2 hp
      have hq := sq_bound hc.1 hc.2
      have hq' := isq_nn (cross (a, b) (c, d) (e, f))
      rw [w64 (by omega) (by omega), l1Of_told hk hin]
      rfl
theorem sSegFar {k : Nat} (hk : 100000 ≤ k) (a b c d e f : Int) : spec_SegFar.f k a b c d e f = some ((segFar ((a, b), (c, d)) (e, f)).1, (segFar ((a, b), (c, d)) (e, f)).2) := by
  unfold spec_SegFar.f segFar
  simp only [sSegOk, sPtOk, Option.bind_some]
  cases hs : segOk ((a, b), (c, d)) with
  | false => simp
  | true =>
    cases hp : ptOk (e, f) with
    | false => simp
    | true => simp only [if_true, sL2Far hk hs hp, Option.bind_some, Bool.and_self]
theorem iFracOf {k : Nat} (hk : 100000 ≤ k) {n d : Int} (h : inR (n, d)) : impl_FracOf.f k n d = some ((red (n, d)).1, (red (n, d)).2, true) := by
  obtain ⟨a1, a2, a3, a4⟩ := h
  simp only at a1 a2 a3 a4
  have hg := gcd_pos (f := (n, d)) ⟨a1, a2, a3, a4⟩
  unfold impl_FracOf.f
  rw [if_neg (by omega), if_neg (by omega), if_neg (by omega), if_neg (by omega), gcd_told' a1 (by omega) (by omega)]
  simp only [Option.bind_some]
  simp only at hg
  rw [if_neg (by omega)]
  have e1 : Int.tdiv n (Int.gcd n d : Int) = n / (Int.gcd n d : Int) := Int.tdiv_eq_ediv_of_nonneg a1
  have e2 : Int.tdiv d (Int.gcd n d : Int) = d / (Int.gcd n d : Int) := Int.tdiv_eq_ediv_of_nonneg (by omega)
  have r := red_inR (f := (n, d)) ⟨a1, a2, a3, a4⟩
  obtain ⟨r1, r2, r3, r4⟩ := r
  unfold red at r1 r2 r3 r4 ⊢
  simp only at r1 r2 r3 r4 ⊢
  rw [e1, e2, w64 (by omega) (by omega), w64 (by omega) (by omega)]
theorem iFracOf1 {k : Nat} (hk : 100000 ≤ k) {n : Int} (h0 : 0 ≤ n) (h1 : n ≤ 99999) : impl_FracOf.f k n 1 = some (n, 1, true) := by
  rw [iFracOf hk (d := 1) ⟨h0, h1, Int.le_refl 1, by show (1 : Int) ≤ 99999; omega⟩, red_whole h0 h1]
theorem iStandOf {a b c d e f : Int} (hs : segOk ((a, b), (c, d)) = true) (hp : ptOk (e, f) = true) :
    impl_standOf.f a b c d e f = some (if dot (a, b) (c, d) (e, f) ≤ 0 then 0 else if dot (a, b) (c, d) (c, d) ≤ dot (a, b) (c, d) (e, f) then 2 else 1) := by
  obtain ⟨o1, o2⟩ := segOk_ends hs
  unfold impl_standOf.f
  simp only [iAlong o1 o2 hp, iBetween o1 o2, Option.bind_some]
  split
  · rfl
  · simp only [ge_iff_le]; split <;> rfl
end Go.Proofs.YtnponnkcfgjeoaaDoor.X
end
section
set_option linter.unusedVariables false
set_option linter.unusedSimpArgs false
namespace Go.Proofs.YtnponnkcfgjeoaaDoor.X
open Go.RowKit Go.Proofs.YtnponnkcfgjeoaaDoorW.PrintWords Go.Proofs.YtnponnkcfgjeoaaDoorW.PrintLast Go.Proofs.YtnponnkcfgjeoaaDoorW.PrintMore
open Mort
/-- a block of cells, known whole, some steps on -/
theorem blk_on {w w1 : World} {g : Nat} {o : Obj} (hb : Below w.heap.size w w1) (h : w.heap[g]? = some o) : w1.heap[g]? = some o := blk_below h hb
section
variable (bs bp : Nat) (a b c d e f : Int) (w : World) (k : Nat)
  (hs : w.heap[bs]? = some (.cells #[.int .i64 a, .int .i64 b, .int .i64 c, .int .i64 d] 40 (0, 0)))
  (hp : w.heap[bp]? = some (.cells #[.int .i64 e, .int .i64 f] 38 (0, 0)))
include hs hp
set_option maxHeartbeats 1000000 in
set_option maxRecDepth 100000 in
/-- behind the first end -/
theorem far1 {m n1 n2 : Int} (h1 : impl_between.f a b e f = some m) (h2 : impl_FracOf.f k m 1 = some (n1, n2, true)) :
    Calls Tryd.prog 53 #[.pointer (some ⟨bs, 0, none⟩), .pointer (some ⟨bp, 0, none⟩)] w fun x w' => x = .returned (.tuple #[.agg #[.int .i64 n1, .int .i64 n2], .bool true]) ∧ Below w.heap.size w w' := by
  have hB0 := below_alloc (Below.refl w.heap.size w) (.cells #[.int .i64 0, .int .i64 0] 25)
  have hs1 := blk_on hB0 hs
  have hp1 := blk_on hB0 hp
  have hn1 := heap_alloc_new w (.cells #[.int .i64 0, .int .i64 0] 25)
  have HB0 := Aside0.mk hB0
  have HN1 := Aside0.mk hn1
  have H1 := Aside0.mk h1
  have H2 := Aside0.mk h2
  have q0 : (w.alloc (.cells #[.int .i64 0, .int .i64 0] 25)).cell? ⟨bs, 0, none⟩ = some (.int .i64 a) := (blk_cell hs1 0).trans rfl
  have q1 : (w.alloc (.cells #[.int .i64 0, .int .i64 0] 25)).cell? ⟨bs, 1, none⟩ = some (.int .i64 b) := (blk_cell hs1 1).trans rfl
  have q2 : (w.alloc (.cells #[.int .i64 0, .int .i64 0] 25)).cell? ⟨bp, 0, none⟩ = some (.int .i64 e) := (blk_cell hp1 0).trans rfl
  have q3 : (w.alloc (.cells #[.int .i64 0, .int .i64 0] 25)).cell? ⟨bp, 1, none⟩ = some (.int .i64 f) := (blk_cell hp1 1).trans rfl
  have hu1 := Tryd.underlying40
  have hu2 := Tryd.underlying38
  have hu3 := Tryd.underlying25
  clear h1 h2 hs hp hs1 hp1 hn1 hB0
  go_enter Tryd.func53, Tryd.ntmps53
  go_wp2_with fail
  refine (impl_between.calls a b e f m _ H1.out).mono ?_
  rintro x w1 ⟨rfl, hb⟩
  have HB1 := Aside0.mk (below_step HB0.out hb)
  have HN2 := Aside0.mk (blk_on hb HN1.out)
  clear hb q0 q1 q2 q3 HN1
  go_wp2_with fail
  refine (impl_FracOf.calls k m 1 n1 n2 true _ H2.out).mono ?_
  rintro x w2 ⟨rfl, hb⟩
  have HB2 := Aside0.mk (below_step HB1.out hb)
  have HN3 := Aside0.mk (blk_on hb HN2.out)
  have q0 : w2.cell? ⟨w.heap.size, 0, none⟩ = some (.int .i64 0) := (blk_cell HN3.out 0).trans rfl
  have q1 : w2.cell? ⟨w.heap.size, 1, none⟩ = some (.int .i64 0) := (blk_cell HN3.out 1).trans rfl
  have q2 := blk_frozen HN3.out 0
  have q3 := blk_frozen HN3.out 1
  clear hb HN2
  go_wp2_with fail
  refine bodyPost_ret (results_ct rfl _ _ w.heap.size 25 #[.int .i64 n1, .int .i64 n2] (0, 0) _ rfl (by refine blk_put (cs := #[.int .i64 n1, .int .i64 0]) ?_ 1 _ rfl; refine blk_put (cs := #[.int .i64 0, .int .i64 0]) ?_ 0 _ rfl; exact HN3.out) Tryd.underlying25 rfl (by kernel_rfl)) rfl ?_
  exact ⟨rfl, by refine below_set ?_ (Nat.le_refl _); refine below_set ?_ (Nat.le_refl _); exact HB2.out⟩
set_option maxHeartbeats 1000000 in
set_option maxRecDepth 100000 in
/-- beside the segment -/
theorem far2 {t m n1 n2 : Int} (h0 : impl_cross.f a b c d e f = some t) (h1 : impl_between.f a b c d = some m) (h2 : impl_FracOf.f k (wrap64 (t * t)) m = some (n1, n2, true)) :
    Calls Tryd.prog 55 #[.pointer (some ⟨bs, 0, none⟩), .pointer (some ⟨bp, 0, none⟩)] w fun x w' => x = .returned (.tuple #[.agg #[.int .i64 n1, .int .i64 n2], .bool true]) ∧ Below w.heap.size w w' := by
  have hB0 := below_alloc (Below.refl w.heap.size w) (.cells #[.int .i64 0, .int .i64 0] 25)
  have hs1 := blk_on hB0 hs
  have hp1 := blk_on hB0 hp
  have hn1 := heap_alloc_new w (.cells #[.int .i64 0, .int .i64 0] 25)
  have HB0 := Aside0.mk hB0
  have HN1 := Aside0.mk hn1
  have HS := Aside0.mk hs
  have HP := Aside0.mk hp
  have H0 := Aside0.mk h0
  have H1 := Aside0.mk h1
  have H2 := Aside0.mk h2
  have q0 : (w.alloc (.cells #[.int .i64 0, .int .i64 0] 25)).cell? ⟨bs, 0, none⟩ = some (.int .i64 a) := (blk_cell hs1 0).trans rfl
  have q1 : (w.alloc (.cells #[.int .i64 0, .int .i64 0] 25)).cell? ⟨bs, 1, none⟩ = some (.int .i64 b) := (blk_cell hs1 1).trans rfl
  have q2 : (w.alloc (.cells #[.int .i64 0, .int .i64 0] 25)).cell? ⟨bs, 2, none⟩ = some (.int .i64 c) := (blk_cell hs1 2).trans rfl
  have q3 : (w.alloc (.cells #[.int .i64 0, .int .i64 0] 25)).cell? ⟨bs, 3, none⟩ = some (.int .i64 d) := (blk_cell hs1 3).trans rfl
  have q4 : (w.alloc (.cells #[.int .i64 0, .int .i64 0] 25)).cell? ⟨bp, 0, none⟩ = some (.int .i64 e) := (blk_cell hp1 0).trans rfl
  have q5 : (w.alloc (.cells #[.int .i64 0, .int .i64 0] 25)).cell? ⟨bp, 1, none⟩ = some (.int .i64 f) := (blk_cell hp1 1).trans rfl
  have hu1 := Tryd.underlying40
  have hu2 := Tryd.underlying38
  have hu3 := Tryd.underlying25
  clear h0 h1 h2 hs hp hs1 hp1 hn1 hB0
  go_enter Tryd.func55, Tryd.ntmps55
  go_wp2_with fail
  refine (impl_cross.calls a b c d e f t _ H0.out).mono ?_
  rintro x w1 ⟨rfl, hb⟩
  have HB1 := Aside0.mk (below_step HB0.out hb)
  have HN2 := Aside0.mk (blk_on hb HN1.out)
  have hs2 := blk_on HB1.out HS.out
  have hp2 := blk_on HB1.out HP.out
  clear hb q0 q1 q2 q3 q4 q5 HN1
  have q0 : w1.cell? ⟨bs, 0, none⟩ = some (.int .i64 a) := (blk_cell hs2 0).trans rfl
  have q1 : w1.cell? ⟨bs, 1, none⟩ = some (.int .i64 b) := (blk_cell hs2 1).trans rfl
  have q2 : w1.cell? ⟨bs, 2, none⟩ = some (.int .i64 c) := (blk_cell hs2 2).trans rfl
  have q3 : w1.cell? ⟨bs, 3, none⟩ = some (.int .i64 d) := (blk_cell hs2 3).trans rfl
  have q4 : w1.cell? ⟨bp, 0, none⟩ = some (.int .i64 e) := (blk_cell hp2 0).trans rfl
  have q5 : w1.cell? ⟨bp, 1, none⟩ = some (.int .i64 f) := (blk_cell hp2 1).trans rfl
  clear hs2 hp2
  go_wp2_with fail
  refine (impl_between.calls a b c d m _ H1.out).mono ?_
  rintro x w2 ⟨rfl, hb⟩
  have HB2 := Aside0.mk (below_step HB1.out hb)
  have HN3 := Aside0.mk (blk_on hb HN2.out)
  clear hb q0 q1 q2 q3 q4 q5 HN2
  go_wp2_with fail
  refine (impl_FracOf.calls k (wrap64 (t * t)) m n1 n2 true _ H2.out).mono ?_
  rintro x w3 ⟨rfl, hb⟩
  have HB3 := Aside0.mk (below_step HB2.out hb)
  have HN4 := Aside0.mk (blk_on hb HN3.out)
  have q0 : w3.cell? ⟨w.heap.size, 0, none⟩ = some (.int .i64 0) := (blk_cell HN4.out 0).trans rfl
  have q1 : w3.cell? ⟨w.heap.size, 1, none⟩ = some (.int .i64 0) := (blk_cell HN4.out 1).trans rfl
  have q2 := blk_frozen HN4.out 0
  have q3 := blk_frozen HN4.out 1
  clear hb HN3
  go_wp2_with fail
  refine bodyPost_ret (results_ct rfl _ _ w.heap.size 25 #[.int .i64 n1, .int .i64 n2] (0, 0) _ rfl (by refine blk_put (cs := #[.int .i64 n1, .int .i64 0]) ?_ 1 _ rfl; refine blk_put (cs := #[.int .i64 0, .int .i64 0]) ?_ 0 _ rfl; exact HN4.out) Tryd.underlying25 rfl (by kernel_rfl)) rfl ?_
  exact ⟨rfl, by refine below_set ?_ (Nat.le_refl _); refine below_set ?_ (Nat.le_refl _); exact HB3.out⟩
set_option maxHeartbeats 1000000 in
set_option maxRecDepth 100000 in
/-- past the other end -/
theorem far3 {m n1 n2 : Int} (h1 : impl_between.f c d e f = some m) (h2 : impl_FracOf.f k m 1 = some (n1, n2, true)) :
    Calls Tryd.prog 57 #[.pointer (some ⟨bs, 0, none⟩), .pointer (some ⟨bp, 0, none⟩)] w fun x w' => x = .returned (.tuple #[.agg #[.int .i64 n1, .int .i64 n2], .bool true]) ∧ Below w.heap.size w w' := by
  have hB0 := below_alloc (Below.refl w.heap.size w) (.cells #[.int .i64 0, .int .i64 0] 25)
  have hs1 := blk_on hB0 hs
  have hp1 := blk_on hB0 hp
  have hn1 := heap_alloc_new w (.cells #[.int .i64 0, .int .i64 0] 25)
  have HB0 := Aside0.mk hB0
  have HN1 := Aside0.mk hn1
  have H1 := Aside0.mk h1
  have H2 := Aside0.mk h2
  have q0 : (w.alloc (.cells #[.int .i64 0, .int .i64 0] 25)).cell? ⟨bs, 2, none⟩ = some (.int .i64 c) := (blk_cell hs1 2).trans rfl
  have q1 : (w.alloc (.cells #[.int .i64 0, .int .i64 0] 25)).cell? ⟨bs, 3, none⟩ = some (.int .i64 d) := (blk_cell hs1 3).trans rfl
  have q2 : (w.alloc (.cells #[.int .i64 0, .int .i64 0] 25)).cell? ⟨bp, 0, none⟩ = some (.int .i64 e) := (blk_cell hp1 0).trans rfl
  have q3 : (w.alloc (.cells #[.int .i64 0, .int .i64 0] 25)).cell? ⟨bp, 1, none⟩ = some (.int .i64 f) := (blk_cell hp1 1).trans rfl
  have hu1 := Tryd.underlying40
  have hu2 := Tryd.underlying38
  have hu3 := Tryd.underlying25
  clear h1 h2 hs hp hs1 hp1 hn1 hB0
  go_enter Tryd.func57, Tryd.ntmps57
  go_wp2_with fail
  refine (impl_between.calls c d e f m _ H1.out).mono ?_
  rintro x w1 ⟨rfl, hb⟩
  have HB1 := Aside0.mk (below_step HB0.out hb)
  have HN2 := Aside0.mk (blk_on hb HN1.out)
  clear hb q0 q1 q2 q3 HN1
  go_wp2_with fail
  refine (impl_FracOf.calls k m 1 n1 n2 true _ H2.out).mono ?_
  rintro x w2 ⟨rfl, hb⟩
  have HB2 := Aside0.mk (below_step HB1.out hb)
  have HN3 := Aside0.mk (blk_on hb HN2.out)
  have q0 : w2.cell? ⟨w.heap.size, 0, none⟩ = some (.int .i64 0) := (blk_cell HN3.out 0).trans rfl
  have q1 : w2.cell? ⟨w.heap.size, 1, none⟩ = some (.int .i64 0) := (blk_cell HN3.out 1).trans rfl
  have q2 := blk_frozen HN3.out 0
  have q3 := blk_frozen HN3.out 1
  clear hb HN2
  go_wp2_with fail
  refine bodyPost_ret (results_ct rfl _ _ w.heap.size 25 #[.int .i64 n1, .int .i64 n2] (0, 0) _ rfl (by refine blk_put (cs := #[.int .i64 n1, .int .i64 0]) ?_ 1 _ rfl; refine blk_put (cs := #[.int .i64 0, .int .i64 0]) ?_ 0 _ rfl; exact HN3.out) Tryd.underlying25 rfl (by kernel_rfl)) rfl ?_
  exact ⟨rfl, by refine below_set ?_ (Nat.le_refl _); refine below_set ?_ (Nat.le_refl _); exact HB2.out⟩
end
theorem boxes3 (w : World) (o1 o2 o3 : Obj) : Below w.heap.size w (((w.alloc o1).alloc o2).alloc o3) ∧ (((w.alloc o1).alloc o2).alloc o3).heap[w.heap.size]? = some o1 ∧
    (((w.alloc o1).alloc o2).alloc o3).heap[w.heap.size + 1]? = some o2 ∧ (((w.alloc o1).alloc o2).alloc o3).heap[w.heap.size + 1 + 1]? = some o3 := by
  have e1 : (w.alloc o1).heap.size = w.heap.size + 1 := Array.size_push _
  have e2 : ((w.alloc o1).alloc o2).heap.size = w.heap.size + 1 + 1 := (Array.size_push (xs := (w.alloc o1).heap) _).trans (congrArg (· + 1) e1)
  refine ⟨below_alloc (below_alloc (below_alloc (Below.refl _ _) _) _) _, ?_, ?_, ?_⟩
  · exact blk_alloc (blk_alloc (heap_alloc_new w o1) _) _
  · rw [← e1]; exact blk_alloc (heap_alloc_new _ o2) _
  · rw [← e2]; exact heap_alloc_new _ o3
@[local go_sem] theorem run_store_fn (P : Program) (w : World) (a : Addr) (m : Mode) (fn : Fn) (first captured : Array Value) : (store a (.func fn first captured) m).run P w = stored P w a (.func fn first captured) m := run_store P w a _ m rfl
@[local go_sem] theorem run_store_nofn (P : Program) (w : World) (a : Addr) (m : Mode) : (store a .nilFunc m).run P w = stored P w a .nilFunc m := run_store P w a _ m rfl
section
variable (a b c d e f : Int) (w : World)
set_option maxHeartbeats 1000000 in
set_option maxRecDepth 100000 in
theorem segFar_bad1 (h : impl_SegOk.f a b c d = some false) :
    Calls Tryd.prog 24 #[.agg #[.int .i64 a, .int .i64 b, .int .i64 c, .int .i64 d], .agg #[.int .i64 e, .int .i64 f]] w fun x w' => x = .returned (.agg #[.int .i64 0, .int .i64 0]) ∧ Below w.heap.size w w' := by
  have hu1 := Tryd.underlying40
  have hu2 := Tryd.underlying38
  have hu3 := Tryd.underlying25
  have HB := Aside0.mk (boxes3 w (.cells #[.int .i64 a, .int .i64 b, .int .i64 c, .int .i64 d] 40) (.cells #[.int .i64 e, .int .i64 f] 38) (.cells #[.int .i64 0, .int .i64 0] 25))
  have H := Aside0.mk h
  clear h
  go_enter Tryd.func24, Tryd.ntmps24
  go_wp2_with fail
  refine (impl_SegOk.calls a b c d false _ H.out).mono ?_
  rintro x w1 ⟨rfl, hb⟩
  have HS := Aside0.mk (blk_on hb HB.out.2.1)
  have HP := Aside0.mk (blk_on hb HB.out.2.2.1)
  have HR := Aside0.mk (blk_on hb HB.out.2.2.2)
  have HB1 := Aside0.mk (below_step HB.out.1 hb)
  clear hb
  have q0 : w1.cell? ⟨w.heap.size + 1 + 1, 0, none⟩ = some (.int .i64 0) := (blk_cell HR.out 0).trans rfl
  have q1 : w1.cell? ⟨w.heap.size + 1 + 1, 1, none⟩ = some (.int .i64 0) := (blk_cell HR.out 1).trans rfl
  have q2 := blk_frozen HR.out 0
  have q3 := blk_frozen HR.out 1
  go_wp2_with fail
  refine bodyPost_ret (results_cell_row rfl _ _ (w.heap.size + 1 + 1) 25 #[.int .i64 0, .int .i64 0] (0, 0) _ rfl (by refine blk_put (cs := #[.int .i64 0, .int .i64 0]) ?_ 1 _ rfl; refine blk_put (cs := #[.int .i64 0, .int .i64 0]) ?_ 0 _ rfl; exact HR.out) Tryd.underlying25 rfl (by kernel_rfl)) rfl ?_
  exact ⟨rfl, by refine below_set ?_ (by omega); refine below_set ?_ (by omega); exact HB1.out⟩
set_option maxHeartbeats 1000000 in
set_option maxRecDepth 100000 in
theorem segFar_bad2 (h : impl_SegOk.f a b c d = some true) (h' : impl_PtOk.f e f = some false) :
    Calls Tryd.prog 24 #[.agg #[.int .i64 a, .int .i64 b, .int .i64 c, .int .i64 d], .agg #[.int .i64 e, .int .i64 f]] w fun x w' => x = .returned (.agg #[.int .i64 0, .int .i64 0]) ∧ Below w.heap.size w w' := by
  have hu1 := Tryd.underlying40
  have hu2 := Tryd.underlying38
  have hu3 := Tryd.underlying25
  have HB := Aside0.mk (boxes3 w (.cells #[.int .i64 a, .int .i64 b, .int .i64 c, .int .i64 d] 40) (.cells #[.int .i64 e, .int .i64 f] 38) (.cells #[.int .i64 0, .int .i64 0] 25))
  have H := Aside0.mk h
  have H' := Aside0.mk h'
  clear h h'
  go_enter Tryd.func24, Tryd.ntmps24
  go_wp2_with fail
  refine (impl_SegOk.calls a b c d true _ H.out).mono ?_
  rintro x w1 ⟨rfl, hb⟩
  have HS := Aside0.mk (blk_on hb HB.out.2.1)
  have HP := Aside0.mk (blk_on hb HB.out.2.2.1)
  have HR := Aside0.mk (blk_on hb HB.out.2.2.2)
  have HB1 := Aside0.mk (below_step HB.out.1 hb)
  clear hb
  have q0 : w1.cell? ⟨w.heap.size + 1, 0, none⟩ = some (.int .i64 e) := (blk_cell HP.out 0).trans rfl
  have q1 : w1.cell? ⟨w.heap.size + 1, 1, none⟩ = some (.int .i64 f) := (blk_cell HP.out 1).trans rfl
  go_wp2_with fail
  refine (impl_PtOk.calls e f false _ H'.out).mono ?_
  rintro x w2 ⟨rfl, hb⟩
  have HS2 := Aside0.mk (blk_on hb HS.out)
  have HP2 := Aside0.mk (blk_on hb HP.out)
  have HR2 := Aside0.mk (blk_on hb HR.out)
  have HB2 := Aside0.mk (below_step HB1.out hb)
  clear hb q0 q1
  have q0 : w2.cell? ⟨w.heap.size + 1 + 1, 0, none⟩ = some (.int .i64 0) := (blk_cell HR2.out 0).trans rfl
  have q1 : w2.cell? ⟨w.heap.size + 1 + 1, 1, none⟩ = some (.int .i64 0) := (blk_cell HR2.out 1).trans rfl
  have q2 := blk_frozen HR2.out 0
  have q3 := blk_frozen HR2.out 1
  go_wp2_with fail
  refine bodyPost_ret (results_cell_row rfl _ _ (w.heap.size + 1 + 1) 25 #[.int .i64 0, .int .i64 0] (0, 0) _ rfl (by refine blk_put (cs := #[.int .i64 0, .int .i64 0]) ?_ 1 _ rfl; refine blk_put (cs := #[.int .i64 0, .int .i64 0]) ?_ 0 _ rfl; exact HR2.out) Tryd.underlying25 rfl (by kernel_rfl)) rfl ?_
  exact ⟨rfl, by refine below_set ?_ (by omega); refine below_set ?_ (by omega); exact HB2.out⟩
set_option maxHeartbeats 1000000 in
set_option maxRecDepth 100000 in
theorem segFar_way1 (k : Nat) {m t n1 n2 : Int} (h : impl_SegOk.f a b c d = some true) (h' : impl_PtOk.f e f = some true) (h2 : impl_standOf.f a b c d e f = some 0) (hw : impl_between.f a b e f = some m) (hf : impl_FracOf.f k m 1 = some (n1, n2, true)) :
    Calls Tryd.prog 24 #[.agg #[.int .i64 a, .int .i64 b, .int .i64 c, .int .i64 d], .agg #[.int .i64 e, .int .i64 f]] w fun x w' => x = .returned (.agg #[.int .i64 n1, .int .i64 n2]) ∧ Below w.heap.size w w' := by
  have hu1 := Tryd.underlying40
  have hu2 := Tryd.underlying38
  have hu3 := Tryd.underlying25
  have HB := Aside0.mk (boxes3 w (.cells #[.int .i64 a, .int .i64 b, .int .i64 c, .int .i64 d] 40) (.cells #[.int .i64 e, .int .i64 f] 38) (.cells #[.int .i64 0, .int .i64 0] 25))
  have H := Aside0.mk h
  have H' := Aside0.mk h'
  have H2 := Aside0.mk h2
  have HW := Aside0.mk hw
  have HF := Aside0.mk hf
  clear h h' h2 hw hf
  go_enter Tryd.func24, Tryd.ntmps24
  go_wp2_with fail
  refine (impl_SegOk.calls a b c d true _ H.out).mono ?_
  rintro x w1 ⟨rfl, hb⟩
  have HS := Aside0.mk (blk_on hb HB.out.2.1)
  have HP := Aside0.mk (blk_on hb HB.out.2.2.1)
  have HR := Aside0.mk (blk_on hb HB.out.2.2.2)
  have HB1 := Aside0.mk (below_step HB.out.1 hb)
  clear hb
  have q0 : w1.cell? ⟨w.heap.size + 1, 0, none⟩ = some (.int .i64 e) := (blk_cell HP.out 0).trans rfl
  have q1 : w1.cell? ⟨w.heap.size + 1, 1, none⟩ = some (.int .i64 f) := (blk_cell HP.out 1).trans rfl
  go_wp2_with fail
  refine (impl_PtOk.calls e f true _ H'.out).mono ?_
  rintro x w2 ⟨rfl, hb⟩
  have HS2 := Aside0.mk (blk_on hb HS.out)
  have HP2 := Aside0.mk (blk_on hb HP.out)
  have HR2 := Aside0.mk (blk_on hb HR.out)
  have HB2 := Aside0.mk (below_step HB1.out hb)
  clear hb q0 q1
  have q0 : ∀ o, (w2.alloc o).cell? ⟨w.heap.size, 0, none⟩ = some (.int .i64 a) := fun o => (blk_cell (blk_alloc HS2.out o) 0).trans rfl
  have q1 : ∀ o, (w2.alloc o).cell? ⟨w.heap.size, 1, none⟩ = some (.int .i64 b) := fun o => (blk_cell (blk_alloc HS2.out o) 1).trans rfl
  have q2 : ∀ o, (w2.alloc o).cell? ⟨w.heap.size, 2, none⟩ = some (.int .i64 c) := fun o => (blk_cell (blk_alloc HS2.out o) 2).trans rfl
  have q3 : ∀ o, (w2.alloc o).cell? ⟨w.heap.size, 3, none⟩ = some (.int .i64 d) := fun o => (blk_cell (blk_alloc HS2.out o) 3).trans rfl
  have q4 : ∀ o, (w2.alloc o).cell? ⟨w.heap.size + 1, 0, none⟩ = some (.int .i64 e) := fun o => (blk_cell (blk_alloc HP2.out o) 0).trans rfl
  have q5 : ∀ o, (w2.alloc o).cell? ⟨w.heap.size + 1, 1, none⟩ = some (.int .i64 f) := fun o => (blk_cell (blk_alloc HP2.out o) 1).trans rfl
  have HQ := Aside0.mk (heap_alloc_new w2 (.cells #[.nilFunc, .nilFunc, .nilFunc] 80))
  have r0 : (w2.alloc (.cells #[.nilFunc, .nilFunc, .nilFunc] 80)).cell? ⟨w2.heap.size, 0, none⟩ = some .nilFunc := (blk_cell HQ.out 0).trans rfl
  have s0 := blk_frozen HQ.out 0
  have r1 : (w2.alloc (.cells #[.nilFunc, .nilFunc, .nilFunc] 80)).cell? ⟨w2.heap.size, 1, none⟩ = some .nilFunc := (blk_cell HQ.out 1).trans rfl
  have s1 := blk_frozen HQ.out 1
  have r2 : (w2.alloc (.cells #[.nilFunc, .nilFunc, .nilFunc] 80)).cell? ⟨w2.heap.size, 2, none⟩ = some .nilFunc := (blk_cell HQ.out 2).trans rfl
  have s2 := blk_frozen HQ.out 2
  go_wp2_with fail
  refine (impl_standOf.calls a b c d e f 0 _ H2.out).mono ?_
  rintro x w3 ⟨rfl, hb⟩
  have HK := Aside0.mk (blk_on hb (heap_alloc_new w2 (.cells #[.func (.func 53) #[] #[.pointer (some ⟨w.heap.size, 0, none⟩), .pointer (some ⟨w.heap.size + 1, 0, none⟩)], .func (.func 55) #[] #[.pointer (some ⟨w.heap.size, 0, none⟩), .pointer (some ⟨w.heap.size + 1, 0, none⟩)], .func (.func 57) #[] #[.pointer (some ⟨w.heap.size, 0, none⟩), .pointer (some ⟨w.heap.size + 1, 0, none⟩)]] 80)))
  have HS3 := Aside0.mk (blk_on hb (blk_alloc HS2.out (.cells #[.func (.func 53) #[] #[.pointer (some ⟨w.heap.size, 0, none⟩), .pointer (some ⟨w.heap.size + 1, 0, none⟩)], .func (.func 55) #[] #[.pointer (some ⟨w.heap.size, 0, none⟩), .pointer (some ⟨w.heap.size + 1, 0, none⟩)], .func (.func 57) #[] #[.pointer (some ⟨w.heap.size, 0, none⟩), .pointer (some ⟨w.heap.size + 1, 0, none⟩)]] 80)))
  have HP3 := Aside0.mk (blk_on hb (blk_alloc HP2.out (.cells #[.func (.func 53) #[] #[.pointer (some ⟨w.heap.size, 0, none⟩), .pointer (some ⟨w.heap.size + 1, 0, none⟩)], .func (.func 55) #[] #[.pointer (some ⟨w.heap.size, 0, none⟩), .pointer (some ⟨w.heap.size + 1, 0, none⟩)], .func (.func 57) #[] #[.pointer (some ⟨w.heap.size, 0, none⟩), .pointer (some ⟨w.heap.size + 1, 0, none⟩)]] 80)))
  have HR3 := Aside0.mk (blk_on hb (blk_alloc HR2.out (.cells #[.func (.func 53) #[] #[.pointer (some ⟨w.heap.size, 0, none⟩), .pointer (some ⟨w.heap.size + 1, 0, none⟩)], .func (.func 55) #[] #[.pointer (some ⟨w.heap.size, 0, none⟩), .pointer (some ⟨w.heap.size + 1, 0, none⟩)], .func (.func 57) #[] #[.pointer (some ⟨w.heap.size, 0, none⟩), .pointer (some ⟨w.heap.size + 1, 0, none⟩)]] 80)))
  have HB3 := Aside0.mk (below_step (below_alloc HB2.out (.cells #[.func (.func 53) #[] #[.pointer (some ⟨w.heap.size, 0, none⟩), .pointer (some ⟨w.heap.size + 1, 0, none⟩)], .func (.func 55) #[] #[.pointer (some ⟨w.heap.size, 0, none⟩), .pointer (some ⟨w.heap.size + 1, 0, none⟩)], .func (.func 57) #[] #[.pointer (some ⟨w.heap.size, 0, none⟩), .pointer (some ⟨w.heap.size + 1, 0, none⟩)]] 80)) hb)
  clear hb q0 q1 q2 q3 q4 q5 r0 r1 r2 s0 s1 s2 HQ
  have q0 : w3.cell? ⟨w2.heap.size, 0, none⟩ = some (.func (.func 53) #[] #[.pointer (some ⟨w.heap.size, 0, none⟩), .pointer (some ⟨w.heap.size + 1, 0, none⟩)]) := (blk_cell HK.out 0).trans rfl
  go_wp2_with fail
  refine (far1 w.heap.size (w.heap.size + 1) a b c d e f w3 k HS3.out HP3.out HW.out HF.out).mono ?_
  rintro x w4 ⟨rfl, hb⟩
  have HR4 := Aside0.mk (blk_on hb HR3.out)
  have HB4 := Aside0.mk (below_step HB3.out hb)
  clear hb q0
  have HN := Aside0.mk (heap_alloc_new w4 (.cells #[.int .i64 0, .int .i64 0] 25))
  have u0 : (w4.alloc (.cells #[.int .i64 0, .int .i64 0] 25)).cell? ⟨w4.heap.size, 0, none⟩ = some (.int .i64 0) := (blk_cell HN.out 0).trans rfl
  have u1 : (w4.alloc (.cells #[.int .i64 0, .int .i64 0] 25)).cell? ⟨w4.heap.size, 1, none⟩ = some (.int .i64 0) := (blk_cell HN.out 1).trans rfl
  have u2 := blk_frozen HN.out 0
  have u3 := blk_frozen HN.out 1
  have q0 : ∀ o, (w4.alloc o).cell? ⟨w.heap.size + 1 + 1, 0, none⟩ = some (.int .i64 0) := fun o => (blk_cell (blk_alloc HR4.out o) 0).trans rfl
  have q1 : ∀ o, (w4.alloc o).cell? ⟨w.heap.size + 1 + 1, 1, none⟩ = some (.int .i64 0) := fun o => (blk_cell (blk_alloc HR4.out o) 1).trans rfl
  have q2 := fun o => blk_frozen (blk_alloc HR4.out o) 0
  have q3 := fun o => blk_frozen (blk_alloc HR4.out o) 1
  go_wp2_with fail
  refine bodyPost_ret (results_cell_row rfl _ _ (w.heap.size + 1 + 1) 25 #[.int .i64 n1, .int .i64 n2] (0, 0) _ rfl (by refine blk_put (cs := #[.int .i64 n1, .int .i64 0]) ?_ 1 _ rfl; refine blk_put (cs := #[.int .i64 0, .int .i64 0]) ?_ 0 _ rfl; exact blk_alloc HR4.out _) Tryd.underlying25 rfl (by kernel_rfl)) rfl ?_
  exact ⟨rfl, by refine below_set ?_ (by omega); refine below_set ?_ (by omega); exact below_alloc HB4.out _⟩
set_option maxHeartbeats 1000000 in
set_option maxRecDepth 100000 in
theorem segFar_way2 (k : Nat) {m t n1 n2 : Int} (h : impl_SegOk.f a b c d = some true) (h' : impl_PtOk.f e f = some true) (h2 : impl_standOf.f a b c d e f = some 1) (hv : impl_cross.f a b c d e f = some t) (hw : impl_between.f a b c d = some m) (hf : impl_FracOf.f k (wrap64 (t * t)) m = some (n1, n2, true)) :
    Calls Tryd.prog 24 #[.agg #[.int .i64 a, .int .i64 b, .int .i64 c, .int .i64 d], .agg #[.int .i64 e, .int .i64 f]] w fun x w' => x = .returned (.agg #[.int .i64 n1, .int .i64 n2]) ∧ Below w.heap.size w w' := by
  have hu1 := Tryd.underlying40
  have hu2 := Tryd.underlying38
  have hu3 := Tryd.underlying25
  have HB := Aside0.mk (boxes3 w (.cells #[.int .i64 a, .int .i64 b, .int .i64 c, .int .i64 d] 40) (.cells #[.int .i64 e, .int .i64 f] 38) (.cells #[.int .i64 0, .int .i64 0] 25))
  have H := Aside0.mk h
  have H' := Aside0.mk h'
  have H2 := Aside0.mk h2
  have HW := Aside0.mk hw
  have HF := Aside0.mk hf
  clear h h' h2 hw hf
  have HV := Aside0.mk hv
  clear hv
  go_enter Tryd.func24, Tryd.ntmps24
  go_wp2_with fail
  refine (impl_SegOk.calls a b c d true _ H.out).mono ?_
  rintro x w1 ⟨rfl, hb⟩
  have HS := Aside0.mk (blk_on hb HB.out.2.1)
  have HP := Aside0.mk (blk_on hb HB.out.2.2.1)
  have HR := Aside0.mk (blk_on hb HB.out.2.2.2)
  have HB1 := Aside0.mk (below_step HB.out.1 hb)
  clear hb
  have q0 : w1.cell? ⟨w.heap.size + 1, 0, none⟩ = some (.int .i64 e) := (blk_cell HP.out 0).trans rfl
  have q1 : w1.cell? ⟨w.heap.size + 1, 1, none⟩ = some (.int .i64 f) := (blk_cell HP.out 1).trans rfl
  go_wp2_with fail
  refine (impl_PtOk.calls e f true _ H'.out).mono ?_
  rintro x w2 ⟨rfl, hb⟩
  have HS2 := Aside0.mk (blk_on hb HS.out)
  have HP2 := Aside0.mk (blk_on hb HP.out)
  have HR2 := Aside0.mk (blk_on hb HR.out)
  have HB2 := Aside0.mk (below_step HB1.out hb)
  clear hb q0 q1
  have q0 : ∀ o, (w2.alloc o).cell? ⟨w.heap.size, 0, none⟩ = some (.int .i64 a) := fun o => (blk_cell (blk_alloc HS2.out o) 0).trans rfl
  have q1 : ∀ o, (w2.alloc o).cell? ⟨w.heap.size, 1, none⟩ = some (.int .i64 b) := fun o => (blk_cell (blk_alloc HS2.out o) 1).trans rfl
  have q2 : ∀ o, (w2.alloc o).cell? ⟨w.heap.size, 2, none⟩ = some (.int .i64 c) := fun o => (blk_cell (blk_alloc HS2.out o) 2).trans rfl
  have q3 : ∀ o, (w2.alloc o).cell? ⟨w.heap.size, 3, none⟩ = some (.int .i64 d) := fun o => (blk_cell (blk_alloc HS2.out o) 3).trans rfl
  have q4 : ∀ o, (w2.alloc o).cell? ⟨w.heap.size + 1, 0, none⟩ = some (.int .i64 e) := fun o => (blk_cell (blk_alloc HP2.out o) 0).trans rfl
  have q5 : ∀ o, (w2.alloc o).cell? ⟨w.heap.size + 1, 1, none⟩ = some (.int .i64 f) := fun o => (blk_cell (blk_alloc HP2.out o) 1).trans rfl
  have HQ := Aside0.mk (heap_alloc_new w2 (.cells #[.nilFunc, .nilFunc, .nilFunc] 80))
  have r0 : (w2.alloc (.cells #[.nilFunc, .nilFunc, .nilFunc] 80)).cell? ⟨w2.heap.size, 0, none⟩ = some .nilFunc := (blk_cell HQ.out 0).trans rfl
  have s0 := blk_frozen HQ.out 0
  have r1 : (w2.alloc (.cells #[.nilFunc, .nilFunc, .nilFunc] 80)).cell? ⟨w2.heap.size, 1, none⟩ = some .nilFunc := (blk_cell HQ.out 1).trans rfl
  have s1 := blk_frozen HQ.out 1
  have r2 : (w2.alloc (.cells #[.nilFunc, .nilFunc, .nilFunc] 80)).cell? ⟨w2.heap.size, 2, none⟩ = some .nilFunc := (blk_cell HQ.out 2).trans rfl
  have s2 := blk_frozen HQ.out 2
  go_wp2_with fail
  refine (impl_standOf.calls a b c d e f 1 _ H2.out).mono ?_
  rintro x w3 ⟨rfl, hb⟩
  have HK := Aside0.mk (blk_on hb (heap_alloc_new w2 (.cells #[.func (.func 53) #[] #[.pointer (some ⟨w.heap.size, 0, none⟩), .pointer (some ⟨w.heap.size + 1, 0, none⟩)], .func (.func 55) #[] #[.pointer (some ⟨w.heap.size, 0, none⟩), .pointer (some ⟨w.heap.size + 1, 0, none⟩)], .func (.func 57) #[] #[.pointer (some ⟨w.heap.size, 0, none⟩), .pointer (some ⟨w.heap.size + 1, 0, none⟩)]] 80)))
  have HS3 := Aside0.mk (blk_on hb (blk_alloc HS2.out (.cells #[.func (.func 53) #[] #[.pointer (some ⟨w.heap.size, 0, none⟩), .pointer (some ⟨w.heap.size + 1, 0, none⟩)], .func (.func 55) #[] #[.pointer (some ⟨w.heap.size, 0, none⟩), .pointer (some ⟨w.heap.size + 1, 0, none⟩)], .func (.func 57) #[] #[.pointer (some ⟨w.heap.size, 0, none⟩), .pointer (some ⟨w.heap.size + 1, 0, none⟩)]] 80)))
  have HP3 := Aside0.mk (blk_on hb (blk_alloc HP2.out (.cells #[.func (.func 53) #[] #[.pointer (some ⟨w.heap.size, 0, none⟩), .pointer (some ⟨w.heap.size + 1, 0, none⟩)], .func (.func 55) #[] #[.pointer (some ⟨w.heap.size, 0, none⟩), .pointer (some ⟨w.heap.size + 1, 0, none⟩)], .func (.func 57) #[] #[.pointer (some ⟨w.heap.size, 0, none⟩), .pointer (some ⟨w.heap.size + 1, 0, none⟩)]] 80)))
  have HR3 := Aside0.mk (blk_on hb (blk_alloc HR2.out (.cells #[.func (.func 53) #[] #[.pointer (some ⟨w.heap.size, 0, none⟩), .pointer (some ⟨w.heap.size + 1, 0, none⟩)], .func (.func 55) #[] #[.pointer (some ⟨w.heap.size, 0, none⟩), .pointer (some ⟨w.heap.size + 1, 0, none⟩)], .func (.func 57) #[] #[.pointer (some ⟨w.heap.size, 0, none⟩), .pointer (some ⟨w.heap.size + 1, 0, none⟩)]] 80)))
  have HB3 := Aside0.mk (below_step (below_alloc HB2.out (.cells #[.func (.func 53) #[] #[.pointer (some ⟨w.heap.size, 0, none⟩), .pointer (some ⟨w.heap.size + 1, 0, none⟩)], .func (.func 55) #[] #[.pointer (some ⟨w.heap.size, 0, none⟩), .pointer (some ⟨w.heap.size + 1, 0, none⟩)], .func (.func 57) #[] #[.pointer (some ⟨w.heap.size, 0, none⟩), .pointer (some ⟨w.heap.size + 1, 0, none⟩)]] 80)) hb)
  clear hb q0 q1 q2 q3 q4 q5 r0 r1 r2 s0 s1 s2 HQ
  have q0 : w3.cell? ⟨w2.heap.size, 1, none⟩ = some (.func (.func 55) #[] #[.pointer (some ⟨w.heap.size, 0, none⟩), .pointer (some ⟨w.heap.size + 1, 0, none⟩)]) := (blk_cell HK.out 1).trans rfl
  go_wp2_with fail
  refine (far2 w.heap.size (w.heap.size + 1) a b c d e f w3 k HS3.out HP3.out HV.out HW.out HF.out).mono ?_
  rintro x w4 ⟨rfl, hb⟩
  have HR4 := Aside0.mk (blk_on hb HR3.out)
  have HB4 := Aside0.mk (below_step HB3.out hb)
  clear hb q0
  have HN := Aside0.mk (heap_alloc_new w4 (.cells #[.int .i64 0, .int .i64 0] 25))
  have u0 : (w4.alloc (.cells #[.int .i64 0, .int .i64 0] 25)).cell? ⟨w4.heap.size, 0, none⟩ = some (.int .i64 0) := (blk_cell HN.out 0).trans rfl
  have u1 : (w4.alloc (.cells #[.int .i64 0, .int .i64 0] 25)).cell? ⟨w4.heap.size, 1, none⟩ = some (.int .i64 0) := (blk_cell HN.out 1).trans rfl
  have u2 := blk_frozen HN.out 0
  have u3 := blk_frozen HN.out 1
  have q0 : ∀ o, (w4.alloc o).cell? ⟨w.heap.size + 1 + 1, 0, none⟩ = some (.int .i64 0) := fun o => (blk_cell (blk_alloc HR4.out o) 0).trans rfl
  have q1 : ∀ o, (w4.alloc o).cell? ⟨w.heap.size + 1 + 1, 1, none⟩ = some (.int .i64 0) := fun o => (blk_cell (blk_alloc HR4.out o) 1).trans rfl
  have q2 := fun o => blk_frozen (blk_alloc HR4.out o) 0
  have q3 := fun o => blk_frozen (blk_alloc HR4.out o) 1
  go_wp2_with fail
  refine bodyPost_ret (results_cell_row rfl _ _ (w.heap.size + 1 + 1) 25 #[.int .i64 n1, .int .i64 n2] (0, 0) _ rfl (by refine blk_put (cs := #[.int .i64 n1, .int .i64 0]) ?_ 1 _ rfl; refine blk_put (cs := #[.int .i64 0, .int .i64 0]) ?_ 0 _ rfl; exact blk_alloc HR4.out _) Tryd.underlying25 rfl (by kernel_rfl)) rfl ?_
  exact ⟨rfl, by refine below_set ?_ (by omega); refine below_set ?_ (by omega); exact below_alloc HB4.out _⟩
set_option maxHeartbeats 1000000 in
set_option maxRecDepth 100000 in
theorem segFar_way3 (k : Nat) {m t n1 n2 : Int} (h : impl_SegOk.f a b c d = some true) (h' : impl_PtOk.f e f = some true) (h2 : impl_standOf.f a b c d e f = some 2) (hw : impl_between.f c d e f = some m) (hf : impl_FracOf.f k m 1 = some (n1, n2, true)) :
    Calls Tryd.prog 24 #[.agg #[.int .i64 a, .int .i64 b, .int .i64 c, .int .i64 d], .agg #[.int .i64 e, .int .i64 f]] w fun x w' => x = .returned (.agg #[.int .i64 n1, .int .i64 n2]) ∧ Below w.heap.size w w' := by
  have hu1 := Tryd.underlying40
  have hu2 := Tryd.underlying38
  have hu3 := Tryd.underlying25
  have HB := Aside0.mk (boxes3 w (.cells #[.int .i64 a, .int .i64 b, .int .i64 c, .int .i64 d] 40) (.cells #[.int .i64 e, .int .i64 f] 38) (.cells #[.int .i64 0, .int .i64 0] 25))
  have H := Aside0.mk h
  have H' := Aside0.mk h'
  have H2 := Aside0.mk h2
  have HW := Aside0.mk hw
  have HF := Aside0.mk hf
  clear h h' h2 hw hf
  go_enter Tryd.func24, Tryd.ntmps24
  go_wp2_with fail
  refine (impl_SegOk.calls a b c d true _ H.out).mono ?_
  rintro x w1 ⟨rfl, hb⟩
  have HS := Aside0.mk (blk_on hb HB.out.2.1)
  have HP := Aside0.mk (blk_on hb HB.out.2.2.1)
  have HR := Aside0.mk (blk_on hb HB.out.2.2.2)
  have HB1 := Aside0.mk (below_step HB.out.1 hb)
  clear hb
  have q0 : w1.cell? ⟨w.heap.size + 1, 0, none⟩ = some (.int .i64 e) := (blk_cell HP.out 0).trans rfl
  have q1 : w1.cell? ⟨w.heap.size + 1, 1, none⟩ = some (.int .i64 f) := (blk_cell HP.out 1).trans rfl
  go_wp2_with fail
  refine (impl_PtOk.calls e f true _ H'.out).mono ?_
  rintro x w2 ⟨rfl, hb⟩
  have HS2 := Aside0.mk (blk_on hb HS.out)
  have HP2 := Aside0.mk (blk_on hb HP.out)
  have HR2 := Aside0.mk (blk_on hb HR.out)
  have HB2 := Aside0.mk (below_step HB1.out hb)
  clear hb q0 q1
  have q0 : ∀ o, (w2.alloc o).cell? ⟨w.heap.size, 0, none⟩ = some (.int .i64 a) := fun o => (blk_cell (blk_alloc HS2.out o) 0).trans rfl
  have q1 : ∀ o, (w2.alloc o).cell? ⟨w.heap.size, 1, none⟩ = some (.int .i64 b) := fun o => (blk_cell (blk_alloc HS2.out o) 1).trans rfl
  have q2 : ∀ o, (w2.alloc o).cell? ⟨w.heap.size, 2, none⟩ = some (.int .i64 c) := fun o => (blk_cell (blk_alloc HS2.out o) 2).trans rfl
  have q3 : ∀ o, (w2.alloc o).cell? ⟨w.heap.size, 3, none⟩ = some (.int .i64 d) := fun o => (blk_cell (blk_alloc HS2.out o) 3).trans rfl
  have q4 : ∀ o, (w2.alloc o).cell? ⟨w.heap.size + 1, 0, none⟩ = some (.int .i64 e) := fun o => (blk_cell (blk_alloc HP2.out o) 0).trans rfl
  have q5 : ∀ o, (w2.alloc o).cell? ⟨w.heap.size + 1, 1, none⟩ = some (.int .i64 f) := fun o => (blk_cell (blk_alloc HP2.out o) 1).trans rfl
  have HQ := Aside0.mk (heap_alloc_new w2 (.cells #[.nilFunc, .nilFunc, .nilFunc] 80))
  have r0 : (w2.alloc (.cells #[.nilFunc, .nilFunc, .nilFunc] 80)).cell? ⟨w2.heap.size, 0, none⟩ = some .nilFunc := (blk_cell HQ.out 0).trans rfl
  have s0 := blk_frozen HQ.out 0
  have r1 : (w2.alloc (.cells #[.nilFunc, .nilFunc, .nilFunc] 80)).cell? ⟨w2.heap.size, 1, none⟩ = some .nilFunc := (blk_cell HQ.out 1).trans rfl
  have s1 := blk_frozen HQ.out 1
  have r2 : (w2.alloc (.cells #[.nilFunc, .nilFunc, .nilFunc] 80)).cell? ⟨w2.heap.size, 2, none⟩ = some .nilFunc := (blk_cell HQ.out 2).trans rfl
  have s2 := blk_frozen HQ.out 2
  go_wp2_with fail
  refine (impl_standOf.calls a b c d e f 2 _ H2.out).mono ?_
  rintro x w3 ⟨rfl, hb⟩
  have HK := Aside0.mk (blk_on hb (heap_alloc_new w2 (.cells #[.func (.func 53) #[] #[.pointer (some ⟨w.heap.size, 0, none⟩), .pointer (some ⟨w.heap.size + 1, 0, none⟩)], .func (.func 55) #[] #[.pointer (some ⟨w.heap.size, 0, none⟩), .pointer (some ⟨w.heap.size + 1, 0, none⟩)], .func (.func 57) #[] #[.pointer (some ⟨w.heap.size, 0, none⟩), .pointer (some ⟨w.heap.size + 1, 0, none⟩)]] 80)))
  have HS3 := Aside0.mk (blk_on hb (blk_alloc HS2.out (.cells #[.func (.func 53) #[] #[.pointer (some ⟨w.heap.size, 0, none⟩), .pointer (some ⟨w.heap.size + 1, 0, none⟩)], .func (.func 55) #[] #[.pointer (some ⟨w.heap.size, 0, none⟩), .pointer (some ⟨w.heap.size + 1, 0, none⟩)], .func (.func 57) #[] #[.pointer (some ⟨w.heap.size, 0, none⟩), .pointer (some ⟨w.heap.size + 1, 0, none⟩)]] 80)))
  have HP3 := Aside0.mk (blk_on hb (blk_alloc HP2.out (.cells #[.func (.func 53) #[] #[.pointer (some ⟨w.heap.size, 0, none⟩), .pointer (some ⟨w.heap.size + 1, 0, none⟩)], .func (.func 55) #[] #[.pointer (some ⟨w.heap.size, 0, none⟩), .pointer (some ⟨w.heap.size + 1, 0, none⟩)], .func (.func 57) #[] #[.pointer (some ⟨w.heap.size, 0, none⟩), .pointer (some ⟨w.heap.size + 1, 0, none⟩)]] 80)))
  have HR3 := Aside0.mk (blk_on hb (blk_alloc HR2.out (.cells #[.func (.func 53) #[] #[.pointer (some ⟨w.heap.size, 0, none⟩), .pointer (some ⟨w.heap.size + 1, 0, none⟩)], .func (.func 55) #[] #[.pointer (some ⟨w.heap.size, 0, none⟩), .pointer (some ⟨w.heap.size + 1, 0, none⟩)], .func (.func 57) #[] #[.pointer (some ⟨w.heap.size, 0, none⟩), .pointer (some ⟨w.heap.size + 1, 0, none⟩)]] 80)))
  have HB3 := Aside0.mk (below_step (below_alloc HB2.out (.cells #[.func (.func 53) #[] #[.pointer (some ⟨w.heap.size, 0, none⟩), .pointer (some ⟨w.heap.size + 1, 0, none⟩)], .func (.func 55) #[] #[.pointer (some ⟨w.heap.size, 0, none⟩), .pointer (some ⟨w.heap.size + 1, 0, none⟩)], .func (.func 57) #[] #[.pointer (some ⟨w.heap.size, 0, none⟩), .pointer (some ⟨w.heap.size + 1, 0, none⟩)]] 80)) hb)
  clear hb q0 q1 q2 q3 q4 q5 r0 r1 r2 s0 s1 s2 HQ
  have q0 : w3.cell? ⟨w2.heap.size, 2, none⟩ = some (.func (.func 57) #[] #[.pointer (some ⟨w.heap.size, 0, none⟩), .pointer (some ⟨w.heap.size + 1, 0, none⟩)]) := (blk_cell HK.out 2).trans rfl
  go_wp2_with fail
  refine (far3 w.heap.size (w.heap.size + 1) a b c d e f w3 k HS3.out HP3.out HW.out HF.out).mono ?_
  rintro x w4 ⟨rfl, hb⟩
  have HR4 := Aside0.mk (blk_on hb HR3.out)
  have HB4 := Aside0.mk (below_step HB3.out hb)
  clear hb q0
  have HN := Aside0.mk (heap_alloc_new w4 (.cells #[.int .i64 0, .int .i64 0] 25))
  have u0 : (w4.alloc (.cells #[.int .i64 0, .int .i64 0] 25)).cell? ⟨w4.heap.size, 0, none⟩ = some (.int .i64 0) := (blk_cell HN.out 0).trans rfl
  have u1 : (w4.alloc (.cells #[.int .i64 0, .int .i64 0] 25)).cell? ⟨w4.heap.size, 1, none⟩ = some (.int .i64 0) := (blk_cell HN.out 1).trans rfl
  have u2 := blk_frozen HN.out 0
  have u3 := blk_frozen HN.out 1
  have q0 : ∀ o, (w4.alloc o).cell? ⟨w.heap.size + 1 + 1, 0, none⟩ = some (.int .i64 0) := fun o => (blk_cell (blk_alloc HR4.out o) 0).trans rfl
  have q1 : ∀ o, (w4.alloc o).cell? ⟨w.heap.size + 1 + 1, 1, none⟩ = some (.int .i64 0) := fun o => (blk_cell (blk_alloc HR4.out o) 1).trans rfl
  have q2 := fun o => blk_frozen (blk_alloc HR4.out o) 0
  have q3 := fun o => blk_frozen (blk_alloc HR4.out o) 1
  go_wp2_with fail
  refine bodyPost_ret (results_cell_row rfl _ _ (w.heap.size + 1 + 1) 25 #[.int .i64 n1, .int .i64 n2] (0, 0) _ rfl (by refine blk_put (cs := #[.int .i64 n1, .int .i64 0]) ?_ 1 _ rfl; refine blk_put (cs := #[.int .i64 0, .int .i64 0]) ?_ 0 _ rfl; exact blk_alloc HR4.out _) Tryd.underlying25 rfl (by kernel_rfl)) rfl ?_
  exact ⟨rfl, by refine below_set ?_ (by omega); refine below_set ?_ (by omega); exact below_alloc HB4.out _⟩
end
def impl_SegFar.f (a b c d e f : Int) : Option (Int × Int) := some ((segFar ((a, b), (c, d)) (e, f)).1, (segFar ((a, b), (c, d)) (e, f)).2)
theorem impl_SegFar.calls (a b c d e f r1 r2 : Int) (w : World) (h : impl_SegFar.f a b c d e f = some (r1, r2)) :
    Calls Tryd.prog 24 #[.agg #[.int .i64 a, .int .i64 b, .int .i64 c, .int .i64 d], .agg #[.int .i64 e, .int .i64 f]] w fun x w' => x = .returned (.agg #[.int .i64 r1, .int .i64 r2]) ∧ Below w.heap.size w w' := by
  unfold impl_SegFar.f at h
  simp only [Option.some.injEq, Prod.mk.injEq] at h
  obtain ⟨rfl, rfl⟩ := h
  unfold segFar
  cases hs : segOk ((a, b), (c, d)) with
  | false => exact segFar_bad1 a b c d e f w ((iSegOk a b c d).trans (congrArg some hs))
  | true =>
    have h1 := (iSegOk a b c d).trans (congrArg some hs)
    cases hp : ptOk (e, f) with
    | false => exact segFar_bad2 a b c d e f w h1 ((iPtOk e f).trans (congrArg some hp))
    | true =>
      have h2 := (iPtOk e f).trans (congrArg some hp)
      obtain ⟨o1, o2⟩ := segOk_ends hs
      have h3 := iStandOf hs hp
      have hin := far_inR hs hp
      simp only [Bool.and_self, if_true]
      unfold far at hin ⊢
      by_cases z : dot (a, b) (c, d) (e, f) ≤ 0
      · rw [if_pos z] at h3 hin ⊢
        rw [red_whole (dot_self_nn _ _) (Int.le_trans (dot_bound o1 hp hp).2 (by decide))]
        exact segFar_way1 (t := 0) a b c d e f w 100000 h1 h2 h3 (iBetween o1 hp) (iFracOf1 (Nat.le_refl _) (dot_self_nn _ _) (Int.le_trans (dot_bound o1 hp hp).2 (by decide)))
      · rw [if_neg z] at h3 hin ⊢
        by_cases z' : dot (a, b) (c, d) (c, d) ≤ dot (a, b) (c, d) (e, f)
        · rw [if_pos z'] at h3 hin ⊢
          rw [red_whole (dot_self_nn _ _) (Int.le_trans (dot_bound o2 hp hp).2 (by decide))]
          exact segFar_way3 (t := 0) a b c d e f w 100000 h1 h2 h3 (iBetween o2 hp) (iFracOf1 (Nat.le_refl _) (dot_self_nn _ _) (Int.le_trans (dot_bound o2 hp hp).2 (by decide)))
        · rw [if_neg z'] at h3 hin ⊢
          have hc := cross_bound o1 o2 hp
          have hq := sq_bound hc.1 hc.2
          have hq' := isq_nn (cross (a, b) (c, d) (e, f))
          exact segFar_way2 a b c d e f w 100000 h1 h2 h3 (iCross o1 o2 hp) (iBetween o1 o2) (by rw [w64 (x := cross (a, b) (c, d) (e, f) * cross (a, b) (c, d) (e, f)) (by omega) (by omega)]; exact iFracOf (Nat.le_refl _) hin)
end Go.Proofs.YtnponnkcfgjeoaaDoor.X
end
