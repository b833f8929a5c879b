/- FnMeetApart: the law returns true for every input, and each input reads behind the call as before; part 6 of 7. No condition. Merged by program out of: FImplStandOf, FImplFracOf, FSpecL2Has, FSpecL2Sign, EvSeg, FSpecL2Meet, HMeet, FSpecL2Apart, FSpecSegApart, HSeg. -/
import Derived.Test.YtnponnkcfgjeoaaDoorMFnMeetApart5
import Derived.RegionTactic
import Derived.ChangeAlike
import Derived.OwnWalk
import Derived.Outline
import Derived.Deep.RegionHeld3
import Derived.WalkLawsBesides
section
namespace Go.Proofs.YtnponnkcfgjeoaaDoor.X
open Go.RowKit Go.Proofs.YtnponnkcfgjeoaaDoorW.PrintWords Go.Proofs.YtnponnkcfgjeoaaDoorW.PrintLast Go.Proofs.YtnponnkcfgjeoaaDoorW.PrintMore
attribute [local go_sem] max2_int min2_int max_two min_two max_three min_three max_four min_four
set_option linter.unusedVariables false
set_option linter.unusedSimpArgs false
def impl_standOf.f (a0_0 : Int) (a0_1 : Int) (a0_2 : Int) (a0_3 : Int) (a1_0 : Int) (a1_1 : Int) : Option (Int) := (impl_along.f a0_0 a0_1 a0_2 a0_3 a1_0 a1_1).bind fun t334 => (if t334 ≤ 0 then (some 0) else ((impl_between.f a0_0 a0_1 a0_2 a0_3).bind fun t335 => (if t334 ≥ t335 then (some 2) else (some 1))))
set_option maxHeartbeats 8000000 in
set_option maxRecDepth 100000 in
theorem impl_standOf.calls (a0_0 : Int) (a0_1 : Int) (a0_2 : Int) (a0_3 : Int) (a1_0 : Int) (a1_1 : Int) (r : Int) (w : World) (h : impl_standOf.f a0_0 a0_1 a0_2 a0_3 a1_0 a1_1 = some r) :
  Calls Tryd.prog 58 #[.agg #[.int .i64 a0_0, .int .i64 a0_1, .int .i64 a0_2, .int .i64 a0_3], .agg #[.int .i64 a1_0, .int .i64 a1_1]] w fun e w' => e = .returned (.int .i64 r) ∧ Below w.heap.size w w' := by
 have hu40 := Tryd.underlying40
 have hu38 := Tryd.underlying38
 have HB := Aside0.mk (Below.refl w.heap.size w)
 have H : ((impl_along.f a0_0 a0_1 a0_2 a0_3 a1_0 a1_1).bind fun t334 => (if t334 ≤ 0 then (some 0) else ((impl_between.f a0_0 a0_1 a0_2 a0_3).bind fun t335 => (if t334 ≥ t335 then (some 2) else (some 1))))) = some r := h
 clear h
 replace H := Option.bind_eq_some_iff.mp H
 obtain ⟨t334, A30, H⟩ := H
 replace H : (if t334 ≤ 0 then (some 0) else ((impl_between.f a0_0 a0_1 a0_2 a0_3).bind fun t335 => (if t334 ≥ t335 then (some 2) else (some 1)))) = some r := H
 have A3 := Aside0.mk A30
 clear A30
 by_cases c4 : t334 ≤ 0
 ·
  rw [if_pos c4] at H
  have c4b0 : decide (t334 ≤ 0) = true := decide_eq_true c4
  clear c4
  obtain rfl := Option.some.inj H
  go_enter Tryd.func58, Tryd.ntmps58
  go_wp2_with (first | ((with_reducible refine gate_dst (N := 2) rfl ?_); refine box_event ?hg (N := 2) ?hd (cs := #[.int .i64 a0_0, .int .i64 a0_1, .int .i64 a0_2, .int .i64 a0_3]) (t := 40) ?hr ?_; (case hd => rfl); (case hg => rfl); (case hr => first | (go_simp; done) | (go_simp; rfl)); intro gb332 hg w5 hbox hb; have n0_ := Aside0.mk (below_step hB_ hb); have n1_ := Aside0.mk (hbox); have n2_ := Aside0.mk ((by rw [hg]; exact (below_size hB_) : w.heap.size ≤ gb332)); have n3_ := Aside0.mk ((by rw [hg]; exact (below_size hB_) : w.heap.size ≤ gb332)); clear HB; have HB := n0_; have BK332 := n1_; have GW332 := n2_; have GE332 := n3_; clear n0_ n1_ n2_ n3_; clear hb hbox hg) | ((with_reducible refine gate_dst (N := 3) rfl ?_); refine box_event ?hg (N := 3) ?hd (cs := #[.int .i64 a1_0, .int .i64 a1_1]) (t := 38) ?hr ?_; (case hd => rfl); (case hg => rfl); (case hr => first | (go_simp; done) | (go_simp; rfl)); intro gb333 hg w6 hbox hb; have n0_ := Aside0.mk (ub_ (g := gb332) hb); have n1_ := Aside0.mk (below_step hB_ hb); have n2_ := Aside0.mk (hbox); have n3_ := Aside0.mk ((by rw [hg]; exact (below_size hB_) : w.heap.size ≤ gb333)); have n4_ := Aside0.mk ((by rw [hg]; exact (below_size hB_) : w.heap.size ≤ gb333)); have n5_ := Aside0.mk ((by rw [hg]; exact Nat.ne_of_lt (blk_lt (g := gb332) (o := .cells #[.int .i64 a0_0, .int .i64 a0_1, .int .i64 a0_2, .int .i64 a0_3] 40 (0, 0)) uq_) : gb332 ≠ gb333)); have n6_ := Aside0.mk ((by rw [hg]; exact Nat.ne_of_gt (blk_lt (g := gb332) (o := .cells #[.int .i64 a0_0, .int .i64 a0_1, .int .i64 a0_2, .int .i64 a0_3] 40 (0, 0)) uq_) : gb333 ≠ gb332)); clear BK332; clear HB; have BK332 := n0_; have HB := n1_; have BK333 := n2_; have GW333 := n3_; have GE333 := n4_; have NB332_333 := n5_; have NB333_332 := n6_; clear n0_ n1_ n2_ n3_ n4_ n5_ n6_; clear hb hbox hg; have hnb7 := NB332_333.out; have hnc7 := NB333_332.out; have hcz8_0 : w6.cell? ⟨gb332, 0, none⟩ = some (.int .i64 a0_0) := bc_; have hcz8_1 : w6.cell? ⟨gb332, 1, none⟩ = some (.int .i64 a0_1) := bc_; have hcz8_2 : w6.cell? ⟨gb332, 2, none⟩ = some (.int .i64 a0_2) := bc_; have hcz8_3 : w6.cell? ⟨gb332, 3, none⟩ = some (.int .i64 a0_3) := bc_; have hfz8_0 := blk_frozen BK332.out 0; have hfz8_1 := blk_frozen BK332.out 1; have hfz8_2 := blk_frozen BK332.out 2; have hfz8_3 := blk_frozen BK332.out 3; have hcz9_0 : w6.cell? ⟨gb333, 0, none⟩ = some (.int .i64 a1_0) := bc_; have hcz9_1 : w6.cell? ⟨gb333, 1, none⟩ = some (.int .i64 a1_1) := bc_; have hfz9_0 := blk_frozen BK333.out 0; have hfz9_1 := blk_frozen BK333.out 1) | ((with_reducible refine gate_callee (f := 60) rfl ?_); refine goesL_ (some 11) rfl rfl Tryd.func60 (by kernel_rfl) rfl #[.agg #[.int .i64 a0_0, .int .i64 a0_1], .agg #[.int .i64 a0_2, .int .i64 a0_3], .agg #[.int .i64 a1_0, .int .i64 a1_1]] rfl ma_ ?_; (with_reducible refine (impl_along.calls a0_0 a0_1 a0_2 a0_3 a1_0 a1_1 t334 _ A3.out).mono ?_); rintro e w10 ⟨rfl, hb⟩; refine ⟨_, rfl, ?_⟩; have n0_ := Aside0.mk (ub_ (g := gb332) hb); have n1_ := Aside0.mk (ub_ (g := gb333) hb); have n2_ := Aside0.mk (below_step hB_ hb); clear BK332; clear BK333; clear HB; have BK332 := n0_; have BK333 := n1_; have HB := n2_; clear n0_ n1_ n2_; (try clear hb); (try clear hb2); (try clear hk); (try clear hi)))
  go_ret
  exact ⟨by first | rfl | (simp [errW_none, errW_some] <;> rfl) | (simp [*, errW_none, errW_some] <;> rfl), hB_⟩
 ·
  rw [if_neg c4] at H
  have c4b0 : decide (t334 ≤ 0) = false := decide_eq_false c4
  clear c4
  replace H := Option.bind_eq_some_iff.mp H
  obtain ⟨t335, A110, H⟩ := H
  replace H : (if t334 ≥ t335 then (some 2) else (some 1)) = some r := H
  have A11 := Aside0.mk A110
  clear A110
  by_cases c12 : t334 ≥ t335
  ·
   rw [if_pos c12] at H
   have c12b0 : decide (t335 ≤ t334) = true := decide_eq_true c12
   clear c12
   obtain rfl := Option.some.inj H
   go_enter Tryd.func58, Tryd.ntmps58
   go_wp2_with (first | ((with_reducible refine gate_dst (N := 2) rfl ?_); refine box_event ?hg (N := 2) ?hd (cs := #[.int .i64 a0_0, .int .i64 a0_1, .int .i64 a0_2, .int .i64 a0_3]) (t := 40) ?hr ?_; (case hd => rfl); (case hg => rfl); (case hr => first | (go_simp; done) | (go_simp; rfl)); intro gb332 hg w13 hbox hb; have n0_ := Aside0.mk (below_step hB_ hb); have n1_ := Aside0.mk (hbox); have n2_ := Aside0.mk ((by rw [hg]; exact (below_size hB_) : w.heap.size ≤ gb332)); have n3_ := Aside0.mk ((by rw [hg]; exact (below_size hB_) : w.heap.size ≤ gb332)); clear HB; have HB := n0_; have BK332 := n1_; have GW332 := n2_; have GE332 := n3_; clear n0_ n1_ n2_ n3_; clear hb hbox hg) | ((with_reducible refine gate_dst (N := 3) rfl ?_); refine box_event ?hg (N := 3) ?hd (cs := #[.int .i64 a1_0, .int .i64 a1_1]) (t := 38) ?hr ?_; (case hd => rfl); (case hg => rfl); (case hr => first | (go_simp; done) | (go_simp; rfl)); intro gb333 hg w14 hbox hb; have n0_ := Aside0.mk (ub_ (g := gb332) hb); have n1_ := Aside0.mk (below_step hB_ hb); have n2_ := Aside0.mk (hbox); have n3_ := Aside0.mk ((by rw [hg]; exact (below_size hB_) : w.heap.size ≤ gb333)); have n4_ := Aside0.mk ((by rw [hg]; exact (below_size hB_) : w.heap.size ≤ gb333)); have n5_ := Aside0.mk ((by rw [hg]; exact Nat.ne_of_lt (blk_lt (g := gb332) (o := .cells #[.int .i64 a0_0, .int .i64 a0_1, .int .i64 a0_2, .int .i64 a0_3] 40 (0, 0)) uq_) : gb332 ≠ gb333)); have n6_ := Aside0.mk ((by rw [hg]; exact Nat.ne_of_gt (blk_lt (g := gb332) (o := .cells #[.int .i64 a0_0, .int .i64 a0_1, .int .i64 a0_2, .int .i64 a0_3] 40 (0, 0)) uq_) : gb333 ≠ gb332)); clear BK332; clear HB; have BK332 := n0_; have HB := n1_; have BK333 := n2_; have GW333 := n3_; have GE333 := n4_; have NB332_333 := n5_; have NB333_332 := n6_; clear n0_ n1_ n2_ n3_ n4_ n5_ n6_; clear hb hbox hg; have hnb15 := NB332_333.out; have hnc15 := NB333_332.out; have hcz16_0 : w14.cell? ⟨gb332, 0, none⟩ = some (.int .i64 a0_0) := bc_; have hcz16_1 : w14.cell? ⟨gb332, 1, none⟩ = some (.int .i64 a0_1) := bc_; have hcz16_2 : w14.cell? ⟨gb332, 2, none⟩ = some (.int .i64 a0_2) := bc_; have hcz16_3 : w14.cell? ⟨gb332, 3, none⟩ = some (.int .i64 a0_3) := bc_; have hfz16_0 := blk_frozen BK332.out 0; have hfz16_1 := blk_frozen BK332.out 1; have hfz16_2 := blk_frozen BK332.out 2; have hfz16_3 := blk_frozen BK332.out 3; have hcz17_0 : w14.cell? ⟨gb333, 0, none⟩ = some (.int .i64 a1_0) := bc_; have hcz17_1 : w14.cell? ⟨gb333, 1, none⟩ = some (.int .i64 a1_1) := bc_; have hfz17_0 := blk_frozen BK333.out 0; have hfz17_1 := blk_frozen BK333.out 1) | ((with_reducible refine gate_callee (f := 60) rfl ?_); refine goesL_ (some 11) rfl rfl Tryd.func60 (by kernel_rfl) rfl #[.agg #[.int .i64 a0_0, .int .i64 a0_1], .agg #[.int .i64 a0_2, .int .i64 a0_3], .agg #[.int .i64 a1_0, .int .i64 a1_1]] rfl ma_ ?_; (with_reducible refine (impl_along.calls a0_0 a0_1 a0_2 a0_3 a1_0 a1_1 t334 _ A3.out).mono ?_); rintro e w18 ⟨rfl, hb⟩; refine ⟨_, rfl, ?_⟩; have n0_ := Aside0.mk (ub_ (g := gb332) hb); have n1_ := Aside0.mk (ub_ (g := gb333) hb); have n2_ := Aside0.mk (below_step hB_ hb); clear BK332; clear BK333; clear HB; have BK332 := n0_; have BK333 := n1_; have HB := n2_; clear n0_ n1_ n2_; (try clear hb); (try clear hb2); (try clear hk); (try clear hi); have hcz19_0 : w18.cell? ⟨gb332, 0, none⟩ = some (.int .i64 a0_0) := bc_; have hcz19_1 : w18.cell? ⟨gb332, 1, none⟩ = some (.int .i64 a0_1) := bc_; have hcz19_2 : w18.cell? ⟨gb332, 2, none⟩ = some (.int .i64 a0_2) := bc_; have hcz19_3 : w18.cell? ⟨gb332, 3, none⟩ = some (.int .i64 a0_3) := bc_; have hfz19_0 := blk_frozen BK332.out 0; have hfz19_1 := blk_frozen BK332.out 1; have hfz19_2 := blk_frozen BK332.out 2; have hfz19_3 := blk_frozen BK332.out 3) | ((with_reducible refine gate_callee (f := 54) rfl ?_); refine goesL_ (some 21) rfl rfl Tryd.func54 (by kernel_rfl) rfl #[.agg #[.int .i64 a0_0, .int .i64 a0_1], .agg #[.int .i64 a0_2, .int .i64 a0_3]] rfl ma_ ?_; (with_reducible refine (impl_between.calls a0_0 a0_1 a0_2 a0_3 t335 _ A11.out).mono ?_); rintro e w20 ⟨rfl, hb⟩; refine ⟨_, rfl, ?_⟩; have n0_ := Aside0.mk (ub_ (g := gb332) hb); have n1_ := Aside0.mk (ub_ (g := gb333) hb); have n2_ := Aside0.mk (below_step hB_ hb); clear BK332; clear BK333; clear HB; have BK332 := n0_; have BK333 := n1_; have HB := n2_; clear n0_ n1_ n2_; (try clear hb); (try clear hb2); (try clear hk); (try clear hi)))
   go_ret
   exact ⟨by first | rfl | (simp [errW_none, errW_some] <;> rfl) | (simp [*, errW_none, errW_some] <;> rfl), hB_⟩
  ·
   rw [if_neg c12] at H
   have c12b0 : decide (t335 ≤ t334) = false := decide_eq_false c12
   clear c12
   obtain rfl := Option.some.inj H
   go_enter Tryd.func58, Tryd.ntmps58
   go_wp2_with (first | ((with_reducible refine gate_dst (N := 2) rfl ?_); refine box_event ?hg (N := 2) ?hd (cs := #[.int .i64 a0_0, .int .i64 a0_1, .int .i64 a0_2, .int .i64 a0_3]) (t := 40) ?hr ?_; (case hd => rfl); (case hg => rfl); (case hr => first | (go_simp; done) | (go_simp; rfl)); intro gb332 hg w21 hbox hb; have n0_ := Aside0.mk (below_step hB_ hb); have n1_ := Aside0.mk (hbox); have n2_ := Aside0.mk ((by rw [hg]; exact (below_size hB_) : w.heap.size ≤ gb332)); have n3_ := Aside0.mk ((by rw [hg]; exact (below_size hB_) : w.heap.size ≤ gb332)); clear HB; have HB := n0_; have BK332 := n1_; have GW332 := n2_; have GE332 := n3_; clear n0_ n1_ n2_ n3_; clear hb hbox hg) | ((with_reducible refine gate_dst (N := 3) rfl ?_); refine box_event ?hg (N := 3) ?hd (cs := #[.int .i64 a1_0, .int .i64 a1_1]) (t := 38) ?hr ?_; (case hd => rfl); (case hg => rfl); (case hr => first | (go_simp; done) | (go_simp; rfl)); intro gb333 hg w22 hbox hb; have n0_ := Aside0.mk (ub_ (g := gb332) hb); have n1_ := Aside0.mk (below_step hB_ hb); have n2_ := Aside0.mk (hbox); have n3_ := Aside0.mk ((by rw [hg]; exact (below_size hB_) : w.heap.size ≤ gb333)); have n4_ := Aside0.mk ((by rw [hg]; exact (below_size hB_) : w.heap.size ≤ gb333)); have n5_ := Aside0.mk ((by rw [hg]; exact Nat.ne_of_lt (blk_lt (g := gb332) (o := .cells #[.int .i64 a0_0, .int .i64 a0_1, .int .i64 a0_2, .int .i64 a0_3] 40 (0, 0)) uq_) : gb332 ≠ gb333)); have n6_ := Aside0.mk ((by rw [hg]; exact Nat.ne_of_gt (blk_lt (g := gb332) (o := .cells #[.int .i64 a0_0, .int .i64 a0_1, .int .i64 a0_2, .int .i64 a0_3] 40 (0, 0)) uq_) : gb333 ≠ gb332)); clear BK332; clear HB; have BK332 := n0_; have HB := n1_; have BK333 := n2_; have GW333 := n3_; have GE333 := n4_; have NB332_333 := n5_; have NB333_332 := n6_; clear n0_ n1_ n2_ n3_ n4_ n5_ n6_; clear hb hbox hg; have hnb23 := NB332_333.out; have hnc23 := NB333_332.out; have hcz24_0 : w22.cell? ⟨gb332, 0, none⟩ = some (.int .i64 a0_0) := bc_; have hcz24_1 : w22.cell? ⟨gb332, 1, none⟩ = some (.int .i64 a0_1) := bc_; have hcz24_2 : w22.cell? ⟨gb332, 2, none⟩ = some (.int .i64 a0_2) := bc_; have hcz24_3 : w22.cell? ⟨gb332, 3, none⟩ = some (.int .i64 a0_3) := bc_; have hfz24_0 := blk_frozen BK332.out 0; have hfz24_1 := blk_frozen BK332.out 1; have hfz24_2 := blk_frozen BK332.out 2; have hfz24_3 := blk_frozen BK332.out 3; have hcz25_0 : w22.cell? ⟨gb333, 0, none⟩ = some (.int .i64 a1_0) := bc_; have hcz25_1 : w22.cell? ⟨gb333, 1, none⟩ = some (.int .i64 a1_1) := bc_; have hfz25_0 := blk_frozen BK333.out 0; have hfz25_1 := blk_frozen BK333.out 1) | ((with_reducible refine gate_callee (f := 60) rfl ?_); refine goesL_ (some 11) rfl rfl Tryd.func60 (by kernel_rfl) rfl #[.agg #[.int .i64 a0_0, .int .i64 a0_1], .agg #[.int .i64 a0_2, .int .i64 a0_3], .agg #[.int .i64 a1_0, .int .i64 a1_1]] rfl ma_ ?_; (with_reducible refine (impl_along.calls a0_0 a0_1 a0_2 a0_3 a1_0 a1_1 t334 _ A3.out).mono ?_); rintro e w26 ⟨rfl, hb⟩; refine ⟨_, rfl, ?_⟩; have n0_ := Aside0.mk (ub_ (g := gb332) hb); have n1_ := Aside0.mk (ub_ (g := gb333) hb); have n2_ := Aside0.mk (below_step hB_ hb); clear BK332; clear BK333; clear HB; have BK332 := n0_; have BK333 := n1_; have HB := n2_; clear n0_ n1_ n2_; (try clear hb); (try clear hb2); (try clear hk); (try clear hi); have hcz27_0 : w26.cell? ⟨gb332, 0, none⟩ = some (.int .i64 a0_0) := bc_; have hcz27_1 : w26.cell? ⟨gb332, 1, none⟩ = some (.int .i64 a0_1) := bc_; have hcz27_2 : w26.cell? ⟨gb332, 2, none⟩ = some (.int .i64 a0_2) := bc_; have hcz27_3 : w26.cell? ⟨gb332, 3, none⟩ = some (.int .i64 a0_3) := bc_; have hfz27_0 := blk_frozen BK332.out 0; have hfz27_1 := blk_frozen BK332.out 1; have hfz27_2 := blk_frozen BK332.out 2; have hfz27_3 := blk_frozen BK332.out 3) | ((with_reducible refine gate_callee (f := 54) rfl ?_); refine goesL_ (some 21) rfl rfl Tryd.func54 (by kernel_rfl) rfl #[.agg #[.int .i64 a0_0, .int .i64 a0_1], .agg #[.int .i64 a0_2, .int .i64 a0_3]] rfl ma_ ?_; (with_reducible refine (impl_between.calls a0_0 a0_1 a0_2 a0_3 t335 _ A11.out).mono ?_); rintro e w28 ⟨rfl, hb⟩; refine ⟨_, rfl, ?_⟩; have n0_ := Aside0.mk (ub_ (g := gb332) hb); have n1_ := Aside0.mk (ub_ (g := gb333) hb); have n2_ := Aside0.mk (below_step hB_ hb); clear BK332; clear BK333; clear HB; have BK332 := n0_; have BK333 := n1_; have HB := n2_; clear n0_ n1_ n2_; (try clear hb); (try clear hb2); (try clear hk); (try clear hi)))
   go_ret
   exact ⟨by first | rfl | (simp [errW_none, errW_some] <;> rfl) | (simp [*, errW_none, errW_some] <;> rfl), hB_⟩
end Go.Proofs.YtnponnkcfgjeoaaDoor.X
end
section
namespace Go.Proofs.YtnponnkcfgjeoaaDoor.X
open Go.RowKit Go.Proofs.YtnponnkcfgjeoaaDoorW.PrintWords Go.Proofs.YtnponnkcfgjeoaaDoorW.PrintLast Go.Proofs.YtnponnkcfgjeoaaDoorW.PrintMore
attribute [local go_sem] max2_int min2_int max_two min_two max_three min_three max_four min_four
set_option linter.unusedVariables false
set_option linter.unusedSimpArgs false
def impl_FracOf.f (k : Nat) (a0 : Int) (a1 : Int) : Option (Int × Int × Bool) := if a0 < 0 then (some (0, 0, false)) else (if a0 > 99999 then (some (0, 0, false)) else (if a1 < 1 then (some (0, 0, false)) else (if a1 > 99999 then (some (0, 0, false)) else ((impl_commonDivisor.f k a0 a1).bind fun t177 => (if t177 = 0 then (none) else (some (wrap64 (Int.tdiv a0 t177), wrap64 (Int.tdiv a1 t177), true)))))))
def impl_FracOf.T4 : Bool × List (List Nat × List Nat) := (true, [([], []), ([], []), ([0, 1], [0, 1]), ([], []), ([], []), ([3, 4], [3, 4]), ([2, 5], [2, 5]), ([6, 0, 1, 2, 3, 4, 5, 6], [6]), ([7, 0, 1, 2, 3, 4, 5, 6, 7], [])])
def impl_FracOf.B4 : List Nat := [0, 0, 3, 0, 0, 24, 63, 127, 255]
theorem impl_FracOf.tab4 : rtab .any (opsOf Tryd.f21 4) = impl_FracOf.T4 := by kernel_rfl
theorem impl_FracOf.bits4 : waitsOk impl_FracOf.T4.2 impl_FracOf.B4 = true := by kernel_rfl
set_option maxHeartbeats 8000000 in
set_option maxRecDepth 100000 in
theorem impl_FracOf.calls (k : Nat) (a0 : Int) (a1 : Int) (r1 : Int) (r2 : Int) (r3 : Bool) (w : World) (h : impl_FracOf.f k a0 a1 = some (r1, r2, r3)) :
  Calls Tryd.prog 21 #[.int .i64 a0, .int .i64 a1] w fun e w' => e = .returned (.tuple #[.agg #[.int .i64 r1, .int .i64 r2], .bool r3]) ∧ Below w.heap.size w w' := by
 have hu25 := Tryd.underlying25
 have HB := Aside0.mk (Below.refl w.heap.size w)
 have H : (if a0 < 0 then (some (0, 0, false)) else (if a0 > 99999 then (some (0, 0, false)) else (if a1 < 1 then (some (0, 0, false)) else (if a1 > 99999 then (some (0, 0, false)) else ((impl_commonDivisor.f k a0 a1).bind fun t177 => (if t177 = 0 then (none) else (some (wrap64 (Int.tdiv a0 t177), wrap64 (Int.tdiv a1 t177), true)))))))) = some (r1, r2, r3) := h
 clear h
 by_cases c3 : a0 < 0
 ·
  rw [if_pos c3] at H
  have c3b0 : decide (a0 < 0) = true := decide_eq_true c3
  clear c3
  simp only [Option.some.injEq, Prod.mk.injEq] at H
  obtain ⟨rfl, rfl, rfl⟩ := H
  go_enter Tryd.func21, Tryd.ntmps21
  go_wp2_with (first | ((with_reducible refine gate_dst (N := 4) rfl ?_); refine box_event ?hg (N := 4) ?hd (cs := #[.int .i64 0, .int .i64 0]) (t := 25) ?hr ?_; (case hd => rfl); (case hg => rfl); (case hr => first | (go_simp; done) | (go_simp; rfl)); intro gb176 hg w4 hbox hb; have n0_ := Aside0.mk (below_step hB_ hb); have n1_ := Aside0.mk (hbox); have n2_ := Aside0.mk ((by rw [hg]; exact (below_size hB_) : w.heap.size ≤ gb176)); have n3_ := Aside0.mk ((by rw [hg]; exact (below_size hB_) : w.heap.size ≤ gb176)); clear HB; have HB := n0_; have BK176 := n1_; have GW176 := n2_; have GE176 := n3_; clear n0_ n1_ n2_ n3_; clear hb hbox hg; have hcz5_0 : w4.cell? ⟨gb176, 0, none⟩ = some (.int .i64 0) := bc_; have hcz5_1 : w4.cell? ⟨gb176, 1, none⟩ = some (.int .i64 0) := bc_; have hfz5_0 := blk_frozen BK176.out 0; have hfz5_1 := blk_frozen BK176.out 1))
  refine bodyPost_ret (results_ct rfl _ _ gb176 25 #[.int .i64 0, .int .i64 0] (0, 0) _ rfl (by (with_reducible repeat (first | refine blk_drewN ?_ _ | refine blk_drew ?_ | refine blk_alloc ?_ _)); refine blk_put (cs := #[.int .i64 0, .int .i64 0]) ?_ 1 _ rfl; (with_reducible repeat (first | refine blk_drewN ?_ _ | refine blk_drew ?_ | refine blk_alloc ?_ _)); refine blk_put (cs := #[.int .i64 0, .int .i64 0]) ?_ 0 _ rfl; (with_reducible repeat (first | refine blk_drewN ?_ _ | refine blk_drew ?_ | refine blk_alloc ?_ _)); exact BK176.out) Tryd.underlying25 rfl (by kernel_rfl)) rfl ?_
  exact ⟨by first | rfl | (simp [errW_none, errW_some] <;> rfl) | (simp [*, errW_none, errW_some] <;> rfl), hB_⟩
 ·
  rw [if_neg c3] at H
  have c3b0 : decide (a0 < 0) = false := decide_eq_false c3
  clear c3
  by_cases c6 : a0 > 99999
  ·
   rw [if_pos c6] at H
   have c6b0 : decide (99999 < a0) = true := decide_eq_true c6
   clear c6
   simp only [Option.some.injEq, Prod.mk.injEq] at H
   obtain ⟨rfl, rfl, rfl⟩ := H
   go_enter Tryd.func21, Tryd.ntmps21
   go_wp2_with (first | ((with_reducible refine gate_dst (N := 4) rfl ?_); refine box_event ?hg (N := 4) ?hd (cs := #[.int .i64 0, .int .i64 0]) (t := 25) ?hr ?_; (case hd => rfl); (case hg => rfl); (case hr => first | (go_simp; done) | (go_simp; rfl)); intro gb176 hg w7 hbox hb; have n0_ := Aside0.mk (below_step hB_ hb); have n1_ := Aside0.mk (hbox); have n2_ := Aside0.mk ((by rw [hg]; exact (below_size hB_) : w.heap.size ≤ gb176)); have n3_ := Aside0.mk ((by rw [hg]; exact (below_size hB_) : w.heap.size ≤ gb176)); clear HB; have HB := n0_; have BK176 := n1_; have GW176 := n2_; have GE176 := n3_; clear n0_ n1_ n2_ n3_; clear hb hbox hg; have hcz8_0 : w7.cell? ⟨gb176, 0, none⟩ = some (.int .i64 0) := bc_; have hcz8_1 : w7.cell? ⟨gb176, 1, none⟩ = some (.int .i64 0) := bc_; have hfz8_0 := blk_frozen BK176.out 0; have hfz8_1 := blk_frozen BK176.out 1))
   refine bodyPost_ret (results_ct rfl _ _ gb176 25 #[.int .i64 0, .int .i64 0] (0, 0) _ rfl (by (with_reducible repeat (first | refine blk_drewN ?_ _ | refine blk_drew ?_ | refine blk_alloc ?_ _)); refine blk_put (cs := #[.int .i64 0, .int .i64 0]) ?_ 1 _ rfl; (with_reducible repeat (first | refine blk_drewN ?_ _ | refine blk_drew ?_ | refine blk_alloc ?_ _)); refine blk_put (cs := #[.int .i64 0, .int .i64 0]) ?_ 0 _ rfl; (with_reducible repeat (first | refine blk_drewN ?_ _ | refine blk_drew ?_ | refine blk_alloc ?_ _)); exact BK176.out) Tryd.underlying25 rfl (by kernel_rfl)) rfl ?_
   exact ⟨by first | rfl | (simp [errW_none, errW_some] <;> rfl) | (simp [*, errW_none, errW_some] <;> rfl), hB_⟩
  ·
   rw [if_neg c6] at H
   have c6b0 : decide (99999 < a0) = false := decide_eq_false c6
   clear c6
   by_cases c9 : a1 < 1
   ·
    rw [if_pos c9] at H
    have c9b0 : decide (a1 < 1) = true := decide_eq_true c9
    clear c9
    simp only [Option.some.injEq, Prod.mk.injEq] at H
    obtain ⟨rfl, rfl, rfl⟩ := H
    go_enter Tryd.func21, Tryd.ntmps21
    go_wp2_with (first | ((with_reducible refine gate_dst (N := 4) rfl ?_); refine box_event ?hg (N := 4) ?hd (cs := #[.int .i64 0, .int .i64 0]) (t := 25) ?hr ?_; (case hd => rfl); (case hg => rfl); (case hr => first | (go_simp; done) | (go_simp; rfl)); intro gb176 hg w10 hbox hb; have n0_ := Aside0.mk (below_step hB_ hb); have n1_ := Aside0.mk (hbox); have n2_ := Aside0.mk ((by rw [hg]; exact (below_size hB_) : w.heap.size ≤ gb176)); have n3_ := Aside0.mk ((by rw [hg]; exact (below_size hB_) : w.heap.size ≤ gb176)); clear HB; have HB := n0_; have BK176 := n1_; have GW176 := n2_; have GE176 := n3_; clear n0_ n1_ n2_ n3_; clear hb hbox hg; have hcz11_0 : w10.cell? ⟨gb176, 0, none⟩ = some (.int .i64 0) := bc_; have hcz11_1 : w10.cell? ⟨gb176, 1, none⟩ = some (.int .i64 0) := bc_; have hfz11_0 := blk_frozen BK176.out 0; have hfz11_1 := blk_frozen BK176.out 1))
    refine bodyPost_ret (results_ct rfl _ _ gb176 25 #[.int .i64 0, .int .i64 0] (0, 0) _ rfl (by (with_reducible repeat (first | refine blk_drewN ?_ _ | refine blk_drew ?_ | refine blk_alloc ?_ _)); refine blk_put (cs := #[.int .i64 0, .int .i64 0]) ?_ 1 _ rfl; (with_reducible repeat (first | refine blk_drewN ?_ _ | refine blk_drew ?_ | refine blk_alloc ?_ _)); refine blk_put (cs := #[.int .i64 0, .int .i64 0]) ?_ 0 _ rfl; (with_reducible repeat (first | refine blk_drewN ?_ _ | refine blk_drew ?_ | refine blk_alloc ?_ _)); exact BK176.out) Tryd.underlying25 rfl (by kernel_rfl)) rfl ?_
    exact ⟨by first | rfl | (simp [errW_none, errW_some] <;> rfl) | (simp [*, errW_none, errW_some] <;> rfl), hB_⟩
   ·
    rw [if_neg c9] at H
    have c9b0 : decide (a1 < 1) = false := decide_eq_false c9
    clear c9
    by_cases c12 : a1 > 99999
    ·
     rw [if_pos c12] at H
     have c12b0 : decide (99999 < a1) = true := decide_eq_true c12
     clear c12
     simp only [Option.some.injEq, Prod.mk.injEq] at H
     obtain ⟨rfl, rfl, rfl⟩ := H
     go_enter Tryd.func21, Tryd.ntmps21
     go_wp2_with (first | ((with_reducible refine gate_dst (N := 4) rfl ?_); refine box_event ?hg (N := 4) ?hd (cs := #[.int .i64 0, .int .i64 0]) (t := 25) ?hr ?_; (case hd => rfl); (case hg => rfl); (case hr => first | (go_simp; done) | (go_simp; rfl)); intro gb176 hg w13 hbox hb; have n0_ := Aside0.mk (below_step hB_ hb); have n1_ := Aside0.mk (hbox); have n2_ := Aside0.mk ((by rw [hg]; exact (below_size hB_) : w.heap.size ≤ gb176)); have n3_ := Aside0.mk ((by rw [hg]; exact (below_size hB_) : w.heap.size ≤ gb176)); clear HB; have HB := n0_; have BK176 := n1_; have GW176 := n2_; have GE176 := n3_; clear n0_ n1_ n2_ n3_; clear hb hbox hg; have hcz14_0 : w13.cell? ⟨gb176, 0, none⟩ = some (.int .i64 0) := bc_; have hcz14_1 : w13.cell? ⟨gb176, 1, none⟩ = some (.int .i64 0) := bc_; have hfz14_0 := blk_frozen BK176.out 0; have hfz14_1 := blk_frozen BK176.out 1))
     refine bodyPost_ret (results_ct rfl _ _ gb176 25 #[.int .i64 0, .int .i64 0] (0, 0) _ rfl (by (with_reducible repeat (first | refine blk_drewN ?_ _ | refine blk_drew ?_ | refine blk_alloc ?_ _)); refine blk_put (cs := #[.int .i64 0, .int .i64 0]) ?_ 1 _ rfl; (with_reducible repeat (first | refine blk_drewN ?_ _ | refine blk_drew ?_ | refine blk_alloc ?_ _)); refine blk_put (cs := #[.int .i64 0, .int .i64 0]) ?_ 0 _ rfl; (with_reducible repeat (first | refine blk_drewN ?_ _ | refine blk_drew ?_ | refine blk_alloc ?_ _)); exact BK176.out) Tryd.underlying25 rfl (by kernel_rfl)) rfl ?_
     exact ⟨by first | rfl | (simp [errW_none, errW_some] <;> rfl) | (simp [*, errW_none, errW_some] <;> rfl), hB_⟩
    ·
     rw [if_neg c12] at H
     have c12b0 : decide (99999 < a1) = false := decide_eq_false c12
     clear c12
     replace H := Option.bind_eq_some_iff.mp H
     obtain ⟨t177, A150, H⟩ := H
     replace H : (if t177 = 0 then (none) else (some (wrap64 (Int.tdiv a0 t177), wrap64 (Int.tdiv a1 t177), true))) = some (r1, r2, r3) := H
     have A15 := Aside0.mk A150
     clear A150
     by_cases c16 : t177 = 0
     ·
      rw [if_pos c16] at H
      exact absurd H (by simp)
     ·
      rw [if_neg c16] at H
      have c16b0 : (t177 == 0) = false := beq_eq_false_iff_ne.mpr c16
      have c16b1 : (t177 != 0) = true := bne_iff_ne.mpr c16
      simp only [Option.some.injEq, Prod.mk.injEq] at H
      obtain ⟨rfl, rfl, rfl⟩ := H
      go_enter Tryd.func21, Tryd.ntmps21
      try go_wp2_with (first | ((with_reducible refine gate_dst (N := 4) rfl ?_); refine box_event ?hg (N := 4) ?hd (cs := #[.int .i64 0, .int .i64 0]) (t := 25) ?hr ?_; (case hd => rfl); (case hg => rfl); (case hr => first | (go_simp; done) | (go_simp; rfl)); intro gb176 hg w17 hbox hb; have n0_ := Aside0.mk (below_step hB_ hb); have n1_ := Aside0.mk (hbox); have n2_ := Aside0.mk ((by rw [hg]; exact (below_size hB_) : w.heap.size ≤ gb176)); have n3_ := Aside0.mk ((by rw [hg]; exact (below_size hB_) : w.heap.size ≤ gb176)); clear HB; have HB := n0_; have BK176 := n1_; have GW176 := n2_; have GE176 := n3_; clear n0_ n1_ n2_ n3_; clear hb hbox hg) | ((with_reducible refine gate_callee (f := 47) rfl ?_); refine goesL_ (some 24) rfl rfl Tryd.func47 (by kernel_rfl) rfl #[.int .i64 a0, .int .i64 a1] rfl ma_ ?_; (with_reducible refine (impl_commonDivisor.calls k a0 a1 t177 _ A15.out).mono ?_); rintro e w' ⟨rfl, ⟨nd, rfl⟩⟩; refine ⟨_, rfl, ?_⟩; (try (rw [drewN_self w17]; generalize hq_ : World.drewN w17 _ = w17; have n0_ : Aside0 (w17.heap[gb176]? = some (.cells #[.int .i64 0, .int .i64 0] 25 (0, 0))) := ⟨by rw [← hq_]; exact uq_⟩; have n1_ : Aside0 (Below w.heap.size w w17) := ⟨by rw [← hq_]; exact hB_⟩; clear BK176 HB hq_; have BK176 := n0_; have HB := n1_; clear n0_ n1_))))
      have n0_ := Aside0.mk (blk_drew BK176.out)
      have n1_ := Aside0.mk (below_drew1 HB.out)
      clear BK176 HB
      have BK176 := n0_
      have HB := n1_
      clear n0_ n1_
      refine start_ (n := 9) (S := fun w' => True) (ds := []) #[false, false, false, false, false, false, false, false, false] (by kernel_rfl) rfl rfl trivial (fun hHeld => ?_); refine with_tabW impl_FracOf.tab4 impl_FracOf.bits4 (fun HT_ HW_ => ?_)
      generalize w17.drew = w18 at BK176 HB hHeld ⊢
      refine pure_ (i := 0) (N := some 25) (v := ?_) (a' := ?_) (bm 9 1) rfl rfl (any_of HT_.out (by kernel_rfl)) (fun _ _ _ h => h) (Or.inl ⟨by rfl, ?_⟩) ?_ ?_
      rotate_left
      ·
       intro w'
       go_simp
       with_reducible rfl
      rotate_left
      ·
       simp only [Act.put, List.setIfInBounds_toArray, List.set_cons_zero, List.set_cons_succ, i64_w, i32_w]
       rfl
      refine pure_ (i := 1) (N := some 26) (v := ?_) (a' := ?_) (bm 9 3) rfl rfl (any_of HT_.out (by kernel_rfl)) (fun _ _ _ h => h) (Or.inl ⟨by rfl, ?_⟩) ?_ ?_
      rotate_left
      ·
       intro w'
       go_simp
       with_reducible rfl
      rotate_left
      ·
       simp only [Act.put, List.setIfInBounds_toArray, List.set_cons_zero, List.set_cons_succ, i64_w, i32_w]
       rfl
      refine pure_ (i := 2) (N := some 27) (v := ?_) (a' := ?_) (bm 9 7) rfl rfl (any_of HT_.out (by kernel_rfl)) (fun _ _ _ h => h) (Or.inl ⟨by rfl, ?_⟩) ?_ ?_
      rotate_left
      ·
       intro w'
       go_simp
       with_reducible rfl
      rotate_left
      ·
       simp only [Act.put, List.setIfInBounds_toArray, List.set_cons_zero, List.set_cons_succ, i64_w, i32_w]
       rfl
      refine pure_ (i := 3) (N := some 28) (v := ?_) (a' := ?_) (bm 9 15) rfl rfl (any_of HT_.out (by kernel_rfl)) (fun _ _ _ h => h) (Or.inl ⟨by rfl, ?_⟩) ?_ ?_
      rotate_left
      ·
       intro w'
       go_simp
       with_reducible rfl
      rotate_left
      ·
       simp only [Act.put, List.setIfInBounds_toArray, List.set_cons_zero, List.set_cons_succ, i64_w, i32_w]
       rfl
      refine pure_ (i := 4) (N := some 29) (v := ?_) (a' := ?_) (bm 9 31) rfl rfl (any_of HT_.out (by kernel_rfl)) (fun _ _ _ h => h) (Or.inl ⟨by rfl, ?_⟩) ?_ ?_
      rotate_left
      ·
       intro w'
       go_simp
       with_reducible rfl
      rotate_left
      ·
       simp only [Act.put, List.setIfInBounds_toArray, List.set_cons_zero, List.set_cons_succ, i64_w, i32_w]
       rfl
      refine pure_ (i := 5) (N := some 30) (v := ?_) (a' := ?_) (bm 9 63) rfl rfl (any_of HT_.out (by kernel_rfl)) (fun _ _ _ h => h) (Or.inl ⟨by rfl, ?_⟩) ?_ ?_
      rotate_left
      ·
       intro w'
       go_simp
       with_reducible rfl
      rotate_left
      ·
       simp only [Act.put, List.setIfInBounds_toArray, List.set_cons_zero, List.set_cons_succ, i64_w, i32_w]
       rfl
      refine pure_ (i := 6) (N := some 31) (v := ?_) (a' := ?_) (bm 9 127) rfl rfl (any_of HT_.out (by kernel_rfl)) (fun _ _ _ h => h) (Or.inl ⟨by rfl, ?_⟩) ?_ ?_
      rotate_left
      ·
       intro w'
       go_simp
       with_reducible rfl
      rotate_left
      ·
       simp only [Act.put, List.setIfInBounds_toArray, List.set_cons_zero, List.set_cons_succ, i64_w, i32_w]
       rfl
      refine one_ (i := 7) (N := none) (bm 9 255) rfl rfl (one_of HT_.out (by kernel_rfl)) (by decide) (fun K hK => ?_)
      have hs19 : w18.cell? ⟨gb176, 0, none⟩ = some (.int .i64 0) := bc_
      have hfs19 := blk_frozen BK176.out 0
      have hs20 : w18.cell? ⟨gb176, 1, none⟩ = some (.int .i64 0) := bc_
      have hfs20 := blk_frozen BK176.out 1
      refine skip_ (w1 := ?_) (by rfl) rfl ?_ ?_
      rotate_left
      ·
       go_simp
       rfl
      refine hK.out _ _ trivial (fun hHeld => ?_)
      clear hK K
      refine pure_ (i := 8) (N := some 5) (v := ?_) (a' := ?_) (bm 9 511) rfl rfl (any_of HT_.out (by kernel_rfl)) (fun _ _ _ h => h) (Or.inl ⟨by rfl, ?_⟩) ?_ ?_
      rotate_left
      ·
       intro w'
       go_simp
       with_reducible rfl
      rotate_left
      ·
       simp only [Act.put, List.setIfInBounds_toArray, List.set_cons_zero, List.set_cons_succ, i64_w, i32_w]
       rfl
      refine done_ (done_of HT_.out (by kernel_rfl)) ?_
      try go_wp2
      refine bodyPost_ret (results_ct rfl _ _ gb176 25 #[.int .i64 (wrap64 (Int.tdiv a0 t177)), .int .i64 (wrap64 (Int.tdiv a1 t177))] (0, 0) _ rfl (by (with_reducible repeat (first | refine blk_drewN ?_ _ | refine blk_drew ?_ | refine blk_alloc ?_ _)); refine blk_put (cs := #[.int .i64 (wrap64 (Int.tdiv a0 t177)), .int .i64 0]) ?_ 1 _ rfl; (with_reducible repeat (first | refine blk_drewN ?_ _ | refine blk_drew ?_ | refine blk_alloc ?_ _)); refine blk_put (cs := #[.int .i64 0, .int .i64 0]) ?_ 0 _ rfl; (with_reducible repeat (first | refine blk_drewN ?_ _ | refine blk_drew ?_ | refine blk_alloc ?_ _)); exact BK176.out) Tryd.underlying25 rfl (by kernel_rfl)) rfl ?_
      exact ⟨by first | rfl | (simp [errW_none, errW_some] <;> rfl) | (simp [*, errW_none, errW_some] <;> rfl), hB_⟩
end Go.Proofs.YtnponnkcfgjeoaaDoor.X
end
section
namespace Go.Proofs.YtnponnkcfgjeoaaDoor.X
open Go.RowKit Go.Proofs.YtnponnkcfgjeoaaDoorW.PrintWords Go.Proofs.YtnponnkcfgjeoaaDoorW.PrintLast Go.Proofs.YtnponnkcfgjeoaaDoorW.PrintMore
attribute [local go_sem] max2_int min2_int max_two min_two max_three min_three max_four min_four
set_option linter.unusedVariables false
set_option linter.unusedSimpArgs false
def spec_l2Has.f (a0_0 : Int) (a0_1 : Int) (a0_2 : Int) (a0_3 : Int) (a1_0 : Int) (a1_1 : Int) : Option (Bool) := (spec_l2Cross.f a0_0 a0_1 a0_2 a0_3 a1_0 a1_1).bind fun t427 => (if t427 = 0 then ((spec_l2Dot.f a0_0 a0_1 a0_2 a0_3 a1_0 a1_1).bind fun t428 => ((spec_l2Dot.f a0_0 a0_1 a0_2 a0_3 a0_2 a0_3).bind fun t429 => ((spec_l6In.f t428 0 t429).bind fun t430 => (some t430)))) else (some false))
def spec_l2Has.T1 : Bool × List (List Nat × List Nat) := (true, [([], []), ([0], [0]), ([], []), ([2], [2]), ([], []), ([1, 3, 4], [1, 3, 4]), ([5], [5]), ([6, 5], [6]), ([7], [7]), ([8, 7], [7, 8]), ([7], [7]), ([10, 7], [7, 10]), ([7], [7]), ([9, 11, 12, 7, 7], [7, 9, 11, 12]), ([7], [7]), ([14, 7], [7, 14]), ([7], [7]), ([16, 7], [7, 16]), ([7], [7]), ([18, 7], [7, 18]), ([15, 17, 19, 13, 7], [7, 15, 17, 19]), ([13, 20, 20, 7], [7, 13, 20]), ([7, 21], [7, 21]), ([22, 21, 0, 1, 2, 3, 4, 5, 6, 7, 8, 9, 10, 11, 12, 13, 14, 15, 16, 17, 18, 19, 20, 21, 22], [22])])
def spec_l2Has.B1 : List Nat := [0, 1, 0, 4, 0, 31, 63, 127, 255, 511, 255, 1279, 255, 8191, 255, 16639, 255, 65791, 255, 262399, 1048575, 2097151, 4194303, 8388607]
theorem spec_l2Has.tab1 : rtab .any (opsOf Tryd.f75 1) = spec_l2Has.T1 := by kernel_rfl
theorem spec_l2Has.bits1 : waitsOk spec_l2Has.T1.2 spec_l2Has.B1 = true := by kernel_rfl
set_option maxHeartbeats 8000000 in
set_option maxRecDepth 100000 in
theorem spec_l2Has.calls (a0_0 : Int) (a0_1 : Int) (a0_2 : Int) (a0_3 : Int) (a1_0 : Int) (a1_1 : Int) (r : Bool) (w : World) (h : spec_l2Has.f a0_0 a0_1 a0_2 a0_3 a1_0 a1_1 = some r) :
  Calls Tryd.prog 75 #[.agg #[.int .i64 a0_0, .int .i64 a0_1, .int .i64 a0_2, .int .i64 a0_3], .agg #[.int .i64 a1_0, .int .i64 a1_1]] w fun e w' => e = .returned (.bool r) ∧ Below w.heap.size w w' := by
 have hu40 := Tryd.underlying40
 have hu38 := Tryd.underlying38
 have HB := Aside0.mk (Below.refl w.heap.size w)
 have H : ((spec_l2Cross.f a0_0 a0_1 a0_2 a0_3 a1_0 a1_1).bind fun t427 => (if t427 = 0 then ((spec_l2Dot.f a0_0 a0_1 a0_2 a0_3 a1_0 a1_1).bind fun t428 => ((spec_l2Dot.f a0_0 a0_1 a0_2 a0_3 a0_2 a0_3).bind fun t429 => ((spec_l6In.f t428 0 t429).bind fun t430 => (some t430)))) else (some false))) = some r := h
 clear h
 replace H := Option.bind_eq_some_iff.mp H
 obtain ⟨t427, A30, H⟩ := H
 replace H : (if t427 = 0 then ((spec_l2Dot.f a0_0 a0_1 a0_2 a0_3 a1_0 a1_1).bind fun t428 => ((spec_l2Dot.f a0_0 a0_1 a0_2 a0_3 a0_2 a0_3).bind fun t429 => ((spec_l6In.f t428 0 t429).bind fun t430 => (some t430)))) else (some false)) = some r := H
 have A3 := Aside0.mk A30
 clear A30
 by_cases c4 : t427 = 0
 ·
  rw [if_pos c4] at H
  have c4b0 : (t427 == 0) = true := beq_iff_eq.mpr c4
  have c4b1 : (t427 != 0) = false := bne_eq_false_iff_eq.mpr c4
  clear c4
  replace H := Option.bind_eq_some_iff.mp H
  obtain ⟨t428, A50, H⟩ := H
  replace H : ((spec_l2Dot.f a0_0 a0_1 a0_2 a0_3 a0_2 a0_3).bind fun t429 => ((spec_l6In.f t428 0 t429).bind fun t430 => (some t430))) = some r := H
  have A5 := Aside0.mk A50
  clear A50
  replace H := Option.bind_eq_some_iff.mp H
  obtain ⟨t429, A60, H⟩ := H
  replace H : ((spec_l6In.f t428 0 t429).bind fun t430 => (some t430)) = some r := H
  have A6 := Aside0.mk A60
  clear A60
  replace H := Option.bind_eq_some_iff.mp H
  obtain ⟨t430, A70, H⟩ := H
  replace H : (some t430) = some r := H
  have A7 := Aside0.mk A70
  clear A70
  obtain rfl := Option.some.inj H
  go_enter Tryd.func75, Tryd.ntmps75
  try go_wp2_with (first | ((with_reducible refine gate_dst (N := 2) rfl ?_); refine box_event ?hg (N := 2) ?hd (cs := #[.int .i64 a0_0, .int .i64 a0_1, .int .i64 a0_2, .int .i64 a0_3]) (t := 40) ?hr ?_; (case hd => rfl); (case hg => rfl); (case hr => first | (go_simp; done) | (go_simp; rfl)); intro gb425 hg w8 hbox hb; have n0_ := Aside0.mk (below_step hB_ hb); have n1_ := Aside0.mk (hbox); have n2_ := Aside0.mk ((by rw [hg]; exact (below_size hB_) : w.heap.size ≤ gb425)); have n3_ := Aside0.mk ((by rw [hg]; exact (below_size hB_) : w.heap.size ≤ gb425)); clear HB; have HB := n0_; have BK425 := n1_; have GW425 := n2_; have GE425 := n3_; clear n0_ n1_ n2_ n3_; clear hb hbox hg) | ((with_reducible refine gate_dst (N := 3) rfl ?_); refine box_event ?hg (N := 3) ?hd (cs := #[.int .i64 a1_0, .int .i64 a1_1]) (t := 38) ?hr ?_; (case hd => rfl); (case hg => rfl); (case hr => first | (go_simp; done) | (go_simp; rfl)); intro gb426 hg w9 hbox hb; have n0_ := Aside0.mk (ub_ (g := gb425) hb); have n1_ := Aside0.mk (below_step hB_ hb); have n2_ := Aside0.mk (hbox); have n3_ := Aside0.mk ((by rw [hg]; exact (below_size hB_) : w.heap.size ≤ gb426)); have n4_ := Aside0.mk ((by rw [hg]; exact (below_size hB_) : w.heap.size ≤ gb426)); have n5_ := Aside0.mk ((by rw [hg]; exact Nat.ne_of_lt (blk_lt (g := gb425) (o := .cells #[.int .i64 a0_0, .int .i64 a0_1, .int .i64 a0_2, .int .i64 a0_3] 40 (0, 0)) uq_) : gb425 ≠ gb426)); have n6_ := Aside0.mk ((by rw [hg]; exact Nat.ne_of_gt (blk_lt (g := gb425) (o := .cells #[.int .i64 a0_0, .int .i64 a0_1, .int .i64 a0_2, .int .i64 a0_3] 40 (0, 0)) uq_) : gb426 ≠ gb425)); clear BK425; clear HB; have BK425 := n0_; have HB := n1_; have BK426 := n2_; have GW426 := n3_; have GE426 := n4_; have NB425_426 := n5_; have NB426_425 := n6_; clear n0_ n1_ n2_ n3_ n4_ n5_ n6_; clear hb hbox hg))
  have n0_ := Aside0.mk (blk_drew BK425.out)
  have n1_ := Aside0.mk (blk_drew BK426.out)
  have n2_ := Aside0.mk (below_drew1 HB.out)
  clear BK425 BK426 HB
  have BK425 := n0_
  have BK426 := n1_
  have HB := n2_
  clear n0_ n1_ n2_
  refine start_ (n := 24) (S := fun w' => w'.cell? ⟨gb425, 0, none⟩ = some (.int .i64 a0_0) ∧ w'.cell? ⟨gb425, 1, none⟩ = some (.int .i64 a0_1) ∧ w'.cell? ⟨gb425, 2, none⟩ = some (.int .i64 a0_2) ∧ w'.cell? ⟨gb425, 3, none⟩ = some (.int .i64 a0_3) ∧ w'.cell? ⟨gb426, 0, none⟩ = some (.int .i64 a1_0) ∧ w'.cell? ⟨gb426, 1, none⟩ = some (.int .i64 a1_1)) (ds := []) #[false, false, false, false, false, false, false, false, false, false, false, false, false, false, false, false, false, false, false, false, false, false, false, false] (by kernel_rfl) rfl rfl ⟨bc_, bc_, bc_, bc_, bc_, bc_⟩ (fun hHeld => ?_); refine with_tabW spec_l2Has.tab1 spec_l2Has.bits1 (fun HT_ HW_ => ?_)
  generalize w9.drew = w10 at BK425 BK426 HB hHeld ⊢
  refine pure_ (i := 0) (N := some 5) (v := ?_) (a' := ?_) (bm 24 1) rfl rfl (any_of HT_.out (by kernel_rfl)) (fun _ _ _ h => h) (Or.inl ⟨by rfl, ?_⟩) ?_ ?_
  rotate_left
  ·
   intro w'
   go_simp
   with_reducible rfl
  rotate_left
  ·
   simp only [Act.put, List.setIfInBounds_toArray, List.set_cons_zero, List.set_cons_succ, i64_w, i32_w]
   rfl
  refine pure_ (i := 2) (N := some 7) (v := ?_) (a' := ?_) (bm 24 5) rfl rfl (any_of HT_.out (by kernel_rfl)) (fun _ _ _ h => h) (Or.inl ⟨by rfl, ?_⟩) ?_ ?_
  rotate_left
  ·
   intro w'
   go_simp
   with_reducible rfl
  rotate_left
  ·
   simp only [Act.put, List.setIfInBounds_toArray, List.set_cons_zero, List.set_cons_succ, i64_w, i32_w]
   rfl
  refine take_ (i := 1) (N := some 6) (v := ?_) (a' := ?_) (bm 24 7) rfl rfl (take_ofW HT_.out HW_.out (by kernel_rfl)) (fun _ _ _ h => h) (Or.inl ⟨by rfl, ?_⟩) hHeld ?_ ?_
  rotate_left
  ·
   rintro w' ⟨s0, s1, s2, s3, s4, s5⟩
   go_simp
   with_reducible rfl
  rotate_left
  ·
   simp only [Act.put, List.setIfInBounds_toArray, List.set_cons_zero, List.set_cons_succ, i64_w, i32_w]
   rfl
  refine take_ (i := 3) (N := some 8) (v := ?_) (a' := ?_) (bm 24 15) rfl rfl (take_ofW HT_.out HW_.out (by kernel_rfl)) (fun _ _ _ h => h) (Or.inl ⟨by rfl, ?_⟩) hHeld ?_ ?_
  rotate_left
  ·
   rintro w' ⟨s0, s1, s2, s3, s4, s5⟩
   go_simp
   with_reducible rfl
  rotate_left
  ·
   simp only [Act.put, List.setIfInBounds_toArray, List.set_cons_zero, List.set_cons_succ, i64_w, i32_w]
   rfl
  refine take_ (i := 4) (N := some 9) (v := ?_) (a' := ?_) (bm 24 31) rfl rfl (take_ofW HT_.out HW_.out (by kernel_rfl)) (fun _ _ _ h => h) (Or.inl ⟨by rfl, ?_⟩) hHeld ?_ ?_
  rotate_left
  ·
   rintro w' ⟨s0, s1, s2, s3, s4, s5⟩
   go_simp
   with_reducible rfl
  rotate_left
  ·
   simp only [Act.put, List.setIfInBounds_toArray, List.set_cons_zero, List.set_cons_succ, i64_w, i32_w]
   rfl
  refine one_ (i := 5) (N := some 10) (bm 24 63) rfl rfl (one_of HT_.out (by kernel_rfl)) (by decide) (fun K hK => ?_)
  refine goes_ Tryd.func71 (by kernel_rfl) rfl #[.agg #[.int .i64 a0_0, .int .i64 a0_1], .agg #[.int .i64 a0_2, .int .i64 a0_3], .agg #[.int .i64 a1_0, .int .i64 a1_1]] (by rfl) rfl rfl ma_ ?_
  with_reducible refine (spec_l2Cross.calls a0_0 a0_1 a0_2 a0_3 a1_0 a1_1 t427 _ A3.out).mono ?_
  rintro e w11 ⟨rfl, hb⟩
  refine ⟨_, rfl, ?_⟩
  have n0_ := Aside0.mk (ub_ (g := gb425) hb)
  have n1_ := Aside0.mk (ub_ (g := gb426) hb)
  have n2_ := Aside0.mk (below_step hB_ hb)
  clear BK425 BK426 HB
  have BK425 := n0_
  have BK426 := n1_
  have HB := n2_
  clear n0_ n1_ n2_
  (try clear hb)
  (try clear hb2)
  (try clear hk)
  (try clear hi)
  refine hK.out _ _ ⟨bc_, bc_, bc_, bc_, bc_, bc_⟩ (fun hHeld => ?_)
  clear hK K
  refine norm_ (a' := ?_) ?_ ?_
  rotate_left
  ·
   show Act.put _ (some 10) _ = _
   simp only [Act.put, List.setIfInBounds_toArray, List.set_cons_zero, List.set_cons_succ, i64_w, i32_w]
   rfl
  refine pure_ (i := 6) (N := some 11) (v := ?_) (a' := ?_) (bm 24 127) rfl rfl (any_of HT_.out (by kernel_rfl)) (fun _ _ _ h => h) (Or.inl ⟨by rfl, ?_⟩) ?_ ?_
  rotate_left
  ·
   intro w'
   go_simp
   with_reducible rfl
  rotate_left
  ·
   simp only [Act.put, List.setIfInBounds_toArray, List.set_cons_zero, List.set_cons_succ, i64_w, i32_w]
   rfl
  refine pure_ (i := 7) (N := some 12) (v := ?_) (a' := ?_) (bm 24 255) rfl rfl (any_of HT_.out (by kernel_rfl)) (fun _ _ _ h => h) (Or.inl ⟨by rfl, ?_⟩) ?_ ?_
  rotate_left
  ·
   intro w'
   go_simp
   with_reducible rfl
  rotate_left
  ·
   simp only [Act.put, List.setIfInBounds_toArray, List.set_cons_zero, List.set_cons_succ, i64_w, i32_w]
   rfl
  refine pure_ (i := 8) (N := some 13) (v := ?_) (a' := ?_) (bm 24 511) rfl rfl (any_of HT_.out (by kernel_rfl)) (fun _ _ _ h => h) (Or.inl ⟨by rfl, ?_⟩) ?_ ?_
  rotate_left
  ·
   intro w'
   go_simp
   with_reducible rfl
  rotate_left
  ·
   simp only [Act.put, List.setIfInBounds_toArray, List.set_cons_zero, List.set_cons_succ, i64_w, i32_w]
   rfl
  refine pure_ (i := 10) (N := some 15) (v := ?_) (a' := ?_) (bm 24 1535) rfl rfl (any_of HT_.out (by kernel_rfl)) (fun _ _ _ h => h) (Or.inl ⟨by rfl, ?_⟩) ?_ ?_
  rotate_left
  ·
   intro w'
   go_simp
   with_reducible rfl
  rotate_left
  ·
   simp only [Act.put, List.setIfInBounds_toArray, List.set_cons_zero, List.set_cons_succ, i64_w, i32_w]
   rfl
  refine pure_ (i := 14) (N := some 19) (v := ?_) (a' := ?_) (bm 24 17919) rfl rfl (any_of HT_.out (by kernel_rfl)) (fun _ _ _ h => h) (Or.inl ⟨by rfl, ?_⟩) ?_ ?_
  rotate_left
  ·
   intro w'
   go_simp
   with_reducible rfl
  rotate_left
  ·
   simp only [Act.put, List.setIfInBounds_toArray, List.set_cons_zero, List.set_cons_succ, i64_w, i32_w]
   rfl
  refine pure_ (i := 16) (N := some 21) (v := ?_) (a' := ?_) (bm 24 83455) rfl rfl (any_of HT_.out (by kernel_rfl)) (fun _ _ _ h => h) (Or.inl ⟨by rfl, ?_⟩) ?_ ?_
  rotate_left
  ·
   intro w'
   go_simp
   with_reducible rfl
  rotate_left
  ·
   simp only [Act.put, List.setIfInBounds_toArray, List.set_cons_zero, List.set_cons_succ, i64_w, i32_w]
   rfl
  refine pure_ (i := 18) (N := some 23) (v := ?_) (a' := ?_) (bm 24 345599) rfl rfl (any_of HT_.out (by kernel_rfl)) (fun _ _ _ h => h) (Or.inl ⟨by rfl, ?_⟩) ?_ ?_
  rotate_left
  ·
   intro w'
   go_simp
   with_reducible rfl
  rotate_left
  ·
   simp only [Act.put, List.setIfInBounds_toArray, List.set_cons_zero, List.set_cons_succ, i64_w, i32_w]
   rfl
  refine take_ (i := 9) (N := some 14) (v := ?_) (a' := ?_) (bm 24 346111) rfl rfl (take_ofW HT_.out HW_.out (by kernel_rfl)) (fun _ _ _ h => h) (Or.inl ⟨by rfl, ?_⟩) hHeld ?_ ?_
  rotate_left
  ·
   rintro w' ⟨s0, s1, s2, s3, s4, s5⟩
   go_simp
   with_reducible rfl
  rotate_left
  ·
   simp only [Act.put, List.setIfInBounds_toArray, List.set_cons_zero, List.set_cons_succ, i64_w, i32_w]
   rfl
  refine take_ (i := 11) (N := some 16) (v := ?_) (a' := ?_) (bm 24 348159) rfl rfl (take_ofW HT_.out HW_.out (by kernel_rfl)) (fun _ _ _ h => h) (Or.inl ⟨by rfl, ?_⟩) hHeld ?_ ?_
  rotate_left
  ·
   rintro w' ⟨s0, s1, s2, s3, s4, s5⟩
   go_simp
   with_reducible rfl
  rotate_left
  ·
   simp only [Act.put, List.setIfInBounds_toArray, List.set_cons_zero, List.set_cons_succ, i64_w, i32_w]
   rfl
  refine take_ (i := 12) (N := some 17) (v := ?_) (a' := ?_) (bm 24 352255) rfl rfl (take_ofW HT_.out HW_.out (by kernel_rfl)) (fun _ _ _ h => h) (Or.inl ⟨by rfl, ?_⟩) hHeld ?_ ?_
  rotate_left
  ·
   rintro w' ⟨s0, s1, s2, s3, s4, s5⟩
   go_simp
   with_reducible rfl
  rotate_left
  ·
   simp only [Act.put, List.setIfInBounds_toArray, List.set_cons_zero, List.set_cons_succ, i64_w, i32_w]
   rfl
  refine take_ (i := 15) (N := some 20) (v := ?_) (a' := ?_) (bm 24 385023) rfl rfl (take_ofW HT_.out HW_.out (by kernel_rfl)) (fun _ _ _ h => h) (Or.inl ⟨by rfl, ?_⟩) hHeld ?_ ?_
  rotate_left
  ·
   rintro w' ⟨s0, s1, s2, s3, s4, s5⟩
   go_simp
   with_reducible rfl
  rotate_left
  ·
   simp only [Act.put, List.setIfInBounds_toArray, List.set_cons_zero, List.set_cons_succ, i64_w, i32_w]
   rfl
  refine take_ (i := 17) (N := some 22) (v := ?_) (a' := ?_) (bm 24 516095) rfl rfl (take_ofW HT_.out HW_.out (by kernel_rfl)) (fun _ _ _ h => h) (Or.inl ⟨by rfl, ?_⟩) hHeld ?_ ?_
  rotate_left
  ·
   rintro w' ⟨s0, s1, s2, s3, s4, s5⟩
   go_simp
   with_reducible rfl
  rotate_left
  ·
   simp only [Act.put, List.setIfInBounds_toArray, List.set_cons_zero, List.set_cons_succ, i64_w, i32_w]
   rfl
  refine take_ (i := 19) (N := some 24) (v := ?_) (a' := ?_) (bm 24 1040383) rfl rfl (take_ofW HT_.out HW_.out (by kernel_rfl)) (fun _ _ _ h => h) (Or.inl ⟨by rfl, ?_⟩) hHeld ?_ ?_
  rotate_left
  ·
   rintro w' ⟨s0, s1, s2, s3, s4, s5⟩
   go_simp
   with_reducible rfl
  rotate_left
  ·
   simp only [Act.put, List.setIfInBounds_toArray, List.set_cons_zero, List.set_cons_succ, i64_w, i32_w]
   rfl
  refine one_ (i := 13) (N := some 18) (bm 24 1048575) rfl rfl (one_of HT_.out (by kernel_rfl)) (by decide) (fun K hK => ?_)
  refine goes_ Tryd.func70 (by kernel_rfl) rfl #[.agg #[.int .i64 a0_0, .int .i64 a0_1], .agg #[.int .i64 a0_2, .int .i64 a0_3], .agg #[.int .i64 a1_0, .int .i64 a1_1]] (by rfl) rfl rfl ma_ ?_
  with_reducible refine (spec_l2Dot.calls a0_0 a0_1 a0_2 a0_3 a1_0 a1_1 t428 _ A5.out).mono ?_
  rintro e w12 ⟨rfl, hb⟩
  refine ⟨_, rfl, ?_⟩
  have n0_ := Aside0.mk (ub_ (g := gb425) hb)
  have n1_ := Aside0.mk (ub_ (g := gb426) hb)
  have n2_ := Aside0.mk (below_step hB_ hb)
  clear BK425 BK426 HB
  have BK425 := n0_
  have BK426 := n1_
  have HB := n2_
  clear n0_ n1_ n2_
  (try clear hb)
  (try clear hb2)
  (try clear hk)
  (try clear hi)
  refine hK.out _ _ ⟨bc_, bc_, bc_, bc_, bc_, bc_⟩ (fun hHeld => ?_)
  clear hK K
  refine norm_ (a' := ?_) ?_ ?_
  rotate_left
  ·
   show Act.put _ (some 18) _ = _
   simp only [Act.put, List.setIfInBounds_toArray, List.set_cons_zero, List.set_cons_succ, i64_w, i32_w]
   rfl
  refine one_ (i := 20) (N := some 25) (bm 24 2097151) rfl rfl (one_of HT_.out (by kernel_rfl)) (by decide) (fun K hK => ?_)
  refine goes_ Tryd.func70 (by kernel_rfl) rfl #[.agg #[.int .i64 a0_0, .int .i64 a0_1], .agg #[.int .i64 a0_2, .int .i64 a0_3], .agg #[.int .i64 a0_2, .int .i64 a0_3]] (by rfl) rfl rfl ma_ ?_
  with_reducible refine (spec_l2Dot.calls a0_0 a0_1 a0_2 a0_3 a0_2 a0_3 t429 _ A6.out).mono ?_
  rintro e w13 ⟨rfl, hb⟩
  refine ⟨_, rfl, ?_⟩
  have n0_ := Aside0.mk (ub_ (g := gb425) hb)
  have n1_ := Aside0.mk (ub_ (g := gb426) hb)
  have n2_ := Aside0.mk (below_step hB_ hb)
  clear BK425 BK426 HB
  have BK425 := n0_
  have BK426 := n1_
  have HB := n2_
  clear n0_ n1_ n2_
  (try clear hb)
  (try clear hb2)
  (try clear hk)
  (try clear hi)
  refine hK.out _ _ ⟨bc_, bc_, bc_, bc_, bc_, bc_⟩ (fun hHeld => ?_)
  clear hK K
  refine norm_ (a' := ?_) ?_ ?_
  rotate_left
  ·
   show Act.put _ (some 25) _ = _
   simp only [Act.put, List.setIfInBounds_toArray, List.set_cons_zero, List.set_cons_succ, i64_w, i32_w]
   rfl
  refine one_ (i := 21) (N := some 26) (bm 24 4194303) rfl rfl (one_of HT_.out (by kernel_rfl)) (by decide) (fun K hK => ?_)
  refine goes_ Tryd.func45 (by kernel_rfl) rfl #[.int .i64 t428, .int .i64 0, .int .i64 t429] (by rfl) rfl rfl ma_ ?_
  with_reducible refine (spec_l6In.calls t428 0 t429 t430 _ A7.out).mono ?_
  rintro e w' ⟨rfl, ⟨nd, rfl⟩⟩
  refine ⟨_, rfl, ?_⟩
  refine hK.out _ _ ⟨bc_, bc_, bc_, bc_, bc_, bc_⟩ (fun hHeld => ?_)
  clear hK K
  refine norm_ (a' := ?_) ?_ ?_
  rotate_left
  ·
   show Act.put _ (some 26) _ = _
   simp only [Act.put, List.setIfInBounds_toArray, List.set_cons_zero, List.set_cons_succ, i64_w, i32_w]
   rfl
  refine pure_ (i := 22) (N := some 27) (v := ?_) (a' := ?_) (bm 24 8388607) rfl rfl (any_of HT_.out (by kernel_rfl)) (fun _ _ _ h => h) (Or.inl ⟨by rfl, ?_⟩) ?_ ?_
  rotate_left
  ·
   intro w'
   go_simp
   with_reducible rfl
  rotate_left
  ·
   simp only [Act.put, List.setIfInBounds_toArray, List.set_cons_zero, List.set_cons_succ, i64_w, i32_w]
   rfl
  refine pure_ (i := 23) (N := some 4) (v := ?_) (a' := ?_) (bm 24 16777215) rfl rfl (any_of HT_.out (by kernel_rfl)) (fun _ _ _ h => h) (Or.inl ⟨by rfl, ?_⟩) ?_ ?_
  rotate_left
  ·
   intro w'
   go_simp
   with_reducible rfl
  rotate_left
  ·
   simp only [Act.put, List.setIfInBounds_toArray, List.set_cons_zero, List.set_cons_succ, i64_w, i32_w]
   rfl
  refine done_ (done_of HT_.out (by kernel_rfl)) ?_
  try go_wp2
  go_ret
  exact ⟨by first | rfl | (simp [errW_none, errW_some] <;> rfl) | (simp [*, errW_none, errW_some] <;> rfl), hB_⟩
 ·
  rw [if_neg c4] at H
  have c4b0 : (t427 == 0) = false := beq_eq_false_iff_ne.mpr c4
  have c4b1 : (t427 != 0) = true := bne_iff_ne.mpr c4
  obtain rfl := Option.some.inj H
  go_enter Tryd.func75, Tryd.ntmps75
  try go_wp2_with (first | ((with_reducible refine gate_dst (N := 2) rfl ?_); refine box_event ?hg (N := 2) ?hd (cs := #[.int .i64 a0_0, .int .i64 a0_1, .int .i64 a0_2, .int .i64 a0_3]) (t := 40) ?hr ?_; (case hd => rfl); (case hg => rfl); (case hr => first | (go_simp; done) | (go_simp; rfl)); intro gb425 hg w14 hbox hb; have n0_ := Aside0.mk (below_step hB_ hb); have n1_ := Aside0.mk (hbox); have n2_ := Aside0.mk ((by rw [hg]; exact (below_size hB_) : w.heap.size ≤ gb425)); have n3_ := Aside0.mk ((by rw [hg]; exact (below_size hB_) : w.heap.size ≤ gb425)); clear HB; have HB := n0_; have BK425 := n1_; have GW425 := n2_; have GE425 := n3_; clear n0_ n1_ n2_ n3_; clear hb hbox hg) | ((with_reducible refine gate_dst (N := 3) rfl ?_); refine box_event ?hg (N := 3) ?hd (cs := #[.int .i64 a1_0, .int .i64 a1_1]) (t := 38) ?hr ?_; (case hd => rfl); (case hg => rfl); (case hr => first | (go_simp; done) | (go_simp; rfl)); intro gb426 hg w15 hbox hb; have n0_ := Aside0.mk (ub_ (g := gb425) hb); have n1_ := Aside0.mk (below_step hB_ hb); have n2_ := Aside0.mk (hbox); have n3_ := Aside0.mk ((by rw [hg]; exact (below_size hB_) : w.heap.size ≤ gb426)); have n4_ := Aside0.mk ((by rw [hg]; exact (below_size hB_) : w.heap.size ≤ gb426)); have n5_ := Aside0.mk ((by rw [hg]; exact Nat.ne_of_lt (blk_lt (g := gb425) (o := .cells #[.int .i64 a0_0, .int .i64 a0_1, .int .i64 a0_2, .int .i64 a0_3] 40 (0, 0)) uq_) : gb425 ≠ gb426)); have n6_ := Aside0.mk ((by rw [hg]; exact Nat.ne_of_gt (blk_lt (g := gb425) (o := .cells #[.int .i64 a0_0, .int .i64 a0_1, .int .i64 a0_2, .int .i64 a0_3] 40 (0, 0)) uq_) : gb426 ≠ gb425)); clear BK425; clear HB; have BK425 := n0_; have HB := n1_; have BK426 := n2_; have GW426 := n3_; have GE426 := n4_; have NB425_426 := n5_; have NB426_425 := n6_; clear n0_ n1_ n2_ n3_ n4_ n5_ n6_; clear hb hbox hg))
  have n0_ := Aside0.mk (blk_drew BK425.out)
  have n1_ := Aside0.mk (blk_drew BK426.out)
  have n2_ := Aside0.mk (below_drew1 HB.out)
  clear BK425 BK426 HB
  have BK425 := n0_
  have BK426 := n1_
  have HB := n2_
  clear n0_ n1_ n2_
  refine start_ (n := 24) (S := fun w' => w'.cell? ⟨gb425, 0, none⟩ = some (.int .i64 a0_0) ∧ w'.cell? ⟨gb425, 1, none⟩ = some (.int .i64 a0_1) ∧ w'.cell? ⟨gb425, 2, none⟩ = some (.int .i64 a0_2) ∧ w'.cell? ⟨gb425, 3, none⟩ = some (.int .i64 a0_3) ∧ w'.cell? ⟨gb426, 0, none⟩ = some (.int .i64 a1_0) ∧ w'.cell? ⟨gb426, 1, none⟩ = some (.int .i64 a1_1)) (ds := []) #[false, false, false, false, false, false, false, false, false, false, false, false, false, false, false, false, false, false, false, false, false, false, false, false] (by kernel_rfl) rfl rfl ⟨bc_, bc_, bc_, bc_, bc_, bc_⟩ (fun hHeld => ?_); refine with_tabW spec_l2Has.tab1 spec_l2Has.bits1 (fun HT_ HW_ => ?_)
  generalize w15.drew = w16 at BK425 BK426 HB hHeld ⊢
  refine pure_ (i := 0) (N := some 5) (v := ?_) (a' := ?_) (bm 24 1) rfl rfl (any_of HT_.out (by kernel_rfl)) (fun _ _ _ h => h) (Or.inl ⟨by rfl, ?_⟩) ?_ ?_
  rotate_left
  ·
   intro w'
   go_simp
   with_reducible rfl
  rotate_left
  ·
   simp only [Act.put, List.setIfInBounds_toArray, List.set_cons_zero, List.set_cons_succ, i64_w, i32_w]
   rfl
  refine pure_ (i := 2) (N := some 7) (v := ?_) (a' := ?_) (bm 24 5) rfl rfl (any_of HT_.out (by kernel_rfl)) (fun _ _ _ h => h) (Or.inl ⟨by rfl, ?_⟩) ?_ ?_
  rotate_left
  ·
   intro w'
   go_simp
   with_reducible rfl
  rotate_left
  ·
   simp only [Act.put, List.setIfInBounds_toArray, List.set_cons_zero, List.set_cons_succ, i64_w, i32_w]
   rfl
  refine take_ (i := 1) (N := some 6) (v := ?_) (a' := ?_) (bm 24 7) rfl rfl (take_ofW HT_.out HW_.out (by kernel_rfl)) (fun _ _ _ h => h) (Or.inl ⟨by rfl, ?_⟩) hHeld ?_ ?_
  rotate_left
  ·
   rintro w' ⟨s0, s1, s2, s3, s4, s5⟩
   go_simp
   with_reducible rfl
  rotate_left
  ·
   simp only [Act.put, List.setIfInBounds_toArray, List.set_cons_zero, List.set_cons_succ, i64_w, i32_w]
   rfl
  refine take_ (i := 3) (N := some 8) (v := ?_) (a' := ?_) (bm 24 15) rfl rfl (take_ofW HT_.out HW_.out (by kernel_rfl)) (fun _ _ _ h => h) (Or.inl ⟨by rfl, ?_⟩) hHeld ?_ ?_
  rotate_left
  ·
   rintro w' ⟨s0, s1, s2, s3, s4, s5⟩
   go_simp
   with_reducible rfl
  rotate_left
  ·
   simp only [Act.put, List.setIfInBounds_toArray, List.set_cons_zero, List.set_cons_succ, i64_w, i32_w]
   rfl
  refine take_ (i := 4) (N := some 9) (v := ?_) (a' := ?_) (bm 24 31) rfl rfl (take_ofW HT_.out HW_.out (by kernel_rfl)) (fun _ _ _ h => h) (Or.inl ⟨by rfl, ?_⟩) hHeld ?_ ?_
  rotate_left
  ·
   rintro w' ⟨s0, s1, s2, s3, s4, s5⟩
   go_simp
   with_reducible rfl
  rotate_left
  ·
   simp only [Act.put, List.setIfInBounds_toArray, List.set_cons_zero, List.set_cons_succ, i64_w, i32_w]
   rfl
  refine one_ (i := 5) (N := some 10) (bm 24 63) rfl rfl (one_of HT_.out (by kernel_rfl)) (by decide) (fun K hK => ?_)
  refine goes_ Tryd.func71 (by kernel_rfl) rfl #[.agg #[.int .i64 a0_0, .int .i64 a0_1], .agg #[.int .i64 a0_2, .int .i64 a0_3], .agg #[.int .i64 a1_0, .int .i64 a1_1]] (by rfl) rfl rfl ma_ ?_
  with_reducible refine (spec_l2Cross.calls a0_0 a0_1 a0_2 a0_3 a1_0 a1_1 t427 _ A3.out).mono ?_
  rintro e w17 ⟨rfl, hb⟩
  refine ⟨_, rfl, ?_⟩
  have n0_ := Aside0.mk (ub_ (g := gb425) hb)
  have n1_ := Aside0.mk (ub_ (g := gb426) hb)
  have n2_ := Aside0.mk (below_step hB_ hb)
  clear BK425 BK426 HB
  have BK425 := n0_
  have BK426 := n1_
  have HB := n2_
  clear n0_ n1_ n2_
  (try clear hb)
  (try clear hb2)
  (try clear hk)
  (try clear hi)
  refine hK.out _ _ ⟨bc_, bc_, bc_, bc_, bc_, bc_⟩ (fun hHeld => ?_)
  clear hK K
  refine norm_ (a' := ?_) ?_ ?_
  rotate_left
  ·
   show Act.put _ (some 10) _ = _
   simp only [Act.put, List.setIfInBounds_toArray, List.set_cons_zero, List.set_cons_succ, i64_w, i32_w]
   rfl
  refine pure_ (i := 6) (N := some 11) (v := ?_) (a' := ?_) (bm 24 127) rfl rfl (any_of HT_.out (by kernel_rfl)) (fun _ _ _ h => h) (Or.inl ⟨by rfl, ?_⟩) ?_ ?_
  rotate_left
  ·
   intro w'
   go_simp
   with_reducible rfl
  rotate_left
  ·
   simp only [Act.put, List.setIfInBounds_toArray, List.set_cons_zero, List.set_cons_succ, i64_w, i32_w]
   rfl
  refine pure_ (i := 7) (N := some 12) (v := ?_) (a' := ?_) (bm 24 255) rfl rfl (any_of HT_.out (by kernel_rfl)) (fun _ _ _ h => h) (Or.inl ⟨by rfl, ?_⟩) ?_ ?_
  rotate_left
  ·
   intro w'
   go_simp
   with_reducible rfl
  rotate_left
  ·
   simp only [Act.put, List.setIfInBounds_toArray, List.set_cons_zero, List.set_cons_succ, i64_w, i32_w]
   rfl
  refine pure_ (i := 8) (N := some 13) (v := undef) (a' := ?_) (bm 24 511) rfl rfl (any_of HT_.out (by kernel_rfl)) (fun _ _ _ h => h) (Or.inr ⟨by rfl, rfl⟩) ?_ ?_
  rotate_left
  ·
   simp only [Act.put, List.setIfInBounds_toArray, List.set_cons_zero, List.set_cons_succ, i64_w, i32_w]
   rfl
  refine pure_ (i := 9) (N := some 14) (v := undef) (a' := ?_) (bm 24 1023) rfl rfl (any_of HT_.out (by kernel_rfl)) (fun _ _ _ h => h) (Or.inr ⟨by rfl, rfl⟩) ?_ ?_
  rotate_left
  ·
   simp only [Act.put, List.setIfInBounds_toArray, List.set_cons_zero, List.set_cons_succ, i64_w, i32_w]
   rfl
  refine pure_ (i := 10) (N := some 15) (v := undef) (a' := ?_) (bm 24 2047) rfl rfl (any_of HT_.out (by kernel_rfl)) (fun _ _ _ h => h) (Or.inr ⟨by rfl, rfl⟩) ?_ ?_
  rotate_left
  ·
   simp only [Act.put, List.setIfInBounds_toArray, List.set_cons_zero, List.set_cons_succ, i64_w, i32_w]
   rfl
  refine pure_ (i := 11) (N := some 16) (v := undef) (a' := ?_) (bm 24 4095) rfl rfl (any_of HT_.out (by kernel_rfl)) (fun _ _ _ h => h) (Or.inr ⟨by rfl, rfl⟩) ?_ ?_
  rotate_left
  ·
   simp only [Act.put, List.setIfInBounds_toArray, List.set_cons_zero, List.set_cons_succ, i64_w, i32_w]
   rfl
  refine pure_ (i := 12) (N := some 17) (v := undef) (a' := ?_) (bm 24 8191) rfl rfl (any_of HT_.out (by kernel_rfl)) (fun _ _ _ h => h) (Or.inr ⟨by rfl, rfl⟩) ?_ ?_
  rotate_left
  ·
   simp only [Act.put, List.setIfInBounds_toArray, List.set_cons_zero, List.set_cons_succ, i64_w, i32_w]
   rfl
  refine pure_ (i := 13) (N := some 18) (v := undef) (a' := ?_) (bm 24 16383) rfl rfl (any_of HT_.out (by kernel_rfl)) (fun _ _ _ h => h) (Or.inr ⟨by rfl, rfl⟩) ?_ ?_
  rotate_left
  ·
   simp only [Act.put, List.setIfInBounds_toArray, List.set_cons_zero, List.set_cons_succ, i64_w, i32_w]
   rfl
  refine pure_ (i := 14) (N := some 19) (v := undef) (a' := ?_) (bm 24 32767) rfl rfl (any_of HT_.out (by kernel_rfl)) (fun _ _ _ h => h) (Or.inr ⟨by rfl, rfl⟩) ?_ ?_
  rotate_left
  ·
   simp only [Act.put, List.setIfInBounds_toArray, List.set_cons_zero, List.set_cons_succ, i64_w, i32_w]
   rfl
  refine pure_ (i := 15) (N := some 20) (v := undef) (a' := ?_) (bm 24 65535) rfl rfl (any_of HT_.out (by kernel_rfl)) (fun _ _ _ h => h) (Or.inr ⟨by rfl, rfl⟩) ?_ ?_
  rotate_left
  ·
   simp only [Act.put, List.setIfInBounds_toArray, List.set_cons_zero, List.set_cons_succ, i64_w, i32_w]
   rfl
  refine pure_ (i := 16) (N := some 21) (v := undef) (a' := ?_) (bm 24 131071) rfl rfl (any_of HT_.out (by kernel_rfl)) (fun _ _ _ h => h) (Or.inr ⟨by rfl, rfl⟩) ?_ ?_
  rotate_left
  ·
   simp only [Act.put, List.setIfInBounds_toArray, List.set_cons_zero, List.set_cons_succ, i64_w, i32_w]
   rfl
  refine pure_ (i := 17) (N := some 22) (v := undef) (a' := ?_) (bm 24 262143) rfl rfl (any_of HT_.out (by kernel_rfl)) (fun _ _ _ h => h) (Or.inr ⟨by rfl, rfl⟩) ?_ ?_
  rotate_left
  ·
   simp only [Act.put, List.setIfInBounds_toArray, List.set_cons_zero, List.set_cons_succ, i64_w, i32_w]
   rfl
  refine pure_ (i := 18) (N := some 23) (v := undef) (a' := ?_) (bm 24 524287) rfl rfl (any_of HT_.out (by kernel_rfl)) (fun _ _ _ h => h) (Or.inr ⟨by rfl, rfl⟩) ?_ ?_
  rotate_left
  ·
   simp only [Act.put, List.setIfInBounds_toArray, List.set_cons_zero, List.set_cons_succ, i64_w, i32_w]
   rfl
  refine pure_ (i := 19) (N := some 24) (v := undef) (a' := ?_) (bm 24 1048575) rfl rfl (any_of HT_.out (by kernel_rfl)) (fun _ _ _ h => h) (Or.inr ⟨by rfl, rfl⟩) ?_ ?_
  rotate_left
  ·
   simp only [Act.put, List.setIfInBounds_toArray, List.set_cons_zero, List.set_cons_succ, i64_w, i32_w]
   rfl
  refine pure_ (i := 20) (N := some 25) (v := undef) (a' := ?_) (bm 24 2097151) rfl rfl (any_of HT_.out (by kernel_rfl)) (fun _ _ _ h => h) (Or.inr ⟨by rfl, rfl⟩) ?_ ?_
  rotate_left
  ·
   simp only [Act.put, List.setIfInBounds_toArray, List.set_cons_zero, List.set_cons_succ, i64_w, i32_w]
   rfl
  refine pure_ (i := 21) (N := some 26) (v := undef) (a' := ?_) (bm 24 4194303) rfl rfl (any_of HT_.out (by kernel_rfl)) (fun _ _ _ h => h) (Or.inr ⟨by rfl, rfl⟩) ?_ ?_
  rotate_left
  ·
   simp only [Act.put, List.setIfInBounds_toArray, List.set_cons_zero, List.set_cons_succ, i64_w, i32_w]
   rfl
  refine pure_ (i := 22) (N := some 27) (v := ?_) (a' := ?_) (bm 24 8388607) rfl rfl (any_of HT_.out (by kernel_rfl)) (fun _ _ _ h => h) (Or.inl ⟨by rfl, ?_⟩) ?_ ?_
  rotate_left
  ·
   intro w'
   go_simp
   with_reducible rfl
  rotate_left
  ·
   simp only [Act.put, List.setIfInBounds_toArray, List.set_cons_zero, List.set_cons_succ, i64_w, i32_w]
   rfl
  refine pure_ (i := 23) (N := some 4) (v := ?_) (a' := ?_) (bm 24 16777215) rfl rfl (any_of HT_.out (by kernel_rfl)) (fun _ _ _ h => h) (Or.inl ⟨by rfl, ?_⟩) ?_ ?_
  rotate_left
  ·
   intro w'
   go_simp
   with_reducible rfl
  rotate_left
  ·
   simp only [Act.put, List.setIfInBounds_toArray, List.set_cons_zero, List.set_cons_succ, i64_w, i32_w]
   rfl
  refine done_ (done_of HT_.out (by kernel_rfl)) ?_
  try go_wp2
  go_ret
  exact ⟨by first | rfl | (simp [errW_none, errW_some] <;> rfl) | (simp [*, errW_none, errW_some] <;> rfl), hB_⟩
end Go.Proofs.YtnponnkcfgjeoaaDoor.X
end
section
namespace Go.Proofs.YtnponnkcfgjeoaaDoor.X
open Go.RowKit Go.Proofs.YtnponnkcfgjeoaaDoorW.PrintWords Go.Proofs.YtnponnkcfgjeoaaDoorW.PrintLast Go.Proofs.YtnponnkcfgjeoaaDoorW.PrintMore
attribute [local go_sem] max2_int min2_int max_two min_two max_three min_three max_four min_four
set_option linter.unusedVariables false
set_option linter.unusedSimpArgs false
def spec_l2Sign.f (a0 : Int) : Option (Int) := if a0 < 0 then (some (-1)) else (if a0 > 0 then (some 1) else (some 0))
set_option maxHeartbeats 8000000 in
set_option maxRecDepth 100000 in
theorem spec_l2Sign.calls (a0 : Int) (r : Int) (w : World) (h : spec_l2Sign.f a0 = some r) :
  Calls Tryd.prog 74 #[.int .i64 a0] w fun e w' => e = .returned (.int .i64 r) ∧ Drawn0 w w' := by
 have H : (if a0 < 0 then (some (-1)) else (if a0 > 0 then (some 1) else (some 0))) = some r := h
 clear h
 by_cases c2 : a0 < 0
 ·
  rw [if_pos c2] at H
  have c2b0 : decide (a0 < 0) = true := decide_eq_true c2
  clear c2
  obtain rfl := Option.some.inj H
  go_enter Tryd.func74, Tryd.ntmps74
  go_wp2
  go_ret
  exact ⟨by first | rfl | (simp; done) | (simp [*]; done), by repeat (first | exact Drawn0.refl _ | apply Drawn0.step)⟩
 ·
  rw [if_neg c2] at H
  have c2b0 : decide (a0 < 0) = false := decide_eq_false c2
  clear c2
  by_cases c3 : a0 > 0
  ·
   rw [if_pos c3] at H
   have c3b0 : decide (0 < a0) = true := decide_eq_true c3
   clear c3
   obtain rfl := Option.some.inj H
   go_enter Tryd.func74, Tryd.ntmps74
   go_wp2
   go_ret
   exact ⟨by first | rfl | (simp; done) | (simp [*]; done), by repeat (first | exact Drawn0.refl _ | apply Drawn0.step)⟩
  ·
   rw [if_neg c3] at H
   have c3b0 : decide (0 < a0) = false := decide_eq_false c3
   clear c3
   obtain rfl := Option.some.inj H
   go_enter Tryd.func74, Tryd.ntmps74
   go_wp2
   go_ret
   exact ⟨by first | rfl | (simp; done) | (simp [*]; done), by repeat (first | exact Drawn0.refl _ | apply Drawn0.step)⟩
end Go.Proofs.YtnponnkcfgjeoaaDoor.X
end
section
set_option linter.unusedVariables false
set_option linter.unusedSimpArgs false
namespace Go.Proofs.YtnponnkcfgjeoaaDoor.X
open Go.RowKit Go.Proofs.YtnponnkcfgjeoaaDoorW.PrintWords Go.Proofs.YtnponnkcfgjeoaaDoorW.PrintLast Go.Proofs.YtnponnkcfgjeoaaDoorW.PrintMore
open Mort
theorem iPtOk (x y : Int) : impl_PtOk.f x y = some (ptOk (x, y)) := by
  unfold impl_PtOk.f ptOk
  by_cases h1 : 0 ≤ x <;> by_cases h2 : x ≤ 9 <;> by_cases h3 : 0 ≤ y <;> by_cases h4 : y ≤ 9 <;> simp [h1, h2, h3, h4]
theorem sPtOk (x y : Int) : spec_PtOk.f x y = some (ptOk (x, y)) := by
  unfold spec_PtOk.f ptOk
  simp only [l6In_told, Option.bind_some]
  by_cases h1 : 0 ≤ x <;> by_cases h2 : x ≤ 9 <;> by_cases h3 : 0 ≤ y <;> by_cases h4 : y ≤ 9 <;> simp [h1, h2, h3, h4]
theorem iSegOk (a b c d : Int) : impl_SegOk.f a b c d = some (segOk ((a, b), (c, d))) := by
  unfold impl_SegOk.f segOk
  simp only [iPtOk, Option.bind_some]
  cases ptOk (a, b) <;> cases ptOk (c, d) <;> simp [Bool.not_and]
theorem sSegOk (a b c d : Int) : spec_SegOk.f a b c d = some (segOk ((a, b), (c, d))) := by
  unfold spec_SegOk.f segOk
  simp only [sPtOk, Option.bind_some]
  cases ptOk (a, b) <;> cases ptOk (c, d) <;> simp [Bool.not_and]
section
variable {a b c d e f : Int} (h1 : ptOk (a, b) = true) (h2 : ptOk (c, d) = true) (h3 : ptOk (e, f) = true)
include h1 h2 h3
theorem cross_nowrap : wrap64 ((wrap64 ((wrap64 (c - a)) * (wrap64 (f - b)))) - (wrap64 ((wrap64 (d - b)) * (wrap64 (e - a))))) = cross (a, b) (c, d) (e, f) := by
  rw [ptOk_iff] at h1 h2 h3
  simp only at h1 h2 h3
  rw [w64 (x := c - a) (by omega) (by omega), w64 (x := f - b) (by omega) (by omega), w64 (x := d - b) (by omega) (by omega), w64 (x := e - a) (by omega) (by omega)]
  have b1 := mul_bound (x := c - a) (y := f - b) (by omega) (by omega) (by omega) (by omega)
  have b2 := mul_bound (x := d - b) (y := e - a) (by omega) (by omega) (by omega) (by omega)
  rw [w64 (x := (c - a) * (f - b)) (by omega) (by omega), w64 (x := (d - b) * (e - a)) (by omega) (by omega), w64 (by omega) (by omega)]
  rfl
theorem dot_nowrap : wrap64 ((wrap64 ((wrap64 (c - a)) * (wrap64 (e - a)))) + (wrap64 ((wrap64 (d - b)) * (wrap64 (f - b))))) = dot (a, b) (c, d) (e, f) := by
  rw [ptOk_iff] at h1 h2 h3
  simp only at h1 h2 h3
  rw [w64 (x := c - a) (by omega) (by omega), w64 (x := f - b) (by omega) (by omega), w64 (x := d - b) (by omega) (by omega), w64 (x := e - a) (by omega) (by omega)]
  have b1 := mul_bound (x := c - a) (y := e - a) (by omega) (by omega) (by omega) (by omega)
  have b2 := mul_bound (x := d - b) (y := f - b) (by omega) (by omega) (by omega) (by omega)
  rw [w64 (x := (c - a) * (e - a)) (by omega) (by omega), w64 (x := (d - b) * (f - b)) (by omega) (by omega), w64 (by omega) (by omega)]
  rfl
theorem iCross : impl_cross.f a b c d e f = some (cross (a, b) (c, d) (e, f)) := congrArg some (cross_nowrap h1 h2 h3)
theorem iAlong : impl_along.f a b c d e f = some (dot (a, b) (c, d) (e, f)) := congrArg some (dot_nowrap h1 h2 h3)
theorem sCross : spec_l2Cross.f a b c d e f = some (cross (a, b) (c, d) (e, f)) := congrArg some (cross_nowrap h1 h2 h3)
theorem sDot : spec_l2Dot.f a b c d e f = some (dot (a, b) (c, d) (e, f)) := congrArg some (dot_nowrap h1 h2 h3)
end
theorem iBetween {a b c d : Int} (h1 : ptOk (a, b) = true) (h2 : ptOk (c, d) = true) : impl_between.f a b c d = some (dot (a, b) (c, d) (c, d)) := by
  unfold impl_between.f
  rw [iAlong h1 h2 h2]; rfl
theorem segOk_ends {a b c d : Int} (h : segOk ((a, b), (c, d)) = true) : ptOk (a, b) = true ∧ ptOk (c, d) = true := ⟨((segOk_iff _).1 h).1, ((segOk_iff _).1 h).2.1⟩
theorem iSegHas {k : Nat} (hk : 1 ≤ k) (a b c d e f : Int) : impl_SegHas.f k a b c d e f = some (segHas ((a, b), (c, d)) (e, f)) := by
  obtain ⟨k, rfl⟩ : ∃ m, k = m + 1 := ⟨k - 1, by omega⟩
  unfold impl_SegHas.f segHas has
  simp only [impl_SegHas.j0, iSegOk, iPtOk, Option.bind_some]
  cases hs : segOk ((a, b), (c, d)) with
  | false => simp
  | true =>
    cases hp : ptOk (e, f) with
    | false => simp
    | true =>
      obtain ⟨o1, o2⟩ := segOk_ends hs
      simp only [if_true, iCross o1 o2 hp, iAlong o1 o2 hp, iBetween o1 o2, Option.bind_some]
      by_cases z : cross (a, b) (c, d) (e, f) = 0
      · simp only [z, bne_self_eq_false, Bool.false_eq_true, if_false, beq_self_eq_true, Bool.true_and]
        by_cases z1 : 0 ≤ dot (a, b) (c, d) (e, f)
        · rw [if_pos z1, decide_eq_true z1]; rfl
        · rw [if_neg z1, decide_eq_false z1]; rfl
      · rw [bne_iff_ne.mpr z, beq_eq_false_iff_ne.mpr z]; rfl
theorem iSegTurn {k : Nat} (hk : 1 ≤ k) (a b c d e f : Int) : impl_SegTurn.f k a b c d e f = some (segTurn (a, b) (c, d) (e, f)) := by
  obtain ⟨k, rfl⟩ : ∃ m, k = m + 1 := ⟨k - 1, by omega⟩
  unfold impl_SegTurn.f segTurn
  simp only [impl_SegTurn.j0, iPtOk, Option.bind_some]
  cases h1 : ptOk (a, b) with
  | false => simp
  | true =>
    cases h2 : ptOk (c, d) with
    | false => simp
    | true =>
      cases h3 : ptOk (e, f) with
      | false => simp
      | true =>
        simp only [if_true, Bool.not_true, Bool.false_eq_true, if_false, iCross h1 h2 h3, Option.bind_some, Bool.and_self]
        unfold sgn
        by_cases z : cross (a, b) (c, d) (e, f) > 0
        · rw [if_pos z, if_neg (by omega), if_pos z]
        · rw [if_neg z]
          by_cases z' : cross (a, b) (c, d) (e, f) < 0
          · rw [if_pos z', if_pos z']
          · rw [if_neg z', if_neg z', if_neg z]
theorem sgn_in (n : Int) : -1 ≤ sgn n ∧ sgn n ≤ 1 := by unfold sgn; split <;> (try split) <;> omega
theorem turn_mul (x y : Int) : wrap64 (sgn x * sgn y) = sgn x * sgn y := by
  have h1 := sgn_in x
  have h2 := sgn_in y
  have h3 := mul_bound (x := sgn x) (y := sgn y) (by omega) (by omega) (by omega) (by omega)
  exact w64 (by omega) (by omega)
theorem iSegMeet {k : Nat} (hk : 3 ≤ k) (a b c d e f g h : Int) : impl_SegMeet.f k a b c d e f g h = some (segMeet ((a, b), (c, d)) ((e, f), (g, h))) := by
  obtain ⟨k, rfl⟩ : ∃ m, k = m + 1 + 1 := ⟨k - 2, by omega⟩
  unfold impl_SegMeet.f segMeet
  simp only [impl_SegMeet.j0, iSegOk, Option.bind_some]
  cases hs : segOk ((a, b), (c, d)) with
  | false => simp
  | true =>
    cases ht : segOk ((e, f), (g, h)) with
    | false => simp
    | true =>
      obtain ⟨o1, o2⟩ := segOk_ends hs
      obtain ⟨o3, o4⟩ := segOk_ends ht
      simp only [if_true, Bool.not_true, Bool.false_eq_true, if_false, Bool.true_and]
      simp only [iSegHas (show 1 ≤ k + 1 by omega), iSegTurn (show 1 ≤ k by omega), impl_SegMeet.j1, Option.bind_some, if_true]
      unfold segHas segTurn meet
      simp only [hs, ht, o1, o2, o3, o4, Bool.true_and, Bool.and_self, if_true, turn_mul]
      cases has ((a, b), (c, d)) (e, f) <;> simp
      cases has ((a, b), (c, d)) (g, h) <;> simp
      cases has ((e, f), (g, h)) (a, b) <;> simp
      cases has ((e, f), (g, h)) (c, d) <;> simp
      by_cases z : sgn (cross (a, b) (c, d) (e, f)) * sgn (cross (a, b) (c, d) (g, h)) < 0
      · simp [z]
      · simp [z]
theorem red_whole {n : Int} (h0 : 0 ≤ n) (h1 : n ≤ 99999) : red (n, 1) = (n, 1) := red_of_ok (fracOk_whole h0 h1)
theorem sL2Far {k : Nat} (hk : 100000 ≤ k) {a b c d e f : Int} (hs : segOk ((a, b), (c, d)) = true) (hp : ptOk (e, f) = true) :
    spec_l2Far.f k a b c d e f = some ((red (far ((a, b), (c, d)) (e, f))).1, (red (far ((a, b), (c, d)) (e, f))).2) := by
  obtain ⟨o1, o2⟩ := segOk_ends hs
  have hin := far_inR hs hp
  unfold spec_l2Far.f far at *
  simp only [sDot o1 o2 hp, sDot o1 o2 o2, sDot o1 hp hp, sDot o2 hp hp, sCross o1 o2 hp, Option.bind_some]
  by_cases z : dot (a, b) (c, d) (e, f) ≤ 0
  · rw [if_pos z, if_pos z, red_whole (dot_self_nn _ _) (by have := (dot_bound o1 hp hp).2; omega)]
  · rw [if_neg z, if_neg z]
    rw [if_neg z] at hin
    by_cases z' : dot (a, b) (c, d) (c, d) ≤ dot (a, b) (c, d) (e, f)
    · rw [if_pos z', if_pos z', red_whole (dot_self_nn _ _) (by have := (dot_bound o2 hp hp).2; omega)]
    · rw [if_neg z', if_neg z']
      rw [if_neg z'] at hin
      have hc := cross_bound o1 o2 hp
      have hq := sq_bound hc.1 hc.2
      have hq' := isq_nn (cross (a, b) (c, d) (e, f))
      rw [w64 (by omega) (by omega), l1Of_told hk hin]
      rfl
theorem iFracOf {k : Nat} (hk : 100000 ≤ k) {n d : Int} (h : inR (n, d)) : impl_FracOf.f k n d = some ((red (n, d)).1, (red (n, d)).2, true) := by
  obtain ⟨a1, a2, a3, a4⟩ := h
  simp only at a1 a2 a3 a4
  have hg := gcd_pos (f := (n, d)) ⟨a1, a2, a3, a4⟩
  unfold impl_FracOf.f
  rw [if_neg (by omega), if_neg (by omega), if_neg (by omega), if_neg (by omega), gcd_told' a1 (by omega) (by omega)]
  simp only [Option.bind_some]
  simp only at hg
  rw [if_neg (by omega)]
  have e1 : Int.tdiv n (Int.gcd n d : Int) = n / (Int.gcd n d : Int) := Int.tdiv_eq_ediv_of_nonneg a1
  have e2 : Int.tdiv d (Int.gcd n d : Int) = d / (Int.gcd n d : Int) := Int.tdiv_eq_ediv_of_nonneg (by omega)
  have r := red_inR (f := (n, d)) ⟨a1, a2, a3, a4⟩
  obtain ⟨r1, r2, r3, r4⟩ := r
  unfold red at r1 r2 r3 r4 ⊢
  simp only at r1 r2 r3 r4 ⊢
  rw [e1, e2, w64 (by omega) (by omega), w64 (by omega) (by omega)]
theorem iFracOf1 {k : Nat} (hk : 100000 ≤ k) {n : Int} (h0 : 0 ≤ n) (h1 : n ≤ 99999) : impl_FracOf.f k n 1 = some (n, 1, true) := by
  rw [iFracOf hk (d := 1) ⟨h0, h1, Int.le_refl 1, by show (1 : Int) ≤ 99999; omega⟩, red_whole h0 h1]
theorem iStandOf {a b c d e f : Int} (hs : segOk ((a, b), (c, d)) = true) (hp : ptOk (e, f) = true) :
    impl_standOf.f a b c d e f = some (if dot (a, b) (c, d) (e, f) ≤ 0 then 0 else if dot (a, b) (c, d) (c, d) ≤ dot (a, b) (c, d) (e, f) then 2 else 1) := by
  obtain ⟨o1, o2⟩ := segOk_ends hs
  unfold impl_standOf.f
  simp only [iAlong o1 o2 hp, iBetween o1 o2, Option.bind_some]
  split
  · rfl
  · simp only [ge_iff_le]; split <;> rfl
theorem sSign (n : Int) : spec_l2Sign.f n = some (sgn n) := by
  unfold spec_l2Sign.f sgn
  split
  · rfl
  · split <;> rfl
theorem sHas {a b c d e f : Int} (h1 : ptOk (a, b) = true) (h2 : ptOk (c, d) = true) (h3 : ptOk (e, f) = true) : spec_l2Has.f a b c d e f = some (has ((a, b), (c, d)) (e, f)) := by
  unfold spec_l2Has.f has
  simp only [sCross h1 h2 h3, sDot h1 h2 h3, sDot h1 h2 h2, l6In_told, Option.bind_some]
  by_cases z : cross (a, b) (c, d) (e, f) = 0
  · simp [z]
  · rw [if_neg z, beq_eq_false_iff_ne.mpr z]; rfl
theorem sLeast {n d m q : Int} (h1 : fracOk (n, d) = true) (h2 : fracOk (m, q) = true) : spec_l2Least.f n d m q = some ((least (n, d) (m, q)).1, (least (n, d) (m, q)).2) := by
  obtain ⟨⟨a1, a2, a3, a4⟩, _⟩ := (fracOk_iff _).1 h1
  obtain ⟨⟨b1, b2, b3, b4⟩, _⟩ := (fracOk_iff _).1 h2
  simp only at a1 a2 a3 a4 b1 b2 b3 b4
  unfold spec_l2Least.f spec_l1Cmp.f least cmp0
  rw [prod_wrap a1 a2 (by omega) b4, prod_wrap b1 b2 (by omega) a4]
  simp only
  by_cases z : m * d < n * q
  · rw [if_pos z, if_pos z]; rfl
  · rw [if_neg z, if_neg z]
    by_cases z' : m * d > n * q
    · rw [if_pos z', if_pos z']; rfl
    · rw [if_neg z', if_neg z']; rfl
end Go.Proofs.YtnponnkcfgjeoaaDoor.X
end
section
namespace Go.Proofs.YtnponnkcfgjeoaaDoor.X
open Go.RowKit Go.Proofs.YtnponnkcfgjeoaaDoorW.PrintWords Go.Proofs.YtnponnkcfgjeoaaDoorW.PrintLast Go.Proofs.YtnponnkcfgjeoaaDoorW.PrintMore
attribute [local go_sem] max2_int min2_int max_two min_two max_three min_three max_four min_four
set_option linter.unusedVariables false
set_option linter.unusedSimpArgs false
def spec_l2Meet.f (a0_0 : Int) (a0_1 : Int) (a0_2 : Int) (a0_3 : Int) (a1_0 : Int) (a1_1 : Int) (a1_2 : Int) (a1_3 : Int) : Option (Bool) := (spec_l2Cross.f a0_0 a0_1 a0_2 a0_3 a1_0 a1_1).bind fun t133 => ((spec_l2Sign.f t133).bind fun t134 => ((spec_l2Cross.f a0_0 a0_1 a0_2 a0_3 a1_2 a1_3).bind fun t135 => ((spec_l2Sign.f t135).bind fun t136 => ((spec_l2Cross.f a1_0 a1_1 a1_2 a1_3 a0_0 a0_1).bind fun t137 => ((spec_l2Sign.f t137).bind fun t138 => ((spec_l2Cross.f a1_0 a1_1 a1_2 a1_3 a0_2 a0_3).bind fun t139 => ((spec_l2Sign.f t139).bind fun t140 => (if (wrap64 (t134 * t136)) < 0 then (if (wrap64 (t138 * t140)) < 0 then (some true) else ((spec_l2Has.f a0_0 a0_1 a0_2 a0_3 a1_0 a1_1).bind fun t141 => (if t141 = true then (some true) else ((spec_l2Has.f a0_0 a0_1 a0_2 a0_3 a1_2 a1_3).bind fun t142 => (if t142 = true then (some true) else ((spec_l2Has.f a1_0 a1_1 a1_2 a1_3 a0_0 a0_1).bind fun t143 => (if t143 = true then (some true) else ((spec_l2Has.f a1_0 a1_1 a1_2 a1_3 a0_2 a0_3).bind fun t144 => (some t144))))))))) else ((spec_l2Has.f a0_0 a0_1 a0_2 a0_3 a1_0 a1_1).bind fun t145 => (if t145 = true then (some true) else ((spec_l2Has.f a0_0 a0_1 a0_2 a0_3 a1_2 a1_3).bind fun t146 => (if t146 = true then (some true) else ((spec_l2Has.f a1_0 a1_1 a1_2 a1_3 a0_0 a0_1).bind fun t147 => (if t147 = true then (some true) else ((spec_l2Has.f a1_0 a1_1 a1_2 a1_3 a0_2 a0_3).bind fun t148 => (some t148))))))))))))))))
def spec_l2Meet.T1 : Bool × List (List Nat × List Nat) := (true, [([], []), ([0], [0]), ([], []), ([2], [2]), ([], []), ([4], [4]), ([1, 3, 5], [1, 3, 5]), ([6, 6], [6]), ([], []), ([8], [8]), ([], []), ([10], [10]), ([], []), ([12], [12]), ([9, 11, 13, 7], [9, 11, 13]), ([14, 14], [14]), ([7, 15], [7, 15]), ([16, 15, 0, 1, 2, 3, 4, 5, 6, 7, 8, 9, 10, 11, 12, 13, 14, 15, 16], [16])])
def spec_l2Meet.B1 : List Nat := [0, 1, 0, 4, 0, 16, 63, 127, 0, 256, 0, 1024, 0, 4096, 16383, 32767, 65535, 131071]
theorem spec_l2Meet.tab1 : rtab .any (opsOf Tryd.f72 1) = spec_l2Meet.T1 := by kernel_rfl
theorem spec_l2Meet.bits1 : waitsOk spec_l2Meet.T1.2 spec_l2Meet.B1 = true := by kernel_rfl
def spec_l2Meet.T2 : Bool × List (List Nat × List Nat) := (true, [([], []), ([0], [0]), ([], []), ([2], [2]), ([], []), ([4], [4]), ([1, 3, 5], [1, 3, 5]), ([6, 6], [6]), ([], []), ([8], [8]), ([], []), ([10], [10]), ([], []), ([12], [12]), ([9, 11, 13, 7], [9, 11, 13]), ([14, 14], [14]), ([7, 15], [7, 15]), ([16, 15, 0, 1, 2, 3, 4, 5, 6, 7, 8, 9, 10, 11, 12, 13, 14, 15, 16], [16])])
def spec_l2Meet.B2 : List Nat := [0, 1, 0, 4, 0, 16, 63, 127, 0, 256, 0, 1024, 0, 4096, 16383, 32767, 65535, 131071]
theorem spec_l2Meet.tab2 : rtab .any (opsOf Tryd.f72 2) = spec_l2Meet.T2 := by kernel_rfl
theorem spec_l2Meet.bits2 : waitsOk spec_l2Meet.T2.2 spec_l2Meet.B2 = true := by kernel_rfl
set_option maxHeartbeats 8000000 in
set_option maxRecDepth 100000 in
theorem spec_l2Meet.calls (a0_0 : Int) (a0_1 : Int) (a0_2 : Int) (a0_3 : Int) (a1_0 : Int) (a1_1 : Int) (a1_2 : Int) (a1_3 : Int) (r : Bool) (w : World) (h : spec_l2Meet.f a0_0 a0_1 a0_2 a0_3 a1_0 a1_1 a1_2 a1_3 = some r) :
  Calls Tryd.prog 72 #[.agg #[.int .i64 a0_0, .int .i64 a0_1, .int .i64 a0_2, .int .i64 a0_3], .agg #[.int .i64 a1_0, .int .i64 a1_1, .int .i64 a1_2, .int .i64 a1_3]] w fun e w' => e = .returned (.bool r) ∧ Below w.heap.size w w' := by
 have hu40 := Tryd.underlying40
 have hu38 := Tryd.underlying38
 have HB := Aside0.mk (Below.refl w.heap.size w)
 have H : ((spec_l2Cross.f a0_0 a0_1 a0_2 a0_3 a1_0 a1_1).bind fun t133 => ((spec_l2Sign.f t133).bind fun t134 => ((spec_l2Cross.f a0_0 a0_1 a0_2 a0_3 a1_2 a1_3).bind fun t135 => ((spec_l2Sign.f t135).bind fun t136 => ((spec_l2Cross.f a1_0 a1_1 a1_2 a1_3 a0_0 a0_1).bind fun t137 => ((spec_l2Sign.f t137).bind fun t138 => ((spec_l2Cross.f a1_0 a1_1 a1_2 a1_3 a0_2 a0_3).bind fun t139 => ((spec_l2Sign.f t139).bind fun t140 => (if (wrap64 (t134 * t136)) < 0 then (if (wrap64 (t138 * t140)) < 0 then (some true) else ((spec_l2Has.f a0_0 a0_1 a0_2 a0_3 a1_0 a1_1).bind fun t141 => (if t141 = true then (some true) else ((spec_l2Has.f a0_0 a0_1 a0_2 a0_3 a1_2 a1_3).bind fun t142 => (if t142 = true then (some true) else ((spec_l2Has.f a1_0 a1_1 a1_2 a1_3 a0_0 a0_1).bind fun t143 => (if t143 = true then (some true) else ((spec_l2Has.f a1_0 a1_1 a1_2 a1_3 a0_2 a0_3).bind fun t144 => (some t144))))))))) else ((spec_l2Has.f a0_0 a0_1 a0_2 a0_3 a1_0 a1_1).bind fun t145 => (if t145 = true then (some true) else ((spec_l2Has.f a0_0 a0_1 a0_2 a0_3 a1_2 a1_3).bind fun t146 => (if t146 = true then (some true) else ((spec_l2Has.f a1_0 a1_1 a1_2 a1_3 a0_0 a0_1).bind fun t147 => (if t147 = true then (some true) else ((spec_l2Has.f a1_0 a1_1 a1_2 a1_3 a0_2 a0_3).bind fun t148 => (some t148))))))))))))))))) = some r := h
 clear h
 replace H := Option.bind_eq_some_iff.mp H
 obtain ⟨t133, A30, H⟩ := H
 replace H : ((spec_l2Sign.f t133).bind fun t134 => ((spec_l2Cross.f a0_0 a0_1 a0_2 a0_3 a1_2 a1_3).bind fun t135 => ((spec_l2Sign.f t135).bind fun t136 => ((spec_l2Cross.f a1_0 a1_1 a1_2 a1_3 a0_0 a0_1).bind fun t137 => ((spec_l2Sign.f t137).bind fun t138 => ((spec_l2Cross.f a1_0 a1_1 a1_2 a1_3 a0_2 a0_3).bind fun t139 => ((spec_l2Sign.f t139).bind fun t140 => (if (wrap64 (t134 * t136)) < 0 then (if (wrap64 (t138 * t140)) < 0 then (some true) else ((spec_l2Has.f a0_0 a0_1 a0_2 a0_3 a1_0 a1_1).bind fun t141 => (if t141 = true then (some true) else ((spec_l2Has.f a0_0 a0_1 a0_2 a0_3 a1_2 a1_3).bind fun t142 => (if t142 = true then (some true) else ((spec_l2Has.f a1_0 a1_1 a1_2 a1_3 a0_0 a0_1).bind fun t143 => (if t143 = true then (some true) else ((spec_l2Has.f a1_0 a1_1 a1_2 a1_3 a0_2 a0_3).bind fun t144 => (some t144))))))))) else ((spec_l2Has.f a0_0 a0_1 a0_2 a0_3 a1_0 a1_1).bind fun t145 => (if t145 = true then (some true) else ((spec_l2Has.f a0_0 a0_1 a0_2 a0_3 a1_2 a1_3).bind fun t146 => (if t146 = true then (some true) else ((spec_l2Has.f a1_0 a1_1 a1_2 a1_3 a0_0 a0_1).bind fun t147 => (if t147 = true then (some true) else ((spec_l2Has.f a1_0 a1_1 a1_2 a1_3 a0_2 a0_3).bind fun t148 => (some t148)))))))))))))))) = some r := H
 have A3 := Aside0.mk A30
 clear A30
 replace H := Option.bind_eq_some_iff.mp H
 obtain ⟨t134, A40, H⟩ := H
 replace H : ((spec_l2Cross.f a0_0 a0_1 a0_2 a0_3 a1_2 a1_3).bind fun t135 => ((spec_l2Sign.f t135).bind fun t136 => ((spec_l2Cross.f a1_0 a1_1 a1_2 a1_3 a0_0 a0_1).bind fun t137 => ((spec_l2Sign.f t137).bind fun t138 => ((spec_l2Cross.f a1_0 a1_1 a1_2 a1_3 a0_2 a0_3).bind fun t139 => ((spec_l2Sign.f t139).bind fun t140 => (if (wrap64 (t134 * t136)) < 0 then (if (wrap64 (t138 * t140)) < 0 then (some true) else ((spec_l2Has.f a0_0 a0_1 a0_2 a0_3 a1_0 a1_1).bind fun t141 => (if t141 = true then (some true) else ((spec_l2Has.f a0_0 a0_1 a0_2 a0_3 a1_2 a1_3).bind fun t142 => (if t142 = true then (some true) else ((spec_l2Has.f a1_0 a1_1 a1_2 a1_3 a0_0 a0_1).bind fun t143 => (if t143 = true then (some true) else ((spec_l2Has.f a1_0 a1_1 a1_2 a1_3 a0_2 a0_3).bind fun t144 => (some t144))))))))) else ((spec_l2Has.f a0_0 a0_1 a0_2 a0_3 a1_0 a1_1).bind fun t145 => (if t145 = true then (some true) else ((spec_l2Has.f a0_0 a0_1 a0_2 a0_3 a1_2 a1_3).bind fun t146 => (if t146 = true then (some true) else ((spec_l2Has.f a1_0 a1_1 a1_2 a1_3 a0_0 a0_1).bind fun t147 => (if t147 = true then (some true) else ((spec_l2Has.f a1_0 a1_1 a1_2 a1_3 a0_2 a0_3).bind fun t148 => (some t148))))))))))))))) = some r := H
 have A4 := Aside0.mk A40
 clear A40
 replace H := Option.bind_eq_some_iff.mp H
 obtain ⟨t135, A50, H⟩ := H
 replace H : ((spec_l2Sign.f t135).bind fun t136 => ((spec_l2Cross.f a1_0 a1_1 a1_2 a1_3 a0_0 a0_1).bind fun t137 => ((spec_l2Sign.f t137).bind fun t138 => ((spec_l2Cross.f a1_0 a1_1 a1_2 a1_3 a0_2 a0_3).bind fun t139 => ((spec_l2Sign.f t139).bind fun t140 => (if (wrap64 (t134 * t136)) < 0 then (if (wrap64 (t138 * t140)) < 0 then (some true) else ((spec_l2Has.f a0_0 a0_1 a0_2 a0_3 a1_0 a1_1).bind fun t141 => (if t141 = true then (some true) else ((spec_l2Has.f a0_0 a0_1 a0_2 a0_3 a1_2 a1_3).bind fun t142 => (if t142 = true then (some true) else ((spec_l2Has.f a1_0 a1_1 a1_2 a1_3 a0_0 a0_1).bind fun t143 => (if t143 = true then (some true) else ((spec_l2Has.f a1_0 a1_1 a1_2 a1_3 a0_2 a0_3).bind fun t144 => (some t144))))))))) else ((spec_l2Has.f a0_0 a0_1 a0_2 a0_3 a1_0 a1_1).bind fun t145 => (if t145 = true then (some true) else ((spec_l2Has.f a0_0 a0_1 a0_2 a0_3 a1_2 a1_3).bind fun t146 => (if t146 = true then (some true) else ((spec_l2Has.f a1_0 a1_1 a1_2 a1_3 a0_0 a0_1).bind fun t147 => (if t147 = true then (some true) else ((spec_l2Has.f a1_0 a1_1 a1_2 a1_3 a0_2 a0_3).bind fun t148 => (some t148)))))))))))))) = some r := H
 have A5 := Aside0.mk A50
 clear A50
 replace H := Option.bind_eq_some_iff.mp H
 obtain ⟨t136, A60, H⟩ := H
 replace H : ((spec_l2Cross.f a1_0 a1_1 a1_2 a1_3 a0_0 a0_1).bind fun t137 => ((spec_l2Sign.f t137).bind fun t138 => ((spec_l2Cross.f a1_0 a1_1 a1_2 a1_3 a0_2 a0_3).bind fun t139 => ((spec_l2Sign.f t139).bind fun t140 => (if (wrap64 (t134 * t136)) < 0 then (if (wrap64 (t138 * t140)) < 0 then (some true) else ((spec_l2Has.f a0_0 a0_1 a0_2 a0_3 a1_0 a1_1).bind fun t141 => (if t141 = true then (some true) else ((spec_l2Has.f a0_0 a0_1 a0_2 a0_3 a1_2 a1_3).bind fun t142 => (if t142 = true then (some true) else ((spec_l2Has.f a1_0 a1_1 a1_2 a1_3 a0_0 a0_1).bind fun t143 => (if t143 = true then (some true) else ((spec_l2Has.f a1_0 a1_1 a1_2 a1_3 a0_2 a0_3).bind fun t144 => (some t144))))))))) else ((spec_l2Has.f a0_0 a0_1 a0_2 a0_3 a1_0 a1_1).bind fun t145 => (if t145 = true then (some true) else ((spec_l2Has.f a0_0 a0_1 a0_2 a0_3 a1_2 a1_3).bind fun t146 => (if t146 = true then (some true) else ((spec_l2Has.f a1_0 a1_1 a1_2 a1_3 a0_0 a0_1).bind fun t147 => (if t147 = true then (some true) else ((spec_l2Has.f a1_0 a1_1 a1_2 a1_3 a0_2 a0_3).bind fun t148 => (some t148))))))))))))) = some r := H
 have A6 := Aside0.mk A60
 clear A60
 replace H := Option.bind_eq_some_iff.mp H
 obtain ⟨t137, A70, H⟩ := H
 replace H : ((spec_l2Sign.f t137).bind fun t138 => ((spec_l2Cross.f a1_0 a1_1 a1_2 a1_3 a0_2 a0_3).bind fun t139 => ((spec_l2Sign.f t139).bind fun t140 => (if (wrap64 (t134 * t136)) < 0 then (if (wrap64 (t138 * t140)) < 0 then (some true) else ((spec_l2Has.f a0_0 a0_1 a0_2 a0_3 a1_0 a1_1).bind fun t141 => (if t141 = true then (some true) else ((spec_l2Has.f a0_0 a0_1 a0_2 a0_3 a1_2 a1_3).bind fun t142 => (if t142 = true then (some true) else ((spec_l2Has.f a1_0 a1_1 a1_2 a1_3 a0_0 a0_1).bind fun t143 => (if t143 = true then (some true) else ((spec_l2Has.f a1_0 a1_1 a1_2 a1_3 a0_2 a0_3).bind fun t144 => (some t144))))))))) else ((spec_l2Has.f a0_0 a0_1 a0_2 a0_3 a1_0 a1_1).bind fun t145 => (if t145 = true then (some true) else ((spec_l2Has.f a0_0 a0_1 a0_2 a0_3 a1_2 a1_3).bind fun t146 => (if t146 = true then (some true) else ((spec_l2Has.f a1_0 a1_1 a1_2 a1_3 a0_0 a0_1).bind fun t147 => (if t147 = true then (some true) else ((spec_l2Has.f a1_0 a1_1 a1_2 a1_3 a0_2 a0_3).bind fun t148 => (some t148)))))))))))) = some r := H
 have A7 := Aside0.mk A70
 clear A70
 replace H := Option.bind_eq_some_iff.mp H
 obtain ⟨t138, A80, H⟩ := H
 replace H : ((spec_l2Cross.f a1_0 a1_1 a1_2 a1_3 a0_2 a0_3).bind fun t139 => ((spec_l2Sign.f t139).bind fun t140 => (if (wrap64 (t134 * t136)) < 0 then (if (wrap64 (t138 * t140)) < 0 then (some true) else ((spec_l2Has.f a0_0 a0_1 a0_2 a0_3 a1_0 a1_1).bind fun t141 => (if t141 = true then (some true) else ((spec_l2Has.f a0_0 a0_1 a0_2 a0_3 a1_2 a1_3).bind fun t142 => (if t142 = true then (some true) else ((spec_l2Has.f a1_0 a1_1 a1_2 a1_3 a0_0 a0_1).bind fun t143 => (if t143 = true then (some true) else ((spec_l2Has.f a1_0 a1_1 a1_2 a1_3 a0_2 a0_3).bind fun t144 => (some t144))))))))) else ((spec_l2Has.f a0_0 a0_1 a0_2 a0_3 a1_0 a1_1).bind fun t145 => (if t145 = true then (some true) else ((spec_l2Has.f a0_0 a0_1 a0_2 a0_3 a1_2 a1_3).bind fun t146 => (if t146 = true then (some true) else ((spec_l2Has.f a1_0 a1_1 a1_2 a1_3 a0_0 a0_1).bind fun t147 => (if t147 = true then (some true) else ((spec_l2Has.f a1_0 a1_1 a1_2 a1_3 a0_2 a0_3).bind fun t148 => (some t148))))))))))) = some r := H
 have A8 := Aside0.mk A80
 clear A80
 replace H := Option.bind_eq_some_iff.mp H
 obtain ⟨t139, A90, H⟩ := H
 replace H : ((spec_l2Sign.f t139).bind fun t140 => (if (wrap64 (t134 * t136)) < 0 then (if (wrap64 (t138 * t140)) < 0 then (some true) else ((spec_l2Has.f a0_0 a0_1 a0_2 a0_3 a1_0 a1_1).bind fun t141 => (if t141 = true then (some true) else ((spec_l2Has.f a0_0 a0_1 a0_2 a0_3 a1_2 a1_3).bind fun t142 => (if t142 = true then (some true) else ((spec_l2Has.f a1_0 a1_1 a1_2 a1_3 a0_0 a0_1).bind fun t143 => (if t143 = true then (some true) else ((spec_l2Has.f a1_0 a1_1 a1_2 a1_3 a0_2 a0_3).bind fun t144 => (some t144))))))))) else ((spec_l2Has.f a0_0 a0_1 a0_2 a0_3 a1_0 a1_1).bind fun t145 => (if t145 = true then (some true) else ((spec_l2Has.f a0_0 a0_1 a0_2 a0_3 a1_2 a1_3).bind fun t146 => (if t146 = true then (some true) else ((spec_l2Has.f a1_0 a1_1 a1_2 a1_3 a0_0 a0_1).bind fun t147 => (if t147 = true then (some true) else ((spec_l2Has.f a1_0 a1_1 a1_2 a1_3 a0_2 a0_3).bind fun t148 => (some t148)))))))))) = some r := H
 have A9 := Aside0.mk A90
 clear A90
 replace H := Option.bind_eq_some_iff.mp H
 obtain ⟨t140, A100, H⟩ := H
 replace H : (if (wrap64 (t134 * t136)) < 0 then (if (wrap64 (t138 * t140)) < 0 then (some true) else ((spec_l2Has.f a0_0 a0_1 a0_2 a0_3 a1_0 a1_1).bind fun t141 => (if t141 = true then (some true) else ((spec_l2Has.f a0_0 a0_1 a0_2 a0_3 a1_2 a1_3).bind fun t142 => (if t142 = true then (some true) else ((spec_l2Has.f a1_0 a1_1 a1_2 a1_3 a0_0 a0_1).bind fun t143 => (if t143 = true then (some true) else ((spec_l2Has.f a1_0 a1_1 a1_2 a1_3 a0_2 a0_3).bind fun t144 => (some t144))))))))) else ((spec_l2Has.f a0_0 a0_1 a0_2 a0_3 a1_0 a1_1).bind fun t145 => (if t145 = true then (some true) else ((spec_l2Has.f a0_0 a0_1 a0_2 a0_3 a1_2 a1_3).bind fun t146 => (if t146 = true then (some true) else ((spec_l2Has.f a1_0 a1_1 a1_2 a1_3 a0_0 a0_1).bind fun t147 => (if t147 = true then (some true) else ((spec_l2Has.f a1_0 a1_1 a1_2 a1_3 a0_2 a0_3).bind fun t148 => (some t148))))))))) = some r := H
 have A10 := Aside0.mk A100
 clear A100
 go_enter Tryd.func72, Tryd.ntmps72
 try go_wp2_with (first | ((with_reducible refine gate_dst (N := 2) rfl ?_); refine box_event ?hg (N := 2) ?hd (cs := #[.int .i64 a0_0, .int .i64 a0_1, .int .i64 a0_2, .int .i64 a0_3]) (t := 40) ?hr ?_; (case hd => rfl); (case hg => rfl); (case hr => first | (go_simp; done) | (go_simp; rfl)); intro gb131 hg w13 hbox hb; have n0_ := Aside0.mk (below_step hB_ hb); have n1_ := Aside0.mk (hbox); have n2_ := Aside0.mk ((by rw [hg]; exact (below_size hB_) : w.heap.size ≤ gb131)); have n3_ := Aside0.mk ((by rw [hg]; exact (below_size hB_) : w.heap.size ≤ gb131)); clear HB; have HB := n0_; have BK131 := n1_; have GW131 := n2_; have GE131 := n3_; clear n0_ n1_ n2_ n3_; clear hb hbox hg) | ((with_reducible refine gate_dst (N := 3) rfl ?_); refine box_event ?hg (N := 3) ?hd (cs := #[.int .i64 a1_0, .int .i64 a1_1, .int .i64 a1_2, .int .i64 a1_3]) (t := 40) ?hr ?_; (case hd => rfl); (case hg => rfl); (case hr => first | (go_simp; done) | (go_simp; rfl)); intro gb132 hg w14 hbox hb; have n0_ := Aside0.mk (ub_ (g := gb131) hb); have n1_ := Aside0.mk (below_step hB_ hb); have n2_ := Aside0.mk (hbox); have n3_ := Aside0.mk ((by rw [hg]; exact (below_size hB_) : w.heap.size ≤ gb132)); have n4_ := Aside0.mk ((by rw [hg]; exact (below_size hB_) : w.heap.size ≤ gb132)); have n5_ := Aside0.mk ((by rw [hg]; exact Nat.ne_of_lt (blk_lt (g := gb131) (o := .cells #[.int .i64 a0_0, .int .i64 a0_1, .int .i64 a0_2, .int .i64 a0_3] 40 (0, 0)) uq_) : gb131 ≠ gb132)); have n6_ := Aside0.mk ((by rw [hg]; exact Nat.ne_of_gt (blk_lt (g := gb131) (o := .cells #[.int .i64 a0_0, .int .i64 a0_1, .int .i64 a0_2, .int .i64 a0_3] 40 (0, 0)) uq_) : gb132 ≠ gb131)); clear BK131; clear HB; have BK131 := n0_; have HB := n1_; have BK132 := n2_; have GW132 := n3_; have GE132 := n4_; have NB131_132 := n5_; have NB132_131 := n6_; clear n0_ n1_ n2_ n3_ n4_ n5_ n6_; clear hb hbox hg))
 have n0_ := Aside0.mk (blk_drew BK131.out)
 have n1_ := Aside0.mk (blk_drew BK132.out)
 have n2_ := Aside0.mk (below_drew1 HB.out)
 clear BK131 BK132 HB
 have BK131 := n0_
 have BK132 := n1_
 have HB := n2_
 clear n0_ n1_ n2_
 refine start_ (n := 18) (S := fun w' => w'.cell? ⟨gb131, 0, none⟩ = some (.int .i64 a0_0) ∧ w'.cell? ⟨gb131, 1, none⟩ = some (.int .i64 a0_1) ∧ w'.cell? ⟨gb131, 2, none⟩ = some (.int .i64 a0_2) ∧ w'.cell? ⟨gb131, 3, none⟩ = some (.int .i64 a0_3) ∧ w'.cell? ⟨gb132, 0, none⟩ = some (.int .i64 a1_0) ∧ w'.cell? ⟨gb132, 1, none⟩ = some (.int .i64 a1_1) ∧ w'.cell? ⟨gb132, 2, none⟩ = some (.int .i64 a1_2) ∧ w'.cell? ⟨gb132, 3, none⟩ = some (.int .i64 a1_3)) (ds := []) #[false, false, false, false, false, false, false, false, false, false, false, false, false, false, false, false, false, false] (by kernel_rfl) rfl rfl ⟨bc_, bc_, bc_, bc_, bc_, bc_, bc_, bc_⟩ (fun hHeld => ?_); refine with_tabW spec_l2Meet.tab1 spec_l2Meet.bits1 (fun HT_ HW_ => ?_)
 generalize w14.drew = w15 at BK131 BK132 HB hHeld ⊢
 refine pure_ (i := 0) (N := some 7) (v := ?_) (a' := ?_) (bm 18 1) rfl rfl (any_of HT_.out (by kernel_rfl)) (fun _ _ _ h => h) (Or.inl ⟨by rfl, ?_⟩) ?_ ?_
 rotate_left
 ·
  intro w'
  go_simp
  with_reducible rfl
 rotate_left
 ·
  simp only [Act.put, List.setIfInBounds_toArray, List.set_cons_zero, List.set_cons_succ, i64_w, i32_w]
  rfl
 refine pure_ (i := 2) (N := some 9) (v := ?_) (a' := ?_) (bm 18 5) rfl rfl (any_of HT_.out (by kernel_rfl)) (fun _ _ _ h => h) (Or.inl ⟨by rfl, ?_⟩) ?_ ?_
 rotate_left
 ·
  intro w'
  go_simp
  with_reducible rfl
 rotate_left
 ·
  simp only [Act.put, List.setIfInBounds_toArray, List.set_cons_zero, List.set_cons_succ, i64_w, i32_w]
  rfl
 refine pure_ (i := 4) (N := some 11) (v := ?_) (a' := ?_) (bm 18 21) rfl rfl (any_of HT_.out (by kernel_rfl)) (fun _ _ _ h => h) (Or.inl ⟨by rfl, ?_⟩) ?_ ?_
 rotate_left
 ·
  intro w'
  go_simp
  with_reducible rfl
 rotate_left
 ·
  simp only [Act.put, List.setIfInBounds_toArray, List.set_cons_zero, List.set_cons_succ, i64_w, i32_w]
  rfl
 refine pure_ (i := 8) (N := some 15) (v := ?_) (a' := ?_) (bm 18 277) rfl rfl (any_of HT_.out (by kernel_rfl)) (fun _ _ _ h => h) (Or.inl ⟨by rfl, ?_⟩) ?_ ?_
 rotate_left
 ·
  intro w'
  go_simp
  with_reducible rfl
 rotate_left
 ·
  simp only [Act.put, List.setIfInBounds_toArray, List.set_cons_zero, List.set_cons_succ, i64_w, i32_w]
  rfl
 refine pure_ (i := 10) (N := some 17) (v := ?_) (a' := ?_) (bm 18 1301) rfl rfl (any_of HT_.out (by kernel_rfl)) (fun _ _ _ h => h) (Or.inl ⟨by rfl, ?_⟩) ?_ ?_
 rotate_left
 ·
  intro w'
  go_simp
  with_reducible rfl
 rotate_left
 ·
  simp only [Act.put, List.setIfInBounds_toArray, List.set_cons_zero, List.set_cons_succ, i64_w, i32_w]
  rfl
 refine pure_ (i := 12) (N := some 19) (v := ?_) (a' := ?_) (bm 18 5397) rfl rfl (any_of HT_.out (by kernel_rfl)) (fun _ _ _ h => h) (Or.inl ⟨by rfl, ?_⟩) ?_ ?_
 rotate_left
 ·
  intro w'
  go_simp
  with_reducible rfl
 rotate_left
 ·
  simp only [Act.put, List.setIfInBounds_toArray, List.set_cons_zero, List.set_cons_succ, i64_w, i32_w]
  rfl
 refine take_ (i := 1) (N := some 8) (v := ?_) (a' := ?_) (bm 18 5399) rfl rfl (take_ofW HT_.out HW_.out (by kernel_rfl)) (fun _ _ _ h => h) (Or.inl ⟨by rfl, ?_⟩) hHeld ?_ ?_
 rotate_left
 ·
  rintro w' ⟨s0, s1, s2, s3, s4, s5, s6, s7⟩
  go_simp
  with_reducible rfl
 rotate_left
 ·
  simp only [Act.put, List.setIfInBounds_toArray, List.set_cons_zero, List.set_cons_succ, i64_w, i32_w]
  rfl
 refine take_ (i := 3) (N := some 10) (v := ?_) (a' := ?_) (bm 18 5407) rfl rfl (take_ofW HT_.out HW_.out (by kernel_rfl)) (fun _ _ _ h => h) (Or.inl ⟨by rfl, ?_⟩) hHeld ?_ ?_
 rotate_left
 ·
  rintro w' ⟨s0, s1, s2, s3, s4, s5, s6, s7⟩
  go_simp
  with_reducible rfl
 rotate_left
 ·
  simp only [Act.put, List.setIfInBounds_toArray, List.set_cons_zero, List.set_cons_succ, i64_w, i32_w]
  rfl
 refine take_ (i := 5) (N := some 12) (v := ?_) (a' := ?_) (bm 18 5439) rfl rfl (take_ofW HT_.out HW_.out (by kernel_rfl)) (fun _ _ _ h => h) (Or.inl ⟨by rfl, ?_⟩) hHeld ?_ ?_
 rotate_left
 ·
  rintro w' ⟨s0, s1, s2, s3, s4, s5, s6, s7⟩
  go_simp
  with_reducible rfl
 rotate_left
 ·
  simp only [Act.put, List.setIfInBounds_toArray, List.set_cons_zero, List.set_cons_succ, i64_w, i32_w]
  rfl
 refine take_ (i := 9) (N := some 16) (v := ?_) (a' := ?_) (bm 18 5951) rfl rfl (take_ofW HT_.out HW_.out (by kernel_rfl)) (fun _ _ _ h => h) (Or.inl ⟨by rfl, ?_⟩) hHeld ?_ ?_
 rotate_left
 ·
  rintro w' ⟨s0, s1, s2, s3, s4, s5, s6, s7⟩
  go_simp
  with_reducible rfl
 rotate_left
 ·
  simp only [Act.put, List.setIfInBounds_toArray, List.set_cons_zero, List.set_cons_succ, i64_w, i32_w]
  rfl
 refine take_ (i := 11) (N := some 18) (v := ?_) (a' := ?_) (bm 18 7999) rfl rfl (take_ofW HT_.out HW_.out (by kernel_rfl)) (fun _ _ _ h => h) (Or.inl ⟨by rfl, ?_⟩) hHeld ?_ ?_
 rotate_left
 ·
  rintro w' ⟨s0, s1, s2, s3, s4, s5, s6, s7⟩
  go_simp
  with_reducible rfl
 rotate_left
 ·
  simp only [Act.put, List.setIfInBounds_toArray, List.set_cons_zero, List.set_cons_succ, i64_w, i32_w]
  rfl
 refine take_ (i := 13) (N := some 20) (v := ?_) (a' := ?_) (bm 18 16191) rfl rfl (take_ofW HT_.out HW_.out (by kernel_rfl)) (fun _ _ _ h => h) (Or.inl ⟨by rfl, ?_⟩) hHeld ?_ ?_
 rotate_left
 ·
  rintro w' ⟨s0, s1, s2, s3, s4, s5, s6, s7⟩
  go_simp
  with_reducible rfl
 rotate_left
 ·
  simp only [Act.put, List.setIfInBounds_toArray, List.set_cons_zero, List.set_cons_succ, i64_w, i32_w]
  rfl
 refine one_ (i := 6) (N := some 13) (bm 18 16255) rfl rfl (one_of HT_.out (by kernel_rfl)) (by decide) (fun K hK => ?_)
 refine goes_ Tryd.func71 (by kernel_rfl) rfl #[.agg #[.int .i64 a0_0, .int .i64 a0_1], .agg #[.int .i64 a0_2, .int .i64 a0_3], .agg #[.int .i64 a1_0, .int .i64 a1_1]] (by rfl) rfl rfl ma_ ?_
 with_reducible refine (spec_l2Cross.calls a0_0 a0_1 a0_2 a0_3 a1_0 a1_1 t133 _ A3.out).mono ?_
 rintro e w16 ⟨rfl, hb⟩
 refine ⟨_, rfl, ?_⟩
 have n0_ := Aside0.mk (ub_ (g := gb131) hb)
 have n1_ := Aside0.mk (ub_ (g := gb132) hb)
 have n2_ := Aside0.mk (below_step hB_ hb)
 clear BK131 BK132 HB
 have BK131 := n0_
 have BK132 := n1_
 have HB := n2_
 clear n0_ n1_ n2_
 (try clear hb)
 (try clear hb2)
 (try clear hk)
 (try clear hi)
 refine hK.out _ _ ⟨bc_, bc_, bc_, bc_, bc_, bc_, bc_, bc_⟩ (fun hHeld => ?_)
 clear hK K
 refine norm_ (a' := ?_) ?_ ?_
 rotate_left
 ·
  show Act.put _ (some 13) _ = _
  simp only [Act.put, List.setIfInBounds_toArray, List.set_cons_zero, List.set_cons_succ, i64_w, i32_w]
  rfl
 refine one_ (i := 7) (N := some 14) (bm 18 16383) rfl rfl (one_of HT_.out (by kernel_rfl)) (by decide) (fun K hK => ?_)
 refine goes_ Tryd.func74 (by kernel_rfl) rfl #[.int .i64 t133] (by rfl) rfl rfl ma_ ?_
 with_reducible refine (spec_l2Sign.calls t133 t134 _ A4.out).mono ?_
 rintro e w' ⟨rfl, ⟨nd, rfl⟩⟩
 refine ⟨_, rfl, ?_⟩
 refine hK.out _ _ ⟨bc_, bc_, bc_, bc_, bc_, bc_, bc_, bc_⟩ (fun hHeld => ?_)
 clear hK K
 refine norm_ (a' := ?_) ?_ ?_
 rotate_left
 ·
  show Act.put _ (some 14) _ = _
  simp only [Act.put, List.setIfInBounds_toArray, List.set_cons_zero, List.set_cons_succ, i64_w, i32_w]
  rfl
 refine one_ (i := 14) (N := some 21) (bm 18 32767) rfl rfl (one_of HT_.out (by kernel_rfl)) (by decide) (fun K hK => ?_)
 refine goes_ Tryd.func71 (by kernel_rfl) rfl #[.agg #[.int .i64 a0_0, .int .i64 a0_1], .agg #[.int .i64 a0_2, .int .i64 a0_3], .agg #[.int .i64 a1_2, .int .i64 a1_3]] (by rfl) rfl rfl ma_ ?_
 with_reducible refine (spec_l2Cross.calls a0_0 a0_1 a0_2 a0_3 a1_2 a1_3 t135 _ A5.out).mono ?_
 rintro e w17 ⟨rfl, hb⟩
 refine ⟨_, rfl, ?_⟩
 have n0_ := Aside0.mk (ub_ (g := gb131) hb)
 have n1_ := Aside0.mk (ub_ (g := gb132) hb)
 have n2_ := Aside0.mk (below_step hB_ hb)
 clear BK131 BK132 HB
 have BK131 := n0_
 have BK132 := n1_
 have HB := n2_
 clear n0_ n1_ n2_
 (try clear hb)
 (try clear hb2)
 (try clear hk)
 (try clear hi)
 refine hK.out _ _ ⟨bc_, bc_, bc_, bc_, bc_, bc_, bc_, bc_⟩ (fun hHeld => ?_)
 clear hK K
 refine norm_ (a' := ?_) ?_ ?_
 rotate_left
 ·
  show Act.put _ (some 21) _ = _
  simp only [Act.put, List.setIfInBounds_toArray, List.set_cons_zero, List.set_cons_succ, i64_w, i32_w]
  rfl
 refine one_ (i := 15) (N := some 22) (bm 18 65535) rfl rfl (one_of HT_.out (by kernel_rfl)) (by decide) (fun K hK => ?_)
 refine goes_ Tryd.func74 (by kernel_rfl) rfl #[.int .i64 t135] (by rfl) rfl rfl ma_ ?_
 with_reducible refine (spec_l2Sign.calls t135 t136 _ A6.out).mono ?_
 rintro e w' ⟨rfl, ⟨nd, rfl⟩⟩
 refine ⟨_, rfl, ?_⟩
 refine hK.out _ _ ⟨bc_, bc_, bc_, bc_, bc_, bc_, bc_, bc_⟩ (fun hHeld => ?_)
 clear hK K
 refine norm_ (a' := ?_) ?_ ?_
 rotate_left
 ·
  show Act.put _ (some 22) _ = _
  simp only [Act.put, List.setIfInBounds_toArray, List.set_cons_zero, List.set_cons_succ, i64_w, i32_w]
  rfl
 refine pure_ (i := 16) (N := some 23) (v := ?_) (a' := ?_) (bm 18 131071) rfl rfl (any_of HT_.out (by kernel_rfl)) (fun _ _ _ h => h) (Or.inl ⟨by rfl, ?_⟩) ?_ ?_
 rotate_left
 ·
  intro w'
  go_simp
  with_reducible rfl
 rotate_left
 ·
  simp only [Act.put, List.setIfInBounds_toArray, List.set_cons_zero, List.set_cons_succ, i64_w, i32_w]
  rfl
 refine pure_ (i := 17) (N := some 5) (v := ?_) (a' := ?_) (bm 18 262143) rfl rfl (any_of HT_.out (by kernel_rfl)) (fun _ _ _ h => h) (Or.inl ⟨by rfl, ?_⟩) ?_ ?_
 rotate_left
 ·
  intro w'
  go_simp
  with_reducible rfl
 rotate_left
 ·
  simp only [Act.put, List.setIfInBounds_toArray, List.set_cons_zero, List.set_cons_succ, i64_w, i32_w]
  rfl
 refine done_ (done_of HT_.out (by kernel_rfl)) ?_
 try go_wp2
 (try (rw [drewN_self w17]; generalize hq_ : World.drewN w17 _ = w17; have n0_ : Aside0 (w17.heap[gb131]? = some (.cells #[.int .i64 a0_0, .int .i64 a0_1, .int .i64 a0_2, .int .i64 a0_3] 40 (0, 0))) := ⟨by rw [← hq_]; exact uq_⟩; have n1_ : Aside0 (w17.heap[gb132]? = some (.cells #[.int .i64 a1_0, .int .i64 a1_1, .int .i64 a1_2, .int .i64 a1_3] 40 (0, 0))) := ⟨by rw [← hq_]; exact uq_⟩; have n2_ : Aside0 (Below w.heap.size w w17) := ⟨by rw [← hq_]; exact hB_⟩; clear BK131 BK132 HB hq_; have BK131 := n0_; have BK132 := n1_; have HB := n2_; clear n0_ n1_ n2_))
 have n0_ := Aside0.mk (blk_drew BK131.out)
 have n1_ := Aside0.mk (blk_drew BK132.out)
 have n2_ := Aside0.mk (below_drew1 HB.out)
 clear BK131 BK132 HB
 have BK131 := n0_
 have BK132 := n1_
 have HB := n2_
 clear n0_ n1_ n2_
 refine start_ (n := 18) (S := fun w' => w'.cell? ⟨gb132, 0, none⟩ = some (.int .i64 a1_0) ∧ w'.cell? ⟨gb132, 1, none⟩ = some (.int .i64 a1_1) ∧ w'.cell? ⟨gb132, 2, none⟩ = some (.int .i64 a1_2) ∧ w'.cell? ⟨gb132, 3, none⟩ = some (.int .i64 a1_3) ∧ w'.cell? ⟨gb131, 0, none⟩ = some (.int .i64 a0_0) ∧ w'.cell? ⟨gb131, 1, none⟩ = some (.int .i64 a0_1) ∧ w'.cell? ⟨gb131, 2, none⟩ = some (.int .i64 a0_2) ∧ w'.cell? ⟨gb131, 3, none⟩ = some (.int .i64 a0_3)) (ds := []) #[false, false, false, false, false, false, false, false, false, false, false, false, false, false, false, false, false, false] (by kernel_rfl) rfl rfl ⟨bc_, bc_, bc_, bc_, bc_, bc_, bc_, bc_⟩ (fun hHeld => ?_); refine with_tabW spec_l2Meet.tab2 spec_l2Meet.bits2 (fun HT_ HW_ => ?_)
 generalize w17.drew = w18 at BK131 BK132 HB hHeld ⊢
 refine pure_ (i := 0) (N := some 24) (v := ?_) (a' := ?_) (bm 18 1) rfl rfl (any_of HT_.out (by kernel_rfl)) (fun _ _ _ h => h) (Or.inl ⟨by rfl, ?_⟩) ?_ ?_
 rotate_left
 ·
  intro w'
  go_simp
  with_reducible rfl
 rotate_left
 ·
  simp only [Act.put, List.setIfInBounds_toArray, List.set_cons_zero, List.set_cons_succ, i64_w, i32_w]
  rfl
 refine pure_ (i := 2) (N := some 26) (v := ?_) (a' := ?_) (bm 18 5) rfl rfl (any_of HT_.out (by kernel_rfl)) (fun _ _ _ h => h) (Or.inl ⟨by rfl, ?_⟩) ?_ ?_
 rotate_left
 ·
  intro w'
  go_simp
  with_reducible rfl
 rotate_left
 ·
  simp only [Act.put, List.setIfInBounds_toArray, List.set_cons_zero, List.set_cons_succ, i64_w, i32_w]
  rfl
 refine pure_ (i := 4) (N := some 28) (v := ?_) (a' := ?_) (bm 18 21) rfl rfl (any_of HT_.out (by kernel_rfl)) (fun _ _ _ h => h) (Or.inl ⟨by rfl, ?_⟩) ?_ ?_
 rotate_left
 ·
  intro w'
  go_simp
  with_reducible rfl
 rotate_left
 ·
  simp only [Act.put, List.setIfInBounds_toArray, List.set_cons_zero, List.set_cons_succ, i64_w, i32_w]
  rfl
 refine pure_ (i := 8) (N := some 32) (v := ?_) (a' := ?_) (bm 18 277) rfl rfl (any_of HT_.out (by kernel_rfl)) (fun _ _ _ h => h) (Or.inl ⟨by rfl, ?_⟩) ?_ ?_
 rotate_left
 ·
  intro w'
  go_simp
  with_reducible rfl
 rotate_left
 ·
  simp only [Act.put, List.setIfInBounds_toArray, List.set_cons_zero, List.set_cons_succ, i64_w, i32_w]
  rfl
 refine pure_ (i := 10) (N := some 34) (v := ?_) (a' := ?_) (bm 18 1301) rfl rfl (any_of HT_.out (by kernel_rfl)) (fun _ _ _ h => h) (Or.inl ⟨by rfl, ?_⟩) ?_ ?_
 rotate_left
 ·
  intro w'
  go_simp
  with_reducible rfl
 rotate_left
 ·
  simp only [Act.put, List.setIfInBounds_toArray, List.set_cons_zero, List.set_cons_succ, i64_w, i32_w]
  rfl
 refine pure_ (i := 12) (N := some 36) (v := ?_) (a' := ?_) (bm 18 5397) rfl rfl (any_of HT_.out (by kernel_rfl)) (fun _ _ _ h => h) (Or.inl ⟨by rfl, ?_⟩) ?_ ?_
 rotate_left
 ·
  intro w'
  go_simp
  with_reducible rfl
 rotate_left
 ·
  simp only [Act.put, List.setIfInBounds_toArray, List.set_cons_zero, List.set_cons_succ, i64_w, i32_w]
  rfl
 refine take_ (i := 1) (N := some 25) (v := ?_) (a' := ?_) (bm 18 5399) rfl rfl (take_ofW HT_.out HW_.out (by kernel_rfl)) (fun _ _ _ h => h) (Or.inl ⟨by rfl, ?_⟩) hHeld ?_ ?_
 rotate_left
 ·
  rintro w' ⟨s0, s1, s2, s3, s4, s5, s6, s7⟩
  go_simp
  with_reducible rfl
 rotate_left
 ·
  simp only [Act.put, List.setIfInBounds_toArray, List.set_cons_zero, List.set_cons_succ, i64_w, i32_w]
  rfl
 refine take_ (i := 3) (N := some 27) (v := ?_) (a' := ?_) (bm 18 5407) rfl rfl (take_ofW HT_.out HW_.out (by kernel_rfl)) (fun _ _ _ h => h) (Or.inl ⟨by rfl, ?_⟩) hHeld ?_ ?_
 rotate_left
 ·
  rintro w' ⟨s0, s1, s2, s3, s4, s5, s6, s7⟩
  go_simp
  with_reducible rfl
 rotate_left
 ·
  simp only [Act.put, List.setIfInBounds_toArray, List.set_cons_zero, List.set_cons_succ, i64_w, i32_w]
  rfl
 refine take_ (i := 5) (N := some 29) (v := ?_) (a' := ?_) (bm 18 5439) rfl rfl (take_ofW HT_.out HW_.out (by kernel_rfl)) (fun _ _ _ h => h) (Or.inl ⟨by rfl, ?_⟩) hHeld ?_ ?_
 rotate_left
 ·
  rintro w' ⟨s0, s1, s2, s3, s4, s5, s6, s7⟩
  go_simp
  with_reducible rfl
 rotate_left
 ·
  simp only [Act.put, List.setIfInBounds_toArray, List.set_cons_zero, List.set_cons_succ, i64_w, i32_w]
  rfl
 refine take_ (i := 9) (N := some 33) (v := ?_) (a' := ?_) (bm 18 5951) rfl rfl (take_ofW HT_.out HW_.out (by kernel_rfl)) (fun _ _ _ h => h) (Or.inl ⟨by rfl, ?_⟩) hHeld ?_ ?_
 rotate_left
 ·
  rintro w' ⟨s0, s1, s2, s3, s4, s5, s6, s7⟩
  go_simp
  with_reducible rfl
 rotate_left
 ·
  simp only [Act.put, List.setIfInBounds_toArray, List.set_cons_zero, List.set_cons_succ, i64_w, i32_w]
  rfl
 refine take_ (i := 11) (N := some 35) (v := ?_) (a' := ?_) (bm 18 7999) rfl rfl (take_ofW HT_.out HW_.out (by kernel_rfl)) (fun _ _ _ h => h) (Or.inl ⟨by rfl, ?_⟩) hHeld ?_ ?_
 rotate_left
 ·
  rintro w' ⟨s0, s1, s2, s3, s4, s5, s6, s7⟩
  go_simp
  with_reducible rfl
 rotate_left
 ·
  simp only [Act.put, List.setIfInBounds_toArray, List.set_cons_zero, List.set_cons_succ, i64_w, i32_w]
  rfl
 refine take_ (i := 13) (N := some 37) (v := ?_) (a' := ?_) (bm 18 16191) rfl rfl (take_ofW HT_.out HW_.out (by kernel_rfl)) (fun _ _ _ h => h) (Or.inl ⟨by rfl, ?_⟩) hHeld ?_ ?_
 rotate_left
 ·
  rintro w' ⟨s0, s1, s2, s3, s4, s5, s6, s7⟩
  go_simp
  with_reducible rfl
 rotate_left
 ·
  simp only [Act.put, List.setIfInBounds_toArray, List.set_cons_zero, List.set_cons_succ, i64_w, i32_w]
  rfl
 refine one_ (i := 6) (N := some 30) (bm 18 16255) rfl rfl (one_of HT_.out (by kernel_rfl)) (by decide) (fun K hK => ?_)
 refine goes_ Tryd.func71 (by kernel_rfl) rfl #[.agg #[.int .i64 a1_0, .int .i64 a1_1], .agg #[.int .i64 a1_2, .int .i64 a1_3], .agg #[.int .i64 a0_0, .int .i64 a0_1]] (by rfl) rfl rfl ma_ ?_
 with_reducible refine (spec_l2Cross.calls a1_0 a1_1 a1_2 a1_3 a0_0 a0_1 t137 _ A7.out).mono ?_
 rintro e w19 ⟨rfl, hb⟩
 refine ⟨_, rfl, ?_⟩
 have n0_ := Aside0.mk (ub_ (g := gb131) hb)
 have n1_ := Aside0.mk (ub_ (g := gb132) hb)
 have n2_ := Aside0.mk (below_step hB_ hb)
 clear BK131 BK132 HB
 have BK131 := n0_
 have BK132 := n1_
 have HB := n2_
 clear n0_ n1_ n2_
 (try clear hb)
 (try clear hb2)
 (try clear hk)
 (try clear hi)
 refine hK.out _ _ ⟨bc_, bc_, bc_, bc_, bc_, bc_, bc_, bc_⟩ (fun hHeld => ?_)
 clear hK K
 refine norm_ (a' := ?_) ?_ ?_
 rotate_left
 ·
  show Act.put _ (some 30) _ = _
  simp only [Act.put, List.setIfInBounds_toArray, List.set_cons_zero, List.set_cons_succ, i64_w, i32_w]
  rfl
 refine one_ (i := 7) (N := some 31) (bm 18 16383) rfl rfl (one_of HT_.out (by kernel_rfl)) (by decide) (fun K hK => ?_)
 refine goes_ Tryd.func74 (by kernel_rfl) rfl #[.int .i64 t137] (by rfl) rfl rfl ma_ ?_
 with_reducible refine (spec_l2Sign.calls t137 t138 _ A8.out).mono ?_
 rintro e w' ⟨rfl, ⟨nd, rfl⟩⟩
 refine ⟨_, rfl, ?_⟩
 refine hK.out _ _ ⟨bc_, bc_, bc_, bc_, bc_, bc_, bc_, bc_⟩ (fun hHeld => ?_)
 clear hK K
 refine norm_ (a' := ?_) ?_ ?_
 rotate_left
 ·
  show Act.put _ (some 31) _ = _
  simp only [Act.put, List.setIfInBounds_toArray, List.set_cons_zero, List.set_cons_succ, i64_w, i32_w]
  rfl
 refine one_ (i := 14) (N := some 38) (bm 18 32767) rfl rfl (one_of HT_.out (by kernel_rfl)) (by decide) (fun K hK => ?_)
 refine goes_ Tryd.func71 (by kernel_rfl) rfl #[.agg #[.int .i64 a1_0, .int .i64 a1_1], .agg #[.int .i64 a1_2, .int .i64 a1_3], .agg #[.int .i64 a0_2, .int .i64 a0_3]] (by rfl) rfl rfl ma_ ?_
 with_reducible refine (spec_l2Cross.calls a1_0 a1_1 a1_2 a1_3 a0_2 a0_3 t139 _ A9.out).mono ?_
 rintro e w20 ⟨rfl, hb⟩
 refine ⟨_, rfl, ?_⟩
 have n0_ := Aside0.mk (ub_ (g := gb131) hb)
 have n1_ := Aside0.mk (ub_ (g := gb132) hb)
 have n2_ := Aside0.mk (below_step hB_ hb)
 clear BK131 BK132 HB
 have BK131 := n0_
 have BK132 := n1_
 have HB := n2_
 clear n0_ n1_ n2_
 (try clear hb)
 (try clear hb2)
 (try clear hk)
 (try clear hi)
 refine hK.out _ _ ⟨bc_, bc_, bc_, bc_, bc_, bc_, bc_, bc_⟩ (fun hHeld => ?_)
 clear hK K
 refine norm_ (a' := ?_) ?_ ?_
 rotate_left
 ·
  show Act.put _ (some 38) _ = _
  simp only [Act.put, List.setIfInBounds_toArray, List.set_cons_zero, List.set_cons_succ, i64_w, i32_w]
  rfl
 refine one_ (i := 15) (N := some 39) (bm 18 65535) rfl rfl (one_of HT_.out (by kernel_rfl)) (by decide) (fun K hK => ?_)
 refine goes_ Tryd.func74 (by kernel_rfl) rfl #[.int .i64 t139] (by rfl) rfl rfl ma_ ?_
 with_reducible refine (spec_l2Sign.calls t139 t140 _ A10.out).mono ?_
 rintro e w' ⟨rfl, ⟨nd, rfl⟩⟩
 refine ⟨_, rfl, ?_⟩
 refine hK.out _ _ ⟨bc_, bc_, bc_, bc_, bc_, bc_, bc_, bc_⟩ (fun hHeld => ?_)
 clear hK K
 refine norm_ (a' := ?_) ?_ ?_
 rotate_left
 ·
  show Act.put _ (some 39) _ = _
  simp only [Act.put, List.setIfInBounds_toArray, List.set_cons_zero, List.set_cons_succ, i64_w, i32_w]
  rfl
 refine pure_ (i := 16) (N := some 40) (v := ?_) (a' := ?_) (bm 18 131071) rfl rfl (any_of HT_.out (by kernel_rfl)) (fun _ _ _ h => h) (Or.inl ⟨by rfl, ?_⟩) ?_ ?_
 rotate_left
 ·
  intro w'
  go_simp
  with_reducible rfl
 rotate_left
 ·
  simp only [Act.put, List.setIfInBounds_toArray, List.set_cons_zero, List.set_cons_succ, i64_w, i32_w]
  rfl
 refine pure_ (i := 17) (N := some 6) (v := ?_) (a' := ?_) (bm 18 262143) rfl rfl (any_of HT_.out (by kernel_rfl)) (fun _ _ _ h => h) (Or.inl ⟨by rfl, ?_⟩) ?_ ?_
 rotate_left
 ·
  intro w'
  go_simp
  with_reducible rfl
 rotate_left
 ·
  simp only [Act.put, List.setIfInBounds_toArray, List.set_cons_zero, List.set_cons_succ, i64_w, i32_w]
  rfl
 refine done_ (done_of HT_.out (by kernel_rfl)) ?_
 by_cases c11 : (wrap64 (t134 * t136)) < 0
 ·
  rw [if_pos c11] at H
  have c11b0 : decide ((wrap64 (t134 * t136)) < 0) = true := decide_eq_true c11
  clear c11
  by_cases c12 : (wrap64 (t138 * t140)) < 0
  ·
   rw [if_pos c12] at H
   have c12b0 : decide ((wrap64 (t138 * t140)) < 0) = true := decide_eq_true c12
   clear c12
   obtain rfl := Option.some.inj H
   try go_wp2
   go_ret
   exact ⟨by first | rfl | (simp [errW_none, errW_some] <;> rfl) | (simp [*, errW_none, errW_some] <;> rfl), hB_⟩
  ·
   rw [if_neg c12] at H
   have c12b0 : decide ((wrap64 (t138 * t140)) < 0) = false := decide_eq_false c12
   clear c12
   replace H := Option.bind_eq_some_iff.mp H
   obtain ⟨t141, A210, H⟩ := H
   replace H : (if t141 = true then (some true) else ((spec_l2Has.f a0_0 a0_1 a0_2 a0_3 a1_2 a1_3).bind fun t142 => (if t142 = true then (some true) else ((spec_l2Has.f a1_0 a1_1 a1_2 a1_3 a0_0 a0_1).bind fun t143 => (if t143 = true then (some true) else ((spec_l2Has.f a1_0 a1_1 a1_2 a1_3 a0_2 a0_3).bind fun t144 => (some t144))))))) = some r := H
   have A21 := Aside0.mk A210
   clear A210
   by_cases c22 : t141 = true
   ·
    subst c22
    have H1 : (some true) = some r := by rw [if_pos rfl] at H; exact H
    clear H
    have H := H1
    clear H1
    obtain rfl := Option.some.inj H
    have hnb31 := NB131_132.out
    have hnc31 := NB132_131.out
    have hcz32_0 : w20.cell? ⟨gb131, 0, none⟩ = some (.int .i64 a0_0) := bc_
    have hcz32_1 : w20.cell? ⟨gb131, 1, none⟩ = some (.int .i64 a0_1) := bc_
    have hcz32_2 : w20.cell? ⟨gb131, 2, none⟩ = some (.int .i64 a0_2) := bc_
    have hcz32_3 : w20.cell? ⟨gb131, 3, none⟩ = some (.int .i64 a0_3) := bc_
    have hfz32_0 := blk_frozen BK131.out 0
    have hfz32_1 := blk_frozen BK131.out 1
    have hfz32_2 := blk_frozen BK131.out 2
    have hfz32_3 := blk_frozen BK131.out 3
    have hcz33_0 : w20.cell? ⟨gb132, 0, none⟩ = some (.int .i64 a1_0) := bc_
    have hcz33_1 : w20.cell? ⟨gb132, 1, none⟩ = some (.int .i64 a1_1) := bc_
    have hcz33_2 : w20.cell? ⟨gb132, 2, none⟩ = some (.int .i64 a1_2) := bc_
    have hcz33_3 : w20.cell? ⟨gb132, 3, none⟩ = some (.int .i64 a1_3) := bc_
    have hfz33_0 := blk_frozen BK132.out 0
    have hfz33_1 := blk_frozen BK132.out 1
    have hfz33_2 := blk_frozen BK132.out 2
    have hfz33_3 := blk_frozen BK132.out 3
    try go_wp2_with (first | (go_at_call 75; (with_reducible refine (spec_l2Has.calls a0_0 a0_1 a0_2 a0_3 a1_0 a1_1 true _ A21.out).mono ?_); rintro e w34 ⟨rfl, hb⟩; have n0_ := Aside0.mk (ub_ (g := gb131) hb); have n1_ := Aside0.mk (ub_ (g := gb132) hb); have n2_ := Aside0.mk (below_step hB_ hb); clear BK131; clear BK132; clear HB; have BK131 := n0_; have BK132 := n1_; have HB := n2_; clear n0_ n1_ n2_; (try clear hb); (try clear hb2); (try clear hk); (try clear hi)))
    go_ret
    exact ⟨by first | rfl | (simp [errW_none, errW_some] <;> rfl) | (simp [*, errW_none, errW_some] <;> rfl), hB_⟩
   ·
    replace c22 := Bool.eq_false_iff.mpr c22
    subst c22
    have H1 : ((spec_l2Has.f a0_0 a0_1 a0_2 a0_3 a1_2 a1_3).bind fun t142 => (if t142 = true then (some true) else ((spec_l2Has.f a1_0 a1_1 a1_2 a1_3 a0_0 a0_1).bind fun t143 => (if t143 = true then (some true) else ((spec_l2Has.f a1_0 a1_1 a1_2 a1_3 a0_2 a0_3).bind fun t144 => (some t144)))))) = some r := by rw [if_neg (show ¬ (false = true) by decide)] at H; exact H
    clear H
    have H := H1
    clear H1
    replace H := Option.bind_eq_some_iff.mp H
    obtain ⟨t142, A350, H⟩ := H
    replace H : (if t142 = true then (some true) else ((spec_l2Has.f a1_0 a1_1 a1_2 a1_3 a0_0 a0_1).bind fun t143 => (if t143 = true then (some true) else ((spec_l2Has.f a1_0 a1_1 a1_2 a1_3 a0_2 a0_3).bind fun t144 => (some t144))))) = some r := H
    have A35 := Aside0.mk A350
    clear A350
    by_cases c36 : t142 = true
    ·
     subst c36
     have H1 : (some true) = some r := by rw [if_pos rfl] at H; exact H
     clear H
     have H := H1
     clear H1
     obtain rfl := Option.some.inj H
     have hnb45 := NB131_132.out
     have hnc45 := NB132_131.out
     have hcz46_0 : w20.cell? ⟨gb131, 0, none⟩ = some (.int .i64 a0_0) := bc_
     have hcz46_1 : w20.cell? ⟨gb131, 1, none⟩ = some (.int .i64 a0_1) := bc_
     have hcz46_2 : w20.cell? ⟨gb131, 2, none⟩ = some (.int .i64 a0_2) := bc_
     have hcz46_3 : w20.cell? ⟨gb131, 3, none⟩ = some (.int .i64 a0_3) := bc_
     have hfz46_0 := blk_frozen BK131.out 0
     have hfz46_1 := blk_frozen BK131.out 1
     have hfz46_2 := blk_frozen BK131.out 2
     have hfz46_3 := blk_frozen BK131.out 3
     have hcz47_0 : w20.cell? ⟨gb132, 0, none⟩ = some (.int .i64 a1_0) := bc_
     have hcz47_1 : w20.cell? ⟨gb132, 1, none⟩ = some (.int .i64 a1_1) := bc_
     have hcz47_2 : w20.cell? ⟨gb132, 2, none⟩ = some (.int .i64 a1_2) := bc_
     have hcz47_3 : w20.cell? ⟨gb132, 3, none⟩ = some (.int .i64 a1_3) := bc_
     have hfz47_0 := blk_frozen BK132.out 0
     have hfz47_1 := blk_frozen BK132.out 1
     have hfz47_2 := blk_frozen BK132.out 2
     have hfz47_3 := blk_frozen BK132.out 3
     try go_wp2_with (first | (go_at_call 75; (with_reducible refine (spec_l2Has.calls a0_0 a0_1 a0_2 a0_3 a1_0 a1_1 false _ A21.out).mono ?_); rintro e w48 ⟨rfl, hb⟩; have n0_ := Aside0.mk (ub_ (g := gb131) hb); have n1_ := Aside0.mk (ub_ (g := gb132) hb); have n2_ := Aside0.mk (below_step hB_ hb); clear BK131; clear BK132; clear HB; have BK131 := n0_; have BK132 := n1_; have HB := n2_; clear n0_ n1_ n2_; (try clear hb); (try clear hb2); (try clear hk); (try clear hi); have hcz49_0 : w48.cell? ⟨gb131, 0, none⟩ = some (.int .i64 a0_0) := bc_; have hcz49_1 : w48.cell? ⟨gb131, 1, none⟩ = some (.int .i64 a0_1) := bc_; have hcz49_2 : w48.cell? ⟨gb131, 2, none⟩ = some (.int .i64 a0_2) := bc_; have hcz49_3 : w48.cell? ⟨gb131, 3, none⟩ = some (.int .i64 a0_3) := bc_; have hfz49_0 := blk_frozen BK131.out 0; have hfz49_1 := blk_frozen BK131.out 1; have hfz49_2 := blk_frozen BK131.out 2; have hfz49_3 := blk_frozen BK131.out 3; have hcz50_0 : w48.cell? ⟨gb132, 0, none⟩ = some (.int .i64 a1_0) := bc_; have hcz50_1 : w48.cell? ⟨gb132, 1, none⟩ = some (.int .i64 a1_1) := bc_; have hcz50_2 : w48.cell? ⟨gb132, 2, none⟩ = some (.int .i64 a1_2) := bc_; have hcz50_3 : w48.cell? ⟨gb132, 3, none⟩ = some (.int .i64 a1_3) := bc_; have hfz50_0 := blk_frozen BK132.out 0; have hfz50_1 := blk_frozen BK132.out 1; have hfz50_2 := blk_frozen BK132.out 2; have hfz50_3 := blk_frozen BK132.out 3) | (go_at_call 75; (with_reducible refine (spec_l2Has.calls a0_0 a0_1 a0_2 a0_3 a1_2 a1_3 true _ A35.out).mono ?_); rintro e w51 ⟨rfl, hb⟩; have n0_ := Aside0.mk (ub_ (g := gb131) hb); have n1_ := Aside0.mk (ub_ (g := gb132) hb); have n2_ := Aside0.mk (below_step hB_ hb); clear BK131; clear BK132; clear HB; have BK131 := n0_; have BK132 := n1_; have HB := n2_; clear n0_ n1_ n2_; (try clear hb); (try clear hb2); (try clear hk); (try clear hi)))
     go_ret
     exact ⟨by first | rfl | (simp [errW_none, errW_some] <;> rfl) | (simp [*, errW_none, errW_some] <;> rfl), hB_⟩
    ·
     replace c36 := Bool.eq_false_iff.mpr c36
     subst c36
     have H1 : ((spec_l2Has.f a1_0 a1_1 a1_2 a1_3 a0_0 a0_1).bind fun t143 => (if t143 = true then (some true) else ((spec_l2Has.f a1_0 a1_1 a1_2 a1_3 a0_2 a0_3).bind fun t144 => (some t144)))) = some r := by rw [if_neg (show ¬ (false = true) by decide)] at H; exact H
     clear H
     have H := H1
     clear H1
     replace H := Option.bind_eq_some_iff.mp H
     obtain ⟨t143, A520, H⟩ := H
     replace H : (if t143 = true then (some true) else ((spec_l2Has.f a1_0 a1_1 a1_2 a1_3 a0_2 a0_3).bind fun t144 => (some t144))) = some r := H
     have A52 := Aside0.mk A520
     clear A520
     by_cases c53 : t143 = true
     ·
      subst c53
      have H1 : (some true) = some r := by rw [if_pos rfl] at H; exact H
      clear H
      have H := H1
      clear H1
      obtain rfl := Option.some.inj H
      have hnb62 := NB131_132.out
      have hnc62 := NB132_131.out
      have hcz63_0 : w20.cell? ⟨gb131, 0, none⟩ = some (.int .i64 a0_0) := bc_
      have hcz63_1 : w20.cell? ⟨gb131, 1, none⟩ = some (.int .i64 a0_1) := bc_
      have hcz63_2 : w20.cell? ⟨gb131, 2, none⟩ = some (.int .i64 a0_2) := bc_
      have hcz63_3 : w20.cell? ⟨gb131, 3, none⟩ = some (.int .i64 a0_3) := bc_
      have hfz63_0 := blk_frozen BK131.out 0
      have hfz63_1 := blk_frozen BK131.out 1
      have hfz63_2 := blk_frozen BK131.out 2
      have hfz63_3 := blk_frozen BK131.out 3
      have hcz64_0 : w20.cell? ⟨gb132, 0, none⟩ = some (.int .i64 a1_0) := bc_
      have hcz64_1 : w20.cell? ⟨gb132, 1, none⟩ = some (.int .i64 a1_1) := bc_
      have hcz64_2 : w20.cell? ⟨gb132, 2, none⟩ = some (.int .i64 a1_2) := bc_
      have hcz64_3 : w20.cell? ⟨gb132, 3, none⟩ = some (.int .i64 a1_3) := bc_
      have hfz64_0 := blk_frozen BK132.out 0
      have hfz64_1 := blk_frozen BK132.out 1
      have hfz64_2 := blk_frozen BK132.out 2
      have hfz64_3 := blk_frozen BK132.out 3
      try go_wp2_with (first | (go_at_call 75; (with_reducible refine (spec_l2Has.calls a0_0 a0_1 a0_2 a0_3 a1_0 a1_1 false _ A21.out).mono ?_); rintro e w65 ⟨rfl, hb⟩; have n0_ := Aside0.mk (ub_ (g := gb131) hb); have n1_ := Aside0.mk (ub_ (g := gb132) hb); have n2_ := Aside0.mk (below_step hB_ hb); clear BK131; clear BK132; clear HB; have BK131 := n0_; have BK132 := n1_; have HB := n2_; clear n0_ n1_ n2_; (try clear hb); (try clear hb2); (try clear hk); (try clear hi); have hcz66_0 : w65.cell? ⟨gb131, 0, none⟩ = some (.int .i64 a0_0) := bc_; have hcz66_1 : w65.cell? ⟨gb131, 1, none⟩ = some (.int .i64 a0_1) := bc_; have hcz66_2 : w65.cell? ⟨gb131, 2, none⟩ = some (.int .i64 a0_2) := bc_; have hcz66_3 : w65.cell? ⟨gb131, 3, none⟩ = some (.int .i64 a0_3) := bc_; have hfz66_0 := blk_frozen BK131.out 0; have hfz66_1 := blk_frozen BK131.out 1; have hfz66_2 := blk_frozen BK131.out 2; have hfz66_3 := blk_frozen BK131.out 3; have hcz67_0 : w65.cell? ⟨gb132, 0, none⟩ = some (.int .i64 a1_0) := bc_; have hcz67_1 : w65.cell? ⟨gb132, 1, none⟩ = some (.int .i64 a1_1) := bc_; have hcz67_2 : w65.cell? ⟨gb132, 2, none⟩ = some (.int .i64 a1_2) := bc_; have hcz67_3 : w65.cell? ⟨gb132, 3, none⟩ = some (.int .i64 a1_3) := bc_; have hfz67_0 := blk_frozen BK132.out 0; have hfz67_1 := blk_frozen BK132.out 1; have hfz67_2 := blk_frozen BK132.out 2; have hfz67_3 := blk_frozen BK132.out 3) | (go_at_call 75; (with_reducible refine (spec_l2Has.calls a0_0 a0_1 a0_2 a0_3 a1_2 a1_3 false _ A35.out).mono ?_); rintro e w68 ⟨rfl, hb⟩; have n0_ := Aside0.mk (ub_ (g := gb131) hb); have n1_ := Aside0.mk (ub_ (g := gb132) hb); have n2_ := Aside0.mk (below_step hB_ hb); clear BK131; clear BK132; clear HB; have BK131 := n0_; have BK132 := n1_; have HB := n2_; clear n0_ n1_ n2_; (try clear hb); (try clear hb2); (try clear hk); (try clear hi); have hcz69_0 : w68.cell? ⟨gb132, 0, none⟩ = some (.int .i64 a1_0) := bc_; have hcz69_1 : w68.cell? ⟨gb132, 1, none⟩ = some (.int .i64 a1_1) := bc_; have hcz69_2 : w68.cell? ⟨gb132, 2, none⟩ = some (.int .i64 a1_2) := bc_; have hcz69_3 : w68.cell? ⟨gb132, 3, none⟩ = some (.int .i64 a1_3) := bc_; have hfz69_0 := blk_frozen BK132.out 0; have hfz69_1 := blk_frozen BK132.out 1; have hfz69_2 := blk_frozen BK132.out 2; have hfz69_3 := blk_frozen BK132.out 3; have hcz70_0 : w68.cell? ⟨gb131, 0, none⟩ = some (.int .i64 a0_0) := bc_; have hcz70_1 : w68.cell? ⟨gb131, 1, none⟩ = some (.int .i64 a0_1) := bc_; have hcz70_2 : w68.cell? ⟨gb131, 2, none⟩ = some (.int .i64 a0_2) := bc_; have hcz70_3 : w68.cell? ⟨gb131, 3, none⟩ = some (.int .i64 a0_3) := bc_; have hfz70_0 := blk_frozen BK131.out 0; have hfz70_1 := blk_frozen BK131.out 1; have hfz70_2 := blk_frozen BK131.out 2; have hfz70_3 := blk_frozen BK131.out 3) | (go_at_call 75; (with_reducible refine (spec_l2Has.calls a1_0 a1_1 a1_2 a1_3 a0_0 a0_1 true _ A52.out).mono ?_); rintro e w71 ⟨rfl, hb⟩; have n0_ := Aside0.mk (ub_ (g := gb131) hb); have n1_ := Aside0.mk (ub_ (g := gb132) hb); have n2_ := Aside0.mk (below_step hB_ hb); clear BK131; clear BK132; clear HB; have BK131 := n0_; have BK132 := n1_; have HB := n2_; clear n0_ n1_ n2_; (try clear hb); (try clear hb2); (try clear hk); (try clear hi)))
      go_ret
      exact ⟨by first | rfl | (simp [errW_none, errW_some] <;> rfl) | (simp [*, errW_none, errW_some] <;> rfl), hB_⟩
     ·
      replace c53 := Bool.eq_false_iff.mpr c53
      subst c53
      have H1 : ((spec_l2Has.f a1_0 a1_1 a1_2 a1_3 a0_2 a0_3).bind fun t144 => (some t144)) = some r := by rw [if_neg (show ¬ (false = true) by decide)] at H; exact H
      clear H
      have H := H1
      clear H1
      replace H := Option.bind_eq_some_iff.mp H
      obtain ⟨t144, A720, H⟩ := H
      replace H : (some t144) = some r := H
      have A72 := Aside0.mk A720
      clear A720
      obtain rfl := Option.some.inj H
      have hnb81 := NB131_132.out
      have hnc81 := NB132_131.out
      have hcz82_0 : w20.cell? ⟨gb131, 0, none⟩ = some (.int .i64 a0_0) := bc_
      have hcz82_1 : w20.cell? ⟨gb131, 1, none⟩ = some (.int .i64 a0_1) := bc_
      have hcz82_2 : w20.cell? ⟨gb131, 2, none⟩ = some (.int .i64 a0_2) := bc_
      have hcz82_3 : w20.cell? ⟨gb131, 3, none⟩ = some (.int .i64 a0_3) := bc_
      have hfz82_0 := blk_frozen BK131.out 0
      have hfz82_1 := blk_frozen BK131.out 1
      have hfz82_2 := blk_frozen BK131.out 2
      have hfz82_3 := blk_frozen BK131.out 3
      have hcz83_0 : w20.cell? ⟨gb132, 0, none⟩ = some (.int .i64 a1_0) := bc_
      have hcz83_1 : w20.cell? ⟨gb132, 1, none⟩ = some (.int .i64 a1_1) := bc_
      have hcz83_2 : w20.cell? ⟨gb132, 2, none⟩ = some (.int .i64 a1_2) := bc_
      have hcz83_3 : w20.cell? ⟨gb132, 3, none⟩ = some (.int .i64 a1_3) := bc_
      have hfz83_0 := blk_frozen BK132.out 0
      have hfz83_1 := blk_frozen BK132.out 1
      have hfz83_2 := blk_frozen BK132.out 2
      have hfz83_3 := blk_frozen BK132.out 3
      try go_wp2_with (first | (go_at_call 75; (with_reducible refine (spec_l2Has.calls a0_0 a0_1 a0_2 a0_3 a1_0 a1_1 false _ A21.out).mono ?_); rintro e w84 ⟨rfl, hb⟩; have n0_ := Aside0.mk (ub_ (g := gb131) hb); have n1_ := Aside0.mk (ub_ (g := gb132) hb); have n2_ := Aside0.mk (below_step hB_ hb); clear BK131; clear BK132; clear HB; have BK131 := n0_; have BK132 := n1_; have HB := n2_; clear n0_ n1_ n2_; (try clear hb); (try clear hb2); (try clear hk); (try clear hi); have hcz85_0 : w84.cell? ⟨gb131, 0, none⟩ = some (.int .i64 a0_0) := bc_; have hcz85_1 : w84.cell? ⟨gb131, 1, none⟩ = some (.int .i64 a0_1) := bc_; have hcz85_2 : w84.cell? ⟨gb131, 2, none⟩ = some (.int .i64 a0_2) := bc_; have hcz85_3 : w84.cell? ⟨gb131, 3, none⟩ = some (.int .i64 a0_3) := bc_; have hfz85_0 := blk_frozen BK131.out 0; have hfz85_1 := blk_frozen BK131.out 1; have hfz85_2 := blk_frozen BK131.out 2; have hfz85_3 := blk_frozen BK131.out 3; have hcz86_0 : w84.cell? ⟨gb132, 0, none⟩ = some (.int .i64 a1_0) := bc_; have hcz86_1 : w84.cell? ⟨gb132, 1, none⟩ = some (.int .i64 a1_1) := bc_; have hcz86_2 : w84.cell? ⟨gb132, 2, none⟩ = some (.int .i64 a1_2) := bc_; have hcz86_3 : w84.cell? ⟨gb132, 3, none⟩ = some (.int .i64 a1_3) := bc_; have hfz86_0 := blk_frozen BK132.out 0; have hfz86_1 := blk_frozen BK132.out 1; have hfz86_2 := blk_frozen BK132.out 2; have hfz86_3 := blk_frozen BK132.out 3) | (go_at_call 75; (with_reducible refine (spec_l2Has.calls a0_0 a0_1 a0_2 a0_3 a1_2 a1_3 false _ A35.out).mono ?_); rintro e w87 ⟨rfl, hb⟩; have n0_ := Aside0.mk (ub_ (g := gb131) hb); have n1_ := Aside0.mk (ub_ (g := gb132) hb); have n2_ := Aside0.mk (below_step hB_ hb); clear BK131; clear BK132; clear HB; have BK131 := n0_; have BK132 := n1_; have HB := n2_; clear n0_ n1_ n2_; (try clear hb); (try clear hb2); (try clear hk); (try clear hi); have hcz88_0 : w87.cell? ⟨gb132, 0, none⟩ = some (.int .i64 a1_0) := bc_; have hcz88_1 : w87.cell? ⟨gb132, 1, none⟩ = some (.int .i64 a1_1) := bc_; have hcz88_2 : w87.cell? ⟨gb132, 2, none⟩ = some (.int .i64 a1_2) := bc_; have hcz88_3 : w87.cell? ⟨gb132, 3, none⟩ = some (.int .i64 a1_3) := bc_; have hfz88_0 := blk_frozen BK132.out 0; have hfz88_1 := blk_frozen BK132.out 1; have hfz88_2 := blk_frozen BK132.out 2; have hfz88_3 := blk_frozen BK132.out 3; have hcz89_0 : w87.cell? ⟨gb131, 0, none⟩ = some (.int .i64 a0_0) := bc_; have hcz89_1 : w87.cell? ⟨gb131, 1, none⟩ = some (.int .i64 a0_1) := bc_; have hcz89_2 : w87.cell? ⟨gb131, 2, none⟩ = some (.int .i64 a0_2) := bc_; have hcz89_3 : w87.cell? ⟨gb131, 3, none⟩ = some (.int .i64 a0_3) := bc_; have hfz89_0 := blk_frozen BK131.out 0; have hfz89_1 := blk_frozen BK131.out 1; have hfz89_2 := blk_frozen BK131.out 2; have hfz89_3 := blk_frozen BK131.out 3) | (go_at_call 75; (with_reducible refine (spec_l2Has.calls a1_0 a1_1 a1_2 a1_3 a0_0 a0_1 false _ A52.out).mono ?_); rintro e w90 ⟨rfl, hb⟩; have n0_ := Aside0.mk (ub_ (g := gb131) hb); have n1_ := Aside0.mk (ub_ (g := gb132) hb); have n2_ := Aside0.mk (below_step hB_ hb); clear BK131; clear BK132; clear HB; have BK131 := n0_; have BK132 := n1_; have HB := n2_; clear n0_ n1_ n2_; (try clear hb); (try clear hb2); (try clear hk); (try clear hi); have hcz91_0 : w90.cell? ⟨gb132, 0, none⟩ = some (.int .i64 a1_0) := bc_; have hcz91_1 : w90.cell? ⟨gb132, 1, none⟩ = some (.int .i64 a1_1) := bc_; have hcz91_2 : w90.cell? ⟨gb132, 2, none⟩ = some (.int .i64 a1_2) := bc_; have hcz91_3 : w90.cell? ⟨gb132, 3, none⟩ = some (.int .i64 a1_3) := bc_; have hfz91_0 := blk_frozen BK132.out 0; have hfz91_1 := blk_frozen BK132.out 1; have hfz91_2 := blk_frozen BK132.out 2; have hfz91_3 := blk_frozen BK132.out 3; have hcz92_0 : w90.cell? ⟨gb131, 0, none⟩ = some (.int .i64 a0_0) := bc_; have hcz92_1 : w90.cell? ⟨gb131, 1, none⟩ = some (.int .i64 a0_1) := bc_; have hcz92_2 : w90.cell? ⟨gb131, 2, none⟩ = some (.int .i64 a0_2) := bc_; have hcz92_3 : w90.cell? ⟨gb131, 3, none⟩ = some (.int .i64 a0_3) := bc_; have hfz92_0 := blk_frozen BK131.out 0; have hfz92_1 := blk_frozen BK131.out 1; have hfz92_2 := blk_frozen BK131.out 2; have hfz92_3 := blk_frozen BK131.out 3) | (go_at_call 75; (with_reducible refine (spec_l2Has.calls a1_0 a1_1 a1_2 a1_3 a0_2 a0_3 t144 _ A72.out).mono ?_); rintro e w93 ⟨rfl, hb⟩; have n0_ := Aside0.mk (ub_ (g := gb131) hb); have n1_ := Aside0.mk (ub_ (g := gb132) hb); have n2_ := Aside0.mk (below_step hB_ hb); clear BK131; clear BK132; clear HB; have BK131 := n0_; have BK132 := n1_; have HB := n2_; clear n0_ n1_ n2_; (try clear hb); (try clear hb2); (try clear hk); (try clear hi)))
      go_ret
      exact ⟨by first | rfl | (simp [errW_none, errW_some] <;> rfl) | (simp [*, errW_none, errW_some] <;> rfl), hB_⟩
 ·
  rw [if_neg c11] at H
  have c11b0 : decide ((wrap64 (t134 * t136)) < 0) = false := decide_eq_false c11
  clear c11
  replace H := Option.bind_eq_some_iff.mp H
  obtain ⟨t145, A940, H⟩ := H
  replace H : (if t145 = true then (some true) else ((spec_l2Has.f a0_0 a0_1 a0_2 a0_3 a1_2 a1_3).bind fun t146 => (if t146 = true then (some true) else ((spec_l2Has.f a1_0 a1_1 a1_2 a1_3 a0_0 a0_1).bind fun t147 => (if t147 = true then (some true) else ((spec_l2Has.f a1_0 a1_1 a1_2 a1_3 a0_2 a0_3).bind fun t148 => (some t148))))))) = some r := H
  have A94 := Aside0.mk A940
  clear A940
  by_cases c95 : t145 = true
  ·
   subst c95
   have H1 : (some true) = some r := by rw [if_pos rfl] at H; exact H
   clear H
   have H := H1
   clear H1
   obtain rfl := Option.some.inj H
   have hnb104 := NB131_132.out
   have hnc104 := NB132_131.out
   have hcz105_0 : w20.cell? ⟨gb131, 0, none⟩ = some (.int .i64 a0_0) := bc_
   have hcz105_1 : w20.cell? ⟨gb131, 1, none⟩ = some (.int .i64 a0_1) := bc_
   have hcz105_2 : w20.cell? ⟨gb131, 2, none⟩ = some (.int .i64 a0_2) := bc_
   have hcz105_3 : w20.cell? ⟨gb131, 3, none⟩ = some (.int .i64 a0_3) := bc_
   have hfz105_0 := blk_frozen BK131.out 0
   have hfz105_1 := blk_frozen BK131.out 1
   have hfz105_2 := blk_frozen BK131.out 2
   have hfz105_3 := blk_frozen BK131.out 3
   have hcz106_0 : w20.cell? ⟨gb132, 0, none⟩ = some (.int .i64 a1_0) := bc_
   have hcz106_1 : w20.cell? ⟨gb132, 1, none⟩ = some (.int .i64 a1_1) := bc_
   have hcz106_2 : w20.cell? ⟨gb132, 2, none⟩ = some (.int .i64 a1_2) := bc_
   have hcz106_3 : w20.cell? ⟨gb132, 3, none⟩ = some (.int .i64 a1_3) := bc_
   have hfz106_0 := blk_frozen BK132.out 0
   have hfz106_1 := blk_frozen BK132.out 1
   have hfz106_2 := blk_frozen BK132.out 2
   have hfz106_3 := blk_frozen BK132.out 3
   try go_wp2_with (first | (go_at_call 75; (with_reducible refine (spec_l2Has.calls a0_0 a0_1 a0_2 a0_3 a1_0 a1_1 true _ A94.out).mono ?_); rintro e w107 ⟨rfl, hb⟩; have n0_ := Aside0.mk (ub_ (g := gb131) hb); have n1_ := Aside0.mk (ub_ (g := gb132) hb); have n2_ := Aside0.mk (below_step hB_ hb); clear BK131; clear BK132; clear HB; have BK131 := n0_; have BK132 := n1_; have HB := n2_; clear n0_ n1_ n2_; (try clear hb); (try clear hb2); (try clear hk); (try clear hi)))
   go_ret
   exact ⟨by first | rfl | (simp [errW_none, errW_some] <;> rfl) | (simp [*, errW_none, errW_some] <;> rfl), hB_⟩
  ·
   replace c95 := Bool.eq_false_iff.mpr c95
   subst c95
   have H1 : ((spec_l2Has.f a0_0 a0_1 a0_2 a0_3 a1_2 a1_3).bind fun t146 => (if t146 = true then (some true) else ((spec_l2Has.f a1_0 a1_1 a1_2 a1_3 a0_0 a0_1).bind fun t147 => (if t147 = true then (some true) else ((spec_l2Has.f a1_0 a1_1 a1_2 a1_3 a0_2 a0_3).bind fun t148 => (some t148)))))) = some r := by rw [if_neg (show ¬ (false = true) by decide)] at H; exact H
   clear H
   have H := H1
   clear H1
   replace H := Option.bind_eq_some_iff.mp H
   obtain ⟨t146, A1080, H⟩ := H
   replace H : (if t146 = true then (some true) else ((spec_l2Has.f a1_0 a1_1 a1_2 a1_3 a0_0 a0_1).bind fun t147 => (if t147 = true then (some true) else ((spec_l2Has.f a1_0 a1_1 a1_2 a1_3 a0_2 a0_3).bind fun t148 => (some t148))))) = some r := H
   have A108 := Aside0.mk A1080
   clear A1080
   by_cases c109 : t146 = true
   ·
    subst c109
    have H1 : (some true) = some r := by rw [if_pos rfl] at H; exact H
    clear H
    have H := H1
    clear H1
    obtain rfl := Option.some.inj H
    have hnb118 := NB131_132.out
    have hnc118 := NB132_131.out
    have hcz119_0 : w20.cell? ⟨gb131, 0, none⟩ = some (.int .i64 a0_0) := bc_
    have hcz119_1 : w20.cell? ⟨gb131, 1, none⟩ = some (.int .i64 a0_1) := bc_
    have hcz119_2 : w20.cell? ⟨gb131, 2, none⟩ = some (.int .i64 a0_2) := bc_
    have hcz119_3 : w20.cell? ⟨gb131, 3, none⟩ = some (.int .i64 a0_3) := bc_
    have hfz119_0 := blk_frozen BK131.out 0
    have hfz119_1 := blk_frozen BK131.out 1
    have hfz119_2 := blk_frozen BK131.out 2
    have hfz119_3 := blk_frozen BK131.out 3
    have hcz120_0 : w20.cell? ⟨gb132, 0, none⟩ = some (.int .i64 a1_0) := bc_
    have hcz120_1 : w20.cell? ⟨gb132, 1, none⟩ = some (.int .i64 a1_1) := bc_
    have hcz120_2 : w20.cell? ⟨gb132, 2, none⟩ = some (.int .i64 a1_2) := bc_
    have hcz120_3 : w20.cell? ⟨gb132, 3, none⟩ = some (.int .i64 a1_3) := bc_
    have hfz120_0 := blk_frozen BK132.out 0
    have hfz120_1 := blk_frozen BK132.out 1
    have hfz120_2 := blk_frozen BK132.out 2
    have hfz120_3 := blk_frozen BK132.out 3
    try go_wp2_with (first | (go_at_call 75; (with_reducible refine (spec_l2Has.calls a0_0 a0_1 a0_2 a0_3 a1_0 a1_1 false _ A94.out).mono ?_); rintro e w121 ⟨rfl, hb⟩; have n0_ := Aside0.mk (ub_ (g := gb131) hb); have n1_ := Aside0.mk (ub_ (g := gb132) hb); have n2_ := Aside0.mk (below_step hB_ hb); clear BK131; clear BK132; clear HB; have BK131 := n0_; have BK132 := n1_; have HB := n2_; clear n0_ n1_ n2_; (try clear hb); (try clear hb2); (try clear hk); (try clear hi); have hcz122_0 : w121.cell? ⟨gb131, 0, none⟩ = some (.int .i64 a0_0) := bc_; have hcz122_1 : w121.cell? ⟨gb131, 1, none⟩ = some (.int .i64 a0_1) := bc_; have hcz122_2 : w121.cell? ⟨gb131, 2, none⟩ = some (.int .i64 a0_2) := bc_; have hcz122_3 : w121.cell? ⟨gb131, 3, none⟩ = some (.int .i64 a0_3) := bc_; have hfz122_0 := blk_frozen BK131.out 0; have hfz122_1 := blk_frozen BK131.out 1; have hfz122_2 := blk_frozen BK131.out 2; have hfz122_3 := blk_frozen BK131.out 3; have hcz123_0 : w121.cell? ⟨gb132, 0, none⟩ = some (.int .i64 a1_0) := bc_; have hcz123_1 : w121.cell? ⟨gb132, 1, none⟩ = some (.int .i64 a1_1) := bc_; have hcz123_2 : w121.cell? ⟨gb132, 2, none⟩ = some (.int .i64 a1_2) := bc_; have hcz123_3 : w121.cell? ⟨gb132, 3, none⟩ = some (.int .i64 a1_3) := bc_; have hfz123_0 := blk_frozen BK132.out 0; have hfz123_1 := blk_frozen BK132.out 1; have hfz123_2 := blk_frozen BK132.out 2; have hfz123_3 := blk_frozen BK132.out 3) | (go_at_call 75; (with_reducible refine (spec_l2Has.calls a0_0 a0_1 a0_2 a0_3 a1_2 a1_3 true _ A108.out).mono ?_); rintro e w124 ⟨rfl, hb⟩; have n0_ := Aside0.mk (ub_ (g := gb131) hb); have n1_ := Aside0.mk (ub_ (g := gb132) hb); have n2_ := Aside0.mk (below_step hB_ hb); clear BK131; clear BK132; clear HB; have BK131 := n0_; have BK132 := n1_; have HB := n2_; clear n0_ n1_ n2_; (try clear hb); (try clear hb2); (try clear hk); (try clear hi)))
    go_ret
    exact ⟨by first | rfl | (simp [errW_none, errW_some] <;> rfl) | (simp [*, errW_none, errW_some] <;> rfl), hB_⟩
   ·
    replace c109 := Bool.eq_false_iff.mpr c109
    subst c109
    have H1 : ((spec_l2Has.f a1_0 a1_1 a1_2 a1_3 a0_0 a0_1).bind fun t147 => (if t147 = true then (some true) else ((spec_l2Has.f a1_0 a1_1 a1_2 a1_3 a0_2 a0_3).bind fun t148 => (some t148)))) = some r := by rw [if_neg (show ¬ (false = true) by decide)] at H; exact H
    clear H
    have H := H1
    clear H1
    replace H := Option.bind_eq_some_iff.mp H
    obtain ⟨t147, A1250, H⟩ := H
    replace H : (if t147 = true then (some true) else ((spec_l2Has.f a1_0 a1_1 a1_2 a1_3 a0_2 a0_3).bind fun t148 => (some t148))) = some r := H
    have A125 := Aside0.mk A1250
    clear A1250
    by_cases c126 : t147 = true
    ·
     subst c126
     have H1 : (some true) = some r := by rw [if_pos rfl] at H; exact H
     clear H
     have H := H1
     clear H1
     obtain rfl := Option.some.inj H
     have hnb135 := NB131_132.out
     have hnc135 := NB132_131.out
     have hcz136_0 : w20.cell? ⟨gb131, 0, none⟩ = some (.int .i64 a0_0) := bc_
     have hcz136_1 : w20.cell? ⟨gb131, 1, none⟩ = some (.int .i64 a0_1) := bc_
     have hcz136_2 : w20.cell? ⟨gb131, 2, none⟩ = some (.int .i64 a0_2) := bc_
     have hcz136_3 : w20.cell? ⟨gb131, 3, none⟩ = some (.int .i64 a0_3) := bc_
     have hfz136_0 := blk_frozen BK131.out 0
     have hfz136_1 := blk_frozen BK131.out 1
     have hfz136_2 := blk_frozen BK131.out 2
     have hfz136_3 := blk_frozen BK131.out 3
     have hcz137_0 : w20.cell? ⟨gb132, 0, none⟩ = some (.int .i64 a1_0) := bc_
     have hcz137_1 : w20.cell? ⟨gb132, 1, none⟩ = some (.int .i64 a1_1) := bc_
     have hcz137_2 : w20.cell? ⟨gb132, 2, none⟩ = some (.int .i64 a1_2) := bc_
     have hcz137_3 : w20.cell? ⟨gb132, 3, none⟩ = some (.int .i64 a1_3) := bc_
     have hfz137_0 := blk_frozen BK132.out 0
     have hfz137_1 := blk_frozen BK132.out 1
     have hfz137_2 := blk_frozen BK132.out 2
     have hfz137_3 := blk_frozen BK132.out 3
     try go_wp2_with (first | (go_at_call 75; (with_reducible refine (spec_l2Has.calls a0_0 a0_1 a0_2 a0_3 a1_0 a1_1 false _ A94.out).mono ?_); rintro e w138 ⟨rfl, hb⟩; have n0_ := Aside0.mk (ub_ (g := gb131) hb); have n1_ := Aside0.mk (ub_ (g := gb132) hb); have n2_ := Aside0.mk (below_step hB_ hb); clear BK131; clear BK132; clear HB; have BK131 := n0_; have BK132 := n1_; have HB := n2_; clear n0_ n1_ n2_; (try clear hb); (try clear hb2); (try clear hk); (try clear hi); have hcz139_0 : w138.cell? ⟨gb131, 0, none⟩ = some (.int .i64 a0_0) := bc_; have hcz139_1 : w138.cell? ⟨gb131, 1, none⟩ = some (.int .i64 a0_1) := bc_; have hcz139_2 : w138.cell? ⟨gb131, 2, none⟩ = some (.int .i64 a0_2) := bc_; have hcz139_3 : w138.cell? ⟨gb131, 3, none⟩ = some (.int .i64 a0_3) := bc_; have hfz139_0 := blk_frozen BK131.out 0; have hfz139_1 := blk_frozen BK131.out 1; have hfz139_2 := blk_frozen BK131.out 2; have hfz139_3 := blk_frozen BK131.out 3; have hcz140_0 : w138.cell? ⟨gb132, 0, none⟩ = some (.int .i64 a1_0) := bc_; have hcz140_1 : w138.cell? ⟨gb132, 1, none⟩ = some (.int .i64 a1_1) := bc_; have hcz140_2 : w138.cell? ⟨gb132, 2, none⟩ = some (.int .i64 a1_2) := bc_; have hcz140_3 : w138.cell? ⟨gb132, 3, none⟩ = some (.int .i64 a1_3) := bc_; have hfz140_0 := blk_frozen BK132.out 0; have hfz140_1 := blk_frozen BK132.out 1; have hfz140_2 := blk_frozen BK132.out 2; have hfz140_3 := blk_frozen BK132.out 3) | (go_at_call 75; (with_reducible refine (spec_l2Has.calls a0_0 a0_1 a0_2 a0_3 a1_2 a1_3 false _ A108.out).mono ?_); rintro e w141 ⟨rfl, hb⟩; have n0_ := Aside0.mk (ub_ (g := gb131) hb); have n1_ := Aside0.mk (ub_ (g := gb132) hb); have n2_ := Aside0.mk (below_step hB_ hb); clear BK131; clear BK132; clear HB; have BK131 := n0_; have BK132 := n1_; have HB := n2_; clear n0_ n1_ n2_; (try clear hb); (try clear hb2); (try clear hk); (try clear hi); have hcz142_0 : w141.cell? ⟨gb132, 0, none⟩ = some (.int .i64 a1_0) := bc_; have hcz142_1 : w141.cell? ⟨gb132, 1, none⟩ = some (.int .i64 a1_1) := bc_; have hcz142_2 : w141.cell? ⟨gb132, 2, none⟩ = some (.int .i64 a1_2) := bc_; have hcz142_3 : w141.cell? ⟨gb132, 3, none⟩ = some (.int .i64 a1_3) := bc_; have hfz142_0 := blk_frozen BK132.out 0; have hfz142_1 := blk_frozen BK132.out 1; have hfz142_2 := blk_frozen BK132.out 2; have hfz142_3 := blk_frozen BK132.out 3; have hcz143_0 : w141.cell? ⟨gb131, 0, none⟩ = some (.int .i64 a0_0) := bc_; have hcz143_1 : w141.cell? ⟨gb131, 1, none⟩ = some (.int .i64 a0_1) := bc_; have hcz143_2 : w141.cell? ⟨gb131, 2, none⟩ = some (.int .i64 a0_2) := bc_; have hcz143_3 : w141.cell? ⟨gb131, 3, none⟩ = some (.int .i64 a0_3) := bc_; have hfz143_0 := blk_frozen BK131.out 0; have hfz143_1 := blk_frozen BK131.out 1; have hfz143_2 := blk_frozen BK131.out 2; have hfz143_3 := blk_frozen BK131.out 3) | (go_at_call 75; (with_reducible refine (spec_l2Has.calls a1_0 a1_1 a1_2 a1_3 a0_0 a0_1 true _ A125.out).mono ?_); rintro e w144 ⟨rfl, hb⟩; have n0_ := Aside0.mk (ub_ (g := gb131) hb); have n1_ := Aside0.mk (ub_ (g := gb132) hb); have n2_ := Aside0.mk (below_step hB_ hb); clear BK131; clear BK132; clear HB; have BK131 := n0_; have BK132 := n1_; have HB := n2_; clear n0_ n1_ n2_; (try clear hb); (try clear hb2); (try clear hk); (try clear hi)))
     go_ret
     exact ⟨by first | rfl | (simp [errW_none, errW_some] <;> rfl) | (simp [*, errW_none, errW_some] <;> rfl), hB_⟩
    ·
     replace c126 := Bool.eq_false_iff.mpr c126
     subst c126
     have H1 : ((spec_l2Has.f a1_0 a1_1 a1_2 a1_3 a0_2 a0_3).bind fun t148 => (some t148)) = some r := by rw [if_neg (show ¬ (false = true) by decide)] at H; exact H
     clear H
     have H := H1
     clear H1
     replace H := Option.bind_eq_some_iff.mp H
     obtain ⟨t148, A1450, H⟩ := H
     replace H : (some t148) = some r := H
     have A145 := Aside0.mk A1450
     clear A1450
     obtain rfl := Option.some.inj H
     have hnb154 := NB131_132.out
     have hnc154 := NB132_131.out
     have hcz155_0 : w20.cell? ⟨gb131, 0, none⟩ = some (.int .i64 a0_0) := bc_
     have hcz155_1 : w20.cell? ⟨gb131, 1, none⟩ = some (.int .i64 a0_1) := bc_
     have hcz155_2 : w20.cell? ⟨gb131, 2, none⟩ = some (.int .i64 a0_2) := bc_
     have hcz155_3 : w20.cell? ⟨gb131, 3, none⟩ = some (.int .i64 a0_3) := bc_
     have hfz155_0 := blk_frozen BK131.out 0
     have hfz155_1 := blk_frozen BK131.out 1
     have hfz155_2 := blk_frozen BK131.out 2
     have hfz155_3 := blk_frozen BK131.out 3
     have hcz156_0 : w20.cell? ⟨gb132, 0, none⟩ = some (.int .i64 a1_0) := bc_
     have hcz156_1 : w20.cell? ⟨gb132, 1, none⟩ = some (.int .i64 a1_1) := bc_
     have hcz156_2 : w20.cell? ⟨gb132, 2, none⟩ = some (.int .i64 a1_2) := bc_
     have hcz156_3 : w20.cell? ⟨gb132, 3, none⟩ = some (.int .i64 a1_3) := bc_
     have hfz156_0 := blk_frozen BK132.out 0
     have hfz156_1 := blk_frozen BK132.out 1
     have hfz156_2 := blk_frozen BK132.out 2
     have hfz156_3 := blk_frozen BK132.out 3
     try go_wp2_with (first | (go_at_call 75; (with_reducible refine (spec_l2Has.calls a0_0 a0_1 a0_2 a0_3 a1_0 a1_1 false _ A94.out).mono ?_); rintro e w157 ⟨rfl, hb⟩; have n0_ := Aside0.mk (ub_ (g := gb131) hb); have n1_ := Aside0.mk (ub_ (g := gb132) hb); have n2_ := Aside0.mk (below_step hB_ hb); clear BK131; clear BK132; clear HB; have BK131 := n0_; have BK132 := n1_; have HB := n2_; clear n0_ n1_ n2_; (try clear hb); (try clear hb2); (try clear hk); (try clear hi); have hcz158_0 : w157.cell? ⟨gb131, 0, none⟩ = some (.int .i64 a0_0) := bc_; have hcz158_1 : w157.cell? ⟨gb131, 1, none⟩ = some (.int .i64 a0_1) := bc_; have hcz158_2 : w157.cell? ⟨gb131, 2, none⟩ = some (.int .i64 a0_2) := bc_; have hcz158_3 : w157.cell? ⟨gb131, 3, none⟩ = some (.int .i64 a0_3) := bc_; have hfz158_0 := blk_frozen BK131.out 0; have hfz158_1 := blk_frozen BK131.out 1; have hfz158_2 := blk_frozen BK131.out 2; have hfz158_3 := blk_frozen BK131.out 3; have hcz159_0 : w157.cell? ⟨gb132, 0, none⟩ = some (.int .i64 a1_0) := bc_; have hcz159_1 : w157.cell? ⟨gb132, 1, none⟩ = some (.int .i64 a1_1) := bc_; have hcz159_2 : w157.cell? ⟨gb132, 2, none⟩ = some (.int .i64 a1_2) := bc_; have hcz159_3 : w157.cell? ⟨gb132, 3, none⟩ = some (.int .i64 a1_3) := bc_; have hfz159_0 := blk_frozen BK132.out 0; have hfz159_1 := blk_frozen BK132.out 1; have hfz159_2 := blk_frozen BK132.out 2; have hfz159_3 := blk_frozen BK132.out 3) | (go_at_call 75; (with_reducible refine (spec_l2Has.calls a0_0 a0_1 a0_2 a0_3 a1_2 a1_3 false _ A108.out).mono ?_); rintro e w160 ⟨rfl, hb⟩; have n0_ := Aside0.mk (ub_ (g := gb131) hb); have n1_ := Aside0.mk (ub_ (g := gb132) hb); have n2_ := Aside0.mk (below_step hB_ hb); clear BK131; clear BK132; clear HB; have BK131 := n0_; have BK132 := n1_; have HB := n2_; clear n0_ n1_ n2_; (try clear hb); (try clear hb2); (try clear hk); (try clear hi); have hcz161_0 : w160.cell? ⟨gb132, 0, none⟩ = some (.int .i64 a1_0) := bc_; have hcz161_1 : w160.cell? ⟨gb132, 1, none⟩ = some (.int .i64 a1_1) := bc_; have hcz161_2 : w160.cell? ⟨gb132, 2, none⟩ = some (.int .i64 a1_2) := bc_; have hcz161_3 : w160.cell? ⟨gb132, 3, none⟩ = some (.int .i64 a1_3) := bc_; have hfz161_0 := blk_frozen BK132.out 0; have hfz161_1 := blk_frozen BK132.out 1; have hfz161_2 := blk_frozen BK132.out 2; have hfz161_3 := blk_frozen BK132.out 3; have hcz162_0 : w160.cell? ⟨gb131, 0, none⟩ = some (.int .i64 a0_0) := bc_; have hcz162_1 : w160.cell? ⟨gb131, 1, none⟩ = some (.int .i64 a0_1) := bc_; have hcz162_2 : w160.cell? ⟨gb131, 2, none⟩ = some (.int .i64 a0_2) := bc_; have hcz162_3 : w160.cell? ⟨gb131, 3, none⟩ = some (.int .i64 a0_3) := bc_; have hfz162_0 := blk_frozen BK131.out 0; have hfz162_1 := blk_frozen BK131.out 1; have hfz162_2 := blk_frozen BK131.out 2; have hfz162_3 := blk_frozen BK131.out 3) | (go_at_call 75; (with_reducible refine (spec_l2Has.calls a1_0 a1_1 a1_2 a1_3 a0_0 a0_1 false _ A125.out).mono ?_); rintro e w163 ⟨rfl, hb⟩; have n0_ := Aside0.mk (ub_ (g := gb131) hb); have n1_ := Aside0.mk (ub_ (g := gb132) hb); have n2_ := Aside0.mk (below_step hB_ hb); clear BK131; clear BK132; clear HB; have BK131 := n0_; have BK132 := n1_; have HB := n2_; clear n0_ n1_ n2_; (try clear hb); (try clear hb2); (try clear hk); (try clear hi); have hcz164_0 : w163.cell? ⟨gb132, 0, none⟩ = some (.int .i64 a1_0) := bc_; have hcz164_1 : w163.cell? ⟨gb132, 1, none⟩ = some (.int .i64 a1_1) := bc_; have hcz164_2 : w163.cell? ⟨gb132, 2, none⟩ = some (.int .i64 a1_2) := bc_; have hcz164_3 : w163.cell? ⟨gb132, 3, none⟩ = some (.int .i64 a1_3) := bc_; have hfz164_0 := blk_frozen BK132.out 0; have hfz164_1 := blk_frozen BK132.out 1; have hfz164_2 := blk_frozen BK132.out 2; have hfz164_3 := blk_frozen BK132.out 3; have hcz165_0 : w163.cell? ⟨gb131, 0, none⟩ = some (.int .i64 a0_0) := bc_; have hcz165_1 : w163.cell? ⟨gb131, 1, none⟩ = some (.int .i64 a0_1) := bc_; have hcz165_2 : w163.cell? ⟨gb131, 2, none⟩ = some (.int .i64 a0_2) := bc_; have hcz165_3 : w163.cell? ⟨gb131, 3, none⟩ = some (.int .i64 a0_3) := bc_; have hfz165_0 := blk_frozen BK131.out 0; have hfz165_1 := blk_frozen BK131.out 1; have hfz165_2 := blk_frozen BK131.out 2; have hfz165_3 := blk_frozen BK131.out 3) | (go_at_call 75; (with_reducible refine (spec_l2Has.calls a1_0 a1_1 a1_2 a1_3 a0_2 a0_3 t148 _ A145.out).mono ?_); rintro e w166 ⟨rfl, hb⟩; have n0_ := Aside0.mk (ub_ (g := gb131) hb); have n1_ := Aside0.mk (ub_ (g := gb132) hb); have n2_ := Aside0.mk (below_step hB_ hb); clear BK131; clear BK132; clear HB; have BK131 := n0_; have BK132 := n1_; have HB := n2_; clear n0_ n1_ n2_; (try clear hb); (try clear hb2); (try clear hk); (try clear hi)))
     go_ret
     exact ⟨by first | rfl | (simp [errW_none, errW_some] <;> rfl) | (simp [*, errW_none, errW_some] <;> rfl), hB_⟩
end Go.Proofs.YtnponnkcfgjeoaaDoor.X
end
section
set_option linter.unusedVariables false
set_option linter.unusedSimpArgs false
namespace Go.Proofs.YtnponnkcfgjeoaaDoor.X
open Go.RowKit Go.Proofs.YtnponnkcfgjeoaaDoorW.PrintWords Go.Proofs.YtnponnkcfgjeoaaDoorW.PrintLast Go.Proofs.YtnponnkcfgjeoaaDoorW.PrintMore
open Mort
theorem sMeet {a b c d e f g h : Int} (o1 : ptOk (a, b) = true) (o2 : ptOk (c, d) = true) (o3 : ptOk (e, f) = true) (o4 : ptOk (g, h) = true) :
    spec_l2Meet.f a b c d e f g h = some (meet ((a, b), (c, d)) ((e, f), (g, h))) := by
  unfold spec_l2Meet.f meet
  simp only [sCross o1 o2 o3, sCross o1 o2 o4, sCross o3 o4 o1, sCross o3 o4 o2, sSign, sHas o1 o2 o3, sHas o1 o2 o4, sHas o3 o4 o1, sHas o3 o4 o2, Option.bind_some, turn_mul]
  by_cases z1 : sgn (cross (a, b) (c, d) (e, f)) * sgn (cross (a, b) (c, d) (g, h)) < 0 <;>
  by_cases z2 : sgn (cross (e, f) (g, h) (a, b)) * sgn (cross (e, f) (g, h) (c, d)) < 0 <;>
  cases has ((a, b), (c, d)) (e, f) <;> cases has ((a, b), (c, d)) (g, h) <;> cases has ((e, f), (g, h)) (a, b) <;> cases has ((e, f), (g, h)) (c, d) <;> simp [z1, z2]
end Go.Proofs.YtnponnkcfgjeoaaDoor.X
end
section
namespace Go.Proofs.YtnponnkcfgjeoaaDoor.X
open Go.RowKit Go.Proofs.YtnponnkcfgjeoaaDoorW.PrintWords Go.Proofs.YtnponnkcfgjeoaaDoorW.PrintLast Go.Proofs.YtnponnkcfgjeoaaDoorW.PrintMore
attribute [local go_sem] max2_int min2_int max_two min_two max_three min_three max_four min_four
set_option linter.unusedVariables false
set_option linter.unusedSimpArgs false
def spec_l2Apart.f (k : Nat) (a0_0 : Int) (a0_1 : Int) (a0_2 : Int) (a0_3 : Int) (a1_0 : Int) (a1_1 : Int) (a1_2 : Int) (a1_3 : Int) : Option (Int × Int) := (spec_l2Meet.f a0_0 a0_1 a0_2 a0_3 a1_0 a1_1 a1_2 a1_3).bind fun t438 => (if t438 = true then (some (0, 1)) else ((spec_l2Far.f k a0_0 a0_1 a0_2 a0_3 a1_0 a1_1).bind fun bt439 => ((spec_l2Far.f k a0_0 a0_1 a0_2 a0_3 a1_2 a1_3).bind fun bt441 => ((spec_l2Least.f bt439.1 bt439.2 bt441.1 bt441.2).bind fun bt443 => ((spec_l2Far.f k a1_0 a1_1 a1_2 a1_3 a0_0 a0_1).bind fun bt445 => ((spec_l2Far.f k a1_0 a1_1 a1_2 a1_3 a0_2 a0_3).bind fun bt447 => ((spec_l2Least.f bt445.1 bt445.2 bt447.1 bt447.2).bind fun bt449 => ((spec_l2Least.f bt443.1 bt443.2 bt449.1 bt449.2).bind fun bt451 => (some (bt451.1, bt451.2))))))))))
def spec_l2Apart.T3 : Bool × List (List Nat × List Nat) := (true, [([], []), ([], []), ([1], [1]), ([0, 2], [0, 2]), ([], []), ([], []), ([5], [5]), ([4, 6, 3], [4, 6]), ([3, 7, 7], [3, 7]), ([], []), ([], []), ([10], [10]), ([9, 11, 8], [9, 11]), ([], []), ([], []), ([14], [14]), ([13, 15, 12], [13, 15]), ([12, 16, 16], [12, 16]), ([8, 17, 17], [8, 17]), ([18, 18, 0, 1, 2, 3, 4, 5, 6, 7, 8, 9, 10, 11, 12, 13, 14, 15, 16, 17, 18], [18])])
def spec_l2Apart.B3 : List Nat := [0, 0, 2, 7, 0, 0, 32, 127, 255, 0, 0, 1024, 4095, 0, 0, 16384, 65535, 131071, 262143, 524287]
theorem spec_l2Apart.tab3 : rtab .any (opsOf Tryd.f61 3) = spec_l2Apart.T3 := by kernel_rfl
theorem spec_l2Apart.bits3 : waitsOk spec_l2Apart.T3.2 spec_l2Apart.B3 = true := by kernel_rfl
set_option maxHeartbeats 8000000 in
set_option maxRecDepth 100000 in
theorem spec_l2Apart.calls (k : Nat) (a0_0 : Int) (a0_1 : Int) (a0_2 : Int) (a0_3 : Int) (a1_0 : Int) (a1_1 : Int) (a1_2 : Int) (a1_3 : Int) (r1 : Int) (r2 : Int) (w : World) (h : spec_l2Apart.f k a0_0 a0_1 a0_2 a0_3 a1_0 a1_1 a1_2 a1_3 = some (r1, r2)) :
  Calls Tryd.prog 61 #[.agg #[.int .i64 a0_0, .int .i64 a0_1, .int .i64 a0_2, .int .i64 a0_3], .agg #[.int .i64 a1_0, .int .i64 a1_1, .int .i64 a1_2, .int .i64 a1_3]] w fun e w' => e = .returned (.agg #[.int .i64 r1, .int .i64 r2]) ∧ Below w.heap.size w w' := by
 have hu40 := Tryd.underlying40
 have hu25 := Tryd.underlying25
 have hu38 := Tryd.underlying38
 have HB := Aside0.mk (Below.refl w.heap.size w)
 have H : ((spec_l2Meet.f a0_0 a0_1 a0_2 a0_3 a1_0 a1_1 a1_2 a1_3).bind fun t438 => (if t438 = true then (some (0, 1)) else ((spec_l2Far.f k a0_0 a0_1 a0_2 a0_3 a1_0 a1_1).bind fun bt439 => ((spec_l2Far.f k a0_0 a0_1 a0_2 a0_3 a1_2 a1_3).bind fun bt441 => ((spec_l2Least.f bt439.1 bt439.2 bt441.1 bt441.2).bind fun bt443 => ((spec_l2Far.f k a1_0 a1_1 a1_2 a1_3 a0_0 a0_1).bind fun bt445 => ((spec_l2Far.f k a1_0 a1_1 a1_2 a1_3 a0_2 a0_3).bind fun bt447 => ((spec_l2Least.f bt445.1 bt445.2 bt447.1 bt447.2).bind fun bt449 => ((spec_l2Least.f bt443.1 bt443.2 bt449.1 bt449.2).bind fun bt451 => (some (bt451.1, bt451.2))))))))))) = some (r1, r2) := h
 clear h
 replace H := Option.bind_eq_some_iff.mp H
 obtain ⟨t438, A30, H⟩ := H
 replace H : (if t438 = true then (some (0, 1)) else ((spec_l2Far.f k a0_0 a0_1 a0_2 a0_3 a1_0 a1_1).bind fun bt439 => ((spec_l2Far.f k a0_0 a0_1 a0_2 a0_3 a1_2 a1_3).bind fun bt441 => ((spec_l2Least.f bt439.1 bt439.2 bt441.1 bt441.2).bind fun bt443 => ((spec_l2Far.f k a1_0 a1_1 a1_2 a1_3 a0_0 a0_1).bind fun bt445 => ((spec_l2Far.f k a1_0 a1_1 a1_2 a1_3 a0_2 a0_3).bind fun bt447 => ((spec_l2Least.f bt445.1 bt445.2 bt447.1 bt447.2).bind fun bt449 => ((spec_l2Least.f bt443.1 bt443.2 bt449.1 bt449.2).bind fun bt451 => (some (bt451.1, bt451.2)))))))))) = some (r1, r2) := H
 have A3 := Aside0.mk A30
 clear A30
 by_cases c4 : t438 = true
 ·
  subst c4
  have H1 : (some (0, 1)) = some (r1, r2) := by rw [if_pos rfl] at H; exact H
  clear H
  have H := H1
  clear H1
  simp only [Option.some.injEq, Prod.mk.injEq] at H
  obtain ⟨rfl, rfl⟩ := H
  go_enter Tryd.func61, Tryd.ntmps61
  go_wp2_with (first | ((with_reducible refine gate_dst (N := 2) rfl ?_); refine box_event ?hg (N := 2) ?hd (cs := #[.int .i64 a0_0, .int .i64 a0_1, .int .i64 a0_2, .int .i64 a0_3]) (t := 40) ?hr ?_; (case hd => rfl); (case hg => rfl); (case hr => first | (go_simp; done) | (go_simp; rfl)); intro gb435 hg w5 hbox hb; have n0_ := Aside0.mk (below_step hB_ hb); have n1_ := Aside0.mk (hbox); have n2_ := Aside0.mk ((by rw [hg]; exact (below_size hB_) : w.heap.size ≤ gb435)); have n3_ := Aside0.mk ((by rw [hg]; exact (below_size hB_) : w.heap.size ≤ gb435)); clear HB; have HB := n0_; have BK435 := n1_; have GW435 := n2_; have GE435 := n3_; clear n0_ n1_ n2_ n3_; clear hb hbox hg) | ((with_reducible refine gate_dst (N := 3) rfl ?_); refine box_event ?hg (N := 3) ?hd (cs := #[.int .i64 a1_0, .int .i64 a1_1, .int .i64 a1_2, .int .i64 a1_3]) (t := 40) ?hr ?_; (case hd => rfl); (case hg => rfl); (case hr => first | (go_simp; done) | (go_simp; rfl)); intro gb436 hg w6 hbox hb; have n0_ := Aside0.mk (ub_ (g := gb435) hb); have n1_ := Aside0.mk (below_step hB_ hb); have n2_ := Aside0.mk (hbox); have n3_ := Aside0.mk ((by rw [hg]; exact (below_size hB_) : w.heap.size ≤ gb436)); have n4_ := Aside0.mk ((by rw [hg]; exact (below_size hB_) : w.heap.size ≤ gb436)); have n5_ := Aside0.mk ((by rw [hg]; exact Nat.ne_of_lt (blk_lt (g := gb435) (o := .cells #[.int .i64 a0_0, .int .i64 a0_1, .int .i64 a0_2, .int .i64 a0_3] 40 (0, 0)) uq_) : gb435 ≠ gb436)); have n6_ := Aside0.mk ((by rw [hg]; exact Nat.ne_of_gt (blk_lt (g := gb435) (o := .cells #[.int .i64 a0_0, .int .i64 a0_1, .int .i64 a0_2, .int .i64 a0_3] 40 (0, 0)) uq_) : gb436 ≠ gb435)); clear BK435; clear HB; have BK435 := n0_; have HB := n1_; have BK436 := n2_; have GW436 := n3_; have GE436 := n4_; have NB435_436 := n5_; have NB436_435 := n6_; clear n0_ n1_ n2_ n3_ n4_ n5_ n6_; clear hb hbox hg) | ((with_reducible refine gate_dst (N := 4) rfl ?_); refine box_event ?hg (N := 4) ?hd (cs := #[.int .i64 0, .int .i64 0]) (t := 25) ?hr ?_; (case hd => rfl); (case hg => rfl); (case hr => first | (go_simp; done) | (go_simp; rfl)); intro gb437 hg w7 hbox hb; have n0_ := Aside0.mk (ub_ (g := gb435) hb); have n1_ := Aside0.mk (ub_ (g := gb436) hb); have n2_ := Aside0.mk (below_step hB_ hb); have n3_ := Aside0.mk (hbox); have n4_ := Aside0.mk ((by rw [hg]; exact (below_size hB_) : w.heap.size ≤ gb437)); have n5_ := Aside0.mk ((by rw [hg]; exact (below_size hB_) : w.heap.size ≤ gb437)); have n6_ := Aside0.mk ((by rw [hg]; exact Nat.ne_of_lt (blk_lt (g := gb435) (o := .cells #[.int .i64 a0_0, .int .i64 a0_1, .int .i64 a0_2, .int .i64 a0_3] 40 (0, 0)) uq_) : gb435 ≠ gb437)); have n7_ := Aside0.mk ((by rw [hg]; exact Nat.ne_of_gt (blk_lt (g := gb435) (o := .cells #[.int .i64 a0_0, .int .i64 a0_1, .int .i64 a0_2, .int .i64 a0_3] 40 (0, 0)) uq_) : gb437 ≠ gb435)); have n8_ := Aside0.mk ((by rw [hg]; exact Nat.ne_of_lt (blk_lt (g := gb436) (o := .cells #[.int .i64 a1_0, .int .i64 a1_1, .int .i64 a1_2, .int .i64 a1_3] 40 (0, 0)) uq_) : gb436 ≠ gb437)); have n9_ := Aside0.mk ((by rw [hg]; exact Nat.ne_of_gt (blk_lt (g := gb436) (o := .cells #[.int .i64 a1_0, .int .i64 a1_1, .int .i64 a1_2, .int .i64 a1_3] 40 (0, 0)) uq_) : gb437 ≠ gb436)); clear BK435; clear BK436; clear HB; have BK435 := n0_; have BK436 := n1_; have HB := n2_; have BK437 := n3_; have GW437 := n4_; have GE437 := n5_; have NB435_437 := n6_; have NB437_435 := n7_; have NB436_437 := n8_; have NB437_436 := n9_; clear n0_ n1_ n2_ n3_ n4_ n5_ n6_ n7_ n8_ n9_; clear hb hbox hg; have hnb8 := NB435_436.out; have hnc8 := NB436_435.out; have hnb9 := NB435_437.out; have hnc9 := NB437_435.out; have hcz10_0 : w7.cell? ⟨gb435, 0, none⟩ = some (.int .i64 a0_0) := bc_; have hcz10_1 : w7.cell? ⟨gb435, 1, none⟩ = some (.int .i64 a0_1) := bc_; have hcz10_2 : w7.cell? ⟨gb435, 2, none⟩ = some (.int .i64 a0_2) := bc_; have hcz10_3 : w7.cell? ⟨gb435, 3, none⟩ = some (.int .i64 a0_3) := bc_; have hfz10_0 := blk_frozen BK435.out 0; have hfz10_1 := blk_frozen BK435.out 1; have hfz10_2 := blk_frozen BK435.out 2; have hfz10_3 := blk_frozen BK435.out 3; have hnb11 := NB436_437.out; have hnc11 := NB437_436.out; have hcz12_0 : w7.cell? ⟨gb436, 0, none⟩ = some (.int .i64 a1_0) := bc_; have hcz12_1 : w7.cell? ⟨gb436, 1, none⟩ = some (.int .i64 a1_1) := bc_; have hcz12_2 : w7.cell? ⟨gb436, 2, none⟩ = some (.int .i64 a1_2) := bc_; have hcz12_3 : w7.cell? ⟨gb436, 3, none⟩ = some (.int .i64 a1_3) := bc_; have hfz12_0 := blk_frozen BK436.out 0; have hfz12_1 := blk_frozen BK436.out 1; have hfz12_2 := blk_frozen BK436.out 2; have hfz12_3 := blk_frozen BK436.out 3) | ((with_reducible refine gate_callee (f := 72) rfl ?_); refine goesL_ (some 7) rfl rfl Tryd.func72 (by kernel_rfl) rfl #[.agg #[.int .i64 a0_0, .int .i64 a0_1, .int .i64 a0_2, .int .i64 a0_3], .agg #[.int .i64 a1_0, .int .i64 a1_1, .int .i64 a1_2, .int .i64 a1_3]] rfl ma_ ?_; (with_reducible refine (spec_l2Meet.calls a0_0 a0_1 a0_2 a0_3 a1_0 a1_1 a1_2 a1_3 true _ A3.out).mono ?_); rintro e w13 ⟨rfl, hb⟩; refine ⟨_, rfl, ?_⟩; have n0_ := Aside0.mk (ub_ (g := gb435) hb); have n1_ := Aside0.mk (ub_ (g := gb436) hb); have n2_ := Aside0.mk (ub_ (g := gb437) hb); have n3_ := Aside0.mk (below_step hB_ hb); clear BK435; clear BK436; clear BK437; clear HB; have BK435 := n0_; have BK436 := n1_; have BK437 := n2_; have HB := n3_; clear n0_ n1_ n2_ n3_; (try clear hb); (try clear hb2); (try clear hk); (try clear hi); have hcz14_0 : w13.cell? ⟨gb437, 0, none⟩ = some (.int .i64 0) := bc_; have hcz14_1 : w13.cell? ⟨gb437, 1, none⟩ = some (.int .i64 0) := bc_; have hfz14_0 := blk_frozen BK437.out 0; have hfz14_1 := blk_frozen BK437.out 1))
  refine bodyPost_ret (results_cell_row rfl _ _ gb437 25 #[.int .i64 0, .int .i64 1] (0, 0) _ rfl (by (with_reducible repeat (first | refine blk_drewN ?_ _ | refine blk_drew ?_ | refine blk_alloc ?_ _)); refine blk_put (cs := #[.int .i64 0, .int .i64 0]) ?_ 1 _ rfl; (with_reducible repeat (first | refine blk_drewN ?_ _ | refine blk_drew ?_ | refine blk_alloc ?_ _)); refine blk_put (cs := #[.int .i64 0, .int .i64 0]) ?_ 0 _ rfl; (with_reducible repeat (first | refine blk_drewN ?_ _ | refine blk_drew ?_ | refine blk_alloc ?_ _)); exact BK437.out) Tryd.underlying25 rfl (by kernel_rfl)) rfl ?_
  exact ⟨by first | rfl | (simp [errW_none, errW_some] <;> rfl) | (simp [*, errW_none, errW_some] <;> rfl), hB_⟩
 ·
  replace c4 := Bool.eq_false_iff.mpr c4
  subst c4
  have H1 : ((spec_l2Far.f k a0_0 a0_1 a0_2 a0_3 a1_0 a1_1).bind fun bt439 => ((spec_l2Far.f k a0_0 a0_1 a0_2 a0_3 a1_2 a1_3).bind fun bt441 => ((spec_l2Least.f bt439.1 bt439.2 bt441.1 bt441.2).bind fun bt443 => ((spec_l2Far.f k a1_0 a1_1 a1_2 a1_3 a0_0 a0_1).bind fun bt445 => ((spec_l2Far.f k a1_0 a1_1 a1_2 a1_3 a0_2 a0_3).bind fun bt447 => ((spec_l2Least.f bt445.1 bt445.2 bt447.1 bt447.2).bind fun bt449 => ((spec_l2Least.f bt443.1 bt443.2 bt449.1 bt449.2).bind fun bt451 => (some (bt451.1, bt451.2))))))))) = some (r1, r2) := by rw [if_neg (show ¬ (false = true) by decide)] at H; exact H
  clear H
  have H := H1
  clear H1
  replace H := Option.bind_eq_some_iff.mp H
  obtain ⟨⟨t439, t440⟩, A150, H⟩ := H
  replace H : ((spec_l2Far.f k a0_0 a0_1 a0_2 a0_3 a1_2 a1_3).bind fun bt441 => ((spec_l2Least.f t439 t440 bt441.1 bt441.2).bind fun bt443 => ((spec_l2Far.f k a1_0 a1_1 a1_2 a1_3 a0_0 a0_1).bind fun bt445 => ((spec_l2Far.f k a1_0 a1_1 a1_2 a1_3 a0_2 a0_3).bind fun bt447 => ((spec_l2Least.f bt445.1 bt445.2 bt447.1 bt447.2).bind fun bt449 => ((spec_l2Least.f bt443.1 bt443.2 bt449.1 bt449.2).bind fun bt451 => (some (bt451.1, bt451.2)))))))) = some (r1, r2) := H
  have A15 := Aside0.mk A150
  clear A150
  replace H := Option.bind_eq_some_iff.mp H
  obtain ⟨⟨t441, t442⟩, A160, H⟩ := H
  replace H : ((spec_l2Least.f t439 t440 t441 t442).bind fun bt443 => ((spec_l2Far.f k a1_0 a1_1 a1_2 a1_3 a0_0 a0_1).bind fun bt445 => ((spec_l2Far.f k a1_0 a1_1 a1_2 a1_3 a0_2 a0_3).bind fun bt447 => ((spec_l2Least.f bt445.1 bt445.2 bt447.1 bt447.2).bind fun bt449 => ((spec_l2Least.f bt443.1 bt443.2 bt449.1 bt449.2).bind fun bt451 => (some (bt451.1, bt451.2))))))) = some (r1, r2) := H
  have A16 := Aside0.mk A160
  clear A160
  replace H := Option.bind_eq_some_iff.mp H
  obtain ⟨⟨t443, t444⟩, A170, H⟩ := H
  replace H : ((spec_l2Far.f k a1_0 a1_1 a1_2 a1_3 a0_0 a0_1).bind fun bt445 => ((spec_l2Far.f k a1_0 a1_1 a1_2 a1_3 a0_2 a0_3).bind fun bt447 => ((spec_l2Least.f bt445.1 bt445.2 bt447.1 bt447.2).bind fun bt449 => ((spec_l2Least.f t443 t444 bt449.1 bt449.2).bind fun bt451 => (some (bt451.1, bt451.2)))))) = some (r1, r2) := H
  have A17 := Aside0.mk A170
  clear A170
  replace H := Option.bind_eq_some_iff.mp H
  obtain ⟨⟨t445, t446⟩, A180, H⟩ := H
  replace H : ((spec_l2Far.f k a1_0 a1_1 a1_2 a1_3 a0_2 a0_3).bind fun bt447 => ((spec_l2Least.f t445 t446 bt447.1 bt447.2).bind fun bt449 => ((spec_l2Least.f t443 t444 bt449.1 bt449.2).bind fun bt451 => (some (bt451.1, bt451.2))))) = some (r1, r2) := H
  have A18 := Aside0.mk A180
  clear A180
  replace H := Option.bind_eq_some_iff.mp H
  obtain ⟨⟨t447, t448⟩, A190, H⟩ := H
  replace H : ((spec_l2Least.f t445 t446 t447 t448).bind fun bt449 => ((spec_l2Least.f t443 t444 bt449.1 bt449.2).bind fun bt451 => (some (bt451.1, bt451.2)))) = some (r1, r2) := H
  have A19 := Aside0.mk A190
  clear A190
  replace H := Option.bind_eq_some_iff.mp H
  obtain ⟨⟨t449, t450⟩, A200, H⟩ := H
  replace H : ((spec_l2Least.f t443 t444 t449 t450).bind fun bt451 => (some (bt451.1, bt451.2))) = some (r1, r2) := H
  have A20 := Aside0.mk A200
  clear A200
  replace H := Option.bind_eq_some_iff.mp H
  obtain ⟨⟨t451, t452⟩, A210, H⟩ := H
  replace H : (some (t451, t452)) = some (r1, r2) := H
  have A21 := Aside0.mk A210
  clear A210
  simp only [Option.some.injEq, Prod.mk.injEq] at H
  obtain ⟨rfl, rfl⟩ := H
  go_enter Tryd.func61, Tryd.ntmps61
  try go_wp2_with (first | ((with_reducible refine gate_dst (N := 2) rfl ?_); refine box_event ?hg (N := 2) ?hd (cs := #[.int .i64 a0_0, .int .i64 a0_1, .int .i64 a0_2, .int .i64 a0_3]) (t := 40) ?hr ?_; (case hd => rfl); (case hg => rfl); (case hr => first | (go_simp; done) | (go_simp; rfl)); intro gb435 hg w22 hbox hb; have n0_ := Aside0.mk (below_step hB_ hb); have n1_ := Aside0.mk (hbox); have n2_ := Aside0.mk ((by rw [hg]; exact (below_size hB_) : w.heap.size ≤ gb435)); have n3_ := Aside0.mk ((by rw [hg]; exact (below_size hB_) : w.heap.size ≤ gb435)); clear HB; have HB := n0_; have BK435 := n1_; have GW435 := n2_; have GE435 := n3_; clear n0_ n1_ n2_ n3_; clear hb hbox hg) | ((with_reducible refine gate_dst (N := 3) rfl ?_); refine box_event ?hg (N := 3) ?hd (cs := #[.int .i64 a1_0, .int .i64 a1_1, .int .i64 a1_2, .int .i64 a1_3]) (t := 40) ?hr ?_; (case hd => rfl); (case hg => rfl); (case hr => first | (go_simp; done) | (go_simp; rfl)); intro gb436 hg w23 hbox hb; have n0_ := Aside0.mk (ub_ (g := gb435) hb); have n1_ := Aside0.mk (below_step hB_ hb); have n2_ := Aside0.mk (hbox); have n3_ := Aside0.mk ((by rw [hg]; exact (below_size hB_) : w.heap.size ≤ gb436)); have n4_ := Aside0.mk ((by rw [hg]; exact (below_size hB_) : w.heap.size ≤ gb436)); have n5_ := Aside0.mk ((by rw [hg]; exact Nat.ne_of_lt (blk_lt (g := gb435) (o := .cells #[.int .i64 a0_0, .int .i64 a0_1, .int .i64 a0_2, .int .i64 a0_3] 40 (0, 0)) uq_) : gb435 ≠ gb436)); have n6_ := Aside0.mk ((by rw [hg]; exact Nat.ne_of_gt (blk_lt (g := gb435) (o := .cells #[.int .i64 a0_0, .int .i64 a0_1, .int .i64 a0_2, .int .i64 a0_3] 40 (0, 0)) uq_) : gb436 ≠ gb435)); clear BK435; clear HB; have BK435 := n0_; have HB := n1_; have BK436 := n2_; have GW436 := n3_; have GE436 := n4_; have NB435_436 := n5_; have NB436_435 := n6_; clear n0_ n1_ n2_ n3_ n4_ n5_ n6_; clear hb hbox hg) | ((with_reducible refine gate_dst (N := 4) rfl ?_); refine box_event ?hg (N := 4) ?hd (cs := #[.int .i64 0, .int .i64 0]) (t := 25) ?hr ?_; (case hd => rfl); (case hg => rfl); (case hr => first | (go_simp; done) | (go_simp; rfl)); intro gb437 hg w24 hbox hb; have n0_ := Aside0.mk (ub_ (g := gb435) hb); have n1_ := Aside0.mk (ub_ (g := gb436) hb); have n2_ := Aside0.mk (below_step hB_ hb); have n3_ := Aside0.mk (hbox); have n4_ := Aside0.mk ((by rw [hg]; exact (below_size hB_) : w.heap.size ≤ gb437)); have n5_ := Aside0.mk ((by rw [hg]; exact (below_size hB_) : w.heap.size ≤ gb437)); have n6_ := Aside0.mk ((by rw [hg]; exact Nat.ne_of_lt (blk_lt (g := gb435) (o := .cells #[.int .i64 a0_0, .int .i64 a0_1, .int .i64 a0_2, .int .i64 a0_3] 40 (0, 0)) uq_) : gb435 ≠ gb437)); have n7_ := Aside0.mk ((by rw [hg]; exact Nat.ne_of_gt (blk_lt (g := gb435) (o := .cells #[.int .i64 a0_0, .int .i64 a0_1, .int .i64 a0_2, .int .i64 a0_3] 40 (0, 0)) uq_) : gb437 ≠ gb435)); have n8_ := Aside0.mk ((by rw [hg]; exact Nat.ne_of_lt (blk_lt (g := gb436) (o := .cells #[.int .i64 a1_0, .int .i64 a1_1, .int .i64 a1_2, .int .i64 a1_3] 40 (0, 0)) uq_) : gb436 ≠ gb437)); have n9_ := Aside0.mk ((by rw [hg]; exact Nat.ne_of_gt (blk_lt (g := gb436) (o := .cells #[.int .i64 a1_0, .int .i64 a1_1, .int .i64 a1_2, .int .i64 a1_3] 40 (0, 0)) uq_) : gb437 ≠ gb436)); clear BK435; clear BK436; clear HB; have BK435 := n0_; have BK436 := n1_; have HB := n2_; have BK437 := n3_; have GW437 := n4_; have GE437 := n5_; have NB435_437 := n6_; have NB437_435 := n7_; have NB436_437 := n8_; have NB437_436 := n9_; clear n0_ n1_ n2_ n3_ n4_ n5_ n6_ n7_ n8_ n9_; clear hb hbox hg; have hnb25 := NB435_436.out; have hnc25 := NB436_435.out; have hnb26 := NB435_437.out; have hnc26 := NB437_435.out; have hcz27_0 : w24.cell? ⟨gb435, 0, none⟩ = some (.int .i64 a0_0) := bc_; have hcz27_1 : w24.cell? ⟨gb435, 1, none⟩ = some (.int .i64 a0_1) := bc_; have hcz27_2 : w24.cell? ⟨gb435, 2, none⟩ = some (.int .i64 a0_2) := bc_; have hcz27_3 : w24.cell? ⟨gb435, 3, none⟩ = some (.int .i64 a0_3) := bc_; have hfz27_0 := blk_frozen BK435.out 0; have hfz27_1 := blk_frozen BK435.out 1; have hfz27_2 := blk_frozen BK435.out 2; have hfz27_3 := blk_frozen BK435.out 3; have hnb28 := NB436_437.out; have hnc28 := NB437_436.out; have hcz29_0 : w24.cell? ⟨gb436, 0, none⟩ = some (.int .i64 a1_0) := bc_; have hcz29_1 : w24.cell? ⟨gb436, 1, none⟩ = some (.int .i64 a1_1) := bc_; have hcz29_2 : w24.cell? ⟨gb436, 2, none⟩ = some (.int .i64 a1_2) := bc_; have hcz29_3 : w24.cell? ⟨gb436, 3, none⟩ = some (.int .i64 a1_3) := bc_; have hfz29_0 := blk_frozen BK436.out 0; have hfz29_1 := blk_frozen BK436.out 1; have hfz29_2 := blk_frozen BK436.out 2; have hfz29_3 := blk_frozen BK436.out 3) | ((with_reducible refine gate_callee (f := 72) rfl ?_); refine goesL_ (some 7) rfl rfl Tryd.func72 (by kernel_rfl) rfl #[.agg #[.int .i64 a0_0, .int .i64 a0_1, .int .i64 a0_2, .int .i64 a0_3], .agg #[.int .i64 a1_0, .int .i64 a1_1, .int .i64 a1_2, .int .i64 a1_3]] rfl ma_ ?_; (with_reducible refine (spec_l2Meet.calls a0_0 a0_1 a0_2 a0_3 a1_0 a1_1 a1_2 a1_3 false _ A3.out).mono ?_); rintro e w30 ⟨rfl, hb⟩; refine ⟨_, rfl, ?_⟩; have n0_ := Aside0.mk (ub_ (g := gb435) hb); have n1_ := Aside0.mk (ub_ (g := gb436) hb); have n2_ := Aside0.mk (ub_ (g := gb437) hb); have n3_ := Aside0.mk (below_step hB_ hb); clear BK435; clear BK436; clear BK437; clear HB; have BK435 := n0_; have BK436 := n1_; have BK437 := n2_; have HB := n3_; clear n0_ n1_ n2_ n3_; (try clear hb); (try clear hb2); (try clear hk); (try clear hi)))
  have n0_ := Aside0.mk (blk_drew BK435.out)
  have n1_ := Aside0.mk (blk_drew BK436.out)
  have n2_ := Aside0.mk (blk_drew BK437.out)
  have n3_ := Aside0.mk (below_drew1 HB.out)
  clear BK435 BK436 BK437 HB
  have BK435 := n0_
  have BK436 := n1_
  have BK437 := n2_
  have HB := n3_
  clear n0_ n1_ n2_ n3_
  refine start_ (n := 20) (S := fun w' => w'.cell? ⟨gb435, 0, none⟩ = some (.int .i64 a0_0) ∧ w'.cell? ⟨gb435, 1, none⟩ = some (.int .i64 a0_1) ∧ w'.cell? ⟨gb435, 2, none⟩ = some (.int .i64 a0_2) ∧ w'.cell? ⟨gb435, 3, none⟩ = some (.int .i64 a0_3) ∧ w'.cell? ⟨gb436, 0, none⟩ = some (.int .i64 a1_0) ∧ w'.cell? ⟨gb436, 1, none⟩ = some (.int .i64 a1_1) ∧ w'.cell? ⟨gb436, 2, none⟩ = some (.int .i64 a1_2) ∧ w'.cell? ⟨gb436, 3, none⟩ = some (.int .i64 a1_3)) (ds := []) #[false, false, false, false, false, false, false, false, false, false, false, false, false, false, false, false, false, false, false, false] (by kernel_rfl) rfl rfl ⟨bc_, bc_, bc_, bc_, bc_, bc_, bc_, bc_⟩ (fun hHeld => ?_); refine with_tabW spec_l2Apart.tab3 spec_l2Apart.bits3 (fun HT_ HW_ => ?_)
  generalize w30.drew = w31 at BK435 BK436 BK437 HB hHeld ⊢
  refine pure_ (i := 1) (N := some 10) (v := ?_) (a' := ?_) (bm 20 2) rfl rfl (any_of HT_.out (by kernel_rfl)) (fun _ _ _ h => h) (Or.inl ⟨by rfl, ?_⟩) ?_ ?_
  rotate_left
  ·
   intro w'
   go_simp
   with_reducible rfl
  rotate_left
  ·
   simp only [Act.put, List.setIfInBounds_toArray, List.set_cons_zero, List.set_cons_succ, i64_w, i32_w]
   rfl
  refine pure_ (i := 5) (N := some 14) (v := ?_) (a' := ?_) (bm 20 34) rfl rfl (any_of HT_.out (by kernel_rfl)) (fun _ _ _ h => h) (Or.inl ⟨by rfl, ?_⟩) ?_ ?_
  rotate_left
  ·
   intro w'
   go_simp
   with_reducible rfl
  rotate_left
  ·
   simp only [Act.put, List.setIfInBounds_toArray, List.set_cons_zero, List.set_cons_succ, i64_w, i32_w]
   rfl
  refine pure_ (i := 10) (N := some 19) (v := ?_) (a' := ?_) (bm 20 1058) rfl rfl (any_of HT_.out (by kernel_rfl)) (fun _ _ _ h => h) (Or.inl ⟨by rfl, ?_⟩) ?_ ?_
  rotate_left
  ·
   intro w'
   go_simp
   with_reducible rfl
  rotate_left
  ·
   simp only [Act.put, List.setIfInBounds_toArray, List.set_cons_zero, List.set_cons_succ, i64_w, i32_w]
   rfl
  refine pure_ (i := 14) (N := some 23) (v := ?_) (a' := ?_) (bm 20 17442) rfl rfl (any_of HT_.out (by kernel_rfl)) (fun _ _ _ h => h) (Or.inl ⟨by rfl, ?_⟩) ?_ ?_
  rotate_left
  ·
   intro w'
   go_simp
   with_reducible rfl
  rotate_left
  ·
   simp only [Act.put, List.setIfInBounds_toArray, List.set_cons_zero, List.set_cons_succ, i64_w, i32_w]
   rfl
  refine take_ (i := 0) (N := some 9) (v := ?_) (a' := ?_) (bm 20 17443) rfl rfl (take_ofW HT_.out HW_.out (by kernel_rfl)) (fun _ _ _ h => h) (Or.inl ⟨by rfl, ?_⟩) hHeld ?_ ?_
  rotate_left
  ·
   rintro w' ⟨s0, s1, s2, s3, s4, s5, s6, s7⟩
   go_simp
   with_reducible rfl
  rotate_left
  ·
   simp only [Act.put, List.setIfInBounds_toArray, List.set_cons_zero, List.set_cons_succ, i64_w, i32_w]
   rfl
  refine take_ (i := 2) (N := some 11) (v := ?_) (a' := ?_) (bm 20 17447) rfl rfl (take_ofW HT_.out HW_.out (by kernel_rfl)) (fun _ _ _ h => h) (Or.inl ⟨by rfl, ?_⟩) hHeld ?_ ?_
  rotate_left
  ·
   rintro w' ⟨s0, s1, s2, s3, s4, s5, s6, s7⟩
   go_simp
   with_reducible rfl
  rotate_left
  ·
   simp only [Act.put, List.setIfInBounds_toArray, List.set_cons_zero, List.set_cons_succ, i64_w, i32_w]
   rfl
  refine take_ (i := 4) (N := some 13) (v := ?_) (a' := ?_) (bm 20 17463) rfl rfl (take_ofW HT_.out HW_.out (by kernel_rfl)) (fun _ _ _ h => h) (Or.inl ⟨by rfl, ?_⟩) hHeld ?_ ?_
  rotate_left
  ·
   rintro w' ⟨s0, s1, s2, s3, s4, s5, s6, s7⟩
   go_simp
   with_reducible rfl
  rotate_left
  ·
   simp only [Act.put, List.setIfInBounds_toArray, List.set_cons_zero, List.set_cons_succ, i64_w, i32_w]
   rfl
  refine take_ (i := 6) (N := some 15) (v := ?_) (a' := ?_) (bm 20 17527) rfl rfl (take_ofW HT_.out HW_.out (by kernel_rfl)) (fun _ _ _ h => h) (Or.inl ⟨by rfl, ?_⟩) hHeld ?_ ?_
  rotate_left
  ·
   rintro w' ⟨s0, s1, s2, s3, s4, s5, s6, s7⟩
   go_simp
   with_reducible rfl
  rotate_left
  ·
   simp only [Act.put, List.setIfInBounds_toArray, List.set_cons_zero, List.set_cons_succ, i64_w, i32_w]
   rfl
  refine take_ (i := 9) (N := some 18) (v := ?_) (a' := ?_) (bm 20 18039) rfl rfl (take_ofW HT_.out HW_.out (by kernel_rfl)) (fun _ _ _ h => h) (Or.inl ⟨by rfl, ?_⟩) hHeld ?_ ?_
  rotate_left
  ·
   rintro w' ⟨s0, s1, s2, s3, s4, s5, s6, s7⟩
   go_simp
   with_reducible rfl
  rotate_left
  ·
   simp only [Act.put, List.setIfInBounds_toArray, List.set_cons_zero, List.set_cons_succ, i64_w, i32_w]
   rfl
  refine take_ (i := 11) (N := some 20) (v := ?_) (a' := ?_) (bm 20 20087) rfl rfl (take_ofW HT_.out HW_.out (by kernel_rfl)) (fun _ _ _ h => h) (Or.inl ⟨by rfl, ?_⟩) hHeld ?_ ?_
  rotate_left
  ·
   rintro w' ⟨s0, s1, s2, s3, s4, s5, s6, s7⟩
   go_simp
   with_reducible rfl
  rotate_left
  ·
   simp only [Act.put, List.setIfInBounds_toArray, List.set_cons_zero, List.set_cons_succ, i64_w, i32_w]
   rfl
  refine take_ (i := 13) (N := some 22) (v := ?_) (a' := ?_) (bm 20 28279) rfl rfl (take_ofW HT_.out HW_.out (by kernel_rfl)) (fun _ _ _ h => h) (Or.inl ⟨by rfl, ?_⟩) hHeld ?_ ?_
  rotate_left
  ·
   rintro w' ⟨s0, s1, s2, s3, s4, s5, s6, s7⟩
   go_simp
   with_reducible rfl
  rotate_left
  ·
   simp only [Act.put, List.setIfInBounds_toArray, List.set_cons_zero, List.set_cons_succ, i64_w, i32_w]
   rfl
  refine take_ (i := 15) (N := some 24) (v := ?_) (a' := ?_) (bm 20 61047) rfl rfl (take_ofW HT_.out HW_.out (by kernel_rfl)) (fun _ _ _ h => h) (Or.inl ⟨by rfl, ?_⟩) hHeld ?_ ?_
  rotate_left
  ·
   rintro w' ⟨s0, s1, s2, s3, s4, s5, s6, s7⟩
   go_simp
   with_reducible rfl
  rotate_left
  ·
   simp only [Act.put, List.setIfInBounds_toArray, List.set_cons_zero, List.set_cons_succ, i64_w, i32_w]
   rfl
  refine one_ (i := 3) (N := some 12) (bm 20 61055) rfl rfl (one_of HT_.out (by kernel_rfl)) (by decide) (fun K hK => ?_)
  refine goes_ Tryd.func59 (by kernel_rfl) rfl #[.agg #[.int .i64 a0_0, .int .i64 a0_1, .int .i64 a0_2, .int .i64 a0_3], .agg #[.int .i64 a1_0, .int .i64 a1_1]] (by rfl) rfl rfl ma_ ?_
  with_reducible refine (spec_l2Far.calls k a0_0 a0_1 a0_2 a0_3 a1_0 a1_1 t439 t440 _ A15.out).mono ?_
  rintro e w32 ⟨rfl, hb⟩
  refine ⟨_, rfl, ?_⟩
  have n0_ := Aside0.mk (ub_ (g := gb435) hb)
  have n1_ := Aside0.mk (ub_ (g := gb436) hb)
  have n2_ := Aside0.mk (ub_ (g := gb437) hb)
  have n3_ := Aside0.mk (below_step hB_ hb)
  clear BK435 BK436 BK437 HB
  have BK435 := n0_
  have BK436 := n1_
  have BK437 := n2_
  have HB := n3_
  clear n0_ n1_ n2_ n3_
  (try clear hb)
  (try clear hb2)
  (try clear hk)
  (try clear hi)
  refine hK.out _ _ ⟨bc_, bc_, bc_, bc_, bc_, bc_, bc_, bc_⟩ (fun hHeld => ?_)
  clear hK K
  refine norm_ (a' := ?_) ?_ ?_
  rotate_left
  ·
   show Act.put _ (some 12) _ = _
   simp only [Act.put, List.setIfInBounds_toArray, List.set_cons_zero, List.set_cons_succ, i64_w, i32_w]
   rfl
  refine one_ (i := 7) (N := some 16) (bm 20 61183) rfl rfl (one_of HT_.out (by kernel_rfl)) (by decide) (fun K hK => ?_)
  refine goes_ Tryd.func59 (by kernel_rfl) rfl #[.agg #[.int .i64 a0_0, .int .i64 a0_1, .int .i64 a0_2, .int .i64 a0_3], .agg #[.int .i64 a1_2, .int .i64 a1_3]] (by rfl) rfl rfl ma_ ?_
  with_reducible refine (spec_l2Far.calls k a0_0 a0_1 a0_2 a0_3 a1_2 a1_3 t441 t442 _ A16.out).mono ?_
  rintro e w33 ⟨rfl, hb⟩
  refine ⟨_, rfl, ?_⟩
  have n0_ := Aside0.mk (ub_ (g := gb435) hb)
  have n1_ := Aside0.mk (ub_ (g := gb436) hb)
  have n2_ := Aside0.mk (ub_ (g := gb437) hb)
  have n3_ := Aside0.mk (below_step hB_ hb)
  clear BK435 BK436 BK437 HB
  have BK435 := n0_
  have BK436 := n1_
  have BK437 := n2_
  have HB := n3_
  clear n0_ n1_ n2_ n3_
  (try clear hb)
  (try clear hb2)
  (try clear hk)
  (try clear hi)
  refine hK.out _ _ ⟨bc_, bc_, bc_, bc_, bc_, bc_, bc_, bc_⟩ (fun hHeld => ?_)
  clear hK K
  refine norm_ (a' := ?_) ?_ ?_
  rotate_left
  ·
   show Act.put _ (some 16) _ = _
   simp only [Act.put, List.setIfInBounds_toArray, List.set_cons_zero, List.set_cons_succ, i64_w, i32_w]
   rfl
  refine one_ (i := 8) (N := some 17) (bm 20 61439) rfl rfl (one_of HT_.out (by kernel_rfl)) (by decide) (fun K hK => ?_)
  refine goes_ Tryd.func73 (by kernel_rfl) rfl #[.agg #[.int .i64 t439, .int .i64 t440], .agg #[.int .i64 t441, .int .i64 t442]] (by rfl) rfl rfl ma_ ?_
  with_reducible refine (spec_l2Least.calls t439 t440 t441 t442 t443 t444 _ A17.out).mono ?_
  rintro e w34 ⟨rfl, hb⟩
  refine ⟨_, rfl, ?_⟩
  have n0_ := Aside0.mk (ub_ (g := gb435) hb)
  have n1_ := Aside0.mk (ub_ (g := gb436) hb)
  have n2_ := Aside0.mk (ub_ (g := gb437) hb)
  have n3_ := Aside0.mk (below_step hB_ hb)
  clear BK435 BK436 BK437 HB
  have BK435 := n0_
  have BK436 := n1_
  have BK437 := n2_
  have HB := n3_
  clear n0_ n1_ n2_ n3_
  (try clear hb)
  (try clear hb2)
  (try clear hk)
  (try clear hi)
  refine hK.out _ _ ⟨bc_, bc_, bc_, bc_, bc_, bc_, bc_, bc_⟩ (fun hHeld => ?_)
  clear hK K
  refine norm_ (a' := ?_) ?_ ?_
  rotate_left
  ·
   show Act.put _ (some 17) _ = _
   simp only [Act.put, List.setIfInBounds_toArray, List.set_cons_zero, List.set_cons_succ, i64_w, i32_w]
   rfl
  refine one_ (i := 12) (N := some 21) (bm 20 65535) rfl rfl (one_of HT_.out (by kernel_rfl)) (by decide) (fun K hK => ?_)
  refine goes_ Tryd.func59 (by kernel_rfl) rfl #[.agg #[.int .i64 a1_0, .int .i64 a1_1, .int .i64 a1_2, .int .i64 a1_3], .agg #[.int .i64 a0_0, .int .i64 a0_1]] (by rfl) rfl rfl ma_ ?_
  with_reducible refine (spec_l2Far.calls k a1_0 a1_1 a1_2 a1_3 a0_0 a0_1 t445 t446 _ A18.out).mono ?_
  rintro e w35 ⟨rfl, hb⟩
  refine ⟨_, rfl, ?_⟩
  have n0_ := Aside0.mk (ub_ (g := gb435) hb)
  have n1_ := Aside0.mk (ub_ (g := gb436) hb)
  have n2_ := Aside0.mk (ub_ (g := gb437) hb)
  have n3_ := Aside0.mk (below_step hB_ hb)
  clear BK435 BK436 BK437 HB
  have BK435 := n0_
  have BK436 := n1_
  have BK437 := n2_
  have HB := n3_
  clear n0_ n1_ n2_ n3_
  (try clear hb)
  (try clear hb2)
  (try clear hk)
  (try clear hi)
  refine hK.out _ _ ⟨bc_, bc_, bc_, bc_, bc_, bc_, bc_, bc_⟩ (fun hHeld => ?_)
  clear hK K
  refine norm_ (a' := ?_) ?_ ?_
  rotate_left
  ·
   show Act.put _ (some 21) _ = _
   simp only [Act.put, List.setIfInBounds_toArray, List.set_cons_zero, List.set_cons_succ, i64_w, i32_w]
   rfl
  refine one_ (i := 16) (N := some 25) (bm 20 131071) rfl rfl (one_of HT_.out (by kernel_rfl)) (by decide) (fun K hK => ?_)
  refine goes_ Tryd.func59 (by kernel_rfl) rfl #[.agg #[.int .i64 a1_0, .int .i64 a1_1, .int .i64 a1_2, .int .i64 a1_3], .agg #[.int .i64 a0_2, .int .i64 a0_3]] (by rfl) rfl rfl ma_ ?_
  with_reducible refine (spec_l2Far.calls k a1_0 a1_1 a1_2 a1_3 a0_2 a0_3 t447 t448 _ A19.out).mono ?_
  rintro e w36 ⟨rfl, hb⟩
  refine ⟨_, rfl, ?_⟩
  have n0_ := Aside0.mk (ub_ (g := gb435) hb)
  have n1_ := Aside0.mk (ub_ (g := gb436) hb)
  have n2_ := Aside0.mk (ub_ (g := gb437) hb)
  have n3_ := Aside0.mk (below_step hB_ hb)
  clear BK435 BK436 BK437 HB
  have BK435 := n0_
  have BK436 := n1_
  have BK437 := n2_
  have HB := n3_
  clear n0_ n1_ n2_ n3_
  (try clear hb)
  (try clear hb2)
  (try clear hk)
  (try clear hi)
  refine hK.out _ _ ⟨bc_, bc_, bc_, bc_, bc_, bc_, bc_, bc_⟩ (fun hHeld => ?_)
  clear hK K
  refine norm_ (a' := ?_) ?_ ?_
  rotate_left
  ·
   show Act.put _ (some 25) _ = _
   simp only [Act.put, List.setIfInBounds_toArray, List.set_cons_zero, List.set_cons_succ, i64_w, i32_w]
   rfl
  refine one_ (i := 17) (N := some 26) (bm 20 262143) rfl rfl (one_of HT_.out (by kernel_rfl)) (by decide) (fun K hK => ?_)
  refine goes_ Tryd.func73 (by kernel_rfl) rfl #[.agg #[.int .i64 t445, .int .i64 t446], .agg #[.int .i64 t447, .int .i64 t448]] (by rfl) rfl rfl ma_ ?_
  with_reducible refine (spec_l2Least.calls t445 t446 t447 t448 t449 t450 _ A20.out).mono ?_
  rintro e w37 ⟨rfl, hb⟩
  refine ⟨_, rfl, ?_⟩
  have n0_ := Aside0.mk (ub_ (g := gb435) hb)
  have n1_ := Aside0.mk (ub_ (g := gb436) hb)
  have n2_ := Aside0.mk (ub_ (g := gb437) hb)
  have n3_ := Aside0.mk (below_step hB_ hb)
  clear BK435 BK436 BK437 HB
  have BK435 := n0_
  have BK436 := n1_
  have BK437 := n2_
  have HB := n3_
  clear n0_ n1_ n2_ n3_
  (try clear hb)
  (try clear hb2)
  (try clear hk)
  (try clear hi)
  refine hK.out _ _ ⟨bc_, bc_, bc_, bc_, bc_, bc_, bc_, bc_⟩ (fun hHeld => ?_)
  clear hK K
  refine norm_ (a' := ?_) ?_ ?_
  rotate_left
  ·
   show Act.put _ (some 26) _ = _
   simp only [Act.put, List.setIfInBounds_toArray, List.set_cons_zero, List.set_cons_succ, i64_w, i32_w]
   rfl
  refine one_ (i := 18) (N := some 27) (bm 20 524287) rfl rfl (one_of HT_.out (by kernel_rfl)) (by decide) (fun K hK => ?_)
  refine goes_ Tryd.func73 (by kernel_rfl) rfl #[.agg #[.int .i64 t443, .int .i64 t444], .agg #[.int .i64 t449, .int .i64 t450]] (by rfl) rfl rfl ma_ ?_
  with_reducible refine (spec_l2Least.calls t443 t444 t449 t450 t451 t452 _ A21.out).mono ?_
  rintro e w38 ⟨rfl, hb⟩
  refine ⟨_, rfl, ?_⟩
  have n0_ := Aside0.mk (ub_ (g := gb435) hb)
  have n1_ := Aside0.mk (ub_ (g := gb436) hb)
  have n2_ := Aside0.mk (ub_ (g := gb437) hb)
  have n3_ := Aside0.mk (below_step hB_ hb)
  clear BK435 BK436 BK437 HB
  have BK435 := n0_
  have BK436 := n1_
  have BK437 := n2_
  have HB := n3_
  clear n0_ n1_ n2_ n3_
  (try clear hb)
  (try clear hb2)
  (try clear hk)
  (try clear hi)
  refine hK.out _ _ ⟨bc_, bc_, bc_, bc_, bc_, bc_, bc_, bc_⟩ (fun hHeld => ?_)
  clear hK K
  refine norm_ (a' := ?_) ?_ ?_
  rotate_left
  ·
   show Act.put _ (some 27) _ = _
   simp only [Act.put, List.setIfInBounds_toArray, List.set_cons_zero, List.set_cons_succ, i64_w, i32_w]
   rfl
  refine one_ (i := 19) (N := none) (bm 20 1048575) rfl rfl (one_of HT_.out (by kernel_rfl)) (by decide) (fun K hK => ?_)
  have hs39 : w38.cell? ⟨gb437, 0, none⟩ = some (.int .i64 0) := bc_
  have hfs39 := blk_frozen BK437.out 0
  have hns39_0 := NB435_437.out
  have hns39_1 := NB436_437.out
  have hms39_0 := NB437_435.out
  have hms39_1 := NB437_436.out
  have hs40 : w38.cell? ⟨gb437, 1, none⟩ = some (.int .i64 0) := bc_
  have hfs40 := blk_frozen BK437.out 1
  have hns40_0 := NB435_437.out
  have hns40_1 := NB436_437.out
  have hms40_0 := NB437_435.out
  have hms40_1 := NB437_436.out
  refine skip_ (w1 := ?_) (by rfl) rfl ?_ ?_
  rotate_left
  ·
   go_simp
   rfl
  refine hK.out _ _ ⟨((cell_far (p := ⟨gb437, _, none⟩) NB435_437.out _).trans (((cell_far (p := ⟨gb437, _, none⟩) NB435_437.out _).trans (hHeld.1)))), ((cell_far (p := ⟨gb437, _, none⟩) NB435_437.out _).trans (((cell_far (p := ⟨gb437, _, none⟩) NB435_437.out _).trans (hHeld.2.1)))), ((cell_far (p := ⟨gb437, _, none⟩) NB435_437.out _).trans (((cell_far (p := ⟨gb437, _, none⟩) NB435_437.out _).trans (hHeld.2.2.1)))), ((cell_far (p := ⟨gb437, _, none⟩) NB435_437.out _).trans (((cell_far (p := ⟨gb437, _, none⟩) NB435_437.out _).trans (hHeld.2.2.2.1)))), ((cell_far (p := ⟨gb437, _, none⟩) NB436_437.out _).trans (((cell_far (p := ⟨gb437, _, none⟩) NB436_437.out _).trans (hHeld.2.2.2.2.1)))), ((cell_far (p := ⟨gb437, _, none⟩) NB436_437.out _).trans (((cell_far (p := ⟨gb437, _, none⟩) NB436_437.out _).trans (hHeld.2.2.2.2.2.1)))), ((cell_far (p := ⟨gb437, _, none⟩) NB436_437.out _).trans (((cell_far (p := ⟨gb437, _, none⟩) NB436_437.out _).trans (hHeld.2.2.2.2.2.2.1)))), ((cell_far (p := ⟨gb437, _, none⟩) NB436_437.out _).trans (((cell_far (p := ⟨gb437, _, none⟩) NB436_437.out _).trans (hHeld.2.2.2.2.2.2.2))))⟩ (fun hHeld => ?_)
  clear hK K
  refine done_ (done_of HT_.out (by kernel_rfl)) ?_
  try go_wp2
  refine bodyPost_ret (results_cell_row rfl _ _ gb437 25 #[.int .i64 t451, .int .i64 t452] (0, 0) _ rfl (by (with_reducible repeat (first | refine blk_drewN ?_ _ | refine blk_drew ?_ | refine blk_alloc ?_ _)); refine blk_put (cs := #[.int .i64 t451, .int .i64 0]) ?_ 1 _ rfl; (with_reducible repeat (first | refine blk_drewN ?_ _ | refine blk_drew ?_ | refine blk_alloc ?_ _)); refine blk_put (cs := #[.int .i64 0, .int .i64 0]) ?_ 0 _ rfl; (with_reducible repeat (first | refine blk_drewN ?_ _ | refine blk_drew ?_ | refine blk_alloc ?_ _)); exact BK437.out) Tryd.underlying25 rfl (by kernel_rfl)) rfl ?_
  exact ⟨by first | rfl | (simp [errW_none, errW_some] <;> rfl) | (simp [*, errW_none, errW_some] <;> rfl), hB_⟩
end Go.Proofs.YtnponnkcfgjeoaaDoor.X
end
section
namespace Go.Proofs.YtnponnkcfgjeoaaDoor.X
open Go.RowKit Go.Proofs.YtnponnkcfgjeoaaDoorW.PrintWords Go.Proofs.YtnponnkcfgjeoaaDoorW.PrintLast Go.Proofs.YtnponnkcfgjeoaaDoorW.PrintMore
attribute [local go_sem] max2_int min2_int max_two min_two max_three min_three max_four min_four
set_option linter.unusedVariables false
set_option linter.unusedSimpArgs false
def spec_SegApart.f (k : Nat) (a0_0 : Int) (a0_1 : Int) (a0_2 : Int) (a0_3 : Int) (a1_0 : Int) (a1_1 : Int) (a1_2 : Int) (a1_3 : Int) : Option (Int × Int) := (spec_SegOk.f a0_0 a0_1 a0_2 a0_3).bind fun t456 => (if t456 = true then ((spec_SegOk.f a1_0 a1_1 a1_2 a1_3).bind fun t457 => (if t457 = true then ((spec_l2Apart.f k a0_0 a0_1 a0_2 a0_3 a1_0 a1_1 a1_2 a1_3).bind fun bt458 => (some (bt458.1, bt458.2))) else (some (0, 0)))) else (some (0, 0)))
set_option maxHeartbeats 8000000 in
set_option maxRecDepth 100000 in
theorem spec_SegApart.calls (k : Nat) (a0_0 : Int) (a0_1 : Int) (a0_2 : Int) (a0_3 : Int) (a1_0 : Int) (a1_1 : Int) (a1_2 : Int) (a1_3 : Int) (r1 : Int) (r2 : Int) (w : World) (h : spec_SegApart.f k a0_0 a0_1 a0_2 a0_3 a1_0 a1_1 a1_2 a1_3 = some (r1, r2)) :
  Calls Tryd.prog 31 #[.agg #[.int .i64 a0_0, .int .i64 a0_1, .int .i64 a0_2, .int .i64 a0_3], .agg #[.int .i64 a1_0, .int .i64 a1_1, .int .i64 a1_2, .int .i64 a1_3]] w fun e w' => e = .returned (.agg #[.int .i64 r1, .int .i64 r2]) ∧ Below w.heap.size w w' := by
 have hu40 := Tryd.underlying40
 have hu25 := Tryd.underlying25
 have HB := Aside0.mk (Below.refl w.heap.size w)
 have H : ((spec_SegOk.f a0_0 a0_1 a0_2 a0_3).bind fun t456 => (if t456 = true then ((spec_SegOk.f a1_0 a1_1 a1_2 a1_3).bind fun t457 => (if t457 = true then ((spec_l2Apart.f k a0_0 a0_1 a0_2 a0_3 a1_0 a1_1 a1_2 a1_3).bind fun bt458 => (some (bt458.1, bt458.2))) else (some (0, 0)))) else (some (0, 0)))) = some (r1, r2) := h
 clear h
 replace H := Option.bind_eq_some_iff.mp H
 obtain ⟨t456, A30, H⟩ := H
 replace H : (if t456 = true then ((spec_SegOk.f a1_0 a1_1 a1_2 a1_3).bind fun t457 => (if t457 = true then ((spec_l2Apart.f k a0_0 a0_1 a0_2 a0_3 a1_0 a1_1 a1_2 a1_3).bind fun bt458 => (some (bt458.1, bt458.2))) else (some (0, 0)))) else (some (0, 0))) = some (r1, r2) := H
 have A3 := Aside0.mk A30
 clear A30
 by_cases c4 : t456 = true
 ·
  subst c4
  have H1 : ((spec_SegOk.f a1_0 a1_1 a1_2 a1_3).bind fun t457 => (if t457 = true then ((spec_l2Apart.f k a0_0 a0_1 a0_2 a0_3 a1_0 a1_1 a1_2 a1_3).bind fun bt458 => (some (bt458.1, bt458.2))) else (some (0, 0)))) = some (r1, r2) := by rw [if_pos rfl] at H; exact H
  clear H
  have H := H1
  clear H1
  replace H := Option.bind_eq_some_iff.mp H
  obtain ⟨t457, A50, H⟩ := H
  replace H : (if t457 = true then ((spec_l2Apart.f k a0_0 a0_1 a0_2 a0_3 a1_0 a1_1 a1_2 a1_3).bind fun bt458 => (some (bt458.1, bt458.2))) else (some (0, 0))) = some (r1, r2) := H
  have A5 := Aside0.mk A50
  clear A50
  by_cases c6 : t457 = true
  ·
   subst c6
   have H1 : ((spec_l2Apart.f k a0_0 a0_1 a0_2 a0_3 a1_0 a1_1 a1_2 a1_3).bind fun bt458 => (some (bt458.1, bt458.2))) = some (r1, r2) := by rw [if_pos rfl] at H; exact H
   clear H
   have H := H1
   clear H1
   replace H := Option.bind_eq_some_iff.mp H
   obtain ⟨⟨t458, t459⟩, A70, H⟩ := H
   replace H : (some (t458, t459)) = some (r1, r2) := H
   have A7 := Aside0.mk A70
   clear A70
   simp only [Option.some.injEq, Prod.mk.injEq] at H
   obtain ⟨rfl, rfl⟩ := H
   go_enter Tryd.func31, Tryd.ntmps31
   go_wp2_with (first | ((with_reducible refine gate_dst (N := 2) rfl ?_); refine box_event ?hg (N := 2) ?hd (cs := #[.int .i64 a0_0, .int .i64 a0_1, .int .i64 a0_2, .int .i64 a0_3]) (t := 40) ?hr ?_; (case hd => rfl); (case hg => rfl); (case hr => first | (go_simp; done) | (go_simp; rfl)); intro gb453 hg w8 hbox hb; have n0_ := Aside0.mk (below_step hB_ hb); have n1_ := Aside0.mk (hbox); have n2_ := Aside0.mk ((by rw [hg]; exact (below_size hB_) : w.heap.size ≤ gb453)); have n3_ := Aside0.mk ((by rw [hg]; exact (below_size hB_) : w.heap.size ≤ gb453)); clear HB; have HB := n0_; have BK453 := n1_; have GW453 := n2_; have GE453 := n3_; clear n0_ n1_ n2_ n3_; clear hb hbox hg) | ((with_reducible refine gate_dst (N := 3) rfl ?_); refine box_event ?hg (N := 3) ?hd (cs := #[.int .i64 a1_0, .int .i64 a1_1, .int .i64 a1_2, .int .i64 a1_3]) (t := 40) ?hr ?_; (case hd => rfl); (case hg => rfl); (case hr => first | (go_simp; done) | (go_simp; rfl)); intro gb454 hg w9 hbox hb; have n0_ := Aside0.mk (ub_ (g := gb453) hb); have n1_ := Aside0.mk (below_step hB_ hb); have n2_ := Aside0.mk (hbox); have n3_ := Aside0.mk ((by rw [hg]; exact (below_size hB_) : w.heap.size ≤ gb454)); have n4_ := Aside0.mk ((by rw [hg]; exact (below_size hB_) : w.heap.size ≤ gb454)); have n5_ := Aside0.mk ((by rw [hg]; exact Nat.ne_of_lt (blk_lt (g := gb453) (o := .cells #[.int .i64 a0_0, .int .i64 a0_1, .int .i64 a0_2, .int .i64 a0_3] 40 (0, 0)) uq_) : gb453 ≠ gb454)); have n6_ := Aside0.mk ((by rw [hg]; exact Nat.ne_of_gt (blk_lt (g := gb453) (o := .cells #[.int .i64 a0_0, .int .i64 a0_1, .int .i64 a0_2, .int .i64 a0_3] 40 (0, 0)) uq_) : gb454 ≠ gb453)); clear BK453; clear HB; have BK453 := n0_; have HB := n1_; have BK454 := n2_; have GW454 := n3_; have GE454 := n4_; have NB453_454 := n5_; have NB454_453 := n6_; clear n0_ n1_ n2_ n3_ n4_ n5_ n6_; clear hb hbox hg) | ((with_reducible refine gate_dst (N := 4) rfl ?_); refine box_event ?hg (N := 4) ?hd (cs := #[.int .i64 0, .int .i64 0]) (t := 25) ?hr ?_; (case hd => rfl); (case hg => rfl); (case hr => first | (go_simp; done) | (go_simp; rfl)); intro gb455 hg w10 hbox hb; have n0_ := Aside0.mk (ub_ (g := gb453) hb); have n1_ := Aside0.mk (ub_ (g := gb454) hb); have n2_ := Aside0.mk (below_step hB_ hb); have n3_ := Aside0.mk (hbox); have n4_ := Aside0.mk ((by rw [hg]; exact (below_size hB_) : w.heap.size ≤ gb455)); have n5_ := Aside0.mk ((by rw [hg]; exact (below_size hB_) : w.heap.size ≤ gb455)); have n6_ := Aside0.mk ((by rw [hg]; exact Nat.ne_of_lt (blk_lt (g := gb453) (o := .cells #[.int .i64 a0_0, .int .i64 a0_1, .int .i64 a0_2, .int .i64 a0_3] 40 (0, 0)) uq_) : gb453 ≠ gb455)); have n7_ := Aside0.mk ((by rw [hg]; exact Nat.ne_of_gt (blk_lt (g := gb453) (o := .cells #[.int .i64 a0_0, .int .i64 a0_1, .int .i64 a0_2, .int .i64 a0_3] 40 (0, 0)) uq_) : gb455 ≠ gb453)); have n8_ := Aside0.mk ((by rw [hg]; exact Nat.ne_of_lt (blk_lt (g := gb454) (o := .cells #[.int .i64 a1_0, .int .i64 a1_1, .int .i64 a1_2, .int .i64 a1_3] 40 (0, 0)) uq_) : gb454 ≠ gb455)); have n9_ := Aside0.mk ((by rw [hg]; exact Nat.ne_of_gt (blk_lt (g := gb454) (o := .cells #[.int .i64 a1_0, .int .i64 a1_1, .int .i64 a1_2, .int .i64 a1_3] 40 (0, 0)) uq_) : gb455 ≠ gb454)); clear BK453; clear BK454; clear HB; have BK453 := n0_; have BK454 := n1_; have HB := n2_; have BK455 := n3_; have GW455 := n4_; have GE455 := n5_; have NB453_455 := n6_; have NB455_453 := n7_; have NB454_455 := n8_; have NB455_454 := n9_; clear n0_ n1_ n2_ n3_ n4_ n5_ n6_ n7_ n8_ n9_; clear hb hbox hg; have hnb11 := NB453_454.out; have hnc11 := NB454_453.out; have hnb12 := NB453_455.out; have hnc12 := NB455_453.out; have hcz13_0 : w10.cell? ⟨gb453, 0, none⟩ = some (.int .i64 a0_0) := bc_; have hcz13_1 : w10.cell? ⟨gb453, 1, none⟩ = some (.int .i64 a0_1) := bc_; have hcz13_2 : w10.cell? ⟨gb453, 2, none⟩ = some (.int .i64 a0_2) := bc_; have hcz13_3 : w10.cell? ⟨gb453, 3, none⟩ = some (.int .i64 a0_3) := bc_; have hfz13_0 := blk_frozen BK453.out 0; have hfz13_1 := blk_frozen BK453.out 1; have hfz13_2 := blk_frozen BK453.out 2; have hfz13_3 := blk_frozen BK453.out 3) | ((with_reducible refine gate_callee (f := 26) rfl ?_); refine goesL_ (some 6) rfl rfl Tryd.func26 (by kernel_rfl) rfl #[.agg #[.int .i64 a0_0, .int .i64 a0_1, .int .i64 a0_2, .int .i64 a0_3]] rfl ma_ ?_; (with_reducible refine (spec_SegOk.calls a0_0 a0_1 a0_2 a0_3 true _ A3.out).mono ?_); rintro e w14 ⟨rfl, hb⟩; refine ⟨_, rfl, ?_⟩; have n0_ := Aside0.mk (ub_ (g := gb453) hb); have n1_ := Aside0.mk (ub_ (g := gb454) hb); have n2_ := Aside0.mk (ub_ (g := gb455) hb); have n3_ := Aside0.mk (below_step hB_ hb); clear BK453; clear BK454; clear BK455; clear HB; have BK453 := n0_; have BK454 := n1_; have BK455 := n2_; have HB := n3_; clear n0_ n1_ n2_ n3_; (try clear hb); (try clear hb2); (try clear hk); (try clear hi); have hnb15 := NB454_455.out; have hnc15 := NB455_454.out; have hcz16_0 : w14.cell? ⟨gb454, 0, none⟩ = some (.int .i64 a1_0) := bc_; have hcz16_1 : w14.cell? ⟨gb454, 1, none⟩ = some (.int .i64 a1_1) := bc_; have hcz16_2 : w14.cell? ⟨gb454, 2, none⟩ = some (.int .i64 a1_2) := bc_; have hcz16_3 : w14.cell? ⟨gb454, 3, none⟩ = some (.int .i64 a1_3) := bc_; have hfz16_0 := blk_frozen BK454.out 0; have hfz16_1 := blk_frozen BK454.out 1; have hfz16_2 := blk_frozen BK454.out 2; have hfz16_3 := blk_frozen BK454.out 3) | (go_at_call 26; (with_reducible refine (spec_SegOk.calls a1_0 a1_1 a1_2 a1_3 true _ A5.out).mono ?_); rintro e w17 ⟨rfl, hb⟩; have n0_ := Aside0.mk (ub_ (g := gb453) hb); have n1_ := Aside0.mk (ub_ (g := gb454) hb); have n2_ := Aside0.mk (ub_ (g := gb455) hb); have n3_ := Aside0.mk (below_step hB_ hb); clear BK453; clear BK454; clear BK455; clear HB; have BK453 := n0_; have BK454 := n1_; have BK455 := n2_; have HB := n3_; clear n0_ n1_ n2_ n3_; (try clear hb); (try clear hb2); (try clear hk); (try clear hi); have hcz18_0 : w17.cell? ⟨gb453, 0, none⟩ = some (.int .i64 a0_0) := bc_; have hcz18_1 : w17.cell? ⟨gb453, 1, none⟩ = some (.int .i64 a0_1) := bc_; have hcz18_2 : w17.cell? ⟨gb453, 2, none⟩ = some (.int .i64 a0_2) := bc_; have hcz18_3 : w17.cell? ⟨gb453, 3, none⟩ = some (.int .i64 a0_3) := bc_; have hfz18_0 := blk_frozen BK453.out 0; have hfz18_1 := blk_frozen BK453.out 1; have hfz18_2 := blk_frozen BK453.out 2; have hfz18_3 := blk_frozen BK453.out 3; have hcz19_0 : w17.cell? ⟨gb454, 0, none⟩ = some (.int .i64 a1_0) := bc_; have hcz19_1 : w17.cell? ⟨gb454, 1, none⟩ = some (.int .i64 a1_1) := bc_; have hcz19_2 : w17.cell? ⟨gb454, 2, none⟩ = some (.int .i64 a1_2) := bc_; have hcz19_3 : w17.cell? ⟨gb454, 3, none⟩ = some (.int .i64 a1_3) := bc_; have hfz19_0 := blk_frozen BK454.out 0; have hfz19_1 := blk_frozen BK454.out 1; have hfz19_2 := blk_frozen BK454.out 2; have hfz19_3 := blk_frozen BK454.out 3) | ((with_reducible refine gate_callee (f := 61) rfl ?_); refine goesL_ (some 16) rfl rfl Tryd.func61 (by kernel_rfl) rfl #[.agg #[.int .i64 a0_0, .int .i64 a0_1, .int .i64 a0_2, .int .i64 a0_3], .agg #[.int .i64 a1_0, .int .i64 a1_1, .int .i64 a1_2, .int .i64 a1_3]] rfl ma_ ?_; (with_reducible refine (spec_l2Apart.calls k a0_0 a0_1 a0_2 a0_3 a1_0 a1_1 a1_2 a1_3 t458 t459 _ A7.out).mono ?_); rintro e w20 ⟨rfl, hb⟩; refine ⟨_, rfl, ?_⟩; have n0_ := Aside0.mk (ub_ (g := gb453) hb); have n1_ := Aside0.mk (ub_ (g := gb454) hb); have n2_ := Aside0.mk (ub_ (g := gb455) hb); have n3_ := Aside0.mk (below_step hB_ hb); clear BK453; clear BK454; clear BK455; clear HB; have BK453 := n0_; have BK454 := n1_; have BK455 := n2_; have HB := n3_; clear n0_ n1_ n2_ n3_; (try clear hb); (try clear hb2); (try clear hk); (try clear hi); have hcz21_0 : w20.cell? ⟨gb455, 0, none⟩ = some (.int .i64 0) := bc_; have hcz21_1 : w20.cell? ⟨gb455, 1, none⟩ = some (.int .i64 0) := bc_; have hfz21_0 := blk_frozen BK455.out 0; have hfz21_1 := blk_frozen BK455.out 1))
   refine bodyPost_ret (results_cell_row rfl _ _ gb455 25 #[.int .i64 t458, .int .i64 t459] (0, 0) _ rfl (by (with_reducible repeat (first | refine blk_drewN ?_ _ | refine blk_drew ?_ | refine blk_alloc ?_ _)); refine blk_put (cs := #[.int .i64 t458, .int .i64 0]) ?_ 1 _ rfl; (with_reducible repeat (first | refine blk_drewN ?_ _ | refine blk_drew ?_ | refine blk_alloc ?_ _)); refine blk_put (cs := #[.int .i64 0, .int .i64 0]) ?_ 0 _ rfl; (with_reducible repeat (first | refine blk_drewN ?_ _ | refine blk_drew ?_ | refine blk_alloc ?_ _)); exact BK455.out) Tryd.underlying25 rfl (by kernel_rfl)) rfl ?_
   exact ⟨by first | rfl | (simp [errW_none, errW_some] <;> rfl) | (simp [*, errW_none, errW_some] <;> rfl), hB_⟩
  ·
   replace c6 := Bool.eq_false_iff.mpr c6
   subst c6
   have H1 : (some (0, 0)) = some (r1, r2) := by rw [if_neg (show ¬ (false = true) by decide)] at H; exact H
   clear H
   have H := H1
   clear H1
   simp only [Option.some.injEq, Prod.mk.injEq] at H
   obtain ⟨rfl, rfl⟩ := H
   go_enter Tryd.func31, Tryd.ntmps31
   go_wp2_with (first | ((with_reducible refine gate_dst (N := 2) rfl ?_); refine box_event ?hg (N := 2) ?hd (cs := #[.int .i64 a0_0, .int .i64 a0_1, .int .i64 a0_2, .int .i64 a0_3]) (t := 40) ?hr ?_; (case hd => rfl); (case hg => rfl); (case hr => first | (go_simp; done) | (go_simp; rfl)); intro gb453 hg w22 hbox hb; have n0_ := Aside0.mk (below_step hB_ hb); have n1_ := Aside0.mk (hbox); have n2_ := Aside0.mk ((by rw [hg]; exact (below_size hB_) : w.heap.size ≤ gb453)); have n3_ := Aside0.mk ((by rw [hg]; exact (below_size hB_) : w.heap.size ≤ gb453)); clear HB; have HB := n0_; have BK453 := n1_; have GW453 := n2_; have GE453 := n3_; clear n0_ n1_ n2_ n3_; clear hb hbox hg) | ((with_reducible refine gate_dst (N := 3) rfl ?_); refine box_event ?hg (N := 3) ?hd (cs := #[.int .i64 a1_0, .int .i64 a1_1, .int .i64 a1_2, .int .i64 a1_3]) (t := 40) ?hr ?_; (case hd => rfl); (case hg => rfl); (case hr => first | (go_simp; done) | (go_simp; rfl)); intro gb454 hg w23 hbox hb; have n0_ := Aside0.mk (ub_ (g := gb453) hb); have n1_ := Aside0.mk (below_step hB_ hb); have n2_ := Aside0.mk (hbox); have n3_ := Aside0.mk ((by rw [hg]; exact (below_size hB_) : w.heap.size ≤ gb454)); have n4_ := Aside0.mk ((by rw [hg]; exact (below_size hB_) : w.heap.size ≤ gb454)); have n5_ := Aside0.mk ((by rw [hg]; exact Nat.ne_of_lt (blk_lt (g := gb453) (o := .cells #[.int .i64 a0_0, .int .i64 a0_1, .int .i64 a0_2, .int .i64 a0_3] 40 (0, 0)) uq_) : gb453 ≠ gb454)); have n6_ := Aside0.mk ((by rw [hg]; exact Nat.ne_of_gt (blk_lt (g := gb453) (o := .cells #[.int .i64 a0_0, .int .i64 a0_1, .int .i64 a0_2, .int .i64 a0_3] 40 (0, 0)) uq_) : gb454 ≠ gb453)); clear BK453; clear HB; have BK453 := n0_; have HB := n1_; have BK454 := n2_; have GW454 := n3_; have GE454 := n4_; have NB453_454 := n5_; have NB454_453 := n6_; clear n0_ n1_ n2_ n3_ n4_ n5_ n6_; clear hb hbox hg) | ((with_reducible refine gate_dst (N := 4) rfl ?_); refine box_event ?hg (N := 4) ?hd (cs := #[.int .i64 0, .int .i64 0]) (t := 25) ?hr ?_; (case hd => rfl); (case hg => rfl); (case hr => first | (go_simp; done) | (go_simp; rfl)); intro gb455 hg w24 hbox hb; have n0_ := Aside0.mk (ub_ (g := gb453) hb); have n1_ := Aside0.mk (ub_ (g := gb454) hb); have n2_ := Aside0.mk (below_step hB_ hb); have n3_ := Aside0.mk (hbox); have n4_ := Aside0.mk ((by rw [hg]; exact (below_size hB_) : w.heap.size ≤ gb455)); have n5_ := Aside0.mk ((by rw [hg]; exact (below_size hB_) : w.heap.size ≤ gb455)); have n6_ := Aside0.mk ((by rw [hg]; exact Nat.ne_of_lt (blk_lt (g := gb453) (o := .cells #[.int .i64 a0_0, .int .i64 a0_1, .int .i64 a0_2, .int .i64 a0_3] 40 (0, 0)) uq_) : gb453 ≠ gb455)); have n7_ := Aside0.mk ((by rw [hg]; exact Nat.ne_of_gt (blk_lt (g := gb453) (o := .cells #[.int .i64 a0_0, .int .i64 a0_1, .int .i64 a0_2, .int .i64 a0_3] 40 (0, 0)) uq_) : gb455 ≠ gb453)); have n8_ := Aside0.mk ((by rw [hg]; exact Nat.ne_of_lt (blk_lt (g := gb454) (o := .cells #[.int .i64 a1_0, .int .i64 a1_1, .int .i64 a1_2, .int .i64 a1_3] 40 (0, 0)) uq_) : gb454 ≠ gb455)); have n9_ := Aside0.mk ((by rw [hg]; exact Nat.ne_of_gt (blk_lt (g := gb454) (o := .cells #[.int .i64 a1_0, .int .i64 a1_1, .int .i64 a1_2, .int .i64 a1_3] 40 (0, 0)) uq_) : gb455 ≠ gb454)); clear BK453; clear BK454; clear HB; have BK453 := n0_; have BK454 := n1_; have HB := n2_; have BK455 := n3_; have GW455 := n4_; have GE455 := n5_; have NB453_455 := n6_; have NB455_453 := n7_; have NB454_455 := n8_; have NB455_454 := n9_; clear n0_ n1_ n2_ n3_ n4_ n5_ n6_ n7_ n8_ n9_; clear hb hbox hg; have hnb25 := NB453_454.out; have hnc25 := NB454_453.out; have hnb26 := NB453_455.out; have hnc26 := NB455_453.out; have hcz27_0 : w24.cell? ⟨gb453, 0, none⟩ = some (.int .i64 a0_0) := bc_; have hcz27_1 : w24.cell? ⟨gb453, 1, none⟩ = some (.int .i64 a0_1) := bc_; have hcz27_2 : w24.cell? ⟨gb453, 2, none⟩ = some (.int .i64 a0_2) := bc_; have hcz27_3 : w24.cell? ⟨gb453, 3, none⟩ = some (.int .i64 a0_3) := bc_; have hfz27_0 := blk_frozen BK453.out 0; have hfz27_1 := blk_frozen BK453.out 1; have hfz27_2 := blk_frozen BK453.out 2; have hfz27_3 := blk_frozen BK453.out 3) | ((with_reducible refine gate_callee (f := 26) rfl ?_); refine goesL_ (some 6) rfl rfl Tryd.func26 (by kernel_rfl) rfl #[.agg #[.int .i64 a0_0, .int .i64 a0_1, .int .i64 a0_2, .int .i64 a0_3]] rfl ma_ ?_; (with_reducible refine (spec_SegOk.calls a0_0 a0_1 a0_2 a0_3 true _ A3.out).mono ?_); rintro e w28 ⟨rfl, hb⟩; refine ⟨_, rfl, ?_⟩; have n0_ := Aside0.mk (ub_ (g := gb453) hb); have n1_ := Aside0.mk (ub_ (g := gb454) hb); have n2_ := Aside0.mk (ub_ (g := gb455) hb); have n3_ := Aside0.mk (below_step hB_ hb); clear BK453; clear BK454; clear BK455; clear HB; have BK453 := n0_; have BK454 := n1_; have BK455 := n2_; have HB := n3_; clear n0_ n1_ n2_ n3_; (try clear hb); (try clear hb2); (try clear hk); (try clear hi); have hnb29 := NB454_455.out; have hnc29 := NB455_454.out; have hcz30_0 : w28.cell? ⟨gb454, 0, none⟩ = some (.int .i64 a1_0) := bc_; have hcz30_1 : w28.cell? ⟨gb454, 1, none⟩ = some (.int .i64 a1_1) := bc_; have hcz30_2 : w28.cell? ⟨gb454, 2, none⟩ = some (.int .i64 a1_2) := bc_; have hcz30_3 : w28.cell? ⟨gb454, 3, none⟩ = some (.int .i64 a1_3) := bc_; have hfz30_0 := blk_frozen BK454.out 0; have hfz30_1 := blk_frozen BK454.out 1; have hfz30_2 := blk_frozen BK454.out 2; have hfz30_3 := blk_frozen BK454.out 3) | (go_at_call 26; (with_reducible refine (spec_SegOk.calls a1_0 a1_1 a1_2 a1_3 false _ A5.out).mono ?_); rintro e w31 ⟨rfl, hb⟩; have n0_ := Aside0.mk (ub_ (g := gb453) hb); have n1_ := Aside0.mk (ub_ (g := gb454) hb); have n2_ := Aside0.mk (ub_ (g := gb455) hb); have n3_ := Aside0.mk (below_step hB_ hb); clear BK453; clear BK454; clear BK455; clear HB; have BK453 := n0_; have BK454 := n1_; have BK455 := n2_; have HB := n3_; clear n0_ n1_ n2_ n3_; (try clear hb); (try clear hb2); (try clear hk); (try clear hi); have hcz32_0 : w31.cell? ⟨gb455, 0, none⟩ = some (.int .i64 0) := bc_; have hcz32_1 : w31.cell? ⟨gb455, 1, none⟩ = some (.int .i64 0) := bc_; have hfz32_0 := blk_frozen BK455.out 0; have hfz32_1 := blk_frozen BK455.out 1))
   refine bodyPost_ret (results_cell_row rfl _ _ gb455 25 #[.int .i64 0, .int .i64 0] (0, 0) _ rfl (by (with_reducible repeat (first | refine blk_drewN ?_ _ | refine blk_drew ?_ | refine blk_alloc ?_ _)); refine blk_put (cs := #[.int .i64 0, .int .i64 0]) ?_ 1 _ rfl; (with_reducible repeat (first | refine blk_drewN ?_ _ | refine blk_drew ?_ | refine blk_alloc ?_ _)); refine blk_put (cs := #[.int .i64 0, .int .i64 0]) ?_ 0 _ rfl; (with_reducible repeat (first | refine blk_drewN ?_ _ | refine blk_drew ?_ | refine blk_alloc ?_ _)); exact BK455.out) Tryd.underlying25 rfl (by kernel_rfl)) rfl ?_
   exact ⟨by first | rfl | (simp [errW_none, errW_some] <;> rfl) | (simp [*, errW_none, errW_some] <;> rfl), hB_⟩
 ·
  replace c4 := Bool.eq_false_iff.mpr c4
  subst c4
  have H1 : (some (0, 0)) = some (r1, r2) := by rw [if_neg (show ¬ (false = true) by decide)] at H; exact H
  clear H
  have H := H1
  clear H1
  simp only [Option.some.injEq, Prod.mk.injEq] at H
  obtain ⟨rfl, rfl⟩ := H
  go_enter Tryd.func31, Tryd.ntmps31
  go_wp2_with (first | ((with_reducible refine gate_dst (N := 2) rfl ?_); refine box_event ?hg (N := 2) ?hd (cs := #[.int .i64 a0_0, .int .i64 a0_1, .int .i64 a0_2, .int .i64 a0_3]) (t := 40) ?hr ?_; (case hd => rfl); (case hg => rfl); (case hr => first | (go_simp; done) | (go_simp; rfl)); intro gb453 hg w33 hbox hb; have n0_ := Aside0.mk (below_step hB_ hb); have n1_ := Aside0.mk (hbox); have n2_ := Aside0.mk ((by rw [hg]; exact (below_size hB_) : w.heap.size ≤ gb453)); have n3_ := Aside0.mk ((by rw [hg]; exact (below_size hB_) : w.heap.size ≤ gb453)); clear HB; have HB := n0_; have BK453 := n1_; have GW453 := n2_; have GE453 := n3_; clear n0_ n1_ n2_ n3_; clear hb hbox hg) | ((with_reducible refine gate_dst (N := 3) rfl ?_); refine box_event ?hg (N := 3) ?hd (cs := #[.int .i64 a1_0, .int .i64 a1_1, .int .i64 a1_2, .int .i64 a1_3]) (t := 40) ?hr ?_; (case hd => rfl); (case hg => rfl); (case hr => first | (go_simp; done) | (go_simp; rfl)); intro gb454 hg w34 hbox hb; have n0_ := Aside0.mk (ub_ (g := gb453) hb); have n1_ := Aside0.mk (below_step hB_ hb); have n2_ := Aside0.mk (hbox); have n3_ := Aside0.mk ((by rw [hg]; exact (below_size hB_) : w.heap.size ≤ gb454)); have n4_ := Aside0.mk ((by rw [hg]; exact (below_size hB_) : w.heap.size ≤ gb454)); have n5_ := Aside0.mk ((by rw [hg]; exact Nat.ne_of_lt (blk_lt (g := gb453) (o := .cells #[.int .i64 a0_0, .int .i64 a0_1, .int .i64 a0_2, .int .i64 a0_3] 40 (0, 0)) uq_) : gb453 ≠ gb454)); have n6_ := Aside0.mk ((by rw [hg]; exact Nat.ne_of_gt (blk_lt (g := gb453) (o := .cells #[.int .i64 a0_0, .int .i64 a0_1, .int .i64 a0_2, .int .i64 a0_3] 40 (0, 0)) uq_) : gb454 ≠ gb453)); clear BK453; clear HB; have BK453 := n0_; have HB := n1_; have BK454 := n2_; have GW454 := n3_; have GE454 := n4_; have NB453_454 := n5_; have NB454_453 := n6_; clear n0_ n1_ n2_ n3_ n4_ n5_ n6_; clear hb hbox hg) | ((with_reducible refine gate_dst (N := 4) rfl ?_); refine box_event ?hg (N := 4) ?hd (cs := #[.int .i64 0, .int .i64 0]) (t := 25) ?hr ?_; (case hd => rfl); (case hg => rfl); (case hr => first | (go_simp; done) | (go_simp; rfl)); intro gb455 hg w35 hbox hb; have n0_ := Aside0.mk (ub_ (g := gb453) hb); have n1_ := Aside0.mk (ub_ (g := gb454) hb); have n2_ := Aside0.mk (below_step hB_ hb); have n3_ := Aside0.mk (hbox); have n4_ := Aside0.mk ((by rw [hg]; exact (below_size hB_) : w.heap.size ≤ gb455)); have n5_ := Aside0.mk ((by rw [hg]; exact (below_size hB_) : w.heap.size ≤ gb455)); have n6_ := Aside0.mk ((by rw [hg]; exact Nat.ne_of_lt (blk_lt (g := gb453) (o := .cells #[.int .i64 a0_0, .int .i64 a0_1, .int .i64 a0_2, .int .i64 a0_3] 40 (0, 0)) uq_) : gb453 ≠ gb455)); have n7_ := Aside0.mk ((by rw [hg]; exact Nat.ne_of_gt (blk_lt (g := gb453) (o := .cells #[.int .i64 a0_0, .int .i64 a0_1, .int .i64 a0_2, .int .i64 a0_3] 40 (0, 0)) uq_) : gb455 ≠ gb453)); have n8_ := Aside0.mk ((by rw [hg]; exact Nat.ne_of_lt (blk_lt (g := gb454) (o := .cells #[.int .i64 a1_0, .int .i64 a1_1, .int .i64 a1_2, .int .i64 a1_3] 40 (0, 0)) uq_) : gb454 ≠ gb455)); have n9_ := Aside0.mk ((by rw [hg]; exact Nat.ne_of_gt (blk_lt (g := gb454) (o := .cells #[.int .i64 a1_0, .int .i64 a1_1, .int .i64 a1_2, .int .i64 a1_3] 40 (0, 0)) uq_) : gb455 ≠ gb454)); clear BK453; clear BK454; clear HB; have BK453 := n0_; have BK454 := n1_; have HB := n2_; have BK455 := n3_; have GW455 := n4_; have GE455 := n5_; have NB453_455 := n6_; have NB455_453 := n7_; have NB454_455 := n8_; have NB455_454 := n9_; clear n0_ n1_ n2_ n3_ n4_ n5_ n6_ n7_ n8_ n9_; clear hb hbox hg; have hnb36 := NB453_454.out; have hnc36 := NB454_453.out; have hnb37 := NB453_455.out; have hnc37 := NB455_453.out; have hcz38_0 : w35.cell? ⟨gb453, 0, none⟩ = some (.int .i64 a0_0) := bc_; have hcz38_1 : w35.cell? ⟨gb453, 1, none⟩ = some (.int .i64 a0_1) := bc_; have hcz38_2 : w35.cell? ⟨gb453, 2, none⟩ = some (.int .i64 a0_2) := bc_; have hcz38_3 : w35.cell? ⟨gb453, 3, none⟩ = some (.int .i64 a0_3) := bc_; have hfz38_0 := blk_frozen BK453.out 0; have hfz38_1 := blk_frozen BK453.out 1; have hfz38_2 := blk_frozen BK453.out 2; have hfz38_3 := blk_frozen BK453.out 3) | ((with_reducible refine gate_callee (f := 26) rfl ?_); refine goesL_ (some 6) rfl rfl Tryd.func26 (by kernel_rfl) rfl #[.agg #[.int .i64 a0_0, .int .i64 a0_1, .int .i64 a0_2, .int .i64 a0_3]] rfl ma_ ?_; (with_reducible refine (spec_SegOk.calls a0_0 a0_1 a0_2 a0_3 false _ A3.out).mono ?_); rintro e w39 ⟨rfl, hb⟩; refine ⟨_, rfl, ?_⟩; have n0_ := Aside0.mk (ub_ (g := gb453) hb); have n1_ := Aside0.mk (ub_ (g := gb454) hb); have n2_ := Aside0.mk (ub_ (g := gb455) hb); have n3_ := Aside0.mk (below_step hB_ hb); clear BK453; clear BK454; clear BK455; clear HB; have BK453 := n0_; have BK454 := n1_; have BK455 := n2_; have HB := n3_; clear n0_ n1_ n2_ n3_; (try clear hb); (try clear hb2); (try clear hk); (try clear hi); have hnb40 := NB455_454.out; have hnc40 := NB454_455.out; have hcz41_0 : w39.cell? ⟨gb455, 0, none⟩ = some (.int .i64 0) := bc_; have hcz41_1 : w39.cell? ⟨gb455, 1, none⟩ = some (.int .i64 0) := bc_; have hfz41_0 := blk_frozen BK455.out 0; have hfz41_1 := blk_frozen BK455.out 1))
  refine bodyPost_ret (results_cell_row rfl _ _ gb455 25 #[.int .i64 0, .int .i64 0] (0, 0) _ rfl (by (with_reducible repeat (first | refine blk_drewN ?_ _ | refine blk_drew ?_ | refine blk_alloc ?_ _)); refine blk_put (cs := #[.int .i64 0, .int .i64 0]) ?_ 1 _ rfl; (with_reducible repeat (first | refine blk_drewN ?_ _ | refine blk_drew ?_ | refine blk_alloc ?_ _)); refine blk_put (cs := #[.int .i64 0, .int .i64 0]) ?_ 0 _ rfl; (with_reducible repeat (first | refine blk_drewN ?_ _ | refine blk_drew ?_ | refine blk_alloc ?_ _)); exact BK455.out) Tryd.underlying25 rfl (by kernel_rfl)) rfl ?_
  exact ⟨by first | rfl | (simp [errW_none, errW_some] <;> rfl) | (simp [*, errW_none, errW_some] <;> rfl), hB_⟩
end Go.Proofs.YtnponnkcfgjeoaaDoor.X
end
section
set_option linter.unusedVariables false
set_option linter.unusedSimpArgs false
namespace Go.Proofs.YtnponnkcfgjeoaaDoor.X
open Go.RowKit Go.Proofs.YtnponnkcfgjeoaaDoorW.PrintWords Go.Proofs.YtnponnkcfgjeoaaDoorW.PrintLast Go.Proofs.YtnponnkcfgjeoaaDoorW.PrintMore
open Mort
/-- a block of cells, known whole, some steps on -/
theorem blk_on {w w1 : World} {g : Nat} {o : Obj} (hb : Below w.heap.size w w1) (h : w.heap[g]? = some o) : w1.heap[g]? = some o := blk_below h hb
section
variable (bs bp : Nat) (a b c d e f : Int) (w : World) (k : Nat)
  (hs : w.heap[bs]? = some (.cells #[.int .i64 a, .int .i64 b, .int .i64 c, .int .i64 d] 40 (0, 0)))
  (hp : w.heap[bp]? = some (.cells #[.int .i64 e, .int .i64 f] 38 (0, 0)))
include hs hp
set_option maxHeartbeats 1000000 in
set_option maxRecDepth 100000 in
/-- behind the first end -/
theorem far1 {m n1 n2 : Int} (h1 : impl_between.f a b e f = some m) (h2 : impl_FracOf.f k m 1 = some (n1, n2, true)) :
    Calls Tryd.prog 53 #[.pointer (some ⟨bs, 0, none⟩), .pointer (some ⟨bp, 0, none⟩)] w fun x w' => x = .returned (.tuple #[.agg #[.int .i64 n1, .int .i64 n2], .bool true]) ∧ Below w.heap.size w w' := by
  have hB0 := below_alloc (Below.refl w.heap.size w) (.cells #[.int .i64 0, .int .i64 0] 25)
  have hs1 := blk_on hB0 hs
  have hp1 := blk_on hB0 hp
  have hn1 := heap_alloc_new w (.cells #[.int .i64 0, .int .i64 0] 25)
  have HB0 := Aside0.mk hB0
  have HN1 := Aside0.mk hn1
  have H1 := Aside0.mk h1
  have H2 := Aside0.mk h2
  have q0 : (w.alloc (.cells #[.int .i64 0, .int .i64 0] 25)).cell? ⟨bs, 0, none⟩ = some (.int .i64 a) := (blk_cell hs1 0).trans rfl
  have q1 : (w.alloc (.cells #[.int .i64 0, .int .i64 0] 25)).cell? ⟨bs, 1, none⟩ = some (.int .i64 b) := (blk_cell hs1 1).trans rfl
  have q2 : (w.alloc (.cells #[.int .i64 0, .int .i64 0] 25)).cell? ⟨bp, 0, none⟩ = some (.int .i64 e) := (blk_cell hp1 0).trans rfl
  have q3 : (w.alloc (.cells #[.int .i64 0, .int .i64 0] 25)).cell? ⟨bp, 1, none⟩ = some (.int .i64 f) := (blk_cell hp1 1).trans rfl
  have hu1 := Tryd.underlying40
  have hu2 := Tryd.underlying38
  have hu3 := Tryd.underlying25
  clear h1 h2 hs hp hs1 hp1 hn1 hB0
  go_enter Tryd.func53, Tryd.ntmps53
  go_wp2_with fail
  refine (impl_between.calls a b e f m _ H1.out).mono ?_
  rintro x w1 ⟨rfl, hb⟩
  have HB1 := Aside0.mk (below_step HB0.out hb)
  have HN2 := Aside0.mk (blk_on hb HN1.out)
  clear hb q0 q1 q2 q3 HN1
  go_wp2_with fail
  refine (impl_FracOf.calls k m 1 n1 n2 true _ H2.out).mono ?_
  rintro x w2 ⟨rfl, hb⟩
  have HB2 := Aside0.mk (below_step HB1.out hb)
  have HN3 := Aside0.mk (blk_on hb HN2.out)
  have q0 : w2.cell? ⟨w.heap.size, 0, none⟩ = some (.int .i64 0) := (blk_cell HN3.out 0).trans rfl
  have q1 : w2.cell? ⟨w.heap.size, 1, none⟩ = some (.int .i64 0) := (blk_cell HN3.out 1).trans rfl
  have q2 := blk_frozen HN3.out 0
  have q3 := blk_frozen HN3.out 1
  clear hb HN2
  go_wp2_with fail
  refine bodyPost_ret (results_ct rfl _ _ w.heap.size 25 #[.int .i64 n1, .int .i64 n2] (0, 0) _ rfl (by refine blk_put (cs := #[.int .i64 n1, .int .i64 0]) ?_ 1 _ rfl; refine blk_put (cs := #[.int .i64 0, .int .i64 0]) ?_ 0 _ rfl; exact HN3.out) Tryd.underlying25 rfl (by kernel_rfl)) rfl ?_
  exact ⟨rfl, by refine below_set ?_ (Nat.le_refl _); refine below_set ?_ (Nat.le_refl _); exact HB2.out⟩
set_option maxHeartbeats 1000000 in
set_option maxRecDepth 100000 in
/-- beside the segment -/
theorem far2 {t m n1 n2 : Int} (h0 : impl_cross.f a b c d e f = some t) (h1 : impl_between.f a b c d = some m) (h2 : impl_FracOf.f k (wrap64 (t * t)) m = some (n1, n2, true)) :
    Calls Tryd.prog 55 #[.pointer (some ⟨bs, 0, none⟩), .pointer (some ⟨bp, 0, none⟩)] w fun x w' => x = .returned (.tuple #[.agg #[.int .i64 n1, .int .i64 n2], .bool true]) ∧ Below w.heap.size w w' := by
  have hB0 := below_alloc (Below.refl w.heap.size w) (.cells #[.int .i64 0, .int .i64 0] 25)
  have hs1 := blk_on hB0 hs
  have hp1 := blk_on hB0 hp
  have hn1 := heap_alloc_new w (.cells #[.int .i64 0, .int .i64 0] 25)
  have HB0 := Aside0.mk hB0
  have HN1 := Aside0.mk hn1
  have HS := Aside0.mk hs
  have HP := Aside0.mk hp
  have H0 := Aside0.mk h0
  have H1 := Aside0.mk h1
  have H2 := Aside0.mk h2
  have q0 : (w.alloc (.cells #[.int .i64 0, .int .i64 0] 25)).cell? ⟨bs, 0, none⟩ = some (.int .i64 a) := (blk_cell hs1 0).trans rfl
  have q1 : (w.alloc (.cells #[.int .i64 0, .int .i64 0] 25)).cell? ⟨bs, 1, none⟩ = some (.int .i64 b) := (blk_cell hs1 1).trans rfl
  have q2 : (w.alloc (.cells #[.int .i64 0, .int .i64 0] 25)).cell? ⟨bs, 2, none⟩ = some (.int .i64 c) := (blk_cell hs1 2).trans rfl
  have q3 : (w.alloc (.cells #[.int .i64 0, .int .i64 0] 25)).cell? ⟨bs, 3, none⟩ = some (.int .i64 d) := (blk_cell hs1 3).trans rfl
  have q4 : (w.alloc (.cells #[.int .i64 0, .int .i64 0] 25)).cell? ⟨bp, 0, none⟩ = some (.int .i64 e) := (blk_cell hp1 0).trans rfl
  have q5 : (w.alloc (.cells #[.int .i64 0, .int .i64 0] 25)).cell? ⟨bp, 1, none⟩ = some (.int .i64 f) := (blk_cell hp1 1).trans rfl
  have hu1 := Tryd.underlying40
  have hu2 := Tryd.underlying38
  have hu3 := Tryd.underlying25
  clear h0 h1 h2 hs hp hs1 hp1 hn1 hB0
  go_enter Tryd.func55, Tryd.ntmps55
  go_wp2_with fail
  refine (impl_cross.calls a b c d e f t _ H0.out).mono ?_
  rintro x w1 ⟨rfl, hb⟩
  have HB1 := Aside0.mk (below_step HB0.out hb)
  have HN2 := Aside0.mk (blk_on hb HN1.out)
  have hs2 := blk_on HB1.out HS.out
  have hp2 := blk_on HB1.out HP.out
  clear hb q0 q1 q2 q3 q4 q5 HN1
  have q0 : w1.cell? ⟨bs, 0, none⟩ = some (.int .i64 a) := (blk_cell hs2 0).trans rfl
  have q1 : w1.cell? ⟨bs, 1, none⟩ = some (.int .i64 b) := (blk_cell hs2 1).trans rfl
  have q2 : w1.cell? ⟨bs, 2, none⟩ = some (.int .i64 c) := (blk_cell hs2 2).trans rfl
  have q3 : w1.cell? ⟨bs, 3, none⟩ = some (.int .i64 d) := (blk_cell hs2 3).trans rfl
  have q4 : w1.cell? ⟨bp, 0, none⟩ = some (.int .i64 e) := (blk_cell hp2 0).trans rfl
  have q5 : w1.cell? ⟨bp, 1, none⟩ = some (.int .i64 f) := (blk_cell hp2 1).trans rfl
  clear hs2 hp2
  go_wp2_with fail
  refine (impl_between.calls a b c d m _ H1.out).mono ?_
  rintro x w2 ⟨rfl, hb⟩
  have HB2 := Aside0.mk (below_step HB1.out hb)
  have HN3 := Aside0.mk (blk_on hb HN2.out)
  clear hb q0 q1 q2 q3 q4 q5 HN2
  go_wp2_with fail
  refine (impl_FracOf.calls k (wrap64 (t * t)) m n1 n2 true _ H2.out).mono ?_
  rintro x w3 ⟨rfl, hb⟩
  have HB3 := Aside0.mk (below_step HB2.out hb)
  have HN4 := Aside0.mk (blk_on hb HN3.out)
  have q0 : w3.cell? ⟨w.heap.size, 0, none⟩ = some (.int .i64 0) := (blk_cell HN4.out 0).trans rfl
  have q1 : w3.cell? ⟨w.heap.size, 1, none⟩ = some (.int .i64 0) := (blk_cell HN4.out 1).trans rfl
  have q2 := blk_frozen HN4.out 0
  have q3 := blk_frozen HN4.out 1
  clear hb HN3
  go_wp2_with fail
  refine bodyPost_ret (results_ct rfl _ _ w.heap.size 25 #[.int .i64 n1, .int .i64 n2] (0, 0) _ rfl (by refine blk_put (cs := #[.int .i64 n1, .int .i64 0]) ?_ 1 _ rfl; refine blk_put (cs := #[.int .i64 0, .int .i64 0]) ?_ 0 _ rfl; exact HN4.out) Tryd.underlying25 rfl (by kernel_rfl)) rfl ?_
  exact ⟨rfl, by refine below_set ?_ (Nat.le_refl _); refine below_set ?_ (Nat.le_refl _); exact HB3.out⟩
set_option maxHeartbeats 1000000 in
set_option maxRecDepth 100000 in
/-- past the other end -/
theorem far3 {m n1 n2 : Int} (h1 : impl_between.f c d e f = some m) (h2 : impl_FracOf.f k m 1 = some (n1, n2, true)) :
    Calls Tryd.prog 57 #[.pointer (some ⟨bs, 0, none⟩), .pointer (some ⟨bp, 0, none⟩)] w fun x w' => x = .returned (.tuple #[.agg #[.int .i64 n1, .int .i64 n2], .bool true]) ∧ Below w.heap.size w w' := by
  have hB0 := below_alloc (Below.refl w.heap.size w) (.cells #[.int .i64 0, .int .i64 0] 25)
  have hs1 := blk_on hB0 hs
  have hp1 := blk_on hB0 hp
  have hn1 := heap_alloc_new w (.cells #[.int .i64 0, .int .i64 0] 25)
  have HB0 := Aside0.mk hB0
  have HN1 := Aside0.mk hn1
  have H1 := Aside0.mk h1
  have H2 := Aside0.mk h2
  have q0 : (w.alloc (.cells #[.int .i64 0, .int .i64 0] 25)).cell? ⟨bs, 2, none⟩ = some (.int .i64 c) := (blk_cell hs1 2).trans rfl
  have q1 : (w.alloc (.cells #[.int .i64 0, .int .i64 0] 25)).cell? ⟨bs, 3, none⟩ = some (.int .i64 d) := (blk_cell hs1 3).trans rfl
  have q2 : (w.alloc (.cells #[.int .i64 0, .int .i64 0] 25)).cell? ⟨bp, 0, none⟩ = some (.int .i64 e) := (blk_cell hp1 0).trans rfl
  have q3 : (w.alloc (.cells #[.int .i64 0, .int .i64 0] 25)).cell? ⟨bp, 1, none⟩ = some (.int .i64 f) := (blk_cell hp1 1).trans rfl
  have hu1 := Tryd.underlying40
  have hu2 := Tryd.underlying38
  have hu3 := Tryd.underlying25
  clear h1 h2 hs hp hs1 hp1 hn1 hB0
  go_enter Tryd.func57, Tryd.ntmps57
  go_wp2_with fail
  refine (impl_between.calls c d e f m _ H1.out).mono ?_
  rintro x w1 ⟨rfl, hb⟩
  have HB1 := Aside0.mk (below_step HB0.out hb)
  have HN2 := Aside0.mk (blk_on hb HN1.out)
  clear hb q0 q1 q2 q3 HN1
  go_wp2_with fail
  refine (impl_FracOf.calls k m 1 n1 n2 true _ H2.out).mono ?_
  rintro x w2 ⟨rfl, hb⟩
  have HB2 := Aside0.mk (below_step HB1.out hb)
  have HN3 := Aside0.mk (blk_on hb HN2.out)
  have q0 : w2.cell? ⟨w.heap.size, 0, none⟩ = some (.int .i64 0) := (blk_cell HN3.out 0).trans rfl
  have q1 : w2.cell? ⟨w.heap.size, 1, none⟩ = some (.int .i64 0) := (blk_cell HN3.out 1).trans rfl
  have q2 := blk_frozen HN3.out 0
  have q3 := blk_frozen HN3.out 1
  clear hb HN2
  go_wp2_with fail
  refine bodyPost_ret (results_ct rfl _ _ w.heap.size 25 #[.int .i64 n1, .int .i64 n2] (0, 0) _ rfl (by refine blk_put (cs := #[.int .i64 n1, .int .i64 0]) ?_ 1 _ rfl; refine blk_put (cs := #[.int .i64 0, .int .i64 0]) ?_ 0 _ rfl; exact HN3.out) Tryd.underlying25 rfl (by kernel_rfl)) rfl ?_
  exact ⟨rfl, by refine below_set ?_ (Nat.le_refl _); refine below_set ?_ (Nat.le_refl _); exact HB2.out⟩
end
theorem boxes3 (w : World) (o1 o2 o3 : Obj) : Below w.heap.size w (((w.alloc o1).alloc o2).alloc o3) ∧ (((w.alloc o1).alloc o2).alloc o3).heap[w.heap.size]? = some o1 ∧
    (((w.alloc o1).alloc o2).alloc o3).heap[w.heap.size + 1]? = some o2 ∧ (((w.alloc o1).alloc o2).alloc o3).heap[w.heap.size + 1 + 1]? = some o3 := by
  have e1 : (w.alloc o1).heap.size = w.heap.size + 1 := Array.size_push _
  have e2 : ((w.alloc o1).alloc o2).heap.size = w.heap.size + 1 + 1 := (Array.size_push (xs := (w.alloc o1).heap) _).trans (congrArg (· + 1) e1)
  refine ⟨below_alloc (below_alloc (below_alloc (Below.refl _ _) _) _) _, ?_, ?_, ?_⟩
  · exact blk_alloc (blk_alloc (heap_alloc_new w o1) _) _
  · rw [← e1]; exact blk_alloc (heap_alloc_new _ o2) _
  · rw [← e2]; exact heap_alloc_new _ o3
@[local go_sem] theorem run_store_fn (P : Program) (w : World) (a : Addr) (m : Mode) (fn : Fn) (first captured : Array Value) : (store a (.func fn first captured) m).run P w = stored P w a (.func fn first captured) m := run_store P w a _ m rfl
@[local go_sem] theorem run_store_nofn (P : Program) (w : World) (a : Addr) (m : Mode) : (store a .nilFunc m).run P w = stored P w a .nilFunc m := run_store P w a _ m rfl
section
variable (a b c d e f : Int) (w : World)
set_option maxHeartbeats 1000000 in
set_option maxRecDepth 100000 in
theorem segFar_bad1 (h : impl_SegOk.f a b c d = some false) :
    Calls Tryd.prog 24 #[.agg #[.int .i64 a, .int .i64 b, .int .i64 c, .int .i64 d], .agg #[.int .i64 e, .int .i64 f]] w fun x w' => x = .returned (.agg #[.int .i64 0, .int .i64 0]) ∧ Below w.heap.size w w' := by
  have hu1 := Tryd.underlying40
  have hu2 := Tryd.underlying38
  have hu3 := Tryd.underlying25
  have HB := Aside0.mk (boxes3 w (.cells #[.int .i64 a, .int .i64 b, .int .i64 c, .int .i64 d] 40) (.cells #[.int .i64 e, .int .i64 f] 38) (.cells #[.int .i64 0, .int .i64 0] 25))
  have H := Aside0.mk h
  clear h
  go_enter Tryd.func24, Tryd.ntmps24
  go_wp2_with fail
  refine (impl_SegOk.calls a b c d false _ H.out).mono ?_
  rintro x w1 ⟨rfl, hb⟩
  have HS := Aside0.mk (blk_on hb HB.out.2.1)
  have HP := Aside0.mk (blk_on hb HB.out.2.2.1)
  have HR := Aside0.mk (blk_on hb HB.out.2.2.2)
  have HB1 := Aside0.mk (below_step HB.out.1 hb)
  clear hb
  have q0 : w1.cell? ⟨w.heap.size + 1 + 1, 0, none⟩ = some (.int .i64 0) := (blk_cell HR.out 0).trans rfl
  have q1 : w1.cell? ⟨w.heap.size + 1 + 1, 1, none⟩ = some (.int .i64 0) := (blk_cell HR.out 1).trans rfl
  have q2 := blk_frozen HR.out 0
  have q3 := blk_frozen HR.out 1
  go_wp2_with fail
  refine bodyPost_ret (results_cell_row rfl _ _ (w.heap.size + 1 + 1) 25 #[.int .i64 0, .int .i64 0] (0, 0) _ rfl (by refine blk_put (cs := #[.int .i64 0, .int .i64 0]) ?_ 1 _ rfl; refine blk_put (cs := #[.int .i64 0, .int .i64 0]) ?_ 0 _ rfl; exact HR.out) Tryd.underlying25 rfl (by kernel_rfl)) rfl ?_
  exact ⟨rfl, by refine below_set ?_ (by omega); refine below_set ?_ (by omega); exact HB1.out⟩
set_option maxHeartbeats 1000000 in
set_option maxRecDepth 100000 in
theorem segFar_bad2 (h : impl_SegOk.f a b c d = some true) (h' : impl_PtOk.f e f = some false) :
    Calls Tryd.prog 24 #[.agg #[.int .i64 a, .int .i64 b, .int .i64 c, .int .i64 d], .agg #[.int .i64 e, .int .i64 f]] w fun x w' => x = .returned (.agg #[.int .i64 0, .int .i64 0]) ∧ Below w.heap.size w w' := by
  have hu1 := Tryd.underlying40
  have hu2 := Tryd.underlying38
  have hu3 := Tryd.underlying25
  have HB := Aside0.mk (boxes3 w (.cells #[.int .i64 a, .int .i64 b, .int .i64 c, .int .i64 d] 40) (.cells #[.int .i64 e, .int .i64 f] 38) (.cells #[.int .i64 0, .int .i64 0] 25))
  have H := Aside0.mk h
  have H' := Aside0.mk h'
  clear h h'
  go_enter Tryd.func24, Tryd.ntmps24
  go_wp2_with fail
  refine (impl_SegOk.calls a b c d true _ H.out).mono ?_
  rintro x w1 ⟨rfl, hb⟩
  have HS := Aside0.mk (blk_on hb HB.out.2.1)
  have HP := Aside0.mk (blk_on hb HB.out.2.2.1)
  have HR := Aside0.mk (blk_on hb HB.out.2.2.2)
  have HB1 := Aside0.mk (below_step HB.out.1 hb)
  clear hb
  have q0 : w1.cell? ⟨w.heap.size + 1, 0, none⟩ = some (.int .i64 e) := (blk_cell HP.out 0).trans rfl
  have q1 : w1.cell? ⟨w.heap.size + 1, 1, none⟩ = some (.int .i64 f) := (blk_cell HP.out 1).trans rfl
  go_wp2_with fail
  refine (impl_PtOk.calls e f false _ H'.out).mono ?_
  rintro x w2 ⟨rfl, hb⟩
  have HS2 := Aside0.mk (blk_on hb HS.out)
  have HP2 := Aside0.mk (blk_on hb HP.out)
  have HR2 := Aside0.mk (blk_on hb HR.out)
  have HB2 := Aside0.mk (below_step HB1.out hb)
  clear hb q0 q1
  have q0 : w2.cell? ⟨w.heap.size + 1 + 1, 0, none⟩ = some (.int .i64 0) := (blk_cell HR2.out 0).trans rfl
  have q1 : w2.cell? ⟨w.heap.size + 1 + 1, 1, none⟩ = some (.int .i64 0) := (blk_cell HR2.out 1).trans rfl
  have q2 := blk_frozen HR2.out 0
  have q3 := blk_frozen HR2.out 1
  go_wp2_with fail
  refine bodyPost_ret (results_cell_row rfl _ _ (w.heap.size + 1 + 1) 25 #[.int .i64 0, .int .i64 0] (0, 0) _ rfl (by refine blk_put (cs := #[.int .i64 0, .int .i64 0]) ?_ 1 _ rfl; refine blk_put (cs := #[.int .i64 0, .int .i64 0]) ?_ 0 _ rfl; exact HR2.out) Tryd.underlying25 rfl (by kernel_rfl)) rfl ?_
  exact ⟨rfl, by refine below_set ?_ (by omega); refine below_set ?_ (by omega); exact HB2.out⟩
set_option maxHeartbeats 1000000 in
set_option maxRecDepth 100000 in
theorem segFar_way1 (k : Nat) {m t n1 n2 : Int} (h : impl_SegOk.f a b c d = some true) (h' : impl_PtOk.f e f = some true) (h2 : impl_standOf.f a b c d e f = some 0) (hw : impl_between.f a b e f = some m) (hf : impl_FracOf.f k m 1 = some (n1, n2, true)) :
    Calls Tryd.prog 24 #[.agg #[.int .i64 a, .int .i64 b, .int .i64 c, .int .i64 d], .agg #[.int .i64 e, .int .i64 f]] w fun x w' => x = .returned (.agg #[.int .i64 n1, .int .i64 n2]) ∧ Below w.heap.size w w' := by
  have hu1 := Tryd.underlying40
  have hu2 := Tryd.underlying38
  have hu3 := Tryd.underlying25
  have HB := Aside0.mk (boxes3 w (.cells #[.int .i64 a, .int .i64 b, .int .i64 c, .int .i64 d] 40) (.cells #[.int .i64 e, .int .i64 f] 38) (.cells #[.int .i64 0, .int .i64 0] 25))
  have H := Aside0.mk h
  have H' := Aside0.mk h'
  have H2 := Aside0.mk h2
  have HW := Aside0.mk hw
  have HF := Aside0.mk hf
  clear h h' h2 hw hf
  go_enter Tryd.func24, Tryd.ntmps24
  go_wp2_with fail
  refine (impl_SegOk.calls a b c d true _ H.out).mono ?_
  rintro x w1 ⟨rfl, hb⟩
  have HS := Aside0.mk (blk_on hb HB.out.2.1)
  have HP := Aside0.mk (blk_on hb HB.out.2.2.1)
  have HR := Aside0.mk (blk_on hb HB.out.2.2.2)
  have HB1 := Aside0.mk (below_step HB.out.1 hb)
  clear hb
  have q0 : w1.cell? ⟨w.heap.size + 1, 0, none⟩ = some (.int .i64 e) := (blk_cell HP.out 0).trans rfl
  have q1 : w1.cell? ⟨w.heap.size + 1, 1, none⟩ = some (.int .i64 f) := (blk_cell HP.out 1).trans rfl
  go_wp2_with fail
  refine (impl_PtOk.calls e f true _ H'.out).mono ?_
  rintro x w2 ⟨rfl, hb⟩
  have HS2 := Aside0.mk (blk_on hb HS.out)
  have HP2 := Aside0.mk (blk_on hb HP.out)
  have HR2 := Aside0.mk (blk_on hb HR.out)
  have HB2 := Aside0.mk (below_step HB1.out hb)
  clear hb q0 q1
  have q0 : ∀ o, (w2.alloc o).cell? ⟨w.heap.size, 0, none⟩ = some (.int .i64 a) := fun o => (blk_cell (blk_alloc HS2.out o) 0).trans rfl
  have q1 : ∀ o, (w2.alloc o).cell? ⟨w.heap.size, 1, none⟩ = some (.int .i64 b) := fun o => (blk_cell (blk_alloc HS2.out o) 1).trans rfl
  have q2 : ∀ o, (w2.alloc o).cell? ⟨w.heap.size, 2, none⟩ = some (.int .i64 c) := fun o => (blk_cell (blk_alloc HS2.out o) 2).trans rfl
  have q3 : ∀ o, (w2.alloc o).cell? ⟨w.heap.size, 3, none⟩ = some (.int .i64 d) := fun o => (blk_cell (blk_alloc HS2.out o) 3).trans rfl
  have q4 : ∀ o, (w2.alloc o).cell? ⟨w.heap.size + 1, 0, none⟩ = some (.int .i64 e) := fun o => (blk_cell (blk_alloc HP2.out o) 0).trans rfl
  have q5 : ∀ o, (w2.alloc o).cell? ⟨w.heap.size + 1, 1, none⟩ = some (.int .i64 f) := fun o => (blk_cell (blk_alloc HP2.out o) 1).trans rfl
  have HQ := Aside0.mk (heap_alloc_new w2 (.cells #[.nilFunc, .nilFunc, .nilFunc] 80))
  have r0 : (w2.alloc (.cells #[.nilFunc, .nilFunc, .nilFunc] 80)).cell? ⟨w2.heap.size, 0, none⟩ = some .nilFunc := (blk_cell HQ.out 0).trans rfl
  have s0 := blk_frozen HQ.out 0
  have r1 : (w2.alloc (.cells #[.nilFunc, .nilFunc, .nilFunc] 80)).cell? ⟨w2.heap.size, 1, none⟩ = some .nilFunc := (blk_cell HQ.out 1).trans rfl
  have s1 := blk_frozen HQ.out 1
  have r2 : (w2.alloc (.cells #[.nilFunc, .nilFunc, .nilFunc] 80)).cell? ⟨w2.heap.size, 2, none⟩ = some .nilFunc := (blk_cell HQ.out 2).trans rfl
  have s2 := blk_frozen HQ.out 2
  go_wp2_with fail
  refine (impl_standOf.calls a b c d e f 0 _ H2.out).mono ?_
  rintro x w3 ⟨rfl, hb⟩
  have HK := Aside0.mk (blk_on hb (heap_alloc_new w2 (.cells #[.func (.func 53) #[] #[.pointer (some ⟨w.heap.size, 0, none⟩), .pointer (some ⟨w.heap.size + 1, 0, none⟩)], .func (.func 55) #[] #[.pointer (some ⟨w.heap.size, 0, none⟩), .pointer (some ⟨w.heap.size + 1, 0, none⟩)], .func (.func 57) #[] #[.pointer (some ⟨w.heap.size, 0, none⟩), .pointer (some ⟨w.heap.size + 1, 0, none⟩)]] 80)))
  have HS3 := Aside0.mk (blk_on hb (blk_alloc HS2.out (.cells #[.func (.func 53) #[] #[.pointer (some ⟨w.heap.size, 0, none⟩), .pointer (some ⟨w.heap.size + 1, 0, none⟩)], .func (.func 55) #[] #[.pointer (some ⟨w.heap.size, 0, none⟩), .pointer (some ⟨w.heap.size + 1, 0, none⟩)], .func (.func 57) #[] #[.pointer (some ⟨w.heap.size, 0, none⟩), .pointer (some ⟨w.heap.size + 1, 0, none⟩)]] 80)))
  have HP3 := Aside0.mk (blk_on hb (blk_alloc HP2.out (.cells #[.func (.func 53) #[] #[.pointer (some ⟨w.heap.size, 0, none⟩), .pointer (some ⟨w.heap.size + 1, 0, none⟩)], .func (.func 55) #[] #[.pointer (some ⟨w.heap.size, 0, none⟩), .pointer (some ⟨w.heap.size + 1, 0, none⟩)], .func (.func 57) #[] #[.pointer (some ⟨w.heap.size, 0, none⟩), .pointer (some ⟨w.heap.size + 1, 0, none⟩)]] 80)))
  have HR3 := Aside0.mk (blk_on hb (blk_alloc HR2.out (.cells #[.func (.func 53) #[] #[.pointer (some ⟨w.heap.size, 0, none⟩), .pointer (some ⟨w.heap.size + 1, 0, none⟩)], .func (.func 55) #[] #[.pointer (some ⟨w.heap.size, 0, none⟩), .pointer (some ⟨w.heap.size + 1, 0, none⟩)], .func (.func 57) #[] #[.pointer (some ⟨w.heap.size, 0, none⟩), .pointer (some ⟨w.heap.size + 1, 0, none⟩)]] 80)))
  have HB3 := Aside0.mk (below_step (below_alloc HB2.out (.cells #[.func (.func 53) #[] #[.pointer (some ⟨w.heap.size, 0, none⟩), .pointer (some ⟨w.heap.size + 1, 0, none⟩)], .func (.func 55) #[] #[.pointer (some ⟨w.heap.size, 0, none⟩), .pointer (some ⟨w.heap.size + 1, 0, none⟩)], .func (.func 57) #[] #[.pointer (some ⟨w.heap.size, 0, none⟩), .pointer (some ⟨w.heap.size + 1, 0, none⟩)]] 80)) hb)
  clear hb q0 q1 q2 q3 q4 q5 r0 r1 r2 s0 s1 s2 HQ
  have q0 : w3.cell? ⟨w2.heap.size, 0, none⟩ = some (.func (.func 53) #[] #[.pointer (some ⟨w.heap.size, 0, none⟩), .pointer (some ⟨w.heap.size + 1, 0, none⟩)]) := (blk_cell HK.out 0).trans rfl
  go_wp2_with fail
  refine (far1 w.heap.size (w.heap.size + 1) a b c d e f w3 k HS3.out HP3.out HW.out HF.out).mono ?_
  rintro x w4 ⟨rfl, hb⟩
  have HR4 := Aside0.mk (blk_on hb HR3.out)
  have HB4 := Aside0.mk (below_step HB3.out hb)
  clear hb q0
  have HN := Aside0.mk (heap_alloc_new w4 (.cells #[.int .i64 0, .int .i64 0] 25))
  have u0 : (w4.alloc (.cells #[.int .i64 0, .int .i64 0] 25)).cell? ⟨w4.heap.size, 0, none⟩ = some (.int .i64 0) := (blk_cell HN.out 0).trans rfl
  have u1 : (w4.alloc (.cells #[.int .i64 0, .int .i64 0] 25)).cell? ⟨w4.heap.size, 1, none⟩ = some (.int .i64 0) := (blk_cell HN.out 1).trans rfl
  have u2 := blk_frozen HN.out 0
  have u3 := blk_frozen HN.out 1
  have q0 : ∀ o, (w4.alloc o).cell? ⟨w.heap.size + 1 + 1, 0, none⟩ = some (.int .i64 0) := fun o => (blk_cell (blk_alloc HR4.out o) 0).trans rfl
  have q1 : ∀ o, (w4.alloc o).cell? ⟨w.heap.size + 1 + 1, 1, none⟩ = some (.int .i64 0) := fun o => (blk_cell (blk_alloc HR4.out o) 1).trans rfl
  have q2 := fun o => blk_frozen (blk_alloc HR4.out o) 0
  have q3 := fun o => blk_frozen (blk_alloc HR4.out o) 1
  go_wp2_with fail
  refine bodyPost_ret (results_cell_row rfl _ _ (w.heap.size + 1 + 1) 25 #[.int .i64 n1, .int .i64 n2] (0, 0) _ rfl (by refine blk_put (cs := #[.int .i64 n1, .int .i64 0]) ?_ 1 _ rfl; refine blk_put (cs := #[.int .i64 0, .int .i64 0]) ?_ 0 _ rfl; exact blk_alloc HR4.out _) Tryd.underlying25 rfl (by kernel_rfl)) rfl ?_
  exact ⟨rfl, by refine below_set ?_ (by omega); refine below_set ?_ (by omega); exact below_alloc HB4.out _⟩
set_option maxHeartbeats 1000000 in
set_option maxRecDepth 100000 in
theorem segFar_way2 (k : Nat) {m t n1 n2 : Int} (h : impl_SegOk.f a b c d = some true) (h' : impl_PtOk.f e f = some true) (h2 : impl_standOf.f a b c d e f = some 1) (hv : impl_cross.f a b c d e f = some t) (hw : impl_between.f a b c d = some m) (hf : impl_FracOf.f k (wrap64 (t * t)) m = some (n1, n2, true)) :
    Calls Tryd.prog 24 #[.agg #[.int .i64 a, .int .i64 b, .int .i64 c, .int .i64 d], .agg #[.int .i64 e, .int .i64 f]] w fun x w' => x = .returned (.agg #[.int .i64 n1, .int .i64 n2]) ∧ Below w.heap.size w w' := by
  have hu1 := Tryd.underlying40
  have hu2 := Tryd.underlying38
  have hu3 := Tryd.underlying25
  have HB := Aside0.mk (boxes3 w (.cells #[.int .i64 a, .int .i64 b, .int .i64 c, .int .i64 d] 40) (.cells #[.int .i64 e, .int .i64 f] 38) (.cells #[.int .i64 0, .int .i64 0] 25))
  have H := Aside0.mk h
  have H' := Aside0.mk h'
  have H2 := Aside0.mk h2
  have HW := Aside0.mk hw
  have HF := Aside0.mk hf
  clear h h' h2 hw hf
  have HV := Aside0.mk hv
  clear hv
  go_enter Tryd.func24, Tryd.ntmps24
  go_wp2_with fail
  refine (impl_SegOk.calls a b c d true _ H.out).mono ?_
  rintro x w1 ⟨rfl, hb⟩
  have HS := Aside0.mk (blk_on hb HB.out.2.1)
  have HP := Aside0.mk (blk_on hb HB.out.2.2.1)
  have HR := Aside0.mk (blk_on hb HB.out.2.2.2)
  have HB1 := Aside0.mk (below_step HB.out.1 hb)
  clear hb
  have q0 : w1.cell? ⟨w.heap.size + 1, 0, none⟩ = some (.int .i64 e) := (blk_cell HP.out 0).trans rfl
  have q1 : w1.cell? ⟨w.heap.size + 1, 1, none⟩ = some (.int .i64 f) := (blk_cell HP.out 1).trans rfl
  go_wp2_with fail
  refine (impl_PtOk.calls e f true _ H'.out).mono ?_
  rintro x w2 ⟨rfl, hb⟩
  have HS2 := Aside0.mk (blk_on hb HS.out)
  have HP2 := Aside0.mk (blk_on hb HP.out)
  have HR2 := Aside0.mk (blk_on hb HR.out)
  have HB2 := Aside0.mk (below_step HB1.out hb)
  clear hb q0 q1
  have q0 : ∀ o, (w2.alloc o).cell? ⟨w.heap.size, 0, none⟩ = some (.int .i64 a) := fun o => (blk_cell (blk_alloc HS2.out o) 0).trans rfl
  have q1 : ∀ o, (w2.alloc o).cell? ⟨w.heap.size, 1, none⟩ = some (.int .i64 b) := fun o => (blk_cell (blk_alloc HS2.out o) 1).trans rfl
  have q2 : ∀ o, (w2.alloc o).cell? ⟨w.heap.size, 2, none⟩ = some (.int .i64 c) := fun o => (blk_cell (blk_alloc HS2.out o) 2).trans rfl
  have q3 : ∀ o, (w2.alloc o).cell? ⟨w.heap.size, 3, none⟩ = some (.int .i64 d) := fun o => (blk_cell (blk_alloc HS2.out o) 3).trans rfl
  have q4 : ∀ o, (w2.alloc o).cell? ⟨w.heap.size + 1, 0, none⟩ = some (.int .i64 e) := fun o => (blk_cell (blk_alloc HP2.out o) 0).trans rfl
  have q5 : ∀ o, (w2.alloc o).cell? ⟨w.heap.size + 1, 1, none⟩ = some (.int .i64 f) := fun o => (blk_cell (blk_alloc HP2.out o) 1).trans rfl
  have HQ := Aside0.mk (heap_alloc_new w2 (.cells #[.nilFunc, .nilFunc, .nilFunc] 80))
  have r0 : (w2.alloc (.cells #[.nilFunc, .nilFunc, .nilFunc] 80)).cell? ⟨w2.heap.size, 0, none⟩ = some .nilFunc := (blk_cell HQ.out 0).trans rfl
  have s0 := blk_frozen HQ.out 0
  have r1 : (w2.alloc (.cells #[.nilFunc, .nilFunc, .nilFunc] 80)).cell? ⟨w2.heap.size, 1, none⟩ = some .nilFunc := (blk_cell HQ.out 1).trans rfl
  have s1 := blk_frozen HQ.out 1
  have r2 : (w2.alloc (.cells #[.nilFunc, .nilFunc, .nilFunc] 80)).cell? ⟨w2.heap.size, 2, none⟩ = some .nilFunc := (blk_cell HQ.out 2).trans rfl
  have s2 := blk_frozen HQ.out 2
  go_wp2_with fail
  refine (impl_standOf.calls a b c d e f 1 _ H2.out).mono ?_
  rintro x w3 ⟨rfl, hb⟩
  have HK := Aside0.mk (blk_on hb (heap_alloc_new w2 (.cells #[.func (.func 53) #[] #[.pointer (some ⟨w.heap.size, 0, none⟩), .pointer (some ⟨w.heap.size + 1, 0, none⟩)], .func (.func 55) #[] #[.pointer (some ⟨w.heap.size, 0, none⟩), .pointer (some ⟨w.heap.size + 1, 0, none⟩)], .func (.func 57) #[] #[.pointer (some ⟨w.heap.size, 0, none⟩), .pointer (some ⟨w.heap.size + 1, 0, none⟩)]] 80)))
  have HS3 := Aside0.mk (blk_on hb (blk_alloc HS2.out (.cells #[.func (.func 53) #[] #[.pointer (some ⟨w.heap.size, 0, none⟩), .pointer (some ⟨w.heap.size + 1, 0, none⟩)], .func (.func 55) #[] #[.pointer (some ⟨w.heap.size, 0, none⟩), .pointer (some ⟨w.heap.size + 1, 0, none⟩)], .func (.func 57) #[] #[.pointer (some ⟨w.heap.size, 0, none⟩), .pointer (some ⟨w.heap.size + 1, 0, none⟩)]] 80)))
  have HP3 := Aside0.mk (blk_on hb (blk_alloc HP2.out (.cells #[.func (.func 53) #[] #[.pointer (some ⟨w.heap.size, 0, none⟩), .pointer (some ⟨w.heap.size + 1, 0, none⟩)], .func (.func 55) #[] #[.pointer (some ⟨w.heap.size, 0, none⟩), .pointer (some ⟨w.heap.size + 1, 0, none⟩)], .func (.func 57) #[] #[.pointer (some ⟨w.heap.size, 0, none⟩), .pointer (some ⟨w.heap.size + 1, 0, none⟩)]] 80)))
  have HR3 := Aside0.mk (blk_on hb (blk_alloc HR2.out (.cells #[.func (.func 53) #[] #[.pointer (some ⟨w.heap.size, 0, none⟩), .pointer (some ⟨w.heap.size + 1, 0, none⟩)], .func (.func 55) #[] #[.pointer (some ⟨w.heap.size, 0, none⟩), .pointer (some ⟨w.heap.size + 1, 0, none⟩)], .func (.func 57) #[] #[.pointer (some ⟨w.heap.size, 0, none⟩), .pointer (some ⟨w.heap.size + 1, 0, none⟩)]] 80)))
  have HB3 := Aside0.mk (below_step (below_alloc HB2.out (.cells #[.func (.func 53) #[] #[.pointer (some ⟨w.heap.size, 0, none⟩), .pointer (some ⟨w.heap.size + 1, 0, none⟩)], .func (.func 55) #[] #[.pointer (some ⟨w.heap.size, 0, none⟩), .pointer (some ⟨w.heap.size + 1, 0, none⟩)], .func (.func 57) #[] #[.pointer (some ⟨w.heap.size, 0, none⟩), .pointer (some ⟨w.heap.size + 1, 0, none⟩)]] 80)) hb)
  clear hb q0 q1 q2 q3 q4 q5 r0 r1 r2 s0 s1 s2 HQ
  have q0 : w3.cell? ⟨w2.heap.size, 1, none⟩ = some (.func (.func 55) #[] #[.pointer (some ⟨w.heap.size, 0, none⟩), .pointer (some ⟨w.heap.size + 1, 0, none⟩)]) := (blk_cell HK.out 1).trans rfl
  go_wp2_with fail
  refine (far2 w.heap.size (w.heap.size + 1) a b c d e f w3 k HS3.out HP3.out HV.out HW.out HF.out).mono ?_
  rintro x w4 ⟨rfl, hb⟩
  have HR4 := Aside0.mk (blk_on hb HR3.out)
  have HB4 := Aside0.mk (below_step HB3.out hb)
  clear hb q0
  have HN := Aside0.mk (heap_alloc_new w4 (.cells #[.int .i64 0, .int .i64 0] 25))
  have u0 : (w4.alloc (.cells #[.int .i64 0, .int .i64 0] 25)).cell? ⟨w4.heap.size, 0, none⟩ = some (.int .i64 0) := (blk_cell HN.out 0).trans rfl
  have u1 : (w4.alloc (.cells #[.int .i64 0, .int .i64 0] 25)).cell? ⟨w4.heap.size, 1, none⟩ = some (.int .i64 0) := (blk_cell HN.out 1).trans rfl
  have u2 := blk_frozen HN.out 0
  have u3 := blk_frozen HN.out 1
  have q0 : ∀ o, (w4.alloc o).cell? ⟨w.heap.size + 1 + 1, 0, none⟩ = some (.int .i64 0) := fun o => (blk_cell (blk_alloc HR4.out o) 0).trans rfl
  have q1 : ∀ o, (w4.alloc o).cell? ⟨w.heap.size + 1 + 1, 1, none⟩ = some (.int .i64 0) := fun o => (blk_cell (blk_alloc HR4.out o) 1).trans rfl
  have q2 := fun o => blk_frozen (blk_alloc HR4.out o) 0
  have q3 := fun o => blk_frozen (blk_alloc HR4.out o) 1
  go_wp2_with fail
  refine bodyPost_ret (results_cell_row rfl _ _ (w.heap.size + 1 + 1) 25 #[.int .i64 n1, .int .i64 n2] (0, 0) _ rfl (by refine blk_put (cs := #[.int .i64 n1, .int .i64 0]) ?_ 1 _ rfl; refine blk_put (cs := #[.int .i64 0, .int .i64 0]) ?_ 0 _ rfl; exact blk_alloc HR4.out _) Tryd.underlying25 rfl (by kernel_rfl)) rfl ?_
  exact ⟨rfl, by refine below_set ?_ (by omega); refine below_set ?_ (by omega); exact below_alloc HB4.out _⟩
set_option maxHeartbeats 1000000 in
set_option maxRecDepth 100000 in
theorem segFar_way3 (k : Nat) {m t n1 n2 : Int} (h : impl_SegOk.f a b c d = some true) (h' : impl_PtOk.f e f = some true) (h2 : impl_standOf.f a b c d e f = some 2) (hw : impl_between.f c d e f = some m) (hf : impl_FracOf.f k m 1 = some (n1, n2, true)) :
    Calls Tryd.prog 24 #[.agg #[.int .i64 a, .int .i64 b, .int .i64 c, .int .i64 d], .agg #[.int .i64 e, .int .i64 f]] w fun x w' => x = .returned (.agg #[.int .i64 n1, .int .i64 n2]) ∧ Below w.heap.size w w' := by
  have hu1 := Tryd.underlying40
  have hu2 := Tryd.underlying38
  have hu3 := Tryd.underlying25
  have HB := Aside0.mk (boxes3 w (.cells #[.int .i64 a, .int .i64 b, .int .i64 c, .int .i64 d] 40) (.cells #[.int .i64 e, .int .i64 f] 38) (.cells #[.int .i64 0, .int .i64 0] 25))
  have H := Aside0.mk h
  have H' := Aside0.mk h'
  have H2 := Aside0.mk h2
  have HW := Aside0.mk hw
  have HF := Aside0.mk hf
  clear h h' h2 hw hf
  go_enter Tryd.func24, Tryd.ntmps24
  go_wp2_with fail
  refine (impl_SegOk.calls a b c d true _ H.out).mono ?_
  rintro x w1 ⟨rfl, hb⟩
  have HS := Aside0.mk (blk_on hb HB.out.2.1)
  have HP := Aside0.mk (blk_on hb HB.out.2.2.1)
  have HR := Aside0.mk (blk_on hb HB.out.2.2.2)
  have HB1 := Aside0.mk (below_step HB.out.1 hb)
  clear hb
  have q0 : w1.cell? ⟨w.heap.size + 1, 0, none⟩ = some (.int .i64 e) := (blk_cell HP.out 0).trans rfl
  have q1 : w1.cell? ⟨w.heap.size + 1, 1, none⟩ = some (.int .i64 f) := (blk_cell HP.out 1).trans rfl
  go_wp2_with fail
  refine (impl_PtOk.calls e f true _ H'.out).mono ?_
  rintro x w2 ⟨rfl, hb⟩
  have HS2 := Aside0.mk (blk_on hb HS.out)
  have HP2 := Aside0.mk (blk_on hb HP.out)
  have HR2 := Aside0.mk (blk_on hb HR.out)
  have HB2 := Aside0.mk (below_step HB1.out hb)
  clear hb q0 q1
  have q0 : ∀ o, (w2.alloc o).cell? ⟨w.heap.size, 0, none⟩ = some (.int .i64 a) := fun o => (blk_cell (blk_alloc HS2.out o) 0).trans rfl
  have q1 : ∀ o, (w2.alloc o).cell? ⟨w.heap.size, 1, none⟩ = some (.int .i64 b) := fun o => (blk_cell (blk_alloc HS2.out o) 1).trans rfl
  have q2 : ∀ o, (w2.alloc o).cell? ⟨w.heap.size, 2, none⟩ = some (.int .i64 c) := fun o => (blk_cell (blk_alloc HS2.out o) 2).trans rfl
  have q3 : ∀ o, (w2.alloc o).cell? ⟨w.heap.size, 3, none⟩ = some (.int .i64 d) := fun o => (blk_cell (blk_alloc HS2.out o) 3).trans rfl
  have q4 : ∀ o, (w2.alloc o).cell? ⟨w.heap.size + 1, 0, none⟩ = some (.int .i64 e) := fun o => (blk_cell (blk_alloc HP2.out o) 0).trans rfl
  have q5 : ∀ o, (w2.alloc o).cell? ⟨w.heap.size + 1, 1, none⟩ = some (.int .i64 f) := fun o => (blk_cell (blk_alloc HP2.out o) 1).trans rfl
  have HQ := Aside0.mk (heap_alloc_new w2 (.cells #[.nilFunc, .nilFunc, .nilFunc] 80))
  have r0 : (w2.alloc (.cells #[.nilFunc, .nilFunc, .nilFunc] 80)).cell? ⟨w2.heap.size, 0, none⟩ = some .nilFunc := (blk_cell HQ.out 0).trans rfl
  have s0 := blk_frozen HQ.out 0
  have r1 : (w2.alloc (.cells #[.nilFunc, .nilFunc, .nilFunc] 80)).cell? ⟨w2.heap.size, 1, none⟩ = some .nilFunc := (blk_cell HQ.out 1).trans rfl
  have s1 := blk_frozen HQ.out 1
  have r2 : (w2.alloc (.cells #[.nilFunc, .nilFunc, .nilFunc] 80)).cell? ⟨w2.heap.size, 2, none⟩ = some .nilFunc := (blk_cell HQ.out 2).trans rfl
  have s2 := blk_frozen HQ.out 2
  go_wp2_with fail
  refine (impl_standOf.calls a b c d e f 2 _ H2.out).mono ?_
  rintro x w3 ⟨rfl, hb⟩
  have HK := Aside0.mk (blk_on hb (heap_alloc_new w2 (.cells #[.func (.func 53) #[] #[.pointer (some ⟨w.heap.size, 0, none⟩), .pointer (some ⟨w.heap.size + 1, 0, none⟩)], .func (.func 55) #[] #[.pointer (some ⟨w.heap.size, 0, none⟩), .pointer (some ⟨w.heap.size + 1, 0, none⟩)], .func (.func 57) #[] #[.pointer (some ⟨w.heap.size, 0, none⟩), .pointer (some ⟨w.heap.size + 1, 0, none⟩)]] 80)))
  have HS3 := Aside0.mk (blk_on hb (blk_alloc HS2.out (.cells #[.func (.func 53) #[] #[.pointer (some ⟨w.heap.size, 0, none⟩), .pointer (some ⟨w.heap.size + 1, 0, none⟩)], .func (.func 55) #[] #[.pointer (some ⟨w.heap.size, 0, none⟩), .pointer (some ⟨w.heap.size + 1, 0, none⟩)], .func (.func 57) #[] #[.pointer (some ⟨w.heap.size, 0, none⟩), .pointer (some ⟨w.heap.size + 1, 0, none⟩)]] 80)))
  have HP3 := Aside0.mk (blk_on hb (blk_alloc HP2.out (.cells #[.func (.func 53) #[] #[.pointer (some ⟨w.heap.size, 0, none⟩), .pointer (some ⟨w.heap.size + 1, 0, none⟩)], .func (.func 55) #[] #[.pointer (some ⟨w.heap.size, 0, none⟩), .pointer (some ⟨w.heap.size + 1, 0, none⟩)], .func (.func 57) #[] #[.pointer (some ⟨w.heap.size, 0, none⟩), .pointer (some ⟨w.heap.size + 1, 0, none⟩)]] 80)))
  have HR3 := Aside0.mk (blk_on hb (blk_alloc HR2.out (.cells #[.func (.func 53) #[] #[.pointer (some ⟨w.heap.size, 0, none⟩), .pointer (some ⟨w.heap.size + 1, 0, none⟩)], .func (.func 55) #[] #[.pointer (some ⟨w.heap.size, 0, none⟩), .pointer (some ⟨w.heap.size + 1, 0, none⟩)], .func (.func 57) #[] #[.pointer (some ⟨w.heap.size, 0, none⟩), .pointer (some ⟨w.heap.size + 1, 0, none⟩)]] 80)))
  have HB3 := Aside0.mk (below_step (below_alloc HB2.out (.cells #[.func (.func 53) #[] #[.pointer (some ⟨w.heap.size, 0, none⟩), .pointer (some ⟨w.heap.size + 1, 0, none⟩)], .func (.func 55) #[] #[.pointer (some ⟨w.heap.size, 0, none⟩), .pointer (some ⟨w.heap.size + 1, 0, none⟩)], .func (.func 57) #[] #[.pointer (some ⟨w.heap.size, 0, none⟩), .pointer (some ⟨w.heap.size + 1, 0, none⟩)]] 80)) hb)
  clear hb q0 q1 q2 q3 q4 q5 r0 r1 r2 s0 s1 s2 HQ
  have q0 : w3.cell? ⟨w2.heap.size, 2, none⟩ = some (.func (.func 57) #[] #[.pointer (some ⟨w.heap.size, 0, none⟩), .pointer (some ⟨w.heap.size + 1, 0, none⟩)]) := (blk_cell HK.out 2).trans rfl
  go_wp2_with fail
  refine (far3 w.heap.size (w.heap.size + 1) a b c d e f w3 k HS3.out HP3.out HW.out HF.out).mono ?_
  rintro x w4 ⟨rfl, hb⟩
  have HR4 := Aside0.mk (blk_on hb HR3.out)
  have HB4 := Aside0.mk (below_step HB3.out hb)
  clear hb q0
  have HN := Aside0.mk (heap_alloc_new w4 (.cells #[.int .i64 0, .int .i64 0] 25))
  have u0 : (w4.alloc (.cells #[.int .i64 0, .int .i64 0] 25)).cell? ⟨w4.heap.size, 0, none⟩ = some (.int .i64 0) := (blk_cell HN.out 0).trans rfl
  have u1 : (w4.alloc (.cells #[.int .i64 0, .int .i64 0] 25)).cell? ⟨w4.heap.size, 1, none⟩ = some (.int .i64 0) := (blk_cell HN.out 1).trans rfl
  have u2 := blk_frozen HN.out 0
  have u3 := blk_frozen HN.out 1
  have q0 : ∀ o, (w4.alloc o).cell? ⟨w.heap.size + 1 + 1, 0, none⟩ = some (.int .i64 0) := fun o => (blk_cell (blk_alloc HR4.out o) 0).trans rfl
  have q1 : ∀ o, (w4.alloc o).cell? ⟨w.heap.size + 1 + 1, 1, none⟩ = some (.int .i64 0) := fun o => (blk_cell (blk_alloc HR4.out o) 1).trans rfl
  have q2 := fun o => blk_frozen (blk_alloc HR4.out o) 0
  have q3 := fun o => blk_frozen (blk_alloc HR4.out o) 1
  go_wp2_with fail
  refine bodyPost_ret (results_cell_row rfl _ _ (w.heap.size + 1 + 1) 25 #[.int .i64 n1, .int .i64 n2] (0, 0) _ rfl (by refine blk_put (cs := #[.int .i64 n1, .int .i64 0]) ?_ 1 _ rfl; refine blk_put (cs := #[.int .i64 0, .int .i64 0]) ?_ 0 _ rfl; exact blk_alloc HR4.out _) Tryd.underlying25 rfl (by kernel_rfl)) rfl ?_
  exact ⟨rfl, by refine below_set ?_ (by omega); refine below_set ?_ (by omega); exact below_alloc HB4.out _⟩
end
def impl_SegFar.f (a b c d e f : Int) : Option (Int × Int) := some ((segFar ((a, b), (c, d)) (e, f)).1, (segFar ((a, b), (c, d)) (e, f)).2)
theorem impl_SegFar.calls (a b c d e f r1 r2 : Int) (w : World) (h : impl_SegFar.f a b c d e f = some (r1, r2)) :
    Calls Tryd.prog 24 #[.agg #[.int .i64 a, .int .i64 b, .int .i64 c, .int .i64 d], .agg #[.int .i64 e, .int .i64 f]] w fun x w' => x = .returned (.agg #[.int .i64 r1, .int .i64 r2]) ∧ Below w.heap.size w w' := by
  unfold impl_SegFar.f at h
  simp only [Option.some.injEq, Prod.mk.injEq] at h
  obtain ⟨rfl, rfl⟩ := h
  unfold segFar
  cases hs : segOk ((a, b), (c, d)) with
  | false => exact segFar_bad1 a b c d e f w ((iSegOk a b c d).trans (congrArg some hs))
  | true =>
    have h1 := (iSegOk a b c d).trans (congrArg some hs)
    cases hp : ptOk (e, f) with
    | false => exact segFar_bad2 a b c d e f w h1 ((iPtOk e f).trans (congrArg some hp))
    | true =>
      have h2 := (iPtOk e f).trans (congrArg some hp)
      obtain ⟨o1, o2⟩ := segOk_ends hs
      have h3 := iStandOf hs hp
      have hin := far_inR hs hp
      simp only [Bool.and_self, if_true]
      unfold far at hin ⊢
      by_cases z : dot (a, b) (c, d) (e, f) ≤ 0
      · rw [if_pos z] at h3 hin ⊢
        rw [red_whole (dot_self_nn _ _) (Int.le_trans (dot_bound o1 hp hp).2 (by decide))]
        exact segFar_way1 (t := 0) a b c d e f w 100000 h1 h2 h3 (iBetween o1 hp) (iFracOf1 (Nat.le_refl _) (dot_self_nn _ _) (Int.le_trans (dot_bound o1 hp hp).2 (by decide)))
      · rw [if_neg z] at h3 hin ⊢
        by_cases z' : dot (a, b) (c, d) (c, d) ≤ dot (a, b) (c, d) (e, f)
        · rw [if_pos z'] at h3 hin ⊢
          rw [red_whole (dot_self_nn _ _) (Int.le_trans (dot_bound o2 hp hp).2 (by decide))]
          exact segFar_way3 (t := 0) a b c d e f w 100000 h1 h2 h3 (iBetween o2 hp) (iFracOf1 (Nat.le_refl _) (dot_self_nn _ _) (Int.le_trans (dot_bound o2 hp hp).2 (by decide)))
        · rw [if_neg z'] at h3 hin ⊢
          have hc := cross_bound o1 o2 hp
          have hq := sq_bound hc.1 hc.2
          have hq' := isq_nn (cross (a, b) (c, d) (e, f))
          exact segFar_way2 a b c d e f w 100000 h1 h2 h3 (iCross o1 o2 hp) (iBetween o1 o2) (by rw [w64 (x := cross (a, b) (c, d) (e, f) * cross (a, b) (c, d) (e, f)) (by omega) (by omega)]; exact iFracOf (Nat.le_refl _) hin)
end Go.Proofs.YtnponnkcfgjeoaaDoor.X
end
