/- FnApartFar: the law returns true for every input, and each input reads behind the call as before; part 6 of 6. No condition. Merged by program out of: FSpecL2Apart, FSpecSegApart, HSeg, HApart, FLawsFnApartFar, EvApart, EvDraw, PureFnApartFar, WSized, LawFnApartFar. -/
import Derived.Test.YtnponnkcfgjeoaaDoorMFnApartFar5
import Derived.RegionTactic
import Derived.ChangeAlike
import Derived.OwnWalk
import Derived.Outline
import Derived.Deep.RegionHeld3
import Derived.WalkLawsBesides
import Derived.LoopN
import Derived.SizedLaws
import Derived.ChangeSlices
import Derived.WalkKit
import Derived.ProofKit
import Derived.OpenShut
import Derived.ShutString
import Derived.ChangeOld
import Derived.Below
import Derived.SevenTiedAt
section
namespace Go.Proofs.YtnponnkcfgjeoaaDoor.X
open Go.RowKit Go.Proofs.YtnponnkcfgjeoaaDoorW.PrintWords Go.Proofs.YtnponnkcfgjeoaaDoorW.PrintLast Go.Proofs.YtnponnkcfgjeoaaDoorW.PrintMore
attribute [local go_sem] max2_int min2_int max_two min_two max_three min_three max_four min_four
set_option linter.unusedVariables false
set_option linter.unusedSimpArgs false
def spec_l2Apart.f (k : Nat) (a0_0 : Int) (a0_1 : Int) (a0_2 : Int) (a0_3 : Int) (a1_0 : Int) (a1_1 : Int) (a1_2 : Int) (a1_3 : Int) : Option (Int × Int) := (spec_l2Meet.f a0_0 a0_1 a0_2 a0_3 a1_0 a1_1 a1_2 a1_3).bind fun t438 => (if t438 = true then (some (0, 1)) else ((spec_l2Far.f k a0_0 a0_1 a0_2 a0_3 a1_0 a1_1).bind fun bt439 => ((spec_l2Far.f k a0_0 a0_1 a0_2 a0_3 a1_2 a1_3).bind fun bt441 => ((spec_l2Least.f bt439.1 bt439.2 bt441.1 bt441.2).bind fun bt443 => ((spec_l2Far.f k a1_0 a1_1 a1_2 a1_3 a0_0 a0_1).bind fun bt445 => ((spec_l2Far.f k a1_0 a1_1 a1_2 a1_3 a0_2 a0_3).bind fun bt447 => ((spec_l2Least.f bt445.1 bt445.2 bt447.1 bt447.2).bind fun bt449 => ((spec_l2Least.f bt443.1 bt443.2 bt449.1 bt449.2).bind fun bt451 => (some (bt451.1, bt451.2))))))))))
def spec_l2Apart.T3 : Bool × List (List Nat × List Nat) := (true, [([], []), ([], []), ([1], [1]), ([0, 2], [0, 2]), ([], []), ([], []), ([5], [5]), ([4, 6, 3], [4, 6]), ([3, 7, 7], [3, 7]), ([], []), ([], []), ([10], [10]), ([9, 11, 8], [9, 11]), ([], []), ([], []), ([14], [14]), ([13, 15, 12], [13, 15]), ([12, 16, 16], [12, 16]), ([8, 17, 17], [8, 17]), ([18, 18, 0, 1, 2, 3, 4, 5, 6, 7, 8, 9, 10, 11, 12, 13, 14, 15, 16, 17, 18], [18])])
def spec_l2Apart.B3 : List Nat := [0, 0, 2, 7, 0, 0, 32, 127, 255, 0, 0, 1024, 4095, 0, 0, 16384, 65535, 131071, 262143, 524287]
theorem spec_l2Apart.tab3 : rtab .any (opsOf Tryd.f61 3) = spec_l2Apart.T3 := by kernel_rfl
theorem spec_l2Apart.bits3 : waitsOk spec_l2Apart.T3.2 spec_l2Apart.B3 = true := by kernel_rfl
set_option maxHeartbeats 8000000 in
set_option maxRecDepth 100000 in
theorem spec_l2Apart.calls (k : Nat) (a0_0 : Int) (a0_1 : Int) (a0_2 : Int) (a0_3 : Int) (a1_0 : Int) (a1_1 : Int) (a1_2 : Int) (a1_3 : Int) (r1 : Int) (r2 : Int) (w : World) (h : spec_l2Apart.f k a0_0 a0_1 a0_2 a0_3 a1_0 a1_1 a1_2 a1_3 = some (r1, r2)) :
  Calls Tryd.prog 61 #[.agg #[.int .i64 a0_0, .int .i64 a0_1, .int .i64 a0_2, .int .i64 a0_3], .agg #[.int .i64 a1_0, .int .i64 a1_1, .int .i64 a1_2, .int .i64 a1_3]] w fun e w' => e = .returned (.agg #[.int .i64 r1, .int .i64 r2]) ∧ Below w.heap.size w w' := by
 have hu40 := Tryd.underlying40
 have hu25 := Tryd.underlying25
 have hu38 := Tryd.underlying38
 have HB := Aside0.mk (Below.refl w.heap.size w)
 have H : ((spec_l2Meet.f a0_0 a0_1 a0_2 a0_3 a1_0 a1_1 a1_2 a1_3).bind fun t438 => (if t438 = true then (some (0, 1)) else ((spec_l2Far.f k a0_0 a0_1 a0_2 a0_3 a1_0 a1_1).bind fun bt439 => ((spec_l2Far.f k a0_0 a0_1 a0_2 a0_3 a1_2 a1_3).bind fun bt441 => ((spec_l2Least.f bt439.1 bt439.2 bt441.1 bt441.2).bind fun bt443 => ((spec_l2Far.f k a1_0 a1_1 a1_2 a1_3 a0_0 a0_1).bind fun bt445 => ((spec_l2Far.f k a1_0 a1_1 a1_2 a1_3 a0_2 a0_3).bind fun bt447 => ((spec_l2Least.f bt445.1 bt445.2 bt447.1 bt447.2).bind fun bt449 => ((spec_l2Least.f bt443.1 bt443.2 bt449.1 bt449.2).bind fun bt451 => (some (bt451.1, bt451.2))))))))))) = some (r1, r2) := h
 clear h
 replace H := Option.bind_eq_some_iff.mp H
 obtain ⟨t438, A30, H⟩ := H
 replace H : (if t438 = true then (some (0, 1)) else ((spec_l2Far.f k a0_0 a0_1 a0_2 a0_3 a1_0 a1_1).bind fun bt439 => ((spec_l2Far.f k a0_0 a0_1 a0_2 a0_3 a1_2 a1_3).bind fun bt441 => ((spec_l2Least.f bt439.1 bt439.2 bt441.1 bt441.2).bind fun bt443 => ((spec_l2Far.f k a1_0 a1_1 a1_2 a1_3 a0_0 a0_1).bind fun bt445 => ((spec_l2Far.f k a1_0 a1_1 a1_2 a1_3 a0_2 a0_3).bind fun bt447 => ((spec_l2Least.f bt445.1 bt445.2 bt447.1 bt447.2).bind fun bt449 => ((spec_l2Least.f bt443.1 bt443.2 bt449.1 bt449.2).bind fun bt451 => (some (bt451.1, bt451.2)))))))))) = some (r1, r2) := H
 have A3 := Aside0.mk A30
 clear A30
 by_cases c4 : t438 = true
 ·
  subst c4
  have H1 : (some (0, 1)) = some (r1, r2) := by rw [if_pos rfl] at H; exact H
  clear H
  have H := H1
  clear H1
  simp only [Option.some.injEq, Prod.mk.injEq] at H
  obtain ⟨rfl, rfl⟩ := H
  go_enter Tryd.func61, Tryd.ntmps61
  go_wp2_with (first | ((with_reducible refine gate_dst (N := 2) rfl ?_); refine box_event ?hg (N := 2) ?hd (cs := #[.int .i64 a0_0, .int .i64 a0_1, .int .i64 a0_2, .int .i64 a0_3]) (t := 40) ?hr ?_; (case hd => rfl); (case hg => rfl); (case hr => first | (go_simp; done) | (go_simp; rfl)); intro gb435 hg w5 hbox hb; have n0_ := Aside0.mk (below_step hB_ hb); have n1_ := Aside0.mk (hbox); have n2_ := Aside0.mk ((by rw [hg]; exact (below_size hB_) : w.heap.size ≤ gb435)); have n3_ := Aside0.mk ((by rw [hg]; exact (below_size hB_) : w.heap.size ≤ gb435)); clear HB; have HB := n0_; have BK435 := n1_; have GW435 := n2_; have GE435 := n3_; clear n0_ n1_ n2_ n3_; clear hb hbox hg) | ((with_reducible refine gate_dst (N := 3) rfl ?_); refine box_event ?hg (N := 3) ?hd (cs := #[.int .i64 a1_0, .int .i64 a1_1, .int .i64 a1_2, .int .i64 a1_3]) (t := 40) ?hr ?_; (case hd => rfl); (case hg => rfl); (case hr => first | (go_simp; done) | (go_simp; rfl)); intro gb436 hg w6 hbox hb; have n0_ := Aside0.mk (ub_ (g := gb435) hb); have n1_ := Aside0.mk (below_step hB_ hb); have n2_ := Aside0.mk (hbox); have n3_ := Aside0.mk ((by rw [hg]; exact (below_size hB_) : w.heap.size ≤ gb436)); have n4_ := Aside0.mk ((by rw [hg]; exact (below_size hB_) : w.heap.size ≤ gb436)); have n5_ := Aside0.mk ((by rw [hg]; exact Nat.ne_of_lt (blk_lt (g := gb435) (o := .cells #[.int .i64 a0_0, .int .i64 a0_1, .int .i64 a0_2, .int .i64 a0_3] 40 (0, 0)) uq_) : gb435 ≠ gb436)); have n6_ := Aside0.mk ((by rw [hg]; exact Nat.ne_of_gt (blk_lt (g := gb435) (o := .cells #[.int .i64 a0_0, .int .i64 a0_1, .int .i64 a0_2, .int .i64 a0_3] 40 (0, 0)) uq_) : gb436 ≠ gb435)); clear BK435; clear HB; have BK435 := n0_; have HB := n1_; have BK436 := n2_; have GW436 := n3_; have GE436 := n4_; have NB435_436 := n5_; have NB436_435 := n6_; clear n0_ n1_ n2_ n3_ n4_ n5_ n6_; clear hb hbox hg) | ((with_reducible refine gate_dst (N := 4) rfl ?_); refine box_event ?hg (N := 4) ?hd (cs := #[.int .i64 0, .int .i64 0]) (t := 25) ?hr ?_; (case hd => rfl); (case hg => rfl); (case hr => first | (go_simp; done) | (go_simp; rfl)); intro gb437 hg w7 hbox hb; have n0_ := Aside0.mk (ub_ (g := gb435) hb); have n1_ := Aside0.mk (ub_ (g := gb436) hb); have n2_ := Aside0.mk (below_step hB_ hb); have n3_ := Aside0.mk (hbox); have n4_ := Aside0.mk ((by rw [hg]; exact (below_size hB_) : w.heap.size ≤ gb437)); have n5_ := Aside0.mk ((by rw [hg]; exact (below_size hB_) : w.heap.size ≤ gb437)); have n6_ := Aside0.mk ((by rw [hg]; exact Nat.ne_of_lt (blk_lt (g := gb435) (o := .cells #[.int .i64 a0_0, .int .i64 a0_1, .int .i64 a0_2, .int .i64 a0_3] 40 (0, 0)) uq_) : gb435 ≠ gb437)); have n7_ := Aside0.mk ((by rw [hg]; exact Nat.ne_of_gt (blk_lt (g := gb435) (o := .cells #[.int .i64 a0_0, .int .i64 a0_1, .int .i64 a0_2, .int .i64 a0_3] 40 (0, 0)) uq_) : gb437 ≠ gb435)); have n8_ := Aside0.mk ((by rw [hg]; exact Nat.ne_of_lt (blk_lt (g := gb436) (o := .cells #[.int .i64 a1_0, .int .i64 a1_1, .int .i64 a1_2, .int .i64 a1_3] 40 (0, 0)) uq_) : gb436 ≠ gb437)); have n9_ := Aside0.mk ((by rw [hg]; exact Nat.ne_of_gt (blk_lt (g := gb436) (o := .cells #[.int .i64 a1_0, .int .i64 a1_1, .int .i64 a1_2, .int .i64 a1_3] 40 (0, 0)) uq_) : gb437 ≠ gb436)); clear BK435; clear BK436; clear HB; have BK435 := n0_; have BK436 := n1_; have HB := n2_; have BK437 := n3_; have GW437 := n4_; have GE437 := n5_; have NB435_437 := n6_; have NB437_435 := n7_; have NB436_437 := n8_; have NB437_436 := n9_; clear n0_ n1_ n2_ n3_ n4_ n5_ n6_ n7_ n8_ n9_; clear hb hbox hg; have hnb8 := NB435_436.out; have hnc8 := NB436_435.out; have hnb9 := NB435_437.out; have hnc9 := NB437_435.out; have hcz10_0 : w7.cell? ⟨gb435, 0, none⟩ = some (.int .i64 a0_0) := bc_; have hcz10_1 : w7.cell? ⟨gb435, 1, none⟩ = some (.int .i64 a0_1) := bc_; have hcz10_2 : w7.cell? ⟨gb435, 2, none⟩ = some (.int .i64 a0_2) := bc_; have hcz10_3 : w7.cell? ⟨gb435, 3, none⟩ = some (.int .i64 a0_3) := bc_; have hfz10_0 := blk_frozen BK435.out 0; have hfz10_1 := blk_frozen BK435.out 1; have hfz10_2 := blk_frozen BK435.out 2; have hfz10_3 := blk_frozen BK435.out 3; have hnb11 := NB436_437.out; have hnc11 := NB437_436.out; have hcz12_0 : w7.cell? ⟨gb436, 0, none⟩ = some (.int .i64 a1_0) := bc_; have hcz12_1 : w7.cell? ⟨gb436, 1, none⟩ = some (.int .i64 a1_1) := bc_; have hcz12_2 : w7.cell? ⟨gb436, 2, none⟩ = some (.int .i64 a1_2) := bc_; have hcz12_3 : w7.cell? ⟨gb436, 3, none⟩ = some (.int .i64 a1_3) := bc_; have hfz12_0 := blk_frozen BK436.out 0; have hfz12_1 := blk_frozen BK436.out 1; have hfz12_2 := blk_frozen BK436.out 2; have hfz12_3 := blk_frozen BK436.out 3) | ((with_reducible refine gate_callee (f := 72) rfl ?_); refine goesL_ (some 7) rfl rfl Tryd.func72 (by kernel_rfl) rfl #[.agg #[.int .i64 a0_0, .int .i64 a0_1, .int .i64 a0_2, .int .i64 a0_3], .agg #[.int .i64 a1_0, .int .i64 a1_1, .int .i64 a1_2, .int .i64 a1_3]] rfl ma_ ?_; (with_reducible refine (spec_l2Meet.calls a0_0 a0_1 a0_2 a0_3 a1_0 a1_1 a1_2 a1_3 true _ A3.out).mono ?_); rintro e w13 ⟨rfl, hb⟩; refine ⟨_, rfl, ?_⟩; have n0_ := Aside0.mk (ub_ (g := gb435) hb); have n1_ := Aside0.mk (ub_ (g := gb436) hb); have n2_ := Aside0.mk (ub_ (g := gb437) hb); have n3_ := Aside0.mk (below_step hB_ hb); clear BK435; clear BK436; clear BK437; clear HB; have BK435 := n0_; have BK436 := n1_; have BK437 := n2_; have HB := n3_; clear n0_ n1_ n2_ n3_; (try clear hb); (try clear hb2); (try clear hk); (try clear hi); have hcz14_0 : w13.cell? ⟨gb437, 0, none⟩ = some (.int .i64 0) := bc_; have hcz14_1 : w13.cell? ⟨gb437, 1, none⟩ = some (.int .i64 0) := bc_; have hfz14_0 := blk_frozen BK437.out 0; have hfz14_1 := blk_frozen BK437.out 1))
  refine bodyPost_ret (results_cell_row rfl _ _ gb437 25 #[.int .i64 0, .int .i64 1] (0, 0) _ rfl (by (with_reducible repeat (first | refine blk_drewN ?_ _ | refine blk_drew ?_ | refine blk_alloc ?_ _)); refine blk_put (cs := #[.int .i64 0, .int .i64 0]) ?_ 1 _ rfl; (with_reducible repeat (first | refine blk_drewN ?_ _ | refine blk_drew ?_ | refine blk_alloc ?_ _)); refine blk_put (cs := #[.int .i64 0, .int .i64 0]) ?_ 0 _ rfl; (with_reducible repeat (first | refine blk_drewN ?_ _ | refine blk_drew ?_ | refine blk_alloc ?_ _)); exact BK437.out) Tryd.underlying25 rfl (by kernel_rfl)) rfl ?_
  exact ⟨by first | rfl | (simp [errW_none, errW_some] <;> rfl) | (simp [*, errW_none, errW_some] <;> rfl), hB_⟩
 ·
  replace c4 := Bool.eq_false_iff.mpr c4
  subst c4
  have H1 : ((spec_l2Far.f k a0_0 a0_1 a0_2 a0_3 a1_0 a1_1).bind fun bt439 => ((spec_l2Far.f k a0_0 a0_1 a0_2 a0_3 a1_2 a1_3).bind fun bt441 => ((spec_l2Least.f bt439.1 bt439.2 bt441.1 bt441.2).bind fun bt443 => ((spec_l2Far.f k a1_0 a1_1 a1_2 a1_3 a0_0 a0_1).bind fun bt445 => ((spec_l2Far.f k a1_0 a1_1 a1_2 a1_3 a0_2 a0_3).bind fun bt447 => ((spec_l2Least.f bt445.1 bt445.2 bt447.1 bt447.2).bind fun bt449 => ((spec_l2Least.f bt443.1 bt443.2 bt449.1 bt449.2).bind fun bt451 => (some (bt451.1, bt451.2))))))))) = some (r1, r2) := by rw [if_neg (show ¬ (false = true) by decide)] at H; exact H
  clear H
  have H := H1
  clear H1
  replace H := Option.bind_eq_some_iff.mp H
  obtain ⟨⟨t439, t440⟩, A150, H⟩ := H
  replace H : ((spec_l2Far.f k a0_0 a0_1 a0_2 a0_3 a1_2 a1_3).bind fun bt441 => ((spec_l2Least.f t439 t440 bt441.1 bt441.2).bind fun bt443 => ((spec_l2Far.f k a1_0 a1_1 a1_2 a1_3 a0_0 a0_1).bind fun bt445 => ((spec_l2Far.f k a1_0 a1_1 a1_2 a1_3 a0_2 a0_3).bind fun bt447 => ((spec_l2Least.f bt445.1 bt445.2 bt447.1 bt447.2).bind fun bt449 => ((spec_l2Least.f bt443.1 bt443.2 bt449.1 bt449.2).bind fun bt451 => (some (bt451.1, bt451.2)))))))) = some (r1, r2) := H
  have A15 := Aside0.mk A150
  clear A150
  replace H := Option.bind_eq_some_iff.mp H
  obtain ⟨⟨t441, t442⟩, A160, H⟩ := H
  replace H : ((spec_l2Least.f t439 t440 t441 t442).bind fun bt443 => ((spec_l2Far.f k a1_0 a1_1 a1_2 a1_3 a0_0 a0_1).bind fun bt445 => ((spec_l2Far.f k a1_0 a1_1 a1_2 a1_3 a0_2 a0_3).bind fun bt447 => ((spec_l2Least.f bt445.1 bt445.2 bt447.1 bt447.2).bind fun bt449 => ((spec_l2Least.f bt443.1 bt443.2 bt449.1 bt449.2).bind fun bt451 => (some (bt451.1, bt451.2))))))) = some (r1, r2) := H
  have A16 := Aside0.mk A160
  clear A160
  replace H := Option.bind_eq_some_iff.mp H
  obtain ⟨⟨t443, t444⟩, A170, H⟩ := H
  replace H : ((spec_l2Far.f k a1_0 a1_1 a1_2 a1_3 a0_0 a0_1).bind fun bt445 => ((spec_l2Far.f k a1_0 a1_1 a1_2 a1_3 a0_2 a0_3).bind fun bt447 => ((spec_l2Least.f bt445.1 bt445.2 bt447.1 bt447.2).bind fun bt449 => ((spec_l2Least.f t443 t444 bt449.1 bt449.2).bind fun bt451 => (some (bt451.1, bt451.2)))))) = some (r1, r2) := H
  have A17 := Aside0.mk A170
  clear A170
  replace H := Option.bind_eq_some_iff.mp H
  obtain ⟨⟨t445, t446⟩, A180, H⟩ := H
  replace H : ((spec_l2Far.f k a1_0 a1_1 a1_2 a1_3 a0_2 a0_3).bind fun bt447 => ((spec_l2Least.f t445 t446 bt447.1 bt447.2).bind fun bt449 => ((spec_l2Least.f t443 t444 bt449.1 bt449.2).bind fun bt451 => (some (bt451.1, bt451.2))))) = some (r1, r2) := H
  have A18 := Aside0.mk A180
  clear A180
  replace H := Option.bind_eq_some_iff.mp H
  obtain ⟨⟨t447, t448⟩, A190, H⟩ := H
  replace H : ((spec_l2Least.f t445 t446 t447 t448).bind fun bt449 => ((spec_l2Least.f t443 t444 bt449.1 bt449.2).bind fun bt451 => (some (bt451.1, bt451.2)))) = some (r1, r2) := H
  have A19 := Aside0.mk A190
  clear A190
  replace H := Option.bind_eq_some_iff.mp H
  obtain ⟨⟨t449, t450⟩, A200, H⟩ := H
  replace H : ((spec_l2Least.f t443 t444 t449 t450).bind fun bt451 => (some (bt451.1, bt451.2))) = some (r1, r2) := H
  have A20 := Aside0.mk A200
  clear A200
  replace H := Option.bind_eq_some_iff.mp H
  obtain ⟨⟨t451, t452⟩, A210, H⟩ := H
  replace H : (some (t451, t452)) = some (r1, r2) := H
  have A21 := Aside0.mk A210
  clear A210
  simp only [Option.some.injEq, Prod.mk.injEq] at H
  obtain ⟨rfl, rfl⟩ := H
  go_enter Tryd.func61, Tryd.ntmps61
  try go_wp2_with (first | ((with_reducible refine gate_dst (N := 2) rfl ?_); refine box_event ?hg (N := 2) ?hd (cs := #[.int .i64 a0_0, .int .i64 a0_1, .int .i64 a0_2, .int .i64 a0_3]) (t := 40) ?hr ?_; (case hd => rfl); (case hg => rfl); (case hr => first | (go_simp; done) | (go_simp; rfl)); intro gb435 hg w22 hbox hb; have n0_ := Aside0.mk (below_step hB_ hb); have n1_ := Aside0.mk (hbox); have n2_ := Aside0.mk ((by rw [hg]; exact (below_size hB_) : w.heap.size ≤ gb435)); have n3_ := Aside0.mk ((by rw [hg]; exact (below_size hB_) : w.heap.size ≤ gb435)); clear HB; have HB := n0_; have BK435 := n1_; have GW435 := n2_; have GE435 := n3_; clear n0_ n1_ n2_ n3_; clear hb hbox hg) | ((with_reducible refine gate_dst (N := 3) rfl ?_); refine box_event ?hg (N := 3) ?hd (cs := #[.int .i64 a1_0, .int .i64 a1_1, .int .i64 a1_2, .int .i64 a1_3]) (t := 40) ?hr ?_; (case hd => rfl); (case hg => rfl); (case hr => first | (go_simp; done) | (go_simp; rfl)); intro gb436 hg w23 hbox hb; have n0_ := Aside0.mk (ub_ (g := gb435) hb); have n1_ := Aside0.mk (below_step hB_ hb); have n2_ := Aside0.mk (hbox); have n3_ := Aside0.mk ((by rw [hg]; exact (below_size hB_) : w.heap.size ≤ gb436)); have n4_ := Aside0.mk ((by rw [hg]; exact (below_size hB_) : w.heap.size ≤ gb436)); have n5_ := Aside0.mk ((by rw [hg]; exact Nat.ne_of_lt (blk_lt (g := gb435) (o := .cells #[.int .i64 a0_0, .int .i64 a0_1, .int .i64 a0_2, .int .i64 a0_3] 40 (0, 0)) uq_) : gb435 ≠ gb436)); have n6_ := Aside0.mk ((by rw [hg]; exact Nat.ne_of_gt (blk_lt (g := gb435) (o := .cells #[.int .i64 a0_0, .int .i64 a0_1, .int .i64 a0_2, .int .i64 a0_3] 40 (0, 0)) uq_) : gb436 ≠ gb435)); clear BK435; clear HB; have BK435 := n0_; have HB := n1_; have BK436 := n2_; have GW436 := n3_; have GE436 := n4_; have NB435_436 := n5_; have NB436_435 := n6_; clear n0_ n1_ n2_ n3_ n4_ n5_ n6_; clear hb hbox hg) | ((with_reducible refine gate_dst (N := 4) rfl ?_); refine box_event ?hg (N := 4) ?hd (cs := #[.int .i64 0, .int .i64 0]) (t := 25) ?hr ?_; (case hd => rfl); (case hg => rfl); (case hr => first | (go_simp; done) | (go_simp; rfl)); intro gb437 hg w24 hbox hb; have n0_ := Aside0.mk (ub_ (g := gb435) hb); have n1_ := Aside0.mk (ub_ (g := gb436) hb); have n2_ := Aside0.mk (below_step hB_ hb); have n3_ := Aside0.mk (hbox); have n4_ := Aside0.mk ((by rw [hg]; exact (below_size hB_) : w.heap.size ≤ gb437)); have n5_ := Aside0.mk ((by rw [hg]; exact (below_size hB_) : w.heap.size ≤ gb437)); have n6_ := Aside0.mk ((by rw [hg]; exact Nat.ne_of_lt (blk_lt (g := gb435) (o := .cells #[.int .i64 a0_0, .int .i64 a0_1, .int .i64 a0_2, .int .i64 a0_3] 40 (0, 0)) uq_) : gb435 ≠ gb437)); have n7_ := Aside0.mk ((by rw [hg]; exact Nat.ne_of_gt (blk_lt (g := gb435) (o := .cells #[.int .i64 a0_0, .int .i64 a0_1, .int .i64 a0_2, .int .i64 a0_3] 40 (0, 0)) uq_) : gb437 ≠ gb435)); have n8_ := Aside0.mk ((by rw [hg]; exact Nat.ne_of_lt (blk_lt (g := gb436) (o := .cells #[.int .i64 a1_0, .int .i64 a1_1, .int .i64 a1_2, .int .i64 a1_3] 40 (0, 0)) uq_) : gb436 ≠ gb437)); have n9_ := Aside0.mk ((by rw [hg]; exact Nat.ne_of_gt (blk_lt (g := gb436) (o := .cells #[.int .i64 a1_0, .int .i64 a1_1, .int .i64 a1_2, .int .i64 a1_3] 40 (0, 0)) uq_) : gb437 ≠ gb436)); clear BK435; clear BK436; clear HB; have BK435 := n0_; have BK436 := n1_; have HB := n2_; have BK437 := n3_; have GW437 := n4_; have GE437 := n5_; have NB435_437 := n6_; have NB437_435 := n7_; have NB436_437 := n8_; have NB437_436 := n9_; clear n0_ n1_ n2_ n3_ n4_ n5_ n6_ n7_ n8_ n9_; clear hb hbox hg; have hnb25 := NB435_436.out; have hnc25 := NB436_435.out; have hnb26 := NB435_437.out; have hnc26 := NB437_435.out; have hcz27_0 : w24.cell? ⟨gb435, 0, none⟩ = some (.int .i64 a0_0) := bc_; have hcz27_1 : w24.cell? ⟨gb435, 1, none⟩ = some (.int .i64 a0_1) := bc_; have hcz27_2 : w24.cell? ⟨gb435, 2, none⟩ = some (.int .i64 a0_2) := bc_; have hcz27_3 : w24.cell? ⟨gb435, 3, none⟩ = some (.int .i64 a0_3) := bc_; have hfz27_0 := blk_frozen BK435.out 0; have hfz27_1 := blk_frozen BK435.out 1; have hfz27_2 := blk_frozen BK435.out 2; have hfz27_3 := blk_frozen BK435.out 3; have hnb28 := NB436_437.out; have hnc28 := NB437_436.out; have hcz29_0 : w24.cell? ⟨gb436, 0, none⟩ = some (.int .i64 a1_0) := bc_; have hcz29_1 : w24.cell? ⟨gb436, 1, none⟩ = some (.int .i64 a1_1) := bc_; have hcz29_2 : w24.cell? ⟨gb436, 2, none⟩ = some (.int .i64 a1_2) := bc_; have hcz29_3 : w24.cell? ⟨gb436, 3, none⟩ = some (.int .i64 a1_3) := bc_; have hfz29_0 := blk_frozen BK436.out 0; have hfz29_1 := blk_frozen BK436.out 1; have hfz29_2 := blk_frozen BK436.out 2; have hfz29_3 := blk_frozen BK436.out 3) | ((with_reducible refine gate_callee (f := 72) rfl ?_); refine goesL_ (some 7) rfl rfl Tryd.func72 (by kernel_rfl) rfl #[.agg #[.int .i64 a0_0, .int .i64 a0_1, .int .i64 a0_2, .int .i64 a0_3], .agg #[.int .i64 a1_0, .int .i64 a1_1, .int .i64 a1_2, .int .i64 a1_3]] rfl ma_ ?_; (with_reducible refine (spec_l2Meet.calls a0_0 a0_1 a0_2 a0_3 a1_0 a1_1 a1_2 a1_3 false _ A3.out).mono ?_); rintro e w30 ⟨rfl, hb⟩; refine ⟨_, rfl, ?_⟩; have n0_ := Aside0.mk (ub_ (g := gb435) hb); have n1_ := Aside0.mk (ub_ (g := gb436) hb); have n2_ := Aside0.mk (ub_ (g := gb437) hb); have n3_ := Aside0.mk (below_step hB_ hb); clear BK435; clear BK436; clear BK437; clear HB; have BK435 := n0_; have BK436 := n1_; have BK437 := n2_; have HB := n3_; clear n0_ n1_ n2_ n3_; (try clear hb); (try clear hb2); (try clear hk); (try clear hi)))
  have n0_ := Aside0.mk (blk_drew BK435.out)
  have n1_ := Aside0.mk (blk_drew BK436.out)
  have n2_ := Aside0.mk (blk_drew BK437.out)
  have n3_ := Aside0.mk (below_drew1 HB.out)
  clear BK435 BK436 BK437 HB
  have BK435 := n0_
  have BK436 := n1_
  have BK437 := n2_
  have HB := n3_
  clear n0_ n1_ n2_ n3_
  refine start_ (n := 20) (S := fun w' => w'.cell? ⟨gb435, 0, none⟩ = some (.int .i64 a0_0) ∧ w'.cell? ⟨gb435, 1, none⟩ = some (.int .i64 a0_1) ∧ w'.cell? ⟨gb435, 2, none⟩ = some (.int .i64 a0_2) ∧ w'.cell? ⟨gb435, 3, none⟩ = some (.int .i64 a0_3) ∧ w'.cell? ⟨gb436, 0, none⟩ = some (.int .i64 a1_0) ∧ w'.cell? ⟨gb436, 1, none⟩ = some (.int .i64 a1_1) ∧ w'.cell? ⟨gb436, 2, none⟩ = some (.int .i64 a1_2) ∧ w'.cell? ⟨gb436, 3, none⟩ = some (.int .i64 a1_3)) (ds := []) #[false, false, false, false, false, false, false, false, false, false, false, false, false, false, false, false, false, false, false, false] (by kernel_rfl) rfl rfl ⟨bc_, bc_, bc_, bc_, bc_, bc_, bc_, bc_⟩ (fun hHeld => ?_); refine with_tabW spec_l2Apart.tab3 spec_l2Apart.bits3 (fun HT_ HW_ => ?_)
  generalize w30.drew = w31 at BK435 BK436 BK437 HB hHeld ⊢
  refine pure_ (i := 1) (N := some 10) (v := ?_) (a' := ?_) (bm 20 2) rfl rfl (any_of HT_.out (by kernel_rfl)) (fun _ _ _ h => h) (Or.inl ⟨by rfl, ?_⟩) ?_ ?_
  rotate_left
  ·
   intro w'
   go_simp
   with_reducible rfl
  rotate_left
  ·
   simp only [Act.put, List.setIfInBounds_toArray, List.set_cons_zero, List.set_cons_succ, i64_w, i32_w]
   rfl
  refine pure_ (i := 5) (N := some 14) (v := ?_) (a' := ?_) (bm 20 34) rfl rfl (any_of HT_.out (by kernel_rfl)) (fun _ _ _ h => h) (Or.inl ⟨by rfl, ?_⟩) ?_ ?_
  rotate_left
  ·
   intro w'
   go_simp
   with_reducible rfl
  rotate_left
  ·
   simp only [Act.put, List.setIfInBounds_toArray, List.set_cons_zero, List.set_cons_succ, i64_w, i32_w]
   rfl
  refine pure_ (i := 10) (N := some 19) (v := ?_) (a' := ?_) (bm 20 1058) rfl rfl (any_of HT_.out (by kernel_rfl)) (fun _ _ _ h => h) (Or.inl ⟨by rfl, ?_⟩) ?_ ?_
  rotate_left
  ·
   intro w'
   go_simp
   with_reducible rfl
  rotate_left
  ·
   simp only [Act.put, List.setIfInBounds_toArray, List.set_cons_zero, List.set_cons_succ, i64_w, i32_w]
   rfl
  refine pure_ (i := 14) (N := some 23) (v := ?_) (a' := ?_) (bm 20 17442) rfl rfl (any_of HT_.out (by kernel_rfl)) (fun _ _ _ h => h) (Or.inl ⟨by rfl, ?_⟩) ?_ ?_
  rotate_left
  ·
   intro w'
   go_simp
   with_reducible rfl
  rotate_left
  ·
   simp only [Act.put, List.setIfInBounds_toArray, List.set_cons_zero, List.set_cons_succ, i64_w, i32_w]
   rfl
  refine take_ (i := 0) (N := some 9) (v := ?_) (a' := ?_) (bm 20 17443) rfl rfl (take_ofW HT_.out HW_.out (by kernel_rfl)) (fun _ _ _ h => h) (Or.inl ⟨by rfl, ?_⟩) hHeld ?_ ?_
  rotate_left
  ·
   rintro w' ⟨s0, s1, s2, s3, s4, s5, s6, s7⟩
   go_simp
   with_reducible rfl
  rotate_left
  ·
   simp only [Act.put, List.setIfInBounds_toArray, List.set_cons_zero, List.set_cons_succ, i64_w, i32_w]
   rfl
  refine take_ (i := 2) (N := some 11) (v := ?_) (a' := ?_) (bm 20 17447) rfl rfl (take_ofW HT_.out HW_.out (by kernel_rfl)) (fun _ _ _ h => h) (Or.inl ⟨by rfl, ?_⟩) hHeld ?_ ?_
  rotate_left
  ·
   rintro w' ⟨s0, s1, s2, s3, s4, s5, s6, s7⟩
   go_simp
   with_reducible rfl
  rotate_left
  ·
   simp only [Act.put, List.setIfInBounds_toArray, List.set_cons_zero, List.set_cons_succ, i64_w, i32_w]
   rfl
  refine take_ (i := 4) (N := some 13) (v := ?_) (a' := ?_) (bm 20 17463) rfl rfl (take_ofW HT_.out HW_.out (by kernel_rfl)) (fun _ _ _ h => h) (Or.inl ⟨by rfl, ?_⟩) hHeld ?_ ?_
  rotate_left
  ·
   rintro w' ⟨s0, s1, s2, s3, s4, s5, s6, s7⟩
   go_simp
   with_reducible rfl
  rotate_left
  ·
   simp only [Act.put, List.setIfInBounds_toArray, List.set_cons_zero, List.set_cons_succ, i64_w, i32_w]
   rfl
  refine take_ (i := 6) (N := some 15) (v := ?_) (a' := ?_) (bm 20 17527) rfl rfl (take_ofW HT_.out HW_.out (by kernel_rfl)) (fun _ _ _ h => h) (Or.inl ⟨by rfl, ?_⟩) hHeld ?_ ?_
  rotate_left
  ·
   rintro w' ⟨s0, s1, s2, s3, s4, s5, s6, s7⟩
   go_simp
   with_reducible rfl
  rotate_left
  ·
   simp only [Act.put, List.setIfInBounds_toArray, List.set_cons_zero, List.set_cons_succ, i64_w, i32_w]
   rfl
  refine take_ (i := 9) (N := some 18) (v := ?_) (a' := ?_) (bm 20 18039) rfl rfl (take_ofW HT_.out HW_.out (by kernel_rfl)) (fun _ _ _ h => h) (Or.inl ⟨by rfl, ?_⟩) hHeld ?_ ?_
  rotate_left
  ·
   rintro w' ⟨s0, s1, s2, s3, s4, s5, s6, s7⟩
   go_simp
   with_reducible rfl
  rotate_left
  ·
   simp only [Act.put, List.setIfInBounds_toArray, List.set_cons_zero, List.set_cons_succ, i64_w, i32_w]
   rfl
  refine take_ (i := 11) (N := some 20) (v := ?_) (a' := ?_) (bm 20 20087) rfl rfl (take_ofW HT_.out HW_.out (by kernel_rfl)) (fun _ _ _ h => h) (Or.inl ⟨by rfl, ?_⟩) hHeld ?_ ?_
  rotate_left
  ·
   rintro w' ⟨s0, s1, s2, s3, s4, s5, s6, s7⟩
   go_simp
   with_reducible rfl
  rotate_left
  ·
   simp only [Act.put, List.setIfInBounds_toArray, List.set_cons_zero, List.set_cons_succ, i64_w, i32_w]
   rfl
  refine take_ (i := 13) (N := some 22) (v := ?_) (a' := ?_) (bm 20 28279) rfl rfl (take_ofW HT_.out HW_.out (by kernel_rfl)) (fun _ _ _ h => h) (Or.inl ⟨by rfl, ?_⟩) hHeld ?_ ?_
  rotate_left
  ·
   rintro w' ⟨s0, s1, s2, s3, s4, s5, s6, s7⟩
   go_simp
   with_reducible rfl
  rotate_left
  ·
   simp only [Act.put, List.setIfInBounds_toArray, List.set_cons_zero, List.set_cons_succ, i64_w, i32_w]
   rfl
  refine take_ (i := 15) (N := some 24) (v := ?_) (a' := ?_) (bm 20 61047) rfl rfl (take_ofW HT_.out HW_.out (by kernel_rfl)) (fun _ _ _ h => h) (Or.inl ⟨by rfl, ?_⟩) hHeld ?_ ?_
  rotate_left
  ·
   rintro w' ⟨s0, s1, s2, s3, s4, s5, s6, s7⟩
   go_simp
   with_reducible rfl
  rotate_left
  ·
   simp only [Act.put, List.setIfInBounds_toArray, List.set_cons_zero, List.set_cons_succ, i64_w, i32_w]
   rfl
  refine one_ (i := 3) (N := some 12) (bm 20 61055) rfl rfl (one_of HT_.out (by kernel_rfl)) (by decide) (fun K hK => ?_)
  refine goes_ Tryd.func59 (by kernel_rfl) rfl #[.agg #[.int .i64 a0_0, .int .i64 a0_1, .int .i64 a0_2, .int .i64 a0_3], .agg #[.int .i64 a1_0, .int .i64 a1_1]] (by rfl) rfl rfl ma_ ?_
  with_reducible refine (spec_l2Far.calls k a0_0 a0_1 a0_2 a0_3 a1_0 a1_1 t439 t440 _ A15.out).mono ?_
  rintro e w32 ⟨rfl, hb⟩
  refine ⟨_, rfl, ?_⟩
  have n0_ := Aside0.mk (ub_ (g := gb435) hb)
  have n1_ := Aside0.mk (ub_ (g := gb436) hb)
  have n2_ := Aside0.mk (ub_ (g := gb437) hb)
  have n3_ := Aside0.mk (below_step hB_ hb)
  clear BK435 BK436 BK437 HB
  have BK435 := n0_
  have BK436 := n1_
  have BK437 := n2_
  have HB := n3_
  clear n0_ n1_ n2_ n3_
  (try clear hb)
  (try clear hb2)
  (try clear hk)
  (try clear hi)
  refine hK.out _ _ ⟨bc_, bc_, bc_, bc_, bc_, bc_, bc_, bc_⟩ (fun hHeld => ?_)
  clear hK K
  refine norm_ (a' := ?_) ?_ ?_
  rotate_left
  ·
   show Act.put _ (some 12) _ = _
   simp only [Act.put, List.setIfInBounds_toArray, List.set_cons_zero, List.set_cons_succ, i64_w, i32_w]
   rfl
  refine one_ (i := 7) (N := some 16) (bm 20 61183) rfl rfl (one_of HT_.out (by kernel_rfl)) (by decide) (fun K hK => ?_)
  refine goes_ Tryd.func59 (by kernel_rfl) rfl #[.agg #[.int .i64 a0_0, .int .i64 a0_1, .int .i64 a0_2, .int .i64 a0_3], .agg #[.int .i64 a1_2, .int .i64 a1_3]] (by rfl) rfl rfl ma_ ?_
  with_reducible refine (spec_l2Far.calls k a0_0 a0_1 a0_2 a0_3 a1_2 a1_3 t441 t442 _ A16.out).mono ?_
  rintro e w33 ⟨rfl, hb⟩
  refine ⟨_, rfl, ?_⟩
  have n0_ := Aside0.mk (ub_ (g := gb435) hb)
  have n1_ := Aside0.mk (ub_ (g := gb436) hb)
  have n2_ := Aside0.mk (ub_ (g := gb437) hb)
  have n3_ := Aside0.mk (below_step hB_ hb)
  clear BK435 BK436 BK437 HB
  have BK435 := n0_
  have BK436 := n1_
  have BK437 := n2_
  have HB := n3_
  clear n0_ n1_ n2_ n3_
  (try clear hb)
  (try clear hb2)
  (try clear hk)
  (try clear hi)
  refine hK.out _ _ ⟨bc_, bc_, bc_, bc_, bc_, bc_, bc_, bc_⟩ (fun hHeld => ?_)
  clear hK K
  refine norm_ (a' := ?_) ?_ ?_
  rotate_left
  ·
   show Act.put _ (some 16) _ = _
   simp only [Act.put, List.setIfInBounds_toArray, List.set_cons_zero, List.set_cons_succ, i64_w, i32_w]
   rfl
  refine one_ (i := 8) (N := some 17) (bm 20 61439) rfl rfl (one_of HT_.out (by kernel_rfl)) (by decide) (fun K hK => ?_)
  refine goes_ Tryd.func73 (by kernel_rfl) rfl #[.agg #[.int .i64 t439, .int .i64 t440], .agg #[.int .i64 t441, .int .i64 t442]] (by rfl) rfl rfl ma_ ?_
  with_reducible refine (spec_l2Least.calls t439 t440 t441 t442 t443 t444 _ A17.out).mono ?_
  rintro e w34 ⟨rfl, hb⟩
  refine ⟨_, rfl, ?_⟩
  have n0_ := Aside0.mk (ub_ (g := gb435) hb)
  have n1_ := Aside0.mk (ub_ (g := gb436) hb)
  have n2_ := Aside0.mk (ub_ (g := gb437) hb)
  have n3_ := Aside0.mk (below_step hB_ hb)
  clear BK435 BK436 BK437 HB
  have BK435 := n0_
  have BK436 := n1_
  have BK437 := n2_
  have HB := n3_
  clear n0_ n1_ n2_ n3_
  (try clear hb)
  (try clear hb2)
  (try clear hk)
  (try clear hi)
  refine hK.out _ _ ⟨bc_, bc_, bc_, bc_, bc_, bc_, bc_, bc_⟩ (fun hHeld => ?_)
  clear hK K
  refine norm_ (a' := ?_) ?_ ?_
  rotate_left
  ·
   show Act.put _ (some 17) _ = _
   simp only [Act.put, List.setIfInBounds_toArray, List.set_cons_zero, List.set_cons_succ, i64_w, i32_w]
   rfl
  refine one_ (i := 12) (N := some 21) (bm 20 65535) rfl rfl (one_of HT_.out (by kernel_rfl)) (by decide) (fun K hK => ?_)
  refine goes_ Tryd.func59 (by kernel_rfl) rfl #[.agg #[.int .i64 a1_0, .int .i64 a1_1, .int .i64 a1_2, .int .i64 a1_3], .agg #[.int .i64 a0_0, .int .i64 a0_1]] (by rfl) rfl rfl ma_ ?_
  with_reducible refine (spec_l2Far.calls k a1_0 a1_1 a1_2 a1_3 a0_0 a0_1 t445 t446 _ A18.out).mono ?_
  rintro e w35 ⟨rfl, hb⟩
  refine ⟨_, rfl, ?_⟩
  have n0_ := Aside0.mk (ub_ (g := gb435) hb)
  have n1_ := Aside0.mk (ub_ (g := gb436) hb)
  have n2_ := Aside0.mk (ub_ (g := gb437) hb)
  have n3_ := Aside0.mk (below_step hB_ hb)
  clear BK435 BK436 BK437 HB
  have BK435 := n0_
  have BK436 := n1_
  have BK437 := n2_
  have HB := n3_
  clear n0_ n1_ n2_ n3_
  (try clear hb)
  (try clear hb2)
  (try clear hk)
  (try clear hi)
  refine hK.out _ _ ⟨bc_, bc_, bc_, bc_, bc_, bc_, bc_, bc_⟩ (fun hHeld => ?_)
  clear hK K
  refine norm_ (a' := ?_) ?_ ?_
  rotate_left
  ·
   show Act.put _ (some 21) _ = _
   simp only [Act.put, List.setIfInBounds_toArray, List.set_cons_zero, List.set_cons_succ, i64_w, i32_w]
   rfl
  refine one_ (i := 16) (N := some 25) (bm 20 131071) rfl rfl (one_of HT_.out (by kernel_rfl)) (by decide) (fun K hK => ?_)
  refine goes_ Tryd.func59 (by kernel_rfl) rfl #[.agg #[.int .i64 a1_0, .int .i64 a1_1, .int .i64 a1_2, .int .i64 a1_3], .agg #[.int .i64 a0_2, .int .i64 a0_3]] (by rfl) rfl rfl ma_ ?_
  with_reducible refine (spec_l2Far.calls k a1_0 a1_1 a1_2 a1_3 a0_2 a0_3 t447 t448 _ A19.out).mono ?_
  rintro e w36 ⟨rfl, hb⟩
  refine ⟨_, rfl, ?_⟩
  have n0_ := Aside0.mk (ub_ (g := gb435) hb)
  have n1_ := Aside0.mk (ub_ (g := gb436) hb)
  have n2_ := Aside0.mk (ub_ (g := gb437) hb)
  have n3_ := Aside0.mk (below_step hB_ hb)
  clear BK435 BK436 BK437 HB
  have BK435 := n0_
  have BK436 := n1_
  have BK437 := n2_
  have HB := n3_
  clear n0_ n1_ n2_ n3_
  (try clear hb)
  (try clear hb2)
  (try clear hk)
  (try clear hi)
  refine hK.out _ _ ⟨bc_, bc_, bc_, bc_, bc_, bc_, bc_, bc_⟩ (fun hHeld => ?_)
  clear hK K
  refine norm_ (a' := ?_) ?_ ?_
  rotate_left
  ·
   show Act.put _ (some 25) _ = _
   simp only [Act.put, List.setIfInBounds_toArray, List.set_cons_zero, List.set_cons_succ, i64_w, i32_w]
   rfl
  refine one_ (i := 17) (N := some 26) (bm 20 262143) rfl rfl (one_of HT_.out (by kernel_rfl)) (by decide) (fun K hK => ?_)
  refine goes_ Tryd.func73 (by kernel_rfl) rfl #[.agg #[.int .i64 t445, .int .i64 t446], .agg #[.int .i64 t447, .int .i64 t448]] (by rfl) rfl rfl ma_ ?_
  with_reducible refine (spec_l2Least.calls t445 t446 t447 t448 t449 t450 _ A20.out).mono ?_
  rintro e w37 ⟨rfl, hb⟩
  refine ⟨_, rfl, ?_⟩
  have n0_ := Aside0.mk (ub_ (g := gb435) hb)
  have n1_ := Aside0.mk (ub_ (g := gb436) hb)
  have n2_ := Aside0.mk (ub_ (g := gb437) hb)
  have n3_ := Aside0.mk (below_step hB_ hb)
  clear BK435 BK436 BK437 HB
  have BK435 := n0_
  have BK436 := n1_
  have BK437 := n2_
  have HB := n3_
  clear n0_ n1_ n2_ n3_
  (try clear hb)
  (try clear hb2)
  (try clear hk)
  (try clear hi)
  refine hK.out _ _ ⟨bc_, bc_, bc_, bc_, bc_, bc_, bc_, bc_⟩ (fun hHeld => ?_)
  clear hK K
  refine norm_ (a' := ?_) ?_ ?_
  rotate_left
  ·
   show Act.put _ (some 26) _ = _
   simp only [Act.put, List.setIfInBounds_toArray, List.set_cons_zero, List.set_cons_succ, i64_w, i32_w]
   rfl
  refine one_ (i := 18) (N := some 27) (bm 20 524287) rfl rfl (one_of HT_.out (by kernel_rfl)) (by decide) (fun K hK => ?_)
  refine goes_ Tryd.func73 (by kernel_rfl) rfl #[.agg #[.int .i64 t443, .int .i64 t444], .agg #[.int .i64 t449, .int .i64 t450]] (by rfl) rfl rfl ma_ ?_
  with_reducible refine (spec_l2Least.calls t443 t444 t449 t450 t451 t452 _ A21.out).mono ?_
  rintro e w38 ⟨rfl, hb⟩
  refine ⟨_, rfl, ?_⟩
  have n0_ := Aside0.mk (ub_ (g := gb435) hb)
  have n1_ := Aside0.mk (ub_ (g := gb436) hb)
  have n2_ := Aside0.mk (ub_ (g := gb437) hb)
  have n3_ := Aside0.mk (below_step hB_ hb)
  clear BK435 BK436 BK437 HB
  have BK435 := n0_
  have BK436 := n1_
  have BK437 := n2_
  have HB := n3_
  clear n0_ n1_ n2_ n3_
  (try clear hb)
  (try clear hb2)
  (try clear hk)
  (try clear hi)
  refine hK.out _ _ ⟨bc_, bc_, bc_, bc_, bc_, bc_, bc_, bc_⟩ (fun hHeld => ?_)
  clear hK K
  refine norm_ (a' := ?_) ?_ ?_
  rotate_left
  ·
   show Act.put _ (some 27) _ = _
   simp only [Act.put, List.setIfInBounds_toArray, List.set_cons_zero, List.set_cons_succ, i64_w, i32_w]
   rfl
  refine one_ (i := 19) (N := none) (bm 20 1048575) rfl rfl (one_of HT_.out (by kernel_rfl)) (by decide) (fun K hK => ?_)
  have hs39 : w38.cell? ⟨gb437, 0, none⟩ = some (.int .i64 0) := bc_
  have hfs39 := blk_frozen BK437.out 0
  have hns39_0 := NB435_437.out
  have hns39_1 := NB436_437.out
  have hms39_0 := NB437_435.out
  have hms39_1 := NB437_436.out
  have hs40 : w38.cell? ⟨gb437, 1, none⟩ = some (.int .i64 0) := bc_
  have hfs40 := blk_frozen BK437.out 1
  have hns40_0 := NB435_437.out
  have hns40_1 := NB436_437.out
  have hms40_0 := NB437_435.out
  have hms40_1 := NB437_436.out
  refine skip_ (w1 := ?_) (by rfl) rfl ?_ ?_
  rotate_left
  ·
   go_simp
   rfl
  refine hK.out _ _ ⟨((cell_far (p := ⟨gb437, _, none⟩) NB435_437.out _).trans (((cell_far (p := ⟨gb437, _, none⟩) NB435_437.out _).trans (hHeld.1)))), ((cell_far (p := ⟨gb437, _, none⟩) NB435_437.out _).trans (((cell_far (p := ⟨gb437, _, none⟩) NB435_437.out _).trans (hHeld.2.1)))), ((cell_far (p := ⟨gb437, _, none⟩) NB435_437.out _).trans (((cell_far (p := ⟨gb437, _, none⟩) NB435_437.out _).trans (hHeld.2.2.1)))), ((cell_far (p := ⟨gb437, _, none⟩) NB435_437.out _).trans (((cell_far (p := ⟨gb437, _, none⟩) NB435_437.out _).trans (hHeld.2.2.2.1)))), ((cell_far (p := ⟨gb437, _, none⟩) NB436_437.out _).trans (((cell_far (p := ⟨gb437, _, none⟩) NB436_437.out _).trans (hHeld.2.2.2.2.1)))), ((cell_far (p := ⟨gb437, _, none⟩) NB436_437.out _).trans (((cell_far (p := ⟨gb437, _, none⟩) NB436_437.out _).trans (hHeld.2.2.2.2.2.1)))), ((cell_far (p := ⟨gb437, _, none⟩) NB436_437.out _).trans (((cell_far (p := ⟨gb437, _, none⟩) NB436_437.out _).trans (hHeld.2.2.2.2.2.2.1)))), ((cell_far (p := ⟨gb437, _, none⟩) NB436_437.out _).trans (((cell_far (p := ⟨gb437, _, none⟩) NB436_437.out _).trans (hHeld.2.2.2.2.2.2.2))))⟩ (fun hHeld => ?_)
  clear hK K
  refine done_ (done_of HT_.out (by kernel_rfl)) ?_
  try go_wp2
  refine bodyPost_ret (results_cell_row rfl _ _ gb437 25 #[.int .i64 t451, .int .i64 t452] (0, 0) _ rfl (by (with_reducible repeat (first | refine blk_drewN ?_ _ | refine blk_drew ?_ | refine blk_alloc ?_ _)); refine blk_put (cs := #[.int .i64 t451, .int .i64 0]) ?_ 1 _ rfl; (with_reducible repeat (first | refine blk_drewN ?_ _ | refine blk_drew ?_ | refine blk_alloc ?_ _)); refine blk_put (cs := #[.int .i64 0, .int .i64 0]) ?_ 0 _ rfl; (with_reducible repeat (first | refine blk_drewN ?_ _ | refine blk_drew ?_ | refine blk_alloc ?_ _)); exact BK437.out) Tryd.underlying25 rfl (by kernel_rfl)) rfl ?_
  exact ⟨by first | rfl | (simp [errW_none, errW_some] <;> rfl) | (simp [*, errW_none, errW_some] <;> rfl), hB_⟩
end Go.Proofs.YtnponnkcfgjeoaaDoor.X
end
section
namespace Go.Proofs.YtnponnkcfgjeoaaDoor.X
open Go.RowKit Go.Proofs.YtnponnkcfgjeoaaDoorW.PrintWords Go.Proofs.YtnponnkcfgjeoaaDoorW.PrintLast Go.Proofs.YtnponnkcfgjeoaaDoorW.PrintMore
attribute [local go_sem] max2_int min2_int max_two min_two max_three min_three max_four min_four
set_option linter.unusedVariables false
set_option linter.unusedSimpArgs false
def spec_SegApart.f (k : Nat) (a0_0 : Int) (a0_1 : Int) (a0_2 : Int) (a0_3 : Int) (a1_0 : Int) (a1_1 : Int) (a1_2 : Int) (a1_3 : Int) : Option (Int × Int) := (spec_SegOk.f a0_0 a0_1 a0_2 a0_3).bind fun t456 => (if t456 = true then ((spec_SegOk.f a1_0 a1_1 a1_2 a1_3).bind fun t457 => (if t457 = true then ((spec_l2Apart.f k a0_0 a0_1 a0_2 a0_3 a1_0 a1_1 a1_2 a1_3).bind fun bt458 => (some (bt458.1, bt458.2))) else (some (0, 0)))) else (some (0, 0)))
set_option maxHeartbeats 8000000 in
set_option maxRecDepth 100000 in
theorem spec_SegApart.calls (k : Nat) (a0_0 : Int) (a0_1 : Int) (a0_2 : Int) (a0_3 : Int) (a1_0 : Int) (a1_1 : Int) (a1_2 : Int) (a1_3 : Int) (r1 : Int) (r2 : Int) (w : World) (h : spec_SegApart.f k a0_0 a0_1 a0_2 a0_3 a1_0 a1_1 a1_2 a1_3 = some (r1, r2)) :
  Calls Tryd.prog 31 #[.agg #[.int .i64 a0_0, .int .i64 a0_1, .int .i64 a0_2, .int .i64 a0_3], .agg #[.int .i64 a1_0, .int .i64 a1_1, .int .i64 a1_2, .int .i64 a1_3]] w fun e w' => e = .returned (.agg #[.int .i64 r1, .int .i64 r2]) ∧ Below w.heap.size w w' := by
 have hu40 := Tryd.underlying40
 have hu25 := Tryd.underlying25
 have HB := Aside0.mk (Below.refl w.heap.size w)
 have H : ((spec_SegOk.f a0_0 a0_1 a0_2 a0_3).bind fun t456 => (if t456 = true then ((spec_SegOk.f a1_0 a1_1 a1_2 a1_3).bind fun t457 => (if t457 = true then ((spec_l2Apart.f k a0_0 a0_1 a0_2 a0_3 a1_0 a1_1 a1_2 a1_3).bind fun bt458 => (some (bt458.1, bt458.2))) else (some (0, 0)))) else (some (0, 0)))) = some (r1, r2) := h
 clear h
 replace H := Option.bind_eq_some_iff.mp H
 obtain ⟨t456, A30, H⟩ := H
 replace H : (if t456 = true then ((spec_SegOk.f a1_0 a1_1 a1_2 a1_3).bind fun t457 => (if t457 = true then ((spec_l2Apart.f k a0_0 a0_1 a0_2 a0_3 a1_0 a1_1 a1_2 a1_3).bind fun bt458 => (some (bt458.1, bt458.2))) else (some (0, 0)))) else (some (0, 0))) = some (r1, r2) := H
 have A3 := Aside0.mk A30
 clear A30
 by_cases c4 : t456 = true
 ·
  subst c4
  have H1 : ((spec_SegOk.f a1_0 a1_1 a1_2 a1_3).bind fun t457 => (if t457 = true then ((spec_l2Apart.f k a0_0 a0_1 a0_2 a0_3 a1_0 a1_1 a1_2 a1_3).bind fun bt458 => (some (bt458.1, bt458.2))) else (some (0, 0)))) = some (r1, r2) := by rw [if_pos rfl] at H; exact H
  clear H
  have H := H1
  clear H1
  replace H := Option.bind_eq_some_iff.mp H
  obtain ⟨t457, A50, H⟩ := H
  replace H : (if t457 = true then ((spec_l2Apart.f k a0_0 a0_1 a0_2 a0_3 a1_0 a1_1 a1_2 a1_3).bind fun bt458 => (some (bt458.1, bt458.2))) else (some (0, 0))) = some (r1, r2) := H
  have A5 := Aside0.mk A50
  clear A50
  by_cases c6 : t457 = true
  ·
   subst c6
   have H1 : ((spec_l2Apart.f k a0_0 a0_1 a0_2 a0_3 a1_0 a1_1 a1_2 a1_3).bind fun bt458 => (some (bt458.1, bt458.2))) = some (r1, r2) := by rw [if_pos rfl] at H; exact H
   clear H
   have H := H1
   clear H1
   replace H := Option.bind_eq_some_iff.mp H
   obtain ⟨⟨t458, t459⟩, A70, H⟩ := H
   replace H : (some (t458, t459)) = some (r1, r2) := H
   have A7 := Aside0.mk A70
   clear A70
   simp only [Option.some.injEq, Prod.mk.injEq] at H
   obtain ⟨rfl, rfl⟩ := H
   go_enter Tryd.func31, Tryd.ntmps31
   go_wp2_with (first | ((with_reducible refine gate_dst (N := 2) rfl ?_); refine box_event ?hg (N := 2) ?hd (cs := #[.int .i64 a0_0, .int .i64 a0_1, .int .i64 a0_2, .int .i64 a0_3]) (t := 40) ?hr ?_; (case hd => rfl); (case hg => rfl); (case hr => first | (go_simp; done) | (go_simp; rfl)); intro gb453 hg w8 hbox hb; have n0_ := Aside0.mk (below_step hB_ hb); have n1_ := Aside0.mk (hbox); have n2_ := Aside0.mk ((by rw [hg]; exact (below_size hB_) : w.heap.size ≤ gb453)); have n3_ := Aside0.mk ((by rw [hg]; exact (below_size hB_) : w.heap.size ≤ gb453)); clear HB; have HB := n0_; have BK453 := n1_; have GW453 := n2_; have GE453 := n3_; clear n0_ n1_ n2_ n3_; clear hb hbox hg) | ((with_reducible refine gate_dst (N := 3) rfl ?_); refine box_event ?hg (N := 3) ?hd (cs := #[.int .i64 a1_0, .int .i64 a1_1, .int .i64 a1_2, .int .i64 a1_3]) (t := 40) ?hr ?_; (case hd => rfl); (case hg => rfl); (case hr => first | (go_simp; done) | (go_simp; rfl)); intro gb454 hg w9 hbox hb; have n0_ := Aside0.mk (ub_ (g := gb453) hb); have n1_ := Aside0.mk (below_step hB_ hb); have n2_ := Aside0.mk (hbox); have n3_ := Aside0.mk ((by rw [hg]; exact (below_size hB_) : w.heap.size ≤ gb454)); have n4_ := Aside0.mk ((by rw [hg]; exact (below_size hB_) : w.heap.size ≤ gb454)); have n5_ := Aside0.mk ((by rw [hg]; exact Nat.ne_of_lt (blk_lt (g := gb453) (o := .cells #[.int .i64 a0_0, .int .i64 a0_1, .int .i64 a0_2, .int .i64 a0_3] 40 (0, 0)) uq_) : gb453 ≠ gb454)); have n6_ := Aside0.mk ((by rw [hg]; exact Nat.ne_of_gt (blk_lt (g := gb453) (o := .cells #[.int .i64 a0_0, .int .i64 a0_1, .int .i64 a0_2, .int .i64 a0_3] 40 (0, 0)) uq_) : gb454 ≠ gb453)); clear BK453; clear HB; have BK453 := n0_; have HB := n1_; have BK454 := n2_; have GW454 := n3_; have GE454 := n4_; have NB453_454 := n5_; have NB454_453 := n6_; clear n0_ n1_ n2_ n3_ n4_ n5_ n6_; clear hb hbox hg) | ((with_reducible refine gate_dst (N := 4) rfl ?_); refine box_event ?hg (N := 4) ?hd (cs := #[.int .i64 0, .int .i64 0]) (t := 25) ?hr ?_; (case hd => rfl); (case hg => rfl); (case hr => first | (go_simp; done) | (go_simp; rfl)); intro gb455 hg w10 hbox hb; have n0_ := Aside0.mk (ub_ (g := gb453) hb); have n1_ := Aside0.mk (ub_ (g := gb454) hb); have n2_ := Aside0.mk (below_step hB_ hb); have n3_ := Aside0.mk (hbox); have n4_ := Aside0.mk ((by rw [hg]; exact (below_size hB_) : w.heap.size ≤ gb455)); have n5_ := Aside0.mk ((by rw [hg]; exact (below_size hB_) : w.heap.size ≤ gb455)); have n6_ := Aside0.mk ((by rw [hg]; exact Nat.ne_of_lt (blk_lt (g := gb453) (o := .cells #[.int .i64 a0_0, .int .i64 a0_1, .int .i64 a0_2, .int .i64 a0_3] 40 (0, 0)) uq_) : gb453 ≠ gb455)); have n7_ := Aside0.mk ((by rw [hg]; exact Nat.ne_of_gt (blk_lt (g := gb453) (o := .cells #[.int .i64 a0_0, .int .i64 a0_1, .int .i64 a0_2, .int .i64 a0_3] 40 (0, 0)) uq_) : gb455 ≠ gb453)); have n8_ := Aside0.mk ((by rw [hg]; exact Nat.ne_of_lt (blk_lt (g := gb454) (o := .cells #[.int .i64 a1_0, .int .i64 a1_1, .int .i64 a1_2, .int .i64 a1_3] 40 (0, 0)) uq_) : gb454 ≠ gb455)); have n9_ := Aside0.mk ((by rw [hg]; exact Nat.ne_of_gt (blk_lt (g := gb454) (o := .cells #[.int .i64 a1_0, .int .i64 a1_1, .int .i64 a1_2, .int .i64 a1_3] 40 (0, 0)) uq_) : gb455 ≠ gb454)); clear BK453; clear BK454; clear HB; have BK453 := n0_; have BK454 := n1_; have HB := n2_; have BK455 := n3_; have GW455 := n4_; have GE455 := n5_; have NB453_455 := n6_; have NB455_453 := n7_; have NB454_455 := n8_; have NB455_454 := n9_; clear n0_ n1_ n2_ n3_ n4_ n5_ n6_ n7_ n8_ n9_; clear hb hbox hg; have hnb11 := NB453_454.out; have hnc11 := NB454_453.out; have hnb12 := NB453_455.out; have hnc12 := NB455_453.out; have hcz13_0 : w10.cell? ⟨gb453, 0, none⟩ = some (.int .i64 a0_0) := bc_; have hcz13_1 : w10.cell? ⟨gb453, 1, none⟩ = some (.int .i64 a0_1) := bc_; have hcz13_2 : w10.cell? ⟨gb453, 2, none⟩ = some (.int .i64 a0_2) := bc_; have hcz13_3 : w10.cell? ⟨gb453, 3, none⟩ = some (.int .i64 a0_3) := bc_; have hfz13_0 := blk_frozen BK453.out 0; have hfz13_1 := blk_frozen BK453.out 1; have hfz13_2 := blk_frozen BK453.out 2; have hfz13_3 := blk_frozen BK453.out 3) | ((with_reducible refine gate_callee (f := 26) rfl ?_); refine goesL_ (some 6) rfl rfl Tryd.func26 (by kernel_rfl) rfl #[.agg #[.int .i64 a0_0, .int .i64 a0_1, .int .i64 a0_2, .int .i64 a0_3]] rfl ma_ ?_; (with_reducible refine (spec_SegOk.calls a0_0 a0_1 a0_2 a0_3 true _ A3.out).mono ?_); rintro e w14 ⟨rfl, hb⟩; refine ⟨_, rfl, ?_⟩; have n0_ := Aside0.mk (ub_ (g := gb453) hb); have n1_ := Aside0.mk (ub_ (g := gb454) hb); have n2_ := Aside0.mk (ub_ (g := gb455) hb); have n3_ := Aside0.mk (below_step hB_ hb); clear BK453; clear BK454; clear BK455; clear HB; have BK453 := n0_; have BK454 := n1_; have BK455 := n2_; have HB := n3_; clear n0_ n1_ n2_ n3_; (try clear hb); (try clear hb2); (try clear hk); (try clear hi); have hnb15 := NB454_455.out; have hnc15 := NB455_454.out; have hcz16_0 : w14.cell? ⟨gb454, 0, none⟩ = some (.int .i64 a1_0) := bc_; have hcz16_1 : w14.cell? ⟨gb454, 1, none⟩ = some (.int .i64 a1_1) := bc_; have hcz16_2 : w14.cell? ⟨gb454, 2, none⟩ = some (.int .i64 a1_2) := bc_; have hcz16_3 : w14.cell? ⟨gb454, 3, none⟩ = some (.int .i64 a1_3) := bc_; have hfz16_0 := blk_frozen BK454.out 0; have hfz16_1 := blk_frozen BK454.out 1; have hfz16_2 := blk_frozen BK454.out 2; have hfz16_3 := blk_frozen BK454.out 3) | (go_at_call 26; (with_reducible refine (spec_SegOk.calls a1_0 a1_1 a1_2 a1_3 true _ A5.out).mono ?_); rintro e w17 ⟨rfl, hb⟩; have n0_ := Aside0.mk (ub_ (g := gb453) hb); have n1_ := Aside0.mk (ub_ (g := gb454) hb); have n2_ := Aside0.mk (ub_ (g := gb455) hb); have n3_ := Aside0.mk (below_step hB_ hb); clear BK453; clear BK454; clear BK455; clear HB; have BK453 := n0_; have BK454 := n1_; have BK455 := n2_; have HB := n3_; clear n0_ n1_ n2_ n3_; (try clear hb); (try clear hb2); (try clear hk); (try clear hi); have hcz18_0 : w17.cell? ⟨gb453, 0, none⟩ = some (.int .i64 a0_0) := bc_; have hcz18_1 : w17.cell? ⟨gb453, 1, none⟩ = some (.int .i64 a0_1) := bc_; have hcz18_2 : w17.cell? ⟨gb453, 2, none⟩ = some (.int .i64 a0_2) := bc_; have hcz18_3 : w17.cell? ⟨gb453, 3, none⟩ = some (.int .i64 a0_3) := bc_; have hfz18_0 := blk_frozen BK453.out 0; have hfz18_1 := blk_frozen BK453.out 1; have hfz18_2 := blk_frozen BK453.out 2; have hfz18_3 := blk_frozen BK453.out 3; have hcz19_0 : w17.cell? ⟨gb454, 0, none⟩ = some (.int .i64 a1_0) := bc_; have hcz19_1 : w17.cell? ⟨gb454, 1, none⟩ = some (.int .i64 a1_1) := bc_; have hcz19_2 : w17.cell? ⟨gb454, 2, none⟩ = some (.int .i64 a1_2) := bc_; have hcz19_3 : w17.cell? ⟨gb454, 3, none⟩ = some (.int .i64 a1_3) := bc_; have hfz19_0 := blk_frozen BK454.out 0; have hfz19_1 := blk_frozen BK454.out 1; have hfz19_2 := blk_frozen BK454.out 2; have hfz19_3 := blk_frozen BK454.out 3) | ((with_reducible refine gate_callee (f := 61) rfl ?_); refine goesL_ (some 16) rfl rfl Tryd.func61 (by kernel_rfl) rfl #[.agg #[.int .i64 a0_0, .int .i64 a0_1, .int .i64 a0_2, .int .i64 a0_3], .agg #[.int .i64 a1_0, .int .i64 a1_1, .int .i64 a1_2, .int .i64 a1_3]] rfl ma_ ?_; (with_reducible refine (spec_l2Apart.calls k a0_0 a0_1 a0_2 a0_3 a1_0 a1_1 a1_2 a1_3 t458 t459 _ A7.out).mono ?_); rintro e w20 ⟨rfl, hb⟩; refine ⟨_, rfl, ?_⟩; have n0_ := Aside0.mk (ub_ (g := gb453) hb); have n1_ := Aside0.mk (ub_ (g := gb454) hb); have n2_ := Aside0.mk (ub_ (g := gb455) hb); have n3_ := Aside0.mk (below_step hB_ hb); clear BK453; clear BK454; clear BK455; clear HB; have BK453 := n0_; have BK454 := n1_; have BK455 := n2_; have HB := n3_; clear n0_ n1_ n2_ n3_; (try clear hb); (try clear hb2); (try clear hk); (try clear hi); have hcz21_0 : w20.cell? ⟨gb455, 0, none⟩ = some (.int .i64 0) := bc_; have hcz21_1 : w20.cell? ⟨gb455, 1, none⟩ = some (.int .i64 0) := bc_; have hfz21_0 := blk_frozen BK455.out 0; have hfz21_1 := blk_frozen BK455.out 1))
   refine bodyPost_ret (results_cell_row rfl _ _ gb455 25 #[.int .i64 t458, .int .i64 t459] (0, 0) _ rfl (by (with_reducible repeat (first | refine blk_drewN ?_ _ | refine blk_drew ?_ | refine blk_alloc ?_ _)); refine blk_put (cs := #[.int .i64 t458, .int .i64 0]) ?_ 1 _ rfl; (with_reducible repeat (first | refine blk_drewN ?_ _ | refine blk_drew ?_ | refine blk_alloc ?_ _)); refine blk_put (cs := #[.int .i64 0, .int .i64 0]) ?_ 0 _ rfl; (with_reducible repeat (first | refine blk_drewN ?_ _ | refine blk_drew ?_ | refine blk_alloc ?_ _)); exact BK455.out) Tryd.underlying25 rfl (by kernel_rfl)) rfl ?_
   exact ⟨by first | rfl | (simp [errW_none, errW_some] <;> rfl) | (simp [*, errW_none, errW_some] <;> rfl), hB_⟩
  ·
   replace c6 := Bool.eq_false_iff.mpr c6
   subst c6
   have H1 : (some (0, 0)) = some (r1, r2) := by rw [if_neg (show ¬ (false = true) by decide)] at H; exact H
   clear H
   have H := H1
   clear H1
   simp only [Option.some.injEq, Prod.mk.injEq] at H
   obtain ⟨rfl, rfl⟩ := H
   go_enter Tryd.func31, Tryd.ntmps31
   go_wp2_with (first | ((with_reducible refine gate_dst (N := 2) rfl ?_); refine box_event ?hg (N := 2) ?hd (cs := #[.int .i64 a0_0, .int .i64 a0_1, .int .i64 a0_2, .int .i64 a0_3]) (t := 40) ?hr ?_; (case hd => rfl); (case hg => rfl); (case hr => first | (go_simp; done) | (go_simp; rfl)); intro gb453 hg w22 hbox hb; have n0_ := Aside0.mk (below_step hB_ hb); have n1_ := Aside0.mk (hbox); have n2_ := Aside0.mk ((by rw [hg]; exact (below_size hB_) : w.heap.size ≤ gb453)); have n3_ := Aside0.mk ((by rw [hg]; exact (below_size hB_) : w.heap.size ≤ gb453)); clear HB; have HB := n0_; have BK453 := n1_; have GW453 := n2_; have GE453 := n3_; clear n0_ n1_ n2_ n3_; clear hb hbox hg) | ((with_reducible refine gate_dst (N := 3) rfl ?_); refine box_event ?hg (N := 3) ?hd (cs := #[.int .i64 a1_0, .int .i64 a1_1, .int .i64 a1_2, .int .i64 a1_3]) (t := 40) ?hr ?_; (case hd => rfl); (case hg => rfl); (case hr => first | (go_simp; done) | (go_simp; rfl)); intro gb454 hg w23 hbox hb; have n0_ := Aside0.mk (ub_ (g := gb453) hb); have n1_ := Aside0.mk (below_step hB_ hb); have n2_ := Aside0.mk (hbox); have n3_ := Aside0.mk ((by rw [hg]; exact (below_size hB_) : w.heap.size ≤ gb454)); have n4_ := Aside0.mk ((by rw [hg]; exact (below_size hB_) : w.heap.size ≤ gb454)); have n5_ := Aside0.mk ((by rw [hg]; exact Nat.ne_of_lt (blk_lt (g := gb453) (o := .cells #[.int .i64 a0_0, .int .i64 a0_1, .int .i64 a0_2, .int .i64 a0_3] 40 (0, 0)) uq_) : gb453 ≠ gb454)); have n6_ := Aside0.mk ((by rw [hg]; exact Nat.ne_of_gt (blk_lt (g := gb453) (o := .cells #[.int .i64 a0_0, .int .i64 a0_1, .int .i64 a0_2, .int .i64 a0_3] 40 (0, 0)) uq_) : gb454 ≠ gb453)); clear BK453; clear HB; have BK453 := n0_; have HB := n1_; have BK454 := n2_; have GW454 := n3_; have GE454 := n4_; have NB453_454 := n5_; have NB454_453 := n6_; clear n0_ n1_ n2_ n3_ n4_ n5_ n6_; clear hb hbox hg) | ((with_reducible refine gate_dst (N := 4) rfl ?_); refine box_event ?hg (N := 4) ?hd (cs := #[.int .i64 0, .int .i64 0]) (t := 25) ?hr ?_; (case hd => rfl); (case hg => rfl); (case hr => first | (go_simp; done) | (go_simp; rfl)); intro gb455 hg w24 hbox hb; have n0_ := Aside0.mk (ub_ (g := gb453) hb); have n1_ := Aside0.mk (ub_ (g := gb454) hb); have n2_ := Aside0.mk (below_step hB_ hb); have n3_ := Aside0.mk (hbox); have n4_ := Aside0.mk ((by rw [hg]; exact (below_size hB_) : w.heap.size ≤ gb455)); have n5_ := Aside0.mk ((by rw [hg]; exact (below_size hB_) : w.heap.size ≤ gb455)); have n6_ := Aside0.mk ((by rw [hg]; exact Nat.ne_of_lt (blk_lt (g := gb453) (o := .cells #[.int .i64 a0_0, .int .i64 a0_1, .int .i64 a0_2, .int .i64 a0_3] 40 (0, 0)) uq_) : gb453 ≠ gb455)); have n7_ := Aside0.mk ((by rw [hg]; exact Nat.ne_of_gt (blk_lt (g := gb453) (o := .cells #[.int .i64 a0_0, .int .i64 a0_1, .int .i64 a0_2, .int .i64 a0_3] 40 (0, 0)) uq_) : gb455 ≠ gb453)); have n8_ := Aside0.mk ((by rw [hg]; exact Nat.ne_of_lt (blk_lt (g := gb454) (o := .cells #[.int .i64 a1_0, .int .i64 a1_1, .int .i64 a1_2, .int .i64 a1_3] 40 (0, 0)) uq_) : gb454 ≠ gb455)); have n9_ := Aside0.mk ((by rw [hg]; exact Nat.ne_of_gt (blk_lt (g := gb454) (o := .cells #[.int .i64 a1_0, .int .i64 a1_1, .int .i64 a1_2, .int .i64 a1_3] 40 (0, 0)) uq_) : gb455 ≠ gb454)); clear BK453; clear BK454; clear HB; have BK453 := n0_; have BK454 := n1_; have HB := n2_; have BK455 := n3_; have GW455 := n4_; have GE455 := n5_; have NB453_455 := n6_; have NB455_453 := n7_; have NB454_455 := n8_; have NB455_454 := n9_; clear n0_ n1_ n2_ n3_ n4_ n5_ n6_ n7_ n8_ n9_; clear hb hbox hg; have hnb25 := NB453_454.out; have hnc25 := NB454_453.out; have hnb26 := NB453_455.out; have hnc26 := NB455_453.out; have hcz27_0 : w24.cell? ⟨gb453, 0, none⟩ = some (.int .i64 a0_0) := bc_; have hcz27_1 : w24.cell? ⟨gb453, 1, none⟩ = some (.int .i64 a0_1) := bc_; have hcz27_2 : w24.cell? ⟨gb453, 2, none⟩ = some (.int .i64 a0_2) := bc_; have hcz27_3 : w24.cell? ⟨gb453, 3, none⟩ = some (.int .i64 a0_3) := bc_; have hfz27_0 := blk_frozen BK453.out 0; have hfz27_1 := blk_frozen BK453.out 1; have hfz27_2 := blk_frozen BK453.out 2; have hfz27_3 := blk_frozen BK453.out 3) | ((with_reducible refine gate_callee (f := 26) rfl ?_); refine goesL_ (some 6) rfl rfl Tryd.func26 (by kernel_rfl) rfl #[.agg #[.int .i64 a0_0, .int .i64 a0_1, .int .i64 a0_2, .int .i64 a0_3]] rfl ma_ ?_; (with_reducible refine (spec_SegOk.calls a0_0 a0_1 a0_2 a0_3 true _ A3.out).mono ?_); rintro e w28 ⟨rfl, hb⟩; refine ⟨_, rfl, ?_⟩; have n0_ := Aside0.mk (ub_ (g := gb453) hb); have n1_ := Aside0.mk (ub_ (g := gb454) hb); have n2_ := Aside0.mk (ub_ (g := gb455) hb); have n3_ := Aside0.mk (below_step hB_ hb); clear BK453; clear BK454; clear BK455; clear HB; have BK453 := n0_; have BK454 := n1_; have BK455 := n2_; have HB := n3_; clear n0_ n1_ n2_ n3_; (try clear hb); (try clear hb2); (try clear hk); (try clear hi); have hnb29 := NB454_455.out; have hnc29 := NB455_454.out; have hcz30_0 : w28.cell? ⟨gb454, 0, none⟩ = some (.int .i64 a1_0) := bc_; have hcz30_1 : w28.cell? ⟨gb454, 1, none⟩ = some (.int .i64 a1_1) := bc_; have hcz30_2 : w28.cell? ⟨gb454, 2, none⟩ = some (.int .i64 a1_2) := bc_; have hcz30_3 : w28.cell? ⟨gb454, 3, none⟩ = some (.int .i64 a1_3) := bc_; have hfz30_0 := blk_frozen BK454.out 0; have hfz30_1 := blk_frozen BK454.out 1; have hfz30_2 := blk_frozen BK454.out 2; have hfz30_3 := blk_frozen BK454.out 3) | (go_at_call 26; (with_reducible refine (spec_SegOk.calls a1_0 a1_1 a1_2 a1_3 false _ A5.out).mono ?_); rintro e w31 ⟨rfl, hb⟩; have n0_ := Aside0.mk (ub_ (g := gb453) hb); have n1_ := Aside0.mk (ub_ (g := gb454) hb); have n2_ := Aside0.mk (ub_ (g := gb455) hb); have n3_ := Aside0.mk (below_step hB_ hb); clear BK453; clear BK454; clear BK455; clear HB; have BK453 := n0_; have BK454 := n1_; have BK455 := n2_; have HB := n3_; clear n0_ n1_ n2_ n3_; (try clear hb); (try clear hb2); (try clear hk); (try clear hi); have hcz32_0 : w31.cell? ⟨gb455, 0, none⟩ = some (.int .i64 0) := bc_; have hcz32_1 : w31.cell? ⟨gb455, 1, none⟩ = some (.int .i64 0) := bc_; have hfz32_0 := blk_frozen BK455.out 0; have hfz32_1 := blk_frozen BK455.out 1))
   refine bodyPost_ret (results_cell_row rfl _ _ gb455 25 #[.int .i64 0, .int .i64 0] (0, 0) _ rfl (by (with_reducible repeat (first | refine blk_drewN ?_ _ | refine blk_drew ?_ | refine blk_alloc ?_ _)); refine blk_put (cs := #[.int .i64 0, .int .i64 0]) ?_ 1 _ rfl; (with_reducible repeat (first | refine blk_drewN ?_ _ | refine blk_drew ?_ | refine blk_alloc ?_ _)); refine blk_put (cs := #[.int .i64 0, .int .i64 0]) ?_ 0 _ rfl; (with_reducible repeat (first | refine blk_drewN ?_ _ | refine blk_drew ?_ | refine blk_alloc ?_ _)); exact BK455.out) Tryd.underlying25 rfl (by kernel_rfl)) rfl ?_
   exact ⟨by first | rfl | (simp [errW_none, errW_some] <;> rfl) | (simp [*, errW_none, errW_some] <;> rfl), hB_⟩
 ·
  replace c4 := Bool.eq_false_iff.mpr c4
  subst c4
  have H1 : (some (0, 0)) = some (r1, r2) := by rw [if_neg (show ¬ (false = true) by decide)] at H; exact H
  clear H
  have H := H1
  clear H1
  simp only [Option.some.injEq, Prod.mk.injEq] at H
  obtain ⟨rfl, rfl⟩ := H
  go_enter Tryd.func31, Tryd.ntmps31
  go_wp2_with (first | ((with_reducible refine gate_dst (N := 2) rfl ?_); refine box_event ?hg (N := 2) ?hd (cs := #[.int .i64 a0_0, .int .i64 a0_1, .int .i64 a0_2, .int .i64 a0_3]) (t := 40) ?hr ?_; (case hd => rfl); (case hg => rfl); (case hr => first | (go_simp; done) | (go_simp; rfl)); intro gb453 hg w33 hbox hb; have n0_ := Aside0.mk (below_step hB_ hb); have n1_ := Aside0.mk (hbox); have n2_ := Aside0.mk ((by rw [hg]; exact (below_size hB_) : w.heap.size ≤ gb453)); have n3_ := Aside0.mk ((by rw [hg]; exact (below_size hB_) : w.heap.size ≤ gb453)); clear HB; have HB := n0_; have BK453 := n1_; have GW453 := n2_; have GE453 := n3_; clear n0_ n1_ n2_ n3_; clear hb hbox hg) | ((with_reducible refine gate_dst (N := 3) rfl ?_); refine box_event ?hg (N := 3) ?hd (cs := #[.int .i64 a1_0, .int .i64 a1_1, .int .i64 a1_2, .int .i64 a1_3]) (t := 40) ?hr ?_; (case hd => rfl); (case hg => rfl); (case hr => first | (go_simp; done) | (go_simp; rfl)); intro gb454 hg w34 hbox hb; have n0_ := Aside0.mk (ub_ (g := gb453) hb); have n1_ := Aside0.mk (below_step hB_ hb); have n2_ := Aside0.mk (hbox); have n3_ := Aside0.mk ((by rw [hg]; exact (below_size hB_) : w.heap.size ≤ gb454)); have n4_ := Aside0.mk ((by rw [hg]; exact (below_size hB_) : w.heap.size ≤ gb454)); have n5_ := Aside0.mk ((by rw [hg]; exact Nat.ne_of_lt (blk_lt (g := gb453) (o := .cells #[.int .i64 a0_0, .int .i64 a0_1, .int .i64 a0_2, .int .i64 a0_3] 40 (0, 0)) uq_) : gb453 ≠ gb454)); have n6_ := Aside0.mk ((by rw [hg]; exact Nat.ne_of_gt (blk_lt (g := gb453) (o := .cells #[.int .i64 a0_0, .int .i64 a0_1, .int .i64 a0_2, .int .i64 a0_3] 40 (0, 0)) uq_) : gb454 ≠ gb453)); clear BK453; clear HB; have BK453 := n0_; have HB := n1_; have BK454 := n2_; have GW454 := n3_; have GE454 := n4_; have NB453_454 := n5_; have NB454_453 := n6_; clear n0_ n1_ n2_ n3_ n4_ n5_ n6_; clear hb hbox hg) | ((with_reducible refine gate_dst (N := 4) rfl ?_); refine box_event ?hg (N := 4) ?hd (cs := #[.int .i64 0, .int .i64 0]) (t := 25) ?hr ?_; (case hd => rfl); (case hg => rfl); (case hr => first | (go_simp; done) | (go_simp; rfl)); intro gb455 hg w35 hbox hb; have n0_ := Aside0.mk (ub_ (g := gb453) hb); have n1_ := Aside0.mk (ub_ (g := gb454) hb); have n2_ := Aside0.mk (below_step hB_ hb); have n3_ := Aside0.mk (hbox); have n4_ := Aside0.mk ((by rw [hg]; exact (below_size hB_) : w.heap.size ≤ gb455)); have n5_ := Aside0.mk ((by rw [hg]; exact (below_size hB_) : w.heap.size ≤ gb455)); have n6_ := Aside0.mk ((by rw [hg]; exact Nat.ne_of_lt (blk_lt (g := gb453) (o := .cells #[.int .i64 a0_0, .int .i64 a0_1, .int .i64 a0_2, .int .i64 a0_3] 40 (0, 0)) uq_) : gb453 ≠ gb455)); have n7_ := Aside0.mk ((by rw [hg]; exact Nat.ne_of_gt (blk_lt (g := gb453) (o := .cells #[.int .i64 a0_0, .int .i64 a0_1, .int .i64 a0_2, .int .i64 a0_3] 40 (0, 0)) uq_) : gb455 ≠ gb453)); have n8_ := Aside0.mk ((by rw [hg]; exact Nat.ne_of_lt (blk_lt (g := gb454) (o := .cells #[.int .i64 a1_0, .int .i64 a1_1, .int .i64 a1_2, .int .i64 a1_3] 40 (0, 0)) uq_) : gb454 ≠ gb455)); have n9_ := Aside0.mk ((by rw [hg]; exact Nat.ne_of_gt (blk_lt (g := gb454) (o := .cells #[.int .i64 a1_0, .int .i64 a1_1, .int .i64 a1_2, .int .i64 a1_3] 40 (0, 0)) uq_) : gb455 ≠ gb454)); clear BK453; clear BK454; clear HB; have BK453 := n0_; have BK454 := n1_; have HB := n2_; have BK455 := n3_; have GW455 := n4_; have GE455 := n5_; have NB453_455 := n6_; have NB455_453 := n7_; have NB454_455 := n8_; have NB455_454 := n9_; clear n0_ n1_ n2_ n3_ n4_ n5_ n6_ n7_ n8_ n9_; clear hb hbox hg; have hnb36 := NB453_454.out; have hnc36 := NB454_453.out; have hnb37 := NB453_455.out; have hnc37 := NB455_453.out; have hcz38_0 : w35.cell? ⟨gb453, 0, none⟩ = some (.int .i64 a0_0) := bc_; have hcz38_1 : w35.cell? ⟨gb453, 1, none⟩ = some (.int .i64 a0_1) := bc_; have hcz38_2 : w35.cell? ⟨gb453, 2, none⟩ = some (.int .i64 a0_2) := bc_; have hcz38_3 : w35.cell? ⟨gb453, 3, none⟩ = some (.int .i64 a0_3) := bc_; have hfz38_0 := blk_frozen BK453.out 0; have hfz38_1 := blk_frozen BK453.out 1; have hfz38_2 := blk_frozen BK453.out 2; have hfz38_3 := blk_frozen BK453.out 3) | ((with_reducible refine gate_callee (f := 26) rfl ?_); refine goesL_ (some 6) rfl rfl Tryd.func26 (by kernel_rfl) rfl #[.agg #[.int .i64 a0_0, .int .i64 a0_1, .int .i64 a0_2, .int .i64 a0_3]] rfl ma_ ?_; (with_reducible refine (spec_SegOk.calls a0_0 a0_1 a0_2 a0_3 false _ A3.out).mono ?_); rintro e w39 ⟨rfl, hb⟩; refine ⟨_, rfl, ?_⟩; have n0_ := Aside0.mk (ub_ (g := gb453) hb); have n1_ := Aside0.mk (ub_ (g := gb454) hb); have n2_ := Aside0.mk (ub_ (g := gb455) hb); have n3_ := Aside0.mk (below_step hB_ hb); clear BK453; clear BK454; clear BK455; clear HB; have BK453 := n0_; have BK454 := n1_; have BK455 := n2_; have HB := n3_; clear n0_ n1_ n2_ n3_; (try clear hb); (try clear hb2); (try clear hk); (try clear hi); have hnb40 := NB455_454.out; have hnc40 := NB454_455.out; have hcz41_0 : w39.cell? ⟨gb455, 0, none⟩ = some (.int .i64 0) := bc_; have hcz41_1 : w39.cell? ⟨gb455, 1, none⟩ = some (.int .i64 0) := bc_; have hfz41_0 := blk_frozen BK455.out 0; have hfz41_1 := blk_frozen BK455.out 1))
  refine bodyPost_ret (results_cell_row rfl _ _ gb455 25 #[.int .i64 0, .int .i64 0] (0, 0) _ rfl (by (with_reducible repeat (first | refine blk_drewN ?_ _ | refine blk_drew ?_ | refine blk_alloc ?_ _)); refine blk_put (cs := #[.int .i64 0, .int .i64 0]) ?_ 1 _ rfl; (with_reducible repeat (first | refine blk_drewN ?_ _ | refine blk_drew ?_ | refine blk_alloc ?_ _)); refine blk_put (cs := #[.int .i64 0, .int .i64 0]) ?_ 0 _ rfl; (with_reducible repeat (first | refine blk_drewN ?_ _ | refine blk_drew ?_ | refine blk_alloc ?_ _)); exact BK455.out) Tryd.underlying25 rfl (by kernel_rfl)) rfl ?_
  exact ⟨by first | rfl | (simp [errW_none, errW_some] <;> rfl) | (simp [*, errW_none, errW_some] <;> rfl), hB_⟩
end Go.Proofs.YtnponnkcfgjeoaaDoor.X
end
section
set_option linter.unusedVariables false
set_option linter.unusedSimpArgs false
namespace Go.Proofs.YtnponnkcfgjeoaaDoor.X
open Go.RowKit Go.Proofs.YtnponnkcfgjeoaaDoorW.PrintWords Go.Proofs.YtnponnkcfgjeoaaDoorW.PrintLast Go.Proofs.YtnponnkcfgjeoaaDoorW.PrintMore
open Mort
/-- a block of cells, known whole, some steps on -/
theorem blk_on {w w1 : World} {g : Nat} {o : Obj} (hb : Below w.heap.size w w1) (h : w.heap[g]? = some o) : w1.heap[g]? = some o := blk_below h hb
section
variable (bs bp : Nat) (a b c d e f : Int) (w : World) (k : Nat)
  (hs : w.heap[bs]? = some (.cells #[.int .i64 a, .int .i64 b, .int .i64 c, .int .i64 d] 40 (0, 0)))
  (hp : w.heap[bp]? = some (.cells #[.int .i64 e, .int .i64 f] 38 (0, 0)))
include hs hp
set_option maxHeartbeats 1000000 in
set_option maxRecDepth 100000 in
/-- behind the first end -/
theorem far1 {m n1 n2 : Int} (h1 : impl_between.f a b e f = some m) (h2 : impl_FracOf.f k m 1 = some (n1, n2, true)) :
    Calls Tryd.prog 53 #[.pointer (some ⟨bs, 0, none⟩), .pointer (some ⟨bp, 0, none⟩)] w fun x w' => x = .returned (.tuple #[.agg #[.int .i64 n1, .int .i64 n2], .bool true]) ∧ Below w.heap.size w w' := by
  have hB0 := below_alloc (Below.refl w.heap.size w) (.cells #[.int .i64 0, .int .i64 0] 25)
  have hs1 := blk_on hB0 hs
  have hp1 := blk_on hB0 hp
  have hn1 := heap_alloc_new w (.cells #[.int .i64 0, .int .i64 0] 25)
  have HB0 := Aside0.mk hB0
  have HN1 := Aside0.mk hn1
  have H1 := Aside0.mk h1
  have H2 := Aside0.mk h2
  have q0 : (w.alloc (.cells #[.int .i64 0, .int .i64 0] 25)).cell? ⟨bs, 0, none⟩ = some (.int .i64 a) := (blk_cell hs1 0).trans rfl
  have q1 : (w.alloc (.cells #[.int .i64 0, .int .i64 0] 25)).cell? ⟨bs, 1, none⟩ = some (.int .i64 b) := (blk_cell hs1 1).trans rfl
  have q2 : (w.alloc (.cells #[.int .i64 0, .int .i64 0] 25)).cell? ⟨bp, 0, none⟩ = some (.int .i64 e) := (blk_cell hp1 0).trans rfl
  have q3 : (w.alloc (.cells #[.int .i64 0, .int .i64 0] 25)).cell? ⟨bp, 1, none⟩ = some (.int .i64 f) := (blk_cell hp1 1).trans rfl
  have hu1 := Tryd.underlying40
  have hu2 := Tryd.underlying38
  have hu3 := Tryd.underlying25
  clear h1 h2 hs hp hs1 hp1 hn1 hB0
  go_enter Tryd.func53, Tryd.ntmps53
  go_wp2_with fail
  refine (impl_between.calls a b e f m _ H1.out).mono ?_
  rintro x w1 ⟨rfl, hb⟩
  have HB1 := Aside0.mk (below_step HB0.out hb)
  have HN2 := Aside0.mk (blk_on hb HN1.out)
  clear hb q0 q1 q2 q3 HN1
  go_wp2_with fail
  refine (impl_FracOf.calls k m 1 n1 n2 true _ H2.out).mono ?_
  rintro x w2 ⟨rfl, hb⟩
  have HB2 := Aside0.mk (below_step HB1.out hb)
  have HN3 := Aside0.mk (blk_on hb HN2.out)
  have q0 : w2.cell? ⟨w.heap.size, 0, none⟩ = some (.int .i64 0) := (blk_cell HN3.out 0).trans rfl
  have q1 : w2.cell? ⟨w.heap.size, 1, none⟩ = some (.int .i64 0) := (blk_cell HN3.out 1).trans rfl
  have q2 := blk_frozen HN3.out 0
  have q3 := blk_frozen HN3.out 1
  clear hb HN2
  go_wp2_with fail
  refine bodyPost_ret (results_ct rfl _ _ w.heap.size 25 #[.int .i64 n1, .int .i64 n2] (0, 0) _ rfl (by refine blk_put (cs := #[.int .i64 n1, .int .i64 0]) ?_ 1 _ rfl; refine blk_put (cs := #[.int .i64 0, .int .i64 0]) ?_ 0 _ rfl; exact HN3.out) Tryd.underlying25 rfl (by kernel_rfl)) rfl ?_
  exact ⟨rfl, by refine below_set ?_ (Nat.le_refl _); refine below_set ?_ (Nat.le_refl _); exact HB2.out⟩
set_option maxHeartbeats 1000000 in
set_option maxRecDepth 100000 in
/-- beside the segment -/
theorem far2 {t m n1 n2 : Int} (h0 : impl_cross.f a b c d e f = some t) (h1 : impl_between.f a b c d = some m) (h2 : impl_FracOf.f k (wrap64 (t * t)) m = some (n1, n2, true)) :
    Calls Tryd.prog 55 #[.pointer (some ⟨bs, 0, none⟩), .pointer (some ⟨bp, 0, none⟩)] w fun x w' => x = .returned (.tuple #[.agg #[.int .i64 n1, .int .i64 n2], .bool true]) ∧ Below w.heap.size w w' := by
  have hB0 := below_alloc (Below.refl w.heap.size w) (.cells #[.int .i64 0, .int .i64 0] 25)
  have hs1 := blk_on hB0 hs
  have hp1 := blk_on hB0 hp
  have hn1 := heap_alloc_new w (.cells #[.int .i64 0, .int .i64 0] 25)
  have HB0 := Aside0.mk hB0
  have HN1 := Aside0.mk hn1
  have HS := Aside0.mk hs
  have HP := Aside0.mk hp
  have H0 := Aside0.mk h0
  have H1 := Aside0.mk h1
  have H2 := Aside0.mk h2
  have q0 : (w.alloc (.cells #[.int .i64 0, .int .i64 0] 25)).cell? ⟨bs, 0, none⟩ = some (.int .i64 a) := (blk_cell hs1 0).trans rfl
  have q1 : (w.alloc (.cells #[.int .i64 0, .int .i64 0] 25)).cell? ⟨bs, 1, none⟩ = some (.int .i64 b) := (blk_cell hs1 1).trans rfl
  have q2 : (w.alloc (.cells #[.int .i64 0, .int .i64 0] 25)).cell? ⟨bs, 2, none⟩ = some (.int .i64 c) := (blk_cell hs1 2).trans rfl
  have q3 : (w.alloc (.cells #[.int .i64 0, .int .i64 0] 25)).cell? ⟨bs, 3, none⟩ = some (.int .i64 d) := (blk_cell hs1 3).trans rfl
  have q4 : (w.alloc (.cells #[.int .i64 0, .int .i64 0] 25)).cell? ⟨bp, 0, none⟩ = some (.int .i64 e) := (blk_cell hp1 0).trans rfl
  have q5 : (w.alloc (.cells #[.int .i64 0, .int .i64 0] 25)).cell? ⟨bp, 1, none⟩ = some (.int .i64 f) := (blk_cell hp1 1).trans rfl
  have hu1 := Tryd.underlying40
  have hu2 := Tryd.underlying38
  have hu3 := Tryd.underlying25
  clear h0 h1 h2 hs hp hs1 hp1 hn1 hB0
  go_enter Tryd.func55, Tryd.ntmps55
  go_wp2_with fail
  refine (impl_cross.calls a b c d e f t _ H0.out).mono ?_
  rintro x w1 ⟨rfl, hb⟩
  have HB1 := Aside0.mk (below_step HB0.out hb)
  have HN2 := Aside0.mk (blk_on hb HN1.out)
  have hs2 := blk_on HB1.out HS.out
  have hp2 := blk_on HB1.out HP.out
  clear hb q0 q1 q2 q3 q4 q5 HN1
  have q0 : w1.cell? ⟨bs, 0, none⟩ = some (.int .i64 a) := (blk_cell hs2 0).trans rfl
  have q1 : w1.cell? ⟨bs, 1, none⟩ = some (.int .i64 b) := (blk_cell hs2 1).trans rfl
  have q2 : w1.cell? ⟨bs, 2, none⟩ = some (.int .i64 c) := (blk_cell hs2 2).trans rfl
  have q3 : w1.cell? ⟨bs, 3, none⟩ = some (.int .i64 d) := (blk_cell hs2 3).trans rfl
  have q4 : w1.cell? ⟨bp, 0, none⟩ = some (.int .i64 e) := (blk_cell hp2 0).trans rfl
  have q5 : w1.cell? ⟨bp, 1, none⟩ = some (.int .i64 f) := (blk_cell hp2 1).trans rfl
  clear hs2 hp2
  go_wp2_with fail
  refine (impl_between.calls a b c d m _ H1.out).mono ?_
  rintro x w2 ⟨rfl, hb⟩
  have HB2 := Aside0.mk (below_step HB1.out hb)
  have HN3 := Aside0.mk (blk_on hb HN2.out)
  clear hb q0 q1 q2 q3 q4 q5 HN2
  go_wp2_with fail
  refine (impl_FracOf.calls k (wrap64 (t * t)) m n1 n2 true _ H2.out).mono ?_
  rintro x w3 ⟨rfl, hb⟩
  have HB3 := Aside0.mk (below_step HB2.out hb)
  have HN4 := Aside0.mk (blk_on hb HN3.out)
  have q0 : w3.cell? ⟨w.heap.size, 0, none⟩ = some (.int .i64 0) := (blk_cell HN4.out 0).trans rfl
  have q1 : w3.cell? ⟨w.heap.size, 1, none⟩ = some (.int .i64 0) := (blk_cell HN4.out 1).trans rfl
  have q2 := blk_frozen HN4.out 0
  have q3 := blk_frozen HN4.out 1
  clear hb HN3
  go_wp2_with fail
  refine bodyPost_ret (results_ct rfl _ _ w.heap.size 25 #[.int .i64 n1, .int .i64 n2] (0, 0) _ rfl (by refine blk_put (cs := #[.int .i64 n1, .int .i64 0]) ?_ 1 _ rfl; refine blk_put (cs := #[.int .i64 0, .int .i64 0]) ?_ 0 _ rfl; exact HN4.out) Tryd.underlying25 rfl (by kernel_rfl)) rfl ?_
  exact ⟨rfl, by refine below_set ?_ (Nat.le_refl _); refine below_set ?_ (Nat.le_refl _); exact HB3.out⟩
set_option maxHeartbeats 1000000 in
set_option maxRecDepth 100000 in
/-- past the other end -/
theorem far3 {m n1 n2 : Int} (h1 : impl_between.f c d e f = some m) (h2 : impl_FracOf.f k m 1 = some (n1, n2, true)) :
    Calls Tryd.prog 57 #[.pointer (some ⟨bs, 0, none⟩), .pointer (some ⟨bp, 0, none⟩)] w fun x w' => x = .returned (.tuple #[.agg #[.int .i64 n1, .int .i64 n2], .bool true]) ∧ Below w.heap.size w w' := by
  have hB0 := below_alloc (Below.refl w.heap.size w) (.cells #[.int .i64 0, .int .i64 0] 25)
  have hs1 := blk_on hB0 hs
  have hp1 := blk_on hB0 hp
  have hn1 := heap_alloc_new w (.cells #[.int .i64 0, .int .i64 0] 25)
  have HB0 := Aside0.mk hB0
  have HN1 := Aside0.mk hn1
  have H1 := Aside0.mk h1
  have H2 := Aside0.mk h2
  have q0 : (w.alloc (.cells #[.int .i64 0, .int .i64 0] 25)).cell? ⟨bs, 2, none⟩ = some (.int .i64 c) := (blk_cell hs1 2).trans rfl
  have q1 : (w.alloc (.cells #[.int .i64 0, .int .i64 0] 25)).cell? ⟨bs, 3, none⟩ = some (.int .i64 d) := (blk_cell hs1 3).trans rfl
  have q2 : (w.alloc (.cells #[.int .i64 0, .int .i64 0] 25)).cell? ⟨bp, 0, none⟩ = some (.int .i64 e) := (blk_cell hp1 0).trans rfl
  have q3 : (w.alloc (.cells #[.int .i64 0, .int .i64 0] 25)).cell? ⟨bp, 1, none⟩ = some (.int .i64 f) := (blk_cell hp1 1).trans rfl
  have hu1 := Tryd.underlying40
  have hu2 := Tryd.underlying38
  have hu3 := Tryd.underlying25
  clear h1 h2 hs hp hs1 hp1 hn1 hB0
  go_enter Tryd.func57, Tryd.ntmps57
  go_wp2_with fail
  refine (impl_between.calls c d e f m _ H1.out).mono ?_
  rintro x w1 ⟨rfl, hb⟩
  have HB1 := Aside0.mk (below_step HB0.out hb)
  have HN2 := Aside0.mk (blk_on hb HN1.out)
  clear hb q0 q1 q2 q3 HN1
  go_wp2_with fail
  refine (impl_FracOf.calls k m 1 n1 n2 true _ H2.out).mono ?_
  rintro x w2 ⟨rfl, hb⟩
  have HB2 := Aside0.mk (below_step HB1.out hb)
  have HN3 := Aside0.mk (blk_on hb HN2.out)
  have q0 : w2.cell? ⟨w.heap.size, 0, none⟩ = some (.int .i64 0) := (blk_cell HN3.out 0).trans rfl
  have q1 : w2.cell? ⟨w.heap.size, 1, none⟩ = some (.int .i64 0) := (blk_cell HN3.out 1).trans rfl
  have q2 := blk_frozen HN3.out 0
  have q3 := blk_frozen HN3.out 1
  clear hb HN2
  go_wp2_with fail
  refine bodyPost_ret (results_ct rfl _ _ w.heap.size 25 #[.int .i64 n1, .int .i64 n2] (0, 0) _ rfl (by refine blk_put (cs := #[.int .i64 n1, .int .i64 0]) ?_ 1 _ rfl; refine blk_put (cs := #[.int .i64 0, .int .i64 0]) ?_ 0 _ rfl; exact HN3.out) Tryd.underlying25 rfl (by kernel_rfl)) rfl ?_
  exact ⟨rfl, by refine below_set ?_ (Nat.le_refl _); refine below_set ?_ (Nat.le_refl _); exact HB2.out⟩
end
theorem boxes3 (w : World) (o1 o2 o3 : Obj) : Below w.heap.size w (((w.alloc o1).alloc o2).alloc o3) ∧ (((w.alloc o1).alloc o2).alloc o3).heap[w.heap.size]? = some o1 ∧
    (((w.alloc o1).alloc o2).alloc o3).heap[w.heap.size + 1]? = some o2 ∧ (((w.alloc o1).alloc o2).alloc o3).heap[w.heap.size + 1 + 1]? = some o3 := by
  have e1 : (w.alloc o1).heap.size = w.heap.size + 1 := Array.size_push _
  have e2 : ((w.alloc o1).alloc o2).heap.size = w.heap.size + 1 + 1 := (Array.size_push (xs := (w.alloc o1).heap) _).trans (congrArg (· + 1) e1)
  refine ⟨below_alloc (below_alloc (below_alloc (Below.refl _ _) _) _) _, ?_, ?_, ?_⟩
  · exact blk_alloc (blk_alloc (heap_alloc_new w o1) _) _
  · rw [← e1]; exact blk_alloc (heap_alloc_new _ o2) _
  · rw [← e2]; exact heap_alloc_new _ o3
@[local go_sem] theorem run_store_fn (P : Program) (w : World) (a : Addr) (m : Mode) (fn : Fn) (first captured : Array Value) : (store a (.func fn first captured) m).run P w = stored P w a (.func fn first captured) m := run_store P w a _ m rfl
@[local go_sem] theorem run_store_nofn (P : Program) (w : World) (a : Addr) (m : Mode) : (store a .nilFunc m).run P w = stored P w a .nilFunc m := run_store P w a _ m rfl
section
variable (a b c d e f : Int) (w : World)
set_option maxHeartbeats 1000000 in
set_option maxRecDepth 100000 in
theorem segFar_bad1 (h : impl_SegOk.f a b c d = some false) :
    Calls Tryd.prog 24 #[.agg #[.int .i64 a, .int .i64 b, .int .i64 c, .int .i64 d], .agg #[.int .i64 e, .int .i64 f]] w fun x w' => x = .returned (.agg #[.int .i64 0, .int .i64 0]) ∧ Below w.heap.size w w' := by
  have hu1 := Tryd.underlying40
  have hu2 := Tryd.underlying38
  have hu3 := Tryd.underlying25
  have HB := Aside0.mk (boxes3 w (.cells #[.int .i64 a, .int .i64 b, .int .i64 c, .int .i64 d] 40) (.cells #[.int .i64 e, .int .i64 f] 38) (.cells #[.int .i64 0, .int .i64 0] 25))
  have H := Aside0.mk h
  clear h
  go_enter Tryd.func24, Tryd.ntmps24
  go_wp2_with fail
  refine (impl_SegOk.calls a b c d false _ H.out).mono ?_
  rintro x w1 ⟨rfl, hb⟩
  have HS := Aside0.mk (blk_on hb HB.out.2.1)
  have HP := Aside0.mk (blk_on hb HB.out.2.2.1)
  have HR := Aside0.mk (blk_on hb HB.out.2.2.2)
  have HB1 := Aside0.mk (below_step HB.out.1 hb)
  clear hb
  have q0 : w1.cell? ⟨w.heap.size + 1 + 1, 0, none⟩ = some (.int .i64 0) := (blk_cell HR.out 0).trans rfl
  have q1 : w1.cell? ⟨w.heap.size + 1 + 1, 1, none⟩ = some (.int .i64 0) := (blk_cell HR.out 1).trans rfl
  have q2 := blk_frozen HR.out 0
  have q3 := blk_frozen HR.out 1
  go_wp2_with fail
  refine bodyPost_ret (results_cell_row rfl _ _ (w.heap.size + 1 + 1) 25 #[.int .i64 0, .int .i64 0] (0, 0) _ rfl (by refine blk_put (cs := #[.int .i64 0, .int .i64 0]) ?_ 1 _ rfl; refine blk_put (cs := #[.int .i64 0, .int .i64 0]) ?_ 0 _ rfl; exact HR.out) Tryd.underlying25 rfl (by kernel_rfl)) rfl ?_
  exact ⟨rfl, by refine below_set ?_ (by omega); refine below_set ?_ (by omega); exact HB1.out⟩
set_option maxHeartbeats 1000000 in
set_option maxRecDepth 100000 in
theorem segFar_bad2 (h : impl_SegOk.f a b c d = some true) (h' : impl_PtOk.f e f = some false) :
    Calls Tryd.prog 24 #[.agg #[.int .i64 a, .int .i64 b, .int .i64 c, .int .i64 d], .agg #[.int .i64 e, .int .i64 f]] w fun x w' => x = .returned (.agg #[.int .i64 0, .int .i64 0]) ∧ Below w.heap.size w w' := by
  have hu1 := Tryd.underlying40
  have hu2 := Tryd.underlying38
  have hu3 := Tryd.underlying25
  have HB := Aside0.mk (boxes3 w (.cells #[.int .i64 a, .int .i64 b, .int .i64 c, .int .i64 d] 40) (.cells #[.int .i64 e, .int .i64 f] 38) (.cells #[.int .i64 0, .int .i64 0] 25))
  have H := Aside0.mk h
  have H' := Aside0.mk h'
  clear h h'
  go_enter Tryd.func24, Tryd.ntmps24
  go_wp2_with fail
  refine (impl_SegOk.calls a b c d true _ H.out).mono ?_
  rintro x w1 ⟨rfl, hb⟩
  have HS := Aside0.mk (blk_on hb HB.out.2.1)
  have HP := Aside0.mk (blk_on hb HB.out.2.2.1)
  have HR := Aside0.mk (blk_on hb HB.out.2.2.2)
  have HB1 := Aside0.mk (below_step HB.out.1 hb)
  clear hb
  have q0 : w1.cell? ⟨w.heap.size + 1, 0, none⟩ = some (.int .i64 e) := (blk_cell HP.out 0).trans rfl
  have q1 : w1.cell? ⟨w.heap.size + 1, 1, none⟩ = some (.int .i64 f) := (blk_cell HP.out 1).trans rfl
  go_wp2_with fail
  refine (impl_PtOk.calls e f false _ H'.out).mono ?_
  rintro x w2 ⟨rfl, hb⟩
  have HS2 := Aside0.mk (blk_on hb HS.out)
  have HP2 := Aside0.mk (blk_on hb HP.out)
  have HR2 := Aside0.mk (blk_on hb HR.out)
  have HB2 := Aside0.mk (below_step HB1.out hb)
  clear hb q0 q1
  have q0 : w2.cell? ⟨w.heap.size + 1 + 1, 0, none⟩ = some (.int .i64 0) := (blk_cell HR2.out 0).trans rfl
  have q1 : w2.cell? ⟨w.heap.size + 1 + 1, 1, none⟩ = some (.int .i64 0) := (blk_cell HR2.out 1).trans rfl
  have q2 := blk_frozen HR2.out 0
  have q3 := blk_frozen HR2.out 1
  go_wp2_with fail
  refine bodyPost_ret (results_cell_row rfl _ _ (w.heap.size + 1 + 1) 25 #[.int .i64 0, .int .i64 0] (0, 0) _ rfl (by refine blk_put (cs := #[.int .i64 0, .int .i64 0]) ?_ 1 _ rfl; refine blk_put (cs := #[.int .i64 0, .int .i64 0]) ?_ 0 _ rfl; exact HR2.out) Tryd.underlying25 rfl (by kernel_rfl)) rfl ?_
  exact ⟨rfl, by refine below_set ?_ (by omega); refine below_set ?_ (by omega); exact HB2.out⟩
set_option maxHeartbeats 1000000 in
set_option maxRecDepth 100000 in
theorem segFar_way1 (k : Nat) {m t n1 n2 : Int} (h : impl_SegOk.f a b c d = some true) (h' : impl_PtOk.f e f = some true) (h2 : impl_standOf.f a b c d e f = some 0) (hw : impl_between.f a b e f = some m) (hf : impl_FracOf.f k m 1 = some (n1, n2, true)) :
    Calls Tryd.prog 24 #[.agg #[.int .i64 a, .int .i64 b, .int .i64 c, .int .i64 d], .agg #[.int .i64 e, .int .i64 f]] w fun x w' => x = .returned (.agg #[.int .i64 n1, .int .i64 n2]) ∧ Below w.heap.size w w' := by
  have hu1 := Tryd.underlying40
  have hu2 := Tryd.underlying38
  have hu3 := Tryd.underlying25
  have HB := Aside0.mk (boxes3 w (.cells #[.int .i64 a, .int .i64 b, .int .i64 c, .int .i64 d] 40) (.cells #[.int .i64 e, .int .i64 f] 38) (.cells #[.int .i64 0, .int .i64 0] 25))
  have H := Aside0.mk h
  have H' := Aside0.mk h'
  have H2 := Aside0.mk h2
  have HW := Aside0.mk hw
  have HF := Aside0.mk hf
  clear h h' h2 hw hf
  go_enter Tryd.func24, Tryd.ntmps24
  go_wp2_with fail
  refine (impl_SegOk.calls a b c d true _ H.out).mono ?_
  rintro x w1 ⟨rfl, hb⟩
  have HS := Aside0.mk (blk_on hb HB.out.2.1)
  have HP := Aside0.mk (blk_on hb HB.out.2.2.1)
  have HR := Aside0.mk (blk_on hb HB.out.2.2.2)
  have HB1 := Aside0.mk (below_step HB.out.1 hb)
  clear hb
  have q0 : w1.cell? ⟨w.heap.size + 1, 0, none⟩ = some (.int .i64 e) := (blk_cell HP.out 0).trans rfl
  have q1 : w1.cell? ⟨w.heap.size + 1, 1, none⟩ = some (.int .i64 f) := (blk_cell HP.out 1).trans rfl
  go_wp2_with fail
  refine (impl_PtOk.calls e f true _ H'.out).mono ?_
  rintro x w2 ⟨rfl, hb⟩
  have HS2 := Aside0.mk (blk_on hb HS.out)
  have HP2 := Aside0.mk (blk_on hb HP.out)
  have HR2 := Aside0.mk (blk_on hb HR.out)
  have HB2 := Aside0.mk (below_step HB1.out hb)
  clear hb q0 q1
  have q0 : ∀ o, (w2.alloc o).cell? ⟨w.heap.size, 0, none⟩ = some (.int .i64 a) := fun o => (blk_cell (blk_alloc HS2.out o) 0).trans rfl
  have q1 : ∀ o, (w2.alloc o).cell? ⟨w.heap.size, 1, none⟩ = some (.int .i64 b) := fun o => (blk_cell (blk_alloc HS2.out o) 1).trans rfl
  have q2 : ∀ o, (w2.alloc o).cell? ⟨w.heap.size, 2, none⟩ = some (.int .i64 c) := fun o => (blk_cell (blk_alloc HS2.out o) 2).trans rfl
  have q3 : ∀ o, (w2.alloc o).cell? ⟨w.heap.size, 3, none⟩ = some (.int .i64 d) := fun o => (blk_cell (blk_alloc HS2.out o) 3).trans rfl
  have q4 : ∀ o, (w2.alloc o).cell? ⟨w.heap.size + 1, 0, none⟩ = some (.int .i64 e) := fun o => (blk_cell (blk_alloc HP2.out o) 0).trans rfl
  have q5 : ∀ o, (w2.alloc o).cell? ⟨w.heap.size + 1, 1, none⟩ = some (.int .i64 f) := fun o => (blk_cell (blk_alloc HP2.out o) 1).trans rfl
  have HQ := Aside0.mk (heap_alloc_new w2 (.cells #[.nilFunc, .nilFunc, .nilFunc] 80))
  have r0 : (w2.alloc (.cells #[.nilFunc, .nilFunc, .nilFunc] 80)).cell? ⟨w2.heap.size, 0, none⟩ = some .nilFunc := (blk_cell HQ.out 0).trans rfl
  have s0 := blk_frozen HQ.out 0
  have r1 : (w2.alloc (.cells #[.nilFunc, .nilFunc, .nilFunc] 80)).cell? ⟨w2.heap.size, 1, none⟩ = some .nilFunc := (blk_cell HQ.out 1).trans rfl
  have s1 := blk_frozen HQ.out 1
  have r2 : (w2.alloc (.cells #[.nilFunc, .nilFunc, .nilFunc] 80)).cell? ⟨w2.heap.size, 2, none⟩ = some .nilFunc := (blk_cell HQ.out 2).trans rfl
  have s2 := blk_frozen HQ.out 2
  go_wp2_with fail
  refine (impl_standOf.calls a b c d e f 0 _ H2.out).mono ?_
  rintro x w3 ⟨rfl, hb⟩
  have HK := Aside0.mk (blk_on hb (heap_alloc_new w2 (.cells #[.func (.func 53) #[] #[.pointer (some ⟨w.heap.size, 0, none⟩), .pointer (some ⟨w.heap.size + 1, 0, none⟩)], .func (.func 55) #[] #[.pointer (some ⟨w.heap.size, 0, none⟩), .pointer (some ⟨w.heap.size + 1, 0, none⟩)], .func (.func 57) #[] #[.pointer (some ⟨w.heap.size, 0, none⟩), .pointer (some ⟨w.heap.size + 1, 0, none⟩)]] 80)))
  have HS3 := Aside0.mk (blk_on hb (blk_alloc HS2.out (.cells #[.func (.func 53) #[] #[.pointer (some ⟨w.heap.size, 0, none⟩), .pointer (some ⟨w.heap.size + 1, 0, none⟩)], .func (.func 55) #[] #[.pointer (some ⟨w.heap.size, 0, none⟩), .pointer (some ⟨w.heap.size + 1, 0, none⟩)], .func (.func 57) #[] #[.pointer (some ⟨w.heap.size, 0, none⟩), .pointer (some ⟨w.heap.size + 1, 0, none⟩)]] 80)))
  have HP3 := Aside0.mk (blk_on hb (blk_alloc HP2.out (.cells #[.func (.func 53) #[] #[.pointer (some ⟨w.heap.size, 0, none⟩), .pointer (some ⟨w.heap.size + 1, 0, none⟩)], .func (.func 55) #[] #[.pointer (some ⟨w.heap.size, 0, none⟩), .pointer (some ⟨w.heap.size + 1, 0, none⟩)], .func (.func 57) #[] #[.pointer (some ⟨w.heap.size, 0, none⟩), .pointer (some ⟨w.heap.size + 1, 0, none⟩)]] 80)))
  have HR3 := Aside0.mk (blk_on hb (blk_alloc HR2.out (.cells #[.func (.func 53) #[] #[.pointer (some ⟨w.heap.size, 0, none⟩), .pointer (some ⟨w.heap.size + 1, 0, none⟩)], .func (.func 55) #[] #[.pointer (some ⟨w.heap.size, 0, none⟩), .pointer (some ⟨w.heap.size + 1, 0, none⟩)], .func (.func 57) #[] #[.pointer (some ⟨w.heap.size, 0, none⟩), .pointer (some ⟨w.heap.size + 1, 0, none⟩)]] 80)))
  have HB3 := Aside0.mk (below_step (below_alloc HB2.out (.cells #[.func (.func 53) #[] #[.pointer (some ⟨w.heap.size, 0, none⟩), .pointer (some ⟨w.heap.size + 1, 0, none⟩)], .func (.func 55) #[] #[.pointer (some ⟨w.heap.size, 0, none⟩), .pointer (some ⟨w.heap.size + 1, 0, none⟩)], .func (.func 57) #[] #[.pointer (some ⟨w.heap.size, 0, none⟩), .pointer (some ⟨w.heap.size + 1, 0, none⟩)]] 80)) hb)
  clear hb q0 q1 q2 q3 q4 q5 r0 r1 r2 s0 s1 s2 HQ
  have q0 : w3.cell? ⟨w2.heap.size, 0, none⟩ = some (.func (.func 53) #[] #[.pointer (some ⟨w.heap.size, 0, none⟩), .pointer (some ⟨w.heap.size + 1, 0, none⟩)]) := (blk_cell HK.out 0).trans rfl
  go_wp2_with fail
  refine (far1 w.heap.size (w.heap.size + 1) a b c d e f w3 k HS3.out HP3.out HW.out HF.out).mono ?_
  rintro x w4 ⟨rfl, hb⟩
  have HR4 := Aside0.mk (blk_on hb HR3.out)
  have HB4 := Aside0.mk (below_step HB3.out hb)
  clear hb q0
  have HN := Aside0.mk (heap_alloc_new w4 (.cells #[.int .i64 0, .int .i64 0] 25))
  have u0 : (w4.alloc (.cells #[.int .i64 0, .int .i64 0] 25)).cell? ⟨w4.heap.size, 0, none⟩ = some (.int .i64 0) := (blk_cell HN.out 0).trans rfl
  have u1 : (w4.alloc (.cells #[.int .i64 0, .int .i64 0] 25)).cell? ⟨w4.heap.size, 1, none⟩ = some (.int .i64 0) := (blk_cell HN.out 1).trans rfl
  have u2 := blk_frozen HN.out 0
  have u3 := blk_frozen HN.out 1
  have q0 : ∀ o, (w4.alloc o).cell? ⟨w.heap.size + 1 + 1, 0, none⟩ = some (.int .i64 0) := fun o => (blk_cell (blk_alloc HR4.out o) 0).trans rfl
  have q1 : ∀ o, (w4.alloc o).cell? ⟨w.heap.size + 1 + 1, 1, none⟩ = some (.int .i64 0) := fun o => (blk_cell (blk_alloc HR4.out o) 1).trans rfl
  have q2 := fun o => blk_frozen (blk_alloc HR4.out o) 0
  have q3 := fun o => blk_frozen (blk_alloc HR4.out o) 1
  go_wp2_with fail
  refine bodyPost_ret (results_cell_row rfl _ _ (w.heap.size + 1 + 1) 25 #[.int .i64 n1, .int .i64 n2] (0, 0) _ rfl (by refine blk_put (cs := #[.int .i64 n1, .int .i64 0]) ?_ 1 _ rfl; refine blk_put (cs := #[.int .i64 0, .int .i64 0]) ?_ 0 _ rfl; exact blk_alloc HR4.out _) Tryd.underlying25 rfl (by kernel_rfl)) rfl ?_
  exact ⟨rfl, by refine below_set ?_ (by omega); refine below_set ?_ (by omega); exact below_alloc HB4.out _⟩
set_option maxHeartbeats 1000000 in
set_option maxRecDepth 100000 in
theorem segFar_way2 (k : Nat) {m t n1 n2 : Int} (h : impl_SegOk.f a b c d = some true) (h' : impl_PtOk.f e f = some true) (h2 : impl_standOf.f a b c d e f = some 1) (hv : impl_cross.f a b c d e f = some t) (hw : impl_between.f a b c d = some m) (hf : impl_FracOf.f k (wrap64 (t * t)) m = some (n1, n2, true)) :
    Calls Tryd.prog 24 #[.agg #[.int .i64 a, .int .i64 b, .int .i64 c, .int .i64 d], .agg #[.int .i64 e, .int .i64 f]] w fun x w' => x = .returned (.agg #[.int .i64 n1, .int .i64 n2]) ∧ Below w.heap.size w w' := by
  have hu1 := Tryd.underlying40
  have hu2 := Tryd.underlying38
  have hu3 := Tryd.underlying25
  have HB := Aside0.mk (boxes3 w (.cells #[.int .i64 a, .int .i64 b, .int .i64 c, .int .i64 d] 40) (.cells #[.int .i64 e, .int .i64 f] 38) (.cells #[.int .i64 0, .int .i64 0] 25))
  have H := Aside0.mk h
  have H' := Aside0.mk h'
  have H2 := Aside0.mk h2
  have HW := Aside0.mk hw
  have HF := Aside0.mk hf
  clear h h' h2 hw hf
  have HV := Aside0.mk hv
  clear hv
  go_enter Tryd.func24, Tryd.ntmps24
  go_wp2_with fail
  refine (impl_SegOk.calls a b c d true _ H.out).mono ?_
  rintro x w1 ⟨rfl, hb⟩
  have HS := Aside0.mk (blk_on hb HB.out.2.1)
  have HP := Aside0.mk (blk_on hb HB.out.2.2.1)
  have HR := Aside0.mk (blk_on hb HB.out.2.2.2)
  have HB1 := Aside0.mk (below_step HB.out.1 hb)
  clear hb
  have q0 : w1.cell? ⟨w.heap.size + 1, 0, none⟩ = some (.int .i64 e) := (blk_cell HP.out 0).trans rfl
  have q1 : w1.cell? ⟨w.heap.size + 1, 1, none⟩ = some (.int .i64 f) := (blk_cell HP.out 1).trans rfl
  go_wp2_with fail
  refine (impl_PtOk.calls e f true _ H'.out).mono ?_
  rintro x w2 ⟨rfl, hb⟩
  have HS2 := Aside0.mk (blk_on hb HS.out)
  have HP2 := Aside0.mk (blk_on hb HP.out)
  have HR2 := Aside0.mk (blk_on hb HR.out)
  have HB2 := Aside0.mk (below_step HB1.out hb)
  clear hb q0 q1
  have q0 : ∀ o, (w2.alloc o).cell? ⟨w.heap.size, 0, none⟩ = some (.int .i64 a) := fun o => (blk_cell (blk_alloc HS2.out o) 0).trans rfl
  have q1 : ∀ o, (w2.alloc o).cell? ⟨w.heap.size, 1, none⟩ = some (.int .i64 b) := fun o => (blk_cell (blk_alloc HS2.out o) 1).trans rfl
  have q2 : ∀ o, (w2.alloc o).cell? ⟨w.heap.size, 2, none⟩ = some (.int .i64 c) := fun o => (blk_cell (blk_alloc HS2.out o) 2).trans rfl
  have q3 : ∀ o, (w2.alloc o).cell? ⟨w.heap.size, 3, none⟩ = some (.int .i64 d) := fun o => (blk_cell (blk_alloc HS2.out o) 3).trans rfl
  have q4 : ∀ o, (w2.alloc o).cell? ⟨w.heap.size + 1, 0, none⟩ = some (.int .i64 e) := fun o => (blk_cell (blk_alloc HP2.out o) 0).trans rfl
  have q5 : ∀ o, (w2.alloc o).cell? ⟨w.heap.size + 1, 1, none⟩ = some (.int .i64 f) := fun o => (blk_cell (blk_alloc HP2.out o) 1).trans rfl
  have HQ := Aside0.mk (heap_alloc_new w2 (.cells #[.nilFunc, .nilFunc, .nilFunc] 80))
  have r0 : (w2.alloc (.cells #[.nilFunc, .nilFunc, .nilFunc] 80)).cell? ⟨w2.heap.size, 0, none⟩ = some .nilFunc := (blk_cell HQ.out 0).trans rfl
  have s0 := blk_frozen HQ.out 0
  have r1 : (w2.alloc (.cells #[.nilFunc, .nilFunc, .nilFunc] 80)).cell? ⟨w2.heap.size, 1, none⟩ = some .nilFunc := (blk_cell HQ.out 1).trans rfl
  have s1 := blk_frozen HQ.out 1
  have r2 : (w2.alloc (.cells #[.nilFunc, .nilFunc, .nilFunc] 80)).cell? ⟨w2.heap.size, 2, none⟩ = some .nilFunc := (blk_cell HQ.out 2).trans rfl
  have s2 := blk_frozen HQ.out 2
  go_wp2_with fail
  refine (impl_standOf.calls a b c d e f 1 _ H2.out).mono ?_
  rintro x w3 ⟨rfl, hb⟩
  have HK := Aside0.mk (blk_on hb (heap_alloc_new w2 (.cells #[.func (.func 53) #[] #[.pointer (some ⟨w.heap.size, 0, none⟩), .pointer (some ⟨w.heap.size + 1, 0, none⟩)], .func (.func 55) #[] #[.pointer (some ⟨w.heap.size, 0, none⟩), .pointer (some ⟨w.heap.size + 1, 0, none⟩)], .func (.func 57) #[] #[.pointer (some ⟨w.heap.size, 0, none⟩), .pointer (some ⟨w.heap.size + 1, 0, none⟩)]] 80)))
  have HS3 := Aside0.mk (blk_on hb (blk_alloc HS2.out (.cells #[.func (.func 53) #[] #[.pointer (some ⟨w.heap.size, 0, none⟩), .pointer (some ⟨w.heap.size + 1, 0, none⟩)], .func (.func 55) #[] #[.pointer (some ⟨w.heap.size, 0, none⟩), .pointer (some ⟨w.heap.size + 1, 0, none⟩)], .func (.func 57) #[] #[.pointer (some ⟨w.heap.size, 0, none⟩), .pointer (some ⟨w.heap.size + 1, 0, none⟩)]] 80)))
  have HP3 := Aside0.mk (blk_on hb (blk_alloc HP2.out (.cells #[.func (.func 53) #[] #[.pointer (some ⟨w.heap.size, 0, none⟩), .pointer (some ⟨w.heap.size + 1, 0, none⟩)], .func (.func 55) #[] #[.pointer (some ⟨w.heap.size, 0, none⟩), .pointer (some ⟨w.heap.size + 1, 0, none⟩)], .func (.func 57) #[] #[.pointer (some ⟨w.heap.size, 0, none⟩), .pointer (some ⟨w.heap.size + 1, 0, none⟩)]] 80)))
  have HR3 := Aside0.mk (blk_on hb (blk_alloc HR2.out (.cells #[.func (.func 53) #[] #[.pointer (some ⟨w.heap.size, 0, none⟩), .pointer (some ⟨w.heap.size + 1, 0, none⟩)], .func (.func 55) #[] #[.pointer (some ⟨w.heap.size, 0, none⟩), .pointer (some ⟨w.heap.size + 1, 0, none⟩)], .func (.func 57) #[] #[.pointer (some ⟨w.heap.size, 0, none⟩), .pointer (some ⟨w.heap.size + 1, 0, none⟩)]] 80)))
  have HB3 := Aside0.mk (below_step (below_alloc HB2.out (.cells #[.func (.func 53) #[] #[.pointer (some ⟨w.heap.size, 0, none⟩), .pointer (some ⟨w.heap.size + 1, 0, none⟩)], .func (.func 55) #[] #[.pointer (some ⟨w.heap.size, 0, none⟩), .pointer (some ⟨w.heap.size + 1, 0, none⟩)], .func (.func 57) #[] #[.pointer (some ⟨w.heap.size, 0, none⟩), .pointer (some ⟨w.heap.size + 1, 0, none⟩)]] 80)) hb)
  clear hb q0 q1 q2 q3 q4 q5 r0 r1 r2 s0 s1 s2 HQ
  have q0 : w3.cell? ⟨w2.heap.size, 1, none⟩ = some (.func (.func 55) #[] #[.pointer (some ⟨w.heap.size, 0, none⟩), .pointer (some ⟨w.heap.size + 1, 0, none⟩)]) := (blk_cell HK.out 1).trans rfl
  go_wp2_with fail
  refine (far2 w.heap.size (w.heap.size + 1) a b c d e f w3 k HS3.out HP3.out HV.out HW.out HF.out).mono ?_
  rintro x w4 ⟨rfl, hb⟩
  have HR4 := Aside0.mk (blk_on hb HR3.out)
  have HB4 := Aside0.mk (below_step HB3.out hb)
  clear hb q0
  have HN := Aside0.mk (heap_alloc_new w4 (.cells #[.int .i64 0, .int .i64 0] 25))
  have u0 : (w4.alloc (.cells #[.int .i64 0, .int .i64 0] 25)).cell? ⟨w4.heap.size, 0, none⟩ = some (.int .i64 0) := (blk_cell HN.out 0).trans rfl
  have u1 : (w4.alloc (.cells #[.int .i64 0, .int .i64 0] 25)).cell? ⟨w4.heap.size, 1, none⟩ = some (.int .i64 0) := (blk_cell HN.out 1).trans rfl
  have u2 := blk_frozen HN.out 0
  have u3 := blk_frozen HN.out 1
  have q0 : ∀ o, (w4.alloc o).cell? ⟨w.heap.size + 1 + 1, 0, none⟩ = some (.int .i64 0) := fun o => (blk_cell (blk_alloc HR4.out o) 0).trans rfl
  have q1 : ∀ o, (w4.alloc o).cell? ⟨w.heap.size + 1 + 1, 1, none⟩ = some (.int .i64 0) := fun o => (blk_cell (blk_alloc HR4.out o) 1).trans rfl
  have q2 := fun o => blk_frozen (blk_alloc HR4.out o) 0
  have q3 := fun o => blk_frozen (blk_alloc HR4.out o) 1
  go_wp2_with fail
  refine bodyPost_ret (results_cell_row rfl _ _ (w.heap.size + 1 + 1) 25 #[.int .i64 n1, .int .i64 n2] (0, 0) _ rfl (by refine blk_put (cs := #[.int .i64 n1, .int .i64 0]) ?_ 1 _ rfl; refine blk_put (cs := #[.int .i64 0, .int .i64 0]) ?_ 0 _ rfl; exact blk_alloc HR4.out _) Tryd.underlying25 rfl (by kernel_rfl)) rfl ?_
  exact ⟨rfl, by refine below_set ?_ (by omega); refine below_set ?_ (by omega); exact below_alloc HB4.out _⟩
set_option maxHeartbeats 1000000 in
set_option maxRecDepth 100000 in
theorem segFar_way3 (k : Nat) {m t n1 n2 : Int} (h : impl_SegOk.f a b c d = some true) (h' : impl_PtOk.f e f = some true) (h2 : impl_standOf.f a b c d e f = some 2) (hw : impl_between.f c d e f = some m) (hf : impl_FracOf.f k m 1 = some (n1, n2, true)) :
    Calls Tryd.prog 24 #[.agg #[.int .i64 a, .int .i64 b, .int .i64 c, .int .i64 d], .agg #[.int .i64 e, .int .i64 f]] w fun x w' => x = .returned (.agg #[.int .i64 n1, .int .i64 n2]) ∧ Below w.heap.size w w' := by
  have hu1 := Tryd.underlying40
  have hu2 := Tryd.underlying38
  have hu3 := Tryd.underlying25
  have HB := Aside0.mk (boxes3 w (.cells #[.int .i64 a, .int .i64 b, .int .i64 c, .int .i64 d] 40) (.cells #[.int .i64 e, .int .i64 f] 38) (.cells #[.int .i64 0, .int .i64 0] 25))
  have H := Aside0.mk h
  have H' := Aside0.mk h'
  have H2 := Aside0.mk h2
  have HW := Aside0.mk hw
  have HF := Aside0.mk hf
  clear h h' h2 hw hf
  go_enter Tryd.func24, Tryd.ntmps24
  go_wp2_with fail
  refine (impl_SegOk.calls a b c d true _ H.out).mono ?_
  rintro x w1 ⟨rfl, hb⟩
  have HS := Aside0.mk (blk_on hb HB.out.2.1)
  have HP := Aside0.mk (blk_on hb HB.out.2.2.1)
  have HR := Aside0.mk (blk_on hb HB.out.2.2.2)
  have HB1 := Aside0.mk (below_step HB.out.1 hb)
  clear hb
  have q0 : w1.cell? ⟨w.heap.size + 1, 0, none⟩ = some (.int .i64 e) := (blk_cell HP.out 0).trans rfl
  have q1 : w1.cell? ⟨w.heap.size + 1, 1, none⟩ = some (.int .i64 f) := (blk_cell HP.out 1).trans rfl
  go_wp2_with fail
  refine (impl_PtOk.calls e f true _ H'.out).mono ?_
  rintro x w2 ⟨rfl, hb⟩
  have HS2 := Aside0.mk (blk_on hb HS.out)
  have HP2 := Aside0.mk (blk_on hb HP.out)
  have HR2 := Aside0.mk (blk_on hb HR.out)
  have HB2 := Aside0.mk (below_step HB1.out hb)
  clear hb q0 q1
  have q0 : ∀ o, (w2.alloc o).cell? ⟨w.heap.size, 0, none⟩ = some (.int .i64 a) := fun o => (blk_cell (blk_alloc HS2.out o) 0).trans rfl
  have q1 : ∀ o, (w2.alloc o).cell? ⟨w.heap.size, 1, none⟩ = some (.int .i64 b) := fun o => (blk_cell (blk_alloc HS2.out o) 1).trans rfl
  have q2 : ∀ o, (w2.alloc o).cell? ⟨w.heap.size, 2, none⟩ = some (.int .i64 c) := fun o => (blk_cell (blk_alloc HS2.out o) 2).trans rfl
  have q3 : ∀ o, (w2.alloc o).cell? ⟨w.heap.size, 3, none⟩ = some (.int .i64 d) := fun o => (blk_cell (blk_alloc HS2.out o) 3).trans rfl
  have q4 : ∀ o, (w2.alloc o).cell? ⟨w.heap.size + 1, 0, none⟩ = some (.int .i64 e) := fun o => (blk_cell (blk_alloc HP2.out o) 0).trans rfl
  have q5 : ∀ o, (w2.alloc o).cell? ⟨w.heap.size + 1, 1, none⟩ = some (.int .i64 f) := fun o => (blk_cell (blk_alloc HP2.out o) 1).trans rfl
  have HQ := Aside0.mk (heap_alloc_new w2 (.cells #[.nilFunc, .nilFunc, .nilFunc] 80))
  have r0 : (w2.alloc (.cells #[.nilFunc, .nilFunc, .nilFunc] 80)).cell? ⟨w2.heap.size, 0, none⟩ = some .nilFunc := (blk_cell HQ.out 0).trans rfl
  have s0 := blk_frozen HQ.out 0
  have r1 : (w2.alloc (.cells #[.nilFunc, .nilFunc, .nilFunc] 80)).cell? ⟨w2.heap.size, 1, none⟩ = some .nilFunc := (blk_cell HQ.out 1).trans rfl
  have s1 := blk_frozen HQ.out 1
  have r2 : (w2.alloc (.cells #[.nilFunc, .nilFunc, .nilFunc] 80)).cell? ⟨w2.heap.size, 2, none⟩ = some .nilFunc := (blk_cell HQ.out 2).trans rfl
  have s2 := blk_frozen HQ.out 2
  go_wp2_with fail
  refine (impl_standOf.calls a b c d e f 2 _ H2.out).mono ?_
  rintro x w3 ⟨rfl, hb⟩
  have HK := Aside0.mk (blk_on hb (heap_alloc_new w2 (.cells #[.func (.func 53) #[] #[.pointer (some ⟨w.heap.size, 0, none⟩), .pointer (some ⟨w.heap.size + 1, 0, none⟩)], .func (.func 55) #[] #[.pointer (some ⟨w.heap.size, 0, none⟩), .pointer (some ⟨w.heap.size + 1, 0, none⟩)], .func (.func 57) #[] #[.pointer (some ⟨w.heap.size, 0, none⟩), .pointer (some ⟨w.heap.size + 1, 0, none⟩)]] 80)))
  have HS3 := Aside0.mk (blk_on hb (blk_alloc HS2.out (.cells #[.func (.func 53) #[] #[.pointer (some ⟨w.heap.size, 0, none⟩), .pointer (some ⟨w.heap.size + 1, 0, none⟩)], .func (.func 55) #[] #[.pointer (some ⟨w.heap.size, 0, none⟩), .pointer (some ⟨w.heap.size + 1, 0, none⟩)], .func (.func 57) #[] #[.pointer (some ⟨w.heap.size, 0, none⟩), .pointer (some ⟨w.heap.size + 1, 0, none⟩)]] 80)))
  have HP3 := Aside0.mk (blk_on hb (blk_alloc HP2.out (.cells #[.func (.func 53) #[] #[.pointer (some ⟨w.heap.size, 0, none⟩), .pointer (some ⟨w.heap.size + 1, 0, none⟩)], .func (.func 55) #[] #[.pointer (some ⟨w.heap.size, 0, none⟩), .pointer (some ⟨w.heap.size + 1, 0, none⟩)], .func (.func 57) #[] #[.pointer (some ⟨w.heap.size, 0, none⟩), .pointer (some ⟨w.heap.size + 1, 0, none⟩)]] 80)))
  have HR3 := Aside0.mk (blk_on hb (blk_alloc HR2.out (.cells #[.func (.func 53) #[] #[.pointer (some ⟨w.heap.size, 0, none⟩), .pointer (some ⟨w.heap.size + 1, 0, none⟩)], .func (.func 55) #[] #[.pointer (some ⟨w.heap.size, 0, none⟩), .pointer (some ⟨w.heap.size + 1, 0, none⟩)], .func (.func 57) #[] #[.pointer (some ⟨w.heap.size, 0, none⟩), .pointer (some ⟨w.heap.size + 1, 0, none⟩)]] 80)))
  have HB3 := Aside0.mk (below_step (below_alloc HB2.out (.cells #[.func (.func 53) #[] #[.pointer (some ⟨w.heap.size, 0, none⟩), .pointer (some ⟨w.heap.size + 1, 0, none⟩)], .func (.func 55) #[] #[.pointer (some ⟨w.heap.size, 0, none⟩), .pointer (some ⟨w.heap.size + 1, 0, none⟩)], .func (.func 57) #[] #[.pointer (some ⟨w.heap.size, 0, none⟩), .pointer (some ⟨w.heap.size + 1, 0, none⟩)]] 80)) hb)
  clear hb q0 q1 q2 q3 q4 q5 r0 r1 r2 s0 s1 s2 HQ
  have q0 : w3.cell? ⟨w2.heap.size, 2, none⟩ = some (.func (.func 57) #[] #[.pointer (some ⟨w.heap.size, 0, none⟩), .pointer (some ⟨w.heap.size + 1, 0, none⟩)]) := (blk_cell HK.out 2).trans rfl
  go_wp2_with fail
  refine (far3 w.heap.size (w.heap.size + 1) a b c d e f w3 k HS3.out HP3.out HW.out HF.out).mono ?_
  rintro x w4 ⟨rfl, hb⟩
  have HR4 := Aside0.mk (blk_on hb HR3.out)
  have HB4 := Aside0.mk (below_step HB3.out hb)
  clear hb q0
  have HN := Aside0.mk (heap_alloc_new w4 (.cells #[.int .i64 0, .int .i64 0] 25))
  have u0 : (w4.alloc (.cells #[.int .i64 0, .int .i64 0] 25)).cell? ⟨w4.heap.size, 0, none⟩ = some (.int .i64 0) := (blk_cell HN.out 0).trans rfl
  have u1 : (w4.alloc (.cells #[.int .i64 0, .int .i64 0] 25)).cell? ⟨w4.heap.size, 1, none⟩ = some (.int .i64 0) := (blk_cell HN.out 1).trans rfl
  have u2 := blk_frozen HN.out 0
  have u3 := blk_frozen HN.out 1
  have q0 : ∀ o, (w4.alloc o).cell? ⟨w.heap.size + 1 + 1, 0, none⟩ = some (.int .i64 0) := fun o => (blk_cell (blk_alloc HR4.out o) 0).trans rfl
  have q1 : ∀ o, (w4.alloc o).cell? ⟨w.heap.size + 1 + 1, 1, none⟩ = some (.int .i64 0) := fun o => (blk_cell (blk_alloc HR4.out o) 1).trans rfl
  have q2 := fun o => blk_frozen (blk_alloc HR4.out o) 0
  have q3 := fun o => blk_frozen (blk_alloc HR4.out o) 1
  go_wp2_with fail
  refine bodyPost_ret (results_cell_row rfl _ _ (w.heap.size + 1 + 1) 25 #[.int .i64 n1, .int .i64 n2] (0, 0) _ rfl (by refine blk_put (cs := #[.int .i64 n1, .int .i64 0]) ?_ 1 _ rfl; refine blk_put (cs := #[.int .i64 0, .int .i64 0]) ?_ 0 _ rfl; exact blk_alloc HR4.out _) Tryd.underlying25 rfl (by kernel_rfl)) rfl ?_
  exact ⟨rfl, by refine below_set ?_ (by omega); refine below_set ?_ (by omega); exact below_alloc HB4.out _⟩
end
def impl_SegFar.f (a b c d e f : Int) : Option (Int × Int) := some ((segFar ((a, b), (c, d)) (e, f)).1, (segFar ((a, b), (c, d)) (e, f)).2)
theorem impl_SegFar.calls (a b c d e f r1 r2 : Int) (w : World) (h : impl_SegFar.f a b c d e f = some (r1, r2)) :
    Calls Tryd.prog 24 #[.agg #[.int .i64 a, .int .i64 b, .int .i64 c, .int .i64 d], .agg #[.int .i64 e, .int .i64 f]] w fun x w' => x = .returned (.agg #[.int .i64 r1, .int .i64 r2]) ∧ Below w.heap.size w w' := by
  unfold impl_SegFar.f at h
  simp only [Option.some.injEq, Prod.mk.injEq] at h
  obtain ⟨rfl, rfl⟩ := h
  unfold segFar
  cases hs : segOk ((a, b), (c, d)) with
  | false => exact segFar_bad1 a b c d e f w ((iSegOk a b c d).trans (congrArg some hs))
  | true =>
    have h1 := (iSegOk a b c d).trans (congrArg some hs)
    cases hp : ptOk (e, f) with
    | false => exact segFar_bad2 a b c d e f w h1 ((iPtOk e f).trans (congrArg some hp))
    | true =>
      have h2 := (iPtOk e f).trans (congrArg some hp)
      obtain ⟨o1, o2⟩ := segOk_ends hs
      have h3 := iStandOf hs hp
      have hin := far_inR hs hp
      simp only [Bool.and_self, if_true]
      unfold far at hin ⊢
      by_cases z : dot (a, b) (c, d) (e, f) ≤ 0
      · rw [if_pos z] at h3 hin ⊢
        rw [red_whole (dot_self_nn _ _) (Int.le_trans (dot_bound o1 hp hp).2 (by decide))]
        exact segFar_way1 (t := 0) a b c d e f w 100000 h1 h2 h3 (iBetween o1 hp) (iFracOf1 (Nat.le_refl _) (dot_self_nn _ _) (Int.le_trans (dot_bound o1 hp hp).2 (by decide)))
      · rw [if_neg z] at h3 hin ⊢
        by_cases z' : dot (a, b) (c, d) (c, d) ≤ dot (a, b) (c, d) (e, f)
        · rw [if_pos z'] at h3 hin ⊢
          rw [red_whole (dot_self_nn _ _) (Int.le_trans (dot_bound o2 hp hp).2 (by decide))]
          exact segFar_way3 (t := 0) a b c d e f w 100000 h1 h2 h3 (iBetween o2 hp) (iFracOf1 (Nat.le_refl _) (dot_self_nn _ _) (Int.le_trans (dot_bound o2 hp hp).2 (by decide)))
        · rw [if_neg z'] at h3 hin ⊢
          have hc := cross_bound o1 o2 hp
          have hq := sq_bound hc.1 hc.2
          have hq' := isq_nn (cross (a, b) (c, d) (e, f))
          exact segFar_way2 a b c d e f w 100000 h1 h2 h3 (iCross o1 o2 hp) (iBetween o1 o2) (by rw [w64 (x := cross (a, b) (c, d) (e, f) * cross (a, b) (c, d) (e, f)) (by omega) (by omega)]; exact iFracOf (Nat.le_refl _) hin)
end Go.Proofs.YtnponnkcfgjeoaaDoor.X
end
section
set_option linter.unusedVariables false
set_option linter.unusedSimpArgs false
namespace Go.Proofs.YtnponnkcfgjeoaaDoor.X
open Go.RowKit Go.Proofs.YtnponnkcfgjeoaaDoorW.PrintWords Go.Proofs.YtnponnkcfgjeoaaDoorW.PrintLast Go.Proofs.YtnponnkcfgjeoaaDoorW.PrintMore
open Mort
def apT6 : Bool × List (List Nat × List Nat) := (true, [([], []), ([], []), ([1], [1]), ([0, 2], [0, 2]), ([], []), ([], []), ([5], [5]), ([4, 6, 3], [4, 6]), ([], []), ([], []), ([9], [9]), ([8, 10, 7], [8, 10]), ([3, 7, 11], [3, 7, 11]), ([], [])])
def apB6 : List Nat := [0, 0, 2, 7, 0, 0, 32, 127, 0, 0, 512, 2047, 4095, 0]
theorem apTab6 : rtab .any (opsOf Tryd.f33 6) = apT6 := by kernel_rfl
theorem apBits6 : waitsOk apT6.2 apB6 = true := by kernel_rfl
theorem apIdx0 (w : World) (p q r s t u : Value) : (Instr.index 83 (.agg #[p, q, r, s, t, u]) (.int .i64 0)).run Tryd.prog w = .ok (.agg #[p, q]) w := by
  simp [Instr.index, run_underlying Tryd.underlying83, asIntOf, go_sem]
theorem apIdx1 (w : World) (p q r s t u : Value) : (Instr.index 83 (.agg #[p, q, r, s, t, u]) (.int .i64 1)).run Tryd.prog w = .ok (.agg #[r, s]) w := by
  simp [Instr.index, run_underlying Tryd.underlying83, asIntOf, go_sem]
theorem apIdx2 (w : World) (p q r s t u : Value) : (Instr.index 83 (.agg #[p, q, r, s, t, u]) (.int .i64 2)).run Tryd.prog w = .ok (.agg #[t, u]) w := by
  simp [Instr.index, run_underlying Tryd.underlying83, asIntOf, go_sem]
/-- the nearer of two -/
def pickL (m f : Frac) : Frac := if fracCmp f m < 0 then f else m
theorem pick_lt {m f p : Frac} (e : m = p) (h : fracCmp f m < 0) : f = pickL p f := by subst e; unfold pickL; rw [if_pos h]
theorem pick_ge {m f p : Frac} (e : m = p) (h : ¬ fracCmp f m < 0) : m = pickL p f := by subst e; unfold pickL; rw [if_neg h]
def foldP (f0 f1 f2 f3 : Frac) : Nat → Frac
  | 0 => f0
  | 1 => pickL f0 f1
  | 2 => pickL (pickL f0 f1) f2
  | _ => pickL (pickL (pickL f0 f1) f2) f3
section
variable (a b c d e f g h : Int) (w : World)
set_option maxHeartbeats 1000000 in
set_option maxRecDepth 100000 in
theorem segApart_bad1 (hh : impl_SegOk.f a b c d = some false) :
    Calls Tryd.prog 33 #[.agg #[.int .i64 a, .int .i64 b, .int .i64 c, .int .i64 d], .agg #[.int .i64 e, .int .i64 f, .int .i64 g, .int .i64 h]] w fun x w' => x = .returned (.agg #[.int .i64 0, .int .i64 0]) ∧ Below w.heap.size w w' := by
  have hu1 := Tryd.underlying40
  have hu2 := Tryd.underlying38
  have hu3 := Tryd.underlying25
  have HB := Aside0.mk (boxes3 w (.cells #[.int .i64 a, .int .i64 b, .int .i64 c, .int .i64 d] 40) (.cells #[.int .i64 e, .int .i64 f, .int .i64 g, .int .i64 h] 40) (.cells #[.int .i64 0, .int .i64 0] 25))
  have H := Aside0.mk hh
  clear hh
  go_enter Tryd.func33, Tryd.ntmps33
  go_wp2_with fail
  refine (impl_SegOk.calls a b c d false _ H.out).mono ?_
  rintro x w1 ⟨rfl, hb⟩
  have HS := Aside0.mk (blk_on hb HB.out.2.1)
  have HP := Aside0.mk (blk_on hb HB.out.2.2.1)
  have HR := Aside0.mk (blk_on hb HB.out.2.2.2)
  have HB1 := Aside0.mk (below_step HB.out.1 hb)
  clear hb
  have q0 : w1.cell? ⟨w.heap.size + 1 + 1, 0, none⟩ = some (.int .i64 0) := (blk_cell HR.out 0).trans rfl
  have q1 : w1.cell? ⟨w.heap.size + 1 + 1, 1, none⟩ = some (.int .i64 0) := (blk_cell HR.out 1).trans rfl
  have q2 := blk_frozen HR.out 0
  have q3 := blk_frozen HR.out 1
  go_wp2_with fail
  refine bodyPost_ret (results_cell_row rfl _ _ (w.heap.size + 1 + 1) 25 #[.int .i64 0, .int .i64 0] (0, 0) _ rfl (by refine blk_put (cs := #[.int .i64 0, .int .i64 0]) ?_ 1 _ rfl; refine blk_put (cs := #[.int .i64 0, .int .i64 0]) ?_ 0 _ rfl; exact HR.out) Tryd.underlying25 rfl (by kernel_rfl)) rfl ?_
  exact ⟨rfl, by refine below_set ?_ (by omega); refine below_set ?_ (by omega); exact HB1.out⟩
set_option maxHeartbeats 1000000 in
set_option maxRecDepth 100000 in
theorem segApart_bad2 (hh : impl_SegOk.f a b c d = some true) (hh' : impl_SegOk.f e f g h = some false) :
    Calls Tryd.prog 33 #[.agg #[.int .i64 a, .int .i64 b, .int .i64 c, .int .i64 d], .agg #[.int .i64 e, .int .i64 f, .int .i64 g, .int .i64 h]] w fun x w' => x = .returned (.agg #[.int .i64 0, .int .i64 0]) ∧ Below w.heap.size w w' := by
  have hu1 := Tryd.underlying40
  have hu2 := Tryd.underlying38
  have hu3 := Tryd.underlying25
  have HB := Aside0.mk (boxes3 w (.cells #[.int .i64 a, .int .i64 b, .int .i64 c, .int .i64 d] 40) (.cells #[.int .i64 e, .int .i64 f, .int .i64 g, .int .i64 h] 40) (.cells #[.int .i64 0, .int .i64 0] 25))
  have H := Aside0.mk hh
  have H' := Aside0.mk hh'
  clear hh hh'
  go_enter Tryd.func33, Tryd.ntmps33
  go_wp2_with fail
  refine (impl_SegOk.calls a b c d true _ H.out).mono ?_
  rintro x w1 ⟨rfl, hb⟩
  have HS := Aside0.mk (blk_on hb HB.out.2.1)
  have HP := Aside0.mk (blk_on hb HB.out.2.2.1)
  have HR := Aside0.mk (blk_on hb HB.out.2.2.2)
  have HB1 := Aside0.mk (below_step HB.out.1 hb)
  clear hb
  have q0 : w1.cell? ⟨w.heap.size + 1, 0, none⟩ = some (.int .i64 e) := (blk_cell HP.out 0).trans rfl
  have q1 : w1.cell? ⟨w.heap.size + 1, 1, none⟩ = some (.int .i64 f) := (blk_cell HP.out 1).trans rfl
  have q2 : w1.cell? ⟨w.heap.size + 1, 2, none⟩ = some (.int .i64 g) := (blk_cell HP.out 2).trans rfl
  have q3 : w1.cell? ⟨w.heap.size + 1, 3, none⟩ = some (.int .i64 h) := (blk_cell HP.out 3).trans rfl
  go_wp2_with fail
  refine (impl_SegOk.calls e f g h false _ H'.out).mono ?_
  rintro x w2 ⟨rfl, hb⟩
  have HS2 := Aside0.mk (blk_on hb HS.out)
  have HP2 := Aside0.mk (blk_on hb HP.out)
  have HR2 := Aside0.mk (blk_on hb HR.out)
  have HB2 := Aside0.mk (below_step HB1.out hb)
  clear hb q0 q1 q2 q3
  have q0 : w2.cell? ⟨w.heap.size + 1 + 1, 0, none⟩ = some (.int .i64 0) := (blk_cell HR2.out 0).trans rfl
  have q1 : w2.cell? ⟨w.heap.size + 1 + 1, 1, none⟩ = some (.int .i64 0) := (blk_cell HR2.out 1).trans rfl
  have q2 := blk_frozen HR2.out 0
  have q3 := blk_frozen HR2.out 1
  go_wp2_with fail
  refine bodyPost_ret (results_cell_row rfl _ _ (w.heap.size + 1 + 1) 25 #[.int .i64 0, .int .i64 0] (0, 0) _ rfl (by refine blk_put (cs := #[.int .i64 0, .int .i64 0]) ?_ 1 _ rfl; refine blk_put (cs := #[.int .i64 0, .int .i64 0]) ?_ 0 _ rfl; exact HR2.out) Tryd.underlying25 rfl (by kernel_rfl)) rfl ?_
  exact ⟨rfl, by refine below_set ?_ (by omega); refine below_set ?_ (by omega); exact HB2.out⟩
set_option maxHeartbeats 1000000 in
set_option maxRecDepth 100000 in
theorem segApart_meet (hh : impl_SegOk.f a b c d = some true) (hh' : impl_SegOk.f e f g h = some true) (hm : impl_SegMeet.f 3 a b c d e f g h = some true) :
    Calls Tryd.prog 33 #[.agg #[.int .i64 a, .int .i64 b, .int .i64 c, .int .i64 d], .agg #[.int .i64 e, .int .i64 f, .int .i64 g, .int .i64 h]] w fun x w' => x = .returned (.agg #[.int .i64 0, .int .i64 1]) ∧ Below w.heap.size w w' := by
  have hu1 := Tryd.underlying40
  have hu2 := Tryd.underlying38
  have hu3 := Tryd.underlying25
  have HB := Aside0.mk (boxes3 w (.cells #[.int .i64 a, .int .i64 b, .int .i64 c, .int .i64 d] 40) (.cells #[.int .i64 e, .int .i64 f, .int .i64 g, .int .i64 h] 40) (.cells #[.int .i64 0, .int .i64 0] 25))
  have H := Aside0.mk hh
  have H' := Aside0.mk hh'
  have HM := Aside0.mk hm
  clear hh hh' hm
  go_enter Tryd.func33, Tryd.ntmps33
  go_wp2_with fail
  refine (impl_SegOk.calls a b c d true _ H.out).mono ?_
  rintro x w1 ⟨rfl, hb⟩
  have HS := Aside0.mk (blk_on hb HB.out.2.1)
  have HP := Aside0.mk (blk_on hb HB.out.2.2.1)
  have HR := Aside0.mk (blk_on hb HB.out.2.2.2)
  have HB1 := Aside0.mk (below_step HB.out.1 hb)
  clear hb
  have q0 : w1.cell? ⟨w.heap.size + 1, 0, none⟩ = some (.int .i64 e) := (blk_cell HP.out 0).trans rfl
  have q1 : w1.cell? ⟨w.heap.size + 1, 1, none⟩ = some (.int .i64 f) := (blk_cell HP.out 1).trans rfl
  have q2 : w1.cell? ⟨w.heap.size + 1, 2, none⟩ = some (.int .i64 g) := (blk_cell HP.out 2).trans rfl
  have q3 : w1.cell? ⟨w.heap.size + 1, 3, none⟩ = some (.int .i64 h) := (blk_cell HP.out 3).trans rfl
  go_wp2_with fail
  refine (impl_SegOk.calls e f g h true _ H'.out).mono ?_
  rintro x w2 ⟨rfl, hb⟩
  have HS2 := Aside0.mk (blk_on hb HS.out)
  have HP2 := Aside0.mk (blk_on hb HP.out)
  have HR2 := Aside0.mk (blk_on hb HR.out)
  have HB2 := Aside0.mk (below_step HB1.out hb)
  clear hb q0 q1 q2 q3
  have q0 : w2.cell? ⟨w.heap.size, 0, none⟩ = some (.int .i64 a) := (blk_cell HS2.out 0).trans rfl
  have q1 : w2.cell? ⟨w.heap.size, 1, none⟩ = some (.int .i64 b) := (blk_cell HS2.out 1).trans rfl
  have q2 : w2.cell? ⟨w.heap.size, 2, none⟩ = some (.int .i64 c) := (blk_cell HS2.out 2).trans rfl
  have q3 : w2.cell? ⟨w.heap.size, 3, none⟩ = some (.int .i64 d) := (blk_cell HS2.out 3).trans rfl
  have p0 : w2.cell? ⟨w.heap.size + 1, 0, none⟩ = some (.int .i64 e) := (blk_cell HP2.out 0).trans rfl
  have p1 : w2.cell? ⟨w.heap.size + 1, 1, none⟩ = some (.int .i64 f) := (blk_cell HP2.out 1).trans rfl
  have p2 : w2.cell? ⟨w.heap.size + 1, 2, none⟩ = some (.int .i64 g) := (blk_cell HP2.out 2).trans rfl
  have p3 : w2.cell? ⟨w.heap.size + 1, 3, none⟩ = some (.int .i64 h) := (blk_cell HP2.out 3).trans rfl
  go_wp2_with fail
  refine (impl_SegMeet.calls 3 a b c d e f g h true _ HM.out).mono ?_
  rintro x w3 ⟨rfl, hb⟩
  have HS3 := Aside0.mk (blk_on hb HS2.out)
  have HP3 := Aside0.mk (blk_on hb HP2.out)
  have HR3 := Aside0.mk (blk_on hb HR2.out)
  have HB3 := Aside0.mk (below_step HB2.out hb)
  clear hb q0 q1 q2 q3 p0 p1 p2 p3
  have q0 : w3.cell? ⟨w.heap.size + 1 + 1, 0, none⟩ = some (.int .i64 0) := (blk_cell HR3.out 0).trans rfl
  have q1 : w3.cell? ⟨w.heap.size + 1 + 1, 1, none⟩ = some (.int .i64 0) := (blk_cell HR3.out 1).trans rfl
  have q2 := blk_frozen HR3.out 0
  have q3 := blk_frozen HR3.out 1
  go_wp2_with fail
  refine bodyPost_ret (results_cell_row rfl _ _ (w.heap.size + 1 + 1) 25 #[.int .i64 0, .int .i64 1] (0, 0) _ rfl (by refine blk_put (cs := #[.int .i64 0, .int .i64 0]) ?_ 1 _ rfl; refine blk_put (cs := #[.int .i64 0, .int .i64 0]) ?_ 0 _ rfl; exact HR3.out) Tryd.underlying25 rfl (by kernel_rfl)) rfl ?_
  exact ⟨rfl, by refine below_set ?_ (by omega); refine below_set ?_ (by omega); exact HB3.out⟩
set_option maxHeartbeats 1000000 in
set_option maxRecDepth 100000 in
theorem segApart_far (hh : impl_SegOk.f a b c d = some true) (hh' : impl_SegOk.f e f g h = some true) (hm : impl_SegMeet.f 3 a b c d e f g h = some false) {n0 d0 : Int} {n1 d1 : Int} {n2 d2 : Int} {n3 d3 : Int} (hf0 : impl_SegFar.f a b c d e f = some (n0, d0)) (hf1 : impl_SegFar.f a b c d g h = some (n1, d1)) (hf2 : impl_SegFar.f e f g h a b = some (n2, d2)) (hf3 : impl_SegFar.f e f g h c d = some (n3, d3)) (hE : ErrW w) :
    Calls Tryd.prog 33 #[.agg #[.int .i64 a, .int .i64 b, .int .i64 c, .int .i64 d], .agg #[.int .i64 e, .int .i64 f, .int .i64 g, .int .i64 h]] w fun x w' => x = .returned (.agg #[.int .i64 (pickL (pickL (pickL (n0, d0) (n1, d1)) (n2, d2)) (n3, d3)).1, .int .i64 (pickL (pickL (pickL (n0, d0) (n1, d1)) (n2, d2)) (n3, d3)).2]) ∧ Below w.heap.size w w' := by
  have hu1 := Tryd.underlying40
  have hu2 := Tryd.underlying38
  have hu3 := Tryd.underlying25
  have HB := Aside0.mk (boxes3 w (.cells #[.int .i64 a, .int .i64 b, .int .i64 c, .int .i64 d] 40) (.cells #[.int .i64 e, .int .i64 f, .int .i64 g, .int .i64 h] 40) (.cells #[.int .i64 0, .int .i64 0] 25))
  have H := Aside0.mk hh
  have H' := Aside0.mk hh'
  have HM := Aside0.mk hm
  clear hh hh' hm
  have HF0 := Aside0.mk hf0
  have HF1 := Aside0.mk hf1
  have HF2 := Aside0.mk hf2
  have HF3 := Aside0.mk hf3
  have HE := Aside0.mk hE
  clear hf0 hf1 hf2 hf3 hE
  go_enter Tryd.func33, Tryd.ntmps33
  go_wp2_with fail
  refine (impl_SegOk.calls a b c d true _ H.out).mono ?_
  rintro x w1 ⟨rfl, hb⟩
  have HS := Aside0.mk (blk_on hb HB.out.2.1)
  have HP := Aside0.mk (blk_on hb HB.out.2.2.1)
  have HR := Aside0.mk (blk_on hb HB.out.2.2.2)
  have HB1 := Aside0.mk (below_step HB.out.1 hb)
  clear hb
  have q0 : w1.cell? ⟨w.heap.size + 1, 0, none⟩ = some (.int .i64 e) := (blk_cell HP.out 0).trans rfl
  have q1 : w1.cell? ⟨w.heap.size + 1, 1, none⟩ = some (.int .i64 f) := (blk_cell HP.out 1).trans rfl
  have q2 : w1.cell? ⟨w.heap.size + 1, 2, none⟩ = some (.int .i64 g) := (blk_cell HP.out 2).trans rfl
  have q3 : w1.cell? ⟨w.heap.size + 1, 3, none⟩ = some (.int .i64 h) := (blk_cell HP.out 3).trans rfl
  go_wp2_with fail
  refine (impl_SegOk.calls e f g h true _ H'.out).mono ?_
  rintro x w2 ⟨rfl, hb⟩
  have HS2 := Aside0.mk (blk_on hb HS.out)
  have HP2 := Aside0.mk (blk_on hb HP.out)
  have HR2 := Aside0.mk (blk_on hb HR.out)
  have HB2 := Aside0.mk (below_step HB1.out hb)
  clear hb q0 q1 q2 q3
  have q0 : w2.cell? ⟨w.heap.size, 0, none⟩ = some (.int .i64 a) := (blk_cell HS2.out 0).trans rfl
  have q1 : w2.cell? ⟨w.heap.size, 1, none⟩ = some (.int .i64 b) := (blk_cell HS2.out 1).trans rfl
  have q2 : w2.cell? ⟨w.heap.size, 2, none⟩ = some (.int .i64 c) := (blk_cell HS2.out 2).trans rfl
  have q3 : w2.cell? ⟨w.heap.size, 3, none⟩ = some (.int .i64 d) := (blk_cell HS2.out 3).trans rfl
  have p0 : w2.cell? ⟨w.heap.size + 1, 0, none⟩ = some (.int .i64 e) := (blk_cell HP2.out 0).trans rfl
  have p1 : w2.cell? ⟨w.heap.size + 1, 1, none⟩ = some (.int .i64 f) := (blk_cell HP2.out 1).trans rfl
  have p2 : w2.cell? ⟨w.heap.size + 1, 2, none⟩ = some (.int .i64 g) := (blk_cell HP2.out 2).trans rfl
  have p3 : w2.cell? ⟨w.heap.size + 1, 3, none⟩ = some (.int .i64 h) := (blk_cell HP2.out 3).trans rfl
  go_wp2_with fail
  refine (impl_SegMeet.calls 3 a b c d e f g h false _ HM.out).mono ?_
  rintro x w3 ⟨rfl, hb⟩
  have HS3 := Aside0.mk (blk_on hb HS2.out)
  have HP3 := Aside0.mk (blk_on hb HP2.out)
  have HR3 := Aside0.mk (blk_on hb HR2.out)
  have HB3 := Aside0.mk (below_step HB2.out hb)
  clear hb q0 q1 q2 q3 p0 p1 p2 p3
  have q0 : w3.cell? ⟨w.heap.size, 0, none⟩ = some (.int .i64 a) := (blk_cell HS3.out 0).trans rfl
  have q1 : w3.cell? ⟨w.heap.size, 1, none⟩ = some (.int .i64 b) := (blk_cell HS3.out 1).trans rfl
  have q2 : w3.cell? ⟨w.heap.size, 2, none⟩ = some (.int .i64 c) := (blk_cell HS3.out 2).trans rfl
  have q3 : w3.cell? ⟨w.heap.size, 3, none⟩ = some (.int .i64 d) := (blk_cell HS3.out 3).trans rfl
  have p0 : w3.cell? ⟨w.heap.size + 1, 0, none⟩ = some (.int .i64 e) := (blk_cell HP3.out 0).trans rfl
  have p1 : w3.cell? ⟨w.heap.size + 1, 1, none⟩ = some (.int .i64 f) := (blk_cell HP3.out 1).trans rfl
  go_wp2_with fail
  refine (impl_SegFar.calls a b c d e f n0 d0 _ HF0.out).mono ?_
  rintro x w4 ⟨rfl, hb⟩
  have HS4 := Aside0.mk (blk_on hb HS3.out)
  have HP4 := Aside0.mk (blk_on hb HP3.out)
  have HR4 := Aside0.mk (blk_on hb HR3.out)
  have HB4 := Aside0.mk (below_step HB3.out hb)
  clear hb q0 q1 q2 q3 p0 p1
  have HN := Aside0.mk (heap_alloc_new w4 (.cells #[.int .i64 0, .int .i64 0] 25))
  have u0 : (w4.alloc (.cells #[.int .i64 0, .int .i64 0] 25)).cell? ⟨w4.heap.size, 0, none⟩ = some (.int .i64 0) := (blk_cell HN.out 0).trans rfl
  have u1 : (w4.alloc (.cells #[.int .i64 0, .int .i64 0] 25)).cell? ⟨w4.heap.size, 1, none⟩ = some (.int .i64 0) := (blk_cell HN.out 1).trans rfl
  have u2 := blk_frozen HN.out 0
  have u3 := blk_frozen HN.out 1
  go_wp2_with fail
  clear u0 u1 u2 u3 HN
  have HS5 := Aside0.mk (blk_drew (blk_alloc HS4.out (.cells #[.int .i64 n0, .int .i64 d0] 25)))
  have HP5 := Aside0.mk (blk_drew (blk_alloc HP4.out (.cells #[.int .i64 n0, .int .i64 d0] 25)))
  have HR5 := Aside0.mk (blk_drew (blk_alloc HR4.out (.cells #[.int .i64 n0, .int .i64 d0] 25)))
  have HL5 := Aside0.mk (blk_drew (heap_alloc_new w4 (.cells #[.int .i64 n0, .int .i64 d0] 25)))
  have HB5 := Aside0.mk (below_drew1 (below_alloc HB4.out (.cells #[.int .i64 n0, .int .i64 d0] 25)))
  have HG := Aside0.mk (blk_lt HR4.out)
  refine start_ (n := 14) (S := fun w' => w'.cell? ⟨w.heap.size, 0, none⟩ = some (.int .i64 a) ∧ w'.cell? ⟨w.heap.size, 1, none⟩ = some (.int .i64 b) ∧ w'.cell? ⟨w.heap.size, 2, none⟩ = some (.int .i64 c) ∧ w'.cell? ⟨w.heap.size, 3, none⟩ = some (.int .i64 d) ∧ w'.cell? ⟨w.heap.size + 1, 0, none⟩ = some (.int .i64 e) ∧ w'.cell? ⟨w.heap.size + 1, 1, none⟩ = some (.int .i64 f) ∧ w'.cell? ⟨w.heap.size + 1, 2, none⟩ = some (.int .i64 g) ∧ w'.cell? ⟨w.heap.size + 1, 3, none⟩ = some (.int .i64 h)) (ds := []) #[false, false, false, false, false, false, false, false, false, false, false, false, false, false] (by kernel_rfl) rfl rfl ⟨(blk_cell HS5.out 0).trans rfl, (blk_cell HS5.out 1).trans rfl, (blk_cell HS5.out 2).trans rfl, (blk_cell HS5.out 3).trans rfl, (blk_cell HP5.out 0).trans rfl, (blk_cell HP5.out 1).trans rfl, (blk_cell HP5.out 2).trans rfl, (blk_cell HP5.out 3).trans rfl⟩ (fun hHeld => ?_)
  refine with_tabW apTab6 apBits6 (fun HT_ HW_ => ?_)
  generalize (w4.alloc (.cells #[.int .i64 n0, .int .i64 d0] 25)).drew = w5 at HS5 HP5 HR5 HL5 HB5 hHeld ⊢
  generalize w4.heap.size = gL at HG HL5 ⊢
  refine pure_ (i := 1) (N := some 26) (v := ?_) (a' := ?_) #[false, true, false, false, false, false, false, false, false, false, false, false, false, false] rfl rfl (any_of HT_.out (by kernel_rfl)) (fun _ _ _ h => h) (Or.inl ⟨by rfl, ?_⟩) ?_ ?_
  rotate_left
  · intro w'
    go_simp
    with_reducible rfl
  rotate_left
  · simp only [Act.put, List.setIfInBounds_toArray, List.set_cons_zero, List.set_cons_succ, i64_w, i32_w]
    rfl
  refine pure_ (i := 5) (N := some 30) (v := ?_) (a' := ?_) #[false, true, false, false, false, true, false, false, false, false, false, false, false, false] rfl rfl (any_of HT_.out (by kernel_rfl)) (fun _ _ _ h => h) (Or.inl ⟨by rfl, ?_⟩) ?_ ?_
  rotate_left
  · intro w'
    go_simp
    with_reducible rfl
  rotate_left
  · simp only [Act.put, List.setIfInBounds_toArray, List.set_cons_zero, List.set_cons_succ, i64_w, i32_w]
    rfl
  refine pure_ (i := 9) (N := some 34) (v := ?_) (a' := ?_) #[false, true, false, false, false, true, false, false, false, true, false, false, false, false] rfl rfl (any_of HT_.out (by kernel_rfl)) (fun _ _ _ h => h) (Or.inl ⟨by rfl, ?_⟩) ?_ ?_
  rotate_left
  · intro w'
    go_simp
    with_reducible rfl
  rotate_left
  · simp only [Act.put, List.setIfInBounds_toArray, List.set_cons_zero, List.set_cons_succ, i64_w, i32_w]
    rfl
  refine pure_ (i := 13) (N := some 38) (v := ?_) (a' := ?_) #[false, true, false, false, false, true, false, false, false, true, false, false, false, true] rfl rfl (any_of HT_.out (by kernel_rfl)) (fun _ _ _ h => h) (Or.inl ⟨by rfl, ?_⟩) ?_ ?_
  rotate_left
  · intro w'
    go_simp
    with_reducible rfl
  rotate_left
  · simp only [Act.put, List.setIfInBounds_toArray, List.set_cons_zero, List.set_cons_succ, i64_w, i32_w]
    rfl
  refine take_ (i := 0) (N := some 25) (v := ?_) (a' := ?_) #[true, true, false, false, false, true, false, false, false, true, false, false, false, true] rfl rfl (take_ofW HT_.out HW_.out (by kernel_rfl)) (fun _ _ _ h => h) (Or.inl ⟨by rfl, ?_⟩) hHeld ?_ ?_
  rotate_left
  · rintro w' ⟨s0, s1, s2, s3, s4, s5, s6, s7⟩
    go_simp
    with_reducible rfl
  rotate_left
  · simp only [Act.put, List.setIfInBounds_toArray, List.set_cons_zero, List.set_cons_succ, i64_w, i32_w]
    rfl
  refine take_ (i := 2) (N := some 27) (v := ?_) (a' := ?_) #[true, true, true, false, false, true, false, false, false, true, false, false, false, true] rfl rfl (take_ofW HT_.out HW_.out (by kernel_rfl)) (fun _ _ _ h => h) (Or.inl ⟨by rfl, ?_⟩) hHeld ?_ ?_
  rotate_left
  · rintro w' ⟨s0, s1, s2, s3, s4, s5, s6, s7⟩
    go_simp
    with_reducible rfl
  rotate_left
  · simp only [Act.put, List.setIfInBounds_toArray, List.set_cons_zero, List.set_cons_succ, i64_w, i32_w]
    rfl
  refine take_ (i := 4) (N := some 29) (v := ?_) (a' := ?_) #[true, true, true, false, true, true, false, false, false, true, false, false, false, true] rfl rfl (take_ofW HT_.out HW_.out (by kernel_rfl)) (fun _ _ _ h => h) (Or.inl ⟨by rfl, ?_⟩) hHeld ?_ ?_
  rotate_left
  · rintro w' ⟨s0, s1, s2, s3, s4, s5, s6, s7⟩
    go_simp
    with_reducible rfl
  rotate_left
  · simp only [Act.put, List.setIfInBounds_toArray, List.set_cons_zero, List.set_cons_succ, i64_w, i32_w]
    rfl
  refine take_ (i := 6) (N := some 31) (v := ?_) (a' := ?_) #[true, true, true, false, true, true, true, false, false, true, false, false, false, true] rfl rfl (take_ofW HT_.out HW_.out (by kernel_rfl)) (fun _ _ _ h => h) (Or.inl ⟨by rfl, ?_⟩) hHeld ?_ ?_
  rotate_left
  · rintro w' ⟨s0, s1, s2, s3, s4, s5, s6, s7⟩
    go_simp
    with_reducible rfl
  rotate_left
  · simp only [Act.put, List.setIfInBounds_toArray, List.set_cons_zero, List.set_cons_succ, i64_w, i32_w]
    rfl
  refine take_ (i := 8) (N := some 33) (v := ?_) (a' := ?_) #[true, true, true, false, true, true, true, false, true, true, false, false, false, true] rfl rfl (take_ofW HT_.out HW_.out (by kernel_rfl)) (fun _ _ _ h => h) (Or.inl ⟨by rfl, ?_⟩) hHeld ?_ ?_
  rotate_left
  · rintro w' ⟨s0, s1, s2, s3, s4, s5, s6, s7⟩
    go_simp
    with_reducible rfl
  rotate_left
  · simp only [Act.put, List.setIfInBounds_toArray, List.set_cons_zero, List.set_cons_succ, i64_w, i32_w]
    rfl
  refine take_ (i := 10) (N := some 35) (v := ?_) (a' := ?_) #[true, true, true, false, true, true, true, false, true, true, true, false, false, true] rfl rfl (take_ofW HT_.out HW_.out (by kernel_rfl)) (fun _ _ _ h => h) (Or.inl ⟨by rfl, ?_⟩) hHeld ?_ ?_
  rotate_left
  · rintro w' ⟨s0, s1, s2, s3, s4, s5, s6, s7⟩
    go_simp
    with_reducible rfl
  rotate_left
  · simp only [Act.put, List.setIfInBounds_toArray, List.set_cons_zero, List.set_cons_succ, i64_w, i32_w]
    rfl
  refine one_ (i := 3) (N := some 28) #[true, true, true, true, true, true, true, false, true, true, true, false, false, true] rfl rfl (one_of HT_.out (by kernel_rfl)) (by decide) (fun K hK => ?_)
  refine goes_ Tryd.func24 (by kernel_rfl) rfl #[.agg #[.int .i64 a, .int .i64 b, .int .i64 c, .int .i64 d], .agg #[.int .i64 g, .int .i64 h]] (by rfl) rfl rfl (by (try simp only [List.map_toArray, List.map_cons, List.map_nil]); first | done | rfl) ?_
  refine (impl_SegFar.calls a b c d g h n1 d1 _ HF1.out).mono ?_
  rintro x w6 ⟨rfl, hb⟩
  refine ⟨_, rfl, ?_⟩
  have HS6 := Aside0.mk (blk_on hb HS5.out)
  have HP6 := Aside0.mk (blk_on hb HP5.out)
  have HR6 := Aside0.mk (blk_on hb HR5.out)
  have HL6 := Aside0.mk (blk_on hb HL5.out)
  have HB6 := Aside0.mk (below_step HB5.out hb)
  clear hb
  refine hK.out _ _ ⟨(blk_cell HS6.out 0).trans rfl, (blk_cell HS6.out 1).trans rfl, (blk_cell HS6.out 2).trans rfl, (blk_cell HS6.out 3).trans rfl, (blk_cell HP6.out 0).trans rfl, (blk_cell HP6.out 1).trans rfl, (blk_cell HP6.out 2).trans rfl, (blk_cell HP6.out 3).trans rfl⟩ (fun hHeld => ?_)
  clear hK K
  refine norm_ (a' := ?_) ?_ ?_
  rotate_left
  · show Act.put _ (some 28) _ = _
    simp only [Act.put, List.setIfInBounds_toArray, List.set_cons_zero, List.set_cons_succ, i64_w, i32_w]
    rfl
  refine one_ (i := 7) (N := some 32) #[true, true, true, true, true, true, true, true, true, true, true, false, false, true] rfl rfl (one_of HT_.out (by kernel_rfl)) (by decide) (fun K hK => ?_)
  refine goes_ Tryd.func24 (by kernel_rfl) rfl #[.agg #[.int .i64 e, .int .i64 f, .int .i64 g, .int .i64 h], .agg #[.int .i64 a, .int .i64 b]] (by rfl) rfl rfl (by (try simp only [List.map_toArray, List.map_cons, List.map_nil]); first | done | rfl) ?_
  refine (impl_SegFar.calls e f g h a b n2 d2 _ HF2.out).mono ?_
  rintro x w7 ⟨rfl, hb⟩
  refine ⟨_, rfl, ?_⟩
  have HS7 := Aside0.mk (blk_on hb HS6.out)
  have HP7 := Aside0.mk (blk_on hb HP6.out)
  have HR7 := Aside0.mk (blk_on hb HR6.out)
  have HL7 := Aside0.mk (blk_on hb HL6.out)
  have HB7 := Aside0.mk (below_step HB6.out hb)
  clear hb
  refine hK.out _ _ ⟨(blk_cell HS7.out 0).trans rfl, (blk_cell HS7.out 1).trans rfl, (blk_cell HS7.out 2).trans rfl, (blk_cell HS7.out 3).trans rfl, (blk_cell HP7.out 0).trans rfl, (blk_cell HP7.out 1).trans rfl, (blk_cell HP7.out 2).trans rfl, (blk_cell HP7.out 3).trans rfl⟩ (fun hHeld => ?_)
  clear hK K
  refine norm_ (a' := ?_) ?_ ?_
  rotate_left
  · show Act.put _ (some 32) _ = _
    simp only [Act.put, List.setIfInBounds_toArray, List.set_cons_zero, List.set_cons_succ, i64_w, i32_w]
    rfl
  refine one_ (i := 11) (N := some 36) #[true, true, true, true, true, true, true, true, true, true, true, true, false, true] rfl rfl (one_of HT_.out (by kernel_rfl)) (by decide) (fun K hK => ?_)
  refine goes_ Tryd.func24 (by kernel_rfl) rfl #[.agg #[.int .i64 e, .int .i64 f, .int .i64 g, .int .i64 h], .agg #[.int .i64 c, .int .i64 d]] (by rfl) rfl rfl (by (try simp only [List.map_toArray, List.map_cons, List.map_nil]); first | done | rfl) ?_
  refine (impl_SegFar.calls e f g h c d n3 d3 _ HF3.out).mono ?_
  rintro x w8 ⟨rfl, hb⟩
  refine ⟨_, rfl, ?_⟩
  have HS8 := Aside0.mk (blk_on hb HS7.out)
  have HP8 := Aside0.mk (blk_on hb HP7.out)
  have HR8 := Aside0.mk (blk_on hb HR7.out)
  have HL8 := Aside0.mk (blk_on hb HL7.out)
  have HB8 := Aside0.mk (below_step HB7.out hb)
  clear hb
  refine hK.out _ _ ⟨(blk_cell HS8.out 0).trans rfl, (blk_cell HS8.out 1).trans rfl, (blk_cell HS8.out 2).trans rfl, (blk_cell HS8.out 3).trans rfl, (blk_cell HP8.out 0).trans rfl, (blk_cell HP8.out 1).trans rfl, (blk_cell HP8.out 2).trans rfl, (blk_cell HP8.out 3).trans rfl⟩ (fun hHeld => ?_)
  clear hK K
  refine norm_ (a' := ?_) ?_ ?_
  rotate_left
  · show Act.put _ (some 36) _ = _
    simp only [Act.put, List.setIfInBounds_toArray, List.set_cons_zero, List.set_cons_succ, i64_w, i32_w]
    rfl
  refine pure_ (i := 12) (N := some 37) (v := ?_) (a' := ?_) #[true, true, true, true, true, true, true, true, true, true, true, true, true, true] rfl rfl (any_of HT_.out (by kernel_rfl)) (fun _ _ _ h => h) (Or.inl ⟨by rfl, ?_⟩) ?_ ?_
  rotate_left
  · intro w'
    go_simp
    with_reducible rfl
  rotate_left
  · simp only [Act.put, List.setIfInBounds_toArray, List.set_cons_zero, List.set_cons_succ, i64_w, i32_w]
    rfl
  refine done_ (done_of HT_.out (by kernel_rfl)) ?_
  go_wp2_with fail
  clear HT_ HW_ hHeld HS5 HP5 HR5 HL5 HB5 HS6 HP6 HR6 HL6 HB6 HS7 HP7 HR7 HL7 HB7 HS4 HP4 HR4 HB4 HS3 HP3 HR3 HB3 HS2 HP2 HR2 HB2 HS HP HR HB1 HB
  go_loopg [38] 4 (fun kq v38 w' => ∃ (j : Nat) (x : Int) (m0 m1 : Int), j + kq = 4 ∧ j ≤ 3 ∧ x = (j : Int) ∧ v38 = .int .i64 x ∧ Aside0 ((m0, m1) = foldP (n0, d0) (n1, d1) (n2, d2) (n3, d3) j) ∧ Aside0 (w'.heap[gL]? = some (.cells #[.int .i64 m0, .int .i64 m1] 25 (0, 0))) ∧ Aside0 (w'.heap[w.heap.size + 1 + 1]? = some (.cells #[.int .i64 0, .int .i64 0] 25 (0, 0))) ∧ Aside0 (Below w.heap.size w w'))
  case atStart => exact ⟨0, 0, n0, d0, by omega, by omega, rfl, rfl, ⟨rfl⟩, HL8, HR8, HB8⟩
  case round =>
    clear HS8 HP8 HR8 HL8 HB8
    obtain ⟨j, x, m0, m1, hj, hj3, hx, rfl, HM, HL, HR, HB⟩ := hrel
    have hu4 := Tryd.underlying83
    rcases j with _ | _ | _ | _ | j
    ·
      obtain rfl : x = 0 := by omega
      clear hx
      have hix := apIdx0 wr (.int .i64 n1) (.int .i64 d1) (.int .i64 n2) (.int .i64 d2) (.int .i64 n3) (.int .i64 d3)
      have HN := Aside0.mk (heap_alloc_new wr (.cells #[.int .i64 0, .int .i64 0] 25))
      have u0 : (wr.alloc (.cells #[.int .i64 0, .int .i64 0] 25)).cell? ⟨wr.heap.size, 0, none⟩ = some (.int .i64 0) := (blk_cell HN.out 0).trans rfl
      have u1 : (wr.alloc (.cells #[.int .i64 0, .int .i64 0] 25)).cell? ⟨wr.heap.size, 1, none⟩ = some (.int .i64 0) := (blk_cell HN.out 1).trans rfl
      have u2 := blk_frozen HN.out 0
      have u3 := blk_frozen HN.out 1
      have HN2 := Aside0.mk (heap_alloc_new wr (.cells #[.int .i64 n1, .int .i64 d1] 25))
      have p0 : (wr.alloc (.cells #[.int .i64 n1, .int .i64 d1] 25)).cell? ⟨wr.heap.size, 0, none⟩ = some (.int .i64 n1) := (blk_cell HN2.out 0).trans rfl
      have p1 : (wr.alloc (.cells #[.int .i64 n1, .int .i64 d1] 25)).cell? ⟨wr.heap.size, 1, none⟩ = some (.int .i64 d1) := (blk_cell HN2.out 1).trans rfl
      have q0 : ∀ o, (wr.alloc o).cell? ⟨gL, 0, none⟩ = some (.int .i64 m0) := fun o => (blk_cell (blk_alloc HL.out o) 0).trans rfl
      have q1 : ∀ o, (wr.alloc o).cell? ⟨gL, 1, none⟩ = some (.int .i64 m1) := fun o => (blk_cell (blk_alloc HL.out o) 1).trans rfl
      go_wp2_with fail
      refine (impl_FracCmp.calls n1 d1 m0 m1 (fracCmp (n1, d1) (m0, m1)) _ (HE.out.below (below_alloc HB.out _)) rfl).mono ?_
      rintro x wq ⟨rfl, hb⟩
      have HNq := Aside0.mk (blk_on hb HN2.out)
      have HLq := Aside0.mk (blk_on hb (blk_alloc HL.out (.cells #[.int .i64 n1, .int .i64 d1] 25)))
      have HRq := Aside0.mk (blk_on hb (blk_alloc HR.out (.cells #[.int .i64 n1, .int .i64 d1] 25)))
      have HBq := Aside0.mk (below_step (below_alloc HB.out (.cells #[.int .i64 n1, .int .i64 d1] 25)) hb)
      clear hb u0 u1 u2 u3 p0 p1 q0 q1 HN HN2 HL HR HB hix
      have hgk : gk = 4 := by omega
      by_cases hc : fracCmp (n1, d1) (m0, m1) < 0
      ·
        have HC := Aside0.mk hc
        have hcb : decide (fracCmp (n1, d1) (m0, m1) < 0) = true := decide_eq_true hc
        clear hc
        have p0 : wq.cell? ⟨wr.heap.size, 0, none⟩ = some (.int .i64 n1) := (blk_cell HNq.out 0).trans rfl
        have p1 : wq.cell? ⟨wr.heap.size, 1, none⟩ = some (.int .i64 d1) := (blk_cell HNq.out 1).trans rfl
        have q0 : wq.cell? ⟨gL, 0, none⟩ = some (.int .i64 m0) := (blk_cell HLq.out 0).trans rfl
        have q1 : wq.cell? ⟨gL, 1, none⟩ = some (.int .i64 m1) := (blk_cell HLq.out 1).trans rfl
        have q2 := blk_frozen HLq.out 0
        have q3 := blk_frozen HLq.out 1
        go_wp2
        go_roundg 3
        case measure => omega
        case rel =>
          have hG := HG.out
          exact ⟨1, 1, n1, d1, by omega, by omega, by simp, by rfl, ⟨pick_lt HM.out HC.out⟩, ⟨by refine blk_put (cs := #[.int .i64 n1, .int .i64 m1]) ?_ 1 _ rfl; refine blk_put (cs := #[.int .i64 m0, .int .i64 m1]) ?_ 0 _ rfl; exact HLq.out⟩, ⟨by refine blk_far ?_ (Nat.ne_of_lt hG) _; refine blk_far ?_ (Nat.ne_of_lt hG) _; exact HRq.out⟩, ⟨by refine below_set ?_ (by omega); refine below_set ?_ (by omega); exact HBq.out⟩⟩
      ·
        have HC := Aside0.mk hc
        have hcb : decide (fracCmp (n1, d1) (m0, m1) < 0) = false := decide_eq_false hc
        clear hc
        go_wp2
        go_roundg 3
        case measure => omega
        case rel => exact ⟨1, 1, m0, m1, by omega, by omega, by simp, by rfl, ⟨pick_ge HM.out (Int.not_lt.mpr HC.out)⟩, HLq, HRq, HBq⟩
    ·
      obtain rfl : x = 1 := by omega
      clear hx
      have hix := apIdx1 wr (.int .i64 n1) (.int .i64 d1) (.int .i64 n2) (.int .i64 d2) (.int .i64 n3) (.int .i64 d3)
      have HN := Aside0.mk (heap_alloc_new wr (.cells #[.int .i64 0, .int .i64 0] 25))
      have u0 : (wr.alloc (.cells #[.int .i64 0, .int .i64 0] 25)).cell? ⟨wr.heap.size, 0, none⟩ = some (.int .i64 0) := (blk_cell HN.out 0).trans rfl
      have u1 : (wr.alloc (.cells #[.int .i64 0, .int .i64 0] 25)).cell? ⟨wr.heap.size, 1, none⟩ = some (.int .i64 0) := (blk_cell HN.out 1).trans rfl
      have u2 := blk_frozen HN.out 0
      have u3 := blk_frozen HN.out 1
      have HN2 := Aside0.mk (heap_alloc_new wr (.cells #[.int .i64 n2, .int .i64 d2] 25))
      have p0 : (wr.alloc (.cells #[.int .i64 n2, .int .i64 d2] 25)).cell? ⟨wr.heap.size, 0, none⟩ = some (.int .i64 n2) := (blk_cell HN2.out 0).trans rfl
      have p1 : (wr.alloc (.cells #[.int .i64 n2, .int .i64 d2] 25)).cell? ⟨wr.heap.size, 1, none⟩ = some (.int .i64 d2) := (blk_cell HN2.out 1).trans rfl
      have q0 : ∀ o, (wr.alloc o).cell? ⟨gL, 0, none⟩ = some (.int .i64 m0) := fun o => (blk_cell (blk_alloc HL.out o) 0).trans rfl
      have q1 : ∀ o, (wr.alloc o).cell? ⟨gL, 1, none⟩ = some (.int .i64 m1) := fun o => (blk_cell (blk_alloc HL.out o) 1).trans rfl
      go_wp2_with fail
      refine (impl_FracCmp.calls n2 d2 m0 m1 (fracCmp (n2, d2) (m0, m1)) _ (HE.out.below (below_alloc HB.out _)) rfl).mono ?_
      rintro x wq ⟨rfl, hb⟩
      have HNq := Aside0.mk (blk_on hb HN2.out)
      have HLq := Aside0.mk (blk_on hb (blk_alloc HL.out (.cells #[.int .i64 n2, .int .i64 d2] 25)))
      have HRq := Aside0.mk (blk_on hb (blk_alloc HR.out (.cells #[.int .i64 n2, .int .i64 d2] 25)))
      have HBq := Aside0.mk (below_step (below_alloc HB.out (.cells #[.int .i64 n2, .int .i64 d2] 25)) hb)
      clear hb u0 u1 u2 u3 p0 p1 q0 q1 HN HN2 HL HR HB hix
      have hgk : gk = 3 := by omega
      by_cases hc : fracCmp (n2, d2) (m0, m1) < 0
      ·
        have HC := Aside0.mk hc
        have hcb : decide (fracCmp (n2, d2) (m0, m1) < 0) = true := decide_eq_true hc
        clear hc
        have p0 : wq.cell? ⟨wr.heap.size, 0, none⟩ = some (.int .i64 n2) := (blk_cell HNq.out 0).trans rfl
        have p1 : wq.cell? ⟨wr.heap.size, 1, none⟩ = some (.int .i64 d2) := (blk_cell HNq.out 1).trans rfl
        have q0 : wq.cell? ⟨gL, 0, none⟩ = some (.int .i64 m0) := (blk_cell HLq.out 0).trans rfl
        have q1 : wq.cell? ⟨gL, 1, none⟩ = some (.int .i64 m1) := (blk_cell HLq.out 1).trans rfl
        have q2 := blk_frozen HLq.out 0
        have q3 := blk_frozen HLq.out 1
        go_wp2
        go_roundg 2
        case measure => omega
        case rel =>
          have hG := HG.out
          exact ⟨2, 2, n2, d2, by omega, by omega, by simp, by rfl, ⟨pick_lt HM.out HC.out⟩, ⟨by refine blk_put (cs := #[.int .i64 n2, .int .i64 m1]) ?_ 1 _ rfl; refine blk_put (cs := #[.int .i64 m0, .int .i64 m1]) ?_ 0 _ rfl; exact HLq.out⟩, ⟨by refine blk_far ?_ (Nat.ne_of_lt hG) _; refine blk_far ?_ (Nat.ne_of_lt hG) _; exact HRq.out⟩, ⟨by refine below_set ?_ (by omega); refine below_set ?_ (by omega); exact HBq.out⟩⟩
      ·
        have HC := Aside0.mk hc
        have hcb : decide (fracCmp (n2, d2) (m0, m1) < 0) = false := decide_eq_false hc
        clear hc
        go_wp2
        go_roundg 2
        case measure => omega
        case rel => exact ⟨2, 2, m0, m1, by omega, by omega, by simp, by rfl, ⟨pick_ge HM.out (Int.not_lt.mpr HC.out)⟩, HLq, HRq, HBq⟩
    ·
      obtain rfl : x = 2 := by omega
      clear hx
      have hix := apIdx2 wr (.int .i64 n1) (.int .i64 d1) (.int .i64 n2) (.int .i64 d2) (.int .i64 n3) (.int .i64 d3)
      have HN := Aside0.mk (heap_alloc_new wr (.cells #[.int .i64 0, .int .i64 0] 25))
      have u0 : (wr.alloc (.cells #[.int .i64 0, .int .i64 0] 25)).cell? ⟨wr.heap.size, 0, none⟩ = some (.int .i64 0) := (blk_cell HN.out 0).trans rfl
      have u1 : (wr.alloc (.cells #[.int .i64 0, .int .i64 0] 25)).cell? ⟨wr.heap.size, 1, none⟩ = some (.int .i64 0) := (blk_cell HN.out 1).trans rfl
      have u2 := blk_frozen HN.out 0
      have u3 := blk_frozen HN.out 1
      have HN2 := Aside0.mk (heap_alloc_new wr (.cells #[.int .i64 n3, .int .i64 d3] 25))
      have p0 : (wr.alloc (.cells #[.int .i64 n3, .int .i64 d3] 25)).cell? ⟨wr.heap.size, 0, none⟩ = some (.int .i64 n3) := (blk_cell HN2.out 0).trans rfl
      have p1 : (wr.alloc (.cells #[.int .i64 n3, .int .i64 d3] 25)).cell? ⟨wr.heap.size, 1, none⟩ = some (.int .i64 d3) := (blk_cell HN2.out 1).trans rfl
      have q0 : ∀ o, (wr.alloc o).cell? ⟨gL, 0, none⟩ = some (.int .i64 m0) := fun o => (blk_cell (blk_alloc HL.out o) 0).trans rfl
      have q1 : ∀ o, (wr.alloc o).cell? ⟨gL, 1, none⟩ = some (.int .i64 m1) := fun o => (blk_cell (blk_alloc HL.out o) 1).trans rfl
      go_wp2_with fail
      refine (impl_FracCmp.calls n3 d3 m0 m1 (fracCmp (n3, d3) (m0, m1)) _ (HE.out.below (below_alloc HB.out _)) rfl).mono ?_
      rintro x wq ⟨rfl, hb⟩
      have HNq := Aside0.mk (blk_on hb HN2.out)
      have HLq := Aside0.mk (blk_on hb (blk_alloc HL.out (.cells #[.int .i64 n3, .int .i64 d3] 25)))
      have HRq := Aside0.mk (blk_on hb (blk_alloc HR.out (.cells #[.int .i64 n3, .int .i64 d3] 25)))
      have HBq := Aside0.mk (below_step (below_alloc HB.out (.cells #[.int .i64 n3, .int .i64 d3] 25)) hb)
      clear hb u0 u1 u2 u3 p0 p1 q0 q1 HN HN2 HL HR HB hix
      have hgk : gk = 2 := by omega
      by_cases hc : fracCmp (n3, d3) (m0, m1) < 0
      ·
        have HC := Aside0.mk hc
        have hcb : decide (fracCmp (n3, d3) (m0, m1) < 0) = true := decide_eq_true hc
        clear hc
        have p0 : wq.cell? ⟨wr.heap.size, 0, none⟩ = some (.int .i64 n3) := (blk_cell HNq.out 0).trans rfl
        have p1 : wq.cell? ⟨wr.heap.size, 1, none⟩ = some (.int .i64 d3) := (blk_cell HNq.out 1).trans rfl
        have q0 : wq.cell? ⟨gL, 0, none⟩ = some (.int .i64 m0) := (blk_cell HLq.out 0).trans rfl
        have q1 : wq.cell? ⟨gL, 1, none⟩ = some (.int .i64 m1) := (blk_cell HLq.out 1).trans rfl
        have q2 := blk_frozen HLq.out 0
        have q3 := blk_frozen HLq.out 1
        go_wp2
        go_roundg 1
        case measure => omega
        case rel =>
          have hG := HG.out
          exact ⟨3, 3, n3, d3, by omega, by omega, by simp, by rfl, ⟨pick_lt HM.out HC.out⟩, ⟨by refine blk_put (cs := #[.int .i64 n3, .int .i64 m1]) ?_ 1 _ rfl; refine blk_put (cs := #[.int .i64 m0, .int .i64 m1]) ?_ 0 _ rfl; exact HLq.out⟩, ⟨by refine blk_far ?_ (Nat.ne_of_lt hG) _; refine blk_far ?_ (Nat.ne_of_lt hG) _; exact HRq.out⟩, ⟨by refine below_set ?_ (by omega); refine below_set ?_ (by omega); exact HBq.out⟩⟩
      ·
        have HC := Aside0.mk hc
        have hcb : decide (fracCmp (n3, d3) (m0, m1) < 0) = false := decide_eq_false hc
        clear hc
        go_wp2
        go_roundg 1
        case measure => omega
        case rel => exact ⟨3, 3, m0, m1, by omega, by omega, by simp, by rfl, ⟨pick_ge HM.out (Int.not_lt.mpr HC.out)⟩, HLq, HRq, HBq⟩
    · obtain rfl : x = 3 := by omega
      clear hx
      have q0 : wr.cell? ⟨gL, 0, none⟩ = some (.int .i64 m0) := (blk_cell HL.out 0).trans rfl
      have q1 : wr.cell? ⟨gL, 1, none⟩ = some (.int .i64 m1) := (blk_cell HL.out 1).trans rfl
      have p0 : wr.cell? ⟨w.heap.size + 1 + 1, 0, none⟩ = some (.int .i64 0) := (blk_cell HR.out 0).trans rfl
      have p1 : wr.cell? ⟨w.heap.size + 1 + 1, 1, none⟩ = some (.int .i64 0) := (blk_cell HR.out 1).trans rfl
      have p2 := blk_frozen HR.out 0
      have p3 := blk_frozen HR.out 1
      go_wp2_with fail
      have em : pickL (pickL (pickL (n0, d0) (n1, d1)) (n2, d2)) (n3, d3) = (m0, m1) := HM.out.symm
      rw [em]
      refine bodyPost_ret (results_cell_row rfl _ _ (w.heap.size + 1 + 1) 25 #[.int .i64 m0, .int .i64 m1] (0, 0) _ rfl (by refine blk_put (cs := #[.int .i64 m0, .int .i64 0]) ?_ 1 _ rfl; refine blk_put (cs := #[.int .i64 0, .int .i64 0]) ?_ 0 _ rfl; exact HR.out) Tryd.underlying25 rfl (by kernel_rfl)) rfl ?_
      exact ⟨rfl, by refine below_set ?_ (by omega); refine below_set ?_ (by omega); exact HB.out⟩
    · exfalso; omega
end
theorem val_pick {m f : Frac} (hm : fracOk m = true) (hf : fracOk f = true) : fracOk (pickL m f) = true ∧ (val (pickL m f) ≤ val m ∧ val (pickL m f) ≤ val f) ∧ (pickL m f = m ∨ pickL m f = f) := by
  unfold pickL
  by_cases h : fracCmp f m < 0
  · rw [if_pos h]
    exact ⟨hf, ⟨(cmp_le hf hm).1 (by omega), Rat.le_refl⟩, .inr rfl⟩
  · rw [if_neg h]
    exact ⟨hm, ⟨Rat.le_refl, (cmp_ge hf hm).1 (by omega)⟩, .inl rfl⟩
def impl_SegApart.f (a b c d e f g h : Int) : Option (Int × Int) := some ((segApart ((a, b), (c, d)) ((e, f), (g, h))).1, (segApart ((a, b), (c, d)) ((e, f), (g, h))).2)
theorem impl_SegApart.calls (a b c d e f g h r1 r2 : Int) (w : World) (hE : ErrW w) (hh : impl_SegApart.f a b c d e f g h = some (r1, r2)) :
    Calls Tryd.prog 33 #[.agg #[.int .i64 a, .int .i64 b, .int .i64 c, .int .i64 d], .agg #[.int .i64 e, .int .i64 f, .int .i64 g, .int .i64 h]] w fun x w' => x = .returned (.agg #[.int .i64 r1, .int .i64 r2]) ∧ Below w.heap.size w w' := by
  unfold impl_SegApart.f at hh
  simp only [Option.some.injEq, Prod.mk.injEq] at hh
  obtain ⟨rfl, rfl⟩ := hh
  cases hs : segOk ((a, b), (c, d)) with
  | false =>
    have e0 : segApart ((a, b), (c, d)) ((e, f), (g, h)) = (0, 0) := by unfold segApart; rw [hs]; rfl
    rw [e0]
    exact segApart_bad1 a b c d e f g h w ((iSegOk a b c d).trans (congrArg some hs))
  | true =>
    have h1 := (iSegOk a b c d).trans (congrArg some hs)
    cases ht : segOk ((e, f), (g, h)) with
    | false =>
      have e0 : segApart ((a, b), (c, d)) ((e, f), (g, h)) = (0, 0) := by unfold segApart; rw [hs, ht]; rfl
      rw [e0]
      exact segApart_bad2 a b c d e f g h w h1 ((iSegOk e f g h).trans (congrArg some ht))
    | true =>
      have h2 := (iSegOk e f g h).trans (congrArg some ht)
      have hM : segMeet ((a, b), (c, d)) ((e, f), (g, h)) = meet ((a, b), (c, d)) ((e, f), (g, h)) := by unfold segMeet; rw [hs, ht]; rfl
      have h3 := iSegMeet (Nat.le_refl 3) a b c d e f g h
      rw [hM] at h3
      cases hm : meet ((a, b), (c, d)) ((e, f), (g, h)) with
      | true =>
        rw [hm] at h3
        have e0 : segApart ((a, b), (c, d)) ((e, f), (g, h)) = (0, 1) := by unfold segApart; rw [hs, ht, hm]; rfl
        rw [e0]
        exact segApart_meet a b c d e f g h w h1 h2 h3
      | false =>
        rw [hm] at h3
        obtain ⟨o1, o2⟩ := segOk_ends hs
        obtain ⟨o3, o4⟩ := segOk_ends ht
        have k0 := (segFar_ok hs o3).1
        have k1 := (segFar_ok hs o4).1
        have k2 := (segFar_ok ht o1).1
        have k3 := (segFar_ok ht o2).1
        have p1 := val_pick k0 k1
        have p2 := val_pick p1.1 k2
        have p3 := val_pick p2.1 k3
        have e0 : pickL (pickL (pickL (segFar ((a, b), (c, d)) (e, f)) (segFar ((a, b), (c, d)) (g, h))) (segFar ((e, f), (g, h)) (a, b))) (segFar ((e, f), (g, h)) (c, d)) = segApart ((a, b), (c, d)) ((e, f), (g, h)) := by
          refine apart_unique hs ht p3.1 hm ⟨?_, ?_, ?_, p3.2.1.2⟩ ?_
          · exact Rat.le_trans p3.2.1.1 (Rat.le_trans p2.2.1.1 p1.2.1.1)
          · exact Rat.le_trans p3.2.1.1 (Rat.le_trans p2.2.1.1 p1.2.1.2)
          · exact Rat.le_trans p3.2.1.1 p2.2.1.2
          · rcases p3.2.2 with e | e
            · rcases p2.2.2 with e' | e'
              · rcases p1.2.2 with e'' | e''
                · exact .inl (e.trans (e'.trans e''))
                · exact .inr (.inl (e.trans (e'.trans e'')))
              · exact .inr (.inr (.inl (e.trans e')))
            · exact .inr (.inr (.inr e))
        rw [← e0]
        exact segApart_far a b c d e f g h w h1 h2 h3 rfl rfl rfl rfl hE
end Go.Proofs.YtnponnkcfgjeoaaDoor.X
end
section
namespace Go.Proofs.YtnponnkcfgjeoaaDoor.X
open Go.RowKit Go.Proofs.YtnponnkcfgjeoaaDoorW.PrintWords Go.Proofs.YtnponnkcfgjeoaaDoorW.PrintLast Go.Proofs.YtnponnkcfgjeoaaDoorW.PrintMore
attribute [local go_sem] max2_int min2_int max_two min_two max_three min_three max_four min_four
set_option linter.unusedVariables false
set_option linter.unusedSimpArgs false
attribute [local go_sem high] eqA25
mutual
def laws_FnApartFar.j0 : Nat → Bool → Int → Int → Int → Int → Int → Int → Int → Int → Int → Int → Option (Bool)
 | 0, _, _, _, _, _, _, _, _, _, _, _ => none
 | k + 1, x34, x630000, x630001, x630002, x630003, x631000, x631001, x631002, x631003, x634000, x634001 => if x34 = true then ((spec_SegApart.f k x630000 x630001 x630002 x630003 x631000 x631001 x631002 x631003).bind fun bt638 => (some (x634000 == bt638.1 && (x634001 == bt638.2)))) else (laws_FnApartFar.l0 k 0 x630000 x630001 x630002 x630003 x631000 x631001 x631002 x631003 x634000 x634001)
def laws_FnApartFar.l0 : Nat → Int → Int → Int → Int → Int → Int → Int → Int → Int → Int → Int → Option (Bool)
 | 0, _, _, _, _, _, _, _, _, _, _, _ => none
 | k + 1, x6, x630000, x630001, x630002, x630003, x631000, x631001, x631002, x631003, x634000, x634001 => if x6 ≤ 9 then (laws_FnApartFar.l1 k x6 0 x630000 x630001 x630002 x630003 x631000 x631001 x631002 x631003 x634000 x634001) else (some true)
def laws_FnApartFar.l1 : Nat → Int → Int → Int → Int → Int → Int → Int → Int → Int → Int → Int → Int → Option (Bool)
 | 0, _, _, _, _, _, _, _, _, _, _, _, _ => none
 | k + 1, x6, x7, x630000, x630001, x630002, x630003, x631000, x631001, x631002, x631003, x634000, x634001 => if x7 ≤ 9 then ((impl_SegHas.f k x630000 x630001 x630002 x630003 x6 x7).bind fun t641 => (if t641 = true then ((impl_SegFar.f x631000 x631001 x631002 x631003 x6 x7).bind fun bt642 => ((impl_FracCmp.f x634000 x634001 bt642.1 bt642.2).bind fun t644 => (if t644 > 0 then (some false) else (laws_FnApartFar.l1 k x6 (wrap64 (x7 + 1)) x630000 x630001 x630002 x630003 x631000 x631001 x631002 x631003 x634000 x634001)))) else (laws_FnApartFar.l1 k x6 (wrap64 (x7 + 1)) x630000 x630001 x630002 x630003 x631000 x631001 x631002 x631003 x634000 x634001))) else (laws_FnApartFar.l0 k (wrap64 (x6 + 1)) x630000 x630001 x630002 x630003 x631000 x631001 x631002 x631003 x634000 x634001)
end
def laws_FnApartFar.f (k : Nat) (l0 : List Int) : Option (Bool) := if (l0.length : Int) > 1048576 then (some true) else ((spec_DrawSegApart.f k l0).bind fun bt621 => ((impl_SegApart.f bt621.1 bt621.2.1 bt621.2.2.1 bt621.2.2.2.1 bt621.2.2.2.2.1 bt621.2.2.2.2.2.1 bt621.2.2.2.2.2.2.1 bt621.2.2.2.2.2.2.2).bind fun bt631 => ((spec_SegApart.f k bt621.1 bt621.2.1 bt621.2.2.1 bt621.2.2.2.1 bt621.2.2.2.2.1 bt621.2.2.2.2.2.1 bt621.2.2.2.2.2.2.1 bt621.2.2.2.2.2.2.2).bind fun bt634 => (if (!(bt631.1 == bt634.1) || (!(bt631.2 == bt634.2))) = true then (laws_FnApartFar.j0 k true bt621.1 bt621.2.1 bt621.2.2.1 bt621.2.2.2.1 bt621.2.2.2.2.1 bt621.2.2.2.2.2.1 bt621.2.2.2.2.2.2.1 bt621.2.2.2.2.2.2.2 bt631.1 bt631.2) else ((spec_SegOk.f bt621.1 bt621.2.1 bt621.2.2.1 bt621.2.2.2.1).bind fun t636 => (if t636 = true then ((spec_SegOk.f bt621.2.2.2.2.1 bt621.2.2.2.2.2.1 bt621.2.2.2.2.2.2.1 bt621.2.2.2.2.2.2.2).bind fun t637 => (laws_FnApartFar.j0 k (!t637) bt621.1 bt621.2.1 bt621.2.2.1 bt621.2.2.2.1 bt621.2.2.2.2.1 bt621.2.2.2.2.2.1 bt621.2.2.2.2.2.2.1 bt621.2.2.2.2.2.2.2 bt631.1 bt631.2)) else (laws_FnApartFar.j0 k true bt621.1 bt621.2.1 bt621.2.2.1 bt621.2.2.2.1 bt621.2.2.2.2.1 bt621.2.2.2.2.2.1 bt621.2.2.2.2.2.2.1 bt621.2.2.2.2.2.2.2 bt631.1 bt631.2)))))))
def laws_FnApartFar.T5 : Bool × List (List Nat × List Nat) := (true, [([], []), ([], []), ([], []), ([1, 2], [1, 2]), ([0, 3], [0, 3]), ([4, 3], [4]), ([5], [5]), ([6, 5, 5], [5, 6]), ([7, 5], [5, 7]), ([5, 8], [5, 8]), ([9, 7], [9]), ([10], [10]), ([11, 10, 10], [10, 11]), ([12, 10], [10, 12]), ([10, 13], [10, 13])])
def laws_FnApartFar.B5 : List Nat := [0, 0, 0, 6, 15, 31, 63, 127, 255, 511, 1023, 2047, 4095, 8191, 16383]
theorem laws_FnApartFar.tab5 : rtab .any (opsOf Tryd.f13 5) = laws_FnApartFar.T5 := by kernel_rfl
theorem laws_FnApartFar.bits5 : waitsOk laws_FnApartFar.T5.2 laws_FnApartFar.B5 = true := by kernel_rfl
def laws_FnApartFar.T14 : Bool × List (List Nat × List Nat) := (true, [([], []), ([], []), ([0, 1], [0, 1]), ([2, 2], [2]), ([3], [3]), ([3], [3]), ([3], [3]), ([5, 6, 3, 3], [3, 5, 6]), ([4, 7, 7, 3], [3, 4, 7]), ([8, 3], [3, 8]), ([3, 9], [3, 9])])
def laws_FnApartFar.B14 : List Nat := [0, 0, 3, 7, 15, 15, 15, 111, 255, 511, 1023]
theorem laws_FnApartFar.tab14 : rtab .any (opsOf Tryd.f13 14) = laws_FnApartFar.T14 := by kernel_rfl
theorem laws_FnApartFar.bits14 : waitsOk laws_FnApartFar.T14.2 laws_FnApartFar.B14 = true := by kernel_rfl
set_option maxHeartbeats 8000000 in
set_option maxRecDepth 100000 in
theorem laws_FnApartFar.calls (k : Nat) (A0 : Option Addr) (c0 : Nat) (l0 : List Int) (r : Bool) (w : World) (hr0 : Kd.C (Kd.int .u8) w A0 l0.length l0) (hc0 : l0.length ≤ c0) (hE : ErrW w) (h : laws_FnApartFar.f k l0 = some r) :
  Calls Tryd.prog 13 #[.slice A0 l0.length c0] w fun e w' => e = .returned (.bool r) ∧ Below w.heap.size w w' := by
 have hu40 := Tryd.underlying40
 have hu25 := Tryd.underlying25
 have hu38 := Tryd.underlying38
 have HR0 := Aside0.mk hr0
 have HC0 := Aside0.mk hc0
 clear hr0 hc0
 have HB := Aside0.mk (Below.refl w.heap.size w)
 have HE := Aside0.mk hE
 clear hE
 have H : (if (l0.length : Int) > 1048576 then (some true) else ((spec_DrawSegApart.f k l0).bind fun bt621 => ((impl_SegApart.f bt621.1 bt621.2.1 bt621.2.2.1 bt621.2.2.2.1 bt621.2.2.2.2.1 bt621.2.2.2.2.2.1 bt621.2.2.2.2.2.2.1 bt621.2.2.2.2.2.2.2).bind fun bt631 => ((spec_SegApart.f k bt621.1 bt621.2.1 bt621.2.2.1 bt621.2.2.2.1 bt621.2.2.2.2.1 bt621.2.2.2.2.2.1 bt621.2.2.2.2.2.2.1 bt621.2.2.2.2.2.2.2).bind fun bt634 => (if (!(bt631.1 == bt634.1) || (!(bt631.2 == bt634.2))) = true then (laws_FnApartFar.j0 k true bt621.1 bt621.2.1 bt621.2.2.1 bt621.2.2.2.1 bt621.2.2.2.2.1 bt621.2.2.2.2.2.1 bt621.2.2.2.2.2.2.1 bt621.2.2.2.2.2.2.2 bt631.1 bt631.2) else ((spec_SegOk.f bt621.1 bt621.2.1 bt621.2.2.1 bt621.2.2.2.1).bind fun t636 => (if t636 = true then ((spec_SegOk.f bt621.2.2.2.2.1 bt621.2.2.2.2.2.1 bt621.2.2.2.2.2.2.1 bt621.2.2.2.2.2.2.2).bind fun t637 => (laws_FnApartFar.j0 k (!t637) bt621.1 bt621.2.1 bt621.2.2.1 bt621.2.2.2.1 bt621.2.2.2.2.1 bt621.2.2.2.2.2.1 bt621.2.2.2.2.2.2.1 bt621.2.2.2.2.2.2.2 bt631.1 bt631.2)) else (laws_FnApartFar.j0 k true bt621.1 bt621.2.1 bt621.2.2.1 bt621.2.2.2.1 bt621.2.2.2.2.1 bt621.2.2.2.2.2.1 bt621.2.2.2.2.2.2.1 bt621.2.2.2.2.2.2.2 bt631.1 bt631.2)))))))) = some r := h
 clear h
 by_cases c2 : (l0.length : Int) > 1048576
 ·
  rw [if_pos c2] at H
  have c2b0 : decide (1048576 < (l0.length : Int)) = true := decide_eq_true c2
  have c2b1 : decide (1048576 < l0.length) = true := decide_eq_true (by omega)
  clear c2
  obtain rfl := Option.some.inj H
  go_enter Tryd.func13, Tryd.ntmps13
  go_wp2
  go_ret
  exact ⟨by first | rfl | (simp [errW_none, errW_some] <;> rfl) | (simp [*, errW_none, errW_some] <;> rfl), hB_⟩
 ·
  rw [if_neg c2] at H
  have c2b0 : decide (1048576 < (l0.length : Int)) = false := decide_eq_false c2
  have c2b1 : decide (1048576 < l0.length) = false := decide_eq_false (by omega)
  clear c2
  replace H := Option.bind_eq_some_iff.mp H
  obtain ⟨⟨t621, t622, t623, t624, t625, t626, t627, t628⟩, A30, H⟩ := H
  replace H : ((impl_SegApart.f t621 t622 t623 t624 t625 t626 t627 t628).bind fun bt631 => ((spec_SegApart.f k t621 t622 t623 t624 t625 t626 t627 t628).bind fun bt634 => (if (!(bt631.1 == bt634.1) || (!(bt631.2 == bt634.2))) = true then (laws_FnApartFar.j0 k true t621 t622 t623 t624 t625 t626 t627 t628 bt631.1 bt631.2) else ((spec_SegOk.f t621 t622 t623 t624).bind fun t636 => (if t636 = true then ((spec_SegOk.f t625 t626 t627 t628).bind fun t637 => (laws_FnApartFar.j0 k (!t637) t621 t622 t623 t624 t625 t626 t627 t628 bt631.1 bt631.2)) else (laws_FnApartFar.j0 k true t621 t622 t623 t624 t625 t626 t627 t628 bt631.1 bt631.2)))))) = some r := H
  have A3 := Aside0.mk A30
  clear A30
  replace H := Option.bind_eq_some_iff.mp H
  obtain ⟨⟨t631, t632⟩, A40, H⟩ := H
  replace H : ((spec_SegApart.f k t621 t622 t623 t624 t625 t626 t627 t628).bind fun bt634 => (if (!(t631 == bt634.1) || (!(t632 == bt634.2))) = true then (laws_FnApartFar.j0 k true t621 t622 t623 t624 t625 t626 t627 t628 t631 t632) else ((spec_SegOk.f t621 t622 t623 t624).bind fun t636 => (if t636 = true then ((spec_SegOk.f t625 t626 t627 t628).bind fun t637 => (laws_FnApartFar.j0 k (!t637) t621 t622 t623 t624 t625 t626 t627 t628 t631 t632)) else (laws_FnApartFar.j0 k true t621 t622 t623 t624 t625 t626 t627 t628 t631 t632))))) = some r := H
  have A4 := Aside0.mk A40
  clear A40
  have HC5 := Aside0.mk H
  clear H
  go_enter Tryd.func13, Tryd.ntmps13
  go_upto_region 5 with (first | ((with_reducible refine gate_callee (f := 36) rfl ?_); refine goesL_ (some 14) rfl rfl Tryd.func36 (by kernel_rfl) rfl #[.slice A0 l0.length c0] rfl ma_ ?_; (with_reducible refine (spec_DrawSegApart.calls k _ _ l0 t621 t622 t623 t624 t625 t626 t627 t628 _ ?side1 ?side2 A3.out).mono ?_); (case side1 => repeat (first | exact HR0.out | (with_reducible refine Kd.C_alloc ?_ _) | (with_reducible refine Kd.C_drewN ?_ _) | (with_reducible refine Kd.C_drew ?_))); (case side2 => exact HC0.out); rintro e w6 ⟨rfl, hb⟩; refine ⟨_, rfl, ?_⟩; have n0_ := Aside0.mk (below_step hB_ hb); clear HB; have HB := n0_; clear n0_; (try clear hb); (try clear hb2); (try clear hk); (try clear hi)) | ((with_reducible refine gate_dst (N := 3) rfl ?_); refine box_event ?hg (N := 3) ?hd (cs := #[.int .i64 0, .int .i64 0, .int .i64 0, .int .i64 0]) (t := 40) ?hr ?_; (case hd => rfl); (case hg => rfl); (case hr => first | (go_simp; done) | (go_simp; rfl)); intro gb629 hg w7 hbox hb; have n0_ := Aside0.mk (below_step hB_ hb); have n1_ := Aside0.mk (hbox); have n2_ := Aside0.mk ((by rw [hg]; exact (below_size hB_) : w.heap.size ≤ gb629)); have n3_ := Aside0.mk ((by rw [hg]; exact (below_size hB_) : w.heap.size ≤ gb629)); clear HB; have HB := n0_; have BK629 := n1_; have GW629 := n2_; have GE629 := n3_; clear n0_ n1_ n2_ n3_; clear hb hbox hg) | ((with_reducible refine gate_dst (N := 4) rfl ?_); refine box_event ?hg (N := 4) ?hd (cs := #[.int .i64 0, .int .i64 0, .int .i64 0, .int .i64 0]) (t := 40) ?hr ?_; (case hd => rfl); (case hg => rfl); (case hr => first | (go_simp; done) | (go_simp; rfl)); intro gb630 hg w8 hbox hb; have n0_ := Aside0.mk (ub_ (g := gb629) hb); have n1_ := Aside0.mk (below_step hB_ hb); have n2_ := Aside0.mk (hbox); have n3_ := Aside0.mk ((by rw [hg]; exact (below_size hB_) : w.heap.size ≤ gb630)); have n4_ := Aside0.mk ((by rw [hg]; exact (below_size hB_) : w.heap.size ≤ gb630)); have n5_ := Aside0.mk ((by rw [hg]; exact Nat.ne_of_lt (blk_lt (g := gb629) (o := .cells #[.int .i64 0, .int .i64 0, .int .i64 0, .int .i64 0] 40 (0, 0)) uq_) : gb629 ≠ gb630)); have n6_ := Aside0.mk ((by rw [hg]; exact Nat.ne_of_gt (blk_lt (g := gb629) (o := .cells #[.int .i64 0, .int .i64 0, .int .i64 0, .int .i64 0] 40 (0, 0)) uq_) : gb630 ≠ gb629)); clear BK629; clear HB; have BK629 := n0_; have HB := n1_; have BK630 := n2_; have GW630 := n3_; have GE630 := n4_; have NB629_630 := n5_; have NB630_629 := n6_; clear n0_ n1_ n2_ n3_ n4_ n5_ n6_; clear hb hbox hg; have hnb9 := NB629_630.out; have hnc9 := NB630_629.out; have hcz10_0 : w8.cell? ⟨gb629, 0, none⟩ = some (.int .i64 0) := bc_; have hcz10_1 : w8.cell? ⟨gb629, 1, none⟩ = some (.int .i64 0) := bc_; have hcz10_2 : w8.cell? ⟨gb629, 2, none⟩ = some (.int .i64 0) := bc_; have hcz10_3 : w8.cell? ⟨gb629, 3, none⟩ = some (.int .i64 0) := bc_; have hfz10_0 := blk_frozen BK629.out 0; have hfz10_1 := blk_frozen BK629.out 1; have hfz10_2 := blk_frozen BK629.out 2; have hfz10_3 := blk_frozen BK629.out 3; have hcz11_0 : w8.cell? ⟨gb630, 0, none⟩ = some (.int .i64 0) := bc_; have hcz11_1 : w8.cell? ⟨gb630, 1, none⟩ = some (.int .i64 0) := bc_; have hcz11_2 : w8.cell? ⟨gb630, 2, none⟩ = some (.int .i64 0) := bc_; have hcz11_3 : w8.cell? ⟨gb630, 3, none⟩ = some (.int .i64 0) := bc_; have hfz11_0 := blk_frozen BK630.out 0; have hfz11_1 := blk_frozen BK630.out 1; have hfz11_2 := blk_frozen BK630.out 2; have hfz11_3 := blk_frozen BK630.out 3) | ((with_reducible refine gate_callee (f := 33) rfl ?_); refine goesL_ (some 19) rfl rfl Tryd.func33 (by kernel_rfl) rfl #[.agg #[.int .i64 t621, .int .i64 t622, .int .i64 t623, .int .i64 t624], .agg #[.int .i64 t625, .int .i64 t626, .int .i64 t627, .int .i64 t628]] rfl ma_ ?_; (with_reducible refine (impl_SegApart.calls t621 t622 t623 t624 t625 t626 t627 t628 t631 t632 _ ?side1 A4.out).mono ?_); (case side1 => exact ErrW.below HE.out hB_); rintro e w12 ⟨rfl, hb⟩; refine ⟨_, rfl, ?_⟩; have n0_ := Aside0.mk (blk_below (g := gb629) (o := .cells #[.int .i64 t621, .int .i64 t622, .int .i64 t623, .int .i64 t624] 40 (0, 0)) (by (with_reducible repeat (first | refine blk_drewN ?_ _ | refine blk_drew ?_ | refine blk_alloc ?_ _)); refine blk_far ?_ NB629_630.out _; (with_reducible repeat (first | refine blk_drewN ?_ _ | refine blk_drew ?_ | refine blk_alloc ?_ _)); refine blk_far ?_ NB629_630.out _; (with_reducible repeat (first | refine blk_drewN ?_ _ | refine blk_drew ?_ | refine blk_alloc ?_ _)); refine blk_far ?_ NB629_630.out _; (with_reducible repeat (first | refine blk_drewN ?_ _ | refine blk_drew ?_ | refine blk_alloc ?_ _)); refine blk_far ?_ NB629_630.out _; (with_reducible repeat (first | refine blk_drewN ?_ _ | refine blk_drew ?_ | refine blk_alloc ?_ _)); refine blk_put (cs := #[.int .i64 t621, .int .i64 t622, .int .i64 t623, .int .i64 0]) ?_ 3 _ rfl; (with_reducible repeat (first | refine blk_drewN ?_ _ | refine blk_drew ?_ | refine blk_alloc ?_ _)); refine blk_put (cs := #[.int .i64 t621, .int .i64 t622, .int .i64 0, .int .i64 0]) ?_ 2 _ rfl; (with_reducible repeat (first | refine blk_drewN ?_ _ | refine blk_drew ?_ | refine blk_alloc ?_ _)); refine blk_put (cs := #[.int .i64 t621, .int .i64 0, .int .i64 0, .int .i64 0]) ?_ 1 _ rfl; (with_reducible repeat (first | refine blk_drewN ?_ _ | refine blk_drew ?_ | refine blk_alloc ?_ _)); refine blk_put (cs := #[.int .i64 0, .int .i64 0, .int .i64 0, .int .i64 0]) ?_ 0 _ rfl; (with_reducible repeat (first | refine blk_drewN ?_ _ | refine blk_drew ?_ | refine blk_alloc ?_ _)); exact BK629.out) hb); have n1_ := Aside0.mk (blk_below (g := gb630) (o := .cells #[.int .i64 t625, .int .i64 t626, .int .i64 t627, .int .i64 t628] 40 (0, 0)) (by (with_reducible repeat (first | refine blk_drewN ?_ _ | refine blk_drew ?_ | refine blk_alloc ?_ _)); refine blk_put (cs := #[.int .i64 t625, .int .i64 t626, .int .i64 t627, .int .i64 0]) ?_ 3 _ rfl; (with_reducible repeat (first | refine blk_drewN ?_ _ | refine blk_drew ?_ | refine blk_alloc ?_ _)); refine blk_put (cs := #[.int .i64 t625, .int .i64 t626, .int .i64 0, .int .i64 0]) ?_ 2 _ rfl; (with_reducible repeat (first | refine blk_drewN ?_ _ | refine blk_drew ?_ | refine blk_alloc ?_ _)); refine blk_put (cs := #[.int .i64 t625, .int .i64 0, .int .i64 0, .int .i64 0]) ?_ 1 _ rfl; (with_reducible repeat (first | refine blk_drewN ?_ _ | refine blk_drew ?_ | refine blk_alloc ?_ _)); refine blk_put (cs := #[.int .i64 0, .int .i64 0, .int .i64 0, .int .i64 0]) ?_ 0 _ rfl; (with_reducible repeat (first | refine blk_drewN ?_ _ | refine blk_drew ?_ | refine blk_alloc ?_ _)); refine blk_far ?_ NB630_629.out _; (with_reducible repeat (first | refine blk_drewN ?_ _ | refine blk_drew ?_ | refine blk_alloc ?_ _)); refine blk_far ?_ NB630_629.out _; (with_reducible repeat (first | refine blk_drewN ?_ _ | refine blk_drew ?_ | refine blk_alloc ?_ _)); refine blk_far ?_ NB630_629.out _; (with_reducible repeat (first | refine blk_drewN ?_ _ | refine blk_drew ?_ | refine blk_alloc ?_ _)); refine blk_far ?_ NB630_629.out _; (with_reducible repeat (first | refine blk_drewN ?_ _ | refine blk_drew ?_ | refine blk_alloc ?_ _)); exact BK630.out) hb); have n2_ := Aside0.mk (below_step hB_ hb); clear BK629; clear BK630; clear HB; have BK629 := n0_; have BK630 := n1_; have HB := n2_; clear n0_ n1_ n2_; (try clear hb); (try clear hb2); (try clear hk); (try clear hi)) | ((with_reducible refine gate_dst (N := 5) rfl ?_); refine box_event ?hg (N := 5) ?hd (cs := #[.int .i64 0, .int .i64 0]) (t := 25) ?hr ?_; (case hd => rfl); (case hg => rfl); (case hr => first | (go_simp; done) | (go_simp; rfl)); intro gb633 hg w13 hbox hb; have n0_ := Aside0.mk (ub_ (g := gb629) hb); have n1_ := Aside0.mk (ub_ (g := gb630) hb); have n2_ := Aside0.mk (below_step hB_ hb); have n3_ := Aside0.mk (hbox); have n4_ := Aside0.mk ((by rw [hg]; exact (below_size hB_) : w.heap.size ≤ gb633)); have n5_ := Aside0.mk ((by rw [hg]; exact (below_size hB_) : w.heap.size ≤ gb633)); have n6_ := Aside0.mk ((by rw [hg]; exact Nat.ne_of_lt (blk_lt (g := gb629) (o := .cells #[.int .i64 t621, .int .i64 t622, .int .i64 t623, .int .i64 t624] 40 (0, 0)) uq_) : gb629 ≠ gb633)); have n7_ := Aside0.mk ((by rw [hg]; exact Nat.ne_of_gt (blk_lt (g := gb629) (o := .cells #[.int .i64 t621, .int .i64 t622, .int .i64 t623, .int .i64 t624] 40 (0, 0)) uq_) : gb633 ≠ gb629)); have n8_ := Aside0.mk ((by rw [hg]; exact Nat.ne_of_lt (blk_lt (g := gb630) (o := .cells #[.int .i64 t625, .int .i64 t626, .int .i64 t627, .int .i64 t628] 40 (0, 0)) uq_) : gb630 ≠ gb633)); have n9_ := Aside0.mk ((by rw [hg]; exact Nat.ne_of_gt (blk_lt (g := gb630) (o := .cells #[.int .i64 t625, .int .i64 t626, .int .i64 t627, .int .i64 t628] 40 (0, 0)) uq_) : gb633 ≠ gb630)); clear BK629; clear BK630; clear HB; have BK629 := n0_; have BK630 := n1_; have HB := n2_; have BK633 := n3_; have GW633 := n4_; have GE633 := n5_; have NB629_633 := n6_; have NB633_629 := n7_; have NB630_633 := n8_; have NB633_630 := n9_; clear n0_ n1_ n2_ n3_ n4_ n5_ n6_ n7_ n8_ n9_; clear hb hbox hg; have hnb14 := NB633_629.out; have hnc14 := NB629_633.out; have hnb15 := NB633_630.out; have hnc15 := NB630_633.out; have hcz16_0 : w13.cell? ⟨gb633, 0, none⟩ = some (.int .i64 0) := bc_; have hcz16_1 : w13.cell? ⟨gb633, 1, none⟩ = some (.int .i64 0) := bc_; have hfz16_0 := blk_frozen BK633.out 0; have hfz16_1 := blk_frozen BK633.out 1))
  (try simp only [Act.put, List.setIfInBounds_toArray, List.set_cons_zero, List.set_cons_succ])
  go_cut [34] (fun v34 wc => ∃ (kq : Nat) (x34_4 : Bool), v34 = .bool x34_4 ∧ Aside0 (laws_FnApartFar.j0 kq x34_4 t621 t622 t623 t624 t625 t626 t627 t628 t631 t632 = some r) ∧ Aside0 (kq ≤ k) ∧ Aside0 (wc.heap[gb629]? = some (.cells #[.int .i64 t621, .int .i64 t622, .int .i64 t623, .int .i64 t624] 40 (0, 0))) ∧ Aside0 (wc.heap[gb630]? = some (.cells #[.int .i64 t625, .int .i64 t626, .int .i64 t627, .int .i64 t628] 40 (0, 0))) ∧ Aside0 (wc.heap[gb633]? = some (.cells #[.int .i64 t631, .int .i64 t632] 25 (0, 0))) ∧ Aside0 (Below w.heap.size w wc))
  case first =>
   have H := HC5.out
   clear HC5
   replace H := Option.bind_eq_some_iff.mp H
   obtain ⟨⟨t634, t635⟩, A170, H⟩ := H
   replace H : (if (!(t631 == t634) || (!(t632 == t635))) = true then (laws_FnApartFar.j0 k true t621 t622 t623 t624 t625 t626 t627 t628 t631 t632) else ((spec_SegOk.f t621 t622 t623 t624).bind fun t636 => (if t636 = true then ((spec_SegOk.f t625 t626 t627 t628).bind fun t637 => (laws_FnApartFar.j0 k (!t637) t621 t622 t623 t624 t625 t626 t627 t628 t631 t632)) else (laws_FnApartFar.j0 k true t621 t622 t623 t624 t625 t626 t627 t628 t631 t632)))) = some r := H
   have A17 := Aside0.mk A170
   clear A170
   by_cases c18 : (!(t631 == t634) || (!(t632 == t635))) = true
   ·
    rw [if_pos c18] at H
    have c18b0 : (!(t631 == t634) || (!(t632 == t635))) = true := c18
    clear c18
    (first | rw [c18b0] | (simp only [i64_w, i32_w]; rw [c18b0]) | skip)
    have H' := Aside0.mk H
    clear H
    try go_wp2
    have n0_ : Aside0 (((w13.setCell ⟨gb633, 0, none⟩ (.int .i64 t631)).setCell ⟨gb633, 1, none⟩ (.int .i64 t632)).heap[gb629]? = some (.cells #[.int .i64 t621, .int .i64 t622, .int .i64 t623, .int .i64 t624] 40 (0, 0))) := ⟨by (with_reducible repeat (first | refine blk_drewN ?_ _ | refine blk_drew ?_ | refine blk_alloc ?_ _)); refine blk_far ?_ NB629_633.out _; (with_reducible repeat (first | refine blk_drewN ?_ _ | refine blk_drew ?_ | refine blk_alloc ?_ _)); refine blk_far ?_ NB629_633.out _; (with_reducible repeat (first | refine blk_drewN ?_ _ | refine blk_drew ?_ | refine blk_alloc ?_ _)); exact BK629.out⟩
    have n1_ : Aside0 (((w13.setCell ⟨gb633, 0, none⟩ (.int .i64 t631)).setCell ⟨gb633, 1, none⟩ (.int .i64 t632)).heap[gb630]? = some (.cells #[.int .i64 t625, .int .i64 t626, .int .i64 t627, .int .i64 t628] 40 (0, 0))) := ⟨by (with_reducible repeat (first | refine blk_drewN ?_ _ | refine blk_drew ?_ | refine blk_alloc ?_ _)); refine blk_far ?_ NB630_633.out _; (with_reducible repeat (first | refine blk_drewN ?_ _ | refine blk_drew ?_ | refine blk_alloc ?_ _)); refine blk_far ?_ NB630_633.out _; (with_reducible repeat (first | refine blk_drewN ?_ _ | refine blk_drew ?_ | refine blk_alloc ?_ _)); exact BK630.out⟩
    have n2_ : Aside0 (((w13.setCell ⟨gb633, 0, none⟩ (.int .i64 t631)).setCell ⟨gb633, 1, none⟩ (.int .i64 t632)).heap[gb633]? = some (.cells #[.int .i64 t631, .int .i64 t632] 25 (0, 0))) := ⟨by (with_reducible repeat (first | refine blk_drewN ?_ _ | refine blk_drew ?_ | refine blk_alloc ?_ _)); refine blk_put (cs := #[.int .i64 t631, .int .i64 0]) ?_ 1 _ rfl; (with_reducible repeat (first | refine blk_drewN ?_ _ | refine blk_drew ?_ | refine blk_alloc ?_ _)); refine blk_put (cs := #[.int .i64 0, .int .i64 0]) ?_ 0 _ rfl; (with_reducible repeat (first | refine blk_drewN ?_ _ | refine blk_drew ?_ | refine blk_alloc ?_ _)); exact BK633.out⟩
    have n3_ : Aside0 (Below w.heap.size w ((w13.setCell ⟨gb633, 0, none⟩ (.int .i64 t631)).setCell ⟨gb633, 1, none⟩ (.int .i64 t632))) := ⟨hB_⟩
    (try clear BK629)
    (try clear BK630)
    (try clear BK633)
    (try clear HB)
    generalize ((w13.setCell ⟨gb633, 0, none⟩ (.int .i64 t631)).setCell ⟨gb633, 1, none⟩ (.int .i64 t632)) = w19 at n0_ n1_ n2_ n3_ ⊢
    have BK629 := n0_
    have BK630 := n1_
    have BK633 := n2_
    have HB := n3_
    clear n0_ n1_ n2_ n3_
    have n0_ := Aside0.mk (blk_drew BK629.out)
    have n1_ := Aside0.mk (blk_drew BK630.out)
    have n2_ := Aside0.mk (blk_drew BK633.out)
    have n3_ := Aside0.mk (below_drew1 HB.out)
    clear BK629 BK630 BK633 HB
    have BK629 := n0_
    have BK630 := n1_
    have BK633 := n2_
    have HB := n3_
    clear n0_ n1_ n2_ n3_
    refine start_ (n := 15) (S := fun w' => w'.cell? ⟨gb633, 0, none⟩ = some (.int .i64 t631) ∧ w'.cell? ⟨gb633, 1, none⟩ = some (.int .i64 t632) ∧ w'.cell? ⟨gb629, 0, none⟩ = some (.int .i64 t621) ∧ w'.cell? ⟨gb629, 1, none⟩ = some (.int .i64 t622) ∧ w'.cell? ⟨gb629, 2, none⟩ = some (.int .i64 t623) ∧ w'.cell? ⟨gb629, 3, none⟩ = some (.int .i64 t624) ∧ w'.cell? ⟨gb630, 0, none⟩ = some (.int .i64 t625) ∧ w'.cell? ⟨gb630, 1, none⟩ = some (.int .i64 t626) ∧ w'.cell? ⟨gb630, 2, none⟩ = some (.int .i64 t627) ∧ w'.cell? ⟨gb630, 3, none⟩ = some (.int .i64 t628)) (ds := []) #[false, false, false, false, false, false, false, false, false, false, false, false, false, false, false] (by kernel_rfl) rfl rfl ⟨bc_, bc_, bc_, bc_, bc_, bc_, bc_, bc_, bc_, bc_⟩ (fun hHeld => ?_); refine with_tabW laws_FnApartFar.tab5 laws_FnApartFar.bits5 (fun HT_ HW_ => ?_)
    generalize w19.drew = w20 at BK629 BK630 BK633 HB hHeld ⊢
    refine take_ (i := 0) (N := some 20) (v := ?_) (a' := ?_) (bm 15 1) rfl rfl (take_ofW HT_.out HW_.out (by kernel_rfl)) (fun _ _ _ h => h) (Or.inl ⟨by rfl, ?_⟩) hHeld ?_ ?_
    rotate_left
    ·
     rintro w' ⟨s0, s1, s2, s3, s4, s5, s6, s7, s8, s9⟩
     go_simp
     with_reducible rfl
    rotate_left
    ·
     simp only [Act.put, List.setIfInBounds_toArray, List.set_cons_zero, List.set_cons_succ, i64_w, i32_w]
     rfl
    refine take_ (i := 1) (N := some 21) (v := ?_) (a' := ?_) (bm 15 3) rfl rfl (take_ofW HT_.out HW_.out (by kernel_rfl)) (fun _ _ _ h => h) (Or.inl ⟨by rfl, ?_⟩) hHeld ?_ ?_
    rotate_left
    ·
     rintro w' ⟨s0, s1, s2, s3, s4, s5, s6, s7, s8, s9⟩
     go_simp
     with_reducible rfl
    rotate_left
    ·
     simp only [Act.put, List.setIfInBounds_toArray, List.set_cons_zero, List.set_cons_succ, i64_w, i32_w]
     rfl
    refine take_ (i := 2) (N := some 22) (v := ?_) (a' := ?_) (bm 15 7) rfl rfl (take_ofW HT_.out HW_.out (by kernel_rfl)) (fun _ _ _ h => h) (Or.inl ⟨by rfl, ?_⟩) hHeld ?_ ?_
    rotate_left
    ·
     rintro w' ⟨s0, s1, s2, s3, s4, s5, s6, s7, s8, s9⟩
     go_simp
     with_reducible rfl
    rotate_left
    ·
     simp only [Act.put, List.setIfInBounds_toArray, List.set_cons_zero, List.set_cons_succ, i64_w, i32_w]
     rfl
    refine one_ (i := 3) (N := some 23) (bm 15 15) rfl rfl (one_of HT_.out (by kernel_rfl)) (by decide) (fun K hK => ?_)
    refine goes_ Tryd.func31 (by kernel_rfl) rfl #[.agg #[.int .i64 t621, .int .i64 t622, .int .i64 t623, .int .i64 t624], .agg #[.int .i64 t625, .int .i64 t626, .int .i64 t627, .int .i64 t628]] (by rfl) rfl rfl ma_ ?_
    with_reducible refine (spec_SegApart.calls k t621 t622 t623 t624 t625 t626 t627 t628 t634 t635 _ A17.out).mono ?_
    rintro e w21 ⟨rfl, hb⟩
    refine ⟨_, rfl, ?_⟩
    have n0_ := Aside0.mk (ub_ (g := gb629) hb)
    have n1_ := Aside0.mk (ub_ (g := gb630) hb)
    have n2_ := Aside0.mk (ub_ (g := gb633) hb)
    have n3_ := Aside0.mk (below_step hB_ hb)
    clear BK629 BK630 BK633 HB
    have BK629 := n0_
    have BK630 := n1_
    have BK633 := n2_
    have HB := n3_
    clear n0_ n1_ n2_ n3_
    (try clear hb)
    (try clear hb2)
    (try clear hk)
    (try clear hi)
    refine hK.out _ _ ⟨bc_, bc_, bc_, bc_, bc_, bc_, bc_, bc_, bc_, bc_⟩ (fun hHeld => ?_)
    clear hK K
    refine norm_ (a' := ?_) ?_ ?_
    rotate_left
    ·
     show Act.put _ (some 23) _ = _
     simp only [Act.put, List.setIfInBounds_toArray, List.set_cons_zero, List.set_cons_succ, i64_w, i32_w]
     rfl
    refine pure_ (i := 4) (N := some 24) (v := ?_) (a' := ?_) (bm 15 31) rfl rfl (any_of HT_.out (by kernel_rfl)) (fun _ _ _ h => h) (Or.inl ⟨by rfl, ?_⟩) ?_ ?_
    rotate_left
    ·
     intro w'
     go_simp
     with_reducible rfl
    rotate_left
    ·
     simp only [Act.put, List.setIfInBounds_toArray, List.set_cons_zero, List.set_cons_succ, i64_w, i32_w]
     rfl
    refine pure_ (i := 5) (N := some 25) (v := ?_) (a' := ?_) (bm 15 63) rfl rfl (any_of HT_.out (by kernel_rfl)) (fun _ _ _ h => h) (Or.inl ⟨by rfl, ?_⟩) ?_ ?_
    rotate_left
    ·
     intro w'
     go_simp
     with_reducible rfl
    rotate_left
    ·
     simp only [Act.put, List.setIfInBounds_toArray, List.set_cons_zero, List.set_cons_succ, i64_w, i32_w]
     rfl
    refine pure_ (i := 6) (N := some 26) (v := undef) (a' := ?_) (bm 15 127) rfl rfl (any_of HT_.out (by kernel_rfl)) (fun _ _ _ h => h) (Or.inr ⟨by rfl, rfl⟩) ?_ ?_
    rotate_left
    ·
     simp only [Act.put, List.setIfInBounds_toArray, List.set_cons_zero, List.set_cons_succ, i64_w, i32_w]
     rfl
    refine pure_ (i := 7) (N := some 27) (v := undef) (a' := ?_) (bm 15 255) rfl rfl (any_of HT_.out (by kernel_rfl)) (fun _ _ _ h => h) (Or.inr ⟨by rfl, rfl⟩) ?_ ?_
    rotate_left
    ·
     simp only [Act.put, List.setIfInBounds_toArray, List.set_cons_zero, List.set_cons_succ, i64_w, i32_w]
     rfl
    refine pure_ (i := 8) (N := some 28) (v := undef) (a' := ?_) (bm 15 511) rfl rfl (any_of HT_.out (by kernel_rfl)) (fun _ _ _ h => h) (Or.inr ⟨by rfl, rfl⟩) ?_ ?_
    rotate_left
    ·
     simp only [Act.put, List.setIfInBounds_toArray, List.set_cons_zero, List.set_cons_succ, i64_w, i32_w]
     rfl
    refine pure_ (i := 9) (N := some 29) (v := ?_) (a' := ?_) (bm 15 1023) rfl rfl (any_of HT_.out (by kernel_rfl)) (fun _ _ _ h => h) (Or.inl ⟨by rfl, ?_⟩) ?_ ?_
    rotate_left
    ·
     intro w'
     go_simp
     with_reducible rfl
    rotate_left
    ·
     simp only [Act.put, List.setIfInBounds_toArray, List.set_cons_zero, List.set_cons_succ, i64_w, i32_w]
     rfl
    refine pure_ (i := 10) (N := some 30) (v := ?_) (a' := ?_) (bm 15 2047) rfl rfl (any_of HT_.out (by kernel_rfl)) (fun _ _ _ h => h) (Or.inl ⟨by rfl, ?_⟩) ?_ ?_
    rotate_left
    ·
     intro w'
     go_simp
     with_reducible rfl
    rotate_left
    ·
     simp only [Act.put, List.setIfInBounds_toArray, List.set_cons_zero, List.set_cons_succ, i64_w, i32_w]
     rfl
    refine pure_ (i := 11) (N := some 31) (v := undef) (a' := ?_) (bm 15 4095) rfl rfl (any_of HT_.out (by kernel_rfl)) (fun _ _ _ h => h) (Or.inr ⟨by rfl, rfl⟩) ?_ ?_
    rotate_left
    ·
     simp only [Act.put, List.setIfInBounds_toArray, List.set_cons_zero, List.set_cons_succ, i64_w, i32_w]
     rfl
    refine pure_ (i := 12) (N := some 32) (v := undef) (a' := ?_) (bm 15 8191) rfl rfl (any_of HT_.out (by kernel_rfl)) (fun _ _ _ h => h) (Or.inr ⟨by rfl, rfl⟩) ?_ ?_
    rotate_left
    ·
     simp only [Act.put, List.setIfInBounds_toArray, List.set_cons_zero, List.set_cons_succ, i64_w, i32_w]
     rfl
    refine pure_ (i := 13) (N := some 33) (v := undef) (a' := ?_) (bm 15 16383) rfl rfl (any_of HT_.out (by kernel_rfl)) (fun _ _ _ h => h) (Or.inr ⟨by rfl, rfl⟩) ?_ ?_
    rotate_left
    ·
     simp only [Act.put, List.setIfInBounds_toArray, List.set_cons_zero, List.set_cons_succ, i64_w, i32_w]
     rfl
    refine pure_ (i := 14) (N := some 34) (v := ?_) (a' := ?_) (bm 15 32767) rfl rfl (any_of HT_.out (by kernel_rfl)) (fun _ _ _ h => h) (Or.inl ⟨by rfl, ?_⟩) ?_ ?_
    rotate_left
    ·
     intro w'
     go_simp
     with_reducible rfl
    rotate_left
    ·
     simp only [Act.put, List.setIfInBounds_toArray, List.set_cons_zero, List.set_cons_succ, i64_w, i32_w]
     rfl
    refine done_ (done_of HT_.out (by kernel_rfl)) ?_
    try go_wp2
    go_meet
    case rel => exact ⟨_, (true), (by first | rfl | (simp; done) | (simp [*]; done)), H', ⟨by first | omega | exact Nat.le_refl _⟩, ⟨uq_⟩, ⟨uq_⟩, ⟨uq_⟩, ⟨hB_⟩⟩
   ·
    rw [if_neg c18] at H
    have c18b0 : (!(t631 == t634) || (!(t632 == t635))) = false := by simpa using c18
    clear c18
    (first | rw [c18b0] | (simp only [i64_w, i32_w]; rw [c18b0]) | skip)
    replace H := Option.bind_eq_some_iff.mp H
    obtain ⟨t636, A220, H⟩ := H
    replace H : (if t636 = true then ((spec_SegOk.f t625 t626 t627 t628).bind fun t637 => (laws_FnApartFar.j0 k (!t637) t621 t622 t623 t624 t625 t626 t627 t628 t631 t632)) else (laws_FnApartFar.j0 k true t621 t622 t623 t624 t625 t626 t627 t628 t631 t632)) = some r := H
    have A22 := Aside0.mk A220
    clear A220
    by_cases c23 : t636 = true
    ·
     subst c23
     have H1 : ((spec_SegOk.f t625 t626 t627 t628).bind fun t637 => (laws_FnApartFar.j0 k (!t637) t621 t622 t623 t624 t625 t626 t627 t628 t631 t632)) = some r := by rw [if_pos rfl] at H; exact H
     clear H
     have H := H1
     clear H1
     replace H := Option.bind_eq_some_iff.mp H
     obtain ⟨t637, A240, H⟩ := H
     replace H : (laws_FnApartFar.j0 k (!t637) t621 t622 t623 t624 t625 t626 t627 t628 t631 t632) = some r := H
     have A24 := Aside0.mk A240
     clear A240
     have H' := Aside0.mk H
     clear H
     try go_wp2
     have n0_ : Aside0 (((w13.setCell ⟨gb633, 0, none⟩ (.int .i64 t631)).setCell ⟨gb633, 1, none⟩ (.int .i64 t632)).heap[gb629]? = some (.cells #[.int .i64 t621, .int .i64 t622, .int .i64 t623, .int .i64 t624] 40 (0, 0))) := ⟨by (with_reducible repeat (first | refine blk_drewN ?_ _ | refine blk_drew ?_ | refine blk_alloc ?_ _)); refine blk_far ?_ NB629_633.out _; (with_reducible repeat (first | refine blk_drewN ?_ _ | refine blk_drew ?_ | refine blk_alloc ?_ _)); refine blk_far ?_ NB629_633.out _; (with_reducible repeat (first | refine blk_drewN ?_ _ | refine blk_drew ?_ | refine blk_alloc ?_ _)); exact BK629.out⟩
     have n1_ : Aside0 (((w13.setCell ⟨gb633, 0, none⟩ (.int .i64 t631)).setCell ⟨gb633, 1, none⟩ (.int .i64 t632)).heap[gb630]? = some (.cells #[.int .i64 t625, .int .i64 t626, .int .i64 t627, .int .i64 t628] 40 (0, 0))) := ⟨by (with_reducible repeat (first | refine blk_drewN ?_ _ | refine blk_drew ?_ | refine blk_alloc ?_ _)); refine blk_far ?_ NB630_633.out _; (with_reducible repeat (first | refine blk_drewN ?_ _ | refine blk_drew ?_ | refine blk_alloc ?_ _)); refine blk_far ?_ NB630_633.out _; (with_reducible repeat (first | refine blk_drewN ?_ _ | refine blk_drew ?_ | refine blk_alloc ?_ _)); exact BK630.out⟩
     have n2_ : Aside0 (((w13.setCell ⟨gb633, 0, none⟩ (.int .i64 t631)).setCell ⟨gb633, 1, none⟩ (.int .i64 t632)).heap[gb633]? = some (.cells #[.int .i64 t631, .int .i64 t632] 25 (0, 0))) := ⟨by (with_reducible repeat (first | refine blk_drewN ?_ _ | refine blk_drew ?_ | refine blk_alloc ?_ _)); refine blk_put (cs := #[.int .i64 t631, .int .i64 0]) ?_ 1 _ rfl; (with_reducible repeat (first | refine blk_drewN ?_ _ | refine blk_drew ?_ | refine blk_alloc ?_ _)); refine blk_put (cs := #[.int .i64 0, .int .i64 0]) ?_ 0 _ rfl; (with_reducible repeat (first | refine blk_drewN ?_ _ | refine blk_drew ?_ | refine blk_alloc ?_ _)); exact BK633.out⟩
     have n3_ : Aside0 (Below w.heap.size w ((w13.setCell ⟨gb633, 0, none⟩ (.int .i64 t631)).setCell ⟨gb633, 1, none⟩ (.int .i64 t632))) := ⟨hB_⟩
     (try clear BK629)
     (try clear BK630)
     (try clear BK633)
     (try clear HB)
     generalize ((w13.setCell ⟨gb633, 0, none⟩ (.int .i64 t631)).setCell ⟨gb633, 1, none⟩ (.int .i64 t632)) = w25 at n0_ n1_ n2_ n3_ ⊢
     have BK629 := n0_
     have BK630 := n1_
     have BK633 := n2_
     have HB := n3_
     clear n0_ n1_ n2_ n3_
     have n0_ := Aside0.mk (blk_drew BK629.out)
     have n1_ := Aside0.mk (blk_drew BK630.out)
     have n2_ := Aside0.mk (blk_drew BK633.out)
     have n3_ := Aside0.mk (below_drew1 HB.out)
     clear BK629 BK630 BK633 HB
     have BK629 := n0_
     have BK630 := n1_
     have BK633 := n2_
     have HB := n3_
     clear n0_ n1_ n2_ n3_
     refine start_ (n := 15) (S := fun w' => w'.cell? ⟨gb633, 0, none⟩ = some (.int .i64 t631) ∧ w'.cell? ⟨gb633, 1, none⟩ = some (.int .i64 t632) ∧ w'.cell? ⟨gb629, 0, none⟩ = some (.int .i64 t621) ∧ w'.cell? ⟨gb629, 1, none⟩ = some (.int .i64 t622) ∧ w'.cell? ⟨gb629, 2, none⟩ = some (.int .i64 t623) ∧ w'.cell? ⟨gb629, 3, none⟩ = some (.int .i64 t624) ∧ w'.cell? ⟨gb630, 0, none⟩ = some (.int .i64 t625) ∧ w'.cell? ⟨gb630, 1, none⟩ = some (.int .i64 t626) ∧ w'.cell? ⟨gb630, 2, none⟩ = some (.int .i64 t627) ∧ w'.cell? ⟨gb630, 3, none⟩ = some (.int .i64 t628)) (ds := []) #[false, false, false, false, false, false, false, false, false, false, false, false, false, false, false] (by kernel_rfl) rfl rfl ⟨bc_, bc_, bc_, bc_, bc_, bc_, bc_, bc_, bc_, bc_⟩ (fun hHeld => ?_); refine with_tabW laws_FnApartFar.tab5 laws_FnApartFar.bits5 (fun HT_ HW_ => ?_)
     generalize w25.drew = w26 at BK629 BK630 BK633 HB hHeld ⊢
     refine take_ (i := 0) (N := some 20) (v := ?_) (a' := ?_) (bm 15 1) rfl rfl (take_ofW HT_.out HW_.out (by kernel_rfl)) (fun _ _ _ h => h) (Or.inl ⟨by rfl, ?_⟩) hHeld ?_ ?_
     rotate_left
     ·
      rintro w' ⟨s0, s1, s2, s3, s4, s5, s6, s7, s8, s9⟩
      go_simp
      with_reducible rfl
     rotate_left
     ·
      simp only [Act.put, List.setIfInBounds_toArray, List.set_cons_zero, List.set_cons_succ, i64_w, i32_w]
      rfl
     refine take_ (i := 1) (N := some 21) (v := ?_) (a' := ?_) (bm 15 3) rfl rfl (take_ofW HT_.out HW_.out (by kernel_rfl)) (fun _ _ _ h => h) (Or.inl ⟨by rfl, ?_⟩) hHeld ?_ ?_
     rotate_left
     ·
      rintro w' ⟨s0, s1, s2, s3, s4, s5, s6, s7, s8, s9⟩
      go_simp
      with_reducible rfl
     rotate_left
     ·
      simp only [Act.put, List.setIfInBounds_toArray, List.set_cons_zero, List.set_cons_succ, i64_w, i32_w]
      rfl
     refine take_ (i := 2) (N := some 22) (v := ?_) (a' := ?_) (bm 15 7) rfl rfl (take_ofW HT_.out HW_.out (by kernel_rfl)) (fun _ _ _ h => h) (Or.inl ⟨by rfl, ?_⟩) hHeld ?_ ?_
     rotate_left
     ·
      rintro w' ⟨s0, s1, s2, s3, s4, s5, s6, s7, s8, s9⟩
      go_simp
      with_reducible rfl
     rotate_left
     ·
      simp only [Act.put, List.setIfInBounds_toArray, List.set_cons_zero, List.set_cons_succ, i64_w, i32_w]
      rfl
     refine one_ (i := 3) (N := some 23) (bm 15 15) rfl rfl (one_of HT_.out (by kernel_rfl)) (by decide) (fun K hK => ?_)
     refine goes_ Tryd.func31 (by kernel_rfl) rfl #[.agg #[.int .i64 t621, .int .i64 t622, .int .i64 t623, .int .i64 t624], .agg #[.int .i64 t625, .int .i64 t626, .int .i64 t627, .int .i64 t628]] (by rfl) rfl rfl ma_ ?_
     with_reducible refine (spec_SegApart.calls k t621 t622 t623 t624 t625 t626 t627 t628 t634 t635 _ A17.out).mono ?_
     rintro e w27 ⟨rfl, hb⟩
     refine ⟨_, rfl, ?_⟩
     have n0_ := Aside0.mk (ub_ (g := gb629) hb)
     have n1_ := Aside0.mk (ub_ (g := gb630) hb)
     have n2_ := Aside0.mk (ub_ (g := gb633) hb)
     have n3_ := Aside0.mk (below_step hB_ hb)
     clear BK629 BK630 BK633 HB
     have BK629 := n0_
     have BK630 := n1_
     have BK633 := n2_
     have HB := n3_
     clear n0_ n1_ n2_ n3_
     (try clear hb)
     (try clear hb2)
     (try clear hk)
     (try clear hi)
     refine hK.out _ _ ⟨bc_, bc_, bc_, bc_, bc_, bc_, bc_, bc_, bc_, bc_⟩ (fun hHeld => ?_)
     clear hK K
     refine norm_ (a' := ?_) ?_ ?_
     rotate_left
     ·
      show Act.put _ (some 23) _ = _
      simp only [Act.put, List.setIfInBounds_toArray, List.set_cons_zero, List.set_cons_succ, i64_w, i32_w]
      rfl
     refine pure_ (i := 4) (N := some 24) (v := ?_) (a' := ?_) (bm 15 31) rfl rfl (any_of HT_.out (by kernel_rfl)) (fun _ _ _ h => h) (Or.inl ⟨by rfl, ?_⟩) ?_ ?_
     rotate_left
     ·
      intro w'
      go_simp
      with_reducible rfl
     rotate_left
     ·
      simp only [Act.put, List.setIfInBounds_toArray, List.set_cons_zero, List.set_cons_succ, i64_w, i32_w]
      rfl
     refine pure_ (i := 5) (N := some 25) (v := ?_) (a' := ?_) (bm 15 63) rfl rfl (any_of HT_.out (by kernel_rfl)) (fun _ _ _ h => h) (Or.inl ⟨by rfl, ?_⟩) ?_ ?_
     rotate_left
     ·
      intro w'
      go_simp
      with_reducible rfl
     rotate_left
     ·
      simp only [Act.put, List.setIfInBounds_toArray, List.set_cons_zero, List.set_cons_succ, i64_w, i32_w]
      rfl
     refine take_ (i := 6) (N := some 26) (v := ?_) (a' := ?_) (bm 15 127) rfl rfl (take_ofW HT_.out HW_.out (by kernel_rfl)) (fun _ _ _ h => h) (Or.inl ⟨by rfl, ?_⟩) hHeld ?_ ?_
     rotate_left
     ·
      rintro w' ⟨s0, s1, s2, s3, s4, s5, s6, s7, s8, s9⟩
      go_simp
      with_reducible rfl
     rotate_left
     ·
      simp only [Act.put, List.setIfInBounds_toArray, List.set_cons_zero, List.set_cons_succ, i64_w, i32_w]
      rfl
     refine one_ (i := 7) (N := some 27) (bm 15 255) rfl rfl (one_of HT_.out (by kernel_rfl)) (by decide) (fun K hK => ?_)
     refine goes_ Tryd.func26 (by kernel_rfl) rfl #[.agg #[.int .i64 t621, .int .i64 t622, .int .i64 t623, .int .i64 t624]] (by rfl) rfl rfl ma_ ?_
     with_reducible refine (spec_SegOk.calls t621 t622 t623 t624 true _ A22.out).mono ?_
     rintro e w28 ⟨rfl, hb⟩
     refine ⟨_, rfl, ?_⟩
     have n0_ := Aside0.mk (ub_ (g := gb629) hb)
     have n1_ := Aside0.mk (ub_ (g := gb630) hb)
     have n2_ := Aside0.mk (ub_ (g := gb633) hb)
     have n3_ := Aside0.mk (below_step hB_ hb)
     clear BK629 BK630 BK633 HB
     have BK629 := n0_
     have BK630 := n1_
     have BK633 := n2_
     have HB := n3_
     clear n0_ n1_ n2_ n3_
     (try clear hb)
     (try clear hb2)
     (try clear hk)
     (try clear hi)
     refine hK.out _ _ ⟨bc_, bc_, bc_, bc_, bc_, bc_, bc_, bc_, bc_, bc_⟩ (fun hHeld => ?_)
     clear hK K
     refine norm_ (a' := ?_) ?_ ?_
     rotate_left
     ·
      show Act.put _ (some 27) _ = _
      simp only [Act.put, List.setIfInBounds_toArray, List.set_cons_zero, List.set_cons_succ, i64_w, i32_w]
      rfl
     refine pure_ (i := 8) (N := some 28) (v := ?_) (a' := ?_) (bm 15 511) rfl rfl (any_of HT_.out (by kernel_rfl)) (fun _ _ _ h => h) (Or.inl ⟨by rfl, ?_⟩) ?_ ?_
     rotate_left
     ·
      intro w'
      go_simp
      with_reducible rfl
     rotate_left
     ·
      simp only [Act.put, List.setIfInBounds_toArray, List.set_cons_zero, List.set_cons_succ, i64_w, i32_w]
      rfl
     refine pure_ (i := 9) (N := some 29) (v := ?_) (a' := ?_) (bm 15 1023) rfl rfl (any_of HT_.out (by kernel_rfl)) (fun _ _ _ h => h) (Or.inl ⟨by rfl, ?_⟩) ?_ ?_
     rotate_left
     ·
      intro w'
      go_simp
      with_reducible rfl
     rotate_left
     ·
      simp only [Act.put, List.setIfInBounds_toArray, List.set_cons_zero, List.set_cons_succ, i64_w, i32_w]
      rfl
     refine pure_ (i := 10) (N := some 30) (v := ?_) (a' := ?_) (bm 15 2047) rfl rfl (any_of HT_.out (by kernel_rfl)) (fun _ _ _ h => h) (Or.inl ⟨by rfl, ?_⟩) ?_ ?_
     rotate_left
     ·
      intro w'
      go_simp
      with_reducible rfl
     rotate_left
     ·
      simp only [Act.put, List.setIfInBounds_toArray, List.set_cons_zero, List.set_cons_succ, i64_w, i32_w]
      rfl
     refine take_ (i := 11) (N := some 31) (v := ?_) (a' := ?_) (bm 15 4095) rfl rfl (take_ofW HT_.out HW_.out (by kernel_rfl)) (fun _ _ _ h => h) (Or.inl ⟨by rfl, ?_⟩) hHeld ?_ ?_
     rotate_left
     ·
      rintro w' ⟨s0, s1, s2, s3, s4, s5, s6, s7, s8, s9⟩
      go_simp
      with_reducible rfl
     rotate_left
     ·
      simp only [Act.put, List.setIfInBounds_toArray, List.set_cons_zero, List.set_cons_succ, i64_w, i32_w]
      rfl
     refine one_ (i := 12) (N := some 32) (bm 15 8191) rfl rfl (one_of HT_.out (by kernel_rfl)) (by decide) (fun K hK => ?_)
     refine goes_ Tryd.func26 (by kernel_rfl) rfl #[.agg #[.int .i64 t625, .int .i64 t626, .int .i64 t627, .int .i64 t628]] (by rfl) rfl rfl ma_ ?_
     with_reducible refine (spec_SegOk.calls t625 t626 t627 t628 t637 _ A24.out).mono ?_
     rintro e w29 ⟨rfl, hb⟩
     refine ⟨_, rfl, ?_⟩
     have n0_ := Aside0.mk (ub_ (g := gb629) hb)
     have n1_ := Aside0.mk (ub_ (g := gb630) hb)
     have n2_ := Aside0.mk (ub_ (g := gb633) hb)
     have n3_ := Aside0.mk (below_step hB_ hb)
     clear BK629 BK630 BK633 HB
     have BK629 := n0_
     have BK630 := n1_
     have BK633 := n2_
     have HB := n3_
     clear n0_ n1_ n2_ n3_
     (try clear hb)
     (try clear hb2)
     (try clear hk)
     (try clear hi)
     refine hK.out _ _ ⟨bc_, bc_, bc_, bc_, bc_, bc_, bc_, bc_, bc_, bc_⟩ (fun hHeld => ?_)
     clear hK K
     refine norm_ (a' := ?_) ?_ ?_
     rotate_left
     ·
      show Act.put _ (some 32) _ = _
      simp only [Act.put, List.setIfInBounds_toArray, List.set_cons_zero, List.set_cons_succ, i64_w, i32_w]
      rfl
     refine pure_ (i := 13) (N := some 33) (v := ?_) (a' := ?_) (bm 15 16383) rfl rfl (any_of HT_.out (by kernel_rfl)) (fun _ _ _ h => h) (Or.inl ⟨by rfl, ?_⟩) ?_ ?_
     rotate_left
     ·
      intro w'
      go_simp
      with_reducible rfl
     rotate_left
     ·
      simp only [Act.put, List.setIfInBounds_toArray, List.set_cons_zero, List.set_cons_succ, i64_w, i32_w]
      rfl
     refine pure_ (i := 14) (N := some 34) (v := ?_) (a' := ?_) (bm 15 32767) rfl rfl (any_of HT_.out (by kernel_rfl)) (fun _ _ _ h => h) (Or.inl ⟨by rfl, ?_⟩) ?_ ?_
     rotate_left
     ·
      intro w'
      go_simp
      with_reducible rfl
     rotate_left
     ·
      simp only [Act.put, List.setIfInBounds_toArray, List.set_cons_zero, List.set_cons_succ, i64_w, i32_w]
      rfl
     refine done_ (done_of HT_.out (by kernel_rfl)) ?_
     try go_wp2
     go_meet
     case rel => exact ⟨_, (!t637), (by first | rfl | (simp; done) | (simp [*]; done)), H', ⟨by first | omega | exact Nat.le_refl _⟩, ⟨uq_⟩, ⟨uq_⟩, ⟨uq_⟩, ⟨hB_⟩⟩
    ·
     replace c23 := Bool.eq_false_iff.mpr c23
     subst c23
     have H1 : (laws_FnApartFar.j0 k true t621 t622 t623 t624 t625 t626 t627 t628 t631 t632) = some r := by rw [if_neg (show ¬ (false = true) by decide)] at H; exact H
     clear H
     have H := H1
     clear H1
     have H' := Aside0.mk H
     clear H
     try go_wp2
     have n0_ : Aside0 (((w13.setCell ⟨gb633, 0, none⟩ (.int .i64 t631)).setCell ⟨gb633, 1, none⟩ (.int .i64 t632)).heap[gb629]? = some (.cells #[.int .i64 t621, .int .i64 t622, .int .i64 t623, .int .i64 t624] 40 (0, 0))) := ⟨by (with_reducible repeat (first | refine blk_drewN ?_ _ | refine blk_drew ?_ | refine blk_alloc ?_ _)); refine blk_far ?_ NB629_633.out _; (with_reducible repeat (first | refine blk_drewN ?_ _ | refine blk_drew ?_ | refine blk_alloc ?_ _)); refine blk_far ?_ NB629_633.out _; (with_reducible repeat (first | refine blk_drewN ?_ _ | refine blk_drew ?_ | refine blk_alloc ?_ _)); exact BK629.out⟩
     have n1_ : Aside0 (((w13.setCell ⟨gb633, 0, none⟩ (.int .i64 t631)).setCell ⟨gb633, 1, none⟩ (.int .i64 t632)).heap[gb630]? = some (.cells #[.int .i64 t625, .int .i64 t626, .int .i64 t627, .int .i64 t628] 40 (0, 0))) := ⟨by (with_reducible repeat (first | refine blk_drewN ?_ _ | refine blk_drew ?_ | refine blk_alloc ?_ _)); refine blk_far ?_ NB630_633.out _; (with_reducible repeat (first | refine blk_drewN ?_ _ | refine blk_drew ?_ | refine blk_alloc ?_ _)); refine blk_far ?_ NB630_633.out _; (with_reducible repeat (first | refine blk_drewN ?_ _ | refine blk_drew ?_ | refine blk_alloc ?_ _)); exact BK630.out⟩
     have n2_ : Aside0 (((w13.setCell ⟨gb633, 0, none⟩ (.int .i64 t631)).setCell ⟨gb633, 1, none⟩ (.int .i64 t632)).heap[gb633]? = some (.cells #[.int .i64 t631, .int .i64 t632] 25 (0, 0))) := ⟨by (with_reducible repeat (first | refine blk_drewN ?_ _ | refine blk_drew ?_ | refine blk_alloc ?_ _)); refine blk_put (cs := #[.int .i64 t631, .int .i64 0]) ?_ 1 _ rfl; (with_reducible repeat (first | refine blk_drewN ?_ _ | refine blk_drew ?_ | refine blk_alloc ?_ _)); refine blk_put (cs := #[.int .i64 0, .int .i64 0]) ?_ 0 _ rfl; (with_reducible repeat (first | refine blk_drewN ?_ _ | refine blk_drew ?_ | refine blk_alloc ?_ _)); exact BK633.out⟩
     have n3_ : Aside0 (Below w.heap.size w ((w13.setCell ⟨gb633, 0, none⟩ (.int .i64 t631)).setCell ⟨gb633, 1, none⟩ (.int .i64 t632))) := ⟨hB_⟩
     (try clear BK629)
     (try clear BK630)
     (try clear BK633)
     (try clear HB)
     generalize ((w13.setCell ⟨gb633, 0, none⟩ (.int .i64 t631)).setCell ⟨gb633, 1, none⟩ (.int .i64 t632)) = w30 at n0_ n1_ n2_ n3_ ⊢
     have BK629 := n0_
     have BK630 := n1_
     have BK633 := n2_
     have HB := n3_
     clear n0_ n1_ n2_ n3_
     have n0_ := Aside0.mk (blk_drew BK629.out)
     have n1_ := Aside0.mk (blk_drew BK630.out)
     have n2_ := Aside0.mk (blk_drew BK633.out)
     have n3_ := Aside0.mk (below_drew1 HB.out)
     clear BK629 BK630 BK633 HB
     have BK629 := n0_
     have BK630 := n1_
     have BK633 := n2_
     have HB := n3_
     clear n0_ n1_ n2_ n3_
     refine start_ (n := 15) (S := fun w' => w'.cell? ⟨gb633, 0, none⟩ = some (.int .i64 t631) ∧ w'.cell? ⟨gb633, 1, none⟩ = some (.int .i64 t632) ∧ w'.cell? ⟨gb629, 0, none⟩ = some (.int .i64 t621) ∧ w'.cell? ⟨gb629, 1, none⟩ = some (.int .i64 t622) ∧ w'.cell? ⟨gb629, 2, none⟩ = some (.int .i64 t623) ∧ w'.cell? ⟨gb629, 3, none⟩ = some (.int .i64 t624) ∧ w'.cell? ⟨gb630, 0, none⟩ = some (.int .i64 t625) ∧ w'.cell? ⟨gb630, 1, none⟩ = some (.int .i64 t626) ∧ w'.cell? ⟨gb630, 2, none⟩ = some (.int .i64 t627) ∧ w'.cell? ⟨gb630, 3, none⟩ = some (.int .i64 t628)) (ds := []) #[false, false, false, false, false, false, false, false, false, false, false, false, false, false, false] (by kernel_rfl) rfl rfl ⟨bc_, bc_, bc_, bc_, bc_, bc_, bc_, bc_, bc_, bc_⟩ (fun hHeld => ?_); refine with_tabW laws_FnApartFar.tab5 laws_FnApartFar.bits5 (fun HT_ HW_ => ?_)
     generalize w30.drew = w31 at BK629 BK630 BK633 HB hHeld ⊢
     refine take_ (i := 0) (N := some 20) (v := ?_) (a' := ?_) (bm 15 1) rfl rfl (take_ofW HT_.out HW_.out (by kernel_rfl)) (fun _ _ _ h => h) (Or.inl ⟨by rfl, ?_⟩) hHeld ?_ ?_
     rotate_left
     ·
      rintro w' ⟨s0, s1, s2, s3, s4, s5, s6, s7, s8, s9⟩
      go_simp
      with_reducible rfl
     rotate_left
     ·
      simp only [Act.put, List.setIfInBounds_toArray, List.set_cons_zero, List.set_cons_succ, i64_w, i32_w]
      rfl
     refine take_ (i := 1) (N := some 21) (v := ?_) (a' := ?_) (bm 15 3) rfl rfl (take_ofW HT_.out HW_.out (by kernel_rfl)) (fun _ _ _ h => h) (Or.inl ⟨by rfl, ?_⟩) hHeld ?_ ?_
     rotate_left
     ·
      rintro w' ⟨s0, s1, s2, s3, s4, s5, s6, s7, s8, s9⟩
      go_simp
      with_reducible rfl
     rotate_left
     ·
      simp only [Act.put, List.setIfInBounds_toArray, List.set_cons_zero, List.set_cons_succ, i64_w, i32_w]
      rfl
     refine take_ (i := 2) (N := some 22) (v := ?_) (a' := ?_) (bm 15 7) rfl rfl (take_ofW HT_.out HW_.out (by kernel_rfl)) (fun _ _ _ h => h) (Or.inl ⟨by rfl, ?_⟩) hHeld ?_ ?_
     rotate_left
     ·
      rintro w' ⟨s0, s1, s2, s3, s4, s5, s6, s7, s8, s9⟩
      go_simp
      with_reducible rfl
     rotate_left
     ·
      simp only [Act.put, List.setIfInBounds_toArray, List.set_cons_zero, List.set_cons_succ, i64_w, i32_w]
      rfl
     refine one_ (i := 3) (N := some 23) (bm 15 15) rfl rfl (one_of HT_.out (by kernel_rfl)) (by decide) (fun K hK => ?_)
     refine goes_ Tryd.func31 (by kernel_rfl) rfl #[.agg #[.int .i64 t621, .int .i64 t622, .int .i64 t623, .int .i64 t624], .agg #[.int .i64 t625, .int .i64 t626, .int .i64 t627, .int .i64 t628]] (by rfl) rfl rfl ma_ ?_
     with_reducible refine (spec_SegApart.calls k t621 t622 t623 t624 t625 t626 t627 t628 t634 t635 _ A17.out).mono ?_
     rintro e w32 ⟨rfl, hb⟩
     refine ⟨_, rfl, ?_⟩
     have n0_ := Aside0.mk (ub_ (g := gb629) hb)
     have n1_ := Aside0.mk (ub_ (g := gb630) hb)
     have n2_ := Aside0.mk (ub_ (g := gb633) hb)
     have n3_ := Aside0.mk (below_step hB_ hb)
     clear BK629 BK630 BK633 HB
     have BK629 := n0_
     have BK630 := n1_
     have BK633 := n2_
     have HB := n3_
     clear n0_ n1_ n2_ n3_
     (try clear hb)
     (try clear hb2)
     (try clear hk)
     (try clear hi)
     refine hK.out _ _ ⟨bc_, bc_, bc_, bc_, bc_, bc_, bc_, bc_, bc_, bc_⟩ (fun hHeld => ?_)
     clear hK K
     refine norm_ (a' := ?_) ?_ ?_
     rotate_left
     ·
      show Act.put _ (some 23) _ = _
      simp only [Act.put, List.setIfInBounds_toArray, List.set_cons_zero, List.set_cons_succ, i64_w, i32_w]
      rfl
     refine pure_ (i := 4) (N := some 24) (v := ?_) (a' := ?_) (bm 15 31) rfl rfl (any_of HT_.out (by kernel_rfl)) (fun _ _ _ h => h) (Or.inl ⟨by rfl, ?_⟩) ?_ ?_
     rotate_left
     ·
      intro w'
      go_simp
      with_reducible rfl
     rotate_left
     ·
      simp only [Act.put, List.setIfInBounds_toArray, List.set_cons_zero, List.set_cons_succ, i64_w, i32_w]
      rfl
     refine pure_ (i := 5) (N := some 25) (v := ?_) (a' := ?_) (bm 15 63) rfl rfl (any_of HT_.out (by kernel_rfl)) (fun _ _ _ h => h) (Or.inl ⟨by rfl, ?_⟩) ?_ ?_
     rotate_left
     ·
      intro w'
      go_simp
      with_reducible rfl
     rotate_left
     ·
      simp only [Act.put, List.setIfInBounds_toArray, List.set_cons_zero, List.set_cons_succ, i64_w, i32_w]
      rfl
     refine take_ (i := 6) (N := some 26) (v := ?_) (a' := ?_) (bm 15 127) rfl rfl (take_ofW HT_.out HW_.out (by kernel_rfl)) (fun _ _ _ h => h) (Or.inl ⟨by rfl, ?_⟩) hHeld ?_ ?_
     rotate_left
     ·
      rintro w' ⟨s0, s1, s2, s3, s4, s5, s6, s7, s8, s9⟩
      go_simp
      with_reducible rfl
     rotate_left
     ·
      simp only [Act.put, List.setIfInBounds_toArray, List.set_cons_zero, List.set_cons_succ, i64_w, i32_w]
      rfl
     refine one_ (i := 7) (N := some 27) (bm 15 255) rfl rfl (one_of HT_.out (by kernel_rfl)) (by decide) (fun K hK => ?_)
     refine goes_ Tryd.func26 (by kernel_rfl) rfl #[.agg #[.int .i64 t621, .int .i64 t622, .int .i64 t623, .int .i64 t624]] (by rfl) rfl rfl ma_ ?_
     with_reducible refine (spec_SegOk.calls t621 t622 t623 t624 false _ A22.out).mono ?_
     rintro e w33 ⟨rfl, hb⟩
     refine ⟨_, rfl, ?_⟩
     have n0_ := Aside0.mk (ub_ (g := gb629) hb)
     have n1_ := Aside0.mk (ub_ (g := gb630) hb)
     have n2_ := Aside0.mk (ub_ (g := gb633) hb)
     have n3_ := Aside0.mk (below_step hB_ hb)
     clear BK629 BK630 BK633 HB
     have BK629 := n0_
     have BK630 := n1_
     have BK633 := n2_
     have HB := n3_
     clear n0_ n1_ n2_ n3_
     (try clear hb)
     (try clear hb2)
     (try clear hk)
     (try clear hi)
     refine hK.out _ _ ⟨bc_, bc_, bc_, bc_, bc_, bc_, bc_, bc_, bc_, bc_⟩ (fun hHeld => ?_)
     clear hK K
     refine norm_ (a' := ?_) ?_ ?_
     rotate_left
     ·
      show Act.put _ (some 27) _ = _
      simp only [Act.put, List.setIfInBounds_toArray, List.set_cons_zero, List.set_cons_succ, i64_w, i32_w]
      rfl
     refine pure_ (i := 8) (N := some 28) (v := ?_) (a' := ?_) (bm 15 511) rfl rfl (any_of HT_.out (by kernel_rfl)) (fun _ _ _ h => h) (Or.inl ⟨by rfl, ?_⟩) ?_ ?_
     rotate_left
     ·
      intro w'
      go_simp
      with_reducible rfl
     rotate_left
     ·
      simp only [Act.put, List.setIfInBounds_toArray, List.set_cons_zero, List.set_cons_succ, i64_w, i32_w]
      rfl
     refine pure_ (i := 9) (N := some 29) (v := ?_) (a' := ?_) (bm 15 1023) rfl rfl (any_of HT_.out (by kernel_rfl)) (fun _ _ _ h => h) (Or.inl ⟨by rfl, ?_⟩) ?_ ?_
     rotate_left
     ·
      intro w'
      go_simp
      with_reducible rfl
     rotate_left
     ·
      simp only [Act.put, List.setIfInBounds_toArray, List.set_cons_zero, List.set_cons_succ, i64_w, i32_w]
      rfl
     refine pure_ (i := 10) (N := some 30) (v := ?_) (a' := ?_) (bm 15 2047) rfl rfl (any_of HT_.out (by kernel_rfl)) (fun _ _ _ h => h) (Or.inl ⟨by rfl, ?_⟩) ?_ ?_
     rotate_left
     ·
      intro w'
      go_simp
      with_reducible rfl
     rotate_left
     ·
      simp only [Act.put, List.setIfInBounds_toArray, List.set_cons_zero, List.set_cons_succ, i64_w, i32_w]
      rfl
     refine pure_ (i := 11) (N := some 31) (v := undef) (a' := ?_) (bm 15 4095) rfl rfl (any_of HT_.out (by kernel_rfl)) (fun _ _ _ h => h) (Or.inr ⟨by rfl, rfl⟩) ?_ ?_
     rotate_left
     ·
      simp only [Act.put, List.setIfInBounds_toArray, List.set_cons_zero, List.set_cons_succ, i64_w, i32_w]
      rfl
     refine pure_ (i := 12) (N := some 32) (v := undef) (a' := ?_) (bm 15 8191) rfl rfl (any_of HT_.out (by kernel_rfl)) (fun _ _ _ h => h) (Or.inr ⟨by rfl, rfl⟩) ?_ ?_
     rotate_left
     ·
      simp only [Act.put, List.setIfInBounds_toArray, List.set_cons_zero, List.set_cons_succ, i64_w, i32_w]
      rfl
     refine pure_ (i := 13) (N := some 33) (v := undef) (a' := ?_) (bm 15 16383) rfl rfl (any_of HT_.out (by kernel_rfl)) (fun _ _ _ h => h) (Or.inr ⟨by rfl, rfl⟩) ?_ ?_
     rotate_left
     ·
      simp only [Act.put, List.setIfInBounds_toArray, List.set_cons_zero, List.set_cons_succ, i64_w, i32_w]
      rfl
     refine pure_ (i := 14) (N := some 34) (v := ?_) (a' := ?_) (bm 15 32767) rfl rfl (any_of HT_.out (by kernel_rfl)) (fun _ _ _ h => h) (Or.inl ⟨by rfl, ?_⟩) ?_ ?_
     rotate_left
     ·
      intro w'
      go_simp
      with_reducible rfl
     rotate_left
     ·
      simp only [Act.put, List.setIfInBounds_toArray, List.set_cons_zero, List.set_cons_succ, i64_w, i32_w]
      rfl
     refine done_ (done_of HT_.out (by kernel_rfl)) ?_
     try go_wp2
     go_meet
     case rel => exact ⟨_, (true), (by first | rfl | (simp; done) | (simp [*]; done)), H', ⟨by first | omega | exact Nat.le_refl _⟩, ⟨uq_⟩, ⟨uq_⟩, ⟨uq_⟩, ⟨hB_⟩⟩
  case rest =>
   clear HC5
   try clear c1
   try clear c2
   try clear p2
   try clear c3
   try clear c18
   try clear c18b0
   try clear c23
   try clear c26
   try clear c31
   obtain ⟨kq, x34_4, rfl, HA, HJ4, BK629, BK630, BK633, HB⟩ := hcut
   cases kq with
   | zero => exact absurd HA.out (by simp [laws_FnApartFar.j0])
   | succ kj4 =>
    have H := HA.out
    clear HA
    simp only [laws_FnApartFar.j0] at H
    by_cases c34 : x34_4 = true
    ·
     subst c34
     have H1 : ((spec_SegApart.f kj4 t621 t622 t623 t624 t625 t626 t627 t628).bind fun bt638 => (some (t631 == bt638.1 && (t632 == bt638.2)))) = some r := by rw [if_pos rfl] at H; exact H
     clear H
     have H := H1
     clear H1
     replace H := Option.bind_eq_some_iff.mp H
     obtain ⟨⟨t638, t639⟩, A350, H⟩ := H
     replace H : (some (t631 == t638 && (t632 == t639))) = some r := H
     have A35 := Aside0.mk A350
     clear A350
     obtain rfl := Option.some.inj H
     try go_wp2
     have n0_ := Aside0.mk (blk_drew BK629.out)
     have n1_ := Aside0.mk (blk_drew BK630.out)
     have n2_ := Aside0.mk (blk_drew BK633.out)
     have n3_ := Aside0.mk (below_drew1 HB.out)
     clear BK629 BK630 BK633 HB
     have BK629 := n0_
     have BK630 := n1_
     have BK633 := n2_
     have HB := n3_
     clear n0_ n1_ n2_ n3_
     refine start_ (n := 6) (S := fun w' => w'.cell? ⟨gb633, 0, none⟩ = some (.int .i64 t631) ∧ w'.cell? ⟨gb633, 1, none⟩ = some (.int .i64 t632) ∧ w'.cell? ⟨gb629, 0, none⟩ = some (.int .i64 t621) ∧ w'.cell? ⟨gb629, 1, none⟩ = some (.int .i64 t622) ∧ w'.cell? ⟨gb629, 2, none⟩ = some (.int .i64 t623) ∧ w'.cell? ⟨gb629, 3, none⟩ = some (.int .i64 t624) ∧ w'.cell? ⟨gb630, 0, none⟩ = some (.int .i64 t625) ∧ w'.cell? ⟨gb630, 1, none⟩ = some (.int .i64 t626) ∧ w'.cell? ⟨gb630, 2, none⟩ = some (.int .i64 t627) ∧ w'.cell? ⟨gb630, 3, none⟩ = some (.int .i64 t628)) (ds := []) #[false, false, false, false, false, false] (by kernel_rfl) rfl rfl ⟨bc_, bc_, bc_, bc_, bc_, bc_, bc_, bc_, bc_, bc_⟩ (fun hHeld => ?_)
     generalize wc.drew = w36 at BK629 BK630 BK633 HB hHeld ⊢
     refine take_ (i := 0) (N := some 35) (v := ?_) (a' := ?_) (bm 6 1) rfl rfl (by kernel_rfl) (fun _ _ _ h => h) (Or.inl ⟨by rfl, ?_⟩) hHeld ?_ ?_
     rotate_left
     ·
      rintro w' ⟨s0, s1, s2, s3, s4, s5, s6, s7, s8, s9⟩
      go_simp
      with_reducible rfl
     rotate_left
     ·
      simp only [Act.put, List.setIfInBounds_toArray, List.set_cons_zero, List.set_cons_succ, i64_w, i32_w]
      rfl
     refine take_ (i := 1) (N := some 36) (v := ?_) (a' := ?_) (bm 6 3) rfl rfl (by kernel_rfl) (fun _ _ _ h => h) (Or.inl ⟨by rfl, ?_⟩) hHeld ?_ ?_
     rotate_left
     ·
      rintro w' ⟨s0, s1, s2, s3, s4, s5, s6, s7, s8, s9⟩
      go_simp
      with_reducible rfl
     rotate_left
     ·
      simp only [Act.put, List.setIfInBounds_toArray, List.set_cons_zero, List.set_cons_succ, i64_w, i32_w]
      rfl
     refine take_ (i := 2) (N := some 37) (v := ?_) (a' := ?_) (bm 6 7) rfl rfl (by kernel_rfl) (fun _ _ _ h => h) (Or.inl ⟨by rfl, ?_⟩) hHeld ?_ ?_
     rotate_left
     ·
      rintro w' ⟨s0, s1, s2, s3, s4, s5, s6, s7, s8, s9⟩
      go_simp
      with_reducible rfl
     rotate_left
     ·
      simp only [Act.put, List.setIfInBounds_toArray, List.set_cons_zero, List.set_cons_succ, i64_w, i32_w]
      rfl
     refine one_ (i := 3) (N := some 38) (bm 6 15) rfl rfl (by kernel_rfl) (by decide) (fun K hK => ?_)
     refine goes_ Tryd.func31 (by kernel_rfl) rfl #[.agg #[.int .i64 t621, .int .i64 t622, .int .i64 t623, .int .i64 t624], .agg #[.int .i64 t625, .int .i64 t626, .int .i64 t627, .int .i64 t628]] (by rfl) rfl rfl ma_ ?_
     with_reducible refine (spec_SegApart.calls kj4 t621 t622 t623 t624 t625 t626 t627 t628 t638 t639 _ A35.out).mono ?_
     rintro e w37 ⟨rfl, hb⟩
     refine ⟨_, rfl, ?_⟩
     have n0_ := Aside0.mk (ub_ (g := gb629) hb)
     have n1_ := Aside0.mk (ub_ (g := gb630) hb)
     have n2_ := Aside0.mk (ub_ (g := gb633) hb)
     have n3_ := Aside0.mk (below_step hB_ hb)
     clear BK629 BK630 BK633 HB
     have BK629 := n0_
     have BK630 := n1_
     have BK633 := n2_
     have HB := n3_
     clear n0_ n1_ n2_ n3_
     (try clear hb)
     (try clear hb2)
     (try clear hk)
     (try clear hi)
     refine hK.out _ _ ⟨bc_, bc_, bc_, bc_, bc_, bc_, bc_, bc_, bc_, bc_⟩ (fun hHeld => ?_)
     clear hK K
     refine norm_ (a' := ?_) ?_ ?_
     rotate_left
     ·
      show Act.put _ (some 38) _ = _
      simp only [Act.put, List.setIfInBounds_toArray, List.set_cons_zero, List.set_cons_succ, i64_w, i32_w]
      rfl
     refine pure_ (i := 4) (N := some 39) (v := ?_) (a' := ?_) (bm 6 31) rfl rfl (by kernel_rfl) (fun _ _ _ h => h) (Or.inl ⟨by rfl, ?_⟩) ?_ ?_
     rotate_left
     ·
      intro w'
      go_simp
      with_reducible rfl
     rotate_left
     ·
      simp only [Act.put, List.setIfInBounds_toArray, List.set_cons_zero, List.set_cons_succ, i64_w, i32_w]
      rfl
     refine pure_ (i := 5) (N := some 2) (v := ?_) (a' := ?_) (bm 6 63) rfl rfl (by kernel_rfl) (fun _ _ _ h => h) (Or.inl ⟨by rfl, ?_⟩) ?_ ?_
     rotate_left
     ·
      intro w'
      go_simp
      with_reducible rfl
     rotate_left
     ·
      simp only [Act.put, List.setIfInBounds_toArray, List.set_cons_zero, List.set_cons_succ, i64_w, i32_w]
      rfl
     refine done_ (by kernel_rfl) ?_
     try go_wp2
     go_ret
     exact ⟨by first | rfl | (simp [errW_none, errW_some] <;> rfl) | (simp [*, errW_none, errW_some] <;> rfl), hB_⟩
    ·
     replace c34 := Bool.eq_false_iff.mpr c34
     subst c34
     have H1 : (laws_FnApartFar.l0 kj4 0 t621 t622 t623 t624 t625 t626 t627 t628 t631 t632) = some r := by rw [if_neg (show ¬ (false = true) by decide)] at H; exact H
     clear H
     have H := H1
     clear H1
     have H' := Aside0.mk H
     clear H
     go_wp2
     go_loopg [6] kj4 (fun kq v6 w' => ∃ (x6_2 : Int), v6 = .int .i64 x6_2 ∧ Aside0 (laws_FnApartFar.l0 kq x6_2 t621 t622 t623 t624 t625 t626 t627 t628 t631 t632 = some r) ∧ Aside0 (kq ≤ kj4) ∧ Aside0 (w'.heap[gb629]? = some (.cells #[.int .i64 t621, .int .i64 t622, .int .i64 t623, .int .i64 t624] 40 (0, 0))) ∧ Aside0 (w'.heap[gb630]? = some (.cells #[.int .i64 t625, .int .i64 t626, .int .i64 t627, .int .i64 t628] 40 (0, 0))) ∧ Aside0 (w'.heap[gb633]? = some (.cells #[.int .i64 t631, .int .i64 t632] 25 (0, 0))) ∧ Aside0 (Below w.heap.size w w'))
     case atStart => exact ⟨(0), (by first | rfl | (simp; done) | (simp [*]; done)), H', ⟨Nat.le_refl _⟩, ⟨uq_⟩, ⟨uq_⟩, ⟨uq_⟩, ⟨hB_⟩⟩
     case round =>
      clear H'
      try clear c1
      try clear c2
      try clear p2
      try clear c3
      try clear c18
      try clear c18b0
      try clear c23
      try clear c26
      try clear c31
      try clear c34
      try clear p2
      obtain ⟨x6_2, rfl, HA, HK2, BK629, BK630, BK633, HB⟩ := hrel
      cases gk with
      | zero => exact absurd HA.out (by simp [laws_FnApartFar.l0])
      | succ k2 =>
       have H := HA.out
       clear HA
       simp only [laws_FnApartFar.l0] at H
       by_cases c38 : x6_2 ≤ 9
       ·
        rw [if_pos c38] at H
        have c38b0 : decide (x6_2 ≤ 9) = true := decide_eq_true c38
        clear c38
        have H' := Aside0.mk H
        clear H
        go_wp2
        go_loopg [7] k2 (fun kq v7 w' => ∃ (x7_3 : Int), v7 = .int .i64 x7_3 ∧ Aside0 (laws_FnApartFar.l1 kq x6_2 x7_3 t621 t622 t623 t624 t625 t626 t627 t628 t631 t632 = some r) ∧ Aside0 (kq ≤ k2) ∧ Aside0 (w'.heap[gb629]? = some (.cells #[.int .i64 t621, .int .i64 t622, .int .i64 t623, .int .i64 t624] 40 (0, 0))) ∧ Aside0 (w'.heap[gb630]? = some (.cells #[.int .i64 t625, .int .i64 t626, .int .i64 t627, .int .i64 t628] 40 (0, 0))) ∧ Aside0 (w'.heap[gb633]? = some (.cells #[.int .i64 t631, .int .i64 t632] 25 (0, 0))) ∧ Aside0 (Below w.heap.size w w'))
        case atStart => exact ⟨(0), (by first | rfl | (simp; done) | (simp [*]; done)), H', ⟨Nat.le_refl _⟩, ⟨uq_⟩, ⟨uq_⟩, ⟨uq_⟩, ⟨hB_⟩⟩
        case round =>
         clear H'
         try clear c1
         try clear c2
         try clear p2
         try clear c3
         try clear c18
         try clear c18b0
         try clear c23
         try clear c26
         try clear c31
         try clear c34
         try clear c38
         try clear c38b0
         try clear p2
         obtain ⟨x7_3, rfl, HA, HK3, BK629, BK630, BK633, HB⟩ := hrel
         cases gk with
         | zero => exact absurd HA.out (by simp [laws_FnApartFar.l1])
         | succ k3 =>
          have H := HA.out
          clear HA
          simp only [laws_FnApartFar.l1] at H
          by_cases c39 : x7_3 ≤ 9
          ·
           rw [if_pos c39] at H
           have c39b0 : decide (x7_3 ≤ 9) = true := decide_eq_true c39
           clear c39
           replace H := Option.bind_eq_some_iff.mp H
           obtain ⟨t641, A400, H⟩ := H
           replace H : (if t641 = true then ((impl_SegFar.f t625 t626 t627 t628 x6_2 x7_3).bind fun bt642 => ((impl_FracCmp.f t631 t632 bt642.1 bt642.2).bind fun t644 => (if t644 > 0 then (some false) else (laws_FnApartFar.l1 k3 x6_2 (wrap64 (x7_3 + 1)) t621 t622 t623 t624 t625 t626 t627 t628 t631 t632)))) else (laws_FnApartFar.l1 k3 x6_2 (wrap64 (x7_3 + 1)) t621 t622 t623 t624 t625 t626 t627 t628 t631 t632)) = some r := H
           have A40 := Aside0.mk A400
           clear A400
           by_cases c41 : t641 = true
           ·
            subst c41
            have H1 : ((impl_SegFar.f t625 t626 t627 t628 x6_2 x7_3).bind fun bt642 => ((impl_FracCmp.f t631 t632 bt642.1 bt642.2).bind fun t644 => (if t644 > 0 then (some false) else (laws_FnApartFar.l1 k3 x6_2 (wrap64 (x7_3 + 1)) t621 t622 t623 t624 t625 t626 t627 t628 t631 t632)))) = some r := by rw [if_pos rfl] at H; exact H
            clear H
            have H := H1
            clear H1
            replace H := Option.bind_eq_some_iff.mp H
            obtain ⟨⟨t642, t643⟩, A420, H⟩ := H
            replace H : ((impl_FracCmp.f t631 t632 t642 t643).bind fun t644 => (if t644 > 0 then (some false) else (laws_FnApartFar.l1 k3 x6_2 (wrap64 (x7_3 + 1)) t621 t622 t623 t624 t625 t626 t627 t628 t631 t632))) = some r := H
            have A42 := Aside0.mk A420
            clear A420
            replace H := Option.bind_eq_some_iff.mp H
            obtain ⟨t644, A430, H⟩ := H
            replace H : (if t644 > 0 then (some false) else (laws_FnApartFar.l1 k3 x6_2 (wrap64 (x7_3 + 1)) t621 t622 t623 t624 t625 t626 t627 t628 t631 t632)) = some r := H
            have A43 := Aside0.mk A430
            clear A430
            by_cases c44 : t644 > 0
            ·
             rw [if_pos c44] at H
             have c44b0 : decide (0 < t644) = true := decide_eq_true c44
             clear c44
             obtain rfl := Option.some.inj H
             try go_wp2_with (first | ((with_reducible refine gate_dst (N := 8) rfl ?_); refine box_event ?hg (N := 8) ?hd (cs := #[.int .i64 0, .int .i64 0]) (t := 38) ?hr ?_; (case hd => rfl); (case hg => rfl); (case hr => first | (go_simp; done) | (go_simp; rfl)); intro gb640 hg w45 hbox hb; have n0_ := Aside0.mk (ub_ (g := gb629) hb); have n1_ := Aside0.mk (ub_ (g := gb630) hb); have n2_ := Aside0.mk (ub_ (g := gb633) hb); have n3_ := Aside0.mk (below_step hB_ hb); have n4_ := Aside0.mk (hbox); have n5_ := Aside0.mk ((by rw [hg]; exact (below_size hB_) : w.heap.size ≤ gb640)); have n6_ := Aside0.mk ((by rw [hg]; exact (below_size hB_) : w.heap.size ≤ gb640)); have n7_ := Aside0.mk ((by rw [hg]; exact Nat.ne_of_lt (blk_lt (g := gb629) (o := .cells #[.int .i64 t621, .int .i64 t622, .int .i64 t623, .int .i64 t624] 40 (0, 0)) uq_) : gb629 ≠ gb640)); have n8_ := Aside0.mk ((by rw [hg]; exact Nat.ne_of_gt (blk_lt (g := gb629) (o := .cells #[.int .i64 t621, .int .i64 t622, .int .i64 t623, .int .i64 t624] 40 (0, 0)) uq_) : gb640 ≠ gb629)); have n9_ := Aside0.mk ((by rw [hg]; exact Nat.ne_of_lt (blk_lt (g := gb630) (o := .cells #[.int .i64 t625, .int .i64 t626, .int .i64 t627, .int .i64 t628] 40 (0, 0)) uq_) : gb630 ≠ gb640)); have n10_ := Aside0.mk ((by rw [hg]; exact Nat.ne_of_gt (blk_lt (g := gb630) (o := .cells #[.int .i64 t625, .int .i64 t626, .int .i64 t627, .int .i64 t628] 40 (0, 0)) uq_) : gb640 ≠ gb630)); have n11_ := Aside0.mk ((by rw [hg]; exact Nat.ne_of_lt (blk_lt (g := gb633) (o := .cells #[.int .i64 t631, .int .i64 t632] 25 (0, 0)) uq_) : gb633 ≠ gb640)); have n12_ := Aside0.mk ((by rw [hg]; exact Nat.ne_of_gt (blk_lt (g := gb633) (o := .cells #[.int .i64 t631, .int .i64 t632] 25 (0, 0)) uq_) : gb640 ≠ gb633)); clear BK629; clear BK630; clear BK633; clear HB; have BK629 := n0_; have BK630 := n1_; have BK633 := n2_; have HB := n3_; have BK640 := n4_; have GW640 := n5_; have GE640 := n6_; have NB629_640 := n7_; have NB640_629 := n8_; have NB630_640 := n9_; have NB640_630 := n10_; have NB633_640 := n11_; have NB640_633 := n12_; clear n0_ n1_ n2_ n3_ n4_ n5_ n6_ n7_ n8_ n9_ n10_ n11_ n12_; clear hb hbox hg; have hnb46 := NB640_629.out; have hnc46 := NB629_640.out; have hnb47 := NB640_630.out; have hnc47 := NB630_640.out; have hnb48 := NB640_633.out; have hnc48 := NB633_640.out; have hcz49_0 : w45.cell? ⟨gb640, 0, none⟩ = some (.int .i64 0) := bc_; have hcz49_1 : w45.cell? ⟨gb640, 1, none⟩ = some (.int .i64 0) := bc_; have hfz49_0 := blk_frozen BK640.out 0; have hfz49_1 := blk_frozen BK640.out 1))
             have n0_ : Aside0 (((w45.setCell ⟨gb640, 0, none⟩ (.int .i64 x6_2)).setCell ⟨gb640, 1, none⟩ (.int .i64 x7_3)).heap[gb629]? = some (.cells #[.int .i64 t621, .int .i64 t622, .int .i64 t623, .int .i64 t624] 40 (0, 0))) := ⟨by (with_reducible repeat (first | refine blk_drewN ?_ _ | refine blk_drew ?_ | refine blk_alloc ?_ _)); refine blk_far ?_ NB629_640.out _; (with_reducible repeat (first | refine blk_drewN ?_ _ | refine blk_drew ?_ | refine blk_alloc ?_ _)); refine blk_far ?_ NB629_640.out _; (with_reducible repeat (first | refine blk_drewN ?_ _ | refine blk_drew ?_ | refine blk_alloc ?_ _)); exact BK629.out⟩
             have n1_ : Aside0 (((w45.setCell ⟨gb640, 0, none⟩ (.int .i64 x6_2)).setCell ⟨gb640, 1, none⟩ (.int .i64 x7_3)).heap[gb630]? = some (.cells #[.int .i64 t625, .int .i64 t626, .int .i64 t627, .int .i64 t628] 40 (0, 0))) := ⟨by (with_reducible repeat (first | refine blk_drewN ?_ _ | refine blk_drew ?_ | refine blk_alloc ?_ _)); refine blk_far ?_ NB630_640.out _; (with_reducible repeat (first | refine blk_drewN ?_ _ | refine blk_drew ?_ | refine blk_alloc ?_ _)); refine blk_far ?_ NB630_640.out _; (with_reducible repeat (first | refine blk_drewN ?_ _ | refine blk_drew ?_ | refine blk_alloc ?_ _)); exact BK630.out⟩
             have n2_ : Aside0 (((w45.setCell ⟨gb640, 0, none⟩ (.int .i64 x6_2)).setCell ⟨gb640, 1, none⟩ (.int .i64 x7_3)).heap[gb633]? = some (.cells #[.int .i64 t631, .int .i64 t632] 25 (0, 0))) := ⟨by (with_reducible repeat (first | refine blk_drewN ?_ _ | refine blk_drew ?_ | refine blk_alloc ?_ _)); refine blk_far ?_ NB633_640.out _; (with_reducible repeat (first | refine blk_drewN ?_ _ | refine blk_drew ?_ | refine blk_alloc ?_ _)); refine blk_far ?_ NB633_640.out _; (with_reducible repeat (first | refine blk_drewN ?_ _ | refine blk_drew ?_ | refine blk_alloc ?_ _)); exact BK633.out⟩
             have n3_ : Aside0 (((w45.setCell ⟨gb640, 0, none⟩ (.int .i64 x6_2)).setCell ⟨gb640, 1, none⟩ (.int .i64 x7_3)).heap[gb640]? = some (.cells #[.int .i64 x6_2, .int .i64 x7_3] 38 (0, 0))) := ⟨by (with_reducible repeat (first | refine blk_drewN ?_ _ | refine blk_drew ?_ | refine blk_alloc ?_ _)); refine blk_put (cs := #[.int .i64 x6_2, .int .i64 0]) ?_ 1 _ rfl; (with_reducible repeat (first | refine blk_drewN ?_ _ | refine blk_drew ?_ | refine blk_alloc ?_ _)); refine blk_put (cs := #[.int .i64 0, .int .i64 0]) ?_ 0 _ rfl; (with_reducible repeat (first | refine blk_drewN ?_ _ | refine blk_drew ?_ | refine blk_alloc ?_ _)); exact BK640.out⟩
             have n4_ : Aside0 (Below w.heap.size w ((w45.setCell ⟨gb640, 0, none⟩ (.int .i64 x6_2)).setCell ⟨gb640, 1, none⟩ (.int .i64 x7_3))) := ⟨hB_⟩
             (try clear BK629)
             (try clear BK630)
             (try clear BK633)
             (try clear BK640)
             (try clear HB)
             generalize ((w45.setCell ⟨gb640, 0, none⟩ (.int .i64 x6_2)).setCell ⟨gb640, 1, none⟩ (.int .i64 x7_3)) = w50 at n0_ n1_ n2_ n3_ n4_ ⊢
             have BK629 := n0_
             have BK630 := n1_
             have BK633 := n2_
             have BK640 := n3_
             have HB := n4_
             clear n0_ n1_ n2_ n3_ n4_
             have n0_ := Aside0.mk (blk_drew BK629.out)
             have n1_ := Aside0.mk (blk_drew BK630.out)
             have n2_ := Aside0.mk (blk_drew BK633.out)
             have n3_ := Aside0.mk (blk_drew BK640.out)
             have n4_ := Aside0.mk (below_drew1 HB.out)
             clear BK629 BK630 BK633 BK640 HB
             have BK629 := n0_
             have BK630 := n1_
             have BK633 := n2_
             have BK640 := n3_
             have HB := n4_
             clear n0_ n1_ n2_ n3_ n4_
             refine start_ (n := 11) (S := fun w' => w'.cell? ⟨gb629, 0, none⟩ = some (.int .i64 t621) ∧ w'.cell? ⟨gb629, 1, none⟩ = some (.int .i64 t622) ∧ w'.cell? ⟨gb629, 2, none⟩ = some (.int .i64 t623) ∧ w'.cell? ⟨gb629, 3, none⟩ = some (.int .i64 t624) ∧ w'.cell? ⟨gb640, 0, none⟩ = some (.int .i64 x6_2) ∧ w'.cell? ⟨gb640, 1, none⟩ = some (.int .i64 x7_3) ∧ w'.cell? ⟨gb633, 0, none⟩ = some (.int .i64 t631) ∧ w'.cell? ⟨gb633, 1, none⟩ = some (.int .i64 t632) ∧ w'.cell? ⟨gb630, 0, none⟩ = some (.int .i64 t625) ∧ w'.cell? ⟨gb630, 1, none⟩ = some (.int .i64 t626) ∧ w'.cell? ⟨gb630, 2, none⟩ = some (.int .i64 t627) ∧ w'.cell? ⟨gb630, 3, none⟩ = some (.int .i64 t628)) (ds := []) #[false, false, false, false, false, false, false, false, false, false, false] (by kernel_rfl) rfl rfl ⟨bc_, bc_, bc_, bc_, bc_, bc_, bc_, bc_, bc_, bc_, bc_, bc_⟩ (fun hHeld => ?_); refine with_tabW laws_FnApartFar.tab14 laws_FnApartFar.bits14 (fun HT_ HW_ => ?_)
             generalize w50.drew = w51 at BK629 BK630 BK633 BK640 HB hHeld ⊢
             refine take_ (i := 0) (N := some 51) (v := ?_) (a' := ?_) (bm 11 1) rfl rfl (take_ofW HT_.out HW_.out (by kernel_rfl)) (fun _ _ _ h => h) (Or.inl ⟨by rfl, ?_⟩) hHeld ?_ ?_
             rotate_left
             ·
              rintro w' ⟨s0, s1, s2, s3, s4, s5, s6, s7, s8, s9, s10, s11⟩
              go_simp
              with_reducible rfl
             rotate_left
             ·
              simp only [Act.put, List.setIfInBounds_toArray, List.set_cons_zero, List.set_cons_succ, i64_w, i32_w]
              rfl
             refine take_ (i := 1) (N := some 52) (v := ?_) (a' := ?_) (bm 11 3) rfl rfl (take_ofW HT_.out HW_.out (by kernel_rfl)) (fun _ _ _ h => h) (Or.inl ⟨by rfl, ?_⟩) hHeld ?_ ?_
             rotate_left
             ·
              rintro w' ⟨s0, s1, s2, s3, s4, s5, s6, s7, s8, s9, s10, s11⟩
              go_simp
              with_reducible rfl
             rotate_left
             ·
              simp only [Act.put, List.setIfInBounds_toArray, List.set_cons_zero, List.set_cons_succ, i64_w, i32_w]
              rfl
             refine one_ (i := 2) (N := some 53) (bm 11 7) rfl rfl (one_of HT_.out (by kernel_rfl)) (by decide) (fun K hK => ?_)
             refine goes_ Tryd.func29 (by kernel_rfl) rfl #[.agg #[.int .i64 t621, .int .i64 t622, .int .i64 t623, .int .i64 t624], .agg #[.int .i64 x6_2, .int .i64 x7_3]] (by rfl) rfl rfl ma_ ?_
             with_reducible refine (impl_SegHas.calls k3 t621 t622 t623 t624 x6_2 x7_3 true _ A40.out).mono ?_
             rintro e w52 ⟨rfl, hb⟩
             refine ⟨_, rfl, ?_⟩
             have n0_ := Aside0.mk (ub_ (g := gb629) hb)
             have n1_ := Aside0.mk (ub_ (g := gb630) hb)
             have n2_ := Aside0.mk (ub_ (g := gb633) hb)
             have n3_ := Aside0.mk (ub_ (g := gb640) hb)
             have n4_ := Aside0.mk (below_step hB_ hb)
             clear BK629 BK630 BK633 BK640 HB
             have BK629 := n0_
             have BK630 := n1_
             have BK633 := n2_
             have BK640 := n3_
             have HB := n4_
             clear n0_ n1_ n2_ n3_ n4_
             (try clear hb)
             (try clear hb2)
             (try clear hk)
             (try clear hi)
             refine hK.out _ _ ⟨bc_, bc_, bc_, bc_, bc_, bc_, bc_, bc_, bc_, bc_, bc_, bc_⟩ (fun hHeld => ?_)
             clear hK K
             refine norm_ (a' := ?_) ?_ ?_
             rotate_left
             ·
              show Act.put _ (some 53) _ = _
              simp only [Act.put, List.setIfInBounds_toArray, List.set_cons_zero, List.set_cons_succ, i64_w, i32_w]
              rfl
             refine pure_ (i := 3) (N := some 54) (v := ?_) (a' := ?_) (bm 11 15) rfl rfl (any_of HT_.out (by kernel_rfl)) (fun _ _ _ h => h) (Or.inl ⟨by rfl, ?_⟩) ?_ ?_
             rotate_left
             ·
              intro w'
              go_simp
              with_reducible rfl
             rotate_left
             ·
              simp only [Act.put, List.setIfInBounds_toArray, List.set_cons_zero, List.set_cons_succ, i64_w, i32_w]
              rfl
             refine take_ (i := 4) (N := some 55) (v := ?_) (a' := ?_) (bm 11 31) rfl rfl (take_ofW HT_.out HW_.out (by kernel_rfl)) (fun _ _ _ h => h) (Or.inl ⟨by rfl, ?_⟩) hHeld ?_ ?_
             rotate_left
             ·
              rintro w' ⟨s0, s1, s2, s3, s4, s5, s6, s7, s8, s9, s10, s11⟩
              go_simp
              with_reducible rfl
             rotate_left
             ·
              simp only [Act.put, List.setIfInBounds_toArray, List.set_cons_zero, List.set_cons_succ, i64_w, i32_w]
              rfl
             refine take_ (i := 5) (N := some 56) (v := ?_) (a' := ?_) (bm 11 63) rfl rfl (take_ofW HT_.out HW_.out (by kernel_rfl)) (fun _ _ _ h => h) (Or.inl ⟨by rfl, ?_⟩) hHeld ?_ ?_
             rotate_left
             ·
              rintro w' ⟨s0, s1, s2, s3, s4, s5, s6, s7, s8, s9, s10, s11⟩
              go_simp
              with_reducible rfl
             rotate_left
             ·
              simp only [Act.put, List.setIfInBounds_toArray, List.set_cons_zero, List.set_cons_succ, i64_w, i32_w]
              rfl
             refine take_ (i := 6) (N := some 57) (v := ?_) (a' := ?_) (bm 11 127) rfl rfl (take_ofW HT_.out HW_.out (by kernel_rfl)) (fun _ _ _ h => h) (Or.inl ⟨by rfl, ?_⟩) hHeld ?_ ?_
             rotate_left
             ·
              rintro w' ⟨s0, s1, s2, s3, s4, s5, s6, s7, s8, s9, s10, s11⟩
              go_simp
              with_reducible rfl
             rotate_left
             ·
              simp only [Act.put, List.setIfInBounds_toArray, List.set_cons_zero, List.set_cons_succ, i64_w, i32_w]
              rfl
             refine one_ (i := 7) (N := some 58) (bm 11 255) rfl rfl (one_of HT_.out (by kernel_rfl)) (by decide) (fun K hK => ?_)
             refine goes_ Tryd.func24 (by kernel_rfl) rfl #[.agg #[.int .i64 t625, .int .i64 t626, .int .i64 t627, .int .i64 t628], .agg #[.int .i64 x6_2, .int .i64 x7_3]] (by rfl) rfl rfl ma_ ?_
             with_reducible refine (impl_SegFar.calls t625 t626 t627 t628 x6_2 x7_3 t642 t643 _ A42.out).mono ?_
             rintro e w53 ⟨rfl, hb⟩
             refine ⟨_, rfl, ?_⟩
             have n0_ := Aside0.mk (ub_ (g := gb629) hb)
             have n1_ := Aside0.mk (ub_ (g := gb630) hb)
             have n2_ := Aside0.mk (ub_ (g := gb633) hb)
             have n3_ := Aside0.mk (ub_ (g := gb640) hb)
             have n4_ := Aside0.mk (below_step hB_ hb)
             clear BK629 BK630 BK633 BK640 HB
             have BK629 := n0_
             have BK630 := n1_
             have BK633 := n2_
             have BK640 := n3_
             have HB := n4_
             clear n0_ n1_ n2_ n3_ n4_
             (try clear hb)
             (try clear hb2)
             (try clear hk)
             (try clear hi)
             refine hK.out _ _ ⟨bc_, bc_, bc_, bc_, bc_, bc_, bc_, bc_, bc_, bc_, bc_, bc_⟩ (fun hHeld => ?_)
             clear hK K
             refine norm_ (a' := ?_) ?_ ?_
             rotate_left
             ·
              show Act.put _ (some 58) _ = _
              simp only [Act.put, List.setIfInBounds_toArray, List.set_cons_zero, List.set_cons_succ, i64_w, i32_w]
              rfl
             refine one_ (i := 8) (N := some 59) (bm 11 511) rfl rfl (one_of HT_.out (by kernel_rfl)) (by decide) (fun K hK => ?_)
             refine goes_ Tryd.func17 (by kernel_rfl) rfl #[.agg #[.int .i64 t631, .int .i64 t632], .agg #[.int .i64 t642, .int .i64 t643]] (by rfl) rfl rfl ma_ ?_
             with_reducible refine (impl_FracCmp.calls t631 t632 t642 t643 t644 _ ?side1 A43.out).mono ?_
             (case side1 => exact ErrW.below HE.out hB_)
             rintro e w54 ⟨rfl, hb⟩
             refine ⟨_, rfl, ?_⟩
             have n0_ := Aside0.mk (ub_ (g := gb629) hb)
             have n1_ := Aside0.mk (ub_ (g := gb630) hb)
             have n2_ := Aside0.mk (ub_ (g := gb633) hb)
             have n3_ := Aside0.mk (ub_ (g := gb640) hb)
             have n4_ := Aside0.mk (below_step hB_ hb)
             clear BK629 BK630 BK633 BK640 HB
             have BK629 := n0_
             have BK630 := n1_
             have BK633 := n2_
             have BK640 := n3_
             have HB := n4_
             clear n0_ n1_ n2_ n3_ n4_
             (try clear hb)
             (try clear hb2)
             (try clear hk)
             (try clear hi)
             refine hK.out _ _ ⟨bc_, bc_, bc_, bc_, bc_, bc_, bc_, bc_, bc_, bc_, bc_, bc_⟩ (fun hHeld => ?_)
             clear hK K
             refine norm_ (a' := ?_) ?_ ?_
             rotate_left
             ·
              show Act.put _ (some 59) _ = _
              simp only [Act.put, List.setIfInBounds_toArray, List.set_cons_zero, List.set_cons_succ, i64_w, i32_w]
              rfl
             refine pure_ (i := 9) (N := some 60) (v := ?_) (a' := ?_) (bm 11 1023) rfl rfl (any_of HT_.out (by kernel_rfl)) (fun _ _ _ h => h) (Or.inl ⟨by rfl, ?_⟩) ?_ ?_
             rotate_left
             ·
              intro w'
              go_simp
              with_reducible rfl
             rotate_left
             ·
              simp only [Act.put, List.setIfInBounds_toArray, List.set_cons_zero, List.set_cons_succ, i64_w, i32_w]
              rfl
             refine pure_ (i := 10) (N := some 61) (v := ?_) (a' := ?_) (bm 11 2047) rfl rfl (any_of HT_.out (by kernel_rfl)) (fun _ _ _ h => h) (Or.inl ⟨by rfl, ?_⟩) ?_ ?_
             rotate_left
             ·
              intro w'
              go_simp
              with_reducible rfl
             rotate_left
             ·
              simp only [Act.put, List.setIfInBounds_toArray, List.set_cons_zero, List.set_cons_succ, i64_w, i32_w]
              rfl
             refine done_ (done_of HT_.out (by kernel_rfl)) ?_
             try go_wp2
             go_ret
             exact ⟨by first | rfl | (simp [errW_none, errW_some] <;> rfl) | (simp [*, errW_none, errW_some] <;> rfl), hB_⟩
            ·
             rw [if_neg c44] at H
             have c44b0 : decide (0 < t644) = false := decide_eq_false c44
             clear c44
             have H' := Aside0.mk H
             clear H
             try go_wp2_with (first | ((with_reducible refine gate_dst (N := 8) rfl ?_); refine box_event ?hg (N := 8) ?hd (cs := #[.int .i64 0, .int .i64 0]) (t := 38) ?hr ?_; (case hd => rfl); (case hg => rfl); (case hr => first | (go_simp; done) | (go_simp; rfl)); intro gb640 hg w55 hbox hb; have n0_ := Aside0.mk (ub_ (g := gb629) hb); have n1_ := Aside0.mk (ub_ (g := gb630) hb); have n2_ := Aside0.mk (ub_ (g := gb633) hb); have n3_ := Aside0.mk (below_step hB_ hb); have n4_ := Aside0.mk (hbox); have n5_ := Aside0.mk ((by rw [hg]; exact (below_size hB_) : w.heap.size ≤ gb640)); have n6_ := Aside0.mk ((by rw [hg]; exact (below_size hB_) : w.heap.size ≤ gb640)); have n7_ := Aside0.mk ((by rw [hg]; exact Nat.ne_of_lt (blk_lt (g := gb629) (o := .cells #[.int .i64 t621, .int .i64 t622, .int .i64 t623, .int .i64 t624] 40 (0, 0)) uq_) : gb629 ≠ gb640)); have n8_ := Aside0.mk ((by rw [hg]; exact Nat.ne_of_gt (blk_lt (g := gb629) (o := .cells #[.int .i64 t621, .int .i64 t622, .int .i64 t623, .int .i64 t624] 40 (0, 0)) uq_) : gb640 ≠ gb629)); have n9_ := Aside0.mk ((by rw [hg]; exact Nat.ne_of_lt (blk_lt (g := gb630) (o := .cells #[.int .i64 t625, .int .i64 t626, .int .i64 t627, .int .i64 t628] 40 (0, 0)) uq_) : gb630 ≠ gb640)); have n10_ := Aside0.mk ((by rw [hg]; exact Nat.ne_of_gt (blk_lt (g := gb630) (o := .cells #[.int .i64 t625, .int .i64 t626, .int .i64 t627, .int .i64 t628] 40 (0, 0)) uq_) : gb640 ≠ gb630)); have n11_ := Aside0.mk ((by rw [hg]; exact Nat.ne_of_lt (blk_lt (g := gb633) (o := .cells #[.int .i64 t631, .int .i64 t632] 25 (0, 0)) uq_) : gb633 ≠ gb640)); have n12_ := Aside0.mk ((by rw [hg]; exact Nat.ne_of_gt (blk_lt (g := gb633) (o := .cells #[.int .i64 t631, .int .i64 t632] 25 (0, 0)) uq_) : gb640 ≠ gb633)); clear BK629; clear BK630; clear BK633; clear HB; have BK629 := n0_; have BK630 := n1_; have BK633 := n2_; have HB := n3_; have BK640 := n4_; have GW640 := n5_; have GE640 := n6_; have NB629_640 := n7_; have NB640_629 := n8_; have NB630_640 := n9_; have NB640_630 := n10_; have NB633_640 := n11_; have NB640_633 := n12_; clear n0_ n1_ n2_ n3_ n4_ n5_ n6_ n7_ n8_ n9_ n10_ n11_ n12_; clear hb hbox hg; have hnb56 := NB640_629.out; have hnc56 := NB629_640.out; have hnb57 := NB640_630.out; have hnc57 := NB630_640.out; have hnb58 := NB640_633.out; have hnc58 := NB633_640.out; have hcz59_0 : w55.cell? ⟨gb640, 0, none⟩ = some (.int .i64 0) := bc_; have hcz59_1 : w55.cell? ⟨gb640, 1, none⟩ = some (.int .i64 0) := bc_; have hfz59_0 := blk_frozen BK640.out 0; have hfz59_1 := blk_frozen BK640.out 1))
             have n0_ : Aside0 (((w55.setCell ⟨gb640, 0, none⟩ (.int .i64 x6_2)).setCell ⟨gb640, 1, none⟩ (.int .i64 x7_3)).heap[gb629]? = some (.cells #[.int .i64 t621, .int .i64 t622, .int .i64 t623, .int .i64 t624] 40 (0, 0))) := ⟨by (with_reducible repeat (first | refine blk_drewN ?_ _ | refine blk_drew ?_ | refine blk_alloc ?_ _)); refine blk_far ?_ NB629_640.out _; (with_reducible repeat (first | refine blk_drewN ?_ _ | refine blk_drew ?_ | refine blk_alloc ?_ _)); refine blk_far ?_ NB629_640.out _; (with_reducible repeat (first | refine blk_drewN ?_ _ | refine blk_drew ?_ | refine blk_alloc ?_ _)); exact BK629.out⟩
             have n1_ : Aside0 (((w55.setCell ⟨gb640, 0, none⟩ (.int .i64 x6_2)).setCell ⟨gb640, 1, none⟩ (.int .i64 x7_3)).heap[gb630]? = some (.cells #[.int .i64 t625, .int .i64 t626, .int .i64 t627, .int .i64 t628] 40 (0, 0))) := ⟨by (with_reducible repeat (first | refine blk_drewN ?_ _ | refine blk_drew ?_ | refine blk_alloc ?_ _)); refine blk_far ?_ NB630_640.out _; (with_reducible repeat (first | refine blk_drewN ?_ _ | refine blk_drew ?_ | refine blk_alloc ?_ _)); refine blk_far ?_ NB630_640.out _; (with_reducible repeat (first | refine blk_drewN ?_ _ | refine blk_drew ?_ | refine blk_alloc ?_ _)); exact BK630.out⟩
             have n2_ : Aside0 (((w55.setCell ⟨gb640, 0, none⟩ (.int .i64 x6_2)).setCell ⟨gb640, 1, none⟩ (.int .i64 x7_3)).heap[gb633]? = some (.cells #[.int .i64 t631, .int .i64 t632] 25 (0, 0))) := ⟨by (with_reducible repeat (first | refine blk_drewN ?_ _ | refine blk_drew ?_ | refine blk_alloc ?_ _)); refine blk_far ?_ NB633_640.out _; (with_reducible repeat (first | refine blk_drewN ?_ _ | refine blk_drew ?_ | refine blk_alloc ?_ _)); refine blk_far ?_ NB633_640.out _; (with_reducible repeat (first | refine blk_drewN ?_ _ | refine blk_drew ?_ | refine blk_alloc ?_ _)); exact BK633.out⟩
             have n3_ : Aside0 (((w55.setCell ⟨gb640, 0, none⟩ (.int .i64 x6_2)).setCell ⟨gb640, 1, none⟩ (.int .i64 x7_3)).heap[gb640]? = some (.cells #[.int .i64 x6_2, .int .i64 x7_3] 38 (0, 0))) := ⟨by (with_reducible repeat (first | refine blk_drewN ?_ _ | refine blk_drew ?_ | refine blk_alloc ?_ _)); refine blk_put (cs := #[.int .i64 x6_2, .int .i64 0]) ?_ 1 _ rfl; (with_reducible repeat (first | refine blk_drewN ?_ _ | refine blk_drew ?_ | refine blk_alloc ?_ _)); refine blk_put (cs := #[.int .i64 0, .int .i64 0]) ?_ 0 _ rfl; (with_reducible repeat (first | refine blk_drewN ?_ _ | refine blk_drew ?_ | refine blk_alloc ?_ _)); exact BK640.out⟩
             have n4_ : Aside0 (Below w.heap.size w ((w55.setCell ⟨gb640, 0, none⟩ (.int .i64 x6_2)).setCell ⟨gb640, 1, none⟩ (.int .i64 x7_3))) := ⟨hB_⟩
             (try clear BK629)
             (try clear BK630)
             (try clear BK633)
             (try clear BK640)
             (try clear HB)
             generalize ((w55.setCell ⟨gb640, 0, none⟩ (.int .i64 x6_2)).setCell ⟨gb640, 1, none⟩ (.int .i64 x7_3)) = w60 at n0_ n1_ n2_ n3_ n4_ ⊢
             have BK629 := n0_
             have BK630 := n1_
             have BK633 := n2_
             have BK640 := n3_
             have HB := n4_
             clear n0_ n1_ n2_ n3_ n4_
             have n0_ := Aside0.mk (blk_drew BK629.out)
             have n1_ := Aside0.mk (blk_drew BK630.out)
             have n2_ := Aside0.mk (blk_drew BK633.out)
             have n3_ := Aside0.mk (blk_drew BK640.out)
             have n4_ := Aside0.mk (below_drew1 HB.out)
             clear BK629 BK630 BK633 BK640 HB
             have BK629 := n0_
             have BK630 := n1_
             have BK633 := n2_
             have BK640 := n3_
             have HB := n4_
             clear n0_ n1_ n2_ n3_ n4_
             refine start_ (n := 11) (S := fun w' => w'.cell? ⟨gb629, 0, none⟩ = some (.int .i64 t621) ∧ w'.cell? ⟨gb629, 1, none⟩ = some (.int .i64 t622) ∧ w'.cell? ⟨gb629, 2, none⟩ = some (.int .i64 t623) ∧ w'.cell? ⟨gb629, 3, none⟩ = some (.int .i64 t624) ∧ w'.cell? ⟨gb640, 0, none⟩ = some (.int .i64 x6_2) ∧ w'.cell? ⟨gb640, 1, none⟩ = some (.int .i64 x7_3) ∧ w'.cell? ⟨gb633, 0, none⟩ = some (.int .i64 t631) ∧ w'.cell? ⟨gb633, 1, none⟩ = some (.int .i64 t632) ∧ w'.cell? ⟨gb630, 0, none⟩ = some (.int .i64 t625) ∧ w'.cell? ⟨gb630, 1, none⟩ = some (.int .i64 t626) ∧ w'.cell? ⟨gb630, 2, none⟩ = some (.int .i64 t627) ∧ w'.cell? ⟨gb630, 3, none⟩ = some (.int .i64 t628)) (ds := []) #[false, false, false, false, false, false, false, false, false, false, false] (by kernel_rfl) rfl rfl ⟨bc_, bc_, bc_, bc_, bc_, bc_, bc_, bc_, bc_, bc_, bc_, bc_⟩ (fun hHeld => ?_); refine with_tabW laws_FnApartFar.tab14 laws_FnApartFar.bits14 (fun HT_ HW_ => ?_)
             generalize w60.drew = w61 at BK629 BK630 BK633 BK640 HB hHeld ⊢
             refine take_ (i := 0) (N := some 51) (v := ?_) (a' := ?_) (bm 11 1) rfl rfl (take_ofW HT_.out HW_.out (by kernel_rfl)) (fun _ _ _ h => h) (Or.inl ⟨by rfl, ?_⟩) hHeld ?_ ?_
             rotate_left
             ·
              rintro w' ⟨s0, s1, s2, s3, s4, s5, s6, s7, s8, s9, s10, s11⟩
              go_simp
              with_reducible rfl
             rotate_left
             ·
              simp only [Act.put, List.setIfInBounds_toArray, List.set_cons_zero, List.set_cons_succ, i64_w, i32_w]
              rfl
             refine take_ (i := 1) (N := some 52) (v := ?_) (a' := ?_) (bm 11 3) rfl rfl (take_ofW HT_.out HW_.out (by kernel_rfl)) (fun _ _ _ h => h) (Or.inl ⟨by rfl, ?_⟩) hHeld ?_ ?_
             rotate_left
             ·
              rintro w' ⟨s0, s1, s2, s3, s4, s5, s6, s7, s8, s9, s10, s11⟩
              go_simp
              with_reducible rfl
             rotate_left
             ·
              simp only [Act.put, List.setIfInBounds_toArray, List.set_cons_zero, List.set_cons_succ, i64_w, i32_w]
              rfl
             refine one_ (i := 2) (N := some 53) (bm 11 7) rfl rfl (one_of HT_.out (by kernel_rfl)) (by decide) (fun K hK => ?_)
             refine goes_ Tryd.func29 (by kernel_rfl) rfl #[.agg #[.int .i64 t621, .int .i64 t622, .int .i64 t623, .int .i64 t624], .agg #[.int .i64 x6_2, .int .i64 x7_3]] (by rfl) rfl rfl ma_ ?_
             with_reducible refine (impl_SegHas.calls k3 t621 t622 t623 t624 x6_2 x7_3 true _ A40.out).mono ?_
             rintro e w62 ⟨rfl, hb⟩
             refine ⟨_, rfl, ?_⟩
             have n0_ := Aside0.mk (ub_ (g := gb629) hb)
             have n1_ := Aside0.mk (ub_ (g := gb630) hb)
             have n2_ := Aside0.mk (ub_ (g := gb633) hb)
             have n3_ := Aside0.mk (ub_ (g := gb640) hb)
             have n4_ := Aside0.mk (below_step hB_ hb)
             clear BK629 BK630 BK633 BK640 HB
             have BK629 := n0_
             have BK630 := n1_
             have BK633 := n2_
             have BK640 := n3_
             have HB := n4_
             clear n0_ n1_ n2_ n3_ n4_
             (try clear hb)
             (try clear hb2)
             (try clear hk)
             (try clear hi)
             refine hK.out _ _ ⟨bc_, bc_, bc_, bc_, bc_, bc_, bc_, bc_, bc_, bc_, bc_, bc_⟩ (fun hHeld => ?_)
             clear hK K
             refine norm_ (a' := ?_) ?_ ?_
             rotate_left
             ·
              show Act.put _ (some 53) _ = _
              simp only [Act.put, List.setIfInBounds_toArray, List.set_cons_zero, List.set_cons_succ, i64_w, i32_w]
              rfl
             refine pure_ (i := 3) (N := some 54) (v := ?_) (a' := ?_) (bm 11 15) rfl rfl (any_of HT_.out (by kernel_rfl)) (fun _ _ _ h => h) (Or.inl ⟨by rfl, ?_⟩) ?_ ?_
             rotate_left
             ·
              intro w'
              go_simp
              with_reducible rfl
             rotate_left
             ·
              simp only [Act.put, List.setIfInBounds_toArray, List.set_cons_zero, List.set_cons_succ, i64_w, i32_w]
              rfl
             refine take_ (i := 4) (N := some 55) (v := ?_) (a' := ?_) (bm 11 31) rfl rfl (take_ofW HT_.out HW_.out (by kernel_rfl)) (fun _ _ _ h => h) (Or.inl ⟨by rfl, ?_⟩) hHeld ?_ ?_
             rotate_left
             ·
              rintro w' ⟨s0, s1, s2, s3, s4, s5, s6, s7, s8, s9, s10, s11⟩
              go_simp
              with_reducible rfl
             rotate_left
             ·
              simp only [Act.put, List.setIfInBounds_toArray, List.set_cons_zero, List.set_cons_succ, i64_w, i32_w]
              rfl
             refine take_ (i := 5) (N := some 56) (v := ?_) (a' := ?_) (bm 11 63) rfl rfl (take_ofW HT_.out HW_.out (by kernel_rfl)) (fun _ _ _ h => h) (Or.inl ⟨by rfl, ?_⟩) hHeld ?_ ?_
             rotate_left
             ·
              rintro w' ⟨s0, s1, s2, s3, s4, s5, s6, s7, s8, s9, s10, s11⟩
              go_simp
              with_reducible rfl
             rotate_left
             ·
              simp only [Act.put, List.setIfInBounds_toArray, List.set_cons_zero, List.set_cons_succ, i64_w, i32_w]
              rfl
             refine take_ (i := 6) (N := some 57) (v := ?_) (a' := ?_) (bm 11 127) rfl rfl (take_ofW HT_.out HW_.out (by kernel_rfl)) (fun _ _ _ h => h) (Or.inl ⟨by rfl, ?_⟩) hHeld ?_ ?_
             rotate_left
             ·
              rintro w' ⟨s0, s1, s2, s3, s4, s5, s6, s7, s8, s9, s10, s11⟩
              go_simp
              with_reducible rfl
             rotate_left
             ·
              simp only [Act.put, List.setIfInBounds_toArray, List.set_cons_zero, List.set_cons_succ, i64_w, i32_w]
              rfl
             refine one_ (i := 7) (N := some 58) (bm 11 255) rfl rfl (one_of HT_.out (by kernel_rfl)) (by decide) (fun K hK => ?_)
             refine goes_ Tryd.func24 (by kernel_rfl) rfl #[.agg #[.int .i64 t625, .int .i64 t626, .int .i64 t627, .int .i64 t628], .agg #[.int .i64 x6_2, .int .i64 x7_3]] (by rfl) rfl rfl ma_ ?_
             with_reducible refine (impl_SegFar.calls t625 t626 t627 t628 x6_2 x7_3 t642 t643 _ A42.out).mono ?_
             rintro e w63 ⟨rfl, hb⟩
             refine ⟨_, rfl, ?_⟩
             have n0_ := Aside0.mk (ub_ (g := gb629) hb)
             have n1_ := Aside0.mk (ub_ (g := gb630) hb)
             have n2_ := Aside0.mk (ub_ (g := gb633) hb)
             have n3_ := Aside0.mk (ub_ (g := gb640) hb)
             have n4_ := Aside0.mk (below_step hB_ hb)
             clear BK629 BK630 BK633 BK640 HB
             have BK629 := n0_
             have BK630 := n1_
             have BK633 := n2_
             have BK640 := n3_
             have HB := n4_
             clear n0_ n1_ n2_ n3_ n4_
             (try clear hb)
             (try clear hb2)
             (try clear hk)
             (try clear hi)
             refine hK.out _ _ ⟨bc_, bc_, bc_, bc_, bc_, bc_, bc_, bc_, bc_, bc_, bc_, bc_⟩ (fun hHeld => ?_)
             clear hK K
             refine norm_ (a' := ?_) ?_ ?_
             rotate_left
             ·
              show Act.put _ (some 58) _ = _
              simp only [Act.put, List.setIfInBounds_toArray, List.set_cons_zero, List.set_cons_succ, i64_w, i32_w]
              rfl
             refine one_ (i := 8) (N := some 59) (bm 11 511) rfl rfl (one_of HT_.out (by kernel_rfl)) (by decide) (fun K hK => ?_)
             refine goes_ Tryd.func17 (by kernel_rfl) rfl #[.agg #[.int .i64 t631, .int .i64 t632], .agg #[.int .i64 t642, .int .i64 t643]] (by rfl) rfl rfl ma_ ?_
             with_reducible refine (impl_FracCmp.calls t631 t632 t642 t643 t644 _ ?side1 A43.out).mono ?_
             (case side1 => exact ErrW.below HE.out hB_)
             rintro e w64 ⟨rfl, hb⟩
             refine ⟨_, rfl, ?_⟩
             have n0_ := Aside0.mk (ub_ (g := gb629) hb)
             have n1_ := Aside0.mk (ub_ (g := gb630) hb)
             have n2_ := Aside0.mk (ub_ (g := gb633) hb)
             have n3_ := Aside0.mk (ub_ (g := gb640) hb)
             have n4_ := Aside0.mk (below_step hB_ hb)
             clear BK629 BK630 BK633 BK640 HB
             have BK629 := n0_
             have BK630 := n1_
             have BK633 := n2_
             have BK640 := n3_
             have HB := n4_
             clear n0_ n1_ n2_ n3_ n4_
             (try clear hb)
             (try clear hb2)
             (try clear hk)
             (try clear hi)
             refine hK.out _ _ ⟨bc_, bc_, bc_, bc_, bc_, bc_, bc_, bc_, bc_, bc_, bc_, bc_⟩ (fun hHeld => ?_)
             clear hK K
             refine norm_ (a' := ?_) ?_ ?_
             rotate_left
             ·
              show Act.put _ (some 59) _ = _
              simp only [Act.put, List.setIfInBounds_toArray, List.set_cons_zero, List.set_cons_succ, i64_w, i32_w]
              rfl
             refine pure_ (i := 9) (N := some 60) (v := ?_) (a' := ?_) (bm 11 1023) rfl rfl (any_of HT_.out (by kernel_rfl)) (fun _ _ _ h => h) (Or.inl ⟨by rfl, ?_⟩) ?_ ?_
             rotate_left
             ·
              intro w'
              go_simp
              with_reducible rfl
             rotate_left
             ·
              simp only [Act.put, List.setIfInBounds_toArray, List.set_cons_zero, List.set_cons_succ, i64_w, i32_w]
              rfl
             refine pure_ (i := 10) (N := some 61) (v := ?_) (a' := ?_) (bm 11 2047) rfl rfl (any_of HT_.out (by kernel_rfl)) (fun _ _ _ h => h) (Or.inl ⟨by rfl, ?_⟩) ?_ ?_
             rotate_left
             ·
              intro w'
              go_simp
              with_reducible rfl
             rotate_left
             ·
              simp only [Act.put, List.setIfInBounds_toArray, List.set_cons_zero, List.set_cons_succ, i64_w, i32_w]
              rfl
             refine done_ (done_of HT_.out (by kernel_rfl)) ?_
             try go_wp2
             go_roundg k3
             case measure => have := HJ4.out; have := HK2.out; have := HK3.out; omega
             case rel => exact ⟨(wrap64 (x7_3 + 1)), (by first | rfl | (simp; done) | (simp [*]; done)), H', ⟨by have := HJ4.out; have := HK2.out; have := HK3.out; omega⟩, ⟨uq_⟩, ⟨uq_⟩, ⟨uq_⟩, ⟨hB_⟩⟩
           ·
            replace c41 := Bool.eq_false_iff.mpr c41
            subst c41
            have H1 : (laws_FnApartFar.l1 k3 x6_2 (wrap64 (x7_3 + 1)) t621 t622 t623 t624 t625 t626 t627 t628 t631 t632) = some r := by rw [if_neg (show ¬ (false = true) by decide)] at H; exact H
            clear H
            have H := H1
            clear H1
            have H' := Aside0.mk H
            clear H
            try go_wp2_with (first | ((with_reducible refine gate_dst (N := 8) rfl ?_); refine box_event ?hg (N := 8) ?hd (cs := #[.int .i64 0, .int .i64 0]) (t := 38) ?hr ?_; (case hd => rfl); (case hg => rfl); (case hr => first | (go_simp; done) | (go_simp; rfl)); intro gb640 hg w65 hbox hb; have n0_ := Aside0.mk (ub_ (g := gb629) hb); have n1_ := Aside0.mk (ub_ (g := gb630) hb); have n2_ := Aside0.mk (ub_ (g := gb633) hb); have n3_ := Aside0.mk (below_step hB_ hb); have n4_ := Aside0.mk (hbox); have n5_ := Aside0.mk ((by rw [hg]; exact (below_size hB_) : w.heap.size ≤ gb640)); have n6_ := Aside0.mk ((by rw [hg]; exact (below_size hB_) : w.heap.size ≤ gb640)); have n7_ := Aside0.mk ((by rw [hg]; exact Nat.ne_of_lt (blk_lt (g := gb629) (o := .cells #[.int .i64 t621, .int .i64 t622, .int .i64 t623, .int .i64 t624] 40 (0, 0)) uq_) : gb629 ≠ gb640)); have n8_ := Aside0.mk ((by rw [hg]; exact Nat.ne_of_gt (blk_lt (g := gb629) (o := .cells #[.int .i64 t621, .int .i64 t622, .int .i64 t623, .int .i64 t624] 40 (0, 0)) uq_) : gb640 ≠ gb629)); have n9_ := Aside0.mk ((by rw [hg]; exact Nat.ne_of_lt (blk_lt (g := gb630) (o := .cells #[.int .i64 t625, .int .i64 t626, .int .i64 t627, .int .i64 t628] 40 (0, 0)) uq_) : gb630 ≠ gb640)); have n10_ := Aside0.mk ((by rw [hg]; exact Nat.ne_of_gt (blk_lt (g := gb630) (o := .cells #[.int .i64 t625, .int .i64 t626, .int .i64 t627, .int .i64 t628] 40 (0, 0)) uq_) : gb640 ≠ gb630)); have n11_ := Aside0.mk ((by rw [hg]; exact Nat.ne_of_lt (blk_lt (g := gb633) (o := .cells #[.int .i64 t631, .int .i64 t632] 25 (0, 0)) uq_) : gb633 ≠ gb640)); have n12_ := Aside0.mk ((by rw [hg]; exact Nat.ne_of_gt (blk_lt (g := gb633) (o := .cells #[.int .i64 t631, .int .i64 t632] 25 (0, 0)) uq_) : gb640 ≠ gb633)); clear BK629; clear BK630; clear BK633; clear HB; have BK629 := n0_; have BK630 := n1_; have BK633 := n2_; have HB := n3_; have BK640 := n4_; have GW640 := n5_; have GE640 := n6_; have NB629_640 := n7_; have NB640_629 := n8_; have NB630_640 := n9_; have NB640_630 := n10_; have NB633_640 := n11_; have NB640_633 := n12_; clear n0_ n1_ n2_ n3_ n4_ n5_ n6_ n7_ n8_ n9_ n10_ n11_ n12_; clear hb hbox hg; have hnb66 := NB640_629.out; have hnc66 := NB629_640.out; have hnb67 := NB640_630.out; have hnc67 := NB630_640.out; have hnb68 := NB640_633.out; have hnc68 := NB633_640.out; have hcz69_0 : w65.cell? ⟨gb640, 0, none⟩ = some (.int .i64 0) := bc_; have hcz69_1 : w65.cell? ⟨gb640, 1, none⟩ = some (.int .i64 0) := bc_; have hfz69_0 := blk_frozen BK640.out 0; have hfz69_1 := blk_frozen BK640.out 1))
            have n0_ : Aside0 (((w65.setCell ⟨gb640, 0, none⟩ (.int .i64 x6_2)).setCell ⟨gb640, 1, none⟩ (.int .i64 x7_3)).heap[gb629]? = some (.cells #[.int .i64 t621, .int .i64 t622, .int .i64 t623, .int .i64 t624] 40 (0, 0))) := ⟨by (with_reducible repeat (first | refine blk_drewN ?_ _ | refine blk_drew ?_ | refine blk_alloc ?_ _)); refine blk_far ?_ NB629_640.out _; (with_reducible repeat (first | refine blk_drewN ?_ _ | refine blk_drew ?_ | refine blk_alloc ?_ _)); refine blk_far ?_ NB629_640.out _; (with_reducible repeat (first | refine blk_drewN ?_ _ | refine blk_drew ?_ | refine blk_alloc ?_ _)); exact BK629.out⟩
            have n1_ : Aside0 (((w65.setCell ⟨gb640, 0, none⟩ (.int .i64 x6_2)).setCell ⟨gb640, 1, none⟩ (.int .i64 x7_3)).heap[gb630]? = some (.cells #[.int .i64 t625, .int .i64 t626, .int .i64 t627, .int .i64 t628] 40 (0, 0))) := ⟨by (with_reducible repeat (first | refine blk_drewN ?_ _ | refine blk_drew ?_ | refine blk_alloc ?_ _)); refine blk_far ?_ NB630_640.out _; (with_reducible repeat (first | refine blk_drewN ?_ _ | refine blk_drew ?_ | refine blk_alloc ?_ _)); refine blk_far ?_ NB630_640.out _; (with_reducible repeat (first | refine blk_drewN ?_ _ | refine blk_drew ?_ | refine blk_alloc ?_ _)); exact BK630.out⟩
            have n2_ : Aside0 (((w65.setCell ⟨gb640, 0, none⟩ (.int .i64 x6_2)).setCell ⟨gb640, 1, none⟩ (.int .i64 x7_3)).heap[gb633]? = some (.cells #[.int .i64 t631, .int .i64 t632] 25 (0, 0))) := ⟨by (with_reducible repeat (first | refine blk_drewN ?_ _ | refine blk_drew ?_ | refine blk_alloc ?_ _)); refine blk_far ?_ NB633_640.out _; (with_reducible repeat (first | refine blk_drewN ?_ _ | refine blk_drew ?_ | refine blk_alloc ?_ _)); refine blk_far ?_ NB633_640.out _; (with_reducible repeat (first | refine blk_drewN ?_ _ | refine blk_drew ?_ | refine blk_alloc ?_ _)); exact BK633.out⟩
            have n3_ : Aside0 (((w65.setCell ⟨gb640, 0, none⟩ (.int .i64 x6_2)).setCell ⟨gb640, 1, none⟩ (.int .i64 x7_3)).heap[gb640]? = some (.cells #[.int .i64 x6_2, .int .i64 x7_3] 38 (0, 0))) := ⟨by (with_reducible repeat (first | refine blk_drewN ?_ _ | refine blk_drew ?_ | refine blk_alloc ?_ _)); refine blk_put (cs := #[.int .i64 x6_2, .int .i64 0]) ?_ 1 _ rfl; (with_reducible repeat (first | refine blk_drewN ?_ _ | refine blk_drew ?_ | refine blk_alloc ?_ _)); refine blk_put (cs := #[.int .i64 0, .int .i64 0]) ?_ 0 _ rfl; (with_reducible repeat (first | refine blk_drewN ?_ _ | refine blk_drew ?_ | refine blk_alloc ?_ _)); exact BK640.out⟩
            have n4_ : Aside0 (Below w.heap.size w ((w65.setCell ⟨gb640, 0, none⟩ (.int .i64 x6_2)).setCell ⟨gb640, 1, none⟩ (.int .i64 x7_3))) := ⟨hB_⟩
            (try clear BK629)
            (try clear BK630)
            (try clear BK633)
            (try clear BK640)
            (try clear HB)
            generalize ((w65.setCell ⟨gb640, 0, none⟩ (.int .i64 x6_2)).setCell ⟨gb640, 1, none⟩ (.int .i64 x7_3)) = w70 at n0_ n1_ n2_ n3_ n4_ ⊢
            have BK629 := n0_
            have BK630 := n1_
            have BK633 := n2_
            have BK640 := n3_
            have HB := n4_
            clear n0_ n1_ n2_ n3_ n4_
            have n0_ := Aside0.mk (blk_drew BK629.out)
            have n1_ := Aside0.mk (blk_drew BK630.out)
            have n2_ := Aside0.mk (blk_drew BK633.out)
            have n3_ := Aside0.mk (blk_drew BK640.out)
            have n4_ := Aside0.mk (below_drew1 HB.out)
            clear BK629 BK630 BK633 BK640 HB
            have BK629 := n0_
            have BK630 := n1_
            have BK633 := n2_
            have BK640 := n3_
            have HB := n4_
            clear n0_ n1_ n2_ n3_ n4_
            refine start_ (n := 11) (S := fun w' => w'.cell? ⟨gb629, 0, none⟩ = some (.int .i64 t621) ∧ w'.cell? ⟨gb629, 1, none⟩ = some (.int .i64 t622) ∧ w'.cell? ⟨gb629, 2, none⟩ = some (.int .i64 t623) ∧ w'.cell? ⟨gb629, 3, none⟩ = some (.int .i64 t624) ∧ w'.cell? ⟨gb640, 0, none⟩ = some (.int .i64 x6_2) ∧ w'.cell? ⟨gb640, 1, none⟩ = some (.int .i64 x7_3)) (ds := []) #[false, false, false, false, false, false, false, false, false, false, false] (by kernel_rfl) rfl rfl ⟨bc_, bc_, bc_, bc_, bc_, bc_⟩ (fun hHeld => ?_); refine with_tabW laws_FnApartFar.tab14 laws_FnApartFar.bits14 (fun HT_ HW_ => ?_)
            generalize w70.drew = w71 at BK629 BK630 BK633 BK640 HB hHeld ⊢
            refine take_ (i := 0) (N := some 51) (v := ?_) (a' := ?_) (bm 11 1) rfl rfl (take_ofW HT_.out HW_.out (by kernel_rfl)) (fun _ _ _ h => h) (Or.inl ⟨by rfl, ?_⟩) hHeld ?_ ?_
            rotate_left
            ·
             rintro w' ⟨s0, s1, s2, s3, s4, s5⟩
             go_simp
             with_reducible rfl
            rotate_left
            ·
             simp only [Act.put, List.setIfInBounds_toArray, List.set_cons_zero, List.set_cons_succ, i64_w, i32_w]
             rfl
            refine take_ (i := 1) (N := some 52) (v := ?_) (a' := ?_) (bm 11 3) rfl rfl (take_ofW HT_.out HW_.out (by kernel_rfl)) (fun _ _ _ h => h) (Or.inl ⟨by rfl, ?_⟩) hHeld ?_ ?_
            rotate_left
            ·
             rintro w' ⟨s0, s1, s2, s3, s4, s5⟩
             go_simp
             with_reducible rfl
            rotate_left
            ·
             simp only [Act.put, List.setIfInBounds_toArray, List.set_cons_zero, List.set_cons_succ, i64_w, i32_w]
             rfl
            refine one_ (i := 2) (N := some 53) (bm 11 7) rfl rfl (one_of HT_.out (by kernel_rfl)) (by decide) (fun K hK => ?_)
            refine goes_ Tryd.func29 (by kernel_rfl) rfl #[.agg #[.int .i64 t621, .int .i64 t622, .int .i64 t623, .int .i64 t624], .agg #[.int .i64 x6_2, .int .i64 x7_3]] (by rfl) rfl rfl ma_ ?_
            with_reducible refine (impl_SegHas.calls k3 t621 t622 t623 t624 x6_2 x7_3 false _ A40.out).mono ?_
            rintro e w72 ⟨rfl, hb⟩
            refine ⟨_, rfl, ?_⟩
            have n0_ := Aside0.mk (ub_ (g := gb629) hb)
            have n1_ := Aside0.mk (ub_ (g := gb630) hb)
            have n2_ := Aside0.mk (ub_ (g := gb633) hb)
            have n3_ := Aside0.mk (ub_ (g := gb640) hb)
            have n4_ := Aside0.mk (below_step hB_ hb)
            clear BK629 BK630 BK633 BK640 HB
            have BK629 := n0_
            have BK630 := n1_
            have BK633 := n2_
            have BK640 := n3_
            have HB := n4_
            clear n0_ n1_ n2_ n3_ n4_
            (try clear hb)
            (try clear hb2)
            (try clear hk)
            (try clear hi)
            refine hK.out _ _ ⟨bc_, bc_, bc_, bc_, bc_, bc_⟩ (fun hHeld => ?_)
            clear hK K
            refine norm_ (a' := ?_) ?_ ?_
            rotate_left
            ·
             show Act.put _ (some 53) _ = _
             simp only [Act.put, List.setIfInBounds_toArray, List.set_cons_zero, List.set_cons_succ, i64_w, i32_w]
             rfl
            refine pure_ (i := 3) (N := some 54) (v := ?_) (a' := ?_) (bm 11 15) rfl rfl (any_of HT_.out (by kernel_rfl)) (fun _ _ _ h => h) (Or.inl ⟨by rfl, ?_⟩) ?_ ?_
            rotate_left
            ·
             intro w'
             go_simp
             with_reducible rfl
            rotate_left
            ·
             simp only [Act.put, List.setIfInBounds_toArray, List.set_cons_zero, List.set_cons_succ, i64_w, i32_w]
             rfl
            refine pure_ (i := 4) (N := some 55) (v := undef) (a' := ?_) (bm 11 31) rfl rfl (any_of HT_.out (by kernel_rfl)) (fun _ _ _ h => h) (Or.inr ⟨by rfl, rfl⟩) ?_ ?_
            rotate_left
            ·
             simp only [Act.put, List.setIfInBounds_toArray, List.set_cons_zero, List.set_cons_succ, i64_w, i32_w]
             rfl
            refine pure_ (i := 5) (N := some 56) (v := undef) (a' := ?_) (bm 11 63) rfl rfl (any_of HT_.out (by kernel_rfl)) (fun _ _ _ h => h) (Or.inr ⟨by rfl, rfl⟩) ?_ ?_
            rotate_left
            ·
             simp only [Act.put, List.setIfInBounds_toArray, List.set_cons_zero, List.set_cons_succ, i64_w, i32_w]
             rfl
            refine pure_ (i := 6) (N := some 57) (v := undef) (a' := ?_) (bm 11 127) rfl rfl (any_of HT_.out (by kernel_rfl)) (fun _ _ _ h => h) (Or.inr ⟨by rfl, rfl⟩) ?_ ?_
            rotate_left
            ·
             simp only [Act.put, List.setIfInBounds_toArray, List.set_cons_zero, List.set_cons_succ, i64_w, i32_w]
             rfl
            refine pure_ (i := 7) (N := some 58) (v := undef) (a' := ?_) (bm 11 255) rfl rfl (any_of HT_.out (by kernel_rfl)) (fun _ _ _ h => h) (Or.inr ⟨by rfl, rfl⟩) ?_ ?_
            rotate_left
            ·
             simp only [Act.put, List.setIfInBounds_toArray, List.set_cons_zero, List.set_cons_succ, i64_w, i32_w]
             rfl
            refine pure_ (i := 8) (N := some 59) (v := undef) (a' := ?_) (bm 11 511) rfl rfl (any_of HT_.out (by kernel_rfl)) (fun _ _ _ h => h) (Or.inr ⟨by rfl, rfl⟩) ?_ ?_
            rotate_left
            ·
             simp only [Act.put, List.setIfInBounds_toArray, List.set_cons_zero, List.set_cons_succ, i64_w, i32_w]
             rfl
            refine pure_ (i := 9) (N := some 60) (v := undef) (a' := ?_) (bm 11 1023) rfl rfl (any_of HT_.out (by kernel_rfl)) (fun _ _ _ h => h) (Or.inr ⟨by rfl, rfl⟩) ?_ ?_
            rotate_left
            ·
             simp only [Act.put, List.setIfInBounds_toArray, List.set_cons_zero, List.set_cons_succ, i64_w, i32_w]
             rfl
            refine pure_ (i := 10) (N := some 61) (v := ?_) (a' := ?_) (bm 11 2047) rfl rfl (any_of HT_.out (by kernel_rfl)) (fun _ _ _ h => h) (Or.inl ⟨by rfl, ?_⟩) ?_ ?_
            rotate_left
            ·
             intro w'
             go_simp
             with_reducible rfl
            rotate_left
            ·
             simp only [Act.put, List.setIfInBounds_toArray, List.set_cons_zero, List.set_cons_succ, i64_w, i32_w]
             rfl
            refine done_ (done_of HT_.out (by kernel_rfl)) ?_
            try go_wp2
            go_roundg k3
            case measure => have := HJ4.out; have := HK2.out; have := HK3.out; omega
            case rel => exact ⟨(wrap64 (x7_3 + 1)), (by first | rfl | (simp; done) | (simp [*]; done)), H', ⟨by have := HJ4.out; have := HK2.out; have := HK3.out; omega⟩, ⟨uq_⟩, ⟨uq_⟩, ⟨uq_⟩, ⟨hB_⟩⟩
          ·
           rw [if_neg c39] at H
           have c39b0 : decide (x7_3 ≤ 9) = false := decide_eq_false c39
           clear c39
           have H' := Aside0.mk H
           clear H
           go_wp2
           go_roundg k3
           case measure => have := HJ4.out; have := HK2.out; have := HK3.out; omega
           case rel => exact ⟨(wrap64 (x6_2 + 1)), (by first | rfl | (simp; done) | (simp [*]; done)), H', ⟨by have := HJ4.out; have := HK2.out; have := HK3.out; omega⟩, ⟨uq_⟩, ⟨uq_⟩, ⟨uq_⟩, ⟨hB_⟩⟩
       ·
        rw [if_neg c38] at H
        have c38b0 : decide (x6_2 ≤ 9) = false := decide_eq_false c38
        clear c38
        obtain rfl := Option.some.inj H
        go_wp2
        go_ret
        exact ⟨by first | rfl | (simp [errW_none, errW_some] <;> rfl) | (simp [*, errW_none, errW_some] <;> rfl), hB_⟩
/-- THE ONE PURE STATEMENT of laws_FnApartFar: yours. -/
def laws_FnApartFar.Pure : Prop := ∀ (l0 : List Int), l0.length ≤ maxLen → l0.length * 1 ≤ 140737488351232 → (∀ x ∈ l0, (Lit.int .u8 x).wf = true) → ∃ k, laws_FnApartFar.f k l0 = some true
theorem laws_FnApartFar.walk (P : laws_FnApartFar.Pure) (a0 : Option Addr) (len0 cap0 : Nat) (z0 : List Int) (w : World) (hE : ErrW w) (w0 : (a0 = none ∧ len0 = 0 ∧ cap0 = 0 ∧ z0 = []) ∨ ∃ x, a0 = some x ∧ len0 ≤ cap0 ∧ cap0 ≤ maxLen ∧ z0.length = cap0 ∧ (∀ i, i < z0.length → w.cell? (x.add i) = some (.int .u8 (z0.getD i 0))) ∧ ∀ n ∈ z0, (Lit.int .u8 n).wf = true) (y0 : len0 * 1 ≤ 140737488351232) :
  Calls Tryd.prog 13 #[.slice a0 len0 cap0] w fun e w' => e = .returned (.bool true) ∧ Below w.heap.size w w' := by
 obtain ⟨l0, rfl, hr0, hm0, hw0, hc0⟩ := ReadsInt.ofRowC w0
 obtain ⟨k, h⟩ := P l0 hm0 y0 hw0
 refine (laws_FnApartFar.calls k _ _ l0 true w (Kd.C_of_reads (d := (0 : Int)) (h1 := fun _ => rfl) hr0) hc0 hE h).mono ?_
 rintro e w' ⟨rfl, hd⟩
 exact ⟨rfl, hd⟩
end Go.Proofs.YtnponnkcfgjeoaaDoor.X
end
section
set_option linter.unusedVariables false
set_option linter.unusedSimpArgs false
namespace Go.Proofs.YtnponnkcfgjeoaaDoor.X
open Go.RowKit Go.Proofs.YtnponnkcfgjeoaaDoorW.PrintWords Go.Proofs.YtnponnkcfgjeoaaDoorW.PrintLast Go.Proofs.YtnponnkcfgjeoaaDoorW.PrintMore
open Mort
theorem sSegApart {k : Nat} (hk : 100000 ≤ k) (a b c d e f g h : Int) :
    spec_SegApart.f k a b c d e f g h = some ((segApart ((a, b), (c, d)) ((e, f), (g, h))).1, (segApart ((a, b), (c, d)) ((e, f), (g, h))).2) := by
  unfold spec_SegApart.f segApart
  simp only [sSegOk, Option.bind_some]
  cases hs : segOk ((a, b), (c, d)) with
  | false => simp
  | true =>
    cases ht : segOk ((e, f), (g, h)) with
    | false => simp
    | true =>
      obtain ⟨o1, o2⟩ := segOk_ends hs
      obtain ⟨o3, o4⟩ := segOk_ends ht
      have f1 : fracOk (red (far ((a, b), (c, d)) (e, f))) = true := red_ok (far_inR hs o3)
      have f2 : fracOk (red (far ((a, b), (c, d)) (g, h))) = true := red_ok (far_inR hs o4)
      have f3 : fracOk (red (far ((e, f), (g, h)) (a, b))) = true := red_ok (far_inR ht o1)
      have f4 : fracOk (red (far ((e, f), (g, h)) (c, d))) = true := red_ok (far_inR ht o2)
      have l1 := least_ok f1 f2
      have l2 := least_ok f3 f4
      simp only [if_true, Bool.and_self]
      unfold spec_l2Apart.f
      rw [sMeet o1 o2 o3 o4]
      simp only [Option.bind_some]
      cases hm : meet ((a, b), (c, d)) ((e, f), (g, h)) with
      | true => simp
      | false =>
        simp only [Bool.false_eq_true, if_false]
        rw [sL2Far hk hs o3, sL2Far hk hs o4, sL2Far hk ht o1, sL2Far hk ht o2]
        simp only [Option.bind_some]
        rw [sLeast (n := (red (far ((a, b), (c, d)) (e, f))).1) (d := (red (far ((a, b), (c, d)) (e, f))).2) (m := (red (far ((a, b), (c, d)) (g, h))).1) (q := (red (far ((a, b), (c, d)) (g, h))).2) f1 f2, sLeast (n := (red (far ((e, f), (g, h)) (a, b))).1) (d := (red (far ((e, f), (g, h)) (a, b))).2) (m := (red (far ((e, f), (g, h)) (c, d))).1) (q := (red (far ((e, f), (g, h)) (c, d))).2) f3 f4]
        simp only [Option.bind_some]
        rw [sLeast (n := (least (red (far ((a, b), (c, d)) (e, f))) (red (far ((a, b), (c, d)) (g, h)))).1) (d := (least (red (far ((a, b), (c, d)) (e, f))) (red (far ((a, b), (c, d)) (g, h)))).2) (m := (least (red (far ((e, f), (g, h)) (a, b))) (red (far ((e, f), (g, h)) (c, d)))).1) (q := (least (red (far ((e, f), (g, h)) (a, b))) (red (far ((e, f), (g, h)) (c, d)))).2) l1 l2]
        rfl
end Go.Proofs.YtnponnkcfgjeoaaDoor.X
end
section
set_option linter.unusedVariables false
set_option linter.unusedSimpArgs false
namespace Go.Proofs.YtnponnkcfgjeoaaDoor.X
open Go.RowKit Go.Proofs.YtnponnkcfgjeoaaDoorW.PrintWords Go.Proofs.YtnponnkcfgjeoaaDoorW.PrintLast Go.Proofs.YtnponnkcfgjeoaaDoorW.PrintMore
open Mort
def small (x : Int) : Prop := -100 ≤ x ∧ x ≤ 100
theorem l71Pt_told {l : List Int} (hl : Bytes l) {p : Int} (hp : 0 ≤ p) (hp' : p ≤ 900000) :
    ∃ x y q, (∀ k, 1 ≤ k → spec_l71Pt.f k l p = some (x, y, q)) ∧ p ≤ q ∧ q ≤ p + 10 ∧ small x ∧ small y := by
  obtain ⟨r1, h1, a1, b1⟩ := pick_told hl (p := p) (n := 10) hp (by omega) (by omega) (by omega)
  obtain ⟨r2, h2, a2, b2⟩ := pick_told hl (p := p + 1) (n := 10) (by omega) (by omega) (by omega) (by omega)
  obtain ⟨r3, h3, a3, b3⟩ := pick_told hl (p := p + 1 + 1) (n := 40) (by omega) (by omega) (by omega) (by omega)
  obtain ⟨r4, h4, a4, b4⟩ := pick_told hl (p := p + 1 + 1 + 1) (n := 2) (by omega) (by omega) (by omega) (by omega)
  have hr : -1 ≤ rd [(-1), 10] r4 ∧ rd [(-1), 10] r4 ≤ 10 := by
    have : r4 = 0 ∨ r4 = 1 := by omega
    rcases this with rfl | rfl <;> decide
  unfold small
  by_cases z0 : r3 = 0
  · refine ⟨rd [(-1), 10] r4, r2, p + 1 + 1 + 1 + 1, fun k hk => ?_, by omega, by omega, by omega, by omega⟩
    unfold spec_l71Pt.f
    rw [h1 k hk]; simp only [Option.bind_some]
    rw [h2 k hk]; simp only [Option.bind_some]
    rw [h3 k hk]; simp only [Option.bind_some]
    rw [if_pos z0, h4 k hk]; simp only [Option.bind_some]
    rw [if_pos a4, if_pos (by simpa using b4)]
  · by_cases z1 : r3 = 1
    · refine ⟨r1, rd [(-1), 10] r4, p + 1 + 1 + 1 + 1, fun k hk => ?_, by omega, by omega, by omega, by omega⟩
      unfold spec_l71Pt.f
      rw [h1 k hk]; simp only [Option.bind_some]
      rw [h2 k hk]; simp only [Option.bind_some]
      rw [h3 k hk]; simp only [Option.bind_some]
      rw [if_neg z0, if_pos z1, h4 k hk]; simp only [Option.bind_some]
      rw [if_pos a4, if_pos (by simpa using b4)]
    · refine ⟨r1, r2, p + 1 + 1 + 1, fun k hk => ?_, by omega, by omega, by omega, by omega⟩
      unfold spec_l71Pt.f
      rw [h1 k hk]; simp only [Option.bind_some]
      rw [h2 k hk]; simp only [Option.bind_some]
      rw [h3 k hk]; simp only [Option.bind_some]
      rw [if_neg z0, if_neg z1]
theorem l71Seg_told {l : List Int} (hl : Bytes l) {p : Int} (hp : 0 ≤ p) (hp' : p ≤ 800000) :
    ∃ a b c d q, (∀ k, 1 ≤ k → spec_l71Seg.f k l p = some (a, b, c, d, q)) ∧ p ≤ q ∧ q ≤ p + 30 ∧ small a ∧ small b ∧ small c ∧ small d := by
  obtain ⟨a, b, q1, h1, c1, d1, s1, t1⟩ := l71Pt_told hl (p := p) hp (by omega)
  obtain ⟨c, d, q2, h2, c2, d2, s2, t2⟩ := l71Pt_told hl (p := q1) (by omega) (by omega)
  obtain ⟨r, h3, a3, b3⟩ := pick_told hl (p := q2) (n := 4) (by omega) (by omega) (by omega) (by omega)
  by_cases z : r = 0
  · refine ⟨a, b, c, b, q2 + 1, fun k hk => ?_, by omega, by omega, s1, t1, s2, t1⟩
    unfold spec_l71Seg.f
    rw [h1 k hk]; simp only [Option.bind_some]
    rw [h2 k hk]; simp only [Option.bind_some]
    rw [h3 k hk]; simp only [Option.bind_some]
    rw [if_pos z]
  · refine ⟨a, b, c, d, q2 + 1, fun k hk => ?_, by omega, by omega, s1, t1, s2, t2⟩
    unfold spec_l71Seg.f
    rw [h1 k hk]; simp only [Option.bind_some]
    rw [h2 k hk]; simp only [Option.bind_some]
    rw [h3 k hk]; simp only [Option.bind_some]
    rw [if_neg z]
theorem l71On_told {l : List Int} (hl : Bytes l) {p : Int} (hp : 0 ≤ p) (hp' : p ≤ 700000) :
    ∃ a b c d e f q, (∀ k, 1 ≤ k → spec_l71On.f k l p = some (a, b, c, d, e, f, q)) ∧ p ≤ q ∧ q ≤ p + 100 := by
  obtain ⟨a, b, c, d, q1, h1, c1, d1, _⟩ := l71Seg_told hl (p := p) hp (by omega)
  obtain ⟨e, f, q2, h2, c2, d2, _⟩ := l71Pt_told hl (p := q1) (by omega) (by omega)
  obtain ⟨r3, h3, a3, b3⟩ := pick_told hl (p := q2) (n := 3) (by omega) (by omega) (by omega) (by omega)
  by_cases z : r3 > 0
  · obtain ⟨r4, h4, a4, b4⟩ := pick_told hl (p := q2 + 1) (n := 5) (by omega) (by omega) (by omega) (by omega)
    obtain ⟨r5, h5, a5, b5⟩ := pick_told hl (p := q2 + 1 + 1) (n := 5) (by omega) (by omega) (by omega) (by omega)
    obtain ⟨r6, h6, a6, b6⟩ := pick_told hl (p := q2 + 1 + 1 + 1) (n := 3) (by omega) (by omega) (by omega) (by omega)
    obtain ⟨r7, h7, a7, b7⟩ := pick_told hl (p := q2 + 1 + 1 + 1 + 1) (n := 3) (by omega) (by omega) (by omega) (by omega)
    obtain ⟨r8, h8, a8, b8⟩ := pick_told hl (p := q2 + 1 + 1 + 1 + 1 + 1) (n := 2) (by omega) (by omega) (by omega) (by omega)
    have e8 : wrap64 (wrap64 (1 + r8) + 1) = 1 + r8 + 1 := by rw [w64 (x := 1 + r8) (by omega) (by omega), w64 (by omega) (by omega)]
    obtain ⟨r9, h9, a9, b9⟩ := pick_told hl (p := q2 + 1 + 1 + 1 + 1 + 1 + 1) (n := 1 + r8 + 1) (by omega) (by omega) (by omega) (by omega)
    obtain ⟨ra, ha, aa, ba⟩ := pick_told hl (p := q2 + 1 + 1 + 1 + 1 + 1 + 1 + 1) (n := 1 + r8 + 1) (by omega) (by omega) (by omega) (by omega)
    obtain ⟨rb, hb, ab, bb⟩ := pick_told hl (p := q2 + 1 + 1 + 1 + 1 + 1 + 1 + 1 + 1) (n := 2) (by omega) (by omega) (by omega) (by omega)
    have go : ∀ k, 1 ≤ k → spec_l71On.f k l p = if rb = 0 then _ else _ := fun k hk => by
      unfold spec_l71On.f
      rw [h1 k hk]; simp only [Option.bind_some]
      rw [h2 k hk]; simp only [Option.bind_some]
      rw [h3 k hk]; simp only [Option.bind_some]
      rw [if_pos z, h4 k hk]; simp only [Option.bind_some]
      rw [h5 k hk]; simp only [Option.bind_some]
      rw [h6 k hk]; simp only [Option.bind_some]
      rw [h7 k hk]; simp only [Option.bind_some]
      rw [h8 k hk]; simp only [Option.bind_some]
      rw [e8, h9 k hk]; simp only [Option.bind_some]
      rw [ha k hk]; simp only [Option.bind_some]
      rw [hb k hk]; simp only [Option.bind_some]
      rfl
    by_cases y : rb = 0
    · exact ⟨_, _, _, _, _, _, _, fun k hk => by rw [go k hk, if_pos y], by omega, by omega⟩
    · exact ⟨_, _, _, _, _, _, _, fun k hk => by rw [go k hk, if_neg y], by omega, by omega⟩
  · refine ⟨a, b, c, d, e, f, q2 + 1, fun k hk => ?_, by omega, by omega⟩
    unfold spec_l71On.f
    rw [h1 k hk]; simp only [Option.bind_some]
    rw [h2 k hk]; simp only [Option.bind_some]
    rw [h3 k hk]; simp only [Option.bind_some]
    rw [if_neg z]
theorem drawSegApart_told (l : List Int) (h : ∀ x ∈ l, (Lit.int .u8 x).wf = true) :
    ∃ a b c d e f g i : Int, ∀ k, 1 ≤ k → spec_DrawSegApart.f k l = some (a, b, c, d, e, f, g, i) := by
  obtain ⟨m, ho, hm⟩ := open_told l h
  obtain ⟨a, b, c, d, e, f, q, h1, c1, d1⟩ := l71On_told hm (p := 0) (by omega) (by omega)
  obtain ⟨s, t, u, v, q1, h2, c2, d2, _⟩ := l71Seg_told hm (p := q) (by omega) (by omega)
  obtain ⟨r, h3, a3, b3⟩ := pick_told hm (p := q1) (n := 5) (by omega) (by omega) (by omega) (by omega)
  by_cases z : r < 3
  · refine ⟨a, b, c, d, e, f, u, v, fun k hk => ?_⟩
    unfold spec_DrawSegApart.f spec_l71Two.f
    rw [ho]; simp only [Option.bind_some]
    rw [h1 k hk]; simp only [Option.bind_some]
    rw [h2 k hk]; simp only [Option.bind_some]
    rw [h3 k hk]; simp only [Option.bind_some]
    rw [if_pos z]; rfl
  · refine ⟨a, b, c, d, s, t, u, v, fun k hk => ?_⟩
    unfold spec_DrawSegApart.f spec_l71Two.f
    rw [ho]; simp only [Option.bind_some]
    rw [h1 k hk]; simp only [Option.bind_some]
    rw [h2 k hk]; simp only [Option.bind_some]
    rw [h3 k hk]; simp only [Option.bind_some]
    rw [if_neg z]; rfl
end Go.Proofs.YtnponnkcfgjeoaaDoor.X
end
section
set_option linter.unusedVariables false
namespace Go.Proofs.YtnponnkcfgjeoaaDoor.Pure
open Go.RowKit Go.Proofs.YtnponnkcfgjeoaaDoor.X Go.Proofs.YtnponnkcfgjeoaaDoorW.PrintWords Go.Proofs.YtnponnkcfgjeoaaDoorW.PrintLast
open Mort
section
variable {a b c d e f g h : Int} (hs : segOk ((a, b), (c, d)) = true) (ht : segOk ((e, f), (g, h)) = true)
include hs ht
theorem apartFar_l1 {x : Int} (n : Nat) (hx : 0 ≤ x) (hx' : x ≤ 9)
    (next : ∀ k, 100000 + 12 * n + 1 ≤ k → laws_FnApartFar.l0 k (x + 1) a b c d e f g h (segApart ((a, b), (c, d)) ((e, f), (g, h))).1 (segApart ((a, b), (c, d)) ((e, f), (g, h))).2 = some true) :
    ∀ (m : Nat) (y : Int) (k : Nat), 0 ≤ y → y + m = 10 → 100000 + 12 * n + 1 + m + 1 ≤ k → laws_FnApartFar.l1 k x y a b c d e f g h (segApart ((a, b), (c, d)) ((e, f), (g, h))).1 (segApart ((a, b), (c, d)) ((e, f), (g, h))).2 = some true := by
  intro m
  induction m with
  | zero =>
    intro y k hy e hk
    obtain ⟨k, rfl⟩ : ∃ j, k = j + 1 := ⟨k - 1, by omega⟩
    rw [laws_FnApartFar.l1, if_neg (by omega), w64 (by omega) (by omega)]
    exact next k (by omega)
  | succ m ih =>
    intro y k hy e1 hk
    obtain ⟨k, rfl⟩ : ∃ j, k = j + 1 := ⟨k - 1, by omega⟩
    have step := ih (y + 1) k (by omega) (by omega) (by omega)
    rw [laws_FnApartFar.l1, if_pos (by omega), iSegHas (by omega), w64 (x := y + 1) (by omega) (by omega), step]
    simp only [Option.bind_some]
    cases hh : segHas ((a, b), (c, d)) (x, y) with
    | false => rfl
    | true =>
      have := apart_far hs ht hh
      rw [if_pos rfl]
      simp only [impl_SegFar.f, Option.bind_some, fracCmp_f]
      rw [if_neg (Int.not_lt.mpr this)]
theorem apartFar_l0 : ∀ (n : Nat) (x : Int) (k : Nat), 0 ≤ x → x + n = 10 → 100000 + 12 * n + 1 ≤ k → laws_FnApartFar.l0 k x a b c d e f g h (segApart ((a, b), (c, d)) ((e, f), (g, h))).1 (segApart ((a, b), (c, d)) ((e, f), (g, h))).2 = some true := by
  intro n
  induction n with
  | zero =>
    intro x k hx e hk
    obtain ⟨k, rfl⟩ : ∃ j, k = j + 1 := ⟨k - 1, by omega⟩
    rw [laws_FnApartFar.l0, if_neg (by omega)]
  | succ n ih =>
    intro x k hx e1 hk
    obtain ⟨k, rfl⟩ : ∃ j, k = j + 1 := ⟨k - 1, by omega⟩
    rw [laws_FnApartFar.l0, if_pos (by omega)]
    exact apartFar_l1 hs ht n hx (by omega) (fun k' hk' => ih (x + 1) k' (by omega) (by omega) hk') 10 0 k (by omega) (by omega) (by omega)
end
theorem FnApartFar : laws_FnApartFar.Pure := by
  intro l _ _ hw
  obtain ⟨a, b, c, d, e, f, g, h, hd⟩ := drawSegApart_told l hw
  refine ⟨100200 + 1, ?_⟩
  unfold laws_FnApartFar.f
  split
  · rfl
  rw [hd _ (by omega)]; simp only [Option.bind_some]
  rw [sSegApart (by omega)]
  unfold impl_SegApart.f
  simp only [Option.bind_some, beq_self_eq_true, Bool.not_true, Bool.or_self, Bool.false_eq_true, if_false, sSegOk]
  have bad : laws_FnApartFar.j0 (100200 + 1) true a b c d e f g h (segApart ((a, b), (c, d)) ((e, f), (g, h))).1 (segApart ((a, b), (c, d)) ((e, f), (g, h))).2 = some true := by
    rw [laws_FnApartFar.j0, if_pos rfl, sSegApart (by omega)]
    simp only [Option.bind_some, beq_self_eq_true, Bool.and_self]
  cases hs : segOk ((a, b), (c, d)) with
  | false => exact bad
  | true =>
    simp only [if_true]
    cases ht : segOk ((e, f), (g, h)) with
    | false => exact bad
    | true =>
      rw [laws_FnApartFar.j0]
      simp only [Bool.not_true, Bool.false_eq_true, if_false]
      exact apartFar_l0 hs ht 10 0 _ (by omega) (by omega) (by omega)
end Go.Proofs.YtnponnkcfgjeoaaDoor.Pure
end
section
namespace Go.Proofs.YtnponnkcfgjeoaaDoorW.PrintWords
open Go.ChangeShapes Go.WideShapes
/-- A row's slice of whole numbers is no longer than its weight allows. -/
theorem sized_ints {H : Type} {enc : TypeId × Value → H} {P : Program} {W : World} {base : Nat} {spare : Nat → Bool} {held : Bool} {t e : TypeId} {k : IntKind} {a : Option Addr} {len cap : Nat} {d : DataW H} {ps : List MemPlace} {ts : List TypeId} {ds : List (DataW H)} {j : Nat}
    (hsz : (DataW.weightsEach P ts ds).all (· ≤ reachBytes) = true) (ht : ts[j]? = some t) (hd : ds[j]? = some d) (hu : P.underlying t = some (.slice e)) (he : P.underlying e = some (.int k)) (hc : P.cellsOf e = 1) {B : Nat} (hB : P.bytesOf e = B)
    (h : DataW.Trod enc P W base spare held t (.slice a len cap) d ps) : len * B ≤ 140737488351232 := by
  obtain ⟨fuel, hf⟩ := h
  rcases open_ints hu he hc hf with ⟨hcs, _⟩ | ⟨x, l, c, zs, hcs, _, hl, _, hz, hx, _, _⟩
  · simp [Value.cells] at hcs
    obtain ⟨rfl, rfl, rfl⟩ := hcs
    simp
  · simp [Value.cells] at hcs
    obtain ⟨rfl, rfl, rfl⟩ := hcs
    obtain ⟨hx, _⟩ := Prod.mk.inj hx
    subst hx
    have z := sized_slice hsz ht hd hu
    rw [hB] at z
    have hl2 : len ≤ zs.length := by
      rw [hz]
      split
      · exact hl
      · exact Nat.le_refl _
    have h1 : (lits (H := H) k (zs.take len)).length + (lits (H := H) k (zs.drop len)).length = zs.length := by
      simp [lits]
      omega
    rw [h1] at z
    exact Nat.le_trans (Nat.mul_le_mul_right _ hl2) z
end Go.Proofs.YtnponnkcfgjeoaaDoorW.PrintWords
end
section
set_option linter.unusedVariables false
namespace Go.Proofs.YtnponnkcfgjeoaaDoor.fnApartFar
open Go Go.ChangeShapes Go.WideShapes Go.ChangeAt Go.RowKit Go.Proofs.YtnponnkcfgjeoaaDoorW
open Go.ChangeMaps (open_string shut_string)
def IsRow (k : IntKind) (w : World) (a : Option Addr) (len cap : Nat) (zs : List Int) : Prop :=
  (a = none ∧ len = 0 ∧ cap = 0 ∧ zs = []) ∨
  ∃ x, a = some x ∧ len ≤ cap ∧ cap ≤ maxLen ∧ zs.length = cap ∧ (∀ i, i < zs.length → w.cell? (x.add i) = some (.int k (zs.getD i 0))) ∧ ∀ n ∈ zs, (Lit.int k n).wf = true
set_option maxRecDepth 100000 in
theorem lifted (os : Os) (started : os.Started) (H : Type) (enc : TypeId × Value → H) :
    ReturnsInHanded {} Tryd.checked os 13 .any (fun w args => (Rows.fnApartFarSpec.pre enc Tryd.prog Tryd.f13 [] false w args ∧ laidMet Tryd.prog laidErr w) ∧ sizedMet enc Tryd.prog Tryd.f13 (OpenSpec.ofChange Rows.fnApartFarSpec) false w args) (Rows.fnApartFarSpec.post enc Tryd.prog Tryd.f13 false true false false) := by
  refine returnsInHanded_of_change_and (C := Tryd.checked) (X := fun w _ => laidMet Tryd.prog laidErr w) (fun _ _ _ hh h => h.of_heap hh) own started (by kernel_rfl) Tryd.func13
    (ChangeSpec.witness_at (enc := enc) (C := Tryd.checked) (os := os) (X := fun w _ => laidMet Tryd.prog laidErr w) false (laidWorld os) #[.slice none 0 0] 8 rfl (by kernel_rfl) (by kernel_rfl) (by kernel_rfl) (by kernel_rfl) (by kernel_rfl) (laidWorld_met os _)) ?_
  intro W base args ds gs before hval0 hW hcnd hsz0 hL _
  have hsz : (DataW.weightsEach Tryd.prog (Tryd.f13.params.toList ++ Rows.fnApartFarSpec.plain.varTypes Tryd.prog) (ds ++ gs)).all (· ≤ reachBytes) = true := hsz0
  have hval : ∀ (j : Nat) t v, Tryd.f13.params[j]? = some t → args[j]? = some v → Value.okWide Tryd.prog W .any base t v := hval0
  have hW' := hW
  obtain ⟨p, q, hA0, hV0, rfl, hfz, hnd⟩ := hW
  have hA : DataW.TrodAll enc Tryd.prog W 0 (fun _ => true) true Tryd.f13.params.toList args.toList ds p := hA0
  have hV : DataW.TrodVars enc Tryd.prog W (fun _ => true) ["loop.example/mortiser/impl.errNoFrac"] gs q := hV0
  rw [Tryd.params13] at hA hval hsz
  obtain ⟨v0, vs0, d0, ds0, p0, q0, hargs, rfl, rfl, h0, r0⟩ := trodAll_cons hA
  obtain ⟨rfl, rfl, rfl⟩ := trodAll_nil r0
  obtain rfl : args = #[v0] := by cases args; simp_all
  obtain ⟨a, st, hv, hcs, hs0, hz0⟩ := err_of_laid hL
  obtain ⟨rfl, rfl⟩ := hV.unique (errVars enc hv trivial _)
  have hE : ErrW W := ErrW.of_var hv
  obtain ⟨a0, len0, cap0, rfl⟩ := okWide_slice Tryd.underlying28 (hval 0 28 v0 rfl rfl)
  have k0 := h0
  have lt0 : ∀ x ∈ p0, x.block < W.heap.size := by obtain ⟨m, hm⟩ := k0; exact DataW.trod_lt m _ _ _ hm
  obtain ⟨z0, w0⟩ : ∃ zs, IsRow .u8 W a0 len0 cap0 zs := by
    obtain ⟨fuel, hf⟩ := h0
    rcases open_ints Tryd.underlying28 Tryd.underlying5 (by kernel_rfl) hf with ⟨hcs, _⟩ | ⟨x, l, c, zs, hcs, _, hl, hm, hz, _, hcell, hwz⟩
    · simp [Value.cells] at hcs
      obtain ⟨rfl, rfl, rfl⟩ := hcs
      exact ⟨[], .inl ⟨rfl, rfl, rfl, rfl⟩⟩
    · simp [Value.cells] at hcs
      obtain ⟨rfl, rfl, rfl⟩ := hcs
      exact ⟨zs, .inr ⟨_, rfl, hl, hm, by simpa using hz, hcell, hwz⟩⟩
  have y0 : len0 * 1 ≤ 140737488351232 := PrintWords.sized_ints hsz (j := 0) (t := 28) rfl rfl Tryd.underlying28 Tryd.underlying5 (by kernel_rfl) (by kernel_rfl) h0
  clear hA0 hval0 hsz0 hsz
  refine (X.laws_FnApartFar.walk Pure.FnApartFar a0 len0 cap0 z0 W hE w0 y0).mono fun e W' ⟨he, bel⟩ => ?_
  subst he
  exact ⟨_, rfl, _, _, _, [], _, [.cell 0 0], hW', trodAll_mk1 (shut_bool Tryd.underlying4 _), (trodAll_cons_mk (Below.trod laidOut (by kernel_rfl) (of_decide_eq_true (by kernel_rfl)) k0 bel lt0) trodAll_mk0), errVars enc (errBelow bel hv) trivial _, bel.frame _, fun h => by cases h⟩
theorem over : Rows.fnApartFarRow.holds Tryd.pinned (OpenSpec.ofChange Rows.fnApartFarSpec) :=
  OpenClaim.holds_of_wide 13 Tryd.f13 rfl rfl rfl rfl rfl rfl rfl ⟨rfl, rfl, rfl, rfl, rfl⟩ rfl rfl rfl rfl rfl (by kernel_rfl) Tryd.func13 (by kernel_rfl)
    (of_decide_eq_true (by kernel_rfl)) (by unfold Func.isWrapper; first | (rw [if_pos (by decide +kernel)]; kernel_rfl) | (rw [if_neg (by decide +kernel)]; exact ⟨rfl, rfl⟩))
    (fun os started H enc _ => lifted os started H enc)
theorem proved : Rows.FnApartFarCardSaid :=
  Claim7.holds_tied_plain_at .later [] [.sentinel] true (true, "367200faf2c18a8d3acd0cadfc4f4a0300d2711da9ddbae6489321d2dd8a2082") true
    over (fun _ h => by cases h) (by kernel_rfl) (fun _ h => by cases h) fnApartFar_row_tie rfl ⟨rfl, rfl⟩ (by kernel_rfl) rfl
    (fun f fn hf hfn => by
      obtain rfl : f = 13 := Option.some.inj ((show Tryd.prog.funcNamed "loop.example/mortiser/laws.FnApartFar" = some 13 by kernel_rfl).symm.trans hf) |>.symm
      obtain rfl : fn = Tryd.f13 := (Option.some.inj (Tryd.func13.symm.trans hfn)).symm
      exact ⟨by kernel_rfl, fun j t ht => by
        rw [Tryd.params13] at ht
        have h3 : t = 28 := by
          rcases j with _ | j
          · simpa using ht.symm
          · simp at ht
        subst h3
        exact (show Tryd.prog.wantsStandIn 28 = false by kernel_rfl)⟩)
    (by kernel_rfl)
end Go.Proofs.YtnponnkcfgjeoaaDoor.fnApartFar
namespace Go.Proofs.YtnponnkcfgjeoaaDoor
/-- The card, under a short name, for the claim. -/
theorem fnApartFar_holds : Rows.FnApartFarCardSaid := fnApartFar.proved
end Go.Proofs.YtnponnkcfgjeoaaDoor
end
