/- FnFarEnds: the law returns true for every input, and each input reads behind the call as before; part 6 of 7. No condition. Merged by program out of: FLawsFnFarEnds. -/
import Derived.Test.YtnponnkcfgjeoaaDoorMFnFarEnds5
section
namespace Go.Proofs.YtnponnkcfgjeoaaDoor.X
open Go.RowKit Go.Proofs.YtnponnkcfgjeoaaDoorW.PrintWords Go.Proofs.YtnponnkcfgjeoaaDoorW.PrintLast Go.Proofs.YtnponnkcfgjeoaaDoorW.PrintMore
attribute [local go_sem] max2_int min2_int max_two min_two max_three min_three max_four min_four
set_option linter.unusedVariables false
set_option linter.unusedSimpArgs false
attribute [local go_sem high] eqA25
def laws_FnFarEnds.j0 : Nat → Bool → Int → Int → Int → Int → Int → Int → Int → Int → Option (Bool)
  | 0, _, _, _, _, _, _, _, _, _ => none
  | k + 1, x35, x525000, x525001, x525002, x525003, x526000, x526001, x529000, x529001 => if x35 = true then ((spec_SegFar.f k x525000 x525001 x525002 x525003 x526000 x526001).bind fun bt533 => (some (x529000 == bt533.1 && (x529001 == bt533.2)))) else ((laws_luSq.f x525000 x525001 x526000 x526001).bind fun t535 => ((impl_FracOf.f k t535 1).bind fun bt536 => ((laws_luSq.f x525002 x525003 x526000 x526001).bind fun t540 => ((impl_FracOf.f k t540 1).bind fun bt541 => ((impl_FracCmp.f x529000 x529001 bt536.1 bt536.2.1).bind fun t545 => (if t545 ≤ 0 then ((impl_FracCmp.f x529000 x529001 bt541.1 bt541.2.1).bind fun t546 => (if t546 ≤ 0 then ((impl_FracOk.f x529000 x529001).bind fun t547 => (if t547 = true then ((laws_luBack.f x525000 x525001 x525002 x525003).bind fun bt548 => ((impl_SegFar.f bt548.1 bt548.2.1 bt548.2.2.1 bt548.2.2.2 x526000 x526001).bind fun bt552 => (some (bt552.1 == x529000 && (bt552.2 == x529001))))) else (some false))) else (some false))) else (some false)))))))
def laws_FnFarEnds.f (k : Nat) (l0 : List Int) : Option (Bool) := if (l0.length : Int) > 1048576 then (some true) else ((spec_DrawSegFar.f k l0).bind fun bt518 => ((impl_SegFar.f bt518.1 bt518.2.1 bt518.2.2.1 bt518.2.2.2.1 bt518.2.2.2.2.1 bt518.2.2.2.2.2).bind fun bt526 => ((spec_SegFar.f k bt518.1 bt518.2.1 bt518.2.2.1 bt518.2.2.2.1 bt518.2.2.2.2.1 bt518.2.2.2.2.2).bind fun bt529 => (if (!(bt526.1 == bt529.1) || (!(bt526.2 == bt529.2))) = true then (laws_FnFarEnds.j0 k true bt518.1 bt518.2.1 bt518.2.2.1 bt518.2.2.2.1 bt518.2.2.2.2.1 bt518.2.2.2.2.2 bt526.1 bt526.2) else ((spec_SegOk.f bt518.1 bt518.2.1 bt518.2.2.1 bt518.2.2.2.1).bind fun t531 => (if t531 = true then ((spec_PtOk.f bt518.2.2.2.2.1 bt518.2.2.2.2.2).bind fun t532 => (laws_FnFarEnds.j0 k (!t532) bt518.1 bt518.2.1 bt518.2.2.1 bt518.2.2.2.1 bt518.2.2.2.2.1 bt518.2.2.2.2.2 bt526.1 bt526.2)) else (laws_FnFarEnds.j0 k true bt518.1 bt518.2.1 bt518.2.2.1 bt518.2.2.2.1 bt518.2.2.2.2.1 bt518.2.2.2.2.2 bt526.1 bt526.2)))))))
def laws_FnFarEnds.T5 : Bool × List (List Nat × List Nat) := (true, [([], []), ([], []), ([], []), ([1, 2], [1, 2]), ([0, 3], [0, 3]), ([4, 3], [4]), ([5], [5]), ([6, 5, 5], [5, 6]), ([7, 5], [5, 7]), ([5, 8], [5, 8]), ([9, 7], [9]), ([10], [10]), ([11, 10, 10], [10, 11]), ([12, 10], [10, 12]), ([10, 13], [10, 13])])
def laws_FnFarEnds.B5 : List Nat := [0, 0, 0, 6, 15, 31, 63, 127, 255, 511, 1023, 2047, 4095, 8191, 16383]
theorem laws_FnFarEnds.tab5 : rtab .any (opsOf Tryd.f11 5) = laws_FnFarEnds.T5 := by kernel_rfl
theorem laws_FnFarEnds.bits5 : waitsOk laws_FnFarEnds.T5.2 laws_FnFarEnds.B5 = true := by kernel_rfl
def laws_FnFarEnds.T9 : Bool × List (List Nat × List Nat) := (true, [([], []), ([], []), ([0, 1], [0, 1]), ([2], [2]), ([3, 2], [3]), ([4], [4]), ([4], [4]), ([5, 6, 4, 4], [4, 5, 6]), ([7, 4], [4, 7]), ([4, 8], [4, 8]), ([9, 7], [9]), ([10], [10]), ([11, 10, 10], [10, 11]), ([10, 12], [10, 12]), ([13, 12], [13]), ([14], [14]), ([15, 14, 14], [14, 15]), ([14], [14]), ([16, 17, 16, 14], [14, 16, 17]), ([14], [14]), ([18, 19, 14], [14, 18, 19]), ([14, 20], [14, 20]), ([21, 18, 0, 1, 2, 3, 4, 5, 6, 7, 8, 9, 10, 11, 12, 13, 14, 15, 16, 17, 18, 19, 20, 21], [21])])
def laws_FnFarEnds.B9 : List Nat := [0, 0, 3, 7, 15, 31, 31, 127, 255, 511, 1023, 2047, 4095, 8191, 16383, 32767, 65535, 32767, 262143, 32767, 1048575, 2097151, 4194303]
theorem laws_FnFarEnds.tab9 : rtab .any (opsOf Tryd.f11 9) = laws_FnFarEnds.T9 := by kernel_rfl
theorem laws_FnFarEnds.bits9 : waitsOk laws_FnFarEnds.T9.2 laws_FnFarEnds.B9 = true := by kernel_rfl
set_option maxHeartbeats 8000000 in
set_option maxRecDepth 100000 in
theorem laws_FnFarEnds.calls (k : Nat) (A0 : Option Addr) (c0 : Nat) (l0 : List Int) (r : Bool) (w : World) (hr0 : Kd.C (Kd.int .u8) w A0 l0.length l0) (hc0 : l0.length ≤ c0) (hE : ErrW w) (h : laws_FnFarEnds.f k l0 = some r) :
    Calls Tryd.prog 11 #[.slice A0 l0.length c0] w fun e w' => e = .returned (.bool r) ∧ Below w.heap.size w w' := by
  have hu40 := Tryd.underlying40
  have hu38 := Tryd.underlying38
  have hu25 := Tryd.underlying25
  have HR0 := Aside0.mk hr0
  have HC0 := Aside0.mk hc0
  clear hr0 hc0
  have HB := Aside0.mk (Below.refl w.heap.size w)
  have HE := Aside0.mk hE
  clear hE
  have H : (if (l0.length : Int) > 1048576 then (some true) else ((spec_DrawSegFar.f k l0).bind fun bt518 => ((impl_SegFar.f bt518.1 bt518.2.1 bt518.2.2.1 bt518.2.2.2.1 bt518.2.2.2.2.1 bt518.2.2.2.2.2).bind fun bt526 => ((spec_SegFar.f k bt518.1 bt518.2.1 bt518.2.2.1 bt518.2.2.2.1 bt518.2.2.2.2.1 bt518.2.2.2.2.2).bind fun bt529 => (if (!(bt526.1 == bt529.1) || (!(bt526.2 == bt529.2))) = true then (laws_FnFarEnds.j0 k true bt518.1 bt518.2.1 bt518.2.2.1 bt518.2.2.2.1 bt518.2.2.2.2.1 bt518.2.2.2.2.2 bt526.1 bt526.2) else ((spec_SegOk.f bt518.1 bt518.2.1 bt518.2.2.1 bt518.2.2.2.1).bind fun t531 => (if t531 = true then ((spec_PtOk.f bt518.2.2.2.2.1 bt518.2.2.2.2.2).bind fun t532 => (laws_FnFarEnds.j0 k (!t532) bt518.1 bt518.2.1 bt518.2.2.1 bt518.2.2.2.1 bt518.2.2.2.2.1 bt518.2.2.2.2.2 bt526.1 bt526.2)) else (laws_FnFarEnds.j0 k true bt518.1 bt518.2.1 bt518.2.2.1 bt518.2.2.2.1 bt518.2.2.2.2.1 bt518.2.2.2.2.2 bt526.1 bt526.2)))))))) = some r := h
  clear h
  by_cases c2 : (l0.length : Int) > 1048576
  · rw [if_pos c2] at H
    have c2b0 : decide (1048576 < (l0.length : Int)) = true := decide_eq_true c2
    have c2b1 : decide (1048576 < l0.length) = true := decide_eq_true (by omega)
    clear c2
    obtain rfl := Option.some.inj H
    go_enter Tryd.func11, Tryd.ntmps11
    go_wp2
    go_ret
    exact ⟨by first | rfl | (simp [errW_none, errW_some] <;> rfl) | (simp [*, errW_none, errW_some] <;> rfl), by repeat (first | (with_reducible first | exact HB.out | apply below_alloc | apply pw_below_drewN | apply below_drew1) | exact HB.out)⟩
  · rw [if_neg c2] at H
    have c2b0 : decide (1048576 < (l0.length : Int)) = false := decide_eq_false c2
    have c2b1 : decide (1048576 < l0.length) = false := decide_eq_false (by omega)
    clear c2
    replace H := Option.bind_eq_some_iff.mp H
    obtain ⟨⟨t518, t519, t520, t521, t522, t523⟩, A30, H⟩ := H
    replace H : ((impl_SegFar.f t518 t519 t520 t521 t522 t523).bind fun bt526 => ((spec_SegFar.f k t518 t519 t520 t521 t522 t523).bind fun bt529 => (if (!(bt526.1 == bt529.1) || (!(bt526.2 == bt529.2))) = true then (laws_FnFarEnds.j0 k true t518 t519 t520 t521 t522 t523 bt526.1 bt526.2) else ((spec_SegOk.f t518 t519 t520 t521).bind fun t531 => (if t531 = true then ((spec_PtOk.f t522 t523).bind fun t532 => (laws_FnFarEnds.j0 k (!t532) t518 t519 t520 t521 t522 t523 bt526.1 bt526.2)) else (laws_FnFarEnds.j0 k true t518 t519 t520 t521 t522 t523 bt526.1 bt526.2)))))) = some r := H
    have A3 := Aside0.mk A30
    clear A30
    replace H := Option.bind_eq_some_iff.mp H
    obtain ⟨⟨t526, t527⟩, A40, H⟩ := H
    replace H : ((spec_SegFar.f k t518 t519 t520 t521 t522 t523).bind fun bt529 => (if (!(t526 == bt529.1) || (!(t527 == bt529.2))) = true then (laws_FnFarEnds.j0 k true t518 t519 t520 t521 t522 t523 t526 t527) else ((spec_SegOk.f t518 t519 t520 t521).bind fun t531 => (if t531 = true then ((spec_PtOk.f t522 t523).bind fun t532 => (laws_FnFarEnds.j0 k (!t532) t518 t519 t520 t521 t522 t523 t526 t527)) else (laws_FnFarEnds.j0 k true t518 t519 t520 t521 t522 t523 t526 t527))))) = some r := H
    have A4 := Aside0.mk A40
    clear A40
    have HC5 := Aside0.mk H
    clear H
    go_enter Tryd.func11, Tryd.ntmps11
    go_upto_region 5 with (first | ((with_reducible refine gate_callee (f := 23) rfl ?_); refine goesL_ (some 15) rfl rfl Tryd.func23 (by kernel_rfl) rfl #[.slice A0 l0.length c0] rfl (by (try simp only [List.map_toArray, List.map_cons, List.map_nil]); first | done | rfl | (simp only [List.length_drop, List.length_take]; rfl)) ?_; (with_reducible refine (spec_DrawSegFar.calls k _ _ l0 t518 t519 t520 t521 t522 t523 _ ?side1 ?side2 A3.out).mono ?_); (case side1 => repeat (first | exact HR0.out | (with_reducible refine Kd.C_alloc ?_ _) | (with_reducible refine Kd.C_drewN ?_ _) | (with_reducible refine Kd.C_drew ?_))); (case side2 => exact HC0.out); rintro e w6 ⟨rfl, hb⟩; refine ⟨_, rfl, ?_⟩; have n0_ := Aside0.mk (below_step (by repeat (first | (with_reducible first | exact HB.out | apply below_alloc | apply pw_below_drewN | apply below_drew1) | exact HB.out)) hb); clear HB; have HB := n0_; clear n0_; (try clear hb); (try clear hb2); (try clear hk); (try clear hi)) | ((with_reducible refine gate_dst (N := 3) rfl ?_); refine box_event ?hg (N := 3) ?hd (cs := #[.int .i64 0, .int .i64 0, .int .i64 0, .int .i64 0]) (t := 40) ?hr ?_; (case hd => rfl); (case hg => rfl); (case hr => first | (go_simp; done) | (go_simp; rfl)); intro gb524 hg w7 hbox hb; have n0_ := Aside0.mk (below_step (by repeat (first | (with_reducible first | exact HB.out | apply below_alloc | apply pw_below_drewN | apply below_drew1) | exact HB.out)) hb); have n1_ := Aside0.mk (hbox); have n2_ := Aside0.mk ((by rw [hg]; exact (below_size (by repeat (first | (with_reducible first | exact HB.out | apply below_alloc | apply pw_below_drewN | apply below_drew1) | exact HB.out))) : w.heap.size ≤ gb524)); have n3_ := Aside0.mk ((by rw [hg]; exact (below_size (by repeat (first | (with_reducible first | exact HB.out | apply below_alloc | apply pw_below_drewN | apply below_drew1) | exact HB.out))) : w.heap.size ≤ gb524)); clear HB; have HB := n0_; have BK524 := n1_; have GW524 := n2_; have GE524 := n3_; clear n0_ n1_ n2_ n3_; clear hb hbox hg) | ((with_reducible refine gate_dst (N := 4) rfl ?_); refine box_event ?hg (N := 4) ?hd (cs := #[.int .i64 0, .int .i64 0]) (t := 38) ?hr ?_; (case hd => rfl); (case hg => rfl); (case hr => first | (go_simp; done) | (go_simp; rfl)); intro gb525 hg w8 hbox hb; have n0_ := Aside0.mk (blk_below (g := gb524) (o := .cells #[.int .i64 0, .int .i64 0, .int .i64 0, .int .i64 0] 40 (0, 0)) (by (with_reducible repeat (first | refine blk_drewN ?_ _ | refine blk_drew ?_ | refine blk_alloc ?_ _)); exact BK524.out) hb); have n1_ := Aside0.mk (below_step (by repeat (first | (with_reducible first | exact HB.out | apply below_alloc | apply pw_below_drewN | apply below_drew1 | refine below_set ?_ GE524.out) | exact HB.out)) hb); have n2_ := Aside0.mk (hbox); have n3_ := Aside0.mk ((by rw [hg]; exact (below_size (by repeat (first | (with_reducible first | exact HB.out | apply below_alloc | apply pw_below_drewN | apply below_drew1 | refine below_set ?_ GE524.out) | exact HB.out))) : w.heap.size ≤ gb525)); have n4_ := Aside0.mk ((by rw [hg]; exact (below_size (by repeat (first | (with_reducible first | exact HB.out | apply below_alloc | apply pw_below_drewN | apply below_drew1 | refine below_set ?_ GE524.out) | exact HB.out))) : w.heap.size ≤ gb525)); have n5_ := Aside0.mk ((by rw [hg]; exact Nat.ne_of_lt (blk_lt (g := gb524) (o := .cells #[.int .i64 0, .int .i64 0, .int .i64 0, .int .i64 0] 40 (0, 0)) (by (with_reducible repeat (first | refine blk_drewN ?_ _ | refine blk_drew ?_ | refine blk_alloc ?_ _)); exact BK524.out)) : gb524 ≠ gb525)); have n6_ := Aside0.mk ((by rw [hg]; exact Nat.ne_of_gt (blk_lt (g := gb524) (o := .cells #[.int .i64 0, .int .i64 0, .int .i64 0, .int .i64 0] 40 (0, 0)) (by (with_reducible repeat (first | refine blk_drewN ?_ _ | refine blk_drew ?_ | refine blk_alloc ?_ _)); exact BK524.out)) : gb525 ≠ gb524)); clear BK524; clear HB; have BK524 := n0_; have HB := n1_; have BK525 := n2_; have GW525 := n3_; have GE525 := n4_; have NB524_525 := n5_; have NB525_524 := n6_; clear n0_ n1_ n2_ n3_ n4_ n5_ n6_; clear hb hbox hg; have hnb9 := NB524_525.out; have hnc9 := NB525_524.out; have hcz10_0 : w8.cell? ⟨gb524, 0, none⟩ = some (.int .i64 0) := (blk_cell BK524.out 0).trans rfl; have hcz10_1 : w8.cell? ⟨gb524, 1, none⟩ = some (.int .i64 0) := (blk_cell BK524.out 1).trans rfl; have hcz10_2 : w8.cell? ⟨gb524, 2, none⟩ = some (.int .i64 0) := (blk_cell BK524.out 2).trans rfl; have hcz10_3 : w8.cell? ⟨gb524, 3, none⟩ = some (.int .i64 0) := (blk_cell BK524.out 3).trans rfl; have hfz10_0 := blk_frozen BK524.out 0; have hfz10_1 := blk_frozen BK524.out 1; have hfz10_2 := blk_frozen BK524.out 2; have hfz10_3 := blk_frozen BK524.out 3; have hcz11_0 : w8.cell? ⟨gb525, 0, none⟩ = some (.int .i64 0) := (blk_cell BK525.out 0).trans rfl; have hcz11_1 : w8.cell? ⟨gb525, 1, none⟩ = some (.int .i64 0) := (blk_cell BK525.out 1).trans rfl; have hfz11_0 := blk_frozen BK525.out 0; have hfz11_1 := blk_frozen BK525.out 1) | ((with_reducible refine gate_callee (f := 24) rfl ?_); refine goesL_ (some 20) rfl rfl Tryd.func24 (by kernel_rfl) rfl #[.agg #[.int .i64 t518, .int .i64 t519, .int .i64 t520, .int .i64 t521], .agg #[.int .i64 t522, .int .i64 t523]] rfl (by (try simp only [List.map_toArray, List.map_cons, List.map_nil]); first | done | rfl | (simp only [List.length_drop, List.length_take]; rfl)) ?_; (with_reducible refine (impl_SegFar.calls t518 t519 t520 t521 t522 t523 t526 t527 _ A4.out).mono ?_); rintro e w12 ⟨rfl, hb⟩; refine ⟨_, rfl, ?_⟩; have n0_ := Aside0.mk (blk_below (g := gb524) (o := .cells #[.int .i64 t518, .int .i64 t519, .int .i64 t520, .int .i64 t521] 40 (0, 0)) (by (with_reducible repeat (first | refine blk_drewN ?_ _ | refine blk_drew ?_ | refine blk_alloc ?_ _)); refine blk_far ?_ NB524_525.out _; (with_reducible repeat (first | refine blk_drewN ?_ _ | refine blk_drew ?_ | refine blk_alloc ?_ _)); refine blk_far ?_ NB524_525.out _; (with_reducible repeat (first | refine blk_drewN ?_ _ | refine blk_drew ?_ | refine blk_alloc ?_ _)); refine blk_put (cs := #[.int .i64 t518, .int .i64 t519, .int .i64 t520, .int .i64 0]) ?_ 3 _ rfl; (with_reducible repeat (first | refine blk_drewN ?_ _ | refine blk_drew ?_ | refine blk_alloc ?_ _)); refine blk_put (cs := #[.int .i64 t518, .int .i64 t519, .int .i64 0, .int .i64 0]) ?_ 2 _ rfl; (with_reducible repeat (first | refine blk_drewN ?_ _ | refine blk_drew ?_ | refine blk_alloc ?_ _)); refine blk_put (cs := #[.int .i64 t518, .int .i64 0, .int .i64 0, .int .i64 0]) ?_ 1 _ rfl; (with_reducible repeat (first | refine blk_drewN ?_ _ | refine blk_drew ?_ | refine blk_alloc ?_ _)); refine blk_put (cs := #[.int .i64 0, .int .i64 0, .int .i64 0, .int .i64 0]) ?_ 0 _ rfl; (with_reducible repeat (first | refine blk_drewN ?_ _ | refine blk_drew ?_ | refine blk_alloc ?_ _)); exact BK524.out) hb); have n1_ := Aside0.mk (blk_below (g := gb525) (o := .cells #[.int .i64 t522, .int .i64 t523] 38 (0, 0)) (by (with_reducible repeat (first | refine blk_drewN ?_ _ | refine blk_drew ?_ | refine blk_alloc ?_ _)); refine blk_put (cs := #[.int .i64 t522, .int .i64 0]) ?_ 1 _ rfl; (with_reducible repeat (first | refine blk_drewN ?_ _ | refine blk_drew ?_ | refine blk_alloc ?_ _)); refine blk_put (cs := #[.int .i64 0, .int .i64 0]) ?_ 0 _ rfl; (with_reducible repeat (first | refine blk_drewN ?_ _ | refine blk_drew ?_ | refine blk_alloc ?_ _)); refine blk_far ?_ NB525_524.out _; (with_reducible repeat (first | refine blk_drewN ?_ _ | refine blk_drew ?_ | refine blk_alloc ?_ _)); refine blk_far ?_ NB525_524.out _; (with_reducible repeat (first | refine blk_drewN ?_ _ | refine blk_drew ?_ | refine blk_alloc ?_ _)); refine blk_far ?_ NB525_524.out _; (with_reducible repeat (first | refine blk_drewN ?_ _ | refine blk_drew ?_ | refine blk_alloc ?_ _)); refine blk_far ?_ NB525_524.out _; (with_reducible repeat (first | refine blk_drewN ?_ _ | refine blk_drew ?_ | refine blk_alloc ?_ _)); exact BK525.out) hb); have n2_ := Aside0.mk (below_step (by repeat (first | (with_reducible first | exact HB.out | apply below_alloc | apply pw_below_drewN | apply below_drew1 | refine below_set ?_ GE524.out | refine below_set ?_ GE525.out) | exact HB.out)) hb); clear BK524; clear BK525; clear HB; have BK524 := n0_; have BK525 := n1_; have HB := n2_; clear n0_ n1_ n2_; (try clear hb); (try clear hb2); (try clear hk); (try clear hi)) | ((with_reducible refine gate_dst (N := 5) rfl ?_); refine box_event ?hg (N := 5) ?hd (cs := #[.int .i64 0, .int .i64 0]) (t := 25) ?hr ?_; (case hd => rfl); (case hg => rfl); (case hr => first | (go_simp; done) | (go_simp; rfl)); intro gb528 hg w13 hbox hb; have n0_ := Aside0.mk (blk_below (g := gb524) (o := .cells #[.int .i64 t518, .int .i64 t519, .int .i64 t520, .int .i64 t521] 40 (0, 0)) (by (with_reducible repeat (first | refine blk_drewN ?_ _ | refine blk_drew ?_ | refine blk_alloc ?_ _)); exact BK524.out) hb); have n1_ := Aside0.mk (blk_below (g := gb525) (o := .cells #[.int .i64 t522, .int .i64 t523] 38 (0, 0)) (by (with_reducible repeat (first | refine blk_drewN ?_ _ | refine blk_drew ?_ | refine blk_alloc ?_ _)); exact BK525.out) hb); have n2_ := Aside0.mk (below_step (by repeat (first | (with_reducible first | exact HB.out | apply below_alloc | apply pw_below_drewN | apply below_drew1 | refine below_set ?_ GE524.out | refine below_set ?_ GE525.out) | exact HB.out)) hb); have n3_ := Aside0.mk (hbox); have n4_ := Aside0.mk ((by rw [hg]; exact (below_size (by repeat (first | (with_reducible first | exact HB.out | apply below_alloc | apply pw_below_drewN | apply below_drew1 | refine below_set ?_ GE524.out | refine below_set ?_ GE525.out) | exact HB.out))) : w.heap.size ≤ gb528)); have n5_ := Aside0.mk ((by rw [hg]; exact (below_size (by repeat (first | (with_reducible first | exact HB.out | apply below_alloc | apply pw_below_drewN | apply below_drew1 | refine below_set ?_ GE524.out | refine below_set ?_ GE525.out) | exact HB.out))) : w.heap.size ≤ gb528)); have n6_ := Aside0.mk ((by rw [hg]; exact Nat.ne_of_lt (blk_lt (g := gb524) (o := .cells #[.int .i64 t518, .int .i64 t519, .int .i64 t520, .int .i64 t521] 40 (0, 0)) (by (with_reducible repeat (first | refine blk_drewN ?_ _ | refine blk_drew ?_ | refine blk_alloc ?_ _)); exact BK524.out)) : gb524 ≠ gb528)); have n7_ := Aside0.mk ((by rw [hg]; exact Nat.ne_of_gt (blk_lt (g := gb524) (o := .cells #[.int .i64 t518, .int .i64 t519, .int .i64 t520, .int .i64 t521] 40 (0, 0)) (by (with_reducible repeat (first | refine blk_drewN ?_ _ | refine blk_drew ?_ | refine blk_alloc ?_ _)); exact BK524.out)) : gb528 ≠ gb524)); have n8_ := Aside0.mk ((by rw [hg]; exact Nat.ne_of_lt (blk_lt (g := gb525) (o := .cells #[.int .i64 t522, .int .i64 t523] 38 (0, 0)) (by (with_reducible repeat (first | refine blk_drewN ?_ _ | refine blk_drew ?_ | refine blk_alloc ?_ _)); exact BK525.out)) : gb525 ≠ gb528)); have n9_ := Aside0.mk ((by rw [hg]; exact Nat.ne_of_gt (blk_lt (g := gb525) (o := .cells #[.int .i64 t522, .int .i64 t523] 38 (0, 0)) (by (with_reducible repeat (first | refine blk_drewN ?_ _ | refine blk_drew ?_ | refine blk_alloc ?_ _)); exact BK525.out)) : gb528 ≠ gb525)); clear BK524; clear BK525; clear HB; have BK524 := n0_; have BK525 := n1_; have HB := n2_; have BK528 := n3_; have GW528 := n4_; have GE528 := n5_; have NB524_528 := n6_; have NB528_524 := n7_; have NB525_528 := n8_; have NB528_525 := n9_; clear n0_ n1_ n2_ n3_ n4_ n5_ n6_ n7_ n8_ n9_; clear hb hbox hg; have hnb14 := NB528_524.out; have hnc14 := NB524_528.out; have hnb15 := NB528_525.out; have hnc15 := NB525_528.out; have hcz16_0 : w13.cell? ⟨gb528, 0, none⟩ = some (.int .i64 0) := (blk_cell BK528.out 0).trans rfl; have hcz16_1 : w13.cell? ⟨gb528, 1, none⟩ = some (.int .i64 0) := (blk_cell BK528.out 1).trans rfl; have hfz16_0 := blk_frozen BK528.out 0; have hfz16_1 := blk_frozen BK528.out 1))
    (try simp only [Act.put, List.setIfInBounds_toArray, List.set_cons_zero, List.set_cons_succ])
    go_cut [35] (fun v35 wc => ∃ (kq : Nat) (x35_4 : Bool), v35 = .bool x35_4 ∧ Aside0 (laws_FnFarEnds.j0 kq x35_4 t518 t519 t520 t521 t522 t523 t526 t527 = some r) ∧ Aside0 (kq ≤ k) ∧ Aside0 (wc.heap[gb524]? = some (.cells #[.int .i64 t518, .int .i64 t519, .int .i64 t520, .int .i64 t521] 40 (0, 0))) ∧ Aside0 (wc.heap[gb525]? = some (.cells #[.int .i64 t522, .int .i64 t523] 38 (0, 0))) ∧ Aside0 (wc.heap[gb528]? = some (.cells #[.int .i64 t526, .int .i64 t527] 25 (0, 0))) ∧ Aside0 (Below w.heap.size w wc))
    case first =>
      have H := HC5.out
      clear HC5
      replace H := Option.bind_eq_some_iff.mp H
      obtain ⟨⟨t529, t530⟩, A170, H⟩ := H
      replace H : (if (!(t526 == t529) || (!(t527 == t530))) = true then (laws_FnFarEnds.j0 k true t518 t519 t520 t521 t522 t523 t526 t527) else ((spec_SegOk.f t518 t519 t520 t521).bind fun t531 => (if t531 = true then ((spec_PtOk.f t522 t523).bind fun t532 => (laws_FnFarEnds.j0 k (!t532) t518 t519 t520 t521 t522 t523 t526 t527)) else (laws_FnFarEnds.j0 k true t518 t519 t520 t521 t522 t523 t526 t527)))) = some r := H
      have A17 := Aside0.mk A170
      clear A170
      by_cases c18 : (!(t526 == t529) || (!(t527 == t530))) = true
      · rw [if_pos c18] at H
        have c18b0 : (!(t526 == t529) || (!(t527 == t530))) = true := c18
        clear c18
        (first | rw [c18b0] | (simp only [i64_w, i32_w]; rw [c18b0]) | skip)
        have H' := Aside0.mk H
        clear H
        try go_wp2
        have n0_ : Aside0 (((w13.setCell ⟨gb528, 0, none⟩ (.int .i64 t526)).setCell ⟨gb528, 1, none⟩ (.int .i64 t527)).heap[gb524]? = some (.cells #[.int .i64 t518, .int .i64 t519, .int .i64 t520, .int .i64 t521] 40 (0, 0))) := ⟨by (with_reducible repeat (first | refine blk_drewN ?_ _ | refine blk_drew ?_ | refine blk_alloc ?_ _)); refine blk_far ?_ NB524_528.out _; (with_reducible repeat (first | refine blk_drewN ?_ _ | refine blk_drew ?_ | refine blk_alloc ?_ _)); refine blk_far ?_ NB524_528.out _; (with_reducible repeat (first | refine blk_drewN ?_ _ | refine blk_drew ?_ | refine blk_alloc ?_ _)); exact BK524.out⟩
        have n1_ : Aside0 (((w13.setCell ⟨gb528, 0, none⟩ (.int .i64 t526)).setCell ⟨gb528, 1, none⟩ (.int .i64 t527)).heap[gb525]? = some (.cells #[.int .i64 t522, .int .i64 t523] 38 (0, 0))) := ⟨by (with_reducible repeat (first | refine blk_drewN ?_ _ | refine blk_drew ?_ | refine blk_alloc ?_ _)); refine blk_far ?_ NB525_528.out _; (with_reducible repeat (first | refine blk_drewN ?_ _ | refine blk_drew ?_ | refine blk_alloc ?_ _)); refine blk_far ?_ NB525_528.out _; (with_reducible repeat (first | refine blk_drewN ?_ _ | refine blk_drew ?_ | refine blk_alloc ?_ _)); exact BK525.out⟩
        have n2_ : Aside0 (((w13.setCell ⟨gb528, 0, none⟩ (.int .i64 t526)).setCell ⟨gb528, 1, none⟩ (.int .i64 t527)).heap[gb528]? = some (.cells #[.int .i64 t526, .int .i64 t527] 25 (0, 0))) := ⟨by (with_reducible repeat (first | refine blk_drewN ?_ _ | refine blk_drew ?_ | refine blk_alloc ?_ _)); refine blk_put (cs := #[.int .i64 t526, .int .i64 0]) ?_ 1 _ rfl; (with_reducible repeat (first | refine blk_drewN ?_ _ | refine blk_drew ?_ | refine blk_alloc ?_ _)); refine blk_put (cs := #[.int .i64 0, .int .i64 0]) ?_ 0 _ rfl; (with_reducible repeat (first | refine blk_drewN ?_ _ | refine blk_drew ?_ | refine blk_alloc ?_ _)); exact BK528.out⟩
        have n3_ : Aside0 (Below w.heap.size w ((w13.setCell ⟨gb528, 0, none⟩ (.int .i64 t526)).setCell ⟨gb528, 1, none⟩ (.int .i64 t527))) := ⟨by repeat (first | (with_reducible first | exact HB.out | apply below_alloc | apply pw_below_drewN | apply below_drew1 | refine below_set ?_ GE524.out | refine below_set ?_ GE525.out | refine below_set ?_ GE528.out) | exact HB.out)⟩
        (try clear BK524)
        (try clear BK525)
        (try clear BK528)
        (try clear HB)
        generalize ((w13.setCell ⟨gb528, 0, none⟩ (.int .i64 t526)).setCell ⟨gb528, 1, none⟩ (.int .i64 t527)) = w19 at n0_ n1_ n2_ n3_ ⊢
        have BK524 := n0_
        have BK525 := n1_
        have BK528 := n2_
        have HB := n3_
        clear n0_ n1_ n2_ n3_
        have n0_ := Aside0.mk (blk_drew BK524.out)
        have n1_ := Aside0.mk (blk_drew BK525.out)
        have n2_ := Aside0.mk (blk_drew BK528.out)
        have n3_ := Aside0.mk (below_drew1 HB.out)
        clear BK524
        clear BK525
        clear BK528
        clear HB
        have BK524 := n0_
        have BK525 := n1_
        have BK528 := n2_
        have HB := n3_
        clear n0_ n1_ n2_ n3_
        refine start_ (n := 15) (S := fun w' => w'.cell? ⟨gb528, 0, none⟩ = some (.int .i64 t526) ∧ w'.cell? ⟨gb528, 1, none⟩ = some (.int .i64 t527) ∧ w'.cell? ⟨gb524, 0, none⟩ = some (.int .i64 t518) ∧ w'.cell? ⟨gb524, 1, none⟩ = some (.int .i64 t519) ∧ w'.cell? ⟨gb524, 2, none⟩ = some (.int .i64 t520) ∧ w'.cell? ⟨gb524, 3, none⟩ = some (.int .i64 t521) ∧ w'.cell? ⟨gb525, 0, none⟩ = some (.int .i64 t522) ∧ w'.cell? ⟨gb525, 1, none⟩ = some (.int .i64 t523)) (ds := []) #[false, false, false, false, false, false, false, false, false, false, false, false, false, false, false] (by kernel_rfl) rfl rfl ⟨(blk_cell BK528.out 0).trans rfl, (blk_cell BK528.out 1).trans rfl, (blk_cell BK524.out 0).trans rfl, (blk_cell BK524.out 1).trans rfl, (blk_cell BK524.out 2).trans rfl, (blk_cell BK524.out 3).trans rfl, (blk_cell BK525.out 0).trans rfl, (blk_cell BK525.out 1).trans rfl⟩ (fun hHeld => ?_); refine with_tabW laws_FnFarEnds.tab5 laws_FnFarEnds.bits5 (fun HT_ HW_ => ?_)
        generalize w19.drew = w20 at BK524 BK525 BK528 HB hHeld ⊢
        refine take_ (i := 0) (N := some 21) (v := ?_) (a' := ?_) #[true, false, false, false, false, false, false, false, false, false, false, false, false, false, false] rfl rfl (take_ofW HT_.out HW_.out (by kernel_rfl)) (fun _ _ _ h => h) (Or.inl ⟨by rfl, ?_⟩) hHeld ?_ ?_
        rotate_left
        · rintro w' ⟨s0, s1, s2, s3, s4, s5, s6, s7⟩
          go_simp
          with_reducible rfl
        rotate_left
        · simp only [Act.put, List.setIfInBounds_toArray, List.set_cons_zero, List.set_cons_succ, i64_w, i32_w]
          rfl
        refine take_ (i := 1) (N := some 22) (v := ?_) (a' := ?_) #[true, true, false, false, false, false, false, false, false, false, false, false, false, false, false] rfl rfl (take_ofW HT_.out HW_.out (by kernel_rfl)) (fun _ _ _ h => h) (Or.inl ⟨by rfl, ?_⟩) hHeld ?_ ?_
        rotate_left
        · rintro w' ⟨s0, s1, s2, s3, s4, s5, s6, s7⟩
          go_simp
          with_reducible rfl
        rotate_left
        · simp only [Act.put, List.setIfInBounds_toArray, List.set_cons_zero, List.set_cons_succ, i64_w, i32_w]
          rfl
        refine take_ (i := 2) (N := some 23) (v := ?_) (a' := ?_) #[true, true, true, false, false, false, false, false, false, false, false, false, false, false, false] rfl rfl (take_ofW HT_.out HW_.out (by kernel_rfl)) (fun _ _ _ h => h) (Or.inl ⟨by rfl, ?_⟩) hHeld ?_ ?_
        rotate_left
        · rintro w' ⟨s0, s1, s2, s3, s4, s5, s6, s7⟩
          go_simp
          with_reducible rfl
        rotate_left
        · simp only [Act.put, List.setIfInBounds_toArray, List.set_cons_zero, List.set_cons_succ, i64_w, i32_w]
          rfl
        refine one_ (i := 3) (N := some 24) #[true, true, true, true, false, false, false, false, false, false, false, false, false, false, false] rfl rfl (one_of HT_.out (by kernel_rfl)) (by decide) (fun K hK => ?_)
        refine goes_ Tryd.func25 (by kernel_rfl) rfl #[.agg #[.int .i64 t518, .int .i64 t519, .int .i64 t520, .int .i64 t521], .agg #[.int .i64 t522, .int .i64 t523]] (by rfl) rfl rfl (by (try simp only [List.map_toArray, List.map_cons, List.map_nil]); first | done | rfl | (simp only [List.length_drop, List.length_take]; rfl)) ?_
        with_reducible refine (spec_SegFar.calls k t518 t519 t520 t521 t522 t523 t529 t530 _ A17.out).mono ?_
        rintro e w21 ⟨rfl, hb⟩
        refine ⟨_, rfl, ?_⟩
        have n0_ := Aside0.mk (blk_below (g := gb524) (o := .cells #[.int .i64 t518, .int .i64 t519, .int .i64 t520, .int .i64 t521] 40 (0, 0)) (by (with_reducible repeat (first | refine blk_drewN ?_ _ | refine blk_drew ?_ | refine blk_alloc ?_ _)); exact BK524.out) hb)
        have n1_ := Aside0.mk (blk_below (g := gb525) (o := .cells #[.int .i64 t522, .int .i64 t523] 38 (0, 0)) (by (with_reducible repeat (first | refine blk_drewN ?_ _ | refine blk_drew ?_ | refine blk_alloc ?_ _)); exact BK525.out) hb)
        have n2_ := Aside0.mk (blk_below (g := gb528) (o := .cells #[.int .i64 t526, .int .i64 t527] 25 (0, 0)) (by (with_reducible repeat (first | refine blk_drewN ?_ _ | refine blk_drew ?_ | refine blk_alloc ?_ _)); exact BK528.out) hb)
        have n3_ := Aside0.mk (below_step (by repeat (first | (with_reducible first | exact HB.out | apply below_alloc | apply pw_below_drewN | apply below_drew1 | refine below_set ?_ GE524.out | refine below_set ?_ GE525.out | refine below_set ?_ GE528.out) | exact HB.out)) hb)
        clear BK524
        clear BK525
        clear BK528
        clear HB
        have BK524 := n0_
        have BK525 := n1_
        have BK528 := n2_
        have HB := n3_
        clear n0_ n1_ n2_ n3_
        (try clear hb)
        (try clear hb2)
        (try clear hk)
        (try clear hi)
        refine hK.out _ _ ⟨(blk_cell BK528.out 0).trans rfl, (blk_cell BK528.out 1).trans rfl, (blk_cell BK524.out 0).trans rfl, (blk_cell BK524.out 1).trans rfl, (blk_cell BK524.out 2).trans rfl, (blk_cell BK524.out 3).trans rfl, (blk_cell BK525.out 0).trans rfl, (blk_cell BK525.out 1).trans rfl⟩ (fun hHeld => ?_)
        clear hK K
        refine norm_ (a' := ?_) ?_ ?_
        rotate_left
        · show Act.put _ (some 24) _ = _
          simp only [Act.put, List.setIfInBounds_toArray, List.set_cons_zero, List.set_cons_succ, i64_w, i32_w]
          rfl
        refine pure_ (i := 4) (N := some 25) (v := ?_) (a' := ?_) #[true, true, true, true, true, false, false, false, false, false, false, false, false, false, false] rfl rfl (any_of HT_.out (by kernel_rfl)) (fun _ _ _ h => h) (Or.inl ⟨by rfl, ?_⟩) ?_ ?_
        rotate_left
        · intro w'
          go_simp
          with_reducible rfl
        rotate_left
        · simp only [Act.put, List.setIfInBounds_toArray, List.set_cons_zero, List.set_cons_succ, i64_w, i32_w]
          rfl
        refine pure_ (i := 5) (N := some 26) (v := ?_) (a' := ?_) #[true, true, true, true, true, true, false, false, false, false, false, false, false, false, false] rfl rfl (any_of HT_.out (by kernel_rfl)) (fun _ _ _ h => h) (Or.inl ⟨by rfl, ?_⟩) ?_ ?_
        rotate_left
        · intro w'
          go_simp
          with_reducible rfl
        rotate_left
        · simp only [Act.put, List.setIfInBounds_toArray, List.set_cons_zero, List.set_cons_succ, i64_w, i32_w]
          rfl
        refine pure_ (i := 6) (N := some 27) (v := undef) (a' := ?_) #[true, true, true, true, true, true, true, false, false, false, false, false, false, false, false] rfl rfl (any_of HT_.out (by kernel_rfl)) (fun _ _ _ h => h) (Or.inr ⟨by rfl, rfl⟩) ?_ ?_
        rotate_left
        · simp only [Act.put, List.setIfInBounds_toArray, List.set_cons_zero, List.set_cons_succ, i64_w, i32_w]
          rfl
        refine pure_ (i := 7) (N := some 28) (v := undef) (a' := ?_) #[true, true, true, true, true, true, true, true, false, false, false, false, false, false, false] rfl rfl (any_of HT_.out (by kernel_rfl)) (fun _ _ _ h => h) (Or.inr ⟨by rfl, rfl⟩) ?_ ?_
        rotate_left
        · simp only [Act.put, List.setIfInBounds_toArray, List.set_cons_zero, List.set_cons_succ, i64_w, i32_w]
          rfl
        refine pure_ (i := 8) (N := some 29) (v := undef) (a' := ?_) #[true, true, true, true, true, true, true, true, true, false, false, false, false, false, false] rfl rfl (any_of HT_.out (by kernel_rfl)) (fun _ _ _ h => h) (Or.inr ⟨by rfl, rfl⟩) ?_ ?_
        rotate_left
        · simp only [Act.put, List.setIfInBounds_toArray, List.set_cons_zero, List.set_cons_succ, i64_w, i32_w]
          rfl
        refine pure_ (i := 9) (N := some 30) (v := ?_) (a' := ?_) #[true, true, true, true, true, true, true, true, true, true, false, false, false, false, false] rfl rfl (any_of HT_.out (by kernel_rfl)) (fun _ _ _ h => h) (Or.inl ⟨by rfl, ?_⟩) ?_ ?_
        rotate_left
        · intro w'
          go_simp
          with_reducible rfl
        rotate_left
        · simp only [Act.put, List.setIfInBounds_toArray, List.set_cons_zero, List.set_cons_succ, i64_w, i32_w]
          rfl
        refine pure_ (i := 10) (N := some 31) (v := ?_) (a' := ?_) #[true, true, true, true, true, true, true, true, true, true, true, false, false, false, false] rfl rfl (any_of HT_.out (by kernel_rfl)) (fun _ _ _ h => h) (Or.inl ⟨by rfl, ?_⟩) ?_ ?_
        rotate_left
        · intro w'
          go_simp
          with_reducible rfl
        rotate_left
        · simp only [Act.put, List.setIfInBounds_toArray, List.set_cons_zero, List.set_cons_succ, i64_w, i32_w]
          rfl
        refine pure_ (i := 11) (N := some 32) (v := undef) (a' := ?_) #[true, true, true, true, true, true, true, true, true, true, true, true, false, false, false] rfl rfl (any_of HT_.out (by kernel_rfl)) (fun _ _ _ h => h) (Or.inr ⟨by rfl, rfl⟩) ?_ ?_
        rotate_left
        · simp only [Act.put, List.setIfInBounds_toArray, List.set_cons_zero, List.set_cons_succ, i64_w, i32_w]
          rfl
        refine pure_ (i := 12) (N := some 33) (v := undef) (a' := ?_) #[true, true, true, true, true, true, true, true, true, true, true, true, true, false, false] rfl rfl (any_of HT_.out (by kernel_rfl)) (fun _ _ _ h => h) (Or.inr ⟨by rfl, rfl⟩) ?_ ?_
        rotate_left
        · simp only [Act.put, List.setIfInBounds_toArray, List.set_cons_zero, List.set_cons_succ, i64_w, i32_w]
          rfl
        refine pure_ (i := 13) (N := some 34) (v := undef) (a' := ?_) #[true, true, true, true, true, true, true, true, true, true, true, true, true, true, false] rfl rfl (any_of HT_.out (by kernel_rfl)) (fun _ _ _ h => h) (Or.inr ⟨by rfl, rfl⟩) ?_ ?_
        rotate_left
        · simp only [Act.put, List.setIfInBounds_toArray, List.set_cons_zero, List.set_cons_succ, i64_w, i32_w]
          rfl
        refine pure_ (i := 14) (N := some 35) (v := ?_) (a' := ?_) #[true, true, true, true, true, true, true, true, true, true, true, true, true, true, true] rfl rfl (any_of HT_.out (by kernel_rfl)) (fun _ _ _ h => h) (Or.inl ⟨by rfl, ?_⟩) ?_ ?_
        rotate_left
        · intro w'
          go_simp
          with_reducible rfl
        rotate_left
        · simp only [Act.put, List.setIfInBounds_toArray, List.set_cons_zero, List.set_cons_succ, i64_w, i32_w]
          rfl
        refine done_ (done_of HT_.out (by kernel_rfl)) ?_
        try go_wp2
        go_meet
        case rel => exact ⟨_, (true), (by first | rfl | (simp; done) | (simp [*]; done)), H', ⟨by first | omega | exact Nat.le_refl _⟩, ⟨by (with_reducible repeat (first | refine blk_drewN ?_ _ | refine blk_drew ?_ | refine blk_alloc ?_ _)); exact BK524.out⟩, ⟨by (with_reducible repeat (first | refine blk_drewN ?_ _ | refine blk_drew ?_ | refine blk_alloc ?_ _)); exact BK525.out⟩, ⟨by (with_reducible repeat (first | refine blk_drewN ?_ _ | refine blk_drew ?_ | refine blk_alloc ?_ _)); exact BK528.out⟩, ⟨by repeat (first | (with_reducible first | exact HB.out | apply below_alloc | apply pw_below_drewN | apply below_drew1 | refine below_set ?_ GE524.out | refine below_set ?_ GE525.out | refine below_set ?_ GE528.out) | exact HB.out)⟩⟩
      · rw [if_neg c18] at H
        have c18b0 : (!(t526 == t529) || (!(t527 == t530))) = false := by simpa using c18
        clear c18
        (first | rw [c18b0] | (simp only [i64_w, i32_w]; rw [c18b0]) | skip)
        replace H := Option.bind_eq_some_iff.mp H
        obtain ⟨t531, A220, H⟩ := H
        replace H : (if t531 = true then ((spec_PtOk.f t522 t523).bind fun t532 => (laws_FnFarEnds.j0 k (!t532) t518 t519 t520 t521 t522 t523 t526 t527)) else (laws_FnFarEnds.j0 k true t518 t519 t520 t521 t522 t523 t526 t527)) = some r := H
        have A22 := Aside0.mk A220
        clear A220
        by_cases c23 : t531 = true
        · subst c23
          have H1 : ((spec_PtOk.f t522 t523).bind fun t532 => (laws_FnFarEnds.j0 k (!t532) t518 t519 t520 t521 t522 t523 t526 t527)) = some r := by rw [if_pos rfl] at H; exact H
          clear H
          have H := H1
          clear H1
          replace H := Option.bind_eq_some_iff.mp H
          obtain ⟨t532, A240, H⟩ := H
          replace H : (laws_FnFarEnds.j0 k (!t532) t518 t519 t520 t521 t522 t523 t526 t527) = some r := H
          have A24 := Aside0.mk A240
          clear A240
          have H' := Aside0.mk H
          clear H
          try go_wp2
          have n0_ : Aside0 (((w13.setCell ⟨gb528, 0, none⟩ (.int .i64 t526)).setCell ⟨gb528, 1, none⟩ (.int .i64 t527)).heap[gb524]? = some (.cells #[.int .i64 t518, .int .i64 t519, .int .i64 t520, .int .i64 t521] 40 (0, 0))) := ⟨by (with_reducible repeat (first | refine blk_drewN ?_ _ | refine blk_drew ?_ | refine blk_alloc ?_ _)); refine blk_far ?_ NB524_528.out _; (with_reducible repeat (first | refine blk_drewN ?_ _ | refine blk_drew ?_ | refine blk_alloc ?_ _)); refine blk_far ?_ NB524_528.out _; (with_reducible repeat (first | refine blk_drewN ?_ _ | refine blk_drew ?_ | refine blk_alloc ?_ _)); exact BK524.out⟩
          have n1_ : Aside0 (((w13.setCell ⟨gb528, 0, none⟩ (.int .i64 t526)).setCell ⟨gb528, 1, none⟩ (.int .i64 t527)).heap[gb525]? = some (.cells #[.int .i64 t522, .int .i64 t523] 38 (0, 0))) := ⟨by (with_reducible repeat (first | refine blk_drewN ?_ _ | refine blk_drew ?_ | refine blk_alloc ?_ _)); refine blk_far ?_ NB525_528.out _; (with_reducible repeat (first | refine blk_drewN ?_ _ | refine blk_drew ?_ | refine blk_alloc ?_ _)); refine blk_far ?_ NB525_528.out _; (with_reducible repeat (first | refine blk_drewN ?_ _ | refine blk_drew ?_ | refine blk_alloc ?_ _)); exact BK525.out⟩
          have n2_ : Aside0 (((w13.setCell ⟨gb528, 0, none⟩ (.int .i64 t526)).setCell ⟨gb528, 1, none⟩ (.int .i64 t527)).heap[gb528]? = some (.cells #[.int .i64 t526, .int .i64 t527] 25 (0, 0))) := ⟨by (with_reducible repeat (first | refine blk_drewN ?_ _ | refine blk_drew ?_ | refine blk_alloc ?_ _)); refine blk_put (cs := #[.int .i64 t526, .int .i64 0]) ?_ 1 _ rfl; (with_reducible repeat (first | refine blk_drewN ?_ _ | refine blk_drew ?_ | refine blk_alloc ?_ _)); refine blk_put (cs := #[.int .i64 0, .int .i64 0]) ?_ 0 _ rfl; (with_reducible repeat (first | refine blk_drewN ?_ _ | refine blk_drew ?_ | refine blk_alloc ?_ _)); exact BK528.out⟩
          have n3_ : Aside0 (Below w.heap.size w ((w13.setCell ⟨gb528, 0, none⟩ (.int .i64 t526)).setCell ⟨gb528, 1, none⟩ (.int .i64 t527))) := ⟨by repeat (first | (with_reducible first | exact HB.out | apply below_alloc | apply pw_below_drewN | apply below_drew1 | refine below_set ?_ GE524.out | refine below_set ?_ GE525.out | refine below_set ?_ GE528.out) | exact HB.out)⟩
          (try clear BK524)
          (try clear BK525)
          (try clear BK528)
          (try clear HB)
          generalize ((w13.setCell ⟨gb528, 0, none⟩ (.int .i64 t526)).setCell ⟨gb528, 1, none⟩ (.int .i64 t527)) = w25 at n0_ n1_ n2_ n3_ ⊢
          have BK524 := n0_
          have BK525 := n1_
          have BK528 := n2_
          have HB := n3_
          clear n0_ n1_ n2_ n3_
          have n0_ := Aside0.mk (blk_drew BK524.out)
          have n1_ := Aside0.mk (blk_drew BK525.out)
          have n2_ := Aside0.mk (blk_drew BK528.out)
          have n3_ := Aside0.mk (below_drew1 HB.out)
          clear BK524
          clear BK525
          clear BK528
          clear HB
          have BK524 := n0_
          have BK525 := n1_
          have BK528 := n2_
          have HB := n3_
          clear n0_ n1_ n2_ n3_
          refine start_ (n := 15) (S := fun w' => w'.cell? ⟨gb528, 0, none⟩ = some (.int .i64 t526) ∧ w'.cell? ⟨gb528, 1, none⟩ = some (.int .i64 t527) ∧ w'.cell? ⟨gb524, 0, none⟩ = some (.int .i64 t518) ∧ w'.cell? ⟨gb524, 1, none⟩ = some (.int .i64 t519) ∧ w'.cell? ⟨gb524, 2, none⟩ = some (.int .i64 t520) ∧ w'.cell? ⟨gb524, 3, none⟩ = some (.int .i64 t521) ∧ w'.cell? ⟨gb525, 0, none⟩ = some (.int .i64 t522) ∧ w'.cell? ⟨gb525, 1, none⟩ = some (.int .i64 t523)) (ds := []) #[false, false, false, false, false, false, false, false, false, false, false, false, false, false, false] (by kernel_rfl) rfl rfl ⟨(blk_cell BK528.out 0).trans rfl, (blk_cell BK528.out 1).trans rfl, (blk_cell BK524.out 0).trans rfl, (blk_cell BK524.out 1).trans rfl, (blk_cell BK524.out 2).trans rfl, (blk_cell BK524.out 3).trans rfl, (blk_cell BK525.out 0).trans rfl, (blk_cell BK525.out 1).trans rfl⟩ (fun hHeld => ?_); refine with_tabW laws_FnFarEnds.tab5 laws_FnFarEnds.bits5 (fun HT_ HW_ => ?_)
          generalize w25.drew = w26 at BK524 BK525 BK528 HB hHeld ⊢
          refine take_ (i := 0) (N := some 21) (v := ?_) (a' := ?_) #[true, false, false, false, false, false, false, false, false, false, false, false, false, false, false] rfl rfl (take_ofW HT_.out HW_.out (by kernel_rfl)) (fun _ _ _ h => h) (Or.inl ⟨by rfl, ?_⟩) hHeld ?_ ?_
          rotate_left
          · rintro w' ⟨s0, s1, s2, s3, s4, s5, s6, s7⟩
            go_simp
            with_reducible rfl
          rotate_left
          · simp only [Act.put, List.setIfInBounds_toArray, List.set_cons_zero, List.set_cons_succ, i64_w, i32_w]
            rfl
          refine take_ (i := 1) (N := some 22) (v := ?_) (a' := ?_) #[true, true, false, false, false, false, false, false, false, false, false, false, false, false, false] rfl rfl (take_ofW HT_.out HW_.out (by kernel_rfl)) (fun _ _ _ h => h) (Or.inl ⟨by rfl, ?_⟩) hHeld ?_ ?_
          rotate_left
          · rintro w' ⟨s0, s1, s2, s3, s4, s5, s6, s7⟩
            go_simp
            with_reducible rfl
          rotate_left
          · simp only [Act.put, List.setIfInBounds_toArray, List.set_cons_zero, List.set_cons_succ, i64_w, i32_w]
            rfl
          refine take_ (i := 2) (N := some 23) (v := ?_) (a' := ?_) #[true, true, true, false, false, false, false, false, false, false, false, false, false, false, false] rfl rfl (take_ofW HT_.out HW_.out (by kernel_rfl)) (fun _ _ _ h => h) (Or.inl ⟨by rfl, ?_⟩) hHeld ?_ ?_
          rotate_left
          · rintro w' ⟨s0, s1, s2, s3, s4, s5, s6, s7⟩
            go_simp
            with_reducible rfl
          rotate_left
          · simp only [Act.put, List.setIfInBounds_toArray, List.set_cons_zero, List.set_cons_succ, i64_w, i32_w]
            rfl
          refine one_ (i := 3) (N := some 24) #[true, true, true, true, false, false, false, false, false, false, false, false, false, false, false] rfl rfl (one_of HT_.out (by kernel_rfl)) (by decide) (fun K hK => ?_)
          refine goes_ Tryd.func25 (by kernel_rfl) rfl #[.agg #[.int .i64 t518, .int .i64 t519, .int .i64 t520, .int .i64 t521], .agg #[.int .i64 t522, .int .i64 t523]] (by rfl) rfl rfl (by (try simp only [List.map_toArray, List.map_cons, List.map_nil]); first | done | rfl | (simp only [List.length_drop, List.length_take]; rfl)) ?_
          with_reducible refine (spec_SegFar.calls k t518 t519 t520 t521 t522 t523 t529 t530 _ A17.out).mono ?_
          rintro e w27 ⟨rfl, hb⟩
          refine ⟨_, rfl, ?_⟩
          have n0_ := Aside0.mk (blk_below (g := gb524) (o := .cells #[.int .i64 t518, .int .i64 t519, .int .i64 t520, .int .i64 t521] 40 (0, 0)) (by (with_reducible repeat (first | refine blk_drewN ?_ _ | refine blk_drew ?_ | refine blk_alloc ?_ _)); exact BK524.out) hb)
          have n1_ := Aside0.mk (blk_below (g := gb525) (o := .cells #[.int .i64 t522, .int .i64 t523] 38 (0, 0)) (by (with_reducible repeat (first | refine blk_drewN ?_ _ | refine blk_drew ?_ | refine blk_alloc ?_ _)); exact BK525.out) hb)
          have n2_ := Aside0.mk (blk_below (g := gb528) (o := .cells #[.int .i64 t526, .int .i64 t527] 25 (0, 0)) (by (with_reducible repeat (first | refine blk_drewN ?_ _ | refine blk_drew ?_ | refine blk_alloc ?_ _)); exact BK528.out) hb)
          have n3_ := Aside0.mk (below_step (by repeat (first | (with_reducible first | exact HB.out | apply below_alloc | apply pw_below_drewN | apply below_drew1 | refine below_set ?_ GE524.out | refine below_set ?_ GE525.out | refine below_set ?_ GE528.out) | exact HB.out)) hb)
          clear BK524
          clear BK525
          clear BK528
          clear HB
          have BK524 := n0_
          have BK525 := n1_
          have BK528 := n2_
          have HB := n3_
          clear n0_ n1_ n2_ n3_
          (try clear hb)
          (try clear hb2)
          (try clear hk)
          (try clear hi)
          refine hK.out _ _ ⟨(blk_cell BK528.out 0).trans rfl, (blk_cell BK528.out 1).trans rfl, (blk_cell BK524.out 0).trans rfl, (blk_cell BK524.out 1).trans rfl, (blk_cell BK524.out 2).trans rfl, (blk_cell BK524.out 3).trans rfl, (blk_cell BK525.out 0).trans rfl, (blk_cell BK525.out 1).trans rfl⟩ (fun hHeld => ?_)
          clear hK K
          refine norm_ (a' := ?_) ?_ ?_
          rotate_left
          · show Act.put _ (some 24) _ = _
            simp only [Act.put, List.setIfInBounds_toArray, List.set_cons_zero, List.set_cons_succ, i64_w, i32_w]
            rfl
          refine pure_ (i := 4) (N := some 25) (v := ?_) (a' := ?_) #[true, true, true, true, true, false, false, false, false, false, false, false, false, false, false] rfl rfl (any_of HT_.out (by kernel_rfl)) (fun _ _ _ h => h) (Or.inl ⟨by rfl, ?_⟩) ?_ ?_
          rotate_left
          · intro w'
            go_simp
            with_reducible rfl
          rotate_left
          · simp only [Act.put, List.setIfInBounds_toArray, List.set_cons_zero, List.set_cons_succ, i64_w, i32_w]
            rfl
          refine pure_ (i := 5) (N := some 26) (v := ?_) (a' := ?_) #[true, true, true, true, true, true, false, false, false, false, false, false, false, false, false] rfl rfl (any_of HT_.out (by kernel_rfl)) (fun _ _ _ h => h) (Or.inl ⟨by rfl, ?_⟩) ?_ ?_
          rotate_left
          · intro w'
            go_simp
            with_reducible rfl
          rotate_left
          · simp only [Act.put, List.setIfInBounds_toArray, List.set_cons_zero, List.set_cons_succ, i64_w, i32_w]
            rfl
          refine take_ (i := 6) (N := some 27) (v := ?_) (a' := ?_) #[true, true, true, true, true, true, true, false, false, false, false, false, false, false, false] rfl rfl (take_ofW HT_.out HW_.out (by kernel_rfl)) (fun _ _ _ h => h) (Or.inl ⟨by rfl, ?_⟩) hHeld ?_ ?_
          rotate_left
          · rintro w' ⟨s0, s1, s2, s3, s4, s5, s6, s7⟩
            go_simp
            with_reducible rfl
          rotate_left
          · simp only [Act.put, List.setIfInBounds_toArray, List.set_cons_zero, List.set_cons_succ, i64_w, i32_w]
            rfl
          refine one_ (i := 7) (N := some 28) #[true, true, true, true, true, true, true, true, false, false, false, false, false, false, false] rfl rfl (one_of HT_.out (by kernel_rfl)) (by decide) (fun K hK => ?_)
          refine goes_ Tryd.func26 (by kernel_rfl) rfl #[.agg #[.int .i64 t518, .int .i64 t519, .int .i64 t520, .int .i64 t521]] (by rfl) rfl rfl (by (try simp only [List.map_toArray, List.map_cons, List.map_nil]); first | done | rfl | (simp only [List.length_drop, List.length_take]; rfl)) ?_
          with_reducible refine (spec_SegOk.calls t518 t519 t520 t521 true _ A22.out).mono ?_
          rintro e w28 ⟨rfl, hb⟩
          refine ⟨_, rfl, ?_⟩
          have n0_ := Aside0.mk (blk_below (g := gb524) (o := .cells #[.int .i64 t518, .int .i64 t519, .int .i64 t520, .int .i64 t521] 40 (0, 0)) (by (with_reducible repeat (first | refine blk_drewN ?_ _ | refine blk_drew ?_ | refine blk_alloc ?_ _)); exact BK524.out) hb)
          have n1_ := Aside0.mk (blk_below (g := gb525) (o := .cells #[.int .i64 t522, .int .i64 t523] 38 (0, 0)) (by (with_reducible repeat (first | refine blk_drewN ?_ _ | refine blk_drew ?_ | refine blk_alloc ?_ _)); exact BK525.out) hb)
          have n2_ := Aside0.mk (blk_below (g := gb528) (o := .cells #[.int .i64 t526, .int .i64 t527] 25 (0, 0)) (by (with_reducible repeat (first | refine blk_drewN ?_ _ | refine blk_drew ?_ | refine blk_alloc ?_ _)); exact BK528.out) hb)
          have n3_ := Aside0.mk (below_step (by repeat (first | (with_reducible first | exact HB.out | apply below_alloc | apply pw_below_drewN | apply below_drew1 | refine below_set ?_ GE524.out | refine below_set ?_ GE525.out | refine below_set ?_ GE528.out) | exact HB.out)) hb)
          clear BK524
          clear BK525
          clear BK528
          clear HB
          have BK524 := n0_
          have BK525 := n1_
          have BK528 := n2_
          have HB := n3_
          clear n0_ n1_ n2_ n3_
          (try clear hb)
          (try clear hb2)
          (try clear hk)
          (try clear hi)
          refine hK.out _ _ ⟨(blk_cell BK528.out 0).trans rfl, (blk_cell BK528.out 1).trans rfl, (blk_cell BK524.out 0).trans rfl, (blk_cell BK524.out 1).trans rfl, (blk_cell BK524.out 2).trans rfl, (blk_cell BK524.out 3).trans rfl, (blk_cell BK525.out 0).trans rfl, (blk_cell BK525.out 1).trans rfl⟩ (fun hHeld => ?_)
          clear hK K
          refine norm_ (a' := ?_) ?_ ?_
          rotate_left
          · show Act.put _ (some 28) _ = _
            simp only [Act.put, List.setIfInBounds_toArray, List.set_cons_zero, List.set_cons_succ, i64_w, i32_w]
            rfl
          refine pure_ (i := 8) (N := some 29) (v := ?_) (a' := ?_) #[true, true, true, true, true, true, true, true, true, false, false, false, false, false, false] rfl rfl (any_of HT_.out (by kernel_rfl)) (fun _ _ _ h => h) (Or.inl ⟨by rfl, ?_⟩) ?_ ?_
          rotate_left
          · intro w'
            go_simp
            with_reducible rfl
          rotate_left
          · simp only [Act.put, List.setIfInBounds_toArray, List.set_cons_zero, List.set_cons_succ, i64_w, i32_w]
            rfl
          refine pure_ (i := 9) (N := some 30) (v := ?_) (a' := ?_) #[true, true, true, true, true, true, true, true, true, true, false, false, false, false, false] rfl rfl (any_of HT_.out (by kernel_rfl)) (fun _ _ _ h => h) (Or.inl ⟨by rfl, ?_⟩) ?_ ?_
          rotate_left
          · intro w'
            go_simp
            with_reducible rfl
          rotate_left
          · simp only [Act.put, List.setIfInBounds_toArray, List.set_cons_zero, List.set_cons_succ, i64_w, i32_w]
            rfl
          refine pure_ (i := 10) (N := some 31) (v := ?_) (a' := ?_) #[true, true, true, true, true, true, true, true, true, true, true, false, false, false, false] rfl rfl (any_of HT_.out (by kernel_rfl)) (fun _ _ _ h => h) (Or.inl ⟨by rfl, ?_⟩) ?_ ?_
          rotate_left
          · intro w'
            go_simp
            with_reducible rfl
          rotate_left
          · simp only [Act.put, List.setIfInBounds_toArray, List.set_cons_zero, List.set_cons_succ, i64_w, i32_w]
            rfl
          refine take_ (i := 11) (N := some 32) (v := ?_) (a' := ?_) #[true, true, true, true, true, true, true, true, true, true, true, true, false, false, false] rfl rfl (take_ofW HT_.out HW_.out (by kernel_rfl)) (fun _ _ _ h => h) (Or.inl ⟨by rfl, ?_⟩) hHeld ?_ ?_
          rotate_left
          · rintro w' ⟨s0, s1, s2, s3, s4, s5, s6, s7⟩
            go_simp
            with_reducible rfl
          rotate_left
          · simp only [Act.put, List.setIfInBounds_toArray, List.set_cons_zero, List.set_cons_succ, i64_w, i32_w]
            rfl
          refine one_ (i := 12) (N := some 33) #[true, true, true, true, true, true, true, true, true, true, true, true, true, false, false] rfl rfl (one_of HT_.out (by kernel_rfl)) (by decide) (fun K hK => ?_)
          refine goes_ Tryd.func27 (by kernel_rfl) rfl #[.agg #[.int .i64 t522, .int .i64 t523]] (by rfl) rfl rfl (by (try simp only [List.map_toArray, List.map_cons, List.map_nil]); first | done | rfl | (simp only [List.length_drop, List.length_take]; rfl)) ?_
          with_reducible refine (spec_PtOk.calls t522 t523 t532 _ A24.out).mono ?_
          rintro e w29 ⟨rfl, hb⟩
          refine ⟨_, rfl, ?_⟩
          have n0_ := Aside0.mk (blk_below (g := gb524) (o := .cells #[.int .i64 t518, .int .i64 t519, .int .i64 t520, .int .i64 t521] 40 (0, 0)) (by (with_reducible repeat (first | refine blk_drewN ?_ _ | refine blk_drew ?_ | refine blk_alloc ?_ _)); exact BK524.out) hb)
          have n1_ := Aside0.mk (blk_below (g := gb525) (o := .cells #[.int .i64 t522, .int .i64 t523] 38 (0, 0)) (by (with_reducible repeat (first | refine blk_drewN ?_ _ | refine blk_drew ?_ | refine blk_alloc ?_ _)); exact BK525.out) hb)
          have n2_ := Aside0.mk (blk_below (g := gb528) (o := .cells #[.int .i64 t526, .int .i64 t527] 25 (0, 0)) (by (with_reducible repeat (first | refine blk_drewN ?_ _ | refine blk_drew ?_ | refine blk_alloc ?_ _)); exact BK528.out) hb)
          have n3_ := Aside0.mk (below_step (by repeat (first | (with_reducible first | exact HB.out | apply below_alloc | apply pw_below_drewN | apply below_drew1 | refine below_set ?_ GE524.out | refine below_set ?_ GE525.out | refine below_set ?_ GE528.out) | exact HB.out)) hb)
          clear BK524
          clear BK525
          clear BK528
          clear HB
          have BK524 := n0_
          have BK525 := n1_
          have BK528 := n2_
          have HB := n3_
          clear n0_ n1_ n2_ n3_
          (try clear hb)
          (try clear hb2)
          (try clear hk)
          (try clear hi)
          refine hK.out _ _ ⟨(blk_cell BK528.out 0).trans rfl, (blk_cell BK528.out 1).trans rfl, (blk_cell BK524.out 0).trans rfl, (blk_cell BK524.out 1).trans rfl, (blk_cell BK524.out 2).trans rfl, (blk_cell BK524.out 3).trans rfl, (blk_cell BK525.out 0).trans rfl, (blk_cell BK525.out 1).trans rfl⟩ (fun hHeld => ?_)
          clear hK K
          refine norm_ (a' := ?_) ?_ ?_
          rotate_left
          · show Act.put _ (some 33) _ = _
            simp only [Act.put, List.setIfInBounds_toArray, List.set_cons_zero, List.set_cons_succ, i64_w, i32_w]
            rfl
          refine pure_ (i := 13) (N := some 34) (v := ?_) (a' := ?_) #[true, true, true, true, true, true, true, true, true, true, true, true, true, true, false] rfl rfl (any_of HT_.out (by kernel_rfl)) (fun _ _ _ h => h) (Or.inl ⟨by rfl, ?_⟩) ?_ ?_
          rotate_left
          · intro w'
            go_simp
            with_reducible rfl
          rotate_left
          · simp only [Act.put, List.setIfInBounds_toArray, List.set_cons_zero, List.set_cons_succ, i64_w, i32_w]
            rfl
          refine pure_ (i := 14) (N := some 35) (v := ?_) (a' := ?_) #[true, true, true, true, true, true, true, true, true, true, true, true, true, true, true] rfl rfl (any_of HT_.out (by kernel_rfl)) (fun _ _ _ h => h) (Or.inl ⟨by rfl, ?_⟩) ?_ ?_
          rotate_left
          · intro w'
            go_simp
            with_reducible rfl
          rotate_left
          · simp only [Act.put, List.setIfInBounds_toArray, List.set_cons_zero, List.set_cons_succ, i64_w, i32_w]
            rfl
          refine done_ (done_of HT_.out (by kernel_rfl)) ?_
          try go_wp2
          go_meet
          case rel => exact ⟨_, (!t532), (by first | rfl | (simp; done) | (simp [*]; done)), H', ⟨by first | omega | exact Nat.le_refl _⟩, ⟨by (with_reducible repeat (first | refine blk_drewN ?_ _ | refine blk_drew ?_ | refine blk_alloc ?_ _)); exact BK524.out⟩, ⟨by (with_reducible repeat (first | refine blk_drewN ?_ _ | refine blk_drew ?_ | refine blk_alloc ?_ _)); exact BK525.out⟩, ⟨by (with_reducible repeat (first | refine blk_drewN ?_ _ | refine blk_drew ?_ | refine blk_alloc ?_ _)); exact BK528.out⟩, ⟨by repeat (first | (with_reducible first | exact HB.out | apply below_alloc | apply pw_below_drewN | apply below_drew1 | refine below_set ?_ GE524.out | refine below_set ?_ GE525.out | refine below_set ?_ GE528.out) | exact HB.out)⟩⟩
        · replace c23 := Bool.eq_false_iff.mpr c23
          subst c23
          have H1 : (laws_FnFarEnds.j0 k true t518 t519 t520 t521 t522 t523 t526 t527) = some r := by rw [if_neg (show ¬ (false = true) by decide)] at H; exact H
          clear H
          have H := H1
          clear H1
          have H' := Aside0.mk H
          clear H
          try go_wp2
          have n0_ : Aside0 (((w13.setCell ⟨gb528, 0, none⟩ (.int .i64 t526)).setCell ⟨gb528, 1, none⟩ (.int .i64 t527)).heap[gb524]? = some (.cells #[.int .i64 t518, .int .i64 t519, .int .i64 t520, .int .i64 t521] 40 (0, 0))) := ⟨by (with_reducible repeat (first | refine blk_drewN ?_ _ | refine blk_drew ?_ | refine blk_alloc ?_ _)); refine blk_far ?_ NB524_528.out _; (with_reducible repeat (first | refine blk_drewN ?_ _ | refine blk_drew ?_ | refine blk_alloc ?_ _)); refine blk_far ?_ NB524_528.out _; (with_reducible repeat (first | refine blk_drewN ?_ _ | refine blk_drew ?_ | refine blk_alloc ?_ _)); exact BK524.out⟩
          have n1_ : Aside0 (((w13.setCell ⟨gb528, 0, none⟩ (.int .i64 t526)).setCell ⟨gb528, 1, none⟩ (.int .i64 t527)).heap[gb525]? = some (.cells #[.int .i64 t522, .int .i64 t523] 38 (0, 0))) := ⟨by (with_reducible repeat (first | refine blk_drewN ?_ _ | refine blk_drew ?_ | refine blk_alloc ?_ _)); refine blk_far ?_ NB525_528.out _; (with_reducible repeat (first | refine blk_drewN ?_ _ | refine blk_drew ?_ | refine blk_alloc ?_ _)); refine blk_far ?_ NB525_528.out _; (with_reducible repeat (first | refine blk_drewN ?_ _ | refine blk_drew ?_ | refine blk_alloc ?_ _)); exact BK525.out⟩
          have n2_ : Aside0 (((w13.setCell ⟨gb528, 0, none⟩ (.int .i64 t526)).setCell ⟨gb528, 1, none⟩ (.int .i64 t527)).heap[gb528]? = some (.cells #[.int .i64 t526, .int .i64 t527] 25 (0, 0))) := ⟨by (with_reducible repeat (first | refine blk_drewN ?_ _ | refine blk_drew ?_ | refine blk_alloc ?_ _)); refine blk_put (cs := #[.int .i64 t526, .int .i64 0]) ?_ 1 _ rfl; (with_reducible repeat (first | refine blk_drewN ?_ _ | refine blk_drew ?_ | refine blk_alloc ?_ _)); refine blk_put (cs := #[.int .i64 0, .int .i64 0]) ?_ 0 _ rfl; (with_reducible repeat (first | refine blk_drewN ?_ _ | refine blk_drew ?_ | refine blk_alloc ?_ _)); exact BK528.out⟩
          have n3_ : Aside0 (Below w.heap.size w ((w13.setCell ⟨gb528, 0, none⟩ (.int .i64 t526)).setCell ⟨gb528, 1, none⟩ (.int .i64 t527))) := ⟨by repeat (first | (with_reducible first | exact HB.out | apply below_alloc | apply pw_below_drewN | apply below_drew1 | refine below_set ?_ GE524.out | refine below_set ?_ GE525.out | refine below_set ?_ GE528.out) | exact HB.out)⟩
          (try clear BK524)
          (try clear BK525)
          (try clear BK528)
          (try clear HB)
          generalize ((w13.setCell ⟨gb528, 0, none⟩ (.int .i64 t526)).setCell ⟨gb528, 1, none⟩ (.int .i64 t527)) = w30 at n0_ n1_ n2_ n3_ ⊢
          have BK524 := n0_
          have BK525 := n1_
          have BK528 := n2_
          have HB := n3_
          clear n0_ n1_ n2_ n3_
          have n0_ := Aside0.mk (blk_drew BK524.out)
          have n1_ := Aside0.mk (blk_drew BK525.out)
          have n2_ := Aside0.mk (blk_drew BK528.out)
          have n3_ := Aside0.mk (below_drew1 HB.out)
          clear BK524
          clear BK525
          clear BK528
          clear HB
          have BK524 := n0_
          have BK525 := n1_
          have BK528 := n2_
          have HB := n3_
          clear n0_ n1_ n2_ n3_
          refine start_ (n := 15) (S := fun w' => w'.cell? ⟨gb528, 0, none⟩ = some (.int .i64 t526) ∧ w'.cell? ⟨gb528, 1, none⟩ = some (.int .i64 t527) ∧ w'.cell? ⟨gb524, 0, none⟩ = some (.int .i64 t518) ∧ w'.cell? ⟨gb524, 1, none⟩ = some (.int .i64 t519) ∧ w'.cell? ⟨gb524, 2, none⟩ = some (.int .i64 t520) ∧ w'.cell? ⟨gb524, 3, none⟩ = some (.int .i64 t521) ∧ w'.cell? ⟨gb525, 0, none⟩ = some (.int .i64 t522) ∧ w'.cell? ⟨gb525, 1, none⟩ = some (.int .i64 t523)) (ds := []) #[false, false, false, false, false, false, false, false, false, false, false, false, false, false, false] (by kernel_rfl) rfl rfl ⟨(blk_cell BK528.out 0).trans rfl, (blk_cell BK528.out 1).trans rfl, (blk_cell BK524.out 0).trans rfl, (blk_cell BK524.out 1).trans rfl, (blk_cell BK524.out 2).trans rfl, (blk_cell BK524.out 3).trans rfl, (blk_cell BK525.out 0).trans rfl, (blk_cell BK525.out 1).trans rfl⟩ (fun hHeld => ?_); refine with_tabW laws_FnFarEnds.tab5 laws_FnFarEnds.bits5 (fun HT_ HW_ => ?_)
          generalize w30.drew = w31 at BK524 BK525 BK528 HB hHeld ⊢
          refine take_ (i := 0) (N := some 21) (v := ?_) (a' := ?_) #[true, false, false, false, false, false, false, false, false, false, false, false, false, false, false] rfl rfl (take_ofW HT_.out HW_.out (by kernel_rfl)) (fun _ _ _ h => h) (Or.inl ⟨by rfl, ?_⟩) hHeld ?_ ?_
          rotate_left
          · rintro w' ⟨s0, s1, s2, s3, s4, s5, s6, s7⟩
            go_simp
            with_reducible rfl
          rotate_left
          · simp only [Act.put, List.setIfInBounds_toArray, List.set_cons_zero, List.set_cons_succ, i64_w, i32_w]
            rfl
          refine take_ (i := 1) (N := some 22) (v := ?_) (a' := ?_) #[true, true, false, false, false, false, false, false, false, false, false, false, false, false, false] rfl rfl (take_ofW HT_.out HW_.out (by kernel_rfl)) (fun _ _ _ h => h) (Or.inl ⟨by rfl, ?_⟩) hHeld ?_ ?_
          rotate_left
          · rintro w' ⟨s0, s1, s2, s3, s4, s5, s6, s7⟩
            go_simp
            with_reducible rfl
          rotate_left
          · simp only [Act.put, List.setIfInBounds_toArray, List.set_cons_zero, List.set_cons_succ, i64_w, i32_w]
            rfl
          refine take_ (i := 2) (N := some 23) (v := ?_) (a' := ?_) #[true, true, true, false, false, false, false, false, false, false, false, false, false, false, false] rfl rfl (take_ofW HT_.out HW_.out (by kernel_rfl)) (fun _ _ _ h => h) (Or.inl ⟨by rfl, ?_⟩) hHeld ?_ ?_
          rotate_left
          · rintro w' ⟨s0, s1, s2, s3, s4, s5, s6, s7⟩
            go_simp
            with_reducible rfl
          rotate_left
          · simp only [Act.put, List.setIfInBounds_toArray, List.set_cons_zero, List.set_cons_succ, i64_w, i32_w]
            rfl
          refine one_ (i := 3) (N := some 24) #[true, true, true, true, false, false, false, false, false, false, false, false, false, false, false] rfl rfl (one_of HT_.out (by kernel_rfl)) (by decide) (fun K hK => ?_)
          refine goes_ Tryd.func25 (by kernel_rfl) rfl #[.agg #[.int .i64 t518, .int .i64 t519, .int .i64 t520, .int .i64 t521], .agg #[.int .i64 t522, .int .i64 t523]] (by rfl) rfl rfl (by (try simp only [List.map_toArray, List.map_cons, List.map_nil]); first | done | rfl | (simp only [List.length_drop, List.length_take]; rfl)) ?_
          with_reducible refine (spec_SegFar.calls k t518 t519 t520 t521 t522 t523 t529 t530 _ A17.out).mono ?_
          rintro e w32 ⟨rfl, hb⟩
          refine ⟨_, rfl, ?_⟩
          have n0_ := Aside0.mk (blk_below (g := gb524) (o := .cells #[.int .i64 t518, .int .i64 t519, .int .i64 t520, .int .i64 t521] 40 (0, 0)) (by (with_reducible repeat (first | refine blk_drewN ?_ _ | refine blk_drew ?_ | refine blk_alloc ?_ _)); exact BK524.out) hb)
          have n1_ := Aside0.mk (blk_below (g := gb525) (o := .cells #[.int .i64 t522, .int .i64 t523] 38 (0, 0)) (by (with_reducible repeat (first | refine blk_drewN ?_ _ | refine blk_drew ?_ | refine blk_alloc ?_ _)); exact BK525.out) hb)
          have n2_ := Aside0.mk (blk_below (g := gb528) (o := .cells #[.int .i64 t526, .int .i64 t527] 25 (0, 0)) (by (with_reducible repeat (first | refine blk_drewN ?_ _ | refine blk_drew ?_ | refine blk_alloc ?_ _)); exact BK528.out) hb)
          have n3_ := Aside0.mk (below_step (by repeat (first | (with_reducible first | exact HB.out | apply below_alloc | apply pw_below_drewN | apply below_drew1 | refine below_set ?_ GE524.out | refine below_set ?_ GE525.out | refine below_set ?_ GE528.out) | exact HB.out)) hb)
          clear BK524
          clear BK525
          clear BK528
          clear HB
          have BK524 := n0_
          have BK525 := n1_
          have BK528 := n2_
          have HB := n3_
          clear n0_ n1_ n2_ n3_
          (try clear hb)
          (try clear hb2)
          (try clear hk)
          (try clear hi)
          refine hK.out _ _ ⟨(blk_cell BK528.out 0).trans rfl, (blk_cell BK528.out 1).trans rfl, (blk_cell BK524.out 0).trans rfl, (blk_cell BK524.out 1).trans rfl, (blk_cell BK524.out 2).trans rfl, (blk_cell BK524.out 3).trans rfl, (blk_cell BK525.out 0).trans rfl, (blk_cell BK525.out 1).trans rfl⟩ (fun hHeld => ?_)
          clear hK K
          refine norm_ (a' := ?_) ?_ ?_
          rotate_left
          · show Act.put _ (some 24) _ = _
            simp only [Act.put, List.setIfInBounds_toArray, List.set_cons_zero, List.set_cons_succ, i64_w, i32_w]
            rfl
          refine pure_ (i := 4) (N := some 25) (v := ?_) (a' := ?_) #[true, true, true, true, true, false, false, false, false, false, false, false, false, false, false] rfl rfl (any_of HT_.out (by kernel_rfl)) (fun _ _ _ h => h) (Or.inl ⟨by rfl, ?_⟩) ?_ ?_
          rotate_left
          · intro w'
            go_simp
            with_reducible rfl
          rotate_left
          · simp only [Act.put, List.setIfInBounds_toArray, List.set_cons_zero, List.set_cons_succ, i64_w, i32_w]
            rfl
          refine pure_ (i := 5) (N := some 26) (v := ?_) (a' := ?_) #[true, true, true, true, true, true, false, false, false, false, false, false, false, false, false] rfl rfl (any_of HT_.out (by kernel_rfl)) (fun _ _ _ h => h) (Or.inl ⟨by rfl, ?_⟩) ?_ ?_
          rotate_left
          · intro w'
            go_simp
            with_reducible rfl
          rotate_left
          · simp only [Act.put, List.setIfInBounds_toArray, List.set_cons_zero, List.set_cons_succ, i64_w, i32_w]
            rfl
          refine take_ (i := 6) (N := some 27) (v := ?_) (a' := ?_) #[true, true, true, true, true, true, true, false, false, false, false, false, false, false, false] rfl rfl (take_ofW HT_.out HW_.out (by kernel_rfl)) (fun _ _ _ h => h) (Or.inl ⟨by rfl, ?_⟩) hHeld ?_ ?_
          rotate_left
          · rintro w' ⟨s0, s1, s2, s3, s4, s5, s6, s7⟩
            go_simp
            with_reducible rfl
          rotate_left
          · simp only [Act.put, List.setIfInBounds_toArray, List.set_cons_zero, List.set_cons_succ, i64_w, i32_w]
            rfl
          refine one_ (i := 7) (N := some 28) #[true, true, true, true, true, true, true, true, false, false, false, false, false, false, false] rfl rfl (one_of HT_.out (by kernel_rfl)) (by decide) (fun K hK => ?_)
          refine goes_ Tryd.func26 (by kernel_rfl) rfl #[.agg #[.int .i64 t518, .int .i64 t519, .int .i64 t520, .int .i64 t521]] (by rfl) rfl rfl (by (try simp only [List.map_toArray, List.map_cons, List.map_nil]); first | done | rfl | (simp only [List.length_drop, List.length_take]; rfl)) ?_
          with_reducible refine (spec_SegOk.calls t518 t519 t520 t521 false _ A22.out).mono ?_
          rintro e w33 ⟨rfl, hb⟩
          refine ⟨_, rfl, ?_⟩
          have n0_ := Aside0.mk (blk_below (g := gb524) (o := .cells #[.int .i64 t518, .int .i64 t519, .int .i64 t520, .int .i64 t521] 40 (0, 0)) (by (with_reducible repeat (first | refine blk_drewN ?_ _ | refine blk_drew ?_ | refine blk_alloc ?_ _)); exact BK524.out) hb)
          have n1_ := Aside0.mk (blk_below (g := gb525) (o := .cells #[.int .i64 t522, .int .i64 t523] 38 (0, 0)) (by (with_reducible repeat (first | refine blk_drewN ?_ _ | refine blk_drew ?_ | refine blk_alloc ?_ _)); exact BK525.out) hb)
          have n2_ := Aside0.mk (blk_below (g := gb528) (o := .cells #[.int .i64 t526, .int .i64 t527] 25 (0, 0)) (by (with_reducible repeat (first | refine blk_drewN ?_ _ | refine blk_drew ?_ | refine blk_alloc ?_ _)); exact BK528.out) hb)
          have n3_ := Aside0.mk (below_step (by repeat (first | (with_reducible first | exact HB.out | apply below_alloc | apply pw_below_drewN | apply below_drew1 | refine below_set ?_ GE524.out | refine below_set ?_ GE525.out | refine below_set ?_ GE528.out) | exact HB.out)) hb)
          clear BK524
          clear BK525
          clear BK528
          clear HB
          have BK524 := n0_
          have BK525 := n1_
          have BK528 := n2_
          have HB := n3_
          clear n0_ n1_ n2_ n3_
          (try clear hb)
          (try clear hb2)
          (try clear hk)
          (try clear hi)
          refine hK.out _ _ ⟨(blk_cell BK528.out 0).trans rfl, (blk_cell BK528.out 1).trans rfl, (blk_cell BK524.out 0).trans rfl, (blk_cell BK524.out 1).trans rfl, (blk_cell BK524.out 2).trans rfl, (blk_cell BK524.out 3).trans rfl, (blk_cell BK525.out 0).trans rfl, (blk_cell BK525.out 1).trans rfl⟩ (fun hHeld => ?_)
          clear hK K
          refine norm_ (a' := ?_) ?_ ?_
          rotate_left
          · show Act.put _ (some 28) _ = _
            simp only [Act.put, List.setIfInBounds_toArray, List.set_cons_zero, List.set_cons_succ, i64_w, i32_w]
            rfl
          refine pure_ (i := 8) (N := some 29) (v := ?_) (a' := ?_) #[true, true, true, true, true, true, true, true, true, false, false, false, false, false, false] rfl rfl (any_of HT_.out (by kernel_rfl)) (fun _ _ _ h => h) (Or.inl ⟨by rfl, ?_⟩) ?_ ?_
          rotate_left
          · intro w'
            go_simp
            with_reducible rfl
          rotate_left
          · simp only [Act.put, List.setIfInBounds_toArray, List.set_cons_zero, List.set_cons_succ, i64_w, i32_w]
            rfl
          refine pure_ (i := 9) (N := some 30) (v := ?_) (a' := ?_) #[true, true, true, true, true, true, true, true, true, true, false, false, false, false, false] rfl rfl (any_of HT_.out (by kernel_rfl)) (fun _ _ _ h => h) (Or.inl ⟨by rfl, ?_⟩) ?_ ?_
          rotate_left
          · intro w'
            go_simp
            with_reducible rfl
          rotate_left
          · simp only [Act.put, List.setIfInBounds_toArray, List.set_cons_zero, List.set_cons_succ, i64_w, i32_w]
            rfl
          refine pure_ (i := 10) (N := some 31) (v := ?_) (a' := ?_) #[true, true, true, true, true, true, true, true, true, true, true, false, false, false, false] rfl rfl (any_of HT_.out (by kernel_rfl)) (fun _ _ _ h => h) (Or.inl ⟨by rfl, ?_⟩) ?_ ?_
          rotate_left
          · intro w'
            go_simp
            with_reducible rfl
          rotate_left
          · simp only [Act.put, List.setIfInBounds_toArray, List.set_cons_zero, List.set_cons_succ, i64_w, i32_w]
            rfl
          refine pure_ (i := 11) (N := some 32) (v := undef) (a' := ?_) #[true, true, true, true, true, true, true, true, true, true, true, true, false, false, false] rfl rfl (any_of HT_.out (by kernel_rfl)) (fun _ _ _ h => h) (Or.inr ⟨by rfl, rfl⟩) ?_ ?_
          rotate_left
          · simp only [Act.put, List.setIfInBounds_toArray, List.set_cons_zero, List.set_cons_succ, i64_w, i32_w]
            rfl
          refine pure_ (i := 12) (N := some 33) (v := undef) (a' := ?_) #[true, true, true, true, true, true, true, true, true, true, true, true, true, false, false] rfl rfl (any_of HT_.out (by kernel_rfl)) (fun _ _ _ h => h) (Or.inr ⟨by rfl, rfl⟩) ?_ ?_
          rotate_left
          · simp only [Act.put, List.setIfInBounds_toArray, List.set_cons_zero, List.set_cons_succ, i64_w, i32_w]
            rfl
          refine pure_ (i := 13) (N := some 34) (v := undef) (a' := ?_) #[true, true, true, true, true, true, true, true, true, true, true, true, true, true, false] rfl rfl (any_of HT_.out (by kernel_rfl)) (fun _ _ _ h => h) (Or.inr ⟨by rfl, rfl⟩) ?_ ?_
          rotate_left
          · simp only [Act.put, List.setIfInBounds_toArray, List.set_cons_zero, List.set_cons_succ, i64_w, i32_w]
            rfl
          refine pure_ (i := 14) (N := some 35) (v := ?_) (a' := ?_) #[true, true, true, true, true, true, true, true, true, true, true, true, true, true, true] rfl rfl (any_of HT_.out (by kernel_rfl)) (fun _ _ _ h => h) (Or.inl ⟨by rfl, ?_⟩) ?_ ?_
          rotate_left
          · intro w'
            go_simp
            with_reducible rfl
          rotate_left
          · simp only [Act.put, List.setIfInBounds_toArray, List.set_cons_zero, List.set_cons_succ, i64_w, i32_w]
            rfl
          refine done_ (done_of HT_.out (by kernel_rfl)) ?_
          try go_wp2
          go_meet
          case rel => exact ⟨_, (true), (by first | rfl | (simp; done) | (simp [*]; done)), H', ⟨by first | omega | exact Nat.le_refl _⟩, ⟨by (with_reducible repeat (first | refine blk_drewN ?_ _ | refine blk_drew ?_ | refine blk_alloc ?_ _)); exact BK524.out⟩, ⟨by (with_reducible repeat (first | refine blk_drewN ?_ _ | refine blk_drew ?_ | refine blk_alloc ?_ _)); exact BK525.out⟩, ⟨by (with_reducible repeat (first | refine blk_drewN ?_ _ | refine blk_drew ?_ | refine blk_alloc ?_ _)); exact BK528.out⟩, ⟨by repeat (first | (with_reducible first | exact HB.out | apply below_alloc | apply pw_below_drewN | apply below_drew1 | refine below_set ?_ GE524.out | refine below_set ?_ GE525.out | refine below_set ?_ GE528.out) | exact HB.out)⟩⟩
    case rest =>
      clear HC5
      try clear c1
      try clear c2
      try clear p2
      try clear c18
      try clear c18b0
      try clear c23
      try clear c25
      try clear c26
      try clear c27
      obtain ⟨kq, x35_4, rfl, HA, HJ4, BK524, BK525, BK528, HB⟩ := hcut
      cases kq with
      | zero => exact absurd HA.out (by simp [laws_FnFarEnds.j0])
      | succ kj4 =>
        have H := HA.out
        clear HA
        simp only [laws_FnFarEnds.j0] at H
        by_cases c34 : x35_4 = true
        · subst c34
          have H1 : ((spec_SegFar.f kj4 t518 t519 t520 t521 t522 t523).bind fun bt533 => (some (t526 == bt533.1 && (t527 == bt533.2)))) = some r := by rw [if_pos rfl] at H; exact H
          clear H
          have H := H1
          clear H1
          replace H := Option.bind_eq_some_iff.mp H
          obtain ⟨⟨t533, t534⟩, A350, H⟩ := H
          replace H : (some (t526 == t533 && (t527 == t534))) = some r := H
          have A35 := Aside0.mk A350
          clear A350
          obtain rfl := Option.some.inj H
          try go_wp2
          have n0_ := Aside0.mk (blk_drew BK524.out)
          have n1_ := Aside0.mk (blk_drew BK525.out)
          have n2_ := Aside0.mk (blk_drew BK528.out)
          have n3_ := Aside0.mk (below_drew1 HB.out)
          clear BK524
          clear BK525
          clear BK528
          clear HB
          have BK524 := n0_
          have BK525 := n1_
          have BK528 := n2_
          have HB := n3_
          clear n0_ n1_ n2_ n3_
          refine start_ (n := 6) (S := fun w' => w'.cell? ⟨gb528, 0, none⟩ = some (.int .i64 t526) ∧ w'.cell? ⟨gb528, 1, none⟩ = some (.int .i64 t527) ∧ w'.cell? ⟨gb524, 0, none⟩ = some (.int .i64 t518) ∧ w'.cell? ⟨gb524, 1, none⟩ = some (.int .i64 t519) ∧ w'.cell? ⟨gb524, 2, none⟩ = some (.int .i64 t520) ∧ w'.cell? ⟨gb524, 3, none⟩ = some (.int .i64 t521) ∧ w'.cell? ⟨gb525, 0, none⟩ = some (.int .i64 t522) ∧ w'.cell? ⟨gb525, 1, none⟩ = some (.int .i64 t523)) (ds := []) #[false, false, false, false, false, false] (by kernel_rfl) rfl rfl ⟨(blk_cell BK528.out 0).trans rfl, (blk_cell BK528.out 1).trans rfl, (blk_cell BK524.out 0).trans rfl, (blk_cell BK524.out 1).trans rfl, (blk_cell BK524.out 2).trans rfl, (blk_cell BK524.out 3).trans rfl, (blk_cell BK525.out 0).trans rfl, (blk_cell BK525.out 1).trans rfl⟩ (fun hHeld => ?_)
          generalize wc.drew = w36 at BK524 BK525 BK528 HB hHeld ⊢
          refine take_ (i := 0) (N := some 36) (v := ?_) (a' := ?_) #[true, false, false, false, false, false] rfl rfl (by kernel_rfl) (fun _ _ _ h => h) (Or.inl ⟨by rfl, ?_⟩) hHeld ?_ ?_
          rotate_left
          · rintro w' ⟨s0, s1, s2, s3, s4, s5, s6, s7⟩
            go_simp
            with_reducible rfl
          rotate_left
          · simp only [Act.put, List.setIfInBounds_toArray, List.set_cons_zero, List.set_cons_succ, i64_w, i32_w]
            rfl
          refine take_ (i := 1) (N := some 37) (v := ?_) (a' := ?_) #[true, true, false, false, false, false] rfl rfl (by kernel_rfl) (fun _ _ _ h => h) (Or.inl ⟨by rfl, ?_⟩) hHeld ?_ ?_
          rotate_left
          · rintro w' ⟨s0, s1, s2, s3, s4, s5, s6, s7⟩
            go_simp
            with_reducible rfl
          rotate_left
          · simp only [Act.put, List.setIfInBounds_toArray, List.set_cons_zero, List.set_cons_succ, i64_w, i32_w]
            rfl
          refine take_ (i := 2) (N := some 38) (v := ?_) (a' := ?_) #[true, true, true, false, false, false] rfl rfl (by kernel_rfl) (fun _ _ _ h => h) (Or.inl ⟨by rfl, ?_⟩) hHeld ?_ ?_
          rotate_left
          · rintro w' ⟨s0, s1, s2, s3, s4, s5, s6, s7⟩
            go_simp
            with_reducible rfl
          rotate_left
          · simp only [Act.put, List.setIfInBounds_toArray, List.set_cons_zero, List.set_cons_succ, i64_w, i32_w]
            rfl
          refine one_ (i := 3) (N := some 39) #[true, true, true, true, false, false] rfl rfl (by kernel_rfl) (by decide) (fun K hK => ?_)
          refine goes_ Tryd.func25 (by kernel_rfl) rfl #[.agg #[.int .i64 t518, .int .i64 t519, .int .i64 t520, .int .i64 t521], .agg #[.int .i64 t522, .int .i64 t523]] (by rfl) rfl rfl (by (try simp only [List.map_toArray, List.map_cons, List.map_nil]); first | done | rfl | (simp only [List.length_drop, List.length_take]; rfl)) ?_
          with_reducible refine (spec_SegFar.calls kj4 t518 t519 t520 t521 t522 t523 t533 t534 _ A35.out).mono ?_
          rintro e w37 ⟨rfl, hb⟩
          refine ⟨_, rfl, ?_⟩
          have n0_ := Aside0.mk (blk_below (g := gb524) (o := .cells #[.int .i64 t518, .int .i64 t519, .int .i64 t520, .int .i64 t521] 40 (0, 0)) (by (with_reducible repeat (first | refine blk_drewN ?_ _ | refine blk_drew ?_ | refine blk_alloc ?_ _)); exact BK524.out) hb)
          have n1_ := Aside0.mk (blk_below (g := gb525) (o := .cells #[.int .i64 t522, .int .i64 t523] 38 (0, 0)) (by (with_reducible repeat (first | refine blk_drewN ?_ _ | refine blk_drew ?_ | refine blk_alloc ?_ _)); exact BK525.out) hb)
          have n2_ := Aside0.mk (blk_below (g := gb528) (o := .cells #[.int .i64 t526, .int .i64 t527] 25 (0, 0)) (by (with_reducible repeat (first | refine blk_drewN ?_ _ | refine blk_drew ?_ | refine blk_alloc ?_ _)); exact BK528.out) hb)
          have n3_ := Aside0.mk (below_step (by repeat (first | (with_reducible first | exact HB.out | apply below_alloc | apply pw_below_drewN | apply below_drew1 | refine below_set ?_ GE524.out | refine below_set ?_ GE525.out | refine below_set ?_ GE528.out) | exact HB.out)) hb)
          clear BK524
          clear BK525
          clear BK528
          clear HB
          have BK524 := n0_
          have BK525 := n1_
          have BK528 := n2_
          have HB := n3_
          clear n0_ n1_ n2_ n3_
          (try clear hb)
          (try clear hb2)
          (try clear hk)
          (try clear hi)
          refine hK.out _ _ ⟨(blk_cell BK528.out 0).trans rfl, (blk_cell BK528.out 1).trans rfl, (blk_cell BK524.out 0).trans rfl, (blk_cell BK524.out 1).trans rfl, (blk_cell BK524.out 2).trans rfl, (blk_cell BK524.out 3).trans rfl, (blk_cell BK525.out 0).trans rfl, (blk_cell BK525.out 1).trans rfl⟩ (fun hHeld => ?_)
          clear hK K
          refine norm_ (a' := ?_) ?_ ?_
          rotate_left
          · show Act.put _ (some 39) _ = _
            simp only [Act.put, List.setIfInBounds_toArray, List.set_cons_zero, List.set_cons_succ, i64_w, i32_w]
            rfl
          refine pure_ (i := 4) (N := some 40) (v := ?_) (a' := ?_) #[true, true, true, true, true, false] rfl rfl (by kernel_rfl) (fun _ _ _ h => h) (Or.inl ⟨by rfl, ?_⟩) ?_ ?_
          rotate_left
          · intro w'
            go_simp
            with_reducible rfl
          rotate_left
          · simp only [Act.put, List.setIfInBounds_toArray, List.set_cons_zero, List.set_cons_succ, i64_w, i32_w]
            rfl
          refine pure_ (i := 5) (N := some 2) (v := ?_) (a' := ?_) #[true, true, true, true, true, true] rfl rfl (by kernel_rfl) (fun _ _ _ h => h) (Or.inl ⟨by rfl, ?_⟩) ?_ ?_
          rotate_left
          · intro w'
            go_simp
            with_reducible rfl
          rotate_left
          · simp only [Act.put, List.setIfInBounds_toArray, List.set_cons_zero, List.set_cons_succ, i64_w, i32_w]
            rfl
          refine done_ (by kernel_rfl) ?_
          try go_wp2
          go_ret
          exact ⟨by first | rfl | (simp [errW_none, errW_some] <;> rfl) | (simp [*, errW_none, errW_some] <;> rfl), by repeat (first | (with_reducible first | exact HB.out | apply below_alloc | apply pw_below_drewN | apply below_drew1 | refine below_set ?_ GE524.out | refine below_set ?_ GE525.out | refine below_set ?_ GE528.out) | exact HB.out)⟩
        · replace c34 := Bool.eq_false_iff.mpr c34
          subst c34
          have H1 : ((laws_luSq.f t518 t519 t522 t523).bind fun t535 => ((impl_FracOf.f kj4 t535 1).bind fun bt536 => ((laws_luSq.f t520 t521 t522 t523).bind fun t540 => ((impl_FracOf.f kj4 t540 1).bind fun bt541 => ((impl_FracCmp.f t526 t527 bt536.1 bt536.2.1).bind fun t545 => (if t545 ≤ 0 then ((impl_FracCmp.f t526 t527 bt541.1 bt541.2.1).bind fun t546 => (if t546 ≤ 0 then ((impl_FracOk.f t526 t527).bind fun t547 => (if t547 = true then ((laws_luBack.f t518 t519 t520 t521).bind fun bt548 => ((impl_SegFar.f bt548.1 bt548.2.1 bt548.2.2.1 bt548.2.2.2 t522 t523).bind fun bt552 => (some (bt552.1 == t526 && (bt552.2 == t527))))) else (some false))) else (some false))) else (some false))))))) = some r := by rw [if_neg (show ¬ (false = true) by decide)] at H; exact H
          clear H
          have H := H1
          clear H1
          replace H := Option.bind_eq_some_iff.mp H
          obtain ⟨t535, A380, H⟩ := H
          replace H : ((impl_FracOf.f kj4 t535 1).bind fun bt536 => ((laws_luSq.f t520 t521 t522 t523).bind fun t540 => ((impl_FracOf.f kj4 t540 1).bind fun bt541 => ((impl_FracCmp.f t526 t527 bt536.1 bt536.2.1).bind fun t545 => (if t545 ≤ 0 then ((impl_FracCmp.f t526 t527 bt541.1 bt541.2.1).bind fun t546 => (if t546 ≤ 0 then ((impl_FracOk.f t526 t527).bind fun t547 => (if t547 = true then ((laws_luBack.f t518 t519 t520 t521).bind fun bt548 => ((impl_SegFar.f bt548.1 bt548.2.1 bt548.2.2.1 bt548.2.2.2 t522 t523).bind fun bt552 => (some (bt552.1 == t526 && (bt552.2 == t527))))) else (some false))) else (some false))) else (some false)))))) = some r := H
          have A38 := Aside0.mk A380
          clear A380
          replace H := Option.bind_eq_some_iff.mp H
          obtain ⟨⟨t536, t537, t538⟩, A390, H⟩ := H
          replace H : ((laws_luSq.f t520 t521 t522 t523).bind fun t540 => ((impl_FracOf.f kj4 t540 1).bind fun bt541 => ((impl_FracCmp.f t526 t527 t536 t537).bind fun t545 => (if t545 ≤ 0 then ((impl_FracCmp.f t526 t527 bt541.1 bt541.2.1).bind fun t546 => (if t546 ≤ 0 then ((impl_FracOk.f t526 t527).bind fun t547 => (if t547 = true then ((laws_luBack.f t518 t519 t520 t521).bind fun bt548 => ((impl_SegFar.f bt548.1 bt548.2.1 bt548.2.2.1 bt548.2.2.2 t522 t523).bind fun bt552 => (some (bt552.1 == t526 && (bt552.2 == t527))))) else (some false))) else (some false))) else (some false))))) = some r := H
          have A39 := Aside0.mk A390
          clear A390
          replace H := Option.bind_eq_some_iff.mp H
          obtain ⟨t540, A400, H⟩ := H
          replace H : ((impl_FracOf.f kj4 t540 1).bind fun bt541 => ((impl_FracCmp.f t526 t527 t536 t537).bind fun t545 => (if t545 ≤ 0 then ((impl_FracCmp.f t526 t527 bt541.1 bt541.2.1).bind fun t546 => (if t546 ≤ 0 then ((impl_FracOk.f t526 t527).bind fun t547 => (if t547 = true then ((laws_luBack.f t518 t519 t520 t521).bind fun bt548 => ((impl_SegFar.f bt548.1 bt548.2.1 bt548.2.2.1 bt548.2.2.2 t522 t523).bind fun bt552 => (some (bt552.1 == t526 && (bt552.2 == t527))))) else (some false))) else (some false))) else (some false)))) = some r := H
          have A40 := Aside0.mk A400
          clear A400
          replace H := Option.bind_eq_some_iff.mp H
          obtain ⟨⟨t541, t542, t543⟩, A410, H⟩ := H
          replace H : ((impl_FracCmp.f t526 t527 t536 t537).bind fun t545 => (if t545 ≤ 0 then ((impl_FracCmp.f t526 t527 t541 t542).bind fun t546 => (if t546 ≤ 0 then ((impl_FracOk.f t526 t527).bind fun t547 => (if t547 = true then ((laws_luBack.f t518 t519 t520 t521).bind fun bt548 => ((impl_SegFar.f bt548.1 bt548.2.1 bt548.2.2.1 bt548.2.2.2 t522 t523).bind fun bt552 => (some (bt552.1 == t526 && (bt552.2 == t527))))) else (some false))) else (some false))) else (some false))) = some r := H
          have A41 := Aside0.mk A410
          clear A410
          replace H := Option.bind_eq_some_iff.mp H
          obtain ⟨t545, A420, H⟩ := H
          replace H : (if t545 ≤ 0 then ((impl_FracCmp.f t526 t527 t541 t542).bind fun t546 => (if t546 ≤ 0 then ((impl_FracOk.f t526 t527).bind fun t547 => (if t547 = true then ((laws_luBack.f t518 t519 t520 t521).bind fun bt548 => ((impl_SegFar.f bt548.1 bt548.2.1 bt548.2.2.1 bt548.2.2.2 t522 t523).bind fun bt552 => (some (bt552.1 == t526 && (bt552.2 == t527))))) else (some false))) else (some false))) else (some false)) = some r := H
          have A42 := Aside0.mk A420
          clear A420
          by_cases c43 : t545 ≤ 0
          · rw [if_pos c43] at H
            have c43b0 : decide (t545 ≤ 0) = true := decide_eq_true c43
            clear c43
            replace H := Option.bind_eq_some_iff.mp H
            obtain ⟨t546, A440, H⟩ := H
            replace H : (if t546 ≤ 0 then ((impl_FracOk.f t526 t527).bind fun t547 => (if t547 = true then ((laws_luBack.f t518 t519 t520 t521).bind fun bt548 => ((impl_SegFar.f bt548.1 bt548.2.1 bt548.2.2.1 bt548.2.2.2 t522 t523).bind fun bt552 => (some (bt552.1 == t526 && (bt552.2 == t527))))) else (some false))) else (some false)) = some r := H
            have A44 := Aside0.mk A440
            clear A440
            by_cases c45 : t546 ≤ 0
            · rw [if_pos c45] at H
              have c45b0 : decide (t546 ≤ 0) = true := decide_eq_true c45
              clear c45
              replace H := Option.bind_eq_some_iff.mp H
              obtain ⟨t547, A460, H⟩ := H
              replace H : (if t547 = true then ((laws_luBack.f t518 t519 t520 t521).bind fun bt548 => ((impl_SegFar.f bt548.1 bt548.2.1 bt548.2.2.1 bt548.2.2.2 t522 t523).bind fun bt552 => (some (bt552.1 == t526 && (bt552.2 == t527))))) else (some false)) = some r := H
              have A46 := Aside0.mk A460
              clear A460
              by_cases c47 : t547 = true
              · subst c47
                have H1 : ((laws_luBack.f t518 t519 t520 t521).bind fun bt548 => ((impl_SegFar.f bt548.1 bt548.2.1 bt548.2.2.1 bt548.2.2.2 t522 t523).bind fun bt552 => (some (bt552.1 == t526 && (bt552.2 == t527))))) = some r := by rw [if_pos rfl] at H; exact H
                clear H
                have H := H1
                clear H1
                replace H := Option.bind_eq_some_iff.mp H
                obtain ⟨⟨t548, t549, t550, t551⟩, A480, H⟩ := H
                replace H : ((impl_SegFar.f t548 t549 t550 t551 t522 t523).bind fun bt552 => (some (bt552.1 == t526 && (bt552.2 == t527)))) = some r := H
                have A48 := Aside0.mk A480
                clear A480
                replace H := Option.bind_eq_some_iff.mp H
                obtain ⟨⟨t552, t553⟩, A490, H⟩ := H
                replace H : (some (t552 == t526 && (t553 == t527))) = some r := H
                have A49 := Aside0.mk A490
                clear A490
                obtain rfl := Option.some.inj H
                have hnb50 := NB524_525.out
                have hnc50 := NB525_524.out
                have hnb51 := NB524_528.out
                have hnc51 := NB528_524.out
                have hcz52_0 : wc.cell? ⟨gb524, 0, none⟩ = some (.int .i64 t518) := (blk_cell BK524.out 0).trans rfl
                have hcz52_1 : wc.cell? ⟨gb524, 1, none⟩ = some (.int .i64 t519) := (blk_cell BK524.out 1).trans rfl
                have hcz52_2 : wc.cell? ⟨gb524, 2, none⟩ = some (.int .i64 t520) := (blk_cell BK524.out 2).trans rfl
                have hcz52_3 : wc.cell? ⟨gb524, 3, none⟩ = some (.int .i64 t521) := (blk_cell BK524.out 3).trans rfl
                have hfz52_0 := blk_frozen BK524.out 0
                have hfz52_1 := blk_frozen BK524.out 1
                have hfz52_2 := blk_frozen BK524.out 2
                have hfz52_3 := blk_frozen BK524.out 3
                have hnb53 := NB525_528.out
                have hnc53 := NB528_525.out
                have hcz54_0 : wc.cell? ⟨gb525, 0, none⟩ = some (.int .i64 t522) := (blk_cell BK525.out 0).trans rfl
                have hcz54_1 : wc.cell? ⟨gb525, 1, none⟩ = some (.int .i64 t523) := (blk_cell BK525.out 1).trans rfl
                have hfz54_0 := blk_frozen BK525.out 0
                have hfz54_1 := blk_frozen BK525.out 1
                try go_wp2_with (first | ((with_reducible refine gate_callee (f := 30) rfl ?_); refine goesL_ (some 45) rfl rfl Tryd.func30 (by kernel_rfl) rfl #[.agg #[.int .i64 t518, .int .i64 t519], .agg #[.int .i64 t522, .int .i64 t523]] rfl (by (try simp only [List.map_toArray, List.map_cons, List.map_nil]); first | done | rfl | (simp only [List.length_drop, List.length_take]; rfl)) ?_; (with_reducible refine (laws_luSq.calls t518 t519 t522 t523 t535 _ A38.out).mono ?_); rintro e w55 ⟨rfl, hb⟩; refine ⟨_, rfl, ?_⟩; have n0_ := Aside0.mk (blk_below (g := gb524) (o := .cells #[.int .i64 t518, .int .i64 t519, .int .i64 t520, .int .i64 t521] 40 (0, 0)) (by (with_reducible repeat (first | refine blk_drewN ?_ _ | refine blk_drew ?_ | refine blk_alloc ?_ _)); exact BK524.out) hb); have n1_ := Aside0.mk (blk_below (g := gb525) (o := .cells #[.int .i64 t522, .int .i64 t523] 38 (0, 0)) (by (with_reducible repeat (first | refine blk_drewN ?_ _ | refine blk_drew ?_ | refine blk_alloc ?_ _)); exact BK525.out) hb); have n2_ := Aside0.mk (blk_below (g := gb528) (o := .cells #[.int .i64 t526, .int .i64 t527] 25 (0, 0)) (by (with_reducible repeat (first | refine blk_drewN ?_ _ | refine blk_drew ?_ | refine blk_alloc ?_ _)); exact BK528.out) hb); have n3_ := Aside0.mk (below_step (by repeat (first | (with_reducible first | exact HB.out | apply below_alloc | apply pw_below_drewN | apply below_drew1 | refine below_set ?_ GE524.out | refine below_set ?_ GE525.out | refine below_set ?_ GE528.out) | exact HB.out)) hb); clear BK524; clear BK525; clear BK528; clear HB; have BK524 := n0_; have BK525 := n1_; have BK528 := n2_; have HB := n3_; clear n0_ n1_ n2_ n3_; (try clear hb); (try clear hb2); (try clear hk); (try clear hi)) | ((with_reducible refine gate_callee (f := 21) rfl ?_); refine goesL_ (some 46) rfl rfl Tryd.func21 (by kernel_rfl) rfl #[.int .i64 t535, .int .i64 1] rfl (by (try simp only [List.map_toArray, List.map_cons, List.map_nil]); first | done | rfl | (simp only [List.length_drop, List.length_take]; rfl)) ?_; (with_reducible refine (impl_FracOf.calls kj4 t535 1 t536 t537 t538 _ A39.out).mono ?_); rintro e w56 ⟨rfl, hb⟩; refine ⟨_, rfl, ?_⟩; have n0_ := Aside0.mk (blk_below (g := gb524) (o := .cells #[.int .i64 t518, .int .i64 t519, .int .i64 t520, .int .i64 t521] 40 (0, 0)) (by (with_reducible repeat (first | refine blk_drewN ?_ _ | refine blk_drew ?_ | refine blk_alloc ?_ _)); exact BK524.out) hb); have n1_ := Aside0.mk (blk_below (g := gb525) (o := .cells #[.int .i64 t522, .int .i64 t523] 38 (0, 0)) (by (with_reducible repeat (first | refine blk_drewN ?_ _ | refine blk_drew ?_ | refine blk_alloc ?_ _)); exact BK525.out) hb); have n2_ := Aside0.mk (blk_below (g := gb528) (o := .cells #[.int .i64 t526, .int .i64 t527] 25 (0, 0)) (by (with_reducible repeat (first | refine blk_drewN ?_ _ | refine blk_drew ?_ | refine blk_alloc ?_ _)); exact BK528.out) hb); have n3_ := Aside0.mk (below_step (by repeat (first | (with_reducible first | exact HB.out | apply below_alloc | apply pw_below_drewN | apply below_drew1 | refine below_set ?_ GE524.out | refine below_set ?_ GE525.out | refine below_set ?_ GE528.out) | exact HB.out)) hb); clear BK524; clear BK525; clear BK528; clear HB; have BK524 := n0_; have BK525 := n1_; have BK528 := n2_; have HB := n3_; clear n0_ n1_ n2_ n3_; (try clear hb); (try clear hb2); (try clear hk); (try clear hi)) | ((with_reducible refine gate_dst (N := 6) rfl ?_); refine box_event ?hg (N := 6) ?hd (cs := #[.int .i64 0, .int .i64 0]) (t := 25) ?hr ?_; (case hd => rfl); (case hg => rfl); (case hr => first | (go_simp; done) | (go_simp; rfl)); intro gb539 hg w57 hbox hb; have n0_ := Aside0.mk (blk_below (g := gb524) (o := .cells #[.int .i64 t518, .int .i64 t519, .int .i64 t520, .int .i64 t521] 40 (0, 0)) (by (with_reducible repeat (first | refine blk_drewN ?_ _ | refine blk_drew ?_ | refine blk_alloc ?_ _)); exact BK524.out) hb); have n1_ := Aside0.mk (blk_below (g := gb525) (o := .cells #[.int .i64 t522, .int .i64 t523] 38 (0, 0)) (by (with_reducible repeat (first | refine blk_drewN ?_ _ | refine blk_drew ?_ | refine blk_alloc ?_ _)); exact BK525.out) hb); have n2_ := Aside0.mk (blk_below (g := gb528) (o := .cells #[.int .i64 t526, .int .i64 t527] 25 (0, 0)) (by (with_reducible repeat (first | refine blk_drewN ?_ _ | refine blk_drew ?_ | refine blk_alloc ?_ _)); exact BK528.out) hb); have n3_ := Aside0.mk (below_step (by repeat (first | (with_reducible first | exact HB.out | apply below_alloc | apply pw_below_drewN | apply below_drew1 | refine below_set ?_ GE524.out | refine below_set ?_ GE525.out | refine below_set ?_ GE528.out) | exact HB.out)) hb); have n4_ := Aside0.mk (hbox); have n5_ := Aside0.mk ((by rw [hg]; exact (below_size (by repeat (first | (with_reducible first | exact HB.out | apply below_alloc | apply pw_below_drewN | apply below_drew1 | refine below_set ?_ GE524.out | refine below_set ?_ GE525.out | refine below_set ?_ GE528.out) | exact HB.out))) : w.heap.size ≤ gb539)); have n6_ := Aside0.mk ((by rw [hg]; exact (below_size (by repeat (first | (with_reducible first | exact HB.out | apply below_alloc | apply pw_below_drewN | apply below_drew1 | refine below_set ?_ GE524.out | refine below_set ?_ GE525.out | refine below_set ?_ GE528.out) | exact HB.out))) : w.heap.size ≤ gb539)); have n7_ := Aside0.mk ((by rw [hg]; exact Nat.ne_of_lt (blk_lt (g := gb524) (o := .cells #[.int .i64 t518, .int .i64 t519, .int .i64 t520, .int .i64 t521] 40 (0, 0)) (by (with_reducible repeat (first | refine blk_drewN ?_ _ | refine blk_drew ?_ | refine blk_alloc ?_ _)); exact BK524.out)) : gb524 ≠ gb539)); have n8_ := Aside0.mk ((by rw [hg]; exact Nat.ne_of_gt (blk_lt (g := gb524) (o := .cells #[.int .i64 t518, .int .i64 t519, .int .i64 t520, .int .i64 t521] 40 (0, 0)) (by (with_reducible repeat (first | refine blk_drewN ?_ _ | refine blk_drew ?_ | refine blk_alloc ?_ _)); exact BK524.out)) : gb539 ≠ gb524)); have n9_ := Aside0.mk ((by rw [hg]; exact Nat.ne_of_lt (blk_lt (g := gb525) (o := .cells #[.int .i64 t522, .int .i64 t523] 38 (0, 0)) (by (with_reducible repeat (first | refine blk_drewN ?_ _ | refine blk_drew ?_ | refine blk_alloc ?_ _)); exact BK525.out)) : gb525 ≠ gb539)); have n10_ := Aside0.mk ((by rw [hg]; exact Nat.ne_of_gt (blk_lt (g := gb525) (o := .cells #[.int .i64 t522, .int .i64 t523] 38 (0, 0)) (by (with_reducible repeat (first | refine blk_drewN ?_ _ | refine blk_drew ?_ | refine blk_alloc ?_ _)); exact BK525.out)) : gb539 ≠ gb525)); have n11_ := Aside0.mk ((by rw [hg]; exact Nat.ne_of_lt (blk_lt (g := gb528) (o := .cells #[.int .i64 t526, .int .i64 t527] 25 (0, 0)) (by (with_reducible repeat (first | refine blk_drewN ?_ _ | refine blk_drew ?_ | refine blk_alloc ?_ _)); exact BK528.out)) : gb528 ≠ gb539)); have n12_ := Aside0.mk ((by rw [hg]; exact Nat.ne_of_gt (blk_lt (g := gb528) (o := .cells #[.int .i64 t526, .int .i64 t527] 25 (0, 0)) (by (with_reducible repeat (first | refine blk_drewN ?_ _ | refine blk_drew ?_ | refine blk_alloc ?_ _)); exact BK528.out)) : gb539 ≠ gb528)); clear BK524; clear BK525; clear BK528; clear HB; have BK524 := n0_; have BK525 := n1_; have BK528 := n2_; have HB := n3_; have BK539 := n4_; have GW539 := n5_; have GE539 := n6_; have NB524_539 := n7_; have NB539_524 := n8_; have NB525_539 := n9_; have NB539_525 := n10_; have NB528_539 := n11_; have NB539_528 := n12_; clear n0_ n1_ n2_ n3_ n4_ n5_ n6_ n7_ n8_ n9_ n10_ n11_ n12_; clear hb hbox hg; have hnb58 := NB539_524.out; have hnc58 := NB524_539.out; have hnb59 := NB539_525.out; have hnc59 := NB525_539.out; have hnb60 := NB539_528.out; have hnc60 := NB528_539.out; have hcz61_0 : w57.cell? ⟨gb539, 0, none⟩ = some (.int .i64 0) := (blk_cell BK539.out 0).trans rfl; have hcz61_1 : w57.cell? ⟨gb539, 1, none⟩ = some (.int .i64 0) := (blk_cell BK539.out 1).trans rfl; have hfz61_0 := blk_frozen BK539.out 0; have hfz61_1 := blk_frozen BK539.out 1; have hcz62_0 : w57.cell? ⟨gb524, 0, none⟩ = some (.int .i64 t518) := (blk_cell BK524.out 0).trans rfl; have hcz62_1 : w57.cell? ⟨gb524, 1, none⟩ = some (.int .i64 t519) := (blk_cell BK524.out 1).trans rfl; have hcz62_2 : w57.cell? ⟨gb524, 2, none⟩ = some (.int .i64 t520) := (blk_cell BK524.out 2).trans rfl; have hcz62_3 : w57.cell? ⟨gb524, 3, none⟩ = some (.int .i64 t521) := (blk_cell BK524.out 3).trans rfl; have hfz62_0 := blk_frozen BK524.out 0; have hfz62_1 := blk_frozen BK524.out 1; have hfz62_2 := blk_frozen BK524.out 2; have hfz62_3 := blk_frozen BK524.out 3; have hcz63_0 : w57.cell? ⟨gb525, 0, none⟩ = some (.int .i64 t522) := (blk_cell BK525.out 0).trans rfl; have hcz63_1 : w57.cell? ⟨gb525, 1, none⟩ = some (.int .i64 t523) := (blk_cell BK525.out 1).trans rfl; have hfz63_0 := blk_frozen BK525.out 0; have hfz63_1 := blk_frozen BK525.out 1) | ((with_reducible refine gate_callee (f := 30) rfl ?_); refine goesL_ (some 53) rfl rfl Tryd.func30 (by kernel_rfl) rfl #[.agg #[.int .i64 t520, .int .i64 t521], .agg #[.int .i64 t522, .int .i64 t523]] rfl (by (try simp only [List.map_toArray, List.map_cons, List.map_nil]); first | done | rfl | (simp only [List.length_drop, List.length_take]; rfl)) ?_; (with_reducible refine (laws_luSq.calls t520 t521 t522 t523 t540 _ A40.out).mono ?_); rintro e w64 ⟨rfl, hb⟩; refine ⟨_, rfl, ?_⟩; have n0_ := Aside0.mk (blk_below (g := gb524) (o := .cells #[.int .i64 t518, .int .i64 t519, .int .i64 t520, .int .i64 t521] 40 (0, 0)) (by (with_reducible repeat (first | refine blk_drewN ?_ _ | refine blk_drew ?_ | refine blk_alloc ?_ _)); refine blk_far ?_ NB524_539.out _; (with_reducible repeat (first | refine blk_drewN ?_ _ | refine blk_drew ?_ | refine blk_alloc ?_ _)); refine blk_far ?_ NB524_539.out _; (with_reducible repeat (first | refine blk_drewN ?_ _ | refine blk_drew ?_ | refine blk_alloc ?_ _)); exact BK524.out) hb); have n1_ := Aside0.mk (blk_below (g := gb525) (o := .cells #[.int .i64 t522, .int .i64 t523] 38 (0, 0)) (by (with_reducible repeat (first | refine blk_drewN ?_ _ | refine blk_drew ?_ | refine blk_alloc ?_ _)); refine blk_far ?_ NB525_539.out _; (with_reducible repeat (first | refine blk_drewN ?_ _ | refine blk_drew ?_ | refine blk_alloc ?_ _)); refine blk_far ?_ NB525_539.out _; (with_reducible repeat (first | refine blk_drewN ?_ _ | refine blk_drew ?_ | refine blk_alloc ?_ _)); exact BK525.out) hb); have n2_ := Aside0.mk (blk_below (g := gb528) (o := .cells #[.int .i64 t526, .int .i64 t527] 25 (0, 0)) (by (with_reducible repeat (first | refine blk_drewN ?_ _ | refine blk_drew ?_ | refine blk_alloc ?_ _)); refine blk_far ?_ NB528_539.out _; (with_reducible repeat (first | refine blk_drewN ?_ _ | refine blk_drew ?_ | refine blk_alloc ?_ _)); refine blk_far ?_ NB528_539.out _; (with_reducible repeat (first | refine blk_drewN ?_ _ | refine blk_drew ?_ | refine blk_alloc ?_ _)); exact BK528.out) hb); have n3_ := Aside0.mk (blk_below (g := gb539) (o := .cells #[.int .i64 t536, .int .i64 t537] 25 (0, 0)) (by (with_reducible repeat (first | refine blk_drewN ?_ _ | refine blk_drew ?_ | refine blk_alloc ?_ _)); refine blk_put (cs := #[.int .i64 t536, .int .i64 0]) ?_ 1 _ rfl; (with_reducible repeat (first | refine blk_drewN ?_ _ | refine blk_drew ?_ | refine blk_alloc ?_ _)); refine blk_put (cs := #[.int .i64 0, .int .i64 0]) ?_ 0 _ rfl; (with_reducible repeat (first | refine blk_drewN ?_ _ | refine blk_drew ?_ | refine blk_alloc ?_ _)); exact BK539.out) hb); have n4_ := Aside0.mk (below_step (by repeat (first | (with_reducible first | exact HB.out | apply below_alloc | apply pw_below_drewN | apply below_drew1 | refine below_set ?_ GE524.out | refine below_set ?_ GE525.out | refine below_set ?_ GE528.out | refine below_set ?_ GE539.out) | exact HB.out)) hb); clear BK524; clear BK525; clear BK528; clear BK539; clear HB; have BK524 := n0_; have BK525 := n1_; have BK528 := n2_; have BK539 := n3_; have HB := n4_; clear n0_ n1_ n2_ n3_ n4_; (try clear hb); (try clear hb2); (try clear hk); (try clear hi)) | ((with_reducible refine gate_callee (f := 21) rfl ?_); refine goesL_ (some 54) rfl rfl Tryd.func21 (by kernel_rfl) rfl #[.int .i64 t540, .int .i64 1] rfl (by (try simp only [List.map_toArray, List.map_cons, List.map_nil]); first | done | rfl | (simp only [List.length_drop, List.length_take]; rfl)) ?_; (with_reducible refine (impl_FracOf.calls kj4 t540 1 t541 t542 t543 _ A41.out).mono ?_); rintro e w65 ⟨rfl, hb⟩; refine ⟨_, rfl, ?_⟩; have n0_ := Aside0.mk (blk_below (g := gb524) (o := .cells #[.int .i64 t518, .int .i64 t519, .int .i64 t520, .int .i64 t521] 40 (0, 0)) (by (with_reducible repeat (first | refine blk_drewN ?_ _ | refine blk_drew ?_ | refine blk_alloc ?_ _)); exact BK524.out) hb); have n1_ := Aside0.mk (blk_below (g := gb525) (o := .cells #[.int .i64 t522, .int .i64 t523] 38 (0, 0)) (by (with_reducible repeat (first | refine blk_drewN ?_ _ | refine blk_drew ?_ | refine blk_alloc ?_ _)); exact BK525.out) hb); have n2_ := Aside0.mk (blk_below (g := gb528) (o := .cells #[.int .i64 t526, .int .i64 t527] 25 (0, 0)) (by (with_reducible repeat (first | refine blk_drewN ?_ _ | refine blk_drew ?_ | refine blk_alloc ?_ _)); exact BK528.out) hb); have n3_ := Aside0.mk (blk_below (g := gb539) (o := .cells #[.int .i64 t536, .int .i64 t537] 25 (0, 0)) (by (with_reducible repeat (first | refine blk_drewN ?_ _ | refine blk_drew ?_ | refine blk_alloc ?_ _)); exact BK539.out) hb); have n4_ := Aside0.mk (below_step (by repeat (first | (with_reducible first | exact HB.out | apply below_alloc | apply pw_below_drewN | apply below_drew1 | refine below_set ?_ GE524.out | refine below_set ?_ GE525.out | refine below_set ?_ GE528.out | refine below_set ?_ GE539.out) | exact HB.out)) hb); clear BK524; clear BK525; clear BK528; clear BK539; clear HB; have BK524 := n0_; have BK525 := n1_; have BK528 := n2_; have BK539 := n3_; have HB := n4_; clear n0_ n1_ n2_ n3_ n4_; (try clear hb); (try clear hb2); (try clear hk); (try clear hi)) | ((with_reducible refine gate_dst (N := 8) rfl ?_); refine box_event ?hg (N := 8) ?hd (cs := #[.int .i64 0, .int .i64 0]) (t := 25) ?hr ?_; (case hd => rfl); (case hg => rfl); (case hr => first | (go_simp; done) | (go_simp; rfl)); intro gb544 hg w66 hbox hb; have n0_ := Aside0.mk (blk_below (g := gb524) (o := .cells #[.int .i64 t518, .int .i64 t519, .int .i64 t520, .int .i64 t521] 40 (0, 0)) (by (with_reducible repeat (first | refine blk_drewN ?_ _ | refine blk_drew ?_ | refine blk_alloc ?_ _)); exact BK524.out) hb); have n1_ := Aside0.mk (blk_below (g := gb525) (o := .cells #[.int .i64 t522, .int .i64 t523] 38 (0, 0)) (by (with_reducible repeat (first | refine blk_drewN ?_ _ | refine blk_drew ?_ | refine blk_alloc ?_ _)); exact BK525.out) hb); have n2_ := Aside0.mk (blk_below (g := gb528) (o := .cells #[.int .i64 t526, .int .i64 t527] 25 (0, 0)) (by (with_reducible repeat (first | refine blk_drewN ?_ _ | refine blk_drew ?_ | refine blk_alloc ?_ _)); exact BK528.out) hb); have n3_ := Aside0.mk (blk_below (g := gb539) (o := .cells #[.int .i64 t536, .int .i64 t537] 25 (0, 0)) (by (with_reducible repeat (first | refine blk_drewN ?_ _ | refine blk_drew ?_ | refine blk_alloc ?_ _)); exact BK539.out) hb); have n4_ := Aside0.mk (below_step (by repeat (first | (with_reducible first | exact HB.out | apply below_alloc | apply pw_below_drewN | apply below_drew1 | refine below_set ?_ GE524.out | refine below_set ?_ GE525.out | refine below_set ?_ GE528.out | refine below_set ?_ GE539.out) | exact HB.out)) hb); have n5_ := Aside0.mk (hbox); have n6_ := Aside0.mk ((by rw [hg]; exact (below_size (by repeat (first | (with_reducible first | exact HB.out | apply below_alloc | apply pw_below_drewN | apply below_drew1 | refine below_set ?_ GE524.out | refine below_set ?_ GE525.out | refine below_set ?_ GE528.out | refine below_set ?_ GE539.out) | exact HB.out))) : w.heap.size ≤ gb544)); have n7_ := Aside0.mk ((by rw [hg]; exact (below_size (by repeat (first | (with_reducible first | exact HB.out | apply below_alloc | apply pw_below_drewN | apply below_drew1 | refine below_set ?_ GE524.out | refine below_set ?_ GE525.out | refine below_set ?_ GE528.out | refine below_set ?_ GE539.out) | exact HB.out))) : w.heap.size ≤ gb544)); have n8_ := Aside0.mk ((by rw [hg]; exact Nat.ne_of_lt (blk_lt (g := gb524) (o := .cells #[.int .i64 t518, .int .i64 t519, .int .i64 t520, .int .i64 t521] 40 (0, 0)) (by (with_reducible repeat (first | refine blk_drewN ?_ _ | refine blk_drew ?_ | refine blk_alloc ?_ _)); exact BK524.out)) : gb524 ≠ gb544)); have n9_ := Aside0.mk ((by rw [hg]; exact Nat.ne_of_gt (blk_lt (g := gb524) (o := .cells #[.int .i64 t518, .int .i64 t519, .int .i64 t520, .int .i64 t521] 40 (0, 0)) (by (with_reducible repeat (first | refine blk_drewN ?_ _ | refine blk_drew ?_ | refine blk_alloc ?_ _)); exact BK524.out)) : gb544 ≠ gb524)); have n10_ := Aside0.mk ((by rw [hg]; exact Nat.ne_of_lt (blk_lt (g := gb525) (o := .cells #[.int .i64 t522, .int .i64 t523] 38 (0, 0)) (by (with_reducible repeat (first | refine blk_drewN ?_ _ | refine blk_drew ?_ | refine blk_alloc ?_ _)); exact BK525.out)) : gb525 ≠ gb544)); have n11_ := Aside0.mk ((by rw [hg]; exact Nat.ne_of_gt (blk_lt (g := gb525) (o := .cells #[.int .i64 t522, .int .i64 t523] 38 (0, 0)) (by (with_reducible repeat (first | refine blk_drewN ?_ _ | refine blk_drew ?_ | refine blk_alloc ?_ _)); exact BK525.out)) : gb544 ≠ gb525)); have n12_ := Aside0.mk ((by rw [hg]; exact Nat.ne_of_lt (blk_lt (g := gb528) (o := .cells #[.int .i64 t526, .int .i64 t527] 25 (0, 0)) (by (with_reducible repeat (first | refine blk_drewN ?_ _ | refine blk_drew ?_ | refine blk_alloc ?_ _)); exact BK528.out)) : gb528 ≠ gb544)); have n13_ := Aside0.mk ((by rw [hg]; exact Nat.ne_of_gt (blk_lt (g := gb528) (o := .cells #[.int .i64 t526, .int .i64 t527] 25 (0, 0)) (by (with_reducible repeat (first | refine blk_drewN ?_ _ | refine blk_drew ?_ | refine blk_alloc ?_ _)); exact BK528.out)) : gb544 ≠ gb528)); have n14_ := Aside0.mk ((by rw [hg]; exact Nat.ne_of_lt (blk_lt (g := gb539) (o := .cells #[.int .i64 t536, .int .i64 t537] 25 (0, 0)) (by (with_reducible repeat (first | refine blk_drewN ?_ _ | refine blk_drew ?_ | refine blk_alloc ?_ _)); exact BK539.out)) : gb539 ≠ gb544)); have n15_ := Aside0.mk ((by rw [hg]; exact Nat.ne_of_gt (blk_lt (g := gb539) (o := .cells #[.int .i64 t536, .int .i64 t537] 25 (0, 0)) (by (with_reducible repeat (first | refine blk_drewN ?_ _ | refine blk_drew ?_ | refine blk_alloc ?_ _)); exact BK539.out)) : gb544 ≠ gb539)); clear BK524; clear BK525; clear BK528; clear BK539; clear HB; have BK524 := n0_; have BK525 := n1_; have BK528 := n2_; have BK539 := n3_; have HB := n4_; have BK544 := n5_; have GW544 := n6_; have GE544 := n7_; have NB524_544 := n8_; have NB544_524 := n9_; have NB525_544 := n10_; have NB544_525 := n11_; have NB528_544 := n12_; have NB544_528 := n13_; have NB539_544 := n14_; have NB544_539 := n15_; clear n0_ n1_ n2_ n3_ n4_ n5_ n6_ n7_ n8_ n9_ n10_ n11_ n12_ n13_ n14_ n15_; clear hb hbox hg; have hnb67 := NB544_524.out; have hnc67 := NB524_544.out; have hnb68 := NB544_525.out; have hnc68 := NB525_544.out; have hnb69 := NB544_528.out; have hnc69 := NB528_544.out; have hnb70 := NB544_539.out; have hnc70 := NB539_544.out; have hcz71_0 : w66.cell? ⟨gb544, 0, none⟩ = some (.int .i64 0) := (blk_cell BK544.out 0).trans rfl; have hcz71_1 : w66.cell? ⟨gb544, 1, none⟩ = some (.int .i64 0) := (blk_cell BK544.out 1).trans rfl; have hfz71_0 := blk_frozen BK544.out 0; have hfz71_1 := blk_frozen BK544.out 1))
                have n0_ : Aside0 (((w66.setCell ⟨gb544, 0, none⟩ (.int .i64 t541)).setCell ⟨gb544, 1, none⟩ (.int .i64 t542)).heap[gb524]? = some (.cells #[.int .i64 t518, .int .i64 t519, .int .i64 t520, .int .i64 t521] 40 (0, 0))) := ⟨by (with_reducible repeat (first | refine blk_drewN ?_ _ | refine blk_drew ?_ | refine blk_alloc ?_ _)); refine blk_far ?_ NB524_544.out _; (with_reducible repeat (first | refine blk_drewN ?_ _ | refine blk_drew ?_ | refine blk_alloc ?_ _)); refine blk_far ?_ NB524_544.out _; (with_reducible repeat (first | refine blk_drewN ?_ _ | refine blk_drew ?_ | refine blk_alloc ?_ _)); exact BK524.out⟩
                have n1_ : Aside0 (((w66.setCell ⟨gb544, 0, none⟩ (.int .i64 t541)).setCell ⟨gb544, 1, none⟩ (.int .i64 t542)).heap[gb525]? = some (.cells #[.int .i64 t522, .int .i64 t523] 38 (0, 0))) := ⟨by (with_reducible repeat (first | refine blk_drewN ?_ _ | refine blk_drew ?_ | refine blk_alloc ?_ _)); refine blk_far ?_ NB525_544.out _; (with_reducible repeat (first | refine blk_drewN ?_ _ | refine blk_drew ?_ | refine blk_alloc ?_ _)); refine blk_far ?_ NB525_544.out _; (with_reducible repeat (first | refine blk_drewN ?_ _ | refine blk_drew ?_ | refine blk_alloc ?_ _)); exact BK525.out⟩
                have n2_ : Aside0 (((w66.setCell ⟨gb544, 0, none⟩ (.int .i64 t541)).setCell ⟨gb544, 1, none⟩ (.int .i64 t542)).heap[gb528]? = some (.cells #[.int .i64 t526, .int .i64 t527] 25 (0, 0))) := ⟨by (with_reducible repeat (first | refine blk_drewN ?_ _ | refine blk_drew ?_ | refine blk_alloc ?_ _)); refine blk_far ?_ NB528_544.out _; (with_reducible repeat (first | refine blk_drewN ?_ _ | refine blk_drew ?_ | refine blk_alloc ?_ _)); refine blk_far ?_ NB528_544.out _; (with_reducible repeat (first | refine blk_drewN ?_ _ | refine blk_drew ?_ | refine blk_alloc ?_ _)); exact BK528.out⟩
                have n3_ : Aside0 (((w66.setCell ⟨gb544, 0, none⟩ (.int .i64 t541)).setCell ⟨gb544, 1, none⟩ (.int .i64 t542)).heap[gb539]? = some (.cells #[.int .i64 t536, .int .i64 t537] 25 (0, 0))) := ⟨by (with_reducible repeat (first | refine blk_drewN ?_ _ | refine blk_drew ?_ | refine blk_alloc ?_ _)); refine blk_far ?_ NB539_544.out _; (with_reducible repeat (first | refine blk_drewN ?_ _ | refine blk_drew ?_ | refine blk_alloc ?_ _)); refine blk_far ?_ NB539_544.out _; (with_reducible repeat (first | refine blk_drewN ?_ _ | refine blk_drew ?_ | refine blk_alloc ?_ _)); exact BK539.out⟩
                have n4_ : Aside0 (((w66.setCell ⟨gb544, 0, none⟩ (.int .i64 t541)).setCell ⟨gb544, 1, none⟩ (.int .i64 t542)).heap[gb544]? = some (.cells #[.int .i64 t541, .int .i64 t542] 25 (0, 0))) := ⟨by (with_reducible repeat (first | refine blk_drewN ?_ _ | refine blk_drew ?_ | refine blk_alloc ?_ _)); refine blk_put (cs := #[.int .i64 t541, .int .i64 0]) ?_ 1 _ rfl; (with_reducible repeat (first | refine blk_drewN ?_ _ | refine blk_drew ?_ | refine blk_alloc ?_ _)); refine blk_put (cs := #[.int .i64 0, .int .i64 0]) ?_ 0 _ rfl; (with_reducible repeat (first | refine blk_drewN ?_ _ | refine blk_drew ?_ | refine blk_alloc ?_ _)); exact BK544.out⟩
                have n5_ : Aside0 (Below w.heap.size w ((w66.setCell ⟨gb544, 0, none⟩ (.int .i64 t541)).setCell ⟨gb544, 1, none⟩ (.int .i64 t542))) := ⟨by repeat (first | (with_reducible first | exact HB.out | apply below_alloc | apply pw_below_drewN | apply below_drew1 | refine below_set ?_ GE524.out | refine below_set ?_ GE525.out | refine below_set ?_ GE528.out | refine below_set ?_ GE539.out | refine below_set ?_ GE544.out) | exact HB.out)⟩
                (try clear BK524)
                (try clear BK525)
                (try clear BK528)
                (try clear BK539)
                (try clear BK544)
                (try clear HB)
                generalize ((w66.setCell ⟨gb544, 0, none⟩ (.int .i64 t541)).setCell ⟨gb544, 1, none⟩ (.int .i64 t542)) = w72 at n0_ n1_ n2_ n3_ n4_ n5_ ⊢
                have BK524 := n0_
                have BK525 := n1_
                have BK528 := n2_
                have BK539 := n3_
                have BK544 := n4_
                have HB := n5_
                clear n0_ n1_ n2_ n3_ n4_ n5_
                have n0_ := Aside0.mk (blk_drew BK524.out)
                have n1_ := Aside0.mk (blk_drew BK525.out)
                have n2_ := Aside0.mk (blk_drew BK528.out)
                have n3_ := Aside0.mk (blk_drew BK539.out)
                have n4_ := Aside0.mk (blk_drew BK544.out)
                have n5_ := Aside0.mk (below_drew1 HB.out)
                clear BK524
                clear BK525
                clear BK528
                clear BK539
                clear BK544
                clear HB
                have BK524 := n0_
                have BK525 := n1_
                have BK528 := n2_
                have BK539 := n3_
                have BK544 := n4_
                have HB := n5_
                clear n0_ n1_ n2_ n3_ n4_ n5_
                refine start_ (n := 23) (S := fun w' => w'.cell? ⟨gb528, 0, none⟩ = some (.int .i64 t526) ∧ w'.cell? ⟨gb528, 1, none⟩ = some (.int .i64 t527) ∧ w'.cell? ⟨gb539, 0, none⟩ = some (.int .i64 t536) ∧ w'.cell? ⟨gb539, 1, none⟩ = some (.int .i64 t537) ∧ w'.cell? ⟨gb544, 0, none⟩ = some (.int .i64 t541) ∧ w'.cell? ⟨gb544, 1, none⟩ = some (.int .i64 t542) ∧ w'.cell? ⟨gb524, 0, none⟩ = some (.int .i64 t518) ∧ w'.cell? ⟨gb524, 1, none⟩ = some (.int .i64 t519) ∧ w'.cell? ⟨gb524, 2, none⟩ = some (.int .i64 t520) ∧ w'.cell? ⟨gb524, 3, none⟩ = some (.int .i64 t521) ∧ w'.cell? ⟨gb525, 0, none⟩ = some (.int .i64 t522) ∧ w'.cell? ⟨gb525, 1, none⟩ = some (.int .i64 t523)) (ds := []) #[false, false, false, false, false, false, false, false, false, false, false, false, false, false, false, false, false, false, false, false, false, false, false] (by kernel_rfl) rfl rfl ⟨(blk_cell BK528.out 0).trans rfl, (blk_cell BK528.out 1).trans rfl, (blk_cell BK539.out 0).trans rfl, (blk_cell BK539.out 1).trans rfl, (blk_cell BK544.out 0).trans rfl, (blk_cell BK544.out 1).trans rfl, (blk_cell BK524.out 0).trans rfl, (blk_cell BK524.out 1).trans rfl, (blk_cell BK524.out 2).trans rfl, (blk_cell BK524.out 3).trans rfl, (blk_cell BK525.out 0).trans rfl, (blk_cell BK525.out 1).trans rfl⟩ (fun hHeld => ?_); refine with_tabW laws_FnFarEnds.tab9 laws_FnFarEnds.bits9 (fun HT_ HW_ => ?_)
                generalize w72.drew = w73 at BK524 BK525 BK528 BK539 BK544 HB hHeld ⊢
                refine take_ (i := 0) (N := some 57) (v := ?_) (a' := ?_) #[true, false, false, false, false, false, false, false, false, false, false, false, false, false, false, false, false, false, false, false, false, false, false] rfl rfl (take_ofW HT_.out HW_.out (by kernel_rfl)) (fun _ _ _ h => h) (Or.inl ⟨by rfl, ?_⟩) hHeld ?_ ?_
                rotate_left
                · rintro w' ⟨s0, s1, s2, s3, s4, s5, s6, s7, s8, s9, s10, s11⟩
                  go_simp
                  with_reducible rfl
                rotate_left
                · simp only [Act.put, List.setIfInBounds_toArray, List.set_cons_zero, List.set_cons_succ, i64_w, i32_w]
                  rfl
                refine take_ (i := 1) (N := some 58) (v := ?_) (a' := ?_) #[true, true, false, false, false, false, false, false, false, false, false, false, false, false, false, false, false, false, false, false, false, false, false] rfl rfl (take_ofW HT_.out HW_.out (by kernel_rfl)) (fun _ _ _ h => h) (Or.inl ⟨by rfl, ?_⟩) hHeld ?_ ?_
                rotate_left
                · rintro w' ⟨s0, s1, s2, s3, s4, s5, s6, s7, s8, s9, s10, s11⟩
                  go_simp
                  with_reducible rfl
                rotate_left
                · simp only [Act.put, List.setIfInBounds_toArray, List.set_cons_zero, List.set_cons_succ, i64_w, i32_w]
                  rfl
                refine one_ (i := 2) (N := some 59) #[true, true, true, false, false, false, false, false, false, false, false, false, false, false, false, false, false, false, false, false, false, false, false] rfl rfl (one_of HT_.out (by kernel_rfl)) (by decide) (fun K hK => ?_)
                refine goes_ Tryd.func17 (by kernel_rfl) rfl #[.agg #[.int .i64 t526, .int .i64 t527], .agg #[.int .i64 t536, .int .i64 t537]] (by rfl) rfl rfl (by (try simp only [List.map_toArray, List.map_cons, List.map_nil]); first | done | rfl | (simp only [List.length_drop, List.length_take]; rfl)) ?_
                with_reducible refine (impl_FracCmp.calls t526 t527 t536 t537 t545 _ ?side1 A42.out).mono ?_
                (case side1 => exact ErrW.below HE.out (by repeat (first | (with_reducible first | exact HB.out | apply below_alloc | apply pw_below_drewN | apply below_drew1 | refine below_set ?_ GE524.out | refine below_set ?_ GE525.out | refine below_set ?_ GE528.out | refine below_set ?_ GE539.out | refine below_set ?_ GE544.out) | exact HB.out)))
                rintro e w74 ⟨rfl, hb⟩
                refine ⟨_, rfl, ?_⟩
                have n0_ := Aside0.mk (blk_below (g := gb524) (o := .cells #[.int .i64 t518, .int .i64 t519, .int .i64 t520, .int .i64 t521] 40 (0, 0)) (by (with_reducible repeat (first | refine blk_drewN ?_ _ | refine blk_drew ?_ | refine blk_alloc ?_ _)); exact BK524.out) hb)
                have n1_ := Aside0.mk (blk_below (g := gb525) (o := .cells #[.int .i64 t522, .int .i64 t523] 38 (0, 0)) (by (with_reducible repeat (first | refine blk_drewN ?_ _ | refine blk_drew ?_ | refine blk_alloc ?_ _)); exact BK525.out) hb)
                have n2_ := Aside0.mk (blk_below (g := gb528) (o := .cells #[.int .i64 t526, .int .i64 t527] 25 (0, 0)) (by (with_reducible repeat (first | refine blk_drewN ?_ _ | refine blk_drew ?_ | refine blk_alloc ?_ _)); exact BK528.out) hb)
                have n3_ := Aside0.mk (blk_below (g := gb539) (o := .cells #[.int .i64 t536, .int .i64 t537] 25 (0, 0)) (by (with_reducible repeat (first | refine blk_drewN ?_ _ | refine blk_drew ?_ | refine blk_alloc ?_ _)); exact BK539.out) hb)
                have n4_ := Aside0.mk (blk_below (g := gb544) (o := .cells #[.int .i64 t541, .int .i64 t542] 25 (0, 0)) (by (with_reducible repeat (first | refine blk_drewN ?_ _ | refine blk_drew ?_ | refine blk_alloc ?_ _)); exact BK544.out) hb)
                have n5_ := Aside0.mk (below_step (by repeat (first | (with_reducible first | exact HB.out | apply below_alloc | apply pw_below_drewN | apply below_drew1 | refine below_set ?_ GE524.out | refine below_set ?_ GE525.out | refine below_set ?_ GE528.out | refine below_set ?_ GE539.out | refine below_set ?_ GE544.out) | exact HB.out)) hb)
                clear BK524
                clear BK525
                clear BK528
                clear BK539
                clear BK544
                clear HB
                have BK524 := n0_
                have BK525 := n1_
                have BK528 := n2_
                have BK539 := n3_
                have BK544 := n4_
                have HB := n5_
                clear n0_ n1_ n2_ n3_ n4_ n5_
                (try clear hb)
                (try clear hb2)
                (try clear hk)
                (try clear hi)
                refine hK.out _ _ ⟨(blk_cell BK528.out 0).trans rfl, (blk_cell BK528.out 1).trans rfl, (blk_cell BK539.out 0).trans rfl, (blk_cell BK539.out 1).trans rfl, (blk_cell BK544.out 0).trans rfl, (blk_cell BK544.out 1).trans rfl, (blk_cell BK524.out 0).trans rfl, (blk_cell BK524.out 1).trans rfl, (blk_cell BK524.out 2).trans rfl, (blk_cell BK524.out 3).trans rfl, (blk_cell BK525.out 0).trans rfl, (blk_cell BK525.out 1).trans rfl⟩ (fun hHeld => ?_)
                clear hK K
                refine norm_ (a' := ?_) ?_ ?_
                rotate_left
                · show Act.put _ (some 59) _ = _
                  simp only [Act.put, List.setIfInBounds_toArray, List.set_cons_zero, List.set_cons_succ, i64_w, i32_w]
                  rfl
                refine pure_ (i := 3) (N := some 60) (v := ?_) (a' := ?_) #[true, true, true, true, false, false, false, false, false, false, false, false, false, false, false, false, false, false, false, false, false, false, false] rfl rfl (any_of HT_.out (by kernel_rfl)) (fun _ _ _ h => h) (Or.inl ⟨by rfl, ?_⟩) ?_ ?_
                rotate_left
                · intro w'
                  go_simp
                  with_reducible rfl
                rotate_left
                · simp only [Act.put, List.setIfInBounds_toArray, List.set_cons_zero, List.set_cons_succ, i64_w, i32_w]
                  rfl
                refine pure_ (i := 4) (N := some 61) (v := ?_) (a' := ?_) #[true, true, true, true, true, false, false, false, false, false, false, false, false, false, false, false, false, false, false, false, false, false, false] rfl rfl (any_of HT_.out (by kernel_rfl)) (fun _ _ _ h => h) (Or.inl ⟨by rfl, ?_⟩) ?_ ?_
                rotate_left
                · intro w'
                  go_simp
                  with_reducible rfl
                rotate_left
                · simp only [Act.put, List.setIfInBounds_toArray, List.set_cons_zero, List.set_cons_succ, i64_w, i32_w]
                  rfl
                refine take_ (i := 5) (N := some 62) (v := ?_) (a' := ?_) #[true, true, true, true, true, true, false, false, false, false, false, false, false, false, false, false, false, false, false, false, false, false, false] rfl rfl (take_ofW HT_.out HW_.out (by kernel_rfl)) (fun _ _ _ h => h) (Or.inl ⟨by rfl, ?_⟩) hHeld ?_ ?_
                rotate_left
                · rintro w' ⟨s0, s1, s2, s3, s4, s5, s6, s7, s8, s9, s10, s11⟩
                  go_simp
                  with_reducible rfl
                rotate_left
                · simp only [Act.put, List.setIfInBounds_toArray, List.set_cons_zero, List.set_cons_succ, i64_w, i32_w]
                  rfl
                refine take_ (i := 6) (N := some 63) (v := ?_) (a' := ?_) #[true, true, true, true, true, true, true, false, false, false, false, false, false, false, false, false, false, false, false, false, false, false, false] rfl rfl (take_ofW HT_.out HW_.out (by kernel_rfl)) (fun _ _ _ h => h) (Or.inl ⟨by rfl, ?_⟩) hHeld ?_ ?_
                rotate_left
                · rintro w' ⟨s0, s1, s2, s3, s4, s5, s6, s7, s8, s9, s10, s11⟩
                  go_simp
                  with_reducible rfl
                rotate_left
                · simp only [Act.put, List.setIfInBounds_toArray, List.set_cons_zero, List.set_cons_succ, i64_w, i32_w]
                  rfl
                refine one_ (i := 7) (N := some 64) #[true, true, true, true, true, true, true, true, false, false, false, false, false, false, false, false, false, false, false, false, false, false, false] rfl rfl (one_of HT_.out (by kernel_rfl)) (by decide) (fun K hK => ?_)
                refine goes_ Tryd.func17 (by kernel_rfl) rfl #[.agg #[.int .i64 t526, .int .i64 t527], .agg #[.int .i64 t541, .int .i64 t542]] (by rfl) rfl rfl (by (try simp only [List.map_toArray, List.map_cons, List.map_nil]); first | done | rfl | (simp only [List.length_drop, List.length_take]; rfl)) ?_
                with_reducible refine (impl_FracCmp.calls t526 t527 t541 t542 t546 _ ?side1 A44.out).mono ?_
                (case side1 => exact ErrW.below HE.out (by repeat (first | (with_reducible first | exact HB.out | apply below_alloc | apply pw_below_drewN | apply below_drew1 | refine below_set ?_ GE524.out | refine below_set ?_ GE525.out | refine below_set ?_ GE528.out | refine below_set ?_ GE539.out | refine below_set ?_ GE544.out) | exact HB.out)))
                rintro e w75 ⟨rfl, hb⟩
                refine ⟨_, rfl, ?_⟩
                have n0_ := Aside0.mk (blk_below (g := gb524) (o := .cells #[.int .i64 t518, .int .i64 t519, .int .i64 t520, .int .i64 t521] 40 (0, 0)) (by (with_reducible repeat (first | refine blk_drewN ?_ _ | refine blk_drew ?_ | refine blk_alloc ?_ _)); exact BK524.out) hb)
                have n1_ := Aside0.mk (blk_below (g := gb525) (o := .cells #[.int .i64 t522, .int .i64 t523] 38 (0, 0)) (by (with_reducible repeat (first | refine blk_drewN ?_ _ | refine blk_drew ?_ | refine blk_alloc ?_ _)); exact BK525.out) hb)
                have n2_ := Aside0.mk (blk_below (g := gb528) (o := .cells #[.int .i64 t526, .int .i64 t527] 25 (0, 0)) (by (with_reducible repeat (first | refine blk_drewN ?_ _ | refine blk_drew ?_ | refine blk_alloc ?_ _)); exact BK528.out) hb)
                have n3_ := Aside0.mk (blk_below (g := gb539) (o := .cells #[.int .i64 t536, .int .i64 t537] 25 (0, 0)) (by (with_reducible repeat (first | refine blk_drewN ?_ _ | refine blk_drew ?_ | refine blk_alloc ?_ _)); exact BK539.out) hb)
                have n4_ := Aside0.mk (blk_below (g := gb544) (o := .cells #[.int .i64 t541, .int .i64 t542] 25 (0, 0)) (by (with_reducible repeat (first | refine blk_drewN ?_ _ | refine blk_drew ?_ | refine blk_alloc ?_ _)); exact BK544.out) hb)
                have n5_ := Aside0.mk (below_step (by repeat (first | (with_reducible first | exact HB.out | apply below_alloc | apply pw_below_drewN | apply below_drew1 | refine below_set ?_ GE524.out | refine below_set ?_ GE525.out | refine below_set ?_ GE528.out | refine below_set ?_ GE539.out | refine below_set ?_ GE544.out) | exact HB.out)) hb)
                clear BK524
                clear BK525
                clear BK528
                clear BK539
                clear BK544
                clear HB
                have BK524 := n0_
                have BK525 := n1_
                have BK528 := n2_
                have BK539 := n3_
                have BK544 := n4_
                have HB := n5_
                clear n0_ n1_ n2_ n3_ n4_ n5_
                (try clear hb)
                (try clear hb2)
                (try clear hk)
                (try clear hi)
                refine hK.out _ _ ⟨(blk_cell BK528.out 0).trans rfl, (blk_cell BK528.out 1).trans rfl, (blk_cell BK539.out 0).trans rfl, (blk_cell BK539.out 1).trans rfl, (blk_cell BK544.out 0).trans rfl, (blk_cell BK544.out 1).trans rfl, (blk_cell BK524.out 0).trans rfl, (blk_cell BK524.out 1).trans rfl, (blk_cell BK524.out 2).trans rfl, (blk_cell BK524.out 3).trans rfl, (blk_cell BK525.out 0).trans rfl, (blk_cell BK525.out 1).trans rfl⟩ (fun hHeld => ?_)
                clear hK K
                refine norm_ (a' := ?_) ?_ ?_
                rotate_left
                · show Act.put _ (some 64) _ = _
                  simp only [Act.put, List.setIfInBounds_toArray, List.set_cons_zero, List.set_cons_succ, i64_w, i32_w]
                  rfl
                refine pure_ (i := 8) (N := some 65) (v := ?_) (a' := ?_) #[true, true, true, true, true, true, true, true, true, false, false, false, false, false, false, false, false, false, false, false, false, false, false] rfl rfl (any_of HT_.out (by kernel_rfl)) (fun _ _ _ h => h) (Or.inl ⟨by rfl, ?_⟩) ?_ ?_
                rotate_left
                · intro w'
                  go_simp
                  with_reducible rfl
                rotate_left
                · simp only [Act.put, List.setIfInBounds_toArray, List.set_cons_zero, List.set_cons_succ, i64_w, i32_w]
                  rfl
                refine pure_ (i := 9) (N := some 66) (v := ?_) (a' := ?_) #[true, true, true, true, true, true, true, true, true, true, false, false, false, false, false, false, false, false, false, false, false, false, false] rfl rfl (any_of HT_.out (by kernel_rfl)) (fun _ _ _ h => h) (Or.inl ⟨by rfl, ?_⟩) ?_ ?_
                rotate_left
                · intro w'
                  go_simp
                  with_reducible rfl
                rotate_left
                · simp only [Act.put, List.setIfInBounds_toArray, List.set_cons_zero, List.set_cons_succ, i64_w, i32_w]
                  rfl
                refine pure_ (i := 10) (N := some 67) (v := ?_) (a' := ?_) #[true, true, true, true, true, true, true, true, true, true, true, false, false, false, false, false, false, false, false, false, false, false, false] rfl rfl (any_of HT_.out (by kernel_rfl)) (fun _ _ _ h => h) (Or.inl ⟨by rfl, ?_⟩) ?_ ?_
                rotate_left
                · intro w'
                  go_simp
                  with_reducible rfl
                rotate_left
                · simp only [Act.put, List.setIfInBounds_toArray, List.set_cons_zero, List.set_cons_succ, i64_w, i32_w]
                  rfl
                refine take_ (i := 11) (N := some 68) (v := ?_) (a' := ?_) #[true, true, true, true, true, true, true, true, true, true, true, true, false, false, false, false, false, false, false, false, false, false, false] rfl rfl (take_ofW HT_.out HW_.out (by kernel_rfl)) (fun _ _ _ h => h) (Or.inl ⟨by rfl, ?_⟩) hHeld ?_ ?_
                rotate_left
                · rintro w' ⟨s0, s1, s2, s3, s4, s5, s6, s7, s8, s9, s10, s11⟩
                  go_simp
                  with_reducible rfl
                rotate_left
                · simp only [Act.put, List.setIfInBounds_toArray, List.set_cons_zero, List.set_cons_succ, i64_w, i32_w]
                  rfl
                refine one_ (i := 12) (N := some 69) #[true, true, true, true, true, true, true, true, true, true, true, true, true, false, false, false, false, false, false, false, false, false, false] rfl rfl (one_of HT_.out (by kernel_rfl)) (by decide) (fun K hK => ?_)
                refine goes_ Tryd.func19 (by kernel_rfl) rfl #[.agg #[.int .i64 t526, .int .i64 t527]] (by rfl) rfl rfl (by (try simp only [List.map_toArray, List.map_cons, List.map_nil]); first | done | rfl | (simp only [List.length_drop, List.length_take]; rfl)) ?_
                with_reducible refine (impl_FracOk.calls t526 t527 true _ ?side1 A46.out).mono ?_
                (case side1 => exact ErrW.below HE.out (by repeat (first | (with_reducible first | exact HB.out | apply below_alloc | apply pw_below_drewN | apply below_drew1 | refine below_set ?_ GE524.out | refine below_set ?_ GE525.out | refine below_set ?_ GE528.out | refine below_set ?_ GE539.out | refine below_set ?_ GE544.out) | exact HB.out)))
                rintro e w76 ⟨rfl, hb⟩
                refine ⟨_, rfl, ?_⟩
                have n0_ := Aside0.mk (blk_below (g := gb524) (o := .cells #[.int .i64 t518, .int .i64 t519, .int .i64 t520, .int .i64 t521] 40 (0, 0)) (by (with_reducible repeat (first | refine blk_drewN ?_ _ | refine blk_drew ?_ | refine blk_alloc ?_ _)); exact BK524.out) hb)
                have n1_ := Aside0.mk (blk_below (g := gb525) (o := .cells #[.int .i64 t522, .int .i64 t523] 38 (0, 0)) (by (with_reducible repeat (first | refine blk_drewN ?_ _ | refine blk_drew ?_ | refine blk_alloc ?_ _)); exact BK525.out) hb)
                have n2_ := Aside0.mk (blk_below (g := gb528) (o := .cells #[.int .i64 t526, .int .i64 t527] 25 (0, 0)) (by (with_reducible repeat (first | refine blk_drewN ?_ _ | refine blk_drew ?_ | refine blk_alloc ?_ _)); exact BK528.out) hb)
                have n3_ := Aside0.mk (blk_below (g := gb539) (o := .cells #[.int .i64 t536, .int .i64 t537] 25 (0, 0)) (by (with_reducible repeat (first | refine blk_drewN ?_ _ | refine blk_drew ?_ | refine blk_alloc ?_ _)); exact BK539.out) hb)
                have n4_ := Aside0.mk (blk_below (g := gb544) (o := .cells #[.int .i64 t541, .int .i64 t542] 25 (0, 0)) (by (with_reducible repeat (first | refine blk_drewN ?_ _ | refine blk_drew ?_ | refine blk_alloc ?_ _)); exact BK544.out) hb)
                have n5_ := Aside0.mk (below_step (by repeat (first | (with_reducible first | exact HB.out | apply below_alloc | apply pw_below_drewN | apply below_drew1 | refine below_set ?_ GE524.out | refine below_set ?_ GE525.out | refine below_set ?_ GE528.out | refine below_set ?_ GE539.out | refine below_set ?_ GE544.out) | exact HB.out)) hb)
                clear BK524
                clear BK525
                clear BK528
                clear BK539
                clear BK544
                clear HB
                have BK524 := n0_
                have BK525 := n1_
                have BK528 := n2_
                have BK539 := n3_
                have BK544 := n4_
                have HB := n5_
                clear n0_ n1_ n2_ n3_ n4_ n5_
                (try clear hb)
                (try clear hb2)
                (try clear hk)
                (try clear hi)
                refine hK.out _ _ ⟨(blk_cell BK528.out 0).trans rfl, (blk_cell BK528.out 1).trans rfl, (blk_cell BK539.out 0).trans rfl, (blk_cell BK539.out 1).trans rfl, (blk_cell BK544.out 0).trans rfl, (blk_cell BK544.out 1).trans rfl, (blk_cell BK524.out 0).trans rfl, (blk_cell BK524.out 1).trans rfl, (blk_cell BK524.out 2).trans rfl, (blk_cell BK524.out 3).trans rfl, (blk_cell BK525.out 0).trans rfl, (blk_cell BK525.out 1).trans rfl⟩ (fun hHeld => ?_)
                clear hK K
                refine norm_ (a' := ?_) ?_ ?_
                rotate_left
                · show Act.put _ (some 69) _ = _
                  simp only [Act.put, List.setIfInBounds_toArray, List.set_cons_zero, List.set_cons_succ, i64_w, i32_w]
                  rfl
                refine pure_ (i := 13) (N := some 70) (v := ?_) (a' := ?_) #[true, true, true, true, true, true, true, true, true, true, true, true, true, true, false, false, false, false, false, false, false, false, false] rfl rfl (any_of HT_.out (by kernel_rfl)) (fun _ _ _ h => h) (Or.inl ⟨by rfl, ?_⟩) ?_ ?_
                rotate_left
                · intro w'
                  go_simp
                  with_reducible rfl
                rotate_left
                · simp only [Act.put, List.setIfInBounds_toArray, List.set_cons_zero, List.set_cons_succ, i64_w, i32_w]
                  rfl
                refine pure_ (i := 14) (N := some 71) (v := ?_) (a' := ?_) #[true, true, true, true, true, true, true, true, true, true, true, true, true, true, true, false, false, false, false, false, false, false, false] rfl rfl (any_of HT_.out (by kernel_rfl)) (fun _ _ _ h => h) (Or.inl ⟨by rfl, ?_⟩) ?_ ?_
                rotate_left
                · intro w'
                  go_simp
                  with_reducible rfl
                rotate_left
                · simp only [Act.put, List.setIfInBounds_toArray, List.set_cons_zero, List.set_cons_succ, i64_w, i32_w]
                  rfl
                refine take_ (i := 15) (N := some 72) (v := ?_) (a' := ?_) #[true, true, true, true, true, true, true, true, true, true, true, true, true, true, true, true, false, false, false, false, false, false, false] rfl rfl (take_ofW HT_.out HW_.out (by kernel_rfl)) (fun _ _ _ h => h) (Or.inl ⟨by rfl, ?_⟩) hHeld ?_ ?_
                rotate_left
                · rintro w' ⟨s0, s1, s2, s3, s4, s5, s6, s7, s8, s9, s10, s11⟩
                  go_simp
                  with_reducible rfl
                rotate_left
                · simp only [Act.put, List.setIfInBounds_toArray, List.set_cons_zero, List.set_cons_succ, i64_w, i32_w]
                  rfl
                refine take_ (i := 17) (N := some 74) (v := ?_) (a' := ?_) #[true, true, true, true, true, true, true, true, true, true, true, true, true, true, true, true, false, true, false, false, false, false, false] rfl rfl (take_ofW HT_.out HW_.out (by kernel_rfl)) (fun _ _ _ h => h) (Or.inl ⟨by rfl, ?_⟩) hHeld ?_ ?_
                rotate_left
                · rintro w' ⟨s0, s1, s2, s3, s4, s5, s6, s7, s8, s9, s10, s11⟩
                  go_simp
                  with_reducible rfl
                rotate_left
                · simp only [Act.put, List.setIfInBounds_toArray, List.set_cons_zero, List.set_cons_succ, i64_w, i32_w]
                  rfl
                refine take_ (i := 19) (N := some 76) (v := ?_) (a' := ?_) #[true, true, true, true, true, true, true, true, true, true, true, true, true, true, true, true, false, true, false, true, false, false, false] rfl rfl (take_ofW HT_.out HW_.out (by kernel_rfl)) (fun _ _ _ h => h) (Or.inl ⟨by rfl, ?_⟩) hHeld ?_ ?_
                rotate_left
                · rintro w' ⟨s0, s1, s2, s3, s4, s5, s6, s7, s8, s9, s10, s11⟩
                  go_simp
                  with_reducible rfl
                rotate_left
                · simp only [Act.put, List.setIfInBounds_toArray, List.set_cons_zero, List.set_cons_succ, i64_w, i32_w]
                  rfl
                refine one_ (i := 16) (N := some 73) #[true, true, true, true, true, true, true, true, true, true, true, true, true, true, true, true, true, true, false, true, false, false, false] rfl rfl (one_of HT_.out (by kernel_rfl)) (by decide) (fun K hK => ?_)
                refine goes_ Tryd.func35 (by kernel_rfl) rfl #[.agg #[.int .i64 t518, .int .i64 t519, .int .i64 t520, .int .i64 t521]] (by rfl) rfl rfl (by (try simp only [List.map_toArray, List.map_cons, List.map_nil]); first | done | rfl | (simp only [List.length_drop, List.length_take]; rfl)) ?_
                with_reducible refine (laws_luBack.calls t518 t519 t520 t521 t548 t549 t550 t551 _ A48.out).mono ?_
                rintro e w77 ⟨rfl, hb⟩
                refine ⟨_, rfl, ?_⟩
                have n0_ := Aside0.mk (blk_below (g := gb524) (o := .cells #[.int .i64 t518, .int .i64 t519, .int .i64 t520, .int .i64 t521] 40 (0, 0)) (by (with_reducible repeat (first | refine blk_drewN ?_ _ | refine blk_drew ?_ | refine blk_alloc ?_ _)); exact BK524.out) hb)
                have n1_ := Aside0.mk (blk_below (g := gb525) (o := .cells #[.int .i64 t522, .int .i64 t523] 38 (0, 0)) (by (with_reducible repeat (first | refine blk_drewN ?_ _ | refine blk_drew ?_ | refine blk_alloc ?_ _)); exact BK525.out) hb)
                have n2_ := Aside0.mk (blk_below (g := gb528) (o := .cells #[.int .i64 t526, .int .i64 t527] 25 (0, 0)) (by (with_reducible repeat (first | refine blk_drewN ?_ _ | refine blk_drew ?_ | refine blk_alloc ?_ _)); exact BK528.out) hb)
                have n3_ := Aside0.mk (blk_below (g := gb539) (o := .cells #[.int .i64 t536, .int .i64 t537] 25 (0, 0)) (by (with_reducible repeat (first | refine blk_drewN ?_ _ | refine blk_drew ?_ | refine blk_alloc ?_ _)); exact BK539.out) hb)
                have n4_ := Aside0.mk (blk_below (g := gb544) (o := .cells #[.int .i64 t541, .int .i64 t542] 25 (0, 0)) (by (with_reducible repeat (first | refine blk_drewN ?_ _ | refine blk_drew ?_ | refine blk_alloc ?_ _)); exact BK544.out) hb)
                have n5_ := Aside0.mk (below_step (by repeat (first | (with_reducible first | exact HB.out | apply below_alloc | apply pw_below_drewN | apply below_drew1 | refine below_set ?_ GE524.out | refine below_set ?_ GE525.out | refine below_set ?_ GE528.out | refine below_set ?_ GE539.out | refine below_set ?_ GE544.out) | exact HB.out)) hb)
                clear BK524
                clear BK525
                clear BK528
                clear BK539
                clear BK544
                clear HB
                have BK524 := n0_
                have BK525 := n1_
                have BK528 := n2_
                have BK539 := n3_
                have BK544 := n4_
                have HB := n5_
                clear n0_ n1_ n2_ n3_ n4_ n5_
                (try clear hb)
                (try clear hb2)
                (try clear hk)
                (try clear hi)
                refine hK.out _ _ ⟨(blk_cell BK528.out 0).trans rfl, (blk_cell BK528.out 1).trans rfl, (blk_cell BK539.out 0).trans rfl, (blk_cell BK539.out 1).trans rfl, (blk_cell BK544.out 0).trans rfl, (blk_cell BK544.out 1).trans rfl, (blk_cell BK524.out 0).trans rfl, (blk_cell BK524.out 1).trans rfl, (blk_cell BK524.out 2).trans rfl, (blk_cell BK524.out 3).trans rfl, (blk_cell BK525.out 0).trans rfl, (blk_cell BK525.out 1).trans rfl⟩ (fun hHeld => ?_)
                clear hK K
                refine norm_ (a' := ?_) ?_ ?_
                rotate_left
                · show Act.put _ (some 73) _ = _
                  simp only [Act.put, List.setIfInBounds_toArray, List.set_cons_zero, List.set_cons_succ, i64_w, i32_w]
                  rfl
                refine one_ (i := 18) (N := some 75) #[true, true, true, true, true, true, true, true, true, true, true, true, true, true, true, true, true, true, true, true, false, false, false] rfl rfl (one_of HT_.out (by kernel_rfl)) (by decide) (fun K hK => ?_)
                refine goes_ Tryd.func24 (by kernel_rfl) rfl #[.agg #[.int .i64 t548, .int .i64 t549, .int .i64 t550, .int .i64 t551], .agg #[.int .i64 t522, .int .i64 t523]] (by rfl) rfl rfl (by (try simp only [List.map_toArray, List.map_cons, List.map_nil]); first | done | rfl | (simp only [List.length_drop, List.length_take]; rfl)) ?_
                with_reducible refine (impl_SegFar.calls t548 t549 t550 t551 t522 t523 t552 t553 _ A49.out).mono ?_
                rintro e w78 ⟨rfl, hb⟩
                refine ⟨_, rfl, ?_⟩
                have n0_ := Aside0.mk (blk_below (g := gb524) (o := .cells #[.int .i64 t518, .int .i64 t519, .int .i64 t520, .int .i64 t521] 40 (0, 0)) (by (with_reducible repeat (first | refine blk_drewN ?_ _ | refine blk_drew ?_ | refine blk_alloc ?_ _)); exact BK524.out) hb)
                have n1_ := Aside0.mk (blk_below (g := gb525) (o := .cells #[.int .i64 t522, .int .i64 t523] 38 (0, 0)) (by (with_reducible repeat (first | refine blk_drewN ?_ _ | refine blk_drew ?_ | refine blk_alloc ?_ _)); exact BK525.out) hb)
                have n2_ := Aside0.mk (blk_below (g := gb528) (o := .cells #[.int .i64 t526, .int .i64 t527] 25 (0, 0)) (by (with_reducible repeat (first | refine blk_drewN ?_ _ | refine blk_drew ?_ | refine blk_alloc ?_ _)); exact BK528.out) hb)
                have n3_ := Aside0.mk (blk_below (g := gb539) (o := .cells #[.int .i64 t536, .int .i64 t537] 25 (0, 0)) (by (with_reducible repeat (first | refine blk_drewN ?_ _ | refine blk_drew ?_ | refine blk_alloc ?_ _)); exact BK539.out) hb)
                have n4_ := Aside0.mk (blk_below (g := gb544) (o := .cells #[.int .i64 t541, .int .i64 t542] 25 (0, 0)) (by (with_reducible repeat (first | refine blk_drewN ?_ _ | refine blk_drew ?_ | refine blk_alloc ?_ _)); exact BK544.out) hb)
                have n5_ := Aside0.mk (below_step (by repeat (first | (with_reducible first | exact HB.out | apply below_alloc | apply pw_below_drewN | apply below_drew1 | refine below_set ?_ GE524.out | refine below_set ?_ GE525.out | refine below_set ?_ GE528.out | refine below_set ?_ GE539.out | refine below_set ?_ GE544.out) | exact HB.out)) hb)
                clear BK524
                clear BK525
                clear BK528
                clear BK539
                clear BK544
                clear HB
                have BK524 := n0_
                have BK525 := n1_
                have BK528 := n2_
                have BK539 := n3_
                have BK544 := n4_
                have HB := n5_
                clear n0_ n1_ n2_ n3_ n4_ n5_
                (try clear hb)
                (try clear hb2)
                (try clear hk)
                (try clear hi)
                refine hK.out _ _ ⟨(blk_cell BK528.out 0).trans rfl, (blk_cell BK528.out 1).trans rfl, (blk_cell BK539.out 0).trans rfl, (blk_cell BK539.out 1).trans rfl, (blk_cell BK544.out 0).trans rfl, (blk_cell BK544.out 1).trans rfl, (blk_cell BK524.out 0).trans rfl, (blk_cell BK524.out 1).trans rfl, (blk_cell BK524.out 2).trans rfl, (blk_cell BK524.out 3).trans rfl, (blk_cell BK525.out 0).trans rfl, (blk_cell BK525.out 1).trans rfl⟩ (fun hHeld => ?_)
                clear hK K
                refine norm_ (a' := ?_) ?_ ?_
                rotate_left
                · show Act.put _ (some 75) _ = _
                  simp only [Act.put, List.setIfInBounds_toArray, List.set_cons_zero, List.set_cons_succ, i64_w, i32_w]
                  rfl
                refine pure_ (i := 20) (N := some 77) (v := ?_) (a' := ?_) #[true, true, true, true, true, true, true, true, true, true, true, true, true, true, true, true, true, true, true, true, true, false, false] rfl rfl (any_of HT_.out (by kernel_rfl)) (fun _ _ _ h => h) (Or.inl ⟨by rfl, ?_⟩) ?_ ?_
                rotate_left
                · intro w'
                  go_simp
                  with_reducible rfl
                rotate_left
                · simp only [Act.put, List.setIfInBounds_toArray, List.set_cons_zero, List.set_cons_succ, i64_w, i32_w]
                  rfl
                refine pure_ (i := 21) (N := some 78) (v := ?_) (a' := ?_) #[true, true, true, true, true, true, true, true, true, true, true, true, true, true, true, true, true, true, true, true, true, true, false] rfl rfl (any_of HT_.out (by kernel_rfl)) (fun _ _ _ h => h) (Or.inl ⟨by rfl, ?_⟩) ?_ ?_
                rotate_left
                · intro w'
                  go_simp
                  with_reducible rfl
                rotate_left
                · simp only [Act.put, List.setIfInBounds_toArray, List.set_cons_zero, List.set_cons_succ, i64_w, i32_w]
                  rfl
                refine pure_ (i := 22) (N := some 2) (v := ?_) (a' := ?_) #[true, true, true, true, true, true, true, true, true, true, true, true, true, true, true, true, true, true, true, true, true, true, true] rfl rfl (any_of HT_.out (by kernel_rfl)) (fun _ _ _ h => h) (Or.inl ⟨by rfl, ?_⟩) ?_ ?_
                rotate_left
                · intro w'
                  go_simp
                  with_reducible rfl
                rotate_left
                · simp only [Act.put, List.setIfInBounds_toArray, List.set_cons_zero, List.set_cons_succ, i64_w, i32_w]
                  rfl
                refine done_ (done_of HT_.out (by kernel_rfl)) ?_
                try go_wp2
                go_ret
                exact ⟨by first | rfl | (simp [errW_none, errW_some] <;> rfl) | (simp [*, errW_none, errW_some] <;> rfl), by repeat (first | (with_reducible first | exact HB.out | apply below_alloc | apply pw_below_drewN | apply below_drew1 | refine below_set ?_ GE524.out | refine below_set ?_ GE525.out | refine below_set ?_ GE528.out | refine below_set ?_ GE539.out | refine below_set ?_ GE544.out) | exact HB.out)⟩
              · replace c47 := Bool.eq_false_iff.mpr c47
                subst c47
                have H1 : (some false) = some r := by rw [if_neg (show ¬ (false = true) by decide)] at H; exact H
                clear H
                have H := H1
                clear H1
                obtain rfl := Option.some.inj H
                have hnb79 := NB524_525.out
                have hnc79 := NB525_524.out
                have hnb80 := NB524_528.out
                have hnc80 := NB528_524.out
                have hcz81_0 : wc.cell? ⟨gb524, 0, none⟩ = some (.int .i64 t518) := (blk_cell BK524.out 0).trans rfl
                have hcz81_1 : wc.cell? ⟨gb524, 1, none⟩ = some (.int .i64 t519) := (blk_cell BK524.out 1).trans rfl
                have hcz81_2 : wc.cell? ⟨gb524, 2, none⟩ = some (.int .i64 t520) := (blk_cell BK524.out 2).trans rfl
                have hcz81_3 : wc.cell? ⟨gb524, 3, none⟩ = some (.int .i64 t521) := (blk_cell BK524.out 3).trans rfl
                have hfz81_0 := blk_frozen BK524.out 0
                have hfz81_1 := blk_frozen BK524.out 1
                have hfz81_2 := blk_frozen BK524.out 2
                have hfz81_3 := blk_frozen BK524.out 3
                have hnb82 := NB525_528.out
                have hnc82 := NB528_525.out
                have hcz83_0 : wc.cell? ⟨gb525, 0, none⟩ = some (.int .i64 t522) := (blk_cell BK525.out 0).trans rfl
                have hcz83_1 : wc.cell? ⟨gb525, 1, none⟩ = some (.int .i64 t523) := (blk_cell BK525.out 1).trans rfl
                have hfz83_0 := blk_frozen BK525.out 0
                have hfz83_1 := blk_frozen BK525.out 1
                try go_wp2_with (first | ((with_reducible refine gate_callee (f := 30) rfl ?_); refine goesL_ (some 45) rfl rfl Tryd.func30 (by kernel_rfl) rfl #[.agg #[.int .i64 t518, .int .i64 t519], .agg #[.int .i64 t522, .int .i64 t523]] rfl (by (try simp only [List.map_toArray, List.map_cons, List.map_nil]); first | done | rfl | (simp only [List.length_drop, List.length_take]; rfl)) ?_; (with_reducible refine (laws_luSq.calls t518 t519 t522 t523 t535 _ A38.out).mono ?_); rintro e w84 ⟨rfl, hb⟩; refine ⟨_, rfl, ?_⟩; have n0_ := Aside0.mk (blk_below (g := gb524) (o := .cells #[.int .i64 t518, .int .i64 t519, .int .i64 t520, .int .i64 t521] 40 (0, 0)) (by (with_reducible repeat (first | refine blk_drewN ?_ _ | refine blk_drew ?_ | refine blk_alloc ?_ _)); exact BK524.out) hb); have n1_ := Aside0.mk (blk_below (g := gb525) (o := .cells #[.int .i64 t522, .int .i64 t523] 38 (0, 0)) (by (with_reducible repeat (first | refine blk_drewN ?_ _ | refine blk_drew ?_ | refine blk_alloc ?_ _)); exact BK525.out) hb); have n2_ := Aside0.mk (blk_below (g := gb528) (o := .cells #[.int .i64 t526, .int .i64 t527] 25 (0, 0)) (by (with_reducible repeat (first | refine blk_drewN ?_ _ | refine blk_drew ?_ | refine blk_alloc ?_ _)); exact BK528.out) hb); have n3_ := Aside0.mk (below_step (by repeat (first | (with_reducible first | exact HB.out | apply below_alloc | apply pw_below_drewN | apply below_drew1 | refine below_set ?_ GE524.out | refine below_set ?_ GE525.out | refine below_set ?_ GE528.out) | exact HB.out)) hb); clear BK524; clear BK525; clear BK528; clear HB; have BK524 := n0_; have BK525 := n1_; have BK528 := n2_; have HB := n3_; clear n0_ n1_ n2_ n3_; (try clear hb); (try clear hb2); (try clear hk); (try clear hi)) | ((with_reducible refine gate_callee (f := 21) rfl ?_); refine goesL_ (some 46) rfl rfl Tryd.func21 (by kernel_rfl) rfl #[.int .i64 t535, .int .i64 1] rfl (by (try simp only [List.map_toArray, List.map_cons, List.map_nil]); first | done | rfl | (simp only [List.length_drop, List.length_take]; rfl)) ?_; (with_reducible refine (impl_FracOf.calls kj4 t535 1 t536 t537 t538 _ A39.out).mono ?_); rintro e w85 ⟨rfl, hb⟩; refine ⟨_, rfl, ?_⟩; have n0_ := Aside0.mk (blk_below (g := gb524) (o := .cells #[.int .i64 t518, .int .i64 t519, .int .i64 t520, .int .i64 t521] 40 (0, 0)) (by (with_reducible repeat (first | refine blk_drewN ?_ _ | refine blk_drew ?_ | refine blk_alloc ?_ _)); exact BK524.out) hb); have n1_ := Aside0.mk (blk_below (g := gb525) (o := .cells #[.int .i64 t522, .int .i64 t523] 38 (0, 0)) (by (with_reducible repeat (first | refine blk_drewN ?_ _ | refine blk_drew ?_ | refine blk_alloc ?_ _)); exact BK525.out) hb); have n2_ := Aside0.mk (blk_below (g := gb528) (o := .cells #[.int .i64 t526, .int .i64 t527] 25 (0, 0)) (by (with_reducible repeat (first | refine blk_drewN ?_ _ | refine blk_drew ?_ | refine blk_alloc ?_ _)); exact BK528.out) hb); have n3_ := Aside0.mk (below_step (by repeat (first | (with_reducible first | exact HB.out | apply below_alloc | apply pw_below_drewN | apply below_drew1 | refine below_set ?_ GE524.out | refine below_set ?_ GE525.out | refine below_set ?_ GE528.out) | exact HB.out)) hb); clear BK524; clear BK525; clear BK528; clear HB; have BK524 := n0_; have BK525 := n1_; have BK528 := n2_; have HB := n3_; clear n0_ n1_ n2_ n3_; (try clear hb); (try clear hb2); (try clear hk); (try clear hi)) | ((with_reducible refine gate_dst (N := 6) rfl ?_); refine box_event ?hg (N := 6) ?hd (cs := #[.int .i64 0, .int .i64 0]) (t := 25) ?hr ?_; (case hd => rfl); (case hg => rfl); (case hr => first | (go_simp; done) | (go_simp; rfl)); intro gb539 hg w86 hbox hb; have n0_ := Aside0.mk (blk_below (g := gb524) (o := .cells #[.int .i64 t518, .int .i64 t519, .int .i64 t520, .int .i64 t521] 40 (0, 0)) (by (with_reducible repeat (first | refine blk_drewN ?_ _ | refine blk_drew ?_ | refine blk_alloc ?_ _)); exact BK524.out) hb); have n1_ := Aside0.mk (blk_below (g := gb525) (o := .cells #[.int .i64 t522, .int .i64 t523] 38 (0, 0)) (by (with_reducible repeat (first | refine blk_drewN ?_ _ | refine blk_drew ?_ | refine blk_alloc ?_ _)); exact BK525.out) hb); have n2_ := Aside0.mk (blk_below (g := gb528) (o := .cells #[.int .i64 t526, .int .i64 t527] 25 (0, 0)) (by (with_reducible repeat (first | refine blk_drewN ?_ _ | refine blk_drew ?_ | refine blk_alloc ?_ _)); exact BK528.out) hb); have n3_ := Aside0.mk (below_step (by repeat (first | (with_reducible first | exact HB.out | apply below_alloc | apply pw_below_drewN | apply below_drew1 | refine below_set ?_ GE524.out | refine below_set ?_ GE525.out | refine below_set ?_ GE528.out) | exact HB.out)) hb); have n4_ := Aside0.mk (hbox); have n5_ := Aside0.mk ((by rw [hg]; exact (below_size (by repeat (first | (with_reducible first | exact HB.out | apply below_alloc | apply pw_below_drewN | apply below_drew1 | refine below_set ?_ GE524.out | refine below_set ?_ GE525.out | refine below_set ?_ GE528.out) | exact HB.out))) : w.heap.size ≤ gb539)); have n6_ := Aside0.mk ((by rw [hg]; exact (below_size (by repeat (first | (with_reducible first | exact HB.out | apply below_alloc | apply pw_below_drewN | apply below_drew1 | refine below_set ?_ GE524.out | refine below_set ?_ GE525.out | refine below_set ?_ GE528.out) | exact HB.out))) : w.heap.size ≤ gb539)); have n7_ := Aside0.mk ((by rw [hg]; exact Nat.ne_of_lt (blk_lt (g := gb524) (o := .cells #[.int .i64 t518, .int .i64 t519, .int .i64 t520, .int .i64 t521] 40 (0, 0)) (by (with_reducible repeat (first | refine blk_drewN ?_ _ | refine blk_drew ?_ | refine blk_alloc ?_ _)); exact BK524.out)) : gb524 ≠ gb539)); have n8_ := Aside0.mk ((by rw [hg]; exact Nat.ne_of_gt (blk_lt (g := gb524) (o := .cells #[.int .i64 t518, .int .i64 t519, .int .i64 t520, .int .i64 t521] 40 (0, 0)) (by (with_reducible repeat (first | refine blk_drewN ?_ _ | refine blk_drew ?_ | refine blk_alloc ?_ _)); exact BK524.out)) : gb539 ≠ gb524)); have n9_ := Aside0.mk ((by rw [hg]; exact Nat.ne_of_lt (blk_lt (g := gb525) (o := .cells #[.int .i64 t522, .int .i64 t523] 38 (0, 0)) (by (with_reducible repeat (first | refine blk_drewN ?_ _ | refine blk_drew ?_ | refine blk_alloc ?_ _)); exact BK525.out)) : gb525 ≠ gb539)); have n10_ := Aside0.mk ((by rw [hg]; exact Nat.ne_of_gt (blk_lt (g := gb525) (o := .cells #[.int .i64 t522, .int .i64 t523] 38 (0, 0)) (by (with_reducible repeat (first | refine blk_drewN ?_ _ | refine blk_drew ?_ | refine blk_alloc ?_ _)); exact BK525.out)) : gb539 ≠ gb525)); have n11_ := Aside0.mk ((by rw [hg]; exact Nat.ne_of_lt (blk_lt (g := gb528) (o := .cells #[.int .i64 t526, .int .i64 t527] 25 (0, 0)) (by (with_reducible repeat (first | refine blk_drewN ?_ _ | refine blk_drew ?_ | refine blk_alloc ?_ _)); exact BK528.out)) : gb528 ≠ gb539)); have n12_ := Aside0.mk ((by rw [hg]; exact Nat.ne_of_gt (blk_lt (g := gb528) (o := .cells #[.int .i64 t526, .int .i64 t527] 25 (0, 0)) (by (with_reducible repeat (first | refine blk_drewN ?_ _ | refine blk_drew ?_ | refine blk_alloc ?_ _)); exact BK528.out)) : gb539 ≠ gb528)); clear BK524; clear BK525; clear BK528; clear HB; have BK524 := n0_; have BK525 := n1_; have BK528 := n2_; have HB := n3_; have BK539 := n4_; have GW539 := n5_; have GE539 := n6_; have NB524_539 := n7_; have NB539_524 := n8_; have NB525_539 := n9_; have NB539_525 := n10_; have NB528_539 := n11_; have NB539_528 := n12_; clear n0_ n1_ n2_ n3_ n4_ n5_ n6_ n7_ n8_ n9_ n10_ n11_ n12_; clear hb hbox hg; have hnb87 := NB539_524.out; have hnc87 := NB524_539.out; have hnb88 := NB539_525.out; have hnc88 := NB525_539.out; have hnb89 := NB539_528.out; have hnc89 := NB528_539.out; have hcz90_0 : w86.cell? ⟨gb539, 0, none⟩ = some (.int .i64 0) := (blk_cell BK539.out 0).trans rfl; have hcz90_1 : w86.cell? ⟨gb539, 1, none⟩ = some (.int .i64 0) := (blk_cell BK539.out 1).trans rfl; have hfz90_0 := blk_frozen BK539.out 0; have hfz90_1 := blk_frozen BK539.out 1; have hcz91_0 : w86.cell? ⟨gb524, 0, none⟩ = some (.int .i64 t518) := (blk_cell BK524.out 0).trans rfl; have hcz91_1 : w86.cell? ⟨gb524, 1, none⟩ = some (.int .i64 t519) := (blk_cell BK524.out 1).trans rfl; have hcz91_2 : w86.cell? ⟨gb524, 2, none⟩ = some (.int .i64 t520) := (blk_cell BK524.out 2).trans rfl; have hcz91_3 : w86.cell? ⟨gb524, 3, none⟩ = some (.int .i64 t521) := (blk_cell BK524.out 3).trans rfl; have hfz91_0 := blk_frozen BK524.out 0; have hfz91_1 := blk_frozen BK524.out 1; have hfz91_2 := blk_frozen BK524.out 2; have hfz91_3 := blk_frozen BK524.out 3; have hcz92_0 : w86.cell? ⟨gb525, 0, none⟩ = some (.int .i64 t522) := (blk_cell BK525.out 0).trans rfl; have hcz92_1 : w86.cell? ⟨gb525, 1, none⟩ = some (.int .i64 t523) := (blk_cell BK525.out 1).trans rfl; have hfz92_0 := blk_frozen BK525.out 0; have hfz92_1 := blk_frozen BK525.out 1) | ((with_reducible refine gate_callee (f := 30) rfl ?_); refine goesL_ (some 53) rfl rfl Tryd.func30 (by kernel_rfl) rfl #[.agg #[.int .i64 t520, .int .i64 t521], .agg #[.int .i64 t522, .int .i64 t523]] rfl (by (try simp only [List.map_toArray, List.map_cons, List.map_nil]); first | done | rfl | (simp only [List.length_drop, List.length_take]; rfl)) ?_; (with_reducible refine (laws_luSq.calls t520 t521 t522 t523 t540 _ A40.out).mono ?_); rintro e w93 ⟨rfl, hb⟩; refine ⟨_, rfl, ?_⟩; have n0_ := Aside0.mk (blk_below (g := gb524) (o := .cells #[.int .i64 t518, .int .i64 t519, .int .i64 t520, .int .i64 t521] 40 (0, 0)) (by (with_reducible repeat (first | refine blk_drewN ?_ _ | refine blk_drew ?_ | refine blk_alloc ?_ _)); refine blk_far ?_ NB524_539.out _; (with_reducible repeat (first | refine blk_drewN ?_ _ | refine blk_drew ?_ | refine blk_alloc ?_ _)); refine blk_far ?_ NB524_539.out _; (with_reducible repeat (first | refine blk_drewN ?_ _ | refine blk_drew ?_ | refine blk_alloc ?_ _)); exact BK524.out) hb); have n1_ := Aside0.mk (blk_below (g := gb525) (o := .cells #[.int .i64 t522, .int .i64 t523] 38 (0, 0)) (by (with_reducible repeat (first | refine blk_drewN ?_ _ | refine blk_drew ?_ | refine blk_alloc ?_ _)); refine blk_far ?_ NB525_539.out _; (with_reducible repeat (first | refine blk_drewN ?_ _ | refine blk_drew ?_ | refine blk_alloc ?_ _)); refine blk_far ?_ NB525_539.out _; (with_reducible repeat (first | refine blk_drewN ?_ _ | refine blk_drew ?_ | refine blk_alloc ?_ _)); exact BK525.out) hb); have n2_ := Aside0.mk (blk_below (g := gb528) (o := .cells #[.int .i64 t526, .int .i64 t527] 25 (0, 0)) (by (with_reducible repeat (first | refine blk_drewN ?_ _ | refine blk_drew ?_ | refine blk_alloc ?_ _)); refine blk_far ?_ NB528_539.out _; (with_reducible repeat (first | refine blk_drewN ?_ _ | refine blk_drew ?_ | refine blk_alloc ?_ _)); refine blk_far ?_ NB528_539.out _; (with_reducible repeat (first | refine blk_drewN ?_ _ | refine blk_drew ?_ | refine blk_alloc ?_ _)); exact BK528.out) hb); have n3_ := Aside0.mk (blk_below (g := gb539) (o := .cells #[.int .i64 t536, .int .i64 t537] 25 (0, 0)) (by (with_reducible repeat (first | refine blk_drewN ?_ _ | refine blk_drew ?_ | refine blk_alloc ?_ _)); refine blk_put (cs := #[.int .i64 t536, .int .i64 0]) ?_ 1 _ rfl; (with_reducible repeat (first | refine blk_drewN ?_ _ | refine blk_drew ?_ | refine blk_alloc ?_ _)); refine blk_put (cs := #[.int .i64 0, .int .i64 0]) ?_ 0 _ rfl; (with_reducible repeat (first | refine blk_drewN ?_ _ | refine blk_drew ?_ | refine blk_alloc ?_ _)); exact BK539.out) hb); have n4_ := Aside0.mk (below_step (by repeat (first | (with_reducible first | exact HB.out | apply below_alloc | apply pw_below_drewN | apply below_drew1 | refine below_set ?_ GE524.out | refine below_set ?_ GE525.out | refine below_set ?_ GE528.out | refine below_set ?_ GE539.out) | exact HB.out)) hb); clear BK524; clear BK525; clear BK528; clear BK539; clear HB; have BK524 := n0_; have BK525 := n1_; have BK528 := n2_; have BK539 := n3_; have HB := n4_; clear n0_ n1_ n2_ n3_ n4_; (try clear hb); (try clear hb2); (try clear hk); (try clear hi)) | ((with_reducible refine gate_callee (f := 21) rfl ?_); refine goesL_ (some 54) rfl rfl Tryd.func21 (by kernel_rfl) rfl #[.int .i64 t540, .int .i64 1] rfl (by (try simp only [List.map_toArray, List.map_cons, List.map_nil]); first | done | rfl | (simp only [List.length_drop, List.length_take]; rfl)) ?_; (with_reducible refine (impl_FracOf.calls kj4 t540 1 t541 t542 t543 _ A41.out).mono ?_); rintro e w94 ⟨rfl, hb⟩; refine ⟨_, rfl, ?_⟩; have n0_ := Aside0.mk (blk_below (g := gb524) (o := .cells #[.int .i64 t518, .int .i64 t519, .int .i64 t520, .int .i64 t521] 40 (0, 0)) (by (with_reducible repeat (first | refine blk_drewN ?_ _ | refine blk_drew ?_ | refine blk_alloc ?_ _)); exact BK524.out) hb); have n1_ := Aside0.mk (blk_below (g := gb525) (o := .cells #[.int .i64 t522, .int .i64 t523] 38 (0, 0)) (by (with_reducible repeat (first | refine blk_drewN ?_ _ | refine blk_drew ?_ | refine blk_alloc ?_ _)); exact BK525.out) hb); have n2_ := Aside0.mk (blk_below (g := gb528) (o := .cells #[.int .i64 t526, .int .i64 t527] 25 (0, 0)) (by (with_reducible repeat (first | refine blk_drewN ?_ _ | refine blk_drew ?_ | refine blk_alloc ?_ _)); exact BK528.out) hb); have n3_ := Aside0.mk (blk_below (g := gb539) (o := .cells #[.int .i64 t536, .int .i64 t537] 25 (0, 0)) (by (with_reducible repeat (first | refine blk_drewN ?_ _ | refine blk_drew ?_ | refine blk_alloc ?_ _)); exact BK539.out) hb); have n4_ := Aside0.mk (below_step (by repeat (first | (with_reducible first | exact HB.out | apply below_alloc | apply pw_below_drewN | apply below_drew1 | refine below_set ?_ GE524.out | refine below_set ?_ GE525.out | refine below_set ?_ GE528.out | refine below_set ?_ GE539.out) | exact HB.out)) hb); clear BK524; clear BK525; clear BK528; clear BK539; clear HB; have BK524 := n0_; have BK525 := n1_; have BK528 := n2_; have BK539 := n3_; have HB := n4_; clear n0_ n1_ n2_ n3_ n4_; (try clear hb); (try clear hb2); (try clear hk); (try clear hi)) | ((with_reducible refine gate_dst (N := 8) rfl ?_); refine box_event ?hg (N := 8) ?hd (cs := #[.int .i64 0, .int .i64 0]) (t := 25) ?hr ?_; (case hd => rfl); (case hg => rfl); (case hr => first | (go_simp; done) | (go_simp; rfl)); intro gb544 hg w95 hbox hb; have n0_ := Aside0.mk (blk_below (g := gb524) (o := .cells #[.int .i64 t518, .int .i64 t519, .int .i64 t520, .int .i64 t521] 40 (0, 0)) (by (with_reducible repeat (first | refine blk_drewN ?_ _ | refine blk_drew ?_ | refine blk_alloc ?_ _)); exact BK524.out) hb); have n1_ := Aside0.mk (blk_below (g := gb525) (o := .cells #[.int .i64 t522, .int .i64 t523] 38 (0, 0)) (by (with_reducible repeat (first | refine blk_drewN ?_ _ | refine blk_drew ?_ | refine blk_alloc ?_ _)); exact BK525.out) hb); have n2_ := Aside0.mk (blk_below (g := gb528) (o := .cells #[.int .i64 t526, .int .i64 t527] 25 (0, 0)) (by (with_reducible repeat (first | refine blk_drewN ?_ _ | refine blk_drew ?_ | refine blk_alloc ?_ _)); exact BK528.out) hb); have n3_ := Aside0.mk (blk_below (g := gb539) (o := .cells #[.int .i64 t536, .int .i64 t537] 25 (0, 0)) (by (with_reducible repeat (first | refine blk_drewN ?_ _ | refine blk_drew ?_ | refine blk_alloc ?_ _)); exact BK539.out) hb); have n4_ := Aside0.mk (below_step (by repeat (first | (with_reducible first | exact HB.out | apply below_alloc | apply pw_below_drewN | apply below_drew1 | refine below_set ?_ GE524.out | refine below_set ?_ GE525.out | refine below_set ?_ GE528.out | refine below_set ?_ GE539.out) | exact HB.out)) hb); have n5_ := Aside0.mk (hbox); have n6_ := Aside0.mk ((by rw [hg]; exact (below_size (by repeat (first | (with_reducible first | exact HB.out | apply below_alloc | apply pw_below_drewN | apply below_drew1 | refine below_set ?_ GE524.out | refine below_set ?_ GE525.out | refine below_set ?_ GE528.out | refine below_set ?_ GE539.out) | exact HB.out))) : w.heap.size ≤ gb544)); have n7_ := Aside0.mk ((by rw [hg]; exact (below_size (by repeat (first | (with_reducible first | exact HB.out | apply below_alloc | apply pw_below_drewN | apply below_drew1 | refine below_set ?_ GE524.out | refine below_set ?_ GE525.out | refine below_set ?_ GE528.out | refine below_set ?_ GE539.out) | exact HB.out))) : w.heap.size ≤ gb544)); have n8_ := Aside0.mk ((by rw [hg]; exact Nat.ne_of_lt (blk_lt (g := gb524) (o := .cells #[.int .i64 t518, .int .i64 t519, .int .i64 t520, .int .i64 t521] 40 (0, 0)) (by (with_reducible repeat (first | refine blk_drewN ?_ _ | refine blk_drew ?_ | refine blk_alloc ?_ _)); exact BK524.out)) : gb524 ≠ gb544)); have n9_ := Aside0.mk ((by rw [hg]; exact Nat.ne_of_gt (blk_lt (g := gb524) (o := .cells #[.int .i64 t518, .int .i64 t519, .int .i64 t520, .int .i64 t521] 40 (0, 0)) (by (with_reducible repeat (first | refine blk_drewN ?_ _ | refine blk_drew ?_ | refine blk_alloc ?_ _)); exact BK524.out)) : gb544 ≠ gb524)); have n10_ := Aside0.mk ((by rw [hg]; exact Nat.ne_of_lt (blk_lt (g := gb525) (o := .cells #[.int .i64 t522, .int .i64 t523] 38 (0, 0)) (by (with_reducible repeat (first | refine blk_drewN ?_ _ | refine blk_drew ?_ | refine blk_alloc ?_ _)); exact BK525.out)) : gb525 ≠ gb544)); have n11_ := Aside0.mk ((by rw [hg]; exact Nat.ne_of_gt (blk_lt (g := gb525) (o := .cells #[.int .i64 t522, .int .i64 t523] 38 (0, 0)) (by (with_reducible repeat (first | refine blk_drewN ?_ _ | refine blk_drew ?_ | refine blk_alloc ?_ _)); exact BK525.out)) : gb544 ≠ gb525)); have n12_ := Aside0.mk ((by rw [hg]; exact Nat.ne_of_lt (blk_lt (g := gb528) (o := .cells #[.int .i64 t526, .int .i64 t527] 25 (0, 0)) (by (with_reducible repeat (first | refine blk_drewN ?_ _ | refine blk_drew ?_ | refine blk_alloc ?_ _)); exact BK528.out)) : gb528 ≠ gb544)); have n13_ := Aside0.mk ((by rw [hg]; exact Nat.ne_of_gt (blk_lt (g := gb528) (o := .cells #[.int .i64 t526, .int .i64 t527] 25 (0, 0)) (by (with_reducible repeat (first | refine blk_drewN ?_ _ | refine blk_drew ?_ | refine blk_alloc ?_ _)); exact BK528.out)) : gb544 ≠ gb528)); have n14_ := Aside0.mk ((by rw [hg]; exact Nat.ne_of_lt (blk_lt (g := gb539) (o := .cells #[.int .i64 t536, .int .i64 t537] 25 (0, 0)) (by (with_reducible repeat (first | refine blk_drewN ?_ _ | refine blk_drew ?_ | refine blk_alloc ?_ _)); exact BK539.out)) : gb539 ≠ gb544)); have n15_ := Aside0.mk ((by rw [hg]; exact Nat.ne_of_gt (blk_lt (g := gb539) (o := .cells #[.int .i64 t536, .int .i64 t537] 25 (0, 0)) (by (with_reducible repeat (first | refine blk_drewN ?_ _ | refine blk_drew ?_ | refine blk_alloc ?_ _)); exact BK539.out)) : gb544 ≠ gb539)); clear BK524; clear BK525; clear BK528; clear BK539; clear HB; have BK524 := n0_; have BK525 := n1_; have BK528 := n2_; have BK539 := n3_; have HB := n4_; have BK544 := n5_; have GW544 := n6_; have GE544 := n7_; have NB524_544 := n8_; have NB544_524 := n9_; have NB525_544 := n10_; have NB544_525 := n11_; have NB528_544 := n12_; have NB544_528 := n13_; have NB539_544 := n14_; have NB544_539 := n15_; clear n0_ n1_ n2_ n3_ n4_ n5_ n6_ n7_ n8_ n9_ n10_ n11_ n12_ n13_ n14_ n15_; clear hb hbox hg; have hnb96 := NB544_524.out; have hnc96 := NB524_544.out; have hnb97 := NB544_525.out; have hnc97 := NB525_544.out; have hnb98 := NB544_528.out; have hnc98 := NB528_544.out; have hnb99 := NB544_539.out; have hnc99 := NB539_544.out; have hcz100_0 : w95.cell? ⟨gb544, 0, none⟩ = some (.int .i64 0) := (blk_cell BK544.out 0).trans rfl; have hcz100_1 : w95.cell? ⟨gb544, 1, none⟩ = some (.int .i64 0) := (blk_cell BK544.out 1).trans rfl; have hfz100_0 := blk_frozen BK544.out 0; have hfz100_1 := blk_frozen BK544.out 1))
                have n0_ : Aside0 (((w95.setCell ⟨gb544, 0, none⟩ (.int .i64 t541)).setCell ⟨gb544, 1, none⟩ (.int .i64 t542)).heap[gb524]? = some (.cells #[.int .i64 t518, .int .i64 t519, .int .i64 t520, .int .i64 t521] 40 (0, 0))) := ⟨by (with_reducible repeat (first | refine blk_drewN ?_ _ | refine blk_drew ?_ | refine blk_alloc ?_ _)); refine blk_far ?_ NB524_544.out _; (with_reducible repeat (first | refine blk_drewN ?_ _ | refine blk_drew ?_ | refine blk_alloc ?_ _)); refine blk_far ?_ NB524_544.out _; (with_reducible repeat (first | refine blk_drewN ?_ _ | refine blk_drew ?_ | refine blk_alloc ?_ _)); exact BK524.out⟩
                have n1_ : Aside0 (((w95.setCell ⟨gb544, 0, none⟩ (.int .i64 t541)).setCell ⟨gb544, 1, none⟩ (.int .i64 t542)).heap[gb525]? = some (.cells #[.int .i64 t522, .int .i64 t523] 38 (0, 0))) := ⟨by (with_reducible repeat (first | refine blk_drewN ?_ _ | refine blk_drew ?_ | refine blk_alloc ?_ _)); refine blk_far ?_ NB525_544.out _; (with_reducible repeat (first | refine blk_drewN ?_ _ | refine blk_drew ?_ | refine blk_alloc ?_ _)); refine blk_far ?_ NB525_544.out _; (with_reducible repeat (first | refine blk_drewN ?_ _ | refine blk_drew ?_ | refine blk_alloc ?_ _)); exact BK525.out⟩
                have n2_ : Aside0 (((w95.setCell ⟨gb544, 0, none⟩ (.int .i64 t541)).setCell ⟨gb544, 1, none⟩ (.int .i64 t542)).heap[gb528]? = some (.cells #[.int .i64 t526, .int .i64 t527] 25 (0, 0))) := ⟨by (with_reducible repeat (first | refine blk_drewN ?_ _ | refine blk_drew ?_ | refine blk_alloc ?_ _)); refine blk_far ?_ NB528_544.out _; (with_reducible repeat (first | refine blk_drewN ?_ _ | refine blk_drew ?_ | refine blk_alloc ?_ _)); refine blk_far ?_ NB528_544.out _; (with_reducible repeat (first | refine blk_drewN ?_ _ | refine blk_drew ?_ | refine blk_alloc ?_ _)); exact BK528.out⟩
                have n3_ : Aside0 (((w95.setCell ⟨gb544, 0, none⟩ (.int .i64 t541)).setCell ⟨gb544, 1, none⟩ (.int .i64 t542)).heap[gb539]? = some (.cells #[.int .i64 t536, .int .i64 t537] 25 (0, 0))) := ⟨by (with_reducible repeat (first | refine blk_drewN ?_ _ | refine blk_drew ?_ | refine blk_alloc ?_ _)); refine blk_far ?_ NB539_544.out _; (with_reducible repeat (first | refine blk_drewN ?_ _ | refine blk_drew ?_ | refine blk_alloc ?_ _)); refine blk_far ?_ NB539_544.out _; (with_reducible repeat (first | refine blk_drewN ?_ _ | refine blk_drew ?_ | refine blk_alloc ?_ _)); exact BK539.out⟩
                have n4_ : Aside0 (((w95.setCell ⟨gb544, 0, none⟩ (.int .i64 t541)).setCell ⟨gb544, 1, none⟩ (.int .i64 t542)).heap[gb544]? = some (.cells #[.int .i64 t541, .int .i64 t542] 25 (0, 0))) := ⟨by (with_reducible repeat (first | refine blk_drewN ?_ _ | refine blk_drew ?_ | refine blk_alloc ?_ _)); refine blk_put (cs := #[.int .i64 t541, .int .i64 0]) ?_ 1 _ rfl; (with_reducible repeat (first | refine blk_drewN ?_ _ | refine blk_drew ?_ | refine blk_alloc ?_ _)); refine blk_put (cs := #[.int .i64 0, .int .i64 0]) ?_ 0 _ rfl; (with_reducible repeat (first | refine blk_drewN ?_ _ | refine blk_drew ?_ | refine blk_alloc ?_ _)); exact BK544.out⟩
                have n5_ : Aside0 (Below w.heap.size w ((w95.setCell ⟨gb544, 0, none⟩ (.int .i64 t541)).setCell ⟨gb544, 1, none⟩ (.int .i64 t542))) := ⟨by repeat (first | (with_reducible first | exact HB.out | apply below_alloc | apply pw_below_drewN | apply below_drew1 | refine below_set ?_ GE524.out | refine below_set ?_ GE525.out | refine below_set ?_ GE528.out | refine below_set ?_ GE539.out | refine below_set ?_ GE544.out) | exact HB.out)⟩
                (try clear BK524)
                (try clear BK525)
                (try clear BK528)
                (try clear BK539)
                (try clear BK544)
                (try clear HB)
                generalize ((w95.setCell ⟨gb544, 0, none⟩ (.int .i64 t541)).setCell ⟨gb544, 1, none⟩ (.int .i64 t542)) = w101 at n0_ n1_ n2_ n3_ n4_ n5_ ⊢
                have BK524 := n0_
                have BK525 := n1_
                have BK528 := n2_
                have BK539 := n3_
                have BK544 := n4_
                have HB := n5_
                clear n0_ n1_ n2_ n3_ n4_ n5_
                have n0_ := Aside0.mk (blk_drew BK524.out)
                have n1_ := Aside0.mk (blk_drew BK525.out)
                have n2_ := Aside0.mk (blk_drew BK528.out)
                have n3_ := Aside0.mk (blk_drew BK539.out)
                have n4_ := Aside0.mk (blk_drew BK544.out)
                have n5_ := Aside0.mk (below_drew1 HB.out)
                clear BK524
                clear BK525
                clear BK528
                clear BK539
                clear BK544
                clear HB
                have BK524 := n0_
                have BK525 := n1_
                have BK528 := n2_
                have BK539 := n3_
                have BK544 := n4_
                have HB := n5_
                clear n0_ n1_ n2_ n3_ n4_ n5_
                refine start_ (n := 23) (S := fun w' => w'.cell? ⟨gb528, 0, none⟩ = some (.int .i64 t526) ∧ w'.cell? ⟨gb528, 1, none⟩ = some (.int .i64 t527) ∧ w'.cell? ⟨gb539, 0, none⟩ = some (.int .i64 t536) ∧ w'.cell? ⟨gb539, 1, none⟩ = some (.int .i64 t537) ∧ w'.cell? ⟨gb544, 0, none⟩ = some (.int .i64 t541) ∧ w'.cell? ⟨gb544, 1, none⟩ = some (.int .i64 t542)) (ds := []) #[false, false, false, false, false, false, false, false, false, false, false, false, false, false, false, false, false, false, false, false, false, false, false] (by kernel_rfl) rfl rfl ⟨(blk_cell BK528.out 0).trans rfl, (blk_cell BK528.out 1).trans rfl, (blk_cell BK539.out 0).trans rfl, (blk_cell BK539.out 1).trans rfl, (blk_cell BK544.out 0).trans rfl, (blk_cell BK544.out 1).trans rfl⟩ (fun hHeld => ?_); refine with_tabW laws_FnFarEnds.tab9 laws_FnFarEnds.bits9 (fun HT_ HW_ => ?_)
                generalize w101.drew = w102 at BK524 BK525 BK528 BK539 BK544 HB hHeld ⊢
                refine take_ (i := 0) (N := some 57) (v := ?_) (a' := ?_) #[true, false, false, false, false, false, false, false, false, false, false, false, false, false, false, false, false, false, false, false, false, false, false] rfl rfl (take_ofW HT_.out HW_.out (by kernel_rfl)) (fun _ _ _ h => h) (Or.inl ⟨by rfl, ?_⟩) hHeld ?_ ?_
                rotate_left
                · rintro w' ⟨s0, s1, s2, s3, s4, s5⟩
                  go_simp
                  with_reducible rfl
                rotate_left
                · simp only [Act.put, List.setIfInBounds_toArray, List.set_cons_zero, List.set_cons_succ, i64_w, i32_w]
                  rfl
                refine take_ (i := 1) (N := some 58) (v := ?_) (a' := ?_) #[true, true, false, false, false, false, false, false, false, false, false, false, false, false, false, false, false, false, false, false, false, false, false] rfl rfl (take_ofW HT_.out HW_.out (by kernel_rfl)) (fun _ _ _ h => h) (Or.inl ⟨by rfl, ?_⟩) hHeld ?_ ?_
                rotate_left
                · rintro w' ⟨s0, s1, s2, s3, s4, s5⟩
                  go_simp
                  with_reducible rfl
                rotate_left
                · simp only [Act.put, List.setIfInBounds_toArray, List.set_cons_zero, List.set_cons_succ, i64_w, i32_w]
                  rfl
                refine one_ (i := 2) (N := some 59) #[true, true, true, false, false, false, false, false, false, false, false, false, false, false, false, false, false, false, false, false, false, false, false] rfl rfl (one_of HT_.out (by kernel_rfl)) (by decide) (fun K hK => ?_)
                refine goes_ Tryd.func17 (by kernel_rfl) rfl #[.agg #[.int .i64 t526, .int .i64 t527], .agg #[.int .i64 t536, .int .i64 t537]] (by rfl) rfl rfl (by (try simp only [List.map_toArray, List.map_cons, List.map_nil]); first | done | rfl | (simp only [List.length_drop, List.length_take]; rfl)) ?_
                with_reducible refine (impl_FracCmp.calls t526 t527 t536 t537 t545 _ ?side1 A42.out).mono ?_
                (case side1 => exact ErrW.below HE.out (by repeat (first | (with_reducible first | exact HB.out | apply below_alloc | apply pw_below_drewN | apply below_drew1 | refine below_set ?_ GE524.out | refine below_set ?_ GE525.out | refine below_set ?_ GE528.out | refine below_set ?_ GE539.out | refine below_set ?_ GE544.out) | exact HB.out)))
                rintro e w103 ⟨rfl, hb⟩
                refine ⟨_, rfl, ?_⟩
                have n0_ := Aside0.mk (blk_below (g := gb524) (o := .cells #[.int .i64 t518, .int .i64 t519, .int .i64 t520, .int .i64 t521] 40 (0, 0)) (by (with_reducible repeat (first | refine blk_drewN ?_ _ | refine blk_drew ?_ | refine blk_alloc ?_ _)); exact BK524.out) hb)
                have n1_ := Aside0.mk (blk_below (g := gb525) (o := .cells #[.int .i64 t522, .int .i64 t523] 38 (0, 0)) (by (with_reducible repeat (first | refine blk_drewN ?_ _ | refine blk_drew ?_ | refine blk_alloc ?_ _)); exact BK525.out) hb)
                have n2_ := Aside0.mk (blk_below (g := gb528) (o := .cells #[.int .i64 t526, .int .i64 t527] 25 (0, 0)) (by (with_reducible repeat (first | refine blk_drewN ?_ _ | refine blk_drew ?_ | refine blk_alloc ?_ _)); exact BK528.out) hb)
                have n3_ := Aside0.mk (blk_below (g := gb539) (o := .cells #[.int .i64 t536, .int .i64 t537] 25 (0, 0)) (by (with_reducible repeat (first | refine blk_drewN ?_ _ | refine blk_drew ?_ | refine blk_alloc ?_ _)); exact BK539.out) hb)
                have n4_ := Aside0.mk (blk_below (g := gb544) (o := .cells #[.int .i64 t541, .int .i64 t542] 25 (0, 0)) (by (with_reducible repeat (first | refine blk_drewN ?_ _ | refine blk_drew ?_ | refine blk_alloc ?_ _)); exact BK544.out) hb)
                have n5_ := Aside0.mk (below_step (by repeat (first | (with_reducible first | exact HB.out | apply below_alloc | apply pw_below_drewN | apply below_drew1 | refine below_set ?_ GE524.out | refine below_set ?_ GE525.out | refine below_set ?_ GE528.out | refine below_set ?_ GE539.out | refine below_set ?_ GE544.out) | exact HB.out)) hb)
                clear BK524
                clear BK525
                clear BK528
                clear BK539
                clear BK544
                clear HB
                have BK524 := n0_
                have BK525 := n1_
                have BK528 := n2_
                have BK539 := n3_
                have BK544 := n4_
                have HB := n5_
                clear n0_ n1_ n2_ n3_ n4_ n5_
                (try clear hb)
                (try clear hb2)
                (try clear hk)
                (try clear hi)
                refine hK.out _ _ ⟨(blk_cell BK528.out 0).trans rfl, (blk_cell BK528.out 1).trans rfl, (blk_cell BK539.out 0).trans rfl, (blk_cell BK539.out 1).trans rfl, (blk_cell BK544.out 0).trans rfl, (blk_cell BK544.out 1).trans rfl⟩ (fun hHeld => ?_)
                clear hK K
                refine norm_ (a' := ?_) ?_ ?_
                rotate_left
                · show Act.put _ (some 59) _ = _
                  simp only [Act.put, List.setIfInBounds_toArray, List.set_cons_zero, List.set_cons_succ, i64_w, i32_w]
                  rfl
                refine pure_ (i := 3) (N := some 60) (v := ?_) (a' := ?_) #[true, true, true, true, false, false, false, false, false, false, false, false, false, false, false, false, false, false, false, false, false, false, false] rfl rfl (any_of HT_.out (by kernel_rfl)) (fun _ _ _ h => h) (Or.inl ⟨by rfl, ?_⟩) ?_ ?_
                rotate_left
                · intro w'
                  go_simp
                  with_reducible rfl
                rotate_left
                · simp only [Act.put, List.setIfInBounds_toArray, List.set_cons_zero, List.set_cons_succ, i64_w, i32_w]
                  rfl
                refine pure_ (i := 4) (N := some 61) (v := ?_) (a' := ?_) #[true, true, true, true, true, false, false, false, false, false, false, false, false, false, false, false, false, false, false, false, false, false, false] rfl rfl (any_of HT_.out (by kernel_rfl)) (fun _ _ _ h => h) (Or.inl ⟨by rfl, ?_⟩) ?_ ?_
                rotate_left
                · intro w'
                  go_simp
                  with_reducible rfl
                rotate_left
                · simp only [Act.put, List.setIfInBounds_toArray, List.set_cons_zero, List.set_cons_succ, i64_w, i32_w]
                  rfl
                refine take_ (i := 5) (N := some 62) (v := ?_) (a' := ?_) #[true, true, true, true, true, true, false, false, false, false, false, false, false, false, false, false, false, false, false, false, false, false, false] rfl rfl (take_ofW HT_.out HW_.out (by kernel_rfl)) (fun _ _ _ h => h) (Or.inl ⟨by rfl, ?_⟩) hHeld ?_ ?_
                rotate_left
                · rintro w' ⟨s0, s1, s2, s3, s4, s5⟩
                  go_simp
                  with_reducible rfl
                rotate_left
                · simp only [Act.put, List.setIfInBounds_toArray, List.set_cons_zero, List.set_cons_succ, i64_w, i32_w]
                  rfl
                refine take_ (i := 6) (N := some 63) (v := ?_) (a' := ?_) #[true, true, true, true, true, true, true, false, false, false, false, false, false, false, false, false, false, false, false, false, false, false, false] rfl rfl (take_ofW HT_.out HW_.out (by kernel_rfl)) (fun _ _ _ h => h) (Or.inl ⟨by rfl, ?_⟩) hHeld ?_ ?_
                rotate_left
                · rintro w' ⟨s0, s1, s2, s3, s4, s5⟩
                  go_simp
                  with_reducible rfl
                rotate_left
                · simp only [Act.put, List.setIfInBounds_toArray, List.set_cons_zero, List.set_cons_succ, i64_w, i32_w]
                  rfl
                refine one_ (i := 7) (N := some 64) #[true, true, true, true, true, true, true, true, false, false, false, false, false, false, false, false, false, false, false, false, false, false, false] rfl rfl (one_of HT_.out (by kernel_rfl)) (by decide) (fun K hK => ?_)
                refine goes_ Tryd.func17 (by kernel_rfl) rfl #[.agg #[.int .i64 t526, .int .i64 t527], .agg #[.int .i64 t541, .int .i64 t542]] (by rfl) rfl rfl (by (try simp only [List.map_toArray, List.map_cons, List.map_nil]); first | done | rfl | (simp only [List.length_drop, List.length_take]; rfl)) ?_
                with_reducible refine (impl_FracCmp.calls t526 t527 t541 t542 t546 _ ?side1 A44.out).mono ?_
                (case side1 => exact ErrW.below HE.out (by repeat (first | (with_reducible first | exact HB.out | apply below_alloc | apply pw_below_drewN | apply below_drew1 | refine below_set ?_ GE524.out | refine below_set ?_ GE525.out | refine below_set ?_ GE528.out | refine below_set ?_ GE539.out | refine below_set ?_ GE544.out) | exact HB.out)))
                rintro e w104 ⟨rfl, hb⟩
                refine ⟨_, rfl, ?_⟩
                have n0_ := Aside0.mk (blk_below (g := gb524) (o := .cells #[.int .i64 t518, .int .i64 t519, .int .i64 t520, .int .i64 t521] 40 (0, 0)) (by (with_reducible repeat (first | refine blk_drewN ?_ _ | refine blk_drew ?_ | refine blk_alloc ?_ _)); exact BK524.out) hb)
                have n1_ := Aside0.mk (blk_below (g := gb525) (o := .cells #[.int .i64 t522, .int .i64 t523] 38 (0, 0)) (by (with_reducible repeat (first | refine blk_drewN ?_ _ | refine blk_drew ?_ | refine blk_alloc ?_ _)); exact BK525.out) hb)
                have n2_ := Aside0.mk (blk_below (g := gb528) (o := .cells #[.int .i64 t526, .int .i64 t527] 25 (0, 0)) (by (with_reducible repeat (first | refine blk_drewN ?_ _ | refine blk_drew ?_ | refine blk_alloc ?_ _)); exact BK528.out) hb)
                have n3_ := Aside0.mk (blk_below (g := gb539) (o := .cells #[.int .i64 t536, .int .i64 t537] 25 (0, 0)) (by (with_reducible repeat (first | refine blk_drewN ?_ _ | refine blk_drew ?_ | refine blk_alloc ?_ _)); exact BK539.out) hb)
                have n4_ := Aside0.mk (blk_below (g := gb544) (o := .cells #[.int .i64 t541, .int .i64 t542] 25 (0, 0)) (by (with_reducible repeat (first | refine blk_drewN ?_ _ | refine blk_drew ?_ | refine blk_alloc ?_ _)); exact BK544.out) hb)
                have n5_ := Aside0.mk (below_step (by repeat (first | (with_reducible first | exact HB.out | apply below_alloc | apply pw_below_drewN | apply below_drew1 | refine below_set ?_ GE524.out | refine below_set ?_ GE525.out | refine below_set ?_ GE528.out | refine below_set ?_ GE539.out | refine below_set ?_ GE544.out) | exact HB.out)) hb)
                clear BK524
                clear BK525
                clear BK528
                clear BK539
                clear BK544
                clear HB
                have BK524 := n0_
                have BK525 := n1_
                have BK528 := n2_
                have BK539 := n3_
                have BK544 := n4_
                have HB := n5_
                clear n0_ n1_ n2_ n3_ n4_ n5_
                (try clear hb)
                (try clear hb2)
                (try clear hk)
                (try clear hi)
                refine hK.out _ _ ⟨(blk_cell BK528.out 0).trans rfl, (blk_cell BK528.out 1).trans rfl, (blk_cell BK539.out 0).trans rfl, (blk_cell BK539.out 1).trans rfl, (blk_cell BK544.out 0).trans rfl, (blk_cell BK544.out 1).trans rfl⟩ (fun hHeld => ?_)
                clear hK K
                refine norm_ (a' := ?_) ?_ ?_
                rotate_left
                · show Act.put _ (some 64) _ = _
                  simp only [Act.put, List.setIfInBounds_toArray, List.set_cons_zero, List.set_cons_succ, i64_w, i32_w]
                  rfl
                refine pure_ (i := 8) (N := some 65) (v := ?_) (a' := ?_) #[true, true, true, true, true, true, true, true, true, false, false, false, false, false, false, false, false, false, false, false, false, false, false] rfl rfl (any_of HT_.out (by kernel_rfl)) (fun _ _ _ h => h) (Or.inl ⟨by rfl, ?_⟩) ?_ ?_
                rotate_left
                · intro w'
                  go_simp
                  with_reducible rfl
                rotate_left
                · simp only [Act.put, List.setIfInBounds_toArray, List.set_cons_zero, List.set_cons_succ, i64_w, i32_w]
                  rfl
                refine pure_ (i := 9) (N := some 66) (v := ?_) (a' := ?_) #[true, true, true, true, true, true, true, true, true, true, false, false, false, false, false, false, false, false, false, false, false, false, false] rfl rfl (any_of HT_.out (by kernel_rfl)) (fun _ _ _ h => h) (Or.inl ⟨by rfl, ?_⟩) ?_ ?_
                rotate_left
                · intro w'
                  go_simp
                  with_reducible rfl
                rotate_left
                · simp only [Act.put, List.setIfInBounds_toArray, List.set_cons_zero, List.set_cons_succ, i64_w, i32_w]
                  rfl
                refine pure_ (i := 10) (N := some 67) (v := ?_) (a' := ?_) #[true, true, true, true, true, true, true, true, true, true, true, false, false, false, false, false, false, false, false, false, false, false, false] rfl rfl (any_of HT_.out (by kernel_rfl)) (fun _ _ _ h => h) (Or.inl ⟨by rfl, ?_⟩) ?_ ?_
                rotate_left
                · intro w'
                  go_simp
                  with_reducible rfl
                rotate_left
                · simp only [Act.put, List.setIfInBounds_toArray, List.set_cons_zero, List.set_cons_succ, i64_w, i32_w]
                  rfl
                refine take_ (i := 11) (N := some 68) (v := ?_) (a' := ?_) #[true, true, true, true, true, true, true, true, true, true, true, true, false, false, false, false, false, false, false, false, false, false, false] rfl rfl (take_ofW HT_.out HW_.out (by kernel_rfl)) (fun _ _ _ h => h) (Or.inl ⟨by rfl, ?_⟩) hHeld ?_ ?_
                rotate_left
                · rintro w' ⟨s0, s1, s2, s3, s4, s5⟩
                  go_simp
                  with_reducible rfl
                rotate_left
                · simp only [Act.put, List.setIfInBounds_toArray, List.set_cons_zero, List.set_cons_succ, i64_w, i32_w]
                  rfl
                refine one_ (i := 12) (N := some 69) #[true, true, true, true, true, true, true, true, true, true, true, true, true, false, false, false, false, false, false, false, false, false, false] rfl rfl (one_of HT_.out (by kernel_rfl)) (by decide) (fun K hK => ?_)
                refine goes_ Tryd.func19 (by kernel_rfl) rfl #[.agg #[.int .i64 t526, .int .i64 t527]] (by rfl) rfl rfl (by (try simp only [List.map_toArray, List.map_cons, List.map_nil]); first | done | rfl | (simp only [List.length_drop, List.length_take]; rfl)) ?_
                with_reducible refine (impl_FracOk.calls t526 t527 false _ ?side1 A46.out).mono ?_
                (case side1 => exact ErrW.below HE.out (by repeat (first | (with_reducible first | exact HB.out | apply below_alloc | apply pw_below_drewN | apply below_drew1 | refine below_set ?_ GE524.out | refine below_set ?_ GE525.out | refine below_set ?_ GE528.out | refine below_set ?_ GE539.out | refine below_set ?_ GE544.out) | exact HB.out)))
                rintro e w105 ⟨rfl, hb⟩
                refine ⟨_, rfl, ?_⟩
                have n0_ := Aside0.mk (blk_below (g := gb524) (o := .cells #[.int .i64 t518, .int .i64 t519, .int .i64 t520, .int .i64 t521] 40 (0, 0)) (by (with_reducible repeat (first | refine blk_drewN ?_ _ | refine blk_drew ?_ | refine blk_alloc ?_ _)); exact BK524.out) hb)
                have n1_ := Aside0.mk (blk_below (g := gb525) (o := .cells #[.int .i64 t522, .int .i64 t523] 38 (0, 0)) (by (with_reducible repeat (first | refine blk_drewN ?_ _ | refine blk_drew ?_ | refine blk_alloc ?_ _)); exact BK525.out) hb)
                have n2_ := Aside0.mk (blk_below (g := gb528) (o := .cells #[.int .i64 t526, .int .i64 t527] 25 (0, 0)) (by (with_reducible repeat (first | refine blk_drewN ?_ _ | refine blk_drew ?_ | refine blk_alloc ?_ _)); exact BK528.out) hb)
                have n3_ := Aside0.mk (blk_below (g := gb539) (o := .cells #[.int .i64 t536, .int .i64 t537] 25 (0, 0)) (by (with_reducible repeat (first | refine blk_drewN ?_ _ | refine blk_drew ?_ | refine blk_alloc ?_ _)); exact BK539.out) hb)
                have n4_ := Aside0.mk (blk_below (g := gb544) (o := .cells #[.int .i64 t541, .int .i64 t542] 25 (0, 0)) (by (with_reducible repeat (first | refine blk_drewN ?_ _ | refine blk_drew ?_ | refine blk_alloc ?_ _)); exact BK544.out) hb)
                have n5_ := Aside0.mk (below_step (by repeat (first | (with_reducible first | exact HB.out | apply below_alloc | apply pw_below_drewN | apply below_drew1 | refine below_set ?_ GE524.out | refine below_set ?_ GE525.out | refine below_set ?_ GE528.out | refine below_set ?_ GE539.out | refine below_set ?_ GE544.out) | exact HB.out)) hb)
                clear BK524
                clear BK525
                clear BK528
                clear BK539
                clear BK544
                clear HB
                have BK524 := n0_
                have BK525 := n1_
                have BK528 := n2_
                have BK539 := n3_
                have BK544 := n4_
                have HB := n5_
                clear n0_ n1_ n2_ n3_ n4_ n5_
                (try clear hb)
                (try clear hb2)
                (try clear hk)
                (try clear hi)
                refine hK.out _ _ ⟨(blk_cell BK528.out 0).trans rfl, (blk_cell BK528.out 1).trans rfl, (blk_cell BK539.out 0).trans rfl, (blk_cell BK539.out 1).trans rfl, (blk_cell BK544.out 0).trans rfl, (blk_cell BK544.out 1).trans rfl⟩ (fun hHeld => ?_)
                clear hK K
                refine norm_ (a' := ?_) ?_ ?_
                rotate_left
                · show Act.put _ (some 69) _ = _
                  simp only [Act.put, List.setIfInBounds_toArray, List.set_cons_zero, List.set_cons_succ, i64_w, i32_w]
                  rfl
                refine pure_ (i := 13) (N := some 70) (v := ?_) (a' := ?_) #[true, true, true, true, true, true, true, true, true, true, true, true, true, true, false, false, false, false, false, false, false, false, false] rfl rfl (any_of HT_.out (by kernel_rfl)) (fun _ _ _ h => h) (Or.inl ⟨by rfl, ?_⟩) ?_ ?_
                rotate_left
                · intro w'
                  go_simp
                  with_reducible rfl
                rotate_left
                · simp only [Act.put, List.setIfInBounds_toArray, List.set_cons_zero, List.set_cons_succ, i64_w, i32_w]
                  rfl
                refine pure_ (i := 14) (N := some 71) (v := ?_) (a' := ?_) #[true, true, true, true, true, true, true, true, true, true, true, true, true, true, true, false, false, false, false, false, false, false, false] rfl rfl (any_of HT_.out (by kernel_rfl)) (fun _ _ _ h => h) (Or.inl ⟨by rfl, ?_⟩) ?_ ?_
                rotate_left
                · intro w'
                  go_simp
                  with_reducible rfl
                rotate_left
                · simp only [Act.put, List.setIfInBounds_toArray, List.set_cons_zero, List.set_cons_succ, i64_w, i32_w]
                  rfl
                refine pure_ (i := 15) (N := some 72) (v := undef) (a' := ?_) #[true, true, true, true, true, true, true, true, true, true, true, true, true, true, true, true, false, false, false, false, false, false, false] rfl rfl (any_of HT_.out (by kernel_rfl)) (fun _ _ _ h => h) (Or.inr ⟨by rfl, rfl⟩) ?_ ?_
                rotate_left
                · simp only [Act.put, List.setIfInBounds_toArray, List.set_cons_zero, List.set_cons_succ, i64_w, i32_w]
                  rfl
                refine pure_ (i := 16) (N := some 73) (v := undef) (a' := ?_) #[true, true, true, true, true, true, true, true, true, true, true, true, true, true, true, true, true, false, false, false, false, false, false] rfl rfl (any_of HT_.out (by kernel_rfl)) (fun _ _ _ h => h) (Or.inr ⟨by rfl, rfl⟩) ?_ ?_
                rotate_left
                · simp only [Act.put, List.setIfInBounds_toArray, List.set_cons_zero, List.set_cons_succ, i64_w, i32_w]
                  rfl
                refine pure_ (i := 17) (N := some 74) (v := undef) (a' := ?_) #[true, true, true, true, true, true, true, true, true, true, true, true, true, true, true, true, true, true, false, false, false, false, false] rfl rfl (any_of HT_.out (by kernel_rfl)) (fun _ _ _ h => h) (Or.inr ⟨by rfl, rfl⟩) ?_ ?_
                rotate_left
                · simp only [Act.put, List.setIfInBounds_toArray, List.set_cons_zero, List.set_cons_succ, i64_w, i32_w]
                  rfl
                refine pure_ (i := 18) (N := some 75) (v := undef) (a' := ?_) #[true, true, true, true, true, true, true, true, true, true, true, true, true, true, true, true, true, true, true, false, false, false, false] rfl rfl (any_of HT_.out (by kernel_rfl)) (fun _ _ _ h => h) (Or.inr ⟨by rfl, rfl⟩) ?_ ?_
                rotate_left
                · simp only [Act.put, List.setIfInBounds_toArray, List.set_cons_zero, List.set_cons_succ, i64_w, i32_w]
                  rfl
                refine pure_ (i := 19) (N := some 76) (v := undef) (a' := ?_) #[true, true, true, true, true, true, true, true, true, true, true, true, true, true, true, true, true, true, true, true, false, false, false] rfl rfl (any_of HT_.out (by kernel_rfl)) (fun _ _ _ h => h) (Or.inr ⟨by rfl, rfl⟩) ?_ ?_
                rotate_left
                · simp only [Act.put, List.setIfInBounds_toArray, List.set_cons_zero, List.set_cons_succ, i64_w, i32_w]
                  rfl
                refine pure_ (i := 20) (N := some 77) (v := undef) (a' := ?_) #[true, true, true, true, true, true, true, true, true, true, true, true, true, true, true, true, true, true, true, true, true, false, false] rfl rfl (any_of HT_.out (by kernel_rfl)) (fun _ _ _ h => h) (Or.inr ⟨by rfl, rfl⟩) ?_ ?_
                rotate_left
                · simp only [Act.put, List.setIfInBounds_toArray, List.set_cons_zero, List.set_cons_succ, i64_w, i32_w]
                  rfl
                refine pure_ (i := 21) (N := some 78) (v := ?_) (a' := ?_) #[true, true, true, true, true, true, true, true, true, true, true, true, true, true, true, true, true, true, true, true, true, true, false] rfl rfl (any_of HT_.out (by kernel_rfl)) (fun _ _ _ h => h) (Or.inl ⟨by rfl, ?_⟩) ?_ ?_
                rotate_left
                · intro w'
                  go_simp
                  with_reducible rfl
                rotate_left
                · simp only [Act.put, List.setIfInBounds_toArray, List.set_cons_zero, List.set_cons_succ, i64_w, i32_w]
                  rfl
                refine pure_ (i := 22) (N := some 2) (v := ?_) (a' := ?_) #[true, true, true, true, true, true, true, true, true, true, true, true, true, true, true, true, true, true, true, true, true, true, true] rfl rfl (any_of HT_.out (by kernel_rfl)) (fun _ _ _ h => h) (Or.inl ⟨by rfl, ?_⟩) ?_ ?_
                rotate_left
                · intro w'
                  go_simp
                  with_reducible rfl
                rotate_left
                · simp only [Act.put, List.setIfInBounds_toArray, List.set_cons_zero, List.set_cons_succ, i64_w, i32_w]
                  rfl
                refine done_ (done_of HT_.out (by kernel_rfl)) ?_
                try go_wp2
                go_ret
                exact ⟨by first | rfl | (simp [errW_none, errW_some] <;> rfl) | (simp [*, errW_none, errW_some] <;> rfl), by repeat (first | (with_reducible first | exact HB.out | apply below_alloc | apply pw_below_drewN | apply below_drew1 | refine below_set ?_ GE524.out | refine below_set ?_ GE525.out | refine below_set ?_ GE528.out | refine below_set ?_ GE539.out | refine below_set ?_ GE544.out) | exact HB.out)⟩
            · rw [if_neg c45] at H
              have c45b0 : decide (t546 ≤ 0) = false := decide_eq_false c45
              clear c45
              obtain rfl := Option.some.inj H
              have hnb106 := NB524_525.out
              have hnc106 := NB525_524.out
              have hnb107 := NB524_528.out
              have hnc107 := NB528_524.out
              have hcz108_0 : wc.cell? ⟨gb524, 0, none⟩ = some (.int .i64 t518) := (blk_cell BK524.out 0).trans rfl
              have hcz108_1 : wc.cell? ⟨gb524, 1, none⟩ = some (.int .i64 t519) := (blk_cell BK524.out 1).trans rfl
              have hcz108_2 : wc.cell? ⟨gb524, 2, none⟩ = some (.int .i64 t520) := (blk_cell BK524.out 2).trans rfl
              have hcz108_3 : wc.cell? ⟨gb524, 3, none⟩ = some (.int .i64 t521) := (blk_cell BK524.out 3).trans rfl
              have hfz108_0 := blk_frozen BK524.out 0
              have hfz108_1 := blk_frozen BK524.out 1
              have hfz108_2 := blk_frozen BK524.out 2
              have hfz108_3 := blk_frozen BK524.out 3
              have hnb109 := NB525_528.out
              have hnc109 := NB528_525.out
              have hcz110_0 : wc.cell? ⟨gb525, 0, none⟩ = some (.int .i64 t522) := (blk_cell BK525.out 0).trans rfl
              have hcz110_1 : wc.cell? ⟨gb525, 1, none⟩ = some (.int .i64 t523) := (blk_cell BK525.out 1).trans rfl
              have hfz110_0 := blk_frozen BK525.out 0
              have hfz110_1 := blk_frozen BK525.out 1
              try go_wp2_with (first | ((with_reducible refine gate_callee (f := 30) rfl ?_); refine goesL_ (some 45) rfl rfl Tryd.func30 (by kernel_rfl) rfl #[.agg #[.int .i64 t518, .int .i64 t519], .agg #[.int .i64 t522, .int .i64 t523]] rfl (by (try simp only [List.map_toArray, List.map_cons, List.map_nil]); first | done | rfl | (simp only [List.length_drop, List.length_take]; rfl)) ?_; (with_reducible refine (laws_luSq.calls t518 t519 t522 t523 t535 _ A38.out).mono ?_); rintro e w111 ⟨rfl, hb⟩; refine ⟨_, rfl, ?_⟩; have n0_ := Aside0.mk (blk_below (g := gb524) (o := .cells #[.int .i64 t518, .int .i64 t519, .int .i64 t520, .int .i64 t521] 40 (0, 0)) (by (with_reducible repeat (first | refine blk_drewN ?_ _ | refine blk_drew ?_ | refine blk_alloc ?_ _)); exact BK524.out) hb); have n1_ := Aside0.mk (blk_below (g := gb525) (o := .cells #[.int .i64 t522, .int .i64 t523] 38 (0, 0)) (by (with_reducible repeat (first | refine blk_drewN ?_ _ | refine blk_drew ?_ | refine blk_alloc ?_ _)); exact BK525.out) hb); have n2_ := Aside0.mk (blk_below (g := gb528) (o := .cells #[.int .i64 t526, .int .i64 t527] 25 (0, 0)) (by (with_reducible repeat (first | refine blk_drewN ?_ _ | refine blk_drew ?_ | refine blk_alloc ?_ _)); exact BK528.out) hb); have n3_ := Aside0.mk (below_step (by repeat (first | (with_reducible first | exact HB.out | apply below_alloc | apply pw_below_drewN | apply below_drew1 | refine below_set ?_ GE524.out | refine below_set ?_ GE525.out | refine below_set ?_ GE528.out) | exact HB.out)) hb); clear BK524; clear BK525; clear BK528; clear HB; have BK524 := n0_; have BK525 := n1_; have BK528 := n2_; have HB := n3_; clear n0_ n1_ n2_ n3_; (try clear hb); (try clear hb2); (try clear hk); (try clear hi)) | ((with_reducible refine gate_callee (f := 21) rfl ?_); refine goesL_ (some 46) rfl rfl Tryd.func21 (by kernel_rfl) rfl #[.int .i64 t535, .int .i64 1] rfl (by (try simp only [List.map_toArray, List.map_cons, List.map_nil]); first | done | rfl | (simp only [List.length_drop, List.length_take]; rfl)) ?_; (with_reducible refine (impl_FracOf.calls kj4 t535 1 t536 t537 t538 _ A39.out).mono ?_); rintro e w112 ⟨rfl, hb⟩; refine ⟨_, rfl, ?_⟩; have n0_ := Aside0.mk (blk_below (g := gb524) (o := .cells #[.int .i64 t518, .int .i64 t519, .int .i64 t520, .int .i64 t521] 40 (0, 0)) (by (with_reducible repeat (first | refine blk_drewN ?_ _ | refine blk_drew ?_ | refine blk_alloc ?_ _)); exact BK524.out) hb); have n1_ := Aside0.mk (blk_below (g := gb525) (o := .cells #[.int .i64 t522, .int .i64 t523] 38 (0, 0)) (by (with_reducible repeat (first | refine blk_drewN ?_ _ | refine blk_drew ?_ | refine blk_alloc ?_ _)); exact BK525.out) hb); have n2_ := Aside0.mk (blk_below (g := gb528) (o := .cells #[.int .i64 t526, .int .i64 t527] 25 (0, 0)) (by (with_reducible repeat (first | refine blk_drewN ?_ _ | refine blk_drew ?_ | refine blk_alloc ?_ _)); exact BK528.out) hb); have n3_ := Aside0.mk (below_step (by repeat (first | (with_reducible first | exact HB.out | apply below_alloc | apply pw_below_drewN | apply below_drew1 | refine below_set ?_ GE524.out | refine below_set ?_ GE525.out | refine below_set ?_ GE528.out) | exact HB.out)) hb); clear BK524; clear BK525; clear BK528; clear HB; have BK524 := n0_; have BK525 := n1_; have BK528 := n2_; have HB := n3_; clear n0_ n1_ n2_ n3_; (try clear hb); (try clear hb2); (try clear hk); (try clear hi)) | ((with_reducible refine gate_dst (N := 6) rfl ?_); refine box_event ?hg (N := 6) ?hd (cs := #[.int .i64 0, .int .i64 0]) (t := 25) ?hr ?_; (case hd => rfl); (case hg => rfl); (case hr => first | (go_simp; done) | (go_simp; rfl)); intro gb539 hg w113 hbox hb; have n0_ := Aside0.mk (blk_below (g := gb524) (o := .cells #[.int .i64 t518, .int .i64 t519, .int .i64 t520, .int .i64 t521] 40 (0, 0)) (by (with_reducible repeat (first | refine blk_drewN ?_ _ | refine blk_drew ?_ | refine blk_alloc ?_ _)); exact BK524.out) hb); have n1_ := Aside0.mk (blk_below (g := gb525) (o := .cells #[.int .i64 t522, .int .i64 t523] 38 (0, 0)) (by (with_reducible repeat (first | refine blk_drewN ?_ _ | refine blk_drew ?_ | refine blk_alloc ?_ _)); exact BK525.out) hb); have n2_ := Aside0.mk (blk_below (g := gb528) (o := .cells #[.int .i64 t526, .int .i64 t527] 25 (0, 0)) (by (with_reducible repeat (first | refine blk_drewN ?_ _ | refine blk_drew ?_ | refine blk_alloc ?_ _)); exact BK528.out) hb); have n3_ := Aside0.mk (below_step (by repeat (first | (with_reducible first | exact HB.out | apply below_alloc | apply pw_below_drewN | apply below_drew1 | refine below_set ?_ GE524.out | refine below_set ?_ GE525.out | refine below_set ?_ GE528.out) | exact HB.out)) hb); have n4_ := Aside0.mk (hbox); have n5_ := Aside0.mk ((by rw [hg]; exact (below_size (by repeat (first | (with_reducible first | exact HB.out | apply below_alloc | apply pw_below_drewN | apply below_drew1 | refine below_set ?_ GE524.out | refine below_set ?_ GE525.out | refine below_set ?_ GE528.out) | exact HB.out))) : w.heap.size ≤ gb539)); have n6_ := Aside0.mk ((by rw [hg]; exact (below_size (by repeat (first | (with_reducible first | exact HB.out | apply below_alloc | apply pw_below_drewN | apply below_drew1 | refine below_set ?_ GE524.out | refine below_set ?_ GE525.out | refine below_set ?_ GE528.out) | exact HB.out))) : w.heap.size ≤ gb539)); have n7_ := Aside0.mk ((by rw [hg]; exact Nat.ne_of_lt (blk_lt (g := gb524) (o := .cells #[.int .i64 t518, .int .i64 t519, .int .i64 t520, .int .i64 t521] 40 (0, 0)) (by (with_reducible repeat (first | refine blk_drewN ?_ _ | refine blk_drew ?_ | refine blk_alloc ?_ _)); exact BK524.out)) : gb524 ≠ gb539)); have n8_ := Aside0.mk ((by rw [hg]; exact Nat.ne_of_gt (blk_lt (g := gb524) (o := .cells #[.int .i64 t518, .int .i64 t519, .int .i64 t520, .int .i64 t521] 40 (0, 0)) (by (with_reducible repeat (first | refine blk_drewN ?_ _ | refine blk_drew ?_ | refine blk_alloc ?_ _)); exact BK524.out)) : gb539 ≠ gb524)); have n9_ := Aside0.mk ((by rw [hg]; exact Nat.ne_of_lt (blk_lt (g := gb525) (o := .cells #[.int .i64 t522, .int .i64 t523] 38 (0, 0)) (by (with_reducible repeat (first | refine blk_drewN ?_ _ | refine blk_drew ?_ | refine blk_alloc ?_ _)); exact BK525.out)) : gb525 ≠ gb539)); have n10_ := Aside0.mk ((by rw [hg]; exact Nat.ne_of_gt (blk_lt (g := gb525) (o := .cells #[.int .i64 t522, .int .i64 t523] 38 (0, 0)) (by (with_reducible repeat (first | refine blk_drewN ?_ _ | refine blk_drew ?_ | refine blk_alloc ?_ _)); exact BK525.out)) : gb539 ≠ gb525)); have n11_ := Aside0.mk ((by rw [hg]; exact Nat.ne_of_lt (blk_lt (g := gb528) (o := .cells #[.int .i64 t526, .int .i64 t527] 25 (0, 0)) (by (with_reducible repeat (first | refine blk_drewN ?_ _ | refine blk_drew ?_ | refine blk_alloc ?_ _)); exact BK528.out)) : gb528 ≠ gb539)); have n12_ := Aside0.mk ((by rw [hg]; exact Nat.ne_of_gt (blk_lt (g := gb528) (o := .cells #[.int .i64 t526, .int .i64 t527] 25 (0, 0)) (by (with_reducible repeat (first | refine blk_drewN ?_ _ | refine blk_drew ?_ | refine blk_alloc ?_ _)); exact BK528.out)) : gb539 ≠ gb528)); clear BK524; clear BK525; clear BK528; clear HB; have BK524 := n0_; have BK525 := n1_; have BK528 := n2_; have HB := n3_; have BK539 := n4_; have GW539 := n5_; have GE539 := n6_; have NB524_539 := n7_; have NB539_524 := n8_; have NB525_539 := n9_; have NB539_525 := n10_; have NB528_539 := n11_; have NB539_528 := n12_; clear n0_ n1_ n2_ n3_ n4_ n5_ n6_ n7_ n8_ n9_ n10_ n11_ n12_; clear hb hbox hg; have hnb114 := NB539_524.out; have hnc114 := NB524_539.out; have hnb115 := NB539_525.out; have hnc115 := NB525_539.out; have hnb116 := NB539_528.out; have hnc116 := NB528_539.out; have hcz117_0 : w113.cell? ⟨gb539, 0, none⟩ = some (.int .i64 0) := (blk_cell BK539.out 0).trans rfl; have hcz117_1 : w113.cell? ⟨gb539, 1, none⟩ = some (.int .i64 0) := (blk_cell BK539.out 1).trans rfl; have hfz117_0 := blk_frozen BK539.out 0; have hfz117_1 := blk_frozen BK539.out 1; have hcz118_0 : w113.cell? ⟨gb524, 0, none⟩ = some (.int .i64 t518) := (blk_cell BK524.out 0).trans rfl; have hcz118_1 : w113.cell? ⟨gb524, 1, none⟩ = some (.int .i64 t519) := (blk_cell BK524.out 1).trans rfl; have hcz118_2 : w113.cell? ⟨gb524, 2, none⟩ = some (.int .i64 t520) := (blk_cell BK524.out 2).trans rfl; have hcz118_3 : w113.cell? ⟨gb524, 3, none⟩ = some (.int .i64 t521) := (blk_cell BK524.out 3).trans rfl; have hfz118_0 := blk_frozen BK524.out 0; have hfz118_1 := blk_frozen BK524.out 1; have hfz118_2 := blk_frozen BK524.out 2; have hfz118_3 := blk_frozen BK524.out 3; have hcz119_0 : w113.cell? ⟨gb525, 0, none⟩ = some (.int .i64 t522) := (blk_cell BK525.out 0).trans rfl; have hcz119_1 : w113.cell? ⟨gb525, 1, none⟩ = some (.int .i64 t523) := (blk_cell BK525.out 1).trans rfl; have hfz119_0 := blk_frozen BK525.out 0; have hfz119_1 := blk_frozen BK525.out 1) | ((with_reducible refine gate_callee (f := 30) rfl ?_); refine goesL_ (some 53) rfl rfl Tryd.func30 (by kernel_rfl) rfl #[.agg #[.int .i64 t520, .int .i64 t521], .agg #[.int .i64 t522, .int .i64 t523]] rfl (by (try simp only [List.map_toArray, List.map_cons, List.map_nil]); first | done | rfl | (simp only [List.length_drop, List.length_take]; rfl)) ?_; (with_reducible refine (laws_luSq.calls t520 t521 t522 t523 t540 _ A40.out).mono ?_); rintro e w120 ⟨rfl, hb⟩; refine ⟨_, rfl, ?_⟩; have n0_ := Aside0.mk (blk_below (g := gb524) (o := .cells #[.int .i64 t518, .int .i64 t519, .int .i64 t520, .int .i64 t521] 40 (0, 0)) (by (with_reducible repeat (first | refine blk_drewN ?_ _ | refine blk_drew ?_ | refine blk_alloc ?_ _)); refine blk_far ?_ NB524_539.out _; (with_reducible repeat (first | refine blk_drewN ?_ _ | refine blk_drew ?_ | refine blk_alloc ?_ _)); refine blk_far ?_ NB524_539.out _; (with_reducible repeat (first | refine blk_drewN ?_ _ | refine blk_drew ?_ | refine blk_alloc ?_ _)); exact BK524.out) hb); have n1_ := Aside0.mk (blk_below (g := gb525) (o := .cells #[.int .i64 t522, .int .i64 t523] 38 (0, 0)) (by (with_reducible repeat (first | refine blk_drewN ?_ _ | refine blk_drew ?_ | refine blk_alloc ?_ _)); refine blk_far ?_ NB525_539.out _; (with_reducible repeat (first | refine blk_drewN ?_ _ | refine blk_drew ?_ | refine blk_alloc ?_ _)); refine blk_far ?_ NB525_539.out _; (with_reducible repeat (first | refine blk_drewN ?_ _ | refine blk_drew ?_ | refine blk_alloc ?_ _)); exact BK525.out) hb); have n2_ := Aside0.mk (blk_below (g := gb528) (o := .cells #[.int .i64 t526, .int .i64 t527] 25 (0, 0)) (by (with_reducible repeat (first | refine blk_drewN ?_ _ | refine blk_drew ?_ | refine blk_alloc ?_ _)); refine blk_far ?_ NB528_539.out _; (with_reducible repeat (first | refine blk_drewN ?_ _ | refine blk_drew ?_ | refine blk_alloc ?_ _)); refine blk_far ?_ NB528_539.out _; (with_reducible repeat (first | refine blk_drewN ?_ _ | refine blk_drew ?_ | refine blk_alloc ?_ _)); exact BK528.out) hb); have n3_ := Aside0.mk (blk_below (g := gb539) (o := .cells #[.int .i64 t536, .int .i64 t537] 25 (0, 0)) (by (with_reducible repeat (first | refine blk_drewN ?_ _ | refine blk_drew ?_ | refine blk_alloc ?_ _)); refine blk_put (cs := #[.int .i64 t536, .int .i64 0]) ?_ 1 _ rfl; (with_reducible repeat (first | refine blk_drewN ?_ _ | refine blk_drew ?_ | refine blk_alloc ?_ _)); refine blk_put (cs := #[.int .i64 0, .int .i64 0]) ?_ 0 _ rfl; (with_reducible repeat (first | refine blk_drewN ?_ _ | refine blk_drew ?_ | refine blk_alloc ?_ _)); exact BK539.out) hb); have n4_ := Aside0.mk (below_step (by repeat (first | (with_reducible first | exact HB.out | apply below_alloc | apply pw_below_drewN | apply below_drew1 | refine below_set ?_ GE524.out | refine below_set ?_ GE525.out | refine below_set ?_ GE528.out | refine below_set ?_ GE539.out) | exact HB.out)) hb); clear BK524; clear BK525; clear BK528; clear BK539; clear HB; have BK524 := n0_; have BK525 := n1_; have BK528 := n2_; have BK539 := n3_; have HB := n4_; clear n0_ n1_ n2_ n3_ n4_; (try clear hb); (try clear hb2); (try clear hk); (try clear hi)) | ((with_reducible refine gate_callee (f := 21) rfl ?_); refine goesL_ (some 54) rfl rfl Tryd.func21 (by kernel_rfl) rfl #[.int .i64 t540, .int .i64 1] rfl (by (try simp only [List.map_toArray, List.map_cons, List.map_nil]); first | done | rfl | (simp only [List.length_drop, List.length_take]; rfl)) ?_; (with_reducible refine (impl_FracOf.calls kj4 t540 1 t541 t542 t543 _ A41.out).mono ?_); rintro e w121 ⟨rfl, hb⟩; refine ⟨_, rfl, ?_⟩; have n0_ := Aside0.mk (blk_below (g := gb524) (o := .cells #[.int .i64 t518, .int .i64 t519, .int .i64 t520, .int .i64 t521] 40 (0, 0)) (by (with_reducible repeat (first | refine blk_drewN ?_ _ | refine blk_drew ?_ | refine blk_alloc ?_ _)); exact BK524.out) hb); have n1_ := Aside0.mk (blk_below (g := gb525) (o := .cells #[.int .i64 t522, .int .i64 t523] 38 (0, 0)) (by (with_reducible repeat (first | refine blk_drewN ?_ _ | refine blk_drew ?_ | refine blk_alloc ?_ _)); exact BK525.out) hb); have n2_ := Aside0.mk (blk_below (g := gb528) (o := .cells #[.int .i64 t526, .int .i64 t527] 25 (0, 0)) (by (with_reducible repeat (first | refine blk_drewN ?_ _ | refine blk_drew ?_ | refine blk_alloc ?_ _)); exact BK528.out) hb); have n3_ := Aside0.mk (blk_below (g := gb539) (o := .cells #[.int .i64 t536, .int .i64 t537] 25 (0, 0)) (by (with_reducible repeat (first | refine blk_drewN ?_ _ | refine blk_drew ?_ | refine blk_alloc ?_ _)); exact BK539.out) hb); have n4_ := Aside0.mk (below_step (by repeat (first | (with_reducible first | exact HB.out | apply below_alloc | apply pw_below_drewN | apply below_drew1 | refine below_set ?_ GE524.out | refine below_set ?_ GE525.out | refine below_set ?_ GE528.out | refine below_set ?_ GE539.out) | exact HB.out)) hb); clear BK524; clear BK525; clear BK528; clear BK539; clear HB; have BK524 := n0_; have BK525 := n1_; have BK528 := n2_; have BK539 := n3_; have HB := n4_; clear n0_ n1_ n2_ n3_ n4_; (try clear hb); (try clear hb2); (try clear hk); (try clear hi)) | ((with_reducible refine gate_dst (N := 8) rfl ?_); refine box_event ?hg (N := 8) ?hd (cs := #[.int .i64 0, .int .i64 0]) (t := 25) ?hr ?_; (case hd => rfl); (case hg => rfl); (case hr => first | (go_simp; done) | (go_simp; rfl)); intro gb544 hg w122 hbox hb; have n0_ := Aside0.mk (blk_below (g := gb524) (o := .cells #[.int .i64 t518, .int .i64 t519, .int .i64 t520, .int .i64 t521] 40 (0, 0)) (by (with_reducible repeat (first | refine blk_drewN ?_ _ | refine blk_drew ?_ | refine blk_alloc ?_ _)); exact BK524.out) hb); have n1_ := Aside0.mk (blk_below (g := gb525) (o := .cells #[.int .i64 t522, .int .i64 t523] 38 (0, 0)) (by (with_reducible repeat (first | refine blk_drewN ?_ _ | refine blk_drew ?_ | refine blk_alloc ?_ _)); exact BK525.out) hb); have n2_ := Aside0.mk (blk_below (g := gb528) (o := .cells #[.int .i64 t526, .int .i64 t527] 25 (0, 0)) (by (with_reducible repeat (first | refine blk_drewN ?_ _ | refine blk_drew ?_ | refine blk_alloc ?_ _)); exact BK528.out) hb); have n3_ := Aside0.mk (blk_below (g := gb539) (o := .cells #[.int .i64 t536, .int .i64 t537] 25 (0, 0)) (by (with_reducible repeat (first | refine blk_drewN ?_ _ | refine blk_drew ?_ | refine blk_alloc ?_ _)); exact BK539.out) hb); have n4_ := Aside0.mk (below_step (by repeat (first | (with_reducible first | exact HB.out | apply below_alloc | apply pw_below_drewN | apply below_drew1 | refine below_set ?_ GE524.out | refine below_set ?_ GE525.out | refine below_set ?_ GE528.out | refine below_set ?_ GE539.out) | exact HB.out)) hb); have n5_ := Aside0.mk (hbox); have n6_ := Aside0.mk ((by rw [hg]; exact (below_size (by repeat (first | (with_reducible first | exact HB.out | apply below_alloc | apply pw_below_drewN | apply below_drew1 | refine below_set ?_ GE524.out | refine below_set ?_ GE525.out | refine below_set ?_ GE528.out | refine below_set ?_ GE539.out) | exact HB.out))) : w.heap.size ≤ gb544)); have n7_ := Aside0.mk ((by rw [hg]; exact (below_size (by repeat (first | (with_reducible first | exact HB.out | apply below_alloc | apply pw_below_drewN | apply below_drew1 | refine below_set ?_ GE524.out | refine below_set ?_ GE525.out | refine below_set ?_ GE528.out | refine below_set ?_ GE539.out) | exact HB.out))) : w.heap.size ≤ gb544)); have n8_ := Aside0.mk ((by rw [hg]; exact Nat.ne_of_lt (blk_lt (g := gb524) (o := .cells #[.int .i64 t518, .int .i64 t519, .int .i64 t520, .int .i64 t521] 40 (0, 0)) (by (with_reducible repeat (first | refine blk_drewN ?_ _ | refine blk_drew ?_ | refine blk_alloc ?_ _)); exact BK524.out)) : gb524 ≠ gb544)); have n9_ := Aside0.mk ((by rw [hg]; exact Nat.ne_of_gt (blk_lt (g := gb524) (o := .cells #[.int .i64 t518, .int .i64 t519, .int .i64 t520, .int .i64 t521] 40 (0, 0)) (by (with_reducible repeat (first | refine blk_drewN ?_ _ | refine blk_drew ?_ | refine blk_alloc ?_ _)); exact BK524.out)) : gb544 ≠ gb524)); have n10_ := Aside0.mk ((by rw [hg]; exact Nat.ne_of_lt (blk_lt (g := gb525) (o := .cells #[.int .i64 t522, .int .i64 t523] 38 (0, 0)) (by (with_reducible repeat (first | refine blk_drewN ?_ _ | refine blk_drew ?_ | refine blk_alloc ?_ _)); exact BK525.out)) : gb525 ≠ gb544)); have n11_ := Aside0.mk ((by rw [hg]; exact Nat.ne_of_gt (blk_lt (g := gb525) (o := .cells #[.int .i64 t522, .int .i64 t523] 38 (0, 0)) (by (with_reducible repeat (first | refine blk_drewN ?_ _ | refine blk_drew ?_ | refine blk_alloc ?_ _)); exact BK525.out)) : gb544 ≠ gb525)); have n12_ := Aside0.mk ((by rw [hg]; exact Nat.ne_of_lt (blk_lt (g := gb528) (o := .cells #[.int .i64 t526, .int .i64 t527] 25 (0, 0)) (by (with_reducible repeat (first | refine blk_drewN ?_ _ | refine blk_drew ?_ | refine blk_alloc ?_ _)); exact BK528.out)) : gb528 ≠ gb544)); have n13_ := Aside0.mk ((by rw [hg]; exact Nat.ne_of_gt (blk_lt (g := gb528) (o := .cells #[.int .i64 t526, .int .i64 t527] 25 (0, 0)) (by (with_reducible repeat (first | refine blk_drewN ?_ _ | refine blk_drew ?_ | refine blk_alloc ?_ _)); exact BK528.out)) : gb544 ≠ gb528)); have n14_ := Aside0.mk ((by rw [hg]; exact Nat.ne_of_lt (blk_lt (g := gb539) (o := .cells #[.int .i64 t536, .int .i64 t537] 25 (0, 0)) (by (with_reducible repeat (first | refine blk_drewN ?_ _ | refine blk_drew ?_ | refine blk_alloc ?_ _)); exact BK539.out)) : gb539 ≠ gb544)); have n15_ := Aside0.mk ((by rw [hg]; exact Nat.ne_of_gt (blk_lt (g := gb539) (o := .cells #[.int .i64 t536, .int .i64 t537] 25 (0, 0)) (by (with_reducible repeat (first | refine blk_drewN ?_ _ | refine blk_drew ?_ | refine blk_alloc ?_ _)); exact BK539.out)) : gb544 ≠ gb539)); clear BK524; clear BK525; clear BK528; clear BK539; clear HB; have BK524 := n0_; have BK525 := n1_; have BK528 := n2_; have BK539 := n3_; have HB := n4_; have BK544 := n5_; have GW544 := n6_; have GE544 := n7_; have NB524_544 := n8_; have NB544_524 := n9_; have NB525_544 := n10_; have NB544_525 := n11_; have NB528_544 := n12_; have NB544_528 := n13_; have NB539_544 := n14_; have NB544_539 := n15_; clear n0_ n1_ n2_ n3_ n4_ n5_ n6_ n7_ n8_ n9_ n10_ n11_ n12_ n13_ n14_ n15_; clear hb hbox hg; have hnb123 := NB544_524.out; have hnc123 := NB524_544.out; have hnb124 := NB544_525.out; have hnc124 := NB525_544.out; have hnb125 := NB544_528.out; have hnc125 := NB528_544.out; have hnb126 := NB544_539.out; have hnc126 := NB539_544.out; have hcz127_0 : w122.cell? ⟨gb544, 0, none⟩ = some (.int .i64 0) := (blk_cell BK544.out 0).trans rfl; have hcz127_1 : w122.cell? ⟨gb544, 1, none⟩ = some (.int .i64 0) := (blk_cell BK544.out 1).trans rfl; have hfz127_0 := blk_frozen BK544.out 0; have hfz127_1 := blk_frozen BK544.out 1))
              have n0_ : Aside0 (((w122.setCell ⟨gb544, 0, none⟩ (.int .i64 t541)).setCell ⟨gb544, 1, none⟩ (.int .i64 t542)).heap[gb524]? = some (.cells #[.int .i64 t518, .int .i64 t519, .int .i64 t520, .int .i64 t521] 40 (0, 0))) := ⟨by (with_reducible repeat (first | refine blk_drewN ?_ _ | refine blk_drew ?_ | refine blk_alloc ?_ _)); refine blk_far ?_ NB524_544.out _; (with_reducible repeat (first | refine blk_drewN ?_ _ | refine blk_drew ?_ | refine blk_alloc ?_ _)); refine blk_far ?_ NB524_544.out _; (with_reducible repeat (first | refine blk_drewN ?_ _ | refine blk_drew ?_ | refine blk_alloc ?_ _)); exact BK524.out⟩
              have n1_ : Aside0 (((w122.setCell ⟨gb544, 0, none⟩ (.int .i64 t541)).setCell ⟨gb544, 1, none⟩ (.int .i64 t542)).heap[gb525]? = some (.cells #[.int .i64 t522, .int .i64 t523] 38 (0, 0))) := ⟨by (with_reducible repeat (first | refine blk_drewN ?_ _ | refine blk_drew ?_ | refine blk_alloc ?_ _)); refine blk_far ?_ NB525_544.out _; (with_reducible repeat (first | refine blk_drewN ?_ _ | refine blk_drew ?_ | refine blk_alloc ?_ _)); refine blk_far ?_ NB525_544.out _; (with_reducible repeat (first | refine blk_drewN ?_ _ | refine blk_drew ?_ | refine blk_alloc ?_ _)); exact BK525.out⟩
              have n2_ : Aside0 (((w122.setCell ⟨gb544, 0, none⟩ (.int .i64 t541)).setCell ⟨gb544, 1, none⟩ (.int .i64 t542)).heap[gb528]? = some (.cells #[.int .i64 t526, .int .i64 t527] 25 (0, 0))) := ⟨by (with_reducible repeat (first | refine blk_drewN ?_ _ | refine blk_drew ?_ | refine blk_alloc ?_ _)); refine blk_far ?_ NB528_544.out _; (with_reducible repeat (first | refine blk_drewN ?_ _ | refine blk_drew ?_ | refine blk_alloc ?_ _)); refine blk_far ?_ NB528_544.out _; (with_reducible repeat (first | refine blk_drewN ?_ _ | refine blk_drew ?_ | refine blk_alloc ?_ _)); exact BK528.out⟩
              have n3_ : Aside0 (((w122.setCell ⟨gb544, 0, none⟩ (.int .i64 t541)).setCell ⟨gb544, 1, none⟩ (.int .i64 t542)).heap[gb539]? = some (.cells #[.int .i64 t536, .int .i64 t537] 25 (0, 0))) := ⟨by (with_reducible repeat (first | refine blk_drewN ?_ _ | refine blk_drew ?_ | refine blk_alloc ?_ _)); refine blk_far ?_ NB539_544.out _; (with_reducible repeat (first | refine blk_drewN ?_ _ | refine blk_drew ?_ | refine blk_alloc ?_ _)); refine blk_far ?_ NB539_544.out _; (with_reducible repeat (first | refine blk_drewN ?_ _ | refine blk_drew ?_ | refine blk_alloc ?_ _)); exact BK539.out⟩
              have n4_ : Aside0 (((w122.setCell ⟨gb544, 0, none⟩ (.int .i64 t541)).setCell ⟨gb544, 1, none⟩ (.int .i64 t542)).heap[gb544]? = some (.cells #[.int .i64 t541, .int .i64 t542] 25 (0, 0))) := ⟨by (with_reducible repeat (first | refine blk_drewN ?_ _ | refine blk_drew ?_ | refine blk_alloc ?_ _)); refine blk_put (cs := #[.int .i64 t541, .int .i64 0]) ?_ 1 _ rfl; (with_reducible repeat (first | refine blk_drewN ?_ _ | refine blk_drew ?_ | refine blk_alloc ?_ _)); refine blk_put (cs := #[.int .i64 0, .int .i64 0]) ?_ 0 _ rfl; (with_reducible repeat (first | refine blk_drewN ?_ _ | refine blk_drew ?_ | refine blk_alloc ?_ _)); exact BK544.out⟩
              have n5_ : Aside0 (Below w.heap.size w ((w122.setCell ⟨gb544, 0, none⟩ (.int .i64 t541)).setCell ⟨gb544, 1, none⟩ (.int .i64 t542))) := ⟨by repeat (first | (with_reducible first | exact HB.out | apply below_alloc | apply pw_below_drewN | apply below_drew1 | refine below_set ?_ GE524.out | refine below_set ?_ GE525.out | refine below_set ?_ GE528.out | refine below_set ?_ GE539.out | refine below_set ?_ GE544.out) | exact HB.out)⟩
              (try clear BK524)
              (try clear BK525)
              (try clear BK528)
              (try clear BK539)
              (try clear BK544)
              (try clear HB)
              generalize ((w122.setCell ⟨gb544, 0, none⟩ (.int .i64 t541)).setCell ⟨gb544, 1, none⟩ (.int .i64 t542)) = w128 at n0_ n1_ n2_ n3_ n4_ n5_ ⊢
              have BK524 := n0_
              have BK525 := n1_
              have BK528 := n2_
              have BK539 := n3_
              have BK544 := n4_
              have HB := n5_
              clear n0_ n1_ n2_ n3_ n4_ n5_
              have n0_ := Aside0.mk (blk_drew BK524.out)
              have n1_ := Aside0.mk (blk_drew BK525.out)
              have n2_ := Aside0.mk (blk_drew BK528.out)
              have n3_ := Aside0.mk (blk_drew BK539.out)
              have n4_ := Aside0.mk (blk_drew BK544.out)
              have n5_ := Aside0.mk (below_drew1 HB.out)
              clear BK524
              clear BK525
              clear BK528
              clear BK539
              clear BK544
              clear HB
              have BK524 := n0_
              have BK525 := n1_
              have BK528 := n2_
              have BK539 := n3_
              have BK544 := n4_
              have HB := n5_
              clear n0_ n1_ n2_ n3_ n4_ n5_
              refine start_ (n := 23) (S := fun w' => w'.cell? ⟨gb528, 0, none⟩ = some (.int .i64 t526) ∧ w'.cell? ⟨gb528, 1, none⟩ = some (.int .i64 t527) ∧ w'.cell? ⟨gb539, 0, none⟩ = some (.int .i64 t536) ∧ w'.cell? ⟨gb539, 1, none⟩ = some (.int .i64 t537) ∧ w'.cell? ⟨gb544, 0, none⟩ = some (.int .i64 t541) ∧ w'.cell? ⟨gb544, 1, none⟩ = some (.int .i64 t542)) (ds := []) #[false, false, false, false, false, false, false, false, false, false, false, false, false, false, false, false, false, false, false, false, false, false, false] (by kernel_rfl) rfl rfl ⟨(blk_cell BK528.out 0).trans rfl, (blk_cell BK528.out 1).trans rfl, (blk_cell BK539.out 0).trans rfl, (blk_cell BK539.out 1).trans rfl, (blk_cell BK544.out 0).trans rfl, (blk_cell BK544.out 1).trans rfl⟩ (fun hHeld => ?_); refine with_tabW laws_FnFarEnds.tab9 laws_FnFarEnds.bits9 (fun HT_ HW_ => ?_)
              generalize w128.drew = w129 at BK524 BK525 BK528 BK539 BK544 HB hHeld ⊢
              refine take_ (i := 0) (N := some 57) (v := ?_) (a' := ?_) #[true, false, false, false, false, false, false, false, false, false, false, false, false, false, false, false, false, false, false, false, false, false, false] rfl rfl (take_ofW HT_.out HW_.out (by kernel_rfl)) (fun _ _ _ h => h) (Or.inl ⟨by rfl, ?_⟩) hHeld ?_ ?_
              rotate_left
              · rintro w' ⟨s0, s1, s2, s3, s4, s5⟩
                go_simp
                with_reducible rfl
              rotate_left
              · simp only [Act.put, List.setIfInBounds_toArray, List.set_cons_zero, List.set_cons_succ, i64_w, i32_w]
                rfl
              refine take_ (i := 1) (N := some 58) (v := ?_) (a' := ?_) #[true, true, false, false, false, false, false, false, false, false, false, false, false, false, false, false, false, false, false, false, false, false, false] rfl rfl (take_ofW HT_.out HW_.out (by kernel_rfl)) (fun _ _ _ h => h) (Or.inl ⟨by rfl, ?_⟩) hHeld ?_ ?_
              rotate_left
              · rintro w' ⟨s0, s1, s2, s3, s4, s5⟩
                go_simp
                with_reducible rfl
              rotate_left
              · simp only [Act.put, List.setIfInBounds_toArray, List.set_cons_zero, List.set_cons_succ, i64_w, i32_w]
                rfl
              refine one_ (i := 2) (N := some 59) #[true, true, true, false, false, false, false, false, false, false, false, false, false, false, false, false, false, false, false, false, false, false, false] rfl rfl (one_of HT_.out (by kernel_rfl)) (by decide) (fun K hK => ?_)
              refine goes_ Tryd.func17 (by kernel_rfl) rfl #[.agg #[.int .i64 t526, .int .i64 t527], .agg #[.int .i64 t536, .int .i64 t537]] (by rfl) rfl rfl (by (try simp only [List.map_toArray, List.map_cons, List.map_nil]); first | done | rfl | (simp only [List.length_drop, List.length_take]; rfl)) ?_
              with_reducible refine (impl_FracCmp.calls t526 t527 t536 t537 t545 _ ?side1 A42.out).mono ?_
              (case side1 => exact ErrW.below HE.out (by repeat (first | (with_reducible first | exact HB.out | apply below_alloc | apply pw_below_drewN | apply below_drew1 | refine below_set ?_ GE524.out | refine below_set ?_ GE525.out | refine below_set ?_ GE528.out | refine below_set ?_ GE539.out | refine below_set ?_ GE544.out) | exact HB.out)))
              rintro e w130 ⟨rfl, hb⟩
              refine ⟨_, rfl, ?_⟩
              have n0_ := Aside0.mk (blk_below (g := gb524) (o := .cells #[.int .i64 t518, .int .i64 t519, .int .i64 t520, .int .i64 t521] 40 (0, 0)) (by (with_reducible repeat (first | refine blk_drewN ?_ _ | refine blk_drew ?_ | refine blk_alloc ?_ _)); exact BK524.out) hb)
              have n1_ := Aside0.mk (blk_below (g := gb525) (o := .cells #[.int .i64 t522, .int .i64 t523] 38 (0, 0)) (by (with_reducible repeat (first | refine blk_drewN ?_ _ | refine blk_drew ?_ | refine blk_alloc ?_ _)); exact BK525.out) hb)
              have n2_ := Aside0.mk (blk_below (g := gb528) (o := .cells #[.int .i64 t526, .int .i64 t527] 25 (0, 0)) (by (with_reducible repeat (first | refine blk_drewN ?_ _ | refine blk_drew ?_ | refine blk_alloc ?_ _)); exact BK528.out) hb)
              have n3_ := Aside0.mk (blk_below (g := gb539) (o := .cells #[.int .i64 t536, .int .i64 t537] 25 (0, 0)) (by (with_reducible repeat (first | refine blk_drewN ?_ _ | refine blk_drew ?_ | refine blk_alloc ?_ _)); exact BK539.out) hb)
              have n4_ := Aside0.mk (blk_below (g := gb544) (o := .cells #[.int .i64 t541, .int .i64 t542] 25 (0, 0)) (by (with_reducible repeat (first | refine blk_drewN ?_ _ | refine blk_drew ?_ | refine blk_alloc ?_ _)); exact BK544.out) hb)
              have n5_ := Aside0.mk (below_step (by repeat (first | (with_reducible first | exact HB.out | apply below_alloc | apply pw_below_drewN | apply below_drew1 | refine below_set ?_ GE524.out | refine below_set ?_ GE525.out | refine below_set ?_ GE528.out | refine below_set ?_ GE539.out | refine below_set ?_ GE544.out) | exact HB.out)) hb)
              clear BK524
              clear BK525
              clear BK528
              clear BK539
              clear BK544
              clear HB
              have BK524 := n0_
              have BK525 := n1_
              have BK528 := n2_
              have BK539 := n3_
              have BK544 := n4_
              have HB := n5_
              clear n0_ n1_ n2_ n3_ n4_ n5_
              (try clear hb)
              (try clear hb2)
              (try clear hk)
              (try clear hi)
              refine hK.out _ _ ⟨(blk_cell BK528.out 0).trans rfl, (blk_cell BK528.out 1).trans rfl, (blk_cell BK539.out 0).trans rfl, (blk_cell BK539.out 1).trans rfl, (blk_cell BK544.out 0).trans rfl, (blk_cell BK544.out 1).trans rfl⟩ (fun hHeld => ?_)
              clear hK K
              refine norm_ (a' := ?_) ?_ ?_
              rotate_left
              · show Act.put _ (some 59) _ = _
                simp only [Act.put, List.setIfInBounds_toArray, List.set_cons_zero, List.set_cons_succ, i64_w, i32_w]
                rfl
              refine pure_ (i := 3) (N := some 60) (v := ?_) (a' := ?_) #[true, true, true, true, false, false, false, false, false, false, false, false, false, false, false, false, false, false, false, false, false, false, false] rfl rfl (any_of HT_.out (by kernel_rfl)) (fun _ _ _ h => h) (Or.inl ⟨by rfl, ?_⟩) ?_ ?_
              rotate_left
              · intro w'
                go_simp
                with_reducible rfl
              rotate_left
              · simp only [Act.put, List.setIfInBounds_toArray, List.set_cons_zero, List.set_cons_succ, i64_w, i32_w]
                rfl
              refine pure_ (i := 4) (N := some 61) (v := ?_) (a' := ?_) #[true, true, true, true, true, false, false, false, false, false, false, false, false, false, false, false, false, false, false, false, false, false, false] rfl rfl (any_of HT_.out (by kernel_rfl)) (fun _ _ _ h => h) (Or.inl ⟨by rfl, ?_⟩) ?_ ?_
              rotate_left
              · intro w'
                go_simp
                with_reducible rfl
              rotate_left
              · simp only [Act.put, List.setIfInBounds_toArray, List.set_cons_zero, List.set_cons_succ, i64_w, i32_w]
                rfl
              refine take_ (i := 5) (N := some 62) (v := ?_) (a' := ?_) #[true, true, true, true, true, true, false, false, false, false, false, false, false, false, false, false, false, false, false, false, false, false, false] rfl rfl (take_ofW HT_.out HW_.out (by kernel_rfl)) (fun _ _ _ h => h) (Or.inl ⟨by rfl, ?_⟩) hHeld ?_ ?_
              rotate_left
              · rintro w' ⟨s0, s1, s2, s3, s4, s5⟩
                go_simp
                with_reducible rfl
              rotate_left
              · simp only [Act.put, List.setIfInBounds_toArray, List.set_cons_zero, List.set_cons_succ, i64_w, i32_w]
                rfl
              refine take_ (i := 6) (N := some 63) (v := ?_) (a' := ?_) #[true, true, true, true, true, true, true, false, false, false, false, false, false, false, false, false, false, false, false, false, false, false, false] rfl rfl (take_ofW HT_.out HW_.out (by kernel_rfl)) (fun _ _ _ h => h) (Or.inl ⟨by rfl, ?_⟩) hHeld ?_ ?_
              rotate_left
              · rintro w' ⟨s0, s1, s2, s3, s4, s5⟩
                go_simp
                with_reducible rfl
              rotate_left
              · simp only [Act.put, List.setIfInBounds_toArray, List.set_cons_zero, List.set_cons_succ, i64_w, i32_w]
                rfl
              refine one_ (i := 7) (N := some 64) #[true, true, true, true, true, true, true, true, false, false, false, false, false, false, false, false, false, false, false, false, false, false, false] rfl rfl (one_of HT_.out (by kernel_rfl)) (by decide) (fun K hK => ?_)
              refine goes_ Tryd.func17 (by kernel_rfl) rfl #[.agg #[.int .i64 t526, .int .i64 t527], .agg #[.int .i64 t541, .int .i64 t542]] (by rfl) rfl rfl (by (try simp only [List.map_toArray, List.map_cons, List.map_nil]); first | done | rfl | (simp only [List.length_drop, List.length_take]; rfl)) ?_
              with_reducible refine (impl_FracCmp.calls t526 t527 t541 t542 t546 _ ?side1 A44.out).mono ?_
              (case side1 => exact ErrW.below HE.out (by repeat (first | (with_reducible first | exact HB.out | apply below_alloc | apply pw_below_drewN | apply below_drew1 | refine below_set ?_ GE524.out | refine below_set ?_ GE525.out | refine below_set ?_ GE528.out | refine below_set ?_ GE539.out | refine below_set ?_ GE544.out) | exact HB.out)))
              rintro e w131 ⟨rfl, hb⟩
              refine ⟨_, rfl, ?_⟩
              have n0_ := Aside0.mk (blk_below (g := gb524) (o := .cells #[.int .i64 t518, .int .i64 t519, .int .i64 t520, .int .i64 t521] 40 (0, 0)) (by (with_reducible repeat (first | refine blk_drewN ?_ _ | refine blk_drew ?_ | refine blk_alloc ?_ _)); exact BK524.out) hb)
              have n1_ := Aside0.mk (blk_below (g := gb525) (o := .cells #[.int .i64 t522, .int .i64 t523] 38 (0, 0)) (by (with_reducible repeat (first | refine blk_drewN ?_ _ | refine blk_drew ?_ | refine blk_alloc ?_ _)); exact BK525.out) hb)
              have n2_ := Aside0.mk (blk_below (g := gb528) (o := .cells #[.int .i64 t526, .int .i64 t527] 25 (0, 0)) (by (with_reducible repeat (first | refine blk_drewN ?_ _ | refine blk_drew ?_ | refine blk_alloc ?_ _)); exact BK528.out) hb)
              have n3_ := Aside0.mk (blk_below (g := gb539) (o := .cells #[.int .i64 t536, .int .i64 t537] 25 (0, 0)) (by (with_reducible repeat (first | refine blk_drewN ?_ _ | refine blk_drew ?_ | refine blk_alloc ?_ _)); exact BK539.out) hb)
              have n4_ := Aside0.mk (blk_below (g := gb544) (o := .cells #[.int .i64 t541, .int .i64 t542] 25 (0, 0)) (by (with_reducible repeat (first | refine blk_drewN ?_ _ | refine blk_drew ?_ | refine blk_alloc ?_ _)); exact BK544.out) hb)
              have n5_ := Aside0.mk (below_step (by repeat (first | (with_reducible first | exact HB.out | apply below_alloc | apply pw_below_drewN | apply below_drew1 | refine below_set ?_ GE524.out | refine below_set ?_ GE525.out | refine below_set ?_ GE528.out | refine below_set ?_ GE539.out | refine below_set ?_ GE544.out) | exact HB.out)) hb)
              clear BK524
              clear BK525
              clear BK528
              clear BK539
              clear BK544
              clear HB
              have BK524 := n0_
              have BK525 := n1_
              have BK528 := n2_
              have BK539 := n3_
              have BK544 := n4_
              have HB := n5_
              clear n0_ n1_ n2_ n3_ n4_ n5_
              (try clear hb)
              (try clear hb2)
              (try clear hk)
              (try clear hi)
              refine hK.out _ _ ⟨(blk_cell BK528.out 0).trans rfl, (blk_cell BK528.out 1).trans rfl, (blk_cell BK539.out 0).trans rfl, (blk_cell BK539.out 1).trans rfl, (blk_cell BK544.out 0).trans rfl, (blk_cell BK544.out 1).trans rfl⟩ (fun hHeld => ?_)
              clear hK K
              refine norm_ (a' := ?_) ?_ ?_
              rotate_left
              · show Act.put _ (some 64) _ = _
                simp only [Act.put, List.setIfInBounds_toArray, List.set_cons_zero, List.set_cons_succ, i64_w, i32_w]
                rfl
              refine pure_ (i := 8) (N := some 65) (v := ?_) (a' := ?_) #[true, true, true, true, true, true, true, true, true, false, false, false, false, false, false, false, false, false, false, false, false, false, false] rfl rfl (any_of HT_.out (by kernel_rfl)) (fun _ _ _ h => h) (Or.inl ⟨by rfl, ?_⟩) ?_ ?_
              rotate_left
              · intro w'
                go_simp
                with_reducible rfl
              rotate_left
              · simp only [Act.put, List.setIfInBounds_toArray, List.set_cons_zero, List.set_cons_succ, i64_w, i32_w]
                rfl
              refine pure_ (i := 9) (N := some 66) (v := ?_) (a' := ?_) #[true, true, true, true, true, true, true, true, true, true, false, false, false, false, false, false, false, false, false, false, false, false, false] rfl rfl (any_of HT_.out (by kernel_rfl)) (fun _ _ _ h => h) (Or.inl ⟨by rfl, ?_⟩) ?_ ?_
              rotate_left
              · intro w'
                go_simp
                with_reducible rfl
              rotate_left
              · simp only [Act.put, List.setIfInBounds_toArray, List.set_cons_zero, List.set_cons_succ, i64_w, i32_w]
                rfl
              refine pure_ (i := 10) (N := some 67) (v := ?_) (a' := ?_) #[true, true, true, true, true, true, true, true, true, true, true, false, false, false, false, false, false, false, false, false, false, false, false] rfl rfl (any_of HT_.out (by kernel_rfl)) (fun _ _ _ h => h) (Or.inl ⟨by rfl, ?_⟩) ?_ ?_
              rotate_left
              · intro w'
                go_simp
                with_reducible rfl
              rotate_left
              · simp only [Act.put, List.setIfInBounds_toArray, List.set_cons_zero, List.set_cons_succ, i64_w, i32_w]
                rfl
              refine pure_ (i := 11) (N := some 68) (v := undef) (a' := ?_) #[true, true, true, true, true, true, true, true, true, true, true, true, false, false, false, false, false, false, false, false, false, false, false] rfl rfl (any_of HT_.out (by kernel_rfl)) (fun _ _ _ h => h) (Or.inr ⟨by rfl, rfl⟩) ?_ ?_
              rotate_left
              · simp only [Act.put, List.setIfInBounds_toArray, List.set_cons_zero, List.set_cons_succ, i64_w, i32_w]
                rfl
              refine pure_ (i := 12) (N := some 69) (v := undef) (a' := ?_) #[true, true, true, true, true, true, true, true, true, true, true, true, true, false, false, false, false, false, false, false, false, false, false] rfl rfl (any_of HT_.out (by kernel_rfl)) (fun _ _ _ h => h) (Or.inr ⟨by rfl, rfl⟩) ?_ ?_
              rotate_left
              · simp only [Act.put, List.setIfInBounds_toArray, List.set_cons_zero, List.set_cons_succ, i64_w, i32_w]
                rfl
              refine pure_ (i := 13) (N := some 70) (v := ?_) (a' := ?_) #[true, true, true, true, true, true, true, true, true, true, true, true, true, true, false, false, false, false, false, false, false, false, false] rfl rfl (any_of HT_.out (by kernel_rfl)) (fun _ _ _ h => h) (Or.inl ⟨by rfl, ?_⟩) ?_ ?_
              rotate_left
              · intro w'
                go_simp
                with_reducible rfl
              rotate_left
              · simp only [Act.put, List.setIfInBounds_toArray, List.set_cons_zero, List.set_cons_succ, i64_w, i32_w]
                rfl
              refine pure_ (i := 14) (N := some 71) (v := ?_) (a' := ?_) #[true, true, true, true, true, true, true, true, true, true, true, true, true, true, true, false, false, false, false, false, false, false, false] rfl rfl (any_of HT_.out (by kernel_rfl)) (fun _ _ _ h => h) (Or.inl ⟨by rfl, ?_⟩) ?_ ?_
              rotate_left
              · intro w'
                go_simp
                with_reducible rfl
              rotate_left
              · simp only [Act.put, List.setIfInBounds_toArray, List.set_cons_zero, List.set_cons_succ, i64_w, i32_w]
                rfl
              refine pure_ (i := 15) (N := some 72) (v := undef) (a' := ?_) #[true, true, true, true, true, true, true, true, true, true, true, true, true, true, true, true, false, false, false, false, false, false, false] rfl rfl (any_of HT_.out (by kernel_rfl)) (fun _ _ _ h => h) (Or.inr ⟨by rfl, rfl⟩) ?_ ?_
              rotate_left
              · simp only [Act.put, List.setIfInBounds_toArray, List.set_cons_zero, List.set_cons_succ, i64_w, i32_w]
                rfl
              refine pure_ (i := 16) (N := some 73) (v := undef) (a' := ?_) #[true, true, true, true, true, true, true, true, true, true, true, true, true, true, true, true, true, false, false, false, false, false, false] rfl rfl (any_of HT_.out (by kernel_rfl)) (fun _ _ _ h => h) (Or.inr ⟨by rfl, rfl⟩) ?_ ?_
              rotate_left
              · simp only [Act.put, List.setIfInBounds_toArray, List.set_cons_zero, List.set_cons_succ, i64_w, i32_w]
                rfl
              refine pure_ (i := 17) (N := some 74) (v := undef) (a' := ?_) #[true, true, true, true, true, true, true, true, true, true, true, true, true, true, true, true, true, true, false, false, false, false, false] rfl rfl (any_of HT_.out (by kernel_rfl)) (fun _ _ _ h => h) (Or.inr ⟨by rfl, rfl⟩) ?_ ?_
              rotate_left
              · simp only [Act.put, List.setIfInBounds_toArray, List.set_cons_zero, List.set_cons_succ, i64_w, i32_w]
                rfl
              refine pure_ (i := 18) (N := some 75) (v := undef) (a' := ?_) #[true, true, true, true, true, true, true, true, true, true, true, true, true, true, true, true, true, true, true, false, false, false, false] rfl rfl (any_of HT_.out (by kernel_rfl)) (fun _ _ _ h => h) (Or.inr ⟨by rfl, rfl⟩) ?_ ?_
              rotate_left
              · simp only [Act.put, List.setIfInBounds_toArray, List.set_cons_zero, List.set_cons_succ, i64_w, i32_w]
                rfl
              refine pure_ (i := 19) (N := some 76) (v := undef) (a' := ?_) #[true, true, true, true, true, true, true, true, true, true, true, true, true, true, true, true, true, true, true, true, false, false, false] rfl rfl (any_of HT_.out (by kernel_rfl)) (fun _ _ _ h => h) (Or.inr ⟨by rfl, rfl⟩) ?_ ?_
              rotate_left
              · simp only [Act.put, List.setIfInBounds_toArray, List.set_cons_zero, List.set_cons_succ, i64_w, i32_w]
                rfl
              refine pure_ (i := 20) (N := some 77) (v := undef) (a' := ?_) #[true, true, true, true, true, true, true, true, true, true, true, true, true, true, true, true, true, true, true, true, true, false, false] rfl rfl (any_of HT_.out (by kernel_rfl)) (fun _ _ _ h => h) (Or.inr ⟨by rfl, rfl⟩) ?_ ?_
              rotate_left
              · simp only [Act.put, List.setIfInBounds_toArray, List.set_cons_zero, List.set_cons_succ, i64_w, i32_w]
                rfl
              refine pure_ (i := 21) (N := some 78) (v := ?_) (a' := ?_) #[true, true, true, true, true, true, true, true, true, true, true, true, true, true, true, true, true, true, true, true, true, true, false] rfl rfl (any_of HT_.out (by kernel_rfl)) (fun _ _ _ h => h) (Or.inl ⟨by rfl, ?_⟩) ?_ ?_
              rotate_left
              · intro w'
                go_simp
                with_reducible rfl
              rotate_left
              · simp only [Act.put, List.setIfInBounds_toArray, List.set_cons_zero, List.set_cons_succ, i64_w, i32_w]
                rfl
              refine pure_ (i := 22) (N := some 2) (v := ?_) (a' := ?_) #[true, true, true, true, true, true, true, true, true, true, true, true, true, true, true, true, true, true, true, true, true, true, true] rfl rfl (any_of HT_.out (by kernel_rfl)) (fun _ _ _ h => h) (Or.inl ⟨by rfl, ?_⟩) ?_ ?_
              rotate_left
              · intro w'
                go_simp
                with_reducible rfl
              rotate_left
              · simp only [Act.put, List.setIfInBounds_toArray, List.set_cons_zero, List.set_cons_succ, i64_w, i32_w]
                rfl
              refine done_ (done_of HT_.out (by kernel_rfl)) ?_
              try go_wp2
              go_ret
              exact ⟨by first | rfl | (simp [errW_none, errW_some] <;> rfl) | (simp [*, errW_none, errW_some] <;> rfl), by repeat (first | (with_reducible first | exact HB.out | apply below_alloc | apply pw_below_drewN | apply below_drew1 | refine below_set ?_ GE524.out | refine below_set ?_ GE525.out | refine below_set ?_ GE528.out | refine below_set ?_ GE539.out | refine below_set ?_ GE544.out) | exact HB.out)⟩
          · rw [if_neg c43] at H
            have c43b0 : decide (t545 ≤ 0) = false := decide_eq_false c43
            clear c43
            obtain rfl := Option.some.inj H
            have hnb132 := NB524_525.out
            have hnc132 := NB525_524.out
            have hnb133 := NB524_528.out
            have hnc133 := NB528_524.out
            have hcz134_0 : wc.cell? ⟨gb524, 0, none⟩ = some (.int .i64 t518) := (blk_cell BK524.out 0).trans rfl
            have hcz134_1 : wc.cell? ⟨gb524, 1, none⟩ = some (.int .i64 t519) := (blk_cell BK524.out 1).trans rfl
            have hcz134_2 : wc.cell? ⟨gb524, 2, none⟩ = some (.int .i64 t520) := (blk_cell BK524.out 2).trans rfl
            have hcz134_3 : wc.cell? ⟨gb524, 3, none⟩ = some (.int .i64 t521) := (blk_cell BK524.out 3).trans rfl
            have hfz134_0 := blk_frozen BK524.out 0
            have hfz134_1 := blk_frozen BK524.out 1
            have hfz134_2 := blk_frozen BK524.out 2
            have hfz134_3 := blk_frozen BK524.out 3
            have hnb135 := NB525_528.out
            have hnc135 := NB528_525.out
            have hcz136_0 : wc.cell? ⟨gb525, 0, none⟩ = some (.int .i64 t522) := (blk_cell BK525.out 0).trans rfl
            have hcz136_1 : wc.cell? ⟨gb525, 1, none⟩ = some (.int .i64 t523) := (blk_cell BK525.out 1).trans rfl
            have hfz136_0 := blk_frozen BK525.out 0
            have hfz136_1 := blk_frozen BK525.out 1
            try go_wp2_with (first | ((with_reducible refine gate_callee (f := 30) rfl ?_); refine goesL_ (some 45) rfl rfl Tryd.func30 (by kernel_rfl) rfl #[.agg #[.int .i64 t518, .int .i64 t519], .agg #[.int .i64 t522, .int .i64 t523]] rfl (by (try simp only [List.map_toArray, List.map_cons, List.map_nil]); first | done | rfl | (simp only [List.length_drop, List.length_take]; rfl)) ?_; (with_reducible refine (laws_luSq.calls t518 t519 t522 t523 t535 _ A38.out).mono ?_); rintro e w137 ⟨rfl, hb⟩; refine ⟨_, rfl, ?_⟩; have n0_ := Aside0.mk (blk_below (g := gb524) (o := .cells #[.int .i64 t518, .int .i64 t519, .int .i64 t520, .int .i64 t521] 40 (0, 0)) (by (with_reducible repeat (first | refine blk_drewN ?_ _ | refine blk_drew ?_ | refine blk_alloc ?_ _)); exact BK524.out) hb); have n1_ := Aside0.mk (blk_below (g := gb525) (o := .cells #[.int .i64 t522, .int .i64 t523] 38 (0, 0)) (by (with_reducible repeat (first | refine blk_drewN ?_ _ | refine blk_drew ?_ | refine blk_alloc ?_ _)); exact BK525.out) hb); have n2_ := Aside0.mk (blk_below (g := gb528) (o := .cells #[.int .i64 t526, .int .i64 t527] 25 (0, 0)) (by (with_reducible repeat (first | refine blk_drewN ?_ _ | refine blk_drew ?_ | refine blk_alloc ?_ _)); exact BK528.out) hb); have n3_ := Aside0.mk (below_step (by repeat (first | (with_reducible first | exact HB.out | apply below_alloc | apply pw_below_drewN | apply below_drew1 | refine below_set ?_ GE524.out | refine below_set ?_ GE525.out | refine below_set ?_ GE528.out) | exact HB.out)) hb); clear BK524; clear BK525; clear BK528; clear HB; have BK524 := n0_; have BK525 := n1_; have BK528 := n2_; have HB := n3_; clear n0_ n1_ n2_ n3_; (try clear hb); (try clear hb2); (try clear hk); (try clear hi)) | ((with_reducible refine gate_callee (f := 21) rfl ?_); refine goesL_ (some 46) rfl rfl Tryd.func21 (by kernel_rfl) rfl #[.int .i64 t535, .int .i64 1] rfl (by (try simp only [List.map_toArray, List.map_cons, List.map_nil]); first | done | rfl | (simp only [List.length_drop, List.length_take]; rfl)) ?_; (with_reducible refine (impl_FracOf.calls kj4 t535 1 t536 t537 t538 _ A39.out).mono ?_); rintro e w138 ⟨rfl, hb⟩; refine ⟨_, rfl, ?_⟩; have n0_ := Aside0.mk (blk_below (g := gb524) (o := .cells #[.int .i64 t518, .int .i64 t519, .int .i64 t520, .int .i64 t521] 40 (0, 0)) (by (with_reducible repeat (first | refine blk_drewN ?_ _ | refine blk_drew ?_ | refine blk_alloc ?_ _)); exact BK524.out) hb); have n1_ := Aside0.mk (blk_below (g := gb525) (o := .cells #[.int .i64 t522, .int .i64 t523] 38 (0, 0)) (by (with_reducible repeat (first | refine blk_drewN ?_ _ | refine blk_drew ?_ | refine blk_alloc ?_ _)); exact BK525.out) hb); have n2_ := Aside0.mk (blk_below (g := gb528) (o := .cells #[.int .i64 t526, .int .i64 t527] 25 (0, 0)) (by (with_reducible repeat (first | refine blk_drewN ?_ _ | refine blk_drew ?_ | refine blk_alloc ?_ _)); exact BK528.out) hb); have n3_ := Aside0.mk (below_step (by repeat (first | (with_reducible first | exact HB.out | apply below_alloc | apply pw_below_drewN | apply below_drew1 | refine below_set ?_ GE524.out | refine below_set ?_ GE525.out | refine below_set ?_ GE528.out) | exact HB.out)) hb); clear BK524; clear BK525; clear BK528; clear HB; have BK524 := n0_; have BK525 := n1_; have BK528 := n2_; have HB := n3_; clear n0_ n1_ n2_ n3_; (try clear hb); (try clear hb2); (try clear hk); (try clear hi)) | ((with_reducible refine gate_dst (N := 6) rfl ?_); refine box_event ?hg (N := 6) ?hd (cs := #[.int .i64 0, .int .i64 0]) (t := 25) ?hr ?_; (case hd => rfl); (case hg => rfl); (case hr => first | (go_simp; done) | (go_simp; rfl)); intro gb539 hg w139 hbox hb; have n0_ := Aside0.mk (blk_below (g := gb524) (o := .cells #[.int .i64 t518, .int .i64 t519, .int .i64 t520, .int .i64 t521] 40 (0, 0)) (by (with_reducible repeat (first | refine blk_drewN ?_ _ | refine blk_drew ?_ | refine blk_alloc ?_ _)); exact BK524.out) hb); have n1_ := Aside0.mk (blk_below (g := gb525) (o := .cells #[.int .i64 t522, .int .i64 t523] 38 (0, 0)) (by (with_reducible repeat (first | refine blk_drewN ?_ _ | refine blk_drew ?_ | refine blk_alloc ?_ _)); exact BK525.out) hb); have n2_ := Aside0.mk (blk_below (g := gb528) (o := .cells #[.int .i64 t526, .int .i64 t527] 25 (0, 0)) (by (with_reducible repeat (first | refine blk_drewN ?_ _ | refine blk_drew ?_ | refine blk_alloc ?_ _)); exact BK528.out) hb); have n3_ := Aside0.mk (below_step (by repeat (first | (with_reducible first | exact HB.out | apply below_alloc | apply pw_below_drewN | apply below_drew1 | refine below_set ?_ GE524.out | refine below_set ?_ GE525.out | refine below_set ?_ GE528.out) | exact HB.out)) hb); have n4_ := Aside0.mk (hbox); have n5_ := Aside0.mk ((by rw [hg]; exact (below_size (by repeat (first | (with_reducible first | exact HB.out | apply below_alloc | apply pw_below_drewN | apply below_drew1 | refine below_set ?_ GE524.out | refine below_set ?_ GE525.out | refine below_set ?_ GE528.out) | exact HB.out))) : w.heap.size ≤ gb539)); have n6_ := Aside0.mk ((by rw [hg]; exact (below_size (by repeat (first | (with_reducible first | exact HB.out | apply below_alloc | apply pw_below_drewN | apply below_drew1 | refine below_set ?_ GE524.out | refine below_set ?_ GE525.out | refine below_set ?_ GE528.out) | exact HB.out))) : w.heap.size ≤ gb539)); have n7_ := Aside0.mk ((by rw [hg]; exact Nat.ne_of_lt (blk_lt (g := gb524) (o := .cells #[.int .i64 t518, .int .i64 t519, .int .i64 t520, .int .i64 t521] 40 (0, 0)) (by (with_reducible repeat (first | refine blk_drewN ?_ _ | refine blk_drew ?_ | refine blk_alloc ?_ _)); exact BK524.out)) : gb524 ≠ gb539)); have n8_ := Aside0.mk ((by rw [hg]; exact Nat.ne_of_gt (blk_lt (g := gb524) (o := .cells #[.int .i64 t518, .int .i64 t519, .int .i64 t520, .int .i64 t521] 40 (0, 0)) (by (with_reducible repeat (first | refine blk_drewN ?_ _ | refine blk_drew ?_ | refine blk_alloc ?_ _)); exact BK524.out)) : gb539 ≠ gb524)); have n9_ := Aside0.mk ((by rw [hg]; exact Nat.ne_of_lt (blk_lt (g := gb525) (o := .cells #[.int .i64 t522, .int .i64 t523] 38 (0, 0)) (by (with_reducible repeat (first | refine blk_drewN ?_ _ | refine blk_drew ?_ | refine blk_alloc ?_ _)); exact BK525.out)) : gb525 ≠ gb539)); have n10_ := Aside0.mk ((by rw [hg]; exact Nat.ne_of_gt (blk_lt (g := gb525) (o := .cells #[.int .i64 t522, .int .i64 t523] 38 (0, 0)) (by (with_reducible repeat (first | refine blk_drewN ?_ _ | refine blk_drew ?_ | refine blk_alloc ?_ _)); exact BK525.out)) : gb539 ≠ gb525)); have n11_ := Aside0.mk ((by rw [hg]; exact Nat.ne_of_lt (blk_lt (g := gb528) (o := .cells #[.int .i64 t526, .int .i64 t527] 25 (0, 0)) (by (with_reducible repeat (first | refine blk_drewN ?_ _ | refine blk_drew ?_ | refine blk_alloc ?_ _)); exact BK528.out)) : gb528 ≠ gb539)); have n12_ := Aside0.mk ((by rw [hg]; exact Nat.ne_of_gt (blk_lt (g := gb528) (o := .cells #[.int .i64 t526, .int .i64 t527] 25 (0, 0)) (by (with_reducible repeat (first | refine blk_drewN ?_ _ | refine blk_drew ?_ | refine blk_alloc ?_ _)); exact BK528.out)) : gb539 ≠ gb528)); clear BK524; clear BK525; clear BK528; clear HB; have BK524 := n0_; have BK525 := n1_; have BK528 := n2_; have HB := n3_; have BK539 := n4_; have GW539 := n5_; have GE539 := n6_; have NB524_539 := n7_; have NB539_524 := n8_; have NB525_539 := n9_; have NB539_525 := n10_; have NB528_539 := n11_; have NB539_528 := n12_; clear n0_ n1_ n2_ n3_ n4_ n5_ n6_ n7_ n8_ n9_ n10_ n11_ n12_; clear hb hbox hg; have hnb140 := NB539_524.out; have hnc140 := NB524_539.out; have hnb141 := NB539_525.out; have hnc141 := NB525_539.out; have hnb142 := NB539_528.out; have hnc142 := NB528_539.out; have hcz143_0 : w139.cell? ⟨gb539, 0, none⟩ = some (.int .i64 0) := (blk_cell BK539.out 0).trans rfl; have hcz143_1 : w139.cell? ⟨gb539, 1, none⟩ = some (.int .i64 0) := (blk_cell BK539.out 1).trans rfl; have hfz143_0 := blk_frozen BK539.out 0; have hfz143_1 := blk_frozen BK539.out 1; have hcz144_0 : w139.cell? ⟨gb524, 0, none⟩ = some (.int .i64 t518) := (blk_cell BK524.out 0).trans rfl; have hcz144_1 : w139.cell? ⟨gb524, 1, none⟩ = some (.int .i64 t519) := (blk_cell BK524.out 1).trans rfl; have hcz144_2 : w139.cell? ⟨gb524, 2, none⟩ = some (.int .i64 t520) := (blk_cell BK524.out 2).trans rfl; have hcz144_3 : w139.cell? ⟨gb524, 3, none⟩ = some (.int .i64 t521) := (blk_cell BK524.out 3).trans rfl; have hfz144_0 := blk_frozen BK524.out 0; have hfz144_1 := blk_frozen BK524.out 1; have hfz144_2 := blk_frozen BK524.out 2; have hfz144_3 := blk_frozen BK524.out 3; have hcz145_0 : w139.cell? ⟨gb525, 0, none⟩ = some (.int .i64 t522) := (blk_cell BK525.out 0).trans rfl; have hcz145_1 : w139.cell? ⟨gb525, 1, none⟩ = some (.int .i64 t523) := (blk_cell BK525.out 1).trans rfl; have hfz145_0 := blk_frozen BK525.out 0; have hfz145_1 := blk_frozen BK525.out 1) | ((with_reducible refine gate_callee (f := 30) rfl ?_); refine goesL_ (some 53) rfl rfl Tryd.func30 (by kernel_rfl) rfl #[.agg #[.int .i64 t520, .int .i64 t521], .agg #[.int .i64 t522, .int .i64 t523]] rfl (by (try simp only [List.map_toArray, List.map_cons, List.map_nil]); first | done | rfl | (simp only [List.length_drop, List.length_take]; rfl)) ?_; (with_reducible refine (laws_luSq.calls t520 t521 t522 t523 t540 _ A40.out).mono ?_); rintro e w146 ⟨rfl, hb⟩; refine ⟨_, rfl, ?_⟩; have n0_ := Aside0.mk (blk_below (g := gb524) (o := .cells #[.int .i64 t518, .int .i64 t519, .int .i64 t520, .int .i64 t521] 40 (0, 0)) (by (with_reducible repeat (first | refine blk_drewN ?_ _ | refine blk_drew ?_ | refine blk_alloc ?_ _)); refine blk_far ?_ NB524_539.out _; (with_reducible repeat (first | refine blk_drewN ?_ _ | refine blk_drew ?_ | refine blk_alloc ?_ _)); refine blk_far ?_ NB524_539.out _; (with_reducible repeat (first | refine blk_drewN ?_ _ | refine blk_drew ?_ | refine blk_alloc ?_ _)); exact BK524.out) hb); have n1_ := Aside0.mk (blk_below (g := gb525) (o := .cells #[.int .i64 t522, .int .i64 t523] 38 (0, 0)) (by (with_reducible repeat (first | refine blk_drewN ?_ _ | refine blk_drew ?_ | refine blk_alloc ?_ _)); refine blk_far ?_ NB525_539.out _; (with_reducible repeat (first | refine blk_drewN ?_ _ | refine blk_drew ?_ | refine blk_alloc ?_ _)); refine blk_far ?_ NB525_539.out _; (with_reducible repeat (first | refine blk_drewN ?_ _ | refine blk_drew ?_ | refine blk_alloc ?_ _)); exact BK525.out) hb); have n2_ := Aside0.mk (blk_below (g := gb528) (o := .cells #[.int .i64 t526, .int .i64 t527] 25 (0, 0)) (by (with_reducible repeat (first | refine blk_drewN ?_ _ | refine blk_drew ?_ | refine blk_alloc ?_ _)); refine blk_far ?_ NB528_539.out _; (with_reducible repeat (first | refine blk_drewN ?_ _ | refine blk_drew ?_ | refine blk_alloc ?_ _)); refine blk_far ?_ NB528_539.out _; (with_reducible repeat (first | refine blk_drewN ?_ _ | refine blk_drew ?_ | refine blk_alloc ?_ _)); exact BK528.out) hb); have n3_ := Aside0.mk (blk_below (g := gb539) (o := .cells #[.int .i64 t536, .int .i64 t537] 25 (0, 0)) (by (with_reducible repeat (first | refine blk_drewN ?_ _ | refine blk_drew ?_ | refine blk_alloc ?_ _)); refine blk_put (cs := #[.int .i64 t536, .int .i64 0]) ?_ 1 _ rfl; (with_reducible repeat (first | refine blk_drewN ?_ _ | refine blk_drew ?_ | refine blk_alloc ?_ _)); refine blk_put (cs := #[.int .i64 0, .int .i64 0]) ?_ 0 _ rfl; (with_reducible repeat (first | refine blk_drewN ?_ _ | refine blk_drew ?_ | refine blk_alloc ?_ _)); exact BK539.out) hb); have n4_ := Aside0.mk (below_step (by repeat (first | (with_reducible first | exact HB.out | apply below_alloc | apply pw_below_drewN | apply below_drew1 | refine below_set ?_ GE524.out | refine below_set ?_ GE525.out | refine below_set ?_ GE528.out | refine below_set ?_ GE539.out) | exact HB.out)) hb); clear BK524; clear BK525; clear BK528; clear BK539; clear HB; have BK524 := n0_; have BK525 := n1_; have BK528 := n2_; have BK539 := n3_; have HB := n4_; clear n0_ n1_ n2_ n3_ n4_; (try clear hb); (try clear hb2); (try clear hk); (try clear hi)) | ((with_reducible refine gate_callee (f := 21) rfl ?_); refine goesL_ (some 54) rfl rfl Tryd.func21 (by kernel_rfl) rfl #[.int .i64 t540, .int .i64 1] rfl (by (try simp only [List.map_toArray, List.map_cons, List.map_nil]); first | done | rfl | (simp only [List.length_drop, List.length_take]; rfl)) ?_; (with_reducible refine (impl_FracOf.calls kj4 t540 1 t541 t542 t543 _ A41.out).mono ?_); rintro e w147 ⟨rfl, hb⟩; refine ⟨_, rfl, ?_⟩; have n0_ := Aside0.mk (blk_below (g := gb524) (o := .cells #[.int .i64 t518, .int .i64 t519, .int .i64 t520, .int .i64 t521] 40 (0, 0)) (by (with_reducible repeat (first | refine blk_drewN ?_ _ | refine blk_drew ?_ | refine blk_alloc ?_ _)); exact BK524.out) hb); have n1_ := Aside0.mk (blk_below (g := gb525) (o := .cells #[.int .i64 t522, .int .i64 t523] 38 (0, 0)) (by (with_reducible repeat (first | refine blk_drewN ?_ _ | refine blk_drew ?_ | refine blk_alloc ?_ _)); exact BK525.out) hb); have n2_ := Aside0.mk (blk_below (g := gb528) (o := .cells #[.int .i64 t526, .int .i64 t527] 25 (0, 0)) (by (with_reducible repeat (first | refine blk_drewN ?_ _ | refine blk_drew ?_ | refine blk_alloc ?_ _)); exact BK528.out) hb); have n3_ := Aside0.mk (blk_below (g := gb539) (o := .cells #[.int .i64 t536, .int .i64 t537] 25 (0, 0)) (by (with_reducible repeat (first | refine blk_drewN ?_ _ | refine blk_drew ?_ | refine blk_alloc ?_ _)); exact BK539.out) hb); have n4_ := Aside0.mk (below_step (by repeat (first | (with_reducible first | exact HB.out | apply below_alloc | apply pw_below_drewN | apply below_drew1 | refine below_set ?_ GE524.out | refine below_set ?_ GE525.out | refine below_set ?_ GE528.out | refine below_set ?_ GE539.out) | exact HB.out)) hb); clear BK524; clear BK525; clear BK528; clear BK539; clear HB; have BK524 := n0_; have BK525 := n1_; have BK528 := n2_; have BK539 := n3_; have HB := n4_; clear n0_ n1_ n2_ n3_ n4_; (try clear hb); (try clear hb2); (try clear hk); (try clear hi)) | ((with_reducible refine gate_dst (N := 8) rfl ?_); refine box_event ?hg (N := 8) ?hd (cs := #[.int .i64 0, .int .i64 0]) (t := 25) ?hr ?_; (case hd => rfl); (case hg => rfl); (case hr => first | (go_simp; done) | (go_simp; rfl)); intro gb544 hg w148 hbox hb; have n0_ := Aside0.mk (blk_below (g := gb524) (o := .cells #[.int .i64 t518, .int .i64 t519, .int .i64 t520, .int .i64 t521] 40 (0, 0)) (by (with_reducible repeat (first | refine blk_drewN ?_ _ | refine blk_drew ?_ | refine blk_alloc ?_ _)); exact BK524.out) hb); have n1_ := Aside0.mk (blk_below (g := gb525) (o := .cells #[.int .i64 t522, .int .i64 t523] 38 (0, 0)) (by (with_reducible repeat (first | refine blk_drewN ?_ _ | refine blk_drew ?_ | refine blk_alloc ?_ _)); exact BK525.out) hb); have n2_ := Aside0.mk (blk_below (g := gb528) (o := .cells #[.int .i64 t526, .int .i64 t527] 25 (0, 0)) (by (with_reducible repeat (first | refine blk_drewN ?_ _ | refine blk_drew ?_ | refine blk_alloc ?_ _)); exact BK528.out) hb); have n3_ := Aside0.mk (blk_below (g := gb539) (o := .cells #[.int .i64 t536, .int .i64 t537] 25 (0, 0)) (by (with_reducible repeat (first | refine blk_drewN ?_ _ | refine blk_drew ?_ | refine blk_alloc ?_ _)); exact BK539.out) hb); have n4_ := Aside0.mk (below_step (by repeat (first | (with_reducible first | exact HB.out | apply below_alloc | apply pw_below_drewN | apply below_drew1 | refine below_set ?_ GE524.out | refine below_set ?_ GE525.out | refine below_set ?_ GE528.out | refine below_set ?_ GE539.out) | exact HB.out)) hb); have n5_ := Aside0.mk (hbox); have n6_ := Aside0.mk ((by rw [hg]; exact (below_size (by repeat (first | (with_reducible first | exact HB.out | apply below_alloc | apply pw_below_drewN | apply below_drew1 | refine below_set ?_ GE524.out | refine below_set ?_ GE525.out | refine below_set ?_ GE528.out | refine below_set ?_ GE539.out) | exact HB.out))) : w.heap.size ≤ gb544)); have n7_ := Aside0.mk ((by rw [hg]; exact (below_size (by repeat (first | (with_reducible first | exact HB.out | apply below_alloc | apply pw_below_drewN | apply below_drew1 | refine below_set ?_ GE524.out | refine below_set ?_ GE525.out | refine below_set ?_ GE528.out | refine below_set ?_ GE539.out) | exact HB.out))) : w.heap.size ≤ gb544)); have n8_ := Aside0.mk ((by rw [hg]; exact Nat.ne_of_lt (blk_lt (g := gb524) (o := .cells #[.int .i64 t518, .int .i64 t519, .int .i64 t520, .int .i64 t521] 40 (0, 0)) (by (with_reducible repeat (first | refine blk_drewN ?_ _ | refine blk_drew ?_ | refine blk_alloc ?_ _)); exact BK524.out)) : gb524 ≠ gb544)); have n9_ := Aside0.mk ((by rw [hg]; exact Nat.ne_of_gt (blk_lt (g := gb524) (o := .cells #[.int .i64 t518, .int .i64 t519, .int .i64 t520, .int .i64 t521] 40 (0, 0)) (by (with_reducible repeat (first | refine blk_drewN ?_ _ | refine blk_drew ?_ | refine blk_alloc ?_ _)); exact BK524.out)) : gb544 ≠ gb524)); have n10_ := Aside0.mk ((by rw [hg]; exact Nat.ne_of_lt (blk_lt (g := gb525) (o := .cells #[.int .i64 t522, .int .i64 t523] 38 (0, 0)) (by (with_reducible repeat (first | refine blk_drewN ?_ _ | refine blk_drew ?_ | refine blk_alloc ?_ _)); exact BK525.out)) : gb525 ≠ gb544)); have n11_ := Aside0.mk ((by rw [hg]; exact Nat.ne_of_gt (blk_lt (g := gb525) (o := .cells #[.int .i64 t522, .int .i64 t523] 38 (0, 0)) (by (with_reducible repeat (first | refine blk_drewN ?_ _ | refine blk_drew ?_ | refine blk_alloc ?_ _)); exact BK525.out)) : gb544 ≠ gb525)); have n12_ := Aside0.mk ((by rw [hg]; exact Nat.ne_of_lt (blk_lt (g := gb528) (o := .cells #[.int .i64 t526, .int .i64 t527] 25 (0, 0)) (by (with_reducible repeat (first | refine blk_drewN ?_ _ | refine blk_drew ?_ | refine blk_alloc ?_ _)); exact BK528.out)) : gb528 ≠ gb544)); have n13_ := Aside0.mk ((by rw [hg]; exact Nat.ne_of_gt (blk_lt (g := gb528) (o := .cells #[.int .i64 t526, .int .i64 t527] 25 (0, 0)) (by (with_reducible repeat (first | refine blk_drewN ?_ _ | refine blk_drew ?_ | refine blk_alloc ?_ _)); exact BK528.out)) : gb544 ≠ gb528)); have n14_ := Aside0.mk ((by rw [hg]; exact Nat.ne_of_lt (blk_lt (g := gb539) (o := .cells #[.int .i64 t536, .int .i64 t537] 25 (0, 0)) (by (with_reducible repeat (first | refine blk_drewN ?_ _ | refine blk_drew ?_ | refine blk_alloc ?_ _)); exact BK539.out)) : gb539 ≠ gb544)); have n15_ := Aside0.mk ((by rw [hg]; exact Nat.ne_of_gt (blk_lt (g := gb539) (o := .cells #[.int .i64 t536, .int .i64 t537] 25 (0, 0)) (by (with_reducible repeat (first | refine blk_drewN ?_ _ | refine blk_drew ?_ | refine blk_alloc ?_ _)); exact BK539.out)) : gb544 ≠ gb539)); clear BK524; clear BK525; clear BK528; clear BK539; clear HB; have BK524 := n0_; have BK525 := n1_; have BK528 := n2_; have BK539 := n3_; have HB := n4_; have BK544 := n5_; have GW544 := n6_; have GE544 := n7_; have NB524_544 := n8_; have NB544_524 := n9_; have NB525_544 := n10_; have NB544_525 := n11_; have NB528_544 := n12_; have NB544_528 := n13_; have NB539_544 := n14_; have NB544_539 := n15_; clear n0_ n1_ n2_ n3_ n4_ n5_ n6_ n7_ n8_ n9_ n10_ n11_ n12_ n13_ n14_ n15_; clear hb hbox hg; have hnb149 := NB544_524.out; have hnc149 := NB524_544.out; have hnb150 := NB544_525.out; have hnc150 := NB525_544.out; have hnb151 := NB544_528.out; have hnc151 := NB528_544.out; have hnb152 := NB544_539.out; have hnc152 := NB539_544.out; have hcz153_0 : w148.cell? ⟨gb544, 0, none⟩ = some (.int .i64 0) := (blk_cell BK544.out 0).trans rfl; have hcz153_1 : w148.cell? ⟨gb544, 1, none⟩ = some (.int .i64 0) := (blk_cell BK544.out 1).trans rfl; have hfz153_0 := blk_frozen BK544.out 0; have hfz153_1 := blk_frozen BK544.out 1))
            have n0_ : Aside0 (((w148.setCell ⟨gb544, 0, none⟩ (.int .i64 t541)).setCell ⟨gb544, 1, none⟩ (.int .i64 t542)).heap[gb524]? = some (.cells #[.int .i64 t518, .int .i64 t519, .int .i64 t520, .int .i64 t521] 40 (0, 0))) := ⟨by (with_reducible repeat (first | refine blk_drewN ?_ _ | refine blk_drew ?_ | refine blk_alloc ?_ _)); refine blk_far ?_ NB524_544.out _; (with_reducible repeat (first | refine blk_drewN ?_ _ | refine blk_drew ?_ | refine blk_alloc ?_ _)); refine blk_far ?_ NB524_544.out _; (with_reducible repeat (first | refine blk_drewN ?_ _ | refine blk_drew ?_ | refine blk_alloc ?_ _)); exact BK524.out⟩
            have n1_ : Aside0 (((w148.setCell ⟨gb544, 0, none⟩ (.int .i64 t541)).setCell ⟨gb544, 1, none⟩ (.int .i64 t542)).heap[gb525]? = some (.cells #[.int .i64 t522, .int .i64 t523] 38 (0, 0))) := ⟨by (with_reducible repeat (first | refine blk_drewN ?_ _ | refine blk_drew ?_ | refine blk_alloc ?_ _)); refine blk_far ?_ NB525_544.out _; (with_reducible repeat (first | refine blk_drewN ?_ _ | refine blk_drew ?_ | refine blk_alloc ?_ _)); refine blk_far ?_ NB525_544.out _; (with_reducible repeat (first | refine blk_drewN ?_ _ | refine blk_drew ?_ | refine blk_alloc ?_ _)); exact BK525.out⟩
            have n2_ : Aside0 (((w148.setCell ⟨gb544, 0, none⟩ (.int .i64 t541)).setCell ⟨gb544, 1, none⟩ (.int .i64 t542)).heap[gb528]? = some (.cells #[.int .i64 t526, .int .i64 t527] 25 (0, 0))) := ⟨by (with_reducible repeat (first | refine blk_drewN ?_ _ | refine blk_drew ?_ | refine blk_alloc ?_ _)); refine blk_far ?_ NB528_544.out _; (with_reducible repeat (first | refine blk_drewN ?_ _ | refine blk_drew ?_ | refine blk_alloc ?_ _)); refine blk_far ?_ NB528_544.out _; (with_reducible repeat (first | refine blk_drewN ?_ _ | refine blk_drew ?_ | refine blk_alloc ?_ _)); exact BK528.out⟩
            have n3_ : Aside0 (((w148.setCell ⟨gb544, 0, none⟩ (.int .i64 t541)).setCell ⟨gb544, 1, none⟩ (.int .i64 t542)).heap[gb539]? = some (.cells #[.int .i64 t536, .int .i64 t537] 25 (0, 0))) := ⟨by (with_reducible repeat (first | refine blk_drewN ?_ _ | refine blk_drew ?_ | refine blk_alloc ?_ _)); refine blk_far ?_ NB539_544.out _; (with_reducible repeat (first | refine blk_drewN ?_ _ | refine blk_drew ?_ | refine blk_alloc ?_ _)); refine blk_far ?_ NB539_544.out _; (with_reducible repeat (first | refine blk_drewN ?_ _ | refine blk_drew ?_ | refine blk_alloc ?_ _)); exact BK539.out⟩
            have n4_ : Aside0 (((w148.setCell ⟨gb544, 0, none⟩ (.int .i64 t541)).setCell ⟨gb544, 1, none⟩ (.int .i64 t542)).heap[gb544]? = some (.cells #[.int .i64 t541, .int .i64 t542] 25 (0, 0))) := ⟨by (with_reducible repeat (first | refine blk_drewN ?_ _ | refine blk_drew ?_ | refine blk_alloc ?_ _)); refine blk_put (cs := #[.int .i64 t541, .int .i64 0]) ?_ 1 _ rfl; (with_reducible repeat (first | refine blk_drewN ?_ _ | refine blk_drew ?_ | refine blk_alloc ?_ _)); refine blk_put (cs := #[.int .i64 0, .int .i64 0]) ?_ 0 _ rfl; (with_reducible repeat (first | refine blk_drewN ?_ _ | refine blk_drew ?_ | refine blk_alloc ?_ _)); exact BK544.out⟩
            have n5_ : Aside0 (Below w.heap.size w ((w148.setCell ⟨gb544, 0, none⟩ (.int .i64 t541)).setCell ⟨gb544, 1, none⟩ (.int .i64 t542))) := ⟨by repeat (first | (with_reducible first | exact HB.out | apply below_alloc | apply pw_below_drewN | apply below_drew1 | refine below_set ?_ GE524.out | refine below_set ?_ GE525.out | refine below_set ?_ GE528.out | refine below_set ?_ GE539.out | refine below_set ?_ GE544.out) | exact HB.out)⟩
            (try clear BK524)
            (try clear BK525)
            (try clear BK528)
            (try clear BK539)
            (try clear BK544)
            (try clear HB)
            generalize ((w148.setCell ⟨gb544, 0, none⟩ (.int .i64 t541)).setCell ⟨gb544, 1, none⟩ (.int .i64 t542)) = w154 at n0_ n1_ n2_ n3_ n4_ n5_ ⊢
            have BK524 := n0_
            have BK525 := n1_
            have BK528 := n2_
            have BK539 := n3_
            have BK544 := n4_
            have HB := n5_
            clear n0_ n1_ n2_ n3_ n4_ n5_
            have n0_ := Aside0.mk (blk_drew BK524.out)
            have n1_ := Aside0.mk (blk_drew BK525.out)
            have n2_ := Aside0.mk (blk_drew BK528.out)
            have n3_ := Aside0.mk (blk_drew BK539.out)
            have n4_ := Aside0.mk (blk_drew BK544.out)
            have n5_ := Aside0.mk (below_drew1 HB.out)
            clear BK524
            clear BK525
            clear BK528
            clear BK539
            clear BK544
            clear HB
            have BK524 := n0_
            have BK525 := n1_
            have BK528 := n2_
            have BK539 := n3_
            have BK544 := n4_
            have HB := n5_
            clear n0_ n1_ n2_ n3_ n4_ n5_
            refine start_ (n := 23) (S := fun w' => w'.cell? ⟨gb528, 0, none⟩ = some (.int .i64 t526) ∧ w'.cell? ⟨gb528, 1, none⟩ = some (.int .i64 t527) ∧ w'.cell? ⟨gb539, 0, none⟩ = some (.int .i64 t536) ∧ w'.cell? ⟨gb539, 1, none⟩ = some (.int .i64 t537)) (ds := []) #[false, false, false, false, false, false, false, false, false, false, false, false, false, false, false, false, false, false, false, false, false, false, false] (by kernel_rfl) rfl rfl ⟨(blk_cell BK528.out 0).trans rfl, (blk_cell BK528.out 1).trans rfl, (blk_cell BK539.out 0).trans rfl, (blk_cell BK539.out 1).trans rfl⟩ (fun hHeld => ?_); refine with_tabW laws_FnFarEnds.tab9 laws_FnFarEnds.bits9 (fun HT_ HW_ => ?_)
            generalize w154.drew = w155 at BK524 BK525 BK528 BK539 BK544 HB hHeld ⊢
            refine take_ (i := 0) (N := some 57) (v := ?_) (a' := ?_) #[true, false, false, false, false, false, false, false, false, false, false, false, false, false, false, false, false, false, false, false, false, false, false] rfl rfl (take_ofW HT_.out HW_.out (by kernel_rfl)) (fun _ _ _ h => h) (Or.inl ⟨by rfl, ?_⟩) hHeld ?_ ?_
            rotate_left
            · rintro w' ⟨s0, s1, s2, s3⟩
              go_simp
              with_reducible rfl
            rotate_left
            · simp only [Act.put, List.setIfInBounds_toArray, List.set_cons_zero, List.set_cons_succ, i64_w, i32_w]
              rfl
            refine take_ (i := 1) (N := some 58) (v := ?_) (a' := ?_) #[true, true, false, false, false, false, false, false, false, false, false, false, false, false, false, false, false, false, false, false, false, false, false] rfl rfl (take_ofW HT_.out HW_.out (by kernel_rfl)) (fun _ _ _ h => h) (Or.inl ⟨by rfl, ?_⟩) hHeld ?_ ?_
            rotate_left
            · rintro w' ⟨s0, s1, s2, s3⟩
              go_simp
              with_reducible rfl
            rotate_left
            · simp only [Act.put, List.setIfInBounds_toArray, List.set_cons_zero, List.set_cons_succ, i64_w, i32_w]
              rfl
            refine one_ (i := 2) (N := some 59) #[true, true, true, false, false, false, false, false, false, false, false, false, false, false, false, false, false, false, false, false, false, false, false] rfl rfl (one_of HT_.out (by kernel_rfl)) (by decide) (fun K hK => ?_)
            refine goes_ Tryd.func17 (by kernel_rfl) rfl #[.agg #[.int .i64 t526, .int .i64 t527], .agg #[.int .i64 t536, .int .i64 t537]] (by rfl) rfl rfl (by (try simp only [List.map_toArray, List.map_cons, List.map_nil]); first | done | rfl | (simp only [List.length_drop, List.length_take]; rfl)) ?_
            with_reducible refine (impl_FracCmp.calls t526 t527 t536 t537 t545 _ ?side1 A42.out).mono ?_
            (case side1 => exact ErrW.below HE.out (by repeat (first | (with_reducible first | exact HB.out | apply below_alloc | apply pw_below_drewN | apply below_drew1 | refine below_set ?_ GE524.out | refine below_set ?_ GE525.out | refine below_set ?_ GE528.out | refine below_set ?_ GE539.out | refine below_set ?_ GE544.out) | exact HB.out)))
            rintro e w156 ⟨rfl, hb⟩
            refine ⟨_, rfl, ?_⟩
            have n0_ := Aside0.mk (blk_below (g := gb524) (o := .cells #[.int .i64 t518, .int .i64 t519, .int .i64 t520, .int .i64 t521] 40 (0, 0)) (by (with_reducible repeat (first | refine blk_drewN ?_ _ | refine blk_drew ?_ | refine blk_alloc ?_ _)); exact BK524.out) hb)
            have n1_ := Aside0.mk (blk_below (g := gb525) (o := .cells #[.int .i64 t522, .int .i64 t523] 38 (0, 0)) (by (with_reducible repeat (first | refine blk_drewN ?_ _ | refine blk_drew ?_ | refine blk_alloc ?_ _)); exact BK525.out) hb)
            have n2_ := Aside0.mk (blk_below (g := gb528) (o := .cells #[.int .i64 t526, .int .i64 t527] 25 (0, 0)) (by (with_reducible repeat (first | refine blk_drewN ?_ _ | refine blk_drew ?_ | refine blk_alloc ?_ _)); exact BK528.out) hb)
            have n3_ := Aside0.mk (blk_below (g := gb539) (o := .cells #[.int .i64 t536, .int .i64 t537] 25 (0, 0)) (by (with_reducible repeat (first | refine blk_drewN ?_ _ | refine blk_drew ?_ | refine blk_alloc ?_ _)); exact BK539.out) hb)
            have n4_ := Aside0.mk (blk_below (g := gb544) (o := .cells #[.int .i64 t541, .int .i64 t542] 25 (0, 0)) (by (with_reducible repeat (first | refine blk_drewN ?_ _ | refine blk_drew ?_ | refine blk_alloc ?_ _)); exact BK544.out) hb)
            have n5_ := Aside0.mk (below_step (by repeat (first | (with_reducible first | exact HB.out | apply below_alloc | apply pw_below_drewN | apply below_drew1 | refine below_set ?_ GE524.out | refine below_set ?_ GE525.out | refine below_set ?_ GE528.out | refine below_set ?_ GE539.out | refine below_set ?_ GE544.out) | exact HB.out)) hb)
            clear BK524
            clear BK525
            clear BK528
            clear BK539
            clear BK544
            clear HB
            have BK524 := n0_
            have BK525 := n1_
            have BK528 := n2_
            have BK539 := n3_
            have BK544 := n4_
            have HB := n5_
            clear n0_ n1_ n2_ n3_ n4_ n5_
            (try clear hb)
            (try clear hb2)
            (try clear hk)
            (try clear hi)
            refine hK.out _ _ ⟨(blk_cell BK528.out 0).trans rfl, (blk_cell BK528.out 1).trans rfl, (blk_cell BK539.out 0).trans rfl, (blk_cell BK539.out 1).trans rfl⟩ (fun hHeld => ?_)
            clear hK K
            refine norm_ (a' := ?_) ?_ ?_
            rotate_left
            · show Act.put _ (some 59) _ = _
              simp only [Act.put, List.setIfInBounds_toArray, List.set_cons_zero, List.set_cons_succ, i64_w, i32_w]
              rfl
            refine pure_ (i := 3) (N := some 60) (v := ?_) (a' := ?_) #[true, true, true, true, false, false, false, false, false, false, false, false, false, false, false, false, false, false, false, false, false, false, false] rfl rfl (any_of HT_.out (by kernel_rfl)) (fun _ _ _ h => h) (Or.inl ⟨by rfl, ?_⟩) ?_ ?_
            rotate_left
            · intro w'
              go_simp
              with_reducible rfl
            rotate_left
            · simp only [Act.put, List.setIfInBounds_toArray, List.set_cons_zero, List.set_cons_succ, i64_w, i32_w]
              rfl
            refine pure_ (i := 4) (N := some 61) (v := ?_) (a' := ?_) #[true, true, true, true, true, false, false, false, false, false, false, false, false, false, false, false, false, false, false, false, false, false, false] rfl rfl (any_of HT_.out (by kernel_rfl)) (fun _ _ _ h => h) (Or.inl ⟨by rfl, ?_⟩) ?_ ?_
            rotate_left
            · intro w'
              go_simp
              with_reducible rfl
            rotate_left
            · simp only [Act.put, List.setIfInBounds_toArray, List.set_cons_zero, List.set_cons_succ, i64_w, i32_w]
              rfl
            refine pure_ (i := 5) (N := some 62) (v := undef) (a' := ?_) #[true, true, true, true, true, true, false, false, false, false, false, false, false, false, false, false, false, false, false, false, false, false, false] rfl rfl (any_of HT_.out (by kernel_rfl)) (fun _ _ _ h => h) (Or.inr ⟨by rfl, rfl⟩) ?_ ?_
            rotate_left
            · simp only [Act.put, List.setIfInBounds_toArray, List.set_cons_zero, List.set_cons_succ, i64_w, i32_w]
              rfl
            refine pure_ (i := 6) (N := some 63) (v := undef) (a' := ?_) #[true, true, true, true, true, true, true, false, false, false, false, false, false, false, false, false, false, false, false, false, false, false, false] rfl rfl (any_of HT_.out (by kernel_rfl)) (fun _ _ _ h => h) (Or.inr ⟨by rfl, rfl⟩) ?_ ?_
            rotate_left
            · simp only [Act.put, List.setIfInBounds_toArray, List.set_cons_zero, List.set_cons_succ, i64_w, i32_w]
              rfl
            refine pure_ (i := 7) (N := some 64) (v := undef) (a' := ?_) #[true, true, true, true, true, true, true, true, false, false, false, false, false, false, false, false, false, false, false, false, false, false, false] rfl rfl (any_of HT_.out (by kernel_rfl)) (fun _ _ _ h => h) (Or.inr ⟨by rfl, rfl⟩) ?_ ?_
            rotate_left
            · simp only [Act.put, List.setIfInBounds_toArray, List.set_cons_zero, List.set_cons_succ, i64_w, i32_w]
              rfl
            refine pure_ (i := 8) (N := some 65) (v := undef) (a' := ?_) #[true, true, true, true, true, true, true, true, true, false, false, false, false, false, false, false, false, false, false, false, false, false, false] rfl rfl (any_of HT_.out (by kernel_rfl)) (fun _ _ _ h => h) (Or.inr ⟨by rfl, rfl⟩) ?_ ?_
            rotate_left
            · simp only [Act.put, List.setIfInBounds_toArray, List.set_cons_zero, List.set_cons_succ, i64_w, i32_w]
              rfl
            refine pure_ (i := 9) (N := some 66) (v := ?_) (a' := ?_) #[true, true, true, true, true, true, true, true, true, true, false, false, false, false, false, false, false, false, false, false, false, false, false] rfl rfl (any_of HT_.out (by kernel_rfl)) (fun _ _ _ h => h) (Or.inl ⟨by rfl, ?_⟩) ?_ ?_
            rotate_left
            · intro w'
              go_simp
              with_reducible rfl
            rotate_left
            · simp only [Act.put, List.setIfInBounds_toArray, List.set_cons_zero, List.set_cons_succ, i64_w, i32_w]
              rfl
            refine pure_ (i := 10) (N := some 67) (v := ?_) (a' := ?_) #[true, true, true, true, true, true, true, true, true, true, true, false, false, false, false, false, false, false, false, false, false, false, false] rfl rfl (any_of HT_.out (by kernel_rfl)) (fun _ _ _ h => h) (Or.inl ⟨by rfl, ?_⟩) ?_ ?_
            rotate_left
            · intro w'
              go_simp
              with_reducible rfl
            rotate_left
            · simp only [Act.put, List.setIfInBounds_toArray, List.set_cons_zero, List.set_cons_succ, i64_w, i32_w]
              rfl
            refine pure_ (i := 11) (N := some 68) (v := undef) (a' := ?_) #[true, true, true, true, true, true, true, true, true, true, true, true, false, false, false, false, false, false, false, false, false, false, false] rfl rfl (any_of HT_.out (by kernel_rfl)) (fun _ _ _ h => h) (Or.inr ⟨by rfl, rfl⟩) ?_ ?_
            rotate_left
            · simp only [Act.put, List.setIfInBounds_toArray, List.set_cons_zero, List.set_cons_succ, i64_w, i32_w]
              rfl
            refine pure_ (i := 12) (N := some 69) (v := undef) (a' := ?_) #[true, true, true, true, true, true, true, true, true, true, true, true, true, false, false, false, false, false, false, false, false, false, false] rfl rfl (any_of HT_.out (by kernel_rfl)) (fun _ _ _ h => h) (Or.inr ⟨by rfl, rfl⟩) ?_ ?_
            rotate_left
            · simp only [Act.put, List.setIfInBounds_toArray, List.set_cons_zero, List.set_cons_succ, i64_w, i32_w]
              rfl
            refine pure_ (i := 13) (N := some 70) (v := ?_) (a' := ?_) #[true, true, true, true, true, true, true, true, true, true, true, true, true, true, false, false, false, false, false, false, false, false, false] rfl rfl (any_of HT_.out (by kernel_rfl)) (fun _ _ _ h => h) (Or.inl ⟨by rfl, ?_⟩) ?_ ?_
            rotate_left
            · intro w'
              go_simp
              with_reducible rfl
            rotate_left
            · simp only [Act.put, List.setIfInBounds_toArray, List.set_cons_zero, List.set_cons_succ, i64_w, i32_w]
              rfl
            refine pure_ (i := 14) (N := some 71) (v := ?_) (a' := ?_) #[true, true, true, true, true, true, true, true, true, true, true, true, true, true, true, false, false, false, false, false, false, false, false] rfl rfl (any_of HT_.out (by kernel_rfl)) (fun _ _ _ h => h) (Or.inl ⟨by rfl, ?_⟩) ?_ ?_
            rotate_left
            · intro w'
              go_simp
              with_reducible rfl
            rotate_left
            · simp only [Act.put, List.setIfInBounds_toArray, List.set_cons_zero, List.set_cons_succ, i64_w, i32_w]
              rfl
            refine pure_ (i := 15) (N := some 72) (v := undef) (a' := ?_) #[true, true, true, true, true, true, true, true, true, true, true, true, true, true, true, true, false, false, false, false, false, false, false] rfl rfl (any_of HT_.out (by kernel_rfl)) (fun _ _ _ h => h) (Or.inr ⟨by rfl, rfl⟩) ?_ ?_
            rotate_left
            · simp only [Act.put, List.setIfInBounds_toArray, List.set_cons_zero, List.set_cons_succ, i64_w, i32_w]
              rfl
            refine pure_ (i := 16) (N := some 73) (v := undef) (a' := ?_) #[true, true, true, true, true, true, true, true, true, true, true, true, true, true, true, true, true, false, false, false, false, false, false] rfl rfl (any_of HT_.out (by kernel_rfl)) (fun _ _ _ h => h) (Or.inr ⟨by rfl, rfl⟩) ?_ ?_
            rotate_left
            · simp only [Act.put, List.setIfInBounds_toArray, List.set_cons_zero, List.set_cons_succ, i64_w, i32_w]
              rfl
            refine pure_ (i := 17) (N := some 74) (v := undef) (a' := ?_) #[true, true, true, true, true, true, true, true, true, true, true, true, true, true, true, true, true, true, false, false, false, false, false] rfl rfl (any_of HT_.out (by kernel_rfl)) (fun _ _ _ h => h) (Or.inr ⟨by rfl, rfl⟩) ?_ ?_
            rotate_left
            · simp only [Act.put, List.setIfInBounds_toArray, List.set_cons_zero, List.set_cons_succ, i64_w, i32_w]
              rfl
            refine pure_ (i := 18) (N := some 75) (v := undef) (a' := ?_) #[true, true, true, true, true, true, true, true, true, true, true, true, true, true, true, true, true, true, true, false, false, false, false] rfl rfl (any_of HT_.out (by kernel_rfl)) (fun _ _ _ h => h) (Or.inr ⟨by rfl, rfl⟩) ?_ ?_
            rotate_left
            · simp only [Act.put, List.setIfInBounds_toArray, List.set_cons_zero, List.set_cons_succ, i64_w, i32_w]
              rfl
            refine pure_ (i := 19) (N := some 76) (v := undef) (a' := ?_) #[true, true, true, true, true, true, true, true, true, true, true, true, true, true, true, true, true, true, true, true, false, false, false] rfl rfl (any_of HT_.out (by kernel_rfl)) (fun _ _ _ h => h) (Or.inr ⟨by rfl, rfl⟩) ?_ ?_
            rotate_left
            · simp only [Act.put, List.setIfInBounds_toArray, List.set_cons_zero, List.set_cons_succ, i64_w, i32_w]
              rfl
            refine pure_ (i := 20) (N := some 77) (v := undef) (a' := ?_) #[true, true, true, true, true, true, true, true, true, true, true, true, true, true, true, true, true, true, true, true, true, false, false] rfl rfl (any_of HT_.out (by kernel_rfl)) (fun _ _ _ h => h) (Or.inr ⟨by rfl, rfl⟩) ?_ ?_
            rotate_left
            · simp only [Act.put, List.setIfInBounds_toArray, List.set_cons_zero, List.set_cons_succ, i64_w, i32_w]
              rfl
            refine pure_ (i := 21) (N := some 78) (v := ?_) (a' := ?_) #[true, true, true, true, true, true, true, true, true, true, true, true, true, true, true, true, true, true, true, true, true, true, false] rfl rfl (any_of HT_.out (by kernel_rfl)) (fun _ _ _ h => h) (Or.inl ⟨by rfl, ?_⟩) ?_ ?_
            rotate_left
            · intro w'
              go_simp
              with_reducible rfl
            rotate_left
            · simp only [Act.put, List.setIfInBounds_toArray, List.set_cons_zero, List.set_cons_succ, i64_w, i32_w]
              rfl
            refine pure_ (i := 22) (N := some 2) (v := ?_) (a' := ?_) #[true, true, true, true, true, true, true, true, true, true, true, true, true, true, true, true, true, true, true, true, true, true, true] rfl rfl (any_of HT_.out (by kernel_rfl)) (fun _ _ _ h => h) (Or.inl ⟨by rfl, ?_⟩) ?_ ?_
            rotate_left
            · intro w'
              go_simp
              with_reducible rfl
            rotate_left
            · simp only [Act.put, List.setIfInBounds_toArray, List.set_cons_zero, List.set_cons_succ, i64_w, i32_w]
              rfl
            refine done_ (done_of HT_.out (by kernel_rfl)) ?_
            try go_wp2
            go_ret
            exact ⟨by first | rfl | (simp [errW_none, errW_some] <;> rfl) | (simp [*, errW_none, errW_some] <;> rfl), by repeat (first | (with_reducible first | exact HB.out | apply below_alloc | apply pw_below_drewN | apply below_drew1 | refine below_set ?_ GE524.out | refine below_set ?_ GE525.out | refine below_set ?_ GE528.out | refine below_set ?_ GE539.out | refine below_set ?_ GE544.out) | exact HB.out)⟩
/-- THE ONE PURE STATEMENT of laws_FnFarEnds: yours. -/
def laws_FnFarEnds.Pure : Prop := ∀ (l0 : List Int), l0.length ≤ maxLen → l0.length * 1 ≤ 140737488351232 → (∀ x ∈ l0, (Lit.int .u8 x).wf = true) → ∃ k, laws_FnFarEnds.f k l0 = some true
theorem laws_FnFarEnds.walk (P : laws_FnFarEnds.Pure) (a0 : Option Addr) (len0 cap0 : Nat) (z0 : List Int) (w : World) (hE : ErrW w) (w0 : (a0 = none ∧ len0 = 0 ∧ cap0 = 0 ∧ z0 = []) ∨ ∃ x, a0 = some x ∧ len0 ≤ cap0 ∧ cap0 ≤ maxLen ∧ z0.length = cap0 ∧ (∀ i, i < z0.length → w.cell? (x.add i) = some (.int .u8 (z0.getD i 0))) ∧ ∀ n ∈ z0, (Lit.int .u8 n).wf = true) (y0 : len0 * 1 ≤ 140737488351232) :
    Calls Tryd.prog 11 #[.slice a0 len0 cap0] w fun e w' => e = .returned (.bool true) ∧ Below w.heap.size w w' := by
  obtain ⟨l0, rfl, hr0, hm0, hw0, hc0⟩ := ReadsInt.ofRowC w0
  obtain ⟨k, h⟩ := P l0 hm0 y0 hw0
  refine (laws_FnFarEnds.calls k _ _ l0 true w (Kd.C_of_reads (d := (0 : Int)) (h1 := fun _ => rfl) hr0) hc0 hE h).mono ?_
  rintro e w' ⟨rfl, hd⟩
  exact ⟨rfl, hd⟩
end Go.Proofs.YtnponnkcfgjeoaaDoor.X
end
