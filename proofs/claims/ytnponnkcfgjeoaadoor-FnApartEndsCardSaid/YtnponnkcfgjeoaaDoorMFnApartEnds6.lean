/- FnApartEnds: the law returns true for every input, and each input reads behind the call as before; part 6 of 6. No condition. Merged by program out of: FLawsFnApartEnds, EvApart, EvDraw, PureFnApartEnds, WSized, LawFnApartEnds. -/
import Derived.Test.YtnponnkcfgjeoaaDoorMFnApartEnds5
import Derived.SizedLaws
import Derived.ChangeSlices
import Derived.WalkKit
import Derived.ProofKit
import Derived.OpenShut
import Derived.ShutString
import Derived.ChangeOld
import Derived.Below
import Derived.SevenTiedAt
section
namespace Go.Proofs.YtnponnkcfgjeoaaDoor.X
open Go.RowKit Go.Proofs.YtnponnkcfgjeoaaDoorW.PrintWords Go.Proofs.YtnponnkcfgjeoaaDoorW.PrintLast Go.Proofs.YtnponnkcfgjeoaaDoorW.PrintMore
attribute [local go_sem] max2_int min2_int max_two min_two max_three min_three max_four min_four
set_option linter.unusedVariables false
set_option linter.unusedSimpArgs false
attribute [local go_sem high] eqA25
mutual
def laws_FnApartEnds.j0 : Nat → Bool → Int → Int → Int → Int → Int → Int → Int → Int → Int → Int → Option (Bool)
 | 0, _, _, _, _, _, _, _, _, _, _, _ => none
 | k + 1, x34, x596000, x596001, x596002, x596003, x597000, x597001, x597002, x597003, x600000, x600001 => if x34 = true then ((spec_SegApart.f k x596000 x596001 x596002 x596003 x597000 x597001 x597002 x597003).bind fun bt604 => (some (x600000 == bt604.1 && (x600001 == bt604.2)))) else ((impl_SegFar.f x596000 x596001 x596002 x596003 x597000 x597001).bind fun bt606 => ((impl_SegFar.f x596000 x596001 x596002 x596003 x597002 x597003).bind fun bt608 => ((impl_SegFar.f x597000 x597001 x597002 x597003 x596000 x596001).bind fun bt610 => ((impl_SegFar.f x597000 x597001 x597002 x597003 x596002 x596003).bind fun bt612 => (laws_FnApartEnds.l0 k (([(⟨bt606.1, bt606.2⟩ : S25), (⟨bt608.1, bt608.2⟩ : S25), (⟨bt610.1, bt610.2⟩ : S25), (⟨bt612.1, bt612.2⟩ : S25)] : List (S25))) false 0 x596000 x596001 x596002 x596003 x597000 x597001 x597002 x597003 x600000 x600001)))))
def laws_FnApartEnds.l0 : Nat → List (S25) → Bool → Int → Int → Int → Int → Int → Int → Int → Int → Int → Int → Int → Option (Bool)
 | 0, _, _, _, _, _, _, _, _, _, _, _, _, _ => none
 | k + 1, x6, x7, x8, x596000, x596001, x596002, x596003, x597000, x597001, x597002, x597003, x600000, x600001 => if x8 < (x6.length : Int) then (if 0 ≤ x8 then ((impl_FracCmp.f x600000 x600001 ((rd_T25 x6 x8).f0) ((rd_T25 x6 x8).f1)).bind fun t618 => (if t618 > 0 then (some false) else (if x7 = true then (laws_FnApartEnds.l0 k x6 true (wrap64 (x8 + 1)) x596000 x596001 x596002 x596003 x597000 x597001 x597002 x597003 x600000 x600001) else (laws_FnApartEnds.l0 k x6 (((rd_T25 x6 x8).f0) == x600000 && (((rd_T25 x6 x8).f1) == x600001)) (wrap64 (x8 + 1)) x596000 x596001 x596002 x596003 x597000 x597001 x597002 x597003 x600000 x600001)))) else (none)) else (if x7 = true then (some true) else ((impl_SegMeet.f k x596000 x596001 x596002 x596003 x597000 x597001 x597002 x597003).bind fun t620 => (some t620)))
end
def laws_FnApartEnds.f (k : Nat) (l0 : List Int) : Option (Bool) := if (l0.length : Int) > 1048576 then (some true) else ((spec_DrawSegApart.f k l0).bind fun bt587 => ((impl_SegApart.f bt587.1 bt587.2.1 bt587.2.2.1 bt587.2.2.2.1 bt587.2.2.2.2.1 bt587.2.2.2.2.2.1 bt587.2.2.2.2.2.2.1 bt587.2.2.2.2.2.2.2).bind fun bt597 => ((spec_SegApart.f k bt587.1 bt587.2.1 bt587.2.2.1 bt587.2.2.2.1 bt587.2.2.2.2.1 bt587.2.2.2.2.2.1 bt587.2.2.2.2.2.2.1 bt587.2.2.2.2.2.2.2).bind fun bt600 => (if (!(bt597.1 == bt600.1) || (!(bt597.2 == bt600.2))) = true then (laws_FnApartEnds.j0 k true bt587.1 bt587.2.1 bt587.2.2.1 bt587.2.2.2.1 bt587.2.2.2.2.1 bt587.2.2.2.2.2.1 bt587.2.2.2.2.2.2.1 bt587.2.2.2.2.2.2.2 bt597.1 bt597.2) else ((spec_SegOk.f bt587.1 bt587.2.1 bt587.2.2.1 bt587.2.2.2.1).bind fun t602 => (if t602 = true then ((spec_SegOk.f bt587.2.2.2.2.1 bt587.2.2.2.2.2.1 bt587.2.2.2.2.2.2.1 bt587.2.2.2.2.2.2.2).bind fun t603 => (laws_FnApartEnds.j0 k (!t603) bt587.1 bt587.2.1 bt587.2.2.1 bt587.2.2.2.1 bt587.2.2.2.2.1 bt587.2.2.2.2.2.1 bt587.2.2.2.2.2.2.1 bt587.2.2.2.2.2.2.2 bt597.1 bt597.2)) else (laws_FnApartEnds.j0 k true bt587.1 bt587.2.1 bt587.2.2.1 bt587.2.2.2.1 bt587.2.2.2.2.1 bt587.2.2.2.2.2.1 bt587.2.2.2.2.2.2.1 bt587.2.2.2.2.2.2.2 bt597.1 bt597.2)))))))
def laws_FnApartEnds.T5 : Bool × List (List Nat × List Nat) := (true, [([], []), ([], []), ([], []), ([1, 2], [1, 2]), ([0, 3], [0, 3]), ([4, 3], [4]), ([5], [5]), ([6, 5, 5], [5, 6]), ([7, 5], [5, 7]), ([5, 8], [5, 8]), ([9, 7], [9]), ([10], [10]), ([11, 10, 10], [10, 11]), ([12, 10], [10, 12]), ([10, 13], [10, 13])])
def laws_FnApartEnds.B5 : List Nat := [0, 0, 0, 6, 15, 31, 63, 127, 255, 511, 1023, 2047, 4095, 8191, 16383]
theorem laws_FnApartEnds.tab5 : rtab .any (opsOf Tryd.f12 5) = laws_FnApartEnds.T5 := by kernel_rfl
theorem laws_FnApartEnds.bits5 : waitsOk laws_FnApartEnds.T5.2 laws_FnApartEnds.B5 = true := by kernel_rfl
def laws_FnApartEnds.T7 : Bool × List (List Nat × List Nat) := (true, [([], []), ([], []), ([1], [1]), ([0, 2], [0, 2]), ([], []), ([], []), ([5], [5]), ([4, 6, 3], [4, 6]), ([], []), ([], []), ([9], [9]), ([8, 10, 7], [8, 10]), ([], []), ([], []), ([13], [13]), ([12, 14, 11], [12, 14]), ([3, 7, 11, 15], [3, 7, 11, 15]), ([16, 15, 0, 1, 2, 3, 4, 5, 6, 7, 8, 9, 10, 11, 12, 13, 14, 15, 16], [16])])
def laws_FnApartEnds.B7 : List Nat := [0, 0, 2, 7, 0, 0, 32, 127, 0, 0, 512, 2047, 0, 0, 8192, 32767, 65535, 131071]
theorem laws_FnApartEnds.tab7 : rtab .any (opsOf Tryd.f12 7) = laws_FnApartEnds.T7 := by kernel_rfl
theorem laws_FnApartEnds.bits7 : waitsOk laws_FnApartEnds.T7.2 laws_FnApartEnds.B7 = true := by kernel_rfl
def laws_FnApartEnds.T14 : Bool × List (List Nat × List Nat) := (true, [([], []), ([0], [0]), ([1], [1]), ([1], [1]), ([2, 3, 1], [1, 2, 3]), ([4, 1], [1, 4]), ([1], [1]), ([5, 6, 1], [1, 5, 6]), ([1, 7], [1, 7]), ([8, 1, 0, 1, 2, 3, 4, 5, 6, 7, 8], [0, 8])])
def laws_FnApartEnds.B14 : List Nat := [0, 1, 3, 3, 15, 31, 3, 127, 255, 511]
theorem laws_FnApartEnds.tab14 : rtab .any (opsOf Tryd.f12 14) = laws_FnApartEnds.T14 := by kernel_rfl
theorem laws_FnApartEnds.bits14 : waitsOk laws_FnApartEnds.T14.2 laws_FnApartEnds.B14 = true := by kernel_rfl
set_option maxHeartbeats 8000000 in
set_option maxRecDepth 100000 in
theorem laws_FnApartEnds.calls (k : Nat) (A0 : Option Addr) (c0 : Nat) (l0 : List Int) (r : Bool) (w : World) (hr0 : Kd.C (Kd.int .u8) w A0 l0.length l0) (hc0 : l0.length ≤ c0) (hE : ErrW w) (h : laws_FnApartEnds.f k l0 = some r) :
  Calls Tryd.prog 12 #[.slice A0 l0.length c0] w fun e w' => e = .returned (.bool r) ∧ Below w.heap.size w w' := by
 have hu40 := Tryd.underlying40
 have hu25 := Tryd.underlying25
 have hu38 := Tryd.underlying38
 have HR0 := Aside0.mk hr0
 have HC0 := Aside0.mk hc0
 clear hr0 hc0
 have HB := Aside0.mk (Below.refl w.heap.size w)
 have HE := Aside0.mk hE
 clear hE
 have H : (if (l0.length : Int) > 1048576 then (some true) else ((spec_DrawSegApart.f k l0).bind fun bt587 => ((impl_SegApart.f bt587.1 bt587.2.1 bt587.2.2.1 bt587.2.2.2.1 bt587.2.2.2.2.1 bt587.2.2.2.2.2.1 bt587.2.2.2.2.2.2.1 bt587.2.2.2.2.2.2.2).bind fun bt597 => ((spec_SegApart.f k bt587.1 bt587.2.1 bt587.2.2.1 bt587.2.2.2.1 bt587.2.2.2.2.1 bt587.2.2.2.2.2.1 bt587.2.2.2.2.2.2.1 bt587.2.2.2.2.2.2.2).bind fun bt600 => (if (!(bt597.1 == bt600.1) || (!(bt597.2 == bt600.2))) = true then (laws_FnApartEnds.j0 k true bt587.1 bt587.2.1 bt587.2.2.1 bt587.2.2.2.1 bt587.2.2.2.2.1 bt587.2.2.2.2.2.1 bt587.2.2.2.2.2.2.1 bt587.2.2.2.2.2.2.2 bt597.1 bt597.2) else ((spec_SegOk.f bt587.1 bt587.2.1 bt587.2.2.1 bt587.2.2.2.1).bind fun t602 => (if t602 = true then ((spec_SegOk.f bt587.2.2.2.2.1 bt587.2.2.2.2.2.1 bt587.2.2.2.2.2.2.1 bt587.2.2.2.2.2.2.2).bind fun t603 => (laws_FnApartEnds.j0 k (!t603) bt587.1 bt587.2.1 bt587.2.2.1 bt587.2.2.2.1 bt587.2.2.2.2.1 bt587.2.2.2.2.2.1 bt587.2.2.2.2.2.2.1 bt587.2.2.2.2.2.2.2 bt597.1 bt597.2)) else (laws_FnApartEnds.j0 k true bt587.1 bt587.2.1 bt587.2.2.1 bt587.2.2.2.1 bt587.2.2.2.2.1 bt587.2.2.2.2.2.1 bt587.2.2.2.2.2.2.1 bt587.2.2.2.2.2.2.2 bt597.1 bt597.2)))))))) = some r := h
 clear h
 by_cases c2 : (l0.length : Int) > 1048576
 ·
  rw [if_pos c2] at H
  have c2b0 : decide (1048576 < (l0.length : Int)) = true := decide_eq_true c2
  have c2b1 : decide (1048576 < l0.length) = true := decide_eq_true (by omega)
  clear c2
  obtain rfl := Option.some.inj H
  go_enter Tryd.func12, Tryd.ntmps12
  go_wp2
  go_ret
  exact ⟨by first | rfl | (simp [errW_none, errW_some] <;> rfl) | (simp [*, errW_none, errW_some] <;> rfl), hB_⟩
 ·
  rw [if_neg c2] at H
  have c2b0 : decide (1048576 < (l0.length : Int)) = false := decide_eq_false c2
  have c2b1 : decide (1048576 < l0.length) = false := decide_eq_false (by omega)
  clear c2
  replace H := Option.bind_eq_some_iff.mp H
  obtain ⟨⟨t587, t588, t589, t590, t591, t592, t593, t594⟩, A30, H⟩ := H
  replace H : ((impl_SegApart.f t587 t588 t589 t590 t591 t592 t593 t594).bind fun bt597 => ((spec_SegApart.f k t587 t588 t589 t590 t591 t592 t593 t594).bind fun bt600 => (if (!(bt597.1 == bt600.1) || (!(bt597.2 == bt600.2))) = true then (laws_FnApartEnds.j0 k true t587 t588 t589 t590 t591 t592 t593 t594 bt597.1 bt597.2) else ((spec_SegOk.f t587 t588 t589 t590).bind fun t602 => (if t602 = true then ((spec_SegOk.f t591 t592 t593 t594).bind fun t603 => (laws_FnApartEnds.j0 k (!t603) t587 t588 t589 t590 t591 t592 t593 t594 bt597.1 bt597.2)) else (laws_FnApartEnds.j0 k true t587 t588 t589 t590 t591 t592 t593 t594 bt597.1 bt597.2)))))) = some r := H
  have A3 := Aside0.mk A30
  clear A30
  replace H := Option.bind_eq_some_iff.mp H
  obtain ⟨⟨t597, t598⟩, A40, H⟩ := H
  replace H : ((spec_SegApart.f k t587 t588 t589 t590 t591 t592 t593 t594).bind fun bt600 => (if (!(t597 == bt600.1) || (!(t598 == bt600.2))) = true then (laws_FnApartEnds.j0 k true t587 t588 t589 t590 t591 t592 t593 t594 t597 t598) else ((spec_SegOk.f t587 t588 t589 t590).bind fun t602 => (if t602 = true then ((spec_SegOk.f t591 t592 t593 t594).bind fun t603 => (laws_FnApartEnds.j0 k (!t603) t587 t588 t589 t590 t591 t592 t593 t594 t597 t598)) else (laws_FnApartEnds.j0 k true t587 t588 t589 t590 t591 t592 t593 t594 t597 t598))))) = some r := H
  have A4 := Aside0.mk A40
  clear A40
  have HC5 := Aside0.mk H
  clear H
  go_enter Tryd.func12, Tryd.ntmps12
  go_upto_region 5 with (first | ((with_reducible refine gate_callee (f := 36) rfl ?_); refine goesL_ (some 14) rfl rfl Tryd.func36 (by kernel_rfl) rfl #[.slice A0 l0.length c0] rfl ma_ ?_; (with_reducible refine (spec_DrawSegApart.calls k _ _ l0 t587 t588 t589 t590 t591 t592 t593 t594 _ ?side1 ?side2 A3.out).mono ?_); (case side1 => repeat (first | exact HR0.out | (with_reducible refine Kd.C_alloc ?_ _) | (with_reducible refine Kd.C_drewN ?_ _) | (with_reducible refine Kd.C_drew ?_))); (case side2 => exact HC0.out); rintro e w6 ⟨rfl, hb⟩; refine ⟨_, rfl, ?_⟩; have n0_ := Aside0.mk (below_step hB_ hb); clear HB; have HB := n0_; clear n0_; (try clear hb); (try clear hb2); (try clear hk); (try clear hi)) | ((with_reducible refine gate_dst (N := 3) rfl ?_); refine box_event ?hg (N := 3) ?hd (cs := #[.int .i64 0, .int .i64 0, .int .i64 0, .int .i64 0]) (t := 40) ?hr ?_; (case hd => rfl); (case hg => rfl); (case hr => first | (go_simp; done) | (go_simp; rfl)); intro gb595 hg w7 hbox hb; have n0_ := Aside0.mk (below_step hB_ hb); have n1_ := Aside0.mk (hbox); have n2_ := Aside0.mk ((by rw [hg]; exact (below_size hB_) : w.heap.size ≤ gb595)); have n3_ := Aside0.mk ((by rw [hg]; exact (below_size hB_) : w.heap.size ≤ gb595)); clear HB; have HB := n0_; have BK595 := n1_; have GW595 := n2_; have GE595 := n3_; clear n0_ n1_ n2_ n3_; clear hb hbox hg) | ((with_reducible refine gate_dst (N := 4) rfl ?_); refine box_event ?hg (N := 4) ?hd (cs := #[.int .i64 0, .int .i64 0, .int .i64 0, .int .i64 0]) (t := 40) ?hr ?_; (case hd => rfl); (case hg => rfl); (case hr => first | (go_simp; done) | (go_simp; rfl)); intro gb596 hg w8 hbox hb; have n0_ := Aside0.mk (ub_ (g := gb595) hb); have n1_ := Aside0.mk (below_step hB_ hb); have n2_ := Aside0.mk (hbox); have n3_ := Aside0.mk ((by rw [hg]; exact (below_size hB_) : w.heap.size ≤ gb596)); have n4_ := Aside0.mk ((by rw [hg]; exact (below_size hB_) : w.heap.size ≤ gb596)); have n5_ := Aside0.mk ((by rw [hg]; exact Nat.ne_of_lt (blk_lt (g := gb595) (o := .cells #[.int .i64 0, .int .i64 0, .int .i64 0, .int .i64 0] 40 (0, 0)) uq_) : gb595 ≠ gb596)); have n6_ := Aside0.mk ((by rw [hg]; exact Nat.ne_of_gt (blk_lt (g := gb595) (o := .cells #[.int .i64 0, .int .i64 0, .int .i64 0, .int .i64 0] 40 (0, 0)) uq_) : gb596 ≠ gb595)); clear BK595; clear HB; have BK595 := n0_; have HB := n1_; have BK596 := n2_; have GW596 := n3_; have GE596 := n4_; have NB595_596 := n5_; have NB596_595 := n6_; clear n0_ n1_ n2_ n3_ n4_ n5_ n6_; clear hb hbox hg; have hnb9 := NB595_596.out; have hnc9 := NB596_595.out; have hcz10_0 : w8.cell? ⟨gb595, 0, none⟩ = some (.int .i64 0) := bc_; have hcz10_1 : w8.cell? ⟨gb595, 1, none⟩ = some (.int .i64 0) := bc_; have hcz10_2 : w8.cell? ⟨gb595, 2, none⟩ = some (.int .i64 0) := bc_; have hcz10_3 : w8.cell? ⟨gb595, 3, none⟩ = some (.int .i64 0) := bc_; have hfz10_0 := blk_frozen BK595.out 0; have hfz10_1 := blk_frozen BK595.out 1; have hfz10_2 := blk_frozen BK595.out 2; have hfz10_3 := blk_frozen BK595.out 3; have hcz11_0 : w8.cell? ⟨gb596, 0, none⟩ = some (.int .i64 0) := bc_; have hcz11_1 : w8.cell? ⟨gb596, 1, none⟩ = some (.int .i64 0) := bc_; have hcz11_2 : w8.cell? ⟨gb596, 2, none⟩ = some (.int .i64 0) := bc_; have hcz11_3 : w8.cell? ⟨gb596, 3, none⟩ = some (.int .i64 0) := bc_; have hfz11_0 := blk_frozen BK596.out 0; have hfz11_1 := blk_frozen BK596.out 1; have hfz11_2 := blk_frozen BK596.out 2; have hfz11_3 := blk_frozen BK596.out 3) | ((with_reducible refine gate_callee (f := 33) rfl ?_); refine goesL_ (some 19) rfl rfl Tryd.func33 (by kernel_rfl) rfl #[.agg #[.int .i64 t587, .int .i64 t588, .int .i64 t589, .int .i64 t590], .agg #[.int .i64 t591, .int .i64 t592, .int .i64 t593, .int .i64 t594]] rfl ma_ ?_; (with_reducible refine (impl_SegApart.calls t587 t588 t589 t590 t591 t592 t593 t594 t597 t598 _ ?side1 A4.out).mono ?_); (case side1 => exact ErrW.below HE.out hB_); rintro e w12 ⟨rfl, hb⟩; refine ⟨_, rfl, ?_⟩; have n0_ := Aside0.mk (blk_below (g := gb595) (o := .cells #[.int .i64 t587, .int .i64 t588, .int .i64 t589, .int .i64 t590] 40 (0, 0)) (by (with_reducible repeat (first | refine blk_drewN ?_ _ | refine blk_drew ?_ | refine blk_alloc ?_ _)); refine blk_far ?_ NB595_596.out _; (with_reducible repeat (first | refine blk_drewN ?_ _ | refine blk_drew ?_ | refine blk_alloc ?_ _)); refine blk_far ?_ NB595_596.out _; (with_reducible repeat (first | refine blk_drewN ?_ _ | refine blk_drew ?_ | refine blk_alloc ?_ _)); refine blk_far ?_ NB595_596.out _; (with_reducible repeat (first | refine blk_drewN ?_ _ | refine blk_drew ?_ | refine blk_alloc ?_ _)); refine blk_far ?_ NB595_596.out _; (with_reducible repeat (first | refine blk_drewN ?_ _ | refine blk_drew ?_ | refine blk_alloc ?_ _)); refine blk_put (cs := #[.int .i64 t587, .int .i64 t588, .int .i64 t589, .int .i64 0]) ?_ 3 _ rfl; (with_reducible repeat (first | refine blk_drewN ?_ _ | refine blk_drew ?_ | refine blk_alloc ?_ _)); refine blk_put (cs := #[.int .i64 t587, .int .i64 t588, .int .i64 0, .int .i64 0]) ?_ 2 _ rfl; (with_reducible repeat (first | refine blk_drewN ?_ _ | refine blk_drew ?_ | refine blk_alloc ?_ _)); refine blk_put (cs := #[.int .i64 t587, .int .i64 0, .int .i64 0, .int .i64 0]) ?_ 1 _ rfl; (with_reducible repeat (first | refine blk_drewN ?_ _ | refine blk_drew ?_ | refine blk_alloc ?_ _)); refine blk_put (cs := #[.int .i64 0, .int .i64 0, .int .i64 0, .int .i64 0]) ?_ 0 _ rfl; (with_reducible repeat (first | refine blk_drewN ?_ _ | refine blk_drew ?_ | refine blk_alloc ?_ _)); exact BK595.out) hb); have n1_ := Aside0.mk (blk_below (g := gb596) (o := .cells #[.int .i64 t591, .int .i64 t592, .int .i64 t593, .int .i64 t594] 40 (0, 0)) (by (with_reducible repeat (first | refine blk_drewN ?_ _ | refine blk_drew ?_ | refine blk_alloc ?_ _)); refine blk_put (cs := #[.int .i64 t591, .int .i64 t592, .int .i64 t593, .int .i64 0]) ?_ 3 _ rfl; (with_reducible repeat (first | refine blk_drewN ?_ _ | refine blk_drew ?_ | refine blk_alloc ?_ _)); refine blk_put (cs := #[.int .i64 t591, .int .i64 t592, .int .i64 0, .int .i64 0]) ?_ 2 _ rfl; (with_reducible repeat (first | refine blk_drewN ?_ _ | refine blk_drew ?_ | refine blk_alloc ?_ _)); refine blk_put (cs := #[.int .i64 t591, .int .i64 0, .int .i64 0, .int .i64 0]) ?_ 1 _ rfl; (with_reducible repeat (first | refine blk_drewN ?_ _ | refine blk_drew ?_ | refine blk_alloc ?_ _)); refine blk_put (cs := #[.int .i64 0, .int .i64 0, .int .i64 0, .int .i64 0]) ?_ 0 _ rfl; (with_reducible repeat (first | refine blk_drewN ?_ _ | refine blk_drew ?_ | refine blk_alloc ?_ _)); refine blk_far ?_ NB596_595.out _; (with_reducible repeat (first | refine blk_drewN ?_ _ | refine blk_drew ?_ | refine blk_alloc ?_ _)); refine blk_far ?_ NB596_595.out _; (with_reducible repeat (first | refine blk_drewN ?_ _ | refine blk_drew ?_ | refine blk_alloc ?_ _)); refine blk_far ?_ NB596_595.out _; (with_reducible repeat (first | refine blk_drewN ?_ _ | refine blk_drew ?_ | refine blk_alloc ?_ _)); refine blk_far ?_ NB596_595.out _; (with_reducible repeat (first | refine blk_drewN ?_ _ | refine blk_drew ?_ | refine blk_alloc ?_ _)); exact BK596.out) hb); have n2_ := Aside0.mk (below_step hB_ hb); clear BK595; clear BK596; clear HB; have BK595 := n0_; have BK596 := n1_; have HB := n2_; clear n0_ n1_ n2_; (try clear hb); (try clear hb2); (try clear hk); (try clear hi)) | ((with_reducible refine gate_dst (N := 5) rfl ?_); refine box_event ?hg (N := 5) ?hd (cs := #[.int .i64 0, .int .i64 0]) (t := 25) ?hr ?_; (case hd => rfl); (case hg => rfl); (case hr => first | (go_simp; done) | (go_simp; rfl)); intro gb599 hg w13 hbox hb; have n0_ := Aside0.mk (ub_ (g := gb595) hb); have n1_ := Aside0.mk (ub_ (g := gb596) hb); have n2_ := Aside0.mk (below_step hB_ hb); have n3_ := Aside0.mk (hbox); have n4_ := Aside0.mk ((by rw [hg]; exact (below_size hB_) : w.heap.size ≤ gb599)); have n5_ := Aside0.mk ((by rw [hg]; exact (below_size hB_) : w.heap.size ≤ gb599)); have n6_ := Aside0.mk ((by rw [hg]; exact Nat.ne_of_lt (blk_lt (g := gb595) (o := .cells #[.int .i64 t587, .int .i64 t588, .int .i64 t589, .int .i64 t590] 40 (0, 0)) uq_) : gb595 ≠ gb599)); have n7_ := Aside0.mk ((by rw [hg]; exact Nat.ne_of_gt (blk_lt (g := gb595) (o := .cells #[.int .i64 t587, .int .i64 t588, .int .i64 t589, .int .i64 t590] 40 (0, 0)) uq_) : gb599 ≠ gb595)); have n8_ := Aside0.mk ((by rw [hg]; exact Nat.ne_of_lt (blk_lt (g := gb596) (o := .cells #[.int .i64 t591, .int .i64 t592, .int .i64 t593, .int .i64 t594] 40 (0, 0)) uq_) : gb596 ≠ gb599)); have n9_ := Aside0.mk ((by rw [hg]; exact Nat.ne_of_gt (blk_lt (g := gb596) (o := .cells #[.int .i64 t591, .int .i64 t592, .int .i64 t593, .int .i64 t594] 40 (0, 0)) uq_) : gb599 ≠ gb596)); clear BK595; clear BK596; clear HB; have BK595 := n0_; have BK596 := n1_; have HB := n2_; have BK599 := n3_; have GW599 := n4_; have GE599 := n5_; have NB595_599 := n6_; have NB599_595 := n7_; have NB596_599 := n8_; have NB599_596 := n9_; clear n0_ n1_ n2_ n3_ n4_ n5_ n6_ n7_ n8_ n9_; clear hb hbox hg; have hnb14 := NB599_595.out; have hnc14 := NB595_599.out; have hnb15 := NB599_596.out; have hnc15 := NB596_599.out; have hcz16_0 : w13.cell? ⟨gb599, 0, none⟩ = some (.int .i64 0) := bc_; have hcz16_1 : w13.cell? ⟨gb599, 1, none⟩ = some (.int .i64 0) := bc_; have hfz16_0 := blk_frozen BK599.out 0; have hfz16_1 := blk_frozen BK599.out 1))
  (try simp only [Act.put, List.setIfInBounds_toArray, List.set_cons_zero, List.set_cons_succ])
  go_cut [34] (fun v34 wc => ∃ (kq : Nat) (x34_4 : Bool), v34 = .bool x34_4 ∧ Aside0 (laws_FnApartEnds.j0 kq x34_4 t587 t588 t589 t590 t591 t592 t593 t594 t597 t598 = some r) ∧ Aside0 (kq ≤ k) ∧ Aside0 (wc.heap[gb595]? = some (.cells #[.int .i64 t587, .int .i64 t588, .int .i64 t589, .int .i64 t590] 40 (0, 0))) ∧ Aside0 (wc.heap[gb596]? = some (.cells #[.int .i64 t591, .int .i64 t592, .int .i64 t593, .int .i64 t594] 40 (0, 0))) ∧ Aside0 (wc.heap[gb599]? = some (.cells #[.int .i64 t597, .int .i64 t598] 25 (0, 0))) ∧ Aside0 (Below w.heap.size w wc))
  case first =>
   have H := HC5.out
   clear HC5
   replace H := Option.bind_eq_some_iff.mp H
   obtain ⟨⟨t600, t601⟩, A170, H⟩ := H
   replace H : (if (!(t597 == t600) || (!(t598 == t601))) = true then (laws_FnApartEnds.j0 k true t587 t588 t589 t590 t591 t592 t593 t594 t597 t598) else ((spec_SegOk.f t587 t588 t589 t590).bind fun t602 => (if t602 = true then ((spec_SegOk.f t591 t592 t593 t594).bind fun t603 => (laws_FnApartEnds.j0 k (!t603) t587 t588 t589 t590 t591 t592 t593 t594 t597 t598)) else (laws_FnApartEnds.j0 k true t587 t588 t589 t590 t591 t592 t593 t594 t597 t598)))) = some r := H
   have A17 := Aside0.mk A170
   clear A170
   by_cases c18 : (!(t597 == t600) || (!(t598 == t601))) = true
   ·
    rw [if_pos c18] at H
    have c18b0 : (!(t597 == t600) || (!(t598 == t601))) = true := c18
    clear c18
    (first | rw [c18b0] | (simp only [i64_w, i32_w]; rw [c18b0]) | skip)
    have H' := Aside0.mk H
    clear H
    try go_wp2
    have n0_ : Aside0 (((w13.setCell ⟨gb599, 0, none⟩ (.int .i64 t597)).setCell ⟨gb599, 1, none⟩ (.int .i64 t598)).heap[gb595]? = some (.cells #[.int .i64 t587, .int .i64 t588, .int .i64 t589, .int .i64 t590] 40 (0, 0))) := ⟨by (with_reducible repeat (first | refine blk_drewN ?_ _ | refine blk_drew ?_ | refine blk_alloc ?_ _)); refine blk_far ?_ NB595_599.out _; (with_reducible repeat (first | refine blk_drewN ?_ _ | refine blk_drew ?_ | refine blk_alloc ?_ _)); refine blk_far ?_ NB595_599.out _; (with_reducible repeat (first | refine blk_drewN ?_ _ | refine blk_drew ?_ | refine blk_alloc ?_ _)); exact BK595.out⟩
    have n1_ : Aside0 (((w13.setCell ⟨gb599, 0, none⟩ (.int .i64 t597)).setCell ⟨gb599, 1, none⟩ (.int .i64 t598)).heap[gb596]? = some (.cells #[.int .i64 t591, .int .i64 t592, .int .i64 t593, .int .i64 t594] 40 (0, 0))) := ⟨by (with_reducible repeat (first | refine blk_drewN ?_ _ | refine blk_drew ?_ | refine blk_alloc ?_ _)); refine blk_far ?_ NB596_599.out _; (with_reducible repeat (first | refine blk_drewN ?_ _ | refine blk_drew ?_ | refine blk_alloc ?_ _)); refine blk_far ?_ NB596_599.out _; (with_reducible repeat (first | refine blk_drewN ?_ _ | refine blk_drew ?_ | refine blk_alloc ?_ _)); exact BK596.out⟩
    have n2_ : Aside0 (((w13.setCell ⟨gb599, 0, none⟩ (.int .i64 t597)).setCell ⟨gb599, 1, none⟩ (.int .i64 t598)).heap[gb599]? = some (.cells #[.int .i64 t597, .int .i64 t598] 25 (0, 0))) := ⟨by (with_reducible repeat (first | refine blk_drewN ?_ _ | refine blk_drew ?_ | refine blk_alloc ?_ _)); refine blk_put (cs := #[.int .i64 t597, .int .i64 0]) ?_ 1 _ rfl; (with_reducible repeat (first | refine blk_drewN ?_ _ | refine blk_drew ?_ | refine blk_alloc ?_ _)); refine blk_put (cs := #[.int .i64 0, .int .i64 0]) ?_ 0 _ rfl; (with_reducible repeat (first | refine blk_drewN ?_ _ | refine blk_drew ?_ | refine blk_alloc ?_ _)); exact BK599.out⟩
    have n3_ : Aside0 (Below w.heap.size w ((w13.setCell ⟨gb599, 0, none⟩ (.int .i64 t597)).setCell ⟨gb599, 1, none⟩ (.int .i64 t598))) := ⟨hB_⟩
    (try clear BK595)
    (try clear BK596)
    (try clear BK599)
    (try clear HB)
    generalize ((w13.setCell ⟨gb599, 0, none⟩ (.int .i64 t597)).setCell ⟨gb599, 1, none⟩ (.int .i64 t598)) = w19 at n0_ n1_ n2_ n3_ ⊢
    have BK595 := n0_
    have BK596 := n1_
    have BK599 := n2_
    have HB := n3_
    clear n0_ n1_ n2_ n3_
    have n0_ := Aside0.mk (blk_drew BK595.out)
    have n1_ := Aside0.mk (blk_drew BK596.out)
    have n2_ := Aside0.mk (blk_drew BK599.out)
    have n3_ := Aside0.mk (below_drew1 HB.out)
    clear BK595 BK596 BK599 HB
    have BK595 := n0_
    have BK596 := n1_
    have BK599 := n2_
    have HB := n3_
    clear n0_ n1_ n2_ n3_
    refine start_ (n := 15) (S := fun w' => w'.cell? ⟨gb599, 0, none⟩ = some (.int .i64 t597) ∧ w'.cell? ⟨gb599, 1, none⟩ = some (.int .i64 t598) ∧ w'.cell? ⟨gb595, 0, none⟩ = some (.int .i64 t587) ∧ w'.cell? ⟨gb595, 1, none⟩ = some (.int .i64 t588) ∧ w'.cell? ⟨gb595, 2, none⟩ = some (.int .i64 t589) ∧ w'.cell? ⟨gb595, 3, none⟩ = some (.int .i64 t590) ∧ w'.cell? ⟨gb596, 0, none⟩ = some (.int .i64 t591) ∧ w'.cell? ⟨gb596, 1, none⟩ = some (.int .i64 t592) ∧ w'.cell? ⟨gb596, 2, none⟩ = some (.int .i64 t593) ∧ w'.cell? ⟨gb596, 3, none⟩ = some (.int .i64 t594)) (ds := []) #[false, false, false, false, false, false, false, false, false, false, false, false, false, false, false] (by kernel_rfl) rfl rfl ⟨bc_, bc_, bc_, bc_, bc_, bc_, bc_, bc_, bc_, bc_⟩ (fun hHeld => ?_); refine with_tabW laws_FnApartEnds.tab5 laws_FnApartEnds.bits5 (fun HT_ HW_ => ?_)
    generalize w19.drew = w20 at BK595 BK596 BK599 HB hHeld ⊢
    refine take_ (i := 0) (N := some 20) (v := ?_) (a' := ?_) (bm 15 1) rfl rfl (take_ofW HT_.out HW_.out (by kernel_rfl)) (fun _ _ _ h => h) (Or.inl ⟨by rfl, ?_⟩) hHeld ?_ ?_
    rotate_left
    ·
     rintro w' ⟨s0, s1, s2, s3, s4, s5, s6, s7, s8, s9⟩
     go_simp
     with_reducible rfl
    rotate_left
    ·
     simp only [Act.put, List.setIfInBounds_toArray, List.set_cons_zero, List.set_cons_succ, i64_w, i32_w]
     rfl
    refine take_ (i := 1) (N := some 21) (v := ?_) (a' := ?_) (bm 15 3) rfl rfl (take_ofW HT_.out HW_.out (by kernel_rfl)) (fun _ _ _ h => h) (Or.inl ⟨by rfl, ?_⟩) hHeld ?_ ?_
    rotate_left
    ·
     rintro w' ⟨s0, s1, s2, s3, s4, s5, s6, s7, s8, s9⟩
     go_simp
     with_reducible rfl
    rotate_left
    ·
     simp only [Act.put, List.setIfInBounds_toArray, List.set_cons_zero, List.set_cons_succ, i64_w, i32_w]
     rfl
    refine take_ (i := 2) (N := some 22) (v := ?_) (a' := ?_) (bm 15 7) rfl rfl (take_ofW HT_.out HW_.out (by kernel_rfl)) (fun _ _ _ h => h) (Or.inl ⟨by rfl, ?_⟩) hHeld ?_ ?_
    rotate_left
    ·
     rintro w' ⟨s0, s1, s2, s3, s4, s5, s6, s7, s8, s9⟩
     go_simp
     with_reducible rfl
    rotate_left
    ·
     simp only [Act.put, List.setIfInBounds_toArray, List.set_cons_zero, List.set_cons_succ, i64_w, i32_w]
     rfl
    refine one_ (i := 3) (N := some 23) (bm 15 15) rfl rfl (one_of HT_.out (by kernel_rfl)) (by decide) (fun K hK => ?_)
    refine goes_ Tryd.func31 (by kernel_rfl) rfl #[.agg #[.int .i64 t587, .int .i64 t588, .int .i64 t589, .int .i64 t590], .agg #[.int .i64 t591, .int .i64 t592, .int .i64 t593, .int .i64 t594]] (by rfl) rfl rfl ma_ ?_
    with_reducible refine (spec_SegApart.calls k t587 t588 t589 t590 t591 t592 t593 t594 t600 t601 _ A17.out).mono ?_
    rintro e w21 ⟨rfl, hb⟩
    refine ⟨_, rfl, ?_⟩
    have n0_ := Aside0.mk (ub_ (g := gb595) hb)
    have n1_ := Aside0.mk (ub_ (g := gb596) hb)
    have n2_ := Aside0.mk (ub_ (g := gb599) hb)
    have n3_ := Aside0.mk (below_step hB_ hb)
    clear BK595 BK596 BK599 HB
    have BK595 := n0_
    have BK596 := n1_
    have BK599 := n2_
    have HB := n3_
    clear n0_ n1_ n2_ n3_
    (try clear hb)
    (try clear hb2)
    (try clear hk)
    (try clear hi)
    refine hK.out _ _ ⟨bc_, bc_, bc_, bc_, bc_, bc_, bc_, bc_, bc_, bc_⟩ (fun hHeld => ?_)
    clear hK K
    refine norm_ (a' := ?_) ?_ ?_
    rotate_left
    ·
     show Act.put _ (some 23) _ = _
     simp only [Act.put, List.setIfInBounds_toArray, List.set_cons_zero, List.set_cons_succ, i64_w, i32_w]
     rfl
    refine pure_ (i := 4) (N := some 24) (v := ?_) (a' := ?_) (bm 15 31) rfl rfl (any_of HT_.out (by kernel_rfl)) (fun _ _ _ h => h) (Or.inl ⟨by rfl, ?_⟩) ?_ ?_
    rotate_left
    ·
     intro w'
     go_simp
     with_reducible rfl
    rotate_left
    ·
     simp only [Act.put, List.setIfInBounds_toArray, List.set_cons_zero, List.set_cons_succ, i64_w, i32_w]
     rfl
    refine pure_ (i := 5) (N := some 25) (v := ?_) (a' := ?_) (bm 15 63) rfl rfl (any_of HT_.out (by kernel_rfl)) (fun _ _ _ h => h) (Or.inl ⟨by rfl, ?_⟩) ?_ ?_
    rotate_left
    ·
     intro w'
     go_simp
     with_reducible rfl
    rotate_left
    ·
     simp only [Act.put, List.setIfInBounds_toArray, List.set_cons_zero, List.set_cons_succ, i64_w, i32_w]
     rfl
    refine pure_ (i := 6) (N := some 26) (v := undef) (a' := ?_) (bm 15 127) rfl rfl (any_of HT_.out (by kernel_rfl)) (fun _ _ _ h => h) (Or.inr ⟨by rfl, rfl⟩) ?_ ?_
    rotate_left
    ·
     simp only [Act.put, List.setIfInBounds_toArray, List.set_cons_zero, List.set_cons_succ, i64_w, i32_w]
     rfl
    refine pure_ (i := 7) (N := some 27) (v := undef) (a' := ?_) (bm 15 255) rfl rfl (any_of HT_.out (by kernel_rfl)) (fun _ _ _ h => h) (Or.inr ⟨by rfl, rfl⟩) ?_ ?_
    rotate_left
    ·
     simp only [Act.put, List.setIfInBounds_toArray, List.set_cons_zero, List.set_cons_succ, i64_w, i32_w]
     rfl
    refine pure_ (i := 8) (N := some 28) (v := undef) (a' := ?_) (bm 15 511) rfl rfl (any_of HT_.out (by kernel_rfl)) (fun _ _ _ h => h) (Or.inr ⟨by rfl, rfl⟩) ?_ ?_
    rotate_left
    ·
     simp only [Act.put, List.setIfInBounds_toArray, List.set_cons_zero, List.set_cons_succ, i64_w, i32_w]
     rfl
    refine pure_ (i := 9) (N := some 29) (v := ?_) (a' := ?_) (bm 15 1023) rfl rfl (any_of HT_.out (by kernel_rfl)) (fun _ _ _ h => h) (Or.inl ⟨by rfl, ?_⟩) ?_ ?_
    rotate_left
    ·
     intro w'
     go_simp
     with_reducible rfl
    rotate_left
    ·
     simp only [Act.put, List.setIfInBounds_toArray, List.set_cons_zero, List.set_cons_succ, i64_w, i32_w]
     rfl
    refine pure_ (i := 10) (N := some 30) (v := ?_) (a' := ?_) (bm 15 2047) rfl rfl (any_of HT_.out (by kernel_rfl)) (fun _ _ _ h => h) (Or.inl ⟨by rfl, ?_⟩) ?_ ?_
    rotate_left
    ·
     intro w'
     go_simp
     with_reducible rfl
    rotate_left
    ·
     simp only [Act.put, List.setIfInBounds_toArray, List.set_cons_zero, List.set_cons_succ, i64_w, i32_w]
     rfl
    refine pure_ (i := 11) (N := some 31) (v := undef) (a' := ?_) (bm 15 4095) rfl rfl (any_of HT_.out (by kernel_rfl)) (fun _ _ _ h => h) (Or.inr ⟨by rfl, rfl⟩) ?_ ?_
    rotate_left
    ·
     simp only [Act.put, List.setIfInBounds_toArray, List.set_cons_zero, List.set_cons_succ, i64_w, i32_w]
     rfl
    refine pure_ (i := 12) (N := some 32) (v := undef) (a' := ?_) (bm 15 8191) rfl rfl (any_of HT_.out (by kernel_rfl)) (fun _ _ _ h => h) (Or.inr ⟨by rfl, rfl⟩) ?_ ?_
    rotate_left
    ·
     simp only [Act.put, List.setIfInBounds_toArray, List.set_cons_zero, List.set_cons_succ, i64_w, i32_w]
     rfl
    refine pure_ (i := 13) (N := some 33) (v := undef) (a' := ?_) (bm 15 16383) rfl rfl (any_of HT_.out (by kernel_rfl)) (fun _ _ _ h => h) (Or.inr ⟨by rfl, rfl⟩) ?_ ?_
    rotate_left
    ·
     simp only [Act.put, List.setIfInBounds_toArray, List.set_cons_zero, List.set_cons_succ, i64_w, i32_w]
     rfl
    refine pure_ (i := 14) (N := some 34) (v := ?_) (a' := ?_) (bm 15 32767) rfl rfl (any_of HT_.out (by kernel_rfl)) (fun _ _ _ h => h) (Or.inl ⟨by rfl, ?_⟩) ?_ ?_
    rotate_left
    ·
     intro w'
     go_simp
     with_reducible rfl
    rotate_left
    ·
     simp only [Act.put, List.setIfInBounds_toArray, List.set_cons_zero, List.set_cons_succ, i64_w, i32_w]
     rfl
    refine done_ (done_of HT_.out (by kernel_rfl)) ?_
    try go_wp2
    go_meet
    case rel => exact ⟨_, (true), (by first | rfl | (simp; done) | (simp [*]; done)), H', ⟨by first | omega | exact Nat.le_refl _⟩, ⟨uq_⟩, ⟨uq_⟩, ⟨uq_⟩, ⟨hB_⟩⟩
   ·
    rw [if_neg c18] at H
    have c18b0 : (!(t597 == t600) || (!(t598 == t601))) = false := by simpa using c18
    clear c18
    (first | rw [c18b0] | (simp only [i64_w, i32_w]; rw [c18b0]) | skip)
    replace H := Option.bind_eq_some_iff.mp H
    obtain ⟨t602, A220, H⟩ := H
    replace H : (if t602 = true then ((spec_SegOk.f t591 t592 t593 t594).bind fun t603 => (laws_FnApartEnds.j0 k (!t603) t587 t588 t589 t590 t591 t592 t593 t594 t597 t598)) else (laws_FnApartEnds.j0 k true t587 t588 t589 t590 t591 t592 t593 t594 t597 t598)) = some r := H
    have A22 := Aside0.mk A220
    clear A220
    by_cases c23 : t602 = true
    ·
     subst c23
     have H1 : ((spec_SegOk.f t591 t592 t593 t594).bind fun t603 => (laws_FnApartEnds.j0 k (!t603) t587 t588 t589 t590 t591 t592 t593 t594 t597 t598)) = some r := by rw [if_pos rfl] at H; exact H
     clear H
     have H := H1
     clear H1
     replace H := Option.bind_eq_some_iff.mp H
     obtain ⟨t603, A240, H⟩ := H
     replace H : (laws_FnApartEnds.j0 k (!t603) t587 t588 t589 t590 t591 t592 t593 t594 t597 t598) = some r := H
     have A24 := Aside0.mk A240
     clear A240
     have H' := Aside0.mk H
     clear H
     try go_wp2
     have n0_ : Aside0 (((w13.setCell ⟨gb599, 0, none⟩ (.int .i64 t597)).setCell ⟨gb599, 1, none⟩ (.int .i64 t598)).heap[gb595]? = some (.cells #[.int .i64 t587, .int .i64 t588, .int .i64 t589, .int .i64 t590] 40 (0, 0))) := ⟨by (with_reducible repeat (first | refine blk_drewN ?_ _ | refine blk_drew ?_ | refine blk_alloc ?_ _)); refine blk_far ?_ NB595_599.out _; (with_reducible repeat (first | refine blk_drewN ?_ _ | refine blk_drew ?_ | refine blk_alloc ?_ _)); refine blk_far ?_ NB595_599.out _; (with_reducible repeat (first | refine blk_drewN ?_ _ | refine blk_drew ?_ | refine blk_alloc ?_ _)); exact BK595.out⟩
     have n1_ : Aside0 (((w13.setCell ⟨gb599, 0, none⟩ (.int .i64 t597)).setCell ⟨gb599, 1, none⟩ (.int .i64 t598)).heap[gb596]? = some (.cells #[.int .i64 t591, .int .i64 t592, .int .i64 t593, .int .i64 t594] 40 (0, 0))) := ⟨by (with_reducible repeat (first | refine blk_drewN ?_ _ | refine blk_drew ?_ | refine blk_alloc ?_ _)); refine blk_far ?_ NB596_599.out _; (with_reducible repeat (first | refine blk_drewN ?_ _ | refine blk_drew ?_ | refine blk_alloc ?_ _)); refine blk_far ?_ NB596_599.out _; (with_reducible repeat (first | refine blk_drewN ?_ _ | refine blk_drew ?_ | refine blk_alloc ?_ _)); exact BK596.out⟩
     have n2_ : Aside0 (((w13.setCell ⟨gb599, 0, none⟩ (.int .i64 t597)).setCell ⟨gb599, 1, none⟩ (.int .i64 t598)).heap[gb599]? = some (.cells #[.int .i64 t597, .int .i64 t598] 25 (0, 0))) := ⟨by (with_reducible repeat (first | refine blk_drewN ?_ _ | refine blk_drew ?_ | refine blk_alloc ?_ _)); refine blk_put (cs := #[.int .i64 t597, .int .i64 0]) ?_ 1 _ rfl; (with_reducible repeat (first | refine blk_drewN ?_ _ | refine blk_drew ?_ | refine blk_alloc ?_ _)); refine blk_put (cs := #[.int .i64 0, .int .i64 0]) ?_ 0 _ rfl; (with_reducible repeat (first | refine blk_drewN ?_ _ | refine blk_drew ?_ | refine blk_alloc ?_ _)); exact BK599.out⟩
     have n3_ : Aside0 (Below w.heap.size w ((w13.setCell ⟨gb599, 0, none⟩ (.int .i64 t597)).setCell ⟨gb599, 1, none⟩ (.int .i64 t598))) := ⟨hB_⟩
     (try clear BK595)
     (try clear BK596)
     (try clear BK599)
     (try clear HB)
     generalize ((w13.setCell ⟨gb599, 0, none⟩ (.int .i64 t597)).setCell ⟨gb599, 1, none⟩ (.int .i64 t598)) = w25 at n0_ n1_ n2_ n3_ ⊢
     have BK595 := n0_
     have BK596 := n1_
     have BK599 := n2_
     have HB := n3_
     clear n0_ n1_ n2_ n3_
     have n0_ := Aside0.mk (blk_drew BK595.out)
     have n1_ := Aside0.mk (blk_drew BK596.out)
     have n2_ := Aside0.mk (blk_drew BK599.out)
     have n3_ := Aside0.mk (below_drew1 HB.out)
     clear BK595 BK596 BK599 HB
     have BK595 := n0_
     have BK596 := n1_
     have BK599 := n2_
     have HB := n3_
     clear n0_ n1_ n2_ n3_
     refine start_ (n := 15) (S := fun w' => w'.cell? ⟨gb599, 0, none⟩ = some (.int .i64 t597) ∧ w'.cell? ⟨gb599, 1, none⟩ = some (.int .i64 t598) ∧ w'.cell? ⟨gb595, 0, none⟩ = some (.int .i64 t587) ∧ w'.cell? ⟨gb595, 1, none⟩ = some (.int .i64 t588) ∧ w'.cell? ⟨gb595, 2, none⟩ = some (.int .i64 t589) ∧ w'.cell? ⟨gb595, 3, none⟩ = some (.int .i64 t590) ∧ w'.cell? ⟨gb596, 0, none⟩ = some (.int .i64 t591) ∧ w'.cell? ⟨gb596, 1, none⟩ = some (.int .i64 t592) ∧ w'.cell? ⟨gb596, 2, none⟩ = some (.int .i64 t593) ∧ w'.cell? ⟨gb596, 3, none⟩ = some (.int .i64 t594)) (ds := []) #[false, false, false, false, false, false, false, false, false, false, false, false, false, false, false] (by kernel_rfl) rfl rfl ⟨bc_, bc_, bc_, bc_, bc_, bc_, bc_, bc_, bc_, bc_⟩ (fun hHeld => ?_); refine with_tabW laws_FnApartEnds.tab5 laws_FnApartEnds.bits5 (fun HT_ HW_ => ?_)
     generalize w25.drew = w26 at BK595 BK596 BK599 HB hHeld ⊢
     refine take_ (i := 0) (N := some 20) (v := ?_) (a' := ?_) (bm 15 1) rfl rfl (take_ofW HT_.out HW_.out (by kernel_rfl)) (fun _ _ _ h => h) (Or.inl ⟨by rfl, ?_⟩) hHeld ?_ ?_
     rotate_left
     ·
      rintro w' ⟨s0, s1, s2, s3, s4, s5, s6, s7, s8, s9⟩
      go_simp
      with_reducible rfl
     rotate_left
     ·
      simp only [Act.put, List.setIfInBounds_toArray, List.set_cons_zero, List.set_cons_succ, i64_w, i32_w]
      rfl
     refine take_ (i := 1) (N := some 21) (v := ?_) (a' := ?_) (bm 15 3) rfl rfl (take_ofW HT_.out HW_.out (by kernel_rfl)) (fun _ _ _ h => h) (Or.inl ⟨by rfl, ?_⟩) hHeld ?_ ?_
     rotate_left
     ·
      rintro w' ⟨s0, s1, s2, s3, s4, s5, s6, s7, s8, s9⟩
      go_simp
      with_reducible rfl
     rotate_left
     ·
      simp only [Act.put, List.setIfInBounds_toArray, List.set_cons_zero, List.set_cons_succ, i64_w, i32_w]
      rfl
     refine take_ (i := 2) (N := some 22) (v := ?_) (a' := ?_) (bm 15 7) rfl rfl (take_ofW HT_.out HW_.out (by kernel_rfl)) (fun _ _ _ h => h) (Or.inl ⟨by rfl, ?_⟩) hHeld ?_ ?_
     rotate_left
     ·
      rintro w' ⟨s0, s1, s2, s3, s4, s5, s6, s7, s8, s9⟩
      go_simp
      with_reducible rfl
     rotate_left
     ·
      simp only [Act.put, List.setIfInBounds_toArray, List.set_cons_zero, List.set_cons_succ, i64_w, i32_w]
      rfl
     refine one_ (i := 3) (N := some 23) (bm 15 15) rfl rfl (one_of HT_.out (by kernel_rfl)) (by decide) (fun K hK => ?_)
     refine goes_ Tryd.func31 (by kernel_rfl) rfl #[.agg #[.int .i64 t587, .int .i64 t588, .int .i64 t589, .int .i64 t590], .agg #[.int .i64 t591, .int .i64 t592, .int .i64 t593, .int .i64 t594]] (by rfl) rfl rfl ma_ ?_
     with_reducible refine (spec_SegApart.calls k t587 t588 t589 t590 t591 t592 t593 t594 t600 t601 _ A17.out).mono ?_
     rintro e w27 ⟨rfl, hb⟩
     refine ⟨_, rfl, ?_⟩
     have n0_ := Aside0.mk (ub_ (g := gb595) hb)
     have n1_ := Aside0.mk (ub_ (g := gb596) hb)
     have n2_ := Aside0.mk (ub_ (g := gb599) hb)
     have n3_ := Aside0.mk (below_step hB_ hb)
     clear BK595 BK596 BK599 HB
     have BK595 := n0_
     have BK596 := n1_
     have BK599 := n2_
     have HB := n3_
     clear n0_ n1_ n2_ n3_
     (try clear hb)
     (try clear hb2)
     (try clear hk)
     (try clear hi)
     refine hK.out _ _ ⟨bc_, bc_, bc_, bc_, bc_, bc_, bc_, bc_, bc_, bc_⟩ (fun hHeld => ?_)
     clear hK K
     refine norm_ (a' := ?_) ?_ ?_
     rotate_left
     ·
      show Act.put _ (some 23) _ = _
      simp only [Act.put, List.setIfInBounds_toArray, List.set_cons_zero, List.set_cons_succ, i64_w, i32_w]
      rfl
     refine pure_ (i := 4) (N := some 24) (v := ?_) (a' := ?_) (bm 15 31) rfl rfl (any_of HT_.out (by kernel_rfl)) (fun _ _ _ h => h) (Or.inl ⟨by rfl, ?_⟩) ?_ ?_
     rotate_left
     ·
      intro w'
      go_simp
      with_reducible rfl
     rotate_left
     ·
      simp only [Act.put, List.setIfInBounds_toArray, List.set_cons_zero, List.set_cons_succ, i64_w, i32_w]
      rfl
     refine pure_ (i := 5) (N := some 25) (v := ?_) (a' := ?_) (bm 15 63) rfl rfl (any_of HT_.out (by kernel_rfl)) (fun _ _ _ h => h) (Or.inl ⟨by rfl, ?_⟩) ?_ ?_
     rotate_left
     ·
      intro w'
      go_simp
      with_reducible rfl
     rotate_left
     ·
      simp only [Act.put, List.setIfInBounds_toArray, List.set_cons_zero, List.set_cons_succ, i64_w, i32_w]
      rfl
     refine take_ (i := 6) (N := some 26) (v := ?_) (a' := ?_) (bm 15 127) rfl rfl (take_ofW HT_.out HW_.out (by kernel_rfl)) (fun _ _ _ h => h) (Or.inl ⟨by rfl, ?_⟩) hHeld ?_ ?_
     rotate_left
     ·
      rintro w' ⟨s0, s1, s2, s3, s4, s5, s6, s7, s8, s9⟩
      go_simp
      with_reducible rfl
     rotate_left
     ·
      simp only [Act.put, List.setIfInBounds_toArray, List.set_cons_zero, List.set_cons_succ, i64_w, i32_w]
      rfl
     refine one_ (i := 7) (N := some 27) (bm 15 255) rfl rfl (one_of HT_.out (by kernel_rfl)) (by decide) (fun K hK => ?_)
     refine goes_ Tryd.func26 (by kernel_rfl) rfl #[.agg #[.int .i64 t587, .int .i64 t588, .int .i64 t589, .int .i64 t590]] (by rfl) rfl rfl ma_ ?_
     with_reducible refine (spec_SegOk.calls t587 t588 t589 t590 true _ A22.out).mono ?_
     rintro e w28 ⟨rfl, hb⟩
     refine ⟨_, rfl, ?_⟩
     have n0_ := Aside0.mk (ub_ (g := gb595) hb)
     have n1_ := Aside0.mk (ub_ (g := gb596) hb)
     have n2_ := Aside0.mk (ub_ (g := gb599) hb)
     have n3_ := Aside0.mk (below_step hB_ hb)
     clear BK595 BK596 BK599 HB
     have BK595 := n0_
     have BK596 := n1_
     have BK599 := n2_
     have HB := n3_
     clear n0_ n1_ n2_ n3_
     (try clear hb)
     (try clear hb2)
     (try clear hk)
     (try clear hi)
     refine hK.out _ _ ⟨bc_, bc_, bc_, bc_, bc_, bc_, bc_, bc_, bc_, bc_⟩ (fun hHeld => ?_)
     clear hK K
     refine norm_ (a' := ?_) ?_ ?_
     rotate_left
     ·
      show Act.put _ (some 27) _ = _
      simp only [Act.put, List.setIfInBounds_toArray, List.set_cons_zero, List.set_cons_succ, i64_w, i32_w]
      rfl
     refine pure_ (i := 8) (N := some 28) (v := ?_) (a' := ?_) (bm 15 511) rfl rfl (any_of HT_.out (by kernel_rfl)) (fun _ _ _ h => h) (Or.inl ⟨by rfl, ?_⟩) ?_ ?_
     rotate_left
     ·
      intro w'
      go_simp
      with_reducible rfl
     rotate_left
     ·
      simp only [Act.put, List.setIfInBounds_toArray, List.set_cons_zero, List.set_cons_succ, i64_w, i32_w]
      rfl
     refine pure_ (i := 9) (N := some 29) (v := ?_) (a' := ?_) (bm 15 1023) rfl rfl (any_of HT_.out (by kernel_rfl)) (fun _ _ _ h => h) (Or.inl ⟨by rfl, ?_⟩) ?_ ?_
     rotate_left
     ·
      intro w'
      go_simp
      with_reducible rfl
     rotate_left
     ·
      simp only [Act.put, List.setIfInBounds_toArray, List.set_cons_zero, List.set_cons_succ, i64_w, i32_w]
      rfl
     refine pure_ (i := 10) (N := some 30) (v := ?_) (a' := ?_) (bm 15 2047) rfl rfl (any_of HT_.out (by kernel_rfl)) (fun _ _ _ h => h) (Or.inl ⟨by rfl, ?_⟩) ?_ ?_
     rotate_left
     ·
      intro w'
      go_simp
      with_reducible rfl
     rotate_left
     ·
      simp only [Act.put, List.setIfInBounds_toArray, List.set_cons_zero, List.set_cons_succ, i64_w, i32_w]
      rfl
     refine take_ (i := 11) (N := some 31) (v := ?_) (a' := ?_) (bm 15 4095) rfl rfl (take_ofW HT_.out HW_.out (by kernel_rfl)) (fun _ _ _ h => h) (Or.inl ⟨by rfl, ?_⟩) hHeld ?_ ?_
     rotate_left
     ·
      rintro w' ⟨s0, s1, s2, s3, s4, s5, s6, s7, s8, s9⟩
      go_simp
      with_reducible rfl
     rotate_left
     ·
      simp only [Act.put, List.setIfInBounds_toArray, List.set_cons_zero, List.set_cons_succ, i64_w, i32_w]
      rfl
     refine one_ (i := 12) (N := some 32) (bm 15 8191) rfl rfl (one_of HT_.out (by kernel_rfl)) (by decide) (fun K hK => ?_)
     refine goes_ Tryd.func26 (by kernel_rfl) rfl #[.agg #[.int .i64 t591, .int .i64 t592, .int .i64 t593, .int .i64 t594]] (by rfl) rfl rfl ma_ ?_
     with_reducible refine (spec_SegOk.calls t591 t592 t593 t594 t603 _ A24.out).mono ?_
     rintro e w29 ⟨rfl, hb⟩
     refine ⟨_, rfl, ?_⟩
     have n0_ := Aside0.mk (ub_ (g := gb595) hb)
     have n1_ := Aside0.mk (ub_ (g := gb596) hb)
     have n2_ := Aside0.mk (ub_ (g := gb599) hb)
     have n3_ := Aside0.mk (below_step hB_ hb)
     clear BK595 BK596 BK599 HB
     have BK595 := n0_
     have BK596 := n1_
     have BK599 := n2_
     have HB := n3_
     clear n0_ n1_ n2_ n3_
     (try clear hb)
     (try clear hb2)
     (try clear hk)
     (try clear hi)
     refine hK.out _ _ ⟨bc_, bc_, bc_, bc_, bc_, bc_, bc_, bc_, bc_, bc_⟩ (fun hHeld => ?_)
     clear hK K
     refine norm_ (a' := ?_) ?_ ?_
     rotate_left
     ·
      show Act.put _ (some 32) _ = _
      simp only [Act.put, List.setIfInBounds_toArray, List.set_cons_zero, List.set_cons_succ, i64_w, i32_w]
      rfl
     refine pure_ (i := 13) (N := some 33) (v := ?_) (a' := ?_) (bm 15 16383) rfl rfl (any_of HT_.out (by kernel_rfl)) (fun _ _ _ h => h) (Or.inl ⟨by rfl, ?_⟩) ?_ ?_
     rotate_left
     ·
      intro w'
      go_simp
      with_reducible rfl
     rotate_left
     ·
      simp only [Act.put, List.setIfInBounds_toArray, List.set_cons_zero, List.set_cons_succ, i64_w, i32_w]
      rfl
     refine pure_ (i := 14) (N := some 34) (v := ?_) (a' := ?_) (bm 15 32767) rfl rfl (any_of HT_.out (by kernel_rfl)) (fun _ _ _ h => h) (Or.inl ⟨by rfl, ?_⟩) ?_ ?_
     rotate_left
     ·
      intro w'
      go_simp
      with_reducible rfl
     rotate_left
     ·
      simp only [Act.put, List.setIfInBounds_toArray, List.set_cons_zero, List.set_cons_succ, i64_w, i32_w]
      rfl
     refine done_ (done_of HT_.out (by kernel_rfl)) ?_
     try go_wp2
     go_meet
     case rel => exact ⟨_, (!t603), (by first | rfl | (simp; done) | (simp [*]; done)), H', ⟨by first | omega | exact Nat.le_refl _⟩, ⟨uq_⟩, ⟨uq_⟩, ⟨uq_⟩, ⟨hB_⟩⟩
    ·
     replace c23 := Bool.eq_false_iff.mpr c23
     subst c23
     have H1 : (laws_FnApartEnds.j0 k true t587 t588 t589 t590 t591 t592 t593 t594 t597 t598) = some r := by rw [if_neg (show ¬ (false = true) by decide)] at H; exact H
     clear H
     have H := H1
     clear H1
     have H' := Aside0.mk H
     clear H
     try go_wp2
     have n0_ : Aside0 (((w13.setCell ⟨gb599, 0, none⟩ (.int .i64 t597)).setCell ⟨gb599, 1, none⟩ (.int .i64 t598)).heap[gb595]? = some (.cells #[.int .i64 t587, .int .i64 t588, .int .i64 t589, .int .i64 t590] 40 (0, 0))) := ⟨by (with_reducible repeat (first | refine blk_drewN ?_ _ | refine blk_drew ?_ | refine blk_alloc ?_ _)); refine blk_far ?_ NB595_599.out _; (with_reducible repeat (first | refine blk_drewN ?_ _ | refine blk_drew ?_ | refine blk_alloc ?_ _)); refine blk_far ?_ NB595_599.out _; (with_reducible repeat (first | refine blk_drewN ?_ _ | refine blk_drew ?_ | refine blk_alloc ?_ _)); exact BK595.out⟩
     have n1_ : Aside0 (((w13.setCell ⟨gb599, 0, none⟩ (.int .i64 t597)).setCell ⟨gb599, 1, none⟩ (.int .i64 t598)).heap[gb596]? = some (.cells #[.int .i64 t591, .int .i64 t592, .int .i64 t593, .int .i64 t594] 40 (0, 0))) := ⟨by (with_reducible repeat (first | refine blk_drewN ?_ _ | refine blk_drew ?_ | refine blk_alloc ?_ _)); refine blk_far ?_ NB596_599.out _; (with_reducible repeat (first | refine blk_drewN ?_ _ | refine blk_drew ?_ | refine blk_alloc ?_ _)); refine blk_far ?_ NB596_599.out _; (with_reducible repeat (first | refine blk_drewN ?_ _ | refine blk_drew ?_ | refine blk_alloc ?_ _)); exact BK596.out⟩
     have n2_ : Aside0 (((w13.setCell ⟨gb599, 0, none⟩ (.int .i64 t597)).setCell ⟨gb599, 1, none⟩ (.int .i64 t598)).heap[gb599]? = some (.cells #[.int .i64 t597, .int .i64 t598] 25 (0, 0))) := ⟨by (with_reducible repeat (first | refine blk_drewN ?_ _ | refine blk_drew ?_ | refine blk_alloc ?_ _)); refine blk_put (cs := #[.int .i64 t597, .int .i64 0]) ?_ 1 _ rfl; (with_reducible repeat (first | refine blk_drewN ?_ _ | refine blk_drew ?_ | refine blk_alloc ?_ _)); refine blk_put (cs := #[.int .i64 0, .int .i64 0]) ?_ 0 _ rfl; (with_reducible repeat (first | refine blk_drewN ?_ _ | refine blk_drew ?_ | refine blk_alloc ?_ _)); exact BK599.out⟩
     have n3_ : Aside0 (Below w.heap.size w ((w13.setCell ⟨gb599, 0, none⟩ (.int .i64 t597)).setCell ⟨gb599, 1, none⟩ (.int .i64 t598))) := ⟨hB_⟩
     (try clear BK595)
     (try clear BK596)
     (try clear BK599)
     (try clear HB)
     generalize ((w13.setCell ⟨gb599, 0, none⟩ (.int .i64 t597)).setCell ⟨gb599, 1, none⟩ (.int .i64 t598)) = w30 at n0_ n1_ n2_ n3_ ⊢
     have BK595 := n0_
     have BK596 := n1_
     have BK599 := n2_
     have HB := n3_
     clear n0_ n1_ n2_ n3_
     have n0_ := Aside0.mk (blk_drew BK595.out)
     have n1_ := Aside0.mk (blk_drew BK596.out)
     have n2_ := Aside0.mk (blk_drew BK599.out)
     have n3_ := Aside0.mk (below_drew1 HB.out)
     clear BK595 BK596 BK599 HB
     have BK595 := n0_
     have BK596 := n1_
     have BK599 := n2_
     have HB := n3_
     clear n0_ n1_ n2_ n3_
     refine start_ (n := 15) (S := fun w' => w'.cell? ⟨gb599, 0, none⟩ = some (.int .i64 t597) ∧ w'.cell? ⟨gb599, 1, none⟩ = some (.int .i64 t598) ∧ w'.cell? ⟨gb595, 0, none⟩ = some (.int .i64 t587) ∧ w'.cell? ⟨gb595, 1, none⟩ = some (.int .i64 t588) ∧ w'.cell? ⟨gb595, 2, none⟩ = some (.int .i64 t589) ∧ w'.cell? ⟨gb595, 3, none⟩ = some (.int .i64 t590) ∧ w'.cell? ⟨gb596, 0, none⟩ = some (.int .i64 t591) ∧ w'.cell? ⟨gb596, 1, none⟩ = some (.int .i64 t592) ∧ w'.cell? ⟨gb596, 2, none⟩ = some (.int .i64 t593) ∧ w'.cell? ⟨gb596, 3, none⟩ = some (.int .i64 t594)) (ds := []) #[false, false, false, false, false, false, false, false, false, false, false, false, false, false, false] (by kernel_rfl) rfl rfl ⟨bc_, bc_, bc_, bc_, bc_, bc_, bc_, bc_, bc_, bc_⟩ (fun hHeld => ?_); refine with_tabW laws_FnApartEnds.tab5 laws_FnApartEnds.bits5 (fun HT_ HW_ => ?_)
     generalize w30.drew = w31 at BK595 BK596 BK599 HB hHeld ⊢
     refine take_ (i := 0) (N := some 20) (v := ?_) (a' := ?_) (bm 15 1) rfl rfl (take_ofW HT_.out HW_.out (by kernel_rfl)) (fun _ _ _ h => h) (Or.inl ⟨by rfl, ?_⟩) hHeld ?_ ?_
     rotate_left
     ·
      rintro w' ⟨s0, s1, s2, s3, s4, s5, s6, s7, s8, s9⟩
      go_simp
      with_reducible rfl
     rotate_left
     ·
      simp only [Act.put, List.setIfInBounds_toArray, List.set_cons_zero, List.set_cons_succ, i64_w, i32_w]
      rfl
     refine take_ (i := 1) (N := some 21) (v := ?_) (a' := ?_) (bm 15 3) rfl rfl (take_ofW HT_.out HW_.out (by kernel_rfl)) (fun _ _ _ h => h) (Or.inl ⟨by rfl, ?_⟩) hHeld ?_ ?_
     rotate_left
     ·
      rintro w' ⟨s0, s1, s2, s3, s4, s5, s6, s7, s8, s9⟩
      go_simp
      with_reducible rfl
     rotate_left
     ·
      simp only [Act.put, List.setIfInBounds_toArray, List.set_cons_zero, List.set_cons_succ, i64_w, i32_w]
      rfl
     refine take_ (i := 2) (N := some 22) (v := ?_) (a' := ?_) (bm 15 7) rfl rfl (take_ofW HT_.out HW_.out (by kernel_rfl)) (fun _ _ _ h => h) (Or.inl ⟨by rfl, ?_⟩) hHeld ?_ ?_
     rotate_left
     ·
      rintro w' ⟨s0, s1, s2, s3, s4, s5, s6, s7, s8, s9⟩
      go_simp
      with_reducible rfl
     rotate_left
     ·
      simp only [Act.put, List.setIfInBounds_toArray, List.set_cons_zero, List.set_cons_succ, i64_w, i32_w]
      rfl
     refine one_ (i := 3) (N := some 23) (bm 15 15) rfl rfl (one_of HT_.out (by kernel_rfl)) (by decide) (fun K hK => ?_)
     refine goes_ Tryd.func31 (by kernel_rfl) rfl #[.agg #[.int .i64 t587, .int .i64 t588, .int .i64 t589, .int .i64 t590], .agg #[.int .i64 t591, .int .i64 t592, .int .i64 t593, .int .i64 t594]] (by rfl) rfl rfl ma_ ?_
     with_reducible refine (spec_SegApart.calls k t587 t588 t589 t590 t591 t592 t593 t594 t600 t601 _ A17.out).mono ?_
     rintro e w32 ⟨rfl, hb⟩
     refine ⟨_, rfl, ?_⟩
     have n0_ := Aside0.mk (ub_ (g := gb595) hb)
     have n1_ := Aside0.mk (ub_ (g := gb596) hb)
     have n2_ := Aside0.mk (ub_ (g := gb599) hb)
     have n3_ := Aside0.mk (below_step hB_ hb)
     clear BK595 BK596 BK599 HB
     have BK595 := n0_
     have BK596 := n1_
     have BK599 := n2_
     have HB := n3_
     clear n0_ n1_ n2_ n3_
     (try clear hb)
     (try clear hb2)
     (try clear hk)
     (try clear hi)
     refine hK.out _ _ ⟨bc_, bc_, bc_, bc_, bc_, bc_, bc_, bc_, bc_, bc_⟩ (fun hHeld => ?_)
     clear hK K
     refine norm_ (a' := ?_) ?_ ?_
     rotate_left
     ·
      show Act.put _ (some 23) _ = _
      simp only [Act.put, List.setIfInBounds_toArray, List.set_cons_zero, List.set_cons_succ, i64_w, i32_w]
      rfl
     refine pure_ (i := 4) (N := some 24) (v := ?_) (a' := ?_) (bm 15 31) rfl rfl (any_of HT_.out (by kernel_rfl)) (fun _ _ _ h => h) (Or.inl ⟨by rfl, ?_⟩) ?_ ?_
     rotate_left
     ·
      intro w'
      go_simp
      with_reducible rfl
     rotate_left
     ·
      simp only [Act.put, List.setIfInBounds_toArray, List.set_cons_zero, List.set_cons_succ, i64_w, i32_w]
      rfl
     refine pure_ (i := 5) (N := some 25) (v := ?_) (a' := ?_) (bm 15 63) rfl rfl (any_of HT_.out (by kernel_rfl)) (fun _ _ _ h => h) (Or.inl ⟨by rfl, ?_⟩) ?_ ?_
     rotate_left
     ·
      intro w'
      go_simp
      with_reducible rfl
     rotate_left
     ·
      simp only [Act.put, List.setIfInBounds_toArray, List.set_cons_zero, List.set_cons_succ, i64_w, i32_w]
      rfl
     refine take_ (i := 6) (N := some 26) (v := ?_) (a' := ?_) (bm 15 127) rfl rfl (take_ofW HT_.out HW_.out (by kernel_rfl)) (fun _ _ _ h => h) (Or.inl ⟨by rfl, ?_⟩) hHeld ?_ ?_
     rotate_left
     ·
      rintro w' ⟨s0, s1, s2, s3, s4, s5, s6, s7, s8, s9⟩
      go_simp
      with_reducible rfl
     rotate_left
     ·
      simp only [Act.put, List.setIfInBounds_toArray, List.set_cons_zero, List.set_cons_succ, i64_w, i32_w]
      rfl
     refine one_ (i := 7) (N := some 27) (bm 15 255) rfl rfl (one_of HT_.out (by kernel_rfl)) (by decide) (fun K hK => ?_)
     refine goes_ Tryd.func26 (by kernel_rfl) rfl #[.agg #[.int .i64 t587, .int .i64 t588, .int .i64 t589, .int .i64 t590]] (by rfl) rfl rfl ma_ ?_
     with_reducible refine (spec_SegOk.calls t587 t588 t589 t590 false _ A22.out).mono ?_
     rintro e w33 ⟨rfl, hb⟩
     refine ⟨_, rfl, ?_⟩
     have n0_ := Aside0.mk (ub_ (g := gb595) hb)
     have n1_ := Aside0.mk (ub_ (g := gb596) hb)
     have n2_ := Aside0.mk (ub_ (g := gb599) hb)
     have n3_ := Aside0.mk (below_step hB_ hb)
     clear BK595 BK596 BK599 HB
     have BK595 := n0_
     have BK596 := n1_
     have BK599 := n2_
     have HB := n3_
     clear n0_ n1_ n2_ n3_
     (try clear hb)
     (try clear hb2)
     (try clear hk)
     (try clear hi)
     refine hK.out _ _ ⟨bc_, bc_, bc_, bc_, bc_, bc_, bc_, bc_, bc_, bc_⟩ (fun hHeld => ?_)
     clear hK K
     refine norm_ (a' := ?_) ?_ ?_
     rotate_left
     ·
      show Act.put _ (some 27) _ = _
      simp only [Act.put, List.setIfInBounds_toArray, List.set_cons_zero, List.set_cons_succ, i64_w, i32_w]
      rfl
     refine pure_ (i := 8) (N := some 28) (v := ?_) (a' := ?_) (bm 15 511) rfl rfl (any_of HT_.out (by kernel_rfl)) (fun _ _ _ h => h) (Or.inl ⟨by rfl, ?_⟩) ?_ ?_
     rotate_left
     ·
      intro w'
      go_simp
      with_reducible rfl
     rotate_left
     ·
      simp only [Act.put, List.setIfInBounds_toArray, List.set_cons_zero, List.set_cons_succ, i64_w, i32_w]
      rfl
     refine pure_ (i := 9) (N := some 29) (v := ?_) (a' := ?_) (bm 15 1023) rfl rfl (any_of HT_.out (by kernel_rfl)) (fun _ _ _ h => h) (Or.inl ⟨by rfl, ?_⟩) ?_ ?_
     rotate_left
     ·
      intro w'
      go_simp
      with_reducible rfl
     rotate_left
     ·
      simp only [Act.put, List.setIfInBounds_toArray, List.set_cons_zero, List.set_cons_succ, i64_w, i32_w]
      rfl
     refine pure_ (i := 10) (N := some 30) (v := ?_) (a' := ?_) (bm 15 2047) rfl rfl (any_of HT_.out (by kernel_rfl)) (fun _ _ _ h => h) (Or.inl ⟨by rfl, ?_⟩) ?_ ?_
     rotate_left
     ·
      intro w'
      go_simp
      with_reducible rfl
     rotate_left
     ·
      simp only [Act.put, List.setIfInBounds_toArray, List.set_cons_zero, List.set_cons_succ, i64_w, i32_w]
      rfl
     refine pure_ (i := 11) (N := some 31) (v := undef) (a' := ?_) (bm 15 4095) rfl rfl (any_of HT_.out (by kernel_rfl)) (fun _ _ _ h => h) (Or.inr ⟨by rfl, rfl⟩) ?_ ?_
     rotate_left
     ·
      simp only [Act.put, List.setIfInBounds_toArray, List.set_cons_zero, List.set_cons_succ, i64_w, i32_w]
      rfl
     refine pure_ (i := 12) (N := some 32) (v := undef) (a' := ?_) (bm 15 8191) rfl rfl (any_of HT_.out (by kernel_rfl)) (fun _ _ _ h => h) (Or.inr ⟨by rfl, rfl⟩) ?_ ?_
     rotate_left
     ·
      simp only [Act.put, List.setIfInBounds_toArray, List.set_cons_zero, List.set_cons_succ, i64_w, i32_w]
      rfl
     refine pure_ (i := 13) (N := some 33) (v := undef) (a' := ?_) (bm 15 16383) rfl rfl (any_of HT_.out (by kernel_rfl)) (fun _ _ _ h => h) (Or.inr ⟨by rfl, rfl⟩) ?_ ?_
     rotate_left
     ·
      simp only [Act.put, List.setIfInBounds_toArray, List.set_cons_zero, List.set_cons_succ, i64_w, i32_w]
      rfl
     refine pure_ (i := 14) (N := some 34) (v := ?_) (a' := ?_) (bm 15 32767) rfl rfl (any_of HT_.out (by kernel_rfl)) (fun _ _ _ h => h) (Or.inl ⟨by rfl, ?_⟩) ?_ ?_
     rotate_left
     ·
      intro w'
      go_simp
      with_reducible rfl
     rotate_left
     ·
      simp only [Act.put, List.setIfInBounds_toArray, List.set_cons_zero, List.set_cons_succ, i64_w, i32_w]
      rfl
     refine done_ (done_of HT_.out (by kernel_rfl)) ?_
     try go_wp2
     go_meet
     case rel => exact ⟨_, (true), (by first | rfl | (simp; done) | (simp [*]; done)), H', ⟨by first | omega | exact Nat.le_refl _⟩, ⟨uq_⟩, ⟨uq_⟩, ⟨uq_⟩, ⟨hB_⟩⟩
  case rest =>
   clear HC5
   try clear c1
   try clear c2
   try clear p2
   try clear c3
   try clear c18
   try clear c18b0
   try clear c23
   try clear c26
   try clear c31
   obtain ⟨kq, x34_4, rfl, HA, HJ4, BK595, BK596, BK599, HB⟩ := hcut
   cases kq with
   | zero => exact absurd HA.out (by simp [laws_FnApartEnds.j0])
   | succ kj4 =>
    have H := HA.out
    clear HA
    simp only [laws_FnApartEnds.j0] at H
    by_cases c34 : x34_4 = true
    ·
     subst c34
     have H1 : ((spec_SegApart.f kj4 t587 t588 t589 t590 t591 t592 t593 t594).bind fun bt604 => (some (t597 == bt604.1 && (t598 == bt604.2)))) = some r := by rw [if_pos rfl] at H; exact H
     clear H
     have H := H1
     clear H1
     replace H := Option.bind_eq_some_iff.mp H
     obtain ⟨⟨t604, t605⟩, A350, H⟩ := H
     replace H : (some (t597 == t604 && (t598 == t605))) = some r := H
     have A35 := Aside0.mk A350
     clear A350
     obtain rfl := Option.some.inj H
     try go_wp2
     have n0_ := Aside0.mk (blk_drew BK595.out)
     have n1_ := Aside0.mk (blk_drew BK596.out)
     have n2_ := Aside0.mk (blk_drew BK599.out)
     have n3_ := Aside0.mk (below_drew1 HB.out)
     clear BK595 BK596 BK599 HB
     have BK595 := n0_
     have BK596 := n1_
     have BK599 := n2_
     have HB := n3_
     clear n0_ n1_ n2_ n3_
     refine start_ (n := 6) (S := fun w' => w'.cell? ⟨gb599, 0, none⟩ = some (.int .i64 t597) ∧ w'.cell? ⟨gb599, 1, none⟩ = some (.int .i64 t598) ∧ w'.cell? ⟨gb595, 0, none⟩ = some (.int .i64 t587) ∧ w'.cell? ⟨gb595, 1, none⟩ = some (.int .i64 t588) ∧ w'.cell? ⟨gb595, 2, none⟩ = some (.int .i64 t589) ∧ w'.cell? ⟨gb595, 3, none⟩ = some (.int .i64 t590) ∧ w'.cell? ⟨gb596, 0, none⟩ = some (.int .i64 t591) ∧ w'.cell? ⟨gb596, 1, none⟩ = some (.int .i64 t592) ∧ w'.cell? ⟨gb596, 2, none⟩ = some (.int .i64 t593) ∧ w'.cell? ⟨gb596, 3, none⟩ = some (.int .i64 t594)) (ds := []) #[false, false, false, false, false, false] (by kernel_rfl) rfl rfl ⟨bc_, bc_, bc_, bc_, bc_, bc_, bc_, bc_, bc_, bc_⟩ (fun hHeld => ?_)
     generalize wc.drew = w36 at BK595 BK596 BK599 HB hHeld ⊢
     refine take_ (i := 0) (N := some 35) (v := ?_) (a' := ?_) (bm 6 1) rfl rfl (by kernel_rfl) (fun _ _ _ h => h) (Or.inl ⟨by rfl, ?_⟩) hHeld ?_ ?_
     rotate_left
     ·
      rintro w' ⟨s0, s1, s2, s3, s4, s5, s6, s7, s8, s9⟩
      go_simp
      with_reducible rfl
     rotate_left
     ·
      simp only [Act.put, List.setIfInBounds_toArray, List.set_cons_zero, List.set_cons_succ, i64_w, i32_w]
      rfl
     refine take_ (i := 1) (N := some 36) (v := ?_) (a' := ?_) (bm 6 3) rfl rfl (by kernel_rfl) (fun _ _ _ h => h) (Or.inl ⟨by rfl, ?_⟩) hHeld ?_ ?_
     rotate_left
     ·
      rintro w' ⟨s0, s1, s2, s3, s4, s5, s6, s7, s8, s9⟩
      go_simp
      with_reducible rfl
     rotate_left
     ·
      simp only [Act.put, List.setIfInBounds_toArray, List.set_cons_zero, List.set_cons_succ, i64_w, i32_w]
      rfl
     refine take_ (i := 2) (N := some 37) (v := ?_) (a' := ?_) (bm 6 7) rfl rfl (by kernel_rfl) (fun _ _ _ h => h) (Or.inl ⟨by rfl, ?_⟩) hHeld ?_ ?_
     rotate_left
     ·
      rintro w' ⟨s0, s1, s2, s3, s4, s5, s6, s7, s8, s9⟩
      go_simp
      with_reducible rfl
     rotate_left
     ·
      simp only [Act.put, List.setIfInBounds_toArray, List.set_cons_zero, List.set_cons_succ, i64_w, i32_w]
      rfl
     refine one_ (i := 3) (N := some 38) (bm 6 15) rfl rfl (by kernel_rfl) (by decide) (fun K hK => ?_)
     refine goes_ Tryd.func31 (by kernel_rfl) rfl #[.agg #[.int .i64 t587, .int .i64 t588, .int .i64 t589, .int .i64 t590], .agg #[.int .i64 t591, .int .i64 t592, .int .i64 t593, .int .i64 t594]] (by rfl) rfl rfl ma_ ?_
     with_reducible refine (spec_SegApart.calls kj4 t587 t588 t589 t590 t591 t592 t593 t594 t604 t605 _ A35.out).mono ?_
     rintro e w37 ⟨rfl, hb⟩
     refine ⟨_, rfl, ?_⟩
     have n0_ := Aside0.mk (ub_ (g := gb595) hb)
     have n1_ := Aside0.mk (ub_ (g := gb596) hb)
     have n2_ := Aside0.mk (ub_ (g := gb599) hb)
     have n3_ := Aside0.mk (below_step hB_ hb)
     clear BK595 BK596 BK599 HB
     have BK595 := n0_
     have BK596 := n1_
     have BK599 := n2_
     have HB := n3_
     clear n0_ n1_ n2_ n3_
     (try clear hb)
     (try clear hb2)
     (try clear hk)
     (try clear hi)
     refine hK.out _ _ ⟨bc_, bc_, bc_, bc_, bc_, bc_, bc_, bc_, bc_, bc_⟩ (fun hHeld => ?_)
     clear hK K
     refine norm_ (a' := ?_) ?_ ?_
     rotate_left
     ·
      show Act.put _ (some 38) _ = _
      simp only [Act.put, List.setIfInBounds_toArray, List.set_cons_zero, List.set_cons_succ, i64_w, i32_w]
      rfl
     refine pure_ (i := 4) (N := some 39) (v := ?_) (a' := ?_) (bm 6 31) rfl rfl (by kernel_rfl) (fun _ _ _ h => h) (Or.inl ⟨by rfl, ?_⟩) ?_ ?_
     rotate_left
     ·
      intro w'
      go_simp
      with_reducible rfl
     rotate_left
     ·
      simp only [Act.put, List.setIfInBounds_toArray, List.set_cons_zero, List.set_cons_succ, i64_w, i32_w]
      rfl
     refine pure_ (i := 5) (N := some 2) (v := ?_) (a' := ?_) (bm 6 63) rfl rfl (by kernel_rfl) (fun _ _ _ h => h) (Or.inl ⟨by rfl, ?_⟩) ?_ ?_
     rotate_left
     ·
      intro w'
      go_simp
      with_reducible rfl
     rotate_left
     ·
      simp only [Act.put, List.setIfInBounds_toArray, List.set_cons_zero, List.set_cons_succ, i64_w, i32_w]
      rfl
     refine done_ (by kernel_rfl) ?_
     try go_wp2
     go_ret
     exact ⟨by first | rfl | (simp [errW_none, errW_some] <;> rfl) | (simp [*, errW_none, errW_some] <;> rfl), hB_⟩
    ·
     replace c34 := Bool.eq_false_iff.mpr c34
     subst c34
     have H1 : ((impl_SegFar.f t587 t588 t589 t590 t591 t592).bind fun bt606 => ((impl_SegFar.f t587 t588 t589 t590 t593 t594).bind fun bt608 => ((impl_SegFar.f t591 t592 t593 t594 t587 t588).bind fun bt610 => ((impl_SegFar.f t591 t592 t593 t594 t589 t590).bind fun bt612 => (laws_FnApartEnds.l0 kj4 (([(⟨bt606.1, bt606.2⟩ : S25), (⟨bt608.1, bt608.2⟩ : S25), (⟨bt610.1, bt610.2⟩ : S25), (⟨bt612.1, bt612.2⟩ : S25)] : List (S25))) false 0 t587 t588 t589 t590 t591 t592 t593 t594 t597 t598))))) = some r := by rw [if_neg (show ¬ (false = true) by decide)] at H; exact H
     clear H
     have H := H1
     clear H1
     replace H := Option.bind_eq_some_iff.mp H
     obtain ⟨⟨t606, t607⟩, A380, H⟩ := H
     replace H : ((impl_SegFar.f t587 t588 t589 t590 t593 t594).bind fun bt608 => ((impl_SegFar.f t591 t592 t593 t594 t587 t588).bind fun bt610 => ((impl_SegFar.f t591 t592 t593 t594 t589 t590).bind fun bt612 => (laws_FnApartEnds.l0 kj4 (([(⟨t606, t607⟩ : S25), (⟨bt608.1, bt608.2⟩ : S25), (⟨bt610.1, bt610.2⟩ : S25), (⟨bt612.1, bt612.2⟩ : S25)] : List (S25))) false 0 t587 t588 t589 t590 t591 t592 t593 t594 t597 t598)))) = some r := H
     have A38 := Aside0.mk A380
     clear A380
     replace H := Option.bind_eq_some_iff.mp H
     obtain ⟨⟨t608, t609⟩, A390, H⟩ := H
     replace H : ((impl_SegFar.f t591 t592 t593 t594 t587 t588).bind fun bt610 => ((impl_SegFar.f t591 t592 t593 t594 t589 t590).bind fun bt612 => (laws_FnApartEnds.l0 kj4 (([(⟨t606, t607⟩ : S25), (⟨t608, t609⟩ : S25), (⟨bt610.1, bt610.2⟩ : S25), (⟨bt612.1, bt612.2⟩ : S25)] : List (S25))) false 0 t587 t588 t589 t590 t591 t592 t593 t594 t597 t598))) = some r := H
     have A39 := Aside0.mk A390
     clear A390
     replace H := Option.bind_eq_some_iff.mp H
     obtain ⟨⟨t610, t611⟩, A400, H⟩ := H
     replace H : ((impl_SegFar.f t591 t592 t593 t594 t589 t590).bind fun bt612 => (laws_FnApartEnds.l0 kj4 (([(⟨t606, t607⟩ : S25), (⟨t608, t609⟩ : S25), (⟨t610, t611⟩ : S25), (⟨bt612.1, bt612.2⟩ : S25)] : List (S25))) false 0 t587 t588 t589 t590 t591 t592 t593 t594 t597 t598)) = some r := H
     have A40 := Aside0.mk A400
     clear A400
     replace H := Option.bind_eq_some_iff.mp H
     obtain ⟨⟨t612, t613⟩, A410, H⟩ := H
     replace H : (laws_FnApartEnds.l0 kj4 (([(⟨t606, t607⟩ : S25), (⟨t608, t609⟩ : S25), (⟨t610, t611⟩ : S25), (⟨t612, t613⟩ : S25)] : List (S25))) false 0 t587 t588 t589 t590 t591 t592 t593 t594 t597 t598) = some r := H
     have A41 := Aside0.mk A410
     clear A410
     obtain ⟨y614, hy614⟩ : ∃ y_ : List (S25), y_ = (([(⟨t606, t607⟩ : S25), (⟨t608, t609⟩ : S25), (⟨t610, t611⟩ : S25), (⟨t612, t613⟩ : S25)] : List (S25))) := ⟨_, rfl⟩
     replace H : (laws_FnApartEnds.l0 kj4 y614 false 0 t587 t588 t589 t590 t591 t592 t593 t594 t597 t598) = some r := by first | (rw [hy614]; with_reducible exact H) | (have H2_ := (Option.bind_some _ _).symm.trans H; rw [hy614]; with_reducible exact H2_) | (have H2_ := (Option.bind_some _ _).symm.trans H; with_reducible exact H2_) | with_reducible exact H | (rw [hy614]; exact H) | exact H
     have Ny614 := Aside0.mk hy614
     clear hy614
     have H' := Aside0.mk H
     clear H
     try go_wp2
     have n0_ := Aside0.mk (blk_drew BK595.out)
     have n1_ := Aside0.mk (blk_drew BK596.out)
     have n2_ := Aside0.mk (blk_drew BK599.out)
     have n3_ := Aside0.mk (below_drew1 HB.out)
     clear BK595 BK596 BK599 HB
     have BK595 := n0_
     have BK596 := n1_
     have BK599 := n2_
     have HB := n3_
     clear n0_ n1_ n2_ n3_
     refine start_ (n := 18) (S := fun w' => w'.cell? ⟨gb595, 0, none⟩ = some (.int .i64 t587) ∧ w'.cell? ⟨gb595, 1, none⟩ = some (.int .i64 t588) ∧ w'.cell? ⟨gb595, 2, none⟩ = some (.int .i64 t589) ∧ w'.cell? ⟨gb595, 3, none⟩ = some (.int .i64 t590) ∧ w'.cell? ⟨gb596, 0, none⟩ = some (.int .i64 t591) ∧ w'.cell? ⟨gb596, 1, none⟩ = some (.int .i64 t592) ∧ w'.cell? ⟨gb596, 2, none⟩ = some (.int .i64 t593) ∧ w'.cell? ⟨gb596, 3, none⟩ = some (.int .i64 t594)) (ds := []) #[false, false, false, false, false, false, false, false, false, false, false, false, false, false, false, false, false, false] (by kernel_rfl) rfl rfl ⟨bc_, bc_, bc_, bc_, bc_, bc_, bc_, bc_⟩ (fun hHeld => ?_); refine with_tabW laws_FnApartEnds.tab7 laws_FnApartEnds.bits7 (fun HT_ HW_ => ?_)
     generalize wc.drew = w42 at BK595 BK596 BK599 HB hHeld ⊢
     refine pure_ (i := 1) (N := some 41) (v := ?_) (a' := ?_) (bm 18 2) rfl rfl (any_of HT_.out (by kernel_rfl)) (fun _ _ _ h => h) (Or.inl ⟨by rfl, ?_⟩) ?_ ?_
     rotate_left
     ·
      intro w'
      go_simp
      with_reducible rfl
     rotate_left
     ·
      simp only [Act.put, List.setIfInBounds_toArray, List.set_cons_zero, List.set_cons_succ, i64_w, i32_w]
      rfl
     refine pure_ (i := 5) (N := some 45) (v := ?_) (a' := ?_) (bm 18 34) rfl rfl (any_of HT_.out (by kernel_rfl)) (fun _ _ _ h => h) (Or.inl ⟨by rfl, ?_⟩) ?_ ?_
     rotate_left
     ·
      intro w'
      go_simp
      with_reducible rfl
     rotate_left
     ·
      simp only [Act.put, List.setIfInBounds_toArray, List.set_cons_zero, List.set_cons_succ, i64_w, i32_w]
      rfl
     refine pure_ (i := 9) (N := some 49) (v := ?_) (a' := ?_) (bm 18 546) rfl rfl (any_of HT_.out (by kernel_rfl)) (fun _ _ _ h => h) (Or.inl ⟨by rfl, ?_⟩) ?_ ?_
     rotate_left
     ·
      intro w'
      go_simp
      with_reducible rfl
     rotate_left
     ·
      simp only [Act.put, List.setIfInBounds_toArray, List.set_cons_zero, List.set_cons_succ, i64_w, i32_w]
      rfl
     refine pure_ (i := 13) (N := some 53) (v := ?_) (a' := ?_) (bm 18 8738) rfl rfl (any_of HT_.out (by kernel_rfl)) (fun _ _ _ h => h) (Or.inl ⟨by rfl, ?_⟩) ?_ ?_
     rotate_left
     ·
      intro w'
      go_simp
      with_reducible rfl
     rotate_left
     ·
      simp only [Act.put, List.setIfInBounds_toArray, List.set_cons_zero, List.set_cons_succ, i64_w, i32_w]
      rfl
     refine take_ (i := 0) (N := some 40) (v := ?_) (a' := ?_) (bm 18 8739) rfl rfl (take_ofW HT_.out HW_.out (by kernel_rfl)) (fun _ _ _ h => h) (Or.inl ⟨by rfl, ?_⟩) hHeld ?_ ?_
     rotate_left
     ·
      rintro w' ⟨s0, s1, s2, s3, s4, s5, s6, s7⟩
      go_simp
      with_reducible rfl
     rotate_left
     ·
      simp only [Act.put, List.setIfInBounds_toArray, List.set_cons_zero, List.set_cons_succ, i64_w, i32_w]
      rfl
     refine take_ (i := 2) (N := some 42) (v := ?_) (a' := ?_) (bm 18 8743) rfl rfl (take_ofW HT_.out HW_.out (by kernel_rfl)) (fun _ _ _ h => h) (Or.inl ⟨by rfl, ?_⟩) hHeld ?_ ?_
     rotate_left
     ·
      rintro w' ⟨s0, s1, s2, s3, s4, s5, s6, s7⟩
      go_simp
      with_reducible rfl
     rotate_left
     ·
      simp only [Act.put, List.setIfInBounds_toArray, List.set_cons_zero, List.set_cons_succ, i64_w, i32_w]
      rfl
     refine take_ (i := 4) (N := some 44) (v := ?_) (a' := ?_) (bm 18 8759) rfl rfl (take_ofW HT_.out HW_.out (by kernel_rfl)) (fun _ _ _ h => h) (Or.inl ⟨by rfl, ?_⟩) hHeld ?_ ?_
     rotate_left
     ·
      rintro w' ⟨s0, s1, s2, s3, s4, s5, s6, s7⟩
      go_simp
      with_reducible rfl
     rotate_left
     ·
      simp only [Act.put, List.setIfInBounds_toArray, List.set_cons_zero, List.set_cons_succ, i64_w, i32_w]
      rfl
     refine take_ (i := 6) (N := some 46) (v := ?_) (a' := ?_) (bm 18 8823) rfl rfl (take_ofW HT_.out HW_.out (by kernel_rfl)) (fun _ _ _ h => h) (Or.inl ⟨by rfl, ?_⟩) hHeld ?_ ?_
     rotate_left
     ·
      rintro w' ⟨s0, s1, s2, s3, s4, s5, s6, s7⟩
      go_simp
      with_reducible rfl
     rotate_left
     ·
      simp only [Act.put, List.setIfInBounds_toArray, List.set_cons_zero, List.set_cons_succ, i64_w, i32_w]
      rfl
     refine take_ (i := 8) (N := some 48) (v := ?_) (a' := ?_) (bm 18 9079) rfl rfl (take_ofW HT_.out HW_.out (by kernel_rfl)) (fun _ _ _ h => h) (Or.inl ⟨by rfl, ?_⟩) hHeld ?_ ?_
     rotate_left
     ·
      rintro w' ⟨s0, s1, s2, s3, s4, s5, s6, s7⟩
      go_simp
      with_reducible rfl
     rotate_left
     ·
      simp only [Act.put, List.setIfInBounds_toArray, List.set_cons_zero, List.set_cons_succ, i64_w, i32_w]
      rfl
     refine take_ (i := 10) (N := some 50) (v := ?_) (a' := ?_) (bm 18 10103) rfl rfl (take_ofW HT_.out HW_.out (by kernel_rfl)) (fun _ _ _ h => h) (Or.inl ⟨by rfl, ?_⟩) hHeld ?_ ?_
     rotate_left
     ·
      rintro w' ⟨s0, s1, s2, s3, s4, s5, s6, s7⟩
      go_simp
      with_reducible rfl
     rotate_left
     ·
      simp only [Act.put, List.setIfInBounds_toArray, List.set_cons_zero, List.set_cons_succ, i64_w, i32_w]
      rfl
     refine take_ (i := 12) (N := some 52) (v := ?_) (a' := ?_) (bm 18 14199) rfl rfl (take_ofW HT_.out HW_.out (by kernel_rfl)) (fun _ _ _ h => h) (Or.inl ⟨by rfl, ?_⟩) hHeld ?_ ?_
     rotate_left
     ·
      rintro w' ⟨s0, s1, s2, s3, s4, s5, s6, s7⟩
      go_simp
      with_reducible rfl
     rotate_left
     ·
      simp only [Act.put, List.setIfInBounds_toArray, List.set_cons_zero, List.set_cons_succ, i64_w, i32_w]
      rfl
     refine take_ (i := 14) (N := some 54) (v := ?_) (a' := ?_) (bm 18 30583) rfl rfl (take_ofW HT_.out HW_.out (by kernel_rfl)) (fun _ _ _ h => h) (Or.inl ⟨by rfl, ?_⟩) hHeld ?_ ?_
     rotate_left
     ·
      rintro w' ⟨s0, s1, s2, s3, s4, s5, s6, s7⟩
      go_simp
      with_reducible rfl
     rotate_left
     ·
      simp only [Act.put, List.setIfInBounds_toArray, List.set_cons_zero, List.set_cons_succ, i64_w, i32_w]
      rfl
     refine one_ (i := 3) (N := some 43) (bm 18 30591) rfl rfl (one_of HT_.out (by kernel_rfl)) (by decide) (fun K hK => ?_)
     refine goes_ Tryd.func24 (by kernel_rfl) rfl #[.agg #[.int .i64 t587, .int .i64 t588, .int .i64 t589, .int .i64 t590], .agg #[.int .i64 t591, .int .i64 t592]] (by rfl) rfl rfl ma_ ?_
     with_reducible refine (impl_SegFar.calls t587 t588 t589 t590 t591 t592 t606 t607 _ A38.out).mono ?_
     rintro e w43 ⟨rfl, hb⟩
     refine ⟨_, rfl, ?_⟩
     have n0_ := Aside0.mk (ub_ (g := gb595) hb)
     have n1_ := Aside0.mk (ub_ (g := gb596) hb)
     have n2_ := Aside0.mk (ub_ (g := gb599) hb)
     have n3_ := Aside0.mk (below_step hB_ hb)
     clear BK595 BK596 BK599 HB
     have BK595 := n0_
     have BK596 := n1_
     have BK599 := n2_
     have HB := n3_
     clear n0_ n1_ n2_ n3_
     (try clear hb)
     (try clear hb2)
     (try clear hk)
     (try clear hi)
     refine hK.out _ _ ⟨bc_, bc_, bc_, bc_, bc_, bc_, bc_, bc_⟩ (fun hHeld => ?_)
     clear hK K
     refine norm_ (a' := ?_) ?_ ?_
     rotate_left
     ·
      show Act.put _ (some 43) _ = _
      simp only [Act.put, List.setIfInBounds_toArray, List.set_cons_zero, List.set_cons_succ, i64_w, i32_w]
      rfl
     refine one_ (i := 7) (N := some 47) (bm 18 30719) rfl rfl (one_of HT_.out (by kernel_rfl)) (by decide) (fun K hK => ?_)
     refine goes_ Tryd.func24 (by kernel_rfl) rfl #[.agg #[.int .i64 t587, .int .i64 t588, .int .i64 t589, .int .i64 t590], .agg #[.int .i64 t593, .int .i64 t594]] (by rfl) rfl rfl ma_ ?_
     with_reducible refine (impl_SegFar.calls t587 t588 t589 t590 t593 t594 t608 t609 _ A39.out).mono ?_
     rintro e w44 ⟨rfl, hb⟩
     refine ⟨_, rfl, ?_⟩
     have n0_ := Aside0.mk (ub_ (g := gb595) hb)
     have n1_ := Aside0.mk (ub_ (g := gb596) hb)
     have n2_ := Aside0.mk (ub_ (g := gb599) hb)
     have n3_ := Aside0.mk (below_step hB_ hb)
     clear BK595 BK596 BK599 HB
     have BK595 := n0_
     have BK596 := n1_
     have BK599 := n2_
     have HB := n3_
     clear n0_ n1_ n2_ n3_
     (try clear hb)
     (try clear hb2)
     (try clear hk)
     (try clear hi)
     refine hK.out _ _ ⟨bc_, bc_, bc_, bc_, bc_, bc_, bc_, bc_⟩ (fun hHeld => ?_)
     clear hK K
     refine norm_ (a' := ?_) ?_ ?_
     rotate_left
     ·
      show Act.put _ (some 47) _ = _
      simp only [Act.put, List.setIfInBounds_toArray, List.set_cons_zero, List.set_cons_succ, i64_w, i32_w]
      rfl
     refine one_ (i := 11) (N := some 51) (bm 18 32767) rfl rfl (one_of HT_.out (by kernel_rfl)) (by decide) (fun K hK => ?_)
     refine goes_ Tryd.func24 (by kernel_rfl) rfl #[.agg #[.int .i64 t591, .int .i64 t592, .int .i64 t593, .int .i64 t594], .agg #[.int .i64 t587, .int .i64 t588]] (by rfl) rfl rfl ma_ ?_
     with_reducible refine (impl_SegFar.calls t591 t592 t593 t594 t587 t588 t610 t611 _ A40.out).mono ?_
     rintro e w45 ⟨rfl, hb⟩
     refine ⟨_, rfl, ?_⟩
     have n0_ := Aside0.mk (ub_ (g := gb595) hb)
     have n1_ := Aside0.mk (ub_ (g := gb596) hb)
     have n2_ := Aside0.mk (ub_ (g := gb599) hb)
     have n3_ := Aside0.mk (below_step hB_ hb)
     clear BK595 BK596 BK599 HB
     have BK595 := n0_
     have BK596 := n1_
     have BK599 := n2_
     have HB := n3_
     clear n0_ n1_ n2_ n3_
     (try clear hb)
     (try clear hb2)
     (try clear hk)
     (try clear hi)
     refine hK.out _ _ ⟨bc_, bc_, bc_, bc_, bc_, bc_, bc_, bc_⟩ (fun hHeld => ?_)
     clear hK K
     refine norm_ (a' := ?_) ?_ ?_
     rotate_left
     ·
      show Act.put _ (some 51) _ = _
      simp only [Act.put, List.setIfInBounds_toArray, List.set_cons_zero, List.set_cons_succ, i64_w, i32_w]
      rfl
     refine one_ (i := 15) (N := some 55) (bm 18 65535) rfl rfl (one_of HT_.out (by kernel_rfl)) (by decide) (fun K hK => ?_)
     refine goes_ Tryd.func24 (by kernel_rfl) rfl #[.agg #[.int .i64 t591, .int .i64 t592, .int .i64 t593, .int .i64 t594], .agg #[.int .i64 t589, .int .i64 t590]] (by rfl) rfl rfl ma_ ?_
     with_reducible refine (impl_SegFar.calls t591 t592 t593 t594 t589 t590 t612 t613 _ A41.out).mono ?_
     rintro e w46 ⟨rfl, hb⟩
     refine ⟨_, rfl, ?_⟩
     have n0_ := Aside0.mk (ub_ (g := gb595) hb)
     have n1_ := Aside0.mk (ub_ (g := gb596) hb)
     have n2_ := Aside0.mk (ub_ (g := gb599) hb)
     have n3_ := Aside0.mk (below_step hB_ hb)
     clear BK595 BK596 BK599 HB
     have BK595 := n0_
     have BK596 := n1_
     have BK599 := n2_
     have HB := n3_
     clear n0_ n1_ n2_ n3_
     (try clear hb)
     (try clear hb2)
     (try clear hk)
     (try clear hi)
     refine hK.out _ _ ⟨bc_, bc_, bc_, bc_, bc_, bc_, bc_, bc_⟩ (fun hHeld => ?_)
     clear hK K
     refine norm_ (a' := ?_) ?_ ?_
     rotate_left
     ·
      show Act.put _ (some 55) _ = _
      simp only [Act.put, List.setIfInBounds_toArray, List.set_cons_zero, List.set_cons_succ, i64_w, i32_w]
      rfl
     refine one_ (i := 16) (N := some 56) (bm 18 131071) rfl rfl (one_of HT_.out (by kernel_rfl)) (by decide) (fun K hK => ?_)
     refine Kd.R_lit_step k25 _ 25 ?hg (N := 56) ?hd (xs := ([(⟨t606, t607⟩ : S25), (⟨t608, t609⟩ : S25), (⟨t610, t611⟩ : S25), (⟨t612, t613⟩ : S25)] : List (S25))) (inner := [.int .i64 t606, .int .i64 t607, .int .i64 t608, .int .i64 t609, .int .i64 t610, .int .i64 t611, .int .i64 t612, .int .i64 t613]) (ok := fun _ => True) (okp := fun _ => True) ?hr ?hp (fun _ hk => hk) trivial (Below.refl _ _) (Nat.le_refl _) (by simp) ?_; (case hd => rfl); (case hg => rfl); (case hr => first | (go_simp; done) | (go_simp; rfl)); (case hp => exact (Reps.c2 (show Kd.M k25 _ _ _ (⟨t606, t607⟩ : S25) [.int .i64 t606, .int .i64 t607] from (k25_mkM _ _ _ (⟨t606, t607⟩ : S25) )) (Reps.c2 (show Kd.M k25 _ _ _ (⟨t608, t609⟩ : S25) [.int .i64 t608, .int .i64 t609] from (k25_mkM _ _ _ (⟨t608, t609⟩ : S25) )) (Reps.c2 (show Kd.M k25 _ _ _ (⟨t610, t611⟩ : S25) [.int .i64 t610, .int .i64 t611] from (k25_mkM _ _ _ (⟨t610, t611⟩ : S25) )) (Reps.c2 (show Kd.M k25 _ _ _ (⟨t612, t613⟩ : S25) [.int .i64 t612, .int .i64 t613] from (k25_mkM _ _ _ (⟨t612, t613⟩ : S25) )) (Reps.none _ _))))))
     intro v615 w47 ho48 hb hg_ hnew_
     clear hg_ hnew_
     (first | rw [← Ny614.out] at ho48 | (simp only [Int.reduceToNat] at ho48; rw [← Ny614.out] at ho48))
     have n0_ := Aside0.mk (Kd.R_lower (Kd.R_newB ho48 (g := gb599) (o := .cells #[.int .i64 t597, .int .i64 t598] 25 (0, 0)) uq_) (below_size hB_))
     have n1_ := Aside0.mk (ub_ (g := gb595) hb)
     have n2_ := Aside0.mk (ub_ (g := gb596) hb)
     have n3_ := Aside0.mk (ub_ (g := gb599) hb)
     have n4_ := Aside0.mk (below_step hB_ hb)
     clear BK595 BK596 BK599 HB
     have HO616 := n0_
     have BK595 := n1_
     have BK596 := n2_
     have BK599 := n3_
     have HB := n4_
     clear n0_ n1_ n2_ n3_ n4_
     clear hb ho48
     refine hK.out _ _ ⟨bc_, bc_, bc_, bc_, bc_, bc_, bc_, bc_⟩ (fun hHeld => ?_)
     clear hK K
     refine norm_ (a' := ?_) ?_ ?_
     rotate_left
     ·
      show Act.put _ (some 56) _ = _
      simp only [Act.put, List.setIfInBounds_toArray, List.set_cons_zero, List.set_cons_succ, i64_w, i32_w]
      rfl
     refine pure_ (i := 17) (N := some 6) (v := ?_) (a' := ?_) (bm 18 262143) rfl rfl (any_of HT_.out (by kernel_rfl)) (fun _ _ _ h => h) (Or.inl ⟨by rfl, ?_⟩) ?_ ?_
     rotate_left
     ·
      intro w'
      go_simp
      with_reducible rfl
     rotate_left
     ·
      simp only [Act.put, List.setIfInBounds_toArray, List.set_cons_zero, List.set_cons_succ, i64_w, i32_w]
      rfl
     refine done_ (done_of HT_.out (by kernel_rfl)) ?_
     try go_wp2
     go_loopg [7, 8] kj4 (fun kq v7 v8 w' => ∃ (x7_2 : Bool) (x8_2 : Int), v7 = .bool x7_2 ∧ v8 = .int .i64 x8_2 ∧ Aside0 (laws_FnApartEnds.l0 kq y614 x7_2 x8_2 t587 t588 t589 t590 t591 t592 t593 t594 t597 t598 = some r) ∧ Aside0 (kq ≤ kj4) ∧ Aside0 (Kd.R k25 25 w' w.heap.size (fun k_ => k_ ≠ gb599) v615 y614) ∧ Aside0 (w'.heap[gb595]? = some (.cells #[.int .i64 t587, .int .i64 t588, .int .i64 t589, .int .i64 t590] 40 (0, 0))) ∧ Aside0 (w'.heap[gb596]? = some (.cells #[.int .i64 t591, .int .i64 t592, .int .i64 t593, .int .i64 t594] 40 (0, 0))) ∧ Aside0 (w'.heap[gb599]? = some (.cells #[.int .i64 t597, .int .i64 t598] 25 (0, 0))) ∧ Aside0 (Below w.heap.size w w'))
     case atStart => exact ⟨(false), (0), (by first | rfl | (simp; done) | (simp [*]; done)), (by first | rfl | (simp; done) | (simp [*]; done)), H', ⟨Nat.le_refl _⟩, ⟨by (with_reducible repeat (first | apply Kd.R_alloc | apply Kd.R_drewN | apply Kd.R_drew)); exact Kd.R_mono HO616.out (fun _ hk => hk.2)⟩, ⟨uq_⟩, ⟨uq_⟩, ⟨uq_⟩, ⟨hB_⟩⟩
     case round =>
      clear H'
      try clear c1
      try clear c2
      try clear p2
      try clear c3
      try clear c18
      try clear c18b0
      try clear c23
      try clear c24
      try clear c26
      try clear c31
      try clear c34
      try clear p2
      obtain ⟨x7_2, x8_2, rfl, rfl, HA, HK2, HO_6, BK595, BK596, BK599, HB⟩ := hrel
      cases gk with
      | zero => exact absurd HA.out (by simp [laws_FnApartEnds.l0])
      | succ k2 =>
       have H := HA.out
       clear HA
       simp only [laws_FnApartEnds.l0] at H
       by_cases c49 : x8_2 < (y614.length : Int)
       ·
        rw [if_pos c49] at H
        have c49b0 : decide (x8_2 < (y614.length : Int)) = true := decide_eq_true c49
        clear c49
        by_cases c50 : 0 ≤ x8_2
        ·
         rw [if_pos c50] at H
         have c50b0 : decide (0 ≤ x8_2) = true := decide_eq_true c50
         clear c50
         replace H := Option.bind_eq_some_iff.mp H
         obtain ⟨t618, A510, H⟩ := H
         replace H : (if t618 > 0 then (some false) else (if x7_2 = true then (laws_FnApartEnds.l0 k2 y614 true (wrap64 (x8_2 + 1)) t587 t588 t589 t590 t591 t592 t593 t594 t597 t598) else (laws_FnApartEnds.l0 k2 y614 (((rd_T25 y614 x8_2).f0) == t597 && (((rd_T25 y614 x8_2).f1) == t598)) (wrap64 (x8_2 + 1)) t587 t588 t589 t590 t591 t592 t593 t594 t597 t598))) = some r := H
         have A51 := Aside0.mk A510
         clear A510
         by_cases c52 : t618 > 0
         ·
          rw [if_pos c52] at H
          have c52b0 : decide (0 < t618) = true := decide_eq_true c52
          clear c52
          obtain rfl := Option.some.inj H
          obtain ⟨Ao53, co53, eo53⟩ := Kd.R_slice HO_6.out
          subst eo53
          try go_wp2
          have n0_ := Aside0.mk (Kd.R_drew HO_6.out)
          have n1_ := Aside0.mk (blk_drew BK595.out)
          have n2_ := Aside0.mk (blk_drew BK596.out)
          have n3_ := Aside0.mk (blk_drew BK599.out)
          have n4_ := Aside0.mk (below_drew1 HB.out)
          clear HO_6 BK595 BK596 BK599 HB
          have HO_6 := n0_
          have BK595 := n1_
          have BK596 := n2_
          have BK599 := n3_
          have HB := n4_
          clear n0_ n1_ n2_ n3_ n4_
          have p617 : 0 ≤ (x8_2 : Int) := of_decide_eq_true (by first | (with_reducible assumption) | assumption)
          have q617 : x8_2 < (y614.length : Int) := of_decide_eq_true (by first | (with_reducible assumption) | assumption)
          obtain ⟨ad617, e617, hx617_0, hx617_1⟩ := at_T25 (Kd.R_reads' HO_6.out).2.2 x8_2 p617 q617
          cases e617
          replace p617 := eq_true p617
          replace q617 := eq_true q617
          refine start_ (n := 7) (S := fun w' => w'.cell? ⟨gb599, 0, none⟩ = some (.int .i64 t597) ∧ w'.cell? ⟨gb599, 1, none⟩ = some (.int .i64 t598) ∧ w'.cell? (ad617.add ((x8_2).toNat * 2)) = some (.int .i64 ((rd_T25 y614 x8_2).f0)) ∧ w'.cell? ⟨(ad617.add ((x8_2).toNat * 2)).block, (ad617.add ((x8_2).toNat * 2)).off + 1, none⟩ = some (.int .i64 ((rd_T25 y614 x8_2).f1))) (ds := []) #[false, false, false, false, false, false, false] (by kernel_rfl) rfl rfl ⟨bc_, bc_, hx617_0, hx617_1⟩ (fun hHeld => ?_)
          generalize wr.drew = w54 at HO_6 BK595 BK596 BK599 HB hx617_0 hx617_1 hHeld ⊢
          refine pure_ (i := 1) (N := some 64) (v := ?_) (a' := ?_) (bm 7 2) rfl rfl (by kernel_rfl) (fun _ _ _ h => h) (Or.inl ⟨by rfl, ?_⟩) ?_ ?_
          rotate_left
          ·
           intro w'
           go_simp
           with_reducible rfl
          rotate_left
          ·
           simp only [Act.put, List.setIfInBounds_toArray, List.set_cons_zero, List.set_cons_succ, i64_w, i32_w]
           rfl
          refine pure_ (i := 2) (N := some 65) (v := ?_) (a' := ?_) (bm 7 6) rfl rfl (by kernel_rfl) (fun _ _ _ h => h) (Or.inl ⟨by rfl, ?_⟩) ?_ ?_
          rotate_left
          ·
           intro w'
           go_simp
           with_reducible rfl
          rotate_left
          ·
           simp only [Act.put, List.setIfInBounds_toArray, List.set_cons_zero, List.set_cons_succ, i64_w, i32_w]
           rfl
          refine pure_ (i := 3) (N := some 66) (v := ?_) (a' := ?_) (bm 7 14) rfl rfl (by kernel_rfl) (fun _ _ _ h => h) (Or.inl ⟨by rfl, ?_⟩) ?_ ?_
          rotate_left
          ·
           intro w'
           go_simp
           with_reducible rfl
          rotate_left
          ·
           simp only [Act.put, List.setIfInBounds_toArray, List.set_cons_zero, List.set_cons_succ, i64_w, i32_w]
           rfl
          refine take_ (i := 0) (N := some 63) (v := ?_) (a' := ?_) (bm 7 15) rfl rfl (by kernel_rfl) (fun _ _ _ h => h) (Or.inl ⟨by rfl, ?_⟩) hHeld ?_ ?_
          rotate_left
          ·
           rintro w' ⟨s0, s1, s2, s3⟩
           go_simp
           with_reducible rfl
          rotate_left
          ·
           simp only [Act.put, List.setIfInBounds_toArray, List.set_cons_zero, List.set_cons_succ, i64_w, i32_w]
           rfl
          refine take_ (i := 4) (N := some 67) (v := ?_) (a' := ?_) (bm 7 31) rfl rfl (by kernel_rfl) (fun _ _ _ h => h) (Or.inl ⟨by rfl, ?_⟩) hHeld ?_ ?_
          rotate_left
          ·
           rintro w' ⟨s0, s1, s2, s3⟩
           go_simp
           with_reducible rfl
          rotate_left
          ·
           simp only [Act.put, List.setIfInBounds_toArray, List.set_cons_zero, List.set_cons_succ, i64_w, i32_w]
           rfl
          refine one_ (i := 5) (N := some 68) (bm 7 63) rfl rfl (by kernel_rfl) (by decide) (fun K hK => ?_)
          refine goes_ Tryd.func17 (by kernel_rfl) rfl #[.agg #[.int .i64 t597, .int .i64 t598], .agg #[.int .i64 ((rd_T25 y614 x8_2).f0), .int .i64 ((rd_T25 y614 x8_2).f1)]] (by rfl) rfl rfl ma_ ?_
          with_reducible refine (impl_FracCmp.calls t597 t598 ((rd_T25 y614 x8_2).f0) ((rd_T25 y614 x8_2).f1) t618 _ ?side1 A51.out).mono ?_
          (case side1 => exact ErrW.below HE.out hB_)
          rintro e w55 ⟨rfl, hb⟩
          have HS2_ := (hb.cell (World.block_lt_of_cell? _ _ (hHeld.2.2.1))).trans (hHeld.2.2.1)
          have HS3_ := (hb.cell (World.block_lt_of_cell? _ _ (hHeld.2.2.2))).trans (hHeld.2.2.2)
          refine ⟨_, rfl, ?_⟩
          have n0_ := Aside0.mk (Kd.R_below (by (with_reducible repeat (first | apply Kd.R_alloc | apply Kd.R_drewN | apply Kd.R_drew)); exact HO_6.out) hb)
          have n1_ := Aside0.mk (ub_ (g := gb595) hb)
          have n2_ := Aside0.mk (ub_ (g := gb596) hb)
          have n3_ := Aside0.mk (ub_ (g := gb599) hb)
          have n4_ := Aside0.mk (below_step hB_ hb)
          clear HO_6 BK595 BK596 BK599 HB
          have HO_6 := n0_
          have BK595 := n1_
          have BK596 := n2_
          have BK599 := n3_
          have HB := n4_
          clear n0_ n1_ n2_ n3_ n4_
          (try clear hb)
          (try clear hb2)
          (try clear hk)
          (try clear hi)
          refine hK.out _ _ ⟨bc_, bc_, HS2_, HS3_⟩ (fun hHeld => ?_)
          clear hK K
          refine norm_ (a' := ?_) ?_ ?_
          rotate_left
          ·
           show Act.put _ (some 68) _ = _
           simp only [Act.put, List.setIfInBounds_toArray, List.set_cons_zero, List.set_cons_succ, i64_w, i32_w]
           rfl
          refine pure_ (i := 6) (N := some 69) (v := ?_) (a' := ?_) (bm 7 127) rfl rfl (by kernel_rfl) (fun _ _ _ h => h) (Or.inl ⟨by rfl, ?_⟩) ?_ ?_
          rotate_left
          ·
           intro w'
           go_simp
           with_reducible rfl
          rotate_left
          ·
           simp only [Act.put, List.setIfInBounds_toArray, List.set_cons_zero, List.set_cons_succ, i64_w, i32_w]
           rfl
          refine done_ (by kernel_rfl) ?_
          try go_wp2
          go_ret
          exact ⟨by first | rfl | (simp [errW_none, errW_some] <;> rfl) | (simp [*, errW_none, errW_some] <;> rfl), hB_⟩
         ·
          rw [if_neg c52] at H
          have c52b0 : decide (0 < t618) = false := decide_eq_false c52
          clear c52
          by_cases c56 : x7_2 = true
          ·
           subst c56
           have H1 : (laws_FnApartEnds.l0 k2 y614 true (wrap64 (x8_2 + 1)) t587 t588 t589 t590 t591 t592 t593 t594 t597 t598) = some r := by rw [if_pos rfl] at H; exact H
           clear H
           have H := H1
           clear H1
           have H' := Aside0.mk H
           clear H
           obtain ⟨Ao57, co57, eo57⟩ := Kd.R_slice HO_6.out
           subst eo57
           try go_wp2
           have n0_ := Aside0.mk (Kd.R_drew HO_6.out)
           have n1_ := Aside0.mk (blk_drew BK595.out)
           have n2_ := Aside0.mk (blk_drew BK596.out)
           have n3_ := Aside0.mk (blk_drew BK599.out)
           have n4_ := Aside0.mk (below_drew1 HB.out)
           clear HO_6 BK595 BK596 BK599 HB
           have HO_6 := n0_
           have BK595 := n1_
           have BK596 := n2_
           have BK599 := n3_
           have HB := n4_
           clear n0_ n1_ n2_ n3_ n4_
           have p617 : 0 ≤ (x8_2 : Int) := of_decide_eq_true (by first | (with_reducible assumption) | assumption)
           have q617 : x8_2 < (y614.length : Int) := of_decide_eq_true (by first | (with_reducible assumption) | assumption)
           obtain ⟨ad617, e617, hx617_0, hx617_1⟩ := at_T25 (Kd.R_reads' HO_6.out).2.2 x8_2 p617 q617
           cases e617
           replace p617 := eq_true p617
           replace q617 := eq_true q617
           refine start_ (n := 7) (S := fun w' => w'.cell? ⟨gb599, 0, none⟩ = some (.int .i64 t597) ∧ w'.cell? ⟨gb599, 1, none⟩ = some (.int .i64 t598) ∧ w'.cell? (ad617.add ((x8_2).toNat * 2)) = some (.int .i64 ((rd_T25 y614 x8_2).f0)) ∧ w'.cell? ⟨(ad617.add ((x8_2).toNat * 2)).block, (ad617.add ((x8_2).toNat * 2)).off + 1, none⟩ = some (.int .i64 ((rd_T25 y614 x8_2).f1))) (ds := []) #[false, false, false, false, false, false, false] (by kernel_rfl) rfl rfl ⟨bc_, bc_, hx617_0, hx617_1⟩ (fun hHeld => ?_)
           generalize wr.drew = w58 at HO_6 BK595 BK596 BK599 HB hx617_0 hx617_1 hHeld ⊢
           refine pure_ (i := 1) (N := some 64) (v := ?_) (a' := ?_) (bm 7 2) rfl rfl (by kernel_rfl) (fun _ _ _ h => h) (Or.inl ⟨by rfl, ?_⟩) ?_ ?_
           rotate_left
           ·
            intro w'
            go_simp
            with_reducible rfl
           rotate_left
           ·
            simp only [Act.put, List.setIfInBounds_toArray, List.set_cons_zero, List.set_cons_succ, i64_w, i32_w]
            rfl
           refine pure_ (i := 2) (N := some 65) (v := ?_) (a' := ?_) (bm 7 6) rfl rfl (by kernel_rfl) (fun _ _ _ h => h) (Or.inl ⟨by rfl, ?_⟩) ?_ ?_
           rotate_left
           ·
            intro w'
            go_simp
            with_reducible rfl
           rotate_left
           ·
            simp only [Act.put, List.setIfInBounds_toArray, List.set_cons_zero, List.set_cons_succ, i64_w, i32_w]
            rfl
           refine pure_ (i := 3) (N := some 66) (v := ?_) (a' := ?_) (bm 7 14) rfl rfl (by kernel_rfl) (fun _ _ _ h => h) (Or.inl ⟨by rfl, ?_⟩) ?_ ?_
           rotate_left
           ·
            intro w'
            go_simp
            with_reducible rfl
           rotate_left
           ·
            simp only [Act.put, List.setIfInBounds_toArray, List.set_cons_zero, List.set_cons_succ, i64_w, i32_w]
            rfl
           refine take_ (i := 0) (N := some 63) (v := ?_) (a' := ?_) (bm 7 15) rfl rfl (by kernel_rfl) (fun _ _ _ h => h) (Or.inl ⟨by rfl, ?_⟩) hHeld ?_ ?_
           rotate_left
           ·
            rintro w' ⟨s0, s1, s2, s3⟩
            go_simp
            with_reducible rfl
           rotate_left
           ·
            simp only [Act.put, List.setIfInBounds_toArray, List.set_cons_zero, List.set_cons_succ, i64_w, i32_w]
            rfl
           refine take_ (i := 4) (N := some 67) (v := ?_) (a' := ?_) (bm 7 31) rfl rfl (by kernel_rfl) (fun _ _ _ h => h) (Or.inl ⟨by rfl, ?_⟩) hHeld ?_ ?_
           rotate_left
           ·
            rintro w' ⟨s0, s1, s2, s3⟩
            go_simp
            with_reducible rfl
           rotate_left
           ·
            simp only [Act.put, List.setIfInBounds_toArray, List.set_cons_zero, List.set_cons_succ, i64_w, i32_w]
            rfl
           refine one_ (i := 5) (N := some 68) (bm 7 63) rfl rfl (by kernel_rfl) (by decide) (fun K hK => ?_)
           refine goes_ Tryd.func17 (by kernel_rfl) rfl #[.agg #[.int .i64 t597, .int .i64 t598], .agg #[.int .i64 ((rd_T25 y614 x8_2).f0), .int .i64 ((rd_T25 y614 x8_2).f1)]] (by rfl) rfl rfl ma_ ?_
           with_reducible refine (impl_FracCmp.calls t597 t598 ((rd_T25 y614 x8_2).f0) ((rd_T25 y614 x8_2).f1) t618 _ ?side1 A51.out).mono ?_
           (case side1 => exact ErrW.below HE.out hB_)
           rintro e w59 ⟨rfl, hb⟩
           have HS2_ := (hb.cell (World.block_lt_of_cell? _ _ (hHeld.2.2.1))).trans (hHeld.2.2.1)
           have HS3_ := (hb.cell (World.block_lt_of_cell? _ _ (hHeld.2.2.2))).trans (hHeld.2.2.2)
           refine ⟨_, rfl, ?_⟩
           have n0_ := Aside0.mk (Kd.R_below (by (with_reducible repeat (first | apply Kd.R_alloc | apply Kd.R_drewN | apply Kd.R_drew)); exact HO_6.out) hb)
           have n1_ := Aside0.mk (ub_ (g := gb595) hb)
           have n2_ := Aside0.mk (ub_ (g := gb596) hb)
           have n3_ := Aside0.mk (ub_ (g := gb599) hb)
           have n4_ := Aside0.mk (below_step hB_ hb)
           clear HO_6 BK595 BK596 BK599 HB
           have HO_6 := n0_
           have BK595 := n1_
           have BK596 := n2_
           have BK599 := n3_
           have HB := n4_
           clear n0_ n1_ n2_ n3_ n4_
           (try clear hb)
           (try clear hb2)
           (try clear hk)
           (try clear hi)
           refine hK.out _ _ ⟨bc_, bc_, HS2_, HS3_⟩ (fun hHeld => ?_)
           clear hK K
           refine norm_ (a' := ?_) ?_ ?_
           rotate_left
           ·
            show Act.put _ (some 68) _ = _
            simp only [Act.put, List.setIfInBounds_toArray, List.set_cons_zero, List.set_cons_succ, i64_w, i32_w]
            rfl
           refine pure_ (i := 6) (N := some 69) (v := ?_) (a' := ?_) (bm 7 127) rfl rfl (by kernel_rfl) (fun _ _ _ h => h) (Or.inl ⟨by rfl, ?_⟩) ?_ ?_
           rotate_left
           ·
            intro w'
            go_simp
            with_reducible rfl
           rotate_left
           ·
            simp only [Act.put, List.setIfInBounds_toArray, List.set_cons_zero, List.set_cons_succ, i64_w, i32_w]
            rfl
           refine done_ (by kernel_rfl) ?_
           try go_wp2
           have n0_ := Aside0.mk (Kd.R_drew HO_6.out)
           have n1_ := Aside0.mk (blk_drew BK595.out)
           have n2_ := Aside0.mk (blk_drew BK596.out)
           have n3_ := Aside0.mk (blk_drew BK599.out)
           have n4_ := Aside0.mk (below_drew1 HB.out)
           clear HO_6 BK595 BK596 BK599 HB
           have HO_6 := n0_
           have BK595 := n1_
           have BK596 := n2_
           have BK599 := n3_
           have HB := n4_
           clear n0_ n1_ n2_ n3_ n4_
           refine start_ (n := 10) (S := fun w' => True) (ds := []) #[false, false, false, false, false, false, false, false, false, false] (by kernel_rfl) rfl rfl trivial (fun hHeld => ?_); refine with_tabW laws_FnApartEnds.tab14 laws_FnApartEnds.bits14 (fun HT_ HW_ => ?_)
           generalize w59.drew = w60 at HO_6 BK595 BK596 BK599 HB hHeld ⊢
           refine pure_ (i := 0) (N := some 70) (v := ?_) (a' := ?_) (bm 10 1) rfl rfl (any_of HT_.out (by kernel_rfl)) (fun _ _ _ h => h) (Or.inl ⟨by rfl, ?_⟩) ?_ ?_
           rotate_left
           ·
            intro w'
            go_simp
            with_reducible rfl
           rotate_left
           ·
            simp only [Act.put, List.setIfInBounds_toArray, List.set_cons_zero, List.set_cons_succ, i64_w, i32_w]
            rfl
           refine pure_ (i := 1) (N := some 71) (v := ?_) (a' := ?_) (bm 10 3) rfl rfl (any_of HT_.out (by kernel_rfl)) (fun _ _ _ h => h) (Or.inl ⟨by rfl, ?_⟩) ?_ ?_
           rotate_left
           ·
            intro w'
            go_simp
            with_reducible rfl
           rotate_left
           ·
            simp only [Act.put, List.setIfInBounds_toArray, List.set_cons_zero, List.set_cons_succ, i64_w, i32_w]
            rfl
           refine pure_ (i := 2) (N := some 72) (v := undef) (a' := ?_) (bm 10 7) rfl rfl (any_of HT_.out (by kernel_rfl)) (fun _ _ _ h => h) (Or.inr ⟨by rfl, rfl⟩) ?_ ?_
           rotate_left
           ·
            simp only [Act.put, List.setIfInBounds_toArray, List.set_cons_zero, List.set_cons_succ, i64_w, i32_w]
            rfl
           refine pure_ (i := 3) (N := some 73) (v := undef) (a' := ?_) (bm 10 15) rfl rfl (any_of HT_.out (by kernel_rfl)) (fun _ _ _ h => h) (Or.inr ⟨by rfl, rfl⟩) ?_ ?_
           rotate_left
           ·
            simp only [Act.put, List.setIfInBounds_toArray, List.set_cons_zero, List.set_cons_succ, i64_w, i32_w]
            rfl
           refine pure_ (i := 4) (N := some 74) (v := undef) (a' := ?_) (bm 10 31) rfl rfl (any_of HT_.out (by kernel_rfl)) (fun _ _ _ h => h) (Or.inr ⟨by rfl, rfl⟩) ?_ ?_
           rotate_left
           ·
            simp only [Act.put, List.setIfInBounds_toArray, List.set_cons_zero, List.set_cons_succ, i64_w, i32_w]
            rfl
           refine pure_ (i := 5) (N := some 75) (v := undef) (a' := ?_) (bm 10 63) rfl rfl (any_of HT_.out (by kernel_rfl)) (fun _ _ _ h => h) (Or.inr ⟨by rfl, rfl⟩) ?_ ?_
           rotate_left
           ·
            simp only [Act.put, List.setIfInBounds_toArray, List.set_cons_zero, List.set_cons_succ, i64_w, i32_w]
            rfl
           refine pure_ (i := 6) (N := some 76) (v := undef) (a' := ?_) (bm 10 127) rfl rfl (any_of HT_.out (by kernel_rfl)) (fun _ _ _ h => h) (Or.inr ⟨by rfl, rfl⟩) ?_ ?_
           rotate_left
           ·
            simp only [Act.put, List.setIfInBounds_toArray, List.set_cons_zero, List.set_cons_succ, i64_w, i32_w]
            rfl
           refine pure_ (i := 7) (N := some 77) (v := undef) (a' := ?_) (bm 10 255) rfl rfl (any_of HT_.out (by kernel_rfl)) (fun _ _ _ h => h) (Or.inr ⟨by rfl, rfl⟩) ?_ ?_
           rotate_left
           ·
            simp only [Act.put, List.setIfInBounds_toArray, List.set_cons_zero, List.set_cons_succ, i64_w, i32_w]
            rfl
           refine pure_ (i := 8) (N := some 78) (v := ?_) (a' := ?_) (bm 10 511) rfl rfl (any_of HT_.out (by kernel_rfl)) (fun _ _ _ h => h) (Or.inl ⟨by rfl, ?_⟩) ?_ ?_
           rotate_left
           ·
            intro w'
            go_simp
            with_reducible rfl
           rotate_left
           ·
            simp only [Act.put, List.setIfInBounds_toArray, List.set_cons_zero, List.set_cons_succ, i64_w, i32_w]
            rfl
           refine pure_ (i := 9) (N := some 7) (v := ?_) (a' := ?_) (bm 10 1023) rfl rfl (any_of HT_.out (by kernel_rfl)) (fun _ _ _ h => h) (Or.inl ⟨by rfl, ?_⟩) ?_ ?_
           rotate_left
           ·
            intro w'
            go_simp
            with_reducible rfl
           rotate_left
           ·
            simp only [Act.put, List.setIfInBounds_toArray, List.set_cons_zero, List.set_cons_succ, i64_w, i32_w]
            rfl
           refine done_ (done_of HT_.out (by kernel_rfl)) ?_
           try go_wp2
           go_roundg k2
           case measure => have := HJ4.out; have := HK2.out; omega
           case rel => exact ⟨(true), (wrap64 (x8_2 + 1)), (by first | rfl | (simp; done) | (simp [*]; done)), (by first | rfl | (simp; done) | (simp [*]; done)), H', ⟨by have := HJ4.out; have := HK2.out; omega⟩, ⟨by (with_reducible repeat (first | apply Kd.R_alloc | apply Kd.R_drewN | apply Kd.R_drew)); exact HO_6.out⟩, ⟨uq_⟩, ⟨uq_⟩, ⟨uq_⟩, ⟨hB_⟩⟩
          ·
           replace c56 := Bool.eq_false_iff.mpr c56
           subst c56
           have H1 : (laws_FnApartEnds.l0 k2 y614 (((rd_T25 y614 x8_2).f0) == t597 && (((rd_T25 y614 x8_2).f1) == t598)) (wrap64 (x8_2 + 1)) t587 t588 t589 t590 t591 t592 t593 t594 t597 t598) = some r := by rw [if_neg (show ¬ (false = true) by decide)] at H; exact H
           clear H
           have H := H1
           clear H1
           have H' := Aside0.mk H
           clear H
           obtain ⟨Ao61, co61, eo61⟩ := Kd.R_slice HO_6.out
           subst eo61
           try go_wp2
           have n0_ := Aside0.mk (Kd.R_drew HO_6.out)
           have n1_ := Aside0.mk (blk_drew BK595.out)
           have n2_ := Aside0.mk (blk_drew BK596.out)
           have n3_ := Aside0.mk (blk_drew BK599.out)
           have n4_ := Aside0.mk (below_drew1 HB.out)
           clear HO_6 BK595 BK596 BK599 HB
           have HO_6 := n0_
           have BK595 := n1_
           have BK596 := n2_
           have BK599 := n3_
           have HB := n4_
           clear n0_ n1_ n2_ n3_ n4_
           have p617 : 0 ≤ (x8_2 : Int) := of_decide_eq_true (by first | (with_reducible assumption) | assumption)
           have q617 : x8_2 < (y614.length : Int) := of_decide_eq_true (by first | (with_reducible assumption) | assumption)
           obtain ⟨ad617, e617, hx617_0, hx617_1⟩ := at_T25 (Kd.R_reads' HO_6.out).2.2 x8_2 p617 q617
           cases e617
           replace p617 := eq_true p617
           replace q617 := eq_true q617
           refine start_ (n := 7) (S := fun w' => w'.cell? ⟨gb599, 0, none⟩ = some (.int .i64 t597) ∧ w'.cell? ⟨gb599, 1, none⟩ = some (.int .i64 t598) ∧ w'.cell? (ad617.add ((x8_2).toNat * 2)) = some (.int .i64 ((rd_T25 y614 x8_2).f0)) ∧ w'.cell? ⟨(ad617.add ((x8_2).toNat * 2)).block, (ad617.add ((x8_2).toNat * 2)).off + 1, none⟩ = some (.int .i64 ((rd_T25 y614 x8_2).f1))) (ds := []) #[false, false, false, false, false, false, false] (by kernel_rfl) rfl rfl ⟨bc_, bc_, hx617_0, hx617_1⟩ (fun hHeld => ?_)
           generalize wr.drew = w62 at HO_6 BK595 BK596 BK599 HB hx617_0 hx617_1 hHeld ⊢
           refine pure_ (i := 1) (N := some 64) (v := ?_) (a' := ?_) (bm 7 2) rfl rfl (by kernel_rfl) (fun _ _ _ h => h) (Or.inl ⟨by rfl, ?_⟩) ?_ ?_
           rotate_left
           ·
            intro w'
            go_simp
            with_reducible rfl
           rotate_left
           ·
            simp only [Act.put, List.setIfInBounds_toArray, List.set_cons_zero, List.set_cons_succ, i64_w, i32_w]
            rfl
           refine pure_ (i := 2) (N := some 65) (v := ?_) (a' := ?_) (bm 7 6) rfl rfl (by kernel_rfl) (fun _ _ _ h => h) (Or.inl ⟨by rfl, ?_⟩) ?_ ?_
           rotate_left
           ·
            intro w'
            go_simp
            with_reducible rfl
           rotate_left
           ·
            simp only [Act.put, List.setIfInBounds_toArray, List.set_cons_zero, List.set_cons_succ, i64_w, i32_w]
            rfl
           refine pure_ (i := 3) (N := some 66) (v := ?_) (a' := ?_) (bm 7 14) rfl rfl (by kernel_rfl) (fun _ _ _ h => h) (Or.inl ⟨by rfl, ?_⟩) ?_ ?_
           rotate_left
           ·
            intro w'
            go_simp
            with_reducible rfl
           rotate_left
           ·
            simp only [Act.put, List.setIfInBounds_toArray, List.set_cons_zero, List.set_cons_succ, i64_w, i32_w]
            rfl
           refine take_ (i := 0) (N := some 63) (v := ?_) (a' := ?_) (bm 7 15) rfl rfl (by kernel_rfl) (fun _ _ _ h => h) (Or.inl ⟨by rfl, ?_⟩) hHeld ?_ ?_
           rotate_left
           ·
            rintro w' ⟨s0, s1, s2, s3⟩
            go_simp
            with_reducible rfl
           rotate_left
           ·
            simp only [Act.put, List.setIfInBounds_toArray, List.set_cons_zero, List.set_cons_succ, i64_w, i32_w]
            rfl
           refine take_ (i := 4) (N := some 67) (v := ?_) (a' := ?_) (bm 7 31) rfl rfl (by kernel_rfl) (fun _ _ _ h => h) (Or.inl ⟨by rfl, ?_⟩) hHeld ?_ ?_
           rotate_left
           ·
            rintro w' ⟨s0, s1, s2, s3⟩
            go_simp
            with_reducible rfl
           rotate_left
           ·
            simp only [Act.put, List.setIfInBounds_toArray, List.set_cons_zero, List.set_cons_succ, i64_w, i32_w]
            rfl
           refine one_ (i := 5) (N := some 68) (bm 7 63) rfl rfl (by kernel_rfl) (by decide) (fun K hK => ?_)
           refine goes_ Tryd.func17 (by kernel_rfl) rfl #[.agg #[.int .i64 t597, .int .i64 t598], .agg #[.int .i64 ((rd_T25 y614 x8_2).f0), .int .i64 ((rd_T25 y614 x8_2).f1)]] (by rfl) rfl rfl ma_ ?_
           with_reducible refine (impl_FracCmp.calls t597 t598 ((rd_T25 y614 x8_2).f0) ((rd_T25 y614 x8_2).f1) t618 _ ?side1 A51.out).mono ?_
           (case side1 => exact ErrW.below HE.out hB_)
           rintro e w63 ⟨rfl, hb⟩
           have HS2_ := (hb.cell (World.block_lt_of_cell? _ _ (hHeld.2.2.1))).trans (hHeld.2.2.1)
           have HS3_ := (hb.cell (World.block_lt_of_cell? _ _ (hHeld.2.2.2))).trans (hHeld.2.2.2)
           refine ⟨_, rfl, ?_⟩
           have n0_ := Aside0.mk (Kd.R_below (by (with_reducible repeat (first | apply Kd.R_alloc | apply Kd.R_drewN | apply Kd.R_drew)); exact HO_6.out) hb)
           have n1_ := Aside0.mk (ub_ (g := gb595) hb)
           have n2_ := Aside0.mk (ub_ (g := gb596) hb)
           have n3_ := Aside0.mk (ub_ (g := gb599) hb)
           have n4_ := Aside0.mk (below_step hB_ hb)
           clear HO_6 BK595 BK596 BK599 HB
           have HO_6 := n0_
           have BK595 := n1_
           have BK596 := n2_
           have BK599 := n3_
           have HB := n4_
           clear n0_ n1_ n2_ n3_ n4_
           (try clear hb)
           (try clear hb2)
           (try clear hk)
           (try clear hi)
           refine hK.out _ _ ⟨bc_, bc_, HS2_, HS3_⟩ (fun hHeld => ?_)
           clear hK K
           refine norm_ (a' := ?_) ?_ ?_
           rotate_left
           ·
            show Act.put _ (some 68) _ = _
            simp only [Act.put, List.setIfInBounds_toArray, List.set_cons_zero, List.set_cons_succ, i64_w, i32_w]
            rfl
           refine pure_ (i := 6) (N := some 69) (v := ?_) (a' := ?_) (bm 7 127) rfl rfl (by kernel_rfl) (fun _ _ _ h => h) (Or.inl ⟨by rfl, ?_⟩) ?_ ?_
           rotate_left
           ·
            intro w'
            go_simp
            with_reducible rfl
           rotate_left
           ·
            simp only [Act.put, List.setIfInBounds_toArray, List.set_cons_zero, List.set_cons_succ, i64_w, i32_w]
            rfl
           refine done_ (by kernel_rfl) ?_
           try go_wp2
           have n0_ := Aside0.mk (Kd.R_drew HO_6.out)
           have n1_ := Aside0.mk (blk_drew BK595.out)
           have n2_ := Aside0.mk (blk_drew BK596.out)
           have n3_ := Aside0.mk (blk_drew BK599.out)
           have n4_ := Aside0.mk (below_drew1 HB.out)
           clear HO_6 BK595 BK596 BK599 HB
           have HO_6 := n0_
           have BK595 := n1_
           have BK596 := n2_
           have BK599 := n3_
           have HB := n4_
           clear n0_ n1_ n2_ n3_ n4_
           have p619 : 0 ≤ (x8_2 : Int) := of_decide_eq_true (by first | (with_reducible assumption) | assumption)
           have q619 : x8_2 < (y614.length : Int) := of_decide_eq_true (by first | (with_reducible assumption) | assumption)
           obtain ⟨ad619, e619, hx619_0, hx619_1⟩ := at_T25 (Kd.R_reads' HO_6.out).2.2 x8_2 p619 q619
           obtain rfl : ad617 = ad619 := (by injection e619)
           replace p619 := eq_true p619
           replace q619 := eq_true q619
           refine start_ (n := 10) (S := fun w' => w'.cell? ⟨gb599, 0, none⟩ = some (.int .i64 t597) ∧ w'.cell? ⟨gb599, 1, none⟩ = some (.int .i64 t598) ∧ w'.cell? (ad617.add ((x8_2).toNat * 2)) = some (.int .i64 ((rd_T25 y614 x8_2).f0)) ∧ w'.cell? ⟨(ad617.add ((x8_2).toNat * 2)).block, (ad617.add ((x8_2).toNat * 2)).off + 1, none⟩ = some (.int .i64 ((rd_T25 y614 x8_2).f1))) (ds := []) #[false, false, false, false, false, false, false, false, false, false] (by kernel_rfl) rfl rfl ⟨bc_, bc_, hx619_0, hx619_1⟩ (fun hHeld => ?_); refine with_tabW laws_FnApartEnds.tab14 laws_FnApartEnds.bits14 (fun HT_ HW_ => ?_)
           generalize w63.drew = w64 at HO_6 BK595 BK596 BK599 HB hx619_0 hx619_1 hHeld ⊢
           refine pure_ (i := 0) (N := some 70) (v := ?_) (a' := ?_) (bm 10 1) rfl rfl (any_of HT_.out (by kernel_rfl)) (fun _ _ _ h => h) (Or.inl ⟨by rfl, ?_⟩) ?_ ?_
           rotate_left
           ·
            intro w'
            go_simp
            with_reducible rfl
           rotate_left
           ·
            simp only [Act.put, List.setIfInBounds_toArray, List.set_cons_zero, List.set_cons_succ, i64_w, i32_w]
            rfl
           refine pure_ (i := 1) (N := some 71) (v := ?_) (a' := ?_) (bm 10 3) rfl rfl (any_of HT_.out (by kernel_rfl)) (fun _ _ _ h => h) (Or.inl ⟨by rfl, ?_⟩) ?_ ?_
           rotate_left
           ·
            intro w'
            go_simp
            with_reducible rfl
           rotate_left
           ·
            simp only [Act.put, List.setIfInBounds_toArray, List.set_cons_zero, List.set_cons_succ, i64_w, i32_w]
            rfl
           refine pure_ (i := 2) (N := some 72) (v := ?_) (a' := ?_) (bm 10 7) rfl rfl (any_of HT_.out (by kernel_rfl)) (fun _ _ _ h => h) (Or.inl ⟨by rfl, ?_⟩) ?_ ?_
           rotate_left
           ·
            intro w'
            go_simp
            with_reducible rfl
           rotate_left
           ·
            simp only [Act.put, List.setIfInBounds_toArray, List.set_cons_zero, List.set_cons_succ, i64_w, i32_w]
            rfl
           refine pure_ (i := 3) (N := some 73) (v := ?_) (a' := ?_) (bm 10 15) rfl rfl (any_of HT_.out (by kernel_rfl)) (fun _ _ _ h => h) (Or.inl ⟨by rfl, ?_⟩) ?_ ?_
           rotate_left
           ·
            intro w'
            go_simp
            with_reducible rfl
           rotate_left
           ·
            simp only [Act.put, List.setIfInBounds_toArray, List.set_cons_zero, List.set_cons_succ, i64_w, i32_w]
            rfl
           refine pure_ (i := 4) (N := some 74) (v := ?_) (a' := ?_) (bm 10 31) rfl rfl (any_of HT_.out (by kernel_rfl)) (fun _ _ _ h => h) (Or.inl ⟨by rfl, ?_⟩) ?_ ?_
           rotate_left
           ·
            intro w'
            go_simp
            with_reducible rfl
           rotate_left
           ·
            simp only [Act.put, List.setIfInBounds_toArray, List.set_cons_zero, List.set_cons_succ, i64_w, i32_w]
            rfl
           refine take_ (i := 5) (N := some 75) (v := ?_) (a' := ?_) (bm 10 63) rfl rfl (take_ofW HT_.out HW_.out (by kernel_rfl)) (fun _ _ _ h => h) (Or.inl ⟨by rfl, ?_⟩) hHeld ?_ ?_
           rotate_left
           ·
            rintro w' ⟨s0, s1, s2, s3⟩
            go_simp
            with_reducible rfl
           rotate_left
           ·
            simp only [Act.put, List.setIfInBounds_toArray, List.set_cons_zero, List.set_cons_succ, i64_w, i32_w]
            rfl
           refine take_ (i := 6) (N := some 76) (v := ?_) (a' := ?_) (bm 10 127) rfl rfl (take_ofW HT_.out HW_.out (by kernel_rfl)) (fun _ _ _ h => h) (Or.inl ⟨by rfl, ?_⟩) hHeld ?_ ?_
           rotate_left
           ·
            rintro w' ⟨s0, s1, s2, s3⟩
            go_simp
            with_reducible rfl
           rotate_left
           ·
            simp only [Act.put, List.setIfInBounds_toArray, List.set_cons_zero, List.set_cons_succ, i64_w, i32_w]
            rfl
           refine pure_ (i := 7) (N := some 77) (v := ?_) (a' := ?_) (bm 10 255) rfl rfl (any_of HT_.out (by kernel_rfl)) (fun _ _ _ h => h) (Or.inl ⟨by rfl, ?_⟩) ?_ ?_
           rotate_left
           ·
            intro w'
            go_simp
            with_reducible rfl
           rotate_left
           ·
            simp only [Act.put, List.setIfInBounds_toArray, List.set_cons_zero, List.set_cons_succ, i64_w, i32_w]
            rfl
           refine pure_ (i := 8) (N := some 78) (v := ?_) (a' := ?_) (bm 10 511) rfl rfl (any_of HT_.out (by kernel_rfl)) (fun _ _ _ h => h) (Or.inl ⟨by rfl, ?_⟩) ?_ ?_
           rotate_left
           ·
            intro w'
            go_simp
            with_reducible rfl
           rotate_left
           ·
            simp only [Act.put, List.setIfInBounds_toArray, List.set_cons_zero, List.set_cons_succ, i64_w, i32_w]
            rfl
           refine pure_ (i := 9) (N := some 7) (v := ?_) (a' := ?_) (bm 10 1023) rfl rfl (any_of HT_.out (by kernel_rfl)) (fun _ _ _ h => h) (Or.inl ⟨by rfl, ?_⟩) ?_ ?_
           rotate_left
           ·
            intro w'
            go_simp
            with_reducible rfl
           rotate_left
           ·
            simp only [Act.put, List.setIfInBounds_toArray, List.set_cons_zero, List.set_cons_succ, i64_w, i32_w]
            rfl
           refine done_ (done_of HT_.out (by kernel_rfl)) ?_
           try go_wp2
           go_roundg k2
           case measure => have := HJ4.out; have := HK2.out; omega
           case rel => exact ⟨((((rd_T25 y614 x8_2).f0) == t597 && (((rd_T25 y614 x8_2).f1) == t598))), (wrap64 (x8_2 + 1)), (by first | rfl | (simp; done) | (simp [*]; done)), (by first | rfl | (simp; done) | (simp [*]; done)), H', ⟨by have := HJ4.out; have := HK2.out; omega⟩, ⟨by (with_reducible repeat (first | apply Kd.R_alloc | apply Kd.R_drewN | apply Kd.R_drew)); exact HO_6.out⟩, ⟨uq_⟩, ⟨uq_⟩, ⟨uq_⟩, ⟨hB_⟩⟩
        ·
         rw [if_neg c50] at H
         exact absurd H (by simp)
       ·
        rw [if_neg c49] at H
        have c49b0 : decide (x8_2 < (y614.length : Int)) = false := decide_eq_false c49
        clear c49
        by_cases c65 : x7_2 = true
        ·
         subst c65
         have H1 : (some true) = some r := by rw [if_pos rfl] at H; exact H
         clear H
         have H := H1
         clear H1
         obtain rfl := Option.some.inj H
         obtain ⟨Ao66, co66, eo66⟩ := Kd.R_slice HO_6.out
         subst eo66
         go_wp2
         go_ret
         exact ⟨by first | rfl | (simp [errW_none, errW_some] <;> rfl) | (simp [*, errW_none, errW_some] <;> rfl), hB_⟩
        ·
         replace c65 := Bool.eq_false_iff.mpr c65
         subst c65
         have H1 : ((impl_SegMeet.f k2 t587 t588 t589 t590 t591 t592 t593 t594).bind fun t620 => (some t620)) = some r := by rw [if_neg (show ¬ (false = true) by decide)] at H; exact H
         clear H
         have H := H1
         clear H1
         replace H := Option.bind_eq_some_iff.mp H
         obtain ⟨t620, A670, H⟩ := H
         replace H : (some t620) = some r := H
         have A67 := Aside0.mk A670
         clear A670
         obtain rfl := Option.some.inj H
         obtain ⟨Ao68, co68, eo68⟩ := Kd.R_slice HO_6.out
         subst eo68
         have hnb69 := NB595_596.out
         have hnc69 := NB596_595.out
         have hnb70 := NB595_599.out
         have hnc70 := NB599_595.out
         have hcz71_0 : wr.cell? ⟨gb595, 0, none⟩ = some (.int .i64 t587) := bc_
         have hcz71_1 : wr.cell? ⟨gb595, 1, none⟩ = some (.int .i64 t588) := bc_
         have hcz71_2 : wr.cell? ⟨gb595, 2, none⟩ = some (.int .i64 t589) := bc_
         have hcz71_3 : wr.cell? ⟨gb595, 3, none⟩ = some (.int .i64 t590) := bc_
         have hfz71_0 := blk_frozen BK595.out 0
         have hfz71_1 := blk_frozen BK595.out 1
         have hfz71_2 := blk_frozen BK595.out 2
         have hfz71_3 := blk_frozen BK595.out 3
         have hnb72 := NB596_599.out
         have hnc72 := NB599_596.out
         have hcz73_0 : wr.cell? ⟨gb596, 0, none⟩ = some (.int .i64 t591) := bc_
         have hcz73_1 : wr.cell? ⟨gb596, 1, none⟩ = some (.int .i64 t592) := bc_
         have hcz73_2 : wr.cell? ⟨gb596, 2, none⟩ = some (.int .i64 t593) := bc_
         have hcz73_3 : wr.cell? ⟨gb596, 3, none⟩ = some (.int .i64 t594) := bc_
         have hfz73_0 := blk_frozen BK596.out 0
         have hfz73_1 := blk_frozen BK596.out 1
         have hfz73_2 := blk_frozen BK596.out 2
         have hfz73_3 := blk_frozen BK596.out 3
         go_wp2_with (first | (go_at_call 37; (with_reducible refine (impl_SegMeet.calls k2 t587 t588 t589 t590 t591 t592 t593 t594 t620 _ A67.out).mono ?_); rintro e w74 ⟨rfl, hb⟩; have n0_ := Aside0.mk (Kd.R_below (by (with_reducible repeat (first | apply Kd.R_alloc | apply Kd.R_drewN | apply Kd.R_drew)); exact HO_6.out) hb); have n1_ := Aside0.mk (ub_ (g := gb595) hb); have n2_ := Aside0.mk (ub_ (g := gb596) hb); have n3_ := Aside0.mk (ub_ (g := gb599) hb); have n4_ := Aside0.mk (below_step hB_ hb); clear HO_6; clear BK595; clear BK596; clear BK599; clear HB; have HO_6 := n0_; have BK595 := n1_; have BK596 := n2_; have BK599 := n3_; have HB := n4_; clear n0_ n1_ n2_ n3_ n4_; (try clear hb); (try clear hb2); (try clear hk); (try clear hi)))
         go_ret
         exact ⟨by first | rfl | (simp [errW_none, errW_some] <;> rfl) | (simp [*, errW_none, errW_some] <;> rfl), hB_⟩
/-- THE ONE PURE STATEMENT of laws_FnApartEnds: yours. -/
def laws_FnApartEnds.Pure : Prop := ∀ (l0 : List Int), l0.length ≤ maxLen → l0.length * 1 ≤ 140737488351232 → (∀ x ∈ l0, (Lit.int .u8 x).wf = true) → ∃ k, laws_FnApartEnds.f k l0 = some true
theorem laws_FnApartEnds.walk (P : laws_FnApartEnds.Pure) (a0 : Option Addr) (len0 cap0 : Nat) (z0 : List Int) (w : World) (hE : ErrW w) (w0 : (a0 = none ∧ len0 = 0 ∧ cap0 = 0 ∧ z0 = []) ∨ ∃ x, a0 = some x ∧ len0 ≤ cap0 ∧ cap0 ≤ maxLen ∧ z0.length = cap0 ∧ (∀ i, i < z0.length → w.cell? (x.add i) = some (.int .u8 (z0.getD i 0))) ∧ ∀ n ∈ z0, (Lit.int .u8 n).wf = true) (y0 : len0 * 1 ≤ 140737488351232) :
  Calls Tryd.prog 12 #[.slice a0 len0 cap0] w fun e w' => e = .returned (.bool true) ∧ Below w.heap.size w w' := by
 obtain ⟨l0, rfl, hr0, hm0, hw0, hc0⟩ := ReadsInt.ofRowC w0
 obtain ⟨k, h⟩ := P l0 hm0 y0 hw0
 refine (laws_FnApartEnds.calls k _ _ l0 true w (Kd.C_of_reads (d := (0 : Int)) (h1 := fun _ => rfl) hr0) hc0 hE h).mono ?_
 rintro e w' ⟨rfl, hd⟩
 exact ⟨rfl, hd⟩
end Go.Proofs.YtnponnkcfgjeoaaDoor.X
end
section
set_option linter.unusedVariables false
set_option linter.unusedSimpArgs false
namespace Go.Proofs.YtnponnkcfgjeoaaDoor.X
open Go.RowKit Go.Proofs.YtnponnkcfgjeoaaDoorW.PrintWords Go.Proofs.YtnponnkcfgjeoaaDoorW.PrintLast Go.Proofs.YtnponnkcfgjeoaaDoorW.PrintMore
open Mort
theorem sSegApart {k : Nat} (hk : 100000 ≤ k) (a b c d e f g h : Int) :
    spec_SegApart.f k a b c d e f g h = some ((segApart ((a, b), (c, d)) ((e, f), (g, h))).1, (segApart ((a, b), (c, d)) ((e, f), (g, h))).2) := by
  unfold spec_SegApart.f segApart
  simp only [sSegOk, Option.bind_some]
  cases hs : segOk ((a, b), (c, d)) with
  | false => simp
  | true =>
    cases ht : segOk ((e, f), (g, h)) with
    | false => simp
    | true =>
      obtain ⟨o1, o2⟩ := segOk_ends hs
      obtain ⟨o3, o4⟩ := segOk_ends ht
      have f1 : fracOk (red (far ((a, b), (c, d)) (e, f))) = true := red_ok (far_inR hs o3)
      have f2 : fracOk (red (far ((a, b), (c, d)) (g, h))) = true := red_ok (far_inR hs o4)
      have f3 : fracOk (red (far ((e, f), (g, h)) (a, b))) = true := red_ok (far_inR ht o1)
      have f4 : fracOk (red (far ((e, f), (g, h)) (c, d))) = true := red_ok (far_inR ht o2)
      have l1 := least_ok f1 f2
      have l2 := least_ok f3 f4
      simp only [if_true, Bool.and_self]
      unfold spec_l2Apart.f
      rw [sMeet o1 o2 o3 o4]
      simp only [Option.bind_some]
      cases hm : meet ((a, b), (c, d)) ((e, f), (g, h)) with
      | true => simp
      | false =>
        simp only [Bool.false_eq_true, if_false]
        rw [sL2Far hk hs o3, sL2Far hk hs o4, sL2Far hk ht o1, sL2Far hk ht o2]
        simp only [Option.bind_some]
        rw [sLeast (n := (red (far ((a, b), (c, d)) (e, f))).1) (d := (red (far ((a, b), (c, d)) (e, f))).2) (m := (red (far ((a, b), (c, d)) (g, h))).1) (q := (red (far ((a, b), (c, d)) (g, h))).2) f1 f2, sLeast (n := (red (far ((e, f), (g, h)) (a, b))).1) (d := (red (far ((e, f), (g, h)) (a, b))).2) (m := (red (far ((e, f), (g, h)) (c, d))).1) (q := (red (far ((e, f), (g, h)) (c, d))).2) f3 f4]
        simp only [Option.bind_some]
        rw [sLeast (n := (least (red (far ((a, b), (c, d)) (e, f))) (red (far ((a, b), (c, d)) (g, h)))).1) (d := (least (red (far ((a, b), (c, d)) (e, f))) (red (far ((a, b), (c, d)) (g, h)))).2) (m := (least (red (far ((e, f), (g, h)) (a, b))) (red (far ((e, f), (g, h)) (c, d)))).1) (q := (least (red (far ((e, f), (g, h)) (a, b))) (red (far ((e, f), (g, h)) (c, d)))).2) l1 l2]
        rfl
end Go.Proofs.YtnponnkcfgjeoaaDoor.X
end
section
set_option linter.unusedVariables false
set_option linter.unusedSimpArgs false
namespace Go.Proofs.YtnponnkcfgjeoaaDoor.X
open Go.RowKit Go.Proofs.YtnponnkcfgjeoaaDoorW.PrintWords Go.Proofs.YtnponnkcfgjeoaaDoorW.PrintLast Go.Proofs.YtnponnkcfgjeoaaDoorW.PrintMore
open Mort
def small (x : Int) : Prop := -100 ≤ x ∧ x ≤ 100
theorem l71Pt_told {l : List Int} (hl : Bytes l) {p : Int} (hp : 0 ≤ p) (hp' : p ≤ 900000) :
    ∃ x y q, (∀ k, 1 ≤ k → spec_l71Pt.f k l p = some (x, y, q)) ∧ p ≤ q ∧ q ≤ p + 10 ∧ small x ∧ small y := by
  obtain ⟨r1, h1, a1, b1⟩ := pick_told hl (p := p) (n := 10) hp (by omega) (by omega) (by omega)
  obtain ⟨r2, h2, a2, b2⟩ := pick_told hl (p := p + 1) (n := 10) (by omega) (by omega) (by omega) (by omega)
  obtain ⟨r3, h3, a3, b3⟩ := pick_told hl (p := p + 1 + 1) (n := 40) (by omega) (by omega) (by omega) (by omega)
  obtain ⟨r4, h4, a4, b4⟩ := pick_told hl (p := p + 1 + 1 + 1) (n := 2) (by omega) (by omega) (by omega) (by omega)
  have hr : -1 ≤ rd [(-1), 10] r4 ∧ rd [(-1), 10] r4 ≤ 10 := by
    have : r4 = 0 ∨ r4 = 1 := by omega
    rcases this with rfl | rfl <;> decide
  unfold small
  by_cases z0 : r3 = 0
  · refine ⟨rd [(-1), 10] r4, r2, p + 1 + 1 + 1 + 1, fun k hk => ?_, by omega, by omega, by omega, by omega⟩
    unfold spec_l71Pt.f
    rw [h1 k hk]; simp only [Option.bind_some]
    rw [h2 k hk]; simp only [Option.bind_some]
    rw [h3 k hk]; simp only [Option.bind_some]
    rw [if_pos z0, h4 k hk]; simp only [Option.bind_some]
    rw [if_pos a4, if_pos (by simpa using b4)]
  · by_cases z1 : r3 = 1
    · refine ⟨r1, rd [(-1), 10] r4, p + 1 + 1 + 1 + 1, fun k hk => ?_, by omega, by omega, by omega, by omega⟩
      unfold spec_l71Pt.f
      rw [h1 k hk]; simp only [Option.bind_some]
      rw [h2 k hk]; simp only [Option.bind_some]
      rw [h3 k hk]; simp only [Option.bind_some]
      rw [if_neg z0, if_pos z1, h4 k hk]; simp only [Option.bind_some]
      rw [if_pos a4, if_pos (by simpa using b4)]
    · refine ⟨r1, r2, p + 1 + 1 + 1, fun k hk => ?_, by omega, by omega, by omega, by omega⟩
      unfold spec_l71Pt.f
      rw [h1 k hk]; simp only [Option.bind_some]
      rw [h2 k hk]; simp only [Option.bind_some]
      rw [h3 k hk]; simp only [Option.bind_some]
      rw [if_neg z0, if_neg z1]
theorem l71Seg_told {l : List Int} (hl : Bytes l) {p : Int} (hp : 0 ≤ p) (hp' : p ≤ 800000) :
    ∃ a b c d q, (∀ k, 1 ≤ k → spec_l71Seg.f k l p = some (a, b, c, d, q)) ∧ p ≤ q ∧ q ≤ p + 30 ∧ small a ∧ small b ∧ small c ∧ small d := by
  obtain ⟨a, b, q1, h1, c1, d1, s1, t1⟩ := l71Pt_told hl (p := p) hp (by omega)
  obtain ⟨c, d, q2, h2, c2, d2, s2, t2⟩ := l71Pt_told hl (p := q1) (by omega) (by omega)
  obtain ⟨r, h3, a3, b3⟩ := pick_told hl (p := q2) (n := 4) (by omega) (by omega) (by omega) (by omega)
  by_cases z : r = 0
  · refine ⟨a, b, c, b, q2 + 1, fun k hk => ?_, by omega, by omega, s1, t1, s2, t1⟩
    unfold spec_l71Seg.f
    rw [h1 k hk]; simp only [Option.bind_some]
    rw [h2 k hk]; simp only [Option.bind_some]
    rw [h3 k hk]; simp only [Option.bind_some]
    rw [if_pos z]
  · refine ⟨a, b, c, d, q2 + 1, fun k hk => ?_, by omega, by omega, s1, t1, s2, t2⟩
    unfold spec_l71Seg.f
    rw [h1 k hk]; simp only [Option.bind_some]
    rw [h2 k hk]; simp only [Option.bind_some]
    rw [h3 k hk]; simp only [Option.bind_some]
    rw [if_neg z]
theorem l71On_told {l : List Int} (hl : Bytes l) {p : Int} (hp : 0 ≤ p) (hp' : p ≤ 700000) :
    ∃ a b c d e f q, (∀ k, 1 ≤ k → spec_l71On.f k l p = some (a, b, c, d, e, f, q)) ∧ p ≤ q ∧ q ≤ p + 100 := by
  obtain ⟨a, b, c, d, q1, h1, c1, d1, _⟩ := l71Seg_told hl (p := p) hp (by omega)
  obtain ⟨e, f, q2, h2, c2, d2, _⟩ := l71Pt_told hl (p := q1) (by omega) (by omega)
  obtain ⟨r3, h3, a3, b3⟩ := pick_told hl (p := q2) (n := 3) (by omega) (by omega) (by omega) (by omega)
  by_cases z : r3 > 0
  · obtain ⟨r4, h4, a4, b4⟩ := pick_told hl (p := q2 + 1) (n := 5) (by omega) (by omega) (by omega) (by omega)
    obtain ⟨r5, h5, a5, b5⟩ := pick_told hl (p := q2 + 1 + 1) (n := 5) (by omega) (by omega) (by omega) (by omega)
    obtain ⟨r6, h6, a6, b6⟩ := pick_told hl (p := q2 + 1 + 1 + 1) (n := 3) (by omega) (by omega) (by omega) (by omega)
    obtain ⟨r7, h7, a7, b7⟩ := pick_told hl (p := q2 + 1 + 1 + 1 + 1) (n := 3) (by omega) (by omega) (by omega) (by omega)
    obtain ⟨r8, h8, a8, b8⟩ := pick_told hl (p := q2 + 1 + 1 + 1 + 1 + 1) (n := 2) (by omega) (by omega) (by omega) (by omega)
    have e8 : wrap64 (wrap64 (1 + r8) + 1) = 1 + r8 + 1 := by rw [w64 (x := 1 + r8) (by omega) (by omega), w64 (by omega) (by omega)]
    obtain ⟨r9, h9, a9, b9⟩ := pick_told hl (p := q2 + 1 + 1 + 1 + 1 + 1 + 1) (n := 1 + r8 + 1) (by omega) (by omega) (by omega) (by omega)
    obtain ⟨ra, ha, aa, ba⟩ := pick_told hl (p := q2 + 1 + 1 + 1 + 1 + 1 + 1 + 1) (n := 1 + r8 + 1) (by omega) (by omega) (by omega) (by omega)
    obtain ⟨rb, hb, ab, bb⟩ := pick_told hl (p := q2 + 1 + 1 + 1 + 1 + 1 + 1 + 1 + 1) (n := 2) (by omega) (by omega) (by omega) (by omega)
    have go : ∀ k, 1 ≤ k → spec_l71On.f k l p = if rb = 0 then _ else _ := fun k hk => by
      unfold spec_l71On.f
      rw [h1 k hk]; simp only [Option.bind_some]
      rw [h2 k hk]; simp only [Option.bind_some]
      rw [h3 k hk]; simp only [Option.bind_some]
      rw [if_pos z, h4 k hk]; simp only [Option.bind_some]
      rw [h5 k hk]; simp only [Option.bind_some]
      rw [h6 k hk]; simp only [Option.bind_some]
      rw [h7 k hk]; simp only [Option.bind_some]
      rw [h8 k hk]; simp only [Option.bind_some]
      rw [e8, h9 k hk]; simp only [Option.bind_some]
      rw [ha k hk]; simp only [Option.bind_some]
      rw [hb k hk]; simp only [Option.bind_some]
      rfl
    by_cases y : rb = 0
    · exact ⟨_, _, _, _, _, _, _, fun k hk => by rw [go k hk, if_pos y], by omega, by omega⟩
    · exact ⟨_, _, _, _, _, _, _, fun k hk => by rw [go k hk, if_neg y], by omega, by omega⟩
  · refine ⟨a, b, c, d, e, f, q2 + 1, fun k hk => ?_, by omega, by omega⟩
    unfold spec_l71On.f
    rw [h1 k hk]; simp only [Option.bind_some]
    rw [h2 k hk]; simp only [Option.bind_some]
    rw [h3 k hk]; simp only [Option.bind_some]
    rw [if_neg z]
theorem drawSegApart_told (l : List Int) (h : ∀ x ∈ l, (Lit.int .u8 x).wf = true) :
    ∃ a b c d e f g i : Int, ∀ k, 1 ≤ k → spec_DrawSegApart.f k l = some (a, b, c, d, e, f, g, i) := by
  obtain ⟨m, ho, hm⟩ := open_told l h
  obtain ⟨a, b, c, d, e, f, q, h1, c1, d1⟩ := l71On_told hm (p := 0) (by omega) (by omega)
  obtain ⟨s, t, u, v, q1, h2, c2, d2, _⟩ := l71Seg_told hm (p := q) (by omega) (by omega)
  obtain ⟨r, h3, a3, b3⟩ := pick_told hm (p := q1) (n := 5) (by omega) (by omega) (by omega) (by omega)
  by_cases z : r < 3
  · refine ⟨a, b, c, d, e, f, u, v, fun k hk => ?_⟩
    unfold spec_DrawSegApart.f spec_l71Two.f
    rw [ho]; simp only [Option.bind_some]
    rw [h1 k hk]; simp only [Option.bind_some]
    rw [h2 k hk]; simp only [Option.bind_some]
    rw [h3 k hk]; simp only [Option.bind_some]
    rw [if_pos z]; rfl
  · refine ⟨a, b, c, d, s, t, u, v, fun k hk => ?_⟩
    unfold spec_DrawSegApart.f spec_l71Two.f
    rw [ho]; simp only [Option.bind_some]
    rw [h1 k hk]; simp only [Option.bind_some]
    rw [h2 k hk]; simp only [Option.bind_some]
    rw [h3 k hk]; simp only [Option.bind_some]
    rw [if_neg z]; rfl
end Go.Proofs.YtnponnkcfgjeoaaDoor.X
end
section
set_option linter.unusedVariables false
namespace Go.Proofs.YtnponnkcfgjeoaaDoor.Pure
open Go.RowKit Go.Proofs.YtnponnkcfgjeoaaDoor.X Go.Proofs.YtnponnkcfgjeoaaDoorW.PrintWords Go.Proofs.YtnponnkcfgjeoaaDoorW.PrintLast
open Mort
theorem ends_step {L : List S25} {k : Nat} {x : Bool} {i : Int} {a b c d e f g h p q u v : Int} (h0 : 0 ≤ i) (h1 : i < (L.length : Int)) (h2 : i < 100) (hr : rd_T25 L i = ⟨u, v⟩) (hc : fracCmp (p, q) (u, v) ≤ 0) :
    laws_FnApartEnds.l0 (k + 1) L x i a b c d e f g h p q = laws_FnApartEnds.l0 k L (x || (u == p && (v == q))) (i + 1) a b c d e f g h p q := by
  rw [laws_FnApartEnds.l0, if_pos h1, if_pos h0, hr, fracCmp_f]
  simp only [Option.bind_some]
  rw [if_neg (Int.not_lt.mpr hc), w64 (by omega) (by omega)]
  cases x with
  | true => simp
  | false => simp
theorem FnApartEnds : laws_FnApartEnds.Pure := by
  intro l _ _ hw
  obtain ⟨a, b, c, d, e, f, g, h, hd⟩ := drawSegApart_told l hw
  obtain ⟨K, hK⟩ : ∃ K : Nat, 100000 ≤ K := ⟨100000, Nat.le_refl _⟩
  refine ⟨K + 1 + 1 + 1 + 1 + 1 + 1, ?_⟩
  unfold laws_FnApartEnds.f
  split
  · rfl
  rw [hd _ (by omega)]; simp only [Option.bind_some]
  rw [sSegApart (by omega)]
  unfold impl_SegApart.f
  simp only [Option.bind_some, beq_self_eq_true, Bool.not_true, Bool.or_self, Bool.false_eq_true, if_false, sSegOk]
  have bad : laws_FnApartEnds.j0 (K + 1 + 1 + 1 + 1 + 1 + 1) true a b c d e f g h (segApart ((a, b), (c, d)) ((e, f), (g, h))).1 (segApart ((a, b), (c, d)) ((e, f), (g, h))).2 = some true := by
    rw [laws_FnApartEnds.j0, if_pos rfl, sSegApart (by omega)]
    simp only [Option.bind_some, beq_self_eq_true, Bool.and_self]
  cases hs : segOk ((a, b), (c, d)) with
  | false => exact bad
  | true =>
    simp only [if_true]
    cases ht : segOk ((e, f), (g, h)) with
    | false => exact bad
    | true =>
      obtain ⟨o1, o2⟩ := segOk_ends hs
      obtain ⟨o3, o4⟩ := segOk_ends ht
      obtain ⟨hok, ⟨v1, v2, v3, v4⟩, hor⟩ := apart_facts hs ht
      have k1 := segFar_ok hs o3
      have k2 := segFar_ok hs o4
      have k3 := segFar_ok ht o1
      have k4 := segFar_ok ht o2
      rw [laws_FnApartEnds.j0]
      simp only [Bool.not_true, Bool.false_eq_true, if_false, impl_SegFar.f, Option.bind_some]
      rw [ends_step (p := (segApart ((a, b), (c, d)) ((e, f), (g, h))).1) (q := (segApart ((a, b), (c, d)) ((e, f), (g, h))).2) (u := (segFar ((a, b), (c, d)) (e, f)).1) (v := (segFar ((a, b), (c, d)) (e, f)).2) (by omega) (by simp) (by omega) rfl ((cmp_le hok k1.1).2 v1)]
      rw [ends_step (p := (segApart ((a, b), (c, d)) ((e, f), (g, h))).1) (q := (segApart ((a, b), (c, d)) ((e, f), (g, h))).2) (u := (segFar ((a, b), (c, d)) (g, h)).1) (v := (segFar ((a, b), (c, d)) (g, h)).2) (by omega) (by simp) (by omega) rfl ((cmp_le hok k2.1).2 v2)]
      rw [ends_step (p := (segApart ((a, b), (c, d)) ((e, f), (g, h))).1) (q := (segApart ((a, b), (c, d)) ((e, f), (g, h))).2) (u := (segFar ((e, f), (g, h)) (a, b)).1) (v := (segFar ((e, f), (g, h)) (a, b)).2) (by omega) (by simp) (by omega) rfl ((cmp_le hok k3.1).2 v3)]
      rw [ends_step (p := (segApart ((a, b), (c, d)) ((e, f), (g, h))).1) (q := (segApart ((a, b), (c, d)) ((e, f), (g, h))).2) (u := (segFar ((e, f), (g, h)) (c, d)).1) (v := (segFar ((e, f), (g, h)) (c, d)).2) (by omega) (by simp) (by omega) rfl ((cmp_le hok k4.1).2 v4)]
      rw [laws_FnApartEnds.l0, if_neg (by simp)]
      rcases hor with ⟨hm, _⟩ | ⟨_, he⟩
      · rw [iSegMeet (by omega)]
        have hM : segMeet ((a, b), (c, d)) ((e, f), (g, h)) = true := (segMeet_iff _ _).2 ⟨hs, ht, hm⟩
        rw [hM]
        simp only [Option.bind_some, ite_self]
      · rw [if_pos]
        rcases he with he | he | he | he <;> rw [he] <;> simp
end Go.Proofs.YtnponnkcfgjeoaaDoor.Pure
end
section
namespace Go.Proofs.YtnponnkcfgjeoaaDoorW.PrintWords
open Go.ChangeShapes Go.WideShapes
/-- A row's slice of whole numbers is no longer than its weight allows. -/
theorem sized_ints {H : Type} {enc : TypeId × Value → H} {P : Program} {W : World} {base : Nat} {spare : Nat → Bool} {held : Bool} {t e : TypeId} {k : IntKind} {a : Option Addr} {len cap : Nat} {d : DataW H} {ps : List MemPlace} {ts : List TypeId} {ds : List (DataW H)} {j : Nat}
    (hsz : (DataW.weightsEach P ts ds).all (· ≤ reachBytes) = true) (ht : ts[j]? = some t) (hd : ds[j]? = some d) (hu : P.underlying t = some (.slice e)) (he : P.underlying e = some (.int k)) (hc : P.cellsOf e = 1) {B : Nat} (hB : P.bytesOf e = B)
    (h : DataW.Trod enc P W base spare held t (.slice a len cap) d ps) : len * B ≤ 140737488351232 := by
  obtain ⟨fuel, hf⟩ := h
  rcases open_ints hu he hc hf with ⟨hcs, _⟩ | ⟨x, l, c, zs, hcs, _, hl, _, hz, hx, _, _⟩
  · simp [Value.cells] at hcs
    obtain ⟨rfl, rfl, rfl⟩ := hcs
    simp
  · simp [Value.cells] at hcs
    obtain ⟨rfl, rfl, rfl⟩ := hcs
    obtain ⟨hx, _⟩ := Prod.mk.inj hx
    subst hx
    have z := sized_slice hsz ht hd hu
    rw [hB] at z
    have hl2 : len ≤ zs.length := by
      rw [hz]
      split
      · exact hl
      · exact Nat.le_refl _
    have h1 : (lits (H := H) k (zs.take len)).length + (lits (H := H) k (zs.drop len)).length = zs.length := by
      simp [lits]
      omega
    rw [h1] at z
    exact Nat.le_trans (Nat.mul_le_mul_right _ hl2) z
end Go.Proofs.YtnponnkcfgjeoaaDoorW.PrintWords
end
section
set_option linter.unusedVariables false
namespace Go.Proofs.YtnponnkcfgjeoaaDoor.fnApartEnds
open Go Go.ChangeShapes Go.WideShapes Go.ChangeAt Go.RowKit Go.Proofs.YtnponnkcfgjeoaaDoorW
open Go.ChangeMaps (open_string shut_string)
def IsRow (k : IntKind) (w : World) (a : Option Addr) (len cap : Nat) (zs : List Int) : Prop :=
  (a = none ∧ len = 0 ∧ cap = 0 ∧ zs = []) ∨
  ∃ x, a = some x ∧ len ≤ cap ∧ cap ≤ maxLen ∧ zs.length = cap ∧ (∀ i, i < zs.length → w.cell? (x.add i) = some (.int k (zs.getD i 0))) ∧ ∀ n ∈ zs, (Lit.int k n).wf = true
set_option maxRecDepth 100000 in
theorem lifted (os : Os) (started : os.Started) (H : Type) (enc : TypeId × Value → H) :
    ReturnsInHanded {} Tryd.checked os 12 .any (fun w args => (Rows.fnApartEndsSpec.pre enc Tryd.prog Tryd.f12 [] false w args ∧ laidMet Tryd.prog laidErr w) ∧ sizedMet enc Tryd.prog Tryd.f12 (OpenSpec.ofChange Rows.fnApartEndsSpec) false w args) (Rows.fnApartEndsSpec.post enc Tryd.prog Tryd.f12 false true false false) := by
  refine returnsInHanded_of_change_and (C := Tryd.checked) (X := fun w _ => laidMet Tryd.prog laidErr w) (fun _ _ _ hh h => h.of_heap hh) own started (by kernel_rfl) Tryd.func12
    (ChangeSpec.witness_at (enc := enc) (C := Tryd.checked) (os := os) (X := fun w _ => laidMet Tryd.prog laidErr w) false (laidWorld os) #[.slice none 0 0] 8 rfl (by kernel_rfl) (by kernel_rfl) (by kernel_rfl) (by kernel_rfl) (by kernel_rfl) (laidWorld_met os _)) ?_
  intro W base args ds gs before hval0 hW hcnd hsz0 hL _
  have hsz : (DataW.weightsEach Tryd.prog (Tryd.f12.params.toList ++ Rows.fnApartEndsSpec.plain.varTypes Tryd.prog) (ds ++ gs)).all (· ≤ reachBytes) = true := hsz0
  have hval : ∀ (j : Nat) t v, Tryd.f12.params[j]? = some t → args[j]? = some v → Value.okWide Tryd.prog W .any base t v := hval0
  have hW' := hW
  obtain ⟨p, q, hA0, hV0, rfl, hfz, hnd⟩ := hW
  have hA : DataW.TrodAll enc Tryd.prog W 0 (fun _ => true) true Tryd.f12.params.toList args.toList ds p := hA0
  have hV : DataW.TrodVars enc Tryd.prog W (fun _ => true) ["loop.example/mortiser/impl.errNoFrac"] gs q := hV0
  rw [Tryd.params12] at hA hval hsz
  obtain ⟨v0, vs0, d0, ds0, p0, q0, hargs, rfl, rfl, h0, r0⟩ := trodAll_cons hA
  obtain ⟨rfl, rfl, rfl⟩ := trodAll_nil r0
  obtain rfl : args = #[v0] := by cases args; simp_all
  obtain ⟨a, st, hv, hcs, hs0, hz0⟩ := err_of_laid hL
  obtain ⟨rfl, rfl⟩ := hV.unique (errVars enc hv trivial _)
  have hE : ErrW W := ErrW.of_var hv
  obtain ⟨a0, len0, cap0, rfl⟩ := okWide_slice Tryd.underlying28 (hval 0 28 v0 rfl rfl)
  have k0 := h0
  have lt0 : ∀ x ∈ p0, x.block < W.heap.size := by obtain ⟨m, hm⟩ := k0; exact DataW.trod_lt m _ _ _ hm
  obtain ⟨z0, w0⟩ : ∃ zs, IsRow .u8 W a0 len0 cap0 zs := by
    obtain ⟨fuel, hf⟩ := h0
    rcases open_ints Tryd.underlying28 Tryd.underlying5 (by kernel_rfl) hf with ⟨hcs, _⟩ | ⟨x, l, c, zs, hcs, _, hl, hm, hz, _, hcell, hwz⟩
    · simp [Value.cells] at hcs
      obtain ⟨rfl, rfl, rfl⟩ := hcs
      exact ⟨[], .inl ⟨rfl, rfl, rfl, rfl⟩⟩
    · simp [Value.cells] at hcs
      obtain ⟨rfl, rfl, rfl⟩ := hcs
      exact ⟨zs, .inr ⟨_, rfl, hl, hm, by simpa using hz, hcell, hwz⟩⟩
  have y0 : len0 * 1 ≤ 140737488351232 := PrintWords.sized_ints hsz (j := 0) (t := 28) rfl rfl Tryd.underlying28 Tryd.underlying5 (by kernel_rfl) (by kernel_rfl) h0
  clear hA0 hval0 hsz0 hsz
  refine (X.laws_FnApartEnds.walk Pure.FnApartEnds a0 len0 cap0 z0 W hE w0 y0).mono fun e W' ⟨he, bel⟩ => ?_
  subst he
  exact ⟨_, rfl, _, _, _, [], _, [.cell 0 0], hW', trodAll_mk1 (shut_bool Tryd.underlying4 _), (trodAll_cons_mk (Below.trod laidOut (by kernel_rfl) (of_decide_eq_true (by kernel_rfl)) k0 bel lt0) trodAll_mk0), errVars enc (errBelow bel hv) trivial _, bel.frame _, fun h => by cases h⟩
theorem over : Rows.fnApartEndsRow.holds Tryd.pinned (OpenSpec.ofChange Rows.fnApartEndsSpec) :=
  OpenClaim.holds_of_wide 12 Tryd.f12 rfl rfl rfl rfl rfl rfl rfl ⟨rfl, rfl, rfl, rfl, rfl⟩ rfl rfl rfl rfl rfl (by kernel_rfl) Tryd.func12 (by kernel_rfl)
    (of_decide_eq_true (by kernel_rfl)) (by unfold Func.isWrapper; first | (rw [if_pos (by decide +kernel)]; kernel_rfl) | (rw [if_neg (by decide +kernel)]; exact ⟨rfl, rfl⟩))
    (fun os started H enc _ => lifted os started H enc)
theorem proved : Rows.FnApartEndsCardSaid :=
  Claim7.holds_tied_plain_at .later [] [.sentinel] true (true, "367200faf2c18a8d3acd0cadfc4f4a0300d2711da9ddbae6489321d2dd8a2082") true
    over (fun _ h => by cases h) (by kernel_rfl) (fun _ h => by cases h) fnApartEnds_row_tie rfl ⟨rfl, rfl⟩ (by kernel_rfl) rfl
    (fun f fn hf hfn => by
      obtain rfl : f = 12 := Option.some.inj ((show Tryd.prog.funcNamed "loop.example/mortiser/laws.FnApartEnds" = some 12 by kernel_rfl).symm.trans hf) |>.symm
      obtain rfl : fn = Tryd.f12 := (Option.some.inj (Tryd.func12.symm.trans hfn)).symm
      exact ⟨by kernel_rfl, fun j t ht => by
        rw [Tryd.params12] at ht
        have h3 : t = 28 := by
          rcases j with _ | j
          · simpa using ht.symm
          · simp at ht
        subst h3
        exact (show Tryd.prog.wantsStandIn 28 = false by kernel_rfl)⟩)
    (by kernel_rfl)
end Go.Proofs.YtnponnkcfgjeoaaDoor.fnApartEnds
namespace Go.Proofs.YtnponnkcfgjeoaaDoor
/-- The card, under a short name, for the claim. -/
theorem fnApartEnds_holds : Rows.FnApartEndsCardSaid := fnApartEnds.proved
end Go.Proofs.YtnponnkcfgjeoaaDoor
end
