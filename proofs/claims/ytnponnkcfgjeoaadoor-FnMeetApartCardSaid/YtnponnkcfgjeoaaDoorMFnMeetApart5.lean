/- FnMeetApart: the law returns true for every input, and each input reads behind the call as before; part 5 of 7. No condition. Merged by program out of: FSpecL71Two, FSpecDrawSegApart, FSpecL1Gcd, FSpecL1Of, FSpecL2Cross, FSpecL2Dot, FSpecL2Far, FSpecL1Cmp, FSpecL2Least, Geo, FImplCommonDivisor, HFrac, FSpecL6In, EvFrac, FSpecPtOk, FSpecSegOk. -/
import Derived.Test.YtnponnkcfgjeoaaDoorMFnMeetApart4
import Derived.RegionTactic
import Derived.ChangeAlike
import Derived.OwnWalk
import Derived.Outline
import Derived.Deep.RegionWith
import Derived.WalkLawsBesides
import Derived.Laws.Bits64
section
namespace Go.Proofs.YtnponnkcfgjeoaaDoor.X
open Go.RowKit Go.Proofs.YtnponnkcfgjeoaaDoorW.PrintWords Go.Proofs.YtnponnkcfgjeoaaDoorW.PrintLast Go.Proofs.YtnponnkcfgjeoaaDoorW.PrintMore
attribute [local go_sem] max2_int min2_int max_two min_two max_three min_three max_four min_four
set_option linter.unusedVariables false
set_option linter.unusedSimpArgs false
def spec_l71Two.f (k : Nat) (s0_0 : List Int) (s0_1 : Int) : Option (Int × Int × Int × Int × Int × Int × Int × Int × Int) := (spec_l71On.f k s0_0 s0_1).bind fun bt556 => ((spec_l71Seg.f k s0_0 bt556.2.2.2.2.2.2).bind fun bt565 => ((spec_l6Rd_pick.f k s0_0 bt565.2.2.2.2 5).bind fun bt571 => (if bt571.1 < 3 then (some (bt556.1, bt556.2.1, bt556.2.2.1, bt556.2.2.2.1, bt556.2.2.2.2.1, bt556.2.2.2.2.2.1, bt565.2.2.1, bt565.2.2.2.1, bt571.2)) else (some (bt556.1, bt556.2.1, bt556.2.2.1, bt556.2.2.2.1, bt565.1, bt565.2.1, bt565.2.2.1, bt565.2.2.2.1, bt571.2)))))
set_option maxHeartbeats 8000000 in
set_option maxRecDepth 100000 in
theorem spec_l71Two.calls (k : Nat) (g : Nat) (s0_0 : List Int) (s0_1 : Int) (r1 : Int) (r2 : Int) (r3 : Int) (r4 : Int) (r5 : Int) (r6 : Int) (r7 : Int) (r8 : Int) (r9 : Int) (w0 w : World) (hI : IsS96 w0 w g s0_0 s0_1) (hB : Below w0.heap.size w0 w) (h : spec_l71Two.f k s0_0 s0_1 = some (r1, r2, r3, r4, r5, r6, r7, r8, r9)) :
  Calls Tryd.prog 63 #[.pointer (some ⟨g, 0, none⟩)] w fun e w' => e = .returned (.tuple #[.agg #[.int .i64 r1, .int .i64 r2, .int .i64 r3, .int .i64 r4], .agg #[.int .i64 r5, .int .i64 r6, .int .i64 r7, .int .i64 r8]]) ∧ IsS96 w0 w' g s0_0 r9 ∧ Below w0.heap.size w0 w' ∧ KeepBut w w' g none := by
 have hu40 := Tryd.underlying40
 have hu38 := Tryd.underlying38
 have HI0 := Aside0.mk hI
 have HK := Aside0.mk (KeepBut.refl w g none)
 have HL := Aside0.mk hB.size
 clear hI
 have HW0 := Aside0.mk hB.size
 have HB := Aside0.mk hB
 clear hB
 have H : ((spec_l71On.f k s0_0 s0_1).bind fun bt556 => ((spec_l71Seg.f k s0_0 bt556.2.2.2.2.2.2).bind fun bt565 => ((spec_l6Rd_pick.f k s0_0 bt565.2.2.2.2 5).bind fun bt571 => (if bt571.1 < 3 then (some (bt556.1, bt556.2.1, bt556.2.2.1, bt556.2.2.2.1, bt556.2.2.2.2.1, bt556.2.2.2.2.2.1, bt565.2.2.1, bt565.2.2.2.1, bt571.2)) else (some (bt556.1, bt556.2.1, bt556.2.2.1, bt556.2.2.2.1, bt565.1, bt565.2.1, bt565.2.2.1, bt565.2.2.2.1, bt571.2)))))) = some (r1, r2, r3, r4, r5, r6, r7, r8, r9) := h
 clear h
 replace H := Option.bind_eq_some_iff.mp H
 obtain ⟨⟨t556, t557, t558, t559, t560, t561, t562⟩, A20, H⟩ := H
 replace H : ((spec_l71Seg.f k s0_0 t562).bind fun bt565 => ((spec_l6Rd_pick.f k s0_0 bt565.2.2.2.2 5).bind fun bt571 => (if bt571.1 < 3 then (some (t556, t557, t558, t559, t560, t561, bt565.2.2.1, bt565.2.2.2.1, bt571.2)) else (some (t556, t557, t558, t559, bt565.1, bt565.2.1, bt565.2.2.1, bt565.2.2.2.1, bt571.2))))) = some (r1, r2, r3, r4, r5, r6, r7, r8, r9) := H
 have A2 := Aside0.mk A20
 clear A20
 replace H := Option.bind_eq_some_iff.mp H
 obtain ⟨⟨t565, t566, t567, t568, t569⟩, A30, H⟩ := H
 replace H : ((spec_l6Rd_pick.f k s0_0 t569 5).bind fun bt571 => (if bt571.1 < 3 then (some (t556, t557, t558, t559, t560, t561, t567, t568, bt571.2)) else (some (t556, t557, t558, t559, t565, t566, t567, t568, bt571.2)))) = some (r1, r2, r3, r4, r5, r6, r7, r8, r9) := H
 have A3 := Aside0.mk A30
 clear A30
 replace H := Option.bind_eq_some_iff.mp H
 obtain ⟨⟨t571, t572⟩, A40, H⟩ := H
 replace H : (if t571 < 3 then (some (t556, t557, t558, t559, t560, t561, t567, t568, t572)) else (some (t556, t557, t558, t559, t565, t566, t567, t568, t572))) = some (r1, r2, r3, r4, r5, r6, r7, r8, r9) := H
 have A4 := Aside0.mk A40
 clear A40
 by_cases c5 : t571 < 3
 ·
  rw [if_pos c5] at H
  have c5b0 : decide (t571 < 3) = true := decide_eq_true c5
  clear c5
  simp only [Option.some.injEq, Prod.mk.injEq] at H
  obtain ⟨rfl, rfl, rfl, rfl, rfl, rfl, rfl, rfl, rfl⟩ := H
  go_enter Tryd.func63, Tryd.ntmps63
  try go_wp2_with (first | ((with_reducible refine gate_dst (N := 2) rfl ?_); refine box_event ?hg (N := 2) ?hd (cs := #[.int .i64 0, .int .i64 0, .int .i64 0, .int .i64 0]) (t := 40) ?hr ?_; (case hd => rfl); (case hg => rfl); (case hr => first | (go_simp; done) | (go_simp; rfl)); intro gb554 hg w6 hbox hb; have n0_ := Aside0.mk (IsS96.below (by repeat (first | (with_reducible first | exact HI0.out | apply IsS96.alloc | apply IsS96.drewN | apply IsS96.drew | apply IsS96.set_1) | exact HI0.out)) hb); have n1_ := Aside0.mk (KeepBut.trans (by repeat (first | (with_reducible first | exact HK.out | apply KeepBut.set_ | apply keep_drewN | apply keep_drew | apply keep_alloc) | exact HK.out)) (KeepBut.of_below hb g none) (.inl rfl)); have n2_ := Aside0.mk (below_step (by repeat (first | (with_reducible first | exact HB.out | apply below_alloc | apply pw_below_drewN | apply below_drew1 | refine below_set ?_ (IsS96.ge HI0.out)) | exact HB.out)) hb); have n3_ := Aside0.mk (hbox); have n4_ := Aside0.mk ((by rw [hg]; exact (keep_size (w := w) (g := g) (row := none) (by repeat (first | (with_reducible first | exact HK.out | apply KeepBut.set_ | apply keep_drewN | apply keep_drew | apply keep_alloc) | exact HK.out))) : w.heap.size ≤ gb554)); have n5_ := Aside0.mk ((Nat.le_trans HW0.out (by rw [hg]; exact (keep_size (w := w) (g := g) (row := none) (by repeat (first | (with_reducible first | exact HK.out | apply KeepBut.set_ | apply keep_drewN | apply keep_drew | apply keep_alloc) | exact HK.out))) : w.heap.size ≤ gb554) : w0.heap.size ≤ gb554)); have n6_ := Aside0.mk ((by rw [hg]; exact Nat.ne_of_lt (IsS96.lt (show IsS96 w0 _ g s0_0 s0_1 from by repeat (first | (with_reducible first | exact HI0.out | apply IsS96.alloc | apply IsS96.drewN | apply IsS96.drew | apply IsS96.set_1) | exact HI0.out))) : g ≠ gb554)); have n7_ := Aside0.mk ((by rw [hg]; exact Nat.ne_of_gt (IsS96.lt (show IsS96 w0 _ g s0_0 s0_1 from by repeat (first | (with_reducible first | exact HI0.out | apply IsS96.alloc | apply IsS96.drewN | apply IsS96.drew | apply IsS96.set_1) | exact HI0.out))) : gb554 ≠ g)); clear HI0; clear HK; clear HB; have HI0 := n0_; have HK := n1_; have HB := n2_; have BK554 := n3_; have GW554 := n4_; have GE554 := n5_; have NB0_554 := n6_; have NB554_0 := n7_; clear n0_ n1_ n2_ n3_ n4_ n5_ n6_ n7_; clear hb hbox hg) | ((with_reducible refine gate_dst (N := 3) rfl ?_); refine box_event ?hg (N := 3) ?hd (cs := #[.int .i64 0, .int .i64 0, .int .i64 0, .int .i64 0]) (t := 40) ?hr ?_; (case hd => rfl); (case hg => rfl); (case hr => first | (go_simp; done) | (go_simp; rfl)); intro gb555 hg w7 hbox hb; have n0_ := Aside0.mk (IsS96.below (by repeat (first | (with_reducible first | exact HI0.out | apply IsS96.alloc | apply IsS96.drewN | apply IsS96.drew | apply IsS96.set_1 | refine IsS96.far ?_ NB0_554.out _) | exact HI0.out)) hb); have n1_ := Aside0.mk (ub_ (g := gb554) hb); have n2_ := Aside0.mk (KeepBut.trans (by repeat (first | (with_reducible first | exact HK.out | apply KeepBut.set_ | apply keep_drewN | apply keep_drew | apply keep_alloc | refine keep_far ?_ GW554.out _) | exact HK.out)) (KeepBut.of_below hb g none) (.inl rfl)); have n3_ := Aside0.mk (below_step (by repeat (first | (with_reducible first | exact HB.out | apply below_alloc | apply pw_below_drewN | apply below_drew1 | refine below_set ?_ (IsS96.ge HI0.out) | refine below_set ?_ GE554.out) | exact HB.out)) hb); have n4_ := Aside0.mk (hbox); have n5_ := Aside0.mk ((by rw [hg]; exact (keep_size (w := w) (g := g) (row := none) (by repeat (first | (with_reducible first | exact HK.out | apply KeepBut.set_ | apply keep_drewN | apply keep_drew | apply keep_alloc | refine keep_far ?_ GW554.out _) | exact HK.out))) : w.heap.size ≤ gb555)); have n6_ := Aside0.mk ((Nat.le_trans HW0.out (by rw [hg]; exact (keep_size (w := w) (g := g) (row := none) (by repeat (first | (with_reducible first | exact HK.out | apply KeepBut.set_ | apply keep_drewN | apply keep_drew | apply keep_alloc | refine keep_far ?_ GW554.out _) | exact HK.out))) : w.heap.size ≤ gb555) : w0.heap.size ≤ gb555)); have n7_ := Aside0.mk ((by rw [hg]; exact Nat.ne_of_lt (blk_lt (g := gb554) (o := .cells #[.int .i64 0, .int .i64 0, .int .i64 0, .int .i64 0] 40 (0, 0)) uq_) : gb554 ≠ gb555)); have n8_ := Aside0.mk ((by rw [hg]; exact Nat.ne_of_gt (blk_lt (g := gb554) (o := .cells #[.int .i64 0, .int .i64 0, .int .i64 0, .int .i64 0] 40 (0, 0)) uq_) : gb555 ≠ gb554)); have n9_ := Aside0.mk ((by rw [hg]; exact Nat.ne_of_lt (IsS96.lt (show IsS96 w0 _ g s0_0 s0_1 from by repeat (first | (with_reducible first | exact HI0.out | apply IsS96.alloc | apply IsS96.drewN | apply IsS96.drew | apply IsS96.set_1 | refine IsS96.far ?_ NB0_554.out _) | exact HI0.out))) : g ≠ gb555)); have n10_ := Aside0.mk ((by rw [hg]; exact Nat.ne_of_gt (IsS96.lt (show IsS96 w0 _ g s0_0 s0_1 from by repeat (first | (with_reducible first | exact HI0.out | apply IsS96.alloc | apply IsS96.drewN | apply IsS96.drew | apply IsS96.set_1 | refine IsS96.far ?_ NB0_554.out _) | exact HI0.out))) : gb555 ≠ g)); clear HI0; clear BK554; clear HK; clear HB; have HI0 := n0_; have BK554 := n1_; have HK := n2_; have HB := n3_; have BK555 := n4_; have GW555 := n5_; have GE555 := n6_; have NB554_555 := n7_; have NB555_554 := n8_; have NB0_555 := n9_; have NB555_0 := n10_; clear n0_ n1_ n2_ n3_ n4_ n5_ n6_ n7_ n8_ n9_ n10_; clear hb hbox hg) | ((with_reducible refine gate_callee (f := 49) rfl ?_); refine goesL_ (some 9) rfl rfl Tryd.func49 (by kernel_rfl) rfl #[.pointer (some ⟨g, 0, none⟩)] rfl ma_ ?_; (with_reducible refine (spec_l71On.calls k g s0_0 s0_1 t556 t557 t558 t559 t560 t561 t562 w0 _ ?side1 ?side2 A2.out).mono ?_); (case side1 => repeat (first | (with_reducible first | exact HI0.out | apply IsS96.alloc | apply IsS96.drewN | apply IsS96.drew | apply IsS96.set_1 | refine IsS96.far ?_ NB0_554.out _ | refine IsS96.far ?_ NB0_555.out _) | exact HI0.out)); (case side2 => repeat (first | (with_reducible first | exact HB.out | apply below_alloc | apply pw_below_drewN | apply below_drew1 | refine below_set ?_ (IsS96.ge HI0.out) | refine below_set ?_ GE554.out | refine below_set ?_ GE555.out) | exact HB.out)); rintro e w8 ⟨rfl, hi, hb, hk⟩; refine ⟨_, rfl, ?_⟩; have n0_ := Aside0.mk (KeepBut.blk hk (g' := gb554) (o := .cells #[.int .i64 0, .int .i64 0, .int .i64 0, .int .i64 0] 40 (0, 0)) uq_ NB554_0.out (by simp)); have n1_ := Aside0.mk (KeepBut.blk hk (g' := gb555) (o := .cells #[.int .i64 0, .int .i64 0, .int .i64 0, .int .i64 0] 40 (0, 0)) uq_ NB555_0.out (by simp)); have n2_ := Aside0.mk (KeepBut.trans (by repeat (first | (with_reducible first | exact HK.out | apply KeepBut.set_ | apply keep_drewN | apply keep_drew | apply keep_alloc | refine keep_far ?_ GW554.out _ | refine keep_far ?_ GW555.out _) | exact HK.out)) hk (.inl rfl)); have n3_ := Aside0.mk (hb); have n4_ := Aside0.mk (hi); clear BK554; clear BK555; clear HK; clear HB; clear HI0; have BK554 := n0_; have BK555 := n1_; have HK := n2_; have HB := n3_; have HI0 := n4_; clear n0_ n1_ n2_ n3_ n4_; (try clear hb); (try clear hb2); (try clear hk); (try clear hi)) | ((with_reducible refine gate_dst (N := 4) rfl ?_); refine box_event ?hg (N := 4) ?hd (cs := #[.int .i64 0, .int .i64 0, .int .i64 0, .int .i64 0]) (t := 40) ?hr ?_; (case hd => rfl); (case hg => rfl); (case hr => first | (go_simp; done) | (go_simp; rfl)); intro gb563 hg w9 hbox hb; have n0_ := Aside0.mk (IsS96.below (by repeat (first | (with_reducible first | exact HI0.out | apply IsS96.alloc | apply IsS96.drewN | apply IsS96.drew | apply IsS96.set_1 | refine IsS96.far ?_ NB0_554.out _ | refine IsS96.far ?_ NB0_555.out _) | exact HI0.out)) hb); have n1_ := Aside0.mk (ub_ (g := gb554) hb); have n2_ := Aside0.mk (ub_ (g := gb555) hb); have n3_ := Aside0.mk (KeepBut.trans (by repeat (first | (with_reducible first | exact HK.out | apply KeepBut.set_ | apply keep_drewN | apply keep_drew | apply keep_alloc | refine keep_far ?_ GW554.out _ | refine keep_far ?_ GW555.out _) | exact HK.out)) (KeepBut.of_below hb g none) (.inl rfl)); have n4_ := Aside0.mk (below_step (by repeat (first | (with_reducible first | exact HB.out | apply below_alloc | apply pw_below_drewN | apply below_drew1 | refine below_set ?_ (IsS96.ge HI0.out) | refine below_set ?_ GE554.out | refine below_set ?_ GE555.out) | exact HB.out)) hb); have n5_ := Aside0.mk (hbox); have n6_ := Aside0.mk ((by rw [hg]; exact (keep_size (w := w) (g := g) (row := none) (by repeat (first | (with_reducible first | exact HK.out | apply KeepBut.set_ | apply keep_drewN | apply keep_drew | apply keep_alloc | refine keep_far ?_ GW554.out _ | refine keep_far ?_ GW555.out _) | exact HK.out))) : w.heap.size ≤ gb563)); have n7_ := Aside0.mk ((Nat.le_trans HW0.out (by rw [hg]; exact (keep_size (w := w) (g := g) (row := none) (by repeat (first | (with_reducible first | exact HK.out | apply KeepBut.set_ | apply keep_drewN | apply keep_drew | apply keep_alloc | refine keep_far ?_ GW554.out _ | refine keep_far ?_ GW555.out _) | exact HK.out))) : w.heap.size ≤ gb563) : w0.heap.size ≤ gb563)); have n8_ := Aside0.mk ((by rw [hg]; exact Nat.ne_of_lt (blk_lt (g := gb554) (o := .cells #[.int .i64 0, .int .i64 0, .int .i64 0, .int .i64 0] 40 (0, 0)) uq_) : gb554 ≠ gb563)); have n9_ := Aside0.mk ((by rw [hg]; exact Nat.ne_of_gt (blk_lt (g := gb554) (o := .cells #[.int .i64 0, .int .i64 0, .int .i64 0, .int .i64 0] 40 (0, 0)) uq_) : gb563 ≠ gb554)); have n10_ := Aside0.mk ((by rw [hg]; exact Nat.ne_of_lt (blk_lt (g := gb555) (o := .cells #[.int .i64 0, .int .i64 0, .int .i64 0, .int .i64 0] 40 (0, 0)) uq_) : gb555 ≠ gb563)); have n11_ := Aside0.mk ((by rw [hg]; exact Nat.ne_of_gt (blk_lt (g := gb555) (o := .cells #[.int .i64 0, .int .i64 0, .int .i64 0, .int .i64 0] 40 (0, 0)) uq_) : gb563 ≠ gb555)); have n12_ := Aside0.mk ((by rw [hg]; exact Nat.ne_of_lt (IsS96.lt (show IsS96 w0 _ g s0_0 t562 from by repeat (first | (with_reducible first | exact HI0.out | apply IsS96.alloc | apply IsS96.drewN | apply IsS96.drew | apply IsS96.set_1 | refine IsS96.far ?_ NB0_554.out _ | refine IsS96.far ?_ NB0_555.out _) | exact HI0.out))) : g ≠ gb563)); have n13_ := Aside0.mk ((by rw [hg]; exact Nat.ne_of_gt (IsS96.lt (show IsS96 w0 _ g s0_0 t562 from by repeat (first | (with_reducible first | exact HI0.out | apply IsS96.alloc | apply IsS96.drewN | apply IsS96.drew | apply IsS96.set_1 | refine IsS96.far ?_ NB0_554.out _ | refine IsS96.far ?_ NB0_555.out _) | exact HI0.out))) : gb563 ≠ g)); clear HI0; clear BK554; clear BK555; clear HK; clear HB; have HI0 := n0_; have BK554 := n1_; have BK555 := n2_; have HK := n3_; have HB := n4_; have BK563 := n5_; have GW563 := n6_; have GE563 := n7_; have NB554_563 := n8_; have NB563_554 := n9_; have NB555_563 := n10_; have NB563_555 := n11_; have NB0_563 := n12_; have NB563_0 := n13_; clear n0_ n1_ n2_ n3_ n4_ n5_ n6_ n7_ n8_ n9_ n10_ n11_ n12_ n13_; clear hb hbox hg) | ((with_reducible refine gate_dst (N := 5) rfl ?_); refine box_event ?hg (N := 5) ?hd (cs := #[.int .i64 0, .int .i64 0]) (t := 38) ?hr ?_; (case hd => rfl); (case hg => rfl); (case hr => first | (go_simp; done) | (go_simp; rfl)); intro gb564 hg w10 hbox hb; have n0_ := Aside0.mk (IsS96.below (by repeat (first | (with_reducible first | exact HI0.out | apply IsS96.alloc | apply IsS96.drewN | apply IsS96.drew | apply IsS96.set_1 | refine IsS96.far ?_ NB0_554.out _ | refine IsS96.far ?_ NB0_555.out _ | refine IsS96.far ?_ NB0_563.out _) | exact HI0.out)) hb); have n1_ := Aside0.mk (ub_ (g := gb554) hb); have n2_ := Aside0.mk (ub_ (g := gb555) hb); have n3_ := Aside0.mk (ub_ (g := gb563) hb); have n4_ := Aside0.mk (KeepBut.trans (by repeat (first | (with_reducible first | exact HK.out | apply KeepBut.set_ | apply keep_drewN | apply keep_drew | apply keep_alloc | refine keep_far ?_ GW554.out _ | refine keep_far ?_ GW555.out _ | refine keep_far ?_ GW563.out _) | exact HK.out)) (KeepBut.of_below hb g none) (.inl rfl)); have n5_ := Aside0.mk (below_step (by repeat (first | (with_reducible first | exact HB.out | apply below_alloc | apply pw_below_drewN | apply below_drew1 | refine below_set ?_ (IsS96.ge HI0.out) | refine below_set ?_ GE554.out | refine below_set ?_ GE555.out | refine below_set ?_ GE563.out) | exact HB.out)) hb); have n6_ := Aside0.mk (hbox); have n7_ := Aside0.mk ((by rw [hg]; exact (keep_size (w := w) (g := g) (row := none) (by repeat (first | (with_reducible first | exact HK.out | apply KeepBut.set_ | apply keep_drewN | apply keep_drew | apply keep_alloc | refine keep_far ?_ GW554.out _ | refine keep_far ?_ GW555.out _ | refine keep_far ?_ GW563.out _) | exact HK.out))) : w.heap.size ≤ gb564)); have n8_ := Aside0.mk ((Nat.le_trans HW0.out (by rw [hg]; exact (keep_size (w := w) (g := g) (row := none) (by repeat (first | (with_reducible first | exact HK.out | apply KeepBut.set_ | apply keep_drewN | apply keep_drew | apply keep_alloc | refine keep_far ?_ GW554.out _ | refine keep_far ?_ GW555.out _ | refine keep_far ?_ GW563.out _) | exact HK.out))) : w.heap.size ≤ gb564) : w0.heap.size ≤ gb564)); have n9_ := Aside0.mk ((by rw [hg]; exact Nat.ne_of_lt (blk_lt (g := gb554) (o := .cells #[.int .i64 0, .int .i64 0, .int .i64 0, .int .i64 0] 40 (0, 0)) uq_) : gb554 ≠ gb564)); have n10_ := Aside0.mk ((by rw [hg]; exact Nat.ne_of_gt (blk_lt (g := gb554) (o := .cells #[.int .i64 0, .int .i64 0, .int .i64 0, .int .i64 0] 40 (0, 0)) uq_) : gb564 ≠ gb554)); have n11_ := Aside0.mk ((by rw [hg]; exact Nat.ne_of_lt (blk_lt (g := gb555) (o := .cells #[.int .i64 0, .int .i64 0, .int .i64 0, .int .i64 0] 40 (0, 0)) uq_) : gb555 ≠ gb564)); have n12_ := Aside0.mk ((by rw [hg]; exact Nat.ne_of_gt (blk_lt (g := gb555) (o := .cells #[.int .i64 0, .int .i64 0, .int .i64 0, .int .i64 0] 40 (0, 0)) uq_) : gb564 ≠ gb555)); have n13_ := Aside0.mk ((by rw [hg]; exact Nat.ne_of_lt (blk_lt (g := gb563) (o := .cells #[.int .i64 0, .int .i64 0, .int .i64 0, .int .i64 0] 40 (0, 0)) uq_) : gb563 ≠ gb564)); have n14_ := Aside0.mk ((by rw [hg]; exact Nat.ne_of_gt (blk_lt (g := gb563) (o := .cells #[.int .i64 0, .int .i64 0, .int .i64 0, .int .i64 0] 40 (0, 0)) uq_) : gb564 ≠ gb563)); have n15_ := Aside0.mk ((by rw [hg]; exact Nat.ne_of_lt (IsS96.lt (show IsS96 w0 _ g s0_0 t562 from by repeat (first | (with_reducible first | exact HI0.out | apply IsS96.alloc | apply IsS96.drewN | apply IsS96.drew | apply IsS96.set_1 | refine IsS96.far ?_ NB0_554.out _ | refine IsS96.far ?_ NB0_555.out _ | refine IsS96.far ?_ NB0_563.out _) | exact HI0.out))) : g ≠ gb564)); have n16_ := Aside0.mk ((by rw [hg]; exact Nat.ne_of_gt (IsS96.lt (show IsS96 w0 _ g s0_0 t562 from by repeat (first | (with_reducible first | exact HI0.out | apply IsS96.alloc | apply IsS96.drewN | apply IsS96.drew | apply IsS96.set_1 | refine IsS96.far ?_ NB0_554.out _ | refine IsS96.far ?_ NB0_555.out _ | refine IsS96.far ?_ NB0_563.out _) | exact HI0.out))) : gb564 ≠ g)); clear HI0; clear BK554; clear BK555; clear BK563; clear HK; clear HB; have HI0 := n0_; have BK554 := n1_; have BK555 := n2_; have BK563 := n3_; have HK := n4_; have HB := n5_; have BK564 := n6_; have GW564 := n7_; have GE564 := n8_; have NB554_564 := n9_; have NB564_554 := n10_; have NB555_564 := n11_; have NB564_555 := n12_; have NB563_564 := n13_; have NB564_563 := n14_; have NB0_564 := n15_; have NB564_0 := n16_; clear n0_ n1_ n2_ n3_ n4_ n5_ n6_ n7_ n8_ n9_ n10_ n11_ n12_ n13_ n14_ n15_ n16_; clear hb hbox hg; have hnb11 := NB563_554.out; have hnc11 := NB554_563.out; have hnb12 := NB563_555.out; have hnc12 := NB555_563.out; have hnb13 := NB563_564.out; have hnc13 := NB564_563.out; have hnb14 := NB563_0.out; have hnc14 := NB0_563.out; have hcz15_0 : w10.cell? ⟨gb563, 0, none⟩ = some (.int .i64 0) := bc_; have hcz15_1 : w10.cell? ⟨gb563, 1, none⟩ = some (.int .i64 0) := bc_; have hcz15_2 : w10.cell? ⟨gb563, 2, none⟩ = some (.int .i64 0) := bc_; have hcz15_3 : w10.cell? ⟨gb563, 3, none⟩ = some (.int .i64 0) := bc_; have hfz15_0 := blk_frozen BK563.out 0; have hfz15_1 := blk_frozen BK563.out 1; have hfz15_2 := blk_frozen BK563.out 2; have hfz15_3 := blk_frozen BK563.out 3; have hnb16 := NB564_554.out; have hnc16 := NB554_564.out; have hnb17 := NB564_555.out; have hnc17 := NB555_564.out; have hnb18 := NB564_0.out; have hnc18 := NB0_564.out; have hcz19_0 : w10.cell? ⟨gb564, 0, none⟩ = some (.int .i64 0) := bc_; have hcz19_1 : w10.cell? ⟨gb564, 1, none⟩ = some (.int .i64 0) := bc_; have hfz19_0 := blk_frozen BK564.out 0; have hfz19_1 := blk_frozen BK564.out 1) | ((with_reducible refine gate_callee (f := 50) rfl ?_); refine goesL_ (some 13) rfl rfl Tryd.func50 (by kernel_rfl) rfl #[.pointer (some ⟨g, 0, none⟩)] rfl ma_ ?_; (with_reducible refine (spec_l71Seg.calls k g s0_0 t562 t565 t566 t567 t568 t569 w0 _ ?side1 ?side2 A3.out).mono ?_); (case side1 => repeat (first | (with_reducible first | exact HI0.out | apply IsS96.alloc | apply IsS96.drewN | apply IsS96.drew | apply IsS96.set_1 | refine IsS96.far ?_ NB0_554.out _ | refine IsS96.far ?_ NB0_555.out _ | refine IsS96.far ?_ NB0_563.out _ | refine IsS96.far ?_ NB0_564.out _) | exact HI0.out)); (case side2 => repeat (first | (with_reducible first | exact HB.out | apply below_alloc | apply pw_below_drewN | apply below_drew1 | refine below_set ?_ (IsS96.ge HI0.out) | refine below_set ?_ GE554.out | refine below_set ?_ GE555.out | refine below_set ?_ GE563.out | refine below_set ?_ GE564.out) | exact HB.out)); rintro e w20 ⟨rfl, hi, hb, hk⟩; refine ⟨_, rfl, ?_⟩; have n0_ := Aside0.mk (KeepBut.blk hk (g' := gb554) (o := .cells #[.int .i64 0, .int .i64 0, .int .i64 0, .int .i64 0] 40 (0, 0)) (by (with_reducible repeat (first | refine blk_drewN ?_ _ | refine blk_drew ?_ | refine blk_alloc ?_ _)); refine blk_far ?_ NB554_564.out _; (with_reducible repeat (first | refine blk_drewN ?_ _ | refine blk_drew ?_ | refine blk_alloc ?_ _)); refine blk_far ?_ NB554_564.out _; (with_reducible repeat (first | refine blk_drewN ?_ _ | refine blk_drew ?_ | refine blk_alloc ?_ _)); refine blk_far ?_ NB554_563.out _; (with_reducible repeat (first | refine blk_drewN ?_ _ | refine blk_drew ?_ | refine blk_alloc ?_ _)); refine blk_far ?_ NB554_563.out _; (with_reducible repeat (first | refine blk_drewN ?_ _ | refine blk_drew ?_ | refine blk_alloc ?_ _)); refine blk_far ?_ NB554_563.out _; (with_reducible repeat (first | refine blk_drewN ?_ _ | refine blk_drew ?_ | refine blk_alloc ?_ _)); refine blk_far ?_ NB554_563.out _; (with_reducible repeat (first | refine blk_drewN ?_ _ | refine blk_drew ?_ | refine blk_alloc ?_ _)); exact BK554.out) NB554_0.out (by simp)); have n1_ := Aside0.mk (KeepBut.blk hk (g' := gb555) (o := .cells #[.int .i64 0, .int .i64 0, .int .i64 0, .int .i64 0] 40 (0, 0)) (by (with_reducible repeat (first | refine blk_drewN ?_ _ | refine blk_drew ?_ | refine blk_alloc ?_ _)); refine blk_far ?_ NB555_564.out _; (with_reducible repeat (first | refine blk_drewN ?_ _ | refine blk_drew ?_ | refine blk_alloc ?_ _)); refine blk_far ?_ NB555_564.out _; (with_reducible repeat (first | refine blk_drewN ?_ _ | refine blk_drew ?_ | refine blk_alloc ?_ _)); refine blk_far ?_ NB555_563.out _; (with_reducible repeat (first | refine blk_drewN ?_ _ | refine blk_drew ?_ | refine blk_alloc ?_ _)); refine blk_far ?_ NB555_563.out _; (with_reducible repeat (first | refine blk_drewN ?_ _ | refine blk_drew ?_ | refine blk_alloc ?_ _)); refine blk_far ?_ NB555_563.out _; (with_reducible repeat (first | refine blk_drewN ?_ _ | refine blk_drew ?_ | refine blk_alloc ?_ _)); refine blk_far ?_ NB555_563.out _; (with_reducible repeat (first | refine blk_drewN ?_ _ | refine blk_drew ?_ | refine blk_alloc ?_ _)); exact BK555.out) NB555_0.out (by simp)); have n2_ := Aside0.mk (KeepBut.blk hk (g' := gb563) (o := .cells #[.int .i64 t556, .int .i64 t557, .int .i64 t558, .int .i64 t559] 40 (0, 0)) (by (with_reducible repeat (first | refine blk_drewN ?_ _ | refine blk_drew ?_ | refine blk_alloc ?_ _)); refine blk_far ?_ NB563_564.out _; (with_reducible repeat (first | refine blk_drewN ?_ _ | refine blk_drew ?_ | refine blk_alloc ?_ _)); refine blk_far ?_ NB563_564.out _; (with_reducible repeat (first | refine blk_drewN ?_ _ | refine blk_drew ?_ | refine blk_alloc ?_ _)); refine blk_put (cs := #[.int .i64 t556, .int .i64 t557, .int .i64 t558, .int .i64 0]) ?_ 3 _ rfl; (with_reducible repeat (first | refine blk_drewN ?_ _ | refine blk_drew ?_ | refine blk_alloc ?_ _)); refine blk_put (cs := #[.int .i64 t556, .int .i64 t557, .int .i64 0, .int .i64 0]) ?_ 2 _ rfl; (with_reducible repeat (first | refine blk_drewN ?_ _ | refine blk_drew ?_ | refine blk_alloc ?_ _)); refine blk_put (cs := #[.int .i64 t556, .int .i64 0, .int .i64 0, .int .i64 0]) ?_ 1 _ rfl; (with_reducible repeat (first | refine blk_drewN ?_ _ | refine blk_drew ?_ | refine blk_alloc ?_ _)); refine blk_put (cs := #[.int .i64 0, .int .i64 0, .int .i64 0, .int .i64 0]) ?_ 0 _ rfl; (with_reducible repeat (first | refine blk_drewN ?_ _ | refine blk_drew ?_ | refine blk_alloc ?_ _)); exact BK563.out) NB563_0.out (by simp)); have n3_ := Aside0.mk (KeepBut.blk hk (g' := gb564) (o := .cells #[.int .i64 t560, .int .i64 t561] 38 (0, 0)) (by (with_reducible repeat (first | refine blk_drewN ?_ _ | refine blk_drew ?_ | refine blk_alloc ?_ _)); refine blk_put (cs := #[.int .i64 t560, .int .i64 0]) ?_ 1 _ rfl; (with_reducible repeat (first | refine blk_drewN ?_ _ | refine blk_drew ?_ | refine blk_alloc ?_ _)); refine blk_put (cs := #[.int .i64 0, .int .i64 0]) ?_ 0 _ rfl; (with_reducible repeat (first | refine blk_drewN ?_ _ | refine blk_drew ?_ | refine blk_alloc ?_ _)); refine blk_far ?_ NB564_563.out _; (with_reducible repeat (first | refine blk_drewN ?_ _ | refine blk_drew ?_ | refine blk_alloc ?_ _)); refine blk_far ?_ NB564_563.out _; (with_reducible repeat (first | refine blk_drewN ?_ _ | refine blk_drew ?_ | refine blk_alloc ?_ _)); refine blk_far ?_ NB564_563.out _; (with_reducible repeat (first | refine blk_drewN ?_ _ | refine blk_drew ?_ | refine blk_alloc ?_ _)); refine blk_far ?_ NB564_563.out _; (with_reducible repeat (first | refine blk_drewN ?_ _ | refine blk_drew ?_ | refine blk_alloc ?_ _)); exact BK564.out) NB564_0.out (by simp)); have n4_ := Aside0.mk (KeepBut.trans (by repeat (first | (with_reducible first | exact HK.out | apply KeepBut.set_ | apply keep_drewN | apply keep_drew | apply keep_alloc | refine keep_far ?_ GW554.out _ | refine keep_far ?_ GW555.out _ | refine keep_far ?_ GW563.out _ | refine keep_far ?_ GW564.out _) | exact HK.out)) hk (.inl rfl)); have n5_ := Aside0.mk (hb); have n6_ := Aside0.mk (hi); clear BK554; clear BK555; clear BK563; clear BK564; clear HK; clear HB; clear HI0; have BK554 := n0_; have BK555 := n1_; have BK563 := n2_; have BK564 := n3_; have HK := n4_; have HB := n5_; have HI0 := n6_; clear n0_ n1_ n2_ n3_ n4_ n5_ n6_; (try clear hb); (try clear hb2); (try clear hk); (try clear hi)) | ((with_reducible refine gate_dst (N := 6) rfl ?_); refine box_event ?hg (N := 6) ?hd (cs := #[.int .i64 0, .int .i64 0, .int .i64 0, .int .i64 0]) (t := 40) ?hr ?_; (case hd => rfl); (case hg => rfl); (case hr => first | (go_simp; done) | (go_simp; rfl)); intro gb570 hg w21 hbox hb; have n0_ := Aside0.mk (IsS96.below (by repeat (first | (with_reducible first | exact HI0.out | apply IsS96.alloc | apply IsS96.drewN | apply IsS96.drew | apply IsS96.set_1 | refine IsS96.far ?_ NB0_554.out _ | refine IsS96.far ?_ NB0_555.out _ | refine IsS96.far ?_ NB0_563.out _ | refine IsS96.far ?_ NB0_564.out _) | exact HI0.out)) hb); have n1_ := Aside0.mk (ub_ (g := gb554) hb); have n2_ := Aside0.mk (ub_ (g := gb555) hb); have n3_ := Aside0.mk (ub_ (g := gb563) hb); have n4_ := Aside0.mk (ub_ (g := gb564) hb); have n5_ := Aside0.mk (KeepBut.trans (by repeat (first | (with_reducible first | exact HK.out | apply KeepBut.set_ | apply keep_drewN | apply keep_drew | apply keep_alloc | refine keep_far ?_ GW554.out _ | refine keep_far ?_ GW555.out _ | refine keep_far ?_ GW563.out _ | refine keep_far ?_ GW564.out _) | exact HK.out)) (KeepBut.of_below hb g none) (.inl rfl)); have n6_ := Aside0.mk (below_step (by repeat (first | (with_reducible first | exact HB.out | apply below_alloc | apply pw_below_drewN | apply below_drew1 | refine below_set ?_ (IsS96.ge HI0.out) | refine below_set ?_ GE554.out | refine below_set ?_ GE555.out | refine below_set ?_ GE563.out | refine below_set ?_ GE564.out) | exact HB.out)) hb); have n7_ := Aside0.mk (hbox); have n8_ := Aside0.mk ((by rw [hg]; exact (keep_size (w := w) (g := g) (row := none) (by repeat (first | (with_reducible first | exact HK.out | apply KeepBut.set_ | apply keep_drewN | apply keep_drew | apply keep_alloc | refine keep_far ?_ GW554.out _ | refine keep_far ?_ GW555.out _ | refine keep_far ?_ GW563.out _ | refine keep_far ?_ GW564.out _) | exact HK.out))) : w.heap.size ≤ gb570)); have n9_ := Aside0.mk ((Nat.le_trans HW0.out (by rw [hg]; exact (keep_size (w := w) (g := g) (row := none) (by repeat (first | (with_reducible first | exact HK.out | apply KeepBut.set_ | apply keep_drewN | apply keep_drew | apply keep_alloc | refine keep_far ?_ GW554.out _ | refine keep_far ?_ GW555.out _ | refine keep_far ?_ GW563.out _ | refine keep_far ?_ GW564.out _) | exact HK.out))) : w.heap.size ≤ gb570) : w0.heap.size ≤ gb570)); have n10_ := Aside0.mk ((by rw [hg]; exact Nat.ne_of_lt (blk_lt (g := gb554) (o := .cells #[.int .i64 0, .int .i64 0, .int .i64 0, .int .i64 0] 40 (0, 0)) uq_) : gb554 ≠ gb570)); have n11_ := Aside0.mk ((by rw [hg]; exact Nat.ne_of_gt (blk_lt (g := gb554) (o := .cells #[.int .i64 0, .int .i64 0, .int .i64 0, .int .i64 0] 40 (0, 0)) uq_) : gb570 ≠ gb554)); have n12_ := Aside0.mk ((by rw [hg]; exact Nat.ne_of_lt (blk_lt (g := gb555) (o := .cells #[.int .i64 0, .int .i64 0, .int .i64 0, .int .i64 0] 40 (0, 0)) uq_) : gb555 ≠ gb570)); have n13_ := Aside0.mk ((by rw [hg]; exact Nat.ne_of_gt (blk_lt (g := gb555) (o := .cells #[.int .i64 0, .int .i64 0, .int .i64 0, .int .i64 0] 40 (0, 0)) uq_) : gb570 ≠ gb555)); have n14_ := Aside0.mk ((by rw [hg]; exact Nat.ne_of_lt (blk_lt (g := gb563) (o := .cells #[.int .i64 t556, .int .i64 t557, .int .i64 t558, .int .i64 t559] 40 (0, 0)) uq_) : gb563 ≠ gb570)); have n15_ := Aside0.mk ((by rw [hg]; exact Nat.ne_of_gt (blk_lt (g := gb563) (o := .cells #[.int .i64 t556, .int .i64 t557, .int .i64 t558, .int .i64 t559] 40 (0, 0)) uq_) : gb570 ≠ gb563)); have n16_ := Aside0.mk ((by rw [hg]; exact Nat.ne_of_lt (blk_lt (g := gb564) (o := .cells #[.int .i64 t560, .int .i64 t561] 38 (0, 0)) uq_) : gb564 ≠ gb570)); have n17_ := Aside0.mk ((by rw [hg]; exact Nat.ne_of_gt (blk_lt (g := gb564) (o := .cells #[.int .i64 t560, .int .i64 t561] 38 (0, 0)) uq_) : gb570 ≠ gb564)); have n18_ := Aside0.mk ((by rw [hg]; exact Nat.ne_of_lt (IsS96.lt (show IsS96 w0 _ g s0_0 t569 from by repeat (first | (with_reducible first | exact HI0.out | apply IsS96.alloc | apply IsS96.drewN | apply IsS96.drew | apply IsS96.set_1 | refine IsS96.far ?_ NB0_554.out _ | refine IsS96.far ?_ NB0_555.out _ | refine IsS96.far ?_ NB0_563.out _ | refine IsS96.far ?_ NB0_564.out _) | exact HI0.out))) : g ≠ gb570)); have n19_ := Aside0.mk ((by rw [hg]; exact Nat.ne_of_gt (IsS96.lt (show IsS96 w0 _ g s0_0 t569 from by repeat (first | (with_reducible first | exact HI0.out | apply IsS96.alloc | apply IsS96.drewN | apply IsS96.drew | apply IsS96.set_1 | refine IsS96.far ?_ NB0_554.out _ | refine IsS96.far ?_ NB0_555.out _ | refine IsS96.far ?_ NB0_563.out _ | refine IsS96.far ?_ NB0_564.out _) | exact HI0.out))) : gb570 ≠ g)); clear HI0; clear BK554; clear BK555; clear BK563; clear BK564; clear HK; clear HB; have HI0 := n0_; have BK554 := n1_; have BK555 := n2_; have BK563 := n3_; have BK564 := n4_; have HK := n5_; have HB := n6_; have BK570 := n7_; have GW570 := n8_; have GE570 := n9_; have NB554_570 := n10_; have NB570_554 := n11_; have NB555_570 := n12_; have NB570_555 := n13_; have NB563_570 := n14_; have NB570_563 := n15_; have NB564_570 := n16_; have NB570_564 := n17_; have NB0_570 := n18_; have NB570_0 := n19_; clear n0_ n1_ n2_ n3_ n4_ n5_ n6_ n7_ n8_ n9_ n10_ n11_ n12_ n13_ n14_ n15_ n16_ n17_ n18_ n19_; clear hb hbox hg; have hnb22 := NB570_554.out; have hnc22 := NB554_570.out; have hnb23 := NB570_555.out; have hnc23 := NB555_570.out; have hnb24 := NB570_563.out; have hnc24 := NB563_570.out; have hnb25 := NB570_564.out; have hnc25 := NB564_570.out; have hnb26 := NB570_0.out; have hnc26 := NB0_570.out; have hcz27_0 : w21.cell? ⟨gb570, 0, none⟩ = some (.int .i64 0) := bc_; have hcz27_1 : w21.cell? ⟨gb570, 1, none⟩ = some (.int .i64 0) := bc_; have hcz27_2 : w21.cell? ⟨gb570, 2, none⟩ = some (.int .i64 0) := bc_; have hcz27_3 : w21.cell? ⟨gb570, 3, none⟩ = some (.int .i64 0) := bc_; have hfz27_0 := blk_frozen BK570.out 0; have hfz27_1 := blk_frozen BK570.out 1; have hfz27_2 := blk_frozen BK570.out 2; have hfz27_3 := blk_frozen BK570.out 3) | ((with_reducible refine gate_callee (f := 48) rfl ?_); refine goesL_ (some 15) rfl rfl Tryd.func48 (by kernel_rfl) rfl #[.pointer (some ⟨g, 0, none⟩), .int .i64 5] rfl ma_ ?_; (with_reducible refine (spec_l6Rd_pick.calls k g s0_0 t569 5 t571 t572 w0 _ ?side1 ?side2 A4.out).mono ?_); (case side1 => repeat (first | (with_reducible first | exact HI0.out | apply IsS96.alloc | apply IsS96.drewN | apply IsS96.drew | apply IsS96.set_1 | refine IsS96.far ?_ NB0_554.out _ | refine IsS96.far ?_ NB0_555.out _ | refine IsS96.far ?_ NB0_563.out _ | refine IsS96.far ?_ NB0_564.out _ | refine IsS96.far ?_ NB0_570.out _) | exact HI0.out)); (case side2 => repeat (first | (with_reducible first | exact HB.out | apply below_alloc | apply pw_below_drewN | apply below_drew1 | refine below_set ?_ (IsS96.ge HI0.out) | refine below_set ?_ GE554.out | refine below_set ?_ GE555.out | refine below_set ?_ GE563.out | refine below_set ?_ GE564.out | refine below_set ?_ GE570.out) | exact HB.out)); rintro e w28 ⟨rfl, hi, hb, hk⟩; refine ⟨_, rfl, ?_⟩; have n0_ := Aside0.mk (KeepBut.blk hk (g' := gb554) (o := .cells #[.int .i64 0, .int .i64 0, .int .i64 0, .int .i64 0] 40 (0, 0)) (by (with_reducible repeat (first | refine blk_drewN ?_ _ | refine blk_drew ?_ | refine blk_alloc ?_ _)); refine blk_far ?_ NB554_570.out _; (with_reducible repeat (first | refine blk_drewN ?_ _ | refine blk_drew ?_ | refine blk_alloc ?_ _)); refine blk_far ?_ NB554_570.out _; (with_reducible repeat (first | refine blk_drewN ?_ _ | refine blk_drew ?_ | refine blk_alloc ?_ _)); refine blk_far ?_ NB554_570.out _; (with_reducible repeat (first | refine blk_drewN ?_ _ | refine blk_drew ?_ | refine blk_alloc ?_ _)); refine blk_far ?_ NB554_570.out _; (with_reducible repeat (first | refine blk_drewN ?_ _ | refine blk_drew ?_ | refine blk_alloc ?_ _)); exact BK554.out) NB554_0.out (by simp)); have n1_ := Aside0.mk (KeepBut.blk hk (g' := gb555) (o := .cells #[.int .i64 0, .int .i64 0, .int .i64 0, .int .i64 0] 40 (0, 0)) (by (with_reducible repeat (first | refine blk_drewN ?_ _ | refine blk_drew ?_ | refine blk_alloc ?_ _)); refine blk_far ?_ NB555_570.out _; (with_reducible repeat (first | refine blk_drewN ?_ _ | refine blk_drew ?_ | refine blk_alloc ?_ _)); refine blk_far ?_ NB555_570.out _; (with_reducible repeat (first | refine blk_drewN ?_ _ | refine blk_drew ?_ | refine blk_alloc ?_ _)); refine blk_far ?_ NB555_570.out _; (with_reducible repeat (first | refine blk_drewN ?_ _ | refine blk_drew ?_ | refine blk_alloc ?_ _)); refine blk_far ?_ NB555_570.out _; (with_reducible repeat (first | refine blk_drewN ?_ _ | refine blk_drew ?_ | refine blk_alloc ?_ _)); exact BK555.out) NB555_0.out (by simp)); have n2_ := Aside0.mk (KeepBut.blk hk (g' := gb563) (o := .cells #[.int .i64 t556, .int .i64 t557, .int .i64 t558, .int .i64 t559] 40 (0, 0)) (by (with_reducible repeat (first | refine blk_drewN ?_ _ | refine blk_drew ?_ | refine blk_alloc ?_ _)); refine blk_far ?_ NB563_570.out _; (with_reducible repeat (first | refine blk_drewN ?_ _ | refine blk_drew ?_ | refine blk_alloc ?_ _)); refine blk_far ?_ NB563_570.out _; (with_reducible repeat (first | refine blk_drewN ?_ _ | refine blk_drew ?_ | refine blk_alloc ?_ _)); refine blk_far ?_ NB563_570.out _; (with_reducible repeat (first | refine blk_drewN ?_ _ | refine blk_drew ?_ | refine blk_alloc ?_ _)); refine blk_far ?_ NB563_570.out _; (with_reducible repeat (first | refine blk_drewN ?_ _ | refine blk_drew ?_ | refine blk_alloc ?_ _)); exact BK563.out) NB563_0.out (by simp)); have n3_ := Aside0.mk (KeepBut.blk hk (g' := gb564) (o := .cells #[.int .i64 t560, .int .i64 t561] 38 (0, 0)) (by (with_reducible repeat (first | refine blk_drewN ?_ _ | refine blk_drew ?_ | refine blk_alloc ?_ _)); refine blk_far ?_ NB564_570.out _; (with_reducible repeat (first | refine blk_drewN ?_ _ | refine blk_drew ?_ | refine blk_alloc ?_ _)); refine blk_far ?_ NB564_570.out _; (with_reducible repeat (first | refine blk_drewN ?_ _ | refine blk_drew ?_ | refine blk_alloc ?_ _)); refine blk_far ?_ NB564_570.out _; (with_reducible repeat (first | refine blk_drewN ?_ _ | refine blk_drew ?_ | refine blk_alloc ?_ _)); refine blk_far ?_ NB564_570.out _; (with_reducible repeat (first | refine blk_drewN ?_ _ | refine blk_drew ?_ | refine blk_alloc ?_ _)); exact BK564.out) NB564_0.out (by simp)); have n4_ := Aside0.mk (KeepBut.blk hk (g' := gb570) (o := .cells #[.int .i64 t565, .int .i64 t566, .int .i64 t567, .int .i64 t568] 40 (0, 0)) (by (with_reducible repeat (first | refine blk_drewN ?_ _ | refine blk_drew ?_ | refine blk_alloc ?_ _)); refine blk_put (cs := #[.int .i64 t565, .int .i64 t566, .int .i64 t567, .int .i64 0]) ?_ 3 _ rfl; (with_reducible repeat (first | refine blk_drewN ?_ _ | refine blk_drew ?_ | refine blk_alloc ?_ _)); refine blk_put (cs := #[.int .i64 t565, .int .i64 t566, .int .i64 0, .int .i64 0]) ?_ 2 _ rfl; (with_reducible repeat (first | refine blk_drewN ?_ _ | refine blk_drew ?_ | refine blk_alloc ?_ _)); refine blk_put (cs := #[.int .i64 t565, .int .i64 0, .int .i64 0, .int .i64 0]) ?_ 1 _ rfl; (with_reducible repeat (first | refine blk_drewN ?_ _ | refine blk_drew ?_ | refine blk_alloc ?_ _)); refine blk_put (cs := #[.int .i64 0, .int .i64 0, .int .i64 0, .int .i64 0]) ?_ 0 _ rfl; (with_reducible repeat (first | refine blk_drewN ?_ _ | refine blk_drew ?_ | refine blk_alloc ?_ _)); exact BK570.out) NB570_0.out (by simp)); have n5_ := Aside0.mk (KeepBut.trans (by repeat (first | (with_reducible first | exact HK.out | apply KeepBut.set_ | apply keep_drewN | apply keep_drew | apply keep_alloc | refine keep_far ?_ GW554.out _ | refine keep_far ?_ GW555.out _ | refine keep_far ?_ GW563.out _ | refine keep_far ?_ GW564.out _ | refine keep_far ?_ GW570.out _) | exact HK.out)) hk (.inl rfl)); have n6_ := Aside0.mk (hb); have n7_ := Aside0.mk (hi); clear BK554; clear BK555; clear BK563; clear BK564; clear BK570; clear HK; clear HB; clear HI0; have BK554 := n0_; have BK555 := n1_; have BK563 := n2_; have BK564 := n3_; have BK570 := n4_; have HK := n5_; have HB := n6_; have HI0 := n7_; clear n0_ n1_ n2_ n3_ n4_ n5_ n6_ n7_; (try clear hb); (try clear hb2); (try clear hk); (try clear hi); have hcz29_0 : w28.cell? ⟨gb564, 0, none⟩ = some (.int .i64 t560) := bc_; have hcz29_1 : w28.cell? ⟨gb564, 1, none⟩ = some (.int .i64 t561) := bc_; have hfz29_0 := blk_frozen BK564.out 0; have hfz29_1 := blk_frozen BK564.out 1; have hcz30_0 : w28.cell? ⟨gb570, 0, none⟩ = some (.int .i64 t565) := bc_; have hcz30_1 : w28.cell? ⟨gb570, 1, none⟩ = some (.int .i64 t566) := bc_; have hcz30_2 : w28.cell? ⟨gb570, 2, none⟩ = some (.int .i64 t567) := bc_; have hcz30_3 : w28.cell? ⟨gb570, 3, none⟩ = some (.int .i64 t568) := bc_; have hfz30_0 := blk_frozen BK570.out 0; have hfz30_1 := blk_frozen BK570.out 1; have hfz30_2 := blk_frozen BK570.out 2; have hfz30_3 := blk_frozen BK570.out 3))
  have n0_ : Aside0 (((w28.setCell ⟨gb570, 0, none⟩ (.int .i64 t560)).setCell ⟨gb570, 1, none⟩ (.int .i64 t561)).heap[gb554]? = some (.cells #[.int .i64 0, .int .i64 0, .int .i64 0, .int .i64 0] 40 (0, 0))) := ⟨by (with_reducible repeat (first | refine blk_drewN ?_ _ | refine blk_drew ?_ | refine blk_alloc ?_ _)); refine blk_far ?_ NB554_570.out _; (with_reducible repeat (first | refine blk_drewN ?_ _ | refine blk_drew ?_ | refine blk_alloc ?_ _)); refine blk_far ?_ NB554_570.out _; (with_reducible repeat (first | refine blk_drewN ?_ _ | refine blk_drew ?_ | refine blk_alloc ?_ _)); exact BK554.out⟩
  have n1_ : Aside0 (((w28.setCell ⟨gb570, 0, none⟩ (.int .i64 t560)).setCell ⟨gb570, 1, none⟩ (.int .i64 t561)).heap[gb555]? = some (.cells #[.int .i64 0, .int .i64 0, .int .i64 0, .int .i64 0] 40 (0, 0))) := ⟨by (with_reducible repeat (first | refine blk_drewN ?_ _ | refine blk_drew ?_ | refine blk_alloc ?_ _)); refine blk_far ?_ NB555_570.out _; (with_reducible repeat (first | refine blk_drewN ?_ _ | refine blk_drew ?_ | refine blk_alloc ?_ _)); refine blk_far ?_ NB555_570.out _; (with_reducible repeat (first | refine blk_drewN ?_ _ | refine blk_drew ?_ | refine blk_alloc ?_ _)); exact BK555.out⟩
  have n2_ : Aside0 (((w28.setCell ⟨gb570, 0, none⟩ (.int .i64 t560)).setCell ⟨gb570, 1, none⟩ (.int .i64 t561)).heap[gb563]? = some (.cells #[.int .i64 t556, .int .i64 t557, .int .i64 t558, .int .i64 t559] 40 (0, 0))) := ⟨by (with_reducible repeat (first | refine blk_drewN ?_ _ | refine blk_drew ?_ | refine blk_alloc ?_ _)); refine blk_far ?_ NB563_570.out _; (with_reducible repeat (first | refine blk_drewN ?_ _ | refine blk_drew ?_ | refine blk_alloc ?_ _)); refine blk_far ?_ NB563_570.out _; (with_reducible repeat (first | refine blk_drewN ?_ _ | refine blk_drew ?_ | refine blk_alloc ?_ _)); exact BK563.out⟩
  have n3_ : Aside0 (((w28.setCell ⟨gb570, 0, none⟩ (.int .i64 t560)).setCell ⟨gb570, 1, none⟩ (.int .i64 t561)).heap[gb564]? = some (.cells #[.int .i64 t560, .int .i64 t561] 38 (0, 0))) := ⟨by (with_reducible repeat (first | refine blk_drewN ?_ _ | refine blk_drew ?_ | refine blk_alloc ?_ _)); refine blk_far ?_ NB564_570.out _; (with_reducible repeat (first | refine blk_drewN ?_ _ | refine blk_drew ?_ | refine blk_alloc ?_ _)); refine blk_far ?_ NB564_570.out _; (with_reducible repeat (first | refine blk_drewN ?_ _ | refine blk_drew ?_ | refine blk_alloc ?_ _)); exact BK564.out⟩
  have n4_ : Aside0 (((w28.setCell ⟨gb570, 0, none⟩ (.int .i64 t560)).setCell ⟨gb570, 1, none⟩ (.int .i64 t561)).heap[gb570]? = some (.cells #[.int .i64 t560, .int .i64 t561, .int .i64 t567, .int .i64 t568] 40 (0, 0))) := ⟨by (with_reducible repeat (first | refine blk_drewN ?_ _ | refine blk_drew ?_ | refine blk_alloc ?_ _)); refine blk_put (cs := #[.int .i64 t560, .int .i64 t566, .int .i64 t567, .int .i64 t568]) ?_ 1 _ rfl; (with_reducible repeat (first | refine blk_drewN ?_ _ | refine blk_drew ?_ | refine blk_alloc ?_ _)); refine blk_put (cs := #[.int .i64 t565, .int .i64 t566, .int .i64 t567, .int .i64 t568]) ?_ 0 _ rfl; (with_reducible repeat (first | refine blk_drewN ?_ _ | refine blk_drew ?_ | refine blk_alloc ?_ _)); exact BK570.out⟩
  have n5_ : Aside0 (IsS96 w0 ((w28.setCell ⟨gb570, 0, none⟩ (.int .i64 t560)).setCell ⟨gb570, 1, none⟩ (.int .i64 t561)) g s0_0 t572) := ⟨by repeat (first | (with_reducible first | exact HI0.out | apply IsS96.alloc | apply IsS96.drewN | apply IsS96.drew | apply IsS96.set_1 | refine IsS96.far ?_ NB0_554.out _ | refine IsS96.far ?_ NB0_555.out _ | refine IsS96.far ?_ NB0_563.out _ | refine IsS96.far ?_ NB0_564.out _ | refine IsS96.far ?_ NB0_570.out _) | exact HI0.out)⟩
  have n6_ : Aside0 (KeepBut w ((w28.setCell ⟨gb570, 0, none⟩ (.int .i64 t560)).setCell ⟨gb570, 1, none⟩ (.int .i64 t561)) g none) := ⟨by repeat (first | (with_reducible first | exact HK.out | apply KeepBut.set_ | apply keep_drewN | apply keep_drew | apply keep_alloc | refine keep_far ?_ GW554.out _ | refine keep_far ?_ GW555.out _ | refine keep_far ?_ GW563.out _ | refine keep_far ?_ GW564.out _ | refine keep_far ?_ GW570.out _) | exact HK.out)⟩
  have n7_ : Aside0 (Below w0.heap.size w0 ((w28.setCell ⟨gb570, 0, none⟩ (.int .i64 t560)).setCell ⟨gb570, 1, none⟩ (.int .i64 t561))) := ⟨by repeat (first | (with_reducible first | exact HB.out | apply below_alloc | apply pw_below_drewN | apply below_drew1 | refine below_set ?_ (IsS96.ge HI0.out) | refine below_set ?_ GE554.out | refine below_set ?_ GE555.out | refine below_set ?_ GE563.out | refine below_set ?_ GE564.out | refine below_set ?_ GE570.out) | exact HB.out)⟩
  (try clear BK554)
  (try clear BK555)
  (try clear BK563)
  (try clear BK564)
  (try clear BK570)
  (try clear HI0)
  (try clear HK)
  (try clear HB)
  generalize ((w28.setCell ⟨gb570, 0, none⟩ (.int .i64 t560)).setCell ⟨gb570, 1, none⟩ (.int .i64 t561)) = w31 at n0_ n1_ n2_ n3_ n4_ n5_ n6_ n7_ ⊢
  have BK554 := n0_
  have BK555 := n1_
  have BK563 := n2_
  have BK564 := n3_
  have BK570 := n4_
  have HI0 := n5_
  have HK := n6_
  have HB := n7_
  clear n0_ n1_ n2_ n3_ n4_ n5_ n6_ n7_
  have n0_ := Aside0.mk (blk_drew BK554.out)
  have n1_ := Aside0.mk (blk_drew BK555.out)
  have n2_ := Aside0.mk (blk_drew BK563.out)
  have n3_ := Aside0.mk (blk_drew BK564.out)
  have n4_ := Aside0.mk (blk_drew BK570.out)
  have n5_ := Aside0.mk (IsS96.drew HI0.out)
  have n6_ := Aside0.mk (keep_drew HK.out)
  have n7_ := Aside0.mk (below_drew1 HB.out)
  clear BK554 BK555 BK563 BK564 BK570 HI0 HK HB
  have BK554 := n0_
  have BK555 := n1_
  have BK563 := n2_
  have BK564 := n3_
  have BK570 := n4_
  have HI0 := n5_
  have HK := n6_
  have HB := n7_
  clear n0_ n1_ n2_ n3_ n4_ n5_ n6_ n7_
  refine start_ (n := 4) (S := fun w' => w'.cell? ⟨gb563, 0, none⟩ = some (.int .i64 t556) ∧ w'.cell? ⟨gb563, 1, none⟩ = some (.int .i64 t557) ∧ w'.cell? ⟨gb563, 2, none⟩ = some (.int .i64 t558) ∧ w'.cell? ⟨gb563, 3, none⟩ = some (.int .i64 t559) ∧ w'.cell? ⟨gb570, 0, none⟩ = some (.int .i64 t560) ∧ w'.cell? ⟨gb570, 1, none⟩ = some (.int .i64 t561) ∧ w'.cell? ⟨gb570, 2, none⟩ = some (.int .i64 t567) ∧ w'.cell? ⟨gb570, 3, none⟩ = some (.int .i64 t568)) (ds := []) #[false, false, false, false] (by kernel_rfl) rfl rfl ⟨bc_, bc_, bc_, bc_, bc_, bc_, bc_, bc_⟩ (fun hHeld => ?_)
  generalize w31.drew = w32 at BK554 BK555 BK563 BK564 BK570 HI0 HK HB hHeld ⊢
  refine take_ (i := 0) (N := some 19) (v := ?_) (a' := ?_) #[true, false, false, false] rfl rfl (by kernel_rfl) (fun _ _ _ h => h) (Or.inl ⟨by rfl, ?_⟩) hHeld ?_ ?_
  rotate_left
  ·
   rintro w' ⟨s0, s1, s2, s3, s4, s5, s6, s7⟩
   go_simp
   with_reducible rfl
  rotate_left
  ·
   simp only [Act.put, List.setIfInBounds_toArray, List.set_cons_zero, List.set_cons_succ, i64_w, i32_w]
   rfl
  refine take_ (i := 1) (N := some 20) (v := ?_) (a' := ?_) #[true, true, false, false] rfl rfl (by kernel_rfl) (fun _ _ _ h => h) (Or.inl ⟨by rfl, ?_⟩) hHeld ?_ ?_
  rotate_left
  ·
   rintro w' ⟨s0, s1, s2, s3, s4, s5, s6, s7⟩
   go_simp
   with_reducible rfl
  rotate_left
  ·
   simp only [Act.put, List.setIfInBounds_toArray, List.set_cons_zero, List.set_cons_succ, i64_w, i32_w]
   rfl
  refine one_ (i := 2) (N := none) #[true, true, true, false] rfl rfl (by kernel_rfl) (by decide) (fun K hK => ?_)
  have hs33 : w32.cell? ⟨gb554, 0, none⟩ = some (.int .i64 0) := bc_
  have hfs33 := blk_frozen BK554.out 0
  have hns33_1 := NB555_554.out
  have hns33_2 := NB563_554.out
  have hns33_3 := NB564_554.out
  have hns33_4 := NB570_554.out
  have hms33_1 := NB554_555.out
  have hms33_2 := NB554_563.out
  have hms33_3 := NB554_564.out
  have hms33_4 := NB554_570.out
  have hs34 : w32.cell? ⟨gb554, 1, none⟩ = some (.int .i64 0) := bc_
  have hfs34 := blk_frozen BK554.out 1
  have hns34_1 := NB555_554.out
  have hns34_2 := NB563_554.out
  have hns34_3 := NB564_554.out
  have hns34_4 := NB570_554.out
  have hms34_1 := NB554_555.out
  have hms34_2 := NB554_563.out
  have hms34_3 := NB554_564.out
  have hms34_4 := NB554_570.out
  have hs35 : w32.cell? ⟨gb554, 2, none⟩ = some (.int .i64 0) := bc_
  have hfs35 := blk_frozen BK554.out 2
  have hns35_1 := NB555_554.out
  have hns35_2 := NB563_554.out
  have hns35_3 := NB564_554.out
  have hns35_4 := NB570_554.out
  have hms35_1 := NB554_555.out
  have hms35_2 := NB554_563.out
  have hms35_3 := NB554_564.out
  have hms35_4 := NB554_570.out
  have hs36 : w32.cell? ⟨gb554, 3, none⟩ = some (.int .i64 0) := bc_
  have hfs36 := blk_frozen BK554.out 3
  have hns36_1 := NB555_554.out
  have hns36_2 := NB563_554.out
  have hns36_3 := NB564_554.out
  have hns36_4 := NB570_554.out
  have hms36_1 := NB554_555.out
  have hms36_2 := NB554_563.out
  have hms36_3 := NB554_564.out
  have hms36_4 := NB554_570.out
  refine skip_ (w1 := ?_) (by rfl) rfl ?_ ?_
  rotate_left
  ·
   go_simp
   rfl
  refine hK.out _ _ ⟨((cell_far (p := ⟨gb554, _, none⟩) NB563_554.out _).trans (((cell_far (p := ⟨gb554, _, none⟩) NB563_554.out _).trans (((cell_far (p := ⟨gb554, _, none⟩) NB563_554.out _).trans (((cell_far (p := ⟨gb554, _, none⟩) NB563_554.out _).trans (hHeld.1)))))))), ((cell_far (p := ⟨gb554, _, none⟩) NB563_554.out _).trans (((cell_far (p := ⟨gb554, _, none⟩) NB563_554.out _).trans (((cell_far (p := ⟨gb554, _, none⟩) NB563_554.out _).trans (((cell_far (p := ⟨gb554, _, none⟩) NB563_554.out _).trans (hHeld.2.1)))))))), ((cell_far (p := ⟨gb554, _, none⟩) NB563_554.out _).trans (((cell_far (p := ⟨gb554, _, none⟩) NB563_554.out _).trans (((cell_far (p := ⟨gb554, _, none⟩) NB563_554.out _).trans (((cell_far (p := ⟨gb554, _, none⟩) NB563_554.out _).trans (hHeld.2.2.1)))))))), ((cell_far (p := ⟨gb554, _, none⟩) NB563_554.out _).trans (((cell_far (p := ⟨gb554, _, none⟩) NB563_554.out _).trans (((cell_far (p := ⟨gb554, _, none⟩) NB563_554.out _).trans (((cell_far (p := ⟨gb554, _, none⟩) NB563_554.out _).trans (hHeld.2.2.2.1)))))))), ((cell_far (p := ⟨gb554, _, none⟩) NB570_554.out _).trans (((cell_far (p := ⟨gb554, _, none⟩) NB570_554.out _).trans (((cell_far (p := ⟨gb554, _, none⟩) NB570_554.out _).trans (((cell_far (p := ⟨gb554, _, none⟩) NB570_554.out _).trans (hHeld.2.2.2.2.1)))))))), ((cell_far (p := ⟨gb554, _, none⟩) NB570_554.out _).trans (((cell_far (p := ⟨gb554, _, none⟩) NB570_554.out _).trans (((cell_far (p := ⟨gb554, _, none⟩) NB570_554.out _).trans (((cell_far (p := ⟨gb554, _, none⟩) NB570_554.out _).trans (hHeld.2.2.2.2.2.1)))))))), ((cell_far (p := ⟨gb554, _, none⟩) NB570_554.out _).trans (((cell_far (p := ⟨gb554, _, none⟩) NB570_554.out _).trans (((cell_far (p := ⟨gb554, _, none⟩) NB570_554.out _).trans (((cell_far (p := ⟨gb554, _, none⟩) NB570_554.out _).trans (hHeld.2.2.2.2.2.2.1)))))))), ((cell_far (p := ⟨gb554, _, none⟩) NB570_554.out _).trans (((cell_far (p := ⟨gb554, _, none⟩) NB570_554.out _).trans (((cell_far (p := ⟨gb554, _, none⟩) NB570_554.out _).trans (((cell_far (p := ⟨gb554, _, none⟩) NB570_554.out _).trans (hHeld.2.2.2.2.2.2.2))))))))⟩ (fun hHeld => ?_)
  clear hK K
  refine one_ (i := 3) (N := none) #[true, true, true, true] rfl rfl (by kernel_rfl) (by decide) (fun K hK => ?_)
  have hs37 : w32.cell? ⟨gb555, 0, none⟩ = some (.int .i64 0) := bc_
  have hfs37 := blk_frozen BK555.out 0
  have hns37_0 := NB554_555.out
  have hns37_2 := NB563_555.out
  have hns37_3 := NB564_555.out
  have hns37_4 := NB570_555.out
  have hms37_0 := NB555_554.out
  have hms37_2 := NB555_563.out
  have hms37_3 := NB555_564.out
  have hms37_4 := NB555_570.out
  have hs38 : w32.cell? ⟨gb555, 1, none⟩ = some (.int .i64 0) := bc_
  have hfs38 := blk_frozen BK555.out 1
  have hns38_0 := NB554_555.out
  have hns38_2 := NB563_555.out
  have hns38_3 := NB564_555.out
  have hns38_4 := NB570_555.out
  have hms38_0 := NB555_554.out
  have hms38_2 := NB555_563.out
  have hms38_3 := NB555_564.out
  have hms38_4 := NB555_570.out
  have hs39 : w32.cell? ⟨gb555, 2, none⟩ = some (.int .i64 0) := bc_
  have hfs39 := blk_frozen BK555.out 2
  have hns39_0 := NB554_555.out
  have hns39_2 := NB563_555.out
  have hns39_3 := NB564_555.out
  have hns39_4 := NB570_555.out
  have hms39_0 := NB555_554.out
  have hms39_2 := NB555_563.out
  have hms39_3 := NB555_564.out
  have hms39_4 := NB555_570.out
  have hs40 : w32.cell? ⟨gb555, 3, none⟩ = some (.int .i64 0) := bc_
  have hfs40 := blk_frozen BK555.out 3
  have hns40_0 := NB554_555.out
  have hns40_2 := NB563_555.out
  have hns40_3 := NB564_555.out
  have hns40_4 := NB570_555.out
  have hms40_0 := NB555_554.out
  have hms40_2 := NB555_563.out
  have hms40_3 := NB555_564.out
  have hms40_4 := NB555_570.out
  refine skip_ (w1 := ?_) (by rfl) rfl ?_ ?_
  rotate_left
  ·
   go_simp
   rfl
  refine hK.out _ _ ⟨((cell_far (p := ⟨gb555, _, none⟩) NB563_555.out _).trans (((cell_far (p := ⟨gb555, _, none⟩) NB563_555.out _).trans (((cell_far (p := ⟨gb555, _, none⟩) NB563_555.out _).trans (((cell_far (p := ⟨gb555, _, none⟩) NB563_555.out _).trans (hHeld.1)))))))), ((cell_far (p := ⟨gb555, _, none⟩) NB563_555.out _).trans (((cell_far (p := ⟨gb555, _, none⟩) NB563_555.out _).trans (((cell_far (p := ⟨gb555, _, none⟩) NB563_555.out _).trans (((cell_far (p := ⟨gb555, _, none⟩) NB563_555.out _).trans (hHeld.2.1)))))))), ((cell_far (p := ⟨gb555, _, none⟩) NB563_555.out _).trans (((cell_far (p := ⟨gb555, _, none⟩) NB563_555.out _).trans (((cell_far (p := ⟨gb555, _, none⟩) NB563_555.out _).trans (((cell_far (p := ⟨gb555, _, none⟩) NB563_555.out _).trans (hHeld.2.2.1)))))))), ((cell_far (p := ⟨gb555, _, none⟩) NB563_555.out _).trans (((cell_far (p := ⟨gb555, _, none⟩) NB563_555.out _).trans (((cell_far (p := ⟨gb555, _, none⟩) NB563_555.out _).trans (((cell_far (p := ⟨gb555, _, none⟩) NB563_555.out _).trans (hHeld.2.2.2.1)))))))), ((cell_far (p := ⟨gb555, _, none⟩) NB570_555.out _).trans (((cell_far (p := ⟨gb555, _, none⟩) NB570_555.out _).trans (((cell_far (p := ⟨gb555, _, none⟩) NB570_555.out _).trans (((cell_far (p := ⟨gb555, _, none⟩) NB570_555.out _).trans (hHeld.2.2.2.2.1)))))))), ((cell_far (p := ⟨gb555, _, none⟩) NB570_555.out _).trans (((cell_far (p := ⟨gb555, _, none⟩) NB570_555.out _).trans (((cell_far (p := ⟨gb555, _, none⟩) NB570_555.out _).trans (((cell_far (p := ⟨gb555, _, none⟩) NB570_555.out _).trans (hHeld.2.2.2.2.2.1)))))))), ((cell_far (p := ⟨gb555, _, none⟩) NB570_555.out _).trans (((cell_far (p := ⟨gb555, _, none⟩) NB570_555.out _).trans (((cell_far (p := ⟨gb555, _, none⟩) NB570_555.out _).trans (((cell_far (p := ⟨gb555, _, none⟩) NB570_555.out _).trans (hHeld.2.2.2.2.2.2.1)))))))), ((cell_far (p := ⟨gb555, _, none⟩) NB570_555.out _).trans (((cell_far (p := ⟨gb555, _, none⟩) NB570_555.out _).trans (((cell_far (p := ⟨gb555, _, none⟩) NB570_555.out _).trans (((cell_far (p := ⟨gb555, _, none⟩) NB570_555.out _).trans (hHeld.2.2.2.2.2.2.2))))))))⟩ (fun hHeld => ?_)
  clear hK K
  refine done_ (by kernel_rfl) ?_
  try go_wp2
  refine bodyPost_ret (results_cc rfl _ _ gb554 gb555 40 40 #[.int .i64 t556, .int .i64 t557, .int .i64 t558, .int .i64 t559] #[.int .i64 t560, .int .i64 t561, .int .i64 t567, .int .i64 t568] (0, 0) (0, 0) _ _ rfl (by (with_reducible repeat (first | refine blk_drewN ?_ _ | refine blk_drew ?_ | refine blk_alloc ?_ _)); refine blk_far ?_ NB554_555.out _; (with_reducible repeat (first | refine blk_drewN ?_ _ | refine blk_drew ?_ | refine blk_alloc ?_ _)); refine blk_far ?_ NB554_555.out _; (with_reducible repeat (first | refine blk_drewN ?_ _ | refine blk_drew ?_ | refine blk_alloc ?_ _)); refine blk_far ?_ NB554_555.out _; (with_reducible repeat (first | refine blk_drewN ?_ _ | refine blk_drew ?_ | refine blk_alloc ?_ _)); refine blk_far ?_ NB554_555.out _; (with_reducible repeat (first | refine blk_drewN ?_ _ | refine blk_drew ?_ | refine blk_alloc ?_ _)); refine blk_put (cs := #[.int .i64 t556, .int .i64 t557, .int .i64 t558, .int .i64 0]) ?_ 3 _ rfl; (with_reducible repeat (first | refine blk_drewN ?_ _ | refine blk_drew ?_ | refine blk_alloc ?_ _)); refine blk_put (cs := #[.int .i64 t556, .int .i64 t557, .int .i64 0, .int .i64 0]) ?_ 2 _ rfl; (with_reducible repeat (first | refine blk_drewN ?_ _ | refine blk_drew ?_ | refine blk_alloc ?_ _)); refine blk_put (cs := #[.int .i64 t556, .int .i64 0, .int .i64 0, .int .i64 0]) ?_ 1 _ rfl; (with_reducible repeat (first | refine blk_drewN ?_ _ | refine blk_drew ?_ | refine blk_alloc ?_ _)); refine blk_put (cs := #[.int .i64 0, .int .i64 0, .int .i64 0, .int .i64 0]) ?_ 0 _ rfl; (with_reducible repeat (first | refine blk_drewN ?_ _ | refine blk_drew ?_ | refine blk_alloc ?_ _)); exact BK554.out) Tryd.underlying40 rfl (by kernel_rfl) rfl (by (with_reducible repeat (first | refine blk_drewN ?_ _ | refine blk_drew ?_ | refine blk_alloc ?_ _)); refine blk_put (cs := #[.int .i64 t560, .int .i64 t561, .int .i64 t567, .int .i64 0]) ?_ 3 _ rfl; (with_reducible repeat (first | refine blk_drewN ?_ _ | refine blk_drew ?_ | refine blk_alloc ?_ _)); refine blk_put (cs := #[.int .i64 t560, .int .i64 t561, .int .i64 0, .int .i64 0]) ?_ 2 _ rfl; (with_reducible repeat (first | refine blk_drewN ?_ _ | refine blk_drew ?_ | refine blk_alloc ?_ _)); refine blk_put (cs := #[.int .i64 t560, .int .i64 0, .int .i64 0, .int .i64 0]) ?_ 1 _ rfl; (with_reducible repeat (first | refine blk_drewN ?_ _ | refine blk_drew ?_ | refine blk_alloc ?_ _)); refine blk_put (cs := #[.int .i64 0, .int .i64 0, .int .i64 0, .int .i64 0]) ?_ 0 _ rfl; (with_reducible repeat (first | refine blk_drewN ?_ _ | refine blk_drew ?_ | refine blk_alloc ?_ _)); refine blk_far ?_ NB555_554.out _; (with_reducible repeat (first | refine blk_drewN ?_ _ | refine blk_drew ?_ | refine blk_alloc ?_ _)); refine blk_far ?_ NB555_554.out _; (with_reducible repeat (first | refine blk_drewN ?_ _ | refine blk_drew ?_ | refine blk_alloc ?_ _)); refine blk_far ?_ NB555_554.out _; (with_reducible repeat (first | refine blk_drewN ?_ _ | refine blk_drew ?_ | refine blk_alloc ?_ _)); refine blk_far ?_ NB555_554.out _; (with_reducible repeat (first | refine blk_drewN ?_ _ | refine blk_drew ?_ | refine blk_alloc ?_ _)); exact BK555.out) Tryd.underlying40 rfl (by kernel_rfl)) rfl ?_
  exact ⟨by first | rfl | (simp [errW_none, errW_some] <;> rfl) | (simp [*, errW_none, errW_some] <;> rfl), by repeat (first | (with_reducible first | exact HI0.out | apply IsS96.alloc | apply IsS96.drewN | apply IsS96.drew | apply IsS96.set_1 | refine IsS96.far ?_ NB0_554.out _ | refine IsS96.far ?_ NB0_555.out _ | refine IsS96.far ?_ NB0_563.out _ | refine IsS96.far ?_ NB0_564.out _ | refine IsS96.far ?_ NB0_570.out _) | exact HI0.out), by repeat (first | (with_reducible first | exact HB.out | apply below_alloc | apply pw_below_drewN | apply below_drew1 | refine below_set ?_ (IsS96.ge HI0.out) | refine below_set ?_ GE554.out | refine below_set ?_ GE555.out | refine below_set ?_ GE563.out | refine below_set ?_ GE564.out | refine below_set ?_ GE570.out) | exact HB.out), by repeat (first | (with_reducible first | exact HK.out | apply KeepBut.set_ | apply keep_drewN | apply keep_drew | apply keep_alloc | refine keep_far ?_ GW554.out _ | refine keep_far ?_ GW555.out _ | refine keep_far ?_ GW563.out _ | refine keep_far ?_ GW564.out _ | refine keep_far ?_ GW570.out _) | exact HK.out)⟩
 ·
  rw [if_neg c5] at H
  have c5b0 : decide (t571 < 3) = false := decide_eq_false c5
  clear c5
  simp only [Option.some.injEq, Prod.mk.injEq] at H
  obtain ⟨rfl, rfl, rfl, rfl, rfl, rfl, rfl, rfl, rfl⟩ := H
  go_enter Tryd.func63, Tryd.ntmps63
  try go_wp2_with (first | ((with_reducible refine gate_dst (N := 2) rfl ?_); refine box_event ?hg (N := 2) ?hd (cs := #[.int .i64 0, .int .i64 0, .int .i64 0, .int .i64 0]) (t := 40) ?hr ?_; (case hd => rfl); (case hg => rfl); (case hr => first | (go_simp; done) | (go_simp; rfl)); intro gb554 hg w41 hbox hb; have n0_ := Aside0.mk (IsS96.below (by repeat (first | (with_reducible first | exact HI0.out | apply IsS96.alloc | apply IsS96.drewN | apply IsS96.drew | apply IsS96.set_1) | exact HI0.out)) hb); have n1_ := Aside0.mk (KeepBut.trans (by repeat (first | (with_reducible first | exact HK.out | apply KeepBut.set_ | apply keep_drewN | apply keep_drew | apply keep_alloc) | exact HK.out)) (KeepBut.of_below hb g none) (.inl rfl)); have n2_ := Aside0.mk (below_step (by repeat (first | (with_reducible first | exact HB.out | apply below_alloc | apply pw_below_drewN | apply below_drew1 | refine below_set ?_ (IsS96.ge HI0.out)) | exact HB.out)) hb); have n3_ := Aside0.mk (hbox); have n4_ := Aside0.mk ((by rw [hg]; exact (keep_size (w := w) (g := g) (row := none) (by repeat (first | (with_reducible first | exact HK.out | apply KeepBut.set_ | apply keep_drewN | apply keep_drew | apply keep_alloc) | exact HK.out))) : w.heap.size ≤ gb554)); have n5_ := Aside0.mk ((Nat.le_trans HW0.out (by rw [hg]; exact (keep_size (w := w) (g := g) (row := none) (by repeat (first | (with_reducible first | exact HK.out | apply KeepBut.set_ | apply keep_drewN | apply keep_drew | apply keep_alloc) | exact HK.out))) : w.heap.size ≤ gb554) : w0.heap.size ≤ gb554)); have n6_ := Aside0.mk ((by rw [hg]; exact Nat.ne_of_lt (IsS96.lt (show IsS96 w0 _ g s0_0 s0_1 from by repeat (first | (with_reducible first | exact HI0.out | apply IsS96.alloc | apply IsS96.drewN | apply IsS96.drew | apply IsS96.set_1) | exact HI0.out))) : g ≠ gb554)); have n7_ := Aside0.mk ((by rw [hg]; exact Nat.ne_of_gt (IsS96.lt (show IsS96 w0 _ g s0_0 s0_1 from by repeat (first | (with_reducible first | exact HI0.out | apply IsS96.alloc | apply IsS96.drewN | apply IsS96.drew | apply IsS96.set_1) | exact HI0.out))) : gb554 ≠ g)); clear HI0; clear HK; clear HB; have HI0 := n0_; have HK := n1_; have HB := n2_; have BK554 := n3_; have GW554 := n4_; have GE554 := n5_; have NB0_554 := n6_; have NB554_0 := n7_; clear n0_ n1_ n2_ n3_ n4_ n5_ n6_ n7_; clear hb hbox hg) | ((with_reducible refine gate_dst (N := 3) rfl ?_); refine box_event ?hg (N := 3) ?hd (cs := #[.int .i64 0, .int .i64 0, .int .i64 0, .int .i64 0]) (t := 40) ?hr ?_; (case hd => rfl); (case hg => rfl); (case hr => first | (go_simp; done) | (go_simp; rfl)); intro gb555 hg w42 hbox hb; have n0_ := Aside0.mk (IsS96.below (by repeat (first | (with_reducible first | exact HI0.out | apply IsS96.alloc | apply IsS96.drewN | apply IsS96.drew | apply IsS96.set_1 | refine IsS96.far ?_ NB0_554.out _) | exact HI0.out)) hb); have n1_ := Aside0.mk (ub_ (g := gb554) hb); have n2_ := Aside0.mk (KeepBut.trans (by repeat (first | (with_reducible first | exact HK.out | apply KeepBut.set_ | apply keep_drewN | apply keep_drew | apply keep_alloc | refine keep_far ?_ GW554.out _) | exact HK.out)) (KeepBut.of_below hb g none) (.inl rfl)); have n3_ := Aside0.mk (below_step (by repeat (first | (with_reducible first | exact HB.out | apply below_alloc | apply pw_below_drewN | apply below_drew1 | refine below_set ?_ (IsS96.ge HI0.out) | refine below_set ?_ GE554.out) | exact HB.out)) hb); have n4_ := Aside0.mk (hbox); have n5_ := Aside0.mk ((by rw [hg]; exact (keep_size (w := w) (g := g) (row := none) (by repeat (first | (with_reducible first | exact HK.out | apply KeepBut.set_ | apply keep_drewN | apply keep_drew | apply keep_alloc | refine keep_far ?_ GW554.out _) | exact HK.out))) : w.heap.size ≤ gb555)); have n6_ := Aside0.mk ((Nat.le_trans HW0.out (by rw [hg]; exact (keep_size (w := w) (g := g) (row := none) (by repeat (first | (with_reducible first | exact HK.out | apply KeepBut.set_ | apply keep_drewN | apply keep_drew | apply keep_alloc | refine keep_far ?_ GW554.out _) | exact HK.out))) : w.heap.size ≤ gb555) : w0.heap.size ≤ gb555)); have n7_ := Aside0.mk ((by rw [hg]; exact Nat.ne_of_lt (blk_lt (g := gb554) (o := .cells #[.int .i64 0, .int .i64 0, .int .i64 0, .int .i64 0] 40 (0, 0)) uq_) : gb554 ≠ gb555)); have n8_ := Aside0.mk ((by rw [hg]; exact Nat.ne_of_gt (blk_lt (g := gb554) (o := .cells #[.int .i64 0, .int .i64 0, .int .i64 0, .int .i64 0] 40 (0, 0)) uq_) : gb555 ≠ gb554)); have n9_ := Aside0.mk ((by rw [hg]; exact Nat.ne_of_lt (IsS96.lt (show IsS96 w0 _ g s0_0 s0_1 from by repeat (first | (with_reducible first | exact HI0.out | apply IsS96.alloc | apply IsS96.drewN | apply IsS96.drew | apply IsS96.set_1 | refine IsS96.far ?_ NB0_554.out _) | exact HI0.out))) : g ≠ gb555)); have n10_ := Aside0.mk ((by rw [hg]; exact Nat.ne_of_gt (IsS96.lt (show IsS96 w0 _ g s0_0 s0_1 from by repeat (first | (with_reducible first | exact HI0.out | apply IsS96.alloc | apply IsS96.drewN | apply IsS96.drew | apply IsS96.set_1 | refine IsS96.far ?_ NB0_554.out _) | exact HI0.out))) : gb555 ≠ g)); clear HI0; clear BK554; clear HK; clear HB; have HI0 := n0_; have BK554 := n1_; have HK := n2_; have HB := n3_; have BK555 := n4_; have GW555 := n5_; have GE555 := n6_; have NB554_555 := n7_; have NB555_554 := n8_; have NB0_555 := n9_; have NB555_0 := n10_; clear n0_ n1_ n2_ n3_ n4_ n5_ n6_ n7_ n8_ n9_ n10_; clear hb hbox hg) | ((with_reducible refine gate_callee (f := 49) rfl ?_); refine goesL_ (some 9) rfl rfl Tryd.func49 (by kernel_rfl) rfl #[.pointer (some ⟨g, 0, none⟩)] rfl ma_ ?_; (with_reducible refine (spec_l71On.calls k g s0_0 s0_1 t556 t557 t558 t559 t560 t561 t562 w0 _ ?side1 ?side2 A2.out).mono ?_); (case side1 => repeat (first | (with_reducible first | exact HI0.out | apply IsS96.alloc | apply IsS96.drewN | apply IsS96.drew | apply IsS96.set_1 | refine IsS96.far ?_ NB0_554.out _ | refine IsS96.far ?_ NB0_555.out _) | exact HI0.out)); (case side2 => repeat (first | (with_reducible first | exact HB.out | apply below_alloc | apply pw_below_drewN | apply below_drew1 | refine below_set ?_ (IsS96.ge HI0.out) | refine below_set ?_ GE554.out | refine below_set ?_ GE555.out) | exact HB.out)); rintro e w43 ⟨rfl, hi, hb, hk⟩; refine ⟨_, rfl, ?_⟩; have n0_ := Aside0.mk (KeepBut.blk hk (g' := gb554) (o := .cells #[.int .i64 0, .int .i64 0, .int .i64 0, .int .i64 0] 40 (0, 0)) uq_ NB554_0.out (by simp)); have n1_ := Aside0.mk (KeepBut.blk hk (g' := gb555) (o := .cells #[.int .i64 0, .int .i64 0, .int .i64 0, .int .i64 0] 40 (0, 0)) uq_ NB555_0.out (by simp)); have n2_ := Aside0.mk (KeepBut.trans (by repeat (first | (with_reducible first | exact HK.out | apply KeepBut.set_ | apply keep_drewN | apply keep_drew | apply keep_alloc | refine keep_far ?_ GW554.out _ | refine keep_far ?_ GW555.out _) | exact HK.out)) hk (.inl rfl)); have n3_ := Aside0.mk (hb); have n4_ := Aside0.mk (hi); clear BK554; clear BK555; clear HK; clear HB; clear HI0; have BK554 := n0_; have BK555 := n1_; have HK := n2_; have HB := n3_; have HI0 := n4_; clear n0_ n1_ n2_ n3_ n4_; (try clear hb); (try clear hb2); (try clear hk); (try clear hi)) | ((with_reducible refine gate_dst (N := 4) rfl ?_); refine box_event ?hg (N := 4) ?hd (cs := #[.int .i64 0, .int .i64 0, .int .i64 0, .int .i64 0]) (t := 40) ?hr ?_; (case hd => rfl); (case hg => rfl); (case hr => first | (go_simp; done) | (go_simp; rfl)); intro gb563 hg w44 hbox hb; have n0_ := Aside0.mk (IsS96.below (by repeat (first | (with_reducible first | exact HI0.out | apply IsS96.alloc | apply IsS96.drewN | apply IsS96.drew | apply IsS96.set_1 | refine IsS96.far ?_ NB0_554.out _ | refine IsS96.far ?_ NB0_555.out _) | exact HI0.out)) hb); have n1_ := Aside0.mk (ub_ (g := gb554) hb); have n2_ := Aside0.mk (ub_ (g := gb555) hb); have n3_ := Aside0.mk (KeepBut.trans (by repeat (first | (with_reducible first | exact HK.out | apply KeepBut.set_ | apply keep_drewN | apply keep_drew | apply keep_alloc | refine keep_far ?_ GW554.out _ | refine keep_far ?_ GW555.out _) | exact HK.out)) (KeepBut.of_below hb g none) (.inl rfl)); have n4_ := Aside0.mk (below_step (by repeat (first | (with_reducible first | exact HB.out | apply below_alloc | apply pw_below_drewN | apply below_drew1 | refine below_set ?_ (IsS96.ge HI0.out) | refine below_set ?_ GE554.out | refine below_set ?_ GE555.out) | exact HB.out)) hb); have n5_ := Aside0.mk (hbox); have n6_ := Aside0.mk ((by rw [hg]; exact (keep_size (w := w) (g := g) (row := none) (by repeat (first | (with_reducible first | exact HK.out | apply KeepBut.set_ | apply keep_drewN | apply keep_drew | apply keep_alloc | refine keep_far ?_ GW554.out _ | refine keep_far ?_ GW555.out _) | exact HK.out))) : w.heap.size ≤ gb563)); have n7_ := Aside0.mk ((Nat.le_trans HW0.out (by rw [hg]; exact (keep_size (w := w) (g := g) (row := none) (by repeat (first | (with_reducible first | exact HK.out | apply KeepBut.set_ | apply keep_drewN | apply keep_drew | apply keep_alloc | refine keep_far ?_ GW554.out _ | refine keep_far ?_ GW555.out _) | exact HK.out))) : w.heap.size ≤ gb563) : w0.heap.size ≤ gb563)); have n8_ := Aside0.mk ((by rw [hg]; exact Nat.ne_of_lt (blk_lt (g := gb554) (o := .cells #[.int .i64 0, .int .i64 0, .int .i64 0, .int .i64 0] 40 (0, 0)) uq_) : gb554 ≠ gb563)); have n9_ := Aside0.mk ((by rw [hg]; exact Nat.ne_of_gt (blk_lt (g := gb554) (o := .cells #[.int .i64 0, .int .i64 0, .int .i64 0, .int .i64 0] 40 (0, 0)) uq_) : gb563 ≠ gb554)); have n10_ := Aside0.mk ((by rw [hg]; exact Nat.ne_of_lt (blk_lt (g := gb555) (o := .cells #[.int .i64 0, .int .i64 0, .int .i64 0, .int .i64 0] 40 (0, 0)) uq_) : gb555 ≠ gb563)); have n11_ := Aside0.mk ((by rw [hg]; exact Nat.ne_of_gt (blk_lt (g := gb555) (o := .cells #[.int .i64 0, .int .i64 0, .int .i64 0, .int .i64 0] 40 (0, 0)) uq_) : gb563 ≠ gb555)); have n12_ := Aside0.mk ((by rw [hg]; exact Nat.ne_of_lt (IsS96.lt (show IsS96 w0 _ g s0_0 t562 from by repeat (first | (with_reducible first | exact HI0.out | apply IsS96.alloc | apply IsS96.drewN | apply IsS96.drew | apply IsS96.set_1 | refine IsS96.far ?_ NB0_554.out _ | refine IsS96.far ?_ NB0_555.out _) | exact HI0.out))) : g ≠ gb563)); have n13_ := Aside0.mk ((by rw [hg]; exact Nat.ne_of_gt (IsS96.lt (show IsS96 w0 _ g s0_0 t562 from by repeat (first | (with_reducible first | exact HI0.out | apply IsS96.alloc | apply IsS96.drewN | apply IsS96.drew | apply IsS96.set_1 | refine IsS96.far ?_ NB0_554.out _ | refine IsS96.far ?_ NB0_555.out _) | exact HI0.out))) : gb563 ≠ g)); clear HI0; clear BK554; clear BK555; clear HK; clear HB; have HI0 := n0_; have BK554 := n1_; have BK555 := n2_; have HK := n3_; have HB := n4_; have BK563 := n5_; have GW563 := n6_; have GE563 := n7_; have NB554_563 := n8_; have NB563_554 := n9_; have NB555_563 := n10_; have NB563_555 := n11_; have NB0_563 := n12_; have NB563_0 := n13_; clear n0_ n1_ n2_ n3_ n4_ n5_ n6_ n7_ n8_ n9_ n10_ n11_ n12_ n13_; clear hb hbox hg) | ((with_reducible refine gate_dst (N := 5) rfl ?_); refine box_event ?hg (N := 5) ?hd (cs := #[.int .i64 0, .int .i64 0]) (t := 38) ?hr ?_; (case hd => rfl); (case hg => rfl); (case hr => first | (go_simp; done) | (go_simp; rfl)); intro gb564 hg w45 hbox hb; have n0_ := Aside0.mk (IsS96.below (by repeat (first | (with_reducible first | exact HI0.out | apply IsS96.alloc | apply IsS96.drewN | apply IsS96.drew | apply IsS96.set_1 | refine IsS96.far ?_ NB0_554.out _ | refine IsS96.far ?_ NB0_555.out _ | refine IsS96.far ?_ NB0_563.out _) | exact HI0.out)) hb); have n1_ := Aside0.mk (ub_ (g := gb554) hb); have n2_ := Aside0.mk (ub_ (g := gb555) hb); have n3_ := Aside0.mk (ub_ (g := gb563) hb); have n4_ := Aside0.mk (KeepBut.trans (by repeat (first | (with_reducible first | exact HK.out | apply KeepBut.set_ | apply keep_drewN | apply keep_drew | apply keep_alloc | refine keep_far ?_ GW554.out _ | refine keep_far ?_ GW555.out _ | refine keep_far ?_ GW563.out _) | exact HK.out)) (KeepBut.of_below hb g none) (.inl rfl)); have n5_ := Aside0.mk (below_step (by repeat (first | (with_reducible first | exact HB.out | apply below_alloc | apply pw_below_drewN | apply below_drew1 | refine below_set ?_ (IsS96.ge HI0.out) | refine below_set ?_ GE554.out | refine below_set ?_ GE555.out | refine below_set ?_ GE563.out) | exact HB.out)) hb); have n6_ := Aside0.mk (hbox); have n7_ := Aside0.mk ((by rw [hg]; exact (keep_size (w := w) (g := g) (row := none) (by repeat (first | (with_reducible first | exact HK.out | apply KeepBut.set_ | apply keep_drewN | apply keep_drew | apply keep_alloc | refine keep_far ?_ GW554.out _ | refine keep_far ?_ GW555.out _ | refine keep_far ?_ GW563.out _) | exact HK.out))) : w.heap.size ≤ gb564)); have n8_ := Aside0.mk ((Nat.le_trans HW0.out (by rw [hg]; exact (keep_size (w := w) (g := g) (row := none) (by repeat (first | (with_reducible first | exact HK.out | apply KeepBut.set_ | apply keep_drewN | apply keep_drew | apply keep_alloc | refine keep_far ?_ GW554.out _ | refine keep_far ?_ GW555.out _ | refine keep_far ?_ GW563.out _) | exact HK.out))) : w.heap.size ≤ gb564) : w0.heap.size ≤ gb564)); have n9_ := Aside0.mk ((by rw [hg]; exact Nat.ne_of_lt (blk_lt (g := gb554) (o := .cells #[.int .i64 0, .int .i64 0, .int .i64 0, .int .i64 0] 40 (0, 0)) uq_) : gb554 ≠ gb564)); have n10_ := Aside0.mk ((by rw [hg]; exact Nat.ne_of_gt (blk_lt (g := gb554) (o := .cells #[.int .i64 0, .int .i64 0, .int .i64 0, .int .i64 0] 40 (0, 0)) uq_) : gb564 ≠ gb554)); have n11_ := Aside0.mk ((by rw [hg]; exact Nat.ne_of_lt (blk_lt (g := gb555) (o := .cells #[.int .i64 0, .int .i64 0, .int .i64 0, .int .i64 0] 40 (0, 0)) uq_) : gb555 ≠ gb564)); have n12_ := Aside0.mk ((by rw [hg]; exact Nat.ne_of_gt (blk_lt (g := gb555) (o := .cells #[.int .i64 0, .int .i64 0, .int .i64 0, .int .i64 0] 40 (0, 0)) uq_) : gb564 ≠ gb555)); have n13_ := Aside0.mk ((by rw [hg]; exact Nat.ne_of_lt (blk_lt (g := gb563) (o := .cells #[.int .i64 0, .int .i64 0, .int .i64 0, .int .i64 0] 40 (0, 0)) uq_) : gb563 ≠ gb564)); have n14_ := Aside0.mk ((by rw [hg]; exact Nat.ne_of_gt (blk_lt (g := gb563) (o := .cells #[.int .i64 0, .int .i64 0, .int .i64 0, .int .i64 0] 40 (0, 0)) uq_) : gb564 ≠ gb563)); have n15_ := Aside0.mk ((by rw [hg]; exact Nat.ne_of_lt (IsS96.lt (show IsS96 w0 _ g s0_0 t562 from by repeat (first | (with_reducible first | exact HI0.out | apply IsS96.alloc | apply IsS96.drewN | apply IsS96.drew | apply IsS96.set_1 | refine IsS96.far ?_ NB0_554.out _ | refine IsS96.far ?_ NB0_555.out _ | refine IsS96.far ?_ NB0_563.out _) | exact HI0.out))) : g ≠ gb564)); have n16_ := Aside0.mk ((by rw [hg]; exact Nat.ne_of_gt (IsS96.lt (show IsS96 w0 _ g s0_0 t562 from by repeat (first | (with_reducible first | exact HI0.out | apply IsS96.alloc | apply IsS96.drewN | apply IsS96.drew | apply IsS96.set_1 | refine IsS96.far ?_ NB0_554.out _ | refine IsS96.far ?_ NB0_555.out _ | refine IsS96.far ?_ NB0_563.out _) | exact HI0.out))) : gb564 ≠ g)); clear HI0; clear BK554; clear BK555; clear BK563; clear HK; clear HB; have HI0 := n0_; have BK554 := n1_; have BK555 := n2_; have BK563 := n3_; have HK := n4_; have HB := n5_; have BK564 := n6_; have GW564 := n7_; have GE564 := n8_; have NB554_564 := n9_; have NB564_554 := n10_; have NB555_564 := n11_; have NB564_555 := n12_; have NB563_564 := n13_; have NB564_563 := n14_; have NB0_564 := n15_; have NB564_0 := n16_; clear n0_ n1_ n2_ n3_ n4_ n5_ n6_ n7_ n8_ n9_ n10_ n11_ n12_ n13_ n14_ n15_ n16_; clear hb hbox hg; have hnb46 := NB563_554.out; have hnc46 := NB554_563.out; have hnb47 := NB563_555.out; have hnc47 := NB555_563.out; have hnb48 := NB563_564.out; have hnc48 := NB564_563.out; have hnb49 := NB563_0.out; have hnc49 := NB0_563.out; have hcz50_0 : w45.cell? ⟨gb563, 0, none⟩ = some (.int .i64 0) := bc_; have hcz50_1 : w45.cell? ⟨gb563, 1, none⟩ = some (.int .i64 0) := bc_; have hcz50_2 : w45.cell? ⟨gb563, 2, none⟩ = some (.int .i64 0) := bc_; have hcz50_3 : w45.cell? ⟨gb563, 3, none⟩ = some (.int .i64 0) := bc_; have hfz50_0 := blk_frozen BK563.out 0; have hfz50_1 := blk_frozen BK563.out 1; have hfz50_2 := blk_frozen BK563.out 2; have hfz50_3 := blk_frozen BK563.out 3; have hnb51 := NB564_554.out; have hnc51 := NB554_564.out; have hnb52 := NB564_555.out; have hnc52 := NB555_564.out; have hnb53 := NB564_0.out; have hnc53 := NB0_564.out; have hcz54_0 : w45.cell? ⟨gb564, 0, none⟩ = some (.int .i64 0) := bc_; have hcz54_1 : w45.cell? ⟨gb564, 1, none⟩ = some (.int .i64 0) := bc_; have hfz54_0 := blk_frozen BK564.out 0; have hfz54_1 := blk_frozen BK564.out 1) | ((with_reducible refine gate_callee (f := 50) rfl ?_); refine goesL_ (some 13) rfl rfl Tryd.func50 (by kernel_rfl) rfl #[.pointer (some ⟨g, 0, none⟩)] rfl ma_ ?_; (with_reducible refine (spec_l71Seg.calls k g s0_0 t562 t565 t566 t567 t568 t569 w0 _ ?side1 ?side2 A3.out).mono ?_); (case side1 => repeat (first | (with_reducible first | exact HI0.out | apply IsS96.alloc | apply IsS96.drewN | apply IsS96.drew | apply IsS96.set_1 | refine IsS96.far ?_ NB0_554.out _ | refine IsS96.far ?_ NB0_555.out _ | refine IsS96.far ?_ NB0_563.out _ | refine IsS96.far ?_ NB0_564.out _) | exact HI0.out)); (case side2 => repeat (first | (with_reducible first | exact HB.out | apply below_alloc | apply pw_below_drewN | apply below_drew1 | refine below_set ?_ (IsS96.ge HI0.out) | refine below_set ?_ GE554.out | refine below_set ?_ GE555.out | refine below_set ?_ GE563.out | refine below_set ?_ GE564.out) | exact HB.out)); rintro e w55 ⟨rfl, hi, hb, hk⟩; refine ⟨_, rfl, ?_⟩; have n0_ := Aside0.mk (KeepBut.blk hk (g' := gb554) (o := .cells #[.int .i64 0, .int .i64 0, .int .i64 0, .int .i64 0] 40 (0, 0)) (by (with_reducible repeat (first | refine blk_drewN ?_ _ | refine blk_drew ?_ | refine blk_alloc ?_ _)); refine blk_far ?_ NB554_564.out _; (with_reducible repeat (first | refine blk_drewN ?_ _ | refine blk_drew ?_ | refine blk_alloc ?_ _)); refine blk_far ?_ NB554_564.out _; (with_reducible repeat (first | refine blk_drewN ?_ _ | refine blk_drew ?_ | refine blk_alloc ?_ _)); refine blk_far ?_ NB554_563.out _; (with_reducible repeat (first | refine blk_drewN ?_ _ | refine blk_drew ?_ | refine blk_alloc ?_ _)); refine blk_far ?_ NB554_563.out _; (with_reducible repeat (first | refine blk_drewN ?_ _ | refine blk_drew ?_ | refine blk_alloc ?_ _)); refine blk_far ?_ NB554_563.out _; (with_reducible repeat (first | refine blk_drewN ?_ _ | refine blk_drew ?_ | refine blk_alloc ?_ _)); refine blk_far ?_ NB554_563.out _; (with_reducible repeat (first | refine blk_drewN ?_ _ | refine blk_drew ?_ | refine blk_alloc ?_ _)); exact BK554.out) NB554_0.out (by simp)); have n1_ := Aside0.mk (KeepBut.blk hk (g' := gb555) (o := .cells #[.int .i64 0, .int .i64 0, .int .i64 0, .int .i64 0] 40 (0, 0)) (by (with_reducible repeat (first | refine blk_drewN ?_ _ | refine blk_drew ?_ | refine blk_alloc ?_ _)); refine blk_far ?_ NB555_564.out _; (with_reducible repeat (first | refine blk_drewN ?_ _ | refine blk_drew ?_ | refine blk_alloc ?_ _)); refine blk_far ?_ NB555_564.out _; (with_reducible repeat (first | refine blk_drewN ?_ _ | refine blk_drew ?_ | refine blk_alloc ?_ _)); refine blk_far ?_ NB555_563.out _; (with_reducible repeat (first | refine blk_drewN ?_ _ | refine blk_drew ?_ | refine blk_alloc ?_ _)); refine blk_far ?_ NB555_563.out _; (with_reducible repeat (first | refine blk_drewN ?_ _ | refine blk_drew ?_ | refine blk_alloc ?_ _)); refine blk_far ?_ NB555_563.out _; (with_reducible repeat (first | refine blk_drewN ?_ _ | refine blk_drew ?_ | refine blk_alloc ?_ _)); refine blk_far ?_ NB555_563.out _; (with_reducible repeat (first | refine blk_drewN ?_ _ | refine blk_drew ?_ | refine blk_alloc ?_ _)); exact BK555.out) NB555_0.out (by simp)); have n2_ := Aside0.mk (KeepBut.blk hk (g' := gb563) (o := .cells #[.int .i64 t556, .int .i64 t557, .int .i64 t558, .int .i64 t559] 40 (0, 0)) (by (with_reducible repeat (first | refine blk_drewN ?_ _ | refine blk_drew ?_ | refine blk_alloc ?_ _)); refine blk_far ?_ NB563_564.out _; (with_reducible repeat (first | refine blk_drewN ?_ _ | refine blk_drew ?_ | refine blk_alloc ?_ _)); refine blk_far ?_ NB563_564.out _; (with_reducible repeat (first | refine blk_drewN ?_ _ | refine blk_drew ?_ | refine blk_alloc ?_ _)); refine blk_put (cs := #[.int .i64 t556, .int .i64 t557, .int .i64 t558, .int .i64 0]) ?_ 3 _ rfl; (with_reducible repeat (first | refine blk_drewN ?_ _ | refine blk_drew ?_ | refine blk_alloc ?_ _)); refine blk_put (cs := #[.int .i64 t556, .int .i64 t557, .int .i64 0, .int .i64 0]) ?_ 2 _ rfl; (with_reducible repeat (first | refine blk_drewN ?_ _ | refine blk_drew ?_ | refine blk_alloc ?_ _)); refine blk_put (cs := #[.int .i64 t556, .int .i64 0, .int .i64 0, .int .i64 0]) ?_ 1 _ rfl; (with_reducible repeat (first | refine blk_drewN ?_ _ | refine blk_drew ?_ | refine blk_alloc ?_ _)); refine blk_put (cs := #[.int .i64 0, .int .i64 0, .int .i64 0, .int .i64 0]) ?_ 0 _ rfl; (with_reducible repeat (first | refine blk_drewN ?_ _ | refine blk_drew ?_ | refine blk_alloc ?_ _)); exact BK563.out) NB563_0.out (by simp)); have n3_ := Aside0.mk (KeepBut.blk hk (g' := gb564) (o := .cells #[.int .i64 t560, .int .i64 t561] 38 (0, 0)) (by (with_reducible repeat (first | refine blk_drewN ?_ _ | refine blk_drew ?_ | refine blk_alloc ?_ _)); refine blk_put (cs := #[.int .i64 t560, .int .i64 0]) ?_ 1 _ rfl; (with_reducible repeat (first | refine blk_drewN ?_ _ | refine blk_drew ?_ | refine blk_alloc ?_ _)); refine blk_put (cs := #[.int .i64 0, .int .i64 0]) ?_ 0 _ rfl; (with_reducible repeat (first | refine blk_drewN ?_ _ | refine blk_drew ?_ | refine blk_alloc ?_ _)); refine blk_far ?_ NB564_563.out _; (with_reducible repeat (first | refine blk_drewN ?_ _ | refine blk_drew ?_ | refine blk_alloc ?_ _)); refine blk_far ?_ NB564_563.out _; (with_reducible repeat (first | refine blk_drewN ?_ _ | refine blk_drew ?_ | refine blk_alloc ?_ _)); refine blk_far ?_ NB564_563.out _; (with_reducible repeat (first | refine blk_drewN ?_ _ | refine blk_drew ?_ | refine blk_alloc ?_ _)); refine blk_far ?_ NB564_563.out _; (with_reducible repeat (first | refine blk_drewN ?_ _ | refine blk_drew ?_ | refine blk_alloc ?_ _)); exact BK564.out) NB564_0.out (by simp)); have n4_ := Aside0.mk (KeepBut.trans (by repeat (first | (with_reducible first | exact HK.out | apply KeepBut.set_ | apply keep_drewN | apply keep_drew | apply keep_alloc | refine keep_far ?_ GW554.out _ | refine keep_far ?_ GW555.out _ | refine keep_far ?_ GW563.out _ | refine keep_far ?_ GW564.out _) | exact HK.out)) hk (.inl rfl)); have n5_ := Aside0.mk (hb); have n6_ := Aside0.mk (hi); clear BK554; clear BK555; clear BK563; clear BK564; clear HK; clear HB; clear HI0; have BK554 := n0_; have BK555 := n1_; have BK563 := n2_; have BK564 := n3_; have HK := n4_; have HB := n5_; have HI0 := n6_; clear n0_ n1_ n2_ n3_ n4_ n5_ n6_; (try clear hb); (try clear hb2); (try clear hk); (try clear hi)) | ((with_reducible refine gate_dst (N := 6) rfl ?_); refine box_event ?hg (N := 6) ?hd (cs := #[.int .i64 0, .int .i64 0, .int .i64 0, .int .i64 0]) (t := 40) ?hr ?_; (case hd => rfl); (case hg => rfl); (case hr => first | (go_simp; done) | (go_simp; rfl)); intro gb570 hg w56 hbox hb; have n0_ := Aside0.mk (IsS96.below (by repeat (first | (with_reducible first | exact HI0.out | apply IsS96.alloc | apply IsS96.drewN | apply IsS96.drew | apply IsS96.set_1 | refine IsS96.far ?_ NB0_554.out _ | refine IsS96.far ?_ NB0_555.out _ | refine IsS96.far ?_ NB0_563.out _ | refine IsS96.far ?_ NB0_564.out _) | exact HI0.out)) hb); have n1_ := Aside0.mk (ub_ (g := gb554) hb); have n2_ := Aside0.mk (ub_ (g := gb555) hb); have n3_ := Aside0.mk (ub_ (g := gb563) hb); have n4_ := Aside0.mk (ub_ (g := gb564) hb); have n5_ := Aside0.mk (KeepBut.trans (by repeat (first | (with_reducible first | exact HK.out | apply KeepBut.set_ | apply keep_drewN | apply keep_drew | apply keep_alloc | refine keep_far ?_ GW554.out _ | refine keep_far ?_ GW555.out _ | refine keep_far ?_ GW563.out _ | refine keep_far ?_ GW564.out _) | exact HK.out)) (KeepBut.of_below hb g none) (.inl rfl)); have n6_ := Aside0.mk (below_step (by repeat (first | (with_reducible first | exact HB.out | apply below_alloc | apply pw_below_drewN | apply below_drew1 | refine below_set ?_ (IsS96.ge HI0.out) | refine below_set ?_ GE554.out | refine below_set ?_ GE555.out | refine below_set ?_ GE563.out | refine below_set ?_ GE564.out) | exact HB.out)) hb); have n7_ := Aside0.mk (hbox); have n8_ := Aside0.mk ((by rw [hg]; exact (keep_size (w := w) (g := g) (row := none) (by repeat (first | (with_reducible first | exact HK.out | apply KeepBut.set_ | apply keep_drewN | apply keep_drew | apply keep_alloc | refine keep_far ?_ GW554.out _ | refine keep_far ?_ GW555.out _ | refine keep_far ?_ GW563.out _ | refine keep_far ?_ GW564.out _) | exact HK.out))) : w.heap.size ≤ gb570)); have n9_ := Aside0.mk ((Nat.le_trans HW0.out (by rw [hg]; exact (keep_size (w := w) (g := g) (row := none) (by repeat (first | (with_reducible first | exact HK.out | apply KeepBut.set_ | apply keep_drewN | apply keep_drew | apply keep_alloc | refine keep_far ?_ GW554.out _ | refine keep_far ?_ GW555.out _ | refine keep_far ?_ GW563.out _ | refine keep_far ?_ GW564.out _) | exact HK.out))) : w.heap.size ≤ gb570) : w0.heap.size ≤ gb570)); have n10_ := Aside0.mk ((by rw [hg]; exact Nat.ne_of_lt (blk_lt (g := gb554) (o := .cells #[.int .i64 0, .int .i64 0, .int .i64 0, .int .i64 0] 40 (0, 0)) uq_) : gb554 ≠ gb570)); have n11_ := Aside0.mk ((by rw [hg]; exact Nat.ne_of_gt (blk_lt (g := gb554) (o := .cells #[.int .i64 0, .int .i64 0, .int .i64 0, .int .i64 0] 40 (0, 0)) uq_) : gb570 ≠ gb554)); have n12_ := Aside0.mk ((by rw [hg]; exact Nat.ne_of_lt (blk_lt (g := gb555) (o := .cells #[.int .i64 0, .int .i64 0, .int .i64 0, .int .i64 0] 40 (0, 0)) uq_) : gb555 ≠ gb570)); have n13_ := Aside0.mk ((by rw [hg]; exact Nat.ne_of_gt (blk_lt (g := gb555) (o := .cells #[.int .i64 0, .int .i64 0, .int .i64 0, .int .i64 0] 40 (0, 0)) uq_) : gb570 ≠ gb555)); have n14_ := Aside0.mk ((by rw [hg]; exact Nat.ne_of_lt (blk_lt (g := gb563) (o := .cells #[.int .i64 t556, .int .i64 t557, .int .i64 t558, .int .i64 t559] 40 (0, 0)) uq_) : gb563 ≠ gb570)); have n15_ := Aside0.mk ((by rw [hg]; exact Nat.ne_of_gt (blk_lt (g := gb563) (o := .cells #[.int .i64 t556, .int .i64 t557, .int .i64 t558, .int .i64 t559] 40 (0, 0)) uq_) : gb570 ≠ gb563)); have n16_ := Aside0.mk ((by rw [hg]; exact Nat.ne_of_lt (blk_lt (g := gb564) (o := .cells #[.int .i64 t560, .int .i64 t561] 38 (0, 0)) uq_) : gb564 ≠ gb570)); have n17_ := Aside0.mk ((by rw [hg]; exact Nat.ne_of_gt (blk_lt (g := gb564) (o := .cells #[.int .i64 t560, .int .i64 t561] 38 (0, 0)) uq_) : gb570 ≠ gb564)); have n18_ := Aside0.mk ((by rw [hg]; exact Nat.ne_of_lt (IsS96.lt (show IsS96 w0 _ g s0_0 t569 from by repeat (first | (with_reducible first | exact HI0.out | apply IsS96.alloc | apply IsS96.drewN | apply IsS96.drew | apply IsS96.set_1 | refine IsS96.far ?_ NB0_554.out _ | refine IsS96.far ?_ NB0_555.out _ | refine IsS96.far ?_ NB0_563.out _ | refine IsS96.far ?_ NB0_564.out _) | exact HI0.out))) : g ≠ gb570)); have n19_ := Aside0.mk ((by rw [hg]; exact Nat.ne_of_gt (IsS96.lt (show IsS96 w0 _ g s0_0 t569 from by repeat (first | (with_reducible first | exact HI0.out | apply IsS96.alloc | apply IsS96.drewN | apply IsS96.drew | apply IsS96.set_1 | refine IsS96.far ?_ NB0_554.out _ | refine IsS96.far ?_ NB0_555.out _ | refine IsS96.far ?_ NB0_563.out _ | refine IsS96.far ?_ NB0_564.out _) | exact HI0.out))) : gb570 ≠ g)); clear HI0; clear BK554; clear BK555; clear BK563; clear BK564; clear HK; clear HB; have HI0 := n0_; have BK554 := n1_; have BK555 := n2_; have BK563 := n3_; have BK564 := n4_; have HK := n5_; have HB := n6_; have BK570 := n7_; have GW570 := n8_; have GE570 := n9_; have NB554_570 := n10_; have NB570_554 := n11_; have NB555_570 := n12_; have NB570_555 := n13_; have NB563_570 := n14_; have NB570_563 := n15_; have NB564_570 := n16_; have NB570_564 := n17_; have NB0_570 := n18_; have NB570_0 := n19_; clear n0_ n1_ n2_ n3_ n4_ n5_ n6_ n7_ n8_ n9_ n10_ n11_ n12_ n13_ n14_ n15_ n16_ n17_ n18_ n19_; clear hb hbox hg; have hnb57 := NB570_554.out; have hnc57 := NB554_570.out; have hnb58 := NB570_555.out; have hnc58 := NB555_570.out; have hnb59 := NB570_563.out; have hnc59 := NB563_570.out; have hnb60 := NB570_564.out; have hnc60 := NB564_570.out; have hnb61 := NB570_0.out; have hnc61 := NB0_570.out; have hcz62_0 : w56.cell? ⟨gb570, 0, none⟩ = some (.int .i64 0) := bc_; have hcz62_1 : w56.cell? ⟨gb570, 1, none⟩ = some (.int .i64 0) := bc_; have hcz62_2 : w56.cell? ⟨gb570, 2, none⟩ = some (.int .i64 0) := bc_; have hcz62_3 : w56.cell? ⟨gb570, 3, none⟩ = some (.int .i64 0) := bc_; have hfz62_0 := blk_frozen BK570.out 0; have hfz62_1 := blk_frozen BK570.out 1; have hfz62_2 := blk_frozen BK570.out 2; have hfz62_3 := blk_frozen BK570.out 3) | ((with_reducible refine gate_callee (f := 48) rfl ?_); refine goesL_ (some 15) rfl rfl Tryd.func48 (by kernel_rfl) rfl #[.pointer (some ⟨g, 0, none⟩), .int .i64 5] rfl ma_ ?_; (with_reducible refine (spec_l6Rd_pick.calls k g s0_0 t569 5 t571 t572 w0 _ ?side1 ?side2 A4.out).mono ?_); (case side1 => repeat (first | (with_reducible first | exact HI0.out | apply IsS96.alloc | apply IsS96.drewN | apply IsS96.drew | apply IsS96.set_1 | refine IsS96.far ?_ NB0_554.out _ | refine IsS96.far ?_ NB0_555.out _ | refine IsS96.far ?_ NB0_563.out _ | refine IsS96.far ?_ NB0_564.out _ | refine IsS96.far ?_ NB0_570.out _) | exact HI0.out)); (case side2 => repeat (first | (with_reducible first | exact HB.out | apply below_alloc | apply pw_below_drewN | apply below_drew1 | refine below_set ?_ (IsS96.ge HI0.out) | refine below_set ?_ GE554.out | refine below_set ?_ GE555.out | refine below_set ?_ GE563.out | refine below_set ?_ GE564.out | refine below_set ?_ GE570.out) | exact HB.out)); rintro e w63 ⟨rfl, hi, hb, hk⟩; refine ⟨_, rfl, ?_⟩; have n0_ := Aside0.mk (KeepBut.blk hk (g' := gb554) (o := .cells #[.int .i64 0, .int .i64 0, .int .i64 0, .int .i64 0] 40 (0, 0)) (by (with_reducible repeat (first | refine blk_drewN ?_ _ | refine blk_drew ?_ | refine blk_alloc ?_ _)); refine blk_far ?_ NB554_570.out _; (with_reducible repeat (first | refine blk_drewN ?_ _ | refine blk_drew ?_ | refine blk_alloc ?_ _)); refine blk_far ?_ NB554_570.out _; (with_reducible repeat (first | refine blk_drewN ?_ _ | refine blk_drew ?_ | refine blk_alloc ?_ _)); refine blk_far ?_ NB554_570.out _; (with_reducible repeat (first | refine blk_drewN ?_ _ | refine blk_drew ?_ | refine blk_alloc ?_ _)); refine blk_far ?_ NB554_570.out _; (with_reducible repeat (first | refine blk_drewN ?_ _ | refine blk_drew ?_ | refine blk_alloc ?_ _)); exact BK554.out) NB554_0.out (by simp)); have n1_ := Aside0.mk (KeepBut.blk hk (g' := gb555) (o := .cells #[.int .i64 0, .int .i64 0, .int .i64 0, .int .i64 0] 40 (0, 0)) (by (with_reducible repeat (first | refine blk_drewN ?_ _ | refine blk_drew ?_ | refine blk_alloc ?_ _)); refine blk_far ?_ NB555_570.out _; (with_reducible repeat (first | refine blk_drewN ?_ _ | refine blk_drew ?_ | refine blk_alloc ?_ _)); refine blk_far ?_ NB555_570.out _; (with_reducible repeat (first | refine blk_drewN ?_ _ | refine blk_drew ?_ | refine blk_alloc ?_ _)); refine blk_far ?_ NB555_570.out _; (with_reducible repeat (first | refine blk_drewN ?_ _ | refine blk_drew ?_ | refine blk_alloc ?_ _)); refine blk_far ?_ NB555_570.out _; (with_reducible repeat (first | refine blk_drewN ?_ _ | refine blk_drew ?_ | refine blk_alloc ?_ _)); exact BK555.out) NB555_0.out (by simp)); have n2_ := Aside0.mk (KeepBut.blk hk (g' := gb563) (o := .cells #[.int .i64 t556, .int .i64 t557, .int .i64 t558, .int .i64 t559] 40 (0, 0)) (by (with_reducible repeat (first | refine blk_drewN ?_ _ | refine blk_drew ?_ | refine blk_alloc ?_ _)); refine blk_far ?_ NB563_570.out _; (with_reducible repeat (first | refine blk_drewN ?_ _ | refine blk_drew ?_ | refine blk_alloc ?_ _)); refine blk_far ?_ NB563_570.out _; (with_reducible repeat (first | refine blk_drewN ?_ _ | refine blk_drew ?_ | refine blk_alloc ?_ _)); refine blk_far ?_ NB563_570.out _; (with_reducible repeat (first | refine blk_drewN ?_ _ | refine blk_drew ?_ | refine blk_alloc ?_ _)); refine blk_far ?_ NB563_570.out _; (with_reducible repeat (first | refine blk_drewN ?_ _ | refine blk_drew ?_ | refine blk_alloc ?_ _)); exact BK563.out) NB563_0.out (by simp)); have n3_ := Aside0.mk (KeepBut.blk hk (g' := gb564) (o := .cells #[.int .i64 t560, .int .i64 t561] 38 (0, 0)) (by (with_reducible repeat (first | refine blk_drewN ?_ _ | refine blk_drew ?_ | refine blk_alloc ?_ _)); refine blk_far ?_ NB564_570.out _; (with_reducible repeat (first | refine blk_drewN ?_ _ | refine blk_drew ?_ | refine blk_alloc ?_ _)); refine blk_far ?_ NB564_570.out _; (with_reducible repeat (first | refine blk_drewN ?_ _ | refine blk_drew ?_ | refine blk_alloc ?_ _)); refine blk_far ?_ NB564_570.out _; (with_reducible repeat (first | refine blk_drewN ?_ _ | refine blk_drew ?_ | refine blk_alloc ?_ _)); refine blk_far ?_ NB564_570.out _; (with_reducible repeat (first | refine blk_drewN ?_ _ | refine blk_drew ?_ | refine blk_alloc ?_ _)); exact BK564.out) NB564_0.out (by simp)); have n4_ := Aside0.mk (KeepBut.blk hk (g' := gb570) (o := .cells #[.int .i64 t565, .int .i64 t566, .int .i64 t567, .int .i64 t568] 40 (0, 0)) (by (with_reducible repeat (first | refine blk_drewN ?_ _ | refine blk_drew ?_ | refine blk_alloc ?_ _)); refine blk_put (cs := #[.int .i64 t565, .int .i64 t566, .int .i64 t567, .int .i64 0]) ?_ 3 _ rfl; (with_reducible repeat (first | refine blk_drewN ?_ _ | refine blk_drew ?_ | refine blk_alloc ?_ _)); refine blk_put (cs := #[.int .i64 t565, .int .i64 t566, .int .i64 0, .int .i64 0]) ?_ 2 _ rfl; (with_reducible repeat (first | refine blk_drewN ?_ _ | refine blk_drew ?_ | refine blk_alloc ?_ _)); refine blk_put (cs := #[.int .i64 t565, .int .i64 0, .int .i64 0, .int .i64 0]) ?_ 1 _ rfl; (with_reducible repeat (first | refine blk_drewN ?_ _ | refine blk_drew ?_ | refine blk_alloc ?_ _)); refine blk_put (cs := #[.int .i64 0, .int .i64 0, .int .i64 0, .int .i64 0]) ?_ 0 _ rfl; (with_reducible repeat (first | refine blk_drewN ?_ _ | refine blk_drew ?_ | refine blk_alloc ?_ _)); exact BK570.out) NB570_0.out (by simp)); have n5_ := Aside0.mk (KeepBut.trans (by repeat (first | (with_reducible first | exact HK.out | apply KeepBut.set_ | apply keep_drewN | apply keep_drew | apply keep_alloc | refine keep_far ?_ GW554.out _ | refine keep_far ?_ GW555.out _ | refine keep_far ?_ GW563.out _ | refine keep_far ?_ GW564.out _ | refine keep_far ?_ GW570.out _) | exact HK.out)) hk (.inl rfl)); have n6_ := Aside0.mk (hb); have n7_ := Aside0.mk (hi); clear BK554; clear BK555; clear BK563; clear BK564; clear BK570; clear HK; clear HB; clear HI0; have BK554 := n0_; have BK555 := n1_; have BK563 := n2_; have BK564 := n3_; have BK570 := n4_; have HK := n5_; have HB := n6_; have HI0 := n7_; clear n0_ n1_ n2_ n3_ n4_ n5_ n6_ n7_; (try clear hb); (try clear hb2); (try clear hk); (try clear hi)))
  have n0_ := Aside0.mk (blk_drew BK554.out)
  have n1_ := Aside0.mk (blk_drew BK555.out)
  have n2_ := Aside0.mk (blk_drew BK563.out)
  have n3_ := Aside0.mk (blk_drew BK564.out)
  have n4_ := Aside0.mk (blk_drew BK570.out)
  have n5_ := Aside0.mk (IsS96.drew HI0.out)
  have n6_ := Aside0.mk (keep_drew HK.out)
  have n7_ := Aside0.mk (below_drew1 HB.out)
  clear BK554 BK555 BK563 BK564 BK570 HI0 HK HB
  have BK554 := n0_
  have BK555 := n1_
  have BK563 := n2_
  have BK564 := n3_
  have BK570 := n4_
  have HI0 := n5_
  have HK := n6_
  have HB := n7_
  clear n0_ n1_ n2_ n3_ n4_ n5_ n6_ n7_
  refine start_ (n := 4) (S := fun w' => w'.cell? ⟨gb563, 0, none⟩ = some (.int .i64 t556) ∧ w'.cell? ⟨gb563, 1, none⟩ = some (.int .i64 t557) ∧ w'.cell? ⟨gb563, 2, none⟩ = some (.int .i64 t558) ∧ w'.cell? ⟨gb563, 3, none⟩ = some (.int .i64 t559) ∧ w'.cell? ⟨gb570, 0, none⟩ = some (.int .i64 t565) ∧ w'.cell? ⟨gb570, 1, none⟩ = some (.int .i64 t566) ∧ w'.cell? ⟨gb570, 2, none⟩ = some (.int .i64 t567) ∧ w'.cell? ⟨gb570, 3, none⟩ = some (.int .i64 t568)) (ds := []) #[false, false, false, false] (by kernel_rfl) rfl rfl ⟨bc_, bc_, bc_, bc_, bc_, bc_, bc_, bc_⟩ (fun hHeld => ?_)
  generalize w63.drew = w64 at BK554 BK555 BK563 BK564 BK570 HI0 HK HB hHeld ⊢
  refine take_ (i := 0) (N := some 19) (v := ?_) (a' := ?_) #[true, false, false, false] rfl rfl (by kernel_rfl) (fun _ _ _ h => h) (Or.inl ⟨by rfl, ?_⟩) hHeld ?_ ?_
  rotate_left
  ·
   rintro w' ⟨s0, s1, s2, s3, s4, s5, s6, s7⟩
   go_simp
   with_reducible rfl
  rotate_left
  ·
   simp only [Act.put, List.setIfInBounds_toArray, List.set_cons_zero, List.set_cons_succ, i64_w, i32_w]
   rfl
  refine take_ (i := 1) (N := some 20) (v := ?_) (a' := ?_) #[true, true, false, false] rfl rfl (by kernel_rfl) (fun _ _ _ h => h) (Or.inl ⟨by rfl, ?_⟩) hHeld ?_ ?_
  rotate_left
  ·
   rintro w' ⟨s0, s1, s2, s3, s4, s5, s6, s7⟩
   go_simp
   with_reducible rfl
  rotate_left
  ·
   simp only [Act.put, List.setIfInBounds_toArray, List.set_cons_zero, List.set_cons_succ, i64_w, i32_w]
   rfl
  refine one_ (i := 2) (N := none) #[true, true, true, false] rfl rfl (by kernel_rfl) (by decide) (fun K hK => ?_)
  have hs65 : w64.cell? ⟨gb554, 0, none⟩ = some (.int .i64 0) := bc_
  have hfs65 := blk_frozen BK554.out 0
  have hns65_1 := NB555_554.out
  have hns65_2 := NB563_554.out
  have hns65_3 := NB564_554.out
  have hns65_4 := NB570_554.out
  have hms65_1 := NB554_555.out
  have hms65_2 := NB554_563.out
  have hms65_3 := NB554_564.out
  have hms65_4 := NB554_570.out
  have hs66 : w64.cell? ⟨gb554, 1, none⟩ = some (.int .i64 0) := bc_
  have hfs66 := blk_frozen BK554.out 1
  have hns66_1 := NB555_554.out
  have hns66_2 := NB563_554.out
  have hns66_3 := NB564_554.out
  have hns66_4 := NB570_554.out
  have hms66_1 := NB554_555.out
  have hms66_2 := NB554_563.out
  have hms66_3 := NB554_564.out
  have hms66_4 := NB554_570.out
  have hs67 : w64.cell? ⟨gb554, 2, none⟩ = some (.int .i64 0) := bc_
  have hfs67 := blk_frozen BK554.out 2
  have hns67_1 := NB555_554.out
  have hns67_2 := NB563_554.out
  have hns67_3 := NB564_554.out
  have hns67_4 := NB570_554.out
  have hms67_1 := NB554_555.out
  have hms67_2 := NB554_563.out
  have hms67_3 := NB554_564.out
  have hms67_4 := NB554_570.out
  have hs68 : w64.cell? ⟨gb554, 3, none⟩ = some (.int .i64 0) := bc_
  have hfs68 := blk_frozen BK554.out 3
  have hns68_1 := NB555_554.out
  have hns68_2 := NB563_554.out
  have hns68_3 := NB564_554.out
  have hns68_4 := NB570_554.out
  have hms68_1 := NB554_555.out
  have hms68_2 := NB554_563.out
  have hms68_3 := NB554_564.out
  have hms68_4 := NB554_570.out
  refine skip_ (w1 := ?_) (by rfl) rfl ?_ ?_
  rotate_left
  ·
   go_simp
   rfl
  refine hK.out _ _ ⟨((cell_far (p := ⟨gb554, _, none⟩) NB563_554.out _).trans (((cell_far (p := ⟨gb554, _, none⟩) NB563_554.out _).trans (((cell_far (p := ⟨gb554, _, none⟩) NB563_554.out _).trans (((cell_far (p := ⟨gb554, _, none⟩) NB563_554.out _).trans (hHeld.1)))))))), ((cell_far (p := ⟨gb554, _, none⟩) NB563_554.out _).trans (((cell_far (p := ⟨gb554, _, none⟩) NB563_554.out _).trans (((cell_far (p := ⟨gb554, _, none⟩) NB563_554.out _).trans (((cell_far (p := ⟨gb554, _, none⟩) NB563_554.out _).trans (hHeld.2.1)))))))), ((cell_far (p := ⟨gb554, _, none⟩) NB563_554.out _).trans (((cell_far (p := ⟨gb554, _, none⟩) NB563_554.out _).trans (((cell_far (p := ⟨gb554, _, none⟩) NB563_554.out _).trans (((cell_far (p := ⟨gb554, _, none⟩) NB563_554.out _).trans (hHeld.2.2.1)))))))), ((cell_far (p := ⟨gb554, _, none⟩) NB563_554.out _).trans (((cell_far (p := ⟨gb554, _, none⟩) NB563_554.out _).trans (((cell_far (p := ⟨gb554, _, none⟩) NB563_554.out _).trans (((cell_far (p := ⟨gb554, _, none⟩) NB563_554.out _).trans (hHeld.2.2.2.1)))))))), ((cell_far (p := ⟨gb554, _, none⟩) NB570_554.out _).trans (((cell_far (p := ⟨gb554, _, none⟩) NB570_554.out _).trans (((cell_far (p := ⟨gb554, _, none⟩) NB570_554.out _).trans (((cell_far (p := ⟨gb554, _, none⟩) NB570_554.out _).trans (hHeld.2.2.2.2.1)))))))), ((cell_far (p := ⟨gb554, _, none⟩) NB570_554.out _).trans (((cell_far (p := ⟨gb554, _, none⟩) NB570_554.out _).trans (((cell_far (p := ⟨gb554, _, none⟩) NB570_554.out _).trans (((cell_far (p := ⟨gb554, _, none⟩) NB570_554.out _).trans (hHeld.2.2.2.2.2.1)))))))), ((cell_far (p := ⟨gb554, _, none⟩) NB570_554.out _).trans (((cell_far (p := ⟨gb554, _, none⟩) NB570_554.out _).trans (((cell_far (p := ⟨gb554, _, none⟩) NB570_554.out _).trans (((cell_far (p := ⟨gb554, _, none⟩) NB570_554.out _).trans (hHeld.2.2.2.2.2.2.1)))))))), ((cell_far (p := ⟨gb554, _, none⟩) NB570_554.out _).trans (((cell_far (p := ⟨gb554, _, none⟩) NB570_554.out _).trans (((cell_far (p := ⟨gb554, _, none⟩) NB570_554.out _).trans (((cell_far (p := ⟨gb554, _, none⟩) NB570_554.out _).trans (hHeld.2.2.2.2.2.2.2))))))))⟩ (fun hHeld => ?_)
  clear hK K
  refine one_ (i := 3) (N := none) #[true, true, true, true] rfl rfl (by kernel_rfl) (by decide) (fun K hK => ?_)
  have hs69 : w64.cell? ⟨gb555, 0, none⟩ = some (.int .i64 0) := bc_
  have hfs69 := blk_frozen BK555.out 0
  have hns69_0 := NB554_555.out
  have hns69_2 := NB563_555.out
  have hns69_3 := NB564_555.out
  have hns69_4 := NB570_555.out
  have hms69_0 := NB555_554.out
  have hms69_2 := NB555_563.out
  have hms69_3 := NB555_564.out
  have hms69_4 := NB555_570.out
  have hs70 : w64.cell? ⟨gb555, 1, none⟩ = some (.int .i64 0) := bc_
  have hfs70 := blk_frozen BK555.out 1
  have hns70_0 := NB554_555.out
  have hns70_2 := NB563_555.out
  have hns70_3 := NB564_555.out
  have hns70_4 := NB570_555.out
  have hms70_0 := NB555_554.out
  have hms70_2 := NB555_563.out
  have hms70_3 := NB555_564.out
  have hms70_4 := NB555_570.out
  have hs71 : w64.cell? ⟨gb555, 2, none⟩ = some (.int .i64 0) := bc_
  have hfs71 := blk_frozen BK555.out 2
  have hns71_0 := NB554_555.out
  have hns71_2 := NB563_555.out
  have hns71_3 := NB564_555.out
  have hns71_4 := NB570_555.out
  have hms71_0 := NB555_554.out
  have hms71_2 := NB555_563.out
  have hms71_3 := NB555_564.out
  have hms71_4 := NB555_570.out
  have hs72 : w64.cell? ⟨gb555, 3, none⟩ = some (.int .i64 0) := bc_
  have hfs72 := blk_frozen BK555.out 3
  have hns72_0 := NB554_555.out
  have hns72_2 := NB563_555.out
  have hns72_3 := NB564_555.out
  have hns72_4 := NB570_555.out
  have hms72_0 := NB555_554.out
  have hms72_2 := NB555_563.out
  have hms72_3 := NB555_564.out
  have hms72_4 := NB555_570.out
  refine skip_ (w1 := ?_) (by rfl) rfl ?_ ?_
  rotate_left
  ·
   go_simp
   rfl
  refine hK.out _ _ ⟨((cell_far (p := ⟨gb555, _, none⟩) NB563_555.out _).trans (((cell_far (p := ⟨gb555, _, none⟩) NB563_555.out _).trans (((cell_far (p := ⟨gb555, _, none⟩) NB563_555.out _).trans (((cell_far (p := ⟨gb555, _, none⟩) NB563_555.out _).trans (hHeld.1)))))))), ((cell_far (p := ⟨gb555, _, none⟩) NB563_555.out _).trans (((cell_far (p := ⟨gb555, _, none⟩) NB563_555.out _).trans (((cell_far (p := ⟨gb555, _, none⟩) NB563_555.out _).trans (((cell_far (p := ⟨gb555, _, none⟩) NB563_555.out _).trans (hHeld.2.1)))))))), ((cell_far (p := ⟨gb555, _, none⟩) NB563_555.out _).trans (((cell_far (p := ⟨gb555, _, none⟩) NB563_555.out _).trans (((cell_far (p := ⟨gb555, _, none⟩) NB563_555.out _).trans (((cell_far (p := ⟨gb555, _, none⟩) NB563_555.out _).trans (hHeld.2.2.1)))))))), ((cell_far (p := ⟨gb555, _, none⟩) NB563_555.out _).trans (((cell_far (p := ⟨gb555, _, none⟩) NB563_555.out _).trans (((cell_far (p := ⟨gb555, _, none⟩) NB563_555.out _).trans (((cell_far (p := ⟨gb555, _, none⟩) NB563_555.out _).trans (hHeld.2.2.2.1)))))))), ((cell_far (p := ⟨gb555, _, none⟩) NB570_555.out _).trans (((cell_far (p := ⟨gb555, _, none⟩) NB570_555.out _).trans (((cell_far (p := ⟨gb555, _, none⟩) NB570_555.out _).trans (((cell_far (p := ⟨gb555, _, none⟩) NB570_555.out _).trans (hHeld.2.2.2.2.1)))))))), ((cell_far (p := ⟨gb555, _, none⟩) NB570_555.out _).trans (((cell_far (p := ⟨gb555, _, none⟩) NB570_555.out _).trans (((cell_far (p := ⟨gb555, _, none⟩) NB570_555.out _).trans (((cell_far (p := ⟨gb555, _, none⟩) NB570_555.out _).trans (hHeld.2.2.2.2.2.1)))))))), ((cell_far (p := ⟨gb555, _, none⟩) NB570_555.out _).trans (((cell_far (p := ⟨gb555, _, none⟩) NB570_555.out _).trans (((cell_far (p := ⟨gb555, _, none⟩) NB570_555.out _).trans (((cell_far (p := ⟨gb555, _, none⟩) NB570_555.out _).trans (hHeld.2.2.2.2.2.2.1)))))))), ((cell_far (p := ⟨gb555, _, none⟩) NB570_555.out _).trans (((cell_far (p := ⟨gb555, _, none⟩) NB570_555.out _).trans (((cell_far (p := ⟨gb555, _, none⟩) NB570_555.out _).trans (((cell_far (p := ⟨gb555, _, none⟩) NB570_555.out _).trans (hHeld.2.2.2.2.2.2.2))))))))⟩ (fun hHeld => ?_)
  clear hK K
  refine done_ (by kernel_rfl) ?_
  try go_wp2
  refine bodyPost_ret (results_cc rfl _ _ gb554 gb555 40 40 #[.int .i64 t556, .int .i64 t557, .int .i64 t558, .int .i64 t559] #[.int .i64 t565, .int .i64 t566, .int .i64 t567, .int .i64 t568] (0, 0) (0, 0) _ _ rfl (by (with_reducible repeat (first | refine blk_drewN ?_ _ | refine blk_drew ?_ | refine blk_alloc ?_ _)); refine blk_far ?_ NB554_555.out _; (with_reducible repeat (first | refine blk_drewN ?_ _ | refine blk_drew ?_ | refine blk_alloc ?_ _)); refine blk_far ?_ NB554_555.out _; (with_reducible repeat (first | refine blk_drewN ?_ _ | refine blk_drew ?_ | refine blk_alloc ?_ _)); refine blk_far ?_ NB554_555.out _; (with_reducible repeat (first | refine blk_drewN ?_ _ | refine blk_drew ?_ | refine blk_alloc ?_ _)); refine blk_far ?_ NB554_555.out _; (with_reducible repeat (first | refine blk_drewN ?_ _ | refine blk_drew ?_ | refine blk_alloc ?_ _)); refine blk_put (cs := #[.int .i64 t556, .int .i64 t557, .int .i64 t558, .int .i64 0]) ?_ 3 _ rfl; (with_reducible repeat (first | refine blk_drewN ?_ _ | refine blk_drew ?_ | refine blk_alloc ?_ _)); refine blk_put (cs := #[.int .i64 t556, .int .i64 t557, .int .i64 0, .int .i64 0]) ?_ 2 _ rfl; (with_reducible repeat (first | refine blk_drewN ?_ _ | refine blk_drew ?_ | refine blk_alloc ?_ _)); refine blk_put (cs := #[.int .i64 t556, .int .i64 0, .int .i64 0, .int .i64 0]) ?_ 1 _ rfl; (with_reducible repeat (first | refine blk_drewN ?_ _ | refine blk_drew ?_ | refine blk_alloc ?_ _)); refine blk_put (cs := #[.int .i64 0, .int .i64 0, .int .i64 0, .int .i64 0]) ?_ 0 _ rfl; (with_reducible repeat (first | refine blk_drewN ?_ _ | refine blk_drew ?_ | refine blk_alloc ?_ _)); exact BK554.out) Tryd.underlying40 rfl (by kernel_rfl) rfl (by (with_reducible repeat (first | refine blk_drewN ?_ _ | refine blk_drew ?_ | refine blk_alloc ?_ _)); refine blk_put (cs := #[.int .i64 t565, .int .i64 t566, .int .i64 t567, .int .i64 0]) ?_ 3 _ rfl; (with_reducible repeat (first | refine blk_drewN ?_ _ | refine blk_drew ?_ | refine blk_alloc ?_ _)); refine blk_put (cs := #[.int .i64 t565, .int .i64 t566, .int .i64 0, .int .i64 0]) ?_ 2 _ rfl; (with_reducible repeat (first | refine blk_drewN ?_ _ | refine blk_drew ?_ | refine blk_alloc ?_ _)); refine blk_put (cs := #[.int .i64 t565, .int .i64 0, .int .i64 0, .int .i64 0]) ?_ 1 _ rfl; (with_reducible repeat (first | refine blk_drewN ?_ _ | refine blk_drew ?_ | refine blk_alloc ?_ _)); refine blk_put (cs := #[.int .i64 0, .int .i64 0, .int .i64 0, .int .i64 0]) ?_ 0 _ rfl; (with_reducible repeat (first | refine blk_drewN ?_ _ | refine blk_drew ?_ | refine blk_alloc ?_ _)); refine blk_far ?_ NB555_554.out _; (with_reducible repeat (first | refine blk_drewN ?_ _ | refine blk_drew ?_ | refine blk_alloc ?_ _)); refine blk_far ?_ NB555_554.out _; (with_reducible repeat (first | refine blk_drewN ?_ _ | refine blk_drew ?_ | refine blk_alloc ?_ _)); refine blk_far ?_ NB555_554.out _; (with_reducible repeat (first | refine blk_drewN ?_ _ | refine blk_drew ?_ | refine blk_alloc ?_ _)); refine blk_far ?_ NB555_554.out _; (with_reducible repeat (first | refine blk_drewN ?_ _ | refine blk_drew ?_ | refine blk_alloc ?_ _)); exact BK555.out) Tryd.underlying40 rfl (by kernel_rfl)) rfl ?_
  exact ⟨by first | rfl | (simp [errW_none, errW_some] <;> rfl) | (simp [*, errW_none, errW_some] <;> rfl), by repeat (first | (with_reducible first | exact HI0.out | apply IsS96.alloc | apply IsS96.drewN | apply IsS96.drew | apply IsS96.set_1 | refine IsS96.far ?_ NB0_554.out _ | refine IsS96.far ?_ NB0_555.out _ | refine IsS96.far ?_ NB0_563.out _ | refine IsS96.far ?_ NB0_564.out _ | refine IsS96.far ?_ NB0_570.out _) | exact HI0.out), by repeat (first | (with_reducible first | exact HB.out | apply below_alloc | apply pw_below_drewN | apply below_drew1 | refine below_set ?_ (IsS96.ge HI0.out) | refine below_set ?_ GE554.out | refine below_set ?_ GE555.out | refine below_set ?_ GE563.out | refine below_set ?_ GE564.out | refine below_set ?_ GE570.out) | exact HB.out), by repeat (first | (with_reducible first | exact HK.out | apply KeepBut.set_ | apply keep_drewN | apply keep_drew | apply keep_alloc | refine keep_far ?_ GW554.out _ | refine keep_far ?_ GW555.out _ | refine keep_far ?_ GW563.out _ | refine keep_far ?_ GW564.out _ | refine keep_far ?_ GW570.out _) | exact HK.out)⟩
end Go.Proofs.YtnponnkcfgjeoaaDoor.X
end
section
namespace Go.Proofs.YtnponnkcfgjeoaaDoor.X
open Go.RowKit Go.Proofs.YtnponnkcfgjeoaaDoorW.PrintWords Go.Proofs.YtnponnkcfgjeoaaDoorW.PrintLast Go.Proofs.YtnponnkcfgjeoaaDoorW.PrintMore
attribute [local go_sem] max2_int min2_int max_two min_two max_three min_three max_four min_four
set_option linter.unusedVariables false
set_option linter.unusedSimpArgs false
def spec_DrawSegApart.f (k : Nat) (l0 : List Int) : Option (Int × Int × Int × Int × Int × Int × Int × Int) := (spec_l6Open.f l0).bind fun bt575 => ((spec_l71Two.f k bt575.1 bt575.2).bind fun bt578 => (some (bt578.1, bt578.2.1, bt578.2.2.1, bt578.2.2.2.1, bt578.2.2.2.2.1, bt578.2.2.2.2.2.1, bt578.2.2.2.2.2.2.1, bt578.2.2.2.2.2.2.2.1)))
set_option maxHeartbeats 8000000 in
set_option maxRecDepth 100000 in
theorem spec_DrawSegApart.calls (k : Nat) (A0 : Option Addr) (c0 : Nat) (l0 : List Int) (r1 : Int) (r2 : Int) (r3 : Int) (r4 : Int) (r5 : Int) (r6 : Int) (r7 : Int) (r8 : Int) (w : World) (hr0 : Kd.C (Kd.int .u8) w A0 l0.length l0) (hc0 : l0.length ≤ c0) (h : spec_DrawSegApart.f k l0 = some (r1, r2, r3, r4, r5, r6, r7, r8)) :
  Calls Tryd.prog 36 #[.slice A0 l0.length c0] w fun e w' => e = .returned (.tuple #[.agg #[.int .i64 r1, .int .i64 r2, .int .i64 r3, .int .i64 r4], .agg #[.int .i64 r5, .int .i64 r6, .int .i64 r7, .int .i64 r8]]) ∧ Below w.heap.size w w' := by
 have hu40 := Tryd.underlying40
 have HR0 := Aside0.mk hr0
 have HC0 := Aside0.mk hc0
 clear hr0 hc0
 have HB := Aside0.mk (Below.refl w.heap.size w)
 have H : ((spec_l6Open.f l0).bind fun bt575 => ((spec_l71Two.f k bt575.1 bt575.2).bind fun bt578 => (some (bt578.1, bt578.2.1, bt578.2.2.1, bt578.2.2.2.1, bt578.2.2.2.2.1, bt578.2.2.2.2.2.1, bt578.2.2.2.2.2.2.1, bt578.2.2.2.2.2.2.2.1)))) = some (r1, r2, r3, r4, r5, r6, r7, r8) := h
 clear h
 replace H := Option.bind_eq_some_iff.mp H
 obtain ⟨⟨t575, t576⟩, A20, H⟩ := H
 replace H : ((spec_l71Two.f k t575 t576).bind fun bt578 => (some (bt578.1, bt578.2.1, bt578.2.2.1, bt578.2.2.2.1, bt578.2.2.2.2.1, bt578.2.2.2.2.2.1, bt578.2.2.2.2.2.2.1, bt578.2.2.2.2.2.2.2.1))) = some (r1, r2, r3, r4, r5, r6, r7, r8) := H
 have A2 := Aside0.mk A20
 clear A20
 replace H := Option.bind_eq_some_iff.mp H
 obtain ⟨⟨t578, t579, t580, t581, t582, t583, t584, t585, t586⟩, A30, H⟩ := H
 replace H : (some (t578, t579, t580, t581, t582, t583, t584, t585)) = some (r1, r2, r3, r4, r5, r6, r7, r8) := H
 have A3 := Aside0.mk A30
 clear A30
 simp only [Option.some.injEq, Prod.mk.injEq] at H
 obtain ⟨rfl, rfl, rfl, rfl, rfl, rfl, rfl, rfl⟩ := H
 go_enter Tryd.func36, Tryd.ntmps36
 go_wp2_with (first | ((with_reducible refine gate_dst (N := 2) rfl ?_); refine box_event ?hg (N := 2) ?hd (cs := #[.int .i64 0, .int .i64 0, .int .i64 0, .int .i64 0]) (t := 40) ?hr ?_; (case hd => rfl); (case hg => rfl); (case hr => first | (go_simp; done) | (go_simp; rfl)); intro gb573 hg w4 hbox hb; have n0_ := Aside0.mk (below_step hB_ hb); have n1_ := Aside0.mk (hbox); have n2_ := Aside0.mk ((by rw [hg]; exact (below_size hB_) : w.heap.size ≤ gb573)); have n3_ := Aside0.mk ((by rw [hg]; exact (below_size hB_) : w.heap.size ≤ gb573)); clear HB; have HB := n0_; have BK573 := n1_; have GW573 := n2_; have GE573 := n3_; clear n0_ n1_ n2_ n3_; clear hb hbox hg) | ((with_reducible refine gate_dst (N := 3) rfl ?_); refine box_event ?hg (N := 3) ?hd (cs := #[.int .i64 0, .int .i64 0, .int .i64 0, .int .i64 0]) (t := 40) ?hr ?_; (case hd => rfl); (case hg => rfl); (case hr => first | (go_simp; done) | (go_simp; rfl)); intro gb574 hg w5 hbox hb; have n0_ := Aside0.mk (ub_ (g := gb573) hb); have n1_ := Aside0.mk (below_step hB_ hb); have n2_ := Aside0.mk (hbox); have n3_ := Aside0.mk ((by rw [hg]; exact (below_size hB_) : w.heap.size ≤ gb574)); have n4_ := Aside0.mk ((by rw [hg]; exact (below_size hB_) : w.heap.size ≤ gb574)); have n5_ := Aside0.mk ((by rw [hg]; exact Nat.ne_of_lt (blk_lt (g := gb573) (o := .cells #[.int .i64 0, .int .i64 0, .int .i64 0, .int .i64 0] 40 (0, 0)) uq_) : gb573 ≠ gb574)); have n6_ := Aside0.mk ((by rw [hg]; exact Nat.ne_of_gt (blk_lt (g := gb573) (o := .cells #[.int .i64 0, .int .i64 0, .int .i64 0, .int .i64 0] 40 (0, 0)) uq_) : gb574 ≠ gb573)); clear BK573; clear HB; have BK573 := n0_; have HB := n1_; have BK574 := n2_; have GW574 := n3_; have GE574 := n4_; have NB573_574 := n5_; have NB574_573 := n6_; clear n0_ n1_ n2_ n3_ n4_ n5_ n6_; clear hb hbox hg) | ((with_reducible refine gate_callee (f := 44) rfl ?_); refine goesL_ (some 5) rfl rfl Tryd.func44 (by kernel_rfl) rfl #[.slice A0 l0.length c0] rfl ma_ ?_; (with_reducible refine (spec_l6Open.calls _ _ l0 t575 t576 w _ ?side1 ?side2 ?side3 A2.out).mono ?_); (case side1 => repeat (first | (with_reducible first | exact HB.out | apply below_alloc | apply pw_below_drewN | apply below_drew1 | refine below_set ?_ GE573.out | refine below_set ?_ GE574.out) | exact HB.out)); (case side2 => exact HR0.out); (case side3 => exact HC0.out); rintro e w6 ⟨g577, rfl, hi, hb, hb2⟩; refine ⟨_, rfl, ?_⟩; have n0_ := Aside0.mk (blk_below (g := gb573) (o := .cells #[.int .i64 0, .int .i64 0, .int .i64 0, .int .i64 0] 40 (0, 0)) uq_ hb2); have n1_ := Aside0.mk (blk_below (g := gb574) (o := .cells #[.int .i64 0, .int .i64 0, .int .i64 0, .int .i64 0] 40 (0, 0)) uq_ hb2); have n2_ := Aside0.mk (hb); have n3_ := Aside0.mk (hi); have n4_ := Aside0.mk (IsS96.ne_blk hi (blk_below (g := gb573) (o := .cells #[.int .i64 0, .int .i64 0, .int .i64 0, .int .i64 0] 40 (0, 0)) uq_ hb2) (by decide)); have n5_ := Aside0.mk (Ne.symm (IsS96.ne_blk hi (blk_below (g := gb573) (o := .cells #[.int .i64 0, .int .i64 0, .int .i64 0, .int .i64 0] 40 (0, 0)) uq_ hb2) (by decide))); have n6_ := Aside0.mk (IsS96.ne_blk hi (blk_below (g := gb574) (o := .cells #[.int .i64 0, .int .i64 0, .int .i64 0, .int .i64 0] 40 (0, 0)) uq_ hb2) (by decide)); have n7_ := Aside0.mk (Ne.symm (IsS96.ne_blk hi (blk_below (g := gb574) (o := .cells #[.int .i64 0, .int .i64 0, .int .i64 0, .int .i64 0] 40 (0, 0)) uq_ hb2) (by decide))); clear BK573; clear BK574; clear HB; have BK573 := n0_; have BK574 := n1_; have HB := n2_; have HI577 := n3_; have NB577_573 := n4_; have NB573_577 := n5_; have NB577_574 := n6_; have NB574_577 := n7_; clear n0_ n1_ n2_ n3_ n4_ n5_ n6_ n7_; (try clear hb); (try clear hb2); (try clear hk); (try clear hi)) | ((with_reducible refine gate_callee (f := 63) rfl ?_); refine goesL_ (some 6) rfl rfl Tryd.func63 (by kernel_rfl) rfl #[.pointer (some ⟨g577, 0, none⟩)] rfl ma_ ?_; (with_reducible refine (spec_l71Two.calls k g577 t575 t576 t578 t579 t580 t581 t582 t583 t584 t585 t586 w _ ?side1 ?side2 A3.out).mono ?_); (case side1 => repeat (first | (with_reducible first | exact HI577.out | apply IsS96.alloc | apply IsS96.drewN | apply IsS96.drew | apply IsS96.set_1 | refine IsS96.far ?_ NB577_573.out _ | refine IsS96.far ?_ NB577_574.out _) | exact HI577.out)); (case side2 => repeat (first | (with_reducible first | exact HB.out | apply below_alloc | apply pw_below_drewN | apply below_drew1 | refine below_set ?_ (IsS96.ge HI577.out) | refine below_set ?_ GE573.out | refine below_set ?_ GE574.out) | exact HB.out)); rintro e w7 ⟨rfl, hi, hb, hk⟩; refine ⟨_, rfl, ?_⟩; have n0_ := Aside0.mk (KeepBut.blk hk (g' := gb573) (o := .cells #[.int .i64 0, .int .i64 0, .int .i64 0, .int .i64 0] 40 (0, 0)) uq_ NB573_577.out (by simp)); have n1_ := Aside0.mk (KeepBut.blk hk (g' := gb574) (o := .cells #[.int .i64 0, .int .i64 0, .int .i64 0, .int .i64 0] 40 (0, 0)) uq_ NB574_577.out (by simp)); have n2_ := Aside0.mk (hb); have n3_ := Aside0.mk (hi); clear BK573; clear BK574; clear HB; clear HI577; have BK573 := n0_; have BK574 := n1_; have HB := n2_; have HI577 := n3_; clear n0_ n1_ n2_ n3_; (try clear hb); (try clear hb2); (try clear hk); (try clear hi); have hnb8 := NB573_574.out; have hnc8 := NB574_573.out; have hnb9 := NB573_577.out; have hnc9 := NB577_573.out; have hcz10_0 : w7.cell? ⟨gb573, 0, none⟩ = some (.int .i64 0) := bc_; have hcz10_1 : w7.cell? ⟨gb573, 1, none⟩ = some (.int .i64 0) := bc_; have hcz10_2 : w7.cell? ⟨gb573, 2, none⟩ = some (.int .i64 0) := bc_; have hcz10_3 : w7.cell? ⟨gb573, 3, none⟩ = some (.int .i64 0) := bc_; have hfz10_0 := blk_frozen BK573.out 0; have hfz10_1 := blk_frozen BK573.out 1; have hfz10_2 := blk_frozen BK573.out 2; have hfz10_3 := blk_frozen BK573.out 3; have hnb11 := NB574_577.out; have hnc11 := NB577_574.out; have hcz12_0 : w7.cell? ⟨gb574, 0, none⟩ = some (.int .i64 0) := bc_; have hcz12_1 : w7.cell? ⟨gb574, 1, none⟩ = some (.int .i64 0) := bc_; have hcz12_2 : w7.cell? ⟨gb574, 2, none⟩ = some (.int .i64 0) := bc_; have hcz12_3 : w7.cell? ⟨gb574, 3, none⟩ = some (.int .i64 0) := bc_; have hfz12_0 := blk_frozen BK574.out 0; have hfz12_1 := blk_frozen BK574.out 1; have hfz12_2 := blk_frozen BK574.out 2; have hfz12_3 := blk_frozen BK574.out 3))
 refine bodyPost_ret (results_cc rfl _ _ gb573 gb574 40 40 #[.int .i64 t578, .int .i64 t579, .int .i64 t580, .int .i64 t581] #[.int .i64 t582, .int .i64 t583, .int .i64 t584, .int .i64 t585] (0, 0) (0, 0) _ _ rfl (by (with_reducible repeat (first | refine blk_drewN ?_ _ | refine blk_drew ?_ | refine blk_alloc ?_ _)); refine blk_far ?_ NB573_574.out _; (with_reducible repeat (first | refine blk_drewN ?_ _ | refine blk_drew ?_ | refine blk_alloc ?_ _)); refine blk_far ?_ NB573_574.out _; (with_reducible repeat (first | refine blk_drewN ?_ _ | refine blk_drew ?_ | refine blk_alloc ?_ _)); refine blk_far ?_ NB573_574.out _; (with_reducible repeat (first | refine blk_drewN ?_ _ | refine blk_drew ?_ | refine blk_alloc ?_ _)); refine blk_far ?_ NB573_574.out _; (with_reducible repeat (first | refine blk_drewN ?_ _ | refine blk_drew ?_ | refine blk_alloc ?_ _)); refine blk_put (cs := #[.int .i64 t578, .int .i64 t579, .int .i64 t580, .int .i64 0]) ?_ 3 _ rfl; (with_reducible repeat (first | refine blk_drewN ?_ _ | refine blk_drew ?_ | refine blk_alloc ?_ _)); refine blk_put (cs := #[.int .i64 t578, .int .i64 t579, .int .i64 0, .int .i64 0]) ?_ 2 _ rfl; (with_reducible repeat (first | refine blk_drewN ?_ _ | refine blk_drew ?_ | refine blk_alloc ?_ _)); refine blk_put (cs := #[.int .i64 t578, .int .i64 0, .int .i64 0, .int .i64 0]) ?_ 1 _ rfl; (with_reducible repeat (first | refine blk_drewN ?_ _ | refine blk_drew ?_ | refine blk_alloc ?_ _)); refine blk_put (cs := #[.int .i64 0, .int .i64 0, .int .i64 0, .int .i64 0]) ?_ 0 _ rfl; (with_reducible repeat (first | refine blk_drewN ?_ _ | refine blk_drew ?_ | refine blk_alloc ?_ _)); exact BK573.out) Tryd.underlying40 rfl (by kernel_rfl) rfl (by (with_reducible repeat (first | refine blk_drewN ?_ _ | refine blk_drew ?_ | refine blk_alloc ?_ _)); refine blk_put (cs := #[.int .i64 t582, .int .i64 t583, .int .i64 t584, .int .i64 0]) ?_ 3 _ rfl; (with_reducible repeat (first | refine blk_drewN ?_ _ | refine blk_drew ?_ | refine blk_alloc ?_ _)); refine blk_put (cs := #[.int .i64 t582, .int .i64 t583, .int .i64 0, .int .i64 0]) ?_ 2 _ rfl; (with_reducible repeat (first | refine blk_drewN ?_ _ | refine blk_drew ?_ | refine blk_alloc ?_ _)); refine blk_put (cs := #[.int .i64 t582, .int .i64 0, .int .i64 0, .int .i64 0]) ?_ 1 _ rfl; (with_reducible repeat (first | refine blk_drewN ?_ _ | refine blk_drew ?_ | refine blk_alloc ?_ _)); refine blk_put (cs := #[.int .i64 0, .int .i64 0, .int .i64 0, .int .i64 0]) ?_ 0 _ rfl; (with_reducible repeat (first | refine blk_drewN ?_ _ | refine blk_drew ?_ | refine blk_alloc ?_ _)); refine blk_far ?_ NB574_573.out _; (with_reducible repeat (first | refine blk_drewN ?_ _ | refine blk_drew ?_ | refine blk_alloc ?_ _)); refine blk_far ?_ NB574_573.out _; (with_reducible repeat (first | refine blk_drewN ?_ _ | refine blk_drew ?_ | refine blk_alloc ?_ _)); refine blk_far ?_ NB574_573.out _; (with_reducible repeat (first | refine blk_drewN ?_ _ | refine blk_drew ?_ | refine blk_alloc ?_ _)); refine blk_far ?_ NB574_573.out _; (with_reducible repeat (first | refine blk_drewN ?_ _ | refine blk_drew ?_ | refine blk_alloc ?_ _)); exact BK574.out) Tryd.underlying40 rfl (by kernel_rfl)) rfl ?_
 exact ⟨by first | rfl | (simp [errW_none, errW_some] <;> rfl) | (simp [*, errW_none, errW_some] <;> rfl), by repeat (first | (with_reducible first | exact HB.out | apply below_alloc | apply pw_below_drewN | apply below_drew1 | refine below_set ?_ (IsS96.ge HI577.out) | refine below_set ?_ GE573.out | refine below_set ?_ GE574.out) | exact HB.out)⟩
end Go.Proofs.YtnponnkcfgjeoaaDoor.X
end
section
namespace Go.Proofs.YtnponnkcfgjeoaaDoor.X
open Go.RowKit Go.Proofs.YtnponnkcfgjeoaaDoorW.PrintWords Go.Proofs.YtnponnkcfgjeoaaDoorW.PrintLast Go.Proofs.YtnponnkcfgjeoaaDoorW.PrintMore
attribute [local go_sem] max2_int min2_int max_two min_two max_three min_three max_four min_four
set_option linter.unusedVariables false
set_option linter.unusedSimpArgs false
def spec_l1Gcd.l0 : Nat → Int → Int → Option (Int)
 | 0, _, _ => none
 | k + 1, x0, x1 => if x1 > 0 then (if x1 = 0 then (none) else (spec_l1Gcd.l0 k x1 (Int.tmod x0 x1))) else (some x0)
def spec_l1Gcd.f (k : Nat) (a0 : Int) (a1 : Int) : Option (Int) := spec_l1Gcd.l0 k a0 a1
set_option maxHeartbeats 8000000 in
set_option maxRecDepth 100000 in
theorem spec_l1Gcd.calls (k : Nat) (a0 : Int) (a1 : Int) (r : Int) (w : World) (h : spec_l1Gcd.f k a0 a1 = some r) :
  Calls Tryd.prog 46 #[.int .i64 a0, .int .i64 a1] w fun e w' => e = .returned (.int .i64 r) ∧ Drawn0 w w' := by
 have H : (spec_l1Gcd.l0 k a0 a1) = some r := h
 clear h
 have H' := Aside0.mk H
 clear H
 go_enter Tryd.func46, Tryd.ntmps46
 go_wp2
 repeat (go_quiet (fail); try go_wp2)
 go_loopg [0, 1] k (fun kq v0 v1 w' => ∃ (x0_1 : Int) (x1_1 : Int), v0 = .int .i64 x0_1 ∧ v1 = .int .i64 x1_1 ∧ Aside0 (spec_l1Gcd.l0 kq x0_1 x1_1 = some r) ∧ Aside0 (kq ≤ k) ∧ Drawn0 w w')
 case atStart => exact ⟨(a0), (a1), (by first | rfl | (simp; done) | (simp [*]; done)), (by first | rfl | (simp; done) | (simp [*]; done)), H', ⟨Nat.le_refl _⟩, by repeat (first | exact Drawn0.refl _ | apply Drawn0.step)⟩
 case round =>
  clear H'
  try clear p2
  obtain ⟨x0_1, x1_1, rfl, rfl, HA, HK1, ⟨m1, rfl⟩⟩ := hrel
  cases gk with
  | zero => exact absurd HA.out (by simp [spec_l1Gcd.l0])
  | succ k1 =>
   have H := HA.out
   clear HA
   simp only [spec_l1Gcd.l0] at H
   by_cases c3 : x1_1 > 0
   ·
    rw [if_pos c3] at H
    have c3b0 : decide (0 < x1_1) = true := decide_eq_true c3
    clear c3
    by_cases c4 : x1_1 = 0
    ·
     rw [if_pos c4] at H
     exact absurd H (by simp)
    ·
     rw [if_neg c4] at H
     have c4b0 : (x1_1 == 0) = false := beq_eq_false_iff_ne.mpr c4
     have c4b1 : (x1_1 != 0) = true := bne_iff_ne.mpr c4
     have H' := Aside0.mk H
     clear H
     go_wp2
     repeat (go_quiet (fail); try go_wp2)
     go_roundg k1
     case measure => have := HK1.out; omega
     case rel => exact ⟨(x1_1), (Int.tmod x0_1 x1_1), (by first | rfl | (simp; done) | (simp [*]; done)), (by first | rfl | (simp; done) | (simp [*]; done)), H', ⟨by have := HK1.out; omega⟩, by repeat (first | exact Drawn0.refl _ | apply Drawn0.step)⟩
   ·
    rw [if_neg c3] at H
    have c3b0 : decide (0 < x1_1) = false := decide_eq_false c3
    clear c3
    obtain rfl := Option.some.inj H
    go_wp2
    repeat (go_quiet (fail); try go_wp2)
    go_ret
    exact ⟨by first | rfl | (simp; done) | (simp [*]; done), by repeat (first | exact Drawn0.refl _ | apply Drawn0.step)⟩
end Go.Proofs.YtnponnkcfgjeoaaDoor.X
end
section
namespace Go.Proofs.YtnponnkcfgjeoaaDoor.X
open Go.RowKit Go.Proofs.YtnponnkcfgjeoaaDoorW.PrintWords Go.Proofs.YtnponnkcfgjeoaaDoorW.PrintLast Go.Proofs.YtnponnkcfgjeoaaDoorW.PrintMore
attribute [local go_sem] max2_int min2_int max_two min_two max_three min_three max_four min_four
set_option linter.unusedVariables false
set_option linter.unusedSimpArgs false
def spec_l1Of.f (k : Nat) (a0 : Int) (a1 : Int) : Option (Int × Int) := (spec_l1Gcd.f k a0 a1).bind fun t133 => (if t133 = 0 then (none) else (some (wrap64 (Int.tdiv a0 t133), wrap64 (Int.tdiv a1 t133))))
def spec_l1Of.T2 : Bool × List (List Nat × List Nat) := (true, [([], []), ([], []), ([0, 1], [0, 1]), ([], []), ([], []), ([3, 4], [3, 4]), ([2, 5], [2, 5]), ([6, 0, 1, 2, 3, 4, 5, 6], [6])])
def spec_l1Of.B2 : List Nat := [0, 0, 3, 0, 0, 24, 63, 127]
theorem spec_l1Of.tab2 : rtab .any (opsOf Tryd.f69 2) = spec_l1Of.T2 := by kernel_rfl
theorem spec_l1Of.bits2 : waitsOk spec_l1Of.T2.2 spec_l1Of.B2 = true := by kernel_rfl
set_option maxHeartbeats 8000000 in
set_option maxRecDepth 100000 in
theorem spec_l1Of.calls (k : Nat) (a0 : Int) (a1 : Int) (r1 : Int) (r2 : Int) (w : World) (h : spec_l1Of.f k a0 a1 = some (r1, r2)) :
  Calls Tryd.prog 69 #[.int .i64 a0, .int .i64 a1] w fun e w' => e = .returned (.agg #[.int .i64 r1, .int .i64 r2]) ∧ Below w.heap.size w w' := by
 have hu25 := Tryd.underlying25
 have HB := Aside0.mk (Below.refl w.heap.size w)
 have H : ((spec_l1Gcd.f k a0 a1).bind fun t133 => (if t133 = 0 then (none) else (some (wrap64 (Int.tdiv a0 t133), wrap64 (Int.tdiv a1 t133))))) = some (r1, r2) := h
 clear h
 replace H := Option.bind_eq_some_iff.mp H
 obtain ⟨t133, A30, H⟩ := H
 replace H : (if t133 = 0 then (none) else (some (wrap64 (Int.tdiv a0 t133), wrap64 (Int.tdiv a1 t133)))) = some (r1, r2) := H
 have A3 := Aside0.mk A30
 clear A30
 by_cases c4 : t133 = 0
 ·
  rw [if_pos c4] at H
  exact absurd H (by simp)
 ·
  rw [if_neg c4] at H
  have c4b0 : (t133 == 0) = false := beq_eq_false_iff_ne.mpr c4
  have c4b1 : (t133 != 0) = true := bne_iff_ne.mpr c4
  simp only [Option.some.injEq, Prod.mk.injEq] at H
  obtain ⟨rfl, rfl⟩ := H
  go_enter Tryd.func69, Tryd.ntmps69
  try go_wp2_with (first | ((with_reducible refine gate_dst (N := 4) rfl ?_); refine box_event ?hg (N := 4) ?hd (cs := #[.int .i64 0, .int .i64 0]) (t := 25) ?hr ?_; (case hd => rfl); (case hg => rfl); (case hr => first | (go_simp; done) | (go_simp; rfl)); intro gb132 hg w5 hbox hb; have n0_ := Aside0.mk (below_step hB_ hb); have n1_ := Aside0.mk (hbox); have n2_ := Aside0.mk ((by rw [hg]; exact (below_size hB_) : w.heap.size ≤ gb132)); have n3_ := Aside0.mk ((by rw [hg]; exact (below_size hB_) : w.heap.size ≤ gb132)); clear HB; have HB := n0_; have BK132 := n1_; have GW132 := n2_; have GE132 := n3_; clear n0_ n1_ n2_ n3_; clear hb hbox hg) | ((with_reducible refine gate_callee (f := 46) rfl ?_); refine goesL_ (some 8) rfl rfl Tryd.func46 (by kernel_rfl) rfl #[.int .i64 a0, .int .i64 a1] rfl ma_ ?_; (with_reducible refine (spec_l1Gcd.calls k a0 a1 t133 _ A3.out).mono ?_); rintro e w' ⟨rfl, ⟨nd, rfl⟩⟩; refine ⟨_, rfl, ?_⟩; (try (rw [drewN_self w5]; generalize hq_ : World.drewN w5 _ = w5; have n0_ : Aside0 (w5.heap[gb132]? = some (.cells #[.int .i64 0, .int .i64 0] 25 (0, 0))) := ⟨by rw [← hq_]; exact uq_⟩; have n1_ : Aside0 (Below w.heap.size w w5) := ⟨by rw [← hq_]; exact hB_⟩; clear BK132 HB hq_; have BK132 := n0_; have HB := n1_; clear n0_ n1_))))
  have n0_ := Aside0.mk (blk_drew BK132.out)
  have n1_ := Aside0.mk (below_drew1 HB.out)
  clear BK132 HB
  have BK132 := n0_
  have HB := n1_
  clear n0_ n1_
  refine start_ (n := 8) (S := fun w' => True) (ds := []) #[false, false, false, false, false, false, false, false] (by kernel_rfl) rfl rfl trivial (fun hHeld => ?_); refine with_tabW spec_l1Of.tab2 spec_l1Of.bits2 (fun HT_ HW_ => ?_)
  generalize w5.drew = w6 at BK132 HB hHeld ⊢
  refine pure_ (i := 0) (N := some 9) (v := ?_) (a' := ?_) (bm 8 1) rfl rfl (any_of HT_.out (by kernel_rfl)) (fun _ _ _ h => h) (Or.inl ⟨by rfl, ?_⟩) ?_ ?_
  rotate_left
  ·
   intro w'
   go_simp
   with_reducible rfl
  rotate_left
  ·
   simp only [Act.put, List.setIfInBounds_toArray, List.set_cons_zero, List.set_cons_succ, i64_w, i32_w]
   rfl
  refine pure_ (i := 1) (N := some 10) (v := ?_) (a' := ?_) (bm 8 3) rfl rfl (any_of HT_.out (by kernel_rfl)) (fun _ _ _ h => h) (Or.inl ⟨by rfl, ?_⟩) ?_ ?_
  rotate_left
  ·
   intro w'
   go_simp
   with_reducible rfl
  rotate_left
  ·
   simp only [Act.put, List.setIfInBounds_toArray, List.set_cons_zero, List.set_cons_succ, i64_w, i32_w]
   rfl
  refine pure_ (i := 2) (N := some 11) (v := ?_) (a' := ?_) (bm 8 7) rfl rfl (any_of HT_.out (by kernel_rfl)) (fun _ _ _ h => h) (Or.inl ⟨by rfl, ?_⟩) ?_ ?_
  rotate_left
  ·
   intro w'
   go_simp
   with_reducible rfl
  rotate_left
  ·
   simp only [Act.put, List.setIfInBounds_toArray, List.set_cons_zero, List.set_cons_succ, i64_w, i32_w]
   rfl
  refine pure_ (i := 3) (N := some 12) (v := ?_) (a' := ?_) (bm 8 15) rfl rfl (any_of HT_.out (by kernel_rfl)) (fun _ _ _ h => h) (Or.inl ⟨by rfl, ?_⟩) ?_ ?_
  rotate_left
  ·
   intro w'
   go_simp
   with_reducible rfl
  rotate_left
  ·
   simp only [Act.put, List.setIfInBounds_toArray, List.set_cons_zero, List.set_cons_succ, i64_w, i32_w]
   rfl
  refine pure_ (i := 4) (N := some 13) (v := ?_) (a' := ?_) (bm 8 31) rfl rfl (any_of HT_.out (by kernel_rfl)) (fun _ _ _ h => h) (Or.inl ⟨by rfl, ?_⟩) ?_ ?_
  rotate_left
  ·
   intro w'
   go_simp
   with_reducible rfl
  rotate_left
  ·
   simp only [Act.put, List.setIfInBounds_toArray, List.set_cons_zero, List.set_cons_succ, i64_w, i32_w]
   rfl
  refine pure_ (i := 5) (N := some 14) (v := ?_) (a' := ?_) (bm 8 63) rfl rfl (any_of HT_.out (by kernel_rfl)) (fun _ _ _ h => h) (Or.inl ⟨by rfl, ?_⟩) ?_ ?_
  rotate_left
  ·
   intro w'
   go_simp
   with_reducible rfl
  rotate_left
  ·
   simp only [Act.put, List.setIfInBounds_toArray, List.set_cons_zero, List.set_cons_succ, i64_w, i32_w]
   rfl
  refine pure_ (i := 6) (N := some 15) (v := ?_) (a' := ?_) (bm 8 127) rfl rfl (any_of HT_.out (by kernel_rfl)) (fun _ _ _ h => h) (Or.inl ⟨by rfl, ?_⟩) ?_ ?_
  rotate_left
  ·
   intro w'
   go_simp
   with_reducible rfl
  rotate_left
  ·
   simp only [Act.put, List.setIfInBounds_toArray, List.set_cons_zero, List.set_cons_succ, i64_w, i32_w]
   rfl
  refine one_ (i := 7) (N := none) (bm 8 255) rfl rfl (one_of HT_.out (by kernel_rfl)) (by decide) (fun K hK => ?_)
  have hs7 : w6.cell? ⟨gb132, 0, none⟩ = some (.int .i64 0) := bc_
  have hfs7 := blk_frozen BK132.out 0
  have hs8 : w6.cell? ⟨gb132, 1, none⟩ = some (.int .i64 0) := bc_
  have hfs8 := blk_frozen BK132.out 1
  refine skip_ (w1 := ?_) (by rfl) rfl ?_ ?_
  rotate_left
  ·
   go_simp
   rfl
  refine hK.out _ _ trivial (fun hHeld => ?_)
  clear hK K
  refine done_ (done_of HT_.out (by kernel_rfl)) ?_
  try go_wp2
  refine bodyPost_ret (results_cell_row rfl _ _ gb132 25 #[.int .i64 (wrap64 (Int.tdiv a0 t133)), .int .i64 (wrap64 (Int.tdiv a1 t133))] (0, 0) _ rfl (by (with_reducible repeat (first | refine blk_drewN ?_ _ | refine blk_drew ?_ | refine blk_alloc ?_ _)); refine blk_put (cs := #[.int .i64 (wrap64 (Int.tdiv a0 t133)), .int .i64 0]) ?_ 1 _ rfl; (with_reducible repeat (first | refine blk_drewN ?_ _ | refine blk_drew ?_ | refine blk_alloc ?_ _)); refine blk_put (cs := #[.int .i64 0, .int .i64 0]) ?_ 0 _ rfl; (with_reducible repeat (first | refine blk_drewN ?_ _ | refine blk_drew ?_ | refine blk_alloc ?_ _)); exact BK132.out) Tryd.underlying25 rfl (by kernel_rfl)) rfl ?_
  exact ⟨by first | rfl | (simp [errW_none, errW_some] <;> rfl) | (simp [*, errW_none, errW_some] <;> rfl), hB_⟩
end Go.Proofs.YtnponnkcfgjeoaaDoor.X
end
section
namespace Go.Proofs.YtnponnkcfgjeoaaDoor.X
open Go.RowKit Go.Proofs.YtnponnkcfgjeoaaDoorW.PrintWords Go.Proofs.YtnponnkcfgjeoaaDoorW.PrintLast Go.Proofs.YtnponnkcfgjeoaaDoorW.PrintMore
attribute [local go_sem] max2_int min2_int max_two min_two max_three min_three max_four min_four
set_option linter.unusedVariables false
set_option linter.unusedSimpArgs false
def spec_l2Cross.f (a0_0 : Int) (a0_1 : Int) (a1_0 : Int) (a1_1 : Int) (a2_0 : Int) (a2_1 : Int) : Option (Int) := some (wrap64 ((wrap64 ((wrap64 (a1_0 - a0_0)) * (wrap64 (a2_1 - a0_1)))) - (wrap64 ((wrap64 (a1_1 - a0_1)) * (wrap64 (a2_0 - a0_0))))))
set_option maxHeartbeats 8000000 in
set_option maxRecDepth 100000 in
theorem spec_l2Cross.calls (a0_0 : Int) (a0_1 : Int) (a1_0 : Int) (a1_1 : Int) (a2_0 : Int) (a2_1 : Int) (r : Int) (w : World) (h : spec_l2Cross.f a0_0 a0_1 a1_0 a1_1 a2_0 a2_1 = some r) :
  Calls Tryd.prog 71 #[.agg #[.int .i64 a0_0, .int .i64 a0_1], .agg #[.int .i64 a1_0, .int .i64 a1_1], .agg #[.int .i64 a2_0, .int .i64 a2_1]] w fun e w' => e = .returned (.int .i64 r) ∧ Below w.heap.size w w' := by
 have hu38 := Tryd.underlying38
 have HB := Aside0.mk (Below.refl w.heap.size w)
 have H : (some (wrap64 ((wrap64 ((wrap64 (a1_0 - a0_0)) * (wrap64 (a2_1 - a0_1)))) - (wrap64 ((wrap64 (a1_1 - a0_1)) * (wrap64 (a2_0 - a0_0))))))) = some r := h
 clear h
 obtain rfl := Option.some.inj H
 go_enter Tryd.func71, Tryd.ntmps71
 go_wp2_with (first | ((with_reducible refine gate_dst (N := 3) rfl ?_); refine box_event ?hg (N := 3) ?hd (cs := #[.int .i64 a0_0, .int .i64 a0_1]) (t := 38) ?hr ?_; (case hd => rfl); (case hg => rfl); (case hr => first | (go_simp; done) | (go_simp; rfl)); intro gb345 hg w4 hbox hb; have n0_ := Aside0.mk (below_step hB_ hb); have n1_ := Aside0.mk (hbox); have n2_ := Aside0.mk ((by rw [hg]; exact (below_size hB_) : w.heap.size ≤ gb345)); have n3_ := Aside0.mk ((by rw [hg]; exact (below_size hB_) : w.heap.size ≤ gb345)); clear HB; have HB := n0_; have BK345 := n1_; have GW345 := n2_; have GE345 := n3_; clear n0_ n1_ n2_ n3_; clear hb hbox hg) | ((with_reducible refine gate_dst (N := 4) rfl ?_); refine box_event ?hg (N := 4) ?hd (cs := #[.int .i64 a1_0, .int .i64 a1_1]) (t := 38) ?hr ?_; (case hd => rfl); (case hg => rfl); (case hr => first | (go_simp; done) | (go_simp; rfl)); intro gb346 hg w5 hbox hb; have n0_ := Aside0.mk (ub_ (g := gb345) hb); have n1_ := Aside0.mk (below_step hB_ hb); have n2_ := Aside0.mk (hbox); have n3_ := Aside0.mk ((by rw [hg]; exact (below_size hB_) : w.heap.size ≤ gb346)); have n4_ := Aside0.mk ((by rw [hg]; exact (below_size hB_) : w.heap.size ≤ gb346)); have n5_ := Aside0.mk ((by rw [hg]; exact Nat.ne_of_lt (blk_lt (g := gb345) (o := .cells #[.int .i64 a0_0, .int .i64 a0_1] 38 (0, 0)) uq_) : gb345 ≠ gb346)); have n6_ := Aside0.mk ((by rw [hg]; exact Nat.ne_of_gt (blk_lt (g := gb345) (o := .cells #[.int .i64 a0_0, .int .i64 a0_1] 38 (0, 0)) uq_) : gb346 ≠ gb345)); clear BK345; clear HB; have BK345 := n0_; have HB := n1_; have BK346 := n2_; have GW346 := n3_; have GE346 := n4_; have NB345_346 := n5_; have NB346_345 := n6_; clear n0_ n1_ n2_ n3_ n4_ n5_ n6_; clear hb hbox hg) | ((with_reducible refine gate_dst (N := 5) rfl ?_); refine box_event ?hg (N := 5) ?hd (cs := #[.int .i64 a2_0, .int .i64 a2_1]) (t := 38) ?hr ?_; (case hd => rfl); (case hg => rfl); (case hr => first | (go_simp; done) | (go_simp; rfl)); intro gb347 hg w6 hbox hb; have n0_ := Aside0.mk (ub_ (g := gb345) hb); have n1_ := Aside0.mk (ub_ (g := gb346) hb); have n2_ := Aside0.mk (below_step hB_ hb); have n3_ := Aside0.mk (hbox); have n4_ := Aside0.mk ((by rw [hg]; exact (below_size hB_) : w.heap.size ≤ gb347)); have n5_ := Aside0.mk ((by rw [hg]; exact (below_size hB_) : w.heap.size ≤ gb347)); have n6_ := Aside0.mk ((by rw [hg]; exact Nat.ne_of_lt (blk_lt (g := gb345) (o := .cells #[.int .i64 a0_0, .int .i64 a0_1] 38 (0, 0)) uq_) : gb345 ≠ gb347)); have n7_ := Aside0.mk ((by rw [hg]; exact Nat.ne_of_gt (blk_lt (g := gb345) (o := .cells #[.int .i64 a0_0, .int .i64 a0_1] 38 (0, 0)) uq_) : gb347 ≠ gb345)); have n8_ := Aside0.mk ((by rw [hg]; exact Nat.ne_of_lt (blk_lt (g := gb346) (o := .cells #[.int .i64 a1_0, .int .i64 a1_1] 38 (0, 0)) uq_) : gb346 ≠ gb347)); have n9_ := Aside0.mk ((by rw [hg]; exact Nat.ne_of_gt (blk_lt (g := gb346) (o := .cells #[.int .i64 a1_0, .int .i64 a1_1] 38 (0, 0)) uq_) : gb347 ≠ gb346)); clear BK345; clear BK346; clear HB; have BK345 := n0_; have BK346 := n1_; have HB := n2_; have BK347 := n3_; have GW347 := n4_; have GE347 := n5_; have NB345_347 := n6_; have NB347_345 := n7_; have NB346_347 := n8_; have NB347_346 := n9_; clear n0_ n1_ n2_ n3_ n4_ n5_ n6_ n7_ n8_ n9_; clear hb hbox hg; have hnb7 := NB346_345.out; have hnc7 := NB345_346.out; have hnb8 := NB346_347.out; have hnc8 := NB347_346.out; have hcz9_0 : w6.cell? ⟨gb346, 0, none⟩ = some (.int .i64 a1_0) := bc_; have hcz9_1 : w6.cell? ⟨gb346, 1, none⟩ = some (.int .i64 a1_1) := bc_; have hfz9_0 := blk_frozen BK346.out 0; have hfz9_1 := blk_frozen BK346.out 1; have hnb10 := NB345_347.out; have hnc10 := NB347_345.out; have hcz11_0 : w6.cell? ⟨gb345, 0, none⟩ = some (.int .i64 a0_0) := bc_; have hcz11_1 : w6.cell? ⟨gb345, 1, none⟩ = some (.int .i64 a0_1) := bc_; have hfz11_0 := blk_frozen BK345.out 0; have hfz11_1 := blk_frozen BK345.out 1; have hcz12_0 : w6.cell? ⟨gb347, 0, none⟩ = some (.int .i64 a2_0) := bc_; have hcz12_1 : w6.cell? ⟨gb347, 1, none⟩ = some (.int .i64 a2_1) := bc_; have hfz12_0 := blk_frozen BK347.out 0; have hfz12_1 := blk_frozen BK347.out 1))
 go_ret
 exact ⟨by first | rfl | (simp [errW_none, errW_some] <;> rfl) | (simp [*, errW_none, errW_some] <;> rfl), hB_⟩
end Go.Proofs.YtnponnkcfgjeoaaDoor.X
end
section
namespace Go.Proofs.YtnponnkcfgjeoaaDoor.X
open Go.RowKit Go.Proofs.YtnponnkcfgjeoaaDoorW.PrintWords Go.Proofs.YtnponnkcfgjeoaaDoorW.PrintLast Go.Proofs.YtnponnkcfgjeoaaDoorW.PrintMore
attribute [local go_sem] max2_int min2_int max_two min_two max_three min_three max_four min_four
set_option linter.unusedVariables false
set_option linter.unusedSimpArgs false
def spec_l2Dot.f (a0_0 : Int) (a0_1 : Int) (a1_0 : Int) (a1_1 : Int) (a2_0 : Int) (a2_1 : Int) : Option (Int) := some (wrap64 ((wrap64 ((wrap64 (a1_0 - a0_0)) * (wrap64 (a2_0 - a0_0)))) + (wrap64 ((wrap64 (a1_1 - a0_1)) * (wrap64 (a2_1 - a0_1))))))
set_option maxHeartbeats 8000000 in
set_option maxRecDepth 100000 in
theorem spec_l2Dot.calls (a0_0 : Int) (a0_1 : Int) (a1_0 : Int) (a1_1 : Int) (a2_0 : Int) (a2_1 : Int) (r : Int) (w : World) (h : spec_l2Dot.f a0_0 a0_1 a1_0 a1_1 a2_0 a2_1 = some r) :
  Calls Tryd.prog 70 #[.agg #[.int .i64 a0_0, .int .i64 a0_1], .agg #[.int .i64 a1_0, .int .i64 a1_1], .agg #[.int .i64 a2_0, .int .i64 a2_1]] w fun e w' => e = .returned (.int .i64 r) ∧ Below w.heap.size w w' := by
 have hu38 := Tryd.underlying38
 have HB := Aside0.mk (Below.refl w.heap.size w)
 have H : (some (wrap64 ((wrap64 ((wrap64 (a1_0 - a0_0)) * (wrap64 (a2_0 - a0_0)))) + (wrap64 ((wrap64 (a1_1 - a0_1)) * (wrap64 (a2_1 - a0_1))))))) = some r := h
 clear h
 obtain rfl := Option.some.inj H
 go_enter Tryd.func70, Tryd.ntmps70
 go_wp2_with (first | ((with_reducible refine gate_dst (N := 3) rfl ?_); refine box_event ?hg (N := 3) ?hd (cs := #[.int .i64 a0_0, .int .i64 a0_1]) (t := 38) ?hr ?_; (case hd => rfl); (case hg => rfl); (case hr => first | (go_simp; done) | (go_simp; rfl)); intro gb342 hg w4 hbox hb; have n0_ := Aside0.mk (below_step hB_ hb); have n1_ := Aside0.mk (hbox); have n2_ := Aside0.mk ((by rw [hg]; exact (below_size hB_) : w.heap.size ≤ gb342)); have n3_ := Aside0.mk ((by rw [hg]; exact (below_size hB_) : w.heap.size ≤ gb342)); clear HB; have HB := n0_; have BK342 := n1_; have GW342 := n2_; have GE342 := n3_; clear n0_ n1_ n2_ n3_; clear hb hbox hg) | ((with_reducible refine gate_dst (N := 4) rfl ?_); refine box_event ?hg (N := 4) ?hd (cs := #[.int .i64 a1_0, .int .i64 a1_1]) (t := 38) ?hr ?_; (case hd => rfl); (case hg => rfl); (case hr => first | (go_simp; done) | (go_simp; rfl)); intro gb343 hg w5 hbox hb; have n0_ := Aside0.mk (ub_ (g := gb342) hb); have n1_ := Aside0.mk (below_step hB_ hb); have n2_ := Aside0.mk (hbox); have n3_ := Aside0.mk ((by rw [hg]; exact (below_size hB_) : w.heap.size ≤ gb343)); have n4_ := Aside0.mk ((by rw [hg]; exact (below_size hB_) : w.heap.size ≤ gb343)); have n5_ := Aside0.mk ((by rw [hg]; exact Nat.ne_of_lt (blk_lt (g := gb342) (o := .cells #[.int .i64 a0_0, .int .i64 a0_1] 38 (0, 0)) uq_) : gb342 ≠ gb343)); have n6_ := Aside0.mk ((by rw [hg]; exact Nat.ne_of_gt (blk_lt (g := gb342) (o := .cells #[.int .i64 a0_0, .int .i64 a0_1] 38 (0, 0)) uq_) : gb343 ≠ gb342)); clear BK342; clear HB; have BK342 := n0_; have HB := n1_; have BK343 := n2_; have GW343 := n3_; have GE343 := n4_; have NB342_343 := n5_; have NB343_342 := n6_; clear n0_ n1_ n2_ n3_ n4_ n5_ n6_; clear hb hbox hg) | ((with_reducible refine gate_dst (N := 5) rfl ?_); refine box_event ?hg (N := 5) ?hd (cs := #[.int .i64 a2_0, .int .i64 a2_1]) (t := 38) ?hr ?_; (case hd => rfl); (case hg => rfl); (case hr => first | (go_simp; done) | (go_simp; rfl)); intro gb344 hg w6 hbox hb; have n0_ := Aside0.mk (ub_ (g := gb342) hb); have n1_ := Aside0.mk (ub_ (g := gb343) hb); have n2_ := Aside0.mk (below_step hB_ hb); have n3_ := Aside0.mk (hbox); have n4_ := Aside0.mk ((by rw [hg]; exact (below_size hB_) : w.heap.size ≤ gb344)); have n5_ := Aside0.mk ((by rw [hg]; exact (below_size hB_) : w.heap.size ≤ gb344)); have n6_ := Aside0.mk ((by rw [hg]; exact Nat.ne_of_lt (blk_lt (g := gb342) (o := .cells #[.int .i64 a0_0, .int .i64 a0_1] 38 (0, 0)) uq_) : gb342 ≠ gb344)); have n7_ := Aside0.mk ((by rw [hg]; exact Nat.ne_of_gt (blk_lt (g := gb342) (o := .cells #[.int .i64 a0_0, .int .i64 a0_1] 38 (0, 0)) uq_) : gb344 ≠ gb342)); have n8_ := Aside0.mk ((by rw [hg]; exact Nat.ne_of_lt (blk_lt (g := gb343) (o := .cells #[.int .i64 a1_0, .int .i64 a1_1] 38 (0, 0)) uq_) : gb343 ≠ gb344)); have n9_ := Aside0.mk ((by rw [hg]; exact Nat.ne_of_gt (blk_lt (g := gb343) (o := .cells #[.int .i64 a1_0, .int .i64 a1_1] 38 (0, 0)) uq_) : gb344 ≠ gb343)); clear BK342; clear BK343; clear HB; have BK342 := n0_; have BK343 := n1_; have HB := n2_; have BK344 := n3_; have GW344 := n4_; have GE344 := n5_; have NB342_344 := n6_; have NB344_342 := n7_; have NB343_344 := n8_; have NB344_343 := n9_; clear n0_ n1_ n2_ n3_ n4_ n5_ n6_ n7_ n8_ n9_; clear hb hbox hg; have hnb7 := NB343_342.out; have hnc7 := NB342_343.out; have hnb8 := NB343_344.out; have hnc8 := NB344_343.out; have hcz9_0 : w6.cell? ⟨gb343, 0, none⟩ = some (.int .i64 a1_0) := bc_; have hcz9_1 : w6.cell? ⟨gb343, 1, none⟩ = some (.int .i64 a1_1) := bc_; have hfz9_0 := blk_frozen BK343.out 0; have hfz9_1 := blk_frozen BK343.out 1; have hnb10 := NB342_344.out; have hnc10 := NB344_342.out; have hcz11_0 : w6.cell? ⟨gb342, 0, none⟩ = some (.int .i64 a0_0) := bc_; have hcz11_1 : w6.cell? ⟨gb342, 1, none⟩ = some (.int .i64 a0_1) := bc_; have hfz11_0 := blk_frozen BK342.out 0; have hfz11_1 := blk_frozen BK342.out 1; have hcz12_0 : w6.cell? ⟨gb344, 0, none⟩ = some (.int .i64 a2_0) := bc_; have hcz12_1 : w6.cell? ⟨gb344, 1, none⟩ = some (.int .i64 a2_1) := bc_; have hfz12_0 := blk_frozen BK344.out 0; have hfz12_1 := blk_frozen BK344.out 1))
 go_ret
 exact ⟨by first | rfl | (simp [errW_none, errW_some] <;> rfl) | (simp [*, errW_none, errW_some] <;> rfl), hB_⟩
end Go.Proofs.YtnponnkcfgjeoaaDoor.X
end
section
namespace Go.Proofs.YtnponnkcfgjeoaaDoor.X
open Go.RowKit Go.Proofs.YtnponnkcfgjeoaaDoorW.PrintWords Go.Proofs.YtnponnkcfgjeoaaDoorW.PrintLast Go.Proofs.YtnponnkcfgjeoaaDoorW.PrintMore
attribute [local go_sem] max2_int min2_int max_two min_two max_three min_three max_four min_four
set_option linter.unusedVariables false
set_option linter.unusedSimpArgs false
def spec_l2Far.f (k : Nat) (a0_0 : Int) (a0_1 : Int) (a0_2 : Int) (a0_3 : Int) (a1_0 : Int) (a1_1 : Int) : Option (Int × Int) := (spec_l2Dot.f a0_0 a0_1 a0_2 a0_3 a1_0 a1_1).bind fun t351 => ((spec_l2Dot.f a0_0 a0_1 a0_2 a0_3 a0_2 a0_3).bind fun t352 => (if t351 ≤ 0 then ((spec_l2Dot.f a0_0 a0_1 a1_0 a1_1 a1_0 a1_1).bind fun t353 => (some (t353, 1))) else (if t351 ≥ t352 then ((spec_l2Dot.f a0_2 a0_3 a1_0 a1_1 a1_0 a1_1).bind fun t354 => (some (t354, 1))) else ((spec_l2Cross.f a0_0 a0_1 a0_2 a0_3 a1_0 a1_1).bind fun t355 => ((spec_l1Of.f k (wrap64 (t355 * t355)) t352).bind fun bt356 => (some (bt356.1, bt356.2)))))))
set_option maxHeartbeats 8000000 in
set_option maxRecDepth 100000 in
theorem spec_l2Far.calls (k : Nat) (a0_0 : Int) (a0_1 : Int) (a0_2 : Int) (a0_3 : Int) (a1_0 : Int) (a1_1 : Int) (r1 : Int) (r2 : Int) (w : World) (h : spec_l2Far.f k a0_0 a0_1 a0_2 a0_3 a1_0 a1_1 = some (r1, r2)) :
  Calls Tryd.prog 59 #[.agg #[.int .i64 a0_0, .int .i64 a0_1, .int .i64 a0_2, .int .i64 a0_3], .agg #[.int .i64 a1_0, .int .i64 a1_1]] w fun e w' => e = .returned (.agg #[.int .i64 r1, .int .i64 r2]) ∧ Below w.heap.size w w' := by
 have hu40 := Tryd.underlying40
 have hu38 := Tryd.underlying38
 have hu25 := Tryd.underlying25
 have HB := Aside0.mk (Below.refl w.heap.size w)
 have H : ((spec_l2Dot.f a0_0 a0_1 a0_2 a0_3 a1_0 a1_1).bind fun t351 => ((spec_l2Dot.f a0_0 a0_1 a0_2 a0_3 a0_2 a0_3).bind fun t352 => (if t351 ≤ 0 then ((spec_l2Dot.f a0_0 a0_1 a1_0 a1_1 a1_0 a1_1).bind fun t353 => (some (t353, 1))) else (if t351 ≥ t352 then ((spec_l2Dot.f a0_2 a0_3 a1_0 a1_1 a1_0 a1_1).bind fun t354 => (some (t354, 1))) else ((spec_l2Cross.f a0_0 a0_1 a0_2 a0_3 a1_0 a1_1).bind fun t355 => ((spec_l1Of.f k (wrap64 (t355 * t355)) t352).bind fun bt356 => (some (bt356.1, bt356.2)))))))) = some (r1, r2) := h
 clear h
 replace H := Option.bind_eq_some_iff.mp H
 obtain ⟨t351, A30, H⟩ := H
 replace H : ((spec_l2Dot.f a0_0 a0_1 a0_2 a0_3 a0_2 a0_3).bind fun t352 => (if t351 ≤ 0 then ((spec_l2Dot.f a0_0 a0_1 a1_0 a1_1 a1_0 a1_1).bind fun t353 => (some (t353, 1))) else (if t351 ≥ t352 then ((spec_l2Dot.f a0_2 a0_3 a1_0 a1_1 a1_0 a1_1).bind fun t354 => (some (t354, 1))) else ((spec_l2Cross.f a0_0 a0_1 a0_2 a0_3 a1_0 a1_1).bind fun t355 => ((spec_l1Of.f k (wrap64 (t355 * t355)) t352).bind fun bt356 => (some (bt356.1, bt356.2))))))) = some (r1, r2) := H
 have A3 := Aside0.mk A30
 clear A30
 replace H := Option.bind_eq_some_iff.mp H
 obtain ⟨t352, A40, H⟩ := H
 replace H : (if t351 ≤ 0 then ((spec_l2Dot.f a0_0 a0_1 a1_0 a1_1 a1_0 a1_1).bind fun t353 => (some (t353, 1))) else (if t351 ≥ t352 then ((spec_l2Dot.f a0_2 a0_3 a1_0 a1_1 a1_0 a1_1).bind fun t354 => (some (t354, 1))) else ((spec_l2Cross.f a0_0 a0_1 a0_2 a0_3 a1_0 a1_1).bind fun t355 => ((spec_l1Of.f k (wrap64 (t355 * t355)) t352).bind fun bt356 => (some (bt356.1, bt356.2)))))) = some (r1, r2) := H
 have A4 := Aside0.mk A40
 clear A40
 by_cases c5 : t351 ≤ 0
 ·
  rw [if_pos c5] at H
  have c5b0 : decide (t351 ≤ 0) = true := decide_eq_true c5
  clear c5
  replace H := Option.bind_eq_some_iff.mp H
  obtain ⟨t353, A60, H⟩ := H
  replace H : (some (t353, 1)) = some (r1, r2) := H
  have A6 := Aside0.mk A60
  clear A60
  simp only [Option.some.injEq, Prod.mk.injEq] at H
  obtain ⟨rfl, rfl⟩ := H
  go_enter Tryd.func59, Tryd.ntmps59
  go_wp2_with (first | ((with_reducible refine gate_dst (N := 2) rfl ?_); refine box_event ?hg (N := 2) ?hd (cs := #[.int .i64 a0_0, .int .i64 a0_1, .int .i64 a0_2, .int .i64 a0_3]) (t := 40) ?hr ?_; (case hd => rfl); (case hg => rfl); (case hr => first | (go_simp; done) | (go_simp; rfl)); intro gb348 hg w7 hbox hb; have n0_ := Aside0.mk (below_step hB_ hb); have n1_ := Aside0.mk (hbox); have n2_ := Aside0.mk ((by rw [hg]; exact (below_size hB_) : w.heap.size ≤ gb348)); have n3_ := Aside0.mk ((by rw [hg]; exact (below_size hB_) : w.heap.size ≤ gb348)); clear HB; have HB := n0_; have BK348 := n1_; have GW348 := n2_; have GE348 := n3_; clear n0_ n1_ n2_ n3_; clear hb hbox hg) | ((with_reducible refine gate_dst (N := 3) rfl ?_); refine box_event ?hg (N := 3) ?hd (cs := #[.int .i64 a1_0, .int .i64 a1_1]) (t := 38) ?hr ?_; (case hd => rfl); (case hg => rfl); (case hr => first | (go_simp; done) | (go_simp; rfl)); intro gb349 hg w8 hbox hb; have n0_ := Aside0.mk (ub_ (g := gb348) hb); have n1_ := Aside0.mk (below_step hB_ hb); have n2_ := Aside0.mk (hbox); have n3_ := Aside0.mk ((by rw [hg]; exact (below_size hB_) : w.heap.size ≤ gb349)); have n4_ := Aside0.mk ((by rw [hg]; exact (below_size hB_) : w.heap.size ≤ gb349)); have n5_ := Aside0.mk ((by rw [hg]; exact Nat.ne_of_lt (blk_lt (g := gb348) (o := .cells #[.int .i64 a0_0, .int .i64 a0_1, .int .i64 a0_2, .int .i64 a0_3] 40 (0, 0)) uq_) : gb348 ≠ gb349)); have n6_ := Aside0.mk ((by rw [hg]; exact Nat.ne_of_gt (blk_lt (g := gb348) (o := .cells #[.int .i64 a0_0, .int .i64 a0_1, .int .i64 a0_2, .int .i64 a0_3] 40 (0, 0)) uq_) : gb349 ≠ gb348)); clear BK348; clear HB; have BK348 := n0_; have HB := n1_; have BK349 := n2_; have GW349 := n3_; have GE349 := n4_; have NB348_349 := n5_; have NB349_348 := n6_; clear n0_ n1_ n2_ n3_ n4_ n5_ n6_; clear hb hbox hg) | ((with_reducible refine gate_dst (N := 4) rfl ?_); refine box_event ?hg (N := 4) ?hd (cs := #[.int .i64 0, .int .i64 0]) (t := 25) ?hr ?_; (case hd => rfl); (case hg => rfl); (case hr => first | (go_simp; done) | (go_simp; rfl)); intro gb350 hg w9 hbox hb; have n0_ := Aside0.mk (ub_ (g := gb348) hb); have n1_ := Aside0.mk (ub_ (g := gb349) hb); have n2_ := Aside0.mk (below_step hB_ hb); have n3_ := Aside0.mk (hbox); have n4_ := Aside0.mk ((by rw [hg]; exact (below_size hB_) : w.heap.size ≤ gb350)); have n5_ := Aside0.mk ((by rw [hg]; exact (below_size hB_) : w.heap.size ≤ gb350)); have n6_ := Aside0.mk ((by rw [hg]; exact Nat.ne_of_lt (blk_lt (g := gb348) (o := .cells #[.int .i64 a0_0, .int .i64 a0_1, .int .i64 a0_2, .int .i64 a0_3] 40 (0, 0)) uq_) : gb348 ≠ gb350)); have n7_ := Aside0.mk ((by rw [hg]; exact Nat.ne_of_gt (blk_lt (g := gb348) (o := .cells #[.int .i64 a0_0, .int .i64 a0_1, .int .i64 a0_2, .int .i64 a0_3] 40 (0, 0)) uq_) : gb350 ≠ gb348)); have n8_ := Aside0.mk ((by rw [hg]; exact Nat.ne_of_lt (blk_lt (g := gb349) (o := .cells #[.int .i64 a1_0, .int .i64 a1_1] 38 (0, 0)) uq_) : gb349 ≠ gb350)); have n9_ := Aside0.mk ((by rw [hg]; exact Nat.ne_of_gt (blk_lt (g := gb349) (o := .cells #[.int .i64 a1_0, .int .i64 a1_1] 38 (0, 0)) uq_) : gb350 ≠ gb349)); clear BK348; clear BK349; clear HB; have BK348 := n0_; have BK349 := n1_; have HB := n2_; have BK350 := n3_; have GW350 := n4_; have GE350 := n5_; have NB348_350 := n6_; have NB350_348 := n7_; have NB349_350 := n8_; have NB350_349 := n9_; clear n0_ n1_ n2_ n3_ n4_ n5_ n6_ n7_ n8_ n9_; clear hb hbox hg; have hnb10 := NB348_349.out; have hnc10 := NB349_348.out; have hnb11 := NB348_350.out; have hnc11 := NB350_348.out; have hcz12_0 : w9.cell? ⟨gb348, 0, none⟩ = some (.int .i64 a0_0) := bc_; have hcz12_1 : w9.cell? ⟨gb348, 1, none⟩ = some (.int .i64 a0_1) := bc_; have hcz12_2 : w9.cell? ⟨gb348, 2, none⟩ = some (.int .i64 a0_2) := bc_; have hcz12_3 : w9.cell? ⟨gb348, 3, none⟩ = some (.int .i64 a0_3) := bc_; have hfz12_0 := blk_frozen BK348.out 0; have hfz12_1 := blk_frozen BK348.out 1; have hfz12_2 := blk_frozen BK348.out 2; have hfz12_3 := blk_frozen BK348.out 3; have hnb13 := NB349_350.out; have hnc13 := NB350_349.out; have hcz14_0 : w9.cell? ⟨gb349, 0, none⟩ = some (.int .i64 a1_0) := bc_; have hcz14_1 : w9.cell? ⟨gb349, 1, none⟩ = some (.int .i64 a1_1) := bc_; have hfz14_0 := blk_frozen BK349.out 0; have hfz14_1 := blk_frozen BK349.out 1) | ((with_reducible refine gate_callee (f := 70) rfl ?_); refine goesL_ (some 13) rfl rfl Tryd.func70 (by kernel_rfl) rfl #[.agg #[.int .i64 a0_0, .int .i64 a0_1], .agg #[.int .i64 a0_2, .int .i64 a0_3], .agg #[.int .i64 a1_0, .int .i64 a1_1]] rfl ma_ ?_; (with_reducible refine (spec_l2Dot.calls a0_0 a0_1 a0_2 a0_3 a1_0 a1_1 t351 _ A3.out).mono ?_); rintro e w15 ⟨rfl, hb⟩; refine ⟨_, rfl, ?_⟩; have n0_ := Aside0.mk (ub_ (g := gb348) hb); have n1_ := Aside0.mk (ub_ (g := gb349) hb); have n2_ := Aside0.mk (ub_ (g := gb350) hb); have n3_ := Aside0.mk (below_step hB_ hb); clear BK348; clear BK349; clear BK350; clear HB; have BK348 := n0_; have BK349 := n1_; have BK350 := n2_; have HB := n3_; clear n0_ n1_ n2_ n3_; (try clear hb); (try clear hb2); (try clear hk); (try clear hi); have hcz16_0 : w15.cell? ⟨gb348, 0, none⟩ = some (.int .i64 a0_0) := bc_; have hcz16_1 : w15.cell? ⟨gb348, 1, none⟩ = some (.int .i64 a0_1) := bc_; have hcz16_2 : w15.cell? ⟨gb348, 2, none⟩ = some (.int .i64 a0_2) := bc_; have hcz16_3 : w15.cell? ⟨gb348, 3, none⟩ = some (.int .i64 a0_3) := bc_; have hfz16_0 := blk_frozen BK348.out 0; have hfz16_1 := blk_frozen BK348.out 1; have hfz16_2 := blk_frozen BK348.out 2; have hfz16_3 := blk_frozen BK348.out 3) | ((with_reducible refine gate_callee (f := 70) rfl ?_); refine goesL_ (some 20) rfl rfl Tryd.func70 (by kernel_rfl) rfl #[.agg #[.int .i64 a0_0, .int .i64 a0_1], .agg #[.int .i64 a0_2, .int .i64 a0_3], .agg #[.int .i64 a0_2, .int .i64 a0_3]] rfl ma_ ?_; (with_reducible refine (spec_l2Dot.calls a0_0 a0_1 a0_2 a0_3 a0_2 a0_3 t352 _ A4.out).mono ?_); rintro e w17 ⟨rfl, hb⟩; refine ⟨_, rfl, ?_⟩; have n0_ := Aside0.mk (ub_ (g := gb348) hb); have n1_ := Aside0.mk (ub_ (g := gb349) hb); have n2_ := Aside0.mk (ub_ (g := gb350) hb); have n3_ := Aside0.mk (below_step hB_ hb); clear BK348; clear BK349; clear BK350; clear HB; have BK348 := n0_; have BK349 := n1_; have BK350 := n2_; have HB := n3_; clear n0_ n1_ n2_ n3_; (try clear hb); (try clear hb2); (try clear hk); (try clear hi); have hcz18_0 : w17.cell? ⟨gb348, 0, none⟩ = some (.int .i64 a0_0) := bc_; have hcz18_1 : w17.cell? ⟨gb348, 1, none⟩ = some (.int .i64 a0_1) := bc_; have hcz18_2 : w17.cell? ⟨gb348, 2, none⟩ = some (.int .i64 a0_2) := bc_; have hcz18_3 : w17.cell? ⟨gb348, 3, none⟩ = some (.int .i64 a0_3) := bc_; have hfz18_0 := blk_frozen BK348.out 0; have hfz18_1 := blk_frozen BK348.out 1; have hfz18_2 := blk_frozen BK348.out 2; have hfz18_3 := blk_frozen BK348.out 3; have hcz19_0 : w17.cell? ⟨gb349, 0, none⟩ = some (.int .i64 a1_0) := bc_; have hcz19_1 : w17.cell? ⟨gb349, 1, none⟩ = some (.int .i64 a1_1) := bc_; have hfz19_0 := blk_frozen BK349.out 0; have hfz19_1 := blk_frozen BK349.out 1) | ((with_reducible refine gate_callee (f := 70) rfl ?_); refine goesL_ (some 28) rfl rfl Tryd.func70 (by kernel_rfl) rfl #[.agg #[.int .i64 a0_0, .int .i64 a0_1], .agg #[.int .i64 a1_0, .int .i64 a1_1], .agg #[.int .i64 a1_0, .int .i64 a1_1]] rfl ma_ ?_; (with_reducible refine (spec_l2Dot.calls a0_0 a0_1 a1_0 a1_1 a1_0 a1_1 t353 _ A6.out).mono ?_); rintro e w20 ⟨rfl, hb⟩; refine ⟨_, rfl, ?_⟩; have n0_ := Aside0.mk (ub_ (g := gb348) hb); have n1_ := Aside0.mk (ub_ (g := gb349) hb); have n2_ := Aside0.mk (ub_ (g := gb350) hb); have n3_ := Aside0.mk (below_step hB_ hb); clear BK348; clear BK349; clear BK350; clear HB; have BK348 := n0_; have BK349 := n1_; have BK350 := n2_; have HB := n3_; clear n0_ n1_ n2_ n3_; (try clear hb); (try clear hb2); (try clear hk); (try clear hi); have hcz21_0 : w20.cell? ⟨gb350, 0, none⟩ = some (.int .i64 0) := bc_; have hcz21_1 : w20.cell? ⟨gb350, 1, none⟩ = some (.int .i64 0) := bc_; have hfz21_0 := blk_frozen BK350.out 0; have hfz21_1 := blk_frozen BK350.out 1))
  refine bodyPost_ret (results_cell_row rfl _ _ gb350 25 #[.int .i64 t353, .int .i64 1] (0, 0) _ rfl (by (with_reducible repeat (first | refine blk_drewN ?_ _ | refine blk_drew ?_ | refine blk_alloc ?_ _)); refine blk_put (cs := #[.int .i64 t353, .int .i64 0]) ?_ 1 _ rfl; (with_reducible repeat (first | refine blk_drewN ?_ _ | refine blk_drew ?_ | refine blk_alloc ?_ _)); refine blk_put (cs := #[.int .i64 0, .int .i64 0]) ?_ 0 _ rfl; (with_reducible repeat (first | refine blk_drewN ?_ _ | refine blk_drew ?_ | refine blk_alloc ?_ _)); exact BK350.out) Tryd.underlying25 rfl (by kernel_rfl)) rfl ?_
  exact ⟨by first | rfl | (simp [errW_none, errW_some] <;> rfl) | (simp [*, errW_none, errW_some] <;> rfl), hB_⟩
 ·
  rw [if_neg c5] at H
  have c5b0 : decide (t351 ≤ 0) = false := decide_eq_false c5
  clear c5
  by_cases c22 : t351 ≥ t352
  ·
   rw [if_pos c22] at H
   have c22b0 : decide (t352 ≤ t351) = true := decide_eq_true c22
   clear c22
   replace H := Option.bind_eq_some_iff.mp H
   obtain ⟨t354, A230, H⟩ := H
   replace H : (some (t354, 1)) = some (r1, r2) := H
   have A23 := Aside0.mk A230
   clear A230
   simp only [Option.some.injEq, Prod.mk.injEq] at H
   obtain ⟨rfl, rfl⟩ := H
   go_enter Tryd.func59, Tryd.ntmps59
   go_wp2_with (first | ((with_reducible refine gate_dst (N := 2) rfl ?_); refine box_event ?hg (N := 2) ?hd (cs := #[.int .i64 a0_0, .int .i64 a0_1, .int .i64 a0_2, .int .i64 a0_3]) (t := 40) ?hr ?_; (case hd => rfl); (case hg => rfl); (case hr => first | (go_simp; done) | (go_simp; rfl)); intro gb348 hg w24 hbox hb; have n0_ := Aside0.mk (below_step hB_ hb); have n1_ := Aside0.mk (hbox); have n2_ := Aside0.mk ((by rw [hg]; exact (below_size hB_) : w.heap.size ≤ gb348)); have n3_ := Aside0.mk ((by rw [hg]; exact (below_size hB_) : w.heap.size ≤ gb348)); clear HB; have HB := n0_; have BK348 := n1_; have GW348 := n2_; have GE348 := n3_; clear n0_ n1_ n2_ n3_; clear hb hbox hg) | ((with_reducible refine gate_dst (N := 3) rfl ?_); refine box_event ?hg (N := 3) ?hd (cs := #[.int .i64 a1_0, .int .i64 a1_1]) (t := 38) ?hr ?_; (case hd => rfl); (case hg => rfl); (case hr => first | (go_simp; done) | (go_simp; rfl)); intro gb349 hg w25 hbox hb; have n0_ := Aside0.mk (ub_ (g := gb348) hb); have n1_ := Aside0.mk (below_step hB_ hb); have n2_ := Aside0.mk (hbox); have n3_ := Aside0.mk ((by rw [hg]; exact (below_size hB_) : w.heap.size ≤ gb349)); have n4_ := Aside0.mk ((by rw [hg]; exact (below_size hB_) : w.heap.size ≤ gb349)); have n5_ := Aside0.mk ((by rw [hg]; exact Nat.ne_of_lt (blk_lt (g := gb348) (o := .cells #[.int .i64 a0_0, .int .i64 a0_1, .int .i64 a0_2, .int .i64 a0_3] 40 (0, 0)) uq_) : gb348 ≠ gb349)); have n6_ := Aside0.mk ((by rw [hg]; exact Nat.ne_of_gt (blk_lt (g := gb348) (o := .cells #[.int .i64 a0_0, .int .i64 a0_1, .int .i64 a0_2, .int .i64 a0_3] 40 (0, 0)) uq_) : gb349 ≠ gb348)); clear BK348; clear HB; have BK348 := n0_; have HB := n1_; have BK349 := n2_; have GW349 := n3_; have GE349 := n4_; have NB348_349 := n5_; have NB349_348 := n6_; clear n0_ n1_ n2_ n3_ n4_ n5_ n6_; clear hb hbox hg) | ((with_reducible refine gate_dst (N := 4) rfl ?_); refine box_event ?hg (N := 4) ?hd (cs := #[.int .i64 0, .int .i64 0]) (t := 25) ?hr ?_; (case hd => rfl); (case hg => rfl); (case hr => first | (go_simp; done) | (go_simp; rfl)); intro gb350 hg w26 hbox hb; have n0_ := Aside0.mk (ub_ (g := gb348) hb); have n1_ := Aside0.mk (ub_ (g := gb349) hb); have n2_ := Aside0.mk (below_step hB_ hb); have n3_ := Aside0.mk (hbox); have n4_ := Aside0.mk ((by rw [hg]; exact (below_size hB_) : w.heap.size ≤ gb350)); have n5_ := Aside0.mk ((by rw [hg]; exact (below_size hB_) : w.heap.size ≤ gb350)); have n6_ := Aside0.mk ((by rw [hg]; exact Nat.ne_of_lt (blk_lt (g := gb348) (o := .cells #[.int .i64 a0_0, .int .i64 a0_1, .int .i64 a0_2, .int .i64 a0_3] 40 (0, 0)) uq_) : gb348 ≠ gb350)); have n7_ := Aside0.mk ((by rw [hg]; exact Nat.ne_of_gt (blk_lt (g := gb348) (o := .cells #[.int .i64 a0_0, .int .i64 a0_1, .int .i64 a0_2, .int .i64 a0_3] 40 (0, 0)) uq_) : gb350 ≠ gb348)); have n8_ := Aside0.mk ((by rw [hg]; exact Nat.ne_of_lt (blk_lt (g := gb349) (o := .cells #[.int .i64 a1_0, .int .i64 a1_1] 38 (0, 0)) uq_) : gb349 ≠ gb350)); have n9_ := Aside0.mk ((by rw [hg]; exact Nat.ne_of_gt (blk_lt (g := gb349) (o := .cells #[.int .i64 a1_0, .int .i64 a1_1] 38 (0, 0)) uq_) : gb350 ≠ gb349)); clear BK348; clear BK349; clear HB; have BK348 := n0_; have BK349 := n1_; have HB := n2_; have BK350 := n3_; have GW350 := n4_; have GE350 := n5_; have NB348_350 := n6_; have NB350_348 := n7_; have NB349_350 := n8_; have NB350_349 := n9_; clear n0_ n1_ n2_ n3_ n4_ n5_ n6_ n7_ n8_ n9_; clear hb hbox hg; have hnb27 := NB348_349.out; have hnc27 := NB349_348.out; have hnb28 := NB348_350.out; have hnc28 := NB350_348.out; have hcz29_0 : w26.cell? ⟨gb348, 0, none⟩ = some (.int .i64 a0_0) := bc_; have hcz29_1 : w26.cell? ⟨gb348, 1, none⟩ = some (.int .i64 a0_1) := bc_; have hcz29_2 : w26.cell? ⟨gb348, 2, none⟩ = some (.int .i64 a0_2) := bc_; have hcz29_3 : w26.cell? ⟨gb348, 3, none⟩ = some (.int .i64 a0_3) := bc_; have hfz29_0 := blk_frozen BK348.out 0; have hfz29_1 := blk_frozen BK348.out 1; have hfz29_2 := blk_frozen BK348.out 2; have hfz29_3 := blk_frozen BK348.out 3; have hnb30 := NB349_350.out; have hnc30 := NB350_349.out; have hcz31_0 : w26.cell? ⟨gb349, 0, none⟩ = some (.int .i64 a1_0) := bc_; have hcz31_1 : w26.cell? ⟨gb349, 1, none⟩ = some (.int .i64 a1_1) := bc_; have hfz31_0 := blk_frozen BK349.out 0; have hfz31_1 := blk_frozen BK349.out 1) | ((with_reducible refine gate_callee (f := 70) rfl ?_); refine goesL_ (some 13) rfl rfl Tryd.func70 (by kernel_rfl) rfl #[.agg #[.int .i64 a0_0, .int .i64 a0_1], .agg #[.int .i64 a0_2, .int .i64 a0_3], .agg #[.int .i64 a1_0, .int .i64 a1_1]] rfl ma_ ?_; (with_reducible refine (spec_l2Dot.calls a0_0 a0_1 a0_2 a0_3 a1_0 a1_1 t351 _ A3.out).mono ?_); rintro e w32 ⟨rfl, hb⟩; refine ⟨_, rfl, ?_⟩; have n0_ := Aside0.mk (ub_ (g := gb348) hb); have n1_ := Aside0.mk (ub_ (g := gb349) hb); have n2_ := Aside0.mk (ub_ (g := gb350) hb); have n3_ := Aside0.mk (below_step hB_ hb); clear BK348; clear BK349; clear BK350; clear HB; have BK348 := n0_; have BK349 := n1_; have BK350 := n2_; have HB := n3_; clear n0_ n1_ n2_ n3_; (try clear hb); (try clear hb2); (try clear hk); (try clear hi); have hcz33_0 : w32.cell? ⟨gb348, 0, none⟩ = some (.int .i64 a0_0) := bc_; have hcz33_1 : w32.cell? ⟨gb348, 1, none⟩ = some (.int .i64 a0_1) := bc_; have hcz33_2 : w32.cell? ⟨gb348, 2, none⟩ = some (.int .i64 a0_2) := bc_; have hcz33_3 : w32.cell? ⟨gb348, 3, none⟩ = some (.int .i64 a0_3) := bc_; have hfz33_0 := blk_frozen BK348.out 0; have hfz33_1 := blk_frozen BK348.out 1; have hfz33_2 := blk_frozen BK348.out 2; have hfz33_3 := blk_frozen BK348.out 3) | ((with_reducible refine gate_callee (f := 70) rfl ?_); refine goesL_ (some 20) rfl rfl Tryd.func70 (by kernel_rfl) rfl #[.agg #[.int .i64 a0_0, .int .i64 a0_1], .agg #[.int .i64 a0_2, .int .i64 a0_3], .agg #[.int .i64 a0_2, .int .i64 a0_3]] rfl ma_ ?_; (with_reducible refine (spec_l2Dot.calls a0_0 a0_1 a0_2 a0_3 a0_2 a0_3 t352 _ A4.out).mono ?_); rintro e w34 ⟨rfl, hb⟩; refine ⟨_, rfl, ?_⟩; have n0_ := Aside0.mk (ub_ (g := gb348) hb); have n1_ := Aside0.mk (ub_ (g := gb349) hb); have n2_ := Aside0.mk (ub_ (g := gb350) hb); have n3_ := Aside0.mk (below_step hB_ hb); clear BK348; clear BK349; clear BK350; clear HB; have BK348 := n0_; have BK349 := n1_; have BK350 := n2_; have HB := n3_; clear n0_ n1_ n2_ n3_; (try clear hb); (try clear hb2); (try clear hk); (try clear hi); have hcz35_0 : w34.cell? ⟨gb348, 0, none⟩ = some (.int .i64 a0_0) := bc_; have hcz35_1 : w34.cell? ⟨gb348, 1, none⟩ = some (.int .i64 a0_1) := bc_; have hcz35_2 : w34.cell? ⟨gb348, 2, none⟩ = some (.int .i64 a0_2) := bc_; have hcz35_3 : w34.cell? ⟨gb348, 3, none⟩ = some (.int .i64 a0_3) := bc_; have hfz35_0 := blk_frozen BK348.out 0; have hfz35_1 := blk_frozen BK348.out 1; have hfz35_2 := blk_frozen BK348.out 2; have hfz35_3 := blk_frozen BK348.out 3; have hcz36_0 : w34.cell? ⟨gb349, 0, none⟩ = some (.int .i64 a1_0) := bc_; have hcz36_1 : w34.cell? ⟨gb349, 1, none⟩ = some (.int .i64 a1_1) := bc_; have hfz36_0 := blk_frozen BK349.out 0; have hfz36_1 := blk_frozen BK349.out 1) | ((with_reducible refine gate_callee (f := 70) rfl ?_); refine goesL_ (some 38) rfl rfl Tryd.func70 (by kernel_rfl) rfl #[.agg #[.int .i64 a0_2, .int .i64 a0_3], .agg #[.int .i64 a1_0, .int .i64 a1_1], .agg #[.int .i64 a1_0, .int .i64 a1_1]] rfl ma_ ?_; (with_reducible refine (spec_l2Dot.calls a0_2 a0_3 a1_0 a1_1 a1_0 a1_1 t354 _ A23.out).mono ?_); rintro e w37 ⟨rfl, hb⟩; refine ⟨_, rfl, ?_⟩; have n0_ := Aside0.mk (ub_ (g := gb348) hb); have n1_ := Aside0.mk (ub_ (g := gb349) hb); have n2_ := Aside0.mk (ub_ (g := gb350) hb); have n3_ := Aside0.mk (below_step hB_ hb); clear BK348; clear BK349; clear BK350; clear HB; have BK348 := n0_; have BK349 := n1_; have BK350 := n2_; have HB := n3_; clear n0_ n1_ n2_ n3_; (try clear hb); (try clear hb2); (try clear hk); (try clear hi); have hcz38_0 : w37.cell? ⟨gb350, 0, none⟩ = some (.int .i64 0) := bc_; have hcz38_1 : w37.cell? ⟨gb350, 1, none⟩ = some (.int .i64 0) := bc_; have hfz38_0 := blk_frozen BK350.out 0; have hfz38_1 := blk_frozen BK350.out 1))
   refine bodyPost_ret (results_cell_row rfl _ _ gb350 25 #[.int .i64 t354, .int .i64 1] (0, 0) _ rfl (by (with_reducible repeat (first | refine blk_drewN ?_ _ | refine blk_drew ?_ | refine blk_alloc ?_ _)); refine blk_put (cs := #[.int .i64 t354, .int .i64 0]) ?_ 1 _ rfl; (with_reducible repeat (first | refine blk_drewN ?_ _ | refine blk_drew ?_ | refine blk_alloc ?_ _)); refine blk_put (cs := #[.int .i64 0, .int .i64 0]) ?_ 0 _ rfl; (with_reducible repeat (first | refine blk_drewN ?_ _ | refine blk_drew ?_ | refine blk_alloc ?_ _)); exact BK350.out) Tryd.underlying25 rfl (by kernel_rfl)) rfl ?_
   exact ⟨by first | rfl | (simp [errW_none, errW_some] <;> rfl) | (simp [*, errW_none, errW_some] <;> rfl), hB_⟩
  ·
   rw [if_neg c22] at H
   have c22b0 : decide (t352 ≤ t351) = false := decide_eq_false c22
   clear c22
   replace H := Option.bind_eq_some_iff.mp H
   obtain ⟨t355, A390, H⟩ := H
   replace H : ((spec_l1Of.f k (wrap64 (t355 * t355)) t352).bind fun bt356 => (some (bt356.1, bt356.2))) = some (r1, r2) := H
   have A39 := Aside0.mk A390
   clear A390
   replace H := Option.bind_eq_some_iff.mp H
   obtain ⟨⟨t356, t357⟩, A400, H⟩ := H
   replace H : (some (t356, t357)) = some (r1, r2) := H
   have A40 := Aside0.mk A400
   clear A400
   simp only [Option.some.injEq, Prod.mk.injEq] at H
   obtain ⟨rfl, rfl⟩ := H
   go_enter Tryd.func59, Tryd.ntmps59
   go_wp2_with (first | ((with_reducible refine gate_dst (N := 2) rfl ?_); refine box_event ?hg (N := 2) ?hd (cs := #[.int .i64 a0_0, .int .i64 a0_1, .int .i64 a0_2, .int .i64 a0_3]) (t := 40) ?hr ?_; (case hd => rfl); (case hg => rfl); (case hr => first | (go_simp; done) | (go_simp; rfl)); intro gb348 hg w41 hbox hb; have n0_ := Aside0.mk (below_step hB_ hb); have n1_ := Aside0.mk (hbox); have n2_ := Aside0.mk ((by rw [hg]; exact (below_size hB_) : w.heap.size ≤ gb348)); have n3_ := Aside0.mk ((by rw [hg]; exact (below_size hB_) : w.heap.size ≤ gb348)); clear HB; have HB := n0_; have BK348 := n1_; have GW348 := n2_; have GE348 := n3_; clear n0_ n1_ n2_ n3_; clear hb hbox hg) | ((with_reducible refine gate_dst (N := 3) rfl ?_); refine box_event ?hg (N := 3) ?hd (cs := #[.int .i64 a1_0, .int .i64 a1_1]) (t := 38) ?hr ?_; (case hd => rfl); (case hg => rfl); (case hr => first | (go_simp; done) | (go_simp; rfl)); intro gb349 hg w42 hbox hb; have n0_ := Aside0.mk (ub_ (g := gb348) hb); have n1_ := Aside0.mk (below_step hB_ hb); have n2_ := Aside0.mk (hbox); have n3_ := Aside0.mk ((by rw [hg]; exact (below_size hB_) : w.heap.size ≤ gb349)); have n4_ := Aside0.mk ((by rw [hg]; exact (below_size hB_) : w.heap.size ≤ gb349)); have n5_ := Aside0.mk ((by rw [hg]; exact Nat.ne_of_lt (blk_lt (g := gb348) (o := .cells #[.int .i64 a0_0, .int .i64 a0_1, .int .i64 a0_2, .int .i64 a0_3] 40 (0, 0)) uq_) : gb348 ≠ gb349)); have n6_ := Aside0.mk ((by rw [hg]; exact Nat.ne_of_gt (blk_lt (g := gb348) (o := .cells #[.int .i64 a0_0, .int .i64 a0_1, .int .i64 a0_2, .int .i64 a0_3] 40 (0, 0)) uq_) : gb349 ≠ gb348)); clear BK348; clear HB; have BK348 := n0_; have HB := n1_; have BK349 := n2_; have GW349 := n3_; have GE349 := n4_; have NB348_349 := n5_; have NB349_348 := n6_; clear n0_ n1_ n2_ n3_ n4_ n5_ n6_; clear hb hbox hg) | ((with_reducible refine gate_dst (N := 4) rfl ?_); refine box_event ?hg (N := 4) ?hd (cs := #[.int .i64 0, .int .i64 0]) (t := 25) ?hr ?_; (case hd => rfl); (case hg => rfl); (case hr => first | (go_simp; done) | (go_simp; rfl)); intro gb350 hg w43 hbox hb; have n0_ := Aside0.mk (ub_ (g := gb348) hb); have n1_ := Aside0.mk (ub_ (g := gb349) hb); have n2_ := Aside0.mk (below_step hB_ hb); have n3_ := Aside0.mk (hbox); have n4_ := Aside0.mk ((by rw [hg]; exact (below_size hB_) : w.heap.size ≤ gb350)); have n5_ := Aside0.mk ((by rw [hg]; exact (below_size hB_) : w.heap.size ≤ gb350)); have n6_ := Aside0.mk ((by rw [hg]; exact Nat.ne_of_lt (blk_lt (g := gb348) (o := .cells #[.int .i64 a0_0, .int .i64 a0_1, .int .i64 a0_2, .int .i64 a0_3] 40 (0, 0)) uq_) : gb348 ≠ gb350)); have n7_ := Aside0.mk ((by rw [hg]; exact Nat.ne_of_gt (blk_lt (g := gb348) (o := .cells #[.int .i64 a0_0, .int .i64 a0_1, .int .i64 a0_2, .int .i64 a0_3] 40 (0, 0)) uq_) : gb350 ≠ gb348)); have n8_ := Aside0.mk ((by rw [hg]; exact Nat.ne_of_lt (blk_lt (g := gb349) (o := .cells #[.int .i64 a1_0, .int .i64 a1_1] 38 (0, 0)) uq_) : gb349 ≠ gb350)); have n9_ := Aside0.mk ((by rw [hg]; exact Nat.ne_of_gt (blk_lt (g := gb349) (o := .cells #[.int .i64 a1_0, .int .i64 a1_1] 38 (0, 0)) uq_) : gb350 ≠ gb349)); clear BK348; clear BK349; clear HB; have BK348 := n0_; have BK349 := n1_; have HB := n2_; have BK350 := n3_; have GW350 := n4_; have GE350 := n5_; have NB348_350 := n6_; have NB350_348 := n7_; have NB349_350 := n8_; have NB350_349 := n9_; clear n0_ n1_ n2_ n3_ n4_ n5_ n6_ n7_ n8_ n9_; clear hb hbox hg; have hnb44 := NB348_349.out; have hnc44 := NB349_348.out; have hnb45 := NB348_350.out; have hnc45 := NB350_348.out; have hcz46_0 : w43.cell? ⟨gb348, 0, none⟩ = some (.int .i64 a0_0) := bc_; have hcz46_1 : w43.cell? ⟨gb348, 1, none⟩ = some (.int .i64 a0_1) := bc_; have hcz46_2 : w43.cell? ⟨gb348, 2, none⟩ = some (.int .i64 a0_2) := bc_; have hcz46_3 : w43.cell? ⟨gb348, 3, none⟩ = some (.int .i64 a0_3) := bc_; have hfz46_0 := blk_frozen BK348.out 0; have hfz46_1 := blk_frozen BK348.out 1; have hfz46_2 := blk_frozen BK348.out 2; have hfz46_3 := blk_frozen BK348.out 3; have hnb47 := NB349_350.out; have hnc47 := NB350_349.out; have hcz48_0 : w43.cell? ⟨gb349, 0, none⟩ = some (.int .i64 a1_0) := bc_; have hcz48_1 : w43.cell? ⟨gb349, 1, none⟩ = some (.int .i64 a1_1) := bc_; have hfz48_0 := blk_frozen BK349.out 0; have hfz48_1 := blk_frozen BK349.out 1) | ((with_reducible refine gate_callee (f := 70) rfl ?_); refine goesL_ (some 13) rfl rfl Tryd.func70 (by kernel_rfl) rfl #[.agg #[.int .i64 a0_0, .int .i64 a0_1], .agg #[.int .i64 a0_2, .int .i64 a0_3], .agg #[.int .i64 a1_0, .int .i64 a1_1]] rfl ma_ ?_; (with_reducible refine (spec_l2Dot.calls a0_0 a0_1 a0_2 a0_3 a1_0 a1_1 t351 _ A3.out).mono ?_); rintro e w49 ⟨rfl, hb⟩; refine ⟨_, rfl, ?_⟩; have n0_ := Aside0.mk (ub_ (g := gb348) hb); have n1_ := Aside0.mk (ub_ (g := gb349) hb); have n2_ := Aside0.mk (ub_ (g := gb350) hb); have n3_ := Aside0.mk (below_step hB_ hb); clear BK348; clear BK349; clear BK350; clear HB; have BK348 := n0_; have BK349 := n1_; have BK350 := n2_; have HB := n3_; clear n0_ n1_ n2_ n3_; (try clear hb); (try clear hb2); (try clear hk); (try clear hi); have hcz50_0 : w49.cell? ⟨gb348, 0, none⟩ = some (.int .i64 a0_0) := bc_; have hcz50_1 : w49.cell? ⟨gb348, 1, none⟩ = some (.int .i64 a0_1) := bc_; have hcz50_2 : w49.cell? ⟨gb348, 2, none⟩ = some (.int .i64 a0_2) := bc_; have hcz50_3 : w49.cell? ⟨gb348, 3, none⟩ = some (.int .i64 a0_3) := bc_; have hfz50_0 := blk_frozen BK348.out 0; have hfz50_1 := blk_frozen BK348.out 1; have hfz50_2 := blk_frozen BK348.out 2; have hfz50_3 := blk_frozen BK348.out 3) | ((with_reducible refine gate_callee (f := 70) rfl ?_); refine goesL_ (some 20) rfl rfl Tryd.func70 (by kernel_rfl) rfl #[.agg #[.int .i64 a0_0, .int .i64 a0_1], .agg #[.int .i64 a0_2, .int .i64 a0_3], .agg #[.int .i64 a0_2, .int .i64 a0_3]] rfl ma_ ?_; (with_reducible refine (spec_l2Dot.calls a0_0 a0_1 a0_2 a0_3 a0_2 a0_3 t352 _ A4.out).mono ?_); rintro e w51 ⟨rfl, hb⟩; refine ⟨_, rfl, ?_⟩; have n0_ := Aside0.mk (ub_ (g := gb348) hb); have n1_ := Aside0.mk (ub_ (g := gb349) hb); have n2_ := Aside0.mk (ub_ (g := gb350) hb); have n3_ := Aside0.mk (below_step hB_ hb); clear BK348; clear BK349; clear BK350; clear HB; have BK348 := n0_; have BK349 := n1_; have BK350 := n2_; have HB := n3_; clear n0_ n1_ n2_ n3_; (try clear hb); (try clear hb2); (try clear hk); (try clear hi); have hcz52_0 : w51.cell? ⟨gb348, 0, none⟩ = some (.int .i64 a0_0) := bc_; have hcz52_1 : w51.cell? ⟨gb348, 1, none⟩ = some (.int .i64 a0_1) := bc_; have hcz52_2 : w51.cell? ⟨gb348, 2, none⟩ = some (.int .i64 a0_2) := bc_; have hcz52_3 : w51.cell? ⟨gb348, 3, none⟩ = some (.int .i64 a0_3) := bc_; have hfz52_0 := blk_frozen BK348.out 0; have hfz52_1 := blk_frozen BK348.out 1; have hfz52_2 := blk_frozen BK348.out 2; have hfz52_3 := blk_frozen BK348.out 3; have hcz53_0 : w51.cell? ⟨gb349, 0, none⟩ = some (.int .i64 a1_0) := bc_; have hcz53_1 : w51.cell? ⟨gb349, 1, none⟩ = some (.int .i64 a1_1) := bc_; have hfz53_0 := blk_frozen BK349.out 0; have hfz53_1 := blk_frozen BK349.out 1) | ((with_reducible refine gate_callee (f := 71) rfl ?_); refine goesL_ (some 45) rfl rfl Tryd.func71 (by kernel_rfl) rfl #[.agg #[.int .i64 a0_0, .int .i64 a0_1], .agg #[.int .i64 a0_2, .int .i64 a0_3], .agg #[.int .i64 a1_0, .int .i64 a1_1]] rfl ma_ ?_; (with_reducible refine (spec_l2Cross.calls a0_0 a0_1 a0_2 a0_3 a1_0 a1_1 t355 _ A39.out).mono ?_); rintro e w54 ⟨rfl, hb⟩; refine ⟨_, rfl, ?_⟩; have n0_ := Aside0.mk (ub_ (g := gb348) hb); have n1_ := Aside0.mk (ub_ (g := gb349) hb); have n2_ := Aside0.mk (ub_ (g := gb350) hb); have n3_ := Aside0.mk (below_step hB_ hb); clear BK348; clear BK349; clear BK350; clear HB; have BK348 := n0_; have BK349 := n1_; have BK350 := n2_; have HB := n3_; clear n0_ n1_ n2_ n3_; (try clear hb); (try clear hb2); (try clear hk); (try clear hi)) | ((with_reducible refine gate_callee (f := 69) rfl ?_); refine goesL_ (some 50) rfl rfl Tryd.func69 (by kernel_rfl) rfl #[.int .i64 (wrap64 (t355 * t355)), .int .i64 t352] rfl ma_ ?_; (with_reducible refine (spec_l1Of.calls k (wrap64 (t355 * t355)) t352 t356 t357 _ A40.out).mono ?_); rintro e w55 ⟨rfl, hb⟩; refine ⟨_, rfl, ?_⟩; have n0_ := Aside0.mk (ub_ (g := gb348) hb); have n1_ := Aside0.mk (ub_ (g := gb349) hb); have n2_ := Aside0.mk (ub_ (g := gb350) hb); have n3_ := Aside0.mk (below_step hB_ hb); clear BK348; clear BK349; clear BK350; clear HB; have BK348 := n0_; have BK349 := n1_; have BK350 := n2_; have HB := n3_; clear n0_ n1_ n2_ n3_; (try clear hb); (try clear hb2); (try clear hk); (try clear hi); have hcz56_0 : w55.cell? ⟨gb350, 0, none⟩ = some (.int .i64 0) := bc_; have hcz56_1 : w55.cell? ⟨gb350, 1, none⟩ = some (.int .i64 0) := bc_; have hfz56_0 := blk_frozen BK350.out 0; have hfz56_1 := blk_frozen BK350.out 1))
   refine bodyPost_ret (results_cell_row rfl _ _ gb350 25 #[.int .i64 t356, .int .i64 t357] (0, 0) _ rfl (by (with_reducible repeat (first | refine blk_drewN ?_ _ | refine blk_drew ?_ | refine blk_alloc ?_ _)); refine blk_put (cs := #[.int .i64 t356, .int .i64 0]) ?_ 1 _ rfl; (with_reducible repeat (first | refine blk_drewN ?_ _ | refine blk_drew ?_ | refine blk_alloc ?_ _)); refine blk_put (cs := #[.int .i64 0, .int .i64 0]) ?_ 0 _ rfl; (with_reducible repeat (first | refine blk_drewN ?_ _ | refine blk_drew ?_ | refine blk_alloc ?_ _)); exact BK350.out) Tryd.underlying25 rfl (by kernel_rfl)) rfl ?_
   exact ⟨by first | rfl | (simp [errW_none, errW_some] <;> rfl) | (simp [*, errW_none, errW_some] <;> rfl), hB_⟩
end Go.Proofs.YtnponnkcfgjeoaaDoor.X
end
section
namespace Go.Proofs.YtnponnkcfgjeoaaDoor.X
open Go.RowKit Go.Proofs.YtnponnkcfgjeoaaDoorW.PrintWords Go.Proofs.YtnponnkcfgjeoaaDoorW.PrintLast Go.Proofs.YtnponnkcfgjeoaaDoorW.PrintMore
attribute [local go_sem] max2_int min2_int max_two min_two max_three min_three max_four min_four
set_option linter.unusedVariables false
set_option linter.unusedSimpArgs false
def spec_l1Cmp.f (a0_0 : Int) (a0_1 : Int) (a1_0 : Int) (a1_1 : Int) : Option (Int) := if (wrap64 (a0_0 * a1_1)) < (wrap64 (a1_0 * a0_1)) then (some (-1)) else (if (wrap64 (a0_0 * a1_1)) > (wrap64 (a1_0 * a0_1)) then (some 1) else (some 0))
set_option maxHeartbeats 8000000 in
set_option maxRecDepth 100000 in
theorem spec_l1Cmp.calls (a0_0 : Int) (a0_1 : Int) (a1_0 : Int) (a1_1 : Int) (r : Int) (w : World) (h : spec_l1Cmp.f a0_0 a0_1 a1_0 a1_1 = some r) :
  Calls Tryd.prog 40 #[.agg #[.int .i64 a0_0, .int .i64 a0_1], .agg #[.int .i64 a1_0, .int .i64 a1_1]] w fun e w' => e = .returned (.int .i64 r) ∧ Below w.heap.size w w' := by
 have hu25 := Tryd.underlying25
 have HB := Aside0.mk (Below.refl w.heap.size w)
 have H : (if (wrap64 (a0_0 * a1_1)) < (wrap64 (a1_0 * a0_1)) then (some (-1)) else (if (wrap64 (a0_0 * a1_1)) > (wrap64 (a1_0 * a0_1)) then (some 1) else (some 0))) = some r := h
 clear h
 by_cases c3 : (wrap64 (a0_0 * a1_1)) < (wrap64 (a1_0 * a0_1))
 ·
  rw [if_pos c3] at H
  have c3b0 : decide ((wrap64 (a0_0 * a1_1)) < (wrap64 (a1_0 * a0_1))) = true := decide_eq_true c3
  clear c3
  obtain rfl := Option.some.inj H
  go_enter Tryd.func40, Tryd.ntmps40
  go_wp2_with (first | ((with_reducible refine gate_dst (N := 2) rfl ?_); refine box_event ?hg (N := 2) ?hd (cs := #[.int .i64 a0_0, .int .i64 a0_1]) (t := 25) ?hr ?_; (case hd => rfl); (case hg => rfl); (case hr => first | (go_simp; done) | (go_simp; rfl)); intro gb105 hg w4 hbox hb; have n0_ := Aside0.mk (below_step hB_ hb); have n1_ := Aside0.mk (hbox); have n2_ := Aside0.mk ((by rw [hg]; exact (below_size hB_) : w.heap.size ≤ gb105)); have n3_ := Aside0.mk ((by rw [hg]; exact (below_size hB_) : w.heap.size ≤ gb105)); clear HB; have HB := n0_; have BK105 := n1_; have GW105 := n2_; have GE105 := n3_; clear n0_ n1_ n2_ n3_; clear hb hbox hg) | ((with_reducible refine gate_dst (N := 3) rfl ?_); refine box_event ?hg (N := 3) ?hd (cs := #[.int .i64 a1_0, .int .i64 a1_1]) (t := 25) ?hr ?_; (case hd => rfl); (case hg => rfl); (case hr => first | (go_simp; done) | (go_simp; rfl)); intro gb106 hg w5 hbox hb; have n0_ := Aside0.mk (ub_ (g := gb105) hb); have n1_ := Aside0.mk (below_step hB_ hb); have n2_ := Aside0.mk (hbox); have n3_ := Aside0.mk ((by rw [hg]; exact (below_size hB_) : w.heap.size ≤ gb106)); have n4_ := Aside0.mk ((by rw [hg]; exact (below_size hB_) : w.heap.size ≤ gb106)); have n5_ := Aside0.mk ((by rw [hg]; exact Nat.ne_of_lt (blk_lt (g := gb105) (o := .cells #[.int .i64 a0_0, .int .i64 a0_1] 25 (0, 0)) uq_) : gb105 ≠ gb106)); have n6_ := Aside0.mk ((by rw [hg]; exact Nat.ne_of_gt (blk_lt (g := gb105) (o := .cells #[.int .i64 a0_0, .int .i64 a0_1] 25 (0, 0)) uq_) : gb106 ≠ gb105)); clear BK105; clear HB; have BK105 := n0_; have HB := n1_; have BK106 := n2_; have GW106 := n3_; have GE106 := n4_; have NB105_106 := n5_; have NB106_105 := n6_; clear n0_ n1_ n2_ n3_ n4_ n5_ n6_; clear hb hbox hg; have hnb6 := NB105_106.out; have hnc6 := NB106_105.out; have hcz7_0 : w5.cell? ⟨gb105, 0, none⟩ = some (.int .i64 a0_0) := bc_; have hcz7_1 : w5.cell? ⟨gb105, 1, none⟩ = some (.int .i64 a0_1) := bc_; have hfz7_0 := blk_frozen BK105.out 0; have hfz7_1 := blk_frozen BK105.out 1; have hcz8_0 : w5.cell? ⟨gb106, 0, none⟩ = some (.int .i64 a1_0) := bc_; have hcz8_1 : w5.cell? ⟨gb106, 1, none⟩ = some (.int .i64 a1_1) := bc_; have hfz8_0 := blk_frozen BK106.out 0; have hfz8_1 := blk_frozen BK106.out 1))
  go_ret
  exact ⟨by first | rfl | (simp [errW_none, errW_some] <;> rfl) | (simp [*, errW_none, errW_some] <;> rfl), hB_⟩
 ·
  rw [if_neg c3] at H
  have c3b0 : decide ((wrap64 (a0_0 * a1_1)) < (wrap64 (a1_0 * a0_1))) = false := decide_eq_false c3
  clear c3
  by_cases c9 : (wrap64 (a0_0 * a1_1)) > (wrap64 (a1_0 * a0_1))
  ·
   rw [if_pos c9] at H
   have c9b0 : decide ((wrap64 (a1_0 * a0_1)) < (wrap64 (a0_0 * a1_1))) = true := decide_eq_true c9
   clear c9
   obtain rfl := Option.some.inj H
   go_enter Tryd.func40, Tryd.ntmps40
   go_wp2_with (first | ((with_reducible refine gate_dst (N := 2) rfl ?_); refine box_event ?hg (N := 2) ?hd (cs := #[.int .i64 a0_0, .int .i64 a0_1]) (t := 25) ?hr ?_; (case hd => rfl); (case hg => rfl); (case hr => first | (go_simp; done) | (go_simp; rfl)); intro gb105 hg w10 hbox hb; have n0_ := Aside0.mk (below_step hB_ hb); have n1_ := Aside0.mk (hbox); have n2_ := Aside0.mk ((by rw [hg]; exact (below_size hB_) : w.heap.size ≤ gb105)); have n3_ := Aside0.mk ((by rw [hg]; exact (below_size hB_) : w.heap.size ≤ gb105)); clear HB; have HB := n0_; have BK105 := n1_; have GW105 := n2_; have GE105 := n3_; clear n0_ n1_ n2_ n3_; clear hb hbox hg) | ((with_reducible refine gate_dst (N := 3) rfl ?_); refine box_event ?hg (N := 3) ?hd (cs := #[.int .i64 a1_0, .int .i64 a1_1]) (t := 25) ?hr ?_; (case hd => rfl); (case hg => rfl); (case hr => first | (go_simp; done) | (go_simp; rfl)); intro gb106 hg w11 hbox hb; have n0_ := Aside0.mk (ub_ (g := gb105) hb); have n1_ := Aside0.mk (below_step hB_ hb); have n2_ := Aside0.mk (hbox); have n3_ := Aside0.mk ((by rw [hg]; exact (below_size hB_) : w.heap.size ≤ gb106)); have n4_ := Aside0.mk ((by rw [hg]; exact (below_size hB_) : w.heap.size ≤ gb106)); have n5_ := Aside0.mk ((by rw [hg]; exact Nat.ne_of_lt (blk_lt (g := gb105) (o := .cells #[.int .i64 a0_0, .int .i64 a0_1] 25 (0, 0)) uq_) : gb105 ≠ gb106)); have n6_ := Aside0.mk ((by rw [hg]; exact Nat.ne_of_gt (blk_lt (g := gb105) (o := .cells #[.int .i64 a0_0, .int .i64 a0_1] 25 (0, 0)) uq_) : gb106 ≠ gb105)); clear BK105; clear HB; have BK105 := n0_; have HB := n1_; have BK106 := n2_; have GW106 := n3_; have GE106 := n4_; have NB105_106 := n5_; have NB106_105 := n6_; clear n0_ n1_ n2_ n3_ n4_ n5_ n6_; clear hb hbox hg; have hnb12 := NB105_106.out; have hnc12 := NB106_105.out; have hcz13_0 : w11.cell? ⟨gb105, 0, none⟩ = some (.int .i64 a0_0) := bc_; have hcz13_1 : w11.cell? ⟨gb105, 1, none⟩ = some (.int .i64 a0_1) := bc_; have hfz13_0 := blk_frozen BK105.out 0; have hfz13_1 := blk_frozen BK105.out 1; have hcz14_0 : w11.cell? ⟨gb106, 0, none⟩ = some (.int .i64 a1_0) := bc_; have hcz14_1 : w11.cell? ⟨gb106, 1, none⟩ = some (.int .i64 a1_1) := bc_; have hfz14_0 := blk_frozen BK106.out 0; have hfz14_1 := blk_frozen BK106.out 1))
   go_ret
   exact ⟨by first | rfl | (simp [errW_none, errW_some] <;> rfl) | (simp [*, errW_none, errW_some] <;> rfl), hB_⟩
  ·
   rw [if_neg c9] at H
   have c9b0 : decide ((wrap64 (a1_0 * a0_1)) < (wrap64 (a0_0 * a1_1))) = false := decide_eq_false c9
   clear c9
   obtain rfl := Option.some.inj H
   go_enter Tryd.func40, Tryd.ntmps40
   go_wp2_with (first | ((with_reducible refine gate_dst (N := 2) rfl ?_); refine box_event ?hg (N := 2) ?hd (cs := #[.int .i64 a0_0, .int .i64 a0_1]) (t := 25) ?hr ?_; (case hd => rfl); (case hg => rfl); (case hr => first | (go_simp; done) | (go_simp; rfl)); intro gb105 hg w15 hbox hb; have n0_ := Aside0.mk (below_step hB_ hb); have n1_ := Aside0.mk (hbox); have n2_ := Aside0.mk ((by rw [hg]; exact (below_size hB_) : w.heap.size ≤ gb105)); have n3_ := Aside0.mk ((by rw [hg]; exact (below_size hB_) : w.heap.size ≤ gb105)); clear HB; have HB := n0_; have BK105 := n1_; have GW105 := n2_; have GE105 := n3_; clear n0_ n1_ n2_ n3_; clear hb hbox hg) | ((with_reducible refine gate_dst (N := 3) rfl ?_); refine box_event ?hg (N := 3) ?hd (cs := #[.int .i64 a1_0, .int .i64 a1_1]) (t := 25) ?hr ?_; (case hd => rfl); (case hg => rfl); (case hr => first | (go_simp; done) | (go_simp; rfl)); intro gb106 hg w16 hbox hb; have n0_ := Aside0.mk (ub_ (g := gb105) hb); have n1_ := Aside0.mk (below_step hB_ hb); have n2_ := Aside0.mk (hbox); have n3_ := Aside0.mk ((by rw [hg]; exact (below_size hB_) : w.heap.size ≤ gb106)); have n4_ := Aside0.mk ((by rw [hg]; exact (below_size hB_) : w.heap.size ≤ gb106)); have n5_ := Aside0.mk ((by rw [hg]; exact Nat.ne_of_lt (blk_lt (g := gb105) (o := .cells #[.int .i64 a0_0, .int .i64 a0_1] 25 (0, 0)) uq_) : gb105 ≠ gb106)); have n6_ := Aside0.mk ((by rw [hg]; exact Nat.ne_of_gt (blk_lt (g := gb105) (o := .cells #[.int .i64 a0_0, .int .i64 a0_1] 25 (0, 0)) uq_) : gb106 ≠ gb105)); clear BK105; clear HB; have BK105 := n0_; have HB := n1_; have BK106 := n2_; have GW106 := n3_; have GE106 := n4_; have NB105_106 := n5_; have NB106_105 := n6_; clear n0_ n1_ n2_ n3_ n4_ n5_ n6_; clear hb hbox hg; have hnb17 := NB105_106.out; have hnc17 := NB106_105.out; have hcz18_0 : w16.cell? ⟨gb105, 0, none⟩ = some (.int .i64 a0_0) := bc_; have hcz18_1 : w16.cell? ⟨gb105, 1, none⟩ = some (.int .i64 a0_1) := bc_; have hfz18_0 := blk_frozen BK105.out 0; have hfz18_1 := blk_frozen BK105.out 1; have hcz19_0 : w16.cell? ⟨gb106, 0, none⟩ = some (.int .i64 a1_0) := bc_; have hcz19_1 : w16.cell? ⟨gb106, 1, none⟩ = some (.int .i64 a1_1) := bc_; have hfz19_0 := blk_frozen BK106.out 0; have hfz19_1 := blk_frozen BK106.out 1))
   go_ret
   exact ⟨by first | rfl | (simp [errW_none, errW_some] <;> rfl) | (simp [*, errW_none, errW_some] <;> rfl), hB_⟩
end Go.Proofs.YtnponnkcfgjeoaaDoor.X
end
section
namespace Go.Proofs.YtnponnkcfgjeoaaDoor.X
open Go.RowKit Go.Proofs.YtnponnkcfgjeoaaDoorW.PrintWords Go.Proofs.YtnponnkcfgjeoaaDoorW.PrintLast Go.Proofs.YtnponnkcfgjeoaaDoorW.PrintMore
attribute [local go_sem] max2_int min2_int max_two min_two max_three min_three max_four min_four
set_option linter.unusedVariables false
set_option linter.unusedSimpArgs false
def spec_l2Least.f (a0_0 : Int) (a0_1 : Int) (a1_0 : Int) (a1_1 : Int) : Option (Int × Int) := (spec_l1Cmp.f a1_0 a1_1 a0_0 a0_1).bind fun t434 => (if t434 < 0 then (some (a1_0, a1_1)) else (some (a0_0, a0_1)))
set_option maxHeartbeats 8000000 in
set_option maxRecDepth 100000 in
theorem spec_l2Least.calls (a0_0 : Int) (a0_1 : Int) (a1_0 : Int) (a1_1 : Int) (r1 : Int) (r2 : Int) (w : World) (h : spec_l2Least.f a0_0 a0_1 a1_0 a1_1 = some (r1, r2)) :
  Calls Tryd.prog 73 #[.agg #[.int .i64 a0_0, .int .i64 a0_1], .agg #[.int .i64 a1_0, .int .i64 a1_1]] w fun e w' => e = .returned (.agg #[.int .i64 r1, .int .i64 r2]) ∧ Below w.heap.size w w' := by
 have hu25 := Tryd.underlying25
 have HB := Aside0.mk (Below.refl w.heap.size w)
 have H : ((spec_l1Cmp.f a1_0 a1_1 a0_0 a0_1).bind fun t434 => (if t434 < 0 then (some (a1_0, a1_1)) else (some (a0_0, a0_1)))) = some (r1, r2) := h
 clear h
 replace H := Option.bind_eq_some_iff.mp H
 obtain ⟨t434, A30, H⟩ := H
 replace H : (if t434 < 0 then (some (a1_0, a1_1)) else (some (a0_0, a0_1))) = some (r1, r2) := H
 have A3 := Aside0.mk A30
 clear A30
 by_cases c4 : t434 < 0
 ·
  rw [if_pos c4] at H
  have c4b0 : decide (t434 < 0) = true := decide_eq_true c4
  clear c4
  simp only [Option.some.injEq, Prod.mk.injEq] at H
  obtain ⟨rfl, rfl⟩ := H
  go_enter Tryd.func73, Tryd.ntmps73
  go_wp2_with (first | ((with_reducible refine gate_dst (N := 2) rfl ?_); refine box_event ?hg (N := 2) ?hd (cs := #[.int .i64 a0_0, .int .i64 a0_1]) (t := 25) ?hr ?_; (case hd => rfl); (case hg => rfl); (case hr => first | (go_simp; done) | (go_simp; rfl)); intro gb431 hg w5 hbox hb; have n0_ := Aside0.mk (below_step hB_ hb); have n1_ := Aside0.mk (hbox); have n2_ := Aside0.mk ((by rw [hg]; exact (below_size hB_) : w.heap.size ≤ gb431)); have n3_ := Aside0.mk ((by rw [hg]; exact (below_size hB_) : w.heap.size ≤ gb431)); clear HB; have HB := n0_; have BK431 := n1_; have GW431 := n2_; have GE431 := n3_; clear n0_ n1_ n2_ n3_; clear hb hbox hg) | ((with_reducible refine gate_dst (N := 3) rfl ?_); refine box_event ?hg (N := 3) ?hd (cs := #[.int .i64 a1_0, .int .i64 a1_1]) (t := 25) ?hr ?_; (case hd => rfl); (case hg => rfl); (case hr => first | (go_simp; done) | (go_simp; rfl)); intro gb432 hg w6 hbox hb; have n0_ := Aside0.mk (ub_ (g := gb431) hb); have n1_ := Aside0.mk (below_step hB_ hb); have n2_ := Aside0.mk (hbox); have n3_ := Aside0.mk ((by rw [hg]; exact (below_size hB_) : w.heap.size ≤ gb432)); have n4_ := Aside0.mk ((by rw [hg]; exact (below_size hB_) : w.heap.size ≤ gb432)); have n5_ := Aside0.mk ((by rw [hg]; exact Nat.ne_of_lt (blk_lt (g := gb431) (o := .cells #[.int .i64 a0_0, .int .i64 a0_1] 25 (0, 0)) uq_) : gb431 ≠ gb432)); have n6_ := Aside0.mk ((by rw [hg]; exact Nat.ne_of_gt (blk_lt (g := gb431) (o := .cells #[.int .i64 a0_0, .int .i64 a0_1] 25 (0, 0)) uq_) : gb432 ≠ gb431)); clear BK431; clear HB; have BK431 := n0_; have HB := n1_; have BK432 := n2_; have GW432 := n3_; have GE432 := n4_; have NB431_432 := n5_; have NB432_431 := n6_; clear n0_ n1_ n2_ n3_ n4_ n5_ n6_; clear hb hbox hg) | ((with_reducible refine gate_dst (N := 4) rfl ?_); refine box_event ?hg (N := 4) ?hd (cs := #[.int .i64 0, .int .i64 0]) (t := 25) ?hr ?_; (case hd => rfl); (case hg => rfl); (case hr => first | (go_simp; done) | (go_simp; rfl)); intro gb433 hg w7 hbox hb; have n0_ := Aside0.mk (ub_ (g := gb431) hb); have n1_ := Aside0.mk (ub_ (g := gb432) hb); have n2_ := Aside0.mk (below_step hB_ hb); have n3_ := Aside0.mk (hbox); have n4_ := Aside0.mk ((by rw [hg]; exact (below_size hB_) : w.heap.size ≤ gb433)); have n5_ := Aside0.mk ((by rw [hg]; exact (below_size hB_) : w.heap.size ≤ gb433)); have n6_ := Aside0.mk ((by rw [hg]; exact Nat.ne_of_lt (blk_lt (g := gb431) (o := .cells #[.int .i64 a0_0, .int .i64 a0_1] 25 (0, 0)) uq_) : gb431 ≠ gb433)); have n7_ := Aside0.mk ((by rw [hg]; exact Nat.ne_of_gt (blk_lt (g := gb431) (o := .cells #[.int .i64 a0_0, .int .i64 a0_1] 25 (0, 0)) uq_) : gb433 ≠ gb431)); have n8_ := Aside0.mk ((by rw [hg]; exact Nat.ne_of_lt (blk_lt (g := gb432) (o := .cells #[.int .i64 a1_0, .int .i64 a1_1] 25 (0, 0)) uq_) : gb432 ≠ gb433)); have n9_ := Aside0.mk ((by rw [hg]; exact Nat.ne_of_gt (blk_lt (g := gb432) (o := .cells #[.int .i64 a1_0, .int .i64 a1_1] 25 (0, 0)) uq_) : gb433 ≠ gb432)); clear BK431; clear BK432; clear HB; have BK431 := n0_; have BK432 := n1_; have HB := n2_; have BK433 := n3_; have GW433 := n4_; have GE433 := n5_; have NB431_433 := n6_; have NB433_431 := n7_; have NB432_433 := n8_; have NB433_432 := n9_; clear n0_ n1_ n2_ n3_ n4_ n5_ n6_ n7_ n8_ n9_; clear hb hbox hg; have hnb8 := NB432_431.out; have hnc8 := NB431_432.out; have hnb9 := NB432_433.out; have hnc9 := NB433_432.out; have hcz10_0 : w7.cell? ⟨gb432, 0, none⟩ = some (.int .i64 a1_0) := bc_; have hcz10_1 : w7.cell? ⟨gb432, 1, none⟩ = some (.int .i64 a1_1) := bc_; have hfz10_0 := blk_frozen BK432.out 0; have hfz10_1 := blk_frozen BK432.out 1; have hnb11 := NB431_433.out; have hnc11 := NB433_431.out; have hcz12_0 : w7.cell? ⟨gb431, 0, none⟩ = some (.int .i64 a0_0) := bc_; have hcz12_1 : w7.cell? ⟨gb431, 1, none⟩ = some (.int .i64 a0_1) := bc_; have hfz12_0 := blk_frozen BK431.out 0; have hfz12_1 := blk_frozen BK431.out 1) | ((with_reducible refine gate_callee (f := 40) rfl ?_); refine goesL_ (some 7) rfl rfl Tryd.func40 (by kernel_rfl) rfl #[.agg #[.int .i64 a1_0, .int .i64 a1_1], .agg #[.int .i64 a0_0, .int .i64 a0_1]] rfl ma_ ?_; (with_reducible refine (spec_l1Cmp.calls a1_0 a1_1 a0_0 a0_1 t434 _ A3.out).mono ?_); rintro e w13 ⟨rfl, hb⟩; refine ⟨_, rfl, ?_⟩; have n0_ := Aside0.mk (ub_ (g := gb431) hb); have n1_ := Aside0.mk (ub_ (g := gb432) hb); have n2_ := Aside0.mk (ub_ (g := gb433) hb); have n3_ := Aside0.mk (below_step hB_ hb); clear BK431; clear BK432; clear BK433; clear HB; have BK431 := n0_; have BK432 := n1_; have BK433 := n2_; have HB := n3_; clear n0_ n1_ n2_ n3_; (try clear hb); (try clear hb2); (try clear hk); (try clear hi); have hcz14_0 : w13.cell? ⟨gb432, 0, none⟩ = some (.int .i64 a1_0) := bc_; have hcz14_1 : w13.cell? ⟨gb432, 1, none⟩ = some (.int .i64 a1_1) := bc_; have hfz14_0 := blk_frozen BK432.out 0; have hfz14_1 := blk_frozen BK432.out 1; have hcz15_0 : w13.cell? ⟨gb433, 0, none⟩ = some (.int .i64 0) := bc_; have hcz15_1 : w13.cell? ⟨gb433, 1, none⟩ = some (.int .i64 0) := bc_; have hfz15_0 := blk_frozen BK433.out 0; have hfz15_1 := blk_frozen BK433.out 1))
  refine bodyPost_ret (results_cell_row rfl _ _ gb433 25 #[.int .i64 a1_0, .int .i64 a1_1] (0, 0) _ rfl (by (with_reducible repeat (first | refine blk_drewN ?_ _ | refine blk_drew ?_ | refine blk_alloc ?_ _)); refine blk_put (cs := #[.int .i64 a1_0, .int .i64 0]) ?_ 1 _ rfl; (with_reducible repeat (first | refine blk_drewN ?_ _ | refine blk_drew ?_ | refine blk_alloc ?_ _)); refine blk_put (cs := #[.int .i64 0, .int .i64 0]) ?_ 0 _ rfl; (with_reducible repeat (first | refine blk_drewN ?_ _ | refine blk_drew ?_ | refine blk_alloc ?_ _)); exact BK433.out) Tryd.underlying25 rfl (by kernel_rfl)) rfl ?_
  exact ⟨by first | rfl | (simp [errW_none, errW_some] <;> rfl) | (simp [*, errW_none, errW_some] <;> rfl), hB_⟩
 ·
  rw [if_neg c4] at H
  have c4b0 : decide (t434 < 0) = false := decide_eq_false c4
  clear c4
  simp only [Option.some.injEq, Prod.mk.injEq] at H
  obtain ⟨rfl, rfl⟩ := H
  go_enter Tryd.func73, Tryd.ntmps73
  go_wp2_with (first | ((with_reducible refine gate_dst (N := 2) rfl ?_); refine box_event ?hg (N := 2) ?hd (cs := #[.int .i64 a0_0, .int .i64 a0_1]) (t := 25) ?hr ?_; (case hd => rfl); (case hg => rfl); (case hr => first | (go_simp; done) | (go_simp; rfl)); intro gb431 hg w16 hbox hb; have n0_ := Aside0.mk (below_step hB_ hb); have n1_ := Aside0.mk (hbox); have n2_ := Aside0.mk ((by rw [hg]; exact (below_size hB_) : w.heap.size ≤ gb431)); have n3_ := Aside0.mk ((by rw [hg]; exact (below_size hB_) : w.heap.size ≤ gb431)); clear HB; have HB := n0_; have BK431 := n1_; have GW431 := n2_; have GE431 := n3_; clear n0_ n1_ n2_ n3_; clear hb hbox hg) | ((with_reducible refine gate_dst (N := 3) rfl ?_); refine box_event ?hg (N := 3) ?hd (cs := #[.int .i64 a1_0, .int .i64 a1_1]) (t := 25) ?hr ?_; (case hd => rfl); (case hg => rfl); (case hr => first | (go_simp; done) | (go_simp; rfl)); intro gb432 hg w17 hbox hb; have n0_ := Aside0.mk (ub_ (g := gb431) hb); have n1_ := Aside0.mk (below_step hB_ hb); have n2_ := Aside0.mk (hbox); have n3_ := Aside0.mk ((by rw [hg]; exact (below_size hB_) : w.heap.size ≤ gb432)); have n4_ := Aside0.mk ((by rw [hg]; exact (below_size hB_) : w.heap.size ≤ gb432)); have n5_ := Aside0.mk ((by rw [hg]; exact Nat.ne_of_lt (blk_lt (g := gb431) (o := .cells #[.int .i64 a0_0, .int .i64 a0_1] 25 (0, 0)) uq_) : gb431 ≠ gb432)); have n6_ := Aside0.mk ((by rw [hg]; exact Nat.ne_of_gt (blk_lt (g := gb431) (o := .cells #[.int .i64 a0_0, .int .i64 a0_1] 25 (0, 0)) uq_) : gb432 ≠ gb431)); clear BK431; clear HB; have BK431 := n0_; have HB := n1_; have BK432 := n2_; have GW432 := n3_; have GE432 := n4_; have NB431_432 := n5_; have NB432_431 := n6_; clear n0_ n1_ n2_ n3_ n4_ n5_ n6_; clear hb hbox hg) | ((with_reducible refine gate_dst (N := 4) rfl ?_); refine box_event ?hg (N := 4) ?hd (cs := #[.int .i64 0, .int .i64 0]) (t := 25) ?hr ?_; (case hd => rfl); (case hg => rfl); (case hr => first | (go_simp; done) | (go_simp; rfl)); intro gb433 hg w18 hbox hb; have n0_ := Aside0.mk (ub_ (g := gb431) hb); have n1_ := Aside0.mk (ub_ (g := gb432) hb); have n2_ := Aside0.mk (below_step hB_ hb); have n3_ := Aside0.mk (hbox); have n4_ := Aside0.mk ((by rw [hg]; exact (below_size hB_) : w.heap.size ≤ gb433)); have n5_ := Aside0.mk ((by rw [hg]; exact (below_size hB_) : w.heap.size ≤ gb433)); have n6_ := Aside0.mk ((by rw [hg]; exact Nat.ne_of_lt (blk_lt (g := gb431) (o := .cells #[.int .i64 a0_0, .int .i64 a0_1] 25 (0, 0)) uq_) : gb431 ≠ gb433)); have n7_ := Aside0.mk ((by rw [hg]; exact Nat.ne_of_gt (blk_lt (g := gb431) (o := .cells #[.int .i64 a0_0, .int .i64 a0_1] 25 (0, 0)) uq_) : gb433 ≠ gb431)); have n8_ := Aside0.mk ((by rw [hg]; exact Nat.ne_of_lt (blk_lt (g := gb432) (o := .cells #[.int .i64 a1_0, .int .i64 a1_1] 25 (0, 0)) uq_) : gb432 ≠ gb433)); have n9_ := Aside0.mk ((by rw [hg]; exact Nat.ne_of_gt (blk_lt (g := gb432) (o := .cells #[.int .i64 a1_0, .int .i64 a1_1] 25 (0, 0)) uq_) : gb433 ≠ gb432)); clear BK431; clear BK432; clear HB; have BK431 := n0_; have BK432 := n1_; have HB := n2_; have BK433 := n3_; have GW433 := n4_; have GE433 := n5_; have NB431_433 := n6_; have NB433_431 := n7_; have NB432_433 := n8_; have NB433_432 := n9_; clear n0_ n1_ n2_ n3_ n4_ n5_ n6_ n7_ n8_ n9_; clear hb hbox hg; have hnb19 := NB432_431.out; have hnc19 := NB431_432.out; have hnb20 := NB432_433.out; have hnc20 := NB433_432.out; have hcz21_0 : w18.cell? ⟨gb432, 0, none⟩ = some (.int .i64 a1_0) := bc_; have hcz21_1 : w18.cell? ⟨gb432, 1, none⟩ = some (.int .i64 a1_1) := bc_; have hfz21_0 := blk_frozen BK432.out 0; have hfz21_1 := blk_frozen BK432.out 1; have hnb22 := NB431_433.out; have hnc22 := NB433_431.out; have hcz23_0 : w18.cell? ⟨gb431, 0, none⟩ = some (.int .i64 a0_0) := bc_; have hcz23_1 : w18.cell? ⟨gb431, 1, none⟩ = some (.int .i64 a0_1) := bc_; have hfz23_0 := blk_frozen BK431.out 0; have hfz23_1 := blk_frozen BK431.out 1) | ((with_reducible refine gate_callee (f := 40) rfl ?_); refine goesL_ (some 7) rfl rfl Tryd.func40 (by kernel_rfl) rfl #[.agg #[.int .i64 a1_0, .int .i64 a1_1], .agg #[.int .i64 a0_0, .int .i64 a0_1]] rfl ma_ ?_; (with_reducible refine (spec_l1Cmp.calls a1_0 a1_1 a0_0 a0_1 t434 _ A3.out).mono ?_); rintro e w24 ⟨rfl, hb⟩; refine ⟨_, rfl, ?_⟩; have n0_ := Aside0.mk (ub_ (g := gb431) hb); have n1_ := Aside0.mk (ub_ (g := gb432) hb); have n2_ := Aside0.mk (ub_ (g := gb433) hb); have n3_ := Aside0.mk (below_step hB_ hb); clear BK431; clear BK432; clear BK433; clear HB; have BK431 := n0_; have BK432 := n1_; have BK433 := n2_; have HB := n3_; clear n0_ n1_ n2_ n3_; (try clear hb); (try clear hb2); (try clear hk); (try clear hi); have hcz25_0 : w24.cell? ⟨gb431, 0, none⟩ = some (.int .i64 a0_0) := bc_; have hcz25_1 : w24.cell? ⟨gb431, 1, none⟩ = some (.int .i64 a0_1) := bc_; have hfz25_0 := blk_frozen BK431.out 0; have hfz25_1 := blk_frozen BK431.out 1; have hcz26_0 : w24.cell? ⟨gb433, 0, none⟩ = some (.int .i64 0) := bc_; have hcz26_1 : w24.cell? ⟨gb433, 1, none⟩ = some (.int .i64 0) := bc_; have hfz26_0 := blk_frozen BK433.out 0; have hfz26_1 := blk_frozen BK433.out 1))
  refine bodyPost_ret (results_cell_row rfl _ _ gb433 25 #[.int .i64 a0_0, .int .i64 a0_1] (0, 0) _ rfl (by (with_reducible repeat (first | refine blk_drewN ?_ _ | refine blk_drew ?_ | refine blk_alloc ?_ _)); refine blk_put (cs := #[.int .i64 a0_0, .int .i64 0]) ?_ 1 _ rfl; (with_reducible repeat (first | refine blk_drewN ?_ _ | refine blk_drew ?_ | refine blk_alloc ?_ _)); refine blk_put (cs := #[.int .i64 0, .int .i64 0]) ?_ 0 _ rfl; (with_reducible repeat (first | refine blk_drewN ?_ _ | refine blk_drew ?_ | refine blk_alloc ?_ _)); exact BK433.out) Tryd.underlying25 rfl (by kernel_rfl)) rfl ?_
  exact ⟨by first | rfl | (simp [errW_none, errW_some] <;> rfl) | (simp [*, errW_none, errW_some] <;> rfl), hB_⟩
end Go.Proofs.YtnponnkcfgjeoaaDoor.X
end
section
set_option linter.unusedVariables false
set_option linter.unusedSimpArgs false
namespace Mort
abbrev Pt := Int × Int
abbrev Seg := Pt × Pt
def ptOk (p : Pt) : Bool := decide (0 ≤ p.1 ∧ p.1 ≤ 9 ∧ 0 ≤ p.2 ∧ p.2 ≤ 9)
def segOk (s : Seg) : Bool := ptOk s.1 && (ptOk s.2 && !(s.1.1 == s.2.1 && s.1.2 == s.2.2))
def cross (a b c : Pt) : Int := (b.1 - a.1) * (c.2 - a.2) - (b.2 - a.2) * (c.1 - a.1)
def dot (a b c : Pt) : Int := (b.1 - a.1) * (c.1 - a.1) + (b.2 - a.2) * (c.2 - a.2)
def sgn (n : Int) : Int := if n < 0 then -1 else if n > 0 then 1 else 0
/-- On the segment, ends too. -/
def has (s : Seg) (p : Pt) : Bool := cross s.1 s.2 p == 0 && (decide (0 ≤ dot s.1 s.2 p) && decide (dot s.1 s.2 p ≤ dot s.1 s.2 s.2))
def meet (s t : Seg) : Bool :=
  (decide (sgn (cross s.1 s.2 t.1) * sgn (cross s.1 s.2 t.2) < 0) && decide (sgn (cross t.1 t.2 s.1) * sgn (cross t.1 t.2 s.2) < 0)) ||
  (has s t.1 || (has s t.2 || (has t s.1 || has t s.2)))
def segTurn (a b c : Pt) : Int := if ptOk a && (ptOk b && ptOk c) then sgn (cross a b c) else 0
def segHas (s : Seg) (p : Pt) : Bool := segOk s && (ptOk p && has s p)
def segMeet (s t : Seg) : Bool := segOk s && (segOk t && meet s t)
theorem sq_nn (x : Rat) : 0 ≤ x * x := by
  rcases @Rat.le_total 0 x with h | h
  · exact Rat.mul_nonneg h h
  · have : 0 ≤ (-x) * (-x) := Rat.mul_nonneg (by grind) (by grind)
    grind
/-- how far p is from the segment a b, squared: what stands above and below -/
def far (s : Seg) (p : Pt) : Int × Int :=
  if dot s.1 s.2 p ≤ 0 then (dot s.1 p p, 1) else if dot s.1 s.2 s.2 ≤ dot s.1 s.2 p then (dot s.2 p p, 1)
  else (cross s.1 s.2 p * cross s.1 s.2 p, dot s.1 s.2 s.2)
def val (f : Int × Int) : Rat := (f.1 : Rat) / (f.2 : Rat)
/-- the square of the way from (px, py) to the point at t between a and b -/
def dsq (a b : Pt) (t px py : Rat) : Rat :=
  (px - (a.1 + t * (b.1 - a.1))) * (px - (a.1 + t * (b.1 - a.1))) + (py - (a.2 + t * (b.2 - a.2))) * (py - (a.2 + t * (b.2 - a.2)))
theorem cast_dot (a b c : Pt) : ((dot a b c : Int) : Rat) = ((b.1 : Rat) - a.1) * (c.1 - a.1) + (b.2 - a.2) * (c.2 - a.2) := by
  unfold dot; push_cast; rfl
theorem cast_cross (a b c : Pt) : ((cross a b c : Int) : Rat) = ((b.1 : Rat) - a.1) * (c.2 - a.2) - (b.2 - a.2) * (c.1 - a.1) := by
  unfold cross; push_cast; rfl
theorem cast_le {a b : Int} : (a : Rat) ≤ (b : Rat) ↔ a ≤ b := Rat.intCast_le_intCast
theorem cast_inj {a b : Int} : (a : Rat) = (b : Rat) ↔ a = b := Rat.intCast_inj
theorem dot_self_nn (a b : Pt) : 0 ≤ dot a b b := by
  unfold dot
  have h1 : 0 ≤ (b.1 - a.1) * (b.1 - a.1) := by
    rcases Int.le_total 0 (b.1 - a.1) with h | h
    · exact Int.mul_nonneg h h
    · exact Int.mul_nonneg_of_nonpos_of_nonpos h h
  have h2 : 0 ≤ (b.2 - a.2) * (b.2 - a.2) := by
    rcases Int.le_total 0 (b.2 - a.2) with h | h
    · exact Int.mul_nonneg h h
    · exact Int.mul_nonneg_of_nonpos_of_nonpos h h
  omega
theorem isq_nn (x : Int) : 0 ≤ x * x := by
  rcases Int.le_total 0 x with h | h
  · exact Int.mul_nonneg h h
  · exact Int.mul_nonneg_of_nonpos_of_nonpos h h
theorem isq_pos {x : Int} (h : x ≠ 0) : 0 < x * x := by
  rcases Int.lt_or_gt_of_ne h with h | h
  · exact Int.mul_pos_of_neg_of_neg h h
  · exact Int.mul_pos h h
theorem dot_self_pos {a b : Pt} (h : ¬ (a.1 = b.1 ∧ a.2 = b.2)) : 0 < dot a b b := by
  unfold dot
  have h1 := isq_nn (b.1 - a.1)
  have h2 := isq_nn (b.2 - a.2)
  by_cases e : a.1 = b.1
  · have := isq_pos (x := b.2 - a.2) (by intro h3; exact h ⟨e, by omega⟩)
    omega
  · have := isq_pos (x := b.1 - a.1) (by intro h3; exact e (by omega))
    omega
theorem rat_le_of_mul {x y d : Rat} (hd : 0 < d) (h : x * d ≤ y * d) : x ≤ y := Rat.le_of_mul_le_mul_right h hd
theorem div_mul_self {x d : Rat} (hd : 0 < d) : x / d * d = x := by
  have : d ≠ 0 := by grind
  exact Rat.div_mul_cancel this
theorem div_one' (x : Rat) : x / 1 = x := by
  have := div_mul_self (x := x) (d := 1) (by decide)
  grind
theorem dsq_eq (a b : Pt) (t : Rat) (p : Pt) :
    dsq a b t p.1 p.2 = (dot a p p : Int) - 2 * (t * (dot a b p : Int)) + t * t * (dot a b b : Int) := by
  rw [cast_dot, cast_dot, cast_dot]; unfold dsq; grind
theorem dot_eq2 (a b p : Pt) : ((dot b p p : Int) : Rat) = (dot a p p : Int) - 2 * (dot a b p : Int) + (dot a b b : Int) := by
  rw [cast_dot, cast_dot, cast_dot, cast_dot]; grind
theorem cross_eq2 (a b p : Pt) : ((cross a b p : Int) : Rat) * (cross a b p : Int) = (dot a p p : Int) * (dot a b b : Int) - (dot a b p : Int) * (dot a b p : Int) := by
  rw [cast_dot, cast_dot, cast_dot, cast_cross]; grind
theorem lin1 {A t e d : Rat} (h : e ≤ 0) (ht : 0 ≤ t) (hd : 0 ≤ d) : A ≤ A - 2 * (t * e) + t * t * d := by
  have h1 : 0 ≤ t * (-e) := Rat.mul_nonneg ht (by grind)
  have h2 : 0 ≤ t * t * d := Rat.mul_nonneg (Rat.mul_nonneg ht ht) hd
  grind
theorem lin2 {A t e d : Rat} (h : d ≤ e) (ht : t ≤ 1) (hd : 0 ≤ d) : A - 2 * e + d ≤ A - 2 * (t * e) + t * t * d := by
  have h1 : 0 ≤ (1 - t) * (e - d) := Rat.mul_nonneg (by grind) (by grind)
  have h2 : 0 ≤ (1 - t) * (1 - t) * d := Rat.mul_nonneg (Rat.mul_nonneg (by grind) (by grind)) hd
  grind
theorem lin3 {A t e d : Rat} : A * d - e * e ≤ (A - 2 * (t * e) + t * t * d) * d := by
  have h1 := sq_nn (e - t * d)
  grind
/-- no point of the segment is nearer than 'far' says -/
theorem far_le (s : Seg) (p : Pt) (hs : 0 < dot s.1 s.2 s.2) (t : Rat) (h0 : 0 ≤ t) (h1 : t ≤ 1) : val (far s p) ≤ dsq s.1 s.2 t p.1 p.2 := by
  have hdR : (0 : Rat) < (dot s.1 s.2 s.2 : Int) := by exact_mod_cast hs
  have hdR' : (0 : Rat) ≤ (dot s.1 s.2 s.2 : Int) := by grind
  rw [dsq_eq]
  unfold far val
  split
  · rename_i h
    have hR : ((dot s.1 s.2 p : Int) : Rat) ≤ 0 := by exact_mod_cast h
    simp only [Rat.intCast_one, div_one']
    exact lin1 hR h0 hdR'
  · split
    · rename_i h
      have hR : ((dot s.1 s.2 s.2 : Int) : Rat) ≤ ((dot s.1 s.2 p : Int) : Rat) := by exact_mod_cast h
      simp only [Rat.intCast_one, div_one']
      rw [dot_eq2 s.1 s.2 p]
      exact lin2 hR h1 hdR'
    · apply rat_le_of_mul hdR
      simp only
      rw [div_mul_self hdR]
      push_cast
      rw [cross_eq2]
      exact lin3
/-- one is as near as 'far' says -/
theorem far_at (s : Seg) (p : Pt) (hs : 0 < dot s.1 s.2 s.2) : ∃ t : Rat, 0 ≤ t ∧ t ≤ 1 ∧ val (far s p) = dsq s.1 s.2 t p.1 p.2 := by
  have hdR : (0 : Rat) < (dot s.1 s.2 s.2 : Int) := by exact_mod_cast hs
  unfold far val
  split
  · refine ⟨0, by decide, by decide, ?_⟩
    simp only [Rat.intCast_one, div_one']
    rw [dsq_eq]; grind
  · split
    · refine ⟨1, by decide, by decide, ?_⟩
      simp only [Rat.intCast_one, div_one']
      rw [dsq_eq, dot_eq2 s.1 s.2 p]; grind
    · rename_i h h'
      have e0 : (0 : Rat) < ((dot s.1 s.2 p : Int) : Rat) := by exact_mod_cast (by omega : 0 < dot s.1 s.2 p)
      have e1 : ((dot s.1 s.2 p : Int) : Rat) < ((dot s.1 s.2 s.2 : Int) : Rat) := by exact_mod_cast (by omega : dot s.1 s.2 p < dot s.1 s.2 s.2)
      have et := div_mul_self (x := ((dot s.1 s.2 p : Int) : Rat)) hdR
      refine ⟨((dot s.1 s.2 p : Int) : Rat) / ((dot s.1 s.2 s.2 : Int) : Rat), ?_, ?_, ?_⟩
      · apply rat_le_of_mul hdR; rw [et]; grind
      · apply rat_le_of_mul hdR; rw [et]; grind
      · have e2 := div_mul_self (x := ((cross s.1 s.2 p : Int) : Rat) * ((cross s.1 s.2 p : Int) : Rat)) hdR
        simp only
        push_cast
        rw [dsq_eq]
        rw [cross_eq2] at e2 ⊢
        generalize ((dot s.1 s.2 p : Int) : Rat) / ((dot s.1 s.2 s.2 : Int) : Rat) = t at et ⊢
        generalize ((dot s.1 s.2 s.2 : Int) : Rat) = d at *
        generalize ((dot s.1 s.2 p : Int) : Rat) = e at *
        generalize ((dot s.1 p p : Int) : Rat) = A at *
        generalize (A * d - e * e) / d = y at *
        have : (y - (A - 2 * (t * e) + t * t * d)) * d = 0 := by
          have : t * t * d * d = e * e := by rw [← et]; grind
          grind
        grind
theorem eq_of_mul {x y d : Rat} (hd : 0 < d) (h : (x - y) * d = 0) : x = y := by
  have : d ≠ 0 := by grind
  rcases Rat.mul_eq_zero.1 h with h | h
  · grind
  · exact absurd h this
def px (a b : Pt) (t : Rat) : Rat := a.1 + t * (b.1 - a.1)
def py (a b : Pt) (t : Rat) : Rat := a.2 + t * (b.2 - a.2)
theorem cross_at (a b c d : Pt) (v : Rat) : (((b.1 : Rat) - a.1) * (py c d v - a.2) - (b.2 - a.2) * (px c d v - a.1)) = (1 - v) * (cross a b c : Int) + v * (cross a b d : Int) := by
  rw [cast_cross, cast_cross]; unfold px py; grind
theorem dot_at (a b c d : Pt) (v : Rat) : (((b.1 : Rat) - a.1) * (px c d v - a.1) + (b.2 - a.2) * (py c d v - a.2)) = (1 - v) * (dot a b c : Int) + v * (dot a b d : Int) := by
  rw [cast_dot, cast_dot]; unfold px py; grind
theorem cross_self (a b : Pt) : cross a b a = 0 ∧ cross a b b = 0 := by unfold cross; constructor <;> grind
theorem dot_zero (a b : Pt) : dot a b a = 0 := by unfold dot; grind
theorem has_iff (s : Seg) (p : Pt) : has s p = true ↔ cross s.1 s.2 p = 0 ∧ 0 ≤ dot s.1 s.2 p ∧ dot s.1 s.2 p ≤ dot s.1 s.2 s.2 := by
  unfold has; simp
/-- what stands at a place between both ends is on the segment -/
theorem has_of_at (a b p : Pt) (u : Rat) (h0 : 0 ≤ u) (h1 : u ≤ 1) (hx : (p.1 : Rat) = px a b u) (hy : (p.2 : Rat) = py a b u) : has (a, b) p = true := by
  rw [has_iff]
  have hc := cross_at a b a b u
  have hd := dot_at a b a b u
  rw [← hx, ← hy, ← cast_cross, (cross_self a b).1, (cross_self a b).2] at hc
  rw [← hx, ← hy, ← cast_dot, dot_zero] at hd
  have hdd : (0 : Rat) ≤ (dot a b b : Int) := by exact_mod_cast dot_self_nn a b
  have h2 : 0 ≤ u * (dot a b b : Int) := Rat.mul_nonneg h0 hdd
  have h3 : 0 ≤ (1 - u) * ((dot a b b : Int) : Rat) := Rat.mul_nonneg (by grind) hdd
  refine ⟨?_, ?_, ?_⟩
  · have : ((cross a b p : Int) : Rat) = ((0 : Int) : Rat) := by rw [hc]; grind
    exact cast_inj.1 this
  · have : ((0 : Int) : Rat) ≤ ((dot a b p : Int) : Rat) := by rw [hd]; grind
    exact cast_le.1 this
  · have : ((dot a b p : Int) : Rat) ≤ ((dot a b b : Int) : Rat) := by rw [hd]; grind
    exact cast_le.1 this
/-- what is on a segment stands at a place between both ends -/
theorem at_of_has (s : Seg) (p : Pt) (hs : 0 < dot s.1 s.2 s.2) (h : has s p = true) :
    ∃ u : Rat, 0 ≤ u ∧ u ≤ 1 ∧ (p.1 : Rat) = px s.1 s.2 u ∧ (p.2 : Rat) = py s.1 s.2 u := by
  rw [has_iff] at h
  obtain ⟨hc, h0, h1⟩ := h
  have hdR : (0 : Rat) < (dot s.1 s.2 s.2 : Int) := by exact_mod_cast hs
  have e0 : (0 : Rat) ≤ ((dot s.1 s.2 p : Int) : Rat) := by exact_mod_cast h0
  have e1 : ((dot s.1 s.2 p : Int) : Rat) ≤ ((dot s.1 s.2 s.2 : Int) : Rat) := by exact_mod_cast h1
  have et := div_mul_self (x := ((dot s.1 s.2 p : Int) : Rat)) hdR
  have hcR : ((cross s.1 s.2 p : Int) : Rat) = 0 := by rw [hc]; rfl
  refine ⟨((dot s.1 s.2 p : Int) : Rat) / ((dot s.1 s.2 s.2 : Int) : Rat), ?_, ?_, ?_, ?_⟩
  · apply rat_le_of_mul hdR; rw [et]; grind
  · apply rat_le_of_mul hdR; rw [et]; grind
  · generalize ((dot s.1 s.2 p : Int) : Rat) / ((dot s.1 s.2 s.2 : Int) : Rat) = t at et ⊢
    rw [cast_cross] at hcR
    rw [cast_dot, cast_dot] at et
    rw [cast_dot] at hdR
    exact eq_of_mul hdR (by unfold px; grind)
  · generalize ((dot s.1 s.2 p : Int) : Rat) / ((dot s.1 s.2 s.2 : Int) : Rat) = t at et ⊢
    rw [cast_cross] at hcR
    rw [cast_dot, cast_dot] at et
    rw [cast_dot] at hdR
    exact eq_of_mul hdR (by unfold py; grind)
theorem meet_iff (s t : Seg) : meet s t = true ↔ (sgn (cross s.1 s.2 t.1) * sgn (cross s.1 s.2 t.2) < 0 ∧ sgn (cross t.1 t.2 s.1) * sgn (cross t.1 t.2 s.2) < 0) ∨
    has s t.1 = true ∨ has s t.2 = true ∨ has t s.1 = true ∨ has t s.2 = true := by
  unfold meet; simp
def nearEnds (s t : Seg) (x : Rat) : Prop := val (far s t.1) ≤ x ∨ val (far s t.2) ≤ x ∨ val (far t s.1) ≤ x ∨ val (far t s.2) ≤ x
theorem nearEnds.mono {s t : Seg} {x y : Rat} (h : nearEnds s t x) (k : x ≤ y) : nearEnds s t y := by
  rcases h with h | h | h | h
  · exact .inl (Rat.le_trans h k)
  · exact .inr (.inl (Rat.le_trans h k))
  · exact .inr (.inr (.inl (Rat.le_trans h k)))
  · exact .inr (.inr (.inr (Rat.le_trans h k)))
def rc (ax ay bx cy x y : Rat) : Rat := (bx - ax) * (y - ay) - (cy - ay) * (x - ax)
/-- an edge crosses the ray to the right of a place -/
def crsQ (ax ay bx cy x y : Rat) : Bool :=
  (decide (ay ≤ y) && (decide (y < cy) && decide (0 < rc ax ay bx cy x y))) || (decide (cy ≤ y) && (decide (y < ay) && decide (rc ax ay bx cy x y < 0)))
def xorAll : List Bool → Bool
  | [] => false
  | b :: l => b ^^ xorAll l
theorem xorAll_append (l m : List Bool) : xorAll (l ++ m) = (xorAll l ^^ xorAll m) := by
  induction l with
  | nil => simp [xorAll]
  | cons b l ih => simp [xorAll, ih]
theorem xorAll_map {α : Type} (l : List α) (f g : α → Bool) : xorAll (l.map fun x => f x ^^ g x) = (xorAll (l.map f) ^^ xorAll (l.map g)) := by
  induction l with
  | nil => rfl
  | cons x l ih =>
    simp only [List.map_cons, xorAll, ih]
    cases f x <;> cases g x <;> cases xorAll (l.map f) <;> cases xorAll (l.map g) <;> rfl
def turned (l : List Pt) : List Pt := l.drop 1 ++ l.take 1
def edges (l : List Pt) : List Seg := l.zip (turned l)
theorem turned_length (l : List Pt) : (turned l).length = l.length := by
  unfold turned; simp; omega
theorem edges_fst (l : List Pt) : (edges l).map Prod.fst = l := by
  unfold edges; exact List.map_fst_zip (by rw [turned_length]; exact Nat.le_refl _)
theorem edges_snd (l : List Pt) : (edges l).map Prod.snd = turned l := by
  unfold edges; exact List.map_snd_zip (by rw [turned_length]; exact Nat.le_refl _)
/-- a closed way comes back to where it was -/
theorem closed (l : List Pt) (g : Pt → Bool) : xorAll ((edges l).map fun e => g e.1 ^^ g e.2) = false := by
  rw [xorAll_map (edges l) (fun e => g e.1) (fun e => g e.2)]
  have h1 : (edges l).map (fun e => g e.1) = l.map g := by
    rw [show (fun e : Seg => g e.1) = g ∘ Prod.fst from rfl, ← List.map_map, edges_fst]
  have h2 : (edges l).map (fun e => g e.2) = (turned l).map g := by
    rw [show (fun e : Seg => g e.2) = g ∘ Prod.snd from rfl, ← List.map_map, edges_snd]
  rw [h1, h2]
  unfold turned
  rw [List.map_append, xorAll_append, Bool.xor_comm (xorAll ((l.drop 1).map g)), ← xorAll_append, ← List.map_append, List.take_append_drop]
  cases xorAll (l.map g) <;> rfl
/-- on which side of a loop: by how many edges cross the ray to the right -/
def par (l : List Pt) (x y : Rat) : Bool := xorAll ((edges l).map fun e => crsQ e.1.1 e.1.2 e.2.1 e.2.2 x y)
def mir (p : Pt) : Pt := (9 - p.1, p.2)
def swp (p : Pt) : Pt := (p.2, p.1)
def nd (s : Seg) : Prop := 0 < dot s.1 s.2 s.2
theorem segOk_iff (s : Seg) : segOk s = true ↔ ptOk s.1 = true ∧ ptOk s.2 = true ∧ ¬ (s.1.1 = s.2.1 ∧ s.1.2 = s.2.2) := by
  unfold segOk
  by_cases a : s.1.1 = s.2.1 <;> by_cases b : s.1.2 = s.2.2 <;> simp [a, b]
theorem ptOk_iff (p : Pt) : ptOk p = true ↔ 0 ≤ p.1 ∧ p.1 ≤ 9 ∧ 0 ≤ p.2 ∧ p.2 ≤ 9 := by unfold ptOk; simp
theorem nd_of_ok {s : Seg} (h : segOk s = true) : nd s := dot_self_pos ((segOk_iff s).1 h).2.2
def onB (l : List Pt) (p : Pt) : Bool := (edges l).any fun e => has e p
def inOf (l : List Pt) (p : Pt) : Int := if onB l p then 0 else if par l p.1 p.2 then 1 else -1
/-- no edges of two loops meet -/
def apartB (a b : List Pt) : Bool := (edges a).all fun e => (edges b).all fun f => !meet e f
/-- a map of points that keeps how far they are and on which side they are, but for one sign -/
structure Motion (f : Pt → Pt) (s : Int) : Prop where
  sq : s * s = 1
  dot : ∀ a b c, dot (f a) (f b) (f c) = Mort.dot a b c
  cross : ∀ a b c, cross (f a) (f b) (f c) = s * Mort.cross a b c
theorem motion_mir : Motion mir (-1) where
  sq := by decide
  dot := by intro a b c; unfold dot mir; grind
  cross := by intro a b c; unfold cross mir; grind
theorem motion_swp : Motion swp (-1) where
  sq := by decide
  dot := by intro a b c; unfold dot swp; grind
  cross := by intro a b c; unfold cross swp; grind
def segMap (f : Pt → Pt) (s : Seg) : Seg := (f s.1, f s.2)
theorem Motion.sign {f : Pt → Pt} {s : Int} (h : Motion f s) : s = 1 ∨ s = -1 := by
  have := h.sq
  have : (s - 1) * (s + 1) = 0 := by grind
  rcases Int.mul_eq_zero.1 this with k | k
  · left; omega
  · right; omega
theorem Motion.has {f : Pt → Pt} {s : Int} (h : Motion f s) (e : Seg) (p : Pt) : has (segMap f e) (f p) = has e p := by
  unfold Mort.has segMap
  simp only [h.dot, h.cross]
  rcases h.sign with rfl | rfl
  · simp
  · have : (-1 * Mort.cross e.1 e.2 p == 0) = (Mort.cross e.1 e.2 p == 0) := by
      rw [Bool.eq_iff_iff]; simp
    rw [this]
theorem sgn_neg (n : Int) : sgn (-n) = - sgn n := by unfold sgn; split <;> split <;> (try split) <;> (try split) <;> omega
theorem Motion.meet {f : Pt → Pt} {s : Int} (h : Motion f s) (e t : Seg) : meet (segMap f e) (segMap f t) = meet e t := by
  have k : ∀ e t : Seg, (decide (sgn (Mort.cross (f e.1) (f e.2) (f t.1)) * sgn (Mort.cross (f e.1) (f e.2) (f t.2)) < 0)) = decide (sgn (Mort.cross e.1 e.2 t.1) * sgn (Mort.cross e.1 e.2 t.2) < 0) := by
    intro e t
    rw [h.cross, h.cross]
    rcases h.sign with rfl | rfl
    · simp
    · have : ∀ n : Int, -1 * n = -n := by intro n; omega
      rw [this, this, sgn_neg, sgn_neg, Int.neg_mul_neg]
  unfold Mort.meet
  rw [show (segMap f t).1 = f t.1 from rfl, show (segMap f t).2 = f t.2 from rfl, show (segMap f e).1 = f e.1 from rfl, show (segMap f e).2 = f e.2 from rfl]
  rw [h.has, h.has, h.has, h.has, k e t, k t e]
theorem Motion.far {f : Pt → Pt} {s : Int} (h : Motion f s) (e : Seg) (p : Pt) : far (segMap f e) (f p) = far e p := by
  unfold Mort.far segMap
  simp only [h.dot, h.cross]
  have : s * Mort.cross e.1 e.2 p * (s * Mort.cross e.1 e.2 p) = Mort.cross e.1 e.2 p * Mort.cross e.1 e.2 p := by
    have := h.sq
    have k : s * Mort.cross e.1 e.2 p * (s * Mort.cross e.1 e.2 p) = (s * s) * (Mort.cross e.1 e.2 p * Mort.cross e.1 e.2 p) := by grind
    rw [k, this, Int.one_mul]
  rw [this]
theorem Motion.inj {f : Pt → Pt} {s : Int} (h : Motion f s) {a b : Pt} (hf : nd (a, b)) : ¬ ((f a).1 = (f b).1 ∧ (f a).2 = (f b).2) := by
  rintro ⟨e1, e2⟩
  have := h.dot a b b
  unfold nd at hf
  simp only at hf
  rw [← this] at hf
  unfold Mort.dot at hf
  rw [e1, e2] at hf
  simp at hf
def nested (o : List Pt) (hs : List (List Pt)) : Bool :=
  hs.all fun h => inOf o (h.getD 0 (0, 0)) == 1
abbrev Frac := Int × Int
def fracOk (f : Frac) : Bool := decide (0 ≤ f.1) && (decide (f.1 ≤ 99999) && (decide (1 ≤ f.2) && (decide (f.2 ≤ 99999) && Int.gcd f.1 f.2 == 1)))
def red (f : Int × Int) : Frac := (f.1 / (Int.gcd f.1 f.2 : Int), f.2 / (Int.gcd f.1 f.2 : Int))
def cmp0 (a b : Frac) : Int := if a.1 * b.2 < b.1 * a.2 then -1 else if a.1 * b.2 > b.1 * a.2 then 1 else 0
def fracCmp (a b : Frac) : Int := if fracOk a && fracOk b then cmp0 a b else 2
def inR (f : Int × Int) : Prop := 0 ≤ f.1 ∧ f.1 ≤ 99999 ∧ 1 ≤ f.2 ∧ f.2 ≤ 99999
theorem fracOk_iff (f : Frac) : fracOk f = true ↔ inR f ∧ Int.gcd f.1 f.2 = 1 := by
  unfold fracOk inR
  simp only [Bool.and_eq_true, decide_eq_true_eq, beq_iff_eq]
  constructor
  · rintro ⟨h1, h2, h3, h4, h5⟩; exact ⟨⟨h1, h2, h3, h4⟩, h5⟩
  · rintro ⟨⟨h1, h2, h3, h4⟩, h5⟩; exact ⟨h1, h2, h3, h4, h5⟩
theorem gcd_pos {f : Int × Int} (h : inR f) : 0 < Int.gcd f.1 f.2 := Int.gcd_pos_of_ne_zero_right _ (by have := h.2.2.1; omega)
theorem red_mul (f : Int × Int) : (red f).1 * (Int.gcd f.1 f.2 : Int) = f.1 ∧ (red f).2 * (Int.gcd f.1 f.2 : Int) = f.2 :=
  ⟨Int.ediv_mul_cancel (Int.gcd_dvd_left _ _), Int.ediv_mul_cancel (Int.gcd_dvd_right _ _)⟩
theorem red_inR {f : Int × Int} (h : inR f) : inR (red f) := by
  have hg := gcd_pos h
  have hm := red_mul f
  obtain ⟨h1, h2, h3, h4⟩ := h
  have g1 : (1 : Int) ≤ (Int.gcd f.1 f.2 : Int) := by omega
  refine ⟨?_, ?_, ?_, ?_⟩
  · exact Int.ediv_nonneg h1 (by omega)
  · exact Int.le_trans (Int.ediv_le_self _ h1) h2
  · have : (red f).2 ≠ 0 := by intro e; rw [e] at hm; omega
    have := Int.ediv_nonneg (a := f.2) (b := (Int.gcd f.1 f.2 : Int)) (by omega) (by omega)
    unfold red at *
    simp only at *
    omega
  · exact Int.le_trans (Int.ediv_le_self _ (by omega)) h4
theorem red_ok {f : Int × Int} (h : inR f) : fracOk (red f) = true := by
  rw [fracOk_iff]
  refine ⟨red_inR h, ?_⟩
  unfold red
  exact Int.gcd_ediv_gcd_ediv_gcd (gcd_pos h)
theorem red_of_ok {f : Frac} (h : fracOk f = true) : red f = f := by
  rw [fracOk_iff] at h
  unfold red
  rw [h.2]
  simp
theorem val_red {f : Int × Int} (h : inR f) : val (red f) = val f := by
  have hg := gcd_pos h
  have hm := red_mul f
  have hr := red_inR h
  have p1 : (0 : Rat) < ((red f).2 : Int) := by exact_mod_cast hr.2.2.1
  have p2 : (0 : Rat) < (f.2 : Int) := by exact_mod_cast h.2.2.1
  have e1 := div_mul_self (x := ((red f).1 : Int)) p1
  have e2 := div_mul_self (x := (f.1 : Int)) p2
  unfold val
  have k1 : (f.1 : Rat) = ((red f).1 : Int) * ((Int.gcd f.1 f.2 : Int) : Rat) := by exact_mod_cast hm.1.symm
  have k2 : (f.2 : Rat) = ((red f).2 : Int) * ((Int.gcd f.1 f.2 : Int) : Rat) := by exact_mod_cast hm.2.symm
  have k3 : (0 : Rat) < ((Int.gcd f.1 f.2 : Int) : Rat) := by exact_mod_cast hg
  generalize ((red f).1 : Rat) / ((red f).2 : Rat) = x at *
  generalize (f.1 : Rat) / (f.2 : Rat) = y at *
  apply eq_of_mul p2
  have : (x - y) * (f.2 : Rat) = x * (f.2 : Rat) - y * (f.2 : Rat) := by grind
  rw [this, e2, k1, k2, ← Rat.mul_assoc, e1]
  exact Rat.sub_self
theorem val_le {a b : Int × Int} (ha : 1 ≤ a.2) (hb : 1 ≤ b.2) : val a ≤ val b ↔ a.1 * b.2 ≤ b.1 * a.2 := by
  have p1 : (0 : Rat) < (a.2 : Int) := by exact_mod_cast ha
  have p2 : (0 : Rat) < (b.2 : Int) := by exact_mod_cast hb
  have e1 := div_mul_self (x := (a.1 : Int)) p1
  have e2 := div_mul_self (x := (b.1 : Int)) p2
  have p12 : (0 : Rat) < (a.2 : Int) * (b.2 : Int) := Rat.mul_pos p1 p2
  unfold val
  rw [← cast_le]
  push_cast
  generalize (a.1 : Rat) / (a.2 : Rat) = x at *
  generalize (b.1 : Rat) / (b.2 : Rat) = y at *
  rw [← e1, ← e2]
  have k1 : x * (a.2 : Rat) * (b.2 : Rat) = x * ((a.2 : Int) * (b.2 : Int)) := by grind
  have k2 : y * (b.2 : Rat) * (a.2 : Rat) = y * ((a.2 : Int) * (b.2 : Int)) := by grind
  rw [k1, k2]
  constructor
  · intro h; exact Rat.mul_le_mul_of_nonneg_right h (Rat.le_of_lt p12)
  · intro h; exact rat_le_of_mul p12 h
theorem cmp0_neg {a b : Frac} (ha : 1 ≤ a.2) (hb : 1 ≤ b.2) : cmp0 a b < 0 ↔ val a < val b := by
  have := val_le hb ha
  rw [← Rat.not_le, this]
  unfold cmp0
  split
  · simp; omega
  · split <;> simp <;> omega
theorem cmp0_pos {a b : Frac} (ha : 1 ≤ a.2) (hb : 1 ≤ b.2) : 0 < cmp0 a b ↔ val b < val a := by
  have := val_le ha hb
  rw [← Rat.not_le, this]
  unfold cmp0
  split
  · simp; omega
  · split <;> simp <;> omega
theorem cmp0_le {a b : Frac} (ha : 1 ≤ a.2) (hb : 1 ≤ b.2) : cmp0 a b ≤ 0 ↔ val a ≤ val b := by
  have := cmp0_pos ha hb
  rw [← Int.not_lt, this, Rat.not_lt]
theorem cmp0_ge {a b : Frac} (ha : 1 ≤ a.2) (hb : 1 ≤ b.2) : 0 ≤ cmp0 a b ↔ val b ≤ val a := by
  have := cmp0_neg ha hb
  rw [← Int.not_lt, this, Rat.not_lt]
theorem fracCmp_ok {a b : Frac} (ha : fracOk a = true) (hb : fracOk b = true) : fracCmp a b = cmp0 a b := by unfold fracCmp; rw [ha, hb]; rfl
theorem dvd_coprime {d n m : Int} (h : d ∣ n * m) (hg : Int.gcd d n = 1) : d ∣ m := by
  have h1 : d.natAbs ∣ n.natAbs * m.natAbs := by rw [← Int.natAbs_mul]; exact Int.natAbs_dvd_natAbs.2 h
  have h2 : Nat.Coprime d.natAbs n.natAbs := hg
  exact Int.natAbs_dvd_natAbs.1 (Nat.Coprime.dvd_of_dvd_mul_left h2 h1)
/-- of ok fractions the same amount is the same fraction -/
theorem frac_eq {a b : Frac} (ha : fracOk a = true) (hb : fracOk b = true) (h : val a = val b) : a = b := by
  have ha' := (fracOk_iff a).1 ha
  have hb' := (fracOk_iff b).1 hb
  have a2 := ha'.1.2.2.1
  have b2 := hb'.1.2.2.1
  have h1 := (val_le a2 b2).1 (by rw [h]; exact Rat.le_refl)
  have h2 := (val_le b2 a2).1 (by rw [h]; exact Rat.le_refl)
  have e : a.1 * b.2 = b.1 * a.2 := by omega
  have d1 : a.2 ∣ b.2 := by
    have : a.2 ∣ a.1 * b.2 := ⟨b.1, by rw [e, Int.mul_comm]⟩
    exact dvd_coprime this (by rw [Int.gcd_comm]; exact ha'.2)
  have d2 : b.2 ∣ a.2 := by
    have : b.2 ∣ b.1 * a.2 := ⟨a.1, by rw [← e, Int.mul_comm]⟩
    exact dvd_coprime this (by rw [Int.gcd_comm]; exact hb'.2)
  have e2 : a.2 = b.2 := Int.le_antisymm (Int.le_of_dvd (by omega) d1) (Int.le_of_dvd (by omega) d2)
  have e1 : a.1 = b.1 := by
    rw [e2] at e
    exact Int.eq_of_mul_eq_mul_right (by omega) e
  exact Prod.ext e1 e2
def segFar (s : Seg) (p : Pt) : Frac := if segOk s && ptOk p then red (far s p) else (0, 0)
def least (a b : Frac) : Frac := if cmp0 b a < 0 then b else a
def segApart (s t : Seg) : Frac :=
  if segOk s && segOk t then
    if meet s t then (0, 1) else least (least (red (far s t.1)) (red (far s t.2))) (least (red (far t s.1)) (red (far t s.2)))
  else (0, 0)
/-- a product of two numbers of at most 9 and 9 -/
theorem mul_bound {x y : Int} (hx : -9 ≤ x) (hx' : x ≤ 9) (hy : -9 ≤ y) (hy' : y ≤ 9) : -81 ≤ x * y ∧ x * y ≤ 81 := by
  have h1 : 0 ≤ (9 - x) * (9 + y) := Int.mul_nonneg (by omega) (by omega)
  have h2 : 0 ≤ (9 + x) * (9 - y) := Int.mul_nonneg (by omega) (by omega)
  have h3 : 0 ≤ (9 - x) * (9 - y) := Int.mul_nonneg (by omega) (by omega)
  have h4 : 0 ≤ (9 + x) * (9 + y) := Int.mul_nonneg (by omega) (by omega)
  constructor <;> grind
theorem dot_bound {a b c : Pt} (ha : ptOk a = true) (hb : ptOk b = true) (hc : ptOk c = true) : -162 ≤ dot a b c ∧ dot a b c ≤ 162 := by
  rw [ptOk_iff] at ha hb hc
  have h1 := mul_bound (x := b.1 - a.1) (y := c.1 - a.1) (by omega) (by omega) (by omega) (by omega)
  have h2 := mul_bound (x := b.2 - a.2) (y := c.2 - a.2) (by omega) (by omega) (by omega) (by omega)
  unfold dot; omega
theorem cross_bound {a b c : Pt} (ha : ptOk a = true) (hb : ptOk b = true) (hc : ptOk c = true) : -162 ≤ cross a b c ∧ cross a b c ≤ 162 := by
  rw [ptOk_iff] at ha hb hc
  have h1 := mul_bound (x := b.1 - a.1) (y := c.2 - a.2) (by omega) (by omega) (by omega) (by omega)
  have h2 := mul_bound (x := b.2 - a.2) (y := c.1 - a.1) (by omega) (by omega) (by omega) (by omega)
  unfold cross; omega
theorem sq_bound {x : Int} (h : -162 ≤ x) (h' : x ≤ 162) : x * x ≤ 26244 := by
  have : 0 ≤ (162 - x) * (162 + x) := Int.mul_nonneg (by omega) (by omega)
  grind
theorem far_inR {s : Seg} {p : Pt} (hs : segOk s = true) (hp : ptOk p = true) : inR (far s p) := by
  have hs' := (segOk_iff s).1 hs
  have hd := nd_of_ok hs
  unfold nd at hd
  unfold far inR
  have b1 := dot_bound hs'.1 hp hp
  have b2 := dot_bound hs'.2.1 hp hp
  have b3 := dot_bound hs'.1 hs'.2.1 hs'.2.1
  have b4 := cross_bound hs'.1 hs'.2.1 hp
  have b5 := sq_bound b4.1 b4.2
  have b6 := isq_nn (cross s.1 s.2 p)
  have b7 := dot_self_nn s.1 p
  have b8 := dot_self_nn s.2 p
  split
  · simp only; omega
  · split
    · simp only; omega
    · simp only; omega
theorem segFar_ok {s : Seg} {p : Pt} (hs : segOk s = true) (hp : ptOk p = true) : fracOk (segFar s p) = true ∧ val (segFar s p) = val (far s p) := by
  unfold segFar; rw [hs, hp]
  exact ⟨red_ok (far_inR hs hp), val_red (far_inR hs hp)⟩
theorem least_ok {a b : Frac} (ha : fracOk a = true) (hb : fracOk b = true) : fracOk (least a b) = true := by unfold least; split <;> assumption
theorem val_least {a b : Frac} (ha : fracOk a = true) (hb : fracOk b = true) : (val (least a b) ≤ val a ∧ val (least a b) ≤ val b) ∧ (least a b = a ∨ least a b = b) := by
  have a2 := ((fracOk_iff a).1 ha).1.2.2.1
  have b2 := ((fracOk_iff b).1 hb).1.2.2.1
  unfold least
  split
  · rename_i h
    have := (cmp0_neg b2 a2).1 h
    exact ⟨⟨Rat.le_of_lt this, Rat.le_refl⟩, .inr rfl⟩
  · rename_i h
    have : val a ≤ val b := by rw [← Rat.not_lt, ← cmp0_neg b2 a2]; exact h
    exact ⟨⟨Rat.le_refl, this⟩, .inl rfl⟩
theorem meet_comm (s t : Seg) : meet s t = meet t s := by
  rw [Bool.eq_iff_iff, meet_iff, meet_iff]
  constructor
  · rintro (⟨a, b⟩ | a | a | a | a)
    · exact .inl ⟨b, a⟩
    · exact .inr (.inr (.inr (.inl a)))
    · exact .inr (.inr (.inr (.inr a)))
    · exact .inr (.inl a)
    · exact .inr (.inr (.inl a))
  · rintro (⟨a, b⟩ | a | a | a | a)
    · exact .inl ⟨b, a⟩
    · exact .inr (.inr (.inr (.inl a)))
    · exact .inr (.inr (.inr (.inr a)))
    · exact .inr (.inl a)
    · exact .inr (.inr (.inl a))
def ndl (l : List Pt) : Prop := ∀ e ∈ edges l, nd e
section
variable {l h : List Pt} (hl : ndl l) (hh : ndl h) (ap : apartB l h = true)
include hl hh ap
end
theorem fracOk_whole {n : Int} (h0 : 0 ≤ n) (h1 : n ≤ 99999) : fracOk (n, 1) = true := by
  rw [fracOk_iff]; refine ⟨⟨h0, h1, ?_, ?_⟩, ?_⟩
  · show (1 : Int) ≤ 1; decide
  · show (1 : Int) ≤ 99999; decide
  · exact Int.gcd_one_right ..
theorem val_whole (n : Int) : val (n, 1) = n := by unfold val; simp only [Rat.intCast_one, div_one']
theorem fracOk_den {f : Frac} (h : fracOk f = true) : 1 ≤ f.2 := ((fracOk_iff f).1 h).1.2.2.1
theorem cmp_le {a b : Frac} (ha : fracOk a = true) (hb : fracOk b = true) : fracCmp a b ≤ 0 ↔ val a ≤ val b := by
  rw [fracCmp_ok ha hb]; exact cmp0_le (fracOk_den ha) (fracOk_den hb)
theorem cmp_ge {a b : Frac} (ha : fracOk a = true) (hb : fracOk b = true) : 0 ≤ fracCmp a b ↔ val b ≤ val a := by
  rw [fracCmp_ok ha hb]; exact cmp0_ge (fracOk_den ha) (fracOk_den hb)
def back (s : Seg) : Seg := (s.2, s.1)
/-- far is nothing just on the segment -/
theorem far_zero {s : Seg} {p : Pt} (hs : nd s) : val (far s p) = 0 ↔ has s p = true := by
  constructor
  · intro h
    obtain ⟨t, t0, t1, e⟩ := far_at s p hs
    rw [h] at e
    have k1 := sq_nn ((p.1 : Rat) - (s.1.1 + t * (s.2.1 - s.1.1)))
    have k2 := sq_nn ((p.2 : Rat) - (s.1.2 + t * (s.2.2 - s.1.2)))
    unfold dsq at e
    have e1 : ((p.1 : Rat) - (s.1.1 + t * (s.2.1 - s.1.1))) * ((p.1 : Rat) - (s.1.1 + t * (s.2.1 - s.1.1))) = 0 := by
      generalize ((p.1 : Rat) - (s.1.1 + t * (s.2.1 - s.1.1))) * ((p.1 : Rat) - (s.1.1 + t * (s.2.1 - s.1.1))) = a at *
      generalize ((p.2 : Rat) - (s.1.2 + t * (s.2.2 - s.1.2))) * ((p.2 : Rat) - (s.1.2 + t * (s.2.2 - s.1.2))) = b at *
      grind
    have e2 : ((p.2 : Rat) - (s.1.2 + t * (s.2.2 - s.1.2))) * ((p.2 : Rat) - (s.1.2 + t * (s.2.2 - s.1.2))) = 0 := by
      generalize ((p.1 : Rat) - (s.1.1 + t * (s.2.1 - s.1.1))) * ((p.1 : Rat) - (s.1.1 + t * (s.2.1 - s.1.1))) = a at *
      generalize ((p.2 : Rat) - (s.1.2 + t * (s.2.2 - s.1.2))) * ((p.2 : Rat) - (s.1.2 + t * (s.2.2 - s.1.2))) = b at *
      grind
    refine has_of_at s.1 s.2 p t t0 t1 ?_ ?_
    · unfold px; rcases Rat.mul_eq_zero.1 e1 with k | k <;> grind
    · unfold py; rcases Rat.mul_eq_zero.1 e2 with k | k <;> grind
  · intro h
    obtain ⟨u, u0, u1, ux, uy⟩ := at_of_has s p hs h
    obtain ⟨t, t0, t1, e⟩ := far_at s p hs
    have := far_le s p hs u u0 u1
    have k : dsq s.1 s.2 u p.1 p.2 = 0 := by rw [ux, uy]; unfold dsq px py; grind
    rw [k] at this
    have k1 := sq_nn ((p.1 : Rat) - (s.1.1 + t * (s.2.1 - s.1.1)))
    have k2 := sq_nn ((p.2 : Rat) - (s.1.2 + t * (s.2.2 - s.1.2)))
    apply Rat.le_antisymm this
    rw [e]; unfold dsq
    generalize ((p.1 : Rat) - (s.1.1 + t * (s.2.1 - s.1.1))) * ((p.1 : Rat) - (s.1.1 + t * (s.2.1 - s.1.1))) = a at *
    generalize ((p.2 : Rat) - (s.1.2 + t * (s.2.2 - s.1.2))) * ((p.2 : Rat) - (s.1.2 + t * (s.2.2 - s.1.2))) = b at *
    grind
theorem val_nn {f : Frac} (h : fracOk f = true) : 0 ≤ val f := by
  have hk := (fracOk_iff f).1 h
  have p1 : (0 : Rat) < (f.2 : Int) := by exact_mod_cast hk.1.2.2.1
  apply rat_le_of_mul p1
  unfold val
  rw [div_mul_self p1]
  have : (0 : Rat) ≤ (f.1 : Int) := by exact_mod_cast hk.1.1
  grind
theorem apart_facts {s t : Seg} (hs : segOk s = true) (ht : segOk t = true) :
    fracOk (segApart s t) = true ∧ (val (segApart s t) ≤ val (segFar s t.1) ∧ val (segApart s t) ≤ val (segFar s t.2) ∧ val (segApart s t) ≤ val (segFar t s.1) ∧ val (segApart s t) ≤ val (segFar t s.2)) ∧
    (meet s t = true ∧ segApart s t = (0, 1) ∨ meet s t = false ∧ (segApart s t = segFar s t.1 ∨ segApart s t = segFar s t.2 ∨ segApart s t = segFar t s.1 ∨ segApart s t = segFar t s.2)) := by
  have hs' := (segOk_iff s).1 hs
  have ht' := (segOk_iff t).1 ht
  have f1 := (segFar_ok hs ht'.1).1
  have f2 := (segFar_ok hs ht'.2.1).1
  have f3 := (segFar_ok ht hs'.1).1
  have f4 := (segFar_ok ht hs'.2.1).1
  cases hm : meet s t with
  | true =>
    have e : segApart s t = (0, 1) := by unfold segApart; rw [hs, ht, hm]; rfl
    rw [e]
    have v0 : val ((0, 1) : Frac) = 0 := val_whole 0
    rw [v0]
    exact ⟨by decide, ⟨val_nn f1, val_nn f2, val_nn f3, val_nn f4⟩, .inl ⟨rfl, rfl⟩⟩
  | false =>
    have e : segApart s t = least (least (segFar s t.1) (segFar s t.2)) (least (segFar t s.1) (segFar t s.2)) := by
      unfold segApart segFar; rw [hs, ht, hm, hs'.1, hs'.2.1, ht'.1, ht'.2.1]; rfl
    rw [e]
    have o1 := least_ok f1 f2
    have o2 := least_ok f3 f4
    obtain ⟨⟨a1, a2⟩, a3⟩ := val_least f1 f2
    obtain ⟨⟨b1, b2⟩, b3⟩ := val_least f3 f4
    obtain ⟨⟨c1, c2⟩, c3⟩ := val_least o1 o2
    refine ⟨least_ok o1 o2, ⟨Rat.le_trans c1 a1, Rat.le_trans c1 a2, Rat.le_trans c2 b1, Rat.le_trans c2 b2⟩, .inr ⟨rfl, ?_⟩⟩
    rcases c3 with c | c <;> rw [c]
    · rcases a3 with a | a <;> rw [a] <;> simp
    · rcases b3 with a | a <;> rw [a] <;> simp
/-- SegApart is told by these alone -/
theorem apart_unique {s t : Seg} (hs : segOk s = true) (ht : segOk t = true) {f : Frac} (hf : fracOk f = true) (hm : meet s t = false)
    (hle : val f ≤ val (segFar s t.1) ∧ val f ≤ val (segFar s t.2) ∧ val f ≤ val (segFar t s.1) ∧ val f ≤ val (segFar t s.2))
    (he : f = segFar s t.1 ∨ f = segFar s t.2 ∨ f = segFar t s.1 ∨ f = segFar t s.2) : f = segApart s t := by
  obtain ⟨h1, ⟨k1, k2, k3, k4⟩, h3⟩ := apart_facts hs ht
  rw [hm] at h3
  have h3 := h3.resolve_left (by simp)
  obtain ⟨l1, l2, l3, l4⟩ := hle
  apply frac_eq hf h1
  apply Rat.le_antisymm
  · rcases h3.2 with e | e | e | e <;> rw [e] <;> assumption
  · rcases he with e | e | e | e <;> rw [e] <;> assumption
theorem apart_comm {s t : Seg} (hs : segOk s = true) (ht : segOk t = true) : segApart t s = segApart s t := by
  cases hm : meet s t with
  | true => unfold segApart; rw [hs, ht, meet_comm t s, hm]; rfl
  | false =>
    obtain ⟨h1, ⟨k1, k2, k3, k4⟩, h3⟩ := apart_facts ht hs
    rw [meet_comm t s, hm] at h3
    have h3 := h3.resolve_left (by simp)
    exact apart_unique hs ht h1 hm ⟨k3, k4, k1, k2⟩ (by rcases h3.2 with e | e | e | e <;> rw [e] <;> simp)
theorem apart_zero {s t : Seg} (hs : segOk s = true) (ht : segOk t = true) : segApart s t = (0, 1) ↔ meet s t = true := by
  have hs' := (segOk_iff s).1 hs
  have ht' := (segOk_iff t).1 ht
  obtain ⟨h1, _, h3⟩ := apart_facts hs ht
  constructor
  · intro e
    rcases h3 with h3 | ⟨_, h3⟩
    · exact h3.1
    · rw [e] at h3
      rw [meet_iff]
      right
      rcases h3 with h3 | h3 | h3 | h3
      · left; have := segFar_ok hs ht'.1; rw [← far_zero (nd_of_ok hs), ← this.2, ← h3]; exact val_whole 0
      · right; left; have := segFar_ok hs ht'.2.1; rw [← far_zero (nd_of_ok hs), ← this.2, ← h3]; exact val_whole 0
      · right; right; left; have := segFar_ok ht hs'.1; rw [← far_zero (nd_of_ok ht), ← this.2, ← h3]; exact val_whole 0
      · right; right; right; have := segFar_ok ht hs'.2.1; rw [← far_zero (nd_of_ok ht), ← this.2, ← h3]; exact val_whole 0
  · intro e
    rcases h3 with h3 | h3
    · exact h3.2
    · rw [e] at h3; simp at h3
theorem apart_motion {f : Pt → Pt} {k : Int} (h : Motion f k) {s t : Seg} (hs : segOk s = true) (ht : segOk t = true) (hs2 : segOk (segMap f s) = true) (ht2 : segOk (segMap f t) = true) :
    segApart (segMap f s) (segMap f t) = segApart s t := by
  unfold segApart
  rw [hs, ht, hs2, ht2, h.meet]
  rw [show (segMap f t).1 = f t.1 from rfl, show (segMap f t).2 = f t.2 from rfl, show (segMap f s).1 = f s.1 from rfl, show (segMap f s).2 = f s.2 from rfl]
  rw [h.far, h.far, h.far, h.far]
theorem ptOk_mir {p : Pt} (h : ptOk p = true) : ptOk (mir p) = true := by rw [ptOk_iff] at *; unfold mir; simp only; omega
theorem ptOk_swp {p : Pt} (h : ptOk p = true) : ptOk (swp p) = true := by rw [ptOk_iff] at *; unfold swp; simp only; omega
end Mort
end
section
namespace Go.Proofs.YtnponnkcfgjeoaaDoor.X
open Go.RowKit Go.Proofs.YtnponnkcfgjeoaaDoorW.PrintWords Go.Proofs.YtnponnkcfgjeoaaDoorW.PrintLast Go.Proofs.YtnponnkcfgjeoaaDoorW.PrintMore
attribute [local go_sem] max2_int min2_int max_two min_two max_three min_three max_four min_four
set_option linter.unusedVariables false
set_option linter.unusedSimpArgs false
def impl_commonDivisor.l0 : Nat → Int → Int → Option (Int)
 | 0, _, _ => none
 | k + 1, x0, x1 => if x1 = 0 then (some x0) else (impl_commonDivisor.l0 k x1 (Int.tmod x0 x1))
def impl_commonDivisor.f (k : Nat) (a0 : Int) (a1 : Int) : Option (Int) := impl_commonDivisor.l0 k a0 a1
set_option maxHeartbeats 8000000 in
set_option maxRecDepth 100000 in
theorem impl_commonDivisor.calls (k : Nat) (a0 : Int) (a1 : Int) (r : Int) (w : World) (h : impl_commonDivisor.f k a0 a1 = some r) :
  Calls Tryd.prog 47 #[.int .i64 a0, .int .i64 a1] w fun e w' => e = .returned (.int .i64 r) ∧ Drawn0 w w' := by
 have H : (impl_commonDivisor.l0 k a0 a1) = some r := h
 clear h
 have H' := Aside0.mk H
 clear H
 go_enter Tryd.func47, Tryd.ntmps47
 go_wp2
 repeat (go_quiet (fail); try go_wp2)
 go_loopg [0, 1] k (fun kq v0 v1 w' => ∃ (x0_1 : Int) (x1_1 : Int), v0 = .int .i64 x0_1 ∧ v1 = .int .i64 x1_1 ∧ Aside0 (impl_commonDivisor.l0 kq x0_1 x1_1 = some r) ∧ Aside0 (kq ≤ k) ∧ Drawn0 w w')
 case atStart => exact ⟨(a0), (a1), (by first | rfl | (simp; done) | (simp [*]; done)), (by first | rfl | (simp; done) | (simp [*]; done)), H', ⟨Nat.le_refl _⟩, by repeat (first | exact Drawn0.refl _ | apply Drawn0.step)⟩
 case round =>
  clear H'
  try clear p2
  obtain ⟨x0_1, x1_1, rfl, rfl, HA, HK1, ⟨m1, rfl⟩⟩ := hrel
  cases gk with
  | zero => exact absurd HA.out (by simp [impl_commonDivisor.l0])
  | succ k1 =>
   have H := HA.out
   clear HA
   simp only [impl_commonDivisor.l0] at H
   by_cases c3 : x1_1 = 0
   ·
    rw [if_pos c3] at H
    have c3b0 : (x1_1 == 0) = true := beq_iff_eq.mpr c3
    have c3b1 : (x1_1 != 0) = false := bne_eq_false_iff_eq.mpr c3
    clear c3
    obtain rfl := Option.some.inj H
    go_wp2
    repeat (go_quiet (fail); try go_wp2)
    go_ret
    exact ⟨by first | rfl | (simp; done) | (simp [*]; done), by repeat (first | exact Drawn0.refl _ | apply Drawn0.step)⟩
   ·
    rw [if_neg c3] at H
    have c3b0 : (x1_1 == 0) = false := beq_eq_false_iff_ne.mpr c3
    have c3b1 : (x1_1 != 0) = true := bne_iff_ne.mpr c3
    have H' := Aside0.mk H
    clear H
    go_wp2
    repeat (go_quiet (fail); try go_wp2)
    go_roundg k1
    case measure => have := HK1.out; omega
    case rel => exact ⟨(x1_1), (Int.tmod x0_1 x1_1), (by first | rfl | (simp; done) | (simp [*]; done)), (by first | rfl | (simp; done) | (simp [*]; done)), H', ⟨by have := HK1.out; omega⟩, by repeat (first | exact Drawn0.refl _ | apply Drawn0.step)⟩
end Go.Proofs.YtnponnkcfgjeoaaDoor.X
end
section
set_option linter.unusedVariables false
set_option linter.unusedSimpArgs false
namespace Go.Proofs.YtnponnkcfgjeoaaDoor.X
open Go.RowKit Go.Proofs.YtnponnkcfgjeoaaDoorW.PrintWords Go.Proofs.YtnponnkcfgjeoaaDoorW.PrintLast Go.Proofs.YtnponnkcfgjeoaaDoorW.PrintMore
open Mort
/-- Euclid's rounds come to the greatest common divisor. -/
theorem gcd_rounds (b : Nat) : ∀ (a : Nat) (k : Nat), b < k → impl_commonDivisor.l0 k (a : Int) (b : Int) = some ((Nat.gcd a b : Nat) : Int) := by
  induction b using Nat.strongRecOn with
  | _ b ih =>
    intro a k hk
    obtain ⟨k, rfl⟩ : ∃ m, k = m + 1 := ⟨k - 1, by omega⟩
    simp only [impl_commonDivisor.l0]
    by_cases h0 : b = 0
    · subst h0
      rw [if_pos (by rfl), Nat.gcd_zero_right]
    · rw [if_neg (by omega)]
      have hm : Int.tmod (a : Int) (b : Int) = ((a % b : Nat) : Int) := rfl
      rw [hm, ih (a % b) (Nat.mod_lt _ (by omega)) b k (by have := Nat.mod_lt a (show 0 < b by omega); omega)]
      rw [Nat.gcd_comm b (a % b), ← Nat.gcd_rec, Nat.gcd_comm]
theorem gcd_told {n d : Int} (hn : 0 ≤ n) (hd : 0 ≤ d) : ∃ k, impl_commonDivisor.f k n d = some (Int.gcd n d : Int) := by
  obtain ⟨a, rfl⟩ := Int.eq_ofNat_of_zero_le hn
  obtain ⟨b, rfl⟩ := Int.eq_ofNat_of_zero_le hd
  exact ⟨b + 1, gcd_rounds b a (b + 1) (by omega)⟩
set_option maxHeartbeats 1000000 in
set_option maxRecDepth 100000 in
/-- amountOf, of a fraction that is ok. -/
theorem amountOf_ok (n d : Int) (w : World) (h : fracOk (n, d) = true) :
    Calls Tryd.prog 41 #[.agg #[.int .i64 n, .int .i64 d]] w fun e w' => e = .returned (.tuple #[.iface 87 (.agg #[.int .i64 n, .int .i64 d]), .nilIface]) ∧ Below w.heap.size w w' := by
  have hok := (fracOk_iff _).1 h
  obtain ⟨⟨h1, h2, h3, h4⟩, h5⟩ := hok
  simp only at h1 h2 h3 h4 h5
  obtain ⟨k, hk⟩ := gcd_told h1 (show 0 ≤ d by omega)
  rw [h5] at hk
  have HK := Aside0.mk hk
  clear hk h5 h
  have b1 : decide (n < 0) = false := decide_eq_false (by omega)
  have b2 : decide (99999 < n) = false := decide_eq_false (by omega)
  have b3 : decide (d < 1) = false := decide_eq_false (by omega)
  have b4 : decide (99999 < d) = false := decide_eq_false (by omega)
  go_enter Tryd.func41, Tryd.ntmps41
  go_wp2_with (go_at_call 47; refine (impl_commonDivisor.calls k n d 1 _ HK.out).mono ?_; rintro e w' ⟨rfl, ⟨nd, rfl⟩⟩)
  go_ret2
  exact ⟨rfl, by repeat (first | exact Below.refl _ _ | apply below_alloc | apply pw_below_drewN | apply below_drew1)⟩
theorem cell_boxed {w : World} {v : Value} (o : Obj) {p : Addr} (h : w.cell? p = some v) : (w.alloc o).cell? p = some v := pw_cell_below (below_alloc (Below.refl _ _) o) h
set_option maxHeartbeats 1000000 in
set_option maxRecDepth 100000 in
/-- amountOf, of what is no fraction. -/
theorem amountOf_bad (n d : Int) (a : Addr) (w : World) (hc : w.cell? ⟨0, 0, none⟩ = some (.iface 109 (.pointer (some a)))) (h : fracOk (n, d) = false) :
    Calls Tryd.prog 41 #[.agg #[.int .i64 n, .int .i64 d]] w fun e w' => e = .returned (.tuple #[.nilIface, .iface 109 (.pointer (some a))]) ∧ Below w.heap.size w w' := by
  have hc1 := cell_boxed (.cells #[.int .i64 n, .int .i64 d] 25) hc
  by_cases h1 : n < 0
  · have b1 : decide (n < 0) = true := decide_eq_true h1
    clear h1 h
    go_enter Tryd.func41, Tryd.ntmps41
    go_wp2
    go_region
    all_goals (go_wp2; go_ret2; exact ⟨rfl, by repeat (first | exact Below.refl _ _ | apply below_alloc | apply pw_below_drewN | apply below_drew1)⟩)
  have b1 : decide (n < 0) = false := decide_eq_false h1
  by_cases h2 : 99999 < n
  · have b2 : decide (99999 < n) = true := decide_eq_true h2
    clear h2 h
    go_enter Tryd.func41, Tryd.ntmps41
    go_wp2
    go_region
    all_goals (go_wp2; go_ret2; exact ⟨rfl, by repeat (first | exact Below.refl _ _ | apply below_alloc | apply pw_below_drewN | apply below_drew1)⟩)
  have b2 : decide (99999 < n) = false := decide_eq_false h2
  by_cases h3 : d < 1
  · have b3 : decide (d < 1) = true := decide_eq_true h3
    clear h3 h
    go_enter Tryd.func41, Tryd.ntmps41
    go_wp2
    go_region
    all_goals (go_wp2; go_ret2; exact ⟨rfl, by repeat (first | exact Below.refl _ _ | apply below_alloc | apply pw_below_drewN | apply below_drew1)⟩)
  have b3 : decide (d < 1) = false := decide_eq_false h3
  by_cases h4 : 99999 < d
  · have b4 : decide (99999 < d) = true := decide_eq_true h4
    clear h4 h
    go_enter Tryd.func41, Tryd.ntmps41
    go_wp2
    go_region
    all_goals (go_wp2; go_ret2; exact ⟨rfl, by repeat (first | exact Below.refl _ _ | apply below_alloc | apply pw_below_drewN | apply below_drew1)⟩)
  have b4 : decide (99999 < d) = false := decide_eq_false h4
  have h5 : Int.gcd n d ≠ 1 := by
    intro e
    rw [(fracOk_iff _).2 ⟨⟨by simp only; omega, by simp only; omega, by simp only; omega, by simp only; omega⟩, e⟩] at h
    cases h
  obtain ⟨k, hk⟩ := gcd_told (show 0 ≤ n by omega) (show 0 ≤ d by omega)
  generalize Int.gcd n d = q at h5 hk
  have b5 : ((q : Int) != 1) = true := bne_iff_ne.mpr (by omega)
  have HK := Aside0.mk hk
  clear hk h5 h h1 h2 h3 h4
  go_enter Tryd.func41, Tryd.ntmps41
  go_wp2_with (go_at_call 47; refine (impl_commonDivisor.calls k n d q _ HK.out).mono ?_; rintro e w' ⟨rfl, ⟨nd, rfl⟩⟩)
  go_region
  all_goals (go_wp2; go_ret2; exact ⟨rfl, by repeat (first | exact Below.refl _ _ | apply below_alloc | apply pw_below_drewN | apply below_drew1)⟩)
def impl_FracOk.f (a0_0 a0_1 : Int) : Option Bool := some (fracOk (a0_0, a0_1))
set_option maxHeartbeats 1000000 in
set_option maxRecDepth 100000 in
theorem impl_FracOk.calls (a0_0 a0_1 : Int) (r : Bool) (w : World) (hE : ErrW w) (h : impl_FracOk.f a0_0 a0_1 = some r) :
    Calls Tryd.prog 19 #[.agg #[.int .i64 a0_0, .int .i64 a0_1]] w fun e w' => e = .returned (.bool r) ∧ Below w.heap.size w w' := by
  have h := Option.some.inj h
  obtain ⟨a, hc⟩ := hE
  cases hk : fracOk (a0_0, a0_1) with
  | true =>
    rw [hk] at h; subst h
    go_enter Tryd.func19, Tryd.ntmps19
    go_wp2_with (first
      | (go_at_call 41; refine (amountOf_ok a0_0 a0_1 _ hk).mono ?_; rintro e w1 ⟨rfl, hb⟩; have hc1 := pw_cell_below (below_step (below_alloc (Below.refl w.heap.size w) _) hb) hc; have HB := Aside0.mk (below_step (below_alloc (Below.refl w.heap.size w) _) hb); clear hb)
      | (go_at_call 42; refine (is_nil a _).mono ?_; rintro e w' ⟨rfl, rfl⟩))
    go_ret
    exact ⟨rfl, HB.out⟩
  | false =>
    rw [hk] at h; subst h
    have hc0 := cell_boxed (.cells #[.int .i64 a0_0, .int .i64 a0_1] 25) hc
    go_enter Tryd.func19, Tryd.ntmps19
    go_wp2_with (first
      | (go_at_call 41; refine (amountOf_bad a0_0 a0_1 a _ hc0 hk).mono ?_; rintro e w1 ⟨rfl, hb⟩; have hc1 := pw_cell_below (below_step (below_alloc (Below.refl w.heap.size w) _) hb) hc; have HB := Aside0.mk (below_step (below_alloc (Below.refl w.heap.size w) _) hb); clear hb)
      | (go_at_call 42; refine (is_same a _).mono ?_; rintro e w' ⟨rfl, rfl⟩))
    go_ret
    exact ⟨rfl, HB.out⟩
theorem methAgainst (v : Value) (w : World) : (Go.method 249 87 v "loop.example/mortiser/impl.against").run Tryd.prog w = .ok (91, v) w := by kernel_rfl
theorem methParts (v : Value) (w : World) : (Go.method 249 87 v "loop.example/mortiser/impl.parts").run Tryd.prog w = .ok (92, v) w := by kernel_rfl
theorem aheadAgainst (v : Value) (w : World) : (nilAhead 249 87 v "loop.example/mortiser/impl.against").run Tryd.prog w = .ok (some false) w := by kernel_rfl
theorem aheadParts (v : Value) (w : World) : (nilAhead 249 87 v "loop.example/mortiser/impl.parts").run Tryd.prog w = .ok (some false) w := by kernel_rfl
set_option maxHeartbeats 1000000 in
set_option maxRecDepth 100000 in
theorem ratio_parts (n d : Int) (w : World) :
    Calls Tryd.prog 92 #[.agg #[.int .i64 n, .int .i64 d]] w fun e w' => e = .returned (.tuple #[.int .i64 n, .int .i64 d]) ∧ Below w.heap.size w w' := by
  go_enter Tryd.func92, Tryd.ntmps92
  go_wp2
  try (go_region; all_goals go_wp2)
  all_goals (go_ret2; exact ⟨rfl, by repeat (first | exact Below.refl _ _ | apply below_alloc | apply pw_below_drewN | apply below_drew1)⟩)
theorem prod_wrap {x y : Int} (hx : 0 ≤ x) (hx' : x ≤ 99999) (hy : 0 ≤ y) (hy' : y ≤ 99999) : wrap64 (x * y) = x * y := by
  have h1 : 0 ≤ x * y := Int.mul_nonneg hx hy
  have h2 : x * y ≤ 99999 * 99999 := Int.mul_le_mul hx' hy' hy (by decide)
  unfold wrap64
  omega
set_option maxHeartbeats 1000000 in
set_option maxRecDepth 100000 in
theorem ratio_against (n d m q : Int) (w : World) (h1 : inR (n, d)) (h2 : inR (m, q)) :
    Calls Tryd.prog 91 #[.agg #[.int .i64 n, .int .i64 d], .iface 87 (.agg #[.int .i64 m, .int .i64 q])] w fun x w' => x = .returned (.int .i64 (cmp0 (n, d) (m, q))) ∧ Below w.heap.size w w' := by
  obtain ⟨a1, a2, a3, a4⟩ := h1
  obtain ⟨b1, b2, b3, b4⟩ := h2
  simp only at a1 a2 a3 a4 b1 b2 b3 b4
  have hw1 := prod_wrap a1 a2 (show 0 ≤ q by omega) b4
  have hw2 := prod_wrap b1 b2 (show 0 ≤ d by omega) a4
  have hm := methParts
  have ha := aheadParts
  have hr : cmp0 (n, d) (m, q) = if n * q < m * d then -1 else if m * d < n * q then 1 else 0 := rfl
  rw [hr]
  clear hr a1 a2 a3 a4 b1 b2 b3 b4
  have key : ∀ (v : Int) (c1 : Bool) (c2 : Bool), (v = if c1 then -1 else if c2 then 1 else 0) → decide (n * q < m * d) = c1 → decide (m * d < n * q) = c2 →
      Calls Tryd.prog 91 #[.agg #[.int .i64 n, .int .i64 d], .iface 87 (.agg #[.int .i64 m, .int .i64 q])] w fun x w' => x = .returned (.int .i64 v) ∧ Below w.heap.size w w' := by
    intro v c1 c2 hv t1 t2
    cases c1 <;> cases c2 <;> simp only [if_true, if_false, Bool.false_eq_true] at hv <;> subst hv
    all_goals
      go_enter Tryd.func91, Tryd.ntmps91
      go_wp2_with (go_at_call 92; refine (ratio_parts m q _).mono ?_; rintro e w1 ⟨rfl, hb⟩; have hk0 := pw_cell_below hb ((blk_cell (heap_alloc_new w _) 0).trans rfl); have hk1 := pw_cell_below hb ((blk_cell (heap_alloc_new w _) 1).trans rfl); have HB := Aside0.mk (below_step (below_alloc (Below.refl w.heap.size w) _) hb); clear hb)
      go_region
      all_goals (go_wp2; go_ret; exact ⟨rfl, by repeat (first | exact HB.out | apply below_alloc | apply pw_below_drewN | apply below_drew1)⟩)
  refine key _ (decide (n * q < m * d)) (decide (m * d < n * q)) ?_ rfl rfl
  simp only [decide_eq_true_eq]
def impl_FracCmp.f (a0_0 a0_1 a1_0 a1_1 : Int) : Option Int := some (fracCmp (a0_0, a0_1) (a1_0, a1_1))
set_option maxHeartbeats 1000000 in
set_option maxRecDepth 100000 in
theorem impl_FracCmp.calls (a0_0 a0_1 a1_0 a1_1 : Int) (r : Int) (w : World) (hE : ErrW w) (h : impl_FracCmp.f a0_0 a0_1 a1_0 a1_1 = some r) :
    Calls Tryd.prog 17 #[.agg #[.int .i64 a0_0, .int .i64 a0_1], .agg #[.int .i64 a1_0, .int .i64 a1_1]] w fun e w' => e = .returned (.int .i64 r) ∧ Below w.heap.size w w' := by
  have h := Option.some.inj h
  obtain ⟨a, hc⟩ := hE
  have hm := methAgainst
  have ha := aheadAgainst
  unfold fracCmp at h
  cases hk : fracOk (a0_0, a0_1) with
  | false =>
    rw [hk] at h; simp only [Bool.false_and, Bool.false_eq_true, if_false] at h; subst h
    have hc0 := cell_boxed (.cells #[.int .i64 a1_0, .int .i64 a1_1] 25) (cell_boxed (.cells #[.int .i64 a0_0, .int .i64 a0_1] 25) hc)
    go_enter Tryd.func17, Tryd.ntmps17
    go_wp2_with (first
      | (go_at_call 41; refine (amountOf_bad a0_0 a0_1 a _ hc0 hk).mono ?_; rintro e w1 ⟨rfl, hb⟩; have hc1 := pw_cell_below hb hc0; have HB := Aside0.mk (below_step (below_alloc (below_alloc (Below.refl w.heap.size w) _) _) hb); clear hb)
      | (go_at_call 42; refine (is_same a _).mono ?_; rintro e w' ⟨rfl, rfl⟩))
    go_ret
    exact ⟨rfl, HB.out⟩
  | true =>
    have hB0 := below_alloc (below_alloc (Below.refl w.heap.size w) (.cells #[.int .i64 a0_0, .int .i64 a0_1] 25)) (.cells #[.int .i64 a1_0, .int .i64 a1_1] 25)
    have hc0 := cell_boxed (.cells #[.int .i64 a1_0, .int .i64 a1_1] 25) (cell_boxed (.cells #[.int .i64 a0_0, .int .i64 a0_1] 25) hc)
    have hx0 := (blk_cell (heap_alloc_new (w.alloc (.cells #[.int .i64 a0_0, .int .i64 a0_1] 25)) (.cells #[.int .i64 a1_0, .int .i64 a1_1] 25)) 0).trans rfl
    have hx1 := (blk_cell (heap_alloc_new (w.alloc (.cells #[.int .i64 a0_0, .int .i64 a0_1] 25)) (.cells #[.int .i64 a1_0, .int .i64 a1_1] 25)) 1).trans rfl
    rw [World.size_alloc] at hx0 hx1
    have HB0 := Aside0.mk hB0
    have HX0 := Aside0.mk hx0
    have HX1 := Aside0.mk hx1
    have HC0 := Aside0.mk hc0
    have HC := Aside0.mk hc
    clear hB0 hx0 hx1 hc0 hc
    cases hk2 : fracOk (a1_0, a1_1) with
    | false =>
      rw [hk, hk2] at h; simp only [Bool.and_false, Bool.false_eq_true, if_false] at h; subst h
      go_enter Tryd.func17, Tryd.ntmps17
      go_wp2_with fail
      refine (amountOf_ok a0_0 a0_1 _ hk).mono ?_
      rintro e w1 ⟨rfl, hb⟩
      have hc1 := pw_cell_below hb HC0.out
      have hx0 := pw_cell_below hb HX0.out
      have hx1 := pw_cell_below hb HX1.out
      have HB := Aside0.mk (below_step HB0.out hb)
      clear hb HB0 HX0 HX1 HC0
      go_wp2_with fail
      refine (is_nil a _).mono ?_
      rintro e w' ⟨rfl, rfl⟩
      go_wp2_with fail
      refine (amountOf_bad a1_0 a1_1 a _ hc1 hk2).mono ?_
      rintro e w2 ⟨rfl, hb⟩
      have hc2 := pw_cell_below hb hc1
      have HB2 := Aside0.mk (below_step HB.out hb)
      clear hb hc1 hx0 hx1
      go_wp2_with fail
      refine (is_same a _).mono ?_
      rintro e w' ⟨rfl, rfl⟩
      go_wp2_with fail
      go_ret
      exact ⟨rfl, HB2.out⟩
    | true =>
      rw [hk, hk2] at h; simp only [Bool.and_true, if_true] at h; subst h
      go_enter Tryd.func17, Tryd.ntmps17
      go_wp2_with fail
      refine (amountOf_ok a0_0 a0_1 _ hk).mono ?_
      rintro e w1 ⟨rfl, hb⟩
      have hc1 := pw_cell_below hb HC0.out
      have hx0 := pw_cell_below hb HX0.out
      have hx1 := pw_cell_below hb HX1.out
      have HB := Aside0.mk (below_step HB0.out hb)
      clear hb HB0 HX0 HX1 HC0
      go_wp2_with fail
      refine (is_nil a _).mono ?_
      rintro e w' ⟨rfl, rfl⟩
      go_wp2_with fail
      refine (amountOf_ok a1_0 a1_1 _ hk2).mono ?_
      rintro e w2 ⟨rfl, hb⟩
      have hc2 := pw_cell_below hb hc1
      have HB2 := Aside0.mk (below_step HB.out hb)
      clear hb hc1 hx0 hx1
      go_wp2_with fail
      refine (is_nil a _).mono ?_
      rintro e w' ⟨rfl, rfl⟩
      go_wp2_with fail
      refine (ratio_against a0_0 a0_1 a1_0 a1_1 _ ((fracOk_iff _).1 hk).1 ((fracOk_iff _).1 hk2).1).mono ?_
      rintro e w3 ⟨rfl, hb⟩
      have HB3 := Aside0.mk (below_step HB2.out hb)
      clear hb
      go_wp2_with fail
      go_ret
      exact ⟨rfl, HB3.out⟩
end Go.Proofs.YtnponnkcfgjeoaaDoor.X
end
section
namespace Go.Proofs.YtnponnkcfgjeoaaDoor.X
open Go.RowKit Go.Proofs.YtnponnkcfgjeoaaDoorW.PrintWords Go.Proofs.YtnponnkcfgjeoaaDoorW.PrintLast Go.Proofs.YtnponnkcfgjeoaaDoorW.PrintMore
attribute [local go_sem] max2_int min2_int max_two min_two max_three min_three max_four min_four
set_option linter.unusedVariables false
set_option linter.unusedSimpArgs false
def spec_l6In.f (a0 : Int) (a1 : Int) (a2 : Int) : Option (Bool) := if a0 ≥ a1 then (some (decide (a0 ≤ a2))) else (some false)
set_option maxHeartbeats 8000000 in
set_option maxRecDepth 100000 in
theorem spec_l6In.calls (a0 : Int) (a1 : Int) (a2 : Int) (r : Bool) (w : World) (h : spec_l6In.f a0 a1 a2 = some r) :
  Calls Tryd.prog 45 #[.int .i64 a0, .int .i64 a1, .int .i64 a2] w fun e w' => e = .returned (.bool r) ∧ Drawn0 w w' := by
 have H : (if a0 ≥ a1 then (some (decide (a0 ≤ a2))) else (some false)) = some r := h
 clear h
 by_cases c4 : a0 ≥ a1
 ·
  rw [if_pos c4] at H
  have c4b0 : decide (a1 ≤ a0) = true := decide_eq_true c4
  clear c4
  obtain rfl := Option.some.inj H
  go_enter Tryd.func45, Tryd.ntmps45
  go_wp2
  go_ret
  exact ⟨by first | rfl | (simp; done) | (simp [*]; done), by repeat (first | exact Drawn0.refl _ | apply Drawn0.step)⟩
 ·
  rw [if_neg c4] at H
  have c4b0 : decide (a1 ≤ a0) = false := decide_eq_false c4
  clear c4
  obtain rfl := Option.some.inj H
  go_enter Tryd.func45, Tryd.ntmps45
  go_wp2
  go_ret
  exact ⟨by first | rfl | (simp; done) | (simp [*]; done), by repeat (first | exact Drawn0.refl _ | apply Drawn0.step)⟩
end Go.Proofs.YtnponnkcfgjeoaaDoor.X
end
section
set_option linter.unusedVariables false
set_option linter.unusedSimpArgs false
namespace Go.Proofs.YtnponnkcfgjeoaaDoor.X
open Go.RowKit Go.Proofs.YtnponnkcfgjeoaaDoorW.PrintWords Go.Proofs.YtnponnkcfgjeoaaDoorW.PrintLast Go.Proofs.YtnponnkcfgjeoaaDoorW.PrintMore
open Mort
theorem w64 {x : Int} (h : -9223372036854775808 ≤ x) (h' : x ≤ 9223372036854775807) : wrap64 x = x := by unfold wrap64; omega
theorem sgcd_rounds (b : Nat) : ∀ (a : Nat) (k : Nat), b < k → spec_l1Gcd.l0 k (a : Int) (b : Int) = some ((Nat.gcd a b : Nat) : Int) := by
  induction b using Nat.strongRecOn with
  | _ b ih =>
    intro a k hk
    obtain ⟨k, rfl⟩ : ∃ m, k = m + 1 := ⟨k - 1, by omega⟩
    simp only [spec_l1Gcd.l0]
    by_cases h0 : b = 0
    · subst h0
      rw [if_neg (by decide), Nat.gcd_zero_right]
    · rw [if_pos (by omega), if_neg (by omega)]
      have hm : Int.tmod (a : Int) (b : Int) = ((a % b : Nat) : Int) := rfl
      rw [hm, ih (a % b) (Nat.mod_lt _ (by omega)) b k (by have := Nat.mod_lt a (show 0 < b by omega); omega)]
      rw [Nat.gcd_comm b (a % b), ← Nat.gcd_rec, Nat.gcd_comm]
theorem sgcd_told {n d : Int} (hn : 0 ≤ n) (hd : 0 ≤ d) {k : Nat} (hk : d < k) : spec_l1Gcd.f k n d = some (Int.gcd n d : Int) := by
  obtain ⟨a, rfl⟩ := Int.eq_ofNat_of_zero_le hn
  obtain ⟨b, rfl⟩ := Int.eq_ofNat_of_zero_le hd
  exact sgcd_rounds b a k (by omega)
theorem gcd_told' {n d : Int} (hn : 0 ≤ n) (hd : 0 ≤ d) {k : Nat} (hk : d < k) : impl_commonDivisor.f k n d = some (Int.gcd n d : Int) := by
  obtain ⟨a, rfl⟩ := Int.eq_ofNat_of_zero_le hn
  obtain ⟨b, rfl⟩ := Int.eq_ofNat_of_zero_le hd
  exact gcd_rounds b a k (by omega)
theorem l6In_told (n a b : Int) : spec_l6In.f n a b = some (decide (a ≤ n) && decide (n ≤ b)) := by
  unfold spec_l6In.f
  by_cases h : n ≥ a
  · rw [if_pos h, decide_eq_true (show a ≤ n from h)]; rfl
  · rw [if_neg h, decide_eq_false (show ¬ a ≤ n from h)]; rfl
theorem l1Of_told {k : Nat} (hk : 100000 ≤ k) {n d : Int} (h : inR (n, d)) : spec_l1Of.f k n d = some ((red (n, d)).1, (red (n, d)).2) := by
  obtain ⟨a1, a2, a3, a4⟩ := h
  simp only at a1 a2 a3 a4
  have hg := gcd_pos (f := (n, d)) ⟨a1, a2, a3, a4⟩
  unfold spec_l1Of.f
  rw [sgcd_told a1 (by omega) (by omega)]
  simp only [Option.bind_some]
  simp only at hg
  rw [if_neg (by omega)]
  have e1 : Int.tdiv n (Int.gcd n d : Int) = n / (Int.gcd n d : Int) := Int.tdiv_eq_ediv_of_nonneg a1
  have e2 : Int.tdiv d (Int.gcd n d : Int) = d / (Int.gcd n d : Int) := Int.tdiv_eq_ediv_of_nonneg (by omega)
  have r := red_inR (f := (n, d)) ⟨a1, a2, a3, a4⟩
  obtain ⟨r1, r2, r3, r4⟩ := r
  unfold red at r1 r2 r3 r4 ⊢
  simp only at r1 r2 r3 r4 ⊢
  rw [e1, e2, w64 (by omega) (by omega), w64 (by omega) (by omega)]
def Bytes (l : List Int) : Prop := (∀ x ∈ l, 0 ≤ x ∧ x ≤ 255) ∧ l.length ≤ 2000
theorem rd_byte {l : List Int} (h : Bytes l) (i : Int) : 0 ≤ rd l i ∧ rd l i ≤ 255 := by
  unfold rd
  by_cases hi : i.toNat < l.length
  · rw [List.getD_eq_getElem?_getD, List.getElem?_eq_getElem hi]
    exact h.1 _ (List.getElem_mem hi)
  · rw [List.getD_eq_getElem?_getD, List.getElem?_eq_none (by omega)]; simp
theorem xor_nn {a b : Int} (ha : 0 ≤ a) (ha' : a < 4294967296) (hb : 0 ≤ b) (hb' : b < 4294967296) : 0 ≤ Go.bits .xor .i64 a b := by
  obtain ⟨x, rfl⟩ := Int.eq_ofNat_of_zero_le ha
  obtain ⟨y, rfl⟩ := Int.eq_ofNat_of_zero_le hb
  have hx : x ^^^ y < 2 ^ 32 := Nat.xor_lt_two_pow (by omega) (by omega)
  have h1 : (BitVec.ofInt 64 (x : Int)).toNat = x := by
    rw [BitVec.ofInt_natCast, BitVec.toNat_ofNat]; exact Nat.mod_eq_of_lt (by omega)
  have h2 : (BitVec.ofInt 64 (y : Int)).toNat = y := by
    rw [BitVec.ofInt_natCast, BitVec.toNat_ofNat]; exact Nat.mod_eq_of_lt (by omega)
  show 0 ≤ IntKind.i64.wrap ((BitVec.ofInt 64 (x : Int) ^^^ BitVec.ofInt 64 (y : Int)).toNat : Int)
  rw [BitVec.toNat_xor, h1, h2]
  have : IntKind.i64.wrap ((x ^^^ y : Nat) : Int) = wrap64 ((x ^^^ y : Nat) : Int) := by
    simp [IntKind.wrap, IntKind.bits, IntKind.signed, wrap64]
    split <;> omega
  rw [this, w64 (by omega) (by omega)]
  omega
theorem tmod_in {a b : Int} (ha : 0 ≤ a) (hb : 1 ≤ b) : 0 ≤ Int.tmod a b ∧ Int.tmod a b < b := by
  rw [Int.tmod_eq_emod_of_nonneg ha]
  exact ⟨Int.emod_nonneg _ (by omega), Int.emod_lt_of_pos _ (by omega)⟩
theorem tdiv_in {a b : Int} (ha : 0 ≤ a) (hb : 1 ≤ b) : 0 ≤ Int.tdiv a b ∧ Int.tdiv a b ≤ a := by
  rw [Int.tdiv_eq_ediv_of_nonneg ha]
  exact ⟨Int.ediv_nonneg ha (by omega), Int.ediv_le_self _ ha⟩
/-- a pick: a number from 0 to n - 1; the place goes on by one -/
theorem pick_told {l : List Int} (hl : Bytes l) {p n : Int} (hp : 0 ≤ p) (hp' : p ≤ 1000000) (hn : 1 ≤ n) (hn' : n ≤ 1000000) :
    ∃ r, (∀ k, 1 ≤ k → spec_l6Rd_pick.f k l p n = some (r, p + 1)) ∧ 0 ≤ r ∧ r < n := by
  have e1 : wrap64 (p + 1) = p + 1 := w64 (by omega) (by omega)
  have e2 : wrap64 (p + 1 - 1) = p := by rw [w64 (by omega) (by omega)]; omega
  have hlen := hl.2
  by_cases h0 : (l.length : Int) = 0
  · refine ⟨0, fun k hk => ?_, by omega, by omega⟩
    obtain ⟨k, rfl⟩ : ∃ m, k = m + 1 := ⟨k - 1, by omega⟩
    unfold spec_l6Rd_pick.f
    rw [if_neg (by omega), e1]
    simp only [h0, beq_self_eq_true, spec_l6Rd_pick.j0, if_true]
  · have hb : ((l.length : Int) == 0) = false := beq_eq_false_iff_ne.mpr h0
    by_cases h1 : p < (l.length : Int)
    · have hr := rd_byte hl p
      have e3 : wrap64 (rd l p) = rd l p := w64 (by omega) (by omega)
      obtain ⟨t1, t2⟩ := tmod_in (b := n) hr.1 hn
      refine ⟨Int.tmod (rd l p) n, fun k hk => ?_, t1, t2⟩
      obtain ⟨k, rfl⟩ : ∃ m, k = m + 1 := ⟨k - 1, by omega⟩
      unfold spec_l6Rd_pick.f
      rw [if_neg (by omega), e1, hb]
      simp only [spec_l6Rd_pick.j0, Bool.false_eq_true, if_false]
      rw [e2, if_pos h1, if_pos hp, if_neg (by omega), e3]
    · have hl1 : 1 ≤ (l.length : Int) := by omega
      obtain ⟨a1, a2⟩ := tmod_in (b := (l.length : Int)) hp hl1
      have e7 : wrap64 (p * 7) = p * 7 := w64 (by omega) (by omega)
      have e8 : wrap64 (p * 7 + 3) = p * 7 + 3 := w64 (by omega) (by omega)
      obtain ⟨b1, b2⟩ := tmod_in (a := p * 7 + 3) (b := (l.length : Int)) (by omega) hl1
      obtain ⟨d1, d2⟩ := tdiv_in (b := (l.length : Int)) hp hl1
      have r1 := rd_byte hl (Int.tmod p (l.length : Int))
      have r2 := rd_byte hl (Int.tmod (p * 7 + 3) (l.length : Int))
      have key : ∃ X : Int, 0 ≤ X ∧ X < 4294967296 ∧ (wrap64 ((wrap64 ((wrap64 ((wrap64 ((wrap64 (rd l (Int.tmod p (l.length : Int)))) * 131)) + (wrap64 ((wrap64 (rd l (Int.tmod (p * 7 + 3) (l.length : Int)))) * 1117)))) + (wrap64 (p * 29)))) + (wrap64 ((wrap64 (Int.tdiv p (l.length : Int))) * 53)))) = X := by
        generalize rd l (Int.tmod p (l.length : Int)) = u at *
        generalize rd l (Int.tmod (p * 7 + 3) (l.length : Int)) = v at *
        generalize Int.tdiv p (l.length : Int) = q at *
        refine ⟨u * 131 + v * 1117 + p * 29 + q * 53, by omega, by omega, ?_⟩
        rw [w64 (x := u) (by omega) (by omega), w64 (x := v) (by omega) (by omega), w64 (x := q) (by omega) (by omega), w64 (x := u * 131) (by omega) (by omega), w64 (x := v * 1117) (by omega) (by omega), w64 (x := p * 29) (by omega) (by omega), w64 (x := q * 53) (by omega) (by omega), w64 (x := u * 131 + v * 1117) (by omega) (by omega), w64 (x := u * 131 + v * 1117 + p * 29) (by omega) (by omega), w64 (by omega) (by omega)]
      obtain ⟨X, x1, x2, hX⟩ := key
      obtain ⟨y1, y2⟩ := tdiv_in (a := X) (b := 64) x1 (by omega)
      have e9 : wrap64 (Int.tdiv X 64) = Int.tdiv X 64 := w64 (by omega) (by omega)
      obtain ⟨t1, t2⟩ := tmod_in (b := n) (xor_nn x1 x2 y1 (by omega)) hn
      refine ⟨Int.tmod (Go.bits .xor .i64 X (Int.tdiv X 64)) n, fun k hk => ?_, t1, t2⟩
      obtain ⟨k, rfl⟩ : ∃ m, k = m + 1 := ⟨k - 1, by omega⟩
      unfold spec_l6Rd_pick.f
      rw [if_neg (by omega), e1, hb]
      simp only [spec_l6Rd_pick.j0, Bool.false_eq_true, if_false]
      rw [e2, if_neg h1, if_neg h0, if_pos a1, if_pos a2, e7, e8, if_pos b1, if_pos b2, if_neg (by omega), hX, e9]
theorem open_told (l : List Int) (h : ∀ x ∈ l, (Lit.int .u8 x).wf = true) : ∃ m, spec_l6Open.f l = some (m, 0) ∧ Bytes m := by
  have hb : ∀ x ∈ l, 0 ≤ x ∧ x ≤ 255 := fun x hx => by
    have := h x hx
    simp [Lit.wf, IntKind.min, IntKind.max, IntKind.bits, IntKind.signed] at this
    omega
  unfold spec_l6Open.f
  by_cases hl : (l.length : Int) > 2000
  · rw [if_pos hl, if_pos (by omega)]
    exact ⟨l.take 2000, rfl, fun x hx => hb x (List.mem_of_mem_take hx), by rw [List.length_take]; omega⟩
  · rw [if_neg hl]
    exact ⟨l, rfl, hb, by omega⟩
theorem fracOk_f (a b : Int) : impl_FracOk.f a b = some (fracOk (a, b)) := rfl
end Go.Proofs.YtnponnkcfgjeoaaDoor.X
end
section
namespace Go.Proofs.YtnponnkcfgjeoaaDoor.X
open Go.RowKit Go.Proofs.YtnponnkcfgjeoaaDoorW.PrintWords Go.Proofs.YtnponnkcfgjeoaaDoorW.PrintLast Go.Proofs.YtnponnkcfgjeoaaDoorW.PrintMore
attribute [local go_sem] max2_int min2_int max_two min_two max_three min_three max_four min_four
set_option linter.unusedVariables false
set_option linter.unusedSimpArgs false
def spec_PtOk.f (a0_0 : Int) (a0_1 : Int) : Option (Bool) := (spec_l6In.f a0_0 0 9).bind fun t337 => (if t337 = true then ((spec_l6In.f a0_1 0 9).bind fun t338 => (some t338)) else (some false))
set_option maxHeartbeats 8000000 in
set_option maxRecDepth 100000 in
theorem spec_PtOk.calls (a0_0 : Int) (a0_1 : Int) (r : Bool) (w : World) (h : spec_PtOk.f a0_0 a0_1 = some r) :
  Calls Tryd.prog 27 #[.agg #[.int .i64 a0_0, .int .i64 a0_1]] w fun e w' => e = .returned (.bool r) ∧ Below w.heap.size w w' := by
 have hu38 := Tryd.underlying38
 have HB := Aside0.mk (Below.refl w.heap.size w)
 have H : ((spec_l6In.f a0_0 0 9).bind fun t337 => (if t337 = true then ((spec_l6In.f a0_1 0 9).bind fun t338 => (some t338)) else (some false))) = some r := h
 clear h
 replace H := Option.bind_eq_some_iff.mp H
 obtain ⟨t337, A20, H⟩ := H
 replace H : (if t337 = true then ((spec_l6In.f a0_1 0 9).bind fun t338 => (some t338)) else (some false)) = some r := H
 have A2 := Aside0.mk A20
 clear A20
 by_cases c3 : t337 = true
 ·
  subst c3
  have H1 : ((spec_l6In.f a0_1 0 9).bind fun t338 => (some t338)) = some r := by rw [if_pos rfl] at H; exact H
  clear H
  have H := H1
  clear H1
  replace H := Option.bind_eq_some_iff.mp H
  obtain ⟨t338, A40, H⟩ := H
  replace H : (some t338) = some r := H
  have A4 := Aside0.mk A40
  clear A40
  obtain rfl := Option.some.inj H
  go_enter Tryd.func27, Tryd.ntmps27
  go_wp2_with (first | ((with_reducible refine gate_dst (N := 1) rfl ?_); refine box_event ?hg (N := 1) ?hd (cs := #[.int .i64 a0_0, .int .i64 a0_1]) (t := 38) ?hr ?_; (case hd => rfl); (case hg => rfl); (case hr => first | (go_simp; done) | (go_simp; rfl)); intro gb336 hg w5 hbox hb; have n0_ := Aside0.mk (below_step hB_ hb); have n1_ := Aside0.mk (hbox); have n2_ := Aside0.mk ((by rw [hg]; exact (below_size hB_) : w.heap.size ≤ gb336)); have n3_ := Aside0.mk ((by rw [hg]; exact (below_size hB_) : w.heap.size ≤ gb336)); clear HB; have HB := n0_; have BK336 := n1_; have GW336 := n2_; have GE336 := n3_; clear n0_ n1_ n2_ n3_; clear hb hbox hg; have hcz6_0 : w5.cell? ⟨gb336, 0, none⟩ = some (.int .i64 a0_0) := bc_; have hcz6_1 : w5.cell? ⟨gb336, 1, none⟩ = some (.int .i64 a0_1) := bc_; have hfz6_0 := blk_frozen BK336.out 0; have hfz6_1 := blk_frozen BK336.out 1) | ((with_reducible refine gate_callee (f := 45) rfl ?_); refine goesL_ (some 5) rfl rfl Tryd.func45 (by kernel_rfl) rfl #[.int .i64 a0_0, .int .i64 0, .int .i64 9] rfl ma_ ?_; (with_reducible refine (spec_l6In.calls a0_0 0 9 true _ A2.out).mono ?_); rintro e w' ⟨rfl, ⟨nd, rfl⟩⟩; refine ⟨_, rfl, ?_⟩) | (go_at_call 45; (with_reducible refine (spec_l6In.calls a0_1 0 9 t338 _ A4.out).mono ?_); rintro e w' ⟨rfl, ⟨nd, rfl⟩⟩))
  go_ret
  exact ⟨by first | rfl | (simp [errW_none, errW_some] <;> rfl) | (simp [*, errW_none, errW_some] <;> rfl), hB_⟩
 ·
  replace c3 := Bool.eq_false_iff.mpr c3
  subst c3
  have H1 : (some false) = some r := by rw [if_neg (show ¬ (false = true) by decide)] at H; exact H
  clear H
  have H := H1
  clear H1
  obtain rfl := Option.some.inj H
  go_enter Tryd.func27, Tryd.ntmps27
  go_wp2_with (first | ((with_reducible refine gate_dst (N := 1) rfl ?_); refine box_event ?hg (N := 1) ?hd (cs := #[.int .i64 a0_0, .int .i64 a0_1]) (t := 38) ?hr ?_; (case hd => rfl); (case hg => rfl); (case hr => first | (go_simp; done) | (go_simp; rfl)); intro gb336 hg w7 hbox hb; have n0_ := Aside0.mk (below_step hB_ hb); have n1_ := Aside0.mk (hbox); have n2_ := Aside0.mk ((by rw [hg]; exact (below_size hB_) : w.heap.size ≤ gb336)); have n3_ := Aside0.mk ((by rw [hg]; exact (below_size hB_) : w.heap.size ≤ gb336)); clear HB; have HB := n0_; have BK336 := n1_; have GW336 := n2_; have GE336 := n3_; clear n0_ n1_ n2_ n3_; clear hb hbox hg; have hcz8_0 : w7.cell? ⟨gb336, 0, none⟩ = some (.int .i64 a0_0) := bc_; have hcz8_1 : w7.cell? ⟨gb336, 1, none⟩ = some (.int .i64 a0_1) := bc_; have hfz8_0 := blk_frozen BK336.out 0; have hfz8_1 := blk_frozen BK336.out 1) | ((with_reducible refine gate_callee (f := 45) rfl ?_); refine goesL_ (some 5) rfl rfl Tryd.func45 (by kernel_rfl) rfl #[.int .i64 a0_0, .int .i64 0, .int .i64 9] rfl ma_ ?_; (with_reducible refine (spec_l6In.calls a0_0 0 9 false _ A2.out).mono ?_); rintro e w' ⟨rfl, ⟨nd, rfl⟩⟩; refine ⟨_, rfl, ?_⟩))
  go_ret
  exact ⟨by first | rfl | (simp [errW_none, errW_some] <;> rfl) | (simp [*, errW_none, errW_some] <;> rfl), hB_⟩
end Go.Proofs.YtnponnkcfgjeoaaDoor.X
end
section
namespace Go.Proofs.YtnponnkcfgjeoaaDoor.X
open Go.RowKit Go.Proofs.YtnponnkcfgjeoaaDoorW.PrintWords Go.Proofs.YtnponnkcfgjeoaaDoorW.PrintLast Go.Proofs.YtnponnkcfgjeoaaDoorW.PrintMore
attribute [local go_sem] max2_int min2_int max_two min_two max_three min_three max_four min_four
set_option linter.unusedVariables false
set_option linter.unusedSimpArgs false
attribute [local go_sem high] eqA38
def spec_SegOk.f (a0_0 : Int) (a0_1 : Int) (a0_2 : Int) (a0_3 : Int) : Option (Bool) := (spec_PtOk.f a0_0 a0_1).bind fun t340 => (if t340 = true then ((spec_PtOk.f a0_2 a0_3).bind fun t341 => (if t341 = true then (some (!(a0_0 == a0_2) || (!(a0_1 == a0_3)))) else (some false))) else (some false))
set_option maxHeartbeats 8000000 in
set_option maxRecDepth 100000 in
theorem spec_SegOk.calls (a0_0 : Int) (a0_1 : Int) (a0_2 : Int) (a0_3 : Int) (r : Bool) (w : World) (h : spec_SegOk.f a0_0 a0_1 a0_2 a0_3 = some r) :
  Calls Tryd.prog 26 #[.agg #[.int .i64 a0_0, .int .i64 a0_1, .int .i64 a0_2, .int .i64 a0_3]] w fun e w' => e = .returned (.bool r) ∧ Below w.heap.size w w' := by
 have hu40 := Tryd.underlying40
 have hu38 := Tryd.underlying38
 have HB := Aside0.mk (Below.refl w.heap.size w)
 have H : ((spec_PtOk.f a0_0 a0_1).bind fun t340 => (if t340 = true then ((spec_PtOk.f a0_2 a0_3).bind fun t341 => (if t341 = true then (some (!(a0_0 == a0_2) || (!(a0_1 == a0_3)))) else (some false))) else (some false))) = some r := h
 clear h
 replace H := Option.bind_eq_some_iff.mp H
 obtain ⟨t340, A20, H⟩ := H
 replace H : (if t340 = true then ((spec_PtOk.f a0_2 a0_3).bind fun t341 => (if t341 = true then (some (!(a0_0 == a0_2) || (!(a0_1 == a0_3)))) else (some false))) else (some false)) = some r := H
 have A2 := Aside0.mk A20
 clear A20
 by_cases c3 : t340 = true
 ·
  subst c3
  have H1 : ((spec_PtOk.f a0_2 a0_3).bind fun t341 => (if t341 = true then (some (!(a0_0 == a0_2) || (!(a0_1 == a0_3)))) else (some false))) = some r := by rw [if_pos rfl] at H; exact H
  clear H
  have H := H1
  clear H1
  replace H := Option.bind_eq_some_iff.mp H
  obtain ⟨t341, A40, H⟩ := H
  replace H : (if t341 = true then (some (!(a0_0 == a0_2) || (!(a0_1 == a0_3)))) else (some false)) = some r := H
  have A4 := Aside0.mk A40
  clear A40
  by_cases c5 : t341 = true
  ·
   subst c5
   have H1 : (some (!(a0_0 == a0_2) || (!(a0_1 == a0_3)))) = some r := by rw [if_pos rfl] at H; exact H
   clear H
   have H := H1
   clear H1
   obtain rfl := Option.some.inj H
   go_enter Tryd.func26, Tryd.ntmps26
   go_wp2_with (first | ((with_reducible refine gate_dst (N := 1) rfl ?_); refine box_event ?hg (N := 1) ?hd (cs := #[.int .i64 a0_0, .int .i64 a0_1, .int .i64 a0_2, .int .i64 a0_3]) (t := 40) ?hr ?_; (case hd => rfl); (case hg => rfl); (case hr => first | (go_simp; done) | (go_simp; rfl)); intro gb339 hg w6 hbox hb; have n0_ := Aside0.mk (below_step hB_ hb); have n1_ := Aside0.mk (hbox); have n2_ := Aside0.mk ((by rw [hg]; exact (below_size hB_) : w.heap.size ≤ gb339)); have n3_ := Aside0.mk ((by rw [hg]; exact (below_size hB_) : w.heap.size ≤ gb339)); clear HB; have HB := n0_; have BK339 := n1_; have GW339 := n2_; have GE339 := n3_; clear n0_ n1_ n2_ n3_; clear hb hbox hg; have hcz7_0 : w6.cell? ⟨gb339, 0, none⟩ = some (.int .i64 a0_0) := bc_; have hcz7_1 : w6.cell? ⟨gb339, 1, none⟩ = some (.int .i64 a0_1) := bc_; have hcz7_2 : w6.cell? ⟨gb339, 2, none⟩ = some (.int .i64 a0_2) := bc_; have hcz7_3 : w6.cell? ⟨gb339, 3, none⟩ = some (.int .i64 a0_3) := bc_; have hfz7_0 := blk_frozen BK339.out 0; have hfz7_1 := blk_frozen BK339.out 1; have hfz7_2 := blk_frozen BK339.out 2; have hfz7_3 := blk_frozen BK339.out 3) | ((with_reducible refine gate_callee (f := 27) rfl ?_); refine goesL_ (some 5) rfl rfl Tryd.func27 (by kernel_rfl) rfl #[.agg #[.int .i64 a0_0, .int .i64 a0_1]] rfl ma_ ?_; (with_reducible refine (spec_PtOk.calls a0_0 a0_1 true _ A2.out).mono ?_); rintro e w8 ⟨rfl, hb⟩; refine ⟨_, rfl, ?_⟩; have n0_ := Aside0.mk (ub_ (g := gb339) hb); have n1_ := Aside0.mk (below_step hB_ hb); clear BK339; clear HB; have BK339 := n0_; have HB := n1_; clear n0_ n1_; (try clear hb); (try clear hb2); (try clear hk); (try clear hi); have hcz9_0 : w8.cell? ⟨gb339, 0, none⟩ = some (.int .i64 a0_0) := bc_; have hcz9_1 : w8.cell? ⟨gb339, 1, none⟩ = some (.int .i64 a0_1) := bc_; have hcz9_2 : w8.cell? ⟨gb339, 2, none⟩ = some (.int .i64 a0_2) := bc_; have hcz9_3 : w8.cell? ⟨gb339, 3, none⟩ = some (.int .i64 a0_3) := bc_; have hfz9_0 := blk_frozen BK339.out 0; have hfz9_1 := blk_frozen BK339.out 1; have hfz9_2 := blk_frozen BK339.out 2; have hfz9_3 := blk_frozen BK339.out 3) | (go_at_call 27; (with_reducible refine (spec_PtOk.calls a0_2 a0_3 true _ A4.out).mono ?_); rintro e w10 ⟨rfl, hb⟩; have n0_ := Aside0.mk (ub_ (g := gb339) hb); have n1_ := Aside0.mk (below_step hB_ hb); clear BK339; clear HB; have BK339 := n0_; have HB := n1_; clear n0_ n1_; (try clear hb); (try clear hb2); (try clear hk); (try clear hi); have hcz11_0 : w10.cell? ⟨gb339, 0, none⟩ = some (.int .i64 a0_0) := bc_; have hcz11_1 : w10.cell? ⟨gb339, 1, none⟩ = some (.int .i64 a0_1) := bc_; have hcz11_2 : w10.cell? ⟨gb339, 2, none⟩ = some (.int .i64 a0_2) := bc_; have hcz11_3 : w10.cell? ⟨gb339, 3, none⟩ = some (.int .i64 a0_3) := bc_; have hfz11_0 := blk_frozen BK339.out 0; have hfz11_1 := blk_frozen BK339.out 1; have hfz11_2 := blk_frozen BK339.out 2; have hfz11_3 := blk_frozen BK339.out 3))
   go_ret
   exact ⟨by first | rfl | (simp [errW_none, errW_some] <;> rfl) | (simp [*, errW_none, errW_some] <;> rfl), hB_⟩
  ·
   replace c5 := Bool.eq_false_iff.mpr c5
   subst c5
   have H1 : (some false) = some r := by rw [if_neg (show ¬ (false = true) by decide)] at H; exact H
   clear H
   have H := H1
   clear H1
   obtain rfl := Option.some.inj H
   go_enter Tryd.func26, Tryd.ntmps26
   go_wp2_with (first | ((with_reducible refine gate_dst (N := 1) rfl ?_); refine box_event ?hg (N := 1) ?hd (cs := #[.int .i64 a0_0, .int .i64 a0_1, .int .i64 a0_2, .int .i64 a0_3]) (t := 40) ?hr ?_; (case hd => rfl); (case hg => rfl); (case hr => first | (go_simp; done) | (go_simp; rfl)); intro gb339 hg w12 hbox hb; have n0_ := Aside0.mk (below_step hB_ hb); have n1_ := Aside0.mk (hbox); have n2_ := Aside0.mk ((by rw [hg]; exact (below_size hB_) : w.heap.size ≤ gb339)); have n3_ := Aside0.mk ((by rw [hg]; exact (below_size hB_) : w.heap.size ≤ gb339)); clear HB; have HB := n0_; have BK339 := n1_; have GW339 := n2_; have GE339 := n3_; clear n0_ n1_ n2_ n3_; clear hb hbox hg; have hcz13_0 : w12.cell? ⟨gb339, 0, none⟩ = some (.int .i64 a0_0) := bc_; have hcz13_1 : w12.cell? ⟨gb339, 1, none⟩ = some (.int .i64 a0_1) := bc_; have hcz13_2 : w12.cell? ⟨gb339, 2, none⟩ = some (.int .i64 a0_2) := bc_; have hcz13_3 : w12.cell? ⟨gb339, 3, none⟩ = some (.int .i64 a0_3) := bc_; have hfz13_0 := blk_frozen BK339.out 0; have hfz13_1 := blk_frozen BK339.out 1; have hfz13_2 := blk_frozen BK339.out 2; have hfz13_3 := blk_frozen BK339.out 3) | ((with_reducible refine gate_callee (f := 27) rfl ?_); refine goesL_ (some 5) rfl rfl Tryd.func27 (by kernel_rfl) rfl #[.agg #[.int .i64 a0_0, .int .i64 a0_1]] rfl ma_ ?_; (with_reducible refine (spec_PtOk.calls a0_0 a0_1 true _ A2.out).mono ?_); rintro e w14 ⟨rfl, hb⟩; refine ⟨_, rfl, ?_⟩; have n0_ := Aside0.mk (ub_ (g := gb339) hb); have n1_ := Aside0.mk (below_step hB_ hb); clear BK339; clear HB; have BK339 := n0_; have HB := n1_; clear n0_ n1_; (try clear hb); (try clear hb2); (try clear hk); (try clear hi); have hcz15_0 : w14.cell? ⟨gb339, 0, none⟩ = some (.int .i64 a0_0) := bc_; have hcz15_1 : w14.cell? ⟨gb339, 1, none⟩ = some (.int .i64 a0_1) := bc_; have hcz15_2 : w14.cell? ⟨gb339, 2, none⟩ = some (.int .i64 a0_2) := bc_; have hcz15_3 : w14.cell? ⟨gb339, 3, none⟩ = some (.int .i64 a0_3) := bc_; have hfz15_0 := blk_frozen BK339.out 0; have hfz15_1 := blk_frozen BK339.out 1; have hfz15_2 := blk_frozen BK339.out 2; have hfz15_3 := blk_frozen BK339.out 3) | (go_at_call 27; (with_reducible refine (spec_PtOk.calls a0_2 a0_3 false _ A4.out).mono ?_); rintro e w16 ⟨rfl, hb⟩; have n0_ := Aside0.mk (ub_ (g := gb339) hb); have n1_ := Aside0.mk (below_step hB_ hb); clear BK339; clear HB; have BK339 := n0_; have HB := n1_; clear n0_ n1_; (try clear hb); (try clear hb2); (try clear hk); (try clear hi)))
   go_ret
   exact ⟨by first | rfl | (simp [errW_none, errW_some] <;> rfl) | (simp [*, errW_none, errW_some] <;> rfl), hB_⟩
 ·
  replace c3 := Bool.eq_false_iff.mpr c3
  subst c3
  have H1 : (some false) = some r := by rw [if_neg (show ¬ (false = true) by decide)] at H; exact H
  clear H
  have H := H1
  clear H1
  obtain rfl := Option.some.inj H
  go_enter Tryd.func26, Tryd.ntmps26
  go_wp2_with (first | ((with_reducible refine gate_dst (N := 1) rfl ?_); refine box_event ?hg (N := 1) ?hd (cs := #[.int .i64 a0_0, .int .i64 a0_1, .int .i64 a0_2, .int .i64 a0_3]) (t := 40) ?hr ?_; (case hd => rfl); (case hg => rfl); (case hr => first | (go_simp; done) | (go_simp; rfl)); intro gb339 hg w17 hbox hb; have n0_ := Aside0.mk (below_step hB_ hb); have n1_ := Aside0.mk (hbox); have n2_ := Aside0.mk ((by rw [hg]; exact (below_size hB_) : w.heap.size ≤ gb339)); have n3_ := Aside0.mk ((by rw [hg]; exact (below_size hB_) : w.heap.size ≤ gb339)); clear HB; have HB := n0_; have BK339 := n1_; have GW339 := n2_; have GE339 := n3_; clear n0_ n1_ n2_ n3_; clear hb hbox hg; have hcz18_0 : w17.cell? ⟨gb339, 0, none⟩ = some (.int .i64 a0_0) := bc_; have hcz18_1 : w17.cell? ⟨gb339, 1, none⟩ = some (.int .i64 a0_1) := bc_; have hcz18_2 : w17.cell? ⟨gb339, 2, none⟩ = some (.int .i64 a0_2) := bc_; have hcz18_3 : w17.cell? ⟨gb339, 3, none⟩ = some (.int .i64 a0_3) := bc_; have hfz18_0 := blk_frozen BK339.out 0; have hfz18_1 := blk_frozen BK339.out 1; have hfz18_2 := blk_frozen BK339.out 2; have hfz18_3 := blk_frozen BK339.out 3) | ((with_reducible refine gate_callee (f := 27) rfl ?_); refine goesL_ (some 5) rfl rfl Tryd.func27 (by kernel_rfl) rfl #[.agg #[.int .i64 a0_0, .int .i64 a0_1]] rfl ma_ ?_; (with_reducible refine (spec_PtOk.calls a0_0 a0_1 false _ A2.out).mono ?_); rintro e w19 ⟨rfl, hb⟩; refine ⟨_, rfl, ?_⟩; have n0_ := Aside0.mk (ub_ (g := gb339) hb); have n1_ := Aside0.mk (below_step hB_ hb); clear BK339; clear HB; have BK339 := n0_; have HB := n1_; clear n0_ n1_; (try clear hb); (try clear hb2); (try clear hk); (try clear hi)))
  go_ret
  exact ⟨by first | rfl | (simp [errW_none, errW_some] <;> rfl) | (simp [*, errW_none, errW_some] <;> rfl), hB_⟩
end Go.Proofs.YtnponnkcfgjeoaaDoor.X
end
