import Derived.Test.YtnponnkcfgjeoaaDoorK
import Derived.Test.YtnponnkcfgjeoaaDoorQ
import Derived.Test.YtnponnkcfgjeoaaDoorErr
import Derived.Test.YtnponnkcfgjeoaaDoorFSpecDrawFracCmp
import Derived.Test.YtnponnkcfgjeoaaDoorFSpecFracCmp
import Derived.Test.YtnponnkcfgjeoaaDoorHFrac
namespace Go.Proofs.YtnponnkcfgjeoaaDoor.X
open Go.RowKit Go.Proofs.YtnponnkcfgjeoaaDoorW.PrintWords Go.Proofs.YtnponnkcfgjeoaaDoorW.PrintLast Go.Proofs.YtnponnkcfgjeoaaDoorW.PrintMore
attribute [local go_sem] max2_int min2_int max_two min_two max_three min_three max_four min_four
set_option linter.unusedVariables false
set_option linter.unusedSimpArgs false

attribute [local go_sem high] eqA25
/-! ### laws_FnFracOrder: function 6 -/
def laws_FnFracOrder.j0 : Nat → Int → Bool → Int → Int → Int → Int → Option (Bool)
  | 0, _, _, _, _, _, _ => none
  | k + 1, x5, x25, x215000, x215001, x216000, x216001 => if x25 = true then ((spec_FracCmp.f k x215000 x215001 x216000 x216001).bind fun t218 => (some (x5 == t218))) else ((impl_FracCmp.f x216000 x216001 x215000 x215001).bind fun t219 => (if t219 = (wrap64 (-x5)) then (if ((x5 == 0) == (x215000 == x216000 && (x215001 == x216001))) = true then ((impl_FracCmp.f x215000 x215001 x215000 x215001).bind fun t220 => (some (t220 == 0))) else (some false)) else (some false)))
def laws_FnFracOrder.f (k : Nat) (l0 : List Int) : Option (Bool) := if (l0.length : Int) > 1048576 then (some true) else ((spec_DrawFracCmp.f k l0).bind fun bt210 => ((impl_FracCmp.f bt210.1 bt210.2.1 bt210.2.2.1 bt210.2.2.2).bind fun t216 => ((spec_FracCmp.f k bt210.1 bt210.2.1 bt210.2.2.1 bt210.2.2.2).bind fun t217 => (if t216 = t217 then (laws_FnFracOrder.j0 k t216 (t216 == 2) bt210.1 bt210.2.1 bt210.2.2.1 bt210.2.2.2) else (laws_FnFracOrder.j0 k t216 true bt210.1 bt210.2.1 bt210.2.2.1 bt210.2.2.2)))))
theorem laws_FnFracOrder.mono_l : ∀ k, (∀ y0 y1 y2 y3 y4 y5, LeO (laws_FnFracOrder.j0 k y0 y1 y2 y3 y4 y5) (laws_FnFracOrder.j0 (k + 1) y0 y1 y2 y3 y4 y5))
  | 0 => fun _ _ _ _ _ _ r h => by simp [laws_FnFracOrder.j0] at h
  | k + 1 => by
    have ih0 := laws_FnFracOrder.mono_l k
    · intro y0 y1 y2 y3 y4 y5
      unfold laws_FnFracOrder.j0
      repeat' first
      | (with_reducible exact ih0 _ _ _ _ _ _)
      | (with_reducible exact spec_DrawFracCmp.mono _ _)
      | (with_reducible exact spec_FracCmp.mono _ _ _ _ _)
      | (with_reducible exact LeO.refl _)
      | (with_reducible exact LeO.none _)
      | (with_reducible refine LeO.ite ?_ ?_)
      | (with_reducible refine LeO.bind ?_ (fun _ => ?_))
      | exact ih0 _ _ _ _ _ _
      | exact spec_DrawFracCmp.mono _ _
      | exact spec_FracCmp.mono _ _ _ _ _
      | exact LeO.none _
      | refine LeO.ite ?_ ?_
      | refine LeO.bind ?_ (fun _ => ?_)
theorem laws_FnFracOrder.mono : ∀ a0 k, LeO (laws_FnFracOrder.f k a0) (laws_FnFracOrder.f (k + 1) a0) := by
  intro a0 k
  have ih0 := laws_FnFracOrder.mono_l k
  unfold laws_FnFracOrder.f
  repeat' first
      | (with_reducible exact ih0 _ _ _ _ _ _)
      | (with_reducible exact spec_DrawFracCmp.mono _ _)
      | (with_reducible exact spec_FracCmp.mono _ _ _ _ _)
      | (with_reducible exact LeO.refl _)
      | (with_reducible exact LeO.none _)
      | (with_reducible refine LeO.ite ?_ ?_)
      | (with_reducible refine LeO.bind ?_ (fun _ => ?_))
      | exact ih0 _ _ _ _ _ _
      | exact spec_DrawFracCmp.mono _ _
      | exact spec_FracCmp.mono _ _ _ _ _
      | exact LeO.none _
      | refine LeO.ite ?_ ?_
      | refine LeO.bind ?_ (fun _ => ?_)
set_option maxHeartbeats 8000000 in
set_option maxRecDepth 100000 in
theorem laws_FnFracOrder.calls (k : Nat) (A0 : Option Addr) (c0 : Nat) (l0 : List Int) (r : Bool) (w : World) (hr0 : Kd.C (Kd.int .u8) w A0 l0.length l0) (hc0 : l0.length ≤ c0) (hE : ErrW w) (h : laws_FnFracOrder.f k l0 = some r) :
    Calls Tryd.prog 6 #[.slice A0 l0.length c0] w fun e w' => e = .returned (.bool r) ∧ Below w.heap.size w w' := by
  have hu25 := Tryd.underlying25
  have HR0 := Aside0.mk hr0
  have HC0 := Aside0.mk hc0
  clear hr0 hc0
  have HB := Aside0.mk (Below.refl w.heap.size w)
  have HE := Aside0.mk hE
  clear hE
  have H : (if (l0.length : Int) > 1048576 then (some true) else ((spec_DrawFracCmp.f k l0).bind fun bt210 => ((impl_FracCmp.f bt210.1 bt210.2.1 bt210.2.2.1 bt210.2.2.2).bind fun t216 => ((spec_FracCmp.f k bt210.1 bt210.2.1 bt210.2.2.1 bt210.2.2.2).bind fun t217 => (if t216 = t217 then (laws_FnFracOrder.j0 k t216 (t216 == 2) bt210.1 bt210.2.1 bt210.2.2.1 bt210.2.2.2) else (laws_FnFracOrder.j0 k t216 true bt210.1 bt210.2.1 bt210.2.2.1 bt210.2.2.2)))))) = some r := h
  clear h
  by_cases c2 : (l0.length : Int) > 1048576
  · rw [if_pos c2] at H
    have c2b0 : decide (1048576 < (l0.length : Int)) = true := decide_eq_true c2
    have c2b1 : decide (1048576 < l0.length) = true := decide_eq_true (by omega)
    clear c2
    obtain rfl := Option.some.inj H
    go_enter Tryd.func6, Tryd.ntmps6
    go_wp2
    go_ret
    exact ⟨by first | rfl | (simp [errW_none, errW_some] <;> rfl) | (simp [*, errW_none, errW_some] <;> rfl), by repeat (first | (with_reducible first | exact HB.out | apply below_alloc | apply pw_below_drewN | apply below_drew1) | exact HB.out)⟩
  · rw [if_neg c2] at H
    have c2b0 : decide (1048576 < (l0.length : Int)) = false := decide_eq_false c2
    have c2b1 : decide (1048576 < l0.length) = false := decide_eq_false (by omega)
    clear c2
    replace H := Option.bind_eq_some_iff.mp H
    obtain ⟨⟨t210, t211, t212, t213⟩, A30, H⟩ := H
    replace H : ((impl_FracCmp.f t210 t211 t212 t213).bind fun t216 => ((spec_FracCmp.f k t210 t211 t212 t213).bind fun t217 => (if t216 = t217 then (laws_FnFracOrder.j0 k t216 (t216 == 2) t210 t211 t212 t213) else (laws_FnFracOrder.j0 k t216 true t210 t211 t212 t213)))) = some r := H
    have A3 := Aside0.mk A30
    clear A30
    replace H := Option.bind_eq_some_iff.mp H
    obtain ⟨t216, A40, H⟩ := H
    replace H : ((spec_FracCmp.f k t210 t211 t212 t213).bind fun t217 => (if t216 = t217 then (laws_FnFracOrder.j0 k t216 (t216 == 2) t210 t211 t212 t213) else (laws_FnFracOrder.j0 k t216 true t210 t211 t212 t213))) = some r := H
    have A4 := Aside0.mk A40
    clear A40
    have HC5 := Aside0.mk H
    clear H
    go_enter Tryd.func6, Tryd.ntmps6
    go_upto_region 5 with (first | ((with_reducible refine gate_callee (f := 22) rfl ?_); refine goesL_ (some 11) rfl rfl Tryd.func22 (by kernel_rfl) rfl #[.slice A0 l0.length c0] rfl (by (try simp only [List.map_toArray, List.map_cons, List.map_nil]); first | done | rfl | (simp only [List.length_drop, List.length_take]; rfl)) ?_; (with_reducible refine (spec_DrawFracCmp.calls k _ _ l0 t210 t211 t212 t213 _ ?side1 ?side2 A3.out).mono ?_); (case side1 => repeat (first | exact HR0.out | (with_reducible refine Kd.C_alloc ?_ _) | (with_reducible refine Kd.C_drewN ?_ _) | (with_reducible refine Kd.C_drew ?_))); (case side2 => exact HC0.out); rintro e w6 ⟨rfl, hb⟩; refine ⟨_, rfl, ?_⟩; have n0_ := Aside0.mk (below_step (by repeat (first | (with_reducible first | exact HB.out | apply below_alloc | apply pw_below_drewN | apply below_drew1) | exact HB.out)) hb); clear HB; have HB := n0_; clear n0_; (try clear hb); (try clear hb2); (try clear hk); (try clear hi)) | ((with_reducible refine gate_dst (N := 3) rfl ?_); refine box_event ?hg (N := 3) ?hd (cs := #[.int .i64 0, .int .i64 0]) (t := 25) ?hr ?_; (case hd => rfl); (case hg => rfl); (case hr => first | (go_simp; done) | (go_simp; rfl)); intro gb214 hg w7 hbox hb; have n0_ := Aside0.mk (below_step (by repeat (first | (with_reducible first | exact HB.out | apply below_alloc | apply pw_below_drewN | apply below_drew1) | exact HB.out)) hb); have n1_ := Aside0.mk (hbox); have n2_ := Aside0.mk ((by rw [hg]; exact (below_size (by repeat (first | (with_reducible first | exact HB.out | apply below_alloc | apply pw_below_drewN | apply below_drew1) | exact HB.out))) : w.heap.size ≤ gb214)); have n3_ := Aside0.mk ((by rw [hg]; exact (below_size (by repeat (first | (with_reducible first | exact HB.out | apply below_alloc | apply pw_below_drewN | apply below_drew1) | exact HB.out))) : w.heap.size ≤ gb214)); clear HB; have HB := n0_; have BK214 := n1_; have GW214 := n2_; have GE214 := n3_; clear n0_ n1_ n2_ n3_; clear hb hbox hg) | ((with_reducible refine gate_dst (N := 4) rfl ?_); refine box_event ?hg (N := 4) ?hd (cs := #[.int .i64 0, .int .i64 0]) (t := 25) ?hr ?_; (case hd => rfl); (case hg => rfl); (case hr => first | (go_simp; done) | (go_simp; rfl)); intro gb215 hg w8 hbox hb; have n0_ := Aside0.mk (blk_below (g := gb214) (o := .cells #[.int .i64 0, .int .i64 0] 25 (0, 0)) (by (with_reducible repeat (first | refine blk_drewN ?_ _ | refine blk_drew ?_ | refine blk_alloc ?_ _)); exact BK214.out) hb); have n1_ := Aside0.mk (below_step (by repeat (first | (with_reducible first | exact HB.out | apply below_alloc | apply pw_below_drewN | apply below_drew1 | refine below_set ?_ GE214.out) | exact HB.out)) hb); have n2_ := Aside0.mk (hbox); have n3_ := Aside0.mk ((by rw [hg]; exact (below_size (by repeat (first | (with_reducible first | exact HB.out | apply below_alloc | apply pw_below_drewN | apply below_drew1 | refine below_set ?_ GE214.out) | exact HB.out))) : w.heap.size ≤ gb215)); have n4_ := Aside0.mk ((by rw [hg]; exact (below_size (by repeat (first | (with_reducible first | exact HB.out | apply below_alloc | apply pw_below_drewN | apply below_drew1 | refine below_set ?_ GE214.out) | exact HB.out))) : w.heap.size ≤ gb215)); have n5_ := Aside0.mk ((by rw [hg]; exact Nat.ne_of_lt (blk_lt (g := gb214) (o := .cells #[.int .i64 0, .int .i64 0] 25 (0, 0)) (by (with_reducible repeat (first | refine blk_drewN ?_ _ | refine blk_drew ?_ | refine blk_alloc ?_ _)); exact BK214.out)) : gb214 ≠ gb215)); have n6_ := Aside0.mk ((by rw [hg]; exact Nat.ne_of_gt (blk_lt (g := gb214) (o := .cells #[.int .i64 0, .int .i64 0] 25 (0, 0)) (by (with_reducible repeat (first | refine blk_drewN ?_ _ | refine blk_drew ?_ | refine blk_alloc ?_ _)); exact BK214.out)) : gb215 ≠ gb214)); clear BK214; clear HB; have BK214 := n0_; have HB := n1_; have BK215 := n2_; have GW215 := n3_; have GE215 := n4_; have NB214_215 := n5_; have NB215_214 := n6_; clear n0_ n1_ n2_ n3_ n4_ n5_ n6_; clear hb hbox hg; have hnb9 := NB214_215.out; have hnc9 := NB215_214.out; have hcz10_0 : w8.cell? ⟨gb214, 0, none⟩ = some (.int .i64 0) := (blk_cell BK214.out 0).trans rfl; have hcz10_1 : w8.cell? ⟨gb214, 1, none⟩ = some (.int .i64 0) := (blk_cell BK214.out 1).trans rfl; have hfz10_0 := blk_frozen BK214.out 0; have hfz10_1 := blk_frozen BK214.out 1; have hcz11_0 : w8.cell? ⟨gb215, 0, none⟩ = some (.int .i64 0) := (blk_cell BK215.out 0).trans rfl; have hcz11_1 : w8.cell? ⟨gb215, 1, none⟩ = some (.int .i64 0) := (blk_cell BK215.out 1).trans rfl; have hfz11_0 := blk_frozen BK215.out 0; have hfz11_1 := blk_frozen BK215.out 1) | ((with_reducible refine gate_callee (f := 17) rfl ?_); refine goesL_ (some 16) rfl rfl Tryd.func17 (by kernel_rfl) rfl #[.agg #[.int .i64 t210, .int .i64 t211], .agg #[.int .i64 t212, .int .i64 t213]] rfl (by (try simp only [List.map_toArray, List.map_cons, List.map_nil]); first | done | rfl | (simp only [List.length_drop, List.length_take]; rfl)) ?_; (with_reducible refine (impl_FracCmp.calls t210 t211 t212 t213 t216 _ ?side1 A4.out).mono ?_); (case side1 => exact ErrW.below HE.out (by repeat (first | (with_reducible first | exact HB.out | apply below_alloc | apply pw_below_drewN | apply below_drew1 | refine below_set ?_ GE214.out | refine below_set ?_ GE215.out) | exact HB.out))); rintro e w12 ⟨rfl, hb⟩; refine ⟨_, rfl, ?_⟩; have n0_ := Aside0.mk (blk_below (g := gb214) (o := .cells #[.int .i64 t210, .int .i64 t211] 25 (0, 0)) (by (with_reducible repeat (first | refine blk_drewN ?_ _ | refine blk_drew ?_ | refine blk_alloc ?_ _)); refine blk_far ?_ NB214_215.out _; (with_reducible repeat (first | refine blk_drewN ?_ _ | refine blk_drew ?_ | refine blk_alloc ?_ _)); refine blk_far ?_ NB214_215.out _; (with_reducible repeat (first | refine blk_drewN ?_ _ | refine blk_drew ?_ | refine blk_alloc ?_ _)); refine blk_put (cs := #[.int .i64 t210, .int .i64 0]) ?_ 1 _ rfl; (with_reducible repeat (first | refine blk_drewN ?_ _ | refine blk_drew ?_ | refine blk_alloc ?_ _)); refine blk_put (cs := #[.int .i64 0, .int .i64 0]) ?_ 0 _ rfl; (with_reducible repeat (first | refine blk_drewN ?_ _ | refine blk_drew ?_ | refine blk_alloc ?_ _)); exact BK214.out) hb); have n1_ := Aside0.mk (blk_below (g := gb215) (o := .cells #[.int .i64 t212, .int .i64 t213] 25 (0, 0)) (by (with_reducible repeat (first | refine blk_drewN ?_ _ | refine blk_drew ?_ | refine blk_alloc ?_ _)); refine blk_put (cs := #[.int .i64 t212, .int .i64 0]) ?_ 1 _ rfl; (with_reducible repeat (first | refine blk_drewN ?_ _ | refine blk_drew ?_ | refine blk_alloc ?_ _)); refine blk_put (cs := #[.int .i64 0, .int .i64 0]) ?_ 0 _ rfl; (with_reducible repeat (first | refine blk_drewN ?_ _ | refine blk_drew ?_ | refine blk_alloc ?_ _)); refine blk_far ?_ NB215_214.out _; (with_reducible repeat (first | refine blk_drewN ?_ _ | refine blk_drew ?_ | refine blk_alloc ?_ _)); refine blk_far ?_ NB215_214.out _; (with_reducible repeat (first | refine blk_drewN ?_ _ | refine blk_drew ?_ | refine blk_alloc ?_ _)); exact BK215.out) hb); have n2_ := Aside0.mk (below_step (by repeat (first | (with_reducible first | exact HB.out | apply below_alloc | apply pw_below_drewN | apply below_drew1 | refine below_set ?_ GE214.out | refine below_set ?_ GE215.out) | exact HB.out)) hb); clear BK214; clear BK215; clear HB; have BK214 := n0_; have BK215 := n1_; have HB := n2_; clear n0_ n1_ n2_; (try clear hb); (try clear hb2); (try clear hk); (try clear hi)))
    (try simp only [Act.put, List.setIfInBounds_toArray, List.set_cons_zero, List.set_cons_succ])
    go_cut [25] (fun v25 wc => ∃ (kq : Nat) (x25_4 : Bool), v25 = .bool x25_4 ∧ Aside0 (laws_FnFracOrder.j0 kq t216 x25_4 t210 t211 t212 t213 = some r) ∧ Aside0 (kq ≤ k) ∧ Aside0 (wc.heap[gb214]? = some (.cells #[.int .i64 t210, .int .i64 t211] 25 (0, 0))) ∧ Aside0 (wc.heap[gb215]? = some (.cells #[.int .i64 t212, .int .i64 t213] 25 (0, 0))) ∧ Aside0 (Below w.heap.size w wc))
    case first =>
      have H := HC5.out
      clear HC5
      replace H := Option.bind_eq_some_iff.mp H
      obtain ⟨t217, A130, H⟩ := H
      replace H : (if t216 = t217 then (laws_FnFracOrder.j0 k t216 (t216 == 2) t210 t211 t212 t213) else (laws_FnFracOrder.j0 k t216 true t210 t211 t212 t213)) = some r := H
      have A13 := Aside0.mk A130
      clear A130
      by_cases c14 : t216 = t217
      · rw [if_pos c14] at H
        have c14b0 : (t216 == t217) = true := beq_iff_eq.mpr c14
        have c14b1 : (t216 != t217) = false := bne_eq_false_iff_eq.mpr c14
        clear c14
        (first | rw [c14b0] | (simp only [i64_w, i32_w]; rw [c14b0]) | skip)
        have H' := Aside0.mk H
        clear H
        have hnb15 := NB214_215.out
        have hnc15 := NB215_214.out
        have hcz16_0 : w12.cell? ⟨gb214, 0, none⟩ = some (.int .i64 t210) := (blk_cell BK214.out 0).trans rfl
        have hcz16_1 : w12.cell? ⟨gb214, 1, none⟩ = some (.int .i64 t211) := (blk_cell BK214.out 1).trans rfl
        have hfz16_0 := blk_frozen BK214.out 0
        have hfz16_1 := blk_frozen BK214.out 1
        have hcz17_0 : w12.cell? ⟨gb215, 0, none⟩ = some (.int .i64 t212) := (blk_cell BK215.out 0).trans rfl
        have hcz17_1 : w12.cell? ⟨gb215, 1, none⟩ = some (.int .i64 t213) := (blk_cell BK215.out 1).trans rfl
        have hfz17_0 := blk_frozen BK215.out 0
        have hfz17_1 := blk_frozen BK215.out 1
        go_wp2_with (first | ((with_reducible refine gate_callee (f := 15) rfl ?_); refine goesL_ (some 20) rfl rfl Tryd.func15 (by kernel_rfl) rfl #[.agg #[.int .i64 t210, .int .i64 t211], .agg #[.int .i64 t212, .int .i64 t213]] rfl (by (try simp only [List.map_toArray, List.map_cons, List.map_nil]); first | done | rfl | (simp only [List.length_drop, List.length_take]; rfl)) ?_; (with_reducible refine (spec_FracCmp.calls k t210 t211 t212 t213 t217 _ A13.out).mono ?_); rintro e w18 ⟨rfl, hb⟩; refine ⟨_, rfl, ?_⟩; have n0_ := Aside0.mk (blk_below (g := gb214) (o := .cells #[.int .i64 t210, .int .i64 t211] 25 (0, 0)) (by (with_reducible repeat (first | refine blk_drewN ?_ _ | refine blk_drew ?_ | refine blk_alloc ?_ _)); exact BK214.out) hb); have n1_ := Aside0.mk (blk_below (g := gb215) (o := .cells #[.int .i64 t212, .int .i64 t213] 25 (0, 0)) (by (with_reducible repeat (first | refine blk_drewN ?_ _ | refine blk_drew ?_ | refine blk_alloc ?_ _)); exact BK215.out) hb); have n2_ := Aside0.mk (below_step (by repeat (first | (with_reducible first | exact HB.out | apply below_alloc | apply pw_below_drewN | apply below_drew1 | refine below_set ?_ GE214.out | refine below_set ?_ GE215.out) | exact HB.out)) hb); clear BK214; clear BK215; clear HB; have BK214 := n0_; have BK215 := n1_; have HB := n2_; clear n0_ n1_ n2_; (try clear hb); (try clear hb2); (try clear hk); (try clear hi)))
        go_meet
        case rel => exact ⟨_, ((t216 == 2)), (by first | rfl | (simp; done) | (simp [*]; done)), H', ⟨by first | omega | exact Nat.le_refl _⟩, ⟨by (with_reducible repeat (first | refine blk_drewN ?_ _ | refine blk_drew ?_ | refine blk_alloc ?_ _)); exact BK214.out⟩, ⟨by (with_reducible repeat (first | refine blk_drewN ?_ _ | refine blk_drew ?_ | refine blk_alloc ?_ _)); exact BK215.out⟩, ⟨by repeat (first | (with_reducible first | exact HB.out | apply below_alloc | apply pw_below_drewN | apply below_drew1 | refine below_set ?_ GE214.out | refine below_set ?_ GE215.out) | exact HB.out)⟩⟩
      · rw [if_neg c14] at H
        have c14b0 : (t216 == t217) = false := beq_eq_false_iff_ne.mpr c14
        have c14b1 : (t216 != t217) = true := bne_iff_ne.mpr c14
        (first | rw [c14b0] | (simp only [i64_w, i32_w]; rw [c14b0]) | skip)
        have H' := Aside0.mk H
        clear H
        have hnb19 := NB214_215.out
        have hnc19 := NB215_214.out
        have hcz20_0 : w12.cell? ⟨gb214, 0, none⟩ = some (.int .i64 t210) := (blk_cell BK214.out 0).trans rfl
        have hcz20_1 : w12.cell? ⟨gb214, 1, none⟩ = some (.int .i64 t211) := (blk_cell BK214.out 1).trans rfl
        have hfz20_0 := blk_frozen BK214.out 0
        have hfz20_1 := blk_frozen BK214.out 1
        have hcz21_0 : w12.cell? ⟨gb215, 0, none⟩ = some (.int .i64 t212) := (blk_cell BK215.out 0).trans rfl
        have hcz21_1 : w12.cell? ⟨gb215, 1, none⟩ = some (.int .i64 t213) := (blk_cell BK215.out 1).trans rfl
        have hfz21_0 := blk_frozen BK215.out 0
        have hfz21_1 := blk_frozen BK215.out 1
        go_wp2_with (first | ((with_reducible refine gate_callee (f := 15) rfl ?_); refine goesL_ (some 20) rfl rfl Tryd.func15 (by kernel_rfl) rfl #[.agg #[.int .i64 t210, .int .i64 t211], .agg #[.int .i64 t212, .int .i64 t213]] rfl (by (try simp only [List.map_toArray, List.map_cons, List.map_nil]); first | done | rfl | (simp only [List.length_drop, List.length_take]; rfl)) ?_; (with_reducible refine (spec_FracCmp.calls k t210 t211 t212 t213 t217 _ A13.out).mono ?_); rintro e w22 ⟨rfl, hb⟩; refine ⟨_, rfl, ?_⟩; have n0_ := Aside0.mk (blk_below (g := gb214) (o := .cells #[.int .i64 t210, .int .i64 t211] 25 (0, 0)) (by (with_reducible repeat (first | refine blk_drewN ?_ _ | refine blk_drew ?_ | refine blk_alloc ?_ _)); exact BK214.out) hb); have n1_ := Aside0.mk (blk_below (g := gb215) (o := .cells #[.int .i64 t212, .int .i64 t213] 25 (0, 0)) (by (with_reducible repeat (first | refine blk_drewN ?_ _ | refine blk_drew ?_ | refine blk_alloc ?_ _)); exact BK215.out) hb); have n2_ := Aside0.mk (below_step (by repeat (first | (with_reducible first | exact HB.out | apply below_alloc | apply pw_below_drewN | apply below_drew1 | refine below_set ?_ GE214.out | refine below_set ?_ GE215.out) | exact HB.out)) hb); clear BK214; clear BK215; clear HB; have BK214 := n0_; have BK215 := n1_; have HB := n2_; clear n0_ n1_ n2_; (try clear hb); (try clear hb2); (try clear hk); (try clear hi)))
        go_meet
        case rel => exact ⟨_, (true), (by first | rfl | (simp; done) | (simp [*]; done)), H', ⟨by first | omega | exact Nat.le_refl _⟩, ⟨by (with_reducible repeat (first | refine blk_drewN ?_ _ | refine blk_drew ?_ | refine blk_alloc ?_ _)); exact BK214.out⟩, ⟨by (with_reducible repeat (first | refine blk_drewN ?_ _ | refine blk_drew ?_ | refine blk_alloc ?_ _)); exact BK215.out⟩, ⟨by repeat (first | (with_reducible first | exact HB.out | apply below_alloc | apply pw_below_drewN | apply below_drew1 | refine below_set ?_ GE214.out | refine below_set ?_ GE215.out) | exact HB.out)⟩⟩
    case rest =>
      clear HC5
      try clear c1
      try clear c2
      try clear c2b0
      try clear c2b1
      try clear p2
      try clear c6
      try clear c9
      try clear c14
      try clear c14b0
      try clear c14b1
      try clear c15
      try clear c17
      try clear c19
      try clear c22
      try clear hcz10_0
      try clear hcz10_1
      try clear hcz11_0
      try clear hcz11_1
      try clear hcz16_0
      try clear hcz16_1
      try clear hcz17_0
      try clear hcz17_1
      try clear hcz20_0
      try clear hcz20_1
      try clear hcz21_0
      try clear hcz21_1
      try clear hfz10_0
      try clear hfz10_1
      try clear hfz11_0
      try clear hfz11_1
      try clear hfz16_0
      try clear hfz16_1
      try clear hfz17_0
      try clear hfz17_1
      try clear hfz20_0
      try clear hfz20_1
      try clear hfz21_0
      try clear hfz21_1
      obtain ⟨kq, x25_4, rfl, HA, HJ4, BK214, BK215, HB⟩ := hcut
      cases kq with
      | zero => exact absurd HA.out (by simp [laws_FnFracOrder.j0])
      | succ kj4 =>
        have H := HA.out
        clear HA
        simp only [laws_FnFracOrder.j0] at H
        by_cases c23 : x25_4 = true
        · subst c23
          have H1 : ((spec_FracCmp.f kj4 t210 t211 t212 t213).bind fun t218 => (some (t216 == t218))) = some r := by rw [if_pos rfl] at H; exact H
          clear H
          have H := H1
          clear H1
          replace H := Option.bind_eq_some_iff.mp H
          obtain ⟨t218, A240, H⟩ := H
          replace H : (some (t216 == t218)) = some r := H
          have A24 := Aside0.mk A240
          clear A240
          obtain rfl := Option.some.inj H
          have hnb25 := NB214_215.out
          have hnc25 := NB215_214.out
          have hcz26_0 : wc.cell? ⟨gb214, 0, none⟩ = some (.int .i64 t210) := (blk_cell BK214.out 0).trans rfl
          have hcz26_1 : wc.cell? ⟨gb214, 1, none⟩ = some (.int .i64 t211) := (blk_cell BK214.out 1).trans rfl
          have hfz26_0 := blk_frozen BK214.out 0
          have hfz26_1 := blk_frozen BK214.out 1
          have hcz27_0 : wc.cell? ⟨gb215, 0, none⟩ = some (.int .i64 t212) := (blk_cell BK215.out 0).trans rfl
          have hcz27_1 : wc.cell? ⟨gb215, 1, none⟩ = some (.int .i64 t213) := (blk_cell BK215.out 1).trans rfl
          have hfz27_0 := blk_frozen BK215.out 0
          have hfz27_1 := blk_frozen BK215.out 1
          go_wp2_with (first | ((with_reducible refine gate_callee (f := 15) rfl ?_); refine goesL_ (some 29) rfl rfl Tryd.func15 (by kernel_rfl) rfl #[.agg #[.int .i64 t210, .int .i64 t211], .agg #[.int .i64 t212, .int .i64 t213]] rfl (by (try simp only [List.map_toArray, List.map_cons, List.map_nil]); first | done | rfl | (simp only [List.length_drop, List.length_take]; rfl)) ?_; (with_reducible refine (spec_FracCmp.calls kj4 t210 t211 t212 t213 t218 _ A24.out).mono ?_); rintro e w28 ⟨rfl, hb⟩; refine ⟨_, rfl, ?_⟩; have n0_ := Aside0.mk (blk_below (g := gb214) (o := .cells #[.int .i64 t210, .int .i64 t211] 25 (0, 0)) (by (with_reducible repeat (first | refine blk_drewN ?_ _ | refine blk_drew ?_ | refine blk_alloc ?_ _)); exact BK214.out) hb); have n1_ := Aside0.mk (blk_below (g := gb215) (o := .cells #[.int .i64 t212, .int .i64 t213] 25 (0, 0)) (by (with_reducible repeat (first | refine blk_drewN ?_ _ | refine blk_drew ?_ | refine blk_alloc ?_ _)); exact BK215.out) hb); have n2_ := Aside0.mk (below_step (by repeat (first | (with_reducible first | exact HB.out | apply below_alloc | apply pw_below_drewN | apply below_drew1 | refine below_set ?_ GE214.out | refine below_set ?_ GE215.out) | exact HB.out)) hb); clear BK214; clear BK215; clear HB; have BK214 := n0_; have BK215 := n1_; have HB := n2_; clear n0_ n1_ n2_; (try clear hb); (try clear hb2); (try clear hk); (try clear hi)))
          go_ret
          exact ⟨by first | rfl | (simp [errW_none, errW_some] <;> rfl) | (simp [*, errW_none, errW_some] <;> rfl), by repeat (first | (with_reducible first | exact HB.out | apply below_alloc | apply pw_below_drewN | apply below_drew1 | refine below_set ?_ GE214.out | refine below_set ?_ GE215.out) | exact HB.out)⟩
        · replace c23 := Bool.eq_false_iff.mpr c23
          subst c23
          have H1 : ((impl_FracCmp.f t212 t213 t210 t211).bind fun t219 => (if t219 = (wrap64 (-t216)) then (if ((t216 == 0) == (t210 == t212 && (t211 == t213))) = true then ((impl_FracCmp.f t210 t211 t210 t211).bind fun t220 => (some (t220 == 0))) else (some false)) else (some false))) = some r := by rw [if_neg (show ¬ (false = true) by decide)] at H; exact H
          clear H
          have H := H1
          clear H1
          replace H := Option.bind_eq_some_iff.mp H
          obtain ⟨t219, A290, H⟩ := H
          replace H : (if t219 = (wrap64 (-t216)) then (if ((t216 == 0) == (t210 == t212 && (t211 == t213))) = true then ((impl_FracCmp.f t210 t211 t210 t211).bind fun t220 => (some (t220 == 0))) else (some false)) else (some false)) = some r := H
          have A29 := Aside0.mk A290
          clear A290
          by_cases c30 : t219 = (wrap64 (-t216))
          · rw [if_pos c30] at H
            have c30b0 : (t219 == (wrap64 (-t216))) = true := beq_iff_eq.mpr c30
            have c30b1 : (t219 != (wrap64 (-t216))) = false := bne_eq_false_iff_eq.mpr c30
            clear c30
            by_cases c31 : ((t216 == 0) == (t210 == t212 && (t211 == t213))) = true
            · rw [if_pos c31] at H
              have c31b0 : ((t216 == 0) == (t210 == t212 && (t211 == t213))) = true := c31
              (try (have c31b1 : decide ((t216 == 0) = (t210 == t212 && (t211 == t213))) = true := by simpa using c31))
              (try (have c31b2 : ((t216 == 0) == (t210 == t212 && (t211 == t213))) = true := by simpa using c31))
              clear c31
              replace H := Option.bind_eq_some_iff.mp H
              obtain ⟨t220, A320, H⟩ := H
              replace H : (some (t220 == 0)) = some r := H
              have A32 := Aside0.mk A320
              clear A320
              obtain rfl := Option.some.inj H
              have hnb33 := NB215_214.out
              have hnc33 := NB214_215.out
              have hcz34_0 : wc.cell? ⟨gb215, 0, none⟩ = some (.int .i64 t212) := (blk_cell BK215.out 0).trans rfl
              have hcz34_1 : wc.cell? ⟨gb215, 1, none⟩ = some (.int .i64 t213) := (blk_cell BK215.out 1).trans rfl
              have hfz34_0 := blk_frozen BK215.out 0
              have hfz34_1 := blk_frozen BK215.out 1
              have hcz35_0 : wc.cell? ⟨gb214, 0, none⟩ = some (.int .i64 t210) := (blk_cell BK214.out 0).trans rfl
              have hcz35_1 : wc.cell? ⟨gb214, 1, none⟩ = some (.int .i64 t211) := (blk_cell BK214.out 1).trans rfl
              have hfz35_0 := blk_frozen BK214.out 0
              have hfz35_1 := blk_frozen BK214.out 1
              go_wp2_with (first | ((with_reducible refine gate_callee (f := 17) rfl ?_); refine goesL_ (some 33) rfl rfl Tryd.func17 (by kernel_rfl) rfl #[.agg #[.int .i64 t212, .int .i64 t213], .agg #[.int .i64 t210, .int .i64 t211]] rfl (by (try simp only [List.map_toArray, List.map_cons, List.map_nil]); first | done | rfl | (simp only [List.length_drop, List.length_take]; rfl)) ?_; (with_reducible refine (impl_FracCmp.calls t212 t213 t210 t211 t219 _ ?side1 A29.out).mono ?_); (case side1 => exact ErrW.below HE.out (by repeat (first | (with_reducible first | exact HB.out | apply below_alloc | apply pw_below_drewN | apply below_drew1 | refine below_set ?_ GE214.out | refine below_set ?_ GE215.out) | exact HB.out))); rintro e w36 ⟨rfl, hb⟩; refine ⟨_, rfl, ?_⟩; have n0_ := Aside0.mk (blk_below (g := gb214) (o := .cells #[.int .i64 t210, .int .i64 t211] 25 (0, 0)) (by (with_reducible repeat (first | refine blk_drewN ?_ _ | refine blk_drew ?_ | refine blk_alloc ?_ _)); exact BK214.out) hb); have n1_ := Aside0.mk (blk_below (g := gb215) (o := .cells #[.int .i64 t212, .int .i64 t213] 25 (0, 0)) (by (with_reducible repeat (first | refine blk_drewN ?_ _ | refine blk_drew ?_ | refine blk_alloc ?_ _)); exact BK215.out) hb); have n2_ := Aside0.mk (below_step (by repeat (first | (with_reducible first | exact HB.out | apply below_alloc | apply pw_below_drewN | apply below_drew1 | refine below_set ?_ GE214.out | refine below_set ?_ GE215.out) | exact HB.out)) hb); clear BK214; clear BK215; clear HB; have BK214 := n0_; have BK215 := n1_; have HB := n2_; clear n0_ n1_ n2_; (try clear hb); (try clear hb2); (try clear hk); (try clear hi); have hcz37_0 : w36.cell? ⟨gb214, 0, none⟩ = some (.int .i64 t210) := (blk_cell BK214.out 0).trans rfl; have hcz37_1 : w36.cell? ⟨gb214, 1, none⟩ = some (.int .i64 t211) := (blk_cell BK214.out 1).trans rfl; have hfz37_0 := blk_frozen BK214.out 0; have hfz37_1 := blk_frozen BK214.out 1; have hcz38_0 : w36.cell? ⟨gb215, 0, none⟩ = some (.int .i64 t212) := (blk_cell BK215.out 0).trans rfl; have hcz38_1 : w36.cell? ⟨gb215, 1, none⟩ = some (.int .i64 t213) := (blk_cell BK215.out 1).trans rfl; have hfz38_0 := blk_frozen BK215.out 0; have hfz38_1 := blk_frozen BK215.out 1) | (go_at_call 17; (with_reducible refine (impl_FracCmp.calls t210 t211 t210 t211 t220 _ ?side1 A32.out).mono ?_); (case side1 => exact ErrW.below HE.out (by repeat (first | (with_reducible first | exact HB.out | apply below_alloc | apply pw_below_drewN | apply below_drew1 | refine below_set ?_ GE214.out | refine below_set ?_ GE215.out) | exact HB.out))); rintro e w39 ⟨rfl, hb⟩; have n0_ := Aside0.mk (blk_below (g := gb214) (o := .cells #[.int .i64 t210, .int .i64 t211] 25 (0, 0)) (by (with_reducible repeat (first | refine blk_drewN ?_ _ | refine blk_drew ?_ | refine blk_alloc ?_ _)); exact BK214.out) hb); have n1_ := Aside0.mk (blk_below (g := gb215) (o := .cells #[.int .i64 t212, .int .i64 t213] 25 (0, 0)) (by (with_reducible repeat (first | refine blk_drewN ?_ _ | refine blk_drew ?_ | refine blk_alloc ?_ _)); exact BK215.out) hb); have n2_ := Aside0.mk (below_step (by repeat (first | (with_reducible first | exact HB.out | apply below_alloc | apply pw_below_drewN | apply below_drew1 | refine below_set ?_ GE214.out | refine below_set ?_ GE215.out) | exact HB.out)) hb); clear BK214; clear BK215; clear HB; have BK214 := n0_; have BK215 := n1_; have HB := n2_; clear n0_ n1_ n2_; (try clear hb); (try clear hb2); (try clear hk); (try clear hi)))
              go_ret
              exact ⟨by first | rfl | (simp [errW_none, errW_some] <;> rfl) | (simp [*, errW_none, errW_some] <;> rfl), by repeat (first | (with_reducible first | exact HB.out | apply below_alloc | apply pw_below_drewN | apply below_drew1 | refine below_set ?_ GE214.out | refine below_set ?_ GE215.out) | exact HB.out)⟩
            · rw [if_neg c31] at H
              have c31b0 : ((t216 == 0) == (t210 == t212 && (t211 == t213))) = false := by simpa using c31
              (try (have c31b1 : decide ((t216 == 0) = (t210 == t212 && (t211 == t213))) = false := by simpa using c31))
              (try (have c31b2 : ((t216 == 0) == (t210 == t212 && (t211 == t213))) = false := by simpa using c31))
              (try (have c31b3 : ¬ ((t216 == 0) = (t210 == t212 && (t211 == t213))) := by simpa using c31))
              clear c31
              obtain rfl := Option.some.inj H
              have hnb40 := NB215_214.out
              have hnc40 := NB214_215.out
              have hcz41_0 : wc.cell? ⟨gb215, 0, none⟩ = some (.int .i64 t212) := (blk_cell BK215.out 0).trans rfl
              have hcz41_1 : wc.cell? ⟨gb215, 1, none⟩ = some (.int .i64 t213) := (blk_cell BK215.out 1).trans rfl
              have hfz41_0 := blk_frozen BK215.out 0
              have hfz41_1 := blk_frozen BK215.out 1
              have hcz42_0 : wc.cell? ⟨gb214, 0, none⟩ = some (.int .i64 t210) := (blk_cell BK214.out 0).trans rfl
              have hcz42_1 : wc.cell? ⟨gb214, 1, none⟩ = some (.int .i64 t211) := (blk_cell BK214.out 1).trans rfl
              have hfz42_0 := blk_frozen BK214.out 0
              have hfz42_1 := blk_frozen BK214.out 1
              go_wp2_with (first | ((with_reducible refine gate_callee (f := 17) rfl ?_); refine goesL_ (some 33) rfl rfl Tryd.func17 (by kernel_rfl) rfl #[.agg #[.int .i64 t212, .int .i64 t213], .agg #[.int .i64 t210, .int .i64 t211]] rfl (by (try simp only [List.map_toArray, List.map_cons, List.map_nil]); first | done | rfl | (simp only [List.length_drop, List.length_take]; rfl)) ?_; (with_reducible refine (impl_FracCmp.calls t212 t213 t210 t211 t219 _ ?side1 A29.out).mono ?_); (case side1 => exact ErrW.below HE.out (by repeat (first | (with_reducible first | exact HB.out | apply below_alloc | apply pw_below_drewN | apply below_drew1 | refine below_set ?_ GE214.out | refine below_set ?_ GE215.out) | exact HB.out))); rintro e w43 ⟨rfl, hb⟩; refine ⟨_, rfl, ?_⟩; have n0_ := Aside0.mk (blk_below (g := gb214) (o := .cells #[.int .i64 t210, .int .i64 t211] 25 (0, 0)) (by (with_reducible repeat (first | refine blk_drewN ?_ _ | refine blk_drew ?_ | refine blk_alloc ?_ _)); exact BK214.out) hb); have n1_ := Aside0.mk (blk_below (g := gb215) (o := .cells #[.int .i64 t212, .int .i64 t213] 25 (0, 0)) (by (with_reducible repeat (first | refine blk_drewN ?_ _ | refine blk_drew ?_ | refine blk_alloc ?_ _)); exact BK215.out) hb); have n2_ := Aside0.mk (below_step (by repeat (first | (with_reducible first | exact HB.out | apply below_alloc | apply pw_below_drewN | apply below_drew1 | refine below_set ?_ GE214.out | refine below_set ?_ GE215.out) | exact HB.out)) hb); clear BK214; clear BK215; clear HB; have BK214 := n0_; have BK215 := n1_; have HB := n2_; clear n0_ n1_ n2_; (try clear hb); (try clear hb2); (try clear hk); (try clear hi); have hcz44_0 : w43.cell? ⟨gb214, 0, none⟩ = some (.int .i64 t210) := (blk_cell BK214.out 0).trans rfl; have hcz44_1 : w43.cell? ⟨gb214, 1, none⟩ = some (.int .i64 t211) := (blk_cell BK214.out 1).trans rfl; have hfz44_0 := blk_frozen BK214.out 0; have hfz44_1 := blk_frozen BK214.out 1; have hcz45_0 : w43.cell? ⟨gb215, 0, none⟩ = some (.int .i64 t212) := (blk_cell BK215.out 0).trans rfl; have hcz45_1 : w43.cell? ⟨gb215, 1, none⟩ = some (.int .i64 t213) := (blk_cell BK215.out 1).trans rfl; have hfz45_0 := blk_frozen BK215.out 0; have hfz45_1 := blk_frozen BK215.out 1))
              go_ret
              exact ⟨by first | rfl | (simp [errW_none, errW_some] <;> rfl) | (simp [*, errW_none, errW_some] <;> rfl), by repeat (first | (with_reducible first | exact HB.out | apply below_alloc | apply pw_below_drewN | apply below_drew1 | refine below_set ?_ GE214.out | refine below_set ?_ GE215.out) | exact HB.out)⟩
          · rw [if_neg c30] at H
            have c30b0 : (t219 == (wrap64 (-t216))) = false := beq_eq_false_iff_ne.mpr c30
            have c30b1 : (t219 != (wrap64 (-t216))) = true := bne_iff_ne.mpr c30
            obtain rfl := Option.some.inj H
            have hnb46 := NB215_214.out
            have hnc46 := NB214_215.out
            have hcz47_0 : wc.cell? ⟨gb215, 0, none⟩ = some (.int .i64 t212) := (blk_cell BK215.out 0).trans rfl
            have hcz47_1 : wc.cell? ⟨gb215, 1, none⟩ = some (.int .i64 t213) := (blk_cell BK215.out 1).trans rfl
            have hfz47_0 := blk_frozen BK215.out 0
            have hfz47_1 := blk_frozen BK215.out 1
            have hcz48_0 : wc.cell? ⟨gb214, 0, none⟩ = some (.int .i64 t210) := (blk_cell BK214.out 0).trans rfl
            have hcz48_1 : wc.cell? ⟨gb214, 1, none⟩ = some (.int .i64 t211) := (blk_cell BK214.out 1).trans rfl
            have hfz48_0 := blk_frozen BK214.out 0
            have hfz48_1 := blk_frozen BK214.out 1
            go_wp2_with (first | ((with_reducible refine gate_callee (f := 17) rfl ?_); refine goesL_ (some 33) rfl rfl Tryd.func17 (by kernel_rfl) rfl #[.agg #[.int .i64 t212, .int .i64 t213], .agg #[.int .i64 t210, .int .i64 t211]] rfl (by (try simp only [List.map_toArray, List.map_cons, List.map_nil]); first | done | rfl | (simp only [List.length_drop, List.length_take]; rfl)) ?_; (with_reducible refine (impl_FracCmp.calls t212 t213 t210 t211 t219 _ ?side1 A29.out).mono ?_); (case side1 => exact ErrW.below HE.out (by repeat (first | (with_reducible first | exact HB.out | apply below_alloc | apply pw_below_drewN | apply below_drew1 | refine below_set ?_ GE214.out | refine below_set ?_ GE215.out) | exact HB.out))); rintro e w49 ⟨rfl, hb⟩; refine ⟨_, rfl, ?_⟩; have n0_ := Aside0.mk (blk_below (g := gb214) (o := .cells #[.int .i64 t210, .int .i64 t211] 25 (0, 0)) (by (with_reducible repeat (first | refine blk_drewN ?_ _ | refine blk_drew ?_ | refine blk_alloc ?_ _)); exact BK214.out) hb); have n1_ := Aside0.mk (blk_below (g := gb215) (o := .cells #[.int .i64 t212, .int .i64 t213] 25 (0, 0)) (by (with_reducible repeat (first | refine blk_drewN ?_ _ | refine blk_drew ?_ | refine blk_alloc ?_ _)); exact BK215.out) hb); have n2_ := Aside0.mk (below_step (by repeat (first | (with_reducible first | exact HB.out | apply below_alloc | apply pw_below_drewN | apply below_drew1 | refine below_set ?_ GE214.out | refine below_set ?_ GE215.out) | exact HB.out)) hb); clear BK214; clear BK215; clear HB; have BK214 := n0_; have BK215 := n1_; have HB := n2_; clear n0_ n1_ n2_; (try clear hb); (try clear hb2); (try clear hk); (try clear hi)))
            go_ret
            exact ⟨by first | rfl | (simp [errW_none, errW_some] <;> rfl) | (simp [*, errW_none, errW_some] <;> rfl), by repeat (first | (with_reducible first | exact HB.out | apply below_alloc | apply pw_below_drewN | apply below_drew1 | refine below_set ?_ GE214.out | refine below_set ?_ GE215.out) | exact HB.out)⟩

/-- THE ONE PURE STATEMENT of laws_FnFracOrder: yours. -/
def laws_FnFracOrder.Pure : Prop := ∀ (l0 : List Int), l0.length ≤ maxLen → l0.length * 1 ≤ 140737488351232 → (∀ x ∈ l0, (Lit.int .u8 x).wf = true) → ∃ k, laws_FnFracOrder.f k l0 = some true
theorem laws_FnFracOrder.walk (P : laws_FnFracOrder.Pure) (a0 : Option Addr) (len0 cap0 : Nat) (z0 : List Int) (w : World) (hE : ErrW w) (w0 : (a0 = none ∧ len0 = 0 ∧ cap0 = 0 ∧ z0 = []) ∨ ∃ x, a0 = some x ∧ len0 ≤ cap0 ∧ cap0 ≤ maxLen ∧ z0.length = cap0 ∧ (∀ i, i < z0.length → w.cell? (x.add i) = some (.int .u8 (z0.getD i 0))) ∧ ∀ n ∈ z0, (Lit.int .u8 n).wf = true) (y0 : len0 * 1 ≤ 140737488351232) :
    Calls Tryd.prog 6 #[.slice a0 len0 cap0] w fun e w' => e = .returned (.bool true) ∧ Below w.heap.size w w' := by
  obtain ⟨l0, rfl, hr0, hm0, hw0, hc0⟩ := ReadsInt.ofRowC w0
  obtain ⟨k, h⟩ := P l0 hm0 y0 hw0
  refine (laws_FnFracOrder.calls k _ _ l0 true w (Kd.C_of_reads (d := (0 : Int)) (h1 := fun _ => rfl) hr0) hc0 hE h).mono ?_
  rintro e w' ⟨rfl, hd⟩
  exact ⟨rfl, hd⟩

end Go.Proofs.YtnponnkcfgjeoaaDoor.X
