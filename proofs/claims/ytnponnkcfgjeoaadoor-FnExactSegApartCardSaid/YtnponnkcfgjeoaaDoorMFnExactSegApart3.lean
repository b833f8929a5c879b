/- FnExactSegApart: the law returns true for every input, and each input reads behind the call as before; part 3 of 6. No condition. Merged by program out of: FImplSegOk, FImplSegHas, FImplSegTurn, FImplSegMeet, FImplStandOf, FImplFracOf. -/
import Derived.Test.YtnponnkcfgjeoaaDoorMFnExactSegApart2
section
namespace Go.Proofs.YtnponnkcfgjeoaaDoor.X
open Go.RowKit Go.Proofs.YtnponnkcfgjeoaaDoorW.PrintWords Go.Proofs.YtnponnkcfgjeoaaDoorW.PrintLast Go.Proofs.YtnponnkcfgjeoaaDoorW.PrintMore
attribute [local go_sem] max2_int min2_int max_two min_two max_three min_three max_four min_four
set_option linter.unusedVariables false
set_option linter.unusedSimpArgs false
attribute [local go_sem high] eqA38
def impl_SegOk.f (a0_0 : Int) (a0_1 : Int) (a0_2 : Int) (a0_3 : Int) : Option (Bool) := (impl_PtOk.f a0_0 a0_1).bind fun t324 => (if t324 = true then ((impl_PtOk.f a0_2 a0_3).bind fun t325 => (if t325 = true then (some (!(a0_0 == a0_2) || (!(a0_1 == a0_3)))) else (some false))) else (some false))
set_option maxHeartbeats 8000000 in
set_option maxRecDepth 100000 in
theorem impl_SegOk.calls (a0_0 : Int) (a0_1 : Int) (a0_2 : Int) (a0_3 : Int) (r : Bool) (w : World) (h : impl_SegOk.f a0_0 a0_1 a0_2 a0_3 = some r) :
    Calls Tryd.prog 28 #[.agg #[.int .i64 a0_0, .int .i64 a0_1, .int .i64 a0_2, .int .i64 a0_3]] w fun e w' => e = .returned (.bool r) ∧ Below w.heap.size w w' := by
  have hu40 := Tryd.underlying40
  have hu38 := Tryd.underlying38
  have HB := Aside0.mk (Below.refl w.heap.size w)
  have H : ((impl_PtOk.f a0_0 a0_1).bind fun t324 => (if t324 = true then ((impl_PtOk.f a0_2 a0_3).bind fun t325 => (if t325 = true then (some (!(a0_0 == a0_2) || (!(a0_1 == a0_3)))) else (some false))) else (some false))) = some r := h
  clear h
  replace H := Option.bind_eq_some_iff.mp H
  obtain ⟨t324, A20, H⟩ := H
  replace H : (if t324 = true then ((impl_PtOk.f a0_2 a0_3).bind fun t325 => (if t325 = true then (some (!(a0_0 == a0_2) || (!(a0_1 == a0_3)))) else (some false))) else (some false)) = some r := H
  have A2 := Aside0.mk A20
  clear A20
  by_cases c3 : t324 = true
  · subst c3
    have H1 : ((impl_PtOk.f a0_2 a0_3).bind fun t325 => (if t325 = true then (some (!(a0_0 == a0_2) || (!(a0_1 == a0_3)))) else (some false))) = some r := by rw [if_pos rfl] at H; exact H
    clear H
    have H := H1
    clear H1
    replace H := Option.bind_eq_some_iff.mp H
    obtain ⟨t325, A40, H⟩ := H
    replace H : (if t325 = true then (some (!(a0_0 == a0_2) || (!(a0_1 == a0_3)))) else (some false)) = some r := H
    have A4 := Aside0.mk A40
    clear A40
    by_cases c5 : t325 = true
    · subst c5
      have H1 : (some (!(a0_0 == a0_2) || (!(a0_1 == a0_3)))) = some r := by rw [if_pos rfl] at H; exact H
      clear H
      have H := H1
      clear H1
      obtain rfl := Option.some.inj H
      go_enter Tryd.func28, Tryd.ntmps28
      go_wp2_with (first | ((with_reducible refine gate_dst (N := 1) rfl ?_); refine box_event ?hg (N := 1) ?hd (cs := #[.int .i64 a0_0, .int .i64 a0_1, .int .i64 a0_2, .int .i64 a0_3]) (t := 40) ?hr ?_; (case hd => rfl); (case hg => rfl); (case hr => first | (go_simp; done) | (go_simp; rfl)); intro gb323 hg w6 hbox hb; have n0_ := Aside0.mk (below_step (by repeat (first | (with_reducible first | exact HB.out | apply below_alloc | apply pw_below_drewN | apply below_drew1) | exact HB.out)) hb); have n1_ := Aside0.mk (hbox); have n2_ := Aside0.mk ((by rw [hg]; exact (below_size (by repeat (first | (with_reducible first | exact HB.out | apply below_alloc | apply pw_below_drewN | apply below_drew1) | exact HB.out))) : w.heap.size ≤ gb323)); have n3_ := Aside0.mk ((by rw [hg]; exact (below_size (by repeat (first | (with_reducible first | exact HB.out | apply below_alloc | apply pw_below_drewN | apply below_drew1) | exact HB.out))) : w.heap.size ≤ gb323)); clear HB; have HB := n0_; have BK323 := n1_; have GW323 := n2_; have GE323 := n3_; clear n0_ n1_ n2_ n3_; clear hb hbox hg; have hcz7_0 : w6.cell? ⟨gb323, 0, none⟩ = some (.int .i64 a0_0) := (blk_cell BK323.out 0).trans rfl; have hcz7_1 : w6.cell? ⟨gb323, 1, none⟩ = some (.int .i64 a0_1) := (blk_cell BK323.out 1).trans rfl; have hcz7_2 : w6.cell? ⟨gb323, 2, none⟩ = some (.int .i64 a0_2) := (blk_cell BK323.out 2).trans rfl; have hcz7_3 : w6.cell? ⟨gb323, 3, none⟩ = some (.int .i64 a0_3) := (blk_cell BK323.out 3).trans rfl; have hfz7_0 := blk_frozen BK323.out 0; have hfz7_1 := blk_frozen BK323.out 1; have hfz7_2 := blk_frozen BK323.out 2; have hfz7_3 := blk_frozen BK323.out 3) | ((with_reducible refine gate_callee (f := 52) rfl ?_); refine goesL_ (some 5) rfl rfl Tryd.func52 (by kernel_rfl) rfl #[.agg #[.int .i64 a0_0, .int .i64 a0_1]] rfl (by (try simp only [List.map_toArray, List.map_cons, List.map_nil]); first | done | rfl | (simp only [List.length_drop, List.length_take]; rfl)) ?_; (with_reducible refine (impl_PtOk.calls a0_0 a0_1 true _ A2.out).mono ?_); rintro e w8 ⟨rfl, hb⟩; refine ⟨_, rfl, ?_⟩; have n0_ := Aside0.mk (blk_below (g := gb323) (o := .cells #[.int .i64 a0_0, .int .i64 a0_1, .int .i64 a0_2, .int .i64 a0_3] 40 (0, 0)) (by (with_reducible repeat (first | refine blk_drewN ?_ _ | refine blk_drew ?_ | refine blk_alloc ?_ _)); exact BK323.out) hb); have n1_ := Aside0.mk (below_step (by repeat (first | (with_reducible first | exact HB.out | apply below_alloc | apply pw_below_drewN | apply below_drew1 | refine below_set ?_ GE323.out) | exact HB.out)) hb); clear BK323; clear HB; have BK323 := n0_; have HB := n1_; clear n0_ n1_; (try clear hb); (try clear hb2); (try clear hk); (try clear hi); have hcz9_0 : w8.cell? ⟨gb323, 0, none⟩ = some (.int .i64 a0_0) := (blk_cell BK323.out 0).trans rfl; have hcz9_1 : w8.cell? ⟨gb323, 1, none⟩ = some (.int .i64 a0_1) := (blk_cell BK323.out 1).trans rfl; have hcz9_2 : w8.cell? ⟨gb323, 2, none⟩ = some (.int .i64 a0_2) := (blk_cell BK323.out 2).trans rfl; have hcz9_3 : w8.cell? ⟨gb323, 3, none⟩ = some (.int .i64 a0_3) := (blk_cell BK323.out 3).trans rfl; have hfz9_0 := blk_frozen BK323.out 0; have hfz9_1 := blk_frozen BK323.out 1; have hfz9_2 := blk_frozen BK323.out 2; have hfz9_3 := blk_frozen BK323.out 3) | (go_at_call 52; (with_reducible refine (impl_PtOk.calls a0_2 a0_3 true _ A4.out).mono ?_); rintro e w10 ⟨rfl, hb⟩; have n0_ := Aside0.mk (blk_below (g := gb323) (o := .cells #[.int .i64 a0_0, .int .i64 a0_1, .int .i64 a0_2, .int .i64 a0_3] 40 (0, 0)) (by (with_reducible repeat (first | refine blk_drewN ?_ _ | refine blk_drew ?_ | refine blk_alloc ?_ _)); exact BK323.out) hb); have n1_ := Aside0.mk (below_step (by repeat (first | (with_reducible first | exact HB.out | apply below_alloc | apply pw_below_drewN | apply below_drew1 | refine below_set ?_ GE323.out) | exact HB.out)) hb); clear BK323; clear HB; have BK323 := n0_; have HB := n1_; clear n0_ n1_; (try clear hb); (try clear hb2); (try clear hk); (try clear hi); have hcz11_0 : w10.cell? ⟨gb323, 0, none⟩ = some (.int .i64 a0_0) := (blk_cell BK323.out 0).trans rfl; have hcz11_1 : w10.cell? ⟨gb323, 1, none⟩ = some (.int .i64 a0_1) := (blk_cell BK323.out 1).trans rfl; have hcz11_2 : w10.cell? ⟨gb323, 2, none⟩ = some (.int .i64 a0_2) := (blk_cell BK323.out 2).trans rfl; have hcz11_3 : w10.cell? ⟨gb323, 3, none⟩ = some (.int .i64 a0_3) := (blk_cell BK323.out 3).trans rfl; have hfz11_0 := blk_frozen BK323.out 0; have hfz11_1 := blk_frozen BK323.out 1; have hfz11_2 := blk_frozen BK323.out 2; have hfz11_3 := blk_frozen BK323.out 3))
      go_ret
      exact ⟨by first | rfl | (simp [errW_none, errW_some] <;> rfl) | (simp [*, errW_none, errW_some] <;> rfl), by repeat (first | (with_reducible first | exact HB.out | apply below_alloc | apply pw_below_drewN | apply below_drew1 | refine below_set ?_ GE323.out) | exact HB.out)⟩
    · replace c5 := Bool.eq_false_iff.mpr c5
      subst c5
      have H1 : (some false) = some r := by rw [if_neg (show ¬ (false = true) by decide)] at H; exact H
      clear H
      have H := H1
      clear H1
      obtain rfl := Option.some.inj H
      go_enter Tryd.func28, Tryd.ntmps28
      go_wp2_with (first | ((with_reducible refine gate_dst (N := 1) rfl ?_); refine box_event ?hg (N := 1) ?hd (cs := #[.int .i64 a0_0, .int .i64 a0_1, .int .i64 a0_2, .int .i64 a0_3]) (t := 40) ?hr ?_; (case hd => rfl); (case hg => rfl); (case hr => first | (go_simp; done) | (go_simp; rfl)); intro gb323 hg w12 hbox hb; have n0_ := Aside0.mk (below_step (by repeat (first | (with_reducible first | exact HB.out | apply below_alloc | apply pw_below_drewN | apply below_drew1) | exact HB.out)) hb); have n1_ := Aside0.mk (hbox); have n2_ := Aside0.mk ((by rw [hg]; exact (below_size (by repeat (first | (with_reducible first | exact HB.out | apply below_alloc | apply pw_below_drewN | apply below_drew1) | exact HB.out))) : w.heap.size ≤ gb323)); have n3_ := Aside0.mk ((by rw [hg]; exact (below_size (by repeat (first | (with_reducible first | exact HB.out | apply below_alloc | apply pw_below_drewN | apply below_drew1) | exact HB.out))) : w.heap.size ≤ gb323)); clear HB; have HB := n0_; have BK323 := n1_; have GW323 := n2_; have GE323 := n3_; clear n0_ n1_ n2_ n3_; clear hb hbox hg; have hcz13_0 : w12.cell? ⟨gb323, 0, none⟩ = some (.int .i64 a0_0) := (blk_cell BK323.out 0).trans rfl; have hcz13_1 : w12.cell? ⟨gb323, 1, none⟩ = some (.int .i64 a0_1) := (blk_cell BK323.out 1).trans rfl; have hcz13_2 : w12.cell? ⟨gb323, 2, none⟩ = some (.int .i64 a0_2) := (blk_cell BK323.out 2).trans rfl; have hcz13_3 : w12.cell? ⟨gb323, 3, none⟩ = some (.int .i64 a0_3) := (blk_cell BK323.out 3).trans rfl; have hfz13_0 := blk_frozen BK323.out 0; have hfz13_1 := blk_frozen BK323.out 1; have hfz13_2 := blk_frozen BK323.out 2; have hfz13_3 := blk_frozen BK323.out 3) | ((with_reducible refine gate_callee (f := 52) rfl ?_); refine goesL_ (some 5) rfl rfl Tryd.func52 (by kernel_rfl) rfl #[.agg #[.int .i64 a0_0, .int .i64 a0_1]] rfl (by (try simp only [List.map_toArray, List.map_cons, List.map_nil]); first | done | rfl | (simp only [List.length_drop, List.length_take]; rfl)) ?_; (with_reducible refine (impl_PtOk.calls a0_0 a0_1 true _ A2.out).mono ?_); rintro e w14 ⟨rfl, hb⟩; refine ⟨_, rfl, ?_⟩; have n0_ := Aside0.mk (blk_below (g := gb323) (o := .cells #[.int .i64 a0_0, .int .i64 a0_1, .int .i64 a0_2, .int .i64 a0_3] 40 (0, 0)) (by (with_reducible repeat (first | refine blk_drewN ?_ _ | refine blk_drew ?_ | refine blk_alloc ?_ _)); exact BK323.out) hb); have n1_ := Aside0.mk (below_step (by repeat (first | (with_reducible first | exact HB.out | apply below_alloc | apply pw_below_drewN | apply below_drew1 | refine below_set ?_ GE323.out) | exact HB.out)) hb); clear BK323; clear HB; have BK323 := n0_; have HB := n1_; clear n0_ n1_; (try clear hb); (try clear hb2); (try clear hk); (try clear hi); have hcz15_0 : w14.cell? ⟨gb323, 0, none⟩ = some (.int .i64 a0_0) := (blk_cell BK323.out 0).trans rfl; have hcz15_1 : w14.cell? ⟨gb323, 1, none⟩ = some (.int .i64 a0_1) := (blk_cell BK323.out 1).trans rfl; have hcz15_2 : w14.cell? ⟨gb323, 2, none⟩ = some (.int .i64 a0_2) := (blk_cell BK323.out 2).trans rfl; have hcz15_3 : w14.cell? ⟨gb323, 3, none⟩ = some (.int .i64 a0_3) := (blk_cell BK323.out 3).trans rfl; have hfz15_0 := blk_frozen BK323.out 0; have hfz15_1 := blk_frozen BK323.out 1; have hfz15_2 := blk_frozen BK323.out 2; have hfz15_3 := blk_frozen BK323.out 3) | (go_at_call 52; (with_reducible refine (impl_PtOk.calls a0_2 a0_3 false _ A4.out).mono ?_); rintro e w16 ⟨rfl, hb⟩; have n0_ := Aside0.mk (blk_below (g := gb323) (o := .cells #[.int .i64 a0_0, .int .i64 a0_1, .int .i64 a0_2, .int .i64 a0_3] 40 (0, 0)) (by (with_reducible repeat (first | refine blk_drewN ?_ _ | refine blk_drew ?_ | refine blk_alloc ?_ _)); exact BK323.out) hb); have n1_ := Aside0.mk (below_step (by repeat (first | (with_reducible first | exact HB.out | apply below_alloc | apply pw_below_drewN | apply below_drew1 | refine below_set ?_ GE323.out) | exact HB.out)) hb); clear BK323; clear HB; have BK323 := n0_; have HB := n1_; clear n0_ n1_; (try clear hb); (try clear hb2); (try clear hk); (try clear hi)))
      go_ret
      exact ⟨by first | rfl | (simp [errW_none, errW_some] <;> rfl) | (simp [*, errW_none, errW_some] <;> rfl), by repeat (first | (with_reducible first | exact HB.out | apply below_alloc | apply pw_below_drewN | apply below_drew1 | refine below_set ?_ GE323.out) | exact HB.out)⟩
  · replace c3 := Bool.eq_false_iff.mpr c3
    subst c3
    have H1 : (some false) = some r := by rw [if_neg (show ¬ (false = true) by decide)] at H; exact H
    clear H
    have H := H1
    clear H1
    obtain rfl := Option.some.inj H
    go_enter Tryd.func28, Tryd.ntmps28
    go_wp2_with (first | ((with_reducible refine gate_dst (N := 1) rfl ?_); refine box_event ?hg (N := 1) ?hd (cs := #[.int .i64 a0_0, .int .i64 a0_1, .int .i64 a0_2, .int .i64 a0_3]) (t := 40) ?hr ?_; (case hd => rfl); (case hg => rfl); (case hr => first | (go_simp; done) | (go_simp; rfl)); intro gb323 hg w17 hbox hb; have n0_ := Aside0.mk (below_step (by repeat (first | (with_reducible first | exact HB.out | apply below_alloc | apply pw_below_drewN | apply below_drew1) | exact HB.out)) hb); have n1_ := Aside0.mk (hbox); have n2_ := Aside0.mk ((by rw [hg]; exact (below_size (by repeat (first | (with_reducible first | exact HB.out | apply below_alloc | apply pw_below_drewN | apply below_drew1) | exact HB.out))) : w.heap.size ≤ gb323)); have n3_ := Aside0.mk ((by rw [hg]; exact (below_size (by repeat (first | (with_reducible first | exact HB.out | apply below_alloc | apply pw_below_drewN | apply below_drew1) | exact HB.out))) : w.heap.size ≤ gb323)); clear HB; have HB := n0_; have BK323 := n1_; have GW323 := n2_; have GE323 := n3_; clear n0_ n1_ n2_ n3_; clear hb hbox hg; have hcz18_0 : w17.cell? ⟨gb323, 0, none⟩ = some (.int .i64 a0_0) := (blk_cell BK323.out 0).trans rfl; have hcz18_1 : w17.cell? ⟨gb323, 1, none⟩ = some (.int .i64 a0_1) := (blk_cell BK323.out 1).trans rfl; have hcz18_2 : w17.cell? ⟨gb323, 2, none⟩ = some (.int .i64 a0_2) := (blk_cell BK323.out 2).trans rfl; have hcz18_3 : w17.cell? ⟨gb323, 3, none⟩ = some (.int .i64 a0_3) := (blk_cell BK323.out 3).trans rfl; have hfz18_0 := blk_frozen BK323.out 0; have hfz18_1 := blk_frozen BK323.out 1; have hfz18_2 := blk_frozen BK323.out 2; have hfz18_3 := blk_frozen BK323.out 3) | ((with_reducible refine gate_callee (f := 52) rfl ?_); refine goesL_ (some 5) rfl rfl Tryd.func52 (by kernel_rfl) rfl #[.agg #[.int .i64 a0_0, .int .i64 a0_1]] rfl (by (try simp only [List.map_toArray, List.map_cons, List.map_nil]); first | done | rfl | (simp only [List.length_drop, List.length_take]; rfl)) ?_; (with_reducible refine (impl_PtOk.calls a0_0 a0_1 false _ A2.out).mono ?_); rintro e w19 ⟨rfl, hb⟩; refine ⟨_, rfl, ?_⟩; have n0_ := Aside0.mk (blk_below (g := gb323) (o := .cells #[.int .i64 a0_0, .int .i64 a0_1, .int .i64 a0_2, .int .i64 a0_3] 40 (0, 0)) (by (with_reducible repeat (first | refine blk_drewN ?_ _ | refine blk_drew ?_ | refine blk_alloc ?_ _)); exact BK323.out) hb); have n1_ := Aside0.mk (below_step (by repeat (first | (with_reducible first | exact HB.out | apply below_alloc | apply pw_below_drewN | apply below_drew1 | refine below_set ?_ GE323.out) | exact HB.out)) hb); clear BK323; clear HB; have BK323 := n0_; have HB := n1_; clear n0_ n1_; (try clear hb); (try clear hb2); (try clear hk); (try clear hi)))
    go_ret
    exact ⟨by first | rfl | (simp [errW_none, errW_some] <;> rfl) | (simp [*, errW_none, errW_some] <;> rfl), by repeat (first | (with_reducible first | exact HB.out | apply below_alloc | apply pw_below_drewN | apply below_drew1 | refine below_set ?_ GE323.out) | exact HB.out)⟩
end Go.Proofs.YtnponnkcfgjeoaaDoor.X
end
section
namespace Go.Proofs.YtnponnkcfgjeoaaDoor.X
open Go.RowKit Go.Proofs.YtnponnkcfgjeoaaDoorW.PrintWords Go.Proofs.YtnponnkcfgjeoaaDoorW.PrintLast Go.Proofs.YtnponnkcfgjeoaaDoorW.PrintMore
attribute [local go_sem] max2_int min2_int max_two min_two max_three min_three max_four min_four
set_option linter.unusedVariables false
set_option linter.unusedSimpArgs false
def impl_SegHas.j0 : Nat → Bool → Int → Int → Int → Int → Int → Int → Option (Bool)
  | 0, _, _, _, _, _, _, _ => none
  | k + 1, x22, x369000, x369001, x369002, x369003, x370000, x370001 => if x22 = true then (some false) else ((impl_along.f x369000 x369001 x369002 x369003 x370000 x370001).bind fun t373 => (if t373 ≥ 0 then ((impl_between.f x369000 x369001 x369002 x369003).bind fun t374 => (some (decide (t373 ≤ t374)))) else (some false)))
def impl_SegHas.f (k : Nat) (a0_0 : Int) (a0_1 : Int) (a0_2 : Int) (a0_3 : Int) (a1_0 : Int) (a1_1 : Int) : Option (Bool) := (impl_SegOk.f a0_0 a0_1 a0_2 a0_3).bind fun t370 => (if t370 = true then ((impl_PtOk.f a1_0 a1_1).bind fun t371 => (if t371 = true then ((impl_cross.f a0_0 a0_1 a0_2 a0_3 a1_0 a1_1).bind fun t372 => (impl_SegHas.j0 k (t372 != 0) a0_0 a0_1 a0_2 a0_3 a1_0 a1_1)) else (impl_SegHas.j0 k true a0_0 a0_1 a0_2 a0_3 a1_0 a1_1))) else (impl_SegHas.j0 k true a0_0 a0_1 a0_2 a0_3 a1_0 a1_1))
set_option maxHeartbeats 8000000 in
set_option maxRecDepth 100000 in
theorem impl_SegHas.calls (k : Nat) (a0_0 : Int) (a0_1 : Int) (a0_2 : Int) (a0_3 : Int) (a1_0 : Int) (a1_1 : Int) (r : Bool) (w : World) (h : impl_SegHas.f k a0_0 a0_1 a0_2 a0_3 a1_0 a1_1 = some r) :
    Calls Tryd.prog 29 #[.agg #[.int .i64 a0_0, .int .i64 a0_1, .int .i64 a0_2, .int .i64 a0_3], .agg #[.int .i64 a1_0, .int .i64 a1_1]] w fun e w' => e = .returned (.bool r) ∧ Below w.heap.size w w' := by
  have hu40 := Tryd.underlying40
  have hu38 := Tryd.underlying38
  have HB := Aside0.mk (Below.refl w.heap.size w)
  have H : ((impl_SegOk.f a0_0 a0_1 a0_2 a0_3).bind fun t370 => (if t370 = true then ((impl_PtOk.f a1_0 a1_1).bind fun t371 => (if t371 = true then ((impl_cross.f a0_0 a0_1 a0_2 a0_3 a1_0 a1_1).bind fun t372 => (impl_SegHas.j0 k (t372 != 0) a0_0 a0_1 a0_2 a0_3 a1_0 a1_1)) else (impl_SegHas.j0 k true a0_0 a0_1 a0_2 a0_3 a1_0 a1_1))) else (impl_SegHas.j0 k true a0_0 a0_1 a0_2 a0_3 a1_0 a1_1))) = some r := h
  clear h
  have HC3 := Aside0.mk H
  clear H
  go_enter Tryd.func29, Tryd.ntmps29
  go_upto_region 1 with (first | ((with_reducible refine gate_dst (N := 2) rfl ?_); refine box_event ?hg (N := 2) ?hd (cs := #[.int .i64 a0_0, .int .i64 a0_1, .int .i64 a0_2, .int .i64 a0_3]) (t := 40) ?hr ?_; (case hd => rfl); (case hg => rfl); (case hr => first | (go_simp; done) | (go_simp; rfl)); intro gb368 hg w4 hbox hb; have n0_ := Aside0.mk (below_step (by repeat (first | (with_reducible first | exact HB.out | apply below_alloc | apply pw_below_drewN | apply below_drew1) | exact HB.out)) hb); have n1_ := Aside0.mk (hbox); have n2_ := Aside0.mk ((by rw [hg]; exact (below_size (by repeat (first | (with_reducible first | exact HB.out | apply below_alloc | apply pw_below_drewN | apply below_drew1) | exact HB.out))) : w.heap.size ≤ gb368)); have n3_ := Aside0.mk ((by rw [hg]; exact (below_size (by repeat (first | (with_reducible first | exact HB.out | apply below_alloc | apply pw_below_drewN | apply below_drew1) | exact HB.out))) : w.heap.size ≤ gb368)); clear HB; have HB := n0_; have BK368 := n1_; have GW368 := n2_; have GE368 := n3_; clear n0_ n1_ n2_ n3_; clear hb hbox hg) | ((with_reducible refine gate_dst (N := 3) rfl ?_); refine box_event ?hg (N := 3) ?hd (cs := #[.int .i64 a1_0, .int .i64 a1_1]) (t := 38) ?hr ?_; (case hd => rfl); (case hg => rfl); (case hr => first | (go_simp; done) | (go_simp; rfl)); intro gb369 hg w5 hbox hb; have n0_ := Aside0.mk (blk_below (g := gb368) (o := .cells #[.int .i64 a0_0, .int .i64 a0_1, .int .i64 a0_2, .int .i64 a0_3] 40 (0, 0)) (by (with_reducible repeat (first | refine blk_drewN ?_ _ | refine blk_drew ?_ | refine blk_alloc ?_ _)); exact BK368.out) hb); have n1_ := Aside0.mk (below_step (by repeat (first | (with_reducible first | exact HB.out | apply below_alloc | apply pw_below_drewN | apply below_drew1 | refine below_set ?_ GE368.out) | exact HB.out)) hb); have n2_ := Aside0.mk (hbox); have n3_ := Aside0.mk ((by rw [hg]; exact (below_size (by repeat (first | (with_reducible first | exact HB.out | apply below_alloc | apply pw_below_drewN | apply below_drew1 | refine below_set ?_ GE368.out) | exact HB.out))) : w.heap.size ≤ gb369)); have n4_ := Aside0.mk ((by rw [hg]; exact (below_size (by repeat (first | (with_reducible first | exact HB.out | apply below_alloc | apply pw_below_drewN | apply below_drew1 | refine below_set ?_ GE368.out) | exact HB.out))) : w.heap.size ≤ gb369)); have n5_ := Aside0.mk ((by rw [hg]; exact Nat.ne_of_lt (blk_lt (g := gb368) (o := .cells #[.int .i64 a0_0, .int .i64 a0_1, .int .i64 a0_2, .int .i64 a0_3] 40 (0, 0)) (by (with_reducible repeat (first | refine blk_drewN ?_ _ | refine blk_drew ?_ | refine blk_alloc ?_ _)); exact BK368.out)) : gb368 ≠ gb369)); have n6_ := Aside0.mk ((by rw [hg]; exact Nat.ne_of_gt (blk_lt (g := gb368) (o := .cells #[.int .i64 a0_0, .int .i64 a0_1, .int .i64 a0_2, .int .i64 a0_3] 40 (0, 0)) (by (with_reducible repeat (first | refine blk_drewN ?_ _ | refine blk_drew ?_ | refine blk_alloc ?_ _)); exact BK368.out)) : gb369 ≠ gb368)); clear BK368; clear HB; have BK368 := n0_; have HB := n1_; have BK369 := n2_; have GW369 := n3_; have GE369 := n4_; have NB368_369 := n5_; have NB369_368 := n6_; clear n0_ n1_ n2_ n3_ n4_ n5_ n6_; clear hb hbox hg))
  (try simp only [Act.put, List.setIfInBounds_toArray, List.set_cons_zero, List.set_cons_succ])
  go_cut [22] (fun v22 wc => ∃ (kq : Nat) (x22_2 : Bool), v22 = .bool x22_2 ∧ Aside0 (impl_SegHas.j0 kq x22_2 a0_0 a0_1 a0_2 a0_3 a1_0 a1_1 = some r) ∧ Aside0 (kq ≤ k) ∧ Aside0 (wc.heap[gb368]? = some (.cells #[.int .i64 a0_0, .int .i64 a0_1, .int .i64 a0_2, .int .i64 a0_3] 40 (0, 0))) ∧ Aside0 (wc.heap[gb369]? = some (.cells #[.int .i64 a1_0, .int .i64 a1_1] 38 (0, 0))) ∧ Aside0 (Below w.heap.size w wc))
  case first =>
    have H := HC3.out
    clear HC3
    replace H := Option.bind_eq_some_iff.mp H
    obtain ⟨t370, A60, H⟩ := H
    replace H : (if t370 = true then ((impl_PtOk.f a1_0 a1_1).bind fun t371 => (if t371 = true then ((impl_cross.f a0_0 a0_1 a0_2 a0_3 a1_0 a1_1).bind fun t372 => (impl_SegHas.j0 k (t372 != 0) a0_0 a0_1 a0_2 a0_3 a1_0 a1_1)) else (impl_SegHas.j0 k true a0_0 a0_1 a0_2 a0_3 a1_0 a1_1))) else (impl_SegHas.j0 k true a0_0 a0_1 a0_2 a0_3 a1_0 a1_1)) = some r := H
    have A6 := Aside0.mk A60
    clear A60
    by_cases c7 : t370 = true
    · subst c7
      have H1 : ((impl_PtOk.f a1_0 a1_1).bind fun t371 => (if t371 = true then ((impl_cross.f a0_0 a0_1 a0_2 a0_3 a1_0 a1_1).bind fun t372 => (impl_SegHas.j0 k (t372 != 0) a0_0 a0_1 a0_2 a0_3 a1_0 a1_1)) else (impl_SegHas.j0 k true a0_0 a0_1 a0_2 a0_3 a1_0 a1_1))) = some r := by rw [if_pos rfl] at H; exact H
      clear H
      have H := H1
      clear H1
      replace H := Option.bind_eq_some_iff.mp H
      obtain ⟨t371, A80, H⟩ := H
      replace H : (if t371 = true then ((impl_cross.f a0_0 a0_1 a0_2 a0_3 a1_0 a1_1).bind fun t372 => (impl_SegHas.j0 k (t372 != 0) a0_0 a0_1 a0_2 a0_3 a1_0 a1_1)) else (impl_SegHas.j0 k true a0_0 a0_1 a0_2 a0_3 a1_0 a1_1)) = some r := H
      have A8 := Aside0.mk A80
      clear A80
      by_cases c9 : t371 = true
      · subst c9
        have H1 : ((impl_cross.f a0_0 a0_1 a0_2 a0_3 a1_0 a1_1).bind fun t372 => (impl_SegHas.j0 k (t372 != 0) a0_0 a0_1 a0_2 a0_3 a1_0 a1_1)) = some r := by rw [if_pos rfl] at H; exact H
        clear H
        have H := H1
        clear H1
        replace H := Option.bind_eq_some_iff.mp H
        obtain ⟨t372, A100, H⟩ := H
        replace H : (impl_SegHas.j0 k (t372 != 0) a0_0 a0_1 a0_2 a0_3 a1_0 a1_1) = some r := H
        have A10 := Aside0.mk A100
        clear A100
        have H' := Aside0.mk H
        clear H
        have hnb11 := NB368_369.out
        have hnc11 := NB369_368.out
        have hcz12_0 : w5.cell? ⟨gb368, 0, none⟩ = some (.int .i64 a0_0) := (blk_cell BK368.out 0).trans rfl
        have hcz12_1 : w5.cell? ⟨gb368, 1, none⟩ = some (.int .i64 a0_1) := (blk_cell BK368.out 1).trans rfl
        have hcz12_2 : w5.cell? ⟨gb368, 2, none⟩ = some (.int .i64 a0_2) := (blk_cell BK368.out 2).trans rfl
        have hcz12_3 : w5.cell? ⟨gb368, 3, none⟩ = some (.int .i64 a0_3) := (blk_cell BK368.out 3).trans rfl
        have hfz12_0 := blk_frozen BK368.out 0
        have hfz12_1 := blk_frozen BK368.out 1
        have hfz12_2 := blk_frozen BK368.out 2
        have hfz12_3 := blk_frozen BK368.out 3
        go_wp2_with (first | ((with_reducible refine gate_callee (f := 28) rfl ?_); refine goesL_ (some 7) rfl rfl Tryd.func28 (by kernel_rfl) rfl #[.agg #[.int .i64 a0_0, .int .i64 a0_1, .int .i64 a0_2, .int .i64 a0_3]] rfl (by (try simp only [List.map_toArray, List.map_cons, List.map_nil]); first | done | rfl | (simp only [List.length_drop, List.length_take]; rfl)) ?_; (with_reducible refine (impl_SegOk.calls a0_0 a0_1 a0_2 a0_3 true _ A6.out).mono ?_); rintro e w13 ⟨rfl, hb⟩; refine ⟨_, rfl, ?_⟩; have n0_ := Aside0.mk (blk_below (g := gb368) (o := .cells #[.int .i64 a0_0, .int .i64 a0_1, .int .i64 a0_2, .int .i64 a0_3] 40 (0, 0)) (by (with_reducible repeat (first | refine blk_drewN ?_ _ | refine blk_drew ?_ | refine blk_alloc ?_ _)); exact BK368.out) hb); have n1_ := Aside0.mk (blk_below (g := gb369) (o := .cells #[.int .i64 a1_0, .int .i64 a1_1] 38 (0, 0)) (by (with_reducible repeat (first | refine blk_drewN ?_ _ | refine blk_drew ?_ | refine blk_alloc ?_ _)); exact BK369.out) hb); have n2_ := Aside0.mk (below_step (by repeat (first | (with_reducible first | exact HB.out | apply below_alloc | apply pw_below_drewN | apply below_drew1 | refine below_set ?_ GE368.out | refine below_set ?_ GE369.out) | exact HB.out)) hb); clear BK368; clear BK369; clear HB; have BK368 := n0_; have BK369 := n1_; have HB := n2_; clear n0_ n1_ n2_; (try clear hb); (try clear hb2); (try clear hk); (try clear hi); have hcz14_0 : w13.cell? ⟨gb369, 0, none⟩ = some (.int .i64 a1_0) := (blk_cell BK369.out 0).trans rfl; have hcz14_1 : w13.cell? ⟨gb369, 1, none⟩ = some (.int .i64 a1_1) := (blk_cell BK369.out 1).trans rfl; have hfz14_0 := blk_frozen BK369.out 0; have hfz14_1 := blk_frozen BK369.out 1) | (go_at_call 52; (with_reducible refine (impl_PtOk.calls a1_0 a1_1 true _ A8.out).mono ?_); rintro e w15 ⟨rfl, hb⟩; have n0_ := Aside0.mk (blk_below (g := gb368) (o := .cells #[.int .i64 a0_0, .int .i64 a0_1, .int .i64 a0_2, .int .i64 a0_3] 40 (0, 0)) (by (with_reducible repeat (first | refine blk_drewN ?_ _ | refine blk_drew ?_ | refine blk_alloc ?_ _)); exact BK368.out) hb); have n1_ := Aside0.mk (blk_below (g := gb369) (o := .cells #[.int .i64 a1_0, .int .i64 a1_1] 38 (0, 0)) (by (with_reducible repeat (first | refine blk_drewN ?_ _ | refine blk_drew ?_ | refine blk_alloc ?_ _)); exact BK369.out) hb); have n2_ := Aside0.mk (below_step (by repeat (first | (with_reducible first | exact HB.out | apply below_alloc | apply pw_below_drewN | apply below_drew1 | refine below_set ?_ GE368.out | refine below_set ?_ GE369.out) | exact HB.out)) hb); clear BK368; clear BK369; clear HB; have BK368 := n0_; have BK369 := n1_; have HB := n2_; clear n0_ n1_ n2_; (try clear hb); (try clear hb2); (try clear hk); (try clear hi); have hcz16_0 : w15.cell? ⟨gb368, 0, none⟩ = some (.int .i64 a0_0) := (blk_cell BK368.out 0).trans rfl; have hcz16_1 : w15.cell? ⟨gb368, 1, none⟩ = some (.int .i64 a0_1) := (blk_cell BK368.out 1).trans rfl; have hcz16_2 : w15.cell? ⟨gb368, 2, none⟩ = some (.int .i64 a0_2) := (blk_cell BK368.out 2).trans rfl; have hcz16_3 : w15.cell? ⟨gb368, 3, none⟩ = some (.int .i64 a0_3) := (blk_cell BK368.out 3).trans rfl; have hfz16_0 := blk_frozen BK368.out 0; have hfz16_1 := blk_frozen BK368.out 1; have hfz16_2 := blk_frozen BK368.out 2; have hfz16_3 := blk_frozen BK368.out 3; have hcz17_0 : w15.cell? ⟨gb369, 0, none⟩ = some (.int .i64 a1_0) := (blk_cell BK369.out 0).trans rfl; have hcz17_1 : w15.cell? ⟨gb369, 1, none⟩ = some (.int .i64 a1_1) := (blk_cell BK369.out 1).trans rfl; have hfz17_0 := blk_frozen BK369.out 0; have hfz17_1 := blk_frozen BK369.out 1) | (go_at_call 56; (with_reducible refine (impl_cross.calls a0_0 a0_1 a0_2 a0_3 a1_0 a1_1 t372 _ A10.out).mono ?_); rintro e w18 ⟨rfl, hb⟩; have n0_ := Aside0.mk (blk_below (g := gb368) (o := .cells #[.int .i64 a0_0, .int .i64 a0_1, .int .i64 a0_2, .int .i64 a0_3] 40 (0, 0)) (by (with_reducible repeat (first | refine blk_drewN ?_ _ | refine blk_drew ?_ | refine blk_alloc ?_ _)); exact BK368.out) hb); have n1_ := Aside0.mk (blk_below (g := gb369) (o := .cells #[.int .i64 a1_0, .int .i64 a1_1] 38 (0, 0)) (by (with_reducible repeat (first | refine blk_drewN ?_ _ | refine blk_drew ?_ | refine blk_alloc ?_ _)); exact BK369.out) hb); have n2_ := Aside0.mk (below_step (by repeat (first | (with_reducible first | exact HB.out | apply below_alloc | apply pw_below_drewN | apply below_drew1 | refine below_set ?_ GE368.out | refine below_set ?_ GE369.out) | exact HB.out)) hb); clear BK368; clear BK369; clear HB; have BK368 := n0_; have BK369 := n1_; have HB := n2_; clear n0_ n1_ n2_; (try clear hb); (try clear hb2); (try clear hk); (try clear hi)))
        go_meet
        case rel => exact ⟨_, ((t372 != 0)), (by first | rfl | (simp; done) | (simp [*]; done)), H', ⟨by first | omega | exact Nat.le_refl _⟩, ⟨by (with_reducible repeat (first | refine blk_drewN ?_ _ | refine blk_drew ?_ | refine blk_alloc ?_ _)); exact BK368.out⟩, ⟨by (with_reducible repeat (first | refine blk_drewN ?_ _ | refine blk_drew ?_ | refine blk_alloc ?_ _)); exact BK369.out⟩, ⟨by repeat (first | (with_reducible first | exact HB.out | apply below_alloc | apply pw_below_drewN | apply below_drew1 | refine below_set ?_ GE368.out | refine below_set ?_ GE369.out) | exact HB.out)⟩⟩
      · replace c9 := Bool.eq_false_iff.mpr c9
        subst c9
        have H1 : (impl_SegHas.j0 k true a0_0 a0_1 a0_2 a0_3 a1_0 a1_1) = some r := by rw [if_neg (show ¬ (false = true) by decide)] at H; exact H
        clear H
        have H := H1
        clear H1
        have H' := Aside0.mk H
        clear H
        have hnb19 := NB368_369.out
        have hnc19 := NB369_368.out
        have hcz20_0 : w5.cell? ⟨gb368, 0, none⟩ = some (.int .i64 a0_0) := (blk_cell BK368.out 0).trans rfl
        have hcz20_1 : w5.cell? ⟨gb368, 1, none⟩ = some (.int .i64 a0_1) := (blk_cell BK368.out 1).trans rfl
        have hcz20_2 : w5.cell? ⟨gb368, 2, none⟩ = some (.int .i64 a0_2) := (blk_cell BK368.out 2).trans rfl
        have hcz20_3 : w5.cell? ⟨gb368, 3, none⟩ = some (.int .i64 a0_3) := (blk_cell BK368.out 3).trans rfl
        have hfz20_0 := blk_frozen BK368.out 0
        have hfz20_1 := blk_frozen BK368.out 1
        have hfz20_2 := blk_frozen BK368.out 2
        have hfz20_3 := blk_frozen BK368.out 3
        go_wp2_with (first | ((with_reducible refine gate_callee (f := 28) rfl ?_); refine goesL_ (some 7) rfl rfl Tryd.func28 (by kernel_rfl) rfl #[.agg #[.int .i64 a0_0, .int .i64 a0_1, .int .i64 a0_2, .int .i64 a0_3]] rfl (by (try simp only [List.map_toArray, List.map_cons, List.map_nil]); first | done | rfl | (simp only [List.length_drop, List.length_take]; rfl)) ?_; (with_reducible refine (impl_SegOk.calls a0_0 a0_1 a0_2 a0_3 true _ A6.out).mono ?_); rintro e w21 ⟨rfl, hb⟩; refine ⟨_, rfl, ?_⟩; have n0_ := Aside0.mk (blk_below (g := gb368) (o := .cells #[.int .i64 a0_0, .int .i64 a0_1, .int .i64 a0_2, .int .i64 a0_3] 40 (0, 0)) (by (with_reducible repeat (first | refine blk_drewN ?_ _ | refine blk_drew ?_ | refine blk_alloc ?_ _)); exact BK368.out) hb); have n1_ := Aside0.mk (blk_below (g := gb369) (o := .cells #[.int .i64 a1_0, .int .i64 a1_1] 38 (0, 0)) (by (with_reducible repeat (first | refine blk_drewN ?_ _ | refine blk_drew ?_ | refine blk_alloc ?_ _)); exact BK369.out) hb); have n2_ := Aside0.mk (below_step (by repeat (first | (with_reducible first | exact HB.out | apply below_alloc | apply pw_below_drewN | apply below_drew1 | refine below_set ?_ GE368.out | refine below_set ?_ GE369.out) | exact HB.out)) hb); clear BK368; clear BK369; clear HB; have BK368 := n0_; have BK369 := n1_; have HB := n2_; clear n0_ n1_ n2_; (try clear hb); (try clear hb2); (try clear hk); (try clear hi); have hcz22_0 : w21.cell? ⟨gb369, 0, none⟩ = some (.int .i64 a1_0) := (blk_cell BK369.out 0).trans rfl; have hcz22_1 : w21.cell? ⟨gb369, 1, none⟩ = some (.int .i64 a1_1) := (blk_cell BK369.out 1).trans rfl; have hfz22_0 := blk_frozen BK369.out 0; have hfz22_1 := blk_frozen BK369.out 1) | (go_at_call 52; (with_reducible refine (impl_PtOk.calls a1_0 a1_1 false _ A8.out).mono ?_); rintro e w23 ⟨rfl, hb⟩; have n0_ := Aside0.mk (blk_below (g := gb368) (o := .cells #[.int .i64 a0_0, .int .i64 a0_1, .int .i64 a0_2, .int .i64 a0_3] 40 (0, 0)) (by (with_reducible repeat (first | refine blk_drewN ?_ _ | refine blk_drew ?_ | refine blk_alloc ?_ _)); exact BK368.out) hb); have n1_ := Aside0.mk (blk_below (g := gb369) (o := .cells #[.int .i64 a1_0, .int .i64 a1_1] 38 (0, 0)) (by (with_reducible repeat (first | refine blk_drewN ?_ _ | refine blk_drew ?_ | refine blk_alloc ?_ _)); exact BK369.out) hb); have n2_ := Aside0.mk (below_step (by repeat (first | (with_reducible first | exact HB.out | apply below_alloc | apply pw_below_drewN | apply below_drew1 | refine below_set ?_ GE368.out | refine below_set ?_ GE369.out) | exact HB.out)) hb); clear BK368; clear BK369; clear HB; have BK368 := n0_; have BK369 := n1_; have HB := n2_; clear n0_ n1_ n2_; (try clear hb); (try clear hb2); (try clear hk); (try clear hi)))
        go_meet
        case rel => exact ⟨_, (true), (by first | rfl | (simp; done) | (simp [*]; done)), H', ⟨by first | omega | exact Nat.le_refl _⟩, ⟨by (with_reducible repeat (first | refine blk_drewN ?_ _ | refine blk_drew ?_ | refine blk_alloc ?_ _)); exact BK368.out⟩, ⟨by (with_reducible repeat (first | refine blk_drewN ?_ _ | refine blk_drew ?_ | refine blk_alloc ?_ _)); exact BK369.out⟩, ⟨by repeat (first | (with_reducible first | exact HB.out | apply below_alloc | apply pw_below_drewN | apply below_drew1 | refine below_set ?_ GE368.out | refine below_set ?_ GE369.out) | exact HB.out)⟩⟩
    · replace c7 := Bool.eq_false_iff.mpr c7
      subst c7
      have H1 : (impl_SegHas.j0 k true a0_0 a0_1 a0_2 a0_3 a1_0 a1_1) = some r := by rw [if_neg (show ¬ (false = true) by decide)] at H; exact H
      clear H
      have H := H1
      clear H1
      have H' := Aside0.mk H
      clear H
      have hnb24 := NB368_369.out
      have hnc24 := NB369_368.out
      have hcz25_0 : w5.cell? ⟨gb368, 0, none⟩ = some (.int .i64 a0_0) := (blk_cell BK368.out 0).trans rfl
      have hcz25_1 : w5.cell? ⟨gb368, 1, none⟩ = some (.int .i64 a0_1) := (blk_cell BK368.out 1).trans rfl
      have hcz25_2 : w5.cell? ⟨gb368, 2, none⟩ = some (.int .i64 a0_2) := (blk_cell BK368.out 2).trans rfl
      have hcz25_3 : w5.cell? ⟨gb368, 3, none⟩ = some (.int .i64 a0_3) := (blk_cell BK368.out 3).trans rfl
      have hfz25_0 := blk_frozen BK368.out 0
      have hfz25_1 := blk_frozen BK368.out 1
      have hfz25_2 := blk_frozen BK368.out 2
      have hfz25_3 := blk_frozen BK368.out 3
      go_wp2_with (first | ((with_reducible refine gate_callee (f := 28) rfl ?_); refine goesL_ (some 7) rfl rfl Tryd.func28 (by kernel_rfl) rfl #[.agg #[.int .i64 a0_0, .int .i64 a0_1, .int .i64 a0_2, .int .i64 a0_3]] rfl (by (try simp only [List.map_toArray, List.map_cons, List.map_nil]); first | done | rfl | (simp only [List.length_drop, List.length_take]; rfl)) ?_; (with_reducible refine (impl_SegOk.calls a0_0 a0_1 a0_2 a0_3 false _ A6.out).mono ?_); rintro e w26 ⟨rfl, hb⟩; refine ⟨_, rfl, ?_⟩; have n0_ := Aside0.mk (blk_below (g := gb368) (o := .cells #[.int .i64 a0_0, .int .i64 a0_1, .int .i64 a0_2, .int .i64 a0_3] 40 (0, 0)) (by (with_reducible repeat (first | refine blk_drewN ?_ _ | refine blk_drew ?_ | refine blk_alloc ?_ _)); exact BK368.out) hb); have n1_ := Aside0.mk (blk_below (g := gb369) (o := .cells #[.int .i64 a1_0, .int .i64 a1_1] 38 (0, 0)) (by (with_reducible repeat (first | refine blk_drewN ?_ _ | refine blk_drew ?_ | refine blk_alloc ?_ _)); exact BK369.out) hb); have n2_ := Aside0.mk (below_step (by repeat (first | (with_reducible first | exact HB.out | apply below_alloc | apply pw_below_drewN | apply below_drew1 | refine below_set ?_ GE368.out | refine below_set ?_ GE369.out) | exact HB.out)) hb); clear BK368; clear BK369; clear HB; have BK368 := n0_; have BK369 := n1_; have HB := n2_; clear n0_ n1_ n2_; (try clear hb); (try clear hb2); (try clear hk); (try clear hi)))
      go_meet
      case rel => exact ⟨_, (true), (by first | rfl | (simp; done) | (simp [*]; done)), H', ⟨by first | omega | exact Nat.le_refl _⟩, ⟨by (with_reducible repeat (first | refine blk_drewN ?_ _ | refine blk_drew ?_ | refine blk_alloc ?_ _)); exact BK368.out⟩, ⟨by (with_reducible repeat (first | refine blk_drewN ?_ _ | refine blk_drew ?_ | refine blk_alloc ?_ _)); exact BK369.out⟩, ⟨by repeat (first | (with_reducible first | exact HB.out | apply below_alloc | apply pw_below_drewN | apply below_drew1 | refine below_set ?_ GE368.out | refine below_set ?_ GE369.out) | exact HB.out)⟩⟩
  case rest =>
    clear HC3
    try clear c1
    try clear c2
    try clear p2
    try clear c7
    try clear c9
    try clear c11
    try clear c19
    try clear c24
    try clear hcz12_0
    try clear hcz12_1
    try clear hcz12_2
    try clear hcz12_3
    try clear hcz14_0
    try clear hcz14_1
    try clear hcz16_0
    try clear hcz16_1
    try clear hcz16_2
    try clear hcz16_3
    try clear hcz17_0
    try clear hcz17_1
    try clear hcz20_0
    try clear hcz20_1
    try clear hcz20_2
    try clear hcz20_3
    try clear hcz22_0
    try clear hcz22_1
    try clear hcz25_0
    try clear hcz25_1
    try clear hcz25_2
    try clear hcz25_3
    try clear hfz12_0
    try clear hfz12_1
    try clear hfz12_2
    try clear hfz12_3
    try clear hfz14_0
    try clear hfz14_1
    try clear hfz16_0
    try clear hfz16_1
    try clear hfz16_2
    try clear hfz16_3
    try clear hfz17_0
    try clear hfz17_1
    try clear hfz20_0
    try clear hfz20_1
    try clear hfz20_2
    try clear hfz20_3
    try clear hfz22_0
    try clear hfz22_1
    try clear hfz25_0
    try clear hfz25_1
    try clear hfz25_2
    try clear hfz25_3
    obtain ⟨kq, x22_2, rfl, HA, HJ2, BK368, BK369, HB⟩ := hcut
    cases kq with
    | zero => exact absurd HA.out (by simp [impl_SegHas.j0])
    | succ kj2 =>
      have H := HA.out
      clear HA
      simp only [impl_SegHas.j0] at H
      by_cases c27 : x22_2 = true
      · subst c27
        have H1 : (some false) = some r := by rw [if_pos rfl] at H; exact H
        clear H
        have H := H1
        clear H1
        obtain rfl := Option.some.inj H
        go_wp2
        go_ret
        exact ⟨by first | rfl | (simp [errW_none, errW_some] <;> rfl) | (simp [*, errW_none, errW_some] <;> rfl), by repeat (first | (with_reducible first | exact HB.out | apply below_alloc | apply pw_below_drewN | apply below_drew1 | refine below_set ?_ GE368.out | refine below_set ?_ GE369.out) | exact HB.out)⟩
      · replace c27 := Bool.eq_false_iff.mpr c27
        subst c27
        have H1 : ((impl_along.f a0_0 a0_1 a0_2 a0_3 a1_0 a1_1).bind fun t373 => (if t373 ≥ 0 then ((impl_between.f a0_0 a0_1 a0_2 a0_3).bind fun t374 => (some (decide (t373 ≤ t374)))) else (some false))) = some r := by rw [if_neg (show ¬ (false = true) by decide)] at H; exact H
        clear H
        have H := H1
        clear H1
        replace H := Option.bind_eq_some_iff.mp H
        obtain ⟨t373, A280, H⟩ := H
        replace H : (if t373 ≥ 0 then ((impl_between.f a0_0 a0_1 a0_2 a0_3).bind fun t374 => (some (decide (t373 ≤ t374)))) else (some false)) = some r := H
        have A28 := Aside0.mk A280
        clear A280
        by_cases c29 : t373 ≥ 0
        · rw [if_pos c29] at H
          have c29b0 : decide (0 ≤ t373) = true := decide_eq_true c29
          clear c29
          replace H := Option.bind_eq_some_iff.mp H
          obtain ⟨t374, A300, H⟩ := H
          replace H : (some (decide (t373 ≤ t374))) = some r := H
          have A30 := Aside0.mk A300
          clear A300
          obtain rfl := Option.some.inj H
          have hnb31 := NB368_369.out
          have hnc31 := NB369_368.out
          have hcz32_0 : wc.cell? ⟨gb368, 0, none⟩ = some (.int .i64 a0_0) := (blk_cell BK368.out 0).trans rfl
          have hcz32_1 : wc.cell? ⟨gb368, 1, none⟩ = some (.int .i64 a0_1) := (blk_cell BK368.out 1).trans rfl
          have hcz32_2 : wc.cell? ⟨gb368, 2, none⟩ = some (.int .i64 a0_2) := (blk_cell BK368.out 2).trans rfl
          have hcz32_3 : wc.cell? ⟨gb368, 3, none⟩ = some (.int .i64 a0_3) := (blk_cell BK368.out 3).trans rfl
          have hfz32_0 := blk_frozen BK368.out 0
          have hfz32_1 := blk_frozen BK368.out 1
          have hfz32_2 := blk_frozen BK368.out 2
          have hfz32_3 := blk_frozen BK368.out 3
          have hcz33_0 : wc.cell? ⟨gb369, 0, none⟩ = some (.int .i64 a1_0) := (blk_cell BK369.out 0).trans rfl
          have hcz33_1 : wc.cell? ⟨gb369, 1, none⟩ = some (.int .i64 a1_1) := (blk_cell BK369.out 1).trans rfl
          have hfz33_0 := blk_frozen BK369.out 0
          have hfz33_1 := blk_frozen BK369.out 1
          go_wp2_with (first | ((with_reducible refine gate_callee (f := 60) rfl ?_); refine goesL_ (some 28) rfl rfl Tryd.func60 (by kernel_rfl) rfl #[.agg #[.int .i64 a0_0, .int .i64 a0_1], .agg #[.int .i64 a0_2, .int .i64 a0_3], .agg #[.int .i64 a1_0, .int .i64 a1_1]] rfl (by (try simp only [List.map_toArray, List.map_cons, List.map_nil]); first | done | rfl | (simp only [List.length_drop, List.length_take]; rfl)) ?_; (with_reducible refine (impl_along.calls a0_0 a0_1 a0_2 a0_3 a1_0 a1_1 t373 _ A28.out).mono ?_); rintro e w34 ⟨rfl, hb⟩; refine ⟨_, rfl, ?_⟩; have n0_ := Aside0.mk (blk_below (g := gb368) (o := .cells #[.int .i64 a0_0, .int .i64 a0_1, .int .i64 a0_2, .int .i64 a0_3] 40 (0, 0)) (by (with_reducible repeat (first | refine blk_drewN ?_ _ | refine blk_drew ?_ | refine blk_alloc ?_ _)); exact BK368.out) hb); have n1_ := Aside0.mk (blk_below (g := gb369) (o := .cells #[.int .i64 a1_0, .int .i64 a1_1] 38 (0, 0)) (by (with_reducible repeat (first | refine blk_drewN ?_ _ | refine blk_drew ?_ | refine blk_alloc ?_ _)); exact BK369.out) hb); have n2_ := Aside0.mk (below_step (by repeat (first | (with_reducible first | exact HB.out | apply below_alloc | apply pw_below_drewN | apply below_drew1 | refine below_set ?_ GE368.out | refine below_set ?_ GE369.out) | exact HB.out)) hb); clear BK368; clear BK369; clear HB; have BK368 := n0_; have BK369 := n1_; have HB := n2_; clear n0_ n1_ n2_; (try clear hb); (try clear hb2); (try clear hk); (try clear hi); have hcz35_0 : w34.cell? ⟨gb368, 0, none⟩ = some (.int .i64 a0_0) := (blk_cell BK368.out 0).trans rfl; have hcz35_1 : w34.cell? ⟨gb368, 1, none⟩ = some (.int .i64 a0_1) := (blk_cell BK368.out 1).trans rfl; have hcz35_2 : w34.cell? ⟨gb368, 2, none⟩ = some (.int .i64 a0_2) := (blk_cell BK368.out 2).trans rfl; have hcz35_3 : w34.cell? ⟨gb368, 3, none⟩ = some (.int .i64 a0_3) := (blk_cell BK368.out 3).trans rfl; have hfz35_0 := blk_frozen BK368.out 0; have hfz35_1 := blk_frozen BK368.out 1; have hfz35_2 := blk_frozen BK368.out 2; have hfz35_3 := blk_frozen BK368.out 3) | (go_at_call 54; (with_reducible refine (impl_between.calls a0_0 a0_1 a0_2 a0_3 t374 _ A30.out).mono ?_); rintro e w36 ⟨rfl, hb⟩; have n0_ := Aside0.mk (blk_below (g := gb368) (o := .cells #[.int .i64 a0_0, .int .i64 a0_1, .int .i64 a0_2, .int .i64 a0_3] 40 (0, 0)) (by (with_reducible repeat (first | refine blk_drewN ?_ _ | refine blk_drew ?_ | refine blk_alloc ?_ _)); exact BK368.out) hb); have n1_ := Aside0.mk (blk_below (g := gb369) (o := .cells #[.int .i64 a1_0, .int .i64 a1_1] 38 (0, 0)) (by (with_reducible repeat (first | refine blk_drewN ?_ _ | refine blk_drew ?_ | refine blk_alloc ?_ _)); exact BK369.out) hb); have n2_ := Aside0.mk (below_step (by repeat (first | (with_reducible first | exact HB.out | apply below_alloc | apply pw_below_drewN | apply below_drew1 | refine below_set ?_ GE368.out | refine below_set ?_ GE369.out) | exact HB.out)) hb); clear BK368; clear BK369; clear HB; have BK368 := n0_; have BK369 := n1_; have HB := n2_; clear n0_ n1_ n2_; (try clear hb); (try clear hb2); (try clear hk); (try clear hi)))
          go_ret
          exact ⟨by first | rfl | (simp [errW_none, errW_some] <;> rfl) | (simp [*, errW_none, errW_some] <;> rfl), by repeat (first | (with_reducible first | exact HB.out | apply below_alloc | apply pw_below_drewN | apply below_drew1 | refine below_set ?_ GE368.out | refine below_set ?_ GE369.out) | exact HB.out)⟩
        · rw [if_neg c29] at H
          have c29b0 : decide (0 ≤ t373) = false := decide_eq_false c29
          clear c29
          obtain rfl := Option.some.inj H
          have hnb37 := NB368_369.out
          have hnc37 := NB369_368.out
          have hcz38_0 : wc.cell? ⟨gb368, 0, none⟩ = some (.int .i64 a0_0) := (blk_cell BK368.out 0).trans rfl
          have hcz38_1 : wc.cell? ⟨gb368, 1, none⟩ = some (.int .i64 a0_1) := (blk_cell BK368.out 1).trans rfl
          have hcz38_2 : wc.cell? ⟨gb368, 2, none⟩ = some (.int .i64 a0_2) := (blk_cell BK368.out 2).trans rfl
          have hcz38_3 : wc.cell? ⟨gb368, 3, none⟩ = some (.int .i64 a0_3) := (blk_cell BK368.out 3).trans rfl
          have hfz38_0 := blk_frozen BK368.out 0
          have hfz38_1 := blk_frozen BK368.out 1
          have hfz38_2 := blk_frozen BK368.out 2
          have hfz38_3 := blk_frozen BK368.out 3
          have hcz39_0 : wc.cell? ⟨gb369, 0, none⟩ = some (.int .i64 a1_0) := (blk_cell BK369.out 0).trans rfl
          have hcz39_1 : wc.cell? ⟨gb369, 1, none⟩ = some (.int .i64 a1_1) := (blk_cell BK369.out 1).trans rfl
          have hfz39_0 := blk_frozen BK369.out 0
          have hfz39_1 := blk_frozen BK369.out 1
          go_wp2_with (first | ((with_reducible refine gate_callee (f := 60) rfl ?_); refine goesL_ (some 28) rfl rfl Tryd.func60 (by kernel_rfl) rfl #[.agg #[.int .i64 a0_0, .int .i64 a0_1], .agg #[.int .i64 a0_2, .int .i64 a0_3], .agg #[.int .i64 a1_0, .int .i64 a1_1]] rfl (by (try simp only [List.map_toArray, List.map_cons, List.map_nil]); first | done | rfl | (simp only [List.length_drop, List.length_take]; rfl)) ?_; (with_reducible refine (impl_along.calls a0_0 a0_1 a0_2 a0_3 a1_0 a1_1 t373 _ A28.out).mono ?_); rintro e w40 ⟨rfl, hb⟩; refine ⟨_, rfl, ?_⟩; have n0_ := Aside0.mk (blk_below (g := gb368) (o := .cells #[.int .i64 a0_0, .int .i64 a0_1, .int .i64 a0_2, .int .i64 a0_3] 40 (0, 0)) (by (with_reducible repeat (first | refine blk_drewN ?_ _ | refine blk_drew ?_ | refine blk_alloc ?_ _)); exact BK368.out) hb); have n1_ := Aside0.mk (blk_below (g := gb369) (o := .cells #[.int .i64 a1_0, .int .i64 a1_1] 38 (0, 0)) (by (with_reducible repeat (first | refine blk_drewN ?_ _ | refine blk_drew ?_ | refine blk_alloc ?_ _)); exact BK369.out) hb); have n2_ := Aside0.mk (below_step (by repeat (first | (with_reducible first | exact HB.out | apply below_alloc | apply pw_below_drewN | apply below_drew1 | refine below_set ?_ GE368.out | refine below_set ?_ GE369.out) | exact HB.out)) hb); clear BK368; clear BK369; clear HB; have BK368 := n0_; have BK369 := n1_; have HB := n2_; clear n0_ n1_ n2_; (try clear hb); (try clear hb2); (try clear hk); (try clear hi)))
          go_ret
          exact ⟨by first | rfl | (simp [errW_none, errW_some] <;> rfl) | (simp [*, errW_none, errW_some] <;> rfl), by repeat (first | (with_reducible first | exact HB.out | apply below_alloc | apply pw_below_drewN | apply below_drew1 | refine below_set ?_ GE368.out | refine below_set ?_ GE369.out) | exact HB.out)⟩
end Go.Proofs.YtnponnkcfgjeoaaDoor.X
end
section
namespace Go.Proofs.YtnponnkcfgjeoaaDoor.X
open Go.RowKit Go.Proofs.YtnponnkcfgjeoaaDoorW.PrintWords Go.Proofs.YtnponnkcfgjeoaaDoorW.PrintLast Go.Proofs.YtnponnkcfgjeoaaDoorW.PrintMore
attribute [local go_sem] max2_int min2_int max_two min_two max_three min_three max_four min_four
set_option linter.unusedVariables false
set_option linter.unusedSimpArgs false
def impl_SegTurn.j0 : Nat → Bool → Int → Int → Int → Int → Int → Int → Option (Int)
  | 0, _, _, _, _, _, _, _ => none
  | k + 1, x20, x471000, x471001, x472000, x472001, x473000, x473001 => if x20 = true then (some 0) else ((impl_cross.f x471000 x471001 x472000 x472001 x473000 x473001).bind fun t476 => (if t476 > 0 then (some 1) else (if t476 < 0 then (some (-1)) else (some 0))))
def impl_SegTurn.f (k : Nat) (a0_0 : Int) (a0_1 : Int) (a1_0 : Int) (a1_1 : Int) (a2_0 : Int) (a2_1 : Int) : Option (Int) := (impl_PtOk.f a0_0 a0_1).bind fun t473 => (if t473 = true then ((impl_PtOk.f a1_0 a1_1).bind fun t474 => (if t474 = true then ((impl_PtOk.f a2_0 a2_1).bind fun t475 => (impl_SegTurn.j0 k (!t475) a0_0 a0_1 a1_0 a1_1 a2_0 a2_1)) else (impl_SegTurn.j0 k true a0_0 a0_1 a1_0 a1_1 a2_0 a2_1))) else (impl_SegTurn.j0 k true a0_0 a0_1 a1_0 a1_1 a2_0 a2_1))
set_option maxHeartbeats 8000000 in
set_option maxRecDepth 100000 in
theorem impl_SegTurn.calls (k : Nat) (a0_0 : Int) (a0_1 : Int) (a1_0 : Int) (a1_1 : Int) (a2_0 : Int) (a2_1 : Int) (r : Int) (w : World) (h : impl_SegTurn.f k a0_0 a0_1 a1_0 a1_1 a2_0 a2_1 = some r) :
    Calls Tryd.prog 64 #[.agg #[.int .i64 a0_0, .int .i64 a0_1], .agg #[.int .i64 a1_0, .int .i64 a1_1], .agg #[.int .i64 a2_0, .int .i64 a2_1]] w fun e w' => e = .returned (.int .i64 r) ∧ Below w.heap.size w w' := by
  have hu38 := Tryd.underlying38
  have HB := Aside0.mk (Below.refl w.heap.size w)
  have H : ((impl_PtOk.f a0_0 a0_1).bind fun t473 => (if t473 = true then ((impl_PtOk.f a1_0 a1_1).bind fun t474 => (if t474 = true then ((impl_PtOk.f a2_0 a2_1).bind fun t475 => (impl_SegTurn.j0 k (!t475) a0_0 a0_1 a1_0 a1_1 a2_0 a2_1)) else (impl_SegTurn.j0 k true a0_0 a0_1 a1_0 a1_1 a2_0 a2_1))) else (impl_SegTurn.j0 k true a0_0 a0_1 a1_0 a1_1 a2_0 a2_1))) = some r := h
  clear h
  have HC4 := Aside0.mk H
  clear H
  go_enter Tryd.func64, Tryd.ntmps64
  go_upto_region 1 with (first | ((with_reducible refine gate_dst (N := 3) rfl ?_); refine box_event ?hg (N := 3) ?hd (cs := #[.int .i64 a0_0, .int .i64 a0_1]) (t := 38) ?hr ?_; (case hd => rfl); (case hg => rfl); (case hr => first | (go_simp; done) | (go_simp; rfl)); intro gb470 hg w5 hbox hb; have n0_ := Aside0.mk (below_step (by repeat (first | (with_reducible first | exact HB.out | apply below_alloc | apply pw_below_drewN | apply below_drew1) | exact HB.out)) hb); have n1_ := Aside0.mk (hbox); have n2_ := Aside0.mk ((by rw [hg]; exact (below_size (by repeat (first | (with_reducible first | exact HB.out | apply below_alloc | apply pw_below_drewN | apply below_drew1) | exact HB.out))) : w.heap.size ≤ gb470)); have n3_ := Aside0.mk ((by rw [hg]; exact (below_size (by repeat (first | (with_reducible first | exact HB.out | apply below_alloc | apply pw_below_drewN | apply below_drew1) | exact HB.out))) : w.heap.size ≤ gb470)); clear HB; have HB := n0_; have BK470 := n1_; have GW470 := n2_; have GE470 := n3_; clear n0_ n1_ n2_ n3_; clear hb hbox hg) | ((with_reducible refine gate_dst (N := 4) rfl ?_); refine box_event ?hg (N := 4) ?hd (cs := #[.int .i64 a1_0, .int .i64 a1_1]) (t := 38) ?hr ?_; (case hd => rfl); (case hg => rfl); (case hr => first | (go_simp; done) | (go_simp; rfl)); intro gb471 hg w6 hbox hb; have n0_ := Aside0.mk (blk_below (g := gb470) (o := .cells #[.int .i64 a0_0, .int .i64 a0_1] 38 (0, 0)) (by (with_reducible repeat (first | refine blk_drewN ?_ _ | refine blk_drew ?_ | refine blk_alloc ?_ _)); exact BK470.out) hb); have n1_ := Aside0.mk (below_step (by repeat (first | (with_reducible first | exact HB.out | apply below_alloc | apply pw_below_drewN | apply below_drew1 | refine below_set ?_ GE470.out) | exact HB.out)) hb); have n2_ := Aside0.mk (hbox); have n3_ := Aside0.mk ((by rw [hg]; exact (below_size (by repeat (first | (with_reducible first | exact HB.out | apply below_alloc | apply pw_below_drewN | apply below_drew1 | refine below_set ?_ GE470.out) | exact HB.out))) : w.heap.size ≤ gb471)); have n4_ := Aside0.mk ((by rw [hg]; exact (below_size (by repeat (first | (with_reducible first | exact HB.out | apply below_alloc | apply pw_below_drewN | apply below_drew1 | refine below_set ?_ GE470.out) | exact HB.out))) : w.heap.size ≤ gb471)); have n5_ := Aside0.mk ((by rw [hg]; exact Nat.ne_of_lt (blk_lt (g := gb470) (o := .cells #[.int .i64 a0_0, .int .i64 a0_1] 38 (0, 0)) (by (with_reducible repeat (first | refine blk_drewN ?_ _ | refine blk_drew ?_ | refine blk_alloc ?_ _)); exact BK470.out)) : gb470 ≠ gb471)); have n6_ := Aside0.mk ((by rw [hg]; exact Nat.ne_of_gt (blk_lt (g := gb470) (o := .cells #[.int .i64 a0_0, .int .i64 a0_1] 38 (0, 0)) (by (with_reducible repeat (first | refine blk_drewN ?_ _ | refine blk_drew ?_ | refine blk_alloc ?_ _)); exact BK470.out)) : gb471 ≠ gb470)); clear BK470; clear HB; have BK470 := n0_; have HB := n1_; have BK471 := n2_; have GW471 := n3_; have GE471 := n4_; have NB470_471 := n5_; have NB471_470 := n6_; clear n0_ n1_ n2_ n3_ n4_ n5_ n6_; clear hb hbox hg) | ((with_reducible refine gate_dst (N := 5) rfl ?_); refine box_event ?hg (N := 5) ?hd (cs := #[.int .i64 a2_0, .int .i64 a2_1]) (t := 38) ?hr ?_; (case hd => rfl); (case hg => rfl); (case hr => first | (go_simp; done) | (go_simp; rfl)); intro gb472 hg w7 hbox hb; have n0_ := Aside0.mk (blk_below (g := gb470) (o := .cells #[.int .i64 a0_0, .int .i64 a0_1] 38 (0, 0)) (by (with_reducible repeat (first | refine blk_drewN ?_ _ | refine blk_drew ?_ | refine blk_alloc ?_ _)); exact BK470.out) hb); have n1_ := Aside0.mk (blk_below (g := gb471) (o := .cells #[.int .i64 a1_0, .int .i64 a1_1] 38 (0, 0)) (by (with_reducible repeat (first | refine blk_drewN ?_ _ | refine blk_drew ?_ | refine blk_alloc ?_ _)); exact BK471.out) hb); have n2_ := Aside0.mk (below_step (by repeat (first | (with_reducible first | exact HB.out | apply below_alloc | apply pw_below_drewN | apply below_drew1 | refine below_set ?_ GE470.out | refine below_set ?_ GE471.out) | exact HB.out)) hb); have n3_ := Aside0.mk (hbox); have n4_ := Aside0.mk ((by rw [hg]; exact (below_size (by repeat (first | (with_reducible first | exact HB.out | apply below_alloc | apply pw_below_drewN | apply below_drew1 | refine below_set ?_ GE470.out | refine below_set ?_ GE471.out) | exact HB.out))) : w.heap.size ≤ gb472)); have n5_ := Aside0.mk ((by rw [hg]; exact (below_size (by repeat (first | (with_reducible first | exact HB.out | apply below_alloc | apply pw_below_drewN | apply below_drew1 | refine below_set ?_ GE470.out | refine below_set ?_ GE471.out) | exact HB.out))) : w.heap.size ≤ gb472)); have n6_ := Aside0.mk ((by rw [hg]; exact Nat.ne_of_lt (blk_lt (g := gb470) (o := .cells #[.int .i64 a0_0, .int .i64 a0_1] 38 (0, 0)) (by (with_reducible repeat (first | refine blk_drewN ?_ _ | refine blk_drew ?_ | refine blk_alloc ?_ _)); exact BK470.out)) : gb470 ≠ gb472)); have n7_ := Aside0.mk ((by rw [hg]; exact Nat.ne_of_gt (blk_lt (g := gb470) (o := .cells #[.int .i64 a0_0, .int .i64 a0_1] 38 (0, 0)) (by (with_reducible repeat (first | refine blk_drewN ?_ _ | refine blk_drew ?_ | refine blk_alloc ?_ _)); exact BK470.out)) : gb472 ≠ gb470)); have n8_ := Aside0.mk ((by rw [hg]; exact Nat.ne_of_lt (blk_lt (g := gb471) (o := .cells #[.int .i64 a1_0, .int .i64 a1_1] 38 (0, 0)) (by (with_reducible repeat (first | refine blk_drewN ?_ _ | refine blk_drew ?_ | refine blk_alloc ?_ _)); exact BK471.out)) : gb471 ≠ gb472)); have n9_ := Aside0.mk ((by rw [hg]; exact Nat.ne_of_gt (blk_lt (g := gb471) (o := .cells #[.int .i64 a1_0, .int .i64 a1_1] 38 (0, 0)) (by (with_reducible repeat (first | refine blk_drewN ?_ _ | refine blk_drew ?_ | refine blk_alloc ?_ _)); exact BK471.out)) : gb472 ≠ gb471)); clear BK470; clear BK471; clear HB; have BK470 := n0_; have BK471 := n1_; have HB := n2_; have BK472 := n3_; have GW472 := n4_; have GE472 := n5_; have NB470_472 := n6_; have NB472_470 := n7_; have NB471_472 := n8_; have NB472_471 := n9_; clear n0_ n1_ n2_ n3_ n4_ n5_ n6_ n7_ n8_ n9_; clear hb hbox hg))
  (try simp only [Act.put, List.setIfInBounds_toArray, List.set_cons_zero, List.set_cons_succ])
  go_cut [20] (fun v20 wc => ∃ (kq : Nat) (x20_3 : Bool), v20 = .bool x20_3 ∧ Aside0 (impl_SegTurn.j0 kq x20_3 a0_0 a0_1 a1_0 a1_1 a2_0 a2_1 = some r) ∧ Aside0 (kq ≤ k) ∧ Aside0 (wc.heap[gb470]? = some (.cells #[.int .i64 a0_0, .int .i64 a0_1] 38 (0, 0))) ∧ Aside0 (wc.heap[gb471]? = some (.cells #[.int .i64 a1_0, .int .i64 a1_1] 38 (0, 0))) ∧ Aside0 (wc.heap[gb472]? = some (.cells #[.int .i64 a2_0, .int .i64 a2_1] 38 (0, 0))) ∧ Aside0 (Below w.heap.size w wc))
  case first =>
    have H := HC4.out
    clear HC4
    replace H := Option.bind_eq_some_iff.mp H
    obtain ⟨t473, A80, H⟩ := H
    replace H : (if t473 = true then ((impl_PtOk.f a1_0 a1_1).bind fun t474 => (if t474 = true then ((impl_PtOk.f a2_0 a2_1).bind fun t475 => (impl_SegTurn.j0 k (!t475) a0_0 a0_1 a1_0 a1_1 a2_0 a2_1)) else (impl_SegTurn.j0 k true a0_0 a0_1 a1_0 a1_1 a2_0 a2_1))) else (impl_SegTurn.j0 k true a0_0 a0_1 a1_0 a1_1 a2_0 a2_1)) = some r := H
    have A8 := Aside0.mk A80
    clear A80
    by_cases c9 : t473 = true
    · subst c9
      have H1 : ((impl_PtOk.f a1_0 a1_1).bind fun t474 => (if t474 = true then ((impl_PtOk.f a2_0 a2_1).bind fun t475 => (impl_SegTurn.j0 k (!t475) a0_0 a0_1 a1_0 a1_1 a2_0 a2_1)) else (impl_SegTurn.j0 k true a0_0 a0_1 a1_0 a1_1 a2_0 a2_1))) = some r := by rw [if_pos rfl] at H; exact H
      clear H
      have H := H1
      clear H1
      replace H := Option.bind_eq_some_iff.mp H
      obtain ⟨t474, A100, H⟩ := H
      replace H : (if t474 = true then ((impl_PtOk.f a2_0 a2_1).bind fun t475 => (impl_SegTurn.j0 k (!t475) a0_0 a0_1 a1_0 a1_1 a2_0 a2_1)) else (impl_SegTurn.j0 k true a0_0 a0_1 a1_0 a1_1 a2_0 a2_1)) = some r := H
      have A10 := Aside0.mk A100
      clear A100
      by_cases c11 : t474 = true
      · subst c11
        have H1 : ((impl_PtOk.f a2_0 a2_1).bind fun t475 => (impl_SegTurn.j0 k (!t475) a0_0 a0_1 a1_0 a1_1 a2_0 a2_1)) = some r := by rw [if_pos rfl] at H; exact H
        clear H
        have H := H1
        clear H1
        replace H := Option.bind_eq_some_iff.mp H
        obtain ⟨t475, A120, H⟩ := H
        replace H : (impl_SegTurn.j0 k (!t475) a0_0 a0_1 a1_0 a1_1 a2_0 a2_1) = some r := H
        have A12 := Aside0.mk A120
        clear A120
        have H' := Aside0.mk H
        clear H
        have hnb13 := NB470_471.out
        have hnc13 := NB471_470.out
        have hnb14 := NB470_472.out
        have hnc14 := NB472_470.out
        have hcz15_0 : w7.cell? ⟨gb470, 0, none⟩ = some (.int .i64 a0_0) := (blk_cell BK470.out 0).trans rfl
        have hcz15_1 : w7.cell? ⟨gb470, 1, none⟩ = some (.int .i64 a0_1) := (blk_cell BK470.out 1).trans rfl
        have hfz15_0 := blk_frozen BK470.out 0
        have hfz15_1 := blk_frozen BK470.out 1
        go_wp2_with (first | ((with_reducible refine gate_callee (f := 52) rfl ?_); refine goesL_ (some 9) rfl rfl Tryd.func52 (by kernel_rfl) rfl #[.agg #[.int .i64 a0_0, .int .i64 a0_1]] rfl (by (try simp only [List.map_toArray, List.map_cons, List.map_nil]); first | done | rfl | (simp only [List.length_drop, List.length_take]; rfl)) ?_; (with_reducible refine (impl_PtOk.calls a0_0 a0_1 true _ A8.out).mono ?_); rintro e w16 ⟨rfl, hb⟩; refine ⟨_, rfl, ?_⟩; have n0_ := Aside0.mk (blk_below (g := gb470) (o := .cells #[.int .i64 a0_0, .int .i64 a0_1] 38 (0, 0)) (by (with_reducible repeat (first | refine blk_drewN ?_ _ | refine blk_drew ?_ | refine blk_alloc ?_ _)); exact BK470.out) hb); have n1_ := Aside0.mk (blk_below (g := gb471) (o := .cells #[.int .i64 a1_0, .int .i64 a1_1] 38 (0, 0)) (by (with_reducible repeat (first | refine blk_drewN ?_ _ | refine blk_drew ?_ | refine blk_alloc ?_ _)); exact BK471.out) hb); have n2_ := Aside0.mk (blk_below (g := gb472) (o := .cells #[.int .i64 a2_0, .int .i64 a2_1] 38 (0, 0)) (by (with_reducible repeat (first | refine blk_drewN ?_ _ | refine blk_drew ?_ | refine blk_alloc ?_ _)); exact BK472.out) hb); have n3_ := Aside0.mk (below_step (by repeat (first | (with_reducible first | exact HB.out | apply below_alloc | apply pw_below_drewN | apply below_drew1 | refine below_set ?_ GE470.out | refine below_set ?_ GE471.out | refine below_set ?_ GE472.out) | exact HB.out)) hb); clear BK470; clear BK471; clear BK472; clear HB; have BK470 := n0_; have BK471 := n1_; have BK472 := n2_; have HB := n3_; clear n0_ n1_ n2_ n3_; (try clear hb); (try clear hb2); (try clear hk); (try clear hi); have hnb17 := NB471_472.out; have hnc17 := NB472_471.out; have hcz18_0 : w16.cell? ⟨gb471, 0, none⟩ = some (.int .i64 a1_0) := (blk_cell BK471.out 0).trans rfl; have hcz18_1 : w16.cell? ⟨gb471, 1, none⟩ = some (.int .i64 a1_1) := (blk_cell BK471.out 1).trans rfl; have hfz18_0 := blk_frozen BK471.out 0; have hfz18_1 := blk_frozen BK471.out 1) | (go_at_call 52; (with_reducible refine (impl_PtOk.calls a1_0 a1_1 true _ A10.out).mono ?_); rintro e w19 ⟨rfl, hb⟩; have n0_ := Aside0.mk (blk_below (g := gb470) (o := .cells #[.int .i64 a0_0, .int .i64 a0_1] 38 (0, 0)) (by (with_reducible repeat (first | refine blk_drewN ?_ _ | refine blk_drew ?_ | refine blk_alloc ?_ _)); exact BK470.out) hb); have n1_ := Aside0.mk (blk_below (g := gb471) (o := .cells #[.int .i64 a1_0, .int .i64 a1_1] 38 (0, 0)) (by (with_reducible repeat (first | refine blk_drewN ?_ _ | refine blk_drew ?_ | refine blk_alloc ?_ _)); exact BK471.out) hb); have n2_ := Aside0.mk (blk_below (g := gb472) (o := .cells #[.int .i64 a2_0, .int .i64 a2_1] 38 (0, 0)) (by (with_reducible repeat (first | refine blk_drewN ?_ _ | refine blk_drew ?_ | refine blk_alloc ?_ _)); exact BK472.out) hb); have n3_ := Aside0.mk (below_step (by repeat (first | (with_reducible first | exact HB.out | apply below_alloc | apply pw_below_drewN | apply below_drew1 | refine below_set ?_ GE470.out | refine below_set ?_ GE471.out | refine below_set ?_ GE472.out) | exact HB.out)) hb); clear BK470; clear BK471; clear BK472; clear HB; have BK470 := n0_; have BK471 := n1_; have BK472 := n2_; have HB := n3_; clear n0_ n1_ n2_ n3_; (try clear hb); (try clear hb2); (try clear hk); (try clear hi); have hcz20_0 : w19.cell? ⟨gb472, 0, none⟩ = some (.int .i64 a2_0) := (blk_cell BK472.out 0).trans rfl; have hcz20_1 : w19.cell? ⟨gb472, 1, none⟩ = some (.int .i64 a2_1) := (blk_cell BK472.out 1).trans rfl; have hfz20_0 := blk_frozen BK472.out 0; have hfz20_1 := blk_frozen BK472.out 1) | (go_at_call 52; (with_reducible refine (impl_PtOk.calls a2_0 a2_1 t475 _ A12.out).mono ?_); rintro e w21 ⟨rfl, hb⟩; have n0_ := Aside0.mk (blk_below (g := gb470) (o := .cells #[.int .i64 a0_0, .int .i64 a0_1] 38 (0, 0)) (by (with_reducible repeat (first | refine blk_drewN ?_ _ | refine blk_drew ?_ | refine blk_alloc ?_ _)); exact BK470.out) hb); have n1_ := Aside0.mk (blk_below (g := gb471) (o := .cells #[.int .i64 a1_0, .int .i64 a1_1] 38 (0, 0)) (by (with_reducible repeat (first | refine blk_drewN ?_ _ | refine blk_drew ?_ | refine blk_alloc ?_ _)); exact BK471.out) hb); have n2_ := Aside0.mk (blk_below (g := gb472) (o := .cells #[.int .i64 a2_0, .int .i64 a2_1] 38 (0, 0)) (by (with_reducible repeat (first | refine blk_drewN ?_ _ | refine blk_drew ?_ | refine blk_alloc ?_ _)); exact BK472.out) hb); have n3_ := Aside0.mk (below_step (by repeat (first | (with_reducible first | exact HB.out | apply below_alloc | apply pw_below_drewN | apply below_drew1 | refine below_set ?_ GE470.out | refine below_set ?_ GE471.out | refine below_set ?_ GE472.out) | exact HB.out)) hb); clear BK470; clear BK471; clear BK472; clear HB; have BK470 := n0_; have BK471 := n1_; have BK472 := n2_; have HB := n3_; clear n0_ n1_ n2_ n3_; (try clear hb); (try clear hb2); (try clear hk); (try clear hi)))
        go_meet
        case rel => exact ⟨_, (!t475), (by first | rfl | (simp; done) | (simp [*]; done)), H', ⟨by first | omega | exact Nat.le_refl _⟩, ⟨by (with_reducible repeat (first | refine blk_drewN ?_ _ | refine blk_drew ?_ | refine blk_alloc ?_ _)); exact BK470.out⟩, ⟨by (with_reducible repeat (first | refine blk_drewN ?_ _ | refine blk_drew ?_ | refine blk_alloc ?_ _)); exact BK471.out⟩, ⟨by (with_reducible repeat (first | refine blk_drewN ?_ _ | refine blk_drew ?_ | refine blk_alloc ?_ _)); exact BK472.out⟩, ⟨by repeat (first | (with_reducible first | exact HB.out | apply below_alloc | apply pw_below_drewN | apply below_drew1 | refine below_set ?_ GE470.out | refine below_set ?_ GE471.out | refine below_set ?_ GE472.out) | exact HB.out)⟩⟩
      · replace c11 := Bool.eq_false_iff.mpr c11
        subst c11
        have H1 : (impl_SegTurn.j0 k true a0_0 a0_1 a1_0 a1_1 a2_0 a2_1) = some r := by rw [if_neg (show ¬ (false = true) by decide)] at H; exact H
        clear H
        have H := H1
        clear H1
        have H' := Aside0.mk H
        clear H
        have hnb22 := NB470_471.out
        have hnc22 := NB471_470.out
        have hnb23 := NB470_472.out
        have hnc23 := NB472_470.out
        have hcz24_0 : w7.cell? ⟨gb470, 0, none⟩ = some (.int .i64 a0_0) := (blk_cell BK470.out 0).trans rfl
        have hcz24_1 : w7.cell? ⟨gb470, 1, none⟩ = some (.int .i64 a0_1) := (blk_cell BK470.out 1).trans rfl
        have hfz24_0 := blk_frozen BK470.out 0
        have hfz24_1 := blk_frozen BK470.out 1
        go_wp2_with (first | ((with_reducible refine gate_callee (f := 52) rfl ?_); refine goesL_ (some 9) rfl rfl Tryd.func52 (by kernel_rfl) rfl #[.agg #[.int .i64 a0_0, .int .i64 a0_1]] rfl (by (try simp only [List.map_toArray, List.map_cons, List.map_nil]); first | done | rfl | (simp only [List.length_drop, List.length_take]; rfl)) ?_; (with_reducible refine (impl_PtOk.calls a0_0 a0_1 true _ A8.out).mono ?_); rintro e w25 ⟨rfl, hb⟩; refine ⟨_, rfl, ?_⟩; have n0_ := Aside0.mk (blk_below (g := gb470) (o := .cells #[.int .i64 a0_0, .int .i64 a0_1] 38 (0, 0)) (by (with_reducible repeat (first | refine blk_drewN ?_ _ | refine blk_drew ?_ | refine blk_alloc ?_ _)); exact BK470.out) hb); have n1_ := Aside0.mk (blk_below (g := gb471) (o := .cells #[.int .i64 a1_0, .int .i64 a1_1] 38 (0, 0)) (by (with_reducible repeat (first | refine blk_drewN ?_ _ | refine blk_drew ?_ | refine blk_alloc ?_ _)); exact BK471.out) hb); have n2_ := Aside0.mk (blk_below (g := gb472) (o := .cells #[.int .i64 a2_0, .int .i64 a2_1] 38 (0, 0)) (by (with_reducible repeat (first | refine blk_drewN ?_ _ | refine blk_drew ?_ | refine blk_alloc ?_ _)); exact BK472.out) hb); have n3_ := Aside0.mk (below_step (by repeat (first | (with_reducible first | exact HB.out | apply below_alloc | apply pw_below_drewN | apply below_drew1 | refine below_set ?_ GE470.out | refine below_set ?_ GE471.out | refine below_set ?_ GE472.out) | exact HB.out)) hb); clear BK470; clear BK471; clear BK472; clear HB; have BK470 := n0_; have BK471 := n1_; have BK472 := n2_; have HB := n3_; clear n0_ n1_ n2_ n3_; (try clear hb); (try clear hb2); (try clear hk); (try clear hi); have hnb26 := NB471_472.out; have hnc26 := NB472_471.out; have hcz27_0 : w25.cell? ⟨gb471, 0, none⟩ = some (.int .i64 a1_0) := (blk_cell BK471.out 0).trans rfl; have hcz27_1 : w25.cell? ⟨gb471, 1, none⟩ = some (.int .i64 a1_1) := (blk_cell BK471.out 1).trans rfl; have hfz27_0 := blk_frozen BK471.out 0; have hfz27_1 := blk_frozen BK471.out 1) | (go_at_call 52; (with_reducible refine (impl_PtOk.calls a1_0 a1_1 false _ A10.out).mono ?_); rintro e w28 ⟨rfl, hb⟩; have n0_ := Aside0.mk (blk_below (g := gb470) (o := .cells #[.int .i64 a0_0, .int .i64 a0_1] 38 (0, 0)) (by (with_reducible repeat (first | refine blk_drewN ?_ _ | refine blk_drew ?_ | refine blk_alloc ?_ _)); exact BK470.out) hb); have n1_ := Aside0.mk (blk_below (g := gb471) (o := .cells #[.int .i64 a1_0, .int .i64 a1_1] 38 (0, 0)) (by (with_reducible repeat (first | refine blk_drewN ?_ _ | refine blk_drew ?_ | refine blk_alloc ?_ _)); exact BK471.out) hb); have n2_ := Aside0.mk (blk_below (g := gb472) (o := .cells #[.int .i64 a2_0, .int .i64 a2_1] 38 (0, 0)) (by (with_reducible repeat (first | refine blk_drewN ?_ _ | refine blk_drew ?_ | refine blk_alloc ?_ _)); exact BK472.out) hb); have n3_ := Aside0.mk (below_step (by repeat (first | (with_reducible first | exact HB.out | apply below_alloc | apply pw_below_drewN | apply below_drew1 | refine below_set ?_ GE470.out | refine below_set ?_ GE471.out | refine below_set ?_ GE472.out) | exact HB.out)) hb); clear BK470; clear BK471; clear BK472; clear HB; have BK470 := n0_; have BK471 := n1_; have BK472 := n2_; have HB := n3_; clear n0_ n1_ n2_ n3_; (try clear hb); (try clear hb2); (try clear hk); (try clear hi)))
        go_meet
        case rel => exact ⟨_, (true), (by first | rfl | (simp; done) | (simp [*]; done)), H', ⟨by first | omega | exact Nat.le_refl _⟩, ⟨by (with_reducible repeat (first | refine blk_drewN ?_ _ | refine blk_drew ?_ | refine blk_alloc ?_ _)); exact BK470.out⟩, ⟨by (with_reducible repeat (first | refine blk_drewN ?_ _ | refine blk_drew ?_ | refine blk_alloc ?_ _)); exact BK471.out⟩, ⟨by (with_reducible repeat (first | refine blk_drewN ?_ _ | refine blk_drew ?_ | refine blk_alloc ?_ _)); exact BK472.out⟩, ⟨by repeat (first | (with_reducible first | exact HB.out | apply below_alloc | apply pw_below_drewN | apply below_drew1 | refine below_set ?_ GE470.out | refine below_set ?_ GE471.out | refine below_set ?_ GE472.out) | exact HB.out)⟩⟩
    · replace c9 := Bool.eq_false_iff.mpr c9
      subst c9
      have H1 : (impl_SegTurn.j0 k true a0_0 a0_1 a1_0 a1_1 a2_0 a2_1) = some r := by rw [if_neg (show ¬ (false = true) by decide)] at H; exact H
      clear H
      have H := H1
      clear H1
      have H' := Aside0.mk H
      clear H
      have hnb29 := NB470_471.out
      have hnc29 := NB471_470.out
      have hnb30 := NB470_472.out
      have hnc30 := NB472_470.out
      have hcz31_0 : w7.cell? ⟨gb470, 0, none⟩ = some (.int .i64 a0_0) := (blk_cell BK470.out 0).trans rfl
      have hcz31_1 : w7.cell? ⟨gb470, 1, none⟩ = some (.int .i64 a0_1) := (blk_cell BK470.out 1).trans rfl
      have hfz31_0 := blk_frozen BK470.out 0
      have hfz31_1 := blk_frozen BK470.out 1
      go_wp2_with (first | ((with_reducible refine gate_callee (f := 52) rfl ?_); refine goesL_ (some 9) rfl rfl Tryd.func52 (by kernel_rfl) rfl #[.agg #[.int .i64 a0_0, .int .i64 a0_1]] rfl (by (try simp only [List.map_toArray, List.map_cons, List.map_nil]); first | done | rfl | (simp only [List.length_drop, List.length_take]; rfl)) ?_; (with_reducible refine (impl_PtOk.calls a0_0 a0_1 false _ A8.out).mono ?_); rintro e w32 ⟨rfl, hb⟩; refine ⟨_, rfl, ?_⟩; have n0_ := Aside0.mk (blk_below (g := gb470) (o := .cells #[.int .i64 a0_0, .int .i64 a0_1] 38 (0, 0)) (by (with_reducible repeat (first | refine blk_drewN ?_ _ | refine blk_drew ?_ | refine blk_alloc ?_ _)); exact BK470.out) hb); have n1_ := Aside0.mk (blk_below (g := gb471) (o := .cells #[.int .i64 a1_0, .int .i64 a1_1] 38 (0, 0)) (by (with_reducible repeat (first | refine blk_drewN ?_ _ | refine blk_drew ?_ | refine blk_alloc ?_ _)); exact BK471.out) hb); have n2_ := Aside0.mk (blk_below (g := gb472) (o := .cells #[.int .i64 a2_0, .int .i64 a2_1] 38 (0, 0)) (by (with_reducible repeat (first | refine blk_drewN ?_ _ | refine blk_drew ?_ | refine blk_alloc ?_ _)); exact BK472.out) hb); have n3_ := Aside0.mk (below_step (by repeat (first | (with_reducible first | exact HB.out | apply below_alloc | apply pw_below_drewN | apply below_drew1 | refine below_set ?_ GE470.out | refine below_set ?_ GE471.out | refine below_set ?_ GE472.out) | exact HB.out)) hb); clear BK470; clear BK471; clear BK472; clear HB; have BK470 := n0_; have BK471 := n1_; have BK472 := n2_; have HB := n3_; clear n0_ n1_ n2_ n3_; (try clear hb); (try clear hb2); (try clear hk); (try clear hi)))
      go_meet
      case rel => exact ⟨_, (true), (by first | rfl | (simp; done) | (simp [*]; done)), H', ⟨by first | omega | exact Nat.le_refl _⟩, ⟨by (with_reducible repeat (first | refine blk_drewN ?_ _ | refine blk_drew ?_ | refine blk_alloc ?_ _)); exact BK470.out⟩, ⟨by (with_reducible repeat (first | refine blk_drewN ?_ _ | refine blk_drew ?_ | refine blk_alloc ?_ _)); exact BK471.out⟩, ⟨by (with_reducible repeat (first | refine blk_drewN ?_ _ | refine blk_drew ?_ | refine blk_alloc ?_ _)); exact BK472.out⟩, ⟨by repeat (first | (with_reducible first | exact HB.out | apply below_alloc | apply pw_below_drewN | apply below_drew1 | refine below_set ?_ GE470.out | refine below_set ?_ GE471.out | refine below_set ?_ GE472.out) | exact HB.out)⟩⟩
  case rest =>
    clear HC4
    try clear c1
    try clear c2
    try clear p2
    try clear c3
    try clear c5
    try clear c6
    try clear c9
    try clear c11
    try clear c13
    try clear c14
    try clear c17
    try clear c22
    try clear c23
    try clear c26
    try clear c29
    try clear c30
    try clear hcz15_0
    try clear hcz15_1
    try clear hcz18_0
    try clear hcz18_1
    try clear hcz20_0
    try clear hcz20_1
    try clear hcz24_0
    try clear hcz24_1
    try clear hcz27_0
    try clear hcz27_1
    try clear hcz31_0
    try clear hcz31_1
    try clear hfz15_0
    try clear hfz15_1
    try clear hfz18_0
    try clear hfz18_1
    try clear hfz20_0
    try clear hfz20_1
    try clear hfz24_0
    try clear hfz24_1
    try clear hfz27_0
    try clear hfz27_1
    try clear hfz31_0
    try clear hfz31_1
    obtain ⟨kq, x20_3, rfl, HA, HJ3, BK470, BK471, BK472, HB⟩ := hcut
    cases kq with
    | zero => exact absurd HA.out (by simp [impl_SegTurn.j0])
    | succ kj3 =>
      have H := HA.out
      clear HA
      simp only [impl_SegTurn.j0] at H
      by_cases c33 : x20_3 = true
      · subst c33
        have H1 : (some 0) = some r := by rw [if_pos rfl] at H; exact H
        clear H
        have H := H1
        clear H1
        obtain rfl := Option.some.inj H
        go_wp2
        go_ret
        exact ⟨by first | rfl | (simp [errW_none, errW_some] <;> rfl) | (simp [*, errW_none, errW_some] <;> rfl), by repeat (first | (with_reducible first | exact HB.out | apply below_alloc | apply pw_below_drewN | apply below_drew1 | refine below_set ?_ GE470.out | refine below_set ?_ GE471.out | refine below_set ?_ GE472.out) | exact HB.out)⟩
      · replace c33 := Bool.eq_false_iff.mpr c33
        subst c33
        have H1 : ((impl_cross.f a0_0 a0_1 a1_0 a1_1 a2_0 a2_1).bind fun t476 => (if t476 > 0 then (some 1) else (if t476 < 0 then (some (-1)) else (some 0)))) = some r := by rw [if_neg (show ¬ (false = true) by decide)] at H; exact H
        clear H
        have H := H1
        clear H1
        replace H := Option.bind_eq_some_iff.mp H
        obtain ⟨t476, A340, H⟩ := H
        replace H : (if t476 > 0 then (some 1) else (if t476 < 0 then (some (-1)) else (some 0))) = some r := H
        have A34 := Aside0.mk A340
        clear A340
        by_cases c35 : t476 > 0
        · rw [if_pos c35] at H
          have c35b0 : decide (0 < t476) = true := decide_eq_true c35
          clear c35
          obtain rfl := Option.some.inj H
          have hnb36 := NB470_471.out
          have hnc36 := NB471_470.out
          have hnb37 := NB470_472.out
          have hnc37 := NB472_470.out
          have hcz38_0 : wc.cell? ⟨gb470, 0, none⟩ = some (.int .i64 a0_0) := (blk_cell BK470.out 0).trans rfl
          have hcz38_1 : wc.cell? ⟨gb470, 1, none⟩ = some (.int .i64 a0_1) := (blk_cell BK470.out 1).trans rfl
          have hfz38_0 := blk_frozen BK470.out 0
          have hfz38_1 := blk_frozen BK470.out 1
          have hnb39 := NB471_472.out
          have hnc39 := NB472_471.out
          have hcz40_0 : wc.cell? ⟨gb471, 0, none⟩ = some (.int .i64 a1_0) := (blk_cell BK471.out 0).trans rfl
          have hcz40_1 : wc.cell? ⟨gb471, 1, none⟩ = some (.int .i64 a1_1) := (blk_cell BK471.out 1).trans rfl
          have hfz40_0 := blk_frozen BK471.out 0
          have hfz40_1 := blk_frozen BK471.out 1
          have hcz41_0 : wc.cell? ⟨gb472, 0, none⟩ = some (.int .i64 a2_0) := (blk_cell BK472.out 0).trans rfl
          have hcz41_1 : wc.cell? ⟨gb472, 1, none⟩ = some (.int .i64 a2_1) := (blk_cell BK472.out 1).trans rfl
          have hfz41_0 := blk_frozen BK472.out 0
          have hfz41_1 := blk_frozen BK472.out 1
          go_wp2_with (first | ((with_reducible refine gate_callee (f := 56) rfl ?_); refine goesL_ (some 24) rfl rfl Tryd.func56 (by kernel_rfl) rfl #[.agg #[.int .i64 a0_0, .int .i64 a0_1], .agg #[.int .i64 a1_0, .int .i64 a1_1], .agg #[.int .i64 a2_0, .int .i64 a2_1]] rfl (by (try simp only [List.map_toArray, List.map_cons, List.map_nil]); first | done | rfl | (simp only [List.length_drop, List.length_take]; rfl)) ?_; (with_reducible refine (impl_cross.calls a0_0 a0_1 a1_0 a1_1 a2_0 a2_1 t476 _ A34.out).mono ?_); rintro e w42 ⟨rfl, hb⟩; refine ⟨_, rfl, ?_⟩; have n0_ := Aside0.mk (blk_below (g := gb470) (o := .cells #[.int .i64 a0_0, .int .i64 a0_1] 38 (0, 0)) (by (with_reducible repeat (first | refine blk_drewN ?_ _ | refine blk_drew ?_ | refine blk_alloc ?_ _)); exact BK470.out) hb); have n1_ := Aside0.mk (blk_below (g := gb471) (o := .cells #[.int .i64 a1_0, .int .i64 a1_1] 38 (0, 0)) (by (with_reducible repeat (first | refine blk_drewN ?_ _ | refine blk_drew ?_ | refine blk_alloc ?_ _)); exact BK471.out) hb); have n2_ := Aside0.mk (blk_below (g := gb472) (o := .cells #[.int .i64 a2_0, .int .i64 a2_1] 38 (0, 0)) (by (with_reducible repeat (first | refine blk_drewN ?_ _ | refine blk_drew ?_ | refine blk_alloc ?_ _)); exact BK472.out) hb); have n3_ := Aside0.mk (below_step (by repeat (first | (with_reducible first | exact HB.out | apply below_alloc | apply pw_below_drewN | apply below_drew1 | refine below_set ?_ GE470.out | refine below_set ?_ GE471.out | refine below_set ?_ GE472.out) | exact HB.out)) hb); clear BK470; clear BK471; clear BK472; clear HB; have BK470 := n0_; have BK471 := n1_; have BK472 := n2_; have HB := n3_; clear n0_ n1_ n2_ n3_; (try clear hb); (try clear hb2); (try clear hk); (try clear hi)))
          go_ret
          exact ⟨by first | rfl | (simp [errW_none, errW_some] <;> rfl) | (simp [*, errW_none, errW_some] <;> rfl), by repeat (first | (with_reducible first | exact HB.out | apply below_alloc | apply pw_below_drewN | apply below_drew1 | refine below_set ?_ GE470.out | refine below_set ?_ GE471.out | refine below_set ?_ GE472.out) | exact HB.out)⟩
        · rw [if_neg c35] at H
          have c35b0 : decide (0 < t476) = false := decide_eq_false c35
          clear c35
          by_cases c43 : t476 < 0
          · rw [if_pos c43] at H
            have c43b0 : decide (t476 < 0) = true := decide_eq_true c43
            clear c43
            obtain rfl := Option.some.inj H
            have hnb44 := NB470_471.out
            have hnc44 := NB471_470.out
            have hnb45 := NB470_472.out
            have hnc45 := NB472_470.out
            have hcz46_0 : wc.cell? ⟨gb470, 0, none⟩ = some (.int .i64 a0_0) := (blk_cell BK470.out 0).trans rfl
            have hcz46_1 : wc.cell? ⟨gb470, 1, none⟩ = some (.int .i64 a0_1) := (blk_cell BK470.out 1).trans rfl
            have hfz46_0 := blk_frozen BK470.out 0
            have hfz46_1 := blk_frozen BK470.out 1
            have hnb47 := NB471_472.out
            have hnc47 := NB472_471.out
            have hcz48_0 : wc.cell? ⟨gb471, 0, none⟩ = some (.int .i64 a1_0) := (blk_cell BK471.out 0).trans rfl
            have hcz48_1 : wc.cell? ⟨gb471, 1, none⟩ = some (.int .i64 a1_1) := (blk_cell BK471.out 1).trans rfl
            have hfz48_0 := blk_frozen BK471.out 0
            have hfz48_1 := blk_frozen BK471.out 1
            have hcz49_0 : wc.cell? ⟨gb472, 0, none⟩ = some (.int .i64 a2_0) := (blk_cell BK472.out 0).trans rfl
            have hcz49_1 : wc.cell? ⟨gb472, 1, none⟩ = some (.int .i64 a2_1) := (blk_cell BK472.out 1).trans rfl
            have hfz49_0 := blk_frozen BK472.out 0
            have hfz49_1 := blk_frozen BK472.out 1
            go_wp2_with (first | ((with_reducible refine gate_callee (f := 56) rfl ?_); refine goesL_ (some 24) rfl rfl Tryd.func56 (by kernel_rfl) rfl #[.agg #[.int .i64 a0_0, .int .i64 a0_1], .agg #[.int .i64 a1_0, .int .i64 a1_1], .agg #[.int .i64 a2_0, .int .i64 a2_1]] rfl (by (try simp only [List.map_toArray, List.map_cons, List.map_nil]); first | done | rfl | (simp only [List.length_drop, List.length_take]; rfl)) ?_; (with_reducible refine (impl_cross.calls a0_0 a0_1 a1_0 a1_1 a2_0 a2_1 t476 _ A34.out).mono ?_); rintro e w50 ⟨rfl, hb⟩; refine ⟨_, rfl, ?_⟩; have n0_ := Aside0.mk (blk_below (g := gb470) (o := .cells #[.int .i64 a0_0, .int .i64 a0_1] 38 (0, 0)) (by (with_reducible repeat (first | refine blk_drewN ?_ _ | refine blk_drew ?_ | refine blk_alloc ?_ _)); exact BK470.out) hb); have n1_ := Aside0.mk (blk_below (g := gb471) (o := .cells #[.int .i64 a1_0, .int .i64 a1_1] 38 (0, 0)) (by (with_reducible repeat (first | refine blk_drewN ?_ _ | refine blk_drew ?_ | refine blk_alloc ?_ _)); exact BK471.out) hb); have n2_ := Aside0.mk (blk_below (g := gb472) (o := .cells #[.int .i64 a2_0, .int .i64 a2_1] 38 (0, 0)) (by (with_reducible repeat (first | refine blk_drewN ?_ _ | refine blk_drew ?_ | refine blk_alloc ?_ _)); exact BK472.out) hb); have n3_ := Aside0.mk (below_step (by repeat (first | (with_reducible first | exact HB.out | apply below_alloc | apply pw_below_drewN | apply below_drew1 | refine below_set ?_ GE470.out | refine below_set ?_ GE471.out | refine below_set ?_ GE472.out) | exact HB.out)) hb); clear BK470; clear BK471; clear BK472; clear HB; have BK470 := n0_; have BK471 := n1_; have BK472 := n2_; have HB := n3_; clear n0_ n1_ n2_ n3_; (try clear hb); (try clear hb2); (try clear hk); (try clear hi)))
            go_ret
            exact ⟨by first | rfl | (simp [errW_none, errW_some] <;> rfl) | (simp [*, errW_none, errW_some] <;> rfl), by repeat (first | (with_reducible first | exact HB.out | apply below_alloc | apply pw_below_drewN | apply below_drew1 | refine below_set ?_ GE470.out | refine below_set ?_ GE471.out | refine below_set ?_ GE472.out) | exact HB.out)⟩
          · rw [if_neg c43] at H
            have c43b0 : decide (t476 < 0) = false := decide_eq_false c43
            clear c43
            obtain rfl := Option.some.inj H
            have hnb51 := NB470_471.out
            have hnc51 := NB471_470.out
            have hnb52 := NB470_472.out
            have hnc52 := NB472_470.out
            have hcz53_0 : wc.cell? ⟨gb470, 0, none⟩ = some (.int .i64 a0_0) := (blk_cell BK470.out 0).trans rfl
            have hcz53_1 : wc.cell? ⟨gb470, 1, none⟩ = some (.int .i64 a0_1) := (blk_cell BK470.out 1).trans rfl
            have hfz53_0 := blk_frozen BK470.out 0
            have hfz53_1 := blk_frozen BK470.out 1
            have hnb54 := NB471_472.out
            have hnc54 := NB472_471.out
            have hcz55_0 : wc.cell? ⟨gb471, 0, none⟩ = some (.int .i64 a1_0) := (blk_cell BK471.out 0).trans rfl
            have hcz55_1 : wc.cell? ⟨gb471, 1, none⟩ = some (.int .i64 a1_1) := (blk_cell BK471.out 1).trans rfl
            have hfz55_0 := blk_frozen BK471.out 0
            have hfz55_1 := blk_frozen BK471.out 1
            have hcz56_0 : wc.cell? ⟨gb472, 0, none⟩ = some (.int .i64 a2_0) := (blk_cell BK472.out 0).trans rfl
            have hcz56_1 : wc.cell? ⟨gb472, 1, none⟩ = some (.int .i64 a2_1) := (blk_cell BK472.out 1).trans rfl
            have hfz56_0 := blk_frozen BK472.out 0
            have hfz56_1 := blk_frozen BK472.out 1
            go_wp2_with (first | ((with_reducible refine gate_callee (f := 56) rfl ?_); refine goesL_ (some 24) rfl rfl Tryd.func56 (by kernel_rfl) rfl #[.agg #[.int .i64 a0_0, .int .i64 a0_1], .agg #[.int .i64 a1_0, .int .i64 a1_1], .agg #[.int .i64 a2_0, .int .i64 a2_1]] rfl (by (try simp only [List.map_toArray, List.map_cons, List.map_nil]); first | done | rfl | (simp only [List.length_drop, List.length_take]; rfl)) ?_; (with_reducible refine (impl_cross.calls a0_0 a0_1 a1_0 a1_1 a2_0 a2_1 t476 _ A34.out).mono ?_); rintro e w57 ⟨rfl, hb⟩; refine ⟨_, rfl, ?_⟩; have n0_ := Aside0.mk (blk_below (g := gb470) (o := .cells #[.int .i64 a0_0, .int .i64 a0_1] 38 (0, 0)) (by (with_reducible repeat (first | refine blk_drewN ?_ _ | refine blk_drew ?_ | refine blk_alloc ?_ _)); exact BK470.out) hb); have n1_ := Aside0.mk (blk_below (g := gb471) (o := .cells #[.int .i64 a1_0, .int .i64 a1_1] 38 (0, 0)) (by (with_reducible repeat (first | refine blk_drewN ?_ _ | refine blk_drew ?_ | refine blk_alloc ?_ _)); exact BK471.out) hb); have n2_ := Aside0.mk (blk_below (g := gb472) (o := .cells #[.int .i64 a2_0, .int .i64 a2_1] 38 (0, 0)) (by (with_reducible repeat (first | refine blk_drewN ?_ _ | refine blk_drew ?_ | refine blk_alloc ?_ _)); exact BK472.out) hb); have n3_ := Aside0.mk (below_step (by repeat (first | (with_reducible first | exact HB.out | apply below_alloc | apply pw_below_drewN | apply below_drew1 | refine below_set ?_ GE470.out | refine below_set ?_ GE471.out | refine below_set ?_ GE472.out) | exact HB.out)) hb); clear BK470; clear BK471; clear BK472; clear HB; have BK470 := n0_; have BK471 := n1_; have BK472 := n2_; have HB := n3_; clear n0_ n1_ n2_ n3_; (try clear hb); (try clear hb2); (try clear hk); (try clear hi)))
            go_ret
            exact ⟨by first | rfl | (simp [errW_none, errW_some] <;> rfl) | (simp [*, errW_none, errW_some] <;> rfl), by repeat (first | (with_reducible first | exact HB.out | apply below_alloc | apply pw_below_drewN | apply below_drew1 | refine below_set ?_ GE470.out | refine below_set ?_ GE471.out | refine below_set ?_ GE472.out) | exact HB.out)⟩
end Go.Proofs.YtnponnkcfgjeoaaDoor.X
end
section
namespace Go.Proofs.YtnponnkcfgjeoaaDoor.X
open Go.RowKit Go.Proofs.YtnponnkcfgjeoaaDoorW.PrintWords Go.Proofs.YtnponnkcfgjeoaaDoorW.PrintLast Go.Proofs.YtnponnkcfgjeoaaDoorW.PrintMore
attribute [local go_sem] max2_int min2_int max_two min_two max_three min_three max_four min_four
set_option linter.unusedVariables false
set_option linter.unusedSimpArgs false
mutual
def impl_SegMeet.j0 : Nat → Bool → Int → Int → Int → Int → Int → Int → Int → Int → Option (Bool)
  | 0, _, _, _, _, _, _, _, _, _ => none
  | k + 1, x12, x478000, x478001, x478002, x478003, x479000, x479001, x479002, x479003 => if x12 = true then (some false) else ((impl_SegHas.f k x478000 x478001 x478002 x478003 x479000 x479001).bind fun t481 => (if t481 = true then (impl_SegMeet.j1 k true x478000 x478001 x478002 x478003 x479000 x479001 x479002 x479003) else ((impl_SegHas.f k x478000 x478001 x478002 x478003 x479002 x479003).bind fun t482 => (if t482 = true then (impl_SegMeet.j1 k true x478000 x478001 x478002 x478003 x479000 x479001 x479002 x479003) else ((impl_SegHas.f k x479000 x479001 x479002 x479003 x478000 x478001).bind fun t483 => (if t483 = true then (impl_SegMeet.j1 k true x478000 x478001 x478002 x478003 x479000 x479001 x479002 x479003) else ((impl_SegHas.f k x479000 x479001 x479002 x479003 x478002 x478003).bind fun t484 => (impl_SegMeet.j1 k t484 x478000 x478001 x478002 x478003 x479000 x479001 x479002 x479003))))))))
def impl_SegMeet.j1 : Nat → Bool → Int → Int → Int → Int → Int → Int → Int → Int → Option (Bool)
  | 0, _, _, _, _, _, _, _, _, _ => none
  | k + 1, x34, x478000, x478001, x478002, x478003, x479000, x479001, x479002, x479003 => if x34 = true then (some true) else ((impl_SegTurn.f k x478000 x478001 x478002 x478003 x479000 x479001).bind fun t485 => ((impl_SegTurn.f k x478000 x478001 x478002 x478003 x479002 x479003).bind fun t486 => (if (wrap64 (t485 * t486)) < 0 then ((impl_SegTurn.f k x479000 x479001 x479002 x479003 x478000 x478001).bind fun t487 => ((impl_SegTurn.f k x479000 x479001 x479002 x479003 x478002 x478003).bind fun t488 => (some (decide ((wrap64 (t487 * t488)) < 0))))) else (some false))))
end
def impl_SegMeet.f (k : Nat) (a0_0 : Int) (a0_1 : Int) (a0_2 : Int) (a0_3 : Int) (a1_0 : Int) (a1_1 : Int) (a1_2 : Int) (a1_3 : Int) : Option (Bool) := (impl_SegOk.f a0_0 a0_1 a0_2 a0_3).bind fun t479 => (if t479 = true then ((impl_SegOk.f a1_0 a1_1 a1_2 a1_3).bind fun t480 => (impl_SegMeet.j0 k (!t480) a0_0 a0_1 a0_2 a0_3 a1_0 a1_1 a1_2 a1_3)) else (impl_SegMeet.j0 k true a0_0 a0_1 a0_2 a0_3 a1_0 a1_1 a1_2 a1_3))
def impl_SegMeet.T5 : Bool × List (List Nat × List Nat) := (true, [([], []), ([0], [0]), ([], []), ([2], [2]), ([], []), ([4], [4]), ([1, 3, 5], [1, 3, 5]), ([], []), ([7], [7]), ([], []), ([9], [9]), ([], []), ([11], [11]), ([8, 10, 12, 6], [8, 10, 12]), ([6, 13], [6, 13]), ([14], [14]), ([15, 13], [15]), ([16], [16]), ([17, 16], [16, 17]), ([16], [16]), ([19, 16], [16, 19]), ([16], [16]), ([21, 16], [16, 21]), ([18, 20, 22, 16, 16], [16, 18, 20, 22]), ([16], [16]), ([24, 16], [16, 24]), ([16], [16]), ([26, 16], [16, 26]), ([16], [16]), ([28, 16], [16, 28]), ([25, 27, 29, 23, 16], [16, 25, 27, 29]), ([23, 30, 16], [16, 23, 30]), ([31, 16], [16, 31]), ([16, 32], [16, 32]), ([33, 30, 0, 1, 2, 3, 4, 5, 6, 7, 8, 9, 10, 11, 12, 13, 14, 15, 16, 17, 18, 19, 20, 21, 22, 23, 24, 25, 26, 27, 28, 29, 30, 31, 32, 33], [33])])
def impl_SegMeet.B5 : List Nat := [0, 1, 0, 4, 0, 16, 63, 0, 128, 0, 512, 0, 2048, 8191, 16383, 32767, 65535, 131071, 262143, 131071, 655359, 131071, 2228223, 8388607, 131071, 16908287, 131071, 67239935, 131071, 268566527, 1073741823, 2147483647, 4294967295, 8589934591, 17179869183]
theorem impl_SegMeet.tab5 : rtab .any (opsOf Tryd.f37 5) = impl_SegMeet.T5 := by kernel_rfl
theorem impl_SegMeet.bits5 : waitsOk impl_SegMeet.T5.2 impl_SegMeet.B5 = true := by kernel_rfl
set_option maxHeartbeats 8000000 in
set_option maxRecDepth 100000 in
theorem impl_SegMeet.calls (k : Nat) (a0_0 : Int) (a0_1 : Int) (a0_2 : Int) (a0_3 : Int) (a1_0 : Int) (a1_1 : Int) (a1_2 : Int) (a1_3 : Int) (r : Bool) (w : World) (h : impl_SegMeet.f k a0_0 a0_1 a0_2 a0_3 a1_0 a1_1 a1_2 a1_3 = some r) :
    Calls Tryd.prog 37 #[.agg #[.int .i64 a0_0, .int .i64 a0_1, .int .i64 a0_2, .int .i64 a0_3], .agg #[.int .i64 a1_0, .int .i64 a1_1, .int .i64 a1_2, .int .i64 a1_3]] w fun e w' => e = .returned (.bool r) ∧ Below w.heap.size w w' := by
  have hu40 := Tryd.underlying40
  have hu38 := Tryd.underlying38
  have HB := Aside0.mk (Below.refl w.heap.size w)
  have H : ((impl_SegOk.f a0_0 a0_1 a0_2 a0_3).bind fun t479 => (if t479 = true then ((impl_SegOk.f a1_0 a1_1 a1_2 a1_3).bind fun t480 => (impl_SegMeet.j0 k (!t480) a0_0 a0_1 a0_2 a0_3 a1_0 a1_1 a1_2 a1_3)) else (impl_SegMeet.j0 k true a0_0 a0_1 a0_2 a0_3 a1_0 a1_1 a1_2 a1_3))) = some r := h
  clear h
  have HC3 := Aside0.mk H
  clear H
  go_enter Tryd.func37, Tryd.ntmps37
  go_upto_region 1 with (first | ((with_reducible refine gate_dst (N := 2) rfl ?_); refine box_event ?hg (N := 2) ?hd (cs := #[.int .i64 a0_0, .int .i64 a0_1, .int .i64 a0_2, .int .i64 a0_3]) (t := 40) ?hr ?_; (case hd => rfl); (case hg => rfl); (case hr => first | (go_simp; done) | (go_simp; rfl)); intro gb477 hg w4 hbox hb; have n0_ := Aside0.mk (below_step (by repeat (first | (with_reducible first | exact HB.out | apply below_alloc | apply pw_below_drewN | apply below_drew1) | exact HB.out)) hb); have n1_ := Aside0.mk (hbox); have n2_ := Aside0.mk ((by rw [hg]; exact (below_size (by repeat (first | (with_reducible first | exact HB.out | apply below_alloc | apply pw_below_drewN | apply below_drew1) | exact HB.out))) : w.heap.size ≤ gb477)); have n3_ := Aside0.mk ((by rw [hg]; exact (below_size (by repeat (first | (with_reducible first | exact HB.out | apply below_alloc | apply pw_below_drewN | apply below_drew1) | exact HB.out))) : w.heap.size ≤ gb477)); clear HB; have HB := n0_; have BK477 := n1_; have GW477 := n2_; have GE477 := n3_; clear n0_ n1_ n2_ n3_; clear hb hbox hg) | ((with_reducible refine gate_dst (N := 3) rfl ?_); refine box_event ?hg (N := 3) ?hd (cs := #[.int .i64 a1_0, .int .i64 a1_1, .int .i64 a1_2, .int .i64 a1_3]) (t := 40) ?hr ?_; (case hd => rfl); (case hg => rfl); (case hr => first | (go_simp; done) | (go_simp; rfl)); intro gb478 hg w5 hbox hb; have n0_ := Aside0.mk (blk_below (g := gb477) (o := .cells #[.int .i64 a0_0, .int .i64 a0_1, .int .i64 a0_2, .int .i64 a0_3] 40 (0, 0)) (by (with_reducible repeat (first | refine blk_drewN ?_ _ | refine blk_drew ?_ | refine blk_alloc ?_ _)); exact BK477.out) hb); have n1_ := Aside0.mk (below_step (by repeat (first | (with_reducible first | exact HB.out | apply below_alloc | apply pw_below_drewN | apply below_drew1 | refine below_set ?_ GE477.out) | exact HB.out)) hb); have n2_ := Aside0.mk (hbox); have n3_ := Aside0.mk ((by rw [hg]; exact (below_size (by repeat (first | (with_reducible first | exact HB.out | apply below_alloc | apply pw_below_drewN | apply below_drew1 | refine below_set ?_ GE477.out) | exact HB.out))) : w.heap.size ≤ gb478)); have n4_ := Aside0.mk ((by rw [hg]; exact (below_size (by repeat (first | (with_reducible first | exact HB.out | apply below_alloc | apply pw_below_drewN | apply below_drew1 | refine below_set ?_ GE477.out) | exact HB.out))) : w.heap.size ≤ gb478)); have n5_ := Aside0.mk ((by rw [hg]; exact Nat.ne_of_lt (blk_lt (g := gb477) (o := .cells #[.int .i64 a0_0, .int .i64 a0_1, .int .i64 a0_2, .int .i64 a0_3] 40 (0, 0)) (by (with_reducible repeat (first | refine blk_drewN ?_ _ | refine blk_drew ?_ | refine blk_alloc ?_ _)); exact BK477.out)) : gb477 ≠ gb478)); have n6_ := Aside0.mk ((by rw [hg]; exact Nat.ne_of_gt (blk_lt (g := gb477) (o := .cells #[.int .i64 a0_0, .int .i64 a0_1, .int .i64 a0_2, .int .i64 a0_3] 40 (0, 0)) (by (with_reducible repeat (first | refine blk_drewN ?_ _ | refine blk_drew ?_ | refine blk_alloc ?_ _)); exact BK477.out)) : gb478 ≠ gb477)); clear BK477; clear HB; have BK477 := n0_; have HB := n1_; have BK478 := n2_; have GW478 := n3_; have GE478 := n4_; have NB477_478 := n5_; have NB478_477 := n6_; clear n0_ n1_ n2_ n3_ n4_ n5_ n6_; clear hb hbox hg))
  (try simp only [Act.put, List.setIfInBounds_toArray, List.set_cons_zero, List.set_cons_succ])
  go_cut [12] (fun v12 wc => ∃ (kq : Nat) (x12_2 : Bool), v12 = .bool x12_2 ∧ Aside0 (impl_SegMeet.j0 kq x12_2 a0_0 a0_1 a0_2 a0_3 a1_0 a1_1 a1_2 a1_3 = some r) ∧ Aside0 (kq ≤ k) ∧ Aside0 (wc.heap[gb477]? = some (.cells #[.int .i64 a0_0, .int .i64 a0_1, .int .i64 a0_2, .int .i64 a0_3] 40 (0, 0))) ∧ Aside0 (wc.heap[gb478]? = some (.cells #[.int .i64 a1_0, .int .i64 a1_1, .int .i64 a1_2, .int .i64 a1_3] 40 (0, 0))) ∧ Aside0 (Below w.heap.size w wc))
  case first =>
    have H := HC3.out
    clear HC3
    replace H := Option.bind_eq_some_iff.mp H
    obtain ⟨t479, A60, H⟩ := H
    replace H : (if t479 = true then ((impl_SegOk.f a1_0 a1_1 a1_2 a1_3).bind fun t480 => (impl_SegMeet.j0 k (!t480) a0_0 a0_1 a0_2 a0_3 a1_0 a1_1 a1_2 a1_3)) else (impl_SegMeet.j0 k true a0_0 a0_1 a0_2 a0_3 a1_0 a1_1 a1_2 a1_3)) = some r := H
    have A6 := Aside0.mk A60
    clear A60
    by_cases c7 : t479 = true
    · subst c7
      have H1 : ((impl_SegOk.f a1_0 a1_1 a1_2 a1_3).bind fun t480 => (impl_SegMeet.j0 k (!t480) a0_0 a0_1 a0_2 a0_3 a1_0 a1_1 a1_2 a1_3)) = some r := by rw [if_pos rfl] at H; exact H
      clear H
      have H := H1
      clear H1
      replace H := Option.bind_eq_some_iff.mp H
      obtain ⟨t480, A80, H⟩ := H
      replace H : (impl_SegMeet.j0 k (!t480) a0_0 a0_1 a0_2 a0_3 a1_0 a1_1 a1_2 a1_3) = some r := H
      have A8 := Aside0.mk A80
      clear A80
      have H' := Aside0.mk H
      clear H
      have hnb9 := NB477_478.out
      have hnc9 := NB478_477.out
      have hcz10_0 : w5.cell? ⟨gb477, 0, none⟩ = some (.int .i64 a0_0) := (blk_cell BK477.out 0).trans rfl
      have hcz10_1 : w5.cell? ⟨gb477, 1, none⟩ = some (.int .i64 a0_1) := (blk_cell BK477.out 1).trans rfl
      have hcz10_2 : w5.cell? ⟨gb477, 2, none⟩ = some (.int .i64 a0_2) := (blk_cell BK477.out 2).trans rfl
      have hcz10_3 : w5.cell? ⟨gb477, 3, none⟩ = some (.int .i64 a0_3) := (blk_cell BK477.out 3).trans rfl
      have hfz10_0 := blk_frozen BK477.out 0
      have hfz10_1 := blk_frozen BK477.out 1
      have hfz10_2 := blk_frozen BK477.out 2
      have hfz10_3 := blk_frozen BK477.out 3
      go_wp2_with (first | ((with_reducible refine gate_callee (f := 28) rfl ?_); refine goesL_ (some 6) rfl rfl Tryd.func28 (by kernel_rfl) rfl #[.agg #[.int .i64 a0_0, .int .i64 a0_1, .int .i64 a0_2, .int .i64 a0_3]] rfl (by (try simp only [List.map_toArray, List.map_cons, List.map_nil]); first | done | rfl | (simp only [List.length_drop, List.length_take]; rfl)) ?_; (with_reducible refine (impl_SegOk.calls a0_0 a0_1 a0_2 a0_3 true _ A6.out).mono ?_); rintro e w11 ⟨rfl, hb⟩; refine ⟨_, rfl, ?_⟩; have n0_ := Aside0.mk (blk_below (g := gb477) (o := .cells #[.int .i64 a0_0, .int .i64 a0_1, .int .i64 a0_2, .int .i64 a0_3] 40 (0, 0)) (by (with_reducible repeat (first | refine blk_drewN ?_ _ | refine blk_drew ?_ | refine blk_alloc ?_ _)); exact BK477.out) hb); have n1_ := Aside0.mk (blk_below (g := gb478) (o := .cells #[.int .i64 a1_0, .int .i64 a1_1, .int .i64 a1_2, .int .i64 a1_3] 40 (0, 0)) (by (with_reducible repeat (first | refine blk_drewN ?_ _ | refine blk_drew ?_ | refine blk_alloc ?_ _)); exact BK478.out) hb); have n2_ := Aside0.mk (below_step (by repeat (first | (with_reducible first | exact HB.out | apply below_alloc | apply pw_below_drewN | apply below_drew1 | refine below_set ?_ GE477.out | refine below_set ?_ GE478.out) | exact HB.out)) hb); clear BK477; clear BK478; clear HB; have BK477 := n0_; have BK478 := n1_; have HB := n2_; clear n0_ n1_ n2_; (try clear hb); (try clear hb2); (try clear hk); (try clear hi); have hcz12_0 : w11.cell? ⟨gb478, 0, none⟩ = some (.int .i64 a1_0) := (blk_cell BK478.out 0).trans rfl; have hcz12_1 : w11.cell? ⟨gb478, 1, none⟩ = some (.int .i64 a1_1) := (blk_cell BK478.out 1).trans rfl; have hcz12_2 : w11.cell? ⟨gb478, 2, none⟩ = some (.int .i64 a1_2) := (blk_cell BK478.out 2).trans rfl; have hcz12_3 : w11.cell? ⟨gb478, 3, none⟩ = some (.int .i64 a1_3) := (blk_cell BK478.out 3).trans rfl; have hfz12_0 := blk_frozen BK478.out 0; have hfz12_1 := blk_frozen BK478.out 1; have hfz12_2 := blk_frozen BK478.out 2; have hfz12_3 := blk_frozen BK478.out 3) | (go_at_call 28; (with_reducible refine (impl_SegOk.calls a1_0 a1_1 a1_2 a1_3 t480 _ A8.out).mono ?_); rintro e w13 ⟨rfl, hb⟩; have n0_ := Aside0.mk (blk_below (g := gb477) (o := .cells #[.int .i64 a0_0, .int .i64 a0_1, .int .i64 a0_2, .int .i64 a0_3] 40 (0, 0)) (by (with_reducible repeat (first | refine blk_drewN ?_ _ | refine blk_drew ?_ | refine blk_alloc ?_ _)); exact BK477.out) hb); have n1_ := Aside0.mk (blk_below (g := gb478) (o := .cells #[.int .i64 a1_0, .int .i64 a1_1, .int .i64 a1_2, .int .i64 a1_3] 40 (0, 0)) (by (with_reducible repeat (first | refine blk_drewN ?_ _ | refine blk_drew ?_ | refine blk_alloc ?_ _)); exact BK478.out) hb); have n2_ := Aside0.mk (below_step (by repeat (first | (with_reducible first | exact HB.out | apply below_alloc | apply pw_below_drewN | apply below_drew1 | refine below_set ?_ GE477.out | refine below_set ?_ GE478.out) | exact HB.out)) hb); clear BK477; clear BK478; clear HB; have BK477 := n0_; have BK478 := n1_; have HB := n2_; clear n0_ n1_ n2_; (try clear hb); (try clear hb2); (try clear hk); (try clear hi)))
      go_meet
      case rel => exact ⟨_, (!t480), (by first | rfl | (simp; done) | (simp [*]; done)), H', ⟨by first | omega | exact Nat.le_refl _⟩, ⟨by (with_reducible repeat (first | refine blk_drewN ?_ _ | refine blk_drew ?_ | refine blk_alloc ?_ _)); exact BK477.out⟩, ⟨by (with_reducible repeat (first | refine blk_drewN ?_ _ | refine blk_drew ?_ | refine blk_alloc ?_ _)); exact BK478.out⟩, ⟨by repeat (first | (with_reducible first | exact HB.out | apply below_alloc | apply pw_below_drewN | apply below_drew1 | refine below_set ?_ GE477.out | refine below_set ?_ GE478.out) | exact HB.out)⟩⟩
    · replace c7 := Bool.eq_false_iff.mpr c7
      subst c7
      have H1 : (impl_SegMeet.j0 k true a0_0 a0_1 a0_2 a0_3 a1_0 a1_1 a1_2 a1_3) = some r := by rw [if_neg (show ¬ (false = true) by decide)] at H; exact H
      clear H
      have H := H1
      clear H1
      have H' := Aside0.mk H
      clear H
      have hnb14 := NB477_478.out
      have hnc14 := NB478_477.out
      have hcz15_0 : w5.cell? ⟨gb477, 0, none⟩ = some (.int .i64 a0_0) := (blk_cell BK477.out 0).trans rfl
      have hcz15_1 : w5.cell? ⟨gb477, 1, none⟩ = some (.int .i64 a0_1) := (blk_cell BK477.out 1).trans rfl
      have hcz15_2 : w5.cell? ⟨gb477, 2, none⟩ = some (.int .i64 a0_2) := (blk_cell BK477.out 2).trans rfl
      have hcz15_3 : w5.cell? ⟨gb477, 3, none⟩ = some (.int .i64 a0_3) := (blk_cell BK477.out 3).trans rfl
      have hfz15_0 := blk_frozen BK477.out 0
      have hfz15_1 := blk_frozen BK477.out 1
      have hfz15_2 := blk_frozen BK477.out 2
      have hfz15_3 := blk_frozen BK477.out 3
      go_wp2_with (first | ((with_reducible refine gate_callee (f := 28) rfl ?_); refine goesL_ (some 6) rfl rfl Tryd.func28 (by kernel_rfl) rfl #[.agg #[.int .i64 a0_0, .int .i64 a0_1, .int .i64 a0_2, .int .i64 a0_3]] rfl (by (try simp only [List.map_toArray, List.map_cons, List.map_nil]); first | done | rfl | (simp only [List.length_drop, List.length_take]; rfl)) ?_; (with_reducible refine (impl_SegOk.calls a0_0 a0_1 a0_2 a0_3 false _ A6.out).mono ?_); rintro e w16 ⟨rfl, hb⟩; refine ⟨_, rfl, ?_⟩; have n0_ := Aside0.mk (blk_below (g := gb477) (o := .cells #[.int .i64 a0_0, .int .i64 a0_1, .int .i64 a0_2, .int .i64 a0_3] 40 (0, 0)) (by (with_reducible repeat (first | refine blk_drewN ?_ _ | refine blk_drew ?_ | refine blk_alloc ?_ _)); exact BK477.out) hb); have n1_ := Aside0.mk (blk_below (g := gb478) (o := .cells #[.int .i64 a1_0, .int .i64 a1_1, .int .i64 a1_2, .int .i64 a1_3] 40 (0, 0)) (by (with_reducible repeat (first | refine blk_drewN ?_ _ | refine blk_drew ?_ | refine blk_alloc ?_ _)); exact BK478.out) hb); have n2_ := Aside0.mk (below_step (by repeat (first | (with_reducible first | exact HB.out | apply below_alloc | apply pw_below_drewN | apply below_drew1 | refine below_set ?_ GE477.out | refine below_set ?_ GE478.out) | exact HB.out)) hb); clear BK477; clear BK478; clear HB; have BK477 := n0_; have BK478 := n1_; have HB := n2_; clear n0_ n1_ n2_; (try clear hb); (try clear hb2); (try clear hk); (try clear hi)))
      go_meet
      case rel => exact ⟨_, (true), (by first | rfl | (simp; done) | (simp [*]; done)), H', ⟨by first | omega | exact Nat.le_refl _⟩, ⟨by (with_reducible repeat (first | refine blk_drewN ?_ _ | refine blk_drew ?_ | refine blk_alloc ?_ _)); exact BK477.out⟩, ⟨by (with_reducible repeat (first | refine blk_drewN ?_ _ | refine blk_drew ?_ | refine blk_alloc ?_ _)); exact BK478.out⟩, ⟨by repeat (first | (with_reducible first | exact HB.out | apply below_alloc | apply pw_below_drewN | apply below_drew1 | refine below_set ?_ GE477.out | refine below_set ?_ GE478.out) | exact HB.out)⟩⟩
  case rest =>
    clear HC3
    try clear c1
    try clear c2
    try clear p2
    try clear c3
    try clear c7
    try clear c9
    try clear c14
    try clear hcz10_0
    try clear hcz10_1
    try clear hcz10_2
    try clear hcz10_3
    try clear hcz12_0
    try clear hcz12_1
    try clear hcz12_2
    try clear hcz12_3
    try clear hcz15_0
    try clear hcz15_1
    try clear hcz15_2
    try clear hcz15_3
    try clear hfz10_0
    try clear hfz10_1
    try clear hfz10_2
    try clear hfz10_3
    try clear hfz12_0
    try clear hfz12_1
    try clear hfz12_2
    try clear hfz12_3
    try clear hfz15_0
    try clear hfz15_1
    try clear hfz15_2
    try clear hfz15_3
    obtain ⟨kq, x12_2, rfl, HA, HJ2, BK477, BK478, HB⟩ := hcut
    cases kq with
    | zero => exact absurd HA.out (by simp [impl_SegMeet.j0])
    | succ kj2 =>
      have H := HA.out
      clear HA
      simp only [impl_SegMeet.j0] at H
      by_cases c17 : x12_2 = true
      · subst c17
        have H1 : (some false) = some r := by rw [if_pos rfl] at H; exact H
        clear H
        have H := H1
        clear H1
        obtain rfl := Option.some.inj H
        go_wp2
        go_ret
        exact ⟨by first | rfl | (simp [errW_none, errW_some] <;> rfl) | (simp [*, errW_none, errW_some] <;> rfl), by repeat (first | (with_reducible first | exact HB.out | apply below_alloc | apply pw_below_drewN | apply below_drew1 | refine below_set ?_ GE477.out | refine below_set ?_ GE478.out) | exact HB.out)⟩
      · replace c17 := Bool.eq_false_iff.mpr c17
        subst c17
        have H1 : ((impl_SegHas.f kj2 a0_0 a0_1 a0_2 a0_3 a1_0 a1_1).bind fun t481 => (if t481 = true then (impl_SegMeet.j1 kj2 true a0_0 a0_1 a0_2 a0_3 a1_0 a1_1 a1_2 a1_3) else ((impl_SegHas.f kj2 a0_0 a0_1 a0_2 a0_3 a1_2 a1_3).bind fun t482 => (if t482 = true then (impl_SegMeet.j1 kj2 true a0_0 a0_1 a0_2 a0_3 a1_0 a1_1 a1_2 a1_3) else ((impl_SegHas.f kj2 a1_0 a1_1 a1_2 a1_3 a0_0 a0_1).bind fun t483 => (if t483 = true then (impl_SegMeet.j1 kj2 true a0_0 a0_1 a0_2 a0_3 a1_0 a1_1 a1_2 a1_3) else ((impl_SegHas.f kj2 a1_0 a1_1 a1_2 a1_3 a0_2 a0_3).bind fun t484 => (impl_SegMeet.j1 kj2 t484 a0_0 a0_1 a0_2 a0_3 a1_0 a1_1 a1_2 a1_3)))))))) = some r := by rw [if_neg (show ¬ (false = true) by decide)] at H; exact H
        clear H
        have H := H1
        clear H1
        have HC18 := Aside0.mk H
        clear H
        go_upto_region 3 with (fail)
        go_cut [34] (fun v34 wc => ∃ (kq : Nat) (x34_17 : Bool), v34 = .bool x34_17 ∧ Aside0 (impl_SegMeet.j1 kq x34_17 a0_0 a0_1 a0_2 a0_3 a1_0 a1_1 a1_2 a1_3 = some r) ∧ Aside0 (kq ≤ kj2) ∧ Aside0 (wc.heap[gb477]? = some (.cells #[.int .i64 a0_0, .int .i64 a0_1, .int .i64 a0_2, .int .i64 a0_3] 40 (0, 0))) ∧ Aside0 (wc.heap[gb478]? = some (.cells #[.int .i64 a1_0, .int .i64 a1_1, .int .i64 a1_2, .int .i64 a1_3] 40 (0, 0))) ∧ Aside0 (Below w.heap.size w wc))
        case first =>
          have H := HC18.out
          clear HC18
          replace H := Option.bind_eq_some_iff.mp H
          obtain ⟨t481, A190, H⟩ := H
          replace H : (if t481 = true then (impl_SegMeet.j1 kj2 true a0_0 a0_1 a0_2 a0_3 a1_0 a1_1 a1_2 a1_3) else ((impl_SegHas.f kj2 a0_0 a0_1 a0_2 a0_3 a1_2 a1_3).bind fun t482 => (if t482 = true then (impl_SegMeet.j1 kj2 true a0_0 a0_1 a0_2 a0_3 a1_0 a1_1 a1_2 a1_3) else ((impl_SegHas.f kj2 a1_0 a1_1 a1_2 a1_3 a0_0 a0_1).bind fun t483 => (if t483 = true then (impl_SegMeet.j1 kj2 true a0_0 a0_1 a0_2 a0_3 a1_0 a1_1 a1_2 a1_3) else ((impl_SegHas.f kj2 a1_0 a1_1 a1_2 a1_3 a0_2 a0_3).bind fun t484 => (impl_SegMeet.j1 kj2 t484 a0_0 a0_1 a0_2 a0_3 a1_0 a1_1 a1_2 a1_3))))))) = some r := H
          have A19 := Aside0.mk A190
          clear A190
          by_cases c20 : t481 = true
          · subst c20
            have H1 : (impl_SegMeet.j1 kj2 true a0_0 a0_1 a0_2 a0_3 a1_0 a1_1 a1_2 a1_3) = some r := by rw [if_pos rfl] at H; exact H
            clear H
            have H := H1
            clear H1
            have H' := Aside0.mk H
            clear H
            have hnb21 := NB477_478.out
            have hnc21 := NB478_477.out
            have hcz22_0 : wc.cell? ⟨gb477, 0, none⟩ = some (.int .i64 a0_0) := (blk_cell BK477.out 0).trans rfl
            have hcz22_1 : wc.cell? ⟨gb477, 1, none⟩ = some (.int .i64 a0_1) := (blk_cell BK477.out 1).trans rfl
            have hcz22_2 : wc.cell? ⟨gb477, 2, none⟩ = some (.int .i64 a0_2) := (blk_cell BK477.out 2).trans rfl
            have hcz22_3 : wc.cell? ⟨gb477, 3, none⟩ = some (.int .i64 a0_3) := (blk_cell BK477.out 3).trans rfl
            have hfz22_0 := blk_frozen BK477.out 0
            have hfz22_1 := blk_frozen BK477.out 1
            have hfz22_2 := blk_frozen BK477.out 2
            have hfz22_3 := blk_frozen BK477.out 3
            have hcz23_0 : wc.cell? ⟨gb478, 0, none⟩ = some (.int .i64 a1_0) := (blk_cell BK478.out 0).trans rfl
            have hcz23_1 : wc.cell? ⟨gb478, 1, none⟩ = some (.int .i64 a1_1) := (blk_cell BK478.out 1).trans rfl
            have hcz23_2 : wc.cell? ⟨gb478, 2, none⟩ = some (.int .i64 a1_2) := (blk_cell BK478.out 2).trans rfl
            have hcz23_3 : wc.cell? ⟨gb478, 3, none⟩ = some (.int .i64 a1_3) := (blk_cell BK478.out 3).trans rfl
            have hfz23_0 := blk_frozen BK478.out 0
            have hfz23_1 := blk_frozen BK478.out 1
            have hfz23_2 := blk_frozen BK478.out 2
            have hfz23_3 := blk_frozen BK478.out 3
            go_wp2_with (first | ((with_reducible refine gate_callee (f := 29) rfl ?_); refine goesL_ (some 16) rfl rfl Tryd.func29 (by kernel_rfl) rfl #[.agg #[.int .i64 a0_0, .int .i64 a0_1, .int .i64 a0_2, .int .i64 a0_3], .agg #[.int .i64 a1_0, .int .i64 a1_1]] rfl (by (try simp only [List.map_toArray, List.map_cons, List.map_nil]); first | done | rfl | (simp only [List.length_drop, List.length_take]; rfl)) ?_; (with_reducible refine (impl_SegHas.calls kj2 a0_0 a0_1 a0_2 a0_3 a1_0 a1_1 true _ A19.out).mono ?_); rintro e w24 ⟨rfl, hb⟩; refine ⟨_, rfl, ?_⟩; have n0_ := Aside0.mk (blk_below (g := gb477) (o := .cells #[.int .i64 a0_0, .int .i64 a0_1, .int .i64 a0_2, .int .i64 a0_3] 40 (0, 0)) (by (with_reducible repeat (first | refine blk_drewN ?_ _ | refine blk_drew ?_ | refine blk_alloc ?_ _)); exact BK477.out) hb); have n1_ := Aside0.mk (blk_below (g := gb478) (o := .cells #[.int .i64 a1_0, .int .i64 a1_1, .int .i64 a1_2, .int .i64 a1_3] 40 (0, 0)) (by (with_reducible repeat (first | refine blk_drewN ?_ _ | refine blk_drew ?_ | refine blk_alloc ?_ _)); exact BK478.out) hb); have n2_ := Aside0.mk (below_step (by repeat (first | (with_reducible first | exact HB.out | apply below_alloc | apply pw_below_drewN | apply below_drew1 | refine below_set ?_ GE477.out | refine below_set ?_ GE478.out) | exact HB.out)) hb); clear BK477; clear BK478; clear HB; have BK477 := n0_; have BK478 := n1_; have HB := n2_; clear n0_ n1_ n2_; (try clear hb); (try clear hb2); (try clear hk); (try clear hi)))
            go_meet
            case rel => exact ⟨_, (true), (by first | rfl | (simp; done) | (simp [*]; done)), H', ⟨by have := HJ2.out; first | omega | exact Nat.le_refl _⟩, ⟨by (with_reducible repeat (first | refine blk_drewN ?_ _ | refine blk_drew ?_ | refine blk_alloc ?_ _)); exact BK477.out⟩, ⟨by (with_reducible repeat (first | refine blk_drewN ?_ _ | refine blk_drew ?_ | refine blk_alloc ?_ _)); exact BK478.out⟩, ⟨by repeat (first | (with_reducible first | exact HB.out | apply below_alloc | apply pw_below_drewN | apply below_drew1 | refine below_set ?_ GE477.out | refine below_set ?_ GE478.out) | exact HB.out)⟩⟩
          · replace c20 := Bool.eq_false_iff.mpr c20
            subst c20
            have H1 : ((impl_SegHas.f kj2 a0_0 a0_1 a0_2 a0_3 a1_2 a1_3).bind fun t482 => (if t482 = true then (impl_SegMeet.j1 kj2 true a0_0 a0_1 a0_2 a0_3 a1_0 a1_1 a1_2 a1_3) else ((impl_SegHas.f kj2 a1_0 a1_1 a1_2 a1_3 a0_0 a0_1).bind fun t483 => (if t483 = true then (impl_SegMeet.j1 kj2 true a0_0 a0_1 a0_2 a0_3 a1_0 a1_1 a1_2 a1_3) else ((impl_SegHas.f kj2 a1_0 a1_1 a1_2 a1_3 a0_2 a0_3).bind fun t484 => (impl_SegMeet.j1 kj2 t484 a0_0 a0_1 a0_2 a0_3 a1_0 a1_1 a1_2 a1_3)))))) = some r := by rw [if_neg (show ¬ (false = true) by decide)] at H; exact H
            clear H
            have H := H1
            clear H1
            replace H := Option.bind_eq_some_iff.mp H
            obtain ⟨t482, A250, H⟩ := H
            replace H : (if t482 = true then (impl_SegMeet.j1 kj2 true a0_0 a0_1 a0_2 a0_3 a1_0 a1_1 a1_2 a1_3) else ((impl_SegHas.f kj2 a1_0 a1_1 a1_2 a1_3 a0_0 a0_1).bind fun t483 => (if t483 = true then (impl_SegMeet.j1 kj2 true a0_0 a0_1 a0_2 a0_3 a1_0 a1_1 a1_2 a1_3) else ((impl_SegHas.f kj2 a1_0 a1_1 a1_2 a1_3 a0_2 a0_3).bind fun t484 => (impl_SegMeet.j1 kj2 t484 a0_0 a0_1 a0_2 a0_3 a1_0 a1_1 a1_2 a1_3))))) = some r := H
            have A25 := Aside0.mk A250
            clear A250
            by_cases c26 : t482 = true
            · subst c26
              have H1 : (impl_SegMeet.j1 kj2 true a0_0 a0_1 a0_2 a0_3 a1_0 a1_1 a1_2 a1_3) = some r := by rw [if_pos rfl] at H; exact H
              clear H
              have H := H1
              clear H1
              have H' := Aside0.mk H
              clear H
              have hnb27 := NB477_478.out
              have hnc27 := NB478_477.out
              have hcz28_0 : wc.cell? ⟨gb477, 0, none⟩ = some (.int .i64 a0_0) := (blk_cell BK477.out 0).trans rfl
              have hcz28_1 : wc.cell? ⟨gb477, 1, none⟩ = some (.int .i64 a0_1) := (blk_cell BK477.out 1).trans rfl
              have hcz28_2 : wc.cell? ⟨gb477, 2, none⟩ = some (.int .i64 a0_2) := (blk_cell BK477.out 2).trans rfl
              have hcz28_3 : wc.cell? ⟨gb477, 3, none⟩ = some (.int .i64 a0_3) := (blk_cell BK477.out 3).trans rfl
              have hfz28_0 := blk_frozen BK477.out 0
              have hfz28_1 := blk_frozen BK477.out 1
              have hfz28_2 := blk_frozen BK477.out 2
              have hfz28_3 := blk_frozen BK477.out 3
              have hcz29_0 : wc.cell? ⟨gb478, 0, none⟩ = some (.int .i64 a1_0) := (blk_cell BK478.out 0).trans rfl
              have hcz29_1 : wc.cell? ⟨gb478, 1, none⟩ = some (.int .i64 a1_1) := (blk_cell BK478.out 1).trans rfl
              have hcz29_2 : wc.cell? ⟨gb478, 2, none⟩ = some (.int .i64 a1_2) := (blk_cell BK478.out 2).trans rfl
              have hcz29_3 : wc.cell? ⟨gb478, 3, none⟩ = some (.int .i64 a1_3) := (blk_cell BK478.out 3).trans rfl
              have hfz29_0 := blk_frozen BK478.out 0
              have hfz29_1 := blk_frozen BK478.out 1
              have hfz29_2 := blk_frozen BK478.out 2
              have hfz29_3 := blk_frozen BK478.out 3
              go_wp2_with (first | ((with_reducible refine gate_callee (f := 29) rfl ?_); refine goesL_ (some 16) rfl rfl Tryd.func29 (by kernel_rfl) rfl #[.agg #[.int .i64 a0_0, .int .i64 a0_1, .int .i64 a0_2, .int .i64 a0_3], .agg #[.int .i64 a1_0, .int .i64 a1_1]] rfl (by (try simp only [List.map_toArray, List.map_cons, List.map_nil]); first | done | rfl | (simp only [List.length_drop, List.length_take]; rfl)) ?_; (with_reducible refine (impl_SegHas.calls kj2 a0_0 a0_1 a0_2 a0_3 a1_0 a1_1 false _ A19.out).mono ?_); rintro e w30 ⟨rfl, hb⟩; refine ⟨_, rfl, ?_⟩; have n0_ := Aside0.mk (blk_below (g := gb477) (o := .cells #[.int .i64 a0_0, .int .i64 a0_1, .int .i64 a0_2, .int .i64 a0_3] 40 (0, 0)) (by (with_reducible repeat (first | refine blk_drewN ?_ _ | refine blk_drew ?_ | refine blk_alloc ?_ _)); exact BK477.out) hb); have n1_ := Aside0.mk (blk_below (g := gb478) (o := .cells #[.int .i64 a1_0, .int .i64 a1_1, .int .i64 a1_2, .int .i64 a1_3] 40 (0, 0)) (by (with_reducible repeat (first | refine blk_drewN ?_ _ | refine blk_drew ?_ | refine blk_alloc ?_ _)); exact BK478.out) hb); have n2_ := Aside0.mk (below_step (by repeat (first | (with_reducible first | exact HB.out | apply below_alloc | apply pw_below_drewN | apply below_drew1 | refine below_set ?_ GE477.out | refine below_set ?_ GE478.out) | exact HB.out)) hb); clear BK477; clear BK478; clear HB; have BK477 := n0_; have BK478 := n1_; have HB := n2_; clear n0_ n1_ n2_; (try clear hb); (try clear hb2); (try clear hk); (try clear hi); have hcz31_0 : w30.cell? ⟨gb477, 0, none⟩ = some (.int .i64 a0_0) := (blk_cell BK477.out 0).trans rfl; have hcz31_1 : w30.cell? ⟨gb477, 1, none⟩ = some (.int .i64 a0_1) := (blk_cell BK477.out 1).trans rfl; have hcz31_2 : w30.cell? ⟨gb477, 2, none⟩ = some (.int .i64 a0_2) := (blk_cell BK477.out 2).trans rfl; have hcz31_3 : w30.cell? ⟨gb477, 3, none⟩ = some (.int .i64 a0_3) := (blk_cell BK477.out 3).trans rfl; have hfz31_0 := blk_frozen BK477.out 0; have hfz31_1 := blk_frozen BK477.out 1; have hfz31_2 := blk_frozen BK477.out 2; have hfz31_3 := blk_frozen BK477.out 3; have hcz32_0 : w30.cell? ⟨gb478, 0, none⟩ = some (.int .i64 a1_0) := (blk_cell BK478.out 0).trans rfl; have hcz32_1 : w30.cell? ⟨gb478, 1, none⟩ = some (.int .i64 a1_1) := (blk_cell BK478.out 1).trans rfl; have hcz32_2 : w30.cell? ⟨gb478, 2, none⟩ = some (.int .i64 a1_2) := (blk_cell BK478.out 2).trans rfl; have hcz32_3 : w30.cell? ⟨gb478, 3, none⟩ = some (.int .i64 a1_3) := (blk_cell BK478.out 3).trans rfl; have hfz32_0 := blk_frozen BK478.out 0; have hfz32_1 := blk_frozen BK478.out 1; have hfz32_2 := blk_frozen BK478.out 2; have hfz32_3 := blk_frozen BK478.out 3) | (go_at_call 29; (with_reducible refine (impl_SegHas.calls kj2 a0_0 a0_1 a0_2 a0_3 a1_2 a1_3 true _ A25.out).mono ?_); rintro e w33 ⟨rfl, hb⟩; have n0_ := Aside0.mk (blk_below (g := gb477) (o := .cells #[.int .i64 a0_0, .int .i64 a0_1, .int .i64 a0_2, .int .i64 a0_3] 40 (0, 0)) (by (with_reducible repeat (first | refine blk_drewN ?_ _ | refine blk_drew ?_ | refine blk_alloc ?_ _)); exact BK477.out) hb); have n1_ := Aside0.mk (blk_below (g := gb478) (o := .cells #[.int .i64 a1_0, .int .i64 a1_1, .int .i64 a1_2, .int .i64 a1_3] 40 (0, 0)) (by (with_reducible repeat (first | refine blk_drewN ?_ _ | refine blk_drew ?_ | refine blk_alloc ?_ _)); exact BK478.out) hb); have n2_ := Aside0.mk (below_step (by repeat (first | (with_reducible first | exact HB.out | apply below_alloc | apply pw_below_drewN | apply below_drew1 | refine below_set ?_ GE477.out | refine below_set ?_ GE478.out) | exact HB.out)) hb); clear BK477; clear BK478; clear HB; have BK477 := n0_; have BK478 := n1_; have HB := n2_; clear n0_ n1_ n2_; (try clear hb); (try clear hb2); (try clear hk); (try clear hi)))
              go_meet
              case rel => exact ⟨_, (true), (by first | rfl | (simp; done) | (simp [*]; done)), H', ⟨by have := HJ2.out; first | omega | exact Nat.le_refl _⟩, ⟨by (with_reducible repeat (first | refine blk_drewN ?_ _ | refine blk_drew ?_ | refine blk_alloc ?_ _)); exact BK477.out⟩, ⟨by (with_reducible repeat (first | refine blk_drewN ?_ _ | refine blk_drew ?_ | refine blk_alloc ?_ _)); exact BK478.out⟩, ⟨by repeat (first | (with_reducible first | exact HB.out | apply below_alloc | apply pw_below_drewN | apply below_drew1 | refine below_set ?_ GE477.out | refine below_set ?_ GE478.out) | exact HB.out)⟩⟩
            · replace c26 := Bool.eq_false_iff.mpr c26
              subst c26
              have H1 : ((impl_SegHas.f kj2 a1_0 a1_1 a1_2 a1_3 a0_0 a0_1).bind fun t483 => (if t483 = true then (impl_SegMeet.j1 kj2 true a0_0 a0_1 a0_2 a0_3 a1_0 a1_1 a1_2 a1_3) else ((impl_SegHas.f kj2 a1_0 a1_1 a1_2 a1_3 a0_2 a0_3).bind fun t484 => (impl_SegMeet.j1 kj2 t484 a0_0 a0_1 a0_2 a0_3 a1_0 a1_1 a1_2 a1_3)))) = some r := by rw [if_neg (show ¬ (false = true) by decide)] at H; exact H
              clear H
              have H := H1
              clear H1
              replace H := Option.bind_eq_some_iff.mp H
              obtain ⟨t483, A340, H⟩ := H
              replace H : (if t483 = true then (impl_SegMeet.j1 kj2 true a0_0 a0_1 a0_2 a0_3 a1_0 a1_1 a1_2 a1_3) else ((impl_SegHas.f kj2 a1_0 a1_1 a1_2 a1_3 a0_2 a0_3).bind fun t484 => (impl_SegMeet.j1 kj2 t484 a0_0 a0_1 a0_2 a0_3 a1_0 a1_1 a1_2 a1_3))) = some r := H
              have A34 := Aside0.mk A340
              clear A340
              by_cases c35 : t483 = true
              · subst c35
                have H1 : (impl_SegMeet.j1 kj2 true a0_0 a0_1 a0_2 a0_3 a1_0 a1_1 a1_2 a1_3) = some r := by rw [if_pos rfl] at H; exact H
                clear H
                have H := H1
                clear H1
                have H' := Aside0.mk H
                clear H
                have hnb36 := NB477_478.out
                have hnc36 := NB478_477.out
                have hcz37_0 : wc.cell? ⟨gb477, 0, none⟩ = some (.int .i64 a0_0) := (blk_cell BK477.out 0).trans rfl
                have hcz37_1 : wc.cell? ⟨gb477, 1, none⟩ = some (.int .i64 a0_1) := (blk_cell BK477.out 1).trans rfl
                have hcz37_2 : wc.cell? ⟨gb477, 2, none⟩ = some (.int .i64 a0_2) := (blk_cell BK477.out 2).trans rfl
                have hcz37_3 : wc.cell? ⟨gb477, 3, none⟩ = some (.int .i64 a0_3) := (blk_cell BK477.out 3).trans rfl
                have hfz37_0 := blk_frozen BK477.out 0
                have hfz37_1 := blk_frozen BK477.out 1
                have hfz37_2 := blk_frozen BK477.out 2
                have hfz37_3 := blk_frozen BK477.out 3
                have hcz38_0 : wc.cell? ⟨gb478, 0, none⟩ = some (.int .i64 a1_0) := (blk_cell BK478.out 0).trans rfl
                have hcz38_1 : wc.cell? ⟨gb478, 1, none⟩ = some (.int .i64 a1_1) := (blk_cell BK478.out 1).trans rfl
                have hcz38_2 : wc.cell? ⟨gb478, 2, none⟩ = some (.int .i64 a1_2) := (blk_cell BK478.out 2).trans rfl
                have hcz38_3 : wc.cell? ⟨gb478, 3, none⟩ = some (.int .i64 a1_3) := (blk_cell BK478.out 3).trans rfl
                have hfz38_0 := blk_frozen BK478.out 0
                have hfz38_1 := blk_frozen BK478.out 1
                have hfz38_2 := blk_frozen BK478.out 2
                have hfz38_3 := blk_frozen BK478.out 3
                go_wp2_with (first | ((with_reducible refine gate_callee (f := 29) rfl ?_); refine goesL_ (some 16) rfl rfl Tryd.func29 (by kernel_rfl) rfl #[.agg #[.int .i64 a0_0, .int .i64 a0_1, .int .i64 a0_2, .int .i64 a0_3], .agg #[.int .i64 a1_0, .int .i64 a1_1]] rfl (by (try simp only [List.map_toArray, List.map_cons, List.map_nil]); first | done | rfl | (simp only [List.length_drop, List.length_take]; rfl)) ?_; (with_reducible refine (impl_SegHas.calls kj2 a0_0 a0_1 a0_2 a0_3 a1_0 a1_1 false _ A19.out).mono ?_); rintro e w39 ⟨rfl, hb⟩; refine ⟨_, rfl, ?_⟩; have n0_ := Aside0.mk (blk_below (g := gb477) (o := .cells #[.int .i64 a0_0, .int .i64 a0_1, .int .i64 a0_2, .int .i64 a0_3] 40 (0, 0)) (by (with_reducible repeat (first | refine blk_drewN ?_ _ | refine blk_drew ?_ | refine blk_alloc ?_ _)); exact BK477.out) hb); have n1_ := Aside0.mk (blk_below (g := gb478) (o := .cells #[.int .i64 a1_0, .int .i64 a1_1, .int .i64 a1_2, .int .i64 a1_3] 40 (0, 0)) (by (with_reducible repeat (first | refine blk_drewN ?_ _ | refine blk_drew ?_ | refine blk_alloc ?_ _)); exact BK478.out) hb); have n2_ := Aside0.mk (below_step (by repeat (first | (with_reducible first | exact HB.out | apply below_alloc | apply pw_below_drewN | apply below_drew1 | refine below_set ?_ GE477.out | refine below_set ?_ GE478.out) | exact HB.out)) hb); clear BK477; clear BK478; clear HB; have BK477 := n0_; have BK478 := n1_; have HB := n2_; clear n0_ n1_ n2_; (try clear hb); (try clear hb2); (try clear hk); (try clear hi); have hcz40_0 : w39.cell? ⟨gb477, 0, none⟩ = some (.int .i64 a0_0) := (blk_cell BK477.out 0).trans rfl; have hcz40_1 : w39.cell? ⟨gb477, 1, none⟩ = some (.int .i64 a0_1) := (blk_cell BK477.out 1).trans rfl; have hcz40_2 : w39.cell? ⟨gb477, 2, none⟩ = some (.int .i64 a0_2) := (blk_cell BK477.out 2).trans rfl; have hcz40_3 : w39.cell? ⟨gb477, 3, none⟩ = some (.int .i64 a0_3) := (blk_cell BK477.out 3).trans rfl; have hfz40_0 := blk_frozen BK477.out 0; have hfz40_1 := blk_frozen BK477.out 1; have hfz40_2 := blk_frozen BK477.out 2; have hfz40_3 := blk_frozen BK477.out 3; have hcz41_0 : w39.cell? ⟨gb478, 0, none⟩ = some (.int .i64 a1_0) := (blk_cell BK478.out 0).trans rfl; have hcz41_1 : w39.cell? ⟨gb478, 1, none⟩ = some (.int .i64 a1_1) := (blk_cell BK478.out 1).trans rfl; have hcz41_2 : w39.cell? ⟨gb478, 2, none⟩ = some (.int .i64 a1_2) := (blk_cell BK478.out 2).trans rfl; have hcz41_3 : w39.cell? ⟨gb478, 3, none⟩ = some (.int .i64 a1_3) := (blk_cell BK478.out 3).trans rfl; have hfz41_0 := blk_frozen BK478.out 0; have hfz41_1 := blk_frozen BK478.out 1; have hfz41_2 := blk_frozen BK478.out 2; have hfz41_3 := blk_frozen BK478.out 3) | (go_at_call 29; (with_reducible refine (impl_SegHas.calls kj2 a0_0 a0_1 a0_2 a0_3 a1_2 a1_3 false _ A25.out).mono ?_); rintro e w42 ⟨rfl, hb⟩; have n0_ := Aside0.mk (blk_below (g := gb477) (o := .cells #[.int .i64 a0_0, .int .i64 a0_1, .int .i64 a0_2, .int .i64 a0_3] 40 (0, 0)) (by (with_reducible repeat (first | refine blk_drewN ?_ _ | refine blk_drew ?_ | refine blk_alloc ?_ _)); exact BK477.out) hb); have n1_ := Aside0.mk (blk_below (g := gb478) (o := .cells #[.int .i64 a1_0, .int .i64 a1_1, .int .i64 a1_2, .int .i64 a1_3] 40 (0, 0)) (by (with_reducible repeat (first | refine blk_drewN ?_ _ | refine blk_drew ?_ | refine blk_alloc ?_ _)); exact BK478.out) hb); have n2_ := Aside0.mk (below_step (by repeat (first | (with_reducible first | exact HB.out | apply below_alloc | apply pw_below_drewN | apply below_drew1 | refine below_set ?_ GE477.out | refine below_set ?_ GE478.out) | exact HB.out)) hb); clear BK477; clear BK478; clear HB; have BK477 := n0_; have BK478 := n1_; have HB := n2_; clear n0_ n1_ n2_; (try clear hb); (try clear hb2); (try clear hk); (try clear hi); have hcz43_0 : w42.cell? ⟨gb478, 0, none⟩ = some (.int .i64 a1_0) := (blk_cell BK478.out 0).trans rfl; have hcz43_1 : w42.cell? ⟨gb478, 1, none⟩ = some (.int .i64 a1_1) := (blk_cell BK478.out 1).trans rfl; have hcz43_2 : w42.cell? ⟨gb478, 2, none⟩ = some (.int .i64 a1_2) := (blk_cell BK478.out 2).trans rfl; have hcz43_3 : w42.cell? ⟨gb478, 3, none⟩ = some (.int .i64 a1_3) := (blk_cell BK478.out 3).trans rfl; have hfz43_0 := blk_frozen BK478.out 0; have hfz43_1 := blk_frozen BK478.out 1; have hfz43_2 := blk_frozen BK478.out 2; have hfz43_3 := blk_frozen BK478.out 3; have hcz44_0 : w42.cell? ⟨gb477, 0, none⟩ = some (.int .i64 a0_0) := (blk_cell BK477.out 0).trans rfl; have hcz44_1 : w42.cell? ⟨gb477, 1, none⟩ = some (.int .i64 a0_1) := (blk_cell BK477.out 1).trans rfl; have hcz44_2 : w42.cell? ⟨gb477, 2, none⟩ = some (.int .i64 a0_2) := (blk_cell BK477.out 2).trans rfl; have hcz44_3 : w42.cell? ⟨gb477, 3, none⟩ = some (.int .i64 a0_3) := (blk_cell BK477.out 3).trans rfl; have hfz44_0 := blk_frozen BK477.out 0; have hfz44_1 := blk_frozen BK477.out 1; have hfz44_2 := blk_frozen BK477.out 2; have hfz44_3 := blk_frozen BK477.out 3) | (go_at_call 29; (with_reducible refine (impl_SegHas.calls kj2 a1_0 a1_1 a1_2 a1_3 a0_0 a0_1 true _ A34.out).mono ?_); rintro e w45 ⟨rfl, hb⟩; have n0_ := Aside0.mk (blk_below (g := gb477) (o := .cells #[.int .i64 a0_0, .int .i64 a0_1, .int .i64 a0_2, .int .i64 a0_3] 40 (0, 0)) (by (with_reducible repeat (first | refine blk_drewN ?_ _ | refine blk_drew ?_ | refine blk_alloc ?_ _)); exact BK477.out) hb); have n1_ := Aside0.mk (blk_below (g := gb478) (o := .cells #[.int .i64 a1_0, .int .i64 a1_1, .int .i64 a1_2, .int .i64 a1_3] 40 (0, 0)) (by (with_reducible repeat (first | refine blk_drewN ?_ _ | refine blk_drew ?_ | refine blk_alloc ?_ _)); exact BK478.out) hb); have n2_ := Aside0.mk (below_step (by repeat (first | (with_reducible first | exact HB.out | apply below_alloc | apply pw_below_drewN | apply below_drew1 | refine below_set ?_ GE477.out | refine below_set ?_ GE478.out) | exact HB.out)) hb); clear BK477; clear BK478; clear HB; have BK477 := n0_; have BK478 := n1_; have HB := n2_; clear n0_ n1_ n2_; (try clear hb); (try clear hb2); (try clear hk); (try clear hi)))
                go_meet
                case rel => exact ⟨_, (true), (by first | rfl | (simp; done) | (simp [*]; done)), H', ⟨by have := HJ2.out; first | omega | exact Nat.le_refl _⟩, ⟨by (with_reducible repeat (first | refine blk_drewN ?_ _ | refine blk_drew ?_ | refine blk_alloc ?_ _)); exact BK477.out⟩, ⟨by (with_reducible repeat (first | refine blk_drewN ?_ _ | refine blk_drew ?_ | refine blk_alloc ?_ _)); exact BK478.out⟩, ⟨by repeat (first | (with_reducible first | exact HB.out | apply below_alloc | apply pw_below_drewN | apply below_drew1 | refine below_set ?_ GE477.out | refine below_set ?_ GE478.out) | exact HB.out)⟩⟩
              · replace c35 := Bool.eq_false_iff.mpr c35
                subst c35
                have H1 : ((impl_SegHas.f kj2 a1_0 a1_1 a1_2 a1_3 a0_2 a0_3).bind fun t484 => (impl_SegMeet.j1 kj2 t484 a0_0 a0_1 a0_2 a0_3 a1_0 a1_1 a1_2 a1_3)) = some r := by rw [if_neg (show ¬ (false = true) by decide)] at H; exact H
                clear H
                have H := H1
                clear H1
                replace H := Option.bind_eq_some_iff.mp H
                obtain ⟨t484, A460, H⟩ := H
                replace H : (impl_SegMeet.j1 kj2 t484 a0_0 a0_1 a0_2 a0_3 a1_0 a1_1 a1_2 a1_3) = some r := H
                have A46 := Aside0.mk A460
                clear A460
                have H' := Aside0.mk H
                clear H
                have hnb47 := NB477_478.out
                have hnc47 := NB478_477.out
                have hcz48_0 : wc.cell? ⟨gb477, 0, none⟩ = some (.int .i64 a0_0) := (blk_cell BK477.out 0).trans rfl
                have hcz48_1 : wc.cell? ⟨gb477, 1, none⟩ = some (.int .i64 a0_1) := (blk_cell BK477.out 1).trans rfl
                have hcz48_2 : wc.cell? ⟨gb477, 2, none⟩ = some (.int .i64 a0_2) := (blk_cell BK477.out 2).trans rfl
                have hcz48_3 : wc.cell? ⟨gb477, 3, none⟩ = some (.int .i64 a0_3) := (blk_cell BK477.out 3).trans rfl
                have hfz48_0 := blk_frozen BK477.out 0
                have hfz48_1 := blk_frozen BK477.out 1
                have hfz48_2 := blk_frozen BK477.out 2
                have hfz48_3 := blk_frozen BK477.out 3
                have hcz49_0 : wc.cell? ⟨gb478, 0, none⟩ = some (.int .i64 a1_0) := (blk_cell BK478.out 0).trans rfl
                have hcz49_1 : wc.cell? ⟨gb478, 1, none⟩ = some (.int .i64 a1_1) := (blk_cell BK478.out 1).trans rfl
                have hcz49_2 : wc.cell? ⟨gb478, 2, none⟩ = some (.int .i64 a1_2) := (blk_cell BK478.out 2).trans rfl
                have hcz49_3 : wc.cell? ⟨gb478, 3, none⟩ = some (.int .i64 a1_3) := (blk_cell BK478.out 3).trans rfl
                have hfz49_0 := blk_frozen BK478.out 0
                have hfz49_1 := blk_frozen BK478.out 1
                have hfz49_2 := blk_frozen BK478.out 2
                have hfz49_3 := blk_frozen BK478.out 3
                go_wp2_with (first | ((with_reducible refine gate_callee (f := 29) rfl ?_); refine goesL_ (some 16) rfl rfl Tryd.func29 (by kernel_rfl) rfl #[.agg #[.int .i64 a0_0, .int .i64 a0_1, .int .i64 a0_2, .int .i64 a0_3], .agg #[.int .i64 a1_0, .int .i64 a1_1]] rfl (by (try simp only [List.map_toArray, List.map_cons, List.map_nil]); first | done | rfl | (simp only [List.length_drop, List.length_take]; rfl)) ?_; (with_reducible refine (impl_SegHas.calls kj2 a0_0 a0_1 a0_2 a0_3 a1_0 a1_1 false _ A19.out).mono ?_); rintro e w50 ⟨rfl, hb⟩; refine ⟨_, rfl, ?_⟩; have n0_ := Aside0.mk (blk_below (g := gb477) (o := .cells #[.int .i64 a0_0, .int .i64 a0_1, .int .i64 a0_2, .int .i64 a0_3] 40 (0, 0)) (by (with_reducible repeat (first | refine blk_drewN ?_ _ | refine blk_drew ?_ | refine blk_alloc ?_ _)); exact BK477.out) hb); have n1_ := Aside0.mk (blk_below (g := gb478) (o := .cells #[.int .i64 a1_0, .int .i64 a1_1, .int .i64 a1_2, .int .i64 a1_3] 40 (0, 0)) (by (with_reducible repeat (first | refine blk_drewN ?_ _ | refine blk_drew ?_ | refine blk_alloc ?_ _)); exact BK478.out) hb); have n2_ := Aside0.mk (below_step (by repeat (first | (with_reducible first | exact HB.out | apply below_alloc | apply pw_below_drewN | apply below_drew1 | refine below_set ?_ GE477.out | refine below_set ?_ GE478.out) | exact HB.out)) hb); clear BK477; clear BK478; clear HB; have BK477 := n0_; have BK478 := n1_; have HB := n2_; clear n0_ n1_ n2_; (try clear hb); (try clear hb2); (try clear hk); (try clear hi); have hcz51_0 : w50.cell? ⟨gb477, 0, none⟩ = some (.int .i64 a0_0) := (blk_cell BK477.out 0).trans rfl; have hcz51_1 : w50.cell? ⟨gb477, 1, none⟩ = some (.int .i64 a0_1) := (blk_cell BK477.out 1).trans rfl; have hcz51_2 : w50.cell? ⟨gb477, 2, none⟩ = some (.int .i64 a0_2) := (blk_cell BK477.out 2).trans rfl; have hcz51_3 : w50.cell? ⟨gb477, 3, none⟩ = some (.int .i64 a0_3) := (blk_cell BK477.out 3).trans rfl; have hfz51_0 := blk_frozen BK477.out 0; have hfz51_1 := blk_frozen BK477.out 1; have hfz51_2 := blk_frozen BK477.out 2; have hfz51_3 := blk_frozen BK477.out 3; have hcz52_0 : w50.cell? ⟨gb478, 0, none⟩ = some (.int .i64 a1_0) := (blk_cell BK478.out 0).trans rfl; have hcz52_1 : w50.cell? ⟨gb478, 1, none⟩ = some (.int .i64 a1_1) := (blk_cell BK478.out 1).trans rfl; have hcz52_2 : w50.cell? ⟨gb478, 2, none⟩ = some (.int .i64 a1_2) := (blk_cell BK478.out 2).trans rfl; have hcz52_3 : w50.cell? ⟨gb478, 3, none⟩ = some (.int .i64 a1_3) := (blk_cell BK478.out 3).trans rfl; have hfz52_0 := blk_frozen BK478.out 0; have hfz52_1 := blk_frozen BK478.out 1; have hfz52_2 := blk_frozen BK478.out 2; have hfz52_3 := blk_frozen BK478.out 3) | (go_at_call 29; (with_reducible refine (impl_SegHas.calls kj2 a0_0 a0_1 a0_2 a0_3 a1_2 a1_3 false _ A25.out).mono ?_); rintro e w53 ⟨rfl, hb⟩; have n0_ := Aside0.mk (blk_below (g := gb477) (o := .cells #[.int .i64 a0_0, .int .i64 a0_1, .int .i64 a0_2, .int .i64 a0_3] 40 (0, 0)) (by (with_reducible repeat (first | refine blk_drewN ?_ _ | refine blk_drew ?_ | refine blk_alloc ?_ _)); exact BK477.out) hb); have n1_ := Aside0.mk (blk_below (g := gb478) (o := .cells #[.int .i64 a1_0, .int .i64 a1_1, .int .i64 a1_2, .int .i64 a1_3] 40 (0, 0)) (by (with_reducible repeat (first | refine blk_drewN ?_ _ | refine blk_drew ?_ | refine blk_alloc ?_ _)); exact BK478.out) hb); have n2_ := Aside0.mk (below_step (by repeat (first | (with_reducible first | exact HB.out | apply below_alloc | apply pw_below_drewN | apply below_drew1 | refine below_set ?_ GE477.out | refine below_set ?_ GE478.out) | exact HB.out)) hb); clear BK477; clear BK478; clear HB; have BK477 := n0_; have BK478 := n1_; have HB := n2_; clear n0_ n1_ n2_; (try clear hb); (try clear hb2); (try clear hk); (try clear hi); have hcz54_0 : w53.cell? ⟨gb478, 0, none⟩ = some (.int .i64 a1_0) := (blk_cell BK478.out 0).trans rfl; have hcz54_1 : w53.cell? ⟨gb478, 1, none⟩ = some (.int .i64 a1_1) := (blk_cell BK478.out 1).trans rfl; have hcz54_2 : w53.cell? ⟨gb478, 2, none⟩ = some (.int .i64 a1_2) := (blk_cell BK478.out 2).trans rfl; have hcz54_3 : w53.cell? ⟨gb478, 3, none⟩ = some (.int .i64 a1_3) := (blk_cell BK478.out 3).trans rfl; have hfz54_0 := blk_frozen BK478.out 0; have hfz54_1 := blk_frozen BK478.out 1; have hfz54_2 := blk_frozen BK478.out 2; have hfz54_3 := blk_frozen BK478.out 3; have hcz55_0 : w53.cell? ⟨gb477, 0, none⟩ = some (.int .i64 a0_0) := (blk_cell BK477.out 0).trans rfl; have hcz55_1 : w53.cell? ⟨gb477, 1, none⟩ = some (.int .i64 a0_1) := (blk_cell BK477.out 1).trans rfl; have hcz55_2 : w53.cell? ⟨gb477, 2, none⟩ = some (.int .i64 a0_2) := (blk_cell BK477.out 2).trans rfl; have hcz55_3 : w53.cell? ⟨gb477, 3, none⟩ = some (.int .i64 a0_3) := (blk_cell BK477.out 3).trans rfl; have hfz55_0 := blk_frozen BK477.out 0; have hfz55_1 := blk_frozen BK477.out 1; have hfz55_2 := blk_frozen BK477.out 2; have hfz55_3 := blk_frozen BK477.out 3) | (go_at_call 29; (with_reducible refine (impl_SegHas.calls kj2 a1_0 a1_1 a1_2 a1_3 a0_0 a0_1 false _ A34.out).mono ?_); rintro e w56 ⟨rfl, hb⟩; have n0_ := Aside0.mk (blk_below (g := gb477) (o := .cells #[.int .i64 a0_0, .int .i64 a0_1, .int .i64 a0_2, .int .i64 a0_3] 40 (0, 0)) (by (with_reducible repeat (first | refine blk_drewN ?_ _ | refine blk_drew ?_ | refine blk_alloc ?_ _)); exact BK477.out) hb); have n1_ := Aside0.mk (blk_below (g := gb478) (o := .cells #[.int .i64 a1_0, .int .i64 a1_1, .int .i64 a1_2, .int .i64 a1_3] 40 (0, 0)) (by (with_reducible repeat (first | refine blk_drewN ?_ _ | refine blk_drew ?_ | refine blk_alloc ?_ _)); exact BK478.out) hb); have n2_ := Aside0.mk (below_step (by repeat (first | (with_reducible first | exact HB.out | apply below_alloc | apply pw_below_drewN | apply below_drew1 | refine below_set ?_ GE477.out | refine below_set ?_ GE478.out) | exact HB.out)) hb); clear BK477; clear BK478; clear HB; have BK477 := n0_; have BK478 := n1_; have HB := n2_; clear n0_ n1_ n2_; (try clear hb); (try clear hb2); (try clear hk); (try clear hi); have hcz57_0 : w56.cell? ⟨gb478, 0, none⟩ = some (.int .i64 a1_0) := (blk_cell BK478.out 0).trans rfl; have hcz57_1 : w56.cell? ⟨gb478, 1, none⟩ = some (.int .i64 a1_1) := (blk_cell BK478.out 1).trans rfl; have hcz57_2 : w56.cell? ⟨gb478, 2, none⟩ = some (.int .i64 a1_2) := (blk_cell BK478.out 2).trans rfl; have hcz57_3 : w56.cell? ⟨gb478, 3, none⟩ = some (.int .i64 a1_3) := (blk_cell BK478.out 3).trans rfl; have hfz57_0 := blk_frozen BK478.out 0; have hfz57_1 := blk_frozen BK478.out 1; have hfz57_2 := blk_frozen BK478.out 2; have hfz57_3 := blk_frozen BK478.out 3; have hcz58_0 : w56.cell? ⟨gb477, 0, none⟩ = some (.int .i64 a0_0) := (blk_cell BK477.out 0).trans rfl; have hcz58_1 : w56.cell? ⟨gb477, 1, none⟩ = some (.int .i64 a0_1) := (blk_cell BK477.out 1).trans rfl; have hcz58_2 : w56.cell? ⟨gb477, 2, none⟩ = some (.int .i64 a0_2) := (blk_cell BK477.out 2).trans rfl; have hcz58_3 : w56.cell? ⟨gb477, 3, none⟩ = some (.int .i64 a0_3) := (blk_cell BK477.out 3).trans rfl; have hfz58_0 := blk_frozen BK477.out 0; have hfz58_1 := blk_frozen BK477.out 1; have hfz58_2 := blk_frozen BK477.out 2; have hfz58_3 := blk_frozen BK477.out 3) | (go_at_call 29; (with_reducible refine (impl_SegHas.calls kj2 a1_0 a1_1 a1_2 a1_3 a0_2 a0_3 t484 _ A46.out).mono ?_); rintro e w59 ⟨rfl, hb⟩; have n0_ := Aside0.mk (blk_below (g := gb477) (o := .cells #[.int .i64 a0_0, .int .i64 a0_1, .int .i64 a0_2, .int .i64 a0_3] 40 (0, 0)) (by (with_reducible repeat (first | refine blk_drewN ?_ _ | refine blk_drew ?_ | refine blk_alloc ?_ _)); exact BK477.out) hb); have n1_ := Aside0.mk (blk_below (g := gb478) (o := .cells #[.int .i64 a1_0, .int .i64 a1_1, .int .i64 a1_2, .int .i64 a1_3] 40 (0, 0)) (by (with_reducible repeat (first | refine blk_drewN ?_ _ | refine blk_drew ?_ | refine blk_alloc ?_ _)); exact BK478.out) hb); have n2_ := Aside0.mk (below_step (by repeat (first | (with_reducible first | exact HB.out | apply below_alloc | apply pw_below_drewN | apply below_drew1 | refine below_set ?_ GE477.out | refine below_set ?_ GE478.out) | exact HB.out)) hb); clear BK477; clear BK478; clear HB; have BK477 := n0_; have BK478 := n1_; have HB := n2_; clear n0_ n1_ n2_; (try clear hb); (try clear hb2); (try clear hk); (try clear hi)))
                go_meet
                case rel => exact ⟨_, (t484), (by first | rfl | (simp; done) | (simp [*]; done)), H', ⟨by have := HJ2.out; first | omega | exact Nat.le_refl _⟩, ⟨by (with_reducible repeat (first | refine blk_drewN ?_ _ | refine blk_drew ?_ | refine blk_alloc ?_ _)); exact BK477.out⟩, ⟨by (with_reducible repeat (first | refine blk_drewN ?_ _ | refine blk_drew ?_ | refine blk_alloc ?_ _)); exact BK478.out⟩, ⟨by repeat (first | (with_reducible first | exact HB.out | apply below_alloc | apply pw_below_drewN | apply below_drew1 | refine below_set ?_ GE477.out | refine below_set ?_ GE478.out) | exact HB.out)⟩⟩
        case rest =>
          clear HC18
          try clear c1
          try clear c2
          try clear p2
          try clear c3
          try clear c4
          try clear c7
          try clear c9
          try clear c14
          try clear c17
          try clear c20
          try clear c21
          try clear c26
          try clear c27
          try clear c28
          try clear c29
          try clear c35
          try clear c36
          try clear c37
          try clear c47
          try clear hcz10_0
          try clear hcz10_1
          try clear hcz10_2
          try clear hcz10_3
          try clear hcz12_0
          try clear hcz12_1
          try clear hcz12_2
          try clear hcz12_3
          try clear hcz15_0
          try clear hcz15_1
          try clear hcz15_2
          try clear hcz15_3
          try clear hcz22_0
          try clear hcz22_1
          try clear hcz22_2
          try clear hcz22_3
          try clear hcz23_0
          try clear hcz23_1
          try clear hcz23_2
          try clear hcz23_3
          try clear hcz28_0
          try clear hcz28_1
          try clear hcz28_2
          try clear hcz28_3
          try clear hcz29_0
          try clear hcz29_1
          try clear hcz29_2
          try clear hcz29_3
          try clear hcz31_0
          try clear hcz31_1
          try clear hcz31_2
          try clear hcz31_3
          try clear hcz32_0
          try clear hcz32_1
          try clear hcz32_2
          try clear hcz32_3
          try clear hcz37_0
          try clear hcz37_1
          try clear hcz37_2
          try clear hcz37_3
          try clear hcz38_0
          try clear hcz38_1
          try clear hcz38_2
          try clear hcz38_3
          try clear hcz40_0
          try clear hcz40_1
          try clear hcz40_2
          try clear hcz40_3
          try clear hcz41_0
          try clear hcz41_1
          try clear hcz41_2
          try clear hcz41_3
          try clear hcz43_0
          try clear hcz43_1
          try clear hcz43_2
          try clear hcz43_3
          try clear hcz44_0
          try clear hcz44_1
          try clear hcz44_2
          try clear hcz44_3
          try clear hcz48_0
          try clear hcz48_1
          try clear hcz48_2
          try clear hcz48_3
          try clear hcz49_0
          try clear hcz49_1
          try clear hcz49_2
          try clear hcz49_3
          try clear hcz51_0
          try clear hcz51_1
          try clear hcz51_2
          try clear hcz51_3
          try clear hcz52_0
          try clear hcz52_1
          try clear hcz52_2
          try clear hcz52_3
          try clear hcz54_0
          try clear hcz54_1
          try clear hcz54_2
          try clear hcz54_3
          try clear hcz55_0
          try clear hcz55_1
          try clear hcz55_2
          try clear hcz55_3
          try clear hcz57_0
          try clear hcz57_1
          try clear hcz57_2
          try clear hcz57_3
          try clear hcz58_0
          try clear hcz58_1
          try clear hcz58_2
          try clear hcz58_3
          try clear hfz10_0
          try clear hfz10_1
          try clear hfz10_2
          try clear hfz10_3
          try clear hfz12_0
          try clear hfz12_1
          try clear hfz12_2
          try clear hfz12_3
          try clear hfz15_0
          try clear hfz15_1
          try clear hfz15_2
          try clear hfz15_3
          try clear hfz22_0
          try clear hfz22_1
          try clear hfz22_2
          try clear hfz22_3
          try clear hfz23_0
          try clear hfz23_1
          try clear hfz23_2
          try clear hfz23_3
          try clear hfz28_0
          try clear hfz28_1
          try clear hfz28_2
          try clear hfz28_3
          try clear hfz29_0
          try clear hfz29_1
          try clear hfz29_2
          try clear hfz29_3
          try clear hfz31_0
          try clear hfz31_1
          try clear hfz31_2
          try clear hfz31_3
          try clear hfz32_0
          try clear hfz32_1
          try clear hfz32_2
          try clear hfz32_3
          try clear hfz37_0
          try clear hfz37_1
          try clear hfz37_2
          try clear hfz37_3
          try clear hfz38_0
          try clear hfz38_1
          try clear hfz38_2
          try clear hfz38_3
          try clear hfz40_0
          try clear hfz40_1
          try clear hfz40_2
          try clear hfz40_3
          try clear hfz41_0
          try clear hfz41_1
          try clear hfz41_2
          try clear hfz41_3
          try clear hfz43_0
          try clear hfz43_1
          try clear hfz43_2
          try clear hfz43_3
          try clear hfz44_0
          try clear hfz44_1
          try clear hfz44_2
          try clear hfz44_3
          try clear hfz48_0
          try clear hfz48_1
          try clear hfz48_2
          try clear hfz48_3
          try clear hfz49_0
          try clear hfz49_1
          try clear hfz49_2
          try clear hfz49_3
          try clear hfz51_0
          try clear hfz51_1
          try clear hfz51_2
          try clear hfz51_3
          try clear hfz52_0
          try clear hfz52_1
          try clear hfz52_2
          try clear hfz52_3
          try clear hfz54_0
          try clear hfz54_1
          try clear hfz54_2
          try clear hfz54_3
          try clear hfz55_0
          try clear hfz55_1
          try clear hfz55_2
          try clear hfz55_3
          try clear hfz57_0
          try clear hfz57_1
          try clear hfz57_2
          try clear hfz57_3
          try clear hfz58_0
          try clear hfz58_1
          try clear hfz58_2
          try clear hfz58_3
          try clear p2
          obtain ⟨kq, x34_17, rfl, HA, HJ17, BK477, BK478, HB⟩ := hcut
          cases kq with
          | zero => exact absurd HA.out (by simp [impl_SegMeet.j1])
          | succ kj17 =>
            have H := HA.out
            clear HA
            simp only [impl_SegMeet.j1] at H
            by_cases c60 : x34_17 = true
            · subst c60
              have H1 : (some true) = some r := by rw [if_pos rfl] at H; exact H
              clear H
              have H := H1
              clear H1
              obtain rfl := Option.some.inj H
              go_wp2
              go_ret
              exact ⟨by first | rfl | (simp [errW_none, errW_some] <;> rfl) | (simp [*, errW_none, errW_some] <;> rfl), by repeat (first | (with_reducible first | exact HB.out | apply below_alloc | apply pw_below_drewN | apply below_drew1 | refine below_set ?_ GE477.out | refine below_set ?_ GE478.out) | exact HB.out)⟩
            · replace c60 := Bool.eq_false_iff.mpr c60
              subst c60
              have H1 : ((impl_SegTurn.f kj17 a0_0 a0_1 a0_2 a0_3 a1_0 a1_1).bind fun t485 => ((impl_SegTurn.f kj17 a0_0 a0_1 a0_2 a0_3 a1_2 a1_3).bind fun t486 => (if (wrap64 (t485 * t486)) < 0 then ((impl_SegTurn.f kj17 a1_0 a1_1 a1_2 a1_3 a0_0 a0_1).bind fun t487 => ((impl_SegTurn.f kj17 a1_0 a1_1 a1_2 a1_3 a0_2 a0_3).bind fun t488 => (some (decide ((wrap64 (t487 * t488)) < 0))))) else (some false)))) = some r := by rw [if_neg (show ¬ (false = true) by decide)] at H; exact H
              clear H
              have H := H1
              clear H1
              replace H := Option.bind_eq_some_iff.mp H
              obtain ⟨t485, A610, H⟩ := H
              replace H : ((impl_SegTurn.f kj17 a0_0 a0_1 a0_2 a0_3 a1_2 a1_3).bind fun t486 => (if (wrap64 (t485 * t486)) < 0 then ((impl_SegTurn.f kj17 a1_0 a1_1 a1_2 a1_3 a0_0 a0_1).bind fun t487 => ((impl_SegTurn.f kj17 a1_0 a1_1 a1_2 a1_3 a0_2 a0_3).bind fun t488 => (some (decide ((wrap64 (t487 * t488)) < 0))))) else (some false))) = some r := H
              have A61 := Aside0.mk A610
              clear A610
              replace H := Option.bind_eq_some_iff.mp H
              obtain ⟨t486, A620, H⟩ := H
              replace H : (if (wrap64 (t485 * t486)) < 0 then ((impl_SegTurn.f kj17 a1_0 a1_1 a1_2 a1_3 a0_0 a0_1).bind fun t487 => ((impl_SegTurn.f kj17 a1_0 a1_1 a1_2 a1_3 a0_2 a0_3).bind fun t488 => (some (decide ((wrap64 (t487 * t488)) < 0))))) else (some false)) = some r := H
              have A62 := Aside0.mk A620
              clear A620
              by_cases c63 : (wrap64 (t485 * t486)) < 0
              · rw [if_pos c63] at H
                have c63b0 : decide ((wrap64 (t485 * t486)) < 0) = true := decide_eq_true c63
                clear c63
                replace H := Option.bind_eq_some_iff.mp H
                obtain ⟨t487, A640, H⟩ := H
                replace H : ((impl_SegTurn.f kj17 a1_0 a1_1 a1_2 a1_3 a0_2 a0_3).bind fun t488 => (some (decide ((wrap64 (t487 * t488)) < 0)))) = some r := H
                have A64 := Aside0.mk A640
                clear A640
                replace H := Option.bind_eq_some_iff.mp H
                obtain ⟨t488, A650, H⟩ := H
                replace H : (some (decide ((wrap64 (t487 * t488)) < 0))) = some r := H
                have A65 := Aside0.mk A650
                clear A650
                obtain rfl := Option.some.inj H
                try go_wp2
                have n0_ := Aside0.mk (blk_drew BK477.out)
                have n1_ := Aside0.mk (blk_drew BK478.out)
                have n2_ := Aside0.mk (below_drew1 HB.out)
                clear BK477
                clear BK478
                clear HB
                have BK477 := n0_
                have BK478 := n1_
                have HB := n2_
                clear n0_ n1_ n2_
                refine start_ (n := 35) (S := fun w' => w'.cell? ⟨gb477, 0, none⟩ = some (.int .i64 a0_0) ∧ w'.cell? ⟨gb477, 1, none⟩ = some (.int .i64 a0_1) ∧ w'.cell? ⟨gb477, 2, none⟩ = some (.int .i64 a0_2) ∧ w'.cell? ⟨gb477, 3, none⟩ = some (.int .i64 a0_3) ∧ w'.cell? ⟨gb478, 0, none⟩ = some (.int .i64 a1_0) ∧ w'.cell? ⟨gb478, 1, none⟩ = some (.int .i64 a1_1) ∧ w'.cell? ⟨gb478, 2, none⟩ = some (.int .i64 a1_2) ∧ w'.cell? ⟨gb478, 3, none⟩ = some (.int .i64 a1_3)) (ds := []) #[false, false, false, false, false, false, false, false, false, false, false, false, false, false, false, false, false, false, false, false, false, false, false, false, false, false, false, false, false, false, false, false, false, false, false] (by kernel_rfl) rfl rfl ⟨(blk_cell BK477.out 0).trans rfl, (blk_cell BK477.out 1).trans rfl, (blk_cell BK477.out 2).trans rfl, (blk_cell BK477.out 3).trans rfl, (blk_cell BK478.out 0).trans rfl, (blk_cell BK478.out 1).trans rfl, (blk_cell BK478.out 2).trans rfl, (blk_cell BK478.out 3).trans rfl⟩ (fun hHeld => ?_); refine with_tabW impl_SegMeet.tab5 impl_SegMeet.bits5 (fun HT_ HW_ => ?_)
                generalize wc.drew = w66 at BK477 BK478 HB hHeld ⊢
                refine pure_ (i := 0) (N := some 35) (v := ?_) (a' := ?_) #[true, false, false, false, false, false, false, false, false, false, false, false, false, false, false, false, false, false, false, false, false, false, false, false, false, false, false, false, false, false, false, false, false, false, false] rfl rfl (any_of HT_.out (by kernel_rfl)) (fun _ _ _ h => h) (Or.inl ⟨by rfl, ?_⟩) ?_ ?_
                rotate_left
                · intro w'
                  go_simp
                  with_reducible rfl
                rotate_left
                · simp only [Act.put, List.setIfInBounds_toArray, List.set_cons_zero, List.set_cons_succ, i64_w, i32_w]
                  rfl
                refine pure_ (i := 2) (N := some 37) (v := ?_) (a' := ?_) #[true, false, true, false, false, false, false, false, false, false, false, false, false, false, false, false, false, false, false, false, false, false, false, false, false, false, false, false, false, false, false, false, false, false, false] rfl rfl (any_of HT_.out (by kernel_rfl)) (fun _ _ _ h => h) (Or.inl ⟨by rfl, ?_⟩) ?_ ?_
                rotate_left
                · intro w'
                  go_simp
                  with_reducible rfl
                rotate_left
                · simp only [Act.put, List.setIfInBounds_toArray, List.set_cons_zero, List.set_cons_succ, i64_w, i32_w]
                  rfl
                refine pure_ (i := 4) (N := some 39) (v := ?_) (a' := ?_) #[true, false, true, false, true, false, false, false, false, false, false, false, false, false, false, false, false, false, false, false, false, false, false, false, false, false, false, false, false, false, false, false, false, false, false] rfl rfl (any_of HT_.out (by kernel_rfl)) (fun _ _ _ h => h) (Or.inl ⟨by rfl, ?_⟩) ?_ ?_
                rotate_left
                · intro w'
                  go_simp
                  with_reducible rfl
                rotate_left
                · simp only [Act.put, List.setIfInBounds_toArray, List.set_cons_zero, List.set_cons_succ, i64_w, i32_w]
                  rfl
                refine pure_ (i := 7) (N := some 42) (v := ?_) (a' := ?_) #[true, false, true, false, true, false, false, true, false, false, false, false, false, false, false, false, false, false, false, false, false, false, false, false, false, false, false, false, false, false, false, false, false, false, false] rfl rfl (any_of HT_.out (by kernel_rfl)) (fun _ _ _ h => h) (Or.inl ⟨by rfl, ?_⟩) ?_ ?_
                rotate_left
                · intro w'
                  go_simp
                  with_reducible rfl
                rotate_left
                · simp only [Act.put, List.setIfInBounds_toArray, List.set_cons_zero, List.set_cons_succ, i64_w, i32_w]
                  rfl
                refine pure_ (i := 9) (N := some 44) (v := ?_) (a' := ?_) #[true, false, true, false, true, false, false, true, false, true, false, false, false, false, false, false, false, false, false, false, false, false, false, false, false, false, false, false, false, false, false, false, false, false, false] rfl rfl (any_of HT_.out (by kernel_rfl)) (fun _ _ _ h => h) (Or.inl ⟨by rfl, ?_⟩) ?_ ?_
                rotate_left
                · intro w'
                  go_simp
                  with_reducible rfl
                rotate_left
                · simp only [Act.put, List.setIfInBounds_toArray, List.set_cons_zero, List.set_cons_succ, i64_w, i32_w]
                  rfl
                refine pure_ (i := 11) (N := some 46) (v := ?_) (a' := ?_) #[true, false, true, false, true, false, false, true, false, true, false, true, false, false, false, false, false, false, false, false, false, false, false, false, false, false, false, false, false, false, false, false, false, false, false] rfl rfl (any_of HT_.out (by kernel_rfl)) (fun _ _ _ h => h) (Or.inl ⟨by rfl, ?_⟩) ?_ ?_
                rotate_left
                · intro w'
                  go_simp
                  with_reducible rfl
                rotate_left
                · simp only [Act.put, List.setIfInBounds_toArray, List.set_cons_zero, List.set_cons_succ, i64_w, i32_w]
                  rfl
                refine take_ (i := 1) (N := some 36) (v := ?_) (a' := ?_) #[true, true, true, false, true, false, false, true, false, true, false, true, false, false, false, false, false, false, false, false, false, false, false, false, false, false, false, false, false, false, false, false, false, false, false] rfl rfl (take_ofW HT_.out HW_.out (by kernel_rfl)) (fun _ _ _ h => h) (Or.inl ⟨by rfl, ?_⟩) hHeld ?_ ?_
                rotate_left
                · rintro w' ⟨s0, s1, s2, s3, s4, s5, s6, s7⟩
                  go_simp
                  with_reducible rfl
                rotate_left
                · simp only [Act.put, List.setIfInBounds_toArray, List.set_cons_zero, List.set_cons_succ, i64_w, i32_w]
                  rfl
                refine take_ (i := 3) (N := some 38) (v := ?_) (a' := ?_) #[true, true, true, true, true, false, false, true, false, true, false, true, false, false, false, false, false, false, false, false, false, false, false, false, false, false, false, false, false, false, false, false, false, false, false] rfl rfl (take_ofW HT_.out HW_.out (by kernel_rfl)) (fun _ _ _ h => h) (Or.inl ⟨by rfl, ?_⟩) hHeld ?_ ?_
                rotate_left
                · rintro w' ⟨s0, s1, s2, s3, s4, s5, s6, s7⟩
                  go_simp
                  with_reducible rfl
                rotate_left
                · simp only [Act.put, List.setIfInBounds_toArray, List.set_cons_zero, List.set_cons_succ, i64_w, i32_w]
                  rfl
                refine take_ (i := 5) (N := some 40) (v := ?_) (a' := ?_) #[true, true, true, true, true, true, false, true, false, true, false, true, false, false, false, false, false, false, false, false, false, false, false, false, false, false, false, false, false, false, false, false, false, false, false] rfl rfl (take_ofW HT_.out HW_.out (by kernel_rfl)) (fun _ _ _ h => h) (Or.inl ⟨by rfl, ?_⟩) hHeld ?_ ?_
                rotate_left
                · rintro w' ⟨s0, s1, s2, s3, s4, s5, s6, s7⟩
                  go_simp
                  with_reducible rfl
                rotate_left
                · simp only [Act.put, List.setIfInBounds_toArray, List.set_cons_zero, List.set_cons_succ, i64_w, i32_w]
                  rfl
                refine take_ (i := 8) (N := some 43) (v := ?_) (a' := ?_) #[true, true, true, true, true, true, false, true, true, true, false, true, false, false, false, false, false, false, false, false, false, false, false, false, false, false, false, false, false, false, false, false, false, false, false] rfl rfl (take_ofW HT_.out HW_.out (by kernel_rfl)) (fun _ _ _ h => h) (Or.inl ⟨by rfl, ?_⟩) hHeld ?_ ?_
                rotate_left
                · rintro w' ⟨s0, s1, s2, s3, s4, s5, s6, s7⟩
                  go_simp
                  with_reducible rfl
                rotate_left
                · simp only [Act.put, List.setIfInBounds_toArray, List.set_cons_zero, List.set_cons_succ, i64_w, i32_w]
                  rfl
                refine take_ (i := 10) (N := some 45) (v := ?_) (a' := ?_) #[true, true, true, true, true, true, false, true, true, true, true, true, false, false, false, false, false, false, false, false, false, false, false, false, false, false, false, false, false, false, false, false, false, false, false] rfl rfl (take_ofW HT_.out HW_.out (by kernel_rfl)) (fun _ _ _ h => h) (Or.inl ⟨by rfl, ?_⟩) hHeld ?_ ?_
                rotate_left
                · rintro w' ⟨s0, s1, s2, s3, s4, s5, s6, s7⟩
                  go_simp
                  with_reducible rfl
                rotate_left
                · simp only [Act.put, List.setIfInBounds_toArray, List.set_cons_zero, List.set_cons_succ, i64_w, i32_w]
                  rfl
                refine take_ (i := 12) (N := some 47) (v := ?_) (a' := ?_) #[true, true, true, true, true, true, false, true, true, true, true, true, true, false, false, false, false, false, false, false, false, false, false, false, false, false, false, false, false, false, false, false, false, false, false] rfl rfl (take_ofW HT_.out HW_.out (by kernel_rfl)) (fun _ _ _ h => h) (Or.inl ⟨by rfl, ?_⟩) hHeld ?_ ?_
                rotate_left
                · rintro w' ⟨s0, s1, s2, s3, s4, s5, s6, s7⟩
                  go_simp
                  with_reducible rfl
                rotate_left
                · simp only [Act.put, List.setIfInBounds_toArray, List.set_cons_zero, List.set_cons_succ, i64_w, i32_w]
                  rfl
                refine one_ (i := 6) (N := some 41) #[true, true, true, true, true, true, true, true, true, true, true, true, true, false, false, false, false, false, false, false, false, false, false, false, false, false, false, false, false, false, false, false, false, false, false] rfl rfl (one_of HT_.out (by kernel_rfl)) (by decide) (fun K hK => ?_)
                refine goes_ Tryd.func64 (by kernel_rfl) rfl #[.agg #[.int .i64 a0_0, .int .i64 a0_1], .agg #[.int .i64 a0_2, .int .i64 a0_3], .agg #[.int .i64 a1_0, .int .i64 a1_1]] (by rfl) rfl rfl (by (try simp only [List.map_toArray, List.map_cons, List.map_nil]); first | done | rfl | (simp only [List.length_drop, List.length_take]; rfl)) ?_
                with_reducible refine (impl_SegTurn.calls kj17 a0_0 a0_1 a0_2 a0_3 a1_0 a1_1 t485 _ A61.out).mono ?_
                rintro e w67 ⟨rfl, hb⟩
                refine ⟨_, rfl, ?_⟩
                have n0_ := Aside0.mk (blk_below (g := gb477) (o := .cells #[.int .i64 a0_0, .int .i64 a0_1, .int .i64 a0_2, .int .i64 a0_3] 40 (0, 0)) (by (with_reducible repeat (first | refine blk_drewN ?_ _ | refine blk_drew ?_ | refine blk_alloc ?_ _)); exact BK477.out) hb)
                have n1_ := Aside0.mk (blk_below (g := gb478) (o := .cells #[.int .i64 a1_0, .int .i64 a1_1, .int .i64 a1_2, .int .i64 a1_3] 40 (0, 0)) (by (with_reducible repeat (first | refine blk_drewN ?_ _ | refine blk_drew ?_ | refine blk_alloc ?_ _)); exact BK478.out) hb)
                have n2_ := Aside0.mk (below_step (by repeat (first | (with_reducible first | exact HB.out | apply below_alloc | apply pw_below_drewN | apply below_drew1 | refine below_set ?_ GE477.out | refine below_set ?_ GE478.out) | exact HB.out)) hb)
                clear BK477
                clear BK478
                clear HB
                have BK477 := n0_
                have BK478 := n1_
                have HB := n2_
                clear n0_ n1_ n2_
                (try clear hb)
                (try clear hb2)
                (try clear hk)
                (try clear hi)
                refine hK.out _ _ ⟨(blk_cell BK477.out 0).trans rfl, (blk_cell BK477.out 1).trans rfl, (blk_cell BK477.out 2).trans rfl, (blk_cell BK477.out 3).trans rfl, (blk_cell BK478.out 0).trans rfl, (blk_cell BK478.out 1).trans rfl, (blk_cell BK478.out 2).trans rfl, (blk_cell BK478.out 3).trans rfl⟩ (fun hHeld => ?_)
                clear hK K
                refine norm_ (a' := ?_) ?_ ?_
                rotate_left
                · show Act.put _ (some 41) _ = _
                  simp only [Act.put, List.setIfInBounds_toArray, List.set_cons_zero, List.set_cons_succ, i64_w, i32_w]
                  rfl
                refine one_ (i := 13) (N := some 48) #[true, true, true, true, true, true, true, true, true, true, true, true, true, true, false, false, false, false, false, false, false, false, false, false, false, false, false, false, false, false, false, false, false, false, false] rfl rfl (one_of HT_.out (by kernel_rfl)) (by decide) (fun K hK => ?_)
                refine goes_ Tryd.func64 (by kernel_rfl) rfl #[.agg #[.int .i64 a0_0, .int .i64 a0_1], .agg #[.int .i64 a0_2, .int .i64 a0_3], .agg #[.int .i64 a1_2, .int .i64 a1_3]] (by rfl) rfl rfl (by (try simp only [List.map_toArray, List.map_cons, List.map_nil]); first | done | rfl | (simp only [List.length_drop, List.length_take]; rfl)) ?_
                with_reducible refine (impl_SegTurn.calls kj17 a0_0 a0_1 a0_2 a0_3 a1_2 a1_3 t486 _ A62.out).mono ?_
                rintro e w68 ⟨rfl, hb⟩
                refine ⟨_, rfl, ?_⟩
                have n0_ := Aside0.mk (blk_below (g := gb477) (o := .cells #[.int .i64 a0_0, .int .i64 a0_1, .int .i64 a0_2, .int .i64 a0_3] 40 (0, 0)) (by (with_reducible repeat (first | refine blk_drewN ?_ _ | refine blk_drew ?_ | refine blk_alloc ?_ _)); exact BK477.out) hb)
                have n1_ := Aside0.mk (blk_below (g := gb478) (o := .cells #[.int .i64 a1_0, .int .i64 a1_1, .int .i64 a1_2, .int .i64 a1_3] 40 (0, 0)) (by (with_reducible repeat (first | refine blk_drewN ?_ _ | refine blk_drew ?_ | refine blk_alloc ?_ _)); exact BK478.out) hb)
                have n2_ := Aside0.mk (below_step (by repeat (first | (with_reducible first | exact HB.out | apply below_alloc | apply pw_below_drewN | apply below_drew1 | refine below_set ?_ GE477.out | refine below_set ?_ GE478.out) | exact HB.out)) hb)
                clear BK477
                clear BK478
                clear HB
                have BK477 := n0_
                have BK478 := n1_
                have HB := n2_
                clear n0_ n1_ n2_
                (try clear hb)
                (try clear hb2)
                (try clear hk)
                (try clear hi)
                refine hK.out _ _ ⟨(blk_cell BK477.out 0).trans rfl, (blk_cell BK477.out 1).trans rfl, (blk_cell BK477.out 2).trans rfl, (blk_cell BK477.out 3).trans rfl, (blk_cell BK478.out 0).trans rfl, (blk_cell BK478.out 1).trans rfl, (blk_cell BK478.out 2).trans rfl, (blk_cell BK478.out 3).trans rfl⟩ (fun hHeld => ?_)
                clear hK K
                refine norm_ (a' := ?_) ?_ ?_
                rotate_left
                · show Act.put _ (some 48) _ = _
                  simp only [Act.put, List.setIfInBounds_toArray, List.set_cons_zero, List.set_cons_succ, i64_w, i32_w]
                  rfl
                refine pure_ (i := 14) (N := some 49) (v := ?_) (a' := ?_) #[true, true, true, true, true, true, true, true, true, true, true, true, true, true, true, false, false, false, false, false, false, false, false, false, false, false, false, false, false, false, false, false, false, false, false] rfl rfl (any_of HT_.out (by kernel_rfl)) (fun _ _ _ h => h) (Or.inl ⟨by rfl, ?_⟩) ?_ ?_
                rotate_left
                · intro w'
                  go_simp
                  with_reducible rfl
                rotate_left
                · simp only [Act.put, List.setIfInBounds_toArray, List.set_cons_zero, List.set_cons_succ, i64_w, i32_w]
                  rfl
                refine pure_ (i := 15) (N := some 50) (v := ?_) (a' := ?_) #[true, true, true, true, true, true, true, true, true, true, true, true, true, true, true, true, false, false, false, false, false, false, false, false, false, false, false, false, false, false, false, false, false, false, false] rfl rfl (any_of HT_.out (by kernel_rfl)) (fun _ _ _ h => h) (Or.inl ⟨by rfl, ?_⟩) ?_ ?_
                rotate_left
                · intro w'
                  go_simp
                  with_reducible rfl
                rotate_left
                · simp only [Act.put, List.setIfInBounds_toArray, List.set_cons_zero, List.set_cons_succ, i64_w, i32_w]
                  rfl
                refine pure_ (i := 16) (N := some 51) (v := ?_) (a' := ?_) #[true, true, true, true, true, true, true, true, true, true, true, true, true, true, true, true, true, false, false, false, false, false, false, false, false, false, false, false, false, false, false, false, false, false, false] rfl rfl (any_of HT_.out (by kernel_rfl)) (fun _ _ _ h => h) (Or.inl ⟨by rfl, ?_⟩) ?_ ?_
                rotate_left
                · intro w'
                  go_simp
                  with_reducible rfl
                rotate_left
                · simp only [Act.put, List.setIfInBounds_toArray, List.set_cons_zero, List.set_cons_succ, i64_w, i32_w]
                  rfl
                refine pure_ (i := 17) (N := some 52) (v := ?_) (a' := ?_) #[true, true, true, true, true, true, true, true, true, true, true, true, true, true, true, true, true, true, false, false, false, false, false, false, false, false, false, false, false, false, false, false, false, false, false] rfl rfl (any_of HT_.out (by kernel_rfl)) (fun _ _ _ h => h) (Or.inl ⟨by rfl, ?_⟩) ?_ ?_
                rotate_left
                · intro w'
                  go_simp
                  with_reducible rfl
                rotate_left
                · simp only [Act.put, List.setIfInBounds_toArray, List.set_cons_zero, List.set_cons_succ, i64_w, i32_w]
                  rfl
                refine pure_ (i := 19) (N := some 54) (v := ?_) (a' := ?_) #[true, true, true, true, true, true, true, true, true, true, true, true, true, true, true, true, true, true, false, true, false, false, false, false, false, false, false, false, false, false, false, false, false, false, false] rfl rfl (any_of HT_.out (by kernel_rfl)) (fun _ _ _ h => h) (Or.inl ⟨by rfl, ?_⟩) ?_ ?_
                rotate_left
                · intro w'
                  go_simp
                  with_reducible rfl
                rotate_left
                · simp only [Act.put, List.setIfInBounds_toArray, List.set_cons_zero, List.set_cons_succ, i64_w, i32_w]
                  rfl
                refine pure_ (i := 21) (N := some 56) (v := ?_) (a' := ?_) #[true, true, true, true, true, true, true, true, true, true, true, true, true, true, true, true, true, true, false, true, false, true, false, false, false, false, false, false, false, false, false, false, false, false, false] rfl rfl (any_of HT_.out (by kernel_rfl)) (fun _ _ _ h => h) (Or.inl ⟨by rfl, ?_⟩) ?_ ?_
                rotate_left
                · intro w'
                  go_simp
                  with_reducible rfl
                rotate_left
                · simp only [Act.put, List.setIfInBounds_toArray, List.set_cons_zero, List.set_cons_succ, i64_w, i32_w]
                  rfl
                refine pure_ (i := 24) (N := some 59) (v := ?_) (a' := ?_) #[true, true, true, true, true, true, true, true, true, true, true, true, true, true, true, true, true, true, false, true, false, true, false, false, true, false, false, false, false, false, false, false, false, false, false] rfl rfl (any_of HT_.out (by kernel_rfl)) (fun _ _ _ h => h) (Or.inl ⟨by rfl, ?_⟩) ?_ ?_
                rotate_left
                · intro w'
                  go_simp
                  with_reducible rfl
                rotate_left
                · simp only [Act.put, List.setIfInBounds_toArray, List.set_cons_zero, List.set_cons_succ, i64_w, i32_w]
                  rfl
                refine pure_ (i := 26) (N := some 61) (v := ?_) (a' := ?_) #[true, true, true, true, true, true, true, true, true, true, true, true, true, true, true, true, true, true, false, true, false, true, false, false, true, false, true, false, false, false, false, false, false, false, false] rfl rfl (any_of HT_.out (by kernel_rfl)) (fun _ _ _ h => h) (Or.inl ⟨by rfl, ?_⟩) ?_ ?_
                rotate_left
                · intro w'
                  go_simp
                  with_reducible rfl
                rotate_left
                · simp only [Act.put, List.setIfInBounds_toArray, List.set_cons_zero, List.set_cons_succ, i64_w, i32_w]
                  rfl
                refine pure_ (i := 28) (N := some 63) (v := ?_) (a' := ?_) #[true, true, true, true, true, true, true, true, true, true, true, true, true, true, true, true, true, true, false, true, false, true, false, false, true, false, true, false, true, false, false, false, false, false, false] rfl rfl (any_of HT_.out (by kernel_rfl)) (fun _ _ _ h => h) (Or.inl ⟨by rfl, ?_⟩) ?_ ?_
                rotate_left
                · intro w'
                  go_simp
                  with_reducible rfl
                rotate_left
                · simp only [Act.put, List.setIfInBounds_toArray, List.set_cons_zero, List.set_cons_succ, i64_w, i32_w]
                  rfl
                refine take_ (i := 18) (N := some 53) (v := ?_) (a' := ?_) #[true, true, true, true, true, true, true, true, true, true, true, true, true, true, true, true, true, true, true, true, false, true, false, false, true, false, true, false, true, false, false, false, false, false, false] rfl rfl (take_ofW HT_.out HW_.out (by kernel_rfl)) (fun _ _ _ h => h) (Or.inl ⟨by rfl, ?_⟩) hHeld ?_ ?_
                rotate_left
                · rintro w' ⟨s0, s1, s2, s3, s4, s5, s6, s7⟩
                  go_simp
                  with_reducible rfl
                rotate_left
                · simp only [Act.put, List.setIfInBounds_toArray, List.set_cons_zero, List.set_cons_succ, i64_w, i32_w]
                  rfl
                refine take_ (i := 20) (N := some 55) (v := ?_) (a' := ?_) #[true, true, true, true, true, true, true, true, true, true, true, true, true, true, true, true, true, true, true, true, true, true, false, false, true, false, true, false, true, false, false, false, false, false, false] rfl rfl (take_ofW HT_.out HW_.out (by kernel_rfl)) (fun _ _ _ h => h) (Or.inl ⟨by rfl, ?_⟩) hHeld ?_ ?_
                rotate_left
                · rintro w' ⟨s0, s1, s2, s3, s4, s5, s6, s7⟩
                  go_simp
                  with_reducible rfl
                rotate_left
                · simp only [Act.put, List.setIfInBounds_toArray, List.set_cons_zero, List.set_cons_succ, i64_w, i32_w]
                  rfl
                refine take_ (i := 22) (N := some 57) (v := ?_) (a' := ?_) #[true, true, true, true, true, true, true, true, true, true, true, true, true, true, true, true, true, true, true, true, true, true, true, false, true, false, true, false, true, false, false, false, false, false, false] rfl rfl (take_ofW HT_.out HW_.out (by kernel_rfl)) (fun _ _ _ h => h) (Or.inl ⟨by rfl, ?_⟩) hHeld ?_ ?_
                rotate_left
                · rintro w' ⟨s0, s1, s2, s3, s4, s5, s6, s7⟩
                  go_simp
                  with_reducible rfl
                rotate_left
                · simp only [Act.put, List.setIfInBounds_toArray, List.set_cons_zero, List.set_cons_succ, i64_w, i32_w]
                  rfl
                refine take_ (i := 25) (N := some 60) (v := ?_) (a' := ?_) #[true, true, true, true, true, true, true, true, true, true, true, true, true, true, true, true, true, true, true, true, true, true, true, false, true, true, true, false, true, false, false, false, false, false, false] rfl rfl (take_ofW HT_.out HW_.out (by kernel_rfl)) (fun _ _ _ h => h) (Or.inl ⟨by rfl, ?_⟩) hHeld ?_ ?_
                rotate_left
                · rintro w' ⟨s0, s1, s2, s3, s4, s5, s6, s7⟩
                  go_simp
                  with_reducible rfl
                rotate_left
                · simp only [Act.put, List.setIfInBounds_toArray, List.set_cons_zero, List.set_cons_succ, i64_w, i32_w]
                  rfl
                refine take_ (i := 27) (N := some 62) (v := ?_) (a' := ?_) #[true, true, true, true, true, true, true, true, true, true, true, true, true, true, true, true, true, true, true, true, true, true, true, false, true, true, true, true, true, false, false, false, false, false, false] rfl rfl (take_ofW HT_.out HW_.out (by kernel_rfl)) (fun _ _ _ h => h) (Or.inl ⟨by rfl, ?_⟩) hHeld ?_ ?_
                rotate_left
                · rintro w' ⟨s0, s1, s2, s3, s4, s5, s6, s7⟩
                  go_simp
                  with_reducible rfl
                rotate_left
                · simp only [Act.put, List.setIfInBounds_toArray, List.set_cons_zero, List.set_cons_succ, i64_w, i32_w]
                  rfl
                refine take_ (i := 29) (N := some 64) (v := ?_) (a' := ?_) #[true, true, true, true, true, true, true, true, true, true, true, true, true, true, true, true, true, true, true, true, true, true, true, false, true, true, true, true, true, true, false, false, false, false, false] rfl rfl (take_ofW HT_.out HW_.out (by kernel_rfl)) (fun _ _ _ h => h) (Or.inl ⟨by rfl, ?_⟩) hHeld ?_ ?_
                rotate_left
                · rintro w' ⟨s0, s1, s2, s3, s4, s5, s6, s7⟩
                  go_simp
                  with_reducible rfl
                rotate_left
                · simp only [Act.put, List.setIfInBounds_toArray, List.set_cons_zero, List.set_cons_succ, i64_w, i32_w]
                  rfl
                refine one_ (i := 23) (N := some 58) #[true, true, true, true, true, true, true, true, true, true, true, true, true, true, true, true, true, true, true, true, true, true, true, true, true, true, true, true, true, true, false, false, false, false, false] rfl rfl (one_of HT_.out (by kernel_rfl)) (by decide) (fun K hK => ?_)
                refine goes_ Tryd.func64 (by kernel_rfl) rfl #[.agg #[.int .i64 a1_0, .int .i64 a1_1], .agg #[.int .i64 a1_2, .int .i64 a1_3], .agg #[.int .i64 a0_0, .int .i64 a0_1]] (by rfl) rfl rfl (by (try simp only [List.map_toArray, List.map_cons, List.map_nil]); first | done | rfl | (simp only [List.length_drop, List.length_take]; rfl)) ?_
                with_reducible refine (impl_SegTurn.calls kj17 a1_0 a1_1 a1_2 a1_3 a0_0 a0_1 t487 _ A64.out).mono ?_
                rintro e w69 ⟨rfl, hb⟩
                refine ⟨_, rfl, ?_⟩
                have n0_ := Aside0.mk (blk_below (g := gb477) (o := .cells #[.int .i64 a0_0, .int .i64 a0_1, .int .i64 a0_2, .int .i64 a0_3] 40 (0, 0)) (by (with_reducible repeat (first | refine blk_drewN ?_ _ | refine blk_drew ?_ | refine blk_alloc ?_ _)); exact BK477.out) hb)
                have n1_ := Aside0.mk (blk_below (g := gb478) (o := .cells #[.int .i64 a1_0, .int .i64 a1_1, .int .i64 a1_2, .int .i64 a1_3] 40 (0, 0)) (by (with_reducible repeat (first | refine blk_drewN ?_ _ | refine blk_drew ?_ | refine blk_alloc ?_ _)); exact BK478.out) hb)
                have n2_ := Aside0.mk (below_step (by repeat (first | (with_reducible first | exact HB.out | apply below_alloc | apply pw_below_drewN | apply below_drew1 | refine below_set ?_ GE477.out | refine below_set ?_ GE478.out) | exact HB.out)) hb)
                clear BK477
                clear BK478
                clear HB
                have BK477 := n0_
                have BK478 := n1_
                have HB := n2_
                clear n0_ n1_ n2_
                (try clear hb)
                (try clear hb2)
                (try clear hk)
                (try clear hi)
                refine hK.out _ _ ⟨(blk_cell BK477.out 0).trans rfl, (blk_cell BK477.out 1).trans rfl, (blk_cell BK477.out 2).trans rfl, (blk_cell BK477.out 3).trans rfl, (blk_cell BK478.out 0).trans rfl, (blk_cell BK478.out 1).trans rfl, (blk_cell BK478.out 2).trans rfl, (blk_cell BK478.out 3).trans rfl⟩ (fun hHeld => ?_)
                clear hK K
                refine norm_ (a' := ?_) ?_ ?_
                rotate_left
                · show Act.put _ (some 58) _ = _
                  simp only [Act.put, List.setIfInBounds_toArray, List.set_cons_zero, List.set_cons_succ, i64_w, i32_w]
                  rfl
                refine one_ (i := 30) (N := some 65) #[true, true, true, true, true, true, true, true, true, true, true, true, true, true, true, true, true, true, true, true, true, true, true, true, true, true, true, true, true, true, true, false, false, false, false] rfl rfl (one_of HT_.out (by kernel_rfl)) (by decide) (fun K hK => ?_)
                refine goes_ Tryd.func64 (by kernel_rfl) rfl #[.agg #[.int .i64 a1_0, .int .i64 a1_1], .agg #[.int .i64 a1_2, .int .i64 a1_3], .agg #[.int .i64 a0_2, .int .i64 a0_3]] (by rfl) rfl rfl (by (try simp only [List.map_toArray, List.map_cons, List.map_nil]); first | done | rfl | (simp only [List.length_drop, List.length_take]; rfl)) ?_
                with_reducible refine (impl_SegTurn.calls kj17 a1_0 a1_1 a1_2 a1_3 a0_2 a0_3 t488 _ A65.out).mono ?_
                rintro e w70 ⟨rfl, hb⟩
                refine ⟨_, rfl, ?_⟩
                have n0_ := Aside0.mk (blk_below (g := gb477) (o := .cells #[.int .i64 a0_0, .int .i64 a0_1, .int .i64 a0_2, .int .i64 a0_3] 40 (0, 0)) (by (with_reducible repeat (first | refine blk_drewN ?_ _ | refine blk_drew ?_ | refine blk_alloc ?_ _)); exact BK477.out) hb)
                have n1_ := Aside0.mk (blk_below (g := gb478) (o := .cells #[.int .i64 a1_0, .int .i64 a1_1, .int .i64 a1_2, .int .i64 a1_3] 40 (0, 0)) (by (with_reducible repeat (first | refine blk_drewN ?_ _ | refine blk_drew ?_ | refine blk_alloc ?_ _)); exact BK478.out) hb)
                have n2_ := Aside0.mk (below_step (by repeat (first | (with_reducible first | exact HB.out | apply below_alloc | apply pw_below_drewN | apply below_drew1 | refine below_set ?_ GE477.out | refine below_set ?_ GE478.out) | exact HB.out)) hb)
                clear BK477
                clear BK478
                clear HB
                have BK477 := n0_
                have BK478 := n1_
                have HB := n2_
                clear n0_ n1_ n2_
                (try clear hb)
                (try clear hb2)
                (try clear hk)
                (try clear hi)
                refine hK.out _ _ ⟨(blk_cell BK477.out 0).trans rfl, (blk_cell BK477.out 1).trans rfl, (blk_cell BK477.out 2).trans rfl, (blk_cell BK477.out 3).trans rfl, (blk_cell BK478.out 0).trans rfl, (blk_cell BK478.out 1).trans rfl, (blk_cell BK478.out 2).trans rfl, (blk_cell BK478.out 3).trans rfl⟩ (fun hHeld => ?_)
                clear hK K
                refine norm_ (a' := ?_) ?_ ?_
                rotate_left
                · show Act.put _ (some 65) _ = _
                  simp only [Act.put, List.setIfInBounds_toArray, List.set_cons_zero, List.set_cons_succ, i64_w, i32_w]
                  rfl
                refine pure_ (i := 31) (N := some 66) (v := ?_) (a' := ?_) #[true, true, true, true, true, true, true, true, true, true, true, true, true, true, true, true, true, true, true, true, true, true, true, true, true, true, true, true, true, true, true, true, false, false, false] rfl rfl (any_of HT_.out (by kernel_rfl)) (fun _ _ _ h => h) (Or.inl ⟨by rfl, ?_⟩) ?_ ?_
                rotate_left
                · intro w'
                  go_simp
                  with_reducible rfl
                rotate_left
                · simp only [Act.put, List.setIfInBounds_toArray, List.set_cons_zero, List.set_cons_succ, i64_w, i32_w]
                  rfl
                refine pure_ (i := 32) (N := some 67) (v := ?_) (a' := ?_) #[true, true, true, true, true, true, true, true, true, true, true, true, true, true, true, true, true, true, true, true, true, true, true, true, true, true, true, true, true, true, true, true, true, false, false] rfl rfl (any_of HT_.out (by kernel_rfl)) (fun _ _ _ h => h) (Or.inl ⟨by rfl, ?_⟩) ?_ ?_
                rotate_left
                · intro w'
                  go_simp
                  with_reducible rfl
                rotate_left
                · simp only [Act.put, List.setIfInBounds_toArray, List.set_cons_zero, List.set_cons_succ, i64_w, i32_w]
                  rfl
                refine pure_ (i := 33) (N := some 68) (v := ?_) (a' := ?_) #[true, true, true, true, true, true, true, true, true, true, true, true, true, true, true, true, true, true, true, true, true, true, true, true, true, true, true, true, true, true, true, true, true, true, false] rfl rfl (any_of HT_.out (by kernel_rfl)) (fun _ _ _ h => h) (Or.inl ⟨by rfl, ?_⟩) ?_ ?_
                rotate_left
                · intro w'
                  go_simp
                  with_reducible rfl
                rotate_left
                · simp only [Act.put, List.setIfInBounds_toArray, List.set_cons_zero, List.set_cons_succ, i64_w, i32_w]
                  rfl
                refine pure_ (i := 34) (N := some 4) (v := ?_) (a' := ?_) #[true, true, true, true, true, true, true, true, true, true, true, true, true, true, true, true, true, true, true, true, true, true, true, true, true, true, true, true, true, true, true, true, true, true, true] rfl rfl (any_of HT_.out (by kernel_rfl)) (fun _ _ _ h => h) (Or.inl ⟨by rfl, ?_⟩) ?_ ?_
                rotate_left
                · intro w'
                  go_simp
                  with_reducible rfl
                rotate_left
                · simp only [Act.put, List.setIfInBounds_toArray, List.set_cons_zero, List.set_cons_succ, i64_w, i32_w]
                  rfl
                refine done_ (done_of HT_.out (by kernel_rfl)) ?_
                try go_wp2
                go_ret
                exact ⟨by first | rfl | (simp [errW_none, errW_some] <;> rfl) | (simp [*, errW_none, errW_some] <;> rfl), by repeat (first | (with_reducible first | exact HB.out | apply below_alloc | apply pw_below_drewN | apply below_drew1 | refine below_set ?_ GE477.out | refine below_set ?_ GE478.out) | exact HB.out)⟩
              · rw [if_neg c63] at H
                have c63b0 : decide ((wrap64 (t485 * t486)) < 0) = false := decide_eq_false c63
                clear c63
                obtain rfl := Option.some.inj H
                try go_wp2
                have n0_ := Aside0.mk (blk_drew BK477.out)
                have n1_ := Aside0.mk (blk_drew BK478.out)
                have n2_ := Aside0.mk (below_drew1 HB.out)
                clear BK477
                clear BK478
                clear HB
                have BK477 := n0_
                have BK478 := n1_
                have HB := n2_
                clear n0_ n1_ n2_
                refine start_ (n := 35) (S := fun w' => w'.cell? ⟨gb477, 0, none⟩ = some (.int .i64 a0_0) ∧ w'.cell? ⟨gb477, 1, none⟩ = some (.int .i64 a0_1) ∧ w'.cell? ⟨gb477, 2, none⟩ = some (.int .i64 a0_2) ∧ w'.cell? ⟨gb477, 3, none⟩ = some (.int .i64 a0_3) ∧ w'.cell? ⟨gb478, 0, none⟩ = some (.int .i64 a1_0) ∧ w'.cell? ⟨gb478, 1, none⟩ = some (.int .i64 a1_1) ∧ w'.cell? ⟨gb478, 2, none⟩ = some (.int .i64 a1_2) ∧ w'.cell? ⟨gb478, 3, none⟩ = some (.int .i64 a1_3)) (ds := []) #[false, false, false, false, false, false, false, false, false, false, false, false, false, false, false, false, false, false, false, false, false, false, false, false, false, false, false, false, false, false, false, false, false, false, false] (by kernel_rfl) rfl rfl ⟨(blk_cell BK477.out 0).trans rfl, (blk_cell BK477.out 1).trans rfl, (blk_cell BK477.out 2).trans rfl, (blk_cell BK477.out 3).trans rfl, (blk_cell BK478.out 0).trans rfl, (blk_cell BK478.out 1).trans rfl, (blk_cell BK478.out 2).trans rfl, (blk_cell BK478.out 3).trans rfl⟩ (fun hHeld => ?_); refine with_tabW impl_SegMeet.tab5 impl_SegMeet.bits5 (fun HT_ HW_ => ?_)
                generalize wc.drew = w71 at BK477 BK478 HB hHeld ⊢
                refine pure_ (i := 0) (N := some 35) (v := ?_) (a' := ?_) #[true, false, false, false, false, false, false, false, false, false, false, false, false, false, false, false, false, false, false, false, false, false, false, false, false, false, false, false, false, false, false, false, false, false, false] rfl rfl (any_of HT_.out (by kernel_rfl)) (fun _ _ _ h => h) (Or.inl ⟨by rfl, ?_⟩) ?_ ?_
                rotate_left
                · intro w'
                  go_simp
                  with_reducible rfl
                rotate_left
                · simp only [Act.put, List.setIfInBounds_toArray, List.set_cons_zero, List.set_cons_succ, i64_w, i32_w]
                  rfl
                refine pure_ (i := 2) (N := some 37) (v := ?_) (a' := ?_) #[true, false, true, false, false, false, false, false, false, false, false, false, false, false, false, false, false, false, false, false, false, false, false, false, false, false, false, false, false, false, false, false, false, false, false] rfl rfl (any_of HT_.out (by kernel_rfl)) (fun _ _ _ h => h) (Or.inl ⟨by rfl, ?_⟩) ?_ ?_
                rotate_left
                · intro w'
                  go_simp
                  with_reducible rfl
                rotate_left
                · simp only [Act.put, List.setIfInBounds_toArray, List.set_cons_zero, List.set_cons_succ, i64_w, i32_w]
                  rfl
                refine pure_ (i := 4) (N := some 39) (v := ?_) (a' := ?_) #[true, false, true, false, true, false, false, false, false, false, false, false, false, false, false, false, false, false, false, false, false, false, false, false, false, false, false, false, false, false, false, false, false, false, false] rfl rfl (any_of HT_.out (by kernel_rfl)) (fun _ _ _ h => h) (Or.inl ⟨by rfl, ?_⟩) ?_ ?_
                rotate_left
                · intro w'
                  go_simp
                  with_reducible rfl
                rotate_left
                · simp only [Act.put, List.setIfInBounds_toArray, List.set_cons_zero, List.set_cons_succ, i64_w, i32_w]
                  rfl
                refine pure_ (i := 7) (N := some 42) (v := ?_) (a' := ?_) #[true, false, true, false, true, false, false, true, false, false, false, false, false, false, false, false, false, false, false, false, false, false, false, false, false, false, false, false, false, false, false, false, false, false, false] rfl rfl (any_of HT_.out (by kernel_rfl)) (fun _ _ _ h => h) (Or.inl ⟨by rfl, ?_⟩) ?_ ?_
                rotate_left
                · intro w'
                  go_simp
                  with_reducible rfl
                rotate_left
                · simp only [Act.put, List.setIfInBounds_toArray, List.set_cons_zero, List.set_cons_succ, i64_w, i32_w]
                  rfl
                refine pure_ (i := 9) (N := some 44) (v := ?_) (a' := ?_) #[true, false, true, false, true, false, false, true, false, true, false, false, false, false, false, false, false, false, false, false, false, false, false, false, false, false, false, false, false, false, false, false, false, false, false] rfl rfl (any_of HT_.out (by kernel_rfl)) (fun _ _ _ h => h) (Or.inl ⟨by rfl, ?_⟩) ?_ ?_
                rotate_left
                · intro w'
                  go_simp
                  with_reducible rfl
                rotate_left
                · simp only [Act.put, List.setIfInBounds_toArray, List.set_cons_zero, List.set_cons_succ, i64_w, i32_w]
                  rfl
                refine pure_ (i := 11) (N := some 46) (v := ?_) (a' := ?_) #[true, false, true, false, true, false, false, true, false, true, false, true, false, false, false, false, false, false, false, false, false, false, false, false, false, false, false, false, false, false, false, false, false, false, false] rfl rfl (any_of HT_.out (by kernel_rfl)) (fun _ _ _ h => h) (Or.inl ⟨by rfl, ?_⟩) ?_ ?_
                rotate_left
                · intro w'
                  go_simp
                  with_reducible rfl
                rotate_left
                · simp only [Act.put, List.setIfInBounds_toArray, List.set_cons_zero, List.set_cons_succ, i64_w, i32_w]
                  rfl
                refine take_ (i := 1) (N := some 36) (v := ?_) (a' := ?_) #[true, true, true, false, true, false, false, true, false, true, false, true, false, false, false, false, false, false, false, false, false, false, false, false, false, false, false, false, false, false, false, false, false, false, false] rfl rfl (take_ofW HT_.out HW_.out (by kernel_rfl)) (fun _ _ _ h => h) (Or.inl ⟨by rfl, ?_⟩) hHeld ?_ ?_
                rotate_left
                · rintro w' ⟨s0, s1, s2, s3, s4, s5, s6, s7⟩
                  go_simp
                  with_reducible rfl
                rotate_left
                · simp only [Act.put, List.setIfInBounds_toArray, List.set_cons_zero, List.set_cons_succ, i64_w, i32_w]
                  rfl
                refine take_ (i := 3) (N := some 38) (v := ?_) (a' := ?_) #[true, true, true, true, true, false, false, true, false, true, false, true, false, false, false, false, false, false, false, false, false, false, false, false, false, false, false, false, false, false, false, false, false, false, false] rfl rfl (take_ofW HT_.out HW_.out (by kernel_rfl)) (fun _ _ _ h => h) (Or.inl ⟨by rfl, ?_⟩) hHeld ?_ ?_
                rotate_left
                · rintro w' ⟨s0, s1, s2, s3, s4, s5, s6, s7⟩
                  go_simp
                  with_reducible rfl
                rotate_left
                · simp only [Act.put, List.setIfInBounds_toArray, List.set_cons_zero, List.set_cons_succ, i64_w, i32_w]
                  rfl
                refine take_ (i := 5) (N := some 40) (v := ?_) (a' := ?_) #[true, true, true, true, true, true, false, true, false, true, false, true, false, false, false, false, false, false, false, false, false, false, false, false, false, false, false, false, false, false, false, false, false, false, false] rfl rfl (take_ofW HT_.out HW_.out (by kernel_rfl)) (fun _ _ _ h => h) (Or.inl ⟨by rfl, ?_⟩) hHeld ?_ ?_
                rotate_left
                · rintro w' ⟨s0, s1, s2, s3, s4, s5, s6, s7⟩
                  go_simp
                  with_reducible rfl
                rotate_left
                · simp only [Act.put, List.setIfInBounds_toArray, List.set_cons_zero, List.set_cons_succ, i64_w, i32_w]
                  rfl
                refine take_ (i := 8) (N := some 43) (v := ?_) (a' := ?_) #[true, true, true, true, true, true, false, true, true, true, false, true, false, false, false, false, false, false, false, false, false, false, false, false, false, false, false, false, false, false, false, false, false, false, false] rfl rfl (take_ofW HT_.out HW_.out (by kernel_rfl)) (fun _ _ _ h => h) (Or.inl ⟨by rfl, ?_⟩) hHeld ?_ ?_
                rotate_left
                · rintro w' ⟨s0, s1, s2, s3, s4, s5, s6, s7⟩
                  go_simp
                  with_reducible rfl
                rotate_left
                · simp only [Act.put, List.setIfInBounds_toArray, List.set_cons_zero, List.set_cons_succ, i64_w, i32_w]
                  rfl
                refine take_ (i := 10) (N := some 45) (v := ?_) (a' := ?_) #[true, true, true, true, true, true, false, true, true, true, true, true, false, false, false, false, false, false, false, false, false, false, false, false, false, false, false, false, false, false, false, false, false, false, false] rfl rfl (take_ofW HT_.out HW_.out (by kernel_rfl)) (fun _ _ _ h => h) (Or.inl ⟨by rfl, ?_⟩) hHeld ?_ ?_
                rotate_left
                · rintro w' ⟨s0, s1, s2, s3, s4, s5, s6, s7⟩
                  go_simp
                  with_reducible rfl
                rotate_left
                · simp only [Act.put, List.setIfInBounds_toArray, List.set_cons_zero, List.set_cons_succ, i64_w, i32_w]
                  rfl
                refine take_ (i := 12) (N := some 47) (v := ?_) (a' := ?_) #[true, true, true, true, true, true, false, true, true, true, true, true, true, false, false, false, false, false, false, false, false, false, false, false, false, false, false, false, false, false, false, false, false, false, false] rfl rfl (take_ofW HT_.out HW_.out (by kernel_rfl)) (fun _ _ _ h => h) (Or.inl ⟨by rfl, ?_⟩) hHeld ?_ ?_
                rotate_left
                · rintro w' ⟨s0, s1, s2, s3, s4, s5, s6, s7⟩
                  go_simp
                  with_reducible rfl
                rotate_left
                · simp only [Act.put, List.setIfInBounds_toArray, List.set_cons_zero, List.set_cons_succ, i64_w, i32_w]
                  rfl
                refine one_ (i := 6) (N := some 41) #[true, true, true, true, true, true, true, true, true, true, true, true, true, false, false, false, false, false, false, false, false, false, false, false, false, false, false, false, false, false, false, false, false, false, false] rfl rfl (one_of HT_.out (by kernel_rfl)) (by decide) (fun K hK => ?_)
                refine goes_ Tryd.func64 (by kernel_rfl) rfl #[.agg #[.int .i64 a0_0, .int .i64 a0_1], .agg #[.int .i64 a0_2, .int .i64 a0_3], .agg #[.int .i64 a1_0, .int .i64 a1_1]] (by rfl) rfl rfl (by (try simp only [List.map_toArray, List.map_cons, List.map_nil]); first | done | rfl | (simp only [List.length_drop, List.length_take]; rfl)) ?_
                with_reducible refine (impl_SegTurn.calls kj17 a0_0 a0_1 a0_2 a0_3 a1_0 a1_1 t485 _ A61.out).mono ?_
                rintro e w72 ⟨rfl, hb⟩
                refine ⟨_, rfl, ?_⟩
                have n0_ := Aside0.mk (blk_below (g := gb477) (o := .cells #[.int .i64 a0_0, .int .i64 a0_1, .int .i64 a0_2, .int .i64 a0_3] 40 (0, 0)) (by (with_reducible repeat (first | refine blk_drewN ?_ _ | refine blk_drew ?_ | refine blk_alloc ?_ _)); exact BK477.out) hb)
                have n1_ := Aside0.mk (blk_below (g := gb478) (o := .cells #[.int .i64 a1_0, .int .i64 a1_1, .int .i64 a1_2, .int .i64 a1_3] 40 (0, 0)) (by (with_reducible repeat (first | refine blk_drewN ?_ _ | refine blk_drew ?_ | refine blk_alloc ?_ _)); exact BK478.out) hb)
                have n2_ := Aside0.mk (below_step (by repeat (first | (with_reducible first | exact HB.out | apply below_alloc | apply pw_below_drewN | apply below_drew1 | refine below_set ?_ GE477.out | refine below_set ?_ GE478.out) | exact HB.out)) hb)
                clear BK477
                clear BK478
                clear HB
                have BK477 := n0_
                have BK478 := n1_
                have HB := n2_
                clear n0_ n1_ n2_
                (try clear hb)
                (try clear hb2)
                (try clear hk)
                (try clear hi)
                refine hK.out _ _ ⟨(blk_cell BK477.out 0).trans rfl, (blk_cell BK477.out 1).trans rfl, (blk_cell BK477.out 2).trans rfl, (blk_cell BK477.out 3).trans rfl, (blk_cell BK478.out 0).trans rfl, (blk_cell BK478.out 1).trans rfl, (blk_cell BK478.out 2).trans rfl, (blk_cell BK478.out 3).trans rfl⟩ (fun hHeld => ?_)
                clear hK K
                refine norm_ (a' := ?_) ?_ ?_
                rotate_left
                · show Act.put _ (some 41) _ = _
                  simp only [Act.put, List.setIfInBounds_toArray, List.set_cons_zero, List.set_cons_succ, i64_w, i32_w]
                  rfl
                refine one_ (i := 13) (N := some 48) #[true, true, true, true, true, true, true, true, true, true, true, true, true, true, false, false, false, false, false, false, false, false, false, false, false, false, false, false, false, false, false, false, false, false, false] rfl rfl (one_of HT_.out (by kernel_rfl)) (by decide) (fun K hK => ?_)
                refine goes_ Tryd.func64 (by kernel_rfl) rfl #[.agg #[.int .i64 a0_0, .int .i64 a0_1], .agg #[.int .i64 a0_2, .int .i64 a0_3], .agg #[.int .i64 a1_2, .int .i64 a1_3]] (by rfl) rfl rfl (by (try simp only [List.map_toArray, List.map_cons, List.map_nil]); first | done | rfl | (simp only [List.length_drop, List.length_take]; rfl)) ?_
                with_reducible refine (impl_SegTurn.calls kj17 a0_0 a0_1 a0_2 a0_3 a1_2 a1_3 t486 _ A62.out).mono ?_
                rintro e w73 ⟨rfl, hb⟩
                refine ⟨_, rfl, ?_⟩
                have n0_ := Aside0.mk (blk_below (g := gb477) (o := .cells #[.int .i64 a0_0, .int .i64 a0_1, .int .i64 a0_2, .int .i64 a0_3] 40 (0, 0)) (by (with_reducible repeat (first | refine blk_drewN ?_ _ | refine blk_drew ?_ | refine blk_alloc ?_ _)); exact BK477.out) hb)
                have n1_ := Aside0.mk (blk_below (g := gb478) (o := .cells #[.int .i64 a1_0, .int .i64 a1_1, .int .i64 a1_2, .int .i64 a1_3] 40 (0, 0)) (by (with_reducible repeat (first | refine blk_drewN ?_ _ | refine blk_drew ?_ | refine blk_alloc ?_ _)); exact BK478.out) hb)
                have n2_ := Aside0.mk (below_step (by repeat (first | (with_reducible first | exact HB.out | apply below_alloc | apply pw_below_drewN | apply below_drew1 | refine below_set ?_ GE477.out | refine below_set ?_ GE478.out) | exact HB.out)) hb)
                clear BK477
                clear BK478
                clear HB
                have BK477 := n0_
                have BK478 := n1_
                have HB := n2_
                clear n0_ n1_ n2_
                (try clear hb)
                (try clear hb2)
                (try clear hk)
                (try clear hi)
                refine hK.out _ _ ⟨(blk_cell BK477.out 0).trans rfl, (blk_cell BK477.out 1).trans rfl, (blk_cell BK477.out 2).trans rfl, (blk_cell BK477.out 3).trans rfl, (blk_cell BK478.out 0).trans rfl, (blk_cell BK478.out 1).trans rfl, (blk_cell BK478.out 2).trans rfl, (blk_cell BK478.out 3).trans rfl⟩ (fun hHeld => ?_)
                clear hK K
                refine norm_ (a' := ?_) ?_ ?_
                rotate_left
                · show Act.put _ (some 48) _ = _
                  simp only [Act.put, List.setIfInBounds_toArray, List.set_cons_zero, List.set_cons_succ, i64_w, i32_w]
                  rfl
                refine pure_ (i := 14) (N := some 49) (v := ?_) (a' := ?_) #[true, true, true, true, true, true, true, true, true, true, true, true, true, true, true, false, false, false, false, false, false, false, false, false, false, false, false, false, false, false, false, false, false, false, false] rfl rfl (any_of HT_.out (by kernel_rfl)) (fun _ _ _ h => h) (Or.inl ⟨by rfl, ?_⟩) ?_ ?_
                rotate_left
                · intro w'
                  go_simp
                  with_reducible rfl
                rotate_left
                · simp only [Act.put, List.setIfInBounds_toArray, List.set_cons_zero, List.set_cons_succ, i64_w, i32_w]
                  rfl
                refine pure_ (i := 15) (N := some 50) (v := ?_) (a' := ?_) #[true, true, true, true, true, true, true, true, true, true, true, true, true, true, true, true, false, false, false, false, false, false, false, false, false, false, false, false, false, false, false, false, false, false, false] rfl rfl (any_of HT_.out (by kernel_rfl)) (fun _ _ _ h => h) (Or.inl ⟨by rfl, ?_⟩) ?_ ?_
                rotate_left
                · intro w'
                  go_simp
                  with_reducible rfl
                rotate_left
                · simp only [Act.put, List.setIfInBounds_toArray, List.set_cons_zero, List.set_cons_succ, i64_w, i32_w]
                  rfl
                refine pure_ (i := 16) (N := some 51) (v := ?_) (a' := ?_) #[true, true, true, true, true, true, true, true, true, true, true, true, true, true, true, true, true, false, false, false, false, false, false, false, false, false, false, false, false, false, false, false, false, false, false] rfl rfl (any_of HT_.out (by kernel_rfl)) (fun _ _ _ h => h) (Or.inl ⟨by rfl, ?_⟩) ?_ ?_
                rotate_left
                · intro w'
                  go_simp
                  with_reducible rfl
                rotate_left
                · simp only [Act.put, List.setIfInBounds_toArray, List.set_cons_zero, List.set_cons_succ, i64_w, i32_w]
                  rfl
                refine pure_ (i := 17) (N := some 52) (v := undef) (a' := ?_) #[true, true, true, true, true, true, true, true, true, true, true, true, true, true, true, true, true, true, false, false, false, false, false, false, false, false, false, false, false, false, false, false, false, false, false] rfl rfl (any_of HT_.out (by kernel_rfl)) (fun _ _ _ h => h) (Or.inr ⟨by rfl, rfl⟩) ?_ ?_
                rotate_left
                · simp only [Act.put, List.setIfInBounds_toArray, List.set_cons_zero, List.set_cons_succ, i64_w, i32_w]
                  rfl
                refine pure_ (i := 18) (N := some 53) (v := undef) (a' := ?_) #[true, true, true, true, true, true, true, true, true, true, true, true, true, true, true, true, true, true, true, false, false, false, false, false, false, false, false, false, false, false, false, false, false, false, false] rfl rfl (any_of HT_.out (by kernel_rfl)) (fun _ _ _ h => h) (Or.inr ⟨by rfl, rfl⟩) ?_ ?_
                rotate_left
                · simp only [Act.put, List.setIfInBounds_toArray, List.set_cons_zero, List.set_cons_succ, i64_w, i32_w]
                  rfl
                refine pure_ (i := 19) (N := some 54) (v := undef) (a' := ?_) #[true, true, true, true, true, true, true, true, true, true, true, true, true, true, true, true, true, true, true, true, false, false, false, false, false, false, false, false, false, false, false, false, false, false, false] rfl rfl (any_of HT_.out (by kernel_rfl)) (fun _ _ _ h => h) (Or.inr ⟨by rfl, rfl⟩) ?_ ?_
                rotate_left
                · simp only [Act.put, List.setIfInBounds_toArray, List.set_cons_zero, List.set_cons_succ, i64_w, i32_w]
                  rfl
                refine pure_ (i := 20) (N := some 55) (v := undef) (a' := ?_) #[true, true, true, true, true, true, true, true, true, true, true, true, true, true, true, true, true, true, true, true, true, false, false, false, false, false, false, false, false, false, false, false, false, false, false] rfl rfl (any_of HT_.out (by kernel_rfl)) (fun _ _ _ h => h) (Or.inr ⟨by rfl, rfl⟩) ?_ ?_
                rotate_left
                · simp only [Act.put, List.setIfInBounds_toArray, List.set_cons_zero, List.set_cons_succ, i64_w, i32_w]
                  rfl
                refine pure_ (i := 21) (N := some 56) (v := undef) (a' := ?_) #[true, true, true, true, true, true, true, true, true, true, true, true, true, true, true, true, true, true, true, true, true, true, false, false, false, false, false, false, false, false, false, false, false, false, false] rfl rfl (any_of HT_.out (by kernel_rfl)) (fun _ _ _ h => h) (Or.inr ⟨by rfl, rfl⟩) ?_ ?_
                rotate_left
                · simp only [Act.put, List.setIfInBounds_toArray, List.set_cons_zero, List.set_cons_succ, i64_w, i32_w]
                  rfl
                refine pure_ (i := 22) (N := some 57) (v := undef) (a' := ?_) #[true, true, true, true, true, true, true, true, true, true, true, true, true, true, true, true, true, true, true, true, true, true, true, false, false, false, false, false, false, false, false, false, false, false, false] rfl rfl (any_of HT_.out (by kernel_rfl)) (fun _ _ _ h => h) (Or.inr ⟨by rfl, rfl⟩) ?_ ?_
                rotate_left
                · simp only [Act.put, List.setIfInBounds_toArray, List.set_cons_zero, List.set_cons_succ, i64_w, i32_w]
                  rfl
                refine pure_ (i := 23) (N := some 58) (v := undef) (a' := ?_) #[true, true, true, true, true, true, true, true, true, true, true, true, true, true, true, true, true, true, true, true, true, true, true, true, false, false, false, false, false, false, false, false, false, false, false] rfl rfl (any_of HT_.out (by kernel_rfl)) (fun _ _ _ h => h) (Or.inr ⟨by rfl, rfl⟩) ?_ ?_
                rotate_left
                · simp only [Act.put, List.setIfInBounds_toArray, List.set_cons_zero, List.set_cons_succ, i64_w, i32_w]
                  rfl
                refine pure_ (i := 24) (N := some 59) (v := undef) (a' := ?_) #[true, true, true, true, true, true, true, true, true, true, true, true, true, true, true, true, true, true, true, true, true, true, true, true, true, false, false, false, false, false, false, false, false, false, false] rfl rfl (any_of HT_.out (by kernel_rfl)) (fun _ _ _ h => h) (Or.inr ⟨by rfl, rfl⟩) ?_ ?_
                rotate_left
                · simp only [Act.put, List.setIfInBounds_toArray, List.set_cons_zero, List.set_cons_succ, i64_w, i32_w]
                  rfl
                refine pure_ (i := 25) (N := some 60) (v := undef) (a' := ?_) #[true, true, true, true, true, true, true, true, true, true, true, true, true, true, true, true, true, true, true, true, true, true, true, true, true, true, false, false, false, false, false, false, false, false, false] rfl rfl (any_of HT_.out (by kernel_rfl)) (fun _ _ _ h => h) (Or.inr ⟨by rfl, rfl⟩) ?_ ?_
                rotate_left
                · simp only [Act.put, List.setIfInBounds_toArray, List.set_cons_zero, List.set_cons_succ, i64_w, i32_w]
                  rfl
                refine pure_ (i := 26) (N := some 61) (v := undef) (a' := ?_) #[true, true, true, true, true, true, true, true, true, true, true, true, true, true, true, true, true, true, true, true, true, true, true, true, true, true, true, false, false, false, false, false, false, false, false] rfl rfl (any_of HT_.out (by kernel_rfl)) (fun _ _ _ h => h) (Or.inr ⟨by rfl, rfl⟩) ?_ ?_
                rotate_left
                · simp only [Act.put, List.setIfInBounds_toArray, List.set_cons_zero, List.set_cons_succ, i64_w, i32_w]
                  rfl
                refine pure_ (i := 27) (N := some 62) (v := undef) (a' := ?_) #[true, true, true, true, true, true, true, true, true, true, true, true, true, true, true, true, true, true, true, true, true, true, true, true, true, true, true, true, false, false, false, false, false, false, false] rfl rfl (any_of HT_.out (by kernel_rfl)) (fun _ _ _ h => h) (Or.inr ⟨by rfl, rfl⟩) ?_ ?_
                rotate_left
                · simp only [Act.put, List.setIfInBounds_toArray, List.set_cons_zero, List.set_cons_succ, i64_w, i32_w]
                  rfl
                refine pure_ (i := 28) (N := some 63) (v := undef) (a' := ?_) #[true, true, true, true, true, true, true, true, true, true, true, true, true, true, true, true, true, true, true, true, true, true, true, true, true, true, true, true, true, false, false, false, false, false, false] rfl rfl (any_of HT_.out (by kernel_rfl)) (fun _ _ _ h => h) (Or.inr ⟨by rfl, rfl⟩) ?_ ?_
                rotate_left
                · simp only [Act.put, List.setIfInBounds_toArray, List.set_cons_zero, List.set_cons_succ, i64_w, i32_w]
                  rfl
                refine pure_ (i := 29) (N := some 64) (v := undef) (a' := ?_) #[true, true, true, true, true, true, true, true, true, true, true, true, true, true, true, true, true, true, true, true, true, true, true, true, true, true, true, true, true, true, false, false, false, false, false] rfl rfl (any_of HT_.out (by kernel_rfl)) (fun _ _ _ h => h) (Or.inr ⟨by rfl, rfl⟩) ?_ ?_
                rotate_left
                · simp only [Act.put, List.setIfInBounds_toArray, List.set_cons_zero, List.set_cons_succ, i64_w, i32_w]
                  rfl
                refine pure_ (i := 30) (N := some 65) (v := undef) (a' := ?_) #[true, true, true, true, true, true, true, true, true, true, true, true, true, true, true, true, true, true, true, true, true, true, true, true, true, true, true, true, true, true, true, false, false, false, false] rfl rfl (any_of HT_.out (by kernel_rfl)) (fun _ _ _ h => h) (Or.inr ⟨by rfl, rfl⟩) ?_ ?_
                rotate_left
                · simp only [Act.put, List.setIfInBounds_toArray, List.set_cons_zero, List.set_cons_succ, i64_w, i32_w]
                  rfl
                refine pure_ (i := 31) (N := some 66) (v := undef) (a' := ?_) #[true, true, true, true, true, true, true, true, true, true, true, true, true, true, true, true, true, true, true, true, true, true, true, true, true, true, true, true, true, true, true, true, false, false, false] rfl rfl (any_of HT_.out (by kernel_rfl)) (fun _ _ _ h => h) (Or.inr ⟨by rfl, rfl⟩) ?_ ?_
                rotate_left
                · simp only [Act.put, List.setIfInBounds_toArray, List.set_cons_zero, List.set_cons_succ, i64_w, i32_w]
                  rfl
                refine pure_ (i := 32) (N := some 67) (v := undef) (a' := ?_) #[true, true, true, true, true, true, true, true, true, true, true, true, true, true, true, true, true, true, true, true, true, true, true, true, true, true, true, true, true, true, true, true, true, false, false] rfl rfl (any_of HT_.out (by kernel_rfl)) (fun _ _ _ h => h) (Or.inr ⟨by rfl, rfl⟩) ?_ ?_
                rotate_left
                · simp only [Act.put, List.setIfInBounds_toArray, List.set_cons_zero, List.set_cons_succ, i64_w, i32_w]
                  rfl
                refine pure_ (i := 33) (N := some 68) (v := ?_) (a' := ?_) #[true, true, true, true, true, true, true, true, true, true, true, true, true, true, true, true, true, true, true, true, true, true, true, true, true, true, true, true, true, true, true, true, true, true, false] rfl rfl (any_of HT_.out (by kernel_rfl)) (fun _ _ _ h => h) (Or.inl ⟨by rfl, ?_⟩) ?_ ?_
                rotate_left
                · intro w'
                  go_simp
                  with_reducible rfl
                rotate_left
                · simp only [Act.put, List.setIfInBounds_toArray, List.set_cons_zero, List.set_cons_succ, i64_w, i32_w]
                  rfl
                refine pure_ (i := 34) (N := some 4) (v := ?_) (a' := ?_) #[true, true, true, true, true, true, true, true, true, true, true, true, true, true, true, true, true, true, true, true, true, true, true, true, true, true, true, true, true, true, true, true, true, true, true] rfl rfl (any_of HT_.out (by kernel_rfl)) (fun _ _ _ h => h) (Or.inl ⟨by rfl, ?_⟩) ?_ ?_
                rotate_left
                · intro w'
                  go_simp
                  with_reducible rfl
                rotate_left
                · simp only [Act.put, List.setIfInBounds_toArray, List.set_cons_zero, List.set_cons_succ, i64_w, i32_w]
                  rfl
                refine done_ (done_of HT_.out (by kernel_rfl)) ?_
                try go_wp2
                go_ret
                exact ⟨by first | rfl | (simp [errW_none, errW_some] <;> rfl) | (simp [*, errW_none, errW_some] <;> rfl), by repeat (first | (with_reducible first | exact HB.out | apply below_alloc | apply pw_below_drewN | apply below_drew1 | refine below_set ?_ GE477.out | refine below_set ?_ GE478.out) | exact HB.out)⟩
end Go.Proofs.YtnponnkcfgjeoaaDoor.X
end
section
namespace Go.Proofs.YtnponnkcfgjeoaaDoor.X
open Go.RowKit Go.Proofs.YtnponnkcfgjeoaaDoorW.PrintWords Go.Proofs.YtnponnkcfgjeoaaDoorW.PrintLast Go.Proofs.YtnponnkcfgjeoaaDoorW.PrintMore
attribute [local go_sem] max2_int min2_int max_two min_two max_three min_three max_four min_four
set_option linter.unusedVariables false
set_option linter.unusedSimpArgs false
def impl_standOf.f (a0_0 : Int) (a0_1 : Int) (a0_2 : Int) (a0_3 : Int) (a1_0 : Int) (a1_1 : Int) : Option (Int) := (impl_along.f a0_0 a0_1 a0_2 a0_3 a1_0 a1_1).bind fun t334 => (if t334 ≤ 0 then (some 0) else ((impl_between.f a0_0 a0_1 a0_2 a0_3).bind fun t335 => (if t334 ≥ t335 then (some 2) else (some 1))))
set_option maxHeartbeats 8000000 in
set_option maxRecDepth 100000 in
theorem impl_standOf.calls (a0_0 : Int) (a0_1 : Int) (a0_2 : Int) (a0_3 : Int) (a1_0 : Int) (a1_1 : Int) (r : Int) (w : World) (h : impl_standOf.f a0_0 a0_1 a0_2 a0_3 a1_0 a1_1 = some r) :
    Calls Tryd.prog 58 #[.agg #[.int .i64 a0_0, .int .i64 a0_1, .int .i64 a0_2, .int .i64 a0_3], .agg #[.int .i64 a1_0, .int .i64 a1_1]] w fun e w' => e = .returned (.int .i64 r) ∧ Below w.heap.size w w' := by
  have hu40 := Tryd.underlying40
  have hu38 := Tryd.underlying38
  have HB := Aside0.mk (Below.refl w.heap.size w)
  have H : ((impl_along.f a0_0 a0_1 a0_2 a0_3 a1_0 a1_1).bind fun t334 => (if t334 ≤ 0 then (some 0) else ((impl_between.f a0_0 a0_1 a0_2 a0_3).bind fun t335 => (if t334 ≥ t335 then (some 2) else (some 1))))) = some r := h
  clear h
  replace H := Option.bind_eq_some_iff.mp H
  obtain ⟨t334, A30, H⟩ := H
  replace H : (if t334 ≤ 0 then (some 0) else ((impl_between.f a0_0 a0_1 a0_2 a0_3).bind fun t335 => (if t334 ≥ t335 then (some 2) else (some 1)))) = some r := H
  have A3 := Aside0.mk A30
  clear A30
  by_cases c4 : t334 ≤ 0
  · rw [if_pos c4] at H
    have c4b0 : decide (t334 ≤ 0) = true := decide_eq_true c4
    clear c4
    obtain rfl := Option.some.inj H
    go_enter Tryd.func58, Tryd.ntmps58
    go_wp2_with (first | ((with_reducible refine gate_dst (N := 2) rfl ?_); refine box_event ?hg (N := 2) ?hd (cs := #[.int .i64 a0_0, .int .i64 a0_1, .int .i64 a0_2, .int .i64 a0_3]) (t := 40) ?hr ?_; (case hd => rfl); (case hg => rfl); (case hr => first | (go_simp; done) | (go_simp; rfl)); intro gb332 hg w5 hbox hb; have n0_ := Aside0.mk (below_step (by repeat (first | (with_reducible first | exact HB.out | apply below_alloc | apply pw_below_drewN | apply below_drew1) | exact HB.out)) hb); have n1_ := Aside0.mk (hbox); have n2_ := Aside0.mk ((by rw [hg]; exact (below_size (by repeat (first | (with_reducible first | exact HB.out | apply below_alloc | apply pw_below_drewN | apply below_drew1) | exact HB.out))) : w.heap.size ≤ gb332)); have n3_ := Aside0.mk ((by rw [hg]; exact (below_size (by repeat (first | (with_reducible first | exact HB.out | apply below_alloc | apply pw_below_drewN | apply below_drew1) | exact HB.out))) : w.heap.size ≤ gb332)); clear HB; have HB := n0_; have BK332 := n1_; have GW332 := n2_; have GE332 := n3_; clear n0_ n1_ n2_ n3_; clear hb hbox hg) | ((with_reducible refine gate_dst (N := 3) rfl ?_); refine box_event ?hg (N := 3) ?hd (cs := #[.int .i64 a1_0, .int .i64 a1_1]) (t := 38) ?hr ?_; (case hd => rfl); (case hg => rfl); (case hr => first | (go_simp; done) | (go_simp; rfl)); intro gb333 hg w6 hbox hb; have n0_ := Aside0.mk (blk_below (g := gb332) (o := .cells #[.int .i64 a0_0, .int .i64 a0_1, .int .i64 a0_2, .int .i64 a0_3] 40 (0, 0)) (by (with_reducible repeat (first | refine blk_drewN ?_ _ | refine blk_drew ?_ | refine blk_alloc ?_ _)); exact BK332.out) hb); have n1_ := Aside0.mk (below_step (by repeat (first | (with_reducible first | exact HB.out | apply below_alloc | apply pw_below_drewN | apply below_drew1 | refine below_set ?_ GE332.out) | exact HB.out)) hb); have n2_ := Aside0.mk (hbox); have n3_ := Aside0.mk ((by rw [hg]; exact (below_size (by repeat (first | (with_reducible first | exact HB.out | apply below_alloc | apply pw_below_drewN | apply below_drew1 | refine below_set ?_ GE332.out) | exact HB.out))) : w.heap.size ≤ gb333)); have n4_ := Aside0.mk ((by rw [hg]; exact (below_size (by repeat (first | (with_reducible first | exact HB.out | apply below_alloc | apply pw_below_drewN | apply below_drew1 | refine below_set ?_ GE332.out) | exact HB.out))) : w.heap.size ≤ gb333)); have n5_ := Aside0.mk ((by rw [hg]; exact Nat.ne_of_lt (blk_lt (g := gb332) (o := .cells #[.int .i64 a0_0, .int .i64 a0_1, .int .i64 a0_2, .int .i64 a0_3] 40 (0, 0)) (by (with_reducible repeat (first | refine blk_drewN ?_ _ | refine blk_drew ?_ | refine blk_alloc ?_ _)); exact BK332.out)) : gb332 ≠ gb333)); have n6_ := Aside0.mk ((by rw [hg]; exact Nat.ne_of_gt (blk_lt (g := gb332) (o := .cells #[.int .i64 a0_0, .int .i64 a0_1, .int .i64 a0_2, .int .i64 a0_3] 40 (0, 0)) (by (with_reducible repeat (first | refine blk_drewN ?_ _ | refine blk_drew ?_ | refine blk_alloc ?_ _)); exact BK332.out)) : gb333 ≠ gb332)); clear BK332; clear HB; have BK332 := n0_; have HB := n1_; have BK333 := n2_; have GW333 := n3_; have GE333 := n4_; have NB332_333 := n5_; have NB333_332 := n6_; clear n0_ n1_ n2_ n3_ n4_ n5_ n6_; clear hb hbox hg; have hnb7 := NB332_333.out; have hnc7 := NB333_332.out; have hcz8_0 : w6.cell? ⟨gb332, 0, none⟩ = some (.int .i64 a0_0) := (blk_cell BK332.out 0).trans rfl; have hcz8_1 : w6.cell? ⟨gb332, 1, none⟩ = some (.int .i64 a0_1) := (blk_cell BK332.out 1).trans rfl; have hcz8_2 : w6.cell? ⟨gb332, 2, none⟩ = some (.int .i64 a0_2) := (blk_cell BK332.out 2).trans rfl; have hcz8_3 : w6.cell? ⟨gb332, 3, none⟩ = some (.int .i64 a0_3) := (blk_cell BK332.out 3).trans rfl; have hfz8_0 := blk_frozen BK332.out 0; have hfz8_1 := blk_frozen BK332.out 1; have hfz8_2 := blk_frozen BK332.out 2; have hfz8_3 := blk_frozen BK332.out 3; have hcz9_0 : w6.cell? ⟨gb333, 0, none⟩ = some (.int .i64 a1_0) := (blk_cell BK333.out 0).trans rfl; have hcz9_1 : w6.cell? ⟨gb333, 1, none⟩ = some (.int .i64 a1_1) := (blk_cell BK333.out 1).trans rfl; have hfz9_0 := blk_frozen BK333.out 0; have hfz9_1 := blk_frozen BK333.out 1) | ((with_reducible refine gate_callee (f := 60) rfl ?_); refine goesL_ (some 11) rfl rfl Tryd.func60 (by kernel_rfl) rfl #[.agg #[.int .i64 a0_0, .int .i64 a0_1], .agg #[.int .i64 a0_2, .int .i64 a0_3], .agg #[.int .i64 a1_0, .int .i64 a1_1]] rfl (by (try simp only [List.map_toArray, List.map_cons, List.map_nil]); first | done | rfl | (simp only [List.length_drop, List.length_take]; rfl)) ?_; (with_reducible refine (impl_along.calls a0_0 a0_1 a0_2 a0_3 a1_0 a1_1 t334 _ A3.out).mono ?_); rintro e w10 ⟨rfl, hb⟩; refine ⟨_, rfl, ?_⟩; have n0_ := Aside0.mk (blk_below (g := gb332) (o := .cells #[.int .i64 a0_0, .int .i64 a0_1, .int .i64 a0_2, .int .i64 a0_3] 40 (0, 0)) (by (with_reducible repeat (first | refine blk_drewN ?_ _ | refine blk_drew ?_ | refine blk_alloc ?_ _)); exact BK332.out) hb); have n1_ := Aside0.mk (blk_below (g := gb333) (o := .cells #[.int .i64 a1_0, .int .i64 a1_1] 38 (0, 0)) (by (with_reducible repeat (first | refine blk_drewN ?_ _ | refine blk_drew ?_ | refine blk_alloc ?_ _)); exact BK333.out) hb); have n2_ := Aside0.mk (below_step (by repeat (first | (with_reducible first | exact HB.out | apply below_alloc | apply pw_below_drewN | apply below_drew1 | refine below_set ?_ GE332.out | refine below_set ?_ GE333.out) | exact HB.out)) hb); clear BK332; clear BK333; clear HB; have BK332 := n0_; have BK333 := n1_; have HB := n2_; clear n0_ n1_ n2_; (try clear hb); (try clear hb2); (try clear hk); (try clear hi)))
    go_ret
    exact ⟨by first | rfl | (simp [errW_none, errW_some] <;> rfl) | (simp [*, errW_none, errW_some] <;> rfl), by repeat (first | (with_reducible first | exact HB.out | apply below_alloc | apply pw_below_drewN | apply below_drew1 | refine below_set ?_ GE332.out | refine below_set ?_ GE333.out) | exact HB.out)⟩
  · rw [if_neg c4] at H
    have c4b0 : decide (t334 ≤ 0) = false := decide_eq_false c4
    clear c4
    replace H := Option.bind_eq_some_iff.mp H
    obtain ⟨t335, A110, H⟩ := H
    replace H : (if t334 ≥ t335 then (some 2) else (some 1)) = some r := H
    have A11 := Aside0.mk A110
    clear A110
    by_cases c12 : t334 ≥ t335
    · rw [if_pos c12] at H
      have c12b0 : decide (t335 ≤ t334) = true := decide_eq_true c12
      clear c12
      obtain rfl := Option.some.inj H
      go_enter Tryd.func58, Tryd.ntmps58
      go_wp2_with (first | ((with_reducible refine gate_dst (N := 2) rfl ?_); refine box_event ?hg (N := 2) ?hd (cs := #[.int .i64 a0_0, .int .i64 a0_1, .int .i64 a0_2, .int .i64 a0_3]) (t := 40) ?hr ?_; (case hd => rfl); (case hg => rfl); (case hr => first | (go_simp; done) | (go_simp; rfl)); intro gb332 hg w13 hbox hb; have n0_ := Aside0.mk (below_step (by repeat (first | (with_reducible first | exact HB.out | apply below_alloc | apply pw_below_drewN | apply below_drew1) | exact HB.out)) hb); have n1_ := Aside0.mk (hbox); have n2_ := Aside0.mk ((by rw [hg]; exact (below_size (by repeat (first | (with_reducible first | exact HB.out | apply below_alloc | apply pw_below_drewN | apply below_drew1) | exact HB.out))) : w.heap.size ≤ gb332)); have n3_ := Aside0.mk ((by rw [hg]; exact (below_size (by repeat (first | (with_reducible first | exact HB.out | apply below_alloc | apply pw_below_drewN | apply below_drew1) | exact HB.out))) : w.heap.size ≤ gb332)); clear HB; have HB := n0_; have BK332 := n1_; have GW332 := n2_; have GE332 := n3_; clear n0_ n1_ n2_ n3_; clear hb hbox hg) | ((with_reducible refine gate_dst (N := 3) rfl ?_); refine box_event ?hg (N := 3) ?hd (cs := #[.int .i64 a1_0, .int .i64 a1_1]) (t := 38) ?hr ?_; (case hd => rfl); (case hg => rfl); (case hr => first | (go_simp; done) | (go_simp; rfl)); intro gb333 hg w14 hbox hb; have n0_ := Aside0.mk (blk_below (g := gb332) (o := .cells #[.int .i64 a0_0, .int .i64 a0_1, .int .i64 a0_2, .int .i64 a0_3] 40 (0, 0)) (by (with_reducible repeat (first | refine blk_drewN ?_ _ | refine blk_drew ?_ | refine blk_alloc ?_ _)); exact BK332.out) hb); have n1_ := Aside0.mk (below_step (by repeat (first | (with_reducible first | exact HB.out | apply below_alloc | apply pw_below_drewN | apply below_drew1 | refine below_set ?_ GE332.out) | exact HB.out)) hb); have n2_ := Aside0.mk (hbox); have n3_ := Aside0.mk ((by rw [hg]; exact (below_size (by repeat (first | (with_reducible first | exact HB.out | apply below_alloc | apply pw_below_drewN | apply below_drew1 | refine below_set ?_ GE332.out) | exact HB.out))) : w.heap.size ≤ gb333)); have n4_ := Aside0.mk ((by rw [hg]; exact (below_size (by repeat (first | (with_reducible first | exact HB.out | apply below_alloc | apply pw_below_drewN | apply below_drew1 | refine below_set ?_ GE332.out) | exact HB.out))) : w.heap.size ≤ gb333)); have n5_ := Aside0.mk ((by rw [hg]; exact Nat.ne_of_lt (blk_lt (g := gb332) (o := .cells #[.int .i64 a0_0, .int .i64 a0_1, .int .i64 a0_2, .int .i64 a0_3] 40 (0, 0)) (by (with_reducible repeat (first | refine blk_drewN ?_ _ | refine blk_drew ?_ | refine blk_alloc ?_ _)); exact BK332.out)) : gb332 ≠ gb333)); have n6_ := Aside0.mk ((by rw [hg]; exact Nat.ne_of_gt (blk_lt (g := gb332) (o := .cells #[.int .i64 a0_0, .int .i64 a0_1, .int .i64 a0_2, .int .i64 a0_3] 40 (0, 0)) (by (with_reducible repeat (first | refine blk_drewN ?_ _ | refine blk_drew ?_ | refine blk_alloc ?_ _)); exact BK332.out)) : gb333 ≠ gb332)); clear BK332; clear HB; have BK332 := n0_; have HB := n1_; have BK333 := n2_; have GW333 := n3_; have GE333 := n4_; have NB332_333 := n5_; have NB333_332 := n6_; clear n0_ n1_ n2_ n3_ n4_ n5_ n6_; clear hb hbox hg; have hnb15 := NB332_333.out; have hnc15 := NB333_332.out; have hcz16_0 : w14.cell? ⟨gb332, 0, none⟩ = some (.int .i64 a0_0) := (blk_cell BK332.out 0).trans rfl; have hcz16_1 : w14.cell? ⟨gb332, 1, none⟩ = some (.int .i64 a0_1) := (blk_cell BK332.out 1).trans rfl; have hcz16_2 : w14.cell? ⟨gb332, 2, none⟩ = some (.int .i64 a0_2) := (blk_cell BK332.out 2).trans rfl; have hcz16_3 : w14.cell? ⟨gb332, 3, none⟩ = some (.int .i64 a0_3) := (blk_cell BK332.out 3).trans rfl; have hfz16_0 := blk_frozen BK332.out 0; have hfz16_1 := blk_frozen BK332.out 1; have hfz16_2 := blk_frozen BK332.out 2; have hfz16_3 := blk_frozen BK332.out 3; have hcz17_0 : w14.cell? ⟨gb333, 0, none⟩ = some (.int .i64 a1_0) := (blk_cell BK333.out 0).trans rfl; have hcz17_1 : w14.cell? ⟨gb333, 1, none⟩ = some (.int .i64 a1_1) := (blk_cell BK333.out 1).trans rfl; have hfz17_0 := blk_frozen BK333.out 0; have hfz17_1 := blk_frozen BK333.out 1) | ((with_reducible refine gate_callee (f := 60) rfl ?_); refine goesL_ (some 11) rfl rfl Tryd.func60 (by kernel_rfl) rfl #[.agg #[.int .i64 a0_0, .int .i64 a0_1], .agg #[.int .i64 a0_2, .int .i64 a0_3], .agg #[.int .i64 a1_0, .int .i64 a1_1]] rfl (by (try simp only [List.map_toArray, List.map_cons, List.map_nil]); first | done | rfl | (simp only [List.length_drop, List.length_take]; rfl)) ?_; (with_reducible refine (impl_along.calls a0_0 a0_1 a0_2 a0_3 a1_0 a1_1 t334 _ A3.out).mono ?_); rintro e w18 ⟨rfl, hb⟩; refine ⟨_, rfl, ?_⟩; have n0_ := Aside0.mk (blk_below (g := gb332) (o := .cells #[.int .i64 a0_0, .int .i64 a0_1, .int .i64 a0_2, .int .i64 a0_3] 40 (0, 0)) (by (with_reducible repeat (first | refine blk_drewN ?_ _ | refine blk_drew ?_ | refine blk_alloc ?_ _)); exact BK332.out) hb); have n1_ := Aside0.mk (blk_below (g := gb333) (o := .cells #[.int .i64 a1_0, .int .i64 a1_1] 38 (0, 0)) (by (with_reducible repeat (first | refine blk_drewN ?_ _ | refine blk_drew ?_ | refine blk_alloc ?_ _)); exact BK333.out) hb); have n2_ := Aside0.mk (below_step (by repeat (first | (with_reducible first | exact HB.out | apply below_alloc | apply pw_below_drewN | apply below_drew1 | refine below_set ?_ GE332.out | refine below_set ?_ GE333.out) | exact HB.out)) hb); clear BK332; clear BK333; clear HB; have BK332 := n0_; have BK333 := n1_; have HB := n2_; clear n0_ n1_ n2_; (try clear hb); (try clear hb2); (try clear hk); (try clear hi); have hcz19_0 : w18.cell? ⟨gb332, 0, none⟩ = some (.int .i64 a0_0) := (blk_cell BK332.out 0).trans rfl; have hcz19_1 : w18.cell? ⟨gb332, 1, none⟩ = some (.int .i64 a0_1) := (blk_cell BK332.out 1).trans rfl; have hcz19_2 : w18.cell? ⟨gb332, 2, none⟩ = some (.int .i64 a0_2) := (blk_cell BK332.out 2).trans rfl; have hcz19_3 : w18.cell? ⟨gb332, 3, none⟩ = some (.int .i64 a0_3) := (blk_cell BK332.out 3).trans rfl; have hfz19_0 := blk_frozen BK332.out 0; have hfz19_1 := blk_frozen BK332.out 1; have hfz19_2 := blk_frozen BK332.out 2; have hfz19_3 := blk_frozen BK332.out 3) | ((with_reducible refine gate_callee (f := 54) rfl ?_); refine goesL_ (some 21) rfl rfl Tryd.func54 (by kernel_rfl) rfl #[.agg #[.int .i64 a0_0, .int .i64 a0_1], .agg #[.int .i64 a0_2, .int .i64 a0_3]] rfl (by (try simp only [List.map_toArray, List.map_cons, List.map_nil]); first | done | rfl | (simp only [List.length_drop, List.length_take]; rfl)) ?_; (with_reducible refine (impl_between.calls a0_0 a0_1 a0_2 a0_3 t335 _ A11.out).mono ?_); rintro e w20 ⟨rfl, hb⟩; refine ⟨_, rfl, ?_⟩; have n0_ := Aside0.mk (blk_below (g := gb332) (o := .cells #[.int .i64 a0_0, .int .i64 a0_1, .int .i64 a0_2, .int .i64 a0_3] 40 (0, 0)) (by (with_reducible repeat (first | refine blk_drewN ?_ _ | refine blk_drew ?_ | refine blk_alloc ?_ _)); exact BK332.out) hb); have n1_ := Aside0.mk (blk_below (g := gb333) (o := .cells #[.int .i64 a1_0, .int .i64 a1_1] 38 (0, 0)) (by (with_reducible repeat (first | refine blk_drewN ?_ _ | refine blk_drew ?_ | refine blk_alloc ?_ _)); exact BK333.out) hb); have n2_ := Aside0.mk (below_step (by repeat (first | (with_reducible first | exact HB.out | apply below_alloc | apply pw_below_drewN | apply below_drew1 | refine below_set ?_ GE332.out | refine below_set ?_ GE333.out) | exact HB.out)) hb); clear BK332; clear BK333; clear HB; have BK332 := n0_; have BK333 := n1_; have HB := n2_; clear n0_ n1_ n2_; (try clear hb); (try clear hb2); (try clear hk); (try clear hi)))
      go_ret
      exact ⟨by first | rfl | (simp [errW_none, errW_some] <;> rfl) | (simp [*, errW_none, errW_some] <;> rfl), by repeat (first | (with_reducible first | exact HB.out | apply below_alloc | apply pw_below_drewN | apply below_drew1 | refine below_set ?_ GE332.out | refine below_set ?_ GE333.out) | exact HB.out)⟩
    · rw [if_neg c12] at H
      have c12b0 : decide (t335 ≤ t334) = false := decide_eq_false c12
      clear c12
      obtain rfl := Option.some.inj H
      go_enter Tryd.func58, Tryd.ntmps58
      go_wp2_with (first | ((with_reducible refine gate_dst (N := 2) rfl ?_); refine box_event ?hg (N := 2) ?hd (cs := #[.int .i64 a0_0, .int .i64 a0_1, .int .i64 a0_2, .int .i64 a0_3]) (t := 40) ?hr ?_; (case hd => rfl); (case hg => rfl); (case hr => first | (go_simp; done) | (go_simp; rfl)); intro gb332 hg w21 hbox hb; have n0_ := Aside0.mk (below_step (by repeat (first | (with_reducible first | exact HB.out | apply below_alloc | apply pw_below_drewN | apply below_drew1) | exact HB.out)) hb); have n1_ := Aside0.mk (hbox); have n2_ := Aside0.mk ((by rw [hg]; exact (below_size (by repeat (first | (with_reducible first | exact HB.out | apply below_alloc | apply pw_below_drewN | apply below_drew1) | exact HB.out))) : w.heap.size ≤ gb332)); have n3_ := Aside0.mk ((by rw [hg]; exact (below_size (by repeat (first | (with_reducible first | exact HB.out | apply below_alloc | apply pw_below_drewN | apply below_drew1) | exact HB.out))) : w.heap.size ≤ gb332)); clear HB; have HB := n0_; have BK332 := n1_; have GW332 := n2_; have GE332 := n3_; clear n0_ n1_ n2_ n3_; clear hb hbox hg) | ((with_reducible refine gate_dst (N := 3) rfl ?_); refine box_event ?hg (N := 3) ?hd (cs := #[.int .i64 a1_0, .int .i64 a1_1]) (t := 38) ?hr ?_; (case hd => rfl); (case hg => rfl); (case hr => first | (go_simp; done) | (go_simp; rfl)); intro gb333 hg w22 hbox hb; have n0_ := Aside0.mk (blk_below (g := gb332) (o := .cells #[.int .i64 a0_0, .int .i64 a0_1, .int .i64 a0_2, .int .i64 a0_3] 40 (0, 0)) (by (with_reducible repeat (first | refine blk_drewN ?_ _ | refine blk_drew ?_ | refine blk_alloc ?_ _)); exact BK332.out) hb); have n1_ := Aside0.mk (below_step (by repeat (first | (with_reducible first | exact HB.out | apply below_alloc | apply pw_below_drewN | apply below_drew1 | refine below_set ?_ GE332.out) | exact HB.out)) hb); have n2_ := Aside0.mk (hbox); have n3_ := Aside0.mk ((by rw [hg]; exact (below_size (by repeat (first | (with_reducible first | exact HB.out | apply below_alloc | apply pw_below_drewN | apply below_drew1 | refine below_set ?_ GE332.out) | exact HB.out))) : w.heap.size ≤ gb333)); have n4_ := Aside0.mk ((by rw [hg]; exact (below_size (by repeat (first | (with_reducible first | exact HB.out | apply below_alloc | apply pw_below_drewN | apply below_drew1 | refine below_set ?_ GE332.out) | exact HB.out))) : w.heap.size ≤ gb333)); have n5_ := Aside0.mk ((by rw [hg]; exact Nat.ne_of_lt (blk_lt (g := gb332) (o := .cells #[.int .i64 a0_0, .int .i64 a0_1, .int .i64 a0_2, .int .i64 a0_3] 40 (0, 0)) (by (with_reducible repeat (first | refine blk_drewN ?_ _ | refine blk_drew ?_ | refine blk_alloc ?_ _)); exact BK332.out)) : gb332 ≠ gb333)); have n6_ := Aside0.mk ((by rw [hg]; exact Nat.ne_of_gt (blk_lt (g := gb332) (o := .cells #[.int .i64 a0_0, .int .i64 a0_1, .int .i64 a0_2, .int .i64 a0_3] 40 (0, 0)) (by (with_reducible repeat (first | refine blk_drewN ?_ _ | refine blk_drew ?_ | refine blk_alloc ?_ _)); exact BK332.out)) : gb333 ≠ gb332)); clear BK332; clear HB; have BK332 := n0_; have HB := n1_; have BK333 := n2_; have GW333 := n3_; have GE333 := n4_; have NB332_333 := n5_; have NB333_332 := n6_; clear n0_ n1_ n2_ n3_ n4_ n5_ n6_; clear hb hbox hg; have hnb23 := NB332_333.out; have hnc23 := NB333_332.out; have hcz24_0 : w22.cell? ⟨gb332, 0, none⟩ = some (.int .i64 a0_0) := (blk_cell BK332.out 0).trans rfl; have hcz24_1 : w22.cell? ⟨gb332, 1, none⟩ = some (.int .i64 a0_1) := (blk_cell BK332.out 1).trans rfl; have hcz24_2 : w22.cell? ⟨gb332, 2, none⟩ = some (.int .i64 a0_2) := (blk_cell BK332.out 2).trans rfl; have hcz24_3 : w22.cell? ⟨gb332, 3, none⟩ = some (.int .i64 a0_3) := (blk_cell BK332.out 3).trans rfl; have hfz24_0 := blk_frozen BK332.out 0; have hfz24_1 := blk_frozen BK332.out 1; have hfz24_2 := blk_frozen BK332.out 2; have hfz24_3 := blk_frozen BK332.out 3; have hcz25_0 : w22.cell? ⟨gb333, 0, none⟩ = some (.int .i64 a1_0) := (blk_cell BK333.out 0).trans rfl; have hcz25_1 : w22.cell? ⟨gb333, 1, none⟩ = some (.int .i64 a1_1) := (blk_cell BK333.out 1).trans rfl; have hfz25_0 := blk_frozen BK333.out 0; have hfz25_1 := blk_frozen BK333.out 1) | ((with_reducible refine gate_callee (f := 60) rfl ?_); refine goesL_ (some 11) rfl rfl Tryd.func60 (by kernel_rfl) rfl #[.agg #[.int .i64 a0_0, .int .i64 a0_1], .agg #[.int .i64 a0_2, .int .i64 a0_3], .agg #[.int .i64 a1_0, .int .i64 a1_1]] rfl (by (try simp only [List.map_toArray, List.map_cons, List.map_nil]); first | done | rfl | (simp only [List.length_drop, List.length_take]; rfl)) ?_; (with_reducible refine (impl_along.calls a0_0 a0_1 a0_2 a0_3 a1_0 a1_1 t334 _ A3.out).mono ?_); rintro e w26 ⟨rfl, hb⟩; refine ⟨_, rfl, ?_⟩; have n0_ := Aside0.mk (blk_below (g := gb332) (o := .cells #[.int .i64 a0_0, .int .i64 a0_1, .int .i64 a0_2, .int .i64 a0_3] 40 (0, 0)) (by (with_reducible repeat (first | refine blk_drewN ?_ _ | refine blk_drew ?_ | refine blk_alloc ?_ _)); exact BK332.out) hb); have n1_ := Aside0.mk (blk_below (g := gb333) (o := .cells #[.int .i64 a1_0, .int .i64 a1_1] 38 (0, 0)) (by (with_reducible repeat (first | refine blk_drewN ?_ _ | refine blk_drew ?_ | refine blk_alloc ?_ _)); exact BK333.out) hb); have n2_ := Aside0.mk (below_step (by repeat (first | (with_reducible first | exact HB.out | apply below_alloc | apply pw_below_drewN | apply below_drew1 | refine below_set ?_ GE332.out | refine below_set ?_ GE333.out) | exact HB.out)) hb); clear BK332; clear BK333; clear HB; have BK332 := n0_; have BK333 := n1_; have HB := n2_; clear n0_ n1_ n2_; (try clear hb); (try clear hb2); (try clear hk); (try clear hi); have hcz27_0 : w26.cell? ⟨gb332, 0, none⟩ = some (.int .i64 a0_0) := (blk_cell BK332.out 0).trans rfl; have hcz27_1 : w26.cell? ⟨gb332, 1, none⟩ = some (.int .i64 a0_1) := (blk_cell BK332.out 1).trans rfl; have hcz27_2 : w26.cell? ⟨gb332, 2, none⟩ = some (.int .i64 a0_2) := (blk_cell BK332.out 2).trans rfl; have hcz27_3 : w26.cell? ⟨gb332, 3, none⟩ = some (.int .i64 a0_3) := (blk_cell BK332.out 3).trans rfl; have hfz27_0 := blk_frozen BK332.out 0; have hfz27_1 := blk_frozen BK332.out 1; have hfz27_2 := blk_frozen BK332.out 2; have hfz27_3 := blk_frozen BK332.out 3) | ((with_reducible refine gate_callee (f := 54) rfl ?_); refine goesL_ (some 21) rfl rfl Tryd.func54 (by kernel_rfl) rfl #[.agg #[.int .i64 a0_0, .int .i64 a0_1], .agg #[.int .i64 a0_2, .int .i64 a0_3]] rfl (by (try simp only [List.map_toArray, List.map_cons, List.map_nil]); first | done | rfl | (simp only [List.length_drop, List.length_take]; rfl)) ?_; (with_reducible refine (impl_between.calls a0_0 a0_1 a0_2 a0_3 t335 _ A11.out).mono ?_); rintro e w28 ⟨rfl, hb⟩; refine ⟨_, rfl, ?_⟩; have n0_ := Aside0.mk (blk_below (g := gb332) (o := .cells #[.int .i64 a0_0, .int .i64 a0_1, .int .i64 a0_2, .int .i64 a0_3] 40 (0, 0)) (by (with_reducible repeat (first | refine blk_drewN ?_ _ | refine blk_drew ?_ | refine blk_alloc ?_ _)); exact BK332.out) hb); have n1_ := Aside0.mk (blk_below (g := gb333) (o := .cells #[.int .i64 a1_0, .int .i64 a1_1] 38 (0, 0)) (by (with_reducible repeat (first | refine blk_drewN ?_ _ | refine blk_drew ?_ | refine blk_alloc ?_ _)); exact BK333.out) hb); have n2_ := Aside0.mk (below_step (by repeat (first | (with_reducible first | exact HB.out | apply below_alloc | apply pw_below_drewN | apply below_drew1 | refine below_set ?_ GE332.out | refine below_set ?_ GE333.out) | exact HB.out)) hb); clear BK332; clear BK333; clear HB; have BK332 := n0_; have BK333 := n1_; have HB := n2_; clear n0_ n1_ n2_; (try clear hb); (try clear hb2); (try clear hk); (try clear hi)))
      go_ret
      exact ⟨by first | rfl | (simp [errW_none, errW_some] <;> rfl) | (simp [*, errW_none, errW_some] <;> rfl), by repeat (first | (with_reducible first | exact HB.out | apply below_alloc | apply pw_below_drewN | apply below_drew1 | refine below_set ?_ GE332.out | refine below_set ?_ GE333.out) | exact HB.out)⟩
end Go.Proofs.YtnponnkcfgjeoaaDoor.X
end
section
namespace Go.Proofs.YtnponnkcfgjeoaaDoor.X
open Go.RowKit Go.Proofs.YtnponnkcfgjeoaaDoorW.PrintWords Go.Proofs.YtnponnkcfgjeoaaDoorW.PrintLast Go.Proofs.YtnponnkcfgjeoaaDoorW.PrintMore
attribute [local go_sem] max2_int min2_int max_two min_two max_three min_three max_four min_four
set_option linter.unusedVariables false
set_option linter.unusedSimpArgs false
def impl_FracOf.f (k : Nat) (a0 : Int) (a1 : Int) : Option (Int × Int × Bool) := if a0 < 0 then (some (0, 0, false)) else (if a0 > 99999 then (some (0, 0, false)) else (if a1 < 1 then (some (0, 0, false)) else (if a1 > 99999 then (some (0, 0, false)) else ((impl_commonDivisor.f k a0 a1).bind fun t177 => (if t177 = 0 then (none) else (some (wrap64 (Int.tdiv a0 t177), wrap64 (Int.tdiv a1 t177), true)))))))
def impl_FracOf.T4 : Bool × List (List Nat × List Nat) := (true, [([], []), ([], []), ([0, 1], [0, 1]), ([], []), ([], []), ([3, 4], [3, 4]), ([2, 5], [2, 5]), ([6, 0, 1, 2, 3, 4, 5, 6], [6]), ([7, 0, 1, 2, 3, 4, 5, 6, 7], [])])
def impl_FracOf.B4 : List Nat := [0, 0, 3, 0, 0, 24, 63, 127, 255]
theorem impl_FracOf.tab4 : rtab .any (opsOf Tryd.f21 4) = impl_FracOf.T4 := by kernel_rfl
theorem impl_FracOf.bits4 : waitsOk impl_FracOf.T4.2 impl_FracOf.B4 = true := by kernel_rfl
set_option maxHeartbeats 8000000 in
set_option maxRecDepth 100000 in
theorem impl_FracOf.calls (k : Nat) (a0 : Int) (a1 : Int) (r1 : Int) (r2 : Int) (r3 : Bool) (w : World) (h : impl_FracOf.f k a0 a1 = some (r1, r2, r3)) :
    Calls Tryd.prog 21 #[.int .i64 a0, .int .i64 a1] w fun e w' => e = .returned (.tuple #[.agg #[.int .i64 r1, .int .i64 r2], .bool r3]) ∧ Below w.heap.size w w' := by
  have hu25 := Tryd.underlying25
  have HB := Aside0.mk (Below.refl w.heap.size w)
  have H : (if a0 < 0 then (some (0, 0, false)) else (if a0 > 99999 then (some (0, 0, false)) else (if a1 < 1 then (some (0, 0, false)) else (if a1 > 99999 then (some (0, 0, false)) else ((impl_commonDivisor.f k a0 a1).bind fun t177 => (if t177 = 0 then (none) else (some (wrap64 (Int.tdiv a0 t177), wrap64 (Int.tdiv a1 t177), true)))))))) = some (r1, r2, r3) := h
  clear h
  by_cases c3 : a0 < 0
  · rw [if_pos c3] at H
    have c3b0 : decide (a0 < 0) = true := decide_eq_true c3
    clear c3
    simp only [Option.some.injEq, Prod.mk.injEq] at H
    obtain ⟨rfl, rfl, rfl⟩ := H
    go_enter Tryd.func21, Tryd.ntmps21
    go_wp2_with (first | ((with_reducible refine gate_dst (N := 4) rfl ?_); refine box_event ?hg (N := 4) ?hd (cs := #[.int .i64 0, .int .i64 0]) (t := 25) ?hr ?_; (case hd => rfl); (case hg => rfl); (case hr => first | (go_simp; done) | (go_simp; rfl)); intro gb176 hg w4 hbox hb; have n0_ := Aside0.mk (below_step (by repeat (first | (with_reducible first | exact HB.out | apply below_alloc | apply pw_below_drewN | apply below_drew1) | exact HB.out)) hb); have n1_ := Aside0.mk (hbox); have n2_ := Aside0.mk ((by rw [hg]; exact (below_size (by repeat (first | (with_reducible first | exact HB.out | apply below_alloc | apply pw_below_drewN | apply below_drew1) | exact HB.out))) : w.heap.size ≤ gb176)); have n3_ := Aside0.mk ((by rw [hg]; exact (below_size (by repeat (first | (with_reducible first | exact HB.out | apply below_alloc | apply pw_below_drewN | apply below_drew1) | exact HB.out))) : w.heap.size ≤ gb176)); clear HB; have HB := n0_; have BK176 := n1_; have GW176 := n2_; have GE176 := n3_; clear n0_ n1_ n2_ n3_; clear hb hbox hg; have hcz5_0 : w4.cell? ⟨gb176, 0, none⟩ = some (.int .i64 0) := (blk_cell BK176.out 0).trans rfl; have hcz5_1 : w4.cell? ⟨gb176, 1, none⟩ = some (.int .i64 0) := (blk_cell BK176.out 1).trans rfl; have hfz5_0 := blk_frozen BK176.out 0; have hfz5_1 := blk_frozen BK176.out 1))
    refine bodyPost_ret (results_ct rfl _ _ gb176 25 #[.int .i64 0, .int .i64 0] (0, 0) _ rfl (by (with_reducible repeat (first | refine blk_drewN ?_ _ | refine blk_drew ?_ | refine blk_alloc ?_ _)); refine blk_put (cs := #[.int .i64 0, .int .i64 0]) ?_ 1 _ rfl; (with_reducible repeat (first | refine blk_drewN ?_ _ | refine blk_drew ?_ | refine blk_alloc ?_ _)); refine blk_put (cs := #[.int .i64 0, .int .i64 0]) ?_ 0 _ rfl; (with_reducible repeat (first | refine blk_drewN ?_ _ | refine blk_drew ?_ | refine blk_alloc ?_ _)); exact BK176.out) Tryd.underlying25 rfl (by kernel_rfl)) rfl ?_
    exact ⟨by first | rfl | (simp [errW_none, errW_some] <;> rfl) | (simp [*, errW_none, errW_some] <;> rfl), by repeat (first | (with_reducible first | exact HB.out | apply below_alloc | apply pw_below_drewN | apply below_drew1 | refine below_set ?_ GE176.out) | exact HB.out)⟩
  · rw [if_neg c3] at H
    have c3b0 : decide (a0 < 0) = false := decide_eq_false c3
    clear c3
    by_cases c6 : a0 > 99999
    · rw [if_pos c6] at H
      have c6b0 : decide (99999 < a0) = true := decide_eq_true c6
      clear c6
      simp only [Option.some.injEq, Prod.mk.injEq] at H
      obtain ⟨rfl, rfl, rfl⟩ := H
      go_enter Tryd.func21, Tryd.ntmps21
      go_wp2_with (first | ((with_reducible refine gate_dst (N := 4) rfl ?_); refine box_event ?hg (N := 4) ?hd (cs := #[.int .i64 0, .int .i64 0]) (t := 25) ?hr ?_; (case hd => rfl); (case hg => rfl); (case hr => first | (go_simp; done) | (go_simp; rfl)); intro gb176 hg w7 hbox hb; have n0_ := Aside0.mk (below_step (by repeat (first | (with_reducible first | exact HB.out | apply below_alloc | apply pw_below_drewN | apply below_drew1) | exact HB.out)) hb); have n1_ := Aside0.mk (hbox); have n2_ := Aside0.mk ((by rw [hg]; exact (below_size (by repeat (first | (with_reducible first | exact HB.out | apply below_alloc | apply pw_below_drewN | apply below_drew1) | exact HB.out))) : w.heap.size ≤ gb176)); have n3_ := Aside0.mk ((by rw [hg]; exact (below_size (by repeat (first | (with_reducible first | exact HB.out | apply below_alloc | apply pw_below_drewN | apply below_drew1) | exact HB.out))) : w.heap.size ≤ gb176)); clear HB; have HB := n0_; have BK176 := n1_; have GW176 := n2_; have GE176 := n3_; clear n0_ n1_ n2_ n3_; clear hb hbox hg; have hcz8_0 : w7.cell? ⟨gb176, 0, none⟩ = some (.int .i64 0) := (blk_cell BK176.out 0).trans rfl; have hcz8_1 : w7.cell? ⟨gb176, 1, none⟩ = some (.int .i64 0) := (blk_cell BK176.out 1).trans rfl; have hfz8_0 := blk_frozen BK176.out 0; have hfz8_1 := blk_frozen BK176.out 1))
      refine bodyPost_ret (results_ct rfl _ _ gb176 25 #[.int .i64 0, .int .i64 0] (0, 0) _ rfl (by (with_reducible repeat (first | refine blk_drewN ?_ _ | refine blk_drew ?_ | refine blk_alloc ?_ _)); refine blk_put (cs := #[.int .i64 0, .int .i64 0]) ?_ 1 _ rfl; (with_reducible repeat (first | refine blk_drewN ?_ _ | refine blk_drew ?_ | refine blk_alloc ?_ _)); refine blk_put (cs := #[.int .i64 0, .int .i64 0]) ?_ 0 _ rfl; (with_reducible repeat (first | refine blk_drewN ?_ _ | refine blk_drew ?_ | refine blk_alloc ?_ _)); exact BK176.out) Tryd.underlying25 rfl (by kernel_rfl)) rfl ?_
      exact ⟨by first | rfl | (simp [errW_none, errW_some] <;> rfl) | (simp [*, errW_none, errW_some] <;> rfl), by repeat (first | (with_reducible first | exact HB.out | apply below_alloc | apply pw_below_drewN | apply below_drew1 | refine below_set ?_ GE176.out) | exact HB.out)⟩
    · rw [if_neg c6] at H
      have c6b0 : decide (99999 < a0) = false := decide_eq_false c6
      clear c6
      by_cases c9 : a1 < 1
      · rw [if_pos c9] at H
        have c9b0 : decide (a1 < 1) = true := decide_eq_true c9
        clear c9
        simp only [Option.some.injEq, Prod.mk.injEq] at H
        obtain ⟨rfl, rfl, rfl⟩ := H
        go_enter Tryd.func21, Tryd.ntmps21
        go_wp2_with (first | ((with_reducible refine gate_dst (N := 4) rfl ?_); refine box_event ?hg (N := 4) ?hd (cs := #[.int .i64 0, .int .i64 0]) (t := 25) ?hr ?_; (case hd => rfl); (case hg => rfl); (case hr => first | (go_simp; done) | (go_simp; rfl)); intro gb176 hg w10 hbox hb; have n0_ := Aside0.mk (below_step (by repeat (first | (with_reducible first | exact HB.out | apply below_alloc | apply pw_below_drewN | apply below_drew1) | exact HB.out)) hb); have n1_ := Aside0.mk (hbox); have n2_ := Aside0.mk ((by rw [hg]; exact (below_size (by repeat (first | (with_reducible first | exact HB.out | apply below_alloc | apply pw_below_drewN | apply below_drew1) | exact HB.out))) : w.heap.size ≤ gb176)); have n3_ := Aside0.mk ((by rw [hg]; exact (below_size (by repeat (first | (with_reducible first | exact HB.out | apply below_alloc | apply pw_below_drewN | apply below_drew1) | exact HB.out))) : w.heap.size ≤ gb176)); clear HB; have HB := n0_; have BK176 := n1_; have GW176 := n2_; have GE176 := n3_; clear n0_ n1_ n2_ n3_; clear hb hbox hg; have hcz11_0 : w10.cell? ⟨gb176, 0, none⟩ = some (.int .i64 0) := (blk_cell BK176.out 0).trans rfl; have hcz11_1 : w10.cell? ⟨gb176, 1, none⟩ = some (.int .i64 0) := (blk_cell BK176.out 1).trans rfl; have hfz11_0 := blk_frozen BK176.out 0; have hfz11_1 := blk_frozen BK176.out 1))
        refine bodyPost_ret (results_ct rfl _ _ gb176 25 #[.int .i64 0, .int .i64 0] (0, 0) _ rfl (by (with_reducible repeat (first | refine blk_drewN ?_ _ | refine blk_drew ?_ | refine blk_alloc ?_ _)); refine blk_put (cs := #[.int .i64 0, .int .i64 0]) ?_ 1 _ rfl; (with_reducible repeat (first | refine blk_drewN ?_ _ | refine blk_drew ?_ | refine blk_alloc ?_ _)); refine blk_put (cs := #[.int .i64 0, .int .i64 0]) ?_ 0 _ rfl; (with_reducible repeat (first | refine blk_drewN ?_ _ | refine blk_drew ?_ | refine blk_alloc ?_ _)); exact BK176.out) Tryd.underlying25 rfl (by kernel_rfl)) rfl ?_
        exact ⟨by first | rfl | (simp [errW_none, errW_some] <;> rfl) | (simp [*, errW_none, errW_some] <;> rfl), by repeat (first | (with_reducible first | exact HB.out | apply below_alloc | apply pw_below_drewN | apply below_drew1 | refine below_set ?_ GE176.out) | exact HB.out)⟩
      · rw [if_neg c9] at H
        have c9b0 : decide (a1 < 1) = false := decide_eq_false c9
        clear c9
        by_cases c12 : a1 > 99999
        · rw [if_pos c12] at H
          have c12b0 : decide (99999 < a1) = true := decide_eq_true c12
          clear c12
          simp only [Option.some.injEq, Prod.mk.injEq] at H
          obtain ⟨rfl, rfl, rfl⟩ := H
          go_enter Tryd.func21, Tryd.ntmps21
          go_wp2_with (first | ((with_reducible refine gate_dst (N := 4) rfl ?_); refine box_event ?hg (N := 4) ?hd (cs := #[.int .i64 0, .int .i64 0]) (t := 25) ?hr ?_; (case hd => rfl); (case hg => rfl); (case hr => first | (go_simp; done) | (go_simp; rfl)); intro gb176 hg w13 hbox hb; have n0_ := Aside0.mk (below_step (by repeat (first | (with_reducible first | exact HB.out | apply below_alloc | apply pw_below_drewN | apply below_drew1) | exact HB.out)) hb); have n1_ := Aside0.mk (hbox); have n2_ := Aside0.mk ((by rw [hg]; exact (below_size (by repeat (first | (with_reducible first | exact HB.out | apply below_alloc | apply pw_below_drewN | apply below_drew1) | exact HB.out))) : w.heap.size ≤ gb176)); have n3_ := Aside0.mk ((by rw [hg]; exact (below_size (by repeat (first | (with_reducible first | exact HB.out | apply below_alloc | apply pw_below_drewN | apply below_drew1) | exact HB.out))) : w.heap.size ≤ gb176)); clear HB; have HB := n0_; have BK176 := n1_; have GW176 := n2_; have GE176 := n3_; clear n0_ n1_ n2_ n3_; clear hb hbox hg; have hcz14_0 : w13.cell? ⟨gb176, 0, none⟩ = some (.int .i64 0) := (blk_cell BK176.out 0).trans rfl; have hcz14_1 : w13.cell? ⟨gb176, 1, none⟩ = some (.int .i64 0) := (blk_cell BK176.out 1).trans rfl; have hfz14_0 := blk_frozen BK176.out 0; have hfz14_1 := blk_frozen BK176.out 1))
          refine bodyPost_ret (results_ct rfl _ _ gb176 25 #[.int .i64 0, .int .i64 0] (0, 0) _ rfl (by (with_reducible repeat (first | refine blk_drewN ?_ _ | refine blk_drew ?_ | refine blk_alloc ?_ _)); refine blk_put (cs := #[.int .i64 0, .int .i64 0]) ?_ 1 _ rfl; (with_reducible repeat (first | refine blk_drewN ?_ _ | refine blk_drew ?_ | refine blk_alloc ?_ _)); refine blk_put (cs := #[.int .i64 0, .int .i64 0]) ?_ 0 _ rfl; (with_reducible repeat (first | refine blk_drewN ?_ _ | refine blk_drew ?_ | refine blk_alloc ?_ _)); exact BK176.out) Tryd.underlying25 rfl (by kernel_rfl)) rfl ?_
          exact ⟨by first | rfl | (simp [errW_none, errW_some] <;> rfl) | (simp [*, errW_none, errW_some] <;> rfl), by repeat (first | (with_reducible first | exact HB.out | apply below_alloc | apply pw_below_drewN | apply below_drew1 | refine below_set ?_ GE176.out) | exact HB.out)⟩
        · rw [if_neg c12] at H
          have c12b0 : decide (99999 < a1) = false := decide_eq_false c12
          clear c12
          replace H := Option.bind_eq_some_iff.mp H
          obtain ⟨t177, A150, H⟩ := H
          replace H : (if t177 = 0 then (none) else (some (wrap64 (Int.tdiv a0 t177), wrap64 (Int.tdiv a1 t177), true))) = some (r1, r2, r3) := H
          have A15 := Aside0.mk A150
          clear A150
          by_cases c16 : t177 = 0
          · rw [if_pos c16] at H
            exact absurd H (by simp)
          · rw [if_neg c16] at H
            have c16b0 : (t177 == 0) = false := beq_eq_false_iff_ne.mpr c16
            have c16b1 : (t177 != 0) = true := bne_iff_ne.mpr c16
            simp only [Option.some.injEq, Prod.mk.injEq] at H
            obtain ⟨rfl, rfl, rfl⟩ := H
            go_enter Tryd.func21, Tryd.ntmps21
            try go_wp2_with (first | ((with_reducible refine gate_dst (N := 4) rfl ?_); refine box_event ?hg (N := 4) ?hd (cs := #[.int .i64 0, .int .i64 0]) (t := 25) ?hr ?_; (case hd => rfl); (case hg => rfl); (case hr => first | (go_simp; done) | (go_simp; rfl)); intro gb176 hg w17 hbox hb; have n0_ := Aside0.mk (below_step (by repeat (first | (with_reducible first | exact HB.out | apply below_alloc | apply pw_below_drewN | apply below_drew1) | exact HB.out)) hb); have n1_ := Aside0.mk (hbox); have n2_ := Aside0.mk ((by rw [hg]; exact (below_size (by repeat (first | (with_reducible first | exact HB.out | apply below_alloc | apply pw_below_drewN | apply below_drew1) | exact HB.out))) : w.heap.size ≤ gb176)); have n3_ := Aside0.mk ((by rw [hg]; exact (below_size (by repeat (first | (with_reducible first | exact HB.out | apply below_alloc | apply pw_below_drewN | apply below_drew1) | exact HB.out))) : w.heap.size ≤ gb176)); clear HB; have HB := n0_; have BK176 := n1_; have GW176 := n2_; have GE176 := n3_; clear n0_ n1_ n2_ n3_; clear hb hbox hg) | ((with_reducible refine gate_callee (f := 47) rfl ?_); refine goesL_ (some 24) rfl rfl Tryd.func47 (by kernel_rfl) rfl #[.int .i64 a0, .int .i64 a1] rfl (by (try simp only [List.map_toArray, List.map_cons, List.map_nil]); first | done | rfl | (simp only [List.length_drop, List.length_take]; rfl)) ?_; (with_reducible refine (impl_commonDivisor.calls k a0 a1 t177 _ A15.out).mono ?_); rintro e w' ⟨rfl, ⟨nd, rfl⟩⟩; refine ⟨_, rfl, ?_⟩; (try (rw [drewN_self w17]; generalize hq_ : World.drewN w17 _ = w17; have n0_ : Aside0 (w17.heap[gb176]? = some (.cells #[.int .i64 0, .int .i64 0] 25 (0, 0))) := ⟨by rw [← hq_]; exact (by (with_reducible repeat (first | refine blk_drewN ?_ _ | refine blk_drew ?_ | refine blk_alloc ?_ _)); exact BK176.out)⟩; have n1_ : Aside0 (Below w.heap.size w w17) := ⟨by rw [← hq_]; exact (by repeat (first | (with_reducible first | exact HB.out | apply below_alloc | apply pw_below_drewN | apply below_drew1 | refine below_set ?_ GE176.out) | exact HB.out))⟩; clear BK176 HB hq_; have BK176 := n0_; have HB := n1_; clear n0_ n1_))))
            have n0_ := Aside0.mk (blk_drew BK176.out)
            have n1_ := Aside0.mk (below_drew1 HB.out)
            clear BK176
            clear HB
            have BK176 := n0_
            have HB := n1_
            clear n0_ n1_
            refine start_ (n := 9) (S := fun w' => True) (ds := []) #[false, false, false, false, false, false, false, false, false] (by kernel_rfl) rfl rfl trivial (fun hHeld => ?_); refine with_tabW impl_FracOf.tab4 impl_FracOf.bits4 (fun HT_ HW_ => ?_)
            generalize w17.drew = w18 at BK176 HB hHeld ⊢
            refine pure_ (i := 0) (N := some 25) (v := ?_) (a' := ?_) #[true, false, false, false, false, false, false, false, false] rfl rfl (any_of HT_.out (by kernel_rfl)) (fun _ _ _ h => h) (Or.inl ⟨by rfl, ?_⟩) ?_ ?_
            rotate_left
            · intro w'
              go_simp
              with_reducible rfl
            rotate_left
            · simp only [Act.put, List.setIfInBounds_toArray, List.set_cons_zero, List.set_cons_succ, i64_w, i32_w]
              rfl
            refine pure_ (i := 1) (N := some 26) (v := ?_) (a' := ?_) #[true, true, false, false, false, false, false, false, false] rfl rfl (any_of HT_.out (by kernel_rfl)) (fun _ _ _ h => h) (Or.inl ⟨by rfl, ?_⟩) ?_ ?_
            rotate_left
            · intro w'
              go_simp
              with_reducible rfl
            rotate_left
            · simp only [Act.put, List.setIfInBounds_toArray, List.set_cons_zero, List.set_cons_succ, i64_w, i32_w]
              rfl
            refine pure_ (i := 2) (N := some 27) (v := ?_) (a' := ?_) #[true, true, true, false, false, false, false, false, false] rfl rfl (any_of HT_.out (by kernel_rfl)) (fun _ _ _ h => h) (Or.inl ⟨by rfl, ?_⟩) ?_ ?_
            rotate_left
            · intro w'
              go_simp
              with_reducible rfl
            rotate_left
            · simp only [Act.put, List.setIfInBounds_toArray, List.set_cons_zero, List.set_cons_succ, i64_w, i32_w]
              rfl
            refine pure_ (i := 3) (N := some 28) (v := ?_) (a' := ?_) #[true, true, true, true, false, false, false, false, false] rfl rfl (any_of HT_.out (by kernel_rfl)) (fun _ _ _ h => h) (Or.inl ⟨by rfl, ?_⟩) ?_ ?_
            rotate_left
            · intro w'
              go_simp
              with_reducible rfl
            rotate_left
            · simp only [Act.put, List.setIfInBounds_toArray, List.set_cons_zero, List.set_cons_succ, i64_w, i32_w]
              rfl
            refine pure_ (i := 4) (N := some 29) (v := ?_) (a' := ?_) #[true, true, true, true, true, false, false, false, false] rfl rfl (any_of HT_.out (by kernel_rfl)) (fun _ _ _ h => h) (Or.inl ⟨by rfl, ?_⟩) ?_ ?_
            rotate_left
            · intro w'
              go_simp
              with_reducible rfl
            rotate_left
            · simp only [Act.put, List.setIfInBounds_toArray, List.set_cons_zero, List.set_cons_succ, i64_w, i32_w]
              rfl
            refine pure_ (i := 5) (N := some 30) (v := ?_) (a' := ?_) #[true, true, true, true, true, true, false, false, false] rfl rfl (any_of HT_.out (by kernel_rfl)) (fun _ _ _ h => h) (Or.inl ⟨by rfl, ?_⟩) ?_ ?_
            rotate_left
            · intro w'
              go_simp
              with_reducible rfl
            rotate_left
            · simp only [Act.put, List.setIfInBounds_toArray, List.set_cons_zero, List.set_cons_succ, i64_w, i32_w]
              rfl
            refine pure_ (i := 6) (N := some 31) (v := ?_) (a' := ?_) #[true, true, true, true, true, true, true, false, false] rfl rfl (any_of HT_.out (by kernel_rfl)) (fun _ _ _ h => h) (Or.inl ⟨by rfl, ?_⟩) ?_ ?_
            rotate_left
            · intro w'
              go_simp
              with_reducible rfl
            rotate_left
            · simp only [Act.put, List.setIfInBounds_toArray, List.set_cons_zero, List.set_cons_succ, i64_w, i32_w]
              rfl
            refine one_ (i := 7) (N := none) #[true, true, true, true, true, true, true, true, false] rfl rfl (one_of HT_.out (by kernel_rfl)) (by decide) (fun K hK => ?_)
            have hs19 : w18.cell? ⟨gb176, 0, none⟩ = some (.int .i64 0) := (blk_cell BK176.out 0).trans rfl
            have hfs19 := blk_frozen BK176.out 0
            have hs20 : w18.cell? ⟨gb176, 1, none⟩ = some (.int .i64 0) := (blk_cell BK176.out 1).trans rfl
            have hfs20 := blk_frozen BK176.out 1
            refine skip_ (w1 := ?_) (by rfl) rfl ?_ ?_
            rotate_left
            · go_simp
              rfl
            refine hK.out _ _ trivial (fun hHeld => ?_)
            clear hK K
            refine pure_ (i := 8) (N := some 5) (v := ?_) (a' := ?_) #[true, true, true, true, true, true, true, true, true] rfl rfl (any_of HT_.out (by kernel_rfl)) (fun _ _ _ h => h) (Or.inl ⟨by rfl, ?_⟩) ?_ ?_
            rotate_left
            · intro w'
              go_simp
              with_reducible rfl
            rotate_left
            · simp only [Act.put, List.setIfInBounds_toArray, List.set_cons_zero, List.set_cons_succ, i64_w, i32_w]
              rfl
            refine done_ (done_of HT_.out (by kernel_rfl)) ?_
            try go_wp2
            refine bodyPost_ret (results_ct rfl _ _ gb176 25 #[.int .i64 (wrap64 (Int.tdiv a0 t177)), .int .i64 (wrap64 (Int.tdiv a1 t177))] (0, 0) _ rfl (by (with_reducible repeat (first | refine blk_drewN ?_ _ | refine blk_drew ?_ | refine blk_alloc ?_ _)); refine blk_put (cs := #[.int .i64 (wrap64 (Int.tdiv a0 t177)), .int .i64 0]) ?_ 1 _ rfl; (with_reducible repeat (first | refine blk_drewN ?_ _ | refine blk_drew ?_ | refine blk_alloc ?_ _)); refine blk_put (cs := #[.int .i64 0, .int .i64 0]) ?_ 0 _ rfl; (with_reducible repeat (first | refine blk_drewN ?_ _ | refine blk_drew ?_ | refine blk_alloc ?_ _)); exact BK176.out) Tryd.underlying25 rfl (by kernel_rfl)) rfl ?_
            exact ⟨by first | rfl | (simp [errW_none, errW_some] <;> rfl) | (simp [*, errW_none, errW_some] <;> rfl), by repeat (first | (with_reducible first | exact HB.out | apply below_alloc | apply pw_below_drewN | apply below_drew1 | refine below_set ?_ GE176.out) | exact HB.out)⟩
end Go.Proofs.YtnponnkcfgjeoaaDoor.X
end
