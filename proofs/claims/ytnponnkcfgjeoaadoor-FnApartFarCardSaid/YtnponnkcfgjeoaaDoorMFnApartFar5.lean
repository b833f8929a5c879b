/- FnApartFar: the law returns true for every input, and each input reads behind the call as before; part 5 of 6. No condition. Merged by program out of: FSpecPtOk, FSpecSegOk, FImplSegTurn, FImplSegMeet, FImplStandOf, FImplFracOf, FSpecL2Has, FSpecL2Sign, EvSeg, FSpecL2Meet, HMeet. -/
import Derived.Test.YtnponnkcfgjeoaaDoorMFnApartFar4
section
namespace Go.Proofs.YtnponnkcfgjeoaaDoor.X
open Go.RowKit Go.Proofs.YtnponnkcfgjeoaaDoorW.PrintWords Go.Proofs.YtnponnkcfgjeoaaDoorW.PrintLast Go.Proofs.YtnponnkcfgjeoaaDoorW.PrintMore
attribute [local go_sem] max2_int min2_int max_two min_two max_three min_three max_four min_four
set_option linter.unusedVariables false
set_option linter.unusedSimpArgs false
def spec_PtOk.f (a0_0 : Int) (a0_1 : Int) : Option (Bool) := (spec_l6In.f a0_0 0 9).bind fun t337 => (if t337 = true then ((spec_l6In.f a0_1 0 9).bind fun t338 => (some t338)) else (some false))
set_option maxHeartbeats 8000000 in
set_option maxRecDepth 100000 in
theorem spec_PtOk.calls (a0_0 : Int) (a0_1 : Int) (r : Bool) (w : World) (h : spec_PtOk.f a0_0 a0_1 = some r) :
  Calls Tryd.prog 27 #[.agg #[.int .i64 a0_0, .int .i64 a0_1]] w fun e w' => e = .returned (.bool r) ∧ Below w.heap.size w w' := by
 have hu38 := Tryd.underlying38
 have HB := Aside0.mk (Below.refl w.heap.size w)
 have H : ((spec_l6In.f a0_0 0 9).bind fun t337 => (if t337 = true then ((spec_l6In.f a0_1 0 9).bind fun t338 => (some t338)) else (some false))) = some r := h
 clear h
 replace H := Option.bind_eq_some_iff.mp H
 obtain ⟨t337, A20, H⟩ := H
 replace H : (if t337 = true then ((spec_l6In.f a0_1 0 9).bind fun t338 => (some t338)) else (some false)) = some r := H
 have A2 := Aside0.mk A20
 clear A20
 by_cases c3 : t337 = true
 ·
  subst c3
  have H1 : ((spec_l6In.f a0_1 0 9).bind fun t338 => (some t338)) = some r := by rw [if_pos rfl] at H; exact H
  clear H
  have H := H1
  clear H1
  replace H := Option.bind_eq_some_iff.mp H
  obtain ⟨t338, A40, H⟩ := H
  replace H : (some t338) = some r := H
  have A4 := Aside0.mk A40
  clear A40
  obtain rfl := Option.some.inj H
  go_enter Tryd.func27, Tryd.ntmps27
  go_wp2_with (first | ((with_reducible refine gate_dst (N := 1) rfl ?_); refine box_event ?hg (N := 1) ?hd (cs := #[.int .i64 a0_0, .int .i64 a0_1]) (t := 38) ?hr ?_; (case hd => rfl); (case hg => rfl); (case hr => first | (go_simp; done) | (go_simp; rfl)); intro gb336 hg w5 hbox hb; have n0_ := Aside0.mk (below_step hB_ hb); have n1_ := Aside0.mk (hbox); have n2_ := Aside0.mk ((by rw [hg]; exact (below_size hB_) : w.heap.size ≤ gb336)); have n3_ := Aside0.mk ((by rw [hg]; exact (below_size hB_) : w.heap.size ≤ gb336)); clear HB; have HB := n0_; have BK336 := n1_; have GW336 := n2_; have GE336 := n3_; clear n0_ n1_ n2_ n3_; clear hb hbox hg; have hcz6_0 : w5.cell? ⟨gb336, 0, none⟩ = some (.int .i64 a0_0) := bc_; have hcz6_1 : w5.cell? ⟨gb336, 1, none⟩ = some (.int .i64 a0_1) := bc_; have hfz6_0 := blk_frozen BK336.out 0; have hfz6_1 := blk_frozen BK336.out 1) | ((with_reducible refine gate_callee (f := 45) rfl ?_); refine goesL_ (some 5) rfl rfl Tryd.func45 (by kernel_rfl) rfl #[.int .i64 a0_0, .int .i64 0, .int .i64 9] rfl ma_ ?_; (with_reducible refine (spec_l6In.calls a0_0 0 9 true _ A2.out).mono ?_); rintro e w' ⟨rfl, ⟨nd, rfl⟩⟩; refine ⟨_, rfl, ?_⟩) | (go_at_call 45; (with_reducible refine (spec_l6In.calls a0_1 0 9 t338 _ A4.out).mono ?_); rintro e w' ⟨rfl, ⟨nd, rfl⟩⟩))
  go_ret
  exact ⟨by first | rfl | (simp [errW_none, errW_some] <;> rfl) | (simp [*, errW_none, errW_some] <;> rfl), hB_⟩
 ·
  replace c3 := Bool.eq_false_iff.mpr c3
  subst c3
  have H1 : (some false) = some r := by rw [if_neg (show ¬ (false = true) by decide)] at H; exact H
  clear H
  have H := H1
  clear H1
  obtain rfl := Option.some.inj H
  go_enter Tryd.func27, Tryd.ntmps27
  go_wp2_with (first | ((with_reducible refine gate_dst (N := 1) rfl ?_); refine box_event ?hg (N := 1) ?hd (cs := #[.int .i64 a0_0, .int .i64 a0_1]) (t := 38) ?hr ?_; (case hd => rfl); (case hg => rfl); (case hr => first | (go_simp; done) | (go_simp; rfl)); intro gb336 hg w7 hbox hb; have n0_ := Aside0.mk (below_step hB_ hb); have n1_ := Aside0.mk (hbox); have n2_ := Aside0.mk ((by rw [hg]; exact (below_size hB_) : w.heap.size ≤ gb336)); have n3_ := Aside0.mk ((by rw [hg]; exact (below_size hB_) : w.heap.size ≤ gb336)); clear HB; have HB := n0_; have BK336 := n1_; have GW336 := n2_; have GE336 := n3_; clear n0_ n1_ n2_ n3_; clear hb hbox hg; have hcz8_0 : w7.cell? ⟨gb336, 0, none⟩ = some (.int .i64 a0_0) := bc_; have hcz8_1 : w7.cell? ⟨gb336, 1, none⟩ = some (.int .i64 a0_1) := bc_; have hfz8_0 := blk_frozen BK336.out 0; have hfz8_1 := blk_frozen BK336.out 1) | ((with_reducible refine gate_callee (f := 45) rfl ?_); refine goesL_ (some 5) rfl rfl Tryd.func45 (by kernel_rfl) rfl #[.int .i64 a0_0, .int .i64 0, .int .i64 9] rfl ma_ ?_; (with_reducible refine (spec_l6In.calls a0_0 0 9 false _ A2.out).mono ?_); rintro e w' ⟨rfl, ⟨nd, rfl⟩⟩; refine ⟨_, rfl, ?_⟩))
  go_ret
  exact ⟨by first | rfl | (simp [errW_none, errW_some] <;> rfl) | (simp [*, errW_none, errW_some] <;> rfl), hB_⟩
end Go.Proofs.YtnponnkcfgjeoaaDoor.X
end
section
namespace Go.Proofs.YtnponnkcfgjeoaaDoor.X
open Go.RowKit Go.Proofs.YtnponnkcfgjeoaaDoorW.PrintWords Go.Proofs.YtnponnkcfgjeoaaDoorW.PrintLast Go.Proofs.YtnponnkcfgjeoaaDoorW.PrintMore
attribute [local go_sem] max2_int min2_int max_two min_two max_three min_three max_four min_four
set_option linter.unusedVariables false
set_option linter.unusedSimpArgs false
attribute [local go_sem high] eqA38
def spec_SegOk.f (a0_0 : Int) (a0_1 : Int) (a0_2 : Int) (a0_3 : Int) : Option (Bool) := (spec_PtOk.f a0_0 a0_1).bind fun t340 => (if t340 = true then ((spec_PtOk.f a0_2 a0_3).bind fun t341 => (if t341 = true then (some (!(a0_0 == a0_2) || (!(a0_1 == a0_3)))) else (some false))) else (some false))
set_option maxHeartbeats 8000000 in
set_option maxRecDepth 100000 in
theorem spec_SegOk.calls (a0_0 : Int) (a0_1 : Int) (a0_2 : Int) (a0_3 : Int) (r : Bool) (w : World) (h : spec_SegOk.f a0_0 a0_1 a0_2 a0_3 = some r) :
  Calls Tryd.prog 26 #[.agg #[.int .i64 a0_0, .int .i64 a0_1, .int .i64 a0_2, .int .i64 a0_3]] w fun e w' => e = .returned (.bool r) ∧ Below w.heap.size w w' := by
 have hu40 := Tryd.underlying40
 have hu38 := Tryd.underlying38
 have HB := Aside0.mk (Below.refl w.heap.size w)
 have H : ((spec_PtOk.f a0_0 a0_1).bind fun t340 => (if t340 = true then ((spec_PtOk.f a0_2 a0_3).bind fun t341 => (if t341 = true then (some (!(a0_0 == a0_2) || (!(a0_1 == a0_3)))) else (some false))) else (some false))) = some r := h
 clear h
 replace H := Option.bind_eq_some_iff.mp H
 obtain ⟨t340, A20, H⟩ := H
 replace H : (if t340 = true then ((spec_PtOk.f a0_2 a0_3).bind fun t341 => (if t341 = true then (some (!(a0_0 == a0_2) || (!(a0_1 == a0_3)))) else (some false))) else (some false)) = some r := H
 have A2 := Aside0.mk A20
 clear A20
 by_cases c3 : t340 = true
 ·
  subst c3
  have H1 : ((spec_PtOk.f a0_2 a0_3).bind fun t341 => (if t341 = true then (some (!(a0_0 == a0_2) || (!(a0_1 == a0_3)))) else (some false))) = some r := by rw [if_pos rfl] at H; exact H
  clear H
  have H := H1
  clear H1
  replace H := Option.bind_eq_some_iff.mp H
  obtain ⟨t341, A40, H⟩ := H
  replace H : (if t341 = true then (some (!(a0_0 == a0_2) || (!(a0_1 == a0_3)))) else (some false)) = some r := H
  have A4 := Aside0.mk A40
  clear A40
  by_cases c5 : t341 = true
  ·
   subst c5
   have H1 : (some (!(a0_0 == a0_2) || (!(a0_1 == a0_3)))) = some r := by rw [if_pos rfl] at H; exact H
   clear H
   have H := H1
   clear H1
   obtain rfl := Option.some.inj H
   go_enter Tryd.func26, Tryd.ntmps26
   go_wp2_with (first | ((with_reducible refine gate_dst (N := 1) rfl ?_); refine box_event ?hg (N := 1) ?hd (cs := #[.int .i64 a0_0, .int .i64 a0_1, .int .i64 a0_2, .int .i64 a0_3]) (t := 40) ?hr ?_; (case hd => rfl); (case hg => rfl); (case hr => first | (go_simp; done) | (go_simp; rfl)); intro gb339 hg w6 hbox hb; have n0_ := Aside0.mk (below_step hB_ hb); have n1_ := Aside0.mk (hbox); have n2_ := Aside0.mk ((by rw [hg]; exact (below_size hB_) : w.heap.size ≤ gb339)); have n3_ := Aside0.mk ((by rw [hg]; exact (below_size hB_) : w.heap.size ≤ gb339)); clear HB; have HB := n0_; have BK339 := n1_; have GW339 := n2_; have GE339 := n3_; clear n0_ n1_ n2_ n3_; clear hb hbox hg; have hcz7_0 : w6.cell? ⟨gb339, 0, none⟩ = some (.int .i64 a0_0) := bc_; have hcz7_1 : w6.cell? ⟨gb339, 1, none⟩ = some (.int .i64 a0_1) := bc_; have hcz7_2 : w6.cell? ⟨gb339, 2, none⟩ = some (.int .i64 a0_2) := bc_; have hcz7_3 : w6.cell? ⟨gb339, 3, none⟩ = some (.int .i64 a0_3) := bc_; have hfz7_0 := blk_frozen BK339.out 0; have hfz7_1 := blk_frozen BK339.out 1; have hfz7_2 := blk_frozen BK339.out 2; have hfz7_3 := blk_frozen BK339.out 3) | ((with_reducible refine gate_callee (f := 27) rfl ?_); refine goesL_ (some 5) rfl rfl Tryd.func27 (by kernel_rfl) rfl #[.agg #[.int .i64 a0_0, .int .i64 a0_1]] rfl ma_ ?_; (with_reducible refine (spec_PtOk.calls a0_0 a0_1 true _ A2.out).mono ?_); rintro e w8 ⟨rfl, hb⟩; refine ⟨_, rfl, ?_⟩; have n0_ := Aside0.mk (ub_ (g := gb339) hb); have n1_ := Aside0.mk (below_step hB_ hb); clear BK339; clear HB; have BK339 := n0_; have HB := n1_; clear n0_ n1_; (try clear hb); (try clear hb2); (try clear hk); (try clear hi); have hcz9_0 : w8.cell? ⟨gb339, 0, none⟩ = some (.int .i64 a0_0) := bc_; have hcz9_1 : w8.cell? ⟨gb339, 1, none⟩ = some (.int .i64 a0_1) := bc_; have hcz9_2 : w8.cell? ⟨gb339, 2, none⟩ = some (.int .i64 a0_2) := bc_; have hcz9_3 : w8.cell? ⟨gb339, 3, none⟩ = some (.int .i64 a0_3) := bc_; have hfz9_0 := blk_frozen BK339.out 0; have hfz9_1 := blk_frozen BK339.out 1; have hfz9_2 := blk_frozen BK339.out 2; have hfz9_3 := blk_frozen BK339.out 3) | (go_at_call 27; (with_reducible refine (spec_PtOk.calls a0_2 a0_3 true _ A4.out).mono ?_); rintro e w10 ⟨rfl, hb⟩; have n0_ := Aside0.mk (ub_ (g := gb339) hb); have n1_ := Aside0.mk (below_step hB_ hb); clear BK339; clear HB; have BK339 := n0_; have HB := n1_; clear n0_ n1_; (try clear hb); (try clear hb2); (try clear hk); (try clear hi); have hcz11_0 : w10.cell? ⟨gb339, 0, none⟩ = some (.int .i64 a0_0) := bc_; have hcz11_1 : w10.cell? ⟨gb339, 1, none⟩ = some (.int .i64 a0_1) := bc_; have hcz11_2 : w10.cell? ⟨gb339, 2, none⟩ = some (.int .i64 a0_2) := bc_; have hcz11_3 : w10.cell? ⟨gb339, 3, none⟩ = some (.int .i64 a0_3) := bc_; have hfz11_0 := blk_frozen BK339.out 0; have hfz11_1 := blk_frozen BK339.out 1; have hfz11_2 := blk_frozen BK339.out 2; have hfz11_3 := blk_frozen BK339.out 3))
   go_ret
   exact ⟨by first | rfl | (simp [errW_none, errW_some] <;> rfl) | (simp [*, errW_none, errW_some] <;> rfl), hB_⟩
  ·
   replace c5 := Bool.eq_false_iff.mpr c5
   subst c5
   have H1 : (some false) = some r := by rw [if_neg (show ¬ (false = true) by decide)] at H; exact H
   clear H
   have H := H1
   clear H1
   obtain rfl := Option.some.inj H
   go_enter Tryd.func26, Tryd.ntmps26
   go_wp2_with (first | ((with_reducible refine gate_dst (N := 1) rfl ?_); refine box_event ?hg (N := 1) ?hd (cs := #[.int .i64 a0_0, .int .i64 a0_1, .int .i64 a0_2, .int .i64 a0_3]) (t := 40) ?hr ?_; (case hd => rfl); (case hg => rfl); (case hr => first | (go_simp; done) | (go_simp; rfl)); intro gb339 hg w12 hbox hb; have n0_ := Aside0.mk (below_step hB_ hb); have n1_ := Aside0.mk (hbox); have n2_ := Aside0.mk ((by rw [hg]; exact (below_size hB_) : w.heap.size ≤ gb339)); have n3_ := Aside0.mk ((by rw [hg]; exact (below_size hB_) : w.heap.size ≤ gb339)); clear HB; have HB := n0_; have BK339 := n1_; have GW339 := n2_; have GE339 := n3_; clear n0_ n1_ n2_ n3_; clear hb hbox hg; have hcz13_0 : w12.cell? ⟨gb339, 0, none⟩ = some (.int .i64 a0_0) := bc_; have hcz13_1 : w12.cell? ⟨gb339, 1, none⟩ = some (.int .i64 a0_1) := bc_; have hcz13_2 : w12.cell? ⟨gb339, 2, none⟩ = some (.int .i64 a0_2) := bc_; have hcz13_3 : w12.cell? ⟨gb339, 3, none⟩ = some (.int .i64 a0_3) := bc_; have hfz13_0 := blk_frozen BK339.out 0; have hfz13_1 := blk_frozen BK339.out 1; have hfz13_2 := blk_frozen BK339.out 2; have hfz13_3 := blk_frozen BK339.out 3) | ((with_reducible refine gate_callee (f := 27) rfl ?_); refine goesL_ (some 5) rfl rfl Tryd.func27 (by kernel_rfl) rfl #[.agg #[.int .i64 a0_0, .int .i64 a0_1]] rfl ma_ ?_; (with_reducible refine (spec_PtOk.calls a0_0 a0_1 true _ A2.out).mono ?_); rintro e w14 ⟨rfl, hb⟩; refine ⟨_, rfl, ?_⟩; have n0_ := Aside0.mk (ub_ (g := gb339) hb); have n1_ := Aside0.mk (below_step hB_ hb); clear BK339; clear HB; have BK339 := n0_; have HB := n1_; clear n0_ n1_; (try clear hb); (try clear hb2); (try clear hk); (try clear hi); have hcz15_0 : w14.cell? ⟨gb339, 0, none⟩ = some (.int .i64 a0_0) := bc_; have hcz15_1 : w14.cell? ⟨gb339, 1, none⟩ = some (.int .i64 a0_1) := bc_; have hcz15_2 : w14.cell? ⟨gb339, 2, none⟩ = some (.int .i64 a0_2) := bc_; have hcz15_3 : w14.cell? ⟨gb339, 3, none⟩ = some (.int .i64 a0_3) := bc_; have hfz15_0 := blk_frozen BK339.out 0; have hfz15_1 := blk_frozen BK339.out 1; have hfz15_2 := blk_frozen BK339.out 2; have hfz15_3 := blk_frozen BK339.out 3) | (go_at_call 27; (with_reducible refine (spec_PtOk.calls a0_2 a0_3 false _ A4.out).mono ?_); rintro e w16 ⟨rfl, hb⟩; have n0_ := Aside0.mk (ub_ (g := gb339) hb); have n1_ := Aside0.mk (below_step hB_ hb); clear BK339; clear HB; have BK339 := n0_; have HB := n1_; clear n0_ n1_; (try clear hb); (try clear hb2); (try clear hk); (try clear hi)))
   go_ret
   exact ⟨by first | rfl | (simp [errW_none, errW_some] <;> rfl) | (simp [*, errW_none, errW_some] <;> rfl), hB_⟩
 ·
  replace c3 := Bool.eq_false_iff.mpr c3
  subst c3
  have H1 : (some false) = some r := by rw [if_neg (show ¬ (false = true) by decide)] at H; exact H
  clear H
  have H := H1
  clear H1
  obtain rfl := Option.some.inj H
  go_enter Tryd.func26, Tryd.ntmps26
  go_wp2_with (first | ((with_reducible refine gate_dst (N := 1) rfl ?_); refine box_event ?hg (N := 1) ?hd (cs := #[.int .i64 a0_0, .int .i64 a0_1, .int .i64 a0_2, .int .i64 a0_3]) (t := 40) ?hr ?_; (case hd => rfl); (case hg => rfl); (case hr => first | (go_simp; done) | (go_simp; rfl)); intro gb339 hg w17 hbox hb; have n0_ := Aside0.mk (below_step hB_ hb); have n1_ := Aside0.mk (hbox); have n2_ := Aside0.mk ((by rw [hg]; exact (below_size hB_) : w.heap.size ≤ gb339)); have n3_ := Aside0.mk ((by rw [hg]; exact (below_size hB_) : w.heap.size ≤ gb339)); clear HB; have HB := n0_; have BK339 := n1_; have GW339 := n2_; have GE339 := n3_; clear n0_ n1_ n2_ n3_; clear hb hbox hg; have hcz18_0 : w17.cell? ⟨gb339, 0, none⟩ = some (.int .i64 a0_0) := bc_; have hcz18_1 : w17.cell? ⟨gb339, 1, none⟩ = some (.int .i64 a0_1) := bc_; have hcz18_2 : w17.cell? ⟨gb339, 2, none⟩ = some (.int .i64 a0_2) := bc_; have hcz18_3 : w17.cell? ⟨gb339, 3, none⟩ = some (.int .i64 a0_3) := bc_; have hfz18_0 := blk_frozen BK339.out 0; have hfz18_1 := blk_frozen BK339.out 1; have hfz18_2 := blk_frozen BK339.out 2; have hfz18_3 := blk_frozen BK339.out 3) | ((with_reducible refine gate_callee (f := 27) rfl ?_); refine goesL_ (some 5) rfl rfl Tryd.func27 (by kernel_rfl) rfl #[.agg #[.int .i64 a0_0, .int .i64 a0_1]] rfl ma_ ?_; (with_reducible refine (spec_PtOk.calls a0_0 a0_1 false _ A2.out).mono ?_); rintro e w19 ⟨rfl, hb⟩; refine ⟨_, rfl, ?_⟩; have n0_ := Aside0.mk (ub_ (g := gb339) hb); have n1_ := Aside0.mk (below_step hB_ hb); clear BK339; clear HB; have BK339 := n0_; have HB := n1_; clear n0_ n1_; (try clear hb); (try clear hb2); (try clear hk); (try clear hi)))
  go_ret
  exact ⟨by first | rfl | (simp [errW_none, errW_some] <;> rfl) | (simp [*, errW_none, errW_some] <;> rfl), hB_⟩
end Go.Proofs.YtnponnkcfgjeoaaDoor.X
end
section
namespace Go.Proofs.YtnponnkcfgjeoaaDoor.X
open Go.RowKit Go.Proofs.YtnponnkcfgjeoaaDoorW.PrintWords Go.Proofs.YtnponnkcfgjeoaaDoorW.PrintLast Go.Proofs.YtnponnkcfgjeoaaDoorW.PrintMore
attribute [local go_sem] max2_int min2_int max_two min_two max_three min_three max_four min_four
set_option linter.unusedVariables false
set_option linter.unusedSimpArgs false
def impl_SegTurn.j0 : Nat → Bool → Int → Int → Int → Int → Int → Int → Option (Int)
 | 0, _, _, _, _, _, _, _ => none
 | k + 1, x20, x471000, x471001, x472000, x472001, x473000, x473001 => if x20 = true then (some 0) else ((impl_cross.f x471000 x471001 x472000 x472001 x473000 x473001).bind fun t476 => (if t476 > 0 then (some 1) else (if t476 < 0 then (some (-1)) else (some 0))))
def impl_SegTurn.f (k : Nat) (a0_0 : Int) (a0_1 : Int) (a1_0 : Int) (a1_1 : Int) (a2_0 : Int) (a2_1 : Int) : Option (Int) := (impl_PtOk.f a0_0 a0_1).bind fun t473 => (if t473 = true then ((impl_PtOk.f a1_0 a1_1).bind fun t474 => (if t474 = true then ((impl_PtOk.f a2_0 a2_1).bind fun t475 => (impl_SegTurn.j0 k (!t475) a0_0 a0_1 a1_0 a1_1 a2_0 a2_1)) else (impl_SegTurn.j0 k true a0_0 a0_1 a1_0 a1_1 a2_0 a2_1))) else (impl_SegTurn.j0 k true a0_0 a0_1 a1_0 a1_1 a2_0 a2_1))
set_option maxHeartbeats 8000000 in
set_option maxRecDepth 100000 in
theorem impl_SegTurn.calls (k : Nat) (a0_0 : Int) (a0_1 : Int) (a1_0 : Int) (a1_1 : Int) (a2_0 : Int) (a2_1 : Int) (r : Int) (w : World) (h : impl_SegTurn.f k a0_0 a0_1 a1_0 a1_1 a2_0 a2_1 = some r) :
  Calls Tryd.prog 64 #[.agg #[.int .i64 a0_0, .int .i64 a0_1], .agg #[.int .i64 a1_0, .int .i64 a1_1], .agg #[.int .i64 a2_0, .int .i64 a2_1]] w fun e w' => e = .returned (.int .i64 r) ∧ Below w.heap.size w w' := by
 have hu38 := Tryd.underlying38
 have HB := Aside0.mk (Below.refl w.heap.size w)
 have H : ((impl_PtOk.f a0_0 a0_1).bind fun t473 => (if t473 = true then ((impl_PtOk.f a1_0 a1_1).bind fun t474 => (if t474 = true then ((impl_PtOk.f a2_0 a2_1).bind fun t475 => (impl_SegTurn.j0 k (!t475) a0_0 a0_1 a1_0 a1_1 a2_0 a2_1)) else (impl_SegTurn.j0 k true a0_0 a0_1 a1_0 a1_1 a2_0 a2_1))) else (impl_SegTurn.j0 k true a0_0 a0_1 a1_0 a1_1 a2_0 a2_1))) = some r := h
 clear h
 have HC4 := Aside0.mk H
 clear H
 go_enter Tryd.func64, Tryd.ntmps64
 go_upto_region 1 with (first | ((with_reducible refine gate_dst (N := 3) rfl ?_); refine box_event ?hg (N := 3) ?hd (cs := #[.int .i64 a0_0, .int .i64 a0_1]) (t := 38) ?hr ?_; (case hd => rfl); (case hg => rfl); (case hr => first | (go_simp; done) | (go_simp; rfl)); intro gb470 hg w5 hbox hb; have n0_ := Aside0.mk (below_step hB_ hb); have n1_ := Aside0.mk (hbox); have n2_ := Aside0.mk ((by rw [hg]; exact (below_size hB_) : w.heap.size ≤ gb470)); have n3_ := Aside0.mk ((by rw [hg]; exact (below_size hB_) : w.heap.size ≤ gb470)); clear HB; have HB := n0_; have BK470 := n1_; have GW470 := n2_; have GE470 := n3_; clear n0_ n1_ n2_ n3_; clear hb hbox hg) | ((with_reducible refine gate_dst (N := 4) rfl ?_); refine box_event ?hg (N := 4) ?hd (cs := #[.int .i64 a1_0, .int .i64 a1_1]) (t := 38) ?hr ?_; (case hd => rfl); (case hg => rfl); (case hr => first | (go_simp; done) | (go_simp; rfl)); intro gb471 hg w6 hbox hb; have n0_ := Aside0.mk (ub_ (g := gb470) hb); have n1_ := Aside0.mk (below_step hB_ hb); have n2_ := Aside0.mk (hbox); have n3_ := Aside0.mk ((by rw [hg]; exact (below_size hB_) : w.heap.size ≤ gb471)); have n4_ := Aside0.mk ((by rw [hg]; exact (below_size hB_) : w.heap.size ≤ gb471)); have n5_ := Aside0.mk ((by rw [hg]; exact Nat.ne_of_lt (blk_lt (g := gb470) (o := .cells #[.int .i64 a0_0, .int .i64 a0_1] 38 (0, 0)) uq_) : gb470 ≠ gb471)); have n6_ := Aside0.mk ((by rw [hg]; exact Nat.ne_of_gt (blk_lt (g := gb470) (o := .cells #[.int .i64 a0_0, .int .i64 a0_1] 38 (0, 0)) uq_) : gb471 ≠ gb470)); clear BK470; clear HB; have BK470 := n0_; have HB := n1_; have BK471 := n2_; have GW471 := n3_; have GE471 := n4_; have NB470_471 := n5_; have NB471_470 := n6_; clear n0_ n1_ n2_ n3_ n4_ n5_ n6_; clear hb hbox hg) | ((with_reducible refine gate_dst (N := 5) rfl ?_); refine box_event ?hg (N := 5) ?hd (cs := #[.int .i64 a2_0, .int .i64 a2_1]) (t := 38) ?hr ?_; (case hd => rfl); (case hg => rfl); (case hr => first | (go_simp; done) | (go_simp; rfl)); intro gb472 hg w7 hbox hb; have n0_ := Aside0.mk (ub_ (g := gb470) hb); have n1_ := Aside0.mk (ub_ (g := gb471) hb); have n2_ := Aside0.mk (below_step hB_ hb); have n3_ := Aside0.mk (hbox); have n4_ := Aside0.mk ((by rw [hg]; exact (below_size hB_) : w.heap.size ≤ gb472)); have n5_ := Aside0.mk ((by rw [hg]; exact (below_size hB_) : w.heap.size ≤ gb472)); have n6_ := Aside0.mk ((by rw [hg]; exact Nat.ne_of_lt (blk_lt (g := gb470) (o := .cells #[.int .i64 a0_0, .int .i64 a0_1] 38 (0, 0)) uq_) : gb470 ≠ gb472)); have n7_ := Aside0.mk ((by rw [hg]; exact Nat.ne_of_gt (blk_lt (g := gb470) (o := .cells #[.int .i64 a0_0, .int .i64 a0_1] 38 (0, 0)) uq_) : gb472 ≠ gb470)); have n8_ := Aside0.mk ((by rw [hg]; exact Nat.ne_of_lt (blk_lt (g := gb471) (o := .cells #[.int .i64 a1_0, .int .i64 a1_1] 38 (0, 0)) uq_) : gb471 ≠ gb472)); have n9_ := Aside0.mk ((by rw [hg]; exact Nat.ne_of_gt (blk_lt (g := gb471) (o := .cells #[.int .i64 a1_0, .int .i64 a1_1] 38 (0, 0)) uq_) : gb472 ≠ gb471)); clear BK470; clear BK471; clear HB; have BK470 := n0_; have BK471 := n1_; have HB := n2_; have BK472 := n3_; have GW472 := n4_; have GE472 := n5_; have NB470_472 := n6_; have NB472_470 := n7_; have NB471_472 := n8_; have NB472_471 := n9_; clear n0_ n1_ n2_ n3_ n4_ n5_ n6_ n7_ n8_ n9_; clear hb hbox hg))
 (try simp only [Act.put, List.setIfInBounds_toArray, List.set_cons_zero, List.set_cons_succ])
 go_cut [20] (fun v20 wc => ∃ (kq : Nat) (x20_3 : Bool), v20 = .bool x20_3 ∧ Aside0 (impl_SegTurn.j0 kq x20_3 a0_0 a0_1 a1_0 a1_1 a2_0 a2_1 = some r) ∧ Aside0 (kq ≤ k) ∧ Aside0 (wc.heap[gb470]? = some (.cells #[.int .i64 a0_0, .int .i64 a0_1] 38 (0, 0))) ∧ Aside0 (wc.heap[gb471]? = some (.cells #[.int .i64 a1_0, .int .i64 a1_1] 38 (0, 0))) ∧ Aside0 (wc.heap[gb472]? = some (.cells #[.int .i64 a2_0, .int .i64 a2_1] 38 (0, 0))) ∧ Aside0 (Below w.heap.size w wc))
 case first =>
  have H := HC4.out
  clear HC4
  replace H := Option.bind_eq_some_iff.mp H
  obtain ⟨t473, A80, H⟩ := H
  replace H : (if t473 = true then ((impl_PtOk.f a1_0 a1_1).bind fun t474 => (if t474 = true then ((impl_PtOk.f a2_0 a2_1).bind fun t475 => (impl_SegTurn.j0 k (!t475) a0_0 a0_1 a1_0 a1_1 a2_0 a2_1)) else (impl_SegTurn.j0 k true a0_0 a0_1 a1_0 a1_1 a2_0 a2_1))) else (impl_SegTurn.j0 k true a0_0 a0_1 a1_0 a1_1 a2_0 a2_1)) = some r := H
  have A8 := Aside0.mk A80
  clear A80
  by_cases c9 : t473 = true
  ·
   subst c9
   have H1 : ((impl_PtOk.f a1_0 a1_1).bind fun t474 => (if t474 = true then ((impl_PtOk.f a2_0 a2_1).bind fun t475 => (impl_SegTurn.j0 k (!t475) a0_0 a0_1 a1_0 a1_1 a2_0 a2_1)) else (impl_SegTurn.j0 k true a0_0 a0_1 a1_0 a1_1 a2_0 a2_1))) = some r := by rw [if_pos rfl] at H; exact H
   clear H
   have H := H1
   clear H1
   replace H := Option.bind_eq_some_iff.mp H
   obtain ⟨t474, A100, H⟩ := H
   replace H : (if t474 = true then ((impl_PtOk.f a2_0 a2_1).bind fun t475 => (impl_SegTurn.j0 k (!t475) a0_0 a0_1 a1_0 a1_1 a2_0 a2_1)) else (impl_SegTurn.j0 k true a0_0 a0_1 a1_0 a1_1 a2_0 a2_1)) = some r := H
   have A10 := Aside0.mk A100
   clear A100
   by_cases c11 : t474 = true
   ·
    subst c11
    have H1 : ((impl_PtOk.f a2_0 a2_1).bind fun t475 => (impl_SegTurn.j0 k (!t475) a0_0 a0_1 a1_0 a1_1 a2_0 a2_1)) = some r := by rw [if_pos rfl] at H; exact H
    clear H
    have H := H1
    clear H1
    replace H := Option.bind_eq_some_iff.mp H
    obtain ⟨t475, A120, H⟩ := H
    replace H : (impl_SegTurn.j0 k (!t475) a0_0 a0_1 a1_0 a1_1 a2_0 a2_1) = some r := H
    have A12 := Aside0.mk A120
    clear A120
    have H' := Aside0.mk H
    clear H
    have hnb13 := NB470_471.out
    have hnc13 := NB471_470.out
    have hnb14 := NB470_472.out
    have hnc14 := NB472_470.out
    have hcz15_0 : w7.cell? ⟨gb470, 0, none⟩ = some (.int .i64 a0_0) := bc_
    have hcz15_1 : w7.cell? ⟨gb470, 1, none⟩ = some (.int .i64 a0_1) := bc_
    have hfz15_0 := blk_frozen BK470.out 0
    have hfz15_1 := blk_frozen BK470.out 1
    go_wp2_with (first | ((with_reducible refine gate_callee (f := 52) rfl ?_); refine goesL_ (some 9) rfl rfl Tryd.func52 (by kernel_rfl) rfl #[.agg #[.int .i64 a0_0, .int .i64 a0_1]] rfl ma_ ?_; (with_reducible refine (impl_PtOk.calls a0_0 a0_1 true _ A8.out).mono ?_); rintro e w16 ⟨rfl, hb⟩; refine ⟨_, rfl, ?_⟩; have n0_ := Aside0.mk (ub_ (g := gb470) hb); have n1_ := Aside0.mk (ub_ (g := gb471) hb); have n2_ := Aside0.mk (ub_ (g := gb472) hb); have n3_ := Aside0.mk (below_step hB_ hb); clear BK470; clear BK471; clear BK472; clear HB; have BK470 := n0_; have BK471 := n1_; have BK472 := n2_; have HB := n3_; clear n0_ n1_ n2_ n3_; (try clear hb); (try clear hb2); (try clear hk); (try clear hi); have hnb17 := NB471_472.out; have hnc17 := NB472_471.out; have hcz18_0 : w16.cell? ⟨gb471, 0, none⟩ = some (.int .i64 a1_0) := bc_; have hcz18_1 : w16.cell? ⟨gb471, 1, none⟩ = some (.int .i64 a1_1) := bc_; have hfz18_0 := blk_frozen BK471.out 0; have hfz18_1 := blk_frozen BK471.out 1) | (go_at_call 52; (with_reducible refine (impl_PtOk.calls a1_0 a1_1 true _ A10.out).mono ?_); rintro e w19 ⟨rfl, hb⟩; have n0_ := Aside0.mk (ub_ (g := gb470) hb); have n1_ := Aside0.mk (ub_ (g := gb471) hb); have n2_ := Aside0.mk (ub_ (g := gb472) hb); have n3_ := Aside0.mk (below_step hB_ hb); clear BK470; clear BK471; clear BK472; clear HB; have BK470 := n0_; have BK471 := n1_; have BK472 := n2_; have HB := n3_; clear n0_ n1_ n2_ n3_; (try clear hb); (try clear hb2); (try clear hk); (try clear hi); have hcz20_0 : w19.cell? ⟨gb472, 0, none⟩ = some (.int .i64 a2_0) := bc_; have hcz20_1 : w19.cell? ⟨gb472, 1, none⟩ = some (.int .i64 a2_1) := bc_; have hfz20_0 := blk_frozen BK472.out 0; have hfz20_1 := blk_frozen BK472.out 1) | (go_at_call 52; (with_reducible refine (impl_PtOk.calls a2_0 a2_1 t475 _ A12.out).mono ?_); rintro e w21 ⟨rfl, hb⟩; have n0_ := Aside0.mk (ub_ (g := gb470) hb); have n1_ := Aside0.mk (ub_ (g := gb471) hb); have n2_ := Aside0.mk (ub_ (g := gb472) hb); have n3_ := Aside0.mk (below_step hB_ hb); clear BK470; clear BK471; clear BK472; clear HB; have BK470 := n0_; have BK471 := n1_; have BK472 := n2_; have HB := n3_; clear n0_ n1_ n2_ n3_; (try clear hb); (try clear hb2); (try clear hk); (try clear hi)))
    go_meet
    case rel => exact ⟨_, (!t475), (by first | rfl | (simp; done) | (simp [*]; done)), H', ⟨by first | omega | exact Nat.le_refl _⟩, ⟨uq_⟩, ⟨uq_⟩, ⟨uq_⟩, ⟨hB_⟩⟩
   ·
    replace c11 := Bool.eq_false_iff.mpr c11
    subst c11
    have H1 : (impl_SegTurn.j0 k true a0_0 a0_1 a1_0 a1_1 a2_0 a2_1) = some r := by rw [if_neg (show ¬ (false = true) by decide)] at H; exact H
    clear H
    have H := H1
    clear H1
    have H' := Aside0.mk H
    clear H
    have hnb22 := NB470_471.out
    have hnc22 := NB471_470.out
    have hnb23 := NB470_472.out
    have hnc23 := NB472_470.out
    have hcz24_0 : w7.cell? ⟨gb470, 0, none⟩ = some (.int .i64 a0_0) := bc_
    have hcz24_1 : w7.cell? ⟨gb470, 1, none⟩ = some (.int .i64 a0_1) := bc_
    have hfz24_0 := blk_frozen BK470.out 0
    have hfz24_1 := blk_frozen BK470.out 1
    go_wp2_with (first | ((with_reducible refine gate_callee (f := 52) rfl ?_); refine goesL_ (some 9) rfl rfl Tryd.func52 (by kernel_rfl) rfl #[.agg #[.int .i64 a0_0, .int .i64 a0_1]] rfl ma_ ?_; (with_reducible refine (impl_PtOk.calls a0_0 a0_1 true _ A8.out).mono ?_); rintro e w25 ⟨rfl, hb⟩; refine ⟨_, rfl, ?_⟩; have n0_ := Aside0.mk (ub_ (g := gb470) hb); have n1_ := Aside0.mk (ub_ (g := gb471) hb); have n2_ := Aside0.mk (ub_ (g := gb472) hb); have n3_ := Aside0.mk (below_step hB_ hb); clear BK470; clear BK471; clear BK472; clear HB; have BK470 := n0_; have BK471 := n1_; have BK472 := n2_; have HB := n3_; clear n0_ n1_ n2_ n3_; (try clear hb); (try clear hb2); (try clear hk); (try clear hi); have hnb26 := NB471_472.out; have hnc26 := NB472_471.out; have hcz27_0 : w25.cell? ⟨gb471, 0, none⟩ = some (.int .i64 a1_0) := bc_; have hcz27_1 : w25.cell? ⟨gb471, 1, none⟩ = some (.int .i64 a1_1) := bc_; have hfz27_0 := blk_frozen BK471.out 0; have hfz27_1 := blk_frozen BK471.out 1) | (go_at_call 52; (with_reducible refine (impl_PtOk.calls a1_0 a1_1 false _ A10.out).mono ?_); rintro e w28 ⟨rfl, hb⟩; have n0_ := Aside0.mk (ub_ (g := gb470) hb); have n1_ := Aside0.mk (ub_ (g := gb471) hb); have n2_ := Aside0.mk (ub_ (g := gb472) hb); have n3_ := Aside0.mk (below_step hB_ hb); clear BK470; clear BK471; clear BK472; clear HB; have BK470 := n0_; have BK471 := n1_; have BK472 := n2_; have HB := n3_; clear n0_ n1_ n2_ n3_; (try clear hb); (try clear hb2); (try clear hk); (try clear hi)))
    go_meet
    case rel => exact ⟨_, (true), (by first | rfl | (simp; done) | (simp [*]; done)), H', ⟨by first | omega | exact Nat.le_refl _⟩, ⟨uq_⟩, ⟨uq_⟩, ⟨uq_⟩, ⟨hB_⟩⟩
  ·
   replace c9 := Bool.eq_false_iff.mpr c9
   subst c9
   have H1 : (impl_SegTurn.j0 k true a0_0 a0_1 a1_0 a1_1 a2_0 a2_1) = some r := by rw [if_neg (show ¬ (false = true) by decide)] at H; exact H
   clear H
   have H := H1
   clear H1
   have H' := Aside0.mk H
   clear H
   have hnb29 := NB470_471.out
   have hnc29 := NB471_470.out
   have hnb30 := NB470_472.out
   have hnc30 := NB472_470.out
   have hcz31_0 : w7.cell? ⟨gb470, 0, none⟩ = some (.int .i64 a0_0) := bc_
   have hcz31_1 : w7.cell? ⟨gb470, 1, none⟩ = some (.int .i64 a0_1) := bc_
   have hfz31_0 := blk_frozen BK470.out 0
   have hfz31_1 := blk_frozen BK470.out 1
   go_wp2_with (first | ((with_reducible refine gate_callee (f := 52) rfl ?_); refine goesL_ (some 9) rfl rfl Tryd.func52 (by kernel_rfl) rfl #[.agg #[.int .i64 a0_0, .int .i64 a0_1]] rfl ma_ ?_; (with_reducible refine (impl_PtOk.calls a0_0 a0_1 false _ A8.out).mono ?_); rintro e w32 ⟨rfl, hb⟩; refine ⟨_, rfl, ?_⟩; have n0_ := Aside0.mk (ub_ (g := gb470) hb); have n1_ := Aside0.mk (ub_ (g := gb471) hb); have n2_ := Aside0.mk (ub_ (g := gb472) hb); have n3_ := Aside0.mk (below_step hB_ hb); clear BK470; clear BK471; clear BK472; clear HB; have BK470 := n0_; have BK471 := n1_; have BK472 := n2_; have HB := n3_; clear n0_ n1_ n2_ n3_; (try clear hb); (try clear hb2); (try clear hk); (try clear hi)))
   go_meet
   case rel => exact ⟨_, (true), (by first | rfl | (simp; done) | (simp [*]; done)), H', ⟨by first | omega | exact Nat.le_refl _⟩, ⟨uq_⟩, ⟨uq_⟩, ⟨uq_⟩, ⟨hB_⟩⟩
 case rest =>
  clear HC4
  try clear c1
  try clear c2
  try clear p2
  try clear c3
  try clear c5
  try clear c6
  try clear c9
  try clear c11
  try clear c13
  try clear c14
  try clear c17
  try clear c22
  try clear c23
  try clear c26
  try clear c29
  try clear c30
  try clear hcz15_0
  try clear hcz15_1
  try clear hcz18_0
  try clear hcz18_1
  try clear hcz20_0
  try clear hcz20_1
  try clear hcz24_0
  try clear hcz24_1
  try clear hcz27_0
  try clear hcz27_1
  try clear hcz31_0
  try clear hcz31_1
  try clear hfz15_0
  try clear hfz15_1
  try clear hfz18_0
  try clear hfz18_1
  try clear hfz20_0
  try clear hfz20_1
  try clear hfz24_0
  try clear hfz24_1
  try clear hfz27_0
  try clear hfz27_1
  try clear hfz31_0
  try clear hfz31_1
  obtain ⟨kq, x20_3, rfl, HA, HJ3, BK470, BK471, BK472, HB⟩ := hcut
  cases kq with
  | zero => exact absurd HA.out (by simp [impl_SegTurn.j0])
  | succ kj3 =>
   have H := HA.out
   clear HA
   simp only [impl_SegTurn.j0] at H
   by_cases c33 : x20_3 = true
   ·
    subst c33
    have H1 : (some 0) = some r := by rw [if_pos rfl] at H; exact H
    clear H
    have H := H1
    clear H1
    obtain rfl := Option.some.inj H
    go_wp2
    go_ret
    exact ⟨by first | rfl | (simp [errW_none, errW_some] <;> rfl) | (simp [*, errW_none, errW_some] <;> rfl), hB_⟩
   ·
    replace c33 := Bool.eq_false_iff.mpr c33
    subst c33
    have H1 : ((impl_cross.f a0_0 a0_1 a1_0 a1_1 a2_0 a2_1).bind fun t476 => (if t476 > 0 then (some 1) else (if t476 < 0 then (some (-1)) else (some 0)))) = some r := by rw [if_neg (show ¬ (false = true) by decide)] at H; exact H
    clear H
    have H := H1
    clear H1
    replace H := Option.bind_eq_some_iff.mp H
    obtain ⟨t476, A340, H⟩ := H
    replace H : (if t476 > 0 then (some 1) else (if t476 < 0 then (some (-1)) else (some 0))) = some r := H
    have A34 := Aside0.mk A340
    clear A340
    by_cases c35 : t476 > 0
    ·
     rw [if_pos c35] at H
     have c35b0 : decide (0 < t476) = true := decide_eq_true c35
     clear c35
     obtain rfl := Option.some.inj H
     have hnb36 := NB470_471.out
     have hnc36 := NB471_470.out
     have hnb37 := NB470_472.out
     have hnc37 := NB472_470.out
     have hcz38_0 : wc.cell? ⟨gb470, 0, none⟩ = some (.int .i64 a0_0) := bc_
     have hcz38_1 : wc.cell? ⟨gb470, 1, none⟩ = some (.int .i64 a0_1) := bc_
     have hfz38_0 := blk_frozen BK470.out 0
     have hfz38_1 := blk_frozen BK470.out 1
     have hnb39 := NB471_472.out
     have hnc39 := NB472_471.out
     have hcz40_0 : wc.cell? ⟨gb471, 0, none⟩ = some (.int .i64 a1_0) := bc_
     have hcz40_1 : wc.cell? ⟨gb471, 1, none⟩ = some (.int .i64 a1_1) := bc_
     have hfz40_0 := blk_frozen BK471.out 0
     have hfz40_1 := blk_frozen BK471.out 1
     have hcz41_0 : wc.cell? ⟨gb472, 0, none⟩ = some (.int .i64 a2_0) := bc_
     have hcz41_1 : wc.cell? ⟨gb472, 1, none⟩ = some (.int .i64 a2_1) := bc_
     have hfz41_0 := blk_frozen BK472.out 0
     have hfz41_1 := blk_frozen BK472.out 1
     go_wp2_with (first | ((with_reducible refine gate_callee (f := 56) rfl ?_); refine goesL_ (some 24) rfl rfl Tryd.func56 (by kernel_rfl) rfl #[.agg #[.int .i64 a0_0, .int .i64 a0_1], .agg #[.int .i64 a1_0, .int .i64 a1_1], .agg #[.int .i64 a2_0, .int .i64 a2_1]] rfl ma_ ?_; (with_reducible refine (impl_cross.calls a0_0 a0_1 a1_0 a1_1 a2_0 a2_1 t476 _ A34.out).mono ?_); rintro e w42 ⟨rfl, hb⟩; refine ⟨_, rfl, ?_⟩; have n0_ := Aside0.mk (ub_ (g := gb470) hb); have n1_ := Aside0.mk (ub_ (g := gb471) hb); have n2_ := Aside0.mk (ub_ (g := gb472) hb); have n3_ := Aside0.mk (below_step hB_ hb); clear BK470; clear BK471; clear BK472; clear HB; have BK470 := n0_; have BK471 := n1_; have BK472 := n2_; have HB := n3_; clear n0_ n1_ n2_ n3_; (try clear hb); (try clear hb2); (try clear hk); (try clear hi)))
     go_ret
     exact ⟨by first | rfl | (simp [errW_none, errW_some] <;> rfl) | (simp [*, errW_none, errW_some] <;> rfl), hB_⟩
    ·
     rw [if_neg c35] at H
     have c35b0 : decide (0 < t476) = false := decide_eq_false c35
     clear c35
     by_cases c43 : t476 < 0
     ·
      rw [if_pos c43] at H
      have c43b0 : decide (t476 < 0) = true := decide_eq_true c43
      clear c43
      obtain rfl := Option.some.inj H
      have hnb44 := NB470_471.out
      have hnc44 := NB471_470.out
      have hnb45 := NB470_472.out
      have hnc45 := NB472_470.out
      have hcz46_0 : wc.cell? ⟨gb470, 0, none⟩ = some (.int .i64 a0_0) := bc_
      have hcz46_1 : wc.cell? ⟨gb470, 1, none⟩ = some (.int .i64 a0_1) := bc_
      have hfz46_0 := blk_frozen BK470.out 0
      have hfz46_1 := blk_frozen BK470.out 1
      have hnb47 := NB471_472.out
      have hnc47 := NB472_471.out
      have hcz48_0 : wc.cell? ⟨gb471, 0, none⟩ = some (.int .i64 a1_0) := bc_
      have hcz48_1 : wc.cell? ⟨gb471, 1, none⟩ = some (.int .i64 a1_1) := bc_
      have hfz48_0 := blk_frozen BK471.out 0
      have hfz48_1 := blk_frozen BK471.out 1
      have hcz49_0 : wc.cell? ⟨gb472, 0, none⟩ = some (.int .i64 a2_0) := bc_
      have hcz49_1 : wc.cell? ⟨gb472, 1, none⟩ = some (.int .i64 a2_1) := bc_
      have hfz49_0 := blk_frozen BK472.out 0
      have hfz49_1 := blk_frozen BK472.out 1
      go_wp2_with (first | ((with_reducible refine gate_callee (f := 56) rfl ?_); refine goesL_ (some 24) rfl rfl Tryd.func56 (by kernel_rfl) rfl #[.agg #[.int .i64 a0_0, .int .i64 a0_1], .agg #[.int .i64 a1_0, .int .i64 a1_1], .agg #[.int .i64 a2_0, .int .i64 a2_1]] rfl ma_ ?_; (with_reducible refine (impl_cross.calls a0_0 a0_1 a1_0 a1_1 a2_0 a2_1 t476 _ A34.out).mono ?_); rintro e w50 ⟨rfl, hb⟩; refine ⟨_, rfl, ?_⟩; have n0_ := Aside0.mk (ub_ (g := gb470) hb); have n1_ := Aside0.mk (ub_ (g := gb471) hb); have n2_ := Aside0.mk (ub_ (g := gb472) hb); have n3_ := Aside0.mk (below_step hB_ hb); clear BK470; clear BK471; clear BK472; clear HB; have BK470 := n0_; have BK471 := n1_; have BK472 := n2_; have HB := n3_; clear n0_ n1_ n2_ n3_; (try clear hb); (try clear hb2); (try clear hk); (try clear hi)))
      go_ret
      exact ⟨by first | rfl | (simp [errW_none, errW_some] <;> rfl) | (simp [*, errW_none, errW_some] <;> rfl), hB_⟩
     ·
      rw [if_neg c43] at H
      have c43b0 : decide (t476 < 0) = false := decide_eq_false c43
      clear c43
      obtain rfl := Option.some.inj H
      have hnb51 := NB470_471.out
      have hnc51 := NB471_470.out
      have hnb52 := NB470_472.out
      have hnc52 := NB472_470.out
      have hcz53_0 : wc.cell? ⟨gb470, 0, none⟩ = some (.int .i64 a0_0) := bc_
      have hcz53_1 : wc.cell? ⟨gb470, 1, none⟩ = some (.int .i64 a0_1) := bc_
      have hfz53_0 := blk_frozen BK470.out 0
      have hfz53_1 := blk_frozen BK470.out 1
      have hnb54 := NB471_472.out
      have hnc54 := NB472_471.out
      have hcz55_0 : wc.cell? ⟨gb471, 0, none⟩ = some (.int .i64 a1_0) := bc_
      have hcz55_1 : wc.cell? ⟨gb471, 1, none⟩ = some (.int .i64 a1_1) := bc_
      have hfz55_0 := blk_frozen BK471.out 0
      have hfz55_1 := blk_frozen BK471.out 1
      have hcz56_0 : wc.cell? ⟨gb472, 0, none⟩ = some (.int .i64 a2_0) := bc_
      have hcz56_1 : wc.cell? ⟨gb472, 1, none⟩ = some (.int .i64 a2_1) := bc_
      have hfz56_0 := blk_frozen BK472.out 0
      have hfz56_1 := blk_frozen BK472.out 1
      go_wp2_with (first | ((with_reducible refine gate_callee (f := 56) rfl ?_); refine goesL_ (some 24) rfl rfl Tryd.func56 (by kernel_rfl) rfl #[.agg #[.int .i64 a0_0, .int .i64 a0_1], .agg #[.int .i64 a1_0, .int .i64 a1_1], .agg #[.int .i64 a2_0, .int .i64 a2_1]] rfl ma_ ?_; (with_reducible refine (impl_cross.calls a0_0 a0_1 a1_0 a1_1 a2_0 a2_1 t476 _ A34.out).mono ?_); rintro e w57 ⟨rfl, hb⟩; refine ⟨_, rfl, ?_⟩; have n0_ := Aside0.mk (ub_ (g := gb470) hb); have n1_ := Aside0.mk (ub_ (g := gb471) hb); have n2_ := Aside0.mk (ub_ (g := gb472) hb); have n3_ := Aside0.mk (below_step hB_ hb); clear BK470; clear BK471; clear BK472; clear HB; have BK470 := n0_; have BK471 := n1_; have BK472 := n2_; have HB := n3_; clear n0_ n1_ n2_ n3_; (try clear hb); (try clear hb2); (try clear hk); (try clear hi)))
      go_ret
      exact ⟨by first | rfl | (simp [errW_none, errW_some] <;> rfl) | (simp [*, errW_none, errW_some] <;> rfl), hB_⟩
end Go.Proofs.YtnponnkcfgjeoaaDoor.X
end
section
namespace Go.Proofs.YtnponnkcfgjeoaaDoor.X
open Go.RowKit Go.Proofs.YtnponnkcfgjeoaaDoorW.PrintWords Go.Proofs.YtnponnkcfgjeoaaDoorW.PrintLast Go.Proofs.YtnponnkcfgjeoaaDoorW.PrintMore
attribute [local go_sem] max2_int min2_int max_two min_two max_three min_three max_four min_four
set_option linter.unusedVariables false
set_option linter.unusedSimpArgs false
mutual
def impl_SegMeet.j0 : Nat → Bool → Int → Int → Int → Int → Int → Int → Int → Int → Option (Bool)
 | 0, _, _, _, _, _, _, _, _, _ => none
 | k + 1, x12, x478000, x478001, x478002, x478003, x479000, x479001, x479002, x479003 => if x12 = true then (some false) else ((impl_SegHas.f k x478000 x478001 x478002 x478003 x479000 x479001).bind fun t481 => (if t481 = true then (impl_SegMeet.j1 k true x478000 x478001 x478002 x478003 x479000 x479001 x479002 x479003) else ((impl_SegHas.f k x478000 x478001 x478002 x478003 x479002 x479003).bind fun t482 => (if t482 = true then (impl_SegMeet.j1 k true x478000 x478001 x478002 x478003 x479000 x479001 x479002 x479003) else ((impl_SegHas.f k x479000 x479001 x479002 x479003 x478000 x478001).bind fun t483 => (if t483 = true then (impl_SegMeet.j1 k true x478000 x478001 x478002 x478003 x479000 x479001 x479002 x479003) else ((impl_SegHas.f k x479000 x479001 x479002 x479003 x478002 x478003).bind fun t484 => (impl_SegMeet.j1 k t484 x478000 x478001 x478002 x478003 x479000 x479001 x479002 x479003))))))))
def impl_SegMeet.j1 : Nat → Bool → Int → Int → Int → Int → Int → Int → Int → Int → Option (Bool)
 | 0, _, _, _, _, _, _, _, _, _ => none
 | k + 1, x34, x478000, x478001, x478002, x478003, x479000, x479001, x479002, x479003 => if x34 = true then (some true) else ((impl_SegTurn.f k x478000 x478001 x478002 x478003 x479000 x479001).bind fun t485 => ((impl_SegTurn.f k x478000 x478001 x478002 x478003 x479002 x479003).bind fun t486 => (if (wrap64 (t485 * t486)) < 0 then ((impl_SegTurn.f k x479000 x479001 x479002 x479003 x478000 x478001).bind fun t487 => ((impl_SegTurn.f k x479000 x479001 x479002 x479003 x478002 x478003).bind fun t488 => (some (decide ((wrap64 (t487 * t488)) < 0))))) else (some false))))
end
def impl_SegMeet.f (k : Nat) (a0_0 : Int) (a0_1 : Int) (a0_2 : Int) (a0_3 : Int) (a1_0 : Int) (a1_1 : Int) (a1_2 : Int) (a1_3 : Int) : Option (Bool) := (impl_SegOk.f a0_0 a0_1 a0_2 a0_3).bind fun t479 => (if t479 = true then ((impl_SegOk.f a1_0 a1_1 a1_2 a1_3).bind fun t480 => (impl_SegMeet.j0 k (!t480) a0_0 a0_1 a0_2 a0_3 a1_0 a1_1 a1_2 a1_3)) else (impl_SegMeet.j0 k true a0_0 a0_1 a0_2 a0_3 a1_0 a1_1 a1_2 a1_3))
def impl_SegMeet.T5 : Bool × List (List Nat × List Nat) := (true, [([], []), ([0], [0]), ([], []), ([2], [2]), ([], []), ([4], [4]), ([1, 3, 5], [1, 3, 5]), ([], []), ([7], [7]), ([], []), ([9], [9]), ([], []), ([11], [11]), ([8, 10, 12, 6], [8, 10, 12]), ([6, 13], [6, 13]), ([14], [14]), ([15, 13], [15]), ([16], [16]), ([17, 16], [16, 17]), ([16], [16]), ([19, 16], [16, 19]), ([16], [16]), ([21, 16], [16, 21]), ([18, 20, 22, 16, 16], [16, 18, 20, 22]), ([16], [16]), ([24, 16], [16, 24]), ([16], [16]), ([26, 16], [16, 26]), ([16], [16]), ([28, 16], [16, 28]), ([25, 27, 29, 23, 16], [16, 25, 27, 29]), ([23, 30, 16], [16, 23, 30]), ([31, 16], [16, 31]), ([16, 32], [16, 32]), ([33, 30, 0, 1, 2, 3, 4, 5, 6, 7, 8, 9, 10, 11, 12, 13, 14, 15, 16, 17, 18, 19, 20, 21, 22, 23, 24, 25, 26, 27, 28, 29, 30, 31, 32, 33], [33])])
def impl_SegMeet.B5 : List Nat := [0, 1, 0, 4, 0, 16, 63, 0, 128, 0, 512, 0, 2048, 8191, 16383, 32767, 65535, 131071, 262143, 131071, 655359, 131071, 2228223, 8388607, 131071, 16908287, 131071, 67239935, 131071, 268566527, 1073741823, 2147483647, 4294967295, 8589934591, 17179869183]
theorem impl_SegMeet.tab5 : rtab .any (opsOf Tryd.f37 5) = impl_SegMeet.T5 := by kernel_rfl
theorem impl_SegMeet.bits5 : waitsOk impl_SegMeet.T5.2 impl_SegMeet.B5 = true := by kernel_rfl
set_option maxHeartbeats 8000000 in
set_option maxRecDepth 100000 in
theorem impl_SegMeet.calls (k : Nat) (a0_0 : Int) (a0_1 : Int) (a0_2 : Int) (a0_3 : Int) (a1_0 : Int) (a1_1 : Int) (a1_2 : Int) (a1_3 : Int) (r : Bool) (w : World) (h : impl_SegMeet.f k a0_0 a0_1 a0_2 a0_3 a1_0 a1_1 a1_2 a1_3 = some r) :
  Calls Tryd.prog 37 #[.agg #[.int .i64 a0_0, .int .i64 a0_1, .int .i64 a0_2, .int .i64 a0_3], .agg #[.int .i64 a1_0, .int .i64 a1_1, .int .i64 a1_2, .int .i64 a1_3]] w fun e w' => e = .returned (.bool r) ∧ Below w.heap.size w w' := by
 have hu40 := Tryd.underlying40
 have hu38 := Tryd.underlying38
 have HB := Aside0.mk (Below.refl w.heap.size w)
 have H : ((impl_SegOk.f a0_0 a0_1 a0_2 a0_3).bind fun t479 => (if t479 = true then ((impl_SegOk.f a1_0 a1_1 a1_2 a1_3).bind fun t480 => (impl_SegMeet.j0 k (!t480) a0_0 a0_1 a0_2 a0_3 a1_0 a1_1 a1_2 a1_3)) else (impl_SegMeet.j0 k true a0_0 a0_1 a0_2 a0_3 a1_0 a1_1 a1_2 a1_3))) = some r := h
 clear h
 have HC3 := Aside0.mk H
 clear H
 go_enter Tryd.func37, Tryd.ntmps37
 go_upto_region 1 with (first | ((with_reducible refine gate_dst (N := 2) rfl ?_); refine box_event ?hg (N := 2) ?hd (cs := #[.int .i64 a0_0, .int .i64 a0_1, .int .i64 a0_2, .int .i64 a0_3]) (t := 40) ?hr ?_; (case hd => rfl); (case hg => rfl); (case hr => first | (go_simp; done) | (go_simp; rfl)); intro gb477 hg w4 hbox hb; have n0_ := Aside0.mk (below_step hB_ hb); have n1_ := Aside0.mk (hbox); have n2_ := Aside0.mk ((by rw [hg]; exact (below_size hB_) : w.heap.size ≤ gb477)); have n3_ := Aside0.mk ((by rw [hg]; exact (below_size hB_) : w.heap.size ≤ gb477)); clear HB; have HB := n0_; have BK477 := n1_; have GW477 := n2_; have GE477 := n3_; clear n0_ n1_ n2_ n3_; clear hb hbox hg) | ((with_reducible refine gate_dst (N := 3) rfl ?_); refine box_event ?hg (N := 3) ?hd (cs := #[.int .i64 a1_0, .int .i64 a1_1, .int .i64 a1_2, .int .i64 a1_3]) (t := 40) ?hr ?_; (case hd => rfl); (case hg => rfl); (case hr => first | (go_simp; done) | (go_simp; rfl)); intro gb478 hg w5 hbox hb; have n0_ := Aside0.mk (ub_ (g := gb477) hb); have n1_ := Aside0.mk (below_step hB_ hb); have n2_ := Aside0.mk (hbox); have n3_ := Aside0.mk ((by rw [hg]; exact (below_size hB_) : w.heap.size ≤ gb478)); have n4_ := Aside0.mk ((by rw [hg]; exact (below_size hB_) : w.heap.size ≤ gb478)); have n5_ := Aside0.mk ((by rw [hg]; exact Nat.ne_of_lt (blk_lt (g := gb477) (o := .cells #[.int .i64 a0_0, .int .i64 a0_1, .int .i64 a0_2, .int .i64 a0_3] 40 (0, 0)) uq_) : gb477 ≠ gb478)); have n6_ := Aside0.mk ((by rw [hg]; exact Nat.ne_of_gt (blk_lt (g := gb477) (o := .cells #[.int .i64 a0_0, .int .i64 a0_1, .int .i64 a0_2, .int .i64 a0_3] 40 (0, 0)) uq_) : gb478 ≠ gb477)); clear BK477; clear HB; have BK477 := n0_; have HB := n1_; have BK478 := n2_; have GW478 := n3_; have GE478 := n4_; have NB477_478 := n5_; have NB478_477 := n6_; clear n0_ n1_ n2_ n3_ n4_ n5_ n6_; clear hb hbox hg))
 (try simp only [Act.put, List.setIfInBounds_toArray, List.set_cons_zero, List.set_cons_succ])
 go_cut [12] (fun v12 wc => ∃ (kq : Nat) (x12_2 : Bool), v12 = .bool x12_2 ∧ Aside0 (impl_SegMeet.j0 kq x12_2 a0_0 a0_1 a0_2 a0_3 a1_0 a1_1 a1_2 a1_3 = some r) ∧ Aside0 (kq ≤ k) ∧ Aside0 (wc.heap[gb477]? = some (.cells #[.int .i64 a0_0, .int .i64 a0_1, .int .i64 a0_2, .int .i64 a0_3] 40 (0, 0))) ∧ Aside0 (wc.heap[gb478]? = some (.cells #[.int .i64 a1_0, .int .i64 a1_1, .int .i64 a1_2, .int .i64 a1_3] 40 (0, 0))) ∧ Aside0 (Below w.heap.size w wc))
 case first =>
  have H := HC3.out
  clear HC3
  replace H := Option.bind_eq_some_iff.mp H
  obtain ⟨t479, A60, H⟩ := H
  replace H : (if t479 = true then ((impl_SegOk.f a1_0 a1_1 a1_2 a1_3).bind fun t480 => (impl_SegMeet.j0 k (!t480) a0_0 a0_1 a0_2 a0_3 a1_0 a1_1 a1_2 a1_3)) else (impl_SegMeet.j0 k true a0_0 a0_1 a0_2 a0_3 a1_0 a1_1 a1_2 a1_3)) = some r := H
  have A6 := Aside0.mk A60
  clear A60
  by_cases c7 : t479 = true
  ·
   subst c7
   have H1 : ((impl_SegOk.f a1_0 a1_1 a1_2 a1_3).bind fun t480 => (impl_SegMeet.j0 k (!t480) a0_0 a0_1 a0_2 a0_3 a1_0 a1_1 a1_2 a1_3)) = some r := by rw [if_pos rfl] at H; exact H
   clear H
   have H := H1
   clear H1
   replace H := Option.bind_eq_some_iff.mp H
   obtain ⟨t480, A80, H⟩ := H
   replace H : (impl_SegMeet.j0 k (!t480) a0_0 a0_1 a0_2 a0_3 a1_0 a1_1 a1_2 a1_3) = some r := H
   have A8 := Aside0.mk A80
   clear A80
   have H' := Aside0.mk H
   clear H
   have hnb9 := NB477_478.out
   have hnc9 := NB478_477.out
   have hcz10_0 : w5.cell? ⟨gb477, 0, none⟩ = some (.int .i64 a0_0) := bc_
   have hcz10_1 : w5.cell? ⟨gb477, 1, none⟩ = some (.int .i64 a0_1) := bc_
   have hcz10_2 : w5.cell? ⟨gb477, 2, none⟩ = some (.int .i64 a0_2) := bc_
   have hcz10_3 : w5.cell? ⟨gb477, 3, none⟩ = some (.int .i64 a0_3) := bc_
   have hfz10_0 := blk_frozen BK477.out 0
   have hfz10_1 := blk_frozen BK477.out 1
   have hfz10_2 := blk_frozen BK477.out 2
   have hfz10_3 := blk_frozen BK477.out 3
   go_wp2_with (first | ((with_reducible refine gate_callee (f := 28) rfl ?_); refine goesL_ (some 6) rfl rfl Tryd.func28 (by kernel_rfl) rfl #[.agg #[.int .i64 a0_0, .int .i64 a0_1, .int .i64 a0_2, .int .i64 a0_3]] rfl ma_ ?_; (with_reducible refine (impl_SegOk.calls a0_0 a0_1 a0_2 a0_3 true _ A6.out).mono ?_); rintro e w11 ⟨rfl, hb⟩; refine ⟨_, rfl, ?_⟩; have n0_ := Aside0.mk (ub_ (g := gb477) hb); have n1_ := Aside0.mk (ub_ (g := gb478) hb); have n2_ := Aside0.mk (below_step hB_ hb); clear BK477; clear BK478; clear HB; have BK477 := n0_; have BK478 := n1_; have HB := n2_; clear n0_ n1_ n2_; (try clear hb); (try clear hb2); (try clear hk); (try clear hi); have hcz12_0 : w11.cell? ⟨gb478, 0, none⟩ = some (.int .i64 a1_0) := bc_; have hcz12_1 : w11.cell? ⟨gb478, 1, none⟩ = some (.int .i64 a1_1) := bc_; have hcz12_2 : w11.cell? ⟨gb478, 2, none⟩ = some (.int .i64 a1_2) := bc_; have hcz12_3 : w11.cell? ⟨gb478, 3, none⟩ = some (.int .i64 a1_3) := bc_; have hfz12_0 := blk_frozen BK478.out 0; have hfz12_1 := blk_frozen BK478.out 1; have hfz12_2 := blk_frozen BK478.out 2; have hfz12_3 := blk_frozen BK478.out 3) | (go_at_call 28; (with_reducible refine (impl_SegOk.calls a1_0 a1_1 a1_2 a1_3 t480 _ A8.out).mono ?_); rintro e w13 ⟨rfl, hb⟩; have n0_ := Aside0.mk (ub_ (g := gb477) hb); have n1_ := Aside0.mk (ub_ (g := gb478) hb); have n2_ := Aside0.mk (below_step hB_ hb); clear BK477; clear BK478; clear HB; have BK477 := n0_; have BK478 := n1_; have HB := n2_; clear n0_ n1_ n2_; (try clear hb); (try clear hb2); (try clear hk); (try clear hi)))
   go_meet
   case rel => exact ⟨_, (!t480), (by first | rfl | (simp; done) | (simp [*]; done)), H', ⟨by first | omega | exact Nat.le_refl _⟩, ⟨uq_⟩, ⟨uq_⟩, ⟨hB_⟩⟩
  ·
   replace c7 := Bool.eq_false_iff.mpr c7
   subst c7
   have H1 : (impl_SegMeet.j0 k true a0_0 a0_1 a0_2 a0_3 a1_0 a1_1 a1_2 a1_3) = some r := by rw [if_neg (show ¬ (false = true) by decide)] at H; exact H
   clear H
   have H := H1
   clear H1
   have H' := Aside0.mk H
   clear H
   have hnb14 := NB477_478.out
   have hnc14 := NB478_477.out
   have hcz15_0 : w5.cell? ⟨gb477, 0, none⟩ = some (.int .i64 a0_0) := bc_
   have hcz15_1 : w5.cell? ⟨gb477, 1, none⟩ = some (.int .i64 a0_1) := bc_
   have hcz15_2 : w5.cell? ⟨gb477, 2, none⟩ = some (.int .i64 a0_2) := bc_
   have hcz15_3 : w5.cell? ⟨gb477, 3, none⟩ = some (.int .i64 a0_3) := bc_
   have hfz15_0 := blk_frozen BK477.out 0
   have hfz15_1 := blk_frozen BK477.out 1
   have hfz15_2 := blk_frozen BK477.out 2
   have hfz15_3 := blk_frozen BK477.out 3
   go_wp2_with (first | ((with_reducible refine gate_callee (f := 28) rfl ?_); refine goesL_ (some 6) rfl rfl Tryd.func28 (by kernel_rfl) rfl #[.agg #[.int .i64 a0_0, .int .i64 a0_1, .int .i64 a0_2, .int .i64 a0_3]] rfl ma_ ?_; (with_reducible refine (impl_SegOk.calls a0_0 a0_1 a0_2 a0_3 false _ A6.out).mono ?_); rintro e w16 ⟨rfl, hb⟩; refine ⟨_, rfl, ?_⟩; have n0_ := Aside0.mk (ub_ (g := gb477) hb); have n1_ := Aside0.mk (ub_ (g := gb478) hb); have n2_ := Aside0.mk (below_step hB_ hb); clear BK477; clear BK478; clear HB; have BK477 := n0_; have BK478 := n1_; have HB := n2_; clear n0_ n1_ n2_; (try clear hb); (try clear hb2); (try clear hk); (try clear hi)))
   go_meet
   case rel => exact ⟨_, (true), (by first | rfl | (simp; done) | (simp [*]; done)), H', ⟨by first | omega | exact Nat.le_refl _⟩, ⟨uq_⟩, ⟨uq_⟩, ⟨hB_⟩⟩
 case rest =>
  clear HC3
  try clear c1
  try clear c2
  try clear p2
  try clear c3
  try clear c7
  try clear c9
  try clear c14
  try clear hcz10_0
  try clear hcz10_1
  try clear hcz10_2
  try clear hcz10_3
  try clear hcz12_0
  try clear hcz12_1
  try clear hcz12_2
  try clear hcz12_3
  try clear hcz15_0
  try clear hcz15_1
  try clear hcz15_2
  try clear hcz15_3
  try clear hfz10_0
  try clear hfz10_1
  try clear hfz10_2
  try clear hfz10_3
  try clear hfz12_0
  try clear hfz12_1
  try clear hfz12_2
  try clear hfz12_3
  try clear hfz15_0
  try clear hfz15_1
  try clear hfz15_2
  try clear hfz15_3
  obtain ⟨kq, x12_2, rfl, HA, HJ2, BK477, BK478, HB⟩ := hcut
  cases kq with
  | zero => exact absurd HA.out (by simp [impl_SegMeet.j0])
  | succ kj2 =>
   have H := HA.out
   clear HA
   simp only [impl_SegMeet.j0] at H
   by_cases c17 : x12_2 = true
   ·
    subst c17
    have H1 : (some false) = some r := by rw [if_pos rfl] at H; exact H
    clear H
    have H := H1
    clear H1
    obtain rfl := Option.some.inj H
    go_wp2
    go_ret
    exact ⟨by first | rfl | (simp [errW_none, errW_some] <;> rfl) | (simp [*, errW_none, errW_some] <;> rfl), hB_⟩
   ·
    replace c17 := Bool.eq_false_iff.mpr c17
    subst c17
    have H1 : ((impl_SegHas.f kj2 a0_0 a0_1 a0_2 a0_3 a1_0 a1_1).bind fun t481 => (if t481 = true then (impl_SegMeet.j1 kj2 true a0_0 a0_1 a0_2 a0_3 a1_0 a1_1 a1_2 a1_3) else ((impl_SegHas.f kj2 a0_0 a0_1 a0_2 a0_3 a1_2 a1_3).bind fun t482 => (if t482 = true then (impl_SegMeet.j1 kj2 true a0_0 a0_1 a0_2 a0_3 a1_0 a1_1 a1_2 a1_3) else ((impl_SegHas.f kj2 a1_0 a1_1 a1_2 a1_3 a0_0 a0_1).bind fun t483 => (if t483 = true then (impl_SegMeet.j1 kj2 true a0_0 a0_1 a0_2 a0_3 a1_0 a1_1 a1_2 a1_3) else ((impl_SegHas.f kj2 a1_0 a1_1 a1_2 a1_3 a0_2 a0_3).bind fun t484 => (impl_SegMeet.j1 kj2 t484 a0_0 a0_1 a0_2 a0_3 a1_0 a1_1 a1_2 a1_3)))))))) = some r := by rw [if_neg (show ¬ (false = true) by decide)] at H; exact H
    clear H
    have H := H1
    clear H1
    have HC18 := Aside0.mk H
    clear H
    go_upto_region 3 with (fail)
    go_cut [34] (fun v34 wc => ∃ (kq : Nat) (x34_17 : Bool), v34 = .bool x34_17 ∧ Aside0 (impl_SegMeet.j1 kq x34_17 a0_0 a0_1 a0_2 a0_3 a1_0 a1_1 a1_2 a1_3 = some r) ∧ Aside0 (kq ≤ kj2) ∧ Aside0 (wc.heap[gb477]? = some (.cells #[.int .i64 a0_0, .int .i64 a0_1, .int .i64 a0_2, .int .i64 a0_3] 40 (0, 0))) ∧ Aside0 (wc.heap[gb478]? = some (.cells #[.int .i64 a1_0, .int .i64 a1_1, .int .i64 a1_2, .int .i64 a1_3] 40 (0, 0))) ∧ Aside0 (Below w.heap.size w wc))
    case first =>
     have H := HC18.out
     clear HC18
     replace H := Option.bind_eq_some_iff.mp H
     obtain ⟨t481, A190, H⟩ := H
     replace H : (if t481 = true then (impl_SegMeet.j1 kj2 true a0_0 a0_1 a0_2 a0_3 a1_0 a1_1 a1_2 a1_3) else ((impl_SegHas.f kj2 a0_0 a0_1 a0_2 a0_3 a1_2 a1_3).bind fun t482 => (if t482 = true then (impl_SegMeet.j1 kj2 true a0_0 a0_1 a0_2 a0_3 a1_0 a1_1 a1_2 a1_3) else ((impl_SegHas.f kj2 a1_0 a1_1 a1_2 a1_3 a0_0 a0_1).bind fun t483 => (if t483 = true then (impl_SegMeet.j1 kj2 true a0_0 a0_1 a0_2 a0_3 a1_0 a1_1 a1_2 a1_3) else ((impl_SegHas.f kj2 a1_0 a1_1 a1_2 a1_3 a0_2 a0_3).bind fun t484 => (impl_SegMeet.j1 kj2 t484 a0_0 a0_1 a0_2 a0_3 a1_0 a1_1 a1_2 a1_3))))))) = some r := H
     have A19 := Aside0.mk A190
     clear A190
     by_cases c20 : t481 = true
     ·
      subst c20
      have H1 : (impl_SegMeet.j1 kj2 true a0_0 a0_1 a0_2 a0_3 a1_0 a1_1 a1_2 a1_3) = some r := by rw [if_pos rfl] at H; exact H
      clear H
      have H := H1
      clear H1
      have H' := Aside0.mk H
      clear H
      have hnb21 := NB477_478.out
      have hnc21 := NB478_477.out
      have hcz22_0 : wc.cell? ⟨gb477, 0, none⟩ = some (.int .i64 a0_0) := bc_
      have hcz22_1 : wc.cell? ⟨gb477, 1, none⟩ = some (.int .i64 a0_1) := bc_
      have hcz22_2 : wc.cell? ⟨gb477, 2, none⟩ = some (.int .i64 a0_2) := bc_
      have hcz22_3 : wc.cell? ⟨gb477, 3, none⟩ = some (.int .i64 a0_3) := bc_
      have hfz22_0 := blk_frozen BK477.out 0
      have hfz22_1 := blk_frozen BK477.out 1
      have hfz22_2 := blk_frozen BK477.out 2
      have hfz22_3 := blk_frozen BK477.out 3
      have hcz23_0 : wc.cell? ⟨gb478, 0, none⟩ = some (.int .i64 a1_0) := bc_
      have hcz23_1 : wc.cell? ⟨gb478, 1, none⟩ = some (.int .i64 a1_1) := bc_
      have hcz23_2 : wc.cell? ⟨gb478, 2, none⟩ = some (.int .i64 a1_2) := bc_
      have hcz23_3 : wc.cell? ⟨gb478, 3, none⟩ = some (.int .i64 a1_3) := bc_
      have hfz23_0 := blk_frozen BK478.out 0
      have hfz23_1 := blk_frozen BK478.out 1
      have hfz23_2 := blk_frozen BK478.out 2
      have hfz23_3 := blk_frozen BK478.out 3
      go_wp2_with (first | ((with_reducible refine gate_callee (f := 29) rfl ?_); refine goesL_ (some 16) rfl rfl Tryd.func29 (by kernel_rfl) rfl #[.agg #[.int .i64 a0_0, .int .i64 a0_1, .int .i64 a0_2, .int .i64 a0_3], .agg #[.int .i64 a1_0, .int .i64 a1_1]] rfl ma_ ?_; (with_reducible refine (impl_SegHas.calls kj2 a0_0 a0_1 a0_2 a0_3 a1_0 a1_1 true _ A19.out).mono ?_); rintro e w24 ⟨rfl, hb⟩; refine ⟨_, rfl, ?_⟩; have n0_ := Aside0.mk (ub_ (g := gb477) hb); have n1_ := Aside0.mk (ub_ (g := gb478) hb); have n2_ := Aside0.mk (below_step hB_ hb); clear BK477; clear BK478; clear HB; have BK477 := n0_; have BK478 := n1_; have HB := n2_; clear n0_ n1_ n2_; (try clear hb); (try clear hb2); (try clear hk); (try clear hi)))
      go_meet
      case rel => exact ⟨_, (true), (by first | rfl | (simp; done) | (simp [*]; done)), H', ⟨by have := HJ2.out; first | omega | exact Nat.le_refl _⟩, ⟨uq_⟩, ⟨uq_⟩, ⟨hB_⟩⟩
     ·
      replace c20 := Bool.eq_false_iff.mpr c20
      subst c20
      have H1 : ((impl_SegHas.f kj2 a0_0 a0_1 a0_2 a0_3 a1_2 a1_3).bind fun t482 => (if t482 = true then (impl_SegMeet.j1 kj2 true a0_0 a0_1 a0_2 a0_3 a1_0 a1_1 a1_2 a1_3) else ((impl_SegHas.f kj2 a1_0 a1_1 a1_2 a1_3 a0_0 a0_1).bind fun t483 => (if t483 = true then (impl_SegMeet.j1 kj2 true a0_0 a0_1 a0_2 a0_3 a1_0 a1_1 a1_2 a1_3) else ((impl_SegHas.f kj2 a1_0 a1_1 a1_2 a1_3 a0_2 a0_3).bind fun t484 => (impl_SegMeet.j1 kj2 t484 a0_0 a0_1 a0_2 a0_3 a1_0 a1_1 a1_2 a1_3)))))) = some r := by rw [if_neg (show ¬ (false = true) by decide)] at H; exact H
      clear H
      have H := H1
      clear H1
      replace H := Option.bind_eq_some_iff.mp H
      obtain ⟨t482, A250, H⟩ := H
      replace H : (if t482 = true then (impl_SegMeet.j1 kj2 true a0_0 a0_1 a0_2 a0_3 a1_0 a1_1 a1_2 a1_3) else ((impl_SegHas.f kj2 a1_0 a1_1 a1_2 a1_3 a0_0 a0_1).bind fun t483 => (if t483 = true then (impl_SegMeet.j1 kj2 true a0_0 a0_1 a0_2 a0_3 a1_0 a1_1 a1_2 a1_3) else ((impl_SegHas.f kj2 a1_0 a1_1 a1_2 a1_3 a0_2 a0_3).bind fun t484 => (impl_SegMeet.j1 kj2 t484 a0_0 a0_1 a0_2 a0_3 a1_0 a1_1 a1_2 a1_3))))) = some r := H
      have A25 := Aside0.mk A250
      clear A250
      by_cases c26 : t482 = true
      ·
       subst c26
       have H1 : (impl_SegMeet.j1 kj2 true a0_0 a0_1 a0_2 a0_3 a1_0 a1_1 a1_2 a1_3) = some r := by rw [if_pos rfl] at H; exact H
       clear H
       have H := H1
       clear H1
       have H' := Aside0.mk H
       clear H
       have hnb27 := NB477_478.out
       have hnc27 := NB478_477.out
       have hcz28_0 : wc.cell? ⟨gb477, 0, none⟩ = some (.int .i64 a0_0) := bc_
       have hcz28_1 : wc.cell? ⟨gb477, 1, none⟩ = some (.int .i64 a0_1) := bc_
       have hcz28_2 : wc.cell? ⟨gb477, 2, none⟩ = some (.int .i64 a0_2) := bc_
       have hcz28_3 : wc.cell? ⟨gb477, 3, none⟩ = some (.int .i64 a0_3) := bc_
       have hfz28_0 := blk_frozen BK477.out 0
       have hfz28_1 := blk_frozen BK477.out 1
       have hfz28_2 := blk_frozen BK477.out 2
       have hfz28_3 := blk_frozen BK477.out 3
       have hcz29_0 : wc.cell? ⟨gb478, 0, none⟩ = some (.int .i64 a1_0) := bc_
       have hcz29_1 : wc.cell? ⟨gb478, 1, none⟩ = some (.int .i64 a1_1) := bc_
       have hcz29_2 : wc.cell? ⟨gb478, 2, none⟩ = some (.int .i64 a1_2) := bc_
       have hcz29_3 : wc.cell? ⟨gb478, 3, none⟩ = some (.int .i64 a1_3) := bc_
       have hfz29_0 := blk_frozen BK478.out 0
       have hfz29_1 := blk_frozen BK478.out 1
       have hfz29_2 := blk_frozen BK478.out 2
       have hfz29_3 := blk_frozen BK478.out 3
       go_wp2_with (first | ((with_reducible refine gate_callee (f := 29) rfl ?_); refine goesL_ (some 16) rfl rfl Tryd.func29 (by kernel_rfl) rfl #[.agg #[.int .i64 a0_0, .int .i64 a0_1, .int .i64 a0_2, .int .i64 a0_3], .agg #[.int .i64 a1_0, .int .i64 a1_1]] rfl ma_ ?_; (with_reducible refine (impl_SegHas.calls kj2 a0_0 a0_1 a0_2 a0_3 a1_0 a1_1 false _ A19.out).mono ?_); rintro e w30 ⟨rfl, hb⟩; refine ⟨_, rfl, ?_⟩; have n0_ := Aside0.mk (ub_ (g := gb477) hb); have n1_ := Aside0.mk (ub_ (g := gb478) hb); have n2_ := Aside0.mk (below_step hB_ hb); clear BK477; clear BK478; clear HB; have BK477 := n0_; have BK478 := n1_; have HB := n2_; clear n0_ n1_ n2_; (try clear hb); (try clear hb2); (try clear hk); (try clear hi); have hcz31_0 : w30.cell? ⟨gb477, 0, none⟩ = some (.int .i64 a0_0) := bc_; have hcz31_1 : w30.cell? ⟨gb477, 1, none⟩ = some (.int .i64 a0_1) := bc_; have hcz31_2 : w30.cell? ⟨gb477, 2, none⟩ = some (.int .i64 a0_2) := bc_; have hcz31_3 : w30.cell? ⟨gb477, 3, none⟩ = some (.int .i64 a0_3) := bc_; have hfz31_0 := blk_frozen BK477.out 0; have hfz31_1 := blk_frozen BK477.out 1; have hfz31_2 := blk_frozen BK477.out 2; have hfz31_3 := blk_frozen BK477.out 3; have hcz32_0 : w30.cell? ⟨gb478, 0, none⟩ = some (.int .i64 a1_0) := bc_; have hcz32_1 : w30.cell? ⟨gb478, 1, none⟩ = some (.int .i64 a1_1) := bc_; have hcz32_2 : w30.cell? ⟨gb478, 2, none⟩ = some (.int .i64 a1_2) := bc_; have hcz32_3 : w30.cell? ⟨gb478, 3, none⟩ = some (.int .i64 a1_3) := bc_; have hfz32_0 := blk_frozen BK478.out 0; have hfz32_1 := blk_frozen BK478.out 1; have hfz32_2 := blk_frozen BK478.out 2; have hfz32_3 := blk_frozen BK478.out 3) | (go_at_call 29; (with_reducible refine (impl_SegHas.calls kj2 a0_0 a0_1 a0_2 a0_3 a1_2 a1_3 true _ A25.out).mono ?_); rintro e w33 ⟨rfl, hb⟩; have n0_ := Aside0.mk (ub_ (g := gb477) hb); have n1_ := Aside0.mk (ub_ (g := gb478) hb); have n2_ := Aside0.mk (below_step hB_ hb); clear BK477; clear BK478; clear HB; have BK477 := n0_; have BK478 := n1_; have HB := n2_; clear n0_ n1_ n2_; (try clear hb); (try clear hb2); (try clear hk); (try clear hi)))
       go_meet
       case rel => exact ⟨_, (true), (by first | rfl | (simp; done) | (simp [*]; done)), H', ⟨by have := HJ2.out; first | omega | exact Nat.le_refl _⟩, ⟨uq_⟩, ⟨uq_⟩, ⟨hB_⟩⟩
      ·
       replace c26 := Bool.eq_false_iff.mpr c26
       subst c26
       have H1 : ((impl_SegHas.f kj2 a1_0 a1_1 a1_2 a1_3 a0_0 a0_1).bind fun t483 => (if t483 = true then (impl_SegMeet.j1 kj2 true a0_0 a0_1 a0_2 a0_3 a1_0 a1_1 a1_2 a1_3) else ((impl_SegHas.f kj2 a1_0 a1_1 a1_2 a1_3 a0_2 a0_3).bind fun t484 => (impl_SegMeet.j1 kj2 t484 a0_0 a0_1 a0_2 a0_3 a1_0 a1_1 a1_2 a1_3)))) = some r := by rw [if_neg (show ¬ (false = true) by decide)] at H; exact H
       clear H
       have H := H1
       clear H1
       replace H := Option.bind_eq_some_iff.mp H
       obtain ⟨t483, A340, H⟩ := H
       replace H : (if t483 = true then (impl_SegMeet.j1 kj2 true a0_0 a0_1 a0_2 a0_3 a1_0 a1_1 a1_2 a1_3) else ((impl_SegHas.f kj2 a1_0 a1_1 a1_2 a1_3 a0_2 a0_3).bind fun t484 => (impl_SegMeet.j1 kj2 t484 a0_0 a0_1 a0_2 a0_3 a1_0 a1_1 a1_2 a1_3))) = some r := H
       have A34 := Aside0.mk A340
       clear A340
       by_cases c35 : t483 = true
       ·
        subst c35
        have H1 : (impl_SegMeet.j1 kj2 true a0_0 a0_1 a0_2 a0_3 a1_0 a1_1 a1_2 a1_3) = some r := by rw [if_pos rfl] at H; exact H
        clear H
        have H := H1
        clear H1
        have H' := Aside0.mk H
        clear H
        have hnb36 := NB477_478.out
        have hnc36 := NB478_477.out
        have hcz37_0 : wc.cell? ⟨gb477, 0, none⟩ = some (.int .i64 a0_0) := bc_
        have hcz37_1 : wc.cell? ⟨gb477, 1, none⟩ = some (.int .i64 a0_1) := bc_
        have hcz37_2 : wc.cell? ⟨gb477, 2, none⟩ = some (.int .i64 a0_2) := bc_
        have hcz37_3 : wc.cell? ⟨gb477, 3, none⟩ = some (.int .i64 a0_3) := bc_
        have hfz37_0 := blk_frozen BK477.out 0
        have hfz37_1 := blk_frozen BK477.out 1
        have hfz37_2 := blk_frozen BK477.out 2
        have hfz37_3 := blk_frozen BK477.out 3
        have hcz38_0 : wc.cell? ⟨gb478, 0, none⟩ = some (.int .i64 a1_0) := bc_
        have hcz38_1 : wc.cell? ⟨gb478, 1, none⟩ = some (.int .i64 a1_1) := bc_
        have hcz38_2 : wc.cell? ⟨gb478, 2, none⟩ = some (.int .i64 a1_2) := bc_
        have hcz38_3 : wc.cell? ⟨gb478, 3, none⟩ = some (.int .i64 a1_3) := bc_
        have hfz38_0 := blk_frozen BK478.out 0
        have hfz38_1 := blk_frozen BK478.out 1
        have hfz38_2 := blk_frozen BK478.out 2
        have hfz38_3 := blk_frozen BK478.out 3
        go_wp2_with (first | ((with_reducible refine gate_callee (f := 29) rfl ?_); refine goesL_ (some 16) rfl rfl Tryd.func29 (by kernel_rfl) rfl #[.agg #[.int .i64 a0_0, .int .i64 a0_1, .int .i64 a0_2, .int .i64 a0_3], .agg #[.int .i64 a1_0, .int .i64 a1_1]] rfl ma_ ?_; (with_reducible refine (impl_SegHas.calls kj2 a0_0 a0_1 a0_2 a0_3 a1_0 a1_1 false _ A19.out).mono ?_); rintro e w39 ⟨rfl, hb⟩; refine ⟨_, rfl, ?_⟩; have n0_ := Aside0.mk (ub_ (g := gb477) hb); have n1_ := Aside0.mk (ub_ (g := gb478) hb); have n2_ := Aside0.mk (below_step hB_ hb); clear BK477; clear BK478; clear HB; have BK477 := n0_; have BK478 := n1_; have HB := n2_; clear n0_ n1_ n2_; (try clear hb); (try clear hb2); (try clear hk); (try clear hi); have hcz40_0 : w39.cell? ⟨gb477, 0, none⟩ = some (.int .i64 a0_0) := bc_; have hcz40_1 : w39.cell? ⟨gb477, 1, none⟩ = some (.int .i64 a0_1) := bc_; have hcz40_2 : w39.cell? ⟨gb477, 2, none⟩ = some (.int .i64 a0_2) := bc_; have hcz40_3 : w39.cell? ⟨gb477, 3, none⟩ = some (.int .i64 a0_3) := bc_; have hfz40_0 := blk_frozen BK477.out 0; have hfz40_1 := blk_frozen BK477.out 1; have hfz40_2 := blk_frozen BK477.out 2; have hfz40_3 := blk_frozen BK477.out 3; have hcz41_0 : w39.cell? ⟨gb478, 0, none⟩ = some (.int .i64 a1_0) := bc_; have hcz41_1 : w39.cell? ⟨gb478, 1, none⟩ = some (.int .i64 a1_1) := bc_; have hcz41_2 : w39.cell? ⟨gb478, 2, none⟩ = some (.int .i64 a1_2) := bc_; have hcz41_3 : w39.cell? ⟨gb478, 3, none⟩ = some (.int .i64 a1_3) := bc_; have hfz41_0 := blk_frozen BK478.out 0; have hfz41_1 := blk_frozen BK478.out 1; have hfz41_2 := blk_frozen BK478.out 2; have hfz41_3 := blk_frozen BK478.out 3) | (go_at_call 29; (with_reducible refine (impl_SegHas.calls kj2 a0_0 a0_1 a0_2 a0_3 a1_2 a1_3 false _ A25.out).mono ?_); rintro e w42 ⟨rfl, hb⟩; have n0_ := Aside0.mk (ub_ (g := gb477) hb); have n1_ := Aside0.mk (ub_ (g := gb478) hb); have n2_ := Aside0.mk (below_step hB_ hb); clear BK477; clear BK478; clear HB; have BK477 := n0_; have BK478 := n1_; have HB := n2_; clear n0_ n1_ n2_; (try clear hb); (try clear hb2); (try clear hk); (try clear hi); have hcz43_0 : w42.cell? ⟨gb478, 0, none⟩ = some (.int .i64 a1_0) := bc_; have hcz43_1 : w42.cell? ⟨gb478, 1, none⟩ = some (.int .i64 a1_1) := bc_; have hcz43_2 : w42.cell? ⟨gb478, 2, none⟩ = some (.int .i64 a1_2) := bc_; have hcz43_3 : w42.cell? ⟨gb478, 3, none⟩ = some (.int .i64 a1_3) := bc_; have hfz43_0 := blk_frozen BK478.out 0; have hfz43_1 := blk_frozen BK478.out 1; have hfz43_2 := blk_frozen BK478.out 2; have hfz43_3 := blk_frozen BK478.out 3; have hcz44_0 : w42.cell? ⟨gb477, 0, none⟩ = some (.int .i64 a0_0) := bc_; have hcz44_1 : w42.cell? ⟨gb477, 1, none⟩ = some (.int .i64 a0_1) := bc_; have hcz44_2 : w42.cell? ⟨gb477, 2, none⟩ = some (.int .i64 a0_2) := bc_; have hcz44_3 : w42.cell? ⟨gb477, 3, none⟩ = some (.int .i64 a0_3) := bc_; have hfz44_0 := blk_frozen BK477.out 0; have hfz44_1 := blk_frozen BK477.out 1; have hfz44_2 := blk_frozen BK477.out 2; have hfz44_3 := blk_frozen BK477.out 3) | (go_at_call 29; (with_reducible refine (impl_SegHas.calls kj2 a1_0 a1_1 a1_2 a1_3 a0_0 a0_1 true _ A34.out).mono ?_); rintro e w45 ⟨rfl, hb⟩; have n0_ := Aside0.mk (ub_ (g := gb477) hb); have n1_ := Aside0.mk (ub_ (g := gb478) hb); have n2_ := Aside0.mk (below_step hB_ hb); clear BK477; clear BK478; clear HB; have BK477 := n0_; have BK478 := n1_; have HB := n2_; clear n0_ n1_ n2_; (try clear hb); (try clear hb2); (try clear hk); (try clear hi)))
        go_meet
        case rel => exact ⟨_, (true), (by first | rfl | (simp; done) | (simp [*]; done)), H', ⟨by have := HJ2.out; first | omega | exact Nat.le_refl _⟩, ⟨uq_⟩, ⟨uq_⟩, ⟨hB_⟩⟩
       ·
        replace c35 := Bool.eq_false_iff.mpr c35
        subst c35
        have H1 : ((impl_SegHas.f kj2 a1_0 a1_1 a1_2 a1_3 a0_2 a0_3).bind fun t484 => (impl_SegMeet.j1 kj2 t484 a0_0 a0_1 a0_2 a0_3 a1_0 a1_1 a1_2 a1_3)) = some r := by rw [if_neg (show ¬ (false = true) by decide)] at H; exact H
        clear H
        have H := H1
        clear H1
        replace H := Option.bind_eq_some_iff.mp H
        obtain ⟨t484, A460, H⟩ := H
        replace H : (impl_SegMeet.j1 kj2 t484 a0_0 a0_1 a0_2 a0_3 a1_0 a1_1 a1_2 a1_3) = some r := H
        have A46 := Aside0.mk A460
        clear A460
        have H' := Aside0.mk H
        clear H
        have hnb47 := NB477_478.out
        have hnc47 := NB478_477.out
        have hcz48_0 : wc.cell? ⟨gb477, 0, none⟩ = some (.int .i64 a0_0) := bc_
        have hcz48_1 : wc.cell? ⟨gb477, 1, none⟩ = some (.int .i64 a0_1) := bc_
        have hcz48_2 : wc.cell? ⟨gb477, 2, none⟩ = some (.int .i64 a0_2) := bc_
        have hcz48_3 : wc.cell? ⟨gb477, 3, none⟩ = some (.int .i64 a0_3) := bc_
        have hfz48_0 := blk_frozen BK477.out 0
        have hfz48_1 := blk_frozen BK477.out 1
        have hfz48_2 := blk_frozen BK477.out 2
        have hfz48_3 := blk_frozen BK477.out 3
        have hcz49_0 : wc.cell? ⟨gb478, 0, none⟩ = some (.int .i64 a1_0) := bc_
        have hcz49_1 : wc.cell? ⟨gb478, 1, none⟩ = some (.int .i64 a1_1) := bc_
        have hcz49_2 : wc.cell? ⟨gb478, 2, none⟩ = some (.int .i64 a1_2) := bc_
        have hcz49_3 : wc.cell? ⟨gb478, 3, none⟩ = some (.int .i64 a1_3) := bc_
        have hfz49_0 := blk_frozen BK478.out 0
        have hfz49_1 := blk_frozen BK478.out 1
        have hfz49_2 := blk_frozen BK478.out 2
        have hfz49_3 := blk_frozen BK478.out 3
        go_wp2_with (first | ((with_reducible refine gate_callee (f := 29) rfl ?_); refine goesL_ (some 16) rfl rfl Tryd.func29 (by kernel_rfl) rfl #[.agg #[.int .i64 a0_0, .int .i64 a0_1, .int .i64 a0_2, .int .i64 a0_3], .agg #[.int .i64 a1_0, .int .i64 a1_1]] rfl ma_ ?_; (with_reducible refine (impl_SegHas.calls kj2 a0_0 a0_1 a0_2 a0_3 a1_0 a1_1 false _ A19.out).mono ?_); rintro e w50 ⟨rfl, hb⟩; refine ⟨_, rfl, ?_⟩; have n0_ := Aside0.mk (ub_ (g := gb477) hb); have n1_ := Aside0.mk (ub_ (g := gb478) hb); have n2_ := Aside0.mk (below_step hB_ hb); clear BK477; clear BK478; clear HB; have BK477 := n0_; have BK478 := n1_; have HB := n2_; clear n0_ n1_ n2_; (try clear hb); (try clear hb2); (try clear hk); (try clear hi); have hcz51_0 : w50.cell? ⟨gb477, 0, none⟩ = some (.int .i64 a0_0) := bc_; have hcz51_1 : w50.cell? ⟨gb477, 1, none⟩ = some (.int .i64 a0_1) := bc_; have hcz51_2 : w50.cell? ⟨gb477, 2, none⟩ = some (.int .i64 a0_2) := bc_; have hcz51_3 : w50.cell? ⟨gb477, 3, none⟩ = some (.int .i64 a0_3) := bc_; have hfz51_0 := blk_frozen BK477.out 0; have hfz51_1 := blk_frozen BK477.out 1; have hfz51_2 := blk_frozen BK477.out 2; have hfz51_3 := blk_frozen BK477.out 3; have hcz52_0 : w50.cell? ⟨gb478, 0, none⟩ = some (.int .i64 a1_0) := bc_; have hcz52_1 : w50.cell? ⟨gb478, 1, none⟩ = some (.int .i64 a1_1) := bc_; have hcz52_2 : w50.cell? ⟨gb478, 2, none⟩ = some (.int .i64 a1_2) := bc_; have hcz52_3 : w50.cell? ⟨gb478, 3, none⟩ = some (.int .i64 a1_3) := bc_; have hfz52_0 := blk_frozen BK478.out 0; have hfz52_1 := blk_frozen BK478.out 1; have hfz52_2 := blk_frozen BK478.out 2; have hfz52_3 := blk_frozen BK478.out 3) | (go_at_call 29; (with_reducible refine (impl_SegHas.calls kj2 a0_0 a0_1 a0_2 a0_3 a1_2 a1_3 false _ A25.out).mono ?_); rintro e w53 ⟨rfl, hb⟩; have n0_ := Aside0.mk (ub_ (g := gb477) hb); have n1_ := Aside0.mk (ub_ (g := gb478) hb); have n2_ := Aside0.mk (below_step hB_ hb); clear BK477; clear BK478; clear HB; have BK477 := n0_; have BK478 := n1_; have HB := n2_; clear n0_ n1_ n2_; (try clear hb); (try clear hb2); (try clear hk); (try clear hi); have hcz54_0 : w53.cell? ⟨gb478, 0, none⟩ = some (.int .i64 a1_0) := bc_; have hcz54_1 : w53.cell? ⟨gb478, 1, none⟩ = some (.int .i64 a1_1) := bc_; have hcz54_2 : w53.cell? ⟨gb478, 2, none⟩ = some (.int .i64 a1_2) := bc_; have hcz54_3 : w53.cell? ⟨gb478, 3, none⟩ = some (.int .i64 a1_3) := bc_; have hfz54_0 := blk_frozen BK478.out 0; have hfz54_1 := blk_frozen BK478.out 1; have hfz54_2 := blk_frozen BK478.out 2; have hfz54_3 := blk_frozen BK478.out 3; have hcz55_0 : w53.cell? ⟨gb477, 0, none⟩ = some (.int .i64 a0_0) := bc_; have hcz55_1 : w53.cell? ⟨gb477, 1, none⟩ = some (.int .i64 a0_1) := bc_; have hcz55_2 : w53.cell? ⟨gb477, 2, none⟩ = some (.int .i64 a0_2) := bc_; have hcz55_3 : w53.cell? ⟨gb477, 3, none⟩ = some (.int .i64 a0_3) := bc_; have hfz55_0 := blk_frozen BK477.out 0; have hfz55_1 := blk_frozen BK477.out 1; have hfz55_2 := blk_frozen BK477.out 2; have hfz55_3 := blk_frozen BK477.out 3) | (go_at_call 29; (with_reducible refine (impl_SegHas.calls kj2 a1_0 a1_1 a1_2 a1_3 a0_0 a0_1 false _ A34.out).mono ?_); rintro e w56 ⟨rfl, hb⟩; have n0_ := Aside0.mk (ub_ (g := gb477) hb); have n1_ := Aside0.mk (ub_ (g := gb478) hb); have n2_ := Aside0.mk (below_step hB_ hb); clear BK477; clear BK478; clear HB; have BK477 := n0_; have BK478 := n1_; have HB := n2_; clear n0_ n1_ n2_; (try clear hb); (try clear hb2); (try clear hk); (try clear hi); have hcz57_0 : w56.cell? ⟨gb478, 0, none⟩ = some (.int .i64 a1_0) := bc_; have hcz57_1 : w56.cell? ⟨gb478, 1, none⟩ = some (.int .i64 a1_1) := bc_; have hcz57_2 : w56.cell? ⟨gb478, 2, none⟩ = some (.int .i64 a1_2) := bc_; have hcz57_3 : w56.cell? ⟨gb478, 3, none⟩ = some (.int .i64 a1_3) := bc_; have hfz57_0 := blk_frozen BK478.out 0; have hfz57_1 := blk_frozen BK478.out 1; have hfz57_2 := blk_frozen BK478.out 2; have hfz57_3 := blk_frozen BK478.out 3; have hcz58_0 : w56.cell? ⟨gb477, 0, none⟩ = some (.int .i64 a0_0) := bc_; have hcz58_1 : w56.cell? ⟨gb477, 1, none⟩ = some (.int .i64 a0_1) := bc_; have hcz58_2 : w56.cell? ⟨gb477, 2, none⟩ = some (.int .i64 a0_2) := bc_; have hcz58_3 : w56.cell? ⟨gb477, 3, none⟩ = some (.int .i64 a0_3) := bc_; have hfz58_0 := blk_frozen BK477.out 0; have hfz58_1 := blk_frozen BK477.out 1; have hfz58_2 := blk_frozen BK477.out 2; have hfz58_3 := blk_frozen BK477.out 3) | (go_at_call 29; (with_reducible refine (impl_SegHas.calls kj2 a1_0 a1_1 a1_2 a1_3 a0_2 a0_3 t484 _ A46.out).mono ?_); rintro e w59 ⟨rfl, hb⟩; have n0_ := Aside0.mk (ub_ (g := gb477) hb); have n1_ := Aside0.mk (ub_ (g := gb478) hb); have n2_ := Aside0.mk (below_step hB_ hb); clear BK477; clear BK478; clear HB; have BK477 := n0_; have BK478 := n1_; have HB := n2_; clear n0_ n1_ n2_; (try clear hb); (try clear hb2); (try clear hk); (try clear hi)))
        go_meet
        case rel => exact ⟨_, (t484), (by first | rfl | (simp; done) | (simp [*]; done)), H', ⟨by have := HJ2.out; first | omega | exact Nat.le_refl _⟩, ⟨uq_⟩, ⟨uq_⟩, ⟨hB_⟩⟩
    case rest =>
     clear HC18
     try clear c1
     try clear c2
     try clear p2
     try clear c3
     try clear c4
     try clear c7
     try clear c9
     try clear c14
     try clear c17
     try clear c20
     try clear c21
     try clear c26
     try clear c27
     try clear c28
     try clear c29
     try clear c35
     try clear c36
     try clear c37
     try clear c47
     try clear hcz10_0
     try clear hcz10_1
     try clear hcz10_2
     try clear hcz10_3
     try clear hcz12_0
     try clear hcz12_1
     try clear hcz12_2
     try clear hcz12_3
     try clear hcz15_0
     try clear hcz15_1
     try clear hcz15_2
     try clear hcz15_3
     try clear hcz22_0
     try clear hcz22_1
     try clear hcz22_2
     try clear hcz22_3
     try clear hcz23_0
     try clear hcz23_1
     try clear hcz23_2
     try clear hcz23_3
     try clear hcz28_0
     try clear hcz28_1
     try clear hcz28_2
     try clear hcz28_3
     try clear hcz29_0
     try clear hcz29_1
     try clear hcz29_2
     try clear hcz29_3
     try clear hcz31_0
     try clear hcz31_1
     try clear hcz31_2
     try clear hcz31_3
     try clear hcz32_0
     try clear hcz32_1
     try clear hcz32_2
     try clear hcz32_3
     try clear hcz37_0
     try clear hcz37_1
     try clear hcz37_2
     try clear hcz37_3
     try clear hcz38_0
     try clear hcz38_1
     try clear hcz38_2
     try clear hcz38_3
     try clear hcz40_0
     try clear hcz40_1
     try clear hcz40_2
     try clear hcz40_3
     try clear hcz41_0
     try clear hcz41_1
     try clear hcz41_2
     try clear hcz41_3
     try clear hcz43_0
     try clear hcz43_1
     try clear hcz43_2
     try clear hcz43_3
     try clear hcz44_0
     try clear hcz44_1
     try clear hcz44_2
     try clear hcz44_3
     try clear hcz48_0
     try clear hcz48_1
     try clear hcz48_2
     try clear hcz48_3
     try clear hcz49_0
     try clear hcz49_1
     try clear hcz49_2
     try clear hcz49_3
     try clear hcz51_0
     try clear hcz51_1
     try clear hcz51_2
     try clear hcz51_3
     try clear hcz52_0
     try clear hcz52_1
     try clear hcz52_2
     try clear hcz52_3
     try clear hcz54_0
     try clear hcz54_1
     try clear hcz54_2
     try clear hcz54_3
     try clear hcz55_0
     try clear hcz55_1
     try clear hcz55_2
     try clear hcz55_3
     try clear hcz57_0
     try clear hcz57_1
     try clear hcz57_2
     try clear hcz57_3
     try clear hcz58_0
     try clear hcz58_1
     try clear hcz58_2
     try clear hcz58_3
     try clear hfz10_0
     try clear hfz10_1
     try clear hfz10_2
     try clear hfz10_3
     try clear hfz12_0
     try clear hfz12_1
     try clear hfz12_2
     try clear hfz12_3
     try clear hfz15_0
     try clear hfz15_1
     try clear hfz15_2
     try clear hfz15_3
     try clear hfz22_0
     try clear hfz22_1
     try clear hfz22_2
     try clear hfz22_3
     try clear hfz23_0
     try clear hfz23_1
     try clear hfz23_2
     try clear hfz23_3
     try clear hfz28_0
     try clear hfz28_1
     try clear hfz28_2
     try clear hfz28_3
     try clear hfz29_0
     try clear hfz29_1
     try clear hfz29_2
     try clear hfz29_3
     try clear hfz31_0
     try clear hfz31_1
     try clear hfz31_2
     try clear hfz31_3
     try clear hfz32_0
     try clear hfz32_1
     try clear hfz32_2
     try clear hfz32_3
     try clear hfz37_0
     try clear hfz37_1
     try clear hfz37_2
     try clear hfz37_3
     try clear hfz38_0
     try clear hfz38_1
     try clear hfz38_2
     try clear hfz38_3
     try clear hfz40_0
     try clear hfz40_1
     try clear hfz40_2
     try clear hfz40_3
     try clear hfz41_0
     try clear hfz41_1
     try clear hfz41_2
     try clear hfz41_3
     try clear hfz43_0
     try clear hfz43_1
     try clear hfz43_2
     try clear hfz43_3
     try clear hfz44_0
     try clear hfz44_1
     try clear hfz44_2
     try clear hfz44_3
     try clear hfz48_0
     try clear hfz48_1
     try clear hfz48_2
     try clear hfz48_3
     try clear hfz49_0
     try clear hfz49_1
     try clear hfz49_2
     try clear hfz49_3
     try clear hfz51_0
     try clear hfz51_1
     try clear hfz51_2
     try clear hfz51_3
     try clear hfz52_0
     try clear hfz52_1
     try clear hfz52_2
     try clear hfz52_3
     try clear hfz54_0
     try clear hfz54_1
     try clear hfz54_2
     try clear hfz54_3
     try clear hfz55_0
     try clear hfz55_1
     try clear hfz55_2
     try clear hfz55_3
     try clear hfz57_0
     try clear hfz57_1
     try clear hfz57_2
     try clear hfz57_3
     try clear hfz58_0
     try clear hfz58_1
     try clear hfz58_2
     try clear hfz58_3
     try clear p2
     obtain ⟨kq, x34_17, rfl, HA, HJ17, BK477, BK478, HB⟩ := hcut
     cases kq with
     | zero => exact absurd HA.out (by simp [impl_SegMeet.j1])
     | succ kj17 =>
      have H := HA.out
      clear HA
      simp only [impl_SegMeet.j1] at H
      by_cases c60 : x34_17 = true
      ·
       subst c60
       have H1 : (some true) = some r := by rw [if_pos rfl] at H; exact H
       clear H
       have H := H1
       clear H1
       obtain rfl := Option.some.inj H
       go_wp2
       go_ret
       exact ⟨by first | rfl | (simp [errW_none, errW_some] <;> rfl) | (simp [*, errW_none, errW_some] <;> rfl), hB_⟩
      ·
       replace c60 := Bool.eq_false_iff.mpr c60
       subst c60
       have H1 : ((impl_SegTurn.f kj17 a0_0 a0_1 a0_2 a0_3 a1_0 a1_1).bind fun t485 => ((impl_SegTurn.f kj17 a0_0 a0_1 a0_2 a0_3 a1_2 a1_3).bind fun t486 => (if (wrap64 (t485 * t486)) < 0 then ((impl_SegTurn.f kj17 a1_0 a1_1 a1_2 a1_3 a0_0 a0_1).bind fun t487 => ((impl_SegTurn.f kj17 a1_0 a1_1 a1_2 a1_3 a0_2 a0_3).bind fun t488 => (some (decide ((wrap64 (t487 * t488)) < 0))))) else (some false)))) = some r := by rw [if_neg (show ¬ (false = true) by decide)] at H; exact H
       clear H
       have H := H1
       clear H1
       replace H := Option.bind_eq_some_iff.mp H
       obtain ⟨t485, A610, H⟩ := H
       replace H : ((impl_SegTurn.f kj17 a0_0 a0_1 a0_2 a0_3 a1_2 a1_3).bind fun t486 => (if (wrap64 (t485 * t486)) < 0 then ((impl_SegTurn.f kj17 a1_0 a1_1 a1_2 a1_3 a0_0 a0_1).bind fun t487 => ((impl_SegTurn.f kj17 a1_0 a1_1 a1_2 a1_3 a0_2 a0_3).bind fun t488 => (some (decide ((wrap64 (t487 * t488)) < 0))))) else (some false))) = some r := H
       have A61 := Aside0.mk A610
       clear A610
       replace H := Option.bind_eq_some_iff.mp H
       obtain ⟨t486, A620, H⟩ := H
       replace H : (if (wrap64 (t485 * t486)) < 0 then ((impl_SegTurn.f kj17 a1_0 a1_1 a1_2 a1_3 a0_0 a0_1).bind fun t487 => ((impl_SegTurn.f kj17 a1_0 a1_1 a1_2 a1_3 a0_2 a0_3).bind fun t488 => (some (decide ((wrap64 (t487 * t488)) < 0))))) else (some false)) = some r := H
       have A62 := Aside0.mk A620
       clear A620
       by_cases c63 : (wrap64 (t485 * t486)) < 0
       ·
        rw [if_pos c63] at H
        have c63b0 : decide ((wrap64 (t485 * t486)) < 0) = true := decide_eq_true c63
        clear c63
        replace H := Option.bind_eq_some_iff.mp H
        obtain ⟨t487, A640, H⟩ := H
        replace H : ((impl_SegTurn.f kj17 a1_0 a1_1 a1_2 a1_3 a0_2 a0_3).bind fun t488 => (some (decide ((wrap64 (t487 * t488)) < 0)))) = some r := H
        have A64 := Aside0.mk A640
        clear A640
        replace H := Option.bind_eq_some_iff.mp H
        obtain ⟨t488, A650, H⟩ := H
        replace H : (some (decide ((wrap64 (t487 * t488)) < 0))) = some r := H
        have A65 := Aside0.mk A650
        clear A650
        obtain rfl := Option.some.inj H
        try go_wp2
        have n0_ := Aside0.mk (blk_drew BK477.out)
        have n1_ := Aside0.mk (blk_drew BK478.out)
        have n2_ := Aside0.mk (below_drew1 HB.out)
        clear BK477 BK478 HB
        have BK477 := n0_
        have BK478 := n1_
        have HB := n2_
        clear n0_ n1_ n2_
        refine start_ (n := 35) (S := fun w' => w'.cell? ⟨gb477, 0, none⟩ = some (.int .i64 a0_0) ∧ w'.cell? ⟨gb477, 1, none⟩ = some (.int .i64 a0_1) ∧ w'.cell? ⟨gb477, 2, none⟩ = some (.int .i64 a0_2) ∧ w'.cell? ⟨gb477, 3, none⟩ = some (.int .i64 a0_3) ∧ w'.cell? ⟨gb478, 0, none⟩ = some (.int .i64 a1_0) ∧ w'.cell? ⟨gb478, 1, none⟩ = some (.int .i64 a1_1) ∧ w'.cell? ⟨gb478, 2, none⟩ = some (.int .i64 a1_2) ∧ w'.cell? ⟨gb478, 3, none⟩ = some (.int .i64 a1_3)) (ds := []) #[false, false, false, false, false, false, false, false, false, false, false, false, false, false, false, false, false, false, false, false, false, false, false, false, false, false, false, false, false, false, false, false, false, false, false] (by kernel_rfl) rfl rfl ⟨bc_, bc_, bc_, bc_, bc_, bc_, bc_, bc_⟩ (fun hHeld => ?_); refine with_tabW impl_SegMeet.tab5 impl_SegMeet.bits5 (fun HT_ HW_ => ?_)
        generalize wc.drew = w66 at BK477 BK478 HB hHeld ⊢
        refine pure_ (i := 0) (N := some 35) (v := ?_) (a' := ?_) (bm 35 1) rfl rfl (any_of HT_.out (by kernel_rfl)) (fun _ _ _ h => h) (Or.inl ⟨by rfl, ?_⟩) ?_ ?_
        rotate_left
        ·
         intro w'
         go_simp
         with_reducible rfl
        rotate_left
        ·
         simp only [Act.put, List.setIfInBounds_toArray, List.set_cons_zero, List.set_cons_succ, i64_w, i32_w]
         rfl
        refine pure_ (i := 2) (N := some 37) (v := ?_) (a' := ?_) (bm 35 5) rfl rfl (any_of HT_.out (by kernel_rfl)) (fun _ _ _ h => h) (Or.inl ⟨by rfl, ?_⟩) ?_ ?_
        rotate_left
        ·
         intro w'
         go_simp
         with_reducible rfl
        rotate_left
        ·
         simp only [Act.put, List.setIfInBounds_toArray, List.set_cons_zero, List.set_cons_succ, i64_w, i32_w]
         rfl
        refine pure_ (i := 4) (N := some 39) (v := ?_) (a' := ?_) (bm 35 21) rfl rfl (any_of HT_.out (by kernel_rfl)) (fun _ _ _ h => h) (Or.inl ⟨by rfl, ?_⟩) ?_ ?_
        rotate_left
        ·
         intro w'
         go_simp
         with_reducible rfl
        rotate_left
        ·
         simp only [Act.put, List.setIfInBounds_toArray, List.set_cons_zero, List.set_cons_succ, i64_w, i32_w]
         rfl
        refine pure_ (i := 7) (N := some 42) (v := ?_) (a' := ?_) (bm 35 149) rfl rfl (any_of HT_.out (by kernel_rfl)) (fun _ _ _ h => h) (Or.inl ⟨by rfl, ?_⟩) ?_ ?_
        rotate_left
        ·
         intro w'
         go_simp
         with_reducible rfl
        rotate_left
        ·
         simp only [Act.put, List.setIfInBounds_toArray, List.set_cons_zero, List.set_cons_succ, i64_w, i32_w]
         rfl
        refine pure_ (i := 9) (N := some 44) (v := ?_) (a' := ?_) (bm 35 661) rfl rfl (any_of HT_.out (by kernel_rfl)) (fun _ _ _ h => h) (Or.inl ⟨by rfl, ?_⟩) ?_ ?_
        rotate_left
        ·
         intro w'
         go_simp
         with_reducible rfl
        rotate_left
        ·
         simp only [Act.put, List.setIfInBounds_toArray, List.set_cons_zero, List.set_cons_succ, i64_w, i32_w]
         rfl
        refine pure_ (i := 11) (N := some 46) (v := ?_) (a' := ?_) (bm 35 2709) rfl rfl (any_of HT_.out (by kernel_rfl)) (fun _ _ _ h => h) (Or.inl ⟨by rfl, ?_⟩) ?_ ?_
        rotate_left
        ·
         intro w'
         go_simp
         with_reducible rfl
        rotate_left
        ·
         simp only [Act.put, List.setIfInBounds_toArray, List.set_cons_zero, List.set_cons_succ, i64_w, i32_w]
         rfl
        refine take_ (i := 1) (N := some 36) (v := ?_) (a' := ?_) (bm 35 2711) rfl rfl (take_ofW HT_.out HW_.out (by kernel_rfl)) (fun _ _ _ h => h) (Or.inl ⟨by rfl, ?_⟩) hHeld ?_ ?_
        rotate_left
        ·
         rintro w' ⟨s0, s1, s2, s3, s4, s5, s6, s7⟩
         go_simp
         with_reducible rfl
        rotate_left
        ·
         simp only [Act.put, List.setIfInBounds_toArray, List.set_cons_zero, List.set_cons_succ, i64_w, i32_w]
         rfl
        refine take_ (i := 3) (N := some 38) (v := ?_) (a' := ?_) (bm 35 2719) rfl rfl (take_ofW HT_.out HW_.out (by kernel_rfl)) (fun _ _ _ h => h) (Or.inl ⟨by rfl, ?_⟩) hHeld ?_ ?_
        rotate_left
        ·
         rintro w' ⟨s0, s1, s2, s3, s4, s5, s6, s7⟩
         go_simp
         with_reducible rfl
        rotate_left
        ·
         simp only [Act.put, List.setIfInBounds_toArray, List.set_cons_zero, List.set_cons_succ, i64_w, i32_w]
         rfl
        refine take_ (i := 5) (N := some 40) (v := ?_) (a' := ?_) (bm 35 2751) rfl rfl (take_ofW HT_.out HW_.out (by kernel_rfl)) (fun _ _ _ h => h) (Or.inl ⟨by rfl, ?_⟩) hHeld ?_ ?_
        rotate_left
        ·
         rintro w' ⟨s0, s1, s2, s3, s4, s5, s6, s7⟩
         go_simp
         with_reducible rfl
        rotate_left
        ·
         simp only [Act.put, List.setIfInBounds_toArray, List.set_cons_zero, List.set_cons_succ, i64_w, i32_w]
         rfl
        refine take_ (i := 8) (N := some 43) (v := ?_) (a' := ?_) (bm 35 3007) rfl rfl (take_ofW HT_.out HW_.out (by kernel_rfl)) (fun _ _ _ h => h) (Or.inl ⟨by rfl, ?_⟩) hHeld ?_ ?_
        rotate_left
        ·
         rintro w' ⟨s0, s1, s2, s3, s4, s5, s6, s7⟩
         go_simp
         with_reducible rfl
        rotate_left
        ·
         simp only [Act.put, List.setIfInBounds_toArray, List.set_cons_zero, List.set_cons_succ, i64_w, i32_w]
         rfl
        refine take_ (i := 10) (N := some 45) (v := ?_) (a' := ?_) (bm 35 4031) rfl rfl (take_ofW HT_.out HW_.out (by kernel_rfl)) (fun _ _ _ h => h) (Or.inl ⟨by rfl, ?_⟩) hHeld ?_ ?_
        rotate_left
        ·
         rintro w' ⟨s0, s1, s2, s3, s4, s5, s6, s7⟩
         go_simp
         with_reducible rfl
        rotate_left
        ·
         simp only [Act.put, List.setIfInBounds_toArray, List.set_cons_zero, List.set_cons_succ, i64_w, i32_w]
         rfl
        refine take_ (i := 12) (N := some 47) (v := ?_) (a' := ?_) (bm 35 8127) rfl rfl (take_ofW HT_.out HW_.out (by kernel_rfl)) (fun _ _ _ h => h) (Or.inl ⟨by rfl, ?_⟩) hHeld ?_ ?_
        rotate_left
        ·
         rintro w' ⟨s0, s1, s2, s3, s4, s5, s6, s7⟩
         go_simp
         with_reducible rfl
        rotate_left
        ·
         simp only [Act.put, List.setIfInBounds_toArray, List.set_cons_zero, List.set_cons_succ, i64_w, i32_w]
         rfl
        refine one_ (i := 6) (N := some 41) (bm 35 8191) rfl rfl (one_of HT_.out (by kernel_rfl)) (by decide) (fun K hK => ?_)
        refine goes_ Tryd.func64 (by kernel_rfl) rfl #[.agg #[.int .i64 a0_0, .int .i64 a0_1], .agg #[.int .i64 a0_2, .int .i64 a0_3], .agg #[.int .i64 a1_0, .int .i64 a1_1]] (by rfl) rfl rfl ma_ ?_
        with_reducible refine (impl_SegTurn.calls kj17 a0_0 a0_1 a0_2 a0_3 a1_0 a1_1 t485 _ A61.out).mono ?_
        rintro e w67 ⟨rfl, hb⟩
        refine ⟨_, rfl, ?_⟩
        have n0_ := Aside0.mk (ub_ (g := gb477) hb)
        have n1_ := Aside0.mk (ub_ (g := gb478) hb)
        have n2_ := Aside0.mk (below_step hB_ hb)
        clear BK477 BK478 HB
        have BK477 := n0_
        have BK478 := n1_
        have HB := n2_
        clear n0_ n1_ n2_
        (try clear hb)
        (try clear hb2)
        (try clear hk)
        (try clear hi)
        refine hK.out _ _ ⟨bc_, bc_, bc_, bc_, bc_, bc_, bc_, bc_⟩ (fun hHeld => ?_)
        clear hK K
        refine norm_ (a' := ?_) ?_ ?_
        rotate_left
        ·
         show Act.put _ (some 41) _ = _
         simp only [Act.put, List.setIfInBounds_toArray, List.set_cons_zero, List.set_cons_succ, i64_w, i32_w]
         rfl
        refine one_ (i := 13) (N := some 48) (bm 35 16383) rfl rfl (one_of HT_.out (by kernel_rfl)) (by decide) (fun K hK => ?_)
        refine goes_ Tryd.func64 (by kernel_rfl) rfl #[.agg #[.int .i64 a0_0, .int .i64 a0_1], .agg #[.int .i64 a0_2, .int .i64 a0_3], .agg #[.int .i64 a1_2, .int .i64 a1_3]] (by rfl) rfl rfl ma_ ?_
        with_reducible refine (impl_SegTurn.calls kj17 a0_0 a0_1 a0_2 a0_3 a1_2 a1_3 t486 _ A62.out).mono ?_
        rintro e w68 ⟨rfl, hb⟩
        refine ⟨_, rfl, ?_⟩
        have n0_ := Aside0.mk (ub_ (g := gb477) hb)
        have n1_ := Aside0.mk (ub_ (g := gb478) hb)
        have n2_ := Aside0.mk (below_step hB_ hb)
        clear BK477 BK478 HB
        have BK477 := n0_
        have BK478 := n1_
        have HB := n2_
        clear n0_ n1_ n2_
        (try clear hb)
        (try clear hb2)
        (try clear hk)
        (try clear hi)
        refine hK.out _ _ ⟨bc_, bc_, bc_, bc_, bc_, bc_, bc_, bc_⟩ (fun hHeld => ?_)
        clear hK K
        refine norm_ (a' := ?_) ?_ ?_
        rotate_left
        ·
         show Act.put _ (some 48) _ = _
         simp only [Act.put, List.setIfInBounds_toArray, List.set_cons_zero, List.set_cons_succ, i64_w, i32_w]
         rfl
        refine pure_ (i := 14) (N := some 49) (v := ?_) (a' := ?_) (bm 35 32767) rfl rfl (any_of HT_.out (by kernel_rfl)) (fun _ _ _ h => h) (Or.inl ⟨by rfl, ?_⟩) ?_ ?_
        rotate_left
        ·
         intro w'
         go_simp
         with_reducible rfl
        rotate_left
        ·
         simp only [Act.put, List.setIfInBounds_toArray, List.set_cons_zero, List.set_cons_succ, i64_w, i32_w]
         rfl
        refine pure_ (i := 15) (N := some 50) (v := ?_) (a' := ?_) (bm 35 65535) rfl rfl (any_of HT_.out (by kernel_rfl)) (fun _ _ _ h => h) (Or.inl ⟨by rfl, ?_⟩) ?_ ?_
        rotate_left
        ·
         intro w'
         go_simp
         with_reducible rfl
        rotate_left
        ·
         simp only [Act.put, List.setIfInBounds_toArray, List.set_cons_zero, List.set_cons_succ, i64_w, i32_w]
         rfl
        refine pure_ (i := 16) (N := some 51) (v := ?_) (a' := ?_) (bm 35 131071) rfl rfl (any_of HT_.out (by kernel_rfl)) (fun _ _ _ h => h) (Or.inl ⟨by rfl, ?_⟩) ?_ ?_
        rotate_left
        ·
         intro w'
         go_simp
         with_reducible rfl
        rotate_left
        ·
         simp only [Act.put, List.setIfInBounds_toArray, List.set_cons_zero, List.set_cons_succ, i64_w, i32_w]
         rfl
        refine pure_ (i := 17) (N := some 52) (v := ?_) (a' := ?_) (bm 35 262143) rfl rfl (any_of HT_.out (by kernel_rfl)) (fun _ _ _ h => h) (Or.inl ⟨by rfl, ?_⟩) ?_ ?_
        rotate_left
        ·
         intro w'
         go_simp
         with_reducible rfl
        rotate_left
        ·
         simp only [Act.put, List.setIfInBounds_toArray, List.set_cons_zero, List.set_cons_succ, i64_w, i32_w]
         rfl
        refine pure_ (i := 19) (N := some 54) (v := ?_) (a' := ?_) (bm 35 786431) rfl rfl (any_of HT_.out (by kernel_rfl)) (fun _ _ _ h => h) (Or.inl ⟨by rfl, ?_⟩) ?_ ?_
        rotate_left
        ·
         intro w'
         go_simp
         with_reducible rfl
        rotate_left
        ·
         simp only [Act.put, List.setIfInBounds_toArray, List.set_cons_zero, List.set_cons_succ, i64_w, i32_w]
         rfl
        refine pure_ (i := 21) (N := some 56) (v := ?_) (a' := ?_) (bm 35 2883583) rfl rfl (any_of HT_.out (by kernel_rfl)) (fun _ _ _ h => h) (Or.inl ⟨by rfl, ?_⟩) ?_ ?_
        rotate_left
        ·
         intro w'
         go_simp
         with_reducible rfl
        rotate_left
        ·
         simp only [Act.put, List.setIfInBounds_toArray, List.set_cons_zero, List.set_cons_succ, i64_w, i32_w]
         rfl
        refine pure_ (i := 24) (N := some 59) (v := ?_) (a' := ?_) (bm 35 19660799) rfl rfl (any_of HT_.out (by kernel_rfl)) (fun _ _ _ h => h) (Or.inl ⟨by rfl, ?_⟩) ?_ ?_
        rotate_left
        ·
         intro w'
         go_simp
         with_reducible rfl
        rotate_left
        ·
         simp only [Act.put, List.setIfInBounds_toArray, List.set_cons_zero, List.set_cons_succ, i64_w, i32_w]
         rfl
        refine pure_ (i := 26) (N := some 61) (v := ?_) (a' := ?_) (bm 35 86769663) rfl rfl (any_of HT_.out (by kernel_rfl)) (fun _ _ _ h => h) (Or.inl ⟨by rfl, ?_⟩) ?_ ?_
        rotate_left
        ·
         intro w'
         go_simp
         with_reducible rfl
        rotate_left
        ·
         simp only [Act.put, List.setIfInBounds_toArray, List.set_cons_zero, List.set_cons_succ, i64_w, i32_w]
         rfl
        refine pure_ (i := 28) (N := some 63) (v := ?_) (a' := ?_) (bm 35 355205119) rfl rfl (any_of HT_.out (by kernel_rfl)) (fun _ _ _ h => h) (Or.inl ⟨by rfl, ?_⟩) ?_ ?_
        rotate_left
        ·
         intro w'
         go_simp
         with_reducible rfl
        rotate_left
        ·
         simp only [Act.put, List.setIfInBounds_toArray, List.set_cons_zero, List.set_cons_succ, i64_w, i32_w]
         rfl
        refine take_ (i := 18) (N := some 53) (v := ?_) (a' := ?_) (bm 35 355467263) rfl rfl (take_ofW HT_.out HW_.out (by kernel_rfl)) (fun _ _ _ h => h) (Or.inl ⟨by rfl, ?_⟩) hHeld ?_ ?_
        rotate_left
        ·
         rintro w' ⟨s0, s1, s2, s3, s4, s5, s6, s7⟩
         go_simp
         with_reducible rfl
        rotate_left
        ·
         simp only [Act.put, List.setIfInBounds_toArray, List.set_cons_zero, List.set_cons_succ, i64_w, i32_w]
         rfl
        refine take_ (i := 20) (N := some 55) (v := ?_) (a' := ?_) (bm 35 356515839) rfl rfl (take_ofW HT_.out HW_.out (by kernel_rfl)) (fun _ _ _ h => h) (Or.inl ⟨by rfl, ?_⟩) hHeld ?_ ?_
        rotate_left
        ·
         rintro w' ⟨s0, s1, s2, s3, s4, s5, s6, s7⟩
         go_simp
         with_reducible rfl
        rotate_left
        ·
         simp only [Act.put, List.setIfInBounds_toArray, List.set_cons_zero, List.set_cons_succ, i64_w, i32_w]
         rfl
        refine take_ (i := 22) (N := some 57) (v := ?_) (a' := ?_) (bm 35 360710143) rfl rfl (take_ofW HT_.out HW_.out (by kernel_rfl)) (fun _ _ _ h => h) (Or.inl ⟨by rfl, ?_⟩) hHeld ?_ ?_
        rotate_left
        ·
         rintro w' ⟨s0, s1, s2, s3, s4, s5, s6, s7⟩
         go_simp
         with_reducible rfl
        rotate_left
        ·
         simp only [Act.put, List.setIfInBounds_toArray, List.set_cons_zero, List.set_cons_succ, i64_w, i32_w]
         rfl
        refine take_ (i := 25) (N := some 60) (v := ?_) (a' := ?_) (bm 35 394264575) rfl rfl (take_ofW HT_.out HW_.out (by kernel_rfl)) (fun _ _ _ h => h) (Or.inl ⟨by rfl, ?_⟩) hHeld ?_ ?_
        rotate_left
        ·
         rintro w' ⟨s0, s1, s2, s3, s4, s5, s6, s7⟩
         go_simp
         with_reducible rfl
        rotate_left
        ·
         simp only [Act.put, List.setIfInBounds_toArray, List.set_cons_zero, List.set_cons_succ, i64_w, i32_w]
         rfl
        refine take_ (i := 27) (N := some 62) (v := ?_) (a' := ?_) (bm 35 528482303) rfl rfl (take_ofW HT_.out HW_.out (by kernel_rfl)) (fun _ _ _ h => h) (Or.inl ⟨by rfl, ?_⟩) hHeld ?_ ?_
        rotate_left
        ·
         rintro w' ⟨s0, s1, s2, s3, s4, s5, s6, s7⟩
         go_simp
         with_reducible rfl
        rotate_left
        ·
         simp only [Act.put, List.setIfInBounds_toArray, List.set_cons_zero, List.set_cons_succ, i64_w, i32_w]
         rfl
        refine take_ (i := 29) (N := some 64) (v := ?_) (a' := ?_) (bm 35 1065353215) rfl rfl (take_ofW HT_.out HW_.out (by kernel_rfl)) (fun _ _ _ h => h) (Or.inl ⟨by rfl, ?_⟩) hHeld ?_ ?_
        rotate_left
        ·
         rintro w' ⟨s0, s1, s2, s3, s4, s5, s6, s7⟩
         go_simp
         with_reducible rfl
        rotate_left
        ·
         simp only [Act.put, List.setIfInBounds_toArray, List.set_cons_zero, List.set_cons_succ, i64_w, i32_w]
         rfl
        refine one_ (i := 23) (N := some 58) (bm 35 1073741823) rfl rfl (one_of HT_.out (by kernel_rfl)) (by decide) (fun K hK => ?_)
        refine goes_ Tryd.func64 (by kernel_rfl) rfl #[.agg #[.int .i64 a1_0, .int .i64 a1_1], .agg #[.int .i64 a1_2, .int .i64 a1_3], .agg #[.int .i64 a0_0, .int .i64 a0_1]] (by rfl) rfl rfl ma_ ?_
        with_reducible refine (impl_SegTurn.calls kj17 a1_0 a1_1 a1_2 a1_3 a0_0 a0_1 t487 _ A64.out).mono ?_
        rintro e w69 ⟨rfl, hb⟩
        refine ⟨_, rfl, ?_⟩
        have n0_ := Aside0.mk (ub_ (g := gb477) hb)
        have n1_ := Aside0.mk (ub_ (g := gb478) hb)
        have n2_ := Aside0.mk (below_step hB_ hb)
        clear BK477 BK478 HB
        have BK477 := n0_
        have BK478 := n1_
        have HB := n2_
        clear n0_ n1_ n2_
        (try clear hb)
        (try clear hb2)
        (try clear hk)
        (try clear hi)
        refine hK.out _ _ ⟨bc_, bc_, bc_, bc_, bc_, bc_, bc_, bc_⟩ (fun hHeld => ?_)
        clear hK K
        refine norm_ (a' := ?_) ?_ ?_
        rotate_left
        ·
         show Act.put _ (some 58) _ = _
         simp only [Act.put, List.setIfInBounds_toArray, List.set_cons_zero, List.set_cons_succ, i64_w, i32_w]
         rfl
        refine one_ (i := 30) (N := some 65) (bm 35 2147483647) rfl rfl (one_of HT_.out (by kernel_rfl)) (by decide) (fun K hK => ?_)
        refine goes_ Tryd.func64 (by kernel_rfl) rfl #[.agg #[.int .i64 a1_0, .int .i64 a1_1], .agg #[.int .i64 a1_2, .int .i64 a1_3], .agg #[.int .i64 a0_2, .int .i64 a0_3]] (by rfl) rfl rfl ma_ ?_
        with_reducible refine (impl_SegTurn.calls kj17 a1_0 a1_1 a1_2 a1_3 a0_2 a0_3 t488 _ A65.out).mono ?_
        rintro e w70 ⟨rfl, hb⟩
        refine ⟨_, rfl, ?_⟩
        have n0_ := Aside0.mk (ub_ (g := gb477) hb)
        have n1_ := Aside0.mk (ub_ (g := gb478) hb)
        have n2_ := Aside0.mk (below_step hB_ hb)
        clear BK477 BK478 HB
        have BK477 := n0_
        have BK478 := n1_
        have HB := n2_
        clear n0_ n1_ n2_
        (try clear hb)
        (try clear hb2)
        (try clear hk)
        (try clear hi)
        refine hK.out _ _ ⟨bc_, bc_, bc_, bc_, bc_, bc_, bc_, bc_⟩ (fun hHeld => ?_)
        clear hK K
        refine norm_ (a' := ?_) ?_ ?_
        rotate_left
        ·
         show Act.put _ (some 65) _ = _
         simp only [Act.put, List.setIfInBounds_toArray, List.set_cons_zero, List.set_cons_succ, i64_w, i32_w]
         rfl
        refine pure_ (i := 31) (N := some 66) (v := ?_) (a' := ?_) (bm 35 4294967295) rfl rfl (any_of HT_.out (by kernel_rfl)) (fun _ _ _ h => h) (Or.inl ⟨by rfl, ?_⟩) ?_ ?_
        rotate_left
        ·
         intro w'
         go_simp
         with_reducible rfl
        rotate_left
        ·
         simp only [Act.put, List.setIfInBounds_toArray, List.set_cons_zero, List.set_cons_succ, i64_w, i32_w]
         rfl
        refine pure_ (i := 32) (N := some 67) (v := ?_) (a' := ?_) (bm 35 8589934591) rfl rfl (any_of HT_.out (by kernel_rfl)) (fun _ _ _ h => h) (Or.inl ⟨by rfl, ?_⟩) ?_ ?_
        rotate_left
        ·
         intro w'
         go_simp
         with_reducible rfl
        rotate_left
        ·
         simp only [Act.put, List.setIfInBounds_toArray, List.set_cons_zero, List.set_cons_succ, i64_w, i32_w]
         rfl
        refine pure_ (i := 33) (N := some 68) (v := ?_) (a' := ?_) (bm 35 17179869183) rfl rfl (any_of HT_.out (by kernel_rfl)) (fun _ _ _ h => h) (Or.inl ⟨by rfl, ?_⟩) ?_ ?_
        rotate_left
        ·
         intro w'
         go_simp
         with_reducible rfl
        rotate_left
        ·
         simp only [Act.put, List.setIfInBounds_toArray, List.set_cons_zero, List.set_cons_succ, i64_w, i32_w]
         rfl
        refine pure_ (i := 34) (N := some 4) (v := ?_) (a' := ?_) (bm 35 34359738367) rfl rfl (any_of HT_.out (by kernel_rfl)) (fun _ _ _ h => h) (Or.inl ⟨by rfl, ?_⟩) ?_ ?_
        rotate_left
        ·
         intro w'
         go_simp
         with_reducible rfl
        rotate_left
        ·
         simp only [Act.put, List.setIfInBounds_toArray, List.set_cons_zero, List.set_cons_succ, i64_w, i32_w]
         rfl
        refine done_ (done_of HT_.out (by kernel_rfl)) ?_
        try go_wp2
        go_ret
        exact ⟨by first | rfl | (simp [errW_none, errW_some] <;> rfl) | (simp [*, errW_none, errW_some] <;> rfl), hB_⟩
       ·
        rw [if_neg c63] at H
        have c63b0 : decide ((wrap64 (t485 * t486)) < 0) = false := decide_eq_false c63
        clear c63
        obtain rfl := Option.some.inj H
        try go_wp2
        have n0_ := Aside0.mk (blk_drew BK477.out)
        have n1_ := Aside0.mk (blk_drew BK478.out)
        have n2_ := Aside0.mk (below_drew1 HB.out)
        clear BK477 BK478 HB
        have BK477 := n0_
        have BK478 := n1_
        have HB := n2_
        clear n0_ n1_ n2_
        refine start_ (n := 35) (S := fun w' => w'.cell? ⟨gb477, 0, none⟩ = some (.int .i64 a0_0) ∧ w'.cell? ⟨gb477, 1, none⟩ = some (.int .i64 a0_1) ∧ w'.cell? ⟨gb477, 2, none⟩ = some (.int .i64 a0_2) ∧ w'.cell? ⟨gb477, 3, none⟩ = some (.int .i64 a0_3) ∧ w'.cell? ⟨gb478, 0, none⟩ = some (.int .i64 a1_0) ∧ w'.cell? ⟨gb478, 1, none⟩ = some (.int .i64 a1_1) ∧ w'.cell? ⟨gb478, 2, none⟩ = some (.int .i64 a1_2) ∧ w'.cell? ⟨gb478, 3, none⟩ = some (.int .i64 a1_3)) (ds := []) #[false, false, false, false, false, false, false, false, false, false, false, false, false, false, false, false, false, false, false, false, false, false, false, false, false, false, false, false, false, false, false, false, false, false, false] (by kernel_rfl) rfl rfl ⟨bc_, bc_, bc_, bc_, bc_, bc_, bc_, bc_⟩ (fun hHeld => ?_); refine with_tabW impl_SegMeet.tab5 impl_SegMeet.bits5 (fun HT_ HW_ => ?_)
        generalize wc.drew = w71 at BK477 BK478 HB hHeld ⊢
        refine pure_ (i := 0) (N := some 35) (v := ?_) (a' := ?_) (bm 35 1) rfl rfl (any_of HT_.out (by kernel_rfl)) (fun _ _ _ h => h) (Or.inl ⟨by rfl, ?_⟩) ?_ ?_
        rotate_left
        ·
         intro w'
         go_simp
         with_reducible rfl
        rotate_left
        ·
         simp only [Act.put, List.setIfInBounds_toArray, List.set_cons_zero, List.set_cons_succ, i64_w, i32_w]
         rfl
        refine pure_ (i := 2) (N := some 37) (v := ?_) (a' := ?_) (bm 35 5) rfl rfl (any_of HT_.out (by kernel_rfl)) (fun _ _ _ h => h) (Or.inl ⟨by rfl, ?_⟩) ?_ ?_
        rotate_left
        ·
         intro w'
         go_simp
         with_reducible rfl
        rotate_left
        ·
         simp only [Act.put, List.setIfInBounds_toArray, List.set_cons_zero, List.set_cons_succ, i64_w, i32_w]
         rfl
        refine pure_ (i := 4) (N := some 39) (v := ?_) (a' := ?_) (bm 35 21) rfl rfl (any_of HT_.out (by kernel_rfl)) (fun _ _ _ h => h) (Or.inl ⟨by rfl, ?_⟩) ?_ ?_
        rotate_left
        ·
         intro w'
         go_simp
         with_reducible rfl
        rotate_left
        ·
         simp only [Act.put, List.setIfInBounds_toArray, List.set_cons_zero, List.set_cons_succ, i64_w, i32_w]
         rfl
        refine pure_ (i := 7) (N := some 42) (v := ?_) (a' := ?_) (bm 35 149) rfl rfl (any_of HT_.out (by kernel_rfl)) (fun _ _ _ h => h) (Or.inl ⟨by rfl, ?_⟩) ?_ ?_
        rotate_left
        ·
         intro w'
         go_simp
         with_reducible rfl
        rotate_left
        ·
         simp only [Act.put, List.setIfInBounds_toArray, List.set_cons_zero, List.set_cons_succ, i64_w, i32_w]
         rfl
        refine pure_ (i := 9) (N := some 44) (v := ?_) (a' := ?_) (bm 35 661) rfl rfl (any_of HT_.out (by kernel_rfl)) (fun _ _ _ h => h) (Or.inl ⟨by rfl, ?_⟩) ?_ ?_
        rotate_left
        ·
         intro w'
         go_simp
         with_reducible rfl
        rotate_left
        ·
         simp only [Act.put, List.setIfInBounds_toArray, List.set_cons_zero, List.set_cons_succ, i64_w, i32_w]
         rfl
        refine pure_ (i := 11) (N := some 46) (v := ?_) (a' := ?_) (bm 35 2709) rfl rfl (any_of HT_.out (by kernel_rfl)) (fun _ _ _ h => h) (Or.inl ⟨by rfl, ?_⟩) ?_ ?_
        rotate_left
        ·
         intro w'
         go_simp
         with_reducible rfl
        rotate_left
        ·
         simp only [Act.put, List.setIfInBounds_toArray, List.set_cons_zero, List.set_cons_succ, i64_w, i32_w]
         rfl
        refine take_ (i := 1) (N := some 36) (v := ?_) (a' := ?_) (bm 35 2711) rfl rfl (take_ofW HT_.out HW_.out (by kernel_rfl)) (fun _ _ _ h => h) (Or.inl ⟨by rfl, ?_⟩) hHeld ?_ ?_
        rotate_left
        ·
         rintro w' ⟨s0, s1, s2, s3, s4, s5, s6, s7⟩
         go_simp
         with_reducible rfl
        rotate_left
        ·
         simp only [Act.put, List.setIfInBounds_toArray, List.set_cons_zero, List.set_cons_succ, i64_w, i32_w]
         rfl
        refine take_ (i := 3) (N := some 38) (v := ?_) (a' := ?_) (bm 35 2719) rfl rfl (take_ofW HT_.out HW_.out (by kernel_rfl)) (fun _ _ _ h => h) (Or.inl ⟨by rfl, ?_⟩) hHeld ?_ ?_
        rotate_left
        ·
         rintro w' ⟨s0, s1, s2, s3, s4, s5, s6, s7⟩
         go_simp
         with_reducible rfl
        rotate_left
        ·
         simp only [Act.put, List.setIfInBounds_toArray, List.set_cons_zero, List.set_cons_succ, i64_w, i32_w]
         rfl
        refine take_ (i := 5) (N := some 40) (v := ?_) (a' := ?_) (bm 35 2751) rfl rfl (take_ofW HT_.out HW_.out (by kernel_rfl)) (fun _ _ _ h => h) (Or.inl ⟨by rfl, ?_⟩) hHeld ?_ ?_
        rotate_left
        ·
         rintro w' ⟨s0, s1, s2, s3, s4, s5, s6, s7⟩
         go_simp
         with_reducible rfl
        rotate_left
        ·
         simp only [Act.put, List.setIfInBounds_toArray, List.set_cons_zero, List.set_cons_succ, i64_w, i32_w]
         rfl
        refine take_ (i := 8) (N := some 43) (v := ?_) (a' := ?_) (bm 35 3007) rfl rfl (take_ofW HT_.out HW_.out (by kernel_rfl)) (fun _ _ _ h => h) (Or.inl ⟨by rfl, ?_⟩) hHeld ?_ ?_
        rotate_left
        ·
         rintro w' ⟨s0, s1, s2, s3, s4, s5, s6, s7⟩
         go_simp
         with_reducible rfl
        rotate_left
        ·
         simp only [Act.put, List.setIfInBounds_toArray, List.set_cons_zero, List.set_cons_succ, i64_w, i32_w]
         rfl
        refine take_ (i := 10) (N := some 45) (v := ?_) (a' := ?_) (bm 35 4031) rfl rfl (take_ofW HT_.out HW_.out (by kernel_rfl)) (fun _ _ _ h => h) (Or.inl ⟨by rfl, ?_⟩) hHeld ?_ ?_
        rotate_left
        ·
         rintro w' ⟨s0, s1, s2, s3, s4, s5, s6, s7⟩
         go_simp
         with_reducible rfl
        rotate_left
        ·
         simp only [Act.put, List.setIfInBounds_toArray, List.set_cons_zero, List.set_cons_succ, i64_w, i32_w]
         rfl
        refine take_ (i := 12) (N := some 47) (v := ?_) (a' := ?_) (bm 35 8127) rfl rfl (take_ofW HT_.out HW_.out (by kernel_rfl)) (fun _ _ _ h => h) (Or.inl ⟨by rfl, ?_⟩) hHeld ?_ ?_
        rotate_left
        ·
         rintro w' ⟨s0, s1, s2, s3, s4, s5, s6, s7⟩
         go_simp
         with_reducible rfl
        rotate_left
        ·
         simp only [Act.put, List.setIfInBounds_toArray, List.set_cons_zero, List.set_cons_succ, i64_w, i32_w]
         rfl
        refine one_ (i := 6) (N := some 41) (bm 35 8191) rfl rfl (one_of HT_.out (by kernel_rfl)) (by decide) (fun K hK => ?_)
        refine goes_ Tryd.func64 (by kernel_rfl) rfl #[.agg #[.int .i64 a0_0, .int .i64 a0_1], .agg #[.int .i64 a0_2, .int .i64 a0_3], .agg #[.int .i64 a1_0, .int .i64 a1_1]] (by rfl) rfl rfl ma_ ?_
        with_reducible refine (impl_SegTurn.calls kj17 a0_0 a0_1 a0_2 a0_3 a1_0 a1_1 t485 _ A61.out).mono ?_
        rintro e w72 ⟨rfl, hb⟩
        refine ⟨_, rfl, ?_⟩
        have n0_ := Aside0.mk (ub_ (g := gb477) hb)
        have n1_ := Aside0.mk (ub_ (g := gb478) hb)
        have n2_ := Aside0.mk (below_step hB_ hb)
        clear BK477 BK478 HB
        have BK477 := n0_
        have BK478 := n1_
        have HB := n2_
        clear n0_ n1_ n2_
        (try clear hb)
        (try clear hb2)
        (try clear hk)
        (try clear hi)
        refine hK.out _ _ ⟨bc_, bc_, bc_, bc_, bc_, bc_, bc_, bc_⟩ (fun hHeld => ?_)
        clear hK K
        refine norm_ (a' := ?_) ?_ ?_
        rotate_left
        ·
         show Act.put _ (some 41) _ = _
         simp only [Act.put, List.setIfInBounds_toArray, List.set_cons_zero, List.set_cons_succ, i64_w, i32_w]
         rfl
        refine one_ (i := 13) (N := some 48) (bm 35 16383) rfl rfl (one_of HT_.out (by kernel_rfl)) (by decide) (fun K hK => ?_)
        refine goes_ Tryd.func64 (by kernel_rfl) rfl #[.agg #[.int .i64 a0_0, .int .i64 a0_1], .agg #[.int .i64 a0_2, .int .i64 a0_3], .agg #[.int .i64 a1_2, .int .i64 a1_3]] (by rfl) rfl rfl ma_ ?_
        with_reducible refine (impl_SegTurn.calls kj17 a0_0 a0_1 a0_2 a0_3 a1_2 a1_3 t486 _ A62.out).mono ?_
        rintro e w73 ⟨rfl, hb⟩
        refine ⟨_, rfl, ?_⟩
        have n0_ := Aside0.mk (ub_ (g := gb477) hb)
        have n1_ := Aside0.mk (ub_ (g := gb478) hb)
        have n2_ := Aside0.mk (below_step hB_ hb)
        clear BK477 BK478 HB
        have BK477 := n0_
        have BK478 := n1_
        have HB := n2_
        clear n0_ n1_ n2_
        (try clear hb)
        (try clear hb2)
        (try clear hk)
        (try clear hi)
        refine hK.out _ _ ⟨bc_, bc_, bc_, bc_, bc_, bc_, bc_, bc_⟩ (fun hHeld => ?_)
        clear hK K
        refine norm_ (a' := ?_) ?_ ?_
        rotate_left
        ·
         show Act.put _ (some 48) _ = _
         simp only [Act.put, List.setIfInBounds_toArray, List.set_cons_zero, List.set_cons_succ, i64_w, i32_w]
         rfl
        refine pure_ (i := 14) (N := some 49) (v := ?_) (a' := ?_) (bm 35 32767) rfl rfl (any_of HT_.out (by kernel_rfl)) (fun _ _ _ h => h) (Or.inl ⟨by rfl, ?_⟩) ?_ ?_
        rotate_left
        ·
         intro w'
         go_simp
         with_reducible rfl
        rotate_left
        ·
         simp only [Act.put, List.setIfInBounds_toArray, List.set_cons_zero, List.set_cons_succ, i64_w, i32_w]
         rfl
        refine pure_ (i := 15) (N := some 50) (v := ?_) (a' := ?_) (bm 35 65535) rfl rfl (any_of HT_.out (by kernel_rfl)) (fun _ _ _ h => h) (Or.inl ⟨by rfl, ?_⟩) ?_ ?_
        rotate_left
        ·
         intro w'
         go_simp
         with_reducible rfl
        rotate_left
        ·
         simp only [Act.put, List.setIfInBounds_toArray, List.set_cons_zero, List.set_cons_succ, i64_w, i32_w]
         rfl
        refine pure_ (i := 16) (N := some 51) (v := ?_) (a' := ?_) (bm 35 131071) rfl rfl (any_of HT_.out (by kernel_rfl)) (fun _ _ _ h => h) (Or.inl ⟨by rfl, ?_⟩) ?_ ?_
        rotate_left
        ·
         intro w'
         go_simp
         with_reducible rfl
        rotate_left
        ·
         simp only [Act.put, List.setIfInBounds_toArray, List.set_cons_zero, List.set_cons_succ, i64_w, i32_w]
         rfl
        refine pure_ (i := 17) (N := some 52) (v := undef) (a' := ?_) (bm 35 262143) rfl rfl (any_of HT_.out (by kernel_rfl)) (fun _ _ _ h => h) (Or.inr ⟨by rfl, rfl⟩) ?_ ?_
        rotate_left
        ·
         simp only [Act.put, List.setIfInBounds_toArray, List.set_cons_zero, List.set_cons_succ, i64_w, i32_w]
         rfl
        refine pure_ (i := 18) (N := some 53) (v := undef) (a' := ?_) (bm 35 524287) rfl rfl (any_of HT_.out (by kernel_rfl)) (fun _ _ _ h => h) (Or.inr ⟨by rfl, rfl⟩) ?_ ?_
        rotate_left
        ·
         simp only [Act.put, List.setIfInBounds_toArray, List.set_cons_zero, List.set_cons_succ, i64_w, i32_w]
         rfl
        refine pure_ (i := 19) (N := some 54) (v := undef) (a' := ?_) (bm 35 1048575) rfl rfl (any_of HT_.out (by kernel_rfl)) (fun _ _ _ h => h) (Or.inr ⟨by rfl, rfl⟩) ?_ ?_
        rotate_left
        ·
         simp only [Act.put, List.setIfInBounds_toArray, List.set_cons_zero, List.set_cons_succ, i64_w, i32_w]
         rfl
        refine pure_ (i := 20) (N := some 55) (v := undef) (a' := ?_) (bm 35 2097151) rfl rfl (any_of HT_.out (by kernel_rfl)) (fun _ _ _ h => h) (Or.inr ⟨by rfl, rfl⟩) ?_ ?_
        rotate_left
        ·
         simp only [Act.put, List.setIfInBounds_toArray, List.set_cons_zero, List.set_cons_succ, i64_w, i32_w]
         rfl
        refine pure_ (i := 21) (N := some 56) (v := undef) (a' := ?_) (bm 35 4194303) rfl rfl (any_of HT_.out (by kernel_rfl)) (fun _ _ _ h => h) (Or.inr ⟨by rfl, rfl⟩) ?_ ?_
        rotate_left
        ·
         simp only [Act.put, List.setIfInBounds_toArray, List.set_cons_zero, List.set_cons_succ, i64_w, i32_w]
         rfl
        refine pure_ (i := 22) (N := some 57) (v := undef) (a' := ?_) (bm 35 8388607) rfl rfl (any_of HT_.out (by kernel_rfl)) (fun _ _ _ h => h) (Or.inr ⟨by rfl, rfl⟩) ?_ ?_
        rotate_left
        ·
         simp only [Act.put, List.setIfInBounds_toArray, List.set_cons_zero, List.set_cons_succ, i64_w, i32_w]
         rfl
        refine pure_ (i := 23) (N := some 58) (v := undef) (a' := ?_) (bm 35 16777215) rfl rfl (any_of HT_.out (by kernel_rfl)) (fun _ _ _ h => h) (Or.inr ⟨by rfl, rfl⟩) ?_ ?_
        rotate_left
        ·
         simp only [Act.put, List.setIfInBounds_toArray, List.set_cons_zero, List.set_cons_succ, i64_w, i32_w]
         rfl
        refine pure_ (i := 24) (N := some 59) (v := undef) (a' := ?_) (bm 35 33554431) rfl rfl (any_of HT_.out (by kernel_rfl)) (fun _ _ _ h => h) (Or.inr ⟨by rfl, rfl⟩) ?_ ?_
        rotate_left
        ·
         simp only [Act.put, List.setIfInBounds_toArray, List.set_cons_zero, List.set_cons_succ, i64_w, i32_w]
         rfl
        refine pure_ (i := 25) (N := some 60) (v := undef) (a' := ?_) (bm 35 67108863) rfl rfl (any_of HT_.out (by kernel_rfl)) (fun _ _ _ h => h) (Or.inr ⟨by rfl, rfl⟩) ?_ ?_
        rotate_left
        ·
         simp only [Act.put, List.setIfInBounds_toArray, List.set_cons_zero, List.set_cons_succ, i64_w, i32_w]
         rfl
        refine pure_ (i := 26) (N := some 61) (v := undef) (a' := ?_) (bm 35 134217727) rfl rfl (any_of HT_.out (by kernel_rfl)) (fun _ _ _ h => h) (Or.inr ⟨by rfl, rfl⟩) ?_ ?_
        rotate_left
        ·
         simp only [Act.put, List.setIfInBounds_toArray, List.set_cons_zero, List.set_cons_succ, i64_w, i32_w]
         rfl
        refine pure_ (i := 27) (N := some 62) (v := undef) (a' := ?_) (bm 35 268435455) rfl rfl (any_of HT_.out (by kernel_rfl)) (fun _ _ _ h => h) (Or.inr ⟨by rfl, rfl⟩) ?_ ?_
        rotate_left
        ·
         simp only [Act.put, List.setIfInBounds_toArray, List.set_cons_zero, List.set_cons_succ, i64_w, i32_w]
         rfl
        refine pure_ (i := 28) (N := some 63) (v := undef) (a' := ?_) (bm 35 536870911) rfl rfl (any_of HT_.out (by kernel_rfl)) (fun _ _ _ h => h) (Or.inr ⟨by rfl, rfl⟩) ?_ ?_
        rotate_left
        ·
         simp only [Act.put, List.setIfInBounds_toArray, List.set_cons_zero, List.set_cons_succ, i64_w, i32_w]
         rfl
        refine pure_ (i := 29) (N := some 64) (v := undef) (a' := ?_) (bm 35 1073741823) rfl rfl (any_of HT_.out (by kernel_rfl)) (fun _ _ _ h => h) (Or.inr ⟨by rfl, rfl⟩) ?_ ?_
        rotate_left
        ·
         simp only [Act.put, List.setIfInBounds_toArray, List.set_cons_zero, List.set_cons_succ, i64_w, i32_w]
         rfl
        refine pure_ (i := 30) (N := some 65) (v := undef) (a' := ?_) (bm 35 2147483647) rfl rfl (any_of HT_.out (by kernel_rfl)) (fun _ _ _ h => h) (Or.inr ⟨by rfl, rfl⟩) ?_ ?_
        rotate_left
        ·
         simp only [Act.put, List.setIfInBounds_toArray, List.set_cons_zero, List.set_cons_succ, i64_w, i32_w]
         rfl
        refine pure_ (i := 31) (N := some 66) (v := undef) (a' := ?_) (bm 35 4294967295) rfl rfl (any_of HT_.out (by kernel_rfl)) (fun _ _ _ h => h) (Or.inr ⟨by rfl, rfl⟩) ?_ ?_
        rotate_left
        ·
         simp only [Act.put, List.setIfInBounds_toArray, List.set_cons_zero, List.set_cons_succ, i64_w, i32_w]
         rfl
        refine pure_ (i := 32) (N := some 67) (v := undef) (a' := ?_) (bm 35 8589934591) rfl rfl (any_of HT_.out (by kernel_rfl)) (fun _ _ _ h => h) (Or.inr ⟨by rfl, rfl⟩) ?_ ?_
        rotate_left
        ·
         simp only [Act.put, List.setIfInBounds_toArray, List.set_cons_zero, List.set_cons_succ, i64_w, i32_w]
         rfl
        refine pure_ (i := 33) (N := some 68) (v := ?_) (a' := ?_) (bm 35 17179869183) rfl rfl (any_of HT_.out (by kernel_rfl)) (fun _ _ _ h => h) (Or.inl ⟨by rfl, ?_⟩) ?_ ?_
        rotate_left
        ·
         intro w'
         go_simp
         with_reducible rfl
        rotate_left
        ·
         simp only [Act.put, List.setIfInBounds_toArray, List.set_cons_zero, List.set_cons_succ, i64_w, i32_w]
         rfl
        refine pure_ (i := 34) (N := some 4) (v := ?_) (a' := ?_) (bm 35 34359738367) rfl rfl (any_of HT_.out (by kernel_rfl)) (fun _ _ _ h => h) (Or.inl ⟨by rfl, ?_⟩) ?_ ?_
        rotate_left
        ·
         intro w'
         go_simp
         with_reducible rfl
        rotate_left
        ·
         simp only [Act.put, List.setIfInBounds_toArray, List.set_cons_zero, List.set_cons_succ, i64_w, i32_w]
         rfl
        refine done_ (done_of HT_.out (by kernel_rfl)) ?_
        try go_wp2
        go_ret
        exact ⟨by first | rfl | (simp [errW_none, errW_some] <;> rfl) | (simp [*, errW_none, errW_some] <;> rfl), hB_⟩
end Go.Proofs.YtnponnkcfgjeoaaDoor.X
end
section
namespace Go.Proofs.YtnponnkcfgjeoaaDoor.X
open Go.RowKit Go.Proofs.YtnponnkcfgjeoaaDoorW.PrintWords Go.Proofs.YtnponnkcfgjeoaaDoorW.PrintLast Go.Proofs.YtnponnkcfgjeoaaDoorW.PrintMore
attribute [local go_sem] max2_int min2_int max_two min_two max_three min_three max_four min_four
set_option linter.unusedVariables false
set_option linter.unusedSimpArgs false
def impl_standOf.f (a0_0 : Int) (a0_1 : Int) (a0_2 : Int) (a0_3 : Int) (a1_0 : Int) (a1_1 : Int) : Option (Int) := (impl_along.f a0_0 a0_1 a0_2 a0_3 a1_0 a1_1).bind fun t334 => (if t334 ≤ 0 then (some 0) else ((impl_between.f a0_0 a0_1 a0_2 a0_3).bind fun t335 => (if t334 ≥ t335 then (some 2) else (some 1))))
set_option maxHeartbeats 8000000 in
set_option maxRecDepth 100000 in
theorem impl_standOf.calls (a0_0 : Int) (a0_1 : Int) (a0_2 : Int) (a0_3 : Int) (a1_0 : Int) (a1_1 : Int) (r : Int) (w : World) (h : impl_standOf.f a0_0 a0_1 a0_2 a0_3 a1_0 a1_1 = some r) :
  Calls Tryd.prog 58 #[.agg #[.int .i64 a0_0, .int .i64 a0_1, .int .i64 a0_2, .int .i64 a0_3], .agg #[.int .i64 a1_0, .int .i64 a1_1]] w fun e w' => e = .returned (.int .i64 r) ∧ Below w.heap.size w w' := by
 have hu40 := Tryd.underlying40
 have hu38 := Tryd.underlying38
 have HB := Aside0.mk (Below.refl w.heap.size w)
 have H : ((impl_along.f a0_0 a0_1 a0_2 a0_3 a1_0 a1_1).bind fun t334 => (if t334 ≤ 0 then (some 0) else ((impl_between.f a0_0 a0_1 a0_2 a0_3).bind fun t335 => (if t334 ≥ t335 then (some 2) else (some 1))))) = some r := h
 clear h
 replace H := Option.bind_eq_some_iff.mp H
 obtain ⟨t334, A30, H⟩ := H
 replace H : (if t334 ≤ 0 then (some 0) else ((impl_between.f a0_0 a0_1 a0_2 a0_3).bind fun t335 => (if t334 ≥ t335 then (some 2) else (some 1)))) = some r := H
 have A3 := Aside0.mk A30
 clear A30
 by_cases c4 : t334 ≤ 0
 ·
  rw [if_pos c4] at H
  have c4b0 : decide (t334 ≤ 0) = true := decide_eq_true c4
  clear c4
  obtain rfl := Option.some.inj H
  go_enter Tryd.func58, Tryd.ntmps58
  go_wp2_with (first | ((with_reducible refine gate_dst (N := 2) rfl ?_); refine box_event ?hg (N := 2) ?hd (cs := #[.int .i64 a0_0, .int .i64 a0_1, .int .i64 a0_2, .int .i64 a0_3]) (t := 40) ?hr ?_; (case hd => rfl); (case hg => rfl); (case hr => first | (go_simp; done) | (go_simp; rfl)); intro gb332 hg w5 hbox hb; have n0_ := Aside0.mk (below_step hB_ hb); have n1_ := Aside0.mk (hbox); have n2_ := Aside0.mk ((by rw [hg]; exact (below_size hB_) : w.heap.size ≤ gb332)); have n3_ := Aside0.mk ((by rw [hg]; exact (below_size hB_) : w.heap.size ≤ gb332)); clear HB; have HB := n0_; have BK332 := n1_; have GW332 := n2_; have GE332 := n3_; clear n0_ n1_ n2_ n3_; clear hb hbox hg) | ((with_reducible refine gate_dst (N := 3) rfl ?_); refine box_event ?hg (N := 3) ?hd (cs := #[.int .i64 a1_0, .int .i64 a1_1]) (t := 38) ?hr ?_; (case hd => rfl); (case hg => rfl); (case hr => first | (go_simp; done) | (go_simp; rfl)); intro gb333 hg w6 hbox hb; have n0_ := Aside0.mk (ub_ (g := gb332) hb); have n1_ := Aside0.mk (below_step hB_ hb); have n2_ := Aside0.mk (hbox); have n3_ := Aside0.mk ((by rw [hg]; exact (below_size hB_) : w.heap.size ≤ gb333)); have n4_ := Aside0.mk ((by rw [hg]; exact (below_size hB_) : w.heap.size ≤ gb333)); have n5_ := Aside0.mk ((by rw [hg]; exact Nat.ne_of_lt (blk_lt (g := gb332) (o := .cells #[.int .i64 a0_0, .int .i64 a0_1, .int .i64 a0_2, .int .i64 a0_3] 40 (0, 0)) uq_) : gb332 ≠ gb333)); have n6_ := Aside0.mk ((by rw [hg]; exact Nat.ne_of_gt (blk_lt (g := gb332) (o := .cells #[.int .i64 a0_0, .int .i64 a0_1, .int .i64 a0_2, .int .i64 a0_3] 40 (0, 0)) uq_) : gb333 ≠ gb332)); clear BK332; clear HB; have BK332 := n0_; have HB := n1_; have BK333 := n2_; have GW333 := n3_; have GE333 := n4_; have NB332_333 := n5_; have NB333_332 := n6_; clear n0_ n1_ n2_ n3_ n4_ n5_ n6_; clear hb hbox hg; have hnb7 := NB332_333.out; have hnc7 := NB333_332.out; have hcz8_0 : w6.cell? ⟨gb332, 0, none⟩ = some (.int .i64 a0_0) := bc_; have hcz8_1 : w6.cell? ⟨gb332, 1, none⟩ = some (.int .i64 a0_1) := bc_; have hcz8_2 : w6.cell? ⟨gb332, 2, none⟩ = some (.int .i64 a0_2) := bc_; have hcz8_3 : w6.cell? ⟨gb332, 3, none⟩ = some (.int .i64 a0_3) := bc_; have hfz8_0 := blk_frozen BK332.out 0; have hfz8_1 := blk_frozen BK332.out 1; have hfz8_2 := blk_frozen BK332.out 2; have hfz8_3 := blk_frozen BK332.out 3; have hcz9_0 : w6.cell? ⟨gb333, 0, none⟩ = some (.int .i64 a1_0) := bc_; have hcz9_1 : w6.cell? ⟨gb333, 1, none⟩ = some (.int .i64 a1_1) := bc_; have hfz9_0 := blk_frozen BK333.out 0; have hfz9_1 := blk_frozen BK333.out 1) | ((with_reducible refine gate_callee (f := 60) rfl ?_); refine goesL_ (some 11) rfl rfl Tryd.func60 (by kernel_rfl) rfl #[.agg #[.int .i64 a0_0, .int .i64 a0_1], .agg #[.int .i64 a0_2, .int .i64 a0_3], .agg #[.int .i64 a1_0, .int .i64 a1_1]] rfl ma_ ?_; (with_reducible refine (impl_along.calls a0_0 a0_1 a0_2 a0_3 a1_0 a1_1 t334 _ A3.out).mono ?_); rintro e w10 ⟨rfl, hb⟩; refine ⟨_, rfl, ?_⟩; have n0_ := Aside0.mk (ub_ (g := gb332) hb); have n1_ := Aside0.mk (ub_ (g := gb333) hb); have n2_ := Aside0.mk (below_step hB_ hb); clear BK332; clear BK333; clear HB; have BK332 := n0_; have BK333 := n1_; have HB := n2_; clear n0_ n1_ n2_; (try clear hb); (try clear hb2); (try clear hk); (try clear hi)))
  go_ret
  exact ⟨by first | rfl | (simp [errW_none, errW_some] <;> rfl) | (simp [*, errW_none, errW_some] <;> rfl), hB_⟩
 ·
  rw [if_neg c4] at H
  have c4b0 : decide (t334 ≤ 0) = false := decide_eq_false c4
  clear c4
  replace H := Option.bind_eq_some_iff.mp H
  obtain ⟨t335, A110, H⟩ := H
  replace H : (if t334 ≥ t335 then (some 2) else (some 1)) = some r := H
  have A11 := Aside0.mk A110
  clear A110
  by_cases c12 : t334 ≥ t335
  ·
   rw [if_pos c12] at H
   have c12b0 : decide (t335 ≤ t334) = true := decide_eq_true c12
   clear c12
   obtain rfl := Option.some.inj H
   go_enter Tryd.func58, Tryd.ntmps58
   go_wp2_with (first | ((with_reducible refine gate_dst (N := 2) rfl ?_); refine box_event ?hg (N := 2) ?hd (cs := #[.int .i64 a0_0, .int .i64 a0_1, .int .i64 a0_2, .int .i64 a0_3]) (t := 40) ?hr ?_; (case hd => rfl); (case hg => rfl); (case hr => first | (go_simp; done) | (go_simp; rfl)); intro gb332 hg w13 hbox hb; have n0_ := Aside0.mk (below_step hB_ hb); have n1_ := Aside0.mk (hbox); have n2_ := Aside0.mk ((by rw [hg]; exact (below_size hB_) : w.heap.size ≤ gb332)); have n3_ := Aside0.mk ((by rw [hg]; exact (below_size hB_) : w.heap.size ≤ gb332)); clear HB; have HB := n0_; have BK332 := n1_; have GW332 := n2_; have GE332 := n3_; clear n0_ n1_ n2_ n3_; clear hb hbox hg) | ((with_reducible refine gate_dst (N := 3) rfl ?_); refine box_event ?hg (N := 3) ?hd (cs := #[.int .i64 a1_0, .int .i64 a1_1]) (t := 38) ?hr ?_; (case hd => rfl); (case hg => rfl); (case hr => first | (go_simp; done) | (go_simp; rfl)); intro gb333 hg w14 hbox hb; have n0_ := Aside0.mk (ub_ (g := gb332) hb); have n1_ := Aside0.mk (below_step hB_ hb); have n2_ := Aside0.mk (hbox); have n3_ := Aside0.mk ((by rw [hg]; exact (below_size hB_) : w.heap.size ≤ gb333)); have n4_ := Aside0.mk ((by rw [hg]; exact (below_size hB_) : w.heap.size ≤ gb333)); have n5_ := Aside0.mk ((by rw [hg]; exact Nat.ne_of_lt (blk_lt (g := gb332) (o := .cells #[.int .i64 a0_0, .int .i64 a0_1, .int .i64 a0_2, .int .i64 a0_3] 40 (0, 0)) uq_) : gb332 ≠ gb333)); have n6_ := Aside0.mk ((by rw [hg]; exact Nat.ne_of_gt (blk_lt (g := gb332) (o := .cells #[.int .i64 a0_0, .int .i64 a0_1, .int .i64 a0_2, .int .i64 a0_3] 40 (0, 0)) uq_) : gb333 ≠ gb332)); clear BK332; clear HB; have BK332 := n0_; have HB := n1_; have BK333 := n2_; have GW333 := n3_; have GE333 := n4_; have NB332_333 := n5_; have NB333_332 := n6_; clear n0_ n1_ n2_ n3_ n4_ n5_ n6_; clear hb hbox hg; have hnb15 := NB332_333.out; have hnc15 := NB333_332.out; have hcz16_0 : w14.cell? ⟨gb332, 0, none⟩ = some (.int .i64 a0_0) := bc_; have hcz16_1 : w14.cell? ⟨gb332, 1, none⟩ = some (.int .i64 a0_1) := bc_; have hcz16_2 : w14.cell? ⟨gb332, 2, none⟩ = some (.int .i64 a0_2) := bc_; have hcz16_3 : w14.cell? ⟨gb332, 3, none⟩ = some (.int .i64 a0_3) := bc_; have hfz16_0 := blk_frozen BK332.out 0; have hfz16_1 := blk_frozen BK332.out 1; have hfz16_2 := blk_frozen BK332.out 2; have hfz16_3 := blk_frozen BK332.out 3; have hcz17_0 : w14.cell? ⟨gb333, 0, none⟩ = some (.int .i64 a1_0) := bc_; have hcz17_1 : w14.cell? ⟨gb333, 1, none⟩ = some (.int .i64 a1_1) := bc_; have hfz17_0 := blk_frozen BK333.out 0; have hfz17_1 := blk_frozen BK333.out 1) | ((with_reducible refine gate_callee (f := 60) rfl ?_); refine goesL_ (some 11) rfl rfl Tryd.func60 (by kernel_rfl) rfl #[.agg #[.int .i64 a0_0, .int .i64 a0_1], .agg #[.int .i64 a0_2, .int .i64 a0_3], .agg #[.int .i64 a1_0, .int .i64 a1_1]] rfl ma_ ?_; (with_reducible refine (impl_along.calls a0_0 a0_1 a0_2 a0_3 a1_0 a1_1 t334 _ A3.out).mono ?_); rintro e w18 ⟨rfl, hb⟩; refine ⟨_, rfl, ?_⟩; have n0_ := Aside0.mk (ub_ (g := gb332) hb); have n1_ := Aside0.mk (ub_ (g := gb333) hb); have n2_ := Aside0.mk (below_step hB_ hb); clear BK332; clear BK333; clear HB; have BK332 := n0_; have BK333 := n1_; have HB := n2_; clear n0_ n1_ n2_; (try clear hb); (try clear hb2); (try clear hk); (try clear hi); have hcz19_0 : w18.cell? ⟨gb332, 0, none⟩ = some (.int .i64 a0_0) := bc_; have hcz19_1 : w18.cell? ⟨gb332, 1, none⟩ = some (.int .i64 a0_1) := bc_; have hcz19_2 : w18.cell? ⟨gb332, 2, none⟩ = some (.int .i64 a0_2) := bc_; have hcz19_3 : w18.cell? ⟨gb332, 3, none⟩ = some (.int .i64 a0_3) := bc_; have hfz19_0 := blk_frozen BK332.out 0; have hfz19_1 := blk_frozen BK332.out 1; have hfz19_2 := blk_frozen BK332.out 2; have hfz19_3 := blk_frozen BK332.out 3) | ((with_reducible refine gate_callee (f := 54) rfl ?_); refine goesL_ (some 21) rfl rfl Tryd.func54 (by kernel_rfl) rfl #[.agg #[.int .i64 a0_0, .int .i64 a0_1], .agg #[.int .i64 a0_2, .int .i64 a0_3]] rfl ma_ ?_; (with_reducible refine (impl_between.calls a0_0 a0_1 a0_2 a0_3 t335 _ A11.out).mono ?_); rintro e w20 ⟨rfl, hb⟩; refine ⟨_, rfl, ?_⟩; have n0_ := Aside0.mk (ub_ (g := gb332) hb); have n1_ := Aside0.mk (ub_ (g := gb333) hb); have n2_ := Aside0.mk (below_step hB_ hb); clear BK332; clear BK333; clear HB; have BK332 := n0_; have BK333 := n1_; have HB := n2_; clear n0_ n1_ n2_; (try clear hb); (try clear hb2); (try clear hk); (try clear hi)))
   go_ret
   exact ⟨by first | rfl | (simp [errW_none, errW_some] <;> rfl) | (simp [*, errW_none, errW_some] <;> rfl), hB_⟩
  ·
   rw [if_neg c12] at H
   have c12b0 : decide (t335 ≤ t334) = false := decide_eq_false c12
   clear c12
   obtain rfl := Option.some.inj H
   go_enter Tryd.func58, Tryd.ntmps58
   go_wp2_with (first | ((with_reducible refine gate_dst (N := 2) rfl ?_); refine box_event ?hg (N := 2) ?hd (cs := #[.int .i64 a0_0, .int .i64 a0_1, .int .i64 a0_2, .int .i64 a0_3]) (t := 40) ?hr ?_; (case hd => rfl); (case hg => rfl); (case hr => first | (go_simp; done) | (go_simp; rfl)); intro gb332 hg w21 hbox hb; have n0_ := Aside0.mk (below_step hB_ hb); have n1_ := Aside0.mk (hbox); have n2_ := Aside0.mk ((by rw [hg]; exact (below_size hB_) : w.heap.size ≤ gb332)); have n3_ := Aside0.mk ((by rw [hg]; exact (below_size hB_) : w.heap.size ≤ gb332)); clear HB; have HB := n0_; have BK332 := n1_; have GW332 := n2_; have GE332 := n3_; clear n0_ n1_ n2_ n3_; clear hb hbox hg) | ((with_reducible refine gate_dst (N := 3) rfl ?_); refine box_event ?hg (N := 3) ?hd (cs := #[.int .i64 a1_0, .int .i64 a1_1]) (t := 38) ?hr ?_; (case hd => rfl); (case hg => rfl); (case hr => first | (go_simp; done) | (go_simp; rfl)); intro gb333 hg w22 hbox hb; have n0_ := Aside0.mk (ub_ (g := gb332) hb); have n1_ := Aside0.mk (below_step hB_ hb); have n2_ := Aside0.mk (hbox); have n3_ := Aside0.mk ((by rw [hg]; exact (below_size hB_) : w.heap.size ≤ gb333)); have n4_ := Aside0.mk ((by rw [hg]; exact (below_size hB_) : w.heap.size ≤ gb333)); have n5_ := Aside0.mk ((by rw [hg]; exact Nat.ne_of_lt (blk_lt (g := gb332) (o := .cells #[.int .i64 a0_0, .int .i64 a0_1, .int .i64 a0_2, .int .i64 a0_3] 40 (0, 0)) uq_) : gb332 ≠ gb333)); have n6_ := Aside0.mk ((by rw [hg]; exact Nat.ne_of_gt (blk_lt (g := gb332) (o := .cells #[.int .i64 a0_0, .int .i64 a0_1, .int .i64 a0_2, .int .i64 a0_3] 40 (0, 0)) uq_) : gb333 ≠ gb332)); clear BK332; clear HB; have BK332 := n0_; have HB := n1_; have BK333 := n2_; have GW333 := n3_; have GE333 := n4_; have NB332_333 := n5_; have NB333_332 := n6_; clear n0_ n1_ n2_ n3_ n4_ n5_ n6_; clear hb hbox hg; have hnb23 := NB332_333.out; have hnc23 := NB333_332.out; have hcz24_0 : w22.cell? ⟨gb332, 0, none⟩ = some (.int .i64 a0_0) := bc_; have hcz24_1 : w22.cell? ⟨gb332, 1, none⟩ = some (.int .i64 a0_1) := bc_; have hcz24_2 : w22.cell? ⟨gb332, 2, none⟩ = some (.int .i64 a0_2) := bc_; have hcz24_3 : w22.cell? ⟨gb332, 3, none⟩ = some (.int .i64 a0_3) := bc_; have hfz24_0 := blk_frozen BK332.out 0; have hfz24_1 := blk_frozen BK332.out 1; have hfz24_2 := blk_frozen BK332.out 2; have hfz24_3 := blk_frozen BK332.out 3; have hcz25_0 : w22.cell? ⟨gb333, 0, none⟩ = some (.int .i64 a1_0) := bc_; have hcz25_1 : w22.cell? ⟨gb333, 1, none⟩ = some (.int .i64 a1_1) := bc_; have hfz25_0 := blk_frozen BK333.out 0; have hfz25_1 := blk_frozen BK333.out 1) | ((with_reducible refine gate_callee (f := 60) rfl ?_); refine goesL_ (some 11) rfl rfl Tryd.func60 (by kernel_rfl) rfl #[.agg #[.int .i64 a0_0, .int .i64 a0_1], .agg #[.int .i64 a0_2, .int .i64 a0_3], .agg #[.int .i64 a1_0, .int .i64 a1_1]] rfl ma_ ?_; (with_reducible refine (impl_along.calls a0_0 a0_1 a0_2 a0_3 a1_0 a1_1 t334 _ A3.out).mono ?_); rintro e w26 ⟨rfl, hb⟩; refine ⟨_, rfl, ?_⟩; have n0_ := Aside0.mk (ub_ (g := gb332) hb); have n1_ := Aside0.mk (ub_ (g := gb333) hb); have n2_ := Aside0.mk (below_step hB_ hb); clear BK332; clear BK333; clear HB; have BK332 := n0_; have BK333 := n1_; have HB := n2_; clear n0_ n1_ n2_; (try clear hb); (try clear hb2); (try clear hk); (try clear hi); have hcz27_0 : w26.cell? ⟨gb332, 0, none⟩ = some (.int .i64 a0_0) := bc_; have hcz27_1 : w26.cell? ⟨gb332, 1, none⟩ = some (.int .i64 a0_1) := bc_; have hcz27_2 : w26.cell? ⟨gb332, 2, none⟩ = some (.int .i64 a0_2) := bc_; have hcz27_3 : w26.cell? ⟨gb332, 3, none⟩ = some (.int .i64 a0_3) := bc_; have hfz27_0 := blk_frozen BK332.out 0; have hfz27_1 := blk_frozen BK332.out 1; have hfz27_2 := blk_frozen BK332.out 2; have hfz27_3 := blk_frozen BK332.out 3) | ((with_reducible refine gate_callee (f := 54) rfl ?_); refine goesL_ (some 21) rfl rfl Tryd.func54 (by kernel_rfl) rfl #[.agg #[.int .i64 a0_0, .int .i64 a0_1], .agg #[.int .i64 a0_2, .int .i64 a0_3]] rfl ma_ ?_; (with_reducible refine (impl_between.calls a0_0 a0_1 a0_2 a0_3 t335 _ A11.out).mono ?_); rintro e w28 ⟨rfl, hb⟩; refine ⟨_, rfl, ?_⟩; have n0_ := Aside0.mk (ub_ (g := gb332) hb); have n1_ := Aside0.mk (ub_ (g := gb333) hb); have n2_ := Aside0.mk (below_step hB_ hb); clear BK332; clear BK333; clear HB; have BK332 := n0_; have BK333 := n1_; have HB := n2_; clear n0_ n1_ n2_; (try clear hb); (try clear hb2); (try clear hk); (try clear hi)))
   go_ret
   exact ⟨by first | rfl | (simp [errW_none, errW_some] <;> rfl) | (simp [*, errW_none, errW_some] <;> rfl), hB_⟩
end Go.Proofs.YtnponnkcfgjeoaaDoor.X
end
section
namespace Go.Proofs.YtnponnkcfgjeoaaDoor.X
open Go.RowKit Go.Proofs.YtnponnkcfgjeoaaDoorW.PrintWords Go.Proofs.YtnponnkcfgjeoaaDoorW.PrintLast Go.Proofs.YtnponnkcfgjeoaaDoorW.PrintMore
attribute [local go_sem] max2_int min2_int max_two min_two max_three min_three max_four min_four
set_option linter.unusedVariables false
set_option linter.unusedSimpArgs false
def impl_FracOf.f (k : Nat) (a0 : Int) (a1 : Int) : Option (Int × Int × Bool) := if a0 < 0 then (some (0, 0, false)) else (if a0 > 99999 then (some (0, 0, false)) else (if a1 < 1 then (some (0, 0, false)) else (if a1 > 99999 then (some (0, 0, false)) else ((impl_commonDivisor.f k a0 a1).bind fun t177 => (if t177 = 0 then (none) else (some (wrap64 (Int.tdiv a0 t177), wrap64 (Int.tdiv a1 t177), true)))))))
def impl_FracOf.T4 : Bool × List (List Nat × List Nat) := (true, [([], []), ([], []), ([0, 1], [0, 1]), ([], []), ([], []), ([3, 4], [3, 4]), ([2, 5], [2, 5]), ([6, 0, 1, 2, 3, 4, 5, 6], [6]), ([7, 0, 1, 2, 3, 4, 5, 6, 7], [])])
def impl_FracOf.B4 : List Nat := [0, 0, 3, 0, 0, 24, 63, 127, 255]
theorem impl_FracOf.tab4 : rtab .any (opsOf Tryd.f21 4) = impl_FracOf.T4 := by kernel_rfl
theorem impl_FracOf.bits4 : waitsOk impl_FracOf.T4.2 impl_FracOf.B4 = true := by kernel_rfl
set_option maxHeartbeats 8000000 in
set_option maxRecDepth 100000 in
theorem impl_FracOf.calls (k : Nat) (a0 : Int) (a1 : Int) (r1 : Int) (r2 : Int) (r3 : Bool) (w : World) (h : impl_FracOf.f k a0 a1 = some (r1, r2, r3)) :
  Calls Tryd.prog 21 #[.int .i64 a0, .int .i64 a1] w fun e w' => e = .returned (.tuple #[.agg #[.int .i64 r1, .int .i64 r2], .bool r3]) ∧ Below w.heap.size w w' := by
 have hu25 := Tryd.underlying25
 have HB := Aside0.mk (Below.refl w.heap.size w)
 have H : (if a0 < 0 then (some (0, 0, false)) else (if a0 > 99999 then (some (0, 0, false)) else (if a1 < 1 then (some (0, 0, false)) else (if a1 > 99999 then (some (0, 0, false)) else ((impl_commonDivisor.f k a0 a1).bind fun t177 => (if t177 = 0 then (none) else (some (wrap64 (Int.tdiv a0 t177), wrap64 (Int.tdiv a1 t177), true)))))))) = some (r1, r2, r3) := h
 clear h
 by_cases c3 : a0 < 0
 ·
  rw [if_pos c3] at H
  have c3b0 : decide (a0 < 0) = true := decide_eq_true c3
  clear c3
  simp only [Option.some.injEq, Prod.mk.injEq] at H
  obtain ⟨rfl, rfl, rfl⟩ := H
  go_enter Tryd.func21, Tryd.ntmps21
  go_wp2_with (first | ((with_reducible refine gate_dst (N := 4) rfl ?_); refine box_event ?hg (N := 4) ?hd (cs := #[.int .i64 0, .int .i64 0]) (t := 25) ?hr ?_; (case hd => rfl); (case hg => rfl); (case hr => first | (go_simp; done) | (go_simp; rfl)); intro gb176 hg w4 hbox hb; have n0_ := Aside0.mk (below_step hB_ hb); have n1_ := Aside0.mk (hbox); have n2_ := Aside0.mk ((by rw [hg]; exact (below_size hB_) : w.heap.size ≤ gb176)); have n3_ := Aside0.mk ((by rw [hg]; exact (below_size hB_) : w.heap.size ≤ gb176)); clear HB; have HB := n0_; have BK176 := n1_; have GW176 := n2_; have GE176 := n3_; clear n0_ n1_ n2_ n3_; clear hb hbox hg; have hcz5_0 : w4.cell? ⟨gb176, 0, none⟩ = some (.int .i64 0) := bc_; have hcz5_1 : w4.cell? ⟨gb176, 1, none⟩ = some (.int .i64 0) := bc_; have hfz5_0 := blk_frozen BK176.out 0; have hfz5_1 := blk_frozen BK176.out 1))
  refine bodyPost_ret (results_ct rfl _ _ gb176 25 #[.int .i64 0, .int .i64 0] (0, 0) _ rfl (by (with_reducible repeat (first | refine blk_drewN ?_ _ | refine blk_drew ?_ | refine blk_alloc ?_ _)); refine blk_put (cs := #[.int .i64 0, .int .i64 0]) ?_ 1 _ rfl; (with_reducible repeat (first | refine blk_drewN ?_ _ | refine blk_drew ?_ | refine blk_alloc ?_ _)); refine blk_put (cs := #[.int .i64 0, .int .i64 0]) ?_ 0 _ rfl; (with_reducible repeat (first | refine blk_drewN ?_ _ | refine blk_drew ?_ | refine blk_alloc ?_ _)); exact BK176.out) Tryd.underlying25 rfl (by kernel_rfl)) rfl ?_
  exact ⟨by first | rfl | (simp [errW_none, errW_some] <;> rfl) | (simp [*, errW_none, errW_some] <;> rfl), hB_⟩
 ·
  rw [if_neg c3] at H
  have c3b0 : decide (a0 < 0) = false := decide_eq_false c3
  clear c3
  by_cases c6 : a0 > 99999
  ·
   rw [if_pos c6] at H
   have c6b0 : decide (99999 < a0) = true := decide_eq_true c6
   clear c6
   simp only [Option.some.injEq, Prod.mk.injEq] at H
   obtain ⟨rfl, rfl, rfl⟩ := H
   go_enter Tryd.func21, Tryd.ntmps21
   go_wp2_with (first | ((with_reducible refine gate_dst (N := 4) rfl ?_); refine box_event ?hg (N := 4) ?hd (cs := #[.int .i64 0, .int .i64 0]) (t := 25) ?hr ?_; (case hd => rfl); (case hg => rfl); (case hr => first | (go_simp; done) | (go_simp; rfl)); intro gb176 hg w7 hbox hb; have n0_ := Aside0.mk (below_step hB_ hb); have n1_ := Aside0.mk (hbox); have n2_ := Aside0.mk ((by rw [hg]; exact (below_size hB_) : w.heap.size ≤ gb176)); have n3_ := Aside0.mk ((by rw [hg]; exact (below_size hB_) : w.heap.size ≤ gb176)); clear HB; have HB := n0_; have BK176 := n1_; have GW176 := n2_; have GE176 := n3_; clear n0_ n1_ n2_ n3_; clear hb hbox hg; have hcz8_0 : w7.cell? ⟨gb176, 0, none⟩ = some (.int .i64 0) := bc_; have hcz8_1 : w7.cell? ⟨gb176, 1, none⟩ = some (.int .i64 0) := bc_; have hfz8_0 := blk_frozen BK176.out 0; have hfz8_1 := blk_frozen BK176.out 1))
   refine bodyPost_ret (results_ct rfl _ _ gb176 25 #[.int .i64 0, .int .i64 0] (0, 0) _ rfl (by (with_reducible repeat (first | refine blk_drewN ?_ _ | refine blk_drew ?_ | refine blk_alloc ?_ _)); refine blk_put (cs := #[.int .i64 0, .int .i64 0]) ?_ 1 _ rfl; (with_reducible repeat (first | refine blk_drewN ?_ _ | refine blk_drew ?_ | refine blk_alloc ?_ _)); refine blk_put (cs := #[.int .i64 0, .int .i64 0]) ?_ 0 _ rfl; (with_reducible repeat (first | refine blk_drewN ?_ _ | refine blk_drew ?_ | refine blk_alloc ?_ _)); exact BK176.out) Tryd.underlying25 rfl (by kernel_rfl)) rfl ?_
   exact ⟨by first | rfl | (simp [errW_none, errW_some] <;> rfl) | (simp [*, errW_none, errW_some] <;> rfl), hB_⟩
  ·
   rw [if_neg c6] at H
   have c6b0 : decide (99999 < a0) = false := decide_eq_false c6
   clear c6
   by_cases c9 : a1 < 1
   ·
    rw [if_pos c9] at H
    have c9b0 : decide (a1 < 1) = true := decide_eq_true c9
    clear c9
    simp only [Option.some.injEq, Prod.mk.injEq] at H
    obtain ⟨rfl, rfl, rfl⟩ := H
    go_enter Tryd.func21, Tryd.ntmps21
    go_wp2_with (first | ((with_reducible refine gate_dst (N := 4) rfl ?_); refine box_event ?hg (N := 4) ?hd (cs := #[.int .i64 0, .int .i64 0]) (t := 25) ?hr ?_; (case hd => rfl); (case hg => rfl); (case hr => first | (go_simp; done) | (go_simp; rfl)); intro gb176 hg w10 hbox hb; have n0_ := Aside0.mk (below_step hB_ hb); have n1_ := Aside0.mk (hbox); have n2_ := Aside0.mk ((by rw [hg]; exact (below_size hB_) : w.heap.size ≤ gb176)); have n3_ := Aside0.mk ((by rw [hg]; exact (below_size hB_) : w.heap.size ≤ gb176)); clear HB; have HB := n0_; have BK176 := n1_; have GW176 := n2_; have GE176 := n3_; clear n0_ n1_ n2_ n3_; clear hb hbox hg; have hcz11_0 : w10.cell? ⟨gb176, 0, none⟩ = some (.int .i64 0) := bc_; have hcz11_1 : w10.cell? ⟨gb176, 1, none⟩ = some (.int .i64 0) := bc_; have hfz11_0 := blk_frozen BK176.out 0; have hfz11_1 := blk_frozen BK176.out 1))
    refine bodyPost_ret (results_ct rfl _ _ gb176 25 #[.int .i64 0, .int .i64 0] (0, 0) _ rfl (by (with_reducible repeat (first | refine blk_drewN ?_ _ | refine blk_drew ?_ | refine blk_alloc ?_ _)); refine blk_put (cs := #[.int .i64 0, .int .i64 0]) ?_ 1 _ rfl; (with_reducible repeat (first | refine blk_drewN ?_ _ | refine blk_drew ?_ | refine blk_alloc ?_ _)); refine blk_put (cs := #[.int .i64 0, .int .i64 0]) ?_ 0 _ rfl; (with_reducible repeat (first | refine blk_drewN ?_ _ | refine blk_drew ?_ | refine blk_alloc ?_ _)); exact BK176.out) Tryd.underlying25 rfl (by kernel_rfl)) rfl ?_
    exact ⟨by first | rfl | (simp [errW_none, errW_some] <;> rfl) | (simp [*, errW_none, errW_some] <;> rfl), hB_⟩
   ·
    rw [if_neg c9] at H
    have c9b0 : decide (a1 < 1) = false := decide_eq_false c9
    clear c9
    by_cases c12 : a1 > 99999
    ·
     rw [if_pos c12] at H
     have c12b0 : decide (99999 < a1) = true := decide_eq_true c12
     clear c12
     simp only [Option.some.injEq, Prod.mk.injEq] at H
     obtain ⟨rfl, rfl, rfl⟩ := H
     go_enter Tryd.func21, Tryd.ntmps21
     go_wp2_with (first | ((with_reducible refine gate_dst (N := 4) rfl ?_); refine box_event ?hg (N := 4) ?hd (cs := #[.int .i64 0, .int .i64 0]) (t := 25) ?hr ?_; (case hd => rfl); (case hg => rfl); (case hr => first | (go_simp; done) | (go_simp; rfl)); intro gb176 hg w13 hbox hb; have n0_ := Aside0.mk (below_step hB_ hb); have n1_ := Aside0.mk (hbox); have n2_ := Aside0.mk ((by rw [hg]; exact (below_size hB_) : w.heap.size ≤ gb176)); have n3_ := Aside0.mk ((by rw [hg]; exact (below_size hB_) : w.heap.size ≤ gb176)); clear HB; have HB := n0_; have BK176 := n1_; have GW176 := n2_; have GE176 := n3_; clear n0_ n1_ n2_ n3_; clear hb hbox hg; have hcz14_0 : w13.cell? ⟨gb176, 0, none⟩ = some (.int .i64 0) := bc_; have hcz14_1 : w13.cell? ⟨gb176, 1, none⟩ = some (.int .i64 0) := bc_; have hfz14_0 := blk_frozen BK176.out 0; have hfz14_1 := blk_frozen BK176.out 1))
     refine bodyPost_ret (results_ct rfl _ _ gb176 25 #[.int .i64 0, .int .i64 0] (0, 0) _ rfl (by (with_reducible repeat (first | refine blk_drewN ?_ _ | refine blk_drew ?_ | refine blk_alloc ?_ _)); refine blk_put (cs := #[.int .i64 0, .int .i64 0]) ?_ 1 _ rfl; (with_reducible repeat (first | refine blk_drewN ?_ _ | refine blk_drew ?_ | refine blk_alloc ?_ _)); refine blk_put (cs := #[.int .i64 0, .int .i64 0]) ?_ 0 _ rfl; (with_reducible repeat (first | refine blk_drewN ?_ _ | refine blk_drew ?_ | refine blk_alloc ?_ _)); exact BK176.out) Tryd.underlying25 rfl (by kernel_rfl)) rfl ?_
     exact ⟨by first | rfl | (simp [errW_none, errW_some] <;> rfl) | (simp [*, errW_none, errW_some] <;> rfl), hB_⟩
    ·
     rw [if_neg c12] at H
     have c12b0 : decide (99999 < a1) = false := decide_eq_false c12
     clear c12
     replace H := Option.bind_eq_some_iff.mp H
     obtain ⟨t177, A150, H⟩ := H
     replace H : (if t177 = 0 then (none) else (some (wrap64 (Int.tdiv a0 t177), wrap64 (Int.tdiv a1 t177), true))) = some (r1, r2, r3) := H
     have A15 := Aside0.mk A150
     clear A150
     by_cases c16 : t177 = 0
     ·
      rw [if_pos c16] at H
      exact absurd H (by simp)
     ·
      rw [if_neg c16] at H
      have c16b0 : (t177 == 0) = false := beq_eq_false_iff_ne.mpr c16
      have c16b1 : (t177 != 0) = true := bne_iff_ne.mpr c16
      simp only [Option.some.injEq, Prod.mk.injEq] at H
      obtain ⟨rfl, rfl, rfl⟩ := H
      go_enter Tryd.func21, Tryd.ntmps21
      try go_wp2_with (first | ((with_reducible refine gate_dst (N := 4) rfl ?_); refine box_event ?hg (N := 4) ?hd (cs := #[.int .i64 0, .int .i64 0]) (t := 25) ?hr ?_; (case hd => rfl); (case hg => rfl); (case hr => first | (go_simp; done) | (go_simp; rfl)); intro gb176 hg w17 hbox hb; have n0_ := Aside0.mk (below_step hB_ hb); have n1_ := Aside0.mk (hbox); have n2_ := Aside0.mk ((by rw [hg]; exact (below_size hB_) : w.heap.size ≤ gb176)); have n3_ := Aside0.mk ((by rw [hg]; exact (below_size hB_) : w.heap.size ≤ gb176)); clear HB; have HB := n0_; have BK176 := n1_; have GW176 := n2_; have GE176 := n3_; clear n0_ n1_ n2_ n3_; clear hb hbox hg) | ((with_reducible refine gate_callee (f := 47) rfl ?_); refine goesL_ (some 24) rfl rfl Tryd.func47 (by kernel_rfl) rfl #[.int .i64 a0, .int .i64 a1] rfl ma_ ?_; (with_reducible refine (impl_commonDivisor.calls k a0 a1 t177 _ A15.out).mono ?_); rintro e w' ⟨rfl, ⟨nd, rfl⟩⟩; refine ⟨_, rfl, ?_⟩; (try (rw [drewN_self w17]; generalize hq_ : World.drewN w17 _ = w17; have n0_ : Aside0 (w17.heap[gb176]? = some (.cells #[.int .i64 0, .int .i64 0] 25 (0, 0))) := ⟨by rw [← hq_]; exact uq_⟩; have n1_ : Aside0 (Below w.heap.size w w17) := ⟨by rw [← hq_]; exact hB_⟩; clear BK176 HB hq_; have BK176 := n0_; have HB := n1_; clear n0_ n1_))))
      have n0_ := Aside0.mk (blk_drew BK176.out)
      have n1_ := Aside0.mk (below_drew1 HB.out)
      clear BK176 HB
      have BK176 := n0_
      have HB := n1_
      clear n0_ n1_
      refine start_ (n := 9) (S := fun w' => True) (ds := []) #[false, false, false, false, false, false, false, false, false] (by kernel_rfl) rfl rfl trivial (fun hHeld => ?_); refine with_tabW impl_FracOf.tab4 impl_FracOf.bits4 (fun HT_ HW_ => ?_)
      generalize w17.drew = w18 at BK176 HB hHeld ⊢
      refine pure_ (i := 0) (N := some 25) (v := ?_) (a' := ?_) (bm 9 1) rfl rfl (any_of HT_.out (by kernel_rfl)) (fun _ _ _ h => h) (Or.inl ⟨by rfl, ?_⟩) ?_ ?_
      rotate_left
      ·
       intro w'
       go_simp
       with_reducible rfl
      rotate_left
      ·
       simp only [Act.put, List.setIfInBounds_toArray, List.set_cons_zero, List.set_cons_succ, i64_w, i32_w]
       rfl
      refine pure_ (i := 1) (N := some 26) (v := ?_) (a' := ?_) (bm 9 3) rfl rfl (any_of HT_.out (by kernel_rfl)) (fun _ _ _ h => h) (Or.inl ⟨by rfl, ?_⟩) ?_ ?_
      rotate_left
      ·
       intro w'
       go_simp
       with_reducible rfl
      rotate_left
      ·
       simp only [Act.put, List.setIfInBounds_toArray, List.set_cons_zero, List.set_cons_succ, i64_w, i32_w]
       rfl
      refine pure_ (i := 2) (N := some 27) (v := ?_) (a' := ?_) (bm 9 7) rfl rfl (any_of HT_.out (by kernel_rfl)) (fun _ _ _ h => h) (Or.inl ⟨by rfl, ?_⟩) ?_ ?_
      rotate_left
      ·
       intro w'
       go_simp
       with_reducible rfl
      rotate_left
      ·
       simp only [Act.put, List.setIfInBounds_toArray, List.set_cons_zero, List.set_cons_succ, i64_w, i32_w]
       rfl
      refine pure_ (i := 3) (N := some 28) (v := ?_) (a' := ?_) (bm 9 15) rfl rfl (any_of HT_.out (by kernel_rfl)) (fun _ _ _ h => h) (Or.inl ⟨by rfl, ?_⟩) ?_ ?_
      rotate_left
      ·
       intro w'
       go_simp
       with_reducible rfl
      rotate_left
      ·
       simp only [Act.put, List.setIfInBounds_toArray, List.set_cons_zero, List.set_cons_succ, i64_w, i32_w]
       rfl
      refine pure_ (i := 4) (N := some 29) (v := ?_) (a' := ?_) (bm 9 31) rfl rfl (any_of HT_.out (by kernel_rfl)) (fun _ _ _ h => h) (Or.inl ⟨by rfl, ?_⟩) ?_ ?_
      rotate_left
      ·
       intro w'
       go_simp
       with_reducible rfl
      rotate_left
      ·
       simp only [Act.put, List.setIfInBounds_toArray, List.set_cons_zero, List.set_cons_succ, i64_w, i32_w]
       rfl
      refine pure_ (i := 5) (N := some 30) (v := ?_) (a' := ?_) (bm 9 63) rfl rfl (any_of HT_.out (by kernel_rfl)) (fun _ _ _ h => h) (Or.inl ⟨by rfl, ?_⟩) ?_ ?_
      rotate_left
      ·
       intro w'
       go_simp
       with_reducible rfl
      rotate_left
      ·
       simp only [Act.put, List.setIfInBounds_toArray, List.set_cons_zero, List.set_cons_succ, i64_w, i32_w]
       rfl
      refine pure_ (i := 6) (N := some 31) (v := ?_) (a' := ?_) (bm 9 127) rfl rfl (any_of HT_.out (by kernel_rfl)) (fun _ _ _ h => h) (Or.inl ⟨by rfl, ?_⟩) ?_ ?_
      rotate_left
      ·
       intro w'
       go_simp
       with_reducible rfl
      rotate_left
      ·
       simp only [Act.put, List.setIfInBounds_toArray, List.set_cons_zero, List.set_cons_succ, i64_w, i32_w]
       rfl
      refine one_ (i := 7) (N := none) (bm 9 255) rfl rfl (one_of HT_.out (by kernel_rfl)) (by decide) (fun K hK => ?_)
      have hs19 : w18.cell? ⟨gb176, 0, none⟩ = some (.int .i64 0) := bc_
      have hfs19 := blk_frozen BK176.out 0
      have hs20 : w18.cell? ⟨gb176, 1, none⟩ = some (.int .i64 0) := bc_
      have hfs20 := blk_frozen BK176.out 1
      refine skip_ (w1 := ?_) (by rfl) rfl ?_ ?_
      rotate_left
      ·
       go_simp
       rfl
      refine hK.out _ _ trivial (fun hHeld => ?_)
      clear hK K
      refine pure_ (i := 8) (N := some 5) (v := ?_) (a' := ?_) (bm 9 511) rfl rfl (any_of HT_.out (by kernel_rfl)) (fun _ _ _ h => h) (Or.inl ⟨by rfl, ?_⟩) ?_ ?_
      rotate_left
      ·
       intro w'
       go_simp
       with_reducible rfl
      rotate_left
      ·
       simp only [Act.put, List.setIfInBounds_toArray, List.set_cons_zero, List.set_cons_succ, i64_w, i32_w]
       rfl
      refine done_ (done_of HT_.out (by kernel_rfl)) ?_
      try go_wp2
      refine bodyPost_ret (results_ct rfl _ _ gb176 25 #[.int .i64 (wrap64 (Int.tdiv a0 t177)), .int .i64 (wrap64 (Int.tdiv a1 t177))] (0, 0) _ rfl (by (with_reducible repeat (first | refine blk_drewN ?_ _ | refine blk_drew ?_ | refine blk_alloc ?_ _)); refine blk_put (cs := #[.int .i64 (wrap64 (Int.tdiv a0 t177)), .int .i64 0]) ?_ 1 _ rfl; (with_reducible repeat (first | refine blk_drewN ?_ _ | refine blk_drew ?_ | refine blk_alloc ?_ _)); refine blk_put (cs := #[.int .i64 0, .int .i64 0]) ?_ 0 _ rfl; (with_reducible repeat (first | refine blk_drewN ?_ _ | refine blk_drew ?_ | refine blk_alloc ?_ _)); exact BK176.out) Tryd.underlying25 rfl (by kernel_rfl)) rfl ?_
      exact ⟨by first | rfl | (simp [errW_none, errW_some] <;> rfl) | (simp [*, errW_none, errW_some] <;> rfl), hB_⟩
end Go.Proofs.YtnponnkcfgjeoaaDoor.X
end
section
namespace Go.Proofs.YtnponnkcfgjeoaaDoor.X
open Go.RowKit Go.Proofs.YtnponnkcfgjeoaaDoorW.PrintWords Go.Proofs.YtnponnkcfgjeoaaDoorW.PrintLast Go.Proofs.YtnponnkcfgjeoaaDoorW.PrintMore
attribute [local go_sem] max2_int min2_int max_two min_two max_three min_three max_four min_four
set_option linter.unusedVariables false
set_option linter.unusedSimpArgs false
def spec_l2Has.f (a0_0 : Int) (a0_1 : Int) (a0_2 : Int) (a0_3 : Int) (a1_0 : Int) (a1_1 : Int) : Option (Bool) := (spec_l2Cross.f a0_0 a0_1 a0_2 a0_3 a1_0 a1_1).bind fun t427 => (if t427 = 0 then ((spec_l2Dot.f a0_0 a0_1 a0_2 a0_3 a1_0 a1_1).bind fun t428 => ((spec_l2Dot.f a0_0 a0_1 a0_2 a0_3 a0_2 a0_3).bind fun t429 => ((spec_l6In.f t428 0 t429).bind fun t430 => (some t430)))) else (some false))
def spec_l2Has.T1 : Bool × List (List Nat × List Nat) := (true, [([], []), ([0], [0]), ([], []), ([2], [2]), ([], []), ([1, 3, 4], [1, 3, 4]), ([5], [5]), ([6, 5], [6]), ([7], [7]), ([8, 7], [7, 8]), ([7], [7]), ([10, 7], [7, 10]), ([7], [7]), ([9, 11, 12, 7, 7], [7, 9, 11, 12]), ([7], [7]), ([14, 7], [7, 14]), ([7], [7]), ([16, 7], [7, 16]), ([7], [7]), ([18, 7], [7, 18]), ([15, 17, 19, 13, 7], [7, 15, 17, 19]), ([13, 20, 20, 7], [7, 13, 20]), ([7, 21], [7, 21]), ([22, 21, 0, 1, 2, 3, 4, 5, 6, 7, 8, 9, 10, 11, 12, 13, 14, 15, 16, 17, 18, 19, 20, 21, 22], [22])])
def spec_l2Has.B1 : List Nat := [0, 1, 0, 4, 0, 31, 63, 127, 255, 511, 255, 1279, 255, 8191, 255, 16639, 255, 65791, 255, 262399, 1048575, 2097151, 4194303, 8388607]
theorem spec_l2Has.tab1 : rtab .any (opsOf Tryd.f75 1) = spec_l2Has.T1 := by kernel_rfl
theorem spec_l2Has.bits1 : waitsOk spec_l2Has.T1.2 spec_l2Has.B1 = true := by kernel_rfl
set_option maxHeartbeats 8000000 in
set_option maxRecDepth 100000 in
theorem spec_l2Has.calls (a0_0 : Int) (a0_1 : Int) (a0_2 : Int) (a0_3 : Int) (a1_0 : Int) (a1_1 : Int) (r : Bool) (w : World) (h : spec_l2Has.f a0_0 a0_1 a0_2 a0_3 a1_0 a1_1 = some r) :
  Calls Tryd.prog 75 #[.agg #[.int .i64 a0_0, .int .i64 a0_1, .int .i64 a0_2, .int .i64 a0_3], .agg #[.int .i64 a1_0, .int .i64 a1_1]] w fun e w' => e = .returned (.bool r) ∧ Below w.heap.size w w' := by
 have hu40 := Tryd.underlying40
 have hu38 := Tryd.underlying38
 have HB := Aside0.mk (Below.refl w.heap.size w)
 have H : ((spec_l2Cross.f a0_0 a0_1 a0_2 a0_3 a1_0 a1_1).bind fun t427 => (if t427 = 0 then ((spec_l2Dot.f a0_0 a0_1 a0_2 a0_3 a1_0 a1_1).bind fun t428 => ((spec_l2Dot.f a0_0 a0_1 a0_2 a0_3 a0_2 a0_3).bind fun t429 => ((spec_l6In.f t428 0 t429).bind fun t430 => (some t430)))) else (some false))) = some r := h
 clear h
 replace H := Option.bind_eq_some_iff.mp H
 obtain ⟨t427, A30, H⟩ := H
 replace H : (if t427 = 0 then ((spec_l2Dot.f a0_0 a0_1 a0_2 a0_3 a1_0 a1_1).bind fun t428 => ((spec_l2Dot.f a0_0 a0_1 a0_2 a0_3 a0_2 a0_3).bind fun t429 => ((spec_l6In.f t428 0 t429).bind fun t430 => (some t430)))) else (some false)) = some r := H
 have A3 := Aside0.mk A30
 clear A30
 by_cases c4 : t427 = 0
 ·
  rw [if_pos c4] at H
  have c4b0 : (t427 == 0) = true := beq_iff_eq.mpr c4
  have c4b1 : (t427 != 0) = false := bne_eq_false_iff_eq.mpr c4
  clear c4
  replace H := Option.bind_eq_some_iff.mp H
  obtain ⟨t428, A50, H⟩ := H
  replace H : ((spec_l2Dot.f a0_0 a0_1 a0_2 a0_3 a0_2 a0_3).bind fun t429 => ((spec_l6In.f t428 0 t429).bind fun t430 => (some t430))) = some r := H
  have A5 := Aside0.mk A50
  clear A50
  replace H := Option.bind_eq_some_iff.mp H
  obtain ⟨t429, A60, H⟩ := H
  replace H : ((spec_l6In.f t428 0 t429).bind fun t430 => (some t430)) = some r := H
  have A6 := Aside0.mk A60
  clear A60
  replace H := Option.bind_eq_some_iff.mp H
  obtain ⟨t430, A70, H⟩ := H
  replace H : (some t430) = some r := H
  have A7 := Aside0.mk A70
  clear A70
  obtain rfl := Option.some.inj H
  go_enter Tryd.func75, Tryd.ntmps75
  try go_wp2_with (first | ((with_reducible refine gate_dst (N := 2) rfl ?_); refine box_event ?hg (N := 2) ?hd (cs := #[.int .i64 a0_0, .int .i64 a0_1, .int .i64 a0_2, .int .i64 a0_3]) (t := 40) ?hr ?_; (case hd => rfl); (case hg => rfl); (case hr => first | (go_simp; done) | (go_simp; rfl)); intro gb425 hg w8 hbox hb; have n0_ := Aside0.mk (below_step hB_ hb); have n1_ := Aside0.mk (hbox); have n2_ := Aside0.mk ((by rw [hg]; exact (below_size hB_) : w.heap.size ≤ gb425)); have n3_ := Aside0.mk ((by rw [hg]; exact (below_size hB_) : w.heap.size ≤ gb425)); clear HB; have HB := n0_; have BK425 := n1_; have GW425 := n2_; have GE425 := n3_; clear n0_ n1_ n2_ n3_; clear hb hbox hg) | ((with_reducible refine gate_dst (N := 3) rfl ?_); refine box_event ?hg (N := 3) ?hd (cs := #[.int .i64 a1_0, .int .i64 a1_1]) (t := 38) ?hr ?_; (case hd => rfl); (case hg => rfl); (case hr => first | (go_simp; done) | (go_simp; rfl)); intro gb426 hg w9 hbox hb; have n0_ := Aside0.mk (ub_ (g := gb425) hb); have n1_ := Aside0.mk (below_step hB_ hb); have n2_ := Aside0.mk (hbox); have n3_ := Aside0.mk ((by rw [hg]; exact (below_size hB_) : w.heap.size ≤ gb426)); have n4_ := Aside0.mk ((by rw [hg]; exact (below_size hB_) : w.heap.size ≤ gb426)); have n5_ := Aside0.mk ((by rw [hg]; exact Nat.ne_of_lt (blk_lt (g := gb425) (o := .cells #[.int .i64 a0_0, .int .i64 a0_1, .int .i64 a0_2, .int .i64 a0_3] 40 (0, 0)) uq_) : gb425 ≠ gb426)); have n6_ := Aside0.mk ((by rw [hg]; exact Nat.ne_of_gt (blk_lt (g := gb425) (o := .cells #[.int .i64 a0_0, .int .i64 a0_1, .int .i64 a0_2, .int .i64 a0_3] 40 (0, 0)) uq_) : gb426 ≠ gb425)); clear BK425; clear HB; have BK425 := n0_; have HB := n1_; have BK426 := n2_; have GW426 := n3_; have GE426 := n4_; have NB425_426 := n5_; have NB426_425 := n6_; clear n0_ n1_ n2_ n3_ n4_ n5_ n6_; clear hb hbox hg))
  have n0_ := Aside0.mk (blk_drew BK425.out)
  have n1_ := Aside0.mk (blk_drew BK426.out)
  have n2_ := Aside0.mk (below_drew1 HB.out)
  clear BK425 BK426 HB
  have BK425 := n0_
  have BK426 := n1_
  have HB := n2_
  clear n0_ n1_ n2_
  refine start_ (n := 24) (S := fun w' => w'.cell? ⟨gb425, 0, none⟩ = some (.int .i64 a0_0) ∧ w'.cell? ⟨gb425, 1, none⟩ = some (.int .i64 a0_1) ∧ w'.cell? ⟨gb425, 2, none⟩ = some (.int .i64 a0_2) ∧ w'.cell? ⟨gb425, 3, none⟩ = some (.int .i64 a0_3) ∧ w'.cell? ⟨gb426, 0, none⟩ = some (.int .i64 a1_0) ∧ w'.cell? ⟨gb426, 1, none⟩ = some (.int .i64 a1_1)) (ds := []) #[false, false, false, false, false, false, false, false, false, false, false, false, false, false, false, false, false, false, false, false, false, false, false, false] (by kernel_rfl) rfl rfl ⟨bc_, bc_, bc_, bc_, bc_, bc_⟩ (fun hHeld => ?_); refine with_tabW spec_l2Has.tab1 spec_l2Has.bits1 (fun HT_ HW_ => ?_)
  generalize w9.drew = w10 at BK425 BK426 HB hHeld ⊢
  refine pure_ (i := 0) (N := some 5) (v := ?_) (a' := ?_) (bm 24 1) rfl rfl (any_of HT_.out (by kernel_rfl)) (fun _ _ _ h => h) (Or.inl ⟨by rfl, ?_⟩) ?_ ?_
  rotate_left
  ·
   intro w'
   go_simp
   with_reducible rfl
  rotate_left
  ·
   simp only [Act.put, List.setIfInBounds_toArray, List.set_cons_zero, List.set_cons_succ, i64_w, i32_w]
   rfl
  refine pure_ (i := 2) (N := some 7) (v := ?_) (a' := ?_) (bm 24 5) rfl rfl (any_of HT_.out (by kernel_rfl)) (fun _ _ _ h => h) (Or.inl ⟨by rfl, ?_⟩) ?_ ?_
  rotate_left
  ·
   intro w'
   go_simp
   with_reducible rfl
  rotate_left
  ·
   simp only [Act.put, List.setIfInBounds_toArray, List.set_cons_zero, List.set_cons_succ, i64_w, i32_w]
   rfl
  refine take_ (i := 1) (N := some 6) (v := ?_) (a' := ?_) (bm 24 7) rfl rfl (take_ofW HT_.out HW_.out (by kernel_rfl)) (fun _ _ _ h => h) (Or.inl ⟨by rfl, ?_⟩) hHeld ?_ ?_
  rotate_left
  ·
   rintro w' ⟨s0, s1, s2, s3, s4, s5⟩
   go_simp
   with_reducible rfl
  rotate_left
  ·
   simp only [Act.put, List.setIfInBounds_toArray, List.set_cons_zero, List.set_cons_succ, i64_w, i32_w]
   rfl
  refine take_ (i := 3) (N := some 8) (v := ?_) (a' := ?_) (bm 24 15) rfl rfl (take_ofW HT_.out HW_.out (by kernel_rfl)) (fun _ _ _ h => h) (Or.inl ⟨by rfl, ?_⟩) hHeld ?_ ?_
  rotate_left
  ·
   rintro w' ⟨s0, s1, s2, s3, s4, s5⟩
   go_simp
   with_reducible rfl
  rotate_left
  ·
   simp only [Act.put, List.setIfInBounds_toArray, List.set_cons_zero, List.set_cons_succ, i64_w, i32_w]
   rfl
  refine take_ (i := 4) (N := some 9) (v := ?_) (a' := ?_) (bm 24 31) rfl rfl (take_ofW HT_.out HW_.out (by kernel_rfl)) (fun _ _ _ h => h) (Or.inl ⟨by rfl, ?_⟩) hHeld ?_ ?_
  rotate_left
  ·
   rintro w' ⟨s0, s1, s2, s3, s4, s5⟩
   go_simp
   with_reducible rfl
  rotate_left
  ·
   simp only [Act.put, List.setIfInBounds_toArray, List.set_cons_zero, List.set_cons_succ, i64_w, i32_w]
   rfl
  refine one_ (i := 5) (N := some 10) (bm 24 63) rfl rfl (one_of HT_.out (by kernel_rfl)) (by decide) (fun K hK => ?_)
  refine goes_ Tryd.func71 (by kernel_rfl) rfl #[.agg #[.int .i64 a0_0, .int .i64 a0_1], .agg #[.int .i64 a0_2, .int .i64 a0_3], .agg #[.int .i64 a1_0, .int .i64 a1_1]] (by rfl) rfl rfl ma_ ?_
  with_reducible refine (spec_l2Cross.calls a0_0 a0_1 a0_2 a0_3 a1_0 a1_1 t427 _ A3.out).mono ?_
  rintro e w11 ⟨rfl, hb⟩
  refine ⟨_, rfl, ?_⟩
  have n0_ := Aside0.mk (ub_ (g := gb425) hb)
  have n1_ := Aside0.mk (ub_ (g := gb426) hb)
  have n2_ := Aside0.mk (below_step hB_ hb)
  clear BK425 BK426 HB
  have BK425 := n0_
  have BK426 := n1_
  have HB := n2_
  clear n0_ n1_ n2_
  (try clear hb)
  (try clear hb2)
  (try clear hk)
  (try clear hi)
  refine hK.out _ _ ⟨bc_, bc_, bc_, bc_, bc_, bc_⟩ (fun hHeld => ?_)
  clear hK K
  refine norm_ (a' := ?_) ?_ ?_
  rotate_left
  ·
   show Act.put _ (some 10) _ = _
   simp only [Act.put, List.setIfInBounds_toArray, List.set_cons_zero, List.set_cons_succ, i64_w, i32_w]
   rfl
  refine pure_ (i := 6) (N := some 11) (v := ?_) (a' := ?_) (bm 24 127) rfl rfl (any_of HT_.out (by kernel_rfl)) (fun _ _ _ h => h) (Or.inl ⟨by rfl, ?_⟩) ?_ ?_
  rotate_left
  ·
   intro w'
   go_simp
   with_reducible rfl
  rotate_left
  ·
   simp only [Act.put, List.setIfInBounds_toArray, List.set_cons_zero, List.set_cons_succ, i64_w, i32_w]
   rfl
  refine pure_ (i := 7) (N := some 12) (v := ?_) (a' := ?_) (bm 24 255) rfl rfl (any_of HT_.out (by kernel_rfl)) (fun _ _ _ h => h) (Or.inl ⟨by rfl, ?_⟩) ?_ ?_
  rotate_left
  ·
   intro w'
   go_simp
   with_reducible rfl
  rotate_left
  ·
   simp only [Act.put, List.setIfInBounds_toArray, List.set_cons_zero, List.set_cons_succ, i64_w, i32_w]
   rfl
  refine pure_ (i := 8) (N := some 13) (v := ?_) (a' := ?_) (bm 24 511) rfl rfl (any_of HT_.out (by kernel_rfl)) (fun _ _ _ h => h) (Or.inl ⟨by rfl, ?_⟩) ?_ ?_
  rotate_left
  ·
   intro w'
   go_simp
   with_reducible rfl
  rotate_left
  ·
   simp only [Act.put, List.setIfInBounds_toArray, List.set_cons_zero, List.set_cons_succ, i64_w, i32_w]
   rfl
  refine pure_ (i := 10) (N := some 15) (v := ?_) (a' := ?_) (bm 24 1535) rfl rfl (any_of HT_.out (by kernel_rfl)) (fun _ _ _ h => h) (Or.inl ⟨by rfl, ?_⟩) ?_ ?_
  rotate_left
  ·
   intro w'
   go_simp
   with_reducible rfl
  rotate_left
  ·
   simp only [Act.put, List.setIfInBounds_toArray, List.set_cons_zero, List.set_cons_succ, i64_w, i32_w]
   rfl
  refine pure_ (i := 14) (N := some 19) (v := ?_) (a' := ?_) (bm 24 17919) rfl rfl (any_of HT_.out (by kernel_rfl)) (fun _ _ _ h => h) (Or.inl ⟨by rfl, ?_⟩) ?_ ?_
  rotate_left
  ·
   intro w'
   go_simp
   with_reducible rfl
  rotate_left
  ·
   simp only [Act.put, List.setIfInBounds_toArray, List.set_cons_zero, List.set_cons_succ, i64_w, i32_w]
   rfl
  refine pure_ (i := 16) (N := some 21) (v := ?_) (a' := ?_) (bm 24 83455) rfl rfl (any_of HT_.out (by kernel_rfl)) (fun _ _ _ h => h) (Or.inl ⟨by rfl, ?_⟩) ?_ ?_
  rotate_left
  ·
   intro w'
   go_simp
   with_reducible rfl
  rotate_left
  ·
   simp only [Act.put, List.setIfInBounds_toArray, List.set_cons_zero, List.set_cons_succ, i64_w, i32_w]
   rfl
  refine pure_ (i := 18) (N := some 23) (v := ?_) (a' := ?_) (bm 24 345599) rfl rfl (any_of HT_.out (by kernel_rfl)) (fun _ _ _ h => h) (Or.inl ⟨by rfl, ?_⟩) ?_ ?_
  rotate_left
  ·
   intro w'
   go_simp
   with_reducible rfl
  rotate_left
  ·
   simp only [Act.put, List.setIfInBounds_toArray, List.set_cons_zero, List.set_cons_succ, i64_w, i32_w]
   rfl
  refine take_ (i := 9) (N := some 14) (v := ?_) (a' := ?_) (bm 24 346111) rfl rfl (take_ofW HT_.out HW_.out (by kernel_rfl)) (fun _ _ _ h => h) (Or.inl ⟨by rfl, ?_⟩) hHeld ?_ ?_
  rotate_left
  ·
   rintro w' ⟨s0, s1, s2, s3, s4, s5⟩
   go_simp
   with_reducible rfl
  rotate_left
  ·
   simp only [Act.put, List.setIfInBounds_toArray, List.set_cons_zero, List.set_cons_succ, i64_w, i32_w]
   rfl
  refine take_ (i := 11) (N := some 16) (v := ?_) (a' := ?_) (bm 24 348159) rfl rfl (take_ofW HT_.out HW_.out (by kernel_rfl)) (fun _ _ _ h => h) (Or.inl ⟨by rfl, ?_⟩) hHeld ?_ ?_
  rotate_left
  ·
   rintro w' ⟨s0, s1, s2, s3, s4, s5⟩
   go_simp
   with_reducible rfl
  rotate_left
  ·
   simp only [Act.put, List.setIfInBounds_toArray, List.set_cons_zero, List.set_cons_succ, i64_w, i32_w]
   rfl
  refine take_ (i := 12) (N := some 17) (v := ?_) (a' := ?_) (bm 24 352255) rfl rfl (take_ofW HT_.out HW_.out (by kernel_rfl)) (fun _ _ _ h => h) (Or.inl ⟨by rfl, ?_⟩) hHeld ?_ ?_
  rotate_left
  ·
   rintro w' ⟨s0, s1, s2, s3, s4, s5⟩
   go_simp
   with_reducible rfl
  rotate_left
  ·
   simp only [Act.put, List.setIfInBounds_toArray, List.set_cons_zero, List.set_cons_succ, i64_w, i32_w]
   rfl
  refine take_ (i := 15) (N := some 20) (v := ?_) (a' := ?_) (bm 24 385023) rfl rfl (take_ofW HT_.out HW_.out (by kernel_rfl)) (fun _ _ _ h => h) (Or.inl ⟨by rfl, ?_⟩) hHeld ?_ ?_
  rotate_left
  ·
   rintro w' ⟨s0, s1, s2, s3, s4, s5⟩
   go_simp
   with_reducible rfl
  rotate_left
  ·
   simp only [Act.put, List.setIfInBounds_toArray, List.set_cons_zero, List.set_cons_succ, i64_w, i32_w]
   rfl
  refine take_ (i := 17) (N := some 22) (v := ?_) (a' := ?_) (bm 24 516095) rfl rfl (take_ofW HT_.out HW_.out (by kernel_rfl)) (fun _ _ _ h => h) (Or.inl ⟨by rfl, ?_⟩) hHeld ?_ ?_
  rotate_left
  ·
   rintro w' ⟨s0, s1, s2, s3, s4, s5⟩
   go_simp
   with_reducible rfl
  rotate_left
  ·
   simp only [Act.put, List.setIfInBounds_toArray, List.set_cons_zero, List.set_cons_succ, i64_w, i32_w]
   rfl
  refine take_ (i := 19) (N := some 24) (v := ?_) (a' := ?_) (bm 24 1040383) rfl rfl (take_ofW HT_.out HW_.out (by kernel_rfl)) (fun _ _ _ h => h) (Or.inl ⟨by rfl, ?_⟩) hHeld ?_ ?_
  rotate_left
  ·
   rintro w' ⟨s0, s1, s2, s3, s4, s5⟩
   go_simp
   with_reducible rfl
  rotate_left
  ·
   simp only [Act.put, List.setIfInBounds_toArray, List.set_cons_zero, List.set_cons_succ, i64_w, i32_w]
   rfl
  refine one_ (i := 13) (N := some 18) (bm 24 1048575) rfl rfl (one_of HT_.out (by kernel_rfl)) (by decide) (fun K hK => ?_)
  refine goes_ Tryd.func70 (by kernel_rfl) rfl #[.agg #[.int .i64 a0_0, .int .i64 a0_1], .agg #[.int .i64 a0_2, .int .i64 a0_3], .agg #[.int .i64 a1_0, .int .i64 a1_1]] (by rfl) rfl rfl ma_ ?_
  with_reducible refine (spec_l2Dot.calls a0_0 a0_1 a0_2 a0_3 a1_0 a1_1 t428 _ A5.out).mono ?_
  rintro e w12 ⟨rfl, hb⟩
  refine ⟨_, rfl, ?_⟩
  have n0_ := Aside0.mk (ub_ (g := gb425) hb)
  have n1_ := Aside0.mk (ub_ (g := gb426) hb)
  have n2_ := Aside0.mk (below_step hB_ hb)
  clear BK425 BK426 HB
  have BK425 := n0_
  have BK426 := n1_
  have HB := n2_
  clear n0_ n1_ n2_
  (try clear hb)
  (try clear hb2)
  (try clear hk)
  (try clear hi)
  refine hK.out _ _ ⟨bc_, bc_, bc_, bc_, bc_, bc_⟩ (fun hHeld => ?_)
  clear hK K
  refine norm_ (a' := ?_) ?_ ?_
  rotate_left
  ·
   show Act.put _ (some 18) _ = _
   simp only [Act.put, List.setIfInBounds_toArray, List.set_cons_zero, List.set_cons_succ, i64_w, i32_w]
   rfl
  refine one_ (i := 20) (N := some 25) (bm 24 2097151) rfl rfl (one_of HT_.out (by kernel_rfl)) (by decide) (fun K hK => ?_)
  refine goes_ Tryd.func70 (by kernel_rfl) rfl #[.agg #[.int .i64 a0_0, .int .i64 a0_1], .agg #[.int .i64 a0_2, .int .i64 a0_3], .agg #[.int .i64 a0_2, .int .i64 a0_3]] (by rfl) rfl rfl ma_ ?_
  with_reducible refine (spec_l2Dot.calls a0_0 a0_1 a0_2 a0_3 a0_2 a0_3 t429 _ A6.out).mono ?_
  rintro e w13 ⟨rfl, hb⟩
  refine ⟨_, rfl, ?_⟩
  have n0_ := Aside0.mk (ub_ (g := gb425) hb)
  have n1_ := Aside0.mk (ub_ (g := gb426) hb)
  have n2_ := Aside0.mk (below_step hB_ hb)
  clear BK425 BK426 HB
  have BK425 := n0_
  have BK426 := n1_
  have HB := n2_
  clear n0_ n1_ n2_
  (try clear hb)
  (try clear hb2)
  (try clear hk)
  (try clear hi)
  refine hK.out _ _ ⟨bc_, bc_, bc_, bc_, bc_, bc_⟩ (fun hHeld => ?_)
  clear hK K
  refine norm_ (a' := ?_) ?_ ?_
  rotate_left
  ·
   show Act.put _ (some 25) _ = _
   simp only [Act.put, List.setIfInBounds_toArray, List.set_cons_zero, List.set_cons_succ, i64_w, i32_w]
   rfl
  refine one_ (i := 21) (N := some 26) (bm 24 4194303) rfl rfl (one_of HT_.out (by kernel_rfl)) (by decide) (fun K hK => ?_)
  refine goes_ Tryd.func45 (by kernel_rfl) rfl #[.int .i64 t428, .int .i64 0, .int .i64 t429] (by rfl) rfl rfl ma_ ?_
  with_reducible refine (spec_l6In.calls t428 0 t429 t430 _ A7.out).mono ?_
  rintro e w' ⟨rfl, ⟨nd, rfl⟩⟩
  refine ⟨_, rfl, ?_⟩
  refine hK.out _ _ ⟨bc_, bc_, bc_, bc_, bc_, bc_⟩ (fun hHeld => ?_)
  clear hK K
  refine norm_ (a' := ?_) ?_ ?_
  rotate_left
  ·
   show Act.put _ (some 26) _ = _
   simp only [Act.put, List.setIfInBounds_toArray, List.set_cons_zero, List.set_cons_succ, i64_w, i32_w]
   rfl
  refine pure_ (i := 22) (N := some 27) (v := ?_) (a' := ?_) (bm 24 8388607) rfl rfl (any_of HT_.out (by kernel_rfl)) (fun _ _ _ h => h) (Or.inl ⟨by rfl, ?_⟩) ?_ ?_
  rotate_left
  ·
   intro w'
   go_simp
   with_reducible rfl
  rotate_left
  ·
   simp only [Act.put, List.setIfInBounds_toArray, List.set_cons_zero, List.set_cons_succ, i64_w, i32_w]
   rfl
  refine pure_ (i := 23) (N := some 4) (v := ?_) (a' := ?_) (bm 24 16777215) rfl rfl (any_of HT_.out (by kernel_rfl)) (fun _ _ _ h => h) (Or.inl ⟨by rfl, ?_⟩) ?_ ?_
  rotate_left
  ·
   intro w'
   go_simp
   with_reducible rfl
  rotate_left
  ·
   simp only [Act.put, List.setIfInBounds_toArray, List.set_cons_zero, List.set_cons_succ, i64_w, i32_w]
   rfl
  refine done_ (done_of HT_.out (by kernel_rfl)) ?_
  try go_wp2
  go_ret
  exact ⟨by first | rfl | (simp [errW_none, errW_some] <;> rfl) | (simp [*, errW_none, errW_some] <;> rfl), hB_⟩
 ·
  rw [if_neg c4] at H
  have c4b0 : (t427 == 0) = false := beq_eq_false_iff_ne.mpr c4
  have c4b1 : (t427 != 0) = true := bne_iff_ne.mpr c4
  obtain rfl := Option.some.inj H
  go_enter Tryd.func75, Tryd.ntmps75
  try go_wp2_with (first | ((with_reducible refine gate_dst (N := 2) rfl ?_); refine box_event ?hg (N := 2) ?hd (cs := #[.int .i64 a0_0, .int .i64 a0_1, .int .i64 a0_2, .int .i64 a0_3]) (t := 40) ?hr ?_; (case hd => rfl); (case hg => rfl); (case hr => first | (go_simp; done) | (go_simp; rfl)); intro gb425 hg w14 hbox hb; have n0_ := Aside0.mk (below_step hB_ hb); have n1_ := Aside0.mk (hbox); have n2_ := Aside0.mk ((by rw [hg]; exact (below_size hB_) : w.heap.size ≤ gb425)); have n3_ := Aside0.mk ((by rw [hg]; exact (below_size hB_) : w.heap.size ≤ gb425)); clear HB; have HB := n0_; have BK425 := n1_; have GW425 := n2_; have GE425 := n3_; clear n0_ n1_ n2_ n3_; clear hb hbox hg) | ((with_reducible refine gate_dst (N := 3) rfl ?_); refine box_event ?hg (N := 3) ?hd (cs := #[.int .i64 a1_0, .int .i64 a1_1]) (t := 38) ?hr ?_; (case hd => rfl); (case hg => rfl); (case hr => first | (go_simp; done) | (go_simp; rfl)); intro gb426 hg w15 hbox hb; have n0_ := Aside0.mk (ub_ (g := gb425) hb); have n1_ := Aside0.mk (below_step hB_ hb); have n2_ := Aside0.mk (hbox); have n3_ := Aside0.mk ((by rw [hg]; exact (below_size hB_) : w.heap.size ≤ gb426)); have n4_ := Aside0.mk ((by rw [hg]; exact (below_size hB_) : w.heap.size ≤ gb426)); have n5_ := Aside0.mk ((by rw [hg]; exact Nat.ne_of_lt (blk_lt (g := gb425) (o := .cells #[.int .i64 a0_0, .int .i64 a0_1, .int .i64 a0_2, .int .i64 a0_3] 40 (0, 0)) uq_) : gb425 ≠ gb426)); have n6_ := Aside0.mk ((by rw [hg]; exact Nat.ne_of_gt (blk_lt (g := gb425) (o := .cells #[.int .i64 a0_0, .int .i64 a0_1, .int .i64 a0_2, .int .i64 a0_3] 40 (0, 0)) uq_) : gb426 ≠ gb425)); clear BK425; clear HB; have BK425 := n0_; have HB := n1_; have BK426 := n2_; have GW426 := n3_; have GE426 := n4_; have NB425_426 := n5_; have NB426_425 := n6_; clear n0_ n1_ n2_ n3_ n4_ n5_ n6_; clear hb hbox hg))
  have n0_ := Aside0.mk (blk_drew BK425.out)
  have n1_ := Aside0.mk (blk_drew BK426.out)
  have n2_ := Aside0.mk (below_drew1 HB.out)
  clear BK425 BK426 HB
  have BK425 := n0_
  have BK426 := n1_
  have HB := n2_
  clear n0_ n1_ n2_
  refine start_ (n := 24) (S := fun w' => w'.cell? ⟨gb425, 0, none⟩ = some (.int .i64 a0_0) ∧ w'.cell? ⟨gb425, 1, none⟩ = some (.int .i64 a0_1) ∧ w'.cell? ⟨gb425, 2, none⟩ = some (.int .i64 a0_2) ∧ w'.cell? ⟨gb425, 3, none⟩ = some (.int .i64 a0_3) ∧ w'.cell? ⟨gb426, 0, none⟩ = some (.int .i64 a1_0) ∧ w'.cell? ⟨gb426, 1, none⟩ = some (.int .i64 a1_1)) (ds := []) #[false, false, false, false, false, false, false, false, false, false, false, false, false, false, false, false, false, false, false, false, false, false, false, false] (by kernel_rfl) rfl rfl ⟨bc_, bc_, bc_, bc_, bc_, bc_⟩ (fun hHeld => ?_); refine with_tabW spec_l2Has.tab1 spec_l2Has.bits1 (fun HT_ HW_ => ?_)
  generalize w15.drew = w16 at BK425 BK426 HB hHeld ⊢
  refine pure_ (i := 0) (N := some 5) (v := ?_) (a' := ?_) (bm 24 1) rfl rfl (any_of HT_.out (by kernel_rfl)) (fun _ _ _ h => h) (Or.inl ⟨by rfl, ?_⟩) ?_ ?_
  rotate_left
  ·
   intro w'
   go_simp
   with_reducible rfl
  rotate_left
  ·
   simp only [Act.put, List.setIfInBounds_toArray, List.set_cons_zero, List.set_cons_succ, i64_w, i32_w]
   rfl
  refine pure_ (i := 2) (N := some 7) (v := ?_) (a' := ?_) (bm 24 5) rfl rfl (any_of HT_.out (by kernel_rfl)) (fun _ _ _ h => h) (Or.inl ⟨by rfl, ?_⟩) ?_ ?_
  rotate_left
  ·
   intro w'
   go_simp
   with_reducible rfl
  rotate_left
  ·
   simp only [Act.put, List.setIfInBounds_toArray, List.set_cons_zero, List.set_cons_succ, i64_w, i32_w]
   rfl
  refine take_ (i := 1) (N := some 6) (v := ?_) (a' := ?_) (bm 24 7) rfl rfl (take_ofW HT_.out HW_.out (by kernel_rfl)) (fun _ _ _ h => h) (Or.inl ⟨by rfl, ?_⟩) hHeld ?_ ?_
  rotate_left
  ·
   rintro w' ⟨s0, s1, s2, s3, s4, s5⟩
   go_simp
   with_reducible rfl
  rotate_left
  ·
   simp only [Act.put, List.setIfInBounds_toArray, List.set_cons_zero, List.set_cons_succ, i64_w, i32_w]
   rfl
  refine take_ (i := 3) (N := some 8) (v := ?_) (a' := ?_) (bm 24 15) rfl rfl (take_ofW HT_.out HW_.out (by kernel_rfl)) (fun _ _ _ h => h) (Or.inl ⟨by rfl, ?_⟩) hHeld ?_ ?_
  rotate_left
  ·
   rintro w' ⟨s0, s1, s2, s3, s4, s5⟩
   go_simp
   with_reducible rfl
  rotate_left
  ·
   simp only [Act.put, List.setIfInBounds_toArray, List.set_cons_zero, List.set_cons_succ, i64_w, i32_w]
   rfl
  refine take_ (i := 4) (N := some 9) (v := ?_) (a' := ?_) (bm 24 31) rfl rfl (take_ofW HT_.out HW_.out (by kernel_rfl)) (fun _ _ _ h => h) (Or.inl ⟨by rfl, ?_⟩) hHeld ?_ ?_
  rotate_left
  ·
   rintro w' ⟨s0, s1, s2, s3, s4, s5⟩
   go_simp
   with_reducible rfl
  rotate_left
  ·
   simp only [Act.put, List.setIfInBounds_toArray, List.set_cons_zero, List.set_cons_succ, i64_w, i32_w]
   rfl
  refine one_ (i := 5) (N := some 10) (bm 24 63) rfl rfl (one_of HT_.out (by kernel_rfl)) (by decide) (fun K hK => ?_)
  refine goes_ Tryd.func71 (by kernel_rfl) rfl #[.agg #[.int .i64 a0_0, .int .i64 a0_1], .agg #[.int .i64 a0_2, .int .i64 a0_3], .agg #[.int .i64 a1_0, .int .i64 a1_1]] (by rfl) rfl rfl ma_ ?_
  with_reducible refine (spec_l2Cross.calls a0_0 a0_1 a0_2 a0_3 a1_0 a1_1 t427 _ A3.out).mono ?_
  rintro e w17 ⟨rfl, hb⟩
  refine ⟨_, rfl, ?_⟩
  have n0_ := Aside0.mk (ub_ (g := gb425) hb)
  have n1_ := Aside0.mk (ub_ (g := gb426) hb)
  have n2_ := Aside0.mk (below_step hB_ hb)
  clear BK425 BK426 HB
  have BK425 := n0_
  have BK426 := n1_
  have HB := n2_
  clear n0_ n1_ n2_
  (try clear hb)
  (try clear hb2)
  (try clear hk)
  (try clear hi)
  refine hK.out _ _ ⟨bc_, bc_, bc_, bc_, bc_, bc_⟩ (fun hHeld => ?_)
  clear hK K
  refine norm_ (a' := ?_) ?_ ?_
  rotate_left
  ·
   show Act.put _ (some 10) _ = _
   simp only [Act.put, List.setIfInBounds_toArray, List.set_cons_zero, List.set_cons_succ, i64_w, i32_w]
   rfl
  refine pure_ (i := 6) (N := some 11) (v := ?_) (a' := ?_) (bm 24 127) rfl rfl (any_of HT_.out (by kernel_rfl)) (fun _ _ _ h => h) (Or.inl ⟨by rfl, ?_⟩) ?_ ?_
  rotate_left
  ·
   intro w'
   go_simp
   with_reducible rfl
  rotate_left
  ·
   simp only [Act.put, List.setIfInBounds_toArray, List.set_cons_zero, List.set_cons_succ, i64_w, i32_w]
   rfl
  refine pure_ (i := 7) (N := some 12) (v := ?_) (a' := ?_) (bm 24 255) rfl rfl (any_of HT_.out (by kernel_rfl)) (fun _ _ _ h => h) (Or.inl ⟨by rfl, ?_⟩) ?_ ?_
  rotate_left
  ·
   intro w'
   go_simp
   with_reducible rfl
  rotate_left
  ·
   simp only [Act.put, List.setIfInBounds_toArray, List.set_cons_zero, List.set_cons_succ, i64_w, i32_w]
   rfl
  refine pure_ (i := 8) (N := some 13) (v := undef) (a' := ?_) (bm 24 511) rfl rfl (any_of HT_.out (by kernel_rfl)) (fun _ _ _ h => h) (Or.inr ⟨by rfl, rfl⟩) ?_ ?_
  rotate_left
  ·
   simp only [Act.put, List.setIfInBounds_toArray, List.set_cons_zero, List.set_cons_succ, i64_w, i32_w]
   rfl
  refine pure_ (i := 9) (N := some 14) (v := undef) (a' := ?_) (bm 24 1023) rfl rfl (any_of HT_.out (by kernel_rfl)) (fun _ _ _ h => h) (Or.inr ⟨by rfl, rfl⟩) ?_ ?_
  rotate_left
  ·
   simp only [Act.put, List.setIfInBounds_toArray, List.set_cons_zero, List.set_cons_succ, i64_w, i32_w]
   rfl
  refine pure_ (i := 10) (N := some 15) (v := undef) (a' := ?_) (bm 24 2047) rfl rfl (any_of HT_.out (by kernel_rfl)) (fun _ _ _ h => h) (Or.inr ⟨by rfl, rfl⟩) ?_ ?_
  rotate_left
  ·
   simp only [Act.put, List.setIfInBounds_toArray, List.set_cons_zero, List.set_cons_succ, i64_w, i32_w]
   rfl
  refine pure_ (i := 11) (N := some 16) (v := undef) (a' := ?_) (bm 24 4095) rfl rfl (any_of HT_.out (by kernel_rfl)) (fun _ _ _ h => h) (Or.inr ⟨by rfl, rfl⟩) ?_ ?_
  rotate_left
  ·
   simp only [Act.put, List.setIfInBounds_toArray, List.set_cons_zero, List.set_cons_succ, i64_w, i32_w]
   rfl
  refine pure_ (i := 12) (N := some 17) (v := undef) (a' := ?_) (bm 24 8191) rfl rfl (any_of HT_.out (by kernel_rfl)) (fun _ _ _ h => h) (Or.inr ⟨by rfl, rfl⟩) ?_ ?_
  rotate_left
  ·
   simp only [Act.put, List.setIfInBounds_toArray, List.set_cons_zero, List.set_cons_succ, i64_w, i32_w]
   rfl
  refine pure_ (i := 13) (N := some 18) (v := undef) (a' := ?_) (bm 24 16383) rfl rfl (any_of HT_.out (by kernel_rfl)) (fun _ _ _ h => h) (Or.inr ⟨by rfl, rfl⟩) ?_ ?_
  rotate_left
  ·
   simp only [Act.put, List.setIfInBounds_toArray, List.set_cons_zero, List.set_cons_succ, i64_w, i32_w]
   rfl
  refine pure_ (i := 14) (N := some 19) (v := undef) (a' := ?_) (bm 24 32767) rfl rfl (any_of HT_.out (by kernel_rfl)) (fun _ _ _ h => h) (Or.inr ⟨by rfl, rfl⟩) ?_ ?_
  rotate_left
  ·
   simp only [Act.put, List.setIfInBounds_toArray, List.set_cons_zero, List.set_cons_succ, i64_w, i32_w]
   rfl
  refine pure_ (i := 15) (N := some 20) (v := undef) (a' := ?_) (bm 24 65535) rfl rfl (any_of HT_.out (by kernel_rfl)) (fun _ _ _ h => h) (Or.inr ⟨by rfl, rfl⟩) ?_ ?_
  rotate_left
  ·
   simp only [Act.put, List.setIfInBounds_toArray, List.set_cons_zero, List.set_cons_succ, i64_w, i32_w]
   rfl
  refine pure_ (i := 16) (N := some 21) (v := undef) (a' := ?_) (bm 24 131071) rfl rfl (any_of HT_.out (by kernel_rfl)) (fun _ _ _ h => h) (Or.inr ⟨by rfl, rfl⟩) ?_ ?_
  rotate_left
  ·
   simp only [Act.put, List.setIfInBounds_toArray, List.set_cons_zero, List.set_cons_succ, i64_w, i32_w]
   rfl
  refine pure_ (i := 17) (N := some 22) (v := undef) (a' := ?_) (bm 24 262143) rfl rfl (any_of HT_.out (by kernel_rfl)) (fun _ _ _ h => h) (Or.inr ⟨by rfl, rfl⟩) ?_ ?_
  rotate_left
  ·
   simp only [Act.put, List.setIfInBounds_toArray, List.set_cons_zero, List.set_cons_succ, i64_w, i32_w]
   rfl
  refine pure_ (i := 18) (N := some 23) (v := undef) (a' := ?_) (bm 24 524287) rfl rfl (any_of HT_.out (by kernel_rfl)) (fun _ _ _ h => h) (Or.inr ⟨by rfl, rfl⟩) ?_ ?_
  rotate_left
  ·
   simp only [Act.put, List.setIfInBounds_toArray, List.set_cons_zero, List.set_cons_succ, i64_w, i32_w]
   rfl
  refine pure_ (i := 19) (N := some 24) (v := undef) (a' := ?_) (bm 24 1048575) rfl rfl (any_of HT_.out (by kernel_rfl)) (fun _ _ _ h => h) (Or.inr ⟨by rfl, rfl⟩) ?_ ?_
  rotate_left
  ·
   simp only [Act.put, List.setIfInBounds_toArray, List.set_cons_zero, List.set_cons_succ, i64_w, i32_w]
   rfl
  refine pure_ (i := 20) (N := some 25) (v := undef) (a' := ?_) (bm 24 2097151) rfl rfl (any_of HT_.out (by kernel_rfl)) (fun _ _ _ h => h) (Or.inr ⟨by rfl, rfl⟩) ?_ ?_
  rotate_left
  ·
   simp only [Act.put, List.setIfInBounds_toArray, List.set_cons_zero, List.set_cons_succ, i64_w, i32_w]
   rfl
  refine pure_ (i := 21) (N := some 26) (v := undef) (a' := ?_) (bm 24 4194303) rfl rfl (any_of HT_.out (by kernel_rfl)) (fun _ _ _ h => h) (Or.inr ⟨by rfl, rfl⟩) ?_ ?_
  rotate_left
  ·
   simp only [Act.put, List.setIfInBounds_toArray, List.set_cons_zero, List.set_cons_succ, i64_w, i32_w]
   rfl
  refine pure_ (i := 22) (N := some 27) (v := ?_) (a' := ?_) (bm 24 8388607) rfl rfl (any_of HT_.out (by kernel_rfl)) (fun _ _ _ h => h) (Or.inl ⟨by rfl, ?_⟩) ?_ ?_
  rotate_left
  ·
   intro w'
   go_simp
   with_reducible rfl
  rotate_left
  ·
   simp only [Act.put, List.setIfInBounds_toArray, List.set_cons_zero, List.set_cons_succ, i64_w, i32_w]
   rfl
  refine pure_ (i := 23) (N := some 4) (v := ?_) (a' := ?_) (bm 24 16777215) rfl rfl (any_of HT_.out (by kernel_rfl)) (fun _ _ _ h => h) (Or.inl ⟨by rfl, ?_⟩) ?_ ?_
  rotate_left
  ·
   intro w'
   go_simp
   with_reducible rfl
  rotate_left
  ·
   simp only [Act.put, List.setIfInBounds_toArray, List.set_cons_zero, List.set_cons_succ, i64_w, i32_w]
   rfl
  refine done_ (done_of HT_.out (by kernel_rfl)) ?_
  try go_wp2
  go_ret
  exact ⟨by first | rfl | (simp [errW_none, errW_some] <;> rfl) | (simp [*, errW_none, errW_some] <;> rfl), hB_⟩
end Go.Proofs.YtnponnkcfgjeoaaDoor.X
end
section
namespace Go.Proofs.YtnponnkcfgjeoaaDoor.X
open Go.RowKit Go.Proofs.YtnponnkcfgjeoaaDoorW.PrintWords Go.Proofs.YtnponnkcfgjeoaaDoorW.PrintLast Go.Proofs.YtnponnkcfgjeoaaDoorW.PrintMore
attribute [local go_sem] max2_int min2_int max_two min_two max_three min_three max_four min_four
set_option linter.unusedVariables false
set_option linter.unusedSimpArgs false
def spec_l2Sign.f (a0 : Int) : Option (Int) := if a0 < 0 then (some (-1)) else (if a0 > 0 then (some 1) else (some 0))
set_option maxHeartbeats 8000000 in
set_option maxRecDepth 100000 in
theorem spec_l2Sign.calls (a0 : Int) (r : Int) (w : World) (h : spec_l2Sign.f a0 = some r) :
  Calls Tryd.prog 74 #[.int .i64 a0] w fun e w' => e = .returned (.int .i64 r) ∧ Drawn0 w w' := by
 have H : (if a0 < 0 then (some (-1)) else (if a0 > 0 then (some 1) else (some 0))) = some r := h
 clear h
 by_cases c2 : a0 < 0
 ·
  rw [if_pos c2] at H
  have c2b0 : decide (a0 < 0) = true := decide_eq_true c2
  clear c2
  obtain rfl := Option.some.inj H
  go_enter Tryd.func74, Tryd.ntmps74
  go_wp2
  go_ret
  exact ⟨by first | rfl | (simp; done) | (simp [*]; done), by repeat (first | exact Drawn0.refl _ | apply Drawn0.step)⟩
 ·
  rw [if_neg c2] at H
  have c2b0 : decide (a0 < 0) = false := decide_eq_false c2
  clear c2
  by_cases c3 : a0 > 0
  ·
   rw [if_pos c3] at H
   have c3b0 : decide (0 < a0) = true := decide_eq_true c3
   clear c3
   obtain rfl := Option.some.inj H
   go_enter Tryd.func74, Tryd.ntmps74
   go_wp2
   go_ret
   exact ⟨by first | rfl | (simp; done) | (simp [*]; done), by repeat (first | exact Drawn0.refl _ | apply Drawn0.step)⟩
  ·
   rw [if_neg c3] at H
   have c3b0 : decide (0 < a0) = false := decide_eq_false c3
   clear c3
   obtain rfl := Option.some.inj H
   go_enter Tryd.func74, Tryd.ntmps74
   go_wp2
   go_ret
   exact ⟨by first | rfl | (simp; done) | (simp [*]; done), by repeat (first | exact Drawn0.refl _ | apply Drawn0.step)⟩
end Go.Proofs.YtnponnkcfgjeoaaDoor.X
end
section
set_option linter.unusedVariables false
set_option linter.unusedSimpArgs false
namespace Go.Proofs.YtnponnkcfgjeoaaDoor.X
open Go.RowKit Go.Proofs.YtnponnkcfgjeoaaDoorW.PrintWords Go.Proofs.YtnponnkcfgjeoaaDoorW.PrintLast Go.Proofs.YtnponnkcfgjeoaaDoorW.PrintMore
open Mort
theorem iPtOk (x y : Int) : impl_PtOk.f x y = some (ptOk (x, y)) := by
  unfold impl_PtOk.f ptOk
  by_cases h1 : 0 ≤ x <;> by_cases h2 : x ≤ 9 <;> by_cases h3 : 0 ≤ y <;> by_cases h4 : y ≤ 9 <;> simp [h1, h2, h3, h4]
theorem sPtOk (x y : Int) : spec_PtOk.f x y = some (ptOk (x, y)) := by
  unfold spec_PtOk.f ptOk
  simp only [l6In_told, Option.bind_some]
  by_cases h1 : 0 ≤ x <;> by_cases h2 : x ≤ 9 <;> by_cases h3 : 0 ≤ y <;> by_cases h4 : y ≤ 9 <;> simp [h1, h2, h3, h4]
theorem iSegOk (a b c d : Int) : impl_SegOk.f a b c d = some (segOk ((a, b), (c, d))) := by
  unfold impl_SegOk.f segOk
  simp only [iPtOk, Option.bind_some]
  cases ptOk (a, b) <;> cases ptOk (c, d) <;> simp [Bool.not_and]
theorem sSegOk (a b c d : Int) : spec_SegOk.f a b c d = some (segOk ((a, b), (c, d))) := by
  unfold spec_SegOk.f segOk
  simp only [sPtOk, Option.bind_some]
  cases ptOk (a, b) <;> cases ptOk (c, d) <;> simp [Bool.not_and]
section
variable {a b c d e f : Int} (h1 : ptOk (a, b) = true) (h2 : ptOk (c, d) = true) (h3 : ptOk (e, f) = true)
include h1 h2 h3
theorem cross_nowrap : wrap64 ((wrap64 ((wrap64 (c - a)) * (wrap64 (f - b)))) - (wrap64 ((wrap64 (d - b)) * (wrap64 (e - a))))) = cross (a, b) (c, d) (e, f) := by
  rw [ptOk_iff] at h1 h2 h3
  simp only at h1 h2 h3
  rw [w64 (x := c - a) (by omega) (by omega), w64 (x := f - b) (by omega) (by omega), w64 (x := d - b) (by omega) (by omega), w64 (x := e - a) (by omega) (by omega)]
  have b1 := mul_bound (x := c - a) (y := f - b) (by omega) (by omega) (by omega) (by omega)
  have b2 := mul_bound (x := d - b) (y := e - a) (by omega) (by omega) (by omega) (by omega)
  rw [w64 (x := (c - a) * (f - b)) (by omega) (by omega), w64 (x := (d - b) * (e - a)) (by omega) (by omega), w64 (by omega) (by omega)]
  rfl
theorem dot_nowrap : wrap64 ((wrap64 ((wrap64 (c - a)) * (wrap64 (e - a)))) + (wrap64 ((wrap64 (d - b)) * (wrap64 (f - b))))) = dot (a, b) (c, d) (e, f) := by
  rw [ptOk_iff] at h1 h2 h3
  simp only at h1 h2 h3
  rw [w64 (x := c - a) (by omega) (by omega), w64 (x := f - b) (by omega) (by omega), w64 (x := d - b) (by omega) (by omega), w64 (x := e - a) (by omega) (by omega)]
  have b1 := mul_bound (x := c - a) (y := e - a) (by omega) (by omega) (by omega) (by omega)
  have b2 := mul_bound (x := d - b) (y := f - b) (by omega) (by omega) (by omega) (by omega)
  rw [w64 (x := (c - a) * (e - a)) (by omega) (by omega), w64 (x := (d - b) * (f - b)) (by omega) (by omega), w64 (by omega) (by omega)]
  rfl
theorem iCross : impl_cross.f a b c d e f = some (cross (a, b) (c, d) (e, f)) := congrArg some (cross_nowrap h1 h2 h3)
theorem iAlong : impl_along.f a b c d e f = some (dot (a, b) (c, d) (e, f)) := congrArg some (dot_nowrap h1 h2 h3)
theorem sCross : spec_l2Cross.f a b c d e f = some (cross (a, b) (c, d) (e, f)) := congrArg some (cross_nowrap h1 h2 h3)
theorem sDot : spec_l2Dot.f a b c d e f = some (dot (a, b) (c, d) (e, f)) := congrArg some (dot_nowrap h1 h2 h3)
end
theorem iBetween {a b c d : Int} (h1 : ptOk (a, b) = true) (h2 : ptOk (c, d) = true) : impl_between.f a b c d = some (dot (a, b) (c, d) (c, d)) := by
  unfold impl_between.f
  rw [iAlong h1 h2 h2]; rfl
theorem segOk_ends {a b c d : Int} (h : segOk ((a, b), (c, d)) = true) : ptOk (a, b) = true ∧ ptOk (c, d) = true := ⟨((segOk_iff _).1 h).1, ((segOk_iff _).1 h).2.1⟩
theorem iSegHas {k : Nat} (hk : 1 ≤ k) (a b c d e f : Int) : impl_SegHas.f k a b c d e f = some (segHas ((a, b), (c, d)) (e, f)) := by
  obtain ⟨k, rfl⟩ : ∃ m, k = m + 1 := ⟨k - 1, by omega⟩
  unfold impl_SegHas.f segHas has
  simp only [impl_SegHas.j0, iSegOk, iPtOk, Option.bind_some]
  cases hs : segOk ((a, b), (c, d)) with
  | false => simp
  | true =>
    cases hp : ptOk (e, f) with
    | false => simp
    | true =>
      obtain ⟨o1, o2⟩ := segOk_ends hs
      simp only [if_true, iCross o1 o2 hp, iAlong o1 o2 hp, iBetween o1 o2, Option.bind_some]
      by_cases z : cross (a, b) (c, d) (e, f) = 0
      · simp only [z, bne_self_eq_false, Bool.false_eq_true, if_false, beq_self_eq_true, Bool.true_and]
        by_cases z1 : 0 ≤ dot (a, b) (c, d) (e, f)
        · rw [if_pos z1, decide_eq_true z1]; rfl
        · rw [if_neg z1, decide_eq_false z1]; rfl
      · rw [bne_iff_ne.mpr z, beq_eq_false_iff_ne.mpr z]; rfl
theorem iSegTurn {k : Nat} (hk : 1 ≤ k) (a b c d e f : Int) : impl_SegTurn.f k a b c d e f = some (segTurn (a, b) (c, d) (e, f)) := by
  obtain ⟨k, rfl⟩ : ∃ m, k = m + 1 := ⟨k - 1, by omega⟩
  unfold impl_SegTurn.f segTurn
  simp only [impl_SegTurn.j0, iPtOk, Option.bind_some]
  cases h1 : ptOk (a, b) with
  | false => simp
  | true =>
    cases h2 : ptOk (c, d) with
    | false => simp
    | true =>
      cases h3 : ptOk (e, f) with
      | false => simp
      | true =>
        simp only [if_true, Bool.not_true, Bool.false_eq_true, if_false, iCross h1 h2 h3, Option.bind_some, Bool.and_self]
        unfold sgn
        by_cases z : cross (a, b) (c, d) (e, f) > 0
        · rw [if_pos z, if_neg (by omega), if_pos z]
        · rw [if_neg z]
          by_cases z' : cross (a, b) (c, d) (e, f) < 0
          · rw [if_pos z', if_pos z']
          · rw [if_neg z', if_neg z', if_neg z]
theorem sgn_in (n : Int) : -1 ≤ sgn n ∧ sgn n ≤ 1 := by unfold sgn; split <;> (try split) <;> omega
theorem turn_mul (x y : Int) : wrap64 (sgn x * sgn y) = sgn x * sgn y := by
  have h1 := sgn_in x
  have h2 := sgn_in y
  have h3 := mul_bound (x := sgn x) (y := sgn y) (by omega) (by omega) (by omega) (by omega)
  exact w64 (by omega) (by omega)
theorem iSegMeet {k : Nat} (hk : 3 ≤ k) (a b c d e f g h : Int) : impl_SegMeet.f k a b c d e f g h = some (segMeet ((a, b), (c, d)) ((e, f), (g, h))) := by
  obtain ⟨k, rfl⟩ : ∃ m, k = m + 1 + 1 := ⟨k - 2, by omega⟩
  unfold impl_SegMeet.f segMeet
  simp only [impl_SegMeet.j0, iSegOk, Option.bind_some]
  cases hs : segOk ((a, b), (c, d)) with
  | false => simp
  | true =>
    cases ht : segOk ((e, f), (g, h)) with
    | false => simp
    | true =>
      obtain ⟨o1, o2⟩ := segOk_ends hs
      obtain ⟨o3, o4⟩ := segOk_ends ht
      simp only [if_true, Bool.not_true, Bool.false_eq_true, if_false, Bool.true_and]
      simp only [iSegHas (show 1 ≤ k + 1 by omega), iSegTurn (show 1 ≤ k by omega), impl_SegMeet.j1, Option.bind_some, if_true]
      unfold segHas segTurn meet
      simp only [hs, ht, o1, o2, o3, o4, Bool.true_and, Bool.and_self, if_true, turn_mul]
      cases has ((a, b), (c, d)) (e, f) <;> simp
      cases has ((a, b), (c, d)) (g, h) <;> simp
      cases has ((e, f), (g, h)) (a, b) <;> simp
      cases has ((e, f), (g, h)) (c, d) <;> simp
      by_cases z : sgn (cross (a, b) (c, d) (e, f)) * sgn (cross (a, b) (c, d) (g, h)) < 0
      · simp [z]
      · simp [z]
theorem red_whole {n : Int} (h0 : 0 ≤ n) (h1 : n ≤ 99999) : red (n, 1) = (n, 1) := red_of_ok (fracOk_whole h0 h1)
theorem sL2Far {k : Nat} (hk : 100000 ≤ k) {a b c d e f : Int} (hs : segOk ((a, b), (c, d)) = true) (hp : ptOk (e, f) = true) :
    spec_l2Far.f k a b c d e f = some ((red (far ((a, b), (c, d)) (e, f))).1, (red (far ((a, b), (c, d)) (e, f))).2) := by
  obtain ⟨o1, o2⟩ := segOk_ends hs
  have hin := far_inR hs hp
  unfold spec_l2Far.f far at *
  simp only [sDot o1 o2 hp, sDot o1 o2 o2, sDot o1 hp hp, sDot o2 hp hp, sCross o1 o2 hp, Option.bind_some]
  by_cases z : dot (a, b) (c, d) (e, f) ≤ 0
  · rw [if_pos z, if_pos z, red_whole (dot_self_nn _ _) (by have := (dot_bound o1 hp hp).2; omega)]
  · rw [if_neg z, if_neg z]
    rw [if_neg z] at hin
    by_cases z' : dot (a, b) (c, d) (c, d) ≤ dot (a, b) (c, d) (e, f)
    · rw [if_pos z', if_pos z', red_whole (dot_self_nn _ _) (by have := (dot_bound o2 hp hp).2; omega)]
    · rw [if_neg z', if_neg z']
      rw [if_neg z'] at hin
      have hc := cross_bound o1 o2 hp
      have hq := sq_bound hc.1 hc.2
      have hq' := isq_nn (cross (a, b) (c, d) (e, f))
      rw [w64 (by omega) (by omega), l1Of_told hk hin]
      rfl
theorem iFracOf {k : Nat} (hk : 100000 ≤ k) {n d : Int} (h : inR (n, d)) : impl_FracOf.f k n d = some ((red (n, d)).1, (red (n, d)).2, true) := by
  obtain ⟨a1, a2, a3, a4⟩ := h
  simp only at a1 a2 a3 a4
  have hg := gcd_pos (f := (n, d)) ⟨a1, a2, a3, a4⟩
  unfold impl_FracOf.f
  rw [if_neg (by omega), if_neg (by omega), if_neg (by omega), if_neg (by omega), gcd_told' a1 (by omega) (by omega)]
  simp only [Option.bind_some]
  simp only at hg
  rw [if_neg (by omega)]
  have e1 : Int.tdiv n (Int.gcd n d : Int) = n / (Int.gcd n d : Int) := Int.tdiv_eq_ediv_of_nonneg a1
  have e2 : Int.tdiv d (Int.gcd n d : Int) = d / (Int.gcd n d : Int) := Int.tdiv_eq_ediv_of_nonneg (by omega)
  have r := red_inR (f := (n, d)) ⟨a1, a2, a3, a4⟩
  obtain ⟨r1, r2, r3, r4⟩ := r
  unfold red at r1 r2 r3 r4 ⊢
  simp only at r1 r2 r3 r4 ⊢
  rw [e1, e2, w64 (by omega) (by omega), w64 (by omega) (by omega)]
theorem iFracOf1 {k : Nat} (hk : 100000 ≤ k) {n : Int} (h0 : 0 ≤ n) (h1 : n ≤ 99999) : impl_FracOf.f k n 1 = some (n, 1, true) := by
  rw [iFracOf hk (d := 1) ⟨h0, h1, Int.le_refl 1, by show (1 : Int) ≤ 99999; omega⟩, red_whole h0 h1]
theorem iStandOf {a b c d e f : Int} (hs : segOk ((a, b), (c, d)) = true) (hp : ptOk (e, f) = true) :
    impl_standOf.f a b c d e f = some (if dot (a, b) (c, d) (e, f) ≤ 0 then 0 else if dot (a, b) (c, d) (c, d) ≤ dot (a, b) (c, d) (e, f) then 2 else 1) := by
  obtain ⟨o1, o2⟩ := segOk_ends hs
  unfold impl_standOf.f
  simp only [iAlong o1 o2 hp, iBetween o1 o2, Option.bind_some]
  split
  · rfl
  · simp only [ge_iff_le]; split <;> rfl
theorem sSign (n : Int) : spec_l2Sign.f n = some (sgn n) := by
  unfold spec_l2Sign.f sgn
  split
  · rfl
  · split <;> rfl
theorem sHas {a b c d e f : Int} (h1 : ptOk (a, b) = true) (h2 : ptOk (c, d) = true) (h3 : ptOk (e, f) = true) : spec_l2Has.f a b c d e f = some (has ((a, b), (c, d)) (e, f)) := by
  unfold spec_l2Has.f has
  simp only [sCross h1 h2 h3, sDot h1 h2 h3, sDot h1 h2 h2, l6In_told, Option.bind_some]
  by_cases z : cross (a, b) (c, d) (e, f) = 0
  · simp [z]
  · rw [if_neg z, beq_eq_false_iff_ne.mpr z]; rfl
theorem sLeast {n d m q : Int} (h1 : fracOk (n, d) = true) (h2 : fracOk (m, q) = true) : spec_l2Least.f n d m q = some ((least (n, d) (m, q)).1, (least (n, d) (m, q)).2) := by
  obtain ⟨⟨a1, a2, a3, a4⟩, _⟩ := (fracOk_iff _).1 h1
  obtain ⟨⟨b1, b2, b3, b4⟩, _⟩ := (fracOk_iff _).1 h2
  simp only at a1 a2 a3 a4 b1 b2 b3 b4
  unfold spec_l2Least.f spec_l1Cmp.f least cmp0
  rw [prod_wrap a1 a2 (by omega) b4, prod_wrap b1 b2 (by omega) a4]
  simp only
  by_cases z : m * d < n * q
  · rw [if_pos z, if_pos z]; rfl
  · rw [if_neg z, if_neg z]
    by_cases z' : m * d > n * q
    · rw [if_pos z', if_pos z']; rfl
    · rw [if_neg z', if_neg z']; rfl
end Go.Proofs.YtnponnkcfgjeoaaDoor.X
end
section
namespace Go.Proofs.YtnponnkcfgjeoaaDoor.X
open Go.RowKit Go.Proofs.YtnponnkcfgjeoaaDoorW.PrintWords Go.Proofs.YtnponnkcfgjeoaaDoorW.PrintLast Go.Proofs.YtnponnkcfgjeoaaDoorW.PrintMore
attribute [local go_sem] max2_int min2_int max_two min_two max_three min_three max_four min_four
set_option linter.unusedVariables false
set_option linter.unusedSimpArgs false
def spec_l2Meet.f (a0_0 : Int) (a0_1 : Int) (a0_2 : Int) (a0_3 : Int) (a1_0 : Int) (a1_1 : Int) (a1_2 : Int) (a1_3 : Int) : Option (Bool) := (spec_l2Cross.f a0_0 a0_1 a0_2 a0_3 a1_0 a1_1).bind fun t133 => ((spec_l2Sign.f t133).bind fun t134 => ((spec_l2Cross.f a0_0 a0_1 a0_2 a0_3 a1_2 a1_3).bind fun t135 => ((spec_l2Sign.f t135).bind fun t136 => ((spec_l2Cross.f a1_0 a1_1 a1_2 a1_3 a0_0 a0_1).bind fun t137 => ((spec_l2Sign.f t137).bind fun t138 => ((spec_l2Cross.f a1_0 a1_1 a1_2 a1_3 a0_2 a0_3).bind fun t139 => ((spec_l2Sign.f t139).bind fun t140 => (if (wrap64 (t134 * t136)) < 0 then (if (wrap64 (t138 * t140)) < 0 then (some true) else ((spec_l2Has.f a0_0 a0_1 a0_2 a0_3 a1_0 a1_1).bind fun t141 => (if t141 = true then (some true) else ((spec_l2Has.f a0_0 a0_1 a0_2 a0_3 a1_2 a1_3).bind fun t142 => (if t142 = true then (some true) else ((spec_l2Has.f a1_0 a1_1 a1_2 a1_3 a0_0 a0_1).bind fun t143 => (if t143 = true then (some true) else ((spec_l2Has.f a1_0 a1_1 a1_2 a1_3 a0_2 a0_3).bind fun t144 => (some t144))))))))) else ((spec_l2Has.f a0_0 a0_1 a0_2 a0_3 a1_0 a1_1).bind fun t145 => (if t145 = true then (some true) else ((spec_l2Has.f a0_0 a0_1 a0_2 a0_3 a1_2 a1_3).bind fun t146 => (if t146 = true then (some true) else ((spec_l2Has.f a1_0 a1_1 a1_2 a1_3 a0_0 a0_1).bind fun t147 => (if t147 = true then (some true) else ((spec_l2Has.f a1_0 a1_1 a1_2 a1_3 a0_2 a0_3).bind fun t148 => (some t148))))))))))))))))
def spec_l2Meet.T1 : Bool × List (List Nat × List Nat) := (true, [([], []), ([0], [0]), ([], []), ([2], [2]), ([], []), ([4], [4]), ([1, 3, 5], [1, 3, 5]), ([6, 6], [6]), ([], []), ([8], [8]), ([], []), ([10], [10]), ([], []), ([12], [12]), ([9, 11, 13, 7], [9, 11, 13]), ([14, 14], [14]), ([7, 15], [7, 15]), ([16, 15, 0, 1, 2, 3, 4, 5, 6, 7, 8, 9, 10, 11, 12, 13, 14, 15, 16], [16])])
def spec_l2Meet.B1 : List Nat := [0, 1, 0, 4, 0, 16, 63, 127, 0, 256, 0, 1024, 0, 4096, 16383, 32767, 65535, 131071]
theorem spec_l2Meet.tab1 : rtab .any (opsOf Tryd.f72 1) = spec_l2Meet.T1 := by kernel_rfl
theorem spec_l2Meet.bits1 : waitsOk spec_l2Meet.T1.2 spec_l2Meet.B1 = true := by kernel_rfl
def spec_l2Meet.T2 : Bool × List (List Nat × List Nat) := (true, [([], []), ([0], [0]), ([], []), ([2], [2]), ([], []), ([4], [4]), ([1, 3, 5], [1, 3, 5]), ([6, 6], [6]), ([], []), ([8], [8]), ([], []), ([10], [10]), ([], []), ([12], [12]), ([9, 11, 13, 7], [9, 11, 13]), ([14, 14], [14]), ([7, 15], [7, 15]), ([16, 15, 0, 1, 2, 3, 4, 5, 6, 7, 8, 9, 10, 11, 12, 13, 14, 15, 16], [16])])
def spec_l2Meet.B2 : List Nat := [0, 1, 0, 4, 0, 16, 63, 127, 0, 256, 0, 1024, 0, 4096, 16383, 32767, 65535, 131071]
theorem spec_l2Meet.tab2 : rtab .any (opsOf Tryd.f72 2) = spec_l2Meet.T2 := by kernel_rfl
theorem spec_l2Meet.bits2 : waitsOk spec_l2Meet.T2.2 spec_l2Meet.B2 = true := by kernel_rfl
set_option maxHeartbeats 8000000 in
set_option maxRecDepth 100000 in
theorem spec_l2Meet.calls (a0_0 : Int) (a0_1 : Int) (a0_2 : Int) (a0_3 : Int) (a1_0 : Int) (a1_1 : Int) (a1_2 : Int) (a1_3 : Int) (r : Bool) (w : World) (h : spec_l2Meet.f a0_0 a0_1 a0_2 a0_3 a1_0 a1_1 a1_2 a1_3 = some r) :
  Calls Tryd.prog 72 #[.agg #[.int .i64 a0_0, .int .i64 a0_1, .int .i64 a0_2, .int .i64 a0_3], .agg #[.int .i64 a1_0, .int .i64 a1_1, .int .i64 a1_2, .int .i64 a1_3]] w fun e w' => e = .returned (.bool r) ∧ Below w.heap.size w w' := by
 have hu40 := Tryd.underlying40
 have hu38 := Tryd.underlying38
 have HB := Aside0.mk (Below.refl w.heap.size w)
 have H : ((spec_l2Cross.f a0_0 a0_1 a0_2 a0_3 a1_0 a1_1).bind fun t133 => ((spec_l2Sign.f t133).bind fun t134 => ((spec_l2Cross.f a0_0 a0_1 a0_2 a0_3 a1_2 a1_3).bind fun t135 => ((spec_l2Sign.f t135).bind fun t136 => ((spec_l2Cross.f a1_0 a1_1 a1_2 a1_3 a0_0 a0_1).bind fun t137 => ((spec_l2Sign.f t137).bind fun t138 => ((spec_l2Cross.f a1_0 a1_1 a1_2 a1_3 a0_2 a0_3).bind fun t139 => ((spec_l2Sign.f t139).bind fun t140 => (if (wrap64 (t134 * t136)) < 0 then (if (wrap64 (t138 * t140)) < 0 then (some true) else ((spec_l2Has.f a0_0 a0_1 a0_2 a0_3 a1_0 a1_1).bind fun t141 => (if t141 = true then (some true) else ((spec_l2Has.f a0_0 a0_1 a0_2 a0_3 a1_2 a1_3).bind fun t142 => (if t142 = true then (some true) else ((spec_l2Has.f a1_0 a1_1 a1_2 a1_3 a0_0 a0_1).bind fun t143 => (if t143 = true then (some true) else ((spec_l2Has.f a1_0 a1_1 a1_2 a1_3 a0_2 a0_3).bind fun t144 => (some t144))))))))) else ((spec_l2Has.f a0_0 a0_1 a0_2 a0_3 a1_0 a1_1).bind fun t145 => (if t145 = true then (some true) else ((spec_l2Has.f a0_0 a0_1 a0_2 a0_3 a1_2 a1_3).bind fun t146 => (if t146 = true then (some true) else ((spec_l2Has.f a1_0 a1_1 a1_2 a1_3 a0_0 a0_1).bind fun t147 => (if t147 = true then (some true) else ((spec_l2Has.f a1_0 a1_1 a1_2 a1_3 a0_2 a0_3).bind fun t148 => (some t148))))))))))))))))) = some r := h
 clear h
 replace H := Option.bind_eq_some_iff.mp H
 obtain ⟨t133, A30, H⟩ := H
 replace H : ((spec_l2Sign.f t133).bind fun t134 => ((spec_l2Cross.f a0_0 a0_1 a0_2 a0_3 a1_2 a1_3).bind fun t135 => ((spec_l2Sign.f t135).bind fun t136 => ((spec_l2Cross.f a1_0 a1_1 a1_2 a1_3 a0_0 a0_1).bind fun t137 => ((spec_l2Sign.f t137).bind fun t138 => ((spec_l2Cross.f a1_0 a1_1 a1_2 a1_3 a0_2 a0_3).bind fun t139 => ((spec_l2Sign.f t139).bind fun t140 => (if (wrap64 (t134 * t136)) < 0 then (if (wrap64 (t138 * t140)) < 0 then (some true) else ((spec_l2Has.f a0_0 a0_1 a0_2 a0_3 a1_0 a1_1).bind fun t141 => (if t141 = true then (some true) else ((spec_l2Has.f a0_0 a0_1 a0_2 a0_3 a1_2 a1_3).bind fun t142 => (if t142 = true then (some true) else ((spec_l2Has.f a1_0 a1_1 a1_2 a1_3 a0_0 a0_1).bind fun t143 => (if t143 = true then (some true) else ((spec_l2Has.f a1_0 a1_1 a1_2 a1_3 a0_2 a0_3).bind fun t144 => (some t144))))))))) else ((spec_l2Has.f a0_0 a0_1 a0_2 a0_3 a1_0 a1_1).bind fun t145 => (if t145 = true then (some true) else ((spec_l2Has.f a0_0 a0_1 a0_2 a0_3 a1_2 a1_3).bind fun t146 => (if t146 = true then (some true) else ((spec_l2Has.f a1_0 a1_1 a1_2 a1_3 a0_0 a0_1).bind fun t147 => (if t147 = true then (some true) else ((spec_l2Has.f a1_0 a1_1 a1_2 a1_3 a0_2 a0_3).bind fun t148 => (some t148)))))))))))))))) = some r := H
 have A3 := Aside0.mk A30
 clear A30
 replace H := Option.bind_eq_some_iff.mp H
 obtain ⟨t134, A40, H⟩ := H
 replace H : ((spec_l2Cross.f a0_0 a0_1 a0_2 a0_3 a1_2 a1_3).bind fun t135 => ((spec_l2Sign.f t135).bind fun t136 => ((spec_l2Cross.f a1_0 a1_1 a1_2 a1_3 a0_0 a0_1).bind fun t137 => ((spec_l2Sign.f t137).bind fun t138 => ((spec_l2Cross.f a1_0 a1_1 a1_2 a1_3 a0_2 a0_3).bind fun t139 => ((spec_l2Sign.f t139).bind fun t140 => (if (wrap64 (t134 * t136)) < 0 then (if (wrap64 (t138 * t140)) < 0 then (some true) else ((spec_l2Has.f a0_0 a0_1 a0_2 a0_3 a1_0 a1_1).bind fun t141 => (if t141 = true then (some true) else ((spec_l2Has.f a0_0 a0_1 a0_2 a0_3 a1_2 a1_3).bind fun t142 => (if t142 = true then (some true) else ((spec_l2Has.f a1_0 a1_1 a1_2 a1_3 a0_0 a0_1).bind fun t143 => (if t143 = true then (some true) else ((spec_l2Has.f a1_0 a1_1 a1_2 a1_3 a0_2 a0_3).bind fun t144 => (some t144))))))))) else ((spec_l2Has.f a0_0 a0_1 a0_2 a0_3 a1_0 a1_1).bind fun t145 => (if t145 = true then (some true) else ((spec_l2Has.f a0_0 a0_1 a0_2 a0_3 a1_2 a1_3).bind fun t146 => (if t146 = true then (some true) else ((spec_l2Has.f a1_0 a1_1 a1_2 a1_3 a0_0 a0_1).bind fun t147 => (if t147 = true then (some true) else ((spec_l2Has.f a1_0 a1_1 a1_2 a1_3 a0_2 a0_3).bind fun t148 => (some t148))))))))))))))) = some r := H
 have A4 := Aside0.mk A40
 clear A40
 replace H := Option.bind_eq_some_iff.mp H
 obtain ⟨t135, A50, H⟩ := H
 replace H : ((spec_l2Sign.f t135).bind fun t136 => ((spec_l2Cross.f a1_0 a1_1 a1_2 a1_3 a0_0 a0_1).bind fun t137 => ((spec_l2Sign.f t137).bind fun t138 => ((spec_l2Cross.f a1_0 a1_1 a1_2 a1_3 a0_2 a0_3).bind fun t139 => ((spec_l2Sign.f t139).bind fun t140 => (if (wrap64 (t134 * t136)) < 0 then (if (wrap64 (t138 * t140)) < 0 then (some true) else ((spec_l2Has.f a0_0 a0_1 a0_2 a0_3 a1_0 a1_1).bind fun t141 => (if t141 = true then (some true) else ((spec_l2Has.f a0_0 a0_1 a0_2 a0_3 a1_2 a1_3).bind fun t142 => (if t142 = true then (some true) else ((spec_l2Has.f a1_0 a1_1 a1_2 a1_3 a0_0 a0_1).bind fun t143 => (if t143 = true then (some true) else ((spec_l2Has.f a1_0 a1_1 a1_2 a1_3 a0_2 a0_3).bind fun t144 => (some t144))))))))) else ((spec_l2Has.f a0_0 a0_1 a0_2 a0_3 a1_0 a1_1).bind fun t145 => (if t145 = true then (some true) else ((spec_l2Has.f a0_0 a0_1 a0_2 a0_3 a1_2 a1_3).bind fun t146 => (if t146 = true then (some true) else ((spec_l2Has.f a1_0 a1_1 a1_2 a1_3 a0_0 a0_1).bind fun t147 => (if t147 = true then (some true) else ((spec_l2Has.f a1_0 a1_1 a1_2 a1_3 a0_2 a0_3).bind fun t148 => (some t148)))))))))))))) = some r := H
 have A5 := Aside0.mk A50
 clear A50
 replace H := Option.bind_eq_some_iff.mp H
 obtain ⟨t136, A60, H⟩ := H
 replace H : ((spec_l2Cross.f a1_0 a1_1 a1_2 a1_3 a0_0 a0_1).bind fun t137 => ((spec_l2Sign.f t137).bind fun t138 => ((spec_l2Cross.f a1_0 a1_1 a1_2 a1_3 a0_2 a0_3).bind fun t139 => ((spec_l2Sign.f t139).bind fun t140 => (if (wrap64 (t134 * t136)) < 0 then (if (wrap64 (t138 * t140)) < 0 then (some true) else ((spec_l2Has.f a0_0 a0_1 a0_2 a0_3 a1_0 a1_1).bind fun t141 => (if t141 = true then (some true) else ((spec_l2Has.f a0_0 a0_1 a0_2 a0_3 a1_2 a1_3).bind fun t142 => (if t142 = true then (some true) else ((spec_l2Has.f a1_0 a1_1 a1_2 a1_3 a0_0 a0_1).bind fun t143 => (if t143 = true then (some true) else ((spec_l2Has.f a1_0 a1_1 a1_2 a1_3 a0_2 a0_3).bind fun t144 => (some t144))))))))) else ((spec_l2Has.f a0_0 a0_1 a0_2 a0_3 a1_0 a1_1).bind fun t145 => (if t145 = true then (some true) else ((spec_l2Has.f a0_0 a0_1 a0_2 a0_3 a1_2 a1_3).bind fun t146 => (if t146 = true then (some true) else ((spec_l2Has.f a1_0 a1_1 a1_2 a1_3 a0_0 a0_1).bind fun t147 => (if t147 = true then (some true) else ((spec_l2Has.f a1_0 a1_1 a1_2 a1_3 a0_2 a0_3).bind fun t148 => (some t148))))))))))))) = some r := H
 have A6 := Aside0.mk A60
 clear A60
 replace H := Option.bind_eq_some_iff.mp H
 obtain ⟨t137, A70, H⟩ := H
 replace H : ((spec_l2Sign.f t137).bind fun t138 => ((spec_l2Cross.f a1_0 a1_1 a1_2 a1_3 a0_2 a0_3).bind fun t139 => ((spec_l2Sign.f t139).bind fun t140 => (if (wrap64 (t134 * t136)) < 0 then (if (wrap64 (t138 * t140)) < 0 then (some true) else ((spec_l2Has.f a0_0 a0_1 a0_2 a0_3 a1_0 a1_1).bind fun t141 => (if t141 = true then (some true) else ((spec_l2Has.f a0_0 a0_1 a0_2 a0_3 a1_2 a1_3).bind fun t142 => (if t142 = true then (some true) else ((spec_l2Has.f a1_0 a1_1 a1_2 a1_3 a0_0 a0_1).bind fun t143 => (if t143 = true then (some true) else ((spec_l2Has.f a1_0 a1_1 a1_2 a1_3 a0_2 a0_3).bind fun t144 => (some t144))))))))) else ((spec_l2Has.f a0_0 a0_1 a0_2 a0_3 a1_0 a1_1).bind fun t145 => (if t145 = true then (some true) else ((spec_l2Has.f a0_0 a0_1 a0_2 a0_3 a1_2 a1_3).bind fun t146 => (if t146 = true then (some true) else ((spec_l2Has.f a1_0 a1_1 a1_2 a1_3 a0_0 a0_1).bind fun t147 => (if t147 = true then (some true) else ((spec_l2Has.f a1_0 a1_1 a1_2 a1_3 a0_2 a0_3).bind fun t148 => (some t148)))))))))))) = some r := H
 have A7 := Aside0.mk A70
 clear A70
 replace H := Option.bind_eq_some_iff.mp H
 obtain ⟨t138, A80, H⟩ := H
 replace H : ((spec_l2Cross.f a1_0 a1_1 a1_2 a1_3 a0_2 a0_3).bind fun t139 => ((spec_l2Sign.f t139).bind fun t140 => (if (wrap64 (t134 * t136)) < 0 then (if (wrap64 (t138 * t140)) < 0 then (some true) else ((spec_l2Has.f a0_0 a0_1 a0_2 a0_3 a1_0 a1_1).bind fun t141 => (if t141 = true then (some true) else ((spec_l2Has.f a0_0 a0_1 a0_2 a0_3 a1_2 a1_3).bind fun t142 => (if t142 = true then (some true) else ((spec_l2Has.f a1_0 a1_1 a1_2 a1_3 a0_0 a0_1).bind fun t143 => (if t143 = true then (some true) else ((spec_l2Has.f a1_0 a1_1 a1_2 a1_3 a0_2 a0_3).bind fun t144 => (some t144))))))))) else ((spec_l2Has.f a0_0 a0_1 a0_2 a0_3 a1_0 a1_1).bind fun t145 => (if t145 = true then (some true) else ((spec_l2Has.f a0_0 a0_1 a0_2 a0_3 a1_2 a1_3).bind fun t146 => (if t146 = true then (some true) else ((spec_l2Has.f a1_0 a1_1 a1_2 a1_3 a0_0 a0_1).bind fun t147 => (if t147 = true then (some true) else ((spec_l2Has.f a1_0 a1_1 a1_2 a1_3 a0_2 a0_3).bind fun t148 => (some t148))))))))))) = some r := H
 have A8 := Aside0.mk A80
 clear A80
 replace H := Option.bind_eq_some_iff.mp H
 obtain ⟨t139, A90, H⟩ := H
 replace H : ((spec_l2Sign.f t139).bind fun t140 => (if (wrap64 (t134 * t136)) < 0 then (if (wrap64 (t138 * t140)) < 0 then (some true) else ((spec_l2Has.f a0_0 a0_1 a0_2 a0_3 a1_0 a1_1).bind fun t141 => (if t141 = true then (some true) else ((spec_l2Has.f a0_0 a0_1 a0_2 a0_3 a1_2 a1_3).bind fun t142 => (if t142 = true then (some true) else ((spec_l2Has.f a1_0 a1_1 a1_2 a1_3 a0_0 a0_1).bind fun t143 => (if t143 = true then (some true) else ((spec_l2Has.f a1_0 a1_1 a1_2 a1_3 a0_2 a0_3).bind fun t144 => (some t144))))))))) else ((spec_l2Has.f a0_0 a0_1 a0_2 a0_3 a1_0 a1_1).bind fun t145 => (if t145 = true then (some true) else ((spec_l2Has.f a0_0 a0_1 a0_2 a0_3 a1_2 a1_3).bind fun t146 => (if t146 = true then (some true) else ((spec_l2Has.f a1_0 a1_1 a1_2 a1_3 a0_0 a0_1).bind fun t147 => (if t147 = true then (some true) else ((spec_l2Has.f a1_0 a1_1 a1_2 a1_3 a0_2 a0_3).bind fun t148 => (some t148)))))))))) = some r := H
 have A9 := Aside0.mk A90
 clear A90
 replace H := Option.bind_eq_some_iff.mp H
 obtain ⟨t140, A100, H⟩ := H
 replace H : (if (wrap64 (t134 * t136)) < 0 then (if (wrap64 (t138 * t140)) < 0 then (some true) else ((spec_l2Has.f a0_0 a0_1 a0_2 a0_3 a1_0 a1_1).bind fun t141 => (if t141 = true then (some true) else ((spec_l2Has.f a0_0 a0_1 a0_2 a0_3 a1_2 a1_3).bind fun t142 => (if t142 = true then (some true) else ((spec_l2Has.f a1_0 a1_1 a1_2 a1_3 a0_0 a0_1).bind fun t143 => (if t143 = true then (some true) else ((spec_l2Has.f a1_0 a1_1 a1_2 a1_3 a0_2 a0_3).bind fun t144 => (some t144))))))))) else ((spec_l2Has.f a0_0 a0_1 a0_2 a0_3 a1_0 a1_1).bind fun t145 => (if t145 = true then (some true) else ((spec_l2Has.f a0_0 a0_1 a0_2 a0_3 a1_2 a1_3).bind fun t146 => (if t146 = true then (some true) else ((spec_l2Has.f a1_0 a1_1 a1_2 a1_3 a0_0 a0_1).bind fun t147 => (if t147 = true then (some true) else ((spec_l2Has.f a1_0 a1_1 a1_2 a1_3 a0_2 a0_3).bind fun t148 => (some t148))))))))) = some r := H
 have A10 := Aside0.mk A100
 clear A100
 go_enter Tryd.func72, Tryd.ntmps72
 try go_wp2_with (first | ((with_reducible refine gate_dst (N := 2) rfl ?_); refine box_event ?hg (N := 2) ?hd (cs := #[.int .i64 a0_0, .int .i64 a0_1, .int .i64 a0_2, .int .i64 a0_3]) (t := 40) ?hr ?_; (case hd => rfl); (case hg => rfl); (case hr => first | (go_simp; done) | (go_simp; rfl)); intro gb131 hg w13 hbox hb; have n0_ := Aside0.mk (below_step hB_ hb); have n1_ := Aside0.mk (hbox); have n2_ := Aside0.mk ((by rw [hg]; exact (below_size hB_) : w.heap.size ≤ gb131)); have n3_ := Aside0.mk ((by rw [hg]; exact (below_size hB_) : w.heap.size ≤ gb131)); clear HB; have HB := n0_; have BK131 := n1_; have GW131 := n2_; have GE131 := n3_; clear n0_ n1_ n2_ n3_; clear hb hbox hg) | ((with_reducible refine gate_dst (N := 3) rfl ?_); refine box_event ?hg (N := 3) ?hd (cs := #[.int .i64 a1_0, .int .i64 a1_1, .int .i64 a1_2, .int .i64 a1_3]) (t := 40) ?hr ?_; (case hd => rfl); (case hg => rfl); (case hr => first | (go_simp; done) | (go_simp; rfl)); intro gb132 hg w14 hbox hb; have n0_ := Aside0.mk (ub_ (g := gb131) hb); have n1_ := Aside0.mk (below_step hB_ hb); have n2_ := Aside0.mk (hbox); have n3_ := Aside0.mk ((by rw [hg]; exact (below_size hB_) : w.heap.size ≤ gb132)); have n4_ := Aside0.mk ((by rw [hg]; exact (below_size hB_) : w.heap.size ≤ gb132)); have n5_ := Aside0.mk ((by rw [hg]; exact Nat.ne_of_lt (blk_lt (g := gb131) (o := .cells #[.int .i64 a0_0, .int .i64 a0_1, .int .i64 a0_2, .int .i64 a0_3] 40 (0, 0)) uq_) : gb131 ≠ gb132)); have n6_ := Aside0.mk ((by rw [hg]; exact Nat.ne_of_gt (blk_lt (g := gb131) (o := .cells #[.int .i64 a0_0, .int .i64 a0_1, .int .i64 a0_2, .int .i64 a0_3] 40 (0, 0)) uq_) : gb132 ≠ gb131)); clear BK131; clear HB; have BK131 := n0_; have HB := n1_; have BK132 := n2_; have GW132 := n3_; have GE132 := n4_; have NB131_132 := n5_; have NB132_131 := n6_; clear n0_ n1_ n2_ n3_ n4_ n5_ n6_; clear hb hbox hg))
 have n0_ := Aside0.mk (blk_drew BK131.out)
 have n1_ := Aside0.mk (blk_drew BK132.out)
 have n2_ := Aside0.mk (below_drew1 HB.out)
 clear BK131 BK132 HB
 have BK131 := n0_
 have BK132 := n1_
 have HB := n2_
 clear n0_ n1_ n2_
 refine start_ (n := 18) (S := fun w' => w'.cell? ⟨gb131, 0, none⟩ = some (.int .i64 a0_0) ∧ w'.cell? ⟨gb131, 1, none⟩ = some (.int .i64 a0_1) ∧ w'.cell? ⟨gb131, 2, none⟩ = some (.int .i64 a0_2) ∧ w'.cell? ⟨gb131, 3, none⟩ = some (.int .i64 a0_3) ∧ w'.cell? ⟨gb132, 0, none⟩ = some (.int .i64 a1_0) ∧ w'.cell? ⟨gb132, 1, none⟩ = some (.int .i64 a1_1) ∧ w'.cell? ⟨gb132, 2, none⟩ = some (.int .i64 a1_2) ∧ w'.cell? ⟨gb132, 3, none⟩ = some (.int .i64 a1_3)) (ds := []) #[false, false, false, false, false, false, false, false, false, false, false, false, false, false, false, false, false, false] (by kernel_rfl) rfl rfl ⟨bc_, bc_, bc_, bc_, bc_, bc_, bc_, bc_⟩ (fun hHeld => ?_); refine with_tabW spec_l2Meet.tab1 spec_l2Meet.bits1 (fun HT_ HW_ => ?_)
 generalize w14.drew = w15 at BK131 BK132 HB hHeld ⊢
 refine pure_ (i := 0) (N := some 7) (v := ?_) (a' := ?_) (bm 18 1) rfl rfl (any_of HT_.out (by kernel_rfl)) (fun _ _ _ h => h) (Or.inl ⟨by rfl, ?_⟩) ?_ ?_
 rotate_left
 ·
  intro w'
  go_simp
  with_reducible rfl
 rotate_left
 ·
  simp only [Act.put, List.setIfInBounds_toArray, List.set_cons_zero, List.set_cons_succ, i64_w, i32_w]
  rfl
 refine pure_ (i := 2) (N := some 9) (v := ?_) (a' := ?_) (bm 18 5) rfl rfl (any_of HT_.out (by kernel_rfl)) (fun _ _ _ h => h) (Or.inl ⟨by rfl, ?_⟩) ?_ ?_
 rotate_left
 ·
  intro w'
  go_simp
  with_reducible rfl
 rotate_left
 ·
  simp only [Act.put, List.setIfInBounds_toArray, List.set_cons_zero, List.set_cons_succ, i64_w, i32_w]
  rfl
 refine pure_ (i := 4) (N := some 11) (v := ?_) (a' := ?_) (bm 18 21) rfl rfl (any_of HT_.out (by kernel_rfl)) (fun _ _ _ h => h) (Or.inl ⟨by rfl, ?_⟩) ?_ ?_
 rotate_left
 ·
  intro w'
  go_simp
  with_reducible rfl
 rotate_left
 ·
  simp only [Act.put, List.setIfInBounds_toArray, List.set_cons_zero, List.set_cons_succ, i64_w, i32_w]
  rfl
 refine pure_ (i := 8) (N := some 15) (v := ?_) (a' := ?_) (bm 18 277) rfl rfl (any_of HT_.out (by kernel_rfl)) (fun _ _ _ h => h) (Or.inl ⟨by rfl, ?_⟩) ?_ ?_
 rotate_left
 ·
  intro w'
  go_simp
  with_reducible rfl
 rotate_left
 ·
  simp only [Act.put, List.setIfInBounds_toArray, List.set_cons_zero, List.set_cons_succ, i64_w, i32_w]
  rfl
 refine pure_ (i := 10) (N := some 17) (v := ?_) (a' := ?_) (bm 18 1301) rfl rfl (any_of HT_.out (by kernel_rfl)) (fun _ _ _ h => h) (Or.inl ⟨by rfl, ?_⟩) ?_ ?_
 rotate_left
 ·
  intro w'
  go_simp
  with_reducible rfl
 rotate_left
 ·
  simp only [Act.put, List.setIfInBounds_toArray, List.set_cons_zero, List.set_cons_succ, i64_w, i32_w]
  rfl
 refine pure_ (i := 12) (N := some 19) (v := ?_) (a' := ?_) (bm 18 5397) rfl rfl (any_of HT_.out (by kernel_rfl)) (fun _ _ _ h => h) (Or.inl ⟨by rfl, ?_⟩) ?_ ?_
 rotate_left
 ·
  intro w'
  go_simp
  with_reducible rfl
 rotate_left
 ·
  simp only [Act.put, List.setIfInBounds_toArray, List.set_cons_zero, List.set_cons_succ, i64_w, i32_w]
  rfl
 refine take_ (i := 1) (N := some 8) (v := ?_) (a' := ?_) (bm 18 5399) rfl rfl (take_ofW HT_.out HW_.out (by kernel_rfl)) (fun _ _ _ h => h) (Or.inl ⟨by rfl, ?_⟩) hHeld ?_ ?_
 rotate_left
 ·
  rintro w' ⟨s0, s1, s2, s3, s4, s5, s6, s7⟩
  go_simp
  with_reducible rfl
 rotate_left
 ·
  simp only [Act.put, List.setIfInBounds_toArray, List.set_cons_zero, List.set_cons_succ, i64_w, i32_w]
  rfl
 refine take_ (i := 3) (N := some 10) (v := ?_) (a' := ?_) (bm 18 5407) rfl rfl (take_ofW HT_.out HW_.out (by kernel_rfl)) (fun _ _ _ h => h) (Or.inl ⟨by rfl, ?_⟩) hHeld ?_ ?_
 rotate_left
 ·
  rintro w' ⟨s0, s1, s2, s3, s4, s5, s6, s7⟩
  go_simp
  with_reducible rfl
 rotate_left
 ·
  simp only [Act.put, List.setIfInBounds_toArray, List.set_cons_zero, List.set_cons_succ, i64_w, i32_w]
  rfl
 refine take_ (i := 5) (N := some 12) (v := ?_) (a' := ?_) (bm 18 5439) rfl rfl (take_ofW HT_.out HW_.out (by kernel_rfl)) (fun _ _ _ h => h) (Or.inl ⟨by rfl, ?_⟩) hHeld ?_ ?_
 rotate_left
 ·
  rintro w' ⟨s0, s1, s2, s3, s4, s5, s6, s7⟩
  go_simp
  with_reducible rfl
 rotate_left
 ·
  simp only [Act.put, List.setIfInBounds_toArray, List.set_cons_zero, List.set_cons_succ, i64_w, i32_w]
  rfl
 refine take_ (i := 9) (N := some 16) (v := ?_) (a' := ?_) (bm 18 5951) rfl rfl (take_ofW HT_.out HW_.out (by kernel_rfl)) (fun _ _ _ h => h) (Or.inl ⟨by rfl, ?_⟩) hHeld ?_ ?_
 rotate_left
 ·
  rintro w' ⟨s0, s1, s2, s3, s4, s5, s6, s7⟩
  go_simp
  with_reducible rfl
 rotate_left
 ·
  simp only [Act.put, List.setIfInBounds_toArray, List.set_cons_zero, List.set_cons_succ, i64_w, i32_w]
  rfl
 refine take_ (i := 11) (N := some 18) (v := ?_) (a' := ?_) (bm 18 7999) rfl rfl (take_ofW HT_.out HW_.out (by kernel_rfl)) (fun _ _ _ h => h) (Or.inl ⟨by rfl, ?_⟩) hHeld ?_ ?_
 rotate_left
 ·
  rintro w' ⟨s0, s1, s2, s3, s4, s5, s6, s7⟩
  go_simp
  with_reducible rfl
 rotate_left
 ·
  simp only [Act.put, List.setIfInBounds_toArray, List.set_cons_zero, List.set_cons_succ, i64_w, i32_w]
  rfl
 refine take_ (i := 13) (N := some 20) (v := ?_) (a' := ?_) (bm 18 16191) rfl rfl (take_ofW HT_.out HW_.out (by kernel_rfl)) (fun _ _ _ h => h) (Or.inl ⟨by rfl, ?_⟩) hHeld ?_ ?_
 rotate_left
 ·
  rintro w' ⟨s0, s1, s2, s3, s4, s5, s6, s7⟩
  go_simp
  with_reducible rfl
 rotate_left
 ·
  simp only [Act.put, List.setIfInBounds_toArray, List.set_cons_zero, List.set_cons_succ, i64_w, i32_w]
  rfl
 refine one_ (i := 6) (N := some 13) (bm 18 16255) rfl rfl (one_of HT_.out (by kernel_rfl)) (by decide) (fun K hK => ?_)
 refine goes_ Tryd.func71 (by kernel_rfl) rfl #[.agg #[.int .i64 a0_0, .int .i64 a0_1], .agg #[.int .i64 a0_2, .int .i64 a0_3], .agg #[.int .i64 a1_0, .int .i64 a1_1]] (by rfl) rfl rfl ma_ ?_
 with_reducible refine (spec_l2Cross.calls a0_0 a0_1 a0_2 a0_3 a1_0 a1_1 t133 _ A3.out).mono ?_
 rintro e w16 ⟨rfl, hb⟩
 refine ⟨_, rfl, ?_⟩
 have n0_ := Aside0.mk (ub_ (g := gb131) hb)
 have n1_ := Aside0.mk (ub_ (g := gb132) hb)
 have n2_ := Aside0.mk (below_step hB_ hb)
 clear BK131 BK132 HB
 have BK131 := n0_
 have BK132 := n1_
 have HB := n2_
 clear n0_ n1_ n2_
 (try clear hb)
 (try clear hb2)
 (try clear hk)
 (try clear hi)
 refine hK.out _ _ ⟨bc_, bc_, bc_, bc_, bc_, bc_, bc_, bc_⟩ (fun hHeld => ?_)
 clear hK K
 refine norm_ (a' := ?_) ?_ ?_
 rotate_left
 ·
  show Act.put _ (some 13) _ = _
  simp only [Act.put, List.setIfInBounds_toArray, List.set_cons_zero, List.set_cons_succ, i64_w, i32_w]
  rfl
 refine one_ (i := 7) (N := some 14) (bm 18 16383) rfl rfl (one_of HT_.out (by kernel_rfl)) (by decide) (fun K hK => ?_)
 refine goes_ Tryd.func74 (by kernel_rfl) rfl #[.int .i64 t133] (by rfl) rfl rfl ma_ ?_
 with_reducible refine (spec_l2Sign.calls t133 t134 _ A4.out).mono ?_
 rintro e w' ⟨rfl, ⟨nd, rfl⟩⟩
 refine ⟨_, rfl, ?_⟩
 refine hK.out _ _ ⟨bc_, bc_, bc_, bc_, bc_, bc_, bc_, bc_⟩ (fun hHeld => ?_)
 clear hK K
 refine norm_ (a' := ?_) ?_ ?_
 rotate_left
 ·
  show Act.put _ (some 14) _ = _
  simp only [Act.put, List.setIfInBounds_toArray, List.set_cons_zero, List.set_cons_succ, i64_w, i32_w]
  rfl
 refine one_ (i := 14) (N := some 21) (bm 18 32767) rfl rfl (one_of HT_.out (by kernel_rfl)) (by decide) (fun K hK => ?_)
 refine goes_ Tryd.func71 (by kernel_rfl) rfl #[.agg #[.int .i64 a0_0, .int .i64 a0_1], .agg #[.int .i64 a0_2, .int .i64 a0_3], .agg #[.int .i64 a1_2, .int .i64 a1_3]] (by rfl) rfl rfl ma_ ?_
 with_reducible refine (spec_l2Cross.calls a0_0 a0_1 a0_2 a0_3 a1_2 a1_3 t135 _ A5.out).mono ?_
 rintro e w17 ⟨rfl, hb⟩
 refine ⟨_, rfl, ?_⟩
 have n0_ := Aside0.mk (ub_ (g := gb131) hb)
 have n1_ := Aside0.mk (ub_ (g := gb132) hb)
 have n2_ := Aside0.mk (below_step hB_ hb)
 clear BK131 BK132 HB
 have BK131 := n0_
 have BK132 := n1_
 have HB := n2_
 clear n0_ n1_ n2_
 (try clear hb)
 (try clear hb2)
 (try clear hk)
 (try clear hi)
 refine hK.out _ _ ⟨bc_, bc_, bc_, bc_, bc_, bc_, bc_, bc_⟩ (fun hHeld => ?_)
 clear hK K
 refine norm_ (a' := ?_) ?_ ?_
 rotate_left
 ·
  show Act.put _ (some 21) _ = _
  simp only [Act.put, List.setIfInBounds_toArray, List.set_cons_zero, List.set_cons_succ, i64_w, i32_w]
  rfl
 refine one_ (i := 15) (N := some 22) (bm 18 65535) rfl rfl (one_of HT_.out (by kernel_rfl)) (by decide) (fun K hK => ?_)
 refine goes_ Tryd.func74 (by kernel_rfl) rfl #[.int .i64 t135] (by rfl) rfl rfl ma_ ?_
 with_reducible refine (spec_l2Sign.calls t135 t136 _ A6.out).mono ?_
 rintro e w' ⟨rfl, ⟨nd, rfl⟩⟩
 refine ⟨_, rfl, ?_⟩
 refine hK.out _ _ ⟨bc_, bc_, bc_, bc_, bc_, bc_, bc_, bc_⟩ (fun hHeld => ?_)
 clear hK K
 refine norm_ (a' := ?_) ?_ ?_
 rotate_left
 ·
  show Act.put _ (some 22) _ = _
  simp only [Act.put, List.setIfInBounds_toArray, List.set_cons_zero, List.set_cons_succ, i64_w, i32_w]
  rfl
 refine pure_ (i := 16) (N := some 23) (v := ?_) (a' := ?_) (bm 18 131071) rfl rfl (any_of HT_.out (by kernel_rfl)) (fun _ _ _ h => h) (Or.inl ⟨by rfl, ?_⟩) ?_ ?_
 rotate_left
 ·
  intro w'
  go_simp
  with_reducible rfl
 rotate_left
 ·
  simp only [Act.put, List.setIfInBounds_toArray, List.set_cons_zero, List.set_cons_succ, i64_w, i32_w]
  rfl
 refine pure_ (i := 17) (N := some 5) (v := ?_) (a' := ?_) (bm 18 262143) rfl rfl (any_of HT_.out (by kernel_rfl)) (fun _ _ _ h => h) (Or.inl ⟨by rfl, ?_⟩) ?_ ?_
 rotate_left
 ·
  intro w'
  go_simp
  with_reducible rfl
 rotate_left
 ·
  simp only [Act.put, List.setIfInBounds_toArray, List.set_cons_zero, List.set_cons_succ, i64_w, i32_w]
  rfl
 refine done_ (done_of HT_.out (by kernel_rfl)) ?_
 try go_wp2
 (try (rw [drewN_self w17]; generalize hq_ : World.drewN w17 _ = w17; have n0_ : Aside0 (w17.heap[gb131]? = some (.cells #[.int .i64 a0_0, .int .i64 a0_1, .int .i64 a0_2, .int .i64 a0_3] 40 (0, 0))) := ⟨by rw [← hq_]; exact uq_⟩; have n1_ : Aside0 (w17.heap[gb132]? = some (.cells #[.int .i64 a1_0, .int .i64 a1_1, .int .i64 a1_2, .int .i64 a1_3] 40 (0, 0))) := ⟨by rw [← hq_]; exact uq_⟩; have n2_ : Aside0 (Below w.heap.size w w17) := ⟨by rw [← hq_]; exact hB_⟩; clear BK131 BK132 HB hq_; have BK131 := n0_; have BK132 := n1_; have HB := n2_; clear n0_ n1_ n2_))
 have n0_ := Aside0.mk (blk_drew BK131.out)
 have n1_ := Aside0.mk (blk_drew BK132.out)
 have n2_ := Aside0.mk (below_drew1 HB.out)
 clear BK131 BK132 HB
 have BK131 := n0_
 have BK132 := n1_
 have HB := n2_
 clear n0_ n1_ n2_
 refine start_ (n := 18) (S := fun w' => w'.cell? ⟨gb132, 0, none⟩ = some (.int .i64 a1_0) ∧ w'.cell? ⟨gb132, 1, none⟩ = some (.int .i64 a1_1) ∧ w'.cell? ⟨gb132, 2, none⟩ = some (.int .i64 a1_2) ∧ w'.cell? ⟨gb132, 3, none⟩ = some (.int .i64 a1_3) ∧ w'.cell? ⟨gb131, 0, none⟩ = some (.int .i64 a0_0) ∧ w'.cell? ⟨gb131, 1, none⟩ = some (.int .i64 a0_1) ∧ w'.cell? ⟨gb131, 2, none⟩ = some (.int .i64 a0_2) ∧ w'.cell? ⟨gb131, 3, none⟩ = some (.int .i64 a0_3)) (ds := []) #[false, false, false, false, false, false, false, false, false, false, false, false, false, false, false, false, false, false] (by kernel_rfl) rfl rfl ⟨bc_, bc_, bc_, bc_, bc_, bc_, bc_, bc_⟩ (fun hHeld => ?_); refine with_tabW spec_l2Meet.tab2 spec_l2Meet.bits2 (fun HT_ HW_ => ?_)
 generalize w17.drew = w18 at BK131 BK132 HB hHeld ⊢
 refine pure_ (i := 0) (N := some 24) (v := ?_) (a' := ?_) (bm 18 1) rfl rfl (any_of HT_.out (by kernel_rfl)) (fun _ _ _ h => h) (Or.inl ⟨by rfl, ?_⟩) ?_ ?_
 rotate_left
 ·
  intro w'
  go_simp
  with_reducible rfl
 rotate_left
 ·
  simp only [Act.put, List.setIfInBounds_toArray, List.set_cons_zero, List.set_cons_succ, i64_w, i32_w]
  rfl
 refine pure_ (i := 2) (N := some 26) (v := ?_) (a' := ?_) (bm 18 5) rfl rfl (any_of HT_.out (by kernel_rfl)) (fun _ _ _ h => h) (Or.inl ⟨by rfl, ?_⟩) ?_ ?_
 rotate_left
 ·
  intro w'
  go_simp
  with_reducible rfl
 rotate_left
 ·
  simp only [Act.put, List.setIfInBounds_toArray, List.set_cons_zero, List.set_cons_succ, i64_w, i32_w]
  rfl
 refine pure_ (i := 4) (N := some 28) (v := ?_) (a' := ?_) (bm 18 21) rfl rfl (any_of HT_.out (by kernel_rfl)) (fun _ _ _ h => h) (Or.inl ⟨by rfl, ?_⟩) ?_ ?_
 rotate_left
 ·
  intro w'
  go_simp
  with_reducible rfl
 rotate_left
 ·
  simp only [Act.put, List.setIfInBounds_toArray, List.set_cons_zero, List.set_cons_succ, i64_w, i32_w]
  rfl
 refine pure_ (i := 8) (N := some 32) (v := ?_) (a' := ?_) (bm 18 277) rfl rfl (any_of HT_.out (by kernel_rfl)) (fun _ _ _ h => h) (Or.inl ⟨by rfl, ?_⟩) ?_ ?_
 rotate_left
 ·
  intro w'
  go_simp
  with_reducible rfl
 rotate_left
 ·
  simp only [Act.put, List.setIfInBounds_toArray, List.set_cons_zero, List.set_cons_succ, i64_w, i32_w]
  rfl
 refine pure_ (i := 10) (N := some 34) (v := ?_) (a' := ?_) (bm 18 1301) rfl rfl (any_of HT_.out (by kernel_rfl)) (fun _ _ _ h => h) (Or.inl ⟨by rfl, ?_⟩) ?_ ?_
 rotate_left
 ·
  intro w'
  go_simp
  with_reducible rfl
 rotate_left
 ·
  simp only [Act.put, List.setIfInBounds_toArray, List.set_cons_zero, List.set_cons_succ, i64_w, i32_w]
  rfl
 refine pure_ (i := 12) (N := some 36) (v := ?_) (a' := ?_) (bm 18 5397) rfl rfl (any_of HT_.out (by kernel_rfl)) (fun _ _ _ h => h) (Or.inl ⟨by rfl, ?_⟩) ?_ ?_
 rotate_left
 ·
  intro w'
  go_simp
  with_reducible rfl
 rotate_left
 ·
  simp only [Act.put, List.setIfInBounds_toArray, List.set_cons_zero, List.set_cons_succ, i64_w, i32_w]
  rfl
 refine take_ (i := 1) (N := some 25) (v := ?_) (a' := ?_) (bm 18 5399) rfl rfl (take_ofW HT_.out HW_.out (by kernel_rfl)) (fun _ _ _ h => h) (Or.inl ⟨by rfl, ?_⟩) hHeld ?_ ?_
 rotate_left
 ·
  rintro w' ⟨s0, s1, s2, s3, s4, s5, s6, s7⟩
  go_simp
  with_reducible rfl
 rotate_left
 ·
  simp only [Act.put, List.setIfInBounds_toArray, List.set_cons_zero, List.set_cons_succ, i64_w, i32_w]
  rfl
 refine take_ (i := 3) (N := some 27) (v := ?_) (a' := ?_) (bm 18 5407) rfl rfl (take_ofW HT_.out HW_.out (by kernel_rfl)) (fun _ _ _ h => h) (Or.inl ⟨by rfl, ?_⟩) hHeld ?_ ?_
 rotate_left
 ·
  rintro w' ⟨s0, s1, s2, s3, s4, s5, s6, s7⟩
  go_simp
  with_reducible rfl
 rotate_left
 ·
  simp only [Act.put, List.setIfInBounds_toArray, List.set_cons_zero, List.set_cons_succ, i64_w, i32_w]
  rfl
 refine take_ (i := 5) (N := some 29) (v := ?_) (a' := ?_) (bm 18 5439) rfl rfl (take_ofW HT_.out HW_.out (by kernel_rfl)) (fun _ _ _ h => h) (Or.inl ⟨by rfl, ?_⟩) hHeld ?_ ?_
 rotate_left
 ·
  rintro w' ⟨s0, s1, s2, s3, s4, s5, s6, s7⟩
  go_simp
  with_reducible rfl
 rotate_left
 ·
  simp only [Act.put, List.setIfInBounds_toArray, List.set_cons_zero, List.set_cons_succ, i64_w, i32_w]
  rfl
 refine take_ (i := 9) (N := some 33) (v := ?_) (a' := ?_) (bm 18 5951) rfl rfl (take_ofW HT_.out HW_.out (by kernel_rfl)) (fun _ _ _ h => h) (Or.inl ⟨by rfl, ?_⟩) hHeld ?_ ?_
 rotate_left
 ·
  rintro w' ⟨s0, s1, s2, s3, s4, s5, s6, s7⟩
  go_simp
  with_reducible rfl
 rotate_left
 ·
  simp only [Act.put, List.setIfInBounds_toArray, List.set_cons_zero, List.set_cons_succ, i64_w, i32_w]
  rfl
 refine take_ (i := 11) (N := some 35) (v := ?_) (a' := ?_) (bm 18 7999) rfl rfl (take_ofW HT_.out HW_.out (by kernel_rfl)) (fun _ _ _ h => h) (Or.inl ⟨by rfl, ?_⟩) hHeld ?_ ?_
 rotate_left
 ·
  rintro w' ⟨s0, s1, s2, s3, s4, s5, s6, s7⟩
  go_simp
  with_reducible rfl
 rotate_left
 ·
  simp only [Act.put, List.setIfInBounds_toArray, List.set_cons_zero, List.set_cons_succ, i64_w, i32_w]
  rfl
 refine take_ (i := 13) (N := some 37) (v := ?_) (a' := ?_) (bm 18 16191) rfl rfl (take_ofW HT_.out HW_.out (by kernel_rfl)) (fun _ _ _ h => h) (Or.inl ⟨by rfl, ?_⟩) hHeld ?_ ?_
 rotate_left
 ·
  rintro w' ⟨s0, s1, s2, s3, s4, s5, s6, s7⟩
  go_simp
  with_reducible rfl
 rotate_left
 ·
  simp only [Act.put, List.setIfInBounds_toArray, List.set_cons_zero, List.set_cons_succ, i64_w, i32_w]
  rfl
 refine one_ (i := 6) (N := some 30) (bm 18 16255) rfl rfl (one_of HT_.out (by kernel_rfl)) (by decide) (fun K hK => ?_)
 refine goes_ Tryd.func71 (by kernel_rfl) rfl #[.agg #[.int .i64 a1_0, .int .i64 a1_1], .agg #[.int .i64 a1_2, .int .i64 a1_3], .agg #[.int .i64 a0_0, .int .i64 a0_1]] (by rfl) rfl rfl ma_ ?_
 with_reducible refine (spec_l2Cross.calls a1_0 a1_1 a1_2 a1_3 a0_0 a0_1 t137 _ A7.out).mono ?_
 rintro e w19 ⟨rfl, hb⟩
 refine ⟨_, rfl, ?_⟩
 have n0_ := Aside0.mk (ub_ (g := gb131) hb)
 have n1_ := Aside0.mk (ub_ (g := gb132) hb)
 have n2_ := Aside0.mk (below_step hB_ hb)
 clear BK131 BK132 HB
 have BK131 := n0_
 have BK132 := n1_
 have HB := n2_
 clear n0_ n1_ n2_
 (try clear hb)
 (try clear hb2)
 (try clear hk)
 (try clear hi)
 refine hK.out _ _ ⟨bc_, bc_, bc_, bc_, bc_, bc_, bc_, bc_⟩ (fun hHeld => ?_)
 clear hK K
 refine norm_ (a' := ?_) ?_ ?_
 rotate_left
 ·
  show Act.put _ (some 30) _ = _
  simp only [Act.put, List.setIfInBounds_toArray, List.set_cons_zero, List.set_cons_succ, i64_w, i32_w]
  rfl
 refine one_ (i := 7) (N := some 31) (bm 18 16383) rfl rfl (one_of HT_.out (by kernel_rfl)) (by decide) (fun K hK => ?_)
 refine goes_ Tryd.func74 (by kernel_rfl) rfl #[.int .i64 t137] (by rfl) rfl rfl ma_ ?_
 with_reducible refine (spec_l2Sign.calls t137 t138 _ A8.out).mono ?_
 rintro e w' ⟨rfl, ⟨nd, rfl⟩⟩
 refine ⟨_, rfl, ?_⟩
 refine hK.out _ _ ⟨bc_, bc_, bc_, bc_, bc_, bc_, bc_, bc_⟩ (fun hHeld => ?_)
 clear hK K
 refine norm_ (a' := ?_) ?_ ?_
 rotate_left
 ·
  show Act.put _ (some 31) _ = _
  simp only [Act.put, List.setIfInBounds_toArray, List.set_cons_zero, List.set_cons_succ, i64_w, i32_w]
  rfl
 refine one_ (i := 14) (N := some 38) (bm 18 32767) rfl rfl (one_of HT_.out (by kernel_rfl)) (by decide) (fun K hK => ?_)
 refine goes_ Tryd.func71 (by kernel_rfl) rfl #[.agg #[.int .i64 a1_0, .int .i64 a1_1], .agg #[.int .i64 a1_2, .int .i64 a1_3], .agg #[.int .i64 a0_2, .int .i64 a0_3]] (by rfl) rfl rfl ma_ ?_
 with_reducible refine (spec_l2Cross.calls a1_0 a1_1 a1_2 a1_3 a0_2 a0_3 t139 _ A9.out).mono ?_
 rintro e w20 ⟨rfl, hb⟩
 refine ⟨_, rfl, ?_⟩
 have n0_ := Aside0.mk (ub_ (g := gb131) hb)
 have n1_ := Aside0.mk (ub_ (g := gb132) hb)
 have n2_ := Aside0.mk (below_step hB_ hb)
 clear BK131 BK132 HB
 have BK131 := n0_
 have BK132 := n1_
 have HB := n2_
 clear n0_ n1_ n2_
 (try clear hb)
 (try clear hb2)
 (try clear hk)
 (try clear hi)
 refine hK.out _ _ ⟨bc_, bc_, bc_, bc_, bc_, bc_, bc_, bc_⟩ (fun hHeld => ?_)
 clear hK K
 refine norm_ (a' := ?_) ?_ ?_
 rotate_left
 ·
  show Act.put _ (some 38) _ = _
  simp only [Act.put, List.setIfInBounds_toArray, List.set_cons_zero, List.set_cons_succ, i64_w, i32_w]
  rfl
 refine one_ (i := 15) (N := some 39) (bm 18 65535) rfl rfl (one_of HT_.out (by kernel_rfl)) (by decide) (fun K hK => ?_)
 refine goes_ Tryd.func74 (by kernel_rfl) rfl #[.int .i64 t139] (by rfl) rfl rfl ma_ ?_
 with_reducible refine (spec_l2Sign.calls t139 t140 _ A10.out).mono ?_
 rintro e w' ⟨rfl, ⟨nd, rfl⟩⟩
 refine ⟨_, rfl, ?_⟩
 refine hK.out _ _ ⟨bc_, bc_, bc_, bc_, bc_, bc_, bc_, bc_⟩ (fun hHeld => ?_)
 clear hK K
 refine norm_ (a' := ?_) ?_ ?_
 rotate_left
 ·
  show Act.put _ (some 39) _ = _
  simp only [Act.put, List.setIfInBounds_toArray, List.set_cons_zero, List.set_cons_succ, i64_w, i32_w]
  rfl
 refine pure_ (i := 16) (N := some 40) (v := ?_) (a' := ?_) (bm 18 131071) rfl rfl (any_of HT_.out (by kernel_rfl)) (fun _ _ _ h => h) (Or.inl ⟨by rfl, ?_⟩) ?_ ?_
 rotate_left
 ·
  intro w'
  go_simp
  with_reducible rfl
 rotate_left
 ·
  simp only [Act.put, List.setIfInBounds_toArray, List.set_cons_zero, List.set_cons_succ, i64_w, i32_w]
  rfl
 refine pure_ (i := 17) (N := some 6) (v := ?_) (a' := ?_) (bm 18 262143) rfl rfl (any_of HT_.out (by kernel_rfl)) (fun _ _ _ h => h) (Or.inl ⟨by rfl, ?_⟩) ?_ ?_
 rotate_left
 ·
  intro w'
  go_simp
  with_reducible rfl
 rotate_left
 ·
  simp only [Act.put, List.setIfInBounds_toArray, List.set_cons_zero, List.set_cons_succ, i64_w, i32_w]
  rfl
 refine done_ (done_of HT_.out (by kernel_rfl)) ?_
 by_cases c11 : (wrap64 (t134 * t136)) < 0
 ·
  rw [if_pos c11] at H
  have c11b0 : decide ((wrap64 (t134 * t136)) < 0) = true := decide_eq_true c11
  clear c11
  by_cases c12 : (wrap64 (t138 * t140)) < 0
  ·
   rw [if_pos c12] at H
   have c12b0 : decide ((wrap64 (t138 * t140)) < 0) = true := decide_eq_true c12
   clear c12
   obtain rfl := Option.some.inj H
   try go_wp2
   go_ret
   exact ⟨by first | rfl | (simp [errW_none, errW_some] <;> rfl) | (simp [*, errW_none, errW_some] <;> rfl), hB_⟩
  ·
   rw [if_neg c12] at H
   have c12b0 : decide ((wrap64 (t138 * t140)) < 0) = false := decide_eq_false c12
   clear c12
   replace H := Option.bind_eq_some_iff.mp H
   obtain ⟨t141, A210, H⟩ := H
   replace H : (if t141 = true then (some true) else ((spec_l2Has.f a0_0 a0_1 a0_2 a0_3 a1_2 a1_3).bind fun t142 => (if t142 = true then (some true) else ((spec_l2Has.f a1_0 a1_1 a1_2 a1_3 a0_0 a0_1).bind fun t143 => (if t143 = true then (some true) else ((spec_l2Has.f a1_0 a1_1 a1_2 a1_3 a0_2 a0_3).bind fun t144 => (some t144))))))) = some r := H
   have A21 := Aside0.mk A210
   clear A210
   by_cases c22 : t141 = true
   ·
    subst c22
    have H1 : (some true) = some r := by rw [if_pos rfl] at H; exact H
    clear H
    have H := H1
    clear H1
    obtain rfl := Option.some.inj H
    have hnb31 := NB131_132.out
    have hnc31 := NB132_131.out
    have hcz32_0 : w20.cell? ⟨gb131, 0, none⟩ = some (.int .i64 a0_0) := bc_
    have hcz32_1 : w20.cell? ⟨gb131, 1, none⟩ = some (.int .i64 a0_1) := bc_
    have hcz32_2 : w20.cell? ⟨gb131, 2, none⟩ = some (.int .i64 a0_2) := bc_
    have hcz32_3 : w20.cell? ⟨gb131, 3, none⟩ = some (.int .i64 a0_3) := bc_
    have hfz32_0 := blk_frozen BK131.out 0
    have hfz32_1 := blk_frozen BK131.out 1
    have hfz32_2 := blk_frozen BK131.out 2
    have hfz32_3 := blk_frozen BK131.out 3
    have hcz33_0 : w20.cell? ⟨gb132, 0, none⟩ = some (.int .i64 a1_0) := bc_
    have hcz33_1 : w20.cell? ⟨gb132, 1, none⟩ = some (.int .i64 a1_1) := bc_
    have hcz33_2 : w20.cell? ⟨gb132, 2, none⟩ = some (.int .i64 a1_2) := bc_
    have hcz33_3 : w20.cell? ⟨gb132, 3, none⟩ = some (.int .i64 a1_3) := bc_
    have hfz33_0 := blk_frozen BK132.out 0
    have hfz33_1 := blk_frozen BK132.out 1
    have hfz33_2 := blk_frozen BK132.out 2
    have hfz33_3 := blk_frozen BK132.out 3
    try go_wp2_with (first | (go_at_call 75; (with_reducible refine (spec_l2Has.calls a0_0 a0_1 a0_2 a0_3 a1_0 a1_1 true _ A21.out).mono ?_); rintro e w34 ⟨rfl, hb⟩; have n0_ := Aside0.mk (ub_ (g := gb131) hb); have n1_ := Aside0.mk (ub_ (g := gb132) hb); have n2_ := Aside0.mk (below_step hB_ hb); clear BK131; clear BK132; clear HB; have BK131 := n0_; have BK132 := n1_; have HB := n2_; clear n0_ n1_ n2_; (try clear hb); (try clear hb2); (try clear hk); (try clear hi)))
    go_ret
    exact ⟨by first | rfl | (simp [errW_none, errW_some] <;> rfl) | (simp [*, errW_none, errW_some] <;> rfl), hB_⟩
   ·
    replace c22 := Bool.eq_false_iff.mpr c22
    subst c22
    have H1 : ((spec_l2Has.f a0_0 a0_1 a0_2 a0_3 a1_2 a1_3).bind fun t142 => (if t142 = true then (some true) else ((spec_l2Has.f a1_0 a1_1 a1_2 a1_3 a0_0 a0_1).bind fun t143 => (if t143 = true then (some true) else ((spec_l2Has.f a1_0 a1_1 a1_2 a1_3 a0_2 a0_3).bind fun t144 => (some t144)))))) = some r := by rw [if_neg (show ¬ (false = true) by decide)] at H; exact H
    clear H
    have H := H1
    clear H1
    replace H := Option.bind_eq_some_iff.mp H
    obtain ⟨t142, A350, H⟩ := H
    replace H : (if t142 = true then (some true) else ((spec_l2Has.f a1_0 a1_1 a1_2 a1_3 a0_0 a0_1).bind fun t143 => (if t143 = true then (some true) else ((spec_l2Has.f a1_0 a1_1 a1_2 a1_3 a0_2 a0_3).bind fun t144 => (some t144))))) = some r := H
    have A35 := Aside0.mk A350
    clear A350
    by_cases c36 : t142 = true
    ·
     subst c36
     have H1 : (some true) = some r := by rw [if_pos rfl] at H; exact H
     clear H
     have H := H1
     clear H1
     obtain rfl := Option.some.inj H
     have hnb45 := NB131_132.out
     have hnc45 := NB132_131.out
     have hcz46_0 : w20.cell? ⟨gb131, 0, none⟩ = some (.int .i64 a0_0) := bc_
     have hcz46_1 : w20.cell? ⟨gb131, 1, none⟩ = some (.int .i64 a0_1) := bc_
     have hcz46_2 : w20.cell? ⟨gb131, 2, none⟩ = some (.int .i64 a0_2) := bc_
     have hcz46_3 : w20.cell? ⟨gb131, 3, none⟩ = some (.int .i64 a0_3) := bc_
     have hfz46_0 := blk_frozen BK131.out 0
     have hfz46_1 := blk_frozen BK131.out 1
     have hfz46_2 := blk_frozen BK131.out 2
     have hfz46_3 := blk_frozen BK131.out 3
     have hcz47_0 : w20.cell? ⟨gb132, 0, none⟩ = some (.int .i64 a1_0) := bc_
     have hcz47_1 : w20.cell? ⟨gb132, 1, none⟩ = some (.int .i64 a1_1) := bc_
     have hcz47_2 : w20.cell? ⟨gb132, 2, none⟩ = some (.int .i64 a1_2) := bc_
     have hcz47_3 : w20.cell? ⟨gb132, 3, none⟩ = some (.int .i64 a1_3) := bc_
     have hfz47_0 := blk_frozen BK132.out 0
     have hfz47_1 := blk_frozen BK132.out 1
     have hfz47_2 := blk_frozen BK132.out 2
     have hfz47_3 := blk_frozen BK132.out 3
     try go_wp2_with (first | (go_at_call 75; (with_reducible refine (spec_l2Has.calls a0_0 a0_1 a0_2 a0_3 a1_0 a1_1 false _ A21.out).mono ?_); rintro e w48 ⟨rfl, hb⟩; have n0_ := Aside0.mk (ub_ (g := gb131) hb); have n1_ := Aside0.mk (ub_ (g := gb132) hb); have n2_ := Aside0.mk (below_step hB_ hb); clear BK131; clear BK132; clear HB; have BK131 := n0_; have BK132 := n1_; have HB := n2_; clear n0_ n1_ n2_; (try clear hb); (try clear hb2); (try clear hk); (try clear hi); have hcz49_0 : w48.cell? ⟨gb131, 0, none⟩ = some (.int .i64 a0_0) := bc_; have hcz49_1 : w48.cell? ⟨gb131, 1, none⟩ = some (.int .i64 a0_1) := bc_; have hcz49_2 : w48.cell? ⟨gb131, 2, none⟩ = some (.int .i64 a0_2) := bc_; have hcz49_3 : w48.cell? ⟨gb131, 3, none⟩ = some (.int .i64 a0_3) := bc_; have hfz49_0 := blk_frozen BK131.out 0; have hfz49_1 := blk_frozen BK131.out 1; have hfz49_2 := blk_frozen BK131.out 2; have hfz49_3 := blk_frozen BK131.out 3; have hcz50_0 : w48.cell? ⟨gb132, 0, none⟩ = some (.int .i64 a1_0) := bc_; have hcz50_1 : w48.cell? ⟨gb132, 1, none⟩ = some (.int .i64 a1_1) := bc_; have hcz50_2 : w48.cell? ⟨gb132, 2, none⟩ = some (.int .i64 a1_2) := bc_; have hcz50_3 : w48.cell? ⟨gb132, 3, none⟩ = some (.int .i64 a1_3) := bc_; have hfz50_0 := blk_frozen BK132.out 0; have hfz50_1 := blk_frozen BK132.out 1; have hfz50_2 := blk_frozen BK132.out 2; have hfz50_3 := blk_frozen BK132.out 3) | (go_at_call 75; (with_reducible refine (spec_l2Has.calls a0_0 a0_1 a0_2 a0_3 a1_2 a1_3 true _ A35.out).mono ?_); rintro e w51 ⟨rfl, hb⟩; have n0_ := Aside0.mk (ub_ (g := gb131) hb); have n1_ := Aside0.mk (ub_ (g := gb132) hb); have n2_ := Aside0.mk (below_step hB_ hb); clear BK131; clear BK132; clear HB; have BK131 := n0_; have BK132 := n1_; have HB := n2_; clear n0_ n1_ n2_; (try clear hb); (try clear hb2); (try clear hk); (try clear hi)))
     go_ret
     exact ⟨by first | rfl | (simp [errW_none, errW_some] <;> rfl) | (simp [*, errW_none, errW_some] <;> rfl), hB_⟩
    ·
     replace c36 := Bool.eq_false_iff.mpr c36
     subst c36
     have H1 : ((spec_l2Has.f a1_0 a1_1 a1_2 a1_3 a0_0 a0_1).bind fun t143 => (if t143 = true then (some true) else ((spec_l2Has.f a1_0 a1_1 a1_2 a1_3 a0_2 a0_3).bind fun t144 => (some t144)))) = some r := by rw [if_neg (show ¬ (false = true) by decide)] at H; exact H
     clear H
     have H := H1
     clear H1
     replace H := Option.bind_eq_some_iff.mp H
     obtain ⟨t143, A520, H⟩ := H
     replace H : (if t143 = true then (some true) else ((spec_l2Has.f a1_0 a1_1 a1_2 a1_3 a0_2 a0_3).bind fun t144 => (some t144))) = some r := H
     have A52 := Aside0.mk A520
     clear A520
     by_cases c53 : t143 = true
     ·
      subst c53
      have H1 : (some true) = some r := by rw [if_pos rfl] at H; exact H
      clear H
      have H := H1
      clear H1
      obtain rfl := Option.some.inj H
      have hnb62 := NB131_132.out
      have hnc62 := NB132_131.out
      have hcz63_0 : w20.cell? ⟨gb131, 0, none⟩ = some (.int .i64 a0_0) := bc_
      have hcz63_1 : w20.cell? ⟨gb131, 1, none⟩ = some (.int .i64 a0_1) := bc_
      have hcz63_2 : w20.cell? ⟨gb131, 2, none⟩ = some (.int .i64 a0_2) := bc_
      have hcz63_3 : w20.cell? ⟨gb131, 3, none⟩ = some (.int .i64 a0_3) := bc_
      have hfz63_0 := blk_frozen BK131.out 0
      have hfz63_1 := blk_frozen BK131.out 1
      have hfz63_2 := blk_frozen BK131.out 2
      have hfz63_3 := blk_frozen BK131.out 3
      have hcz64_0 : w20.cell? ⟨gb132, 0, none⟩ = some (.int .i64 a1_0) := bc_
      have hcz64_1 : w20.cell? ⟨gb132, 1, none⟩ = some (.int .i64 a1_1) := bc_
      have hcz64_2 : w20.cell? ⟨gb132, 2, none⟩ = some (.int .i64 a1_2) := bc_
      have hcz64_3 : w20.cell? ⟨gb132, 3, none⟩ = some (.int .i64 a1_3) := bc_
      have hfz64_0 := blk_frozen BK132.out 0
      have hfz64_1 := blk_frozen BK132.out 1
      have hfz64_2 := blk_frozen BK132.out 2
      have hfz64_3 := blk_frozen BK132.out 3
      try go_wp2_with (first | (go_at_call 75; (with_reducible refine (spec_l2Has.calls a0_0 a0_1 a0_2 a0_3 a1_0 a1_1 false _ A21.out).mono ?_); rintro e w65 ⟨rfl, hb⟩; have n0_ := Aside0.mk (ub_ (g := gb131) hb); have n1_ := Aside0.mk (ub_ (g := gb132) hb); have n2_ := Aside0.mk (below_step hB_ hb); clear BK131; clear BK132; clear HB; have BK131 := n0_; have BK132 := n1_; have HB := n2_; clear n0_ n1_ n2_; (try clear hb); (try clear hb2); (try clear hk); (try clear hi); have hcz66_0 : w65.cell? ⟨gb131, 0, none⟩ = some (.int .i64 a0_0) := bc_; have hcz66_1 : w65.cell? ⟨gb131, 1, none⟩ = some (.int .i64 a0_1) := bc_; have hcz66_2 : w65.cell? ⟨gb131, 2, none⟩ = some (.int .i64 a0_2) := bc_; have hcz66_3 : w65.cell? ⟨gb131, 3, none⟩ = some (.int .i64 a0_3) := bc_; have hfz66_0 := blk_frozen BK131.out 0; have hfz66_1 := blk_frozen BK131.out 1; have hfz66_2 := blk_frozen BK131.out 2; have hfz66_3 := blk_frozen BK131.out 3; have hcz67_0 : w65.cell? ⟨gb132, 0, none⟩ = some (.int .i64 a1_0) := bc_; have hcz67_1 : w65.cell? ⟨gb132, 1, none⟩ = some (.int .i64 a1_1) := bc_; have hcz67_2 : w65.cell? ⟨gb132, 2, none⟩ = some (.int .i64 a1_2) := bc_; have hcz67_3 : w65.cell? ⟨gb132, 3, none⟩ = some (.int .i64 a1_3) := bc_; have hfz67_0 := blk_frozen BK132.out 0; have hfz67_1 := blk_frozen BK132.out 1; have hfz67_2 := blk_frozen BK132.out 2; have hfz67_3 := blk_frozen BK132.out 3) | (go_at_call 75; (with_reducible refine (spec_l2Has.calls a0_0 a0_1 a0_2 a0_3 a1_2 a1_3 false _ A35.out).mono ?_); rintro e w68 ⟨rfl, hb⟩; have n0_ := Aside0.mk (ub_ (g := gb131) hb); have n1_ := Aside0.mk (ub_ (g := gb132) hb); have n2_ := Aside0.mk (below_step hB_ hb); clear BK131; clear BK132; clear HB; have BK131 := n0_; have BK132 := n1_; have HB := n2_; clear n0_ n1_ n2_; (try clear hb); (try clear hb2); (try clear hk); (try clear hi); have hcz69_0 : w68.cell? ⟨gb132, 0, none⟩ = some (.int .i64 a1_0) := bc_; have hcz69_1 : w68.cell? ⟨gb132, 1, none⟩ = some (.int .i64 a1_1) := bc_; have hcz69_2 : w68.cell? ⟨gb132, 2, none⟩ = some (.int .i64 a1_2) := bc_; have hcz69_3 : w68.cell? ⟨gb132, 3, none⟩ = some (.int .i64 a1_3) := bc_; have hfz69_0 := blk_frozen BK132.out 0; have hfz69_1 := blk_frozen BK132.out 1; have hfz69_2 := blk_frozen BK132.out 2; have hfz69_3 := blk_frozen BK132.out 3; have hcz70_0 : w68.cell? ⟨gb131, 0, none⟩ = some (.int .i64 a0_0) := bc_; have hcz70_1 : w68.cell? ⟨gb131, 1, none⟩ = some (.int .i64 a0_1) := bc_; have hcz70_2 : w68.cell? ⟨gb131, 2, none⟩ = some (.int .i64 a0_2) := bc_; have hcz70_3 : w68.cell? ⟨gb131, 3, none⟩ = some (.int .i64 a0_3) := bc_; have hfz70_0 := blk_frozen BK131.out 0; have hfz70_1 := blk_frozen BK131.out 1; have hfz70_2 := blk_frozen BK131.out 2; have hfz70_3 := blk_frozen BK131.out 3) | (go_at_call 75; (with_reducible refine (spec_l2Has.calls a1_0 a1_1 a1_2 a1_3 a0_0 a0_1 true _ A52.out).mono ?_); rintro e w71 ⟨rfl, hb⟩; have n0_ := Aside0.mk (ub_ (g := gb131) hb); have n1_ := Aside0.mk (ub_ (g := gb132) hb); have n2_ := Aside0.mk (below_step hB_ hb); clear BK131; clear BK132; clear HB; have BK131 := n0_; have BK132 := n1_; have HB := n2_; clear n0_ n1_ n2_; (try clear hb); (try clear hb2); (try clear hk); (try clear hi)))
      go_ret
      exact ⟨by first | rfl | (simp [errW_none, errW_some] <;> rfl) | (simp [*, errW_none, errW_some] <;> rfl), hB_⟩
     ·
      replace c53 := Bool.eq_false_iff.mpr c53
      subst c53
      have H1 : ((spec_l2Has.f a1_0 a1_1 a1_2 a1_3 a0_2 a0_3).bind fun t144 => (some t144)) = some r := by rw [if_neg (show ¬ (false = true) by decide)] at H; exact H
      clear H
      have H := H1
      clear H1
      replace H := Option.bind_eq_some_iff.mp H
      obtain ⟨t144, A720, H⟩ := H
      replace H : (some t144) = some r := H
      have A72 := Aside0.mk A720
      clear A720
      obtain rfl := Option.some.inj H
      have hnb81 := NB131_132.out
      have hnc81 := NB132_131.out
      have hcz82_0 : w20.cell? ⟨gb131, 0, none⟩ = some (.int .i64 a0_0) := bc_
      have hcz82_1 : w20.cell? ⟨gb131, 1, none⟩ = some (.int .i64 a0_1) := bc_
      have hcz82_2 : w20.cell? ⟨gb131, 2, none⟩ = some (.int .i64 a0_2) := bc_
      have hcz82_3 : w20.cell? ⟨gb131, 3, none⟩ = some (.int .i64 a0_3) := bc_
      have hfz82_0 := blk_frozen BK131.out 0
      have hfz82_1 := blk_frozen BK131.out 1
      have hfz82_2 := blk_frozen BK131.out 2
      have hfz82_3 := blk_frozen BK131.out 3
      have hcz83_0 : w20.cell? ⟨gb132, 0, none⟩ = some (.int .i64 a1_0) := bc_
      have hcz83_1 : w20.cell? ⟨gb132, 1, none⟩ = some (.int .i64 a1_1) := bc_
      have hcz83_2 : w20.cell? ⟨gb132, 2, none⟩ = some (.int .i64 a1_2) := bc_
      have hcz83_3 : w20.cell? ⟨gb132, 3, none⟩ = some (.int .i64 a1_3) := bc_
      have hfz83_0 := blk_frozen BK132.out 0
      have hfz83_1 := blk_frozen BK132.out 1
      have hfz83_2 := blk_frozen BK132.out 2
      have hfz83_3 := blk_frozen BK132.out 3
      try go_wp2_with (first | (go_at_call 75; (with_reducible refine (spec_l2Has.calls a0_0 a0_1 a0_2 a0_3 a1_0 a1_1 false _ A21.out).mono ?_); rintro e w84 ⟨rfl, hb⟩; have n0_ := Aside0.mk (ub_ (g := gb131) hb); have n1_ := Aside0.mk (ub_ (g := gb132) hb); have n2_ := Aside0.mk (below_step hB_ hb); clear BK131; clear BK132; clear HB; have BK131 := n0_; have BK132 := n1_; have HB := n2_; clear n0_ n1_ n2_; (try clear hb); (try clear hb2); (try clear hk); (try clear hi); have hcz85_0 : w84.cell? ⟨gb131, 0, none⟩ = some (.int .i64 a0_0) := bc_; have hcz85_1 : w84.cell? ⟨gb131, 1, none⟩ = some (.int .i64 a0_1) := bc_; have hcz85_2 : w84.cell? ⟨gb131, 2, none⟩ = some (.int .i64 a0_2) := bc_; have hcz85_3 : w84.cell? ⟨gb131, 3, none⟩ = some (.int .i64 a0_3) := bc_; have hfz85_0 := blk_frozen BK131.out 0; have hfz85_1 := blk_frozen BK131.out 1; have hfz85_2 := blk_frozen BK131.out 2; have hfz85_3 := blk_frozen BK131.out 3; have hcz86_0 : w84.cell? ⟨gb132, 0, none⟩ = some (.int .i64 a1_0) := bc_; have hcz86_1 : w84.cell? ⟨gb132, 1, none⟩ = some (.int .i64 a1_1) := bc_; have hcz86_2 : w84.cell? ⟨gb132, 2, none⟩ = some (.int .i64 a1_2) := bc_; have hcz86_3 : w84.cell? ⟨gb132, 3, none⟩ = some (.int .i64 a1_3) := bc_; have hfz86_0 := blk_frozen BK132.out 0; have hfz86_1 := blk_frozen BK132.out 1; have hfz86_2 := blk_frozen BK132.out 2; have hfz86_3 := blk_frozen BK132.out 3) | (go_at_call 75; (with_reducible refine (spec_l2Has.calls a0_0 a0_1 a0_2 a0_3 a1_2 a1_3 false _ A35.out).mono ?_); rintro e w87 ⟨rfl, hb⟩; have n0_ := Aside0.mk (ub_ (g := gb131) hb); have n1_ := Aside0.mk (ub_ (g := gb132) hb); have n2_ := Aside0.mk (below_step hB_ hb); clear BK131; clear BK132; clear HB; have BK131 := n0_; have BK132 := n1_; have HB := n2_; clear n0_ n1_ n2_; (try clear hb); (try clear hb2); (try clear hk); (try clear hi); have hcz88_0 : w87.cell? ⟨gb132, 0, none⟩ = some (.int .i64 a1_0) := bc_; have hcz88_1 : w87.cell? ⟨gb132, 1, none⟩ = some (.int .i64 a1_1) := bc_; have hcz88_2 : w87.cell? ⟨gb132, 2, none⟩ = some (.int .i64 a1_2) := bc_; have hcz88_3 : w87.cell? ⟨gb132, 3, none⟩ = some (.int .i64 a1_3) := bc_; have hfz88_0 := blk_frozen BK132.out 0; have hfz88_1 := blk_frozen BK132.out 1; have hfz88_2 := blk_frozen BK132.out 2; have hfz88_3 := blk_frozen BK132.out 3; have hcz89_0 : w87.cell? ⟨gb131, 0, none⟩ = some (.int .i64 a0_0) := bc_; have hcz89_1 : w87.cell? ⟨gb131, 1, none⟩ = some (.int .i64 a0_1) := bc_; have hcz89_2 : w87.cell? ⟨gb131, 2, none⟩ = some (.int .i64 a0_2) := bc_; have hcz89_3 : w87.cell? ⟨gb131, 3, none⟩ = some (.int .i64 a0_3) := bc_; have hfz89_0 := blk_frozen BK131.out 0; have hfz89_1 := blk_frozen BK131.out 1; have hfz89_2 := blk_frozen BK131.out 2; have hfz89_3 := blk_frozen BK131.out 3) | (go_at_call 75; (with_reducible refine (spec_l2Has.calls a1_0 a1_1 a1_2 a1_3 a0_0 a0_1 false _ A52.out).mono ?_); rintro e w90 ⟨rfl, hb⟩; have n0_ := Aside0.mk (ub_ (g := gb131) hb); have n1_ := Aside0.mk (ub_ (g := gb132) hb); have n2_ := Aside0.mk (below_step hB_ hb); clear BK131; clear BK132; clear HB; have BK131 := n0_; have BK132 := n1_; have HB := n2_; clear n0_ n1_ n2_; (try clear hb); (try clear hb2); (try clear hk); (try clear hi); have hcz91_0 : w90.cell? ⟨gb132, 0, none⟩ = some (.int .i64 a1_0) := bc_; have hcz91_1 : w90.cell? ⟨gb132, 1, none⟩ = some (.int .i64 a1_1) := bc_; have hcz91_2 : w90.cell? ⟨gb132, 2, none⟩ = some (.int .i64 a1_2) := bc_; have hcz91_3 : w90.cell? ⟨gb132, 3, none⟩ = some (.int .i64 a1_3) := bc_; have hfz91_0 := blk_frozen BK132.out 0; have hfz91_1 := blk_frozen BK132.out 1; have hfz91_2 := blk_frozen BK132.out 2; have hfz91_3 := blk_frozen BK132.out 3; have hcz92_0 : w90.cell? ⟨gb131, 0, none⟩ = some (.int .i64 a0_0) := bc_; have hcz92_1 : w90.cell? ⟨gb131, 1, none⟩ = some (.int .i64 a0_1) := bc_; have hcz92_2 : w90.cell? ⟨gb131, 2, none⟩ = some (.int .i64 a0_2) := bc_; have hcz92_3 : w90.cell? ⟨gb131, 3, none⟩ = some (.int .i64 a0_3) := bc_; have hfz92_0 := blk_frozen BK131.out 0; have hfz92_1 := blk_frozen BK131.out 1; have hfz92_2 := blk_frozen BK131.out 2; have hfz92_3 := blk_frozen BK131.out 3) | (go_at_call 75; (with_reducible refine (spec_l2Has.calls a1_0 a1_1 a1_2 a1_3 a0_2 a0_3 t144 _ A72.out).mono ?_); rintro e w93 ⟨rfl, hb⟩; have n0_ := Aside0.mk (ub_ (g := gb131) hb); have n1_ := Aside0.mk (ub_ (g := gb132) hb); have n2_ := Aside0.mk (below_step hB_ hb); clear BK131; clear BK132; clear HB; have BK131 := n0_; have BK132 := n1_; have HB := n2_; clear n0_ n1_ n2_; (try clear hb); (try clear hb2); (try clear hk); (try clear hi)))
      go_ret
      exact ⟨by first | rfl | (simp [errW_none, errW_some] <;> rfl) | (simp [*, errW_none, errW_some] <;> rfl), hB_⟩
 ·
  rw [if_neg c11] at H
  have c11b0 : decide ((wrap64 (t134 * t136)) < 0) = false := decide_eq_false c11
  clear c11
  replace H := Option.bind_eq_some_iff.mp H
  obtain ⟨t145, A940, H⟩ := H
  replace H : (if t145 = true then (some true) else ((spec_l2Has.f a0_0 a0_1 a0_2 a0_3 a1_2 a1_3).bind fun t146 => (if t146 = true then (some true) else ((spec_l2Has.f a1_0 a1_1 a1_2 a1_3 a0_0 a0_1).bind fun t147 => (if t147 = true then (some true) else ((spec_l2Has.f a1_0 a1_1 a1_2 a1_3 a0_2 a0_3).bind fun t148 => (some t148))))))) = some r := H
  have A94 := Aside0.mk A940
  clear A940
  by_cases c95 : t145 = true
  ·
   subst c95
   have H1 : (some true) = some r := by rw [if_pos rfl] at H; exact H
   clear H
   have H := H1
   clear H1
   obtain rfl := Option.some.inj H
   have hnb104 := NB131_132.out
   have hnc104 := NB132_131.out
   have hcz105_0 : w20.cell? ⟨gb131, 0, none⟩ = some (.int .i64 a0_0) := bc_
   have hcz105_1 : w20.cell? ⟨gb131, 1, none⟩ = some (.int .i64 a0_1) := bc_
   have hcz105_2 : w20.cell? ⟨gb131, 2, none⟩ = some (.int .i64 a0_2) := bc_
   have hcz105_3 : w20.cell? ⟨gb131, 3, none⟩ = some (.int .i64 a0_3) := bc_
   have hfz105_0 := blk_frozen BK131.out 0
   have hfz105_1 := blk_frozen BK131.out 1
   have hfz105_2 := blk_frozen BK131.out 2
   have hfz105_3 := blk_frozen BK131.out 3
   have hcz106_0 : w20.cell? ⟨gb132, 0, none⟩ = some (.int .i64 a1_0) := bc_
   have hcz106_1 : w20.cell? ⟨gb132, 1, none⟩ = some (.int .i64 a1_1) := bc_
   have hcz106_2 : w20.cell? ⟨gb132, 2, none⟩ = some (.int .i64 a1_2) := bc_
   have hcz106_3 : w20.cell? ⟨gb132, 3, none⟩ = some (.int .i64 a1_3) := bc_
   have hfz106_0 := blk_frozen BK132.out 0
   have hfz106_1 := blk_frozen BK132.out 1
   have hfz106_2 := blk_frozen BK132.out 2
   have hfz106_3 := blk_frozen BK132.out 3
   try go_wp2_with (first | (go_at_call 75; (with_reducible refine (spec_l2Has.calls a0_0 a0_1 a0_2 a0_3 a1_0 a1_1 true _ A94.out).mono ?_); rintro e w107 ⟨rfl, hb⟩; have n0_ := Aside0.mk (ub_ (g := gb131) hb); have n1_ := Aside0.mk (ub_ (g := gb132) hb); have n2_ := Aside0.mk (below_step hB_ hb); clear BK131; clear BK132; clear HB; have BK131 := n0_; have BK132 := n1_; have HB := n2_; clear n0_ n1_ n2_; (try clear hb); (try clear hb2); (try clear hk); (try clear hi)))
   go_ret
   exact ⟨by first | rfl | (simp [errW_none, errW_some] <;> rfl) | (simp [*, errW_none, errW_some] <;> rfl), hB_⟩
  ·
   replace c95 := Bool.eq_false_iff.mpr c95
   subst c95
   have H1 : ((spec_l2Has.f a0_0 a0_1 a0_2 a0_3 a1_2 a1_3).bind fun t146 => (if t146 = true then (some true) else ((spec_l2Has.f a1_0 a1_1 a1_2 a1_3 a0_0 a0_1).bind fun t147 => (if t147 = true then (some true) else ((spec_l2Has.f a1_0 a1_1 a1_2 a1_3 a0_2 a0_3).bind fun t148 => (some t148)))))) = some r := by rw [if_neg (show ¬ (false = true) by decide)] at H; exact H
   clear H
   have H := H1
   clear H1
   replace H := Option.bind_eq_some_iff.mp H
   obtain ⟨t146, A1080, H⟩ := H
   replace H : (if t146 = true then (some true) else ((spec_l2Has.f a1_0 a1_1 a1_2 a1_3 a0_0 a0_1).bind fun t147 => (if t147 = true then (some true) else ((spec_l2Has.f a1_0 a1_1 a1_2 a1_3 a0_2 a0_3).bind fun t148 => (some t148))))) = some r := H
   have A108 := Aside0.mk A1080
   clear A1080
   by_cases c109 : t146 = true
   ·
    subst c109
    have H1 : (some true) = some r := by rw [if_pos rfl] at H; exact H
    clear H
    have H := H1
    clear H1
    obtain rfl := Option.some.inj H
    have hnb118 := NB131_132.out
    have hnc118 := NB132_131.out
    have hcz119_0 : w20.cell? ⟨gb131, 0, none⟩ = some (.int .i64 a0_0) := bc_
    have hcz119_1 : w20.cell? ⟨gb131, 1, none⟩ = some (.int .i64 a0_1) := bc_
    have hcz119_2 : w20.cell? ⟨gb131, 2, none⟩ = some (.int .i64 a0_2) := bc_
    have hcz119_3 : w20.cell? ⟨gb131, 3, none⟩ = some (.int .i64 a0_3) := bc_
    have hfz119_0 := blk_frozen BK131.out 0
    have hfz119_1 := blk_frozen BK131.out 1
    have hfz119_2 := blk_frozen BK131.out 2
    have hfz119_3 := blk_frozen BK131.out 3
    have hcz120_0 : w20.cell? ⟨gb132, 0, none⟩ = some (.int .i64 a1_0) := bc_
    have hcz120_1 : w20.cell? ⟨gb132, 1, none⟩ = some (.int .i64 a1_1) := bc_
    have hcz120_2 : w20.cell? ⟨gb132, 2, none⟩ = some (.int .i64 a1_2) := bc_
    have hcz120_3 : w20.cell? ⟨gb132, 3, none⟩ = some (.int .i64 a1_3) := bc_
    have hfz120_0 := blk_frozen BK132.out 0
    have hfz120_1 := blk_frozen BK132.out 1
    have hfz120_2 := blk_frozen BK132.out 2
    have hfz120_3 := blk_frozen BK132.out 3
    try go_wp2_with (first | (go_at_call 75; (with_reducible refine (spec_l2Has.calls a0_0 a0_1 a0_2 a0_3 a1_0 a1_1 false _ A94.out).mono ?_); rintro e w121 ⟨rfl, hb⟩; have n0_ := Aside0.mk (ub_ (g := gb131) hb); have n1_ := Aside0.mk (ub_ (g := gb132) hb); have n2_ := Aside0.mk (below_step hB_ hb); clear BK131; clear BK132; clear HB; have BK131 := n0_; have BK132 := n1_; have HB := n2_; clear n0_ n1_ n2_; (try clear hb); (try clear hb2); (try clear hk); (try clear hi); have hcz122_0 : w121.cell? ⟨gb131, 0, none⟩ = some (.int .i64 a0_0) := bc_; have hcz122_1 : w121.cell? ⟨gb131, 1, none⟩ = some (.int .i64 a0_1) := bc_; have hcz122_2 : w121.cell? ⟨gb131, 2, none⟩ = some (.int .i64 a0_2) := bc_; have hcz122_3 : w121.cell? ⟨gb131, 3, none⟩ = some (.int .i64 a0_3) := bc_; have hfz122_0 := blk_frozen BK131.out 0; have hfz122_1 := blk_frozen BK131.out 1; have hfz122_2 := blk_frozen BK131.out 2; have hfz122_3 := blk_frozen BK131.out 3; have hcz123_0 : w121.cell? ⟨gb132, 0, none⟩ = some (.int .i64 a1_0) := bc_; have hcz123_1 : w121.cell? ⟨gb132, 1, none⟩ = some (.int .i64 a1_1) := bc_; have hcz123_2 : w121.cell? ⟨gb132, 2, none⟩ = some (.int .i64 a1_2) := bc_; have hcz123_3 : w121.cell? ⟨gb132, 3, none⟩ = some (.int .i64 a1_3) := bc_; have hfz123_0 := blk_frozen BK132.out 0; have hfz123_1 := blk_frozen BK132.out 1; have hfz123_2 := blk_frozen BK132.out 2; have hfz123_3 := blk_frozen BK132.out 3) | (go_at_call 75; (with_reducible refine (spec_l2Has.calls a0_0 a0_1 a0_2 a0_3 a1_2 a1_3 true _ A108.out).mono ?_); rintro e w124 ⟨rfl, hb⟩; have n0_ := Aside0.mk (ub_ (g := gb131) hb); have n1_ := Aside0.mk (ub_ (g := gb132) hb); have n2_ := Aside0.mk (below_step hB_ hb); clear BK131; clear BK132; clear HB; have BK131 := n0_; have BK132 := n1_; have HB := n2_; clear n0_ n1_ n2_; (try clear hb); (try clear hb2); (try clear hk); (try clear hi)))
    go_ret
    exact ⟨by first | rfl | (simp [errW_none, errW_some] <;> rfl) | (simp [*, errW_none, errW_some] <;> rfl), hB_⟩
   ·
    replace c109 := Bool.eq_false_iff.mpr c109
    subst c109
    have H1 : ((spec_l2Has.f a1_0 a1_1 a1_2 a1_3 a0_0 a0_1).bind fun t147 => (if t147 = true then (some true) else ((spec_l2Has.f a1_0 a1_1 a1_2 a1_3 a0_2 a0_3).bind fun t148 => (some t148)))) = some r := by rw [if_neg (show ¬ (false = true) by decide)] at H; exact H
    clear H
    have H := H1
    clear H1
    replace H := Option.bind_eq_some_iff.mp H
    obtain ⟨t147, A1250, H⟩ := H
    replace H : (if t147 = true then (some true) else ((spec_l2Has.f a1_0 a1_1 a1_2 a1_3 a0_2 a0_3).bind fun t148 => (some t148))) = some r := H
    have A125 := Aside0.mk A1250
    clear A1250
    by_cases c126 : t147 = true
    ·
     subst c126
     have H1 : (some true) = some r := by rw [if_pos rfl] at H; exact H
     clear H
     have H := H1
     clear H1
     obtain rfl := Option.some.inj H
     have hnb135 := NB131_132.out
     have hnc135 := NB132_131.out
     have hcz136_0 : w20.cell? ⟨gb131, 0, none⟩ = some (.int .i64 a0_0) := bc_
     have hcz136_1 : w20.cell? ⟨gb131, 1, none⟩ = some (.int .i64 a0_1) := bc_
     have hcz136_2 : w20.cell? ⟨gb131, 2, none⟩ = some (.int .i64 a0_2) := bc_
     have hcz136_3 : w20.cell? ⟨gb131, 3, none⟩ = some (.int .i64 a0_3) := bc_
     have hfz136_0 := blk_frozen BK131.out 0
     have hfz136_1 := blk_frozen BK131.out 1
     have hfz136_2 := blk_frozen BK131.out 2
     have hfz136_3 := blk_frozen BK131.out 3
     have hcz137_0 : w20.cell? ⟨gb132, 0, none⟩ = some (.int .i64 a1_0) := bc_
     have hcz137_1 : w20.cell? ⟨gb132, 1, none⟩ = some (.int .i64 a1_1) := bc_
     have hcz137_2 : w20.cell? ⟨gb132, 2, none⟩ = some (.int .i64 a1_2) := bc_
     have hcz137_3 : w20.cell? ⟨gb132, 3, none⟩ = some (.int .i64 a1_3) := bc_
     have hfz137_0 := blk_frozen BK132.out 0
     have hfz137_1 := blk_frozen BK132.out 1
     have hfz137_2 := blk_frozen BK132.out 2
     have hfz137_3 := blk_frozen BK132.out 3
     try go_wp2_with (first | (go_at_call 75; (with_reducible refine (spec_l2Has.calls a0_0 a0_1 a0_2 a0_3 a1_0 a1_1 false _ A94.out).mono ?_); rintro e w138 ⟨rfl, hb⟩; have n0_ := Aside0.mk (ub_ (g := gb131) hb); have n1_ := Aside0.mk (ub_ (g := gb132) hb); have n2_ := Aside0.mk (below_step hB_ hb); clear BK131; clear BK132; clear HB; have BK131 := n0_; have BK132 := n1_; have HB := n2_; clear n0_ n1_ n2_; (try clear hb); (try clear hb2); (try clear hk); (try clear hi); have hcz139_0 : w138.cell? ⟨gb131, 0, none⟩ = some (.int .i64 a0_0) := bc_; have hcz139_1 : w138.cell? ⟨gb131, 1, none⟩ = some (.int .i64 a0_1) := bc_; have hcz139_2 : w138.cell? ⟨gb131, 2, none⟩ = some (.int .i64 a0_2) := bc_; have hcz139_3 : w138.cell? ⟨gb131, 3, none⟩ = some (.int .i64 a0_3) := bc_; have hfz139_0 := blk_frozen BK131.out 0; have hfz139_1 := blk_frozen BK131.out 1; have hfz139_2 := blk_frozen BK131.out 2; have hfz139_3 := blk_frozen BK131.out 3; have hcz140_0 : w138.cell? ⟨gb132, 0, none⟩ = some (.int .i64 a1_0) := bc_; have hcz140_1 : w138.cell? ⟨gb132, 1, none⟩ = some (.int .i64 a1_1) := bc_; have hcz140_2 : w138.cell? ⟨gb132, 2, none⟩ = some (.int .i64 a1_2) := bc_; have hcz140_3 : w138.cell? ⟨gb132, 3, none⟩ = some (.int .i64 a1_3) := bc_; have hfz140_0 := blk_frozen BK132.out 0; have hfz140_1 := blk_frozen BK132.out 1; have hfz140_2 := blk_frozen BK132.out 2; have hfz140_3 := blk_frozen BK132.out 3) | (go_at_call 75; (with_reducible refine (spec_l2Has.calls a0_0 a0_1 a0_2 a0_3 a1_2 a1_3 false _ A108.out).mono ?_); rintro e w141 ⟨rfl, hb⟩; have n0_ := Aside0.mk (ub_ (g := gb131) hb); have n1_ := Aside0.mk (ub_ (g := gb132) hb); have n2_ := Aside0.mk (below_step hB_ hb); clear BK131; clear BK132; clear HB; have BK131 := n0_; have BK132 := n1_; have HB := n2_; clear n0_ n1_ n2_; (try clear hb); (try clear hb2); (try clear hk); (try clear hi); have hcz142_0 : w141.cell? ⟨gb132, 0, none⟩ = some (.int .i64 a1_0) := bc_; have hcz142_1 : w141.cell? ⟨gb132, 1, none⟩ = some (.int .i64 a1_1) := bc_; have hcz142_2 : w141.cell? ⟨gb132, 2, none⟩ = some (.int .i64 a1_2) := bc_; have hcz142_3 : w141.cell? ⟨gb132, 3, none⟩ = some (.int .i64 a1_3) := bc_; have hfz142_0 := blk_frozen BK132.out 0; have hfz142_1 := blk_frozen BK132.out 1; have hfz142_2 := blk_frozen BK132.out 2; have hfz142_3 := blk_frozen BK132.out 3; have hcz143_0 : w141.cell? ⟨gb131, 0, none⟩ = some (.int .i64 a0_0) := bc_; have hcz143_1 : w141.cell? ⟨gb131, 1, none⟩ = some (.int .i64 a0_1) := bc_; have hcz143_2 : w141.cell? ⟨gb131, 2, none⟩ = some (.int .i64 a0_2) := bc_; have hcz143_3 : w141.cell? ⟨gb131, 3, none⟩ = some (.int .i64 a0_3) := bc_; have hfz143_0 := blk_frozen BK131.out 0; have hfz143_1 := blk_frozen BK131.out 1; have hfz143_2 := blk_frozen BK131.out 2; have hfz143_3 := blk_frozen BK131.out 3) | (go_at_call 75; (with_reducible refine (spec_l2Has.calls a1_0 a1_1 a1_2 a1_3 a0_0 a0_1 true _ A125.out).mono ?_); rintro e w144 ⟨rfl, hb⟩; have n0_ := Aside0.mk (ub_ (g := gb131) hb); have n1_ := Aside0.mk (ub_ (g := gb132) hb); have n2_ := Aside0.mk (below_step hB_ hb); clear BK131; clear BK132; clear HB; have BK131 := n0_; have BK132 := n1_; have HB := n2_; clear n0_ n1_ n2_; (try clear hb); (try clear hb2); (try clear hk); (try clear hi)))
     go_ret
     exact ⟨by first | rfl | (simp [errW_none, errW_some] <;> rfl) | (simp [*, errW_none, errW_some] <;> rfl), hB_⟩
    ·
     replace c126 := Bool.eq_false_iff.mpr c126
     subst c126
     have H1 : ((spec_l2Has.f a1_0 a1_1 a1_2 a1_3 a0_2 a0_3).bind fun t148 => (some t148)) = some r := by rw [if_neg (show ¬ (false = true) by decide)] at H; exact H
     clear H
     have H := H1
     clear H1
     replace H := Option.bind_eq_some_iff.mp H
     obtain ⟨t148, A1450, H⟩ := H
     replace H : (some t148) = some r := H
     have A145 := Aside0.mk A1450
     clear A1450
     obtain rfl := Option.some.inj H
     have hnb154 := NB131_132.out
     have hnc154 := NB132_131.out
     have hcz155_0 : w20.cell? ⟨gb131, 0, none⟩ = some (.int .i64 a0_0) := bc_
     have hcz155_1 : w20.cell? ⟨gb131, 1, none⟩ = some (.int .i64 a0_1) := bc_
     have hcz155_2 : w20.cell? ⟨gb131, 2, none⟩ = some (.int .i64 a0_2) := bc_
     have hcz155_3 : w20.cell? ⟨gb131, 3, none⟩ = some (.int .i64 a0_3) := bc_
     have hfz155_0 := blk_frozen BK131.out 0
     have hfz155_1 := blk_frozen BK131.out 1
     have hfz155_2 := blk_frozen BK131.out 2
     have hfz155_3 := blk_frozen BK131.out 3
     have hcz156_0 : w20.cell? ⟨gb132, 0, none⟩ = some (.int .i64 a1_0) := bc_
     have hcz156_1 : w20.cell? ⟨gb132, 1, none⟩ = some (.int .i64 a1_1) := bc_
     have hcz156_2 : w20.cell? ⟨gb132, 2, none⟩ = some (.int .i64 a1_2) := bc_
     have hcz156_3 : w20.cell? ⟨gb132, 3, none⟩ = some (.int .i64 a1_3) := bc_
     have hfz156_0 := blk_frozen BK132.out 0
     have hfz156_1 := blk_frozen BK132.out 1
     have hfz156_2 := blk_frozen BK132.out 2
     have hfz156_3 := blk_frozen BK132.out 3
     try go_wp2_with (first | (go_at_call 75; (with_reducible refine (spec_l2Has.calls a0_0 a0_1 a0_2 a0_3 a1_0 a1_1 false _ A94.out).mono ?_); rintro e w157 ⟨rfl, hb⟩; have n0_ := Aside0.mk (ub_ (g := gb131) hb); have n1_ := Aside0.mk (ub_ (g := gb132) hb); have n2_ := Aside0.mk (below_step hB_ hb); clear BK131; clear BK132; clear HB; have BK131 := n0_; have BK132 := n1_; have HB := n2_; clear n0_ n1_ n2_; (try clear hb); (try clear hb2); (try clear hk); (try clear hi); have hcz158_0 : w157.cell? ⟨gb131, 0, none⟩ = some (.int .i64 a0_0) := bc_; have hcz158_1 : w157.cell? ⟨gb131, 1, none⟩ = some (.int .i64 a0_1) := bc_; have hcz158_2 : w157.cell? ⟨gb131, 2, none⟩ = some (.int .i64 a0_2) := bc_; have hcz158_3 : w157.cell? ⟨gb131, 3, none⟩ = some (.int .i64 a0_3) := bc_; have hfz158_0 := blk_frozen BK131.out 0; have hfz158_1 := blk_frozen BK131.out 1; have hfz158_2 := blk_frozen BK131.out 2; have hfz158_3 := blk_frozen BK131.out 3; have hcz159_0 : w157.cell? ⟨gb132, 0, none⟩ = some (.int .i64 a1_0) := bc_; have hcz159_1 : w157.cell? ⟨gb132, 1, none⟩ = some (.int .i64 a1_1) := bc_; have hcz159_2 : w157.cell? ⟨gb132, 2, none⟩ = some (.int .i64 a1_2) := bc_; have hcz159_3 : w157.cell? ⟨gb132, 3, none⟩ = some (.int .i64 a1_3) := bc_; have hfz159_0 := blk_frozen BK132.out 0; have hfz159_1 := blk_frozen BK132.out 1; have hfz159_2 := blk_frozen BK132.out 2; have hfz159_3 := blk_frozen BK132.out 3) | (go_at_call 75; (with_reducible refine (spec_l2Has.calls a0_0 a0_1 a0_2 a0_3 a1_2 a1_3 false _ A108.out).mono ?_); rintro e w160 ⟨rfl, hb⟩; have n0_ := Aside0.mk (ub_ (g := gb131) hb); have n1_ := Aside0.mk (ub_ (g := gb132) hb); have n2_ := Aside0.mk (below_step hB_ hb); clear BK131; clear BK132; clear HB; have BK131 := n0_; have BK132 := n1_; have HB := n2_; clear n0_ n1_ n2_; (try clear hb); (try clear hb2); (try clear hk); (try clear hi); have hcz161_0 : w160.cell? ⟨gb132, 0, none⟩ = some (.int .i64 a1_0) := bc_; have hcz161_1 : w160.cell? ⟨gb132, 1, none⟩ = some (.int .i64 a1_1) := bc_; have hcz161_2 : w160.cell? ⟨gb132, 2, none⟩ = some (.int .i64 a1_2) := bc_; have hcz161_3 : w160.cell? ⟨gb132, 3, none⟩ = some (.int .i64 a1_3) := bc_; have hfz161_0 := blk_frozen BK132.out 0; have hfz161_1 := blk_frozen BK132.out 1; have hfz161_2 := blk_frozen BK132.out 2; have hfz161_3 := blk_frozen BK132.out 3; have hcz162_0 : w160.cell? ⟨gb131, 0, none⟩ = some (.int .i64 a0_0) := bc_; have hcz162_1 : w160.cell? ⟨gb131, 1, none⟩ = some (.int .i64 a0_1) := bc_; have hcz162_2 : w160.cell? ⟨gb131, 2, none⟩ = some (.int .i64 a0_2) := bc_; have hcz162_3 : w160.cell? ⟨gb131, 3, none⟩ = some (.int .i64 a0_3) := bc_; have hfz162_0 := blk_frozen BK131.out 0; have hfz162_1 := blk_frozen BK131.out 1; have hfz162_2 := blk_frozen BK131.out 2; have hfz162_3 := blk_frozen BK131.out 3) | (go_at_call 75; (with_reducible refine (spec_l2Has.calls a1_0 a1_1 a1_2 a1_3 a0_0 a0_1 false _ A125.out).mono ?_); rintro e w163 ⟨rfl, hb⟩; have n0_ := Aside0.mk (ub_ (g := gb131) hb); have n1_ := Aside0.mk (ub_ (g := gb132) hb); have n2_ := Aside0.mk (below_step hB_ hb); clear BK131; clear BK132; clear HB; have BK131 := n0_; have BK132 := n1_; have HB := n2_; clear n0_ n1_ n2_; (try clear hb); (try clear hb2); (try clear hk); (try clear hi); have hcz164_0 : w163.cell? ⟨gb132, 0, none⟩ = some (.int .i64 a1_0) := bc_; have hcz164_1 : w163.cell? ⟨gb132, 1, none⟩ = some (.int .i64 a1_1) := bc_; have hcz164_2 : w163.cell? ⟨gb132, 2, none⟩ = some (.int .i64 a1_2) := bc_; have hcz164_3 : w163.cell? ⟨gb132, 3, none⟩ = some (.int .i64 a1_3) := bc_; have hfz164_0 := blk_frozen BK132.out 0; have hfz164_1 := blk_frozen BK132.out 1; have hfz164_2 := blk_frozen BK132.out 2; have hfz164_3 := blk_frozen BK132.out 3; have hcz165_0 : w163.cell? ⟨gb131, 0, none⟩ = some (.int .i64 a0_0) := bc_; have hcz165_1 : w163.cell? ⟨gb131, 1, none⟩ = some (.int .i64 a0_1) := bc_; have hcz165_2 : w163.cell? ⟨gb131, 2, none⟩ = some (.int .i64 a0_2) := bc_; have hcz165_3 : w163.cell? ⟨gb131, 3, none⟩ = some (.int .i64 a0_3) := bc_; have hfz165_0 := blk_frozen BK131.out 0; have hfz165_1 := blk_frozen BK131.out 1; have hfz165_2 := blk_frozen BK131.out 2; have hfz165_3 := blk_frozen BK131.out 3) | (go_at_call 75; (with_reducible refine (spec_l2Has.calls a1_0 a1_1 a1_2 a1_3 a0_2 a0_3 t148 _ A145.out).mono ?_); rintro e w166 ⟨rfl, hb⟩; have n0_ := Aside0.mk (ub_ (g := gb131) hb); have n1_ := Aside0.mk (ub_ (g := gb132) hb); have n2_ := Aside0.mk (below_step hB_ hb); clear BK131; clear BK132; clear HB; have BK131 := n0_; have BK132 := n1_; have HB := n2_; clear n0_ n1_ n2_; (try clear hb); (try clear hb2); (try clear hk); (try clear hi)))
     go_ret
     exact ⟨by first | rfl | (simp [errW_none, errW_some] <;> rfl) | (simp [*, errW_none, errW_some] <;> rfl), hB_⟩
end Go.Proofs.YtnponnkcfgjeoaaDoor.X
end
section
set_option linter.unusedVariables false
set_option linter.unusedSimpArgs false
namespace Go.Proofs.YtnponnkcfgjeoaaDoor.X
open Go.RowKit Go.Proofs.YtnponnkcfgjeoaaDoorW.PrintWords Go.Proofs.YtnponnkcfgjeoaaDoorW.PrintLast Go.Proofs.YtnponnkcfgjeoaaDoorW.PrintMore
open Mort
theorem sMeet {a b c d e f g h : Int} (o1 : ptOk (a, b) = true) (o2 : ptOk (c, d) = true) (o3 : ptOk (e, f) = true) (o4 : ptOk (g, h) = true) :
    spec_l2Meet.f a b c d e f g h = some (meet ((a, b), (c, d)) ((e, f), (g, h))) := by
  unfold spec_l2Meet.f meet
  simp only [sCross o1 o2 o3, sCross o1 o2 o4, sCross o3 o4 o1, sCross o3 o4 o2, sSign, sHas o1 o2 o3, sHas o1 o2 o4, sHas o3 o4 o1, sHas o3 o4 o2, Option.bind_some, turn_mul]
  by_cases z1 : sgn (cross (a, b) (c, d) (e, f)) * sgn (cross (a, b) (c, d) (g, h)) < 0 <;>
  by_cases z2 : sgn (cross (e, f) (g, h) (a, b)) * sgn (cross (e, f) (g, h) (c, d)) < 0 <;>
  cases has ((a, b), (c, d)) (e, f) <;> cases has ((a, b), (c, d)) (g, h) <;> cases has ((e, f), (g, h)) (a, b) <;> cases has ((e, f), (g, h)) (c, d) <;> simp [z1, z2]
end Go.Proofs.YtnponnkcfgjeoaaDoor.X
end
