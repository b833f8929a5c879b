/- FnPlateStep: the law returns true for every input, and each input reads behind the call as before; part 7 of 7. No condition. Merged by program out of: FLawsFnPlateStep, EvLoop, EvPlate, EvPlateS, EvPlateF, EvDraws, PureFnPlateStep, WSized, LawFnPlateStep. -/
import Derived.Test.YtkefmnmoaomlhaaDoorMFnPlateStep6
import Derived.SizedLaws
import Derived.ChangeSlices
import Derived.WalkKit
import Derived.ProofKit
import Derived.OpenShut
import Derived.ShutString
import Derived.ChangeOld
import Derived.Below
import Derived.SevenTiedAt
set_option linter.all false
section
namespace Go.Proofs.YtkefmnmoaomlhaaDoor.X
open Go.RowKit Go.Proofs.YtkefmnmoaomlhaaDoorW.PrintWords Go.Proofs.YtkefmnmoaomlhaaDoorW.PrintLast Go.Proofs.YtkefmnmoaomlhaaDoorW.PrintMore
attribute [local go_sem] max2_int min2_int max_two min_two max_three min_three max_four min_four
set_option linter.unusedVariables false
set_option linter.unusedSimpArgs false
mutual
def laws_FnPlateStep.j0 : Nat → List Int → List Int → Bool → Option (Bool)
 | 0, _, _, _ => none
 | k + 1, x0, x1, x19 => if x19 = true then (some true) else ((spec_DrawPlateIn.f k x0).bind fun bt410 => ((impl_PlateIn.f bt410.1 bt410.2.1 bt410.2.2.1 bt410.2.2.2).bind fun t420 => ((spec_PlateIn.f k bt410.1 bt410.2.1 bt410.2.2.1 bt410.2.2.2).bind fun t421 => (if t420 = t421 then ((spec_PlateOk.f k bt410.1 bt410.2.1).bind fun t422 => (if t422 = true then ((spec_PtOk.f bt410.2.2.1 bt410.2.2.2).bind fun t423 => (laws_FnPlateStep.j1 k x1 t420 (!t423) bt410.1 bt410.2.1 bt410.2.2.1 bt410.2.2.2)) else (laws_FnPlateStep.j1 k x1 t420 true bt410.1 bt410.2.1 bt410.2.2.1 bt410.2.2.2))) else (laws_FnPlateStep.j1 k x1 t420 true bt410.1 bt410.2.1 bt410.2.2.1 bt410.2.2.2)))))
def laws_FnPlateStep.j1 : Nat → List Int → Int → Bool → List (S28) → List (List (S28)) → Int → Int → Option (Bool)
 | 0, _, _, _, _, _, _, _ => none
 | k + 1, x1, x7, x42, x419000, x419001, x420000, x420001 => if x42 = true then ((spec_PlateIn.f k x419000 x419001 x420000 x420001).bind fun t424 => (some (x7 == t424))) else ((impl_FracOf.f k 1 1).bind fun bt425 => ((impl_PlateFar.f x419000 x419001 x420000 x420001).bind fun bt429 => ((impl_FracCmp.f bt429.1 bt429.2 bt425.1 bt425.2.1).bind fun t431 => (if t431 ≤ 0 then (some true) else ((some (([(⟨wrap64 (x420000 + 1), x420001⟩ : S28), (⟨wrap64 (x420000 - 1), x420001⟩ : S28), (⟨x420000, wrap64 (x420001 + 1)⟩ : S28), (⟨x420000, wrap64 (x420001 - 1)⟩ : S28)] : List (S28)) : List (S28))).bind fun y432 => (if 0 ≤ ((x1.length : Int) % 4) then (if ((x1.length : Int) % 4) < (y432.length : Int) then ((impl_PtOk.f ((rd_T28 y432 ((x1.length : Int) % 4)).f0) ((rd_T28 y432 ((x1.length : Int) % 4)).f1)).bind fun t437 => (if t437 = true then ((impl_PlateIn.f x419000 x419001 ((rd_T28 y432 ((x1.length : Int) % 4)).f0) ((rd_T28 y432 ((x1.length : Int) % 4)).f1)).bind fun t438 => (if t438 = x7 then (some (x7 != 0)) else (some false))) else (some true))) else (none)) else (none)))))))
end
def laws_FnPlateStep.f (k : Nat) (l0 : List Int) (l1 : List Int) : Option (Bool) := if (l0.length : Int) > 1048576 then (laws_FnPlateStep.j0 k l0 l1 true) else (laws_FnPlateStep.j0 k l0 l1 (decide ((l1.length : Int) > 1048576)))
set_option maxHeartbeats 8000000 in
set_option maxRecDepth 100000 in
theorem laws_FnPlateStep.calls (k : Nat) (A0 : Option Addr) (c0 : Nat) (l0 : List Int) (A1 : Option Addr) (c1 : Nat) (l1 : List Int) (r : Bool) (w : World) (hr0 : Kd.C (Kd.int .u8) w A0 l0.length l0) (hc0 : l0.length ≤ c0) (hr1 : Kd.C (Kd.int .u8) w A1 l1.length l1) (hc1 : l1.length ≤ c1) (hE : ErrW w) (h : laws_FnPlateStep.f k l0 l1 = some r) :
  Calls Tryd.prog 3 #[.slice A0 l0.length c0, .slice A1 l1.length c1] w fun e w' => e = .returned (.bool r) ∧ Below w.heap.size w w' := by
 have hu26 := Tryd.underlying26
 have hu28 := Tryd.underlying28
 have hu35 := Tryd.underlying35
 have HR0 := Aside0.mk hr0
 have HC0 := Aside0.mk hc0
 clear hr0 hc0
 have HR1 := Aside0.mk hr1
 have HC1 := Aside0.mk hc1
 clear hr1 hc1
 have HB := a0_ (Below.refl w.heap.size w)
 have HE := Aside0.mk hE
 clear hE
 have H : (if (l0.length : Int) > 1048576 then (laws_FnPlateStep.j0 k l0 l1 true) else (laws_FnPlateStep.j0 k l0 l1 (decide ((l1.length : Int) > 1048576)))) = some r := h
 clear h
 have HC3 := Aside0.mk H
 clear H
 go_enter Tryd.func3, Tryd.ntmps3
 go_upto_region 1 with (fail)
 go_cut [19] (fun v19 wc => ∃ (kq : Nat) (x19_2 : Bool), v19 = .bool x19_2 ∧ Aside0 (laws_FnPlateStep.j0 kq l0 l1 x19_2 = some r) ∧ Aside0 (kq ≤ k) ∧ Aside0 (Below w.heap.size w wc))
 case first =>
  have H := HC3.out
  clear HC3
  by_cases c4 : (l0.length : Int) > 1048576
  ·
   rw [if_pos c4] at H
   have c4b0 : decide (1048576 < (l0.length : Int)) = true := decide_eq_true c4
   have c4b1 : decide (1048576 < l0.length) = true := decide_eq_true (by omega)
   clear c4
   (first | rw [c4b0] | (simp only [i64_w, i32_w]; rw [c4b0]) | skip)
   have H' := Aside0.mk H
   clear H
   go_wp2
   go_meet
   case rel => exact ⟨_, (true), (by first | rfl | (simp; done) | (simp [*]; done)), H', ⟨by first | omega | exact Nat.le_refl _⟩, ⟨hB_⟩⟩
  ·
   rw [if_neg c4] at H
   have c4b0 : decide (1048576 < (l0.length : Int)) = false := decide_eq_false c4
   have c4b1 : decide (1048576 < l0.length) = false := decide_eq_false (by omega)
   clear c4
   (first | rw [c4b0] | (simp only [i64_w, i32_w]; rw [c4b0]) | skip)
   have H' := Aside0.mk H
   clear H
   go_wp2
   go_meet
   case rel => exact ⟨_, (decide ((l1.length : Int) > 1048576)), (by first | rfl | (simp; done) | (simp [*]; done)), H', ⟨by first | omega | exact Nat.le_refl _⟩, ⟨hB_⟩⟩
 case rest =>
  clear HC3
  obtain ⟨kq, x19_2, rfl, HA, HJ2, HB⟩ := hcut
  cases kq with
  | zero => exact absurd HA.out (by simp [laws_FnPlateStep.j0])
  | succ kj2 =>
   have H := HA.out
   clear HA
   simp only [laws_FnPlateStep.j0] at H
   by_cases c5 : x19_2 = true
   ·
    subst c5
    rw [if_pos rfl] at H
    (try dsimp only at H)
    obtain rfl := Option.some.inj H
    go_wp2
    go_ret
    exact ⟨rr_, hB_⟩
   ·
    replace c5 := Bool.eq_false_iff.mpr c5
    subst c5
    rw [if_neg (show ¬ (false = true) by decide)] at H
    (try dsimp only at H)
    replace H := Option.bind_eq_some_iff.mp H
    obtain ⟨⟨t410, t413, t416, t417⟩, A60, H⟩ := H
    (try dsimp only at H)
    have A6 := Aside0.mk A60
    clear A60
    replace H := Option.bind_eq_some_iff.mp H
    obtain ⟨t420, A70, H⟩ := H
    (try dsimp only at H)
    have A7 := Aside0.mk A70
    clear A70
    have HC8 := Aside0.mk H
    clear H
    go_upto_region 5 with (first | ((with_reducible refine gate_callee (f := 15) rfl ?_); refine gL_ (some 22) Tryd.func15 #[.slice A0 l0.length c0] (h := ?_); (with_reducible refine (spec_DrawPlateIn.calls kj2 _ _ l0 t410 t413 t416 t417 _ ?side1 ?side2 A6.out).mono ?_); (case side1 => repeat (first | exact (Kd.C_below HR0.out HB.out) | (with_reducible refine Kd.C_alloc ?_ _) | (with_reducible refine Kd.C_drewN ?_ _) | (with_reducible refine Kd.C_drew ?_))); (case side2 => exact HC0.out); rintro e w9 ⟨v411, v414, rfl, ho0, ho1, hb⟩; refine ⟨_, rfl, ?_⟩; have HO412 := a0_ (Kd.R_lower (Kd.R_mono (ok' := fun k_ => True) ho0 (fun _ hk_ => trivial)) (below_size hB_)); have HO415 := a0_ (Kd.N_lower (Kd.N_mono (ok' := fun k_ => some k_ ≠ (v411 : Value).ownBlock) ho1 (fun k_ hk_ => hk_.2)) (below_size hB_)); replace HB := sb_ HB hb; (try clear ho0 ho1 hb)) | ((with_reducible refine gate_dst (N := 5) rfl ?_); (try (refine gate_guard (by rfl) ?_; dsimp only)); refine bx_ (N := 5) (cs := #[.slice none 0 0, .slice none 0 0]) (t := 26) (h := ?_); intro gb418 hg w10 hbox hb; have BK418 := a0_ (hbox); have GW418 := gh_ HB hg; have GE418 := gh_ HB hg; replace HO412 := rb_ HO412 hb; replace HO415 := a0_ (Kd.N_below (Kd.N_elderB (uN_ HO415) gb418 (Nat.le_of_eq hg.symm)) hb); replace HB := sb_ HB hb; clear hb hbox hg) | ((with_reducible refine gate_dst (N := 6) rfl ?_); (try (refine gate_guard (by rfl) ?_; dsimp only)); refine bx_ (N := 6) (cs := #[.int .i64 0, .int .i64 0]) (t := 28) (h := ?_); intro gb419 hg w11 hbox hb; have BK419 := a0_ (hbox); have GW419 := gh_ HB hg; have GE419 := gh_ HB hg; have NB418_419 := nl_ BK418 hg; have NB419_418 := nr_ BK418 hg; replace HO412 := a0_ (Kd.R_below (Kd.R_elderB (uR_ HO412) gb419 (Nat.le_of_eq hg.symm)) hb); replace HO415 := a0_ (Kd.N_below (Kd.N_elderB (uN_ HO415) gb419 (Nat.le_of_eq hg.symm)) hb); replace BK418 := vb_ BK418 hb; replace HB := sb_ HB hb; clear hb hbox hg; obtain ⟨Ao12, co12, eo12⟩ := Kd.R_slice HO412.out; subst eo12; have hnb13 := NB418_419.out; have hnc13 := NB419_418.out; have hcz14_0 := c20_ BK418; have hcz14_1 := c21_ BK418; have hfz14_0 := fz_ BK418 0; have hfz14_1 := fz_ BK418 1; obtain ⟨Ao15, co15, eo15⟩ := Kd.N_slice HO415.out; subst eo15; have hcz16_0 := c20_ BK419; have hcz16_1 := c21_ BK419; have hfz16_0 := fz_ BK419 0; have hfz16_1 := fz_ BK419 1) | ((with_reducible refine gate_callee (f := 16) rfl ?_); refine gL_ (some 27) Tryd.func16 #[.agg #[.slice Ao12 t410.length co12, .slice Ao15 t413.length co15], .agg #[.int .i64 t416, .int .i64 t417]] (h := ?_); (with_reducible refine (impl_PlateIn.calls _ _ t410 _ _ t413 t416 t417 t420 _ ?side1 ?side2 ?side3 ?side4 A7.out).mono ?_); (case side1 => refine (Kd.R_reads' (e := 28) (base := w.heap.size) (ok := fun k_ => (True ∧ k_ ≠ gb419)) (n := t410.length) (c := co12) ?_).2.2; exact (by (with_reducible repeat (first | apply Kd.R_alloc | apply Kd.R_drewN | apply Kd.R_drew)); exact (Kd.R_mono (Kd.R_mono (Kd.R_far (p := ⟨gb419, 1, none⟩) (Kd.R_far (p := ⟨gb419, 0, none⟩) (Kd.R_far (p := ⟨gb418, 1, none⟩) (Kd.R_far (p := ⟨gb418, 0, none⟩) (Kd.R_mono (Kd.R_types HO412.out BK418.out (by decide)) (fun k_ hk => (⟨hk, hk.1.2⟩ : _ ∧ k_ ≠ gb419))) (fun _ hk => hk.1.2) (.slice Ao12 t410.length co12)) (fun _ hk => hk.1.2) (.slice Ao15 t413.length co15)) (fun _ hk => hk.2) (.int .i64 t416)) (fun _ hk => hk.2) (.int .i64 t417)) (fun _ h_ => h_.1)) (fun _ h_ => h_.1)))); (case side2 => exact (Kd.R_reads' HO412.out).2.1); (case side3 => refine (Kd.N_reads' (e := 23) (base := w.heap.size) (ok := fun k_ => ((some k_ ≠ (.slice Ao12 t410.length co12 : Value).ownBlock ∧ k_ ≠ gb418) ∧ k_ ≠ gb419)) (n := t413.length) (c := co15) ?_).2.2; exact (by (with_reducible repeat (first | apply Kd.N_alloc | apply Kd.N_drewN | apply Kd.N_drew)); exact (Kd.N_mono (Kd.N_mono (Kd.N_far (p := ⟨gb419, 1, none⟩) (Kd.N_far (p := ⟨gb419, 0, none⟩) (Kd.N_far (p := ⟨gb418, 1, none⟩) (Kd.N_far (p := ⟨gb418, 0, none⟩) (Kd.N_mono (Kd.N_mono HO415.out (fun k_ hk => (⟨hk, hk.1.2⟩ : _ ∧ k_ ≠ gb418))) (fun k_ hk => (⟨hk, hk.1.2⟩ : _ ∧ k_ ≠ gb419))) (fun _ hk => hk.1.2) (.slice Ao12 t410.length co12)) (fun _ hk => hk.1.2) (.slice Ao15 t413.length co15)) (fun _ hk => hk.2) (.int .i64 t416)) (fun _ hk => hk.2) (.int .i64 t417)) (fun _ h_ => h_.1)) (fun _ h_ => h_.1)))); (case side4 => exact (Kd.N_reads' HO415.out).2.1); rintro e w17 ⟨rfl, hb⟩; refine ⟨_, rfl, ?_⟩; replace HO412 := a0_ (Kd.R_below (by (with_reducible repeat (first | apply Kd.R_alloc | apply Kd.R_drewN | apply Kd.R_drew)); exact (Kd.R_mono (Kd.R_mono (Kd.R_far (p := ⟨gb419, 1, none⟩) (Kd.R_far (p := ⟨gb419, 0, none⟩) (Kd.R_far (p := ⟨gb418, 1, none⟩) (Kd.R_far (p := ⟨gb418, 0, none⟩) (Kd.R_mono (Kd.R_types HO412.out BK418.out (by decide)) (fun k_ hk => (⟨hk, hk.1.2⟩ : _ ∧ k_ ≠ gb419))) (fun _ hk => hk.1.2) (.slice Ao12 t410.length co12)) (fun _ hk => hk.1.2) (.slice Ao15 t413.length co15)) (fun _ hk => hk.2) (.int .i64 t416)) (fun _ hk => hk.2) (.int .i64 t417)) (fun _ h_ => h_.1)) (fun _ h_ => h_.1))) hb); replace HO415 := a0_ (Kd.N_below (by (with_reducible repeat (first | apply Kd.N_alloc | apply Kd.N_drewN | apply Kd.N_drew)); exact (Kd.N_mono (Kd.N_mono (Kd.N_far (p := ⟨gb419, 1, none⟩) (Kd.N_far (p := ⟨gb419, 0, none⟩) (Kd.N_far (p := ⟨gb418, 1, none⟩) (Kd.N_far (p := ⟨gb418, 0, none⟩) (Kd.N_mono (Kd.N_mono HO415.out (fun k_ hk => (⟨hk, hk.1.2⟩ : _ ∧ k_ ≠ gb418))) (fun k_ hk => (⟨hk, hk.1.2⟩ : _ ∧ k_ ≠ gb419))) (fun _ hk => hk.1.2) (.slice Ao12 t410.length co12)) (fun _ hk => hk.1.2) (.slice Ao15 t413.length co15)) (fun _ hk => hk.2) (.int .i64 t416)) (fun _ hk => hk.2) (.int .i64 t417)) (fun _ h_ => h_.1)) (fun _ h_ => h_.1))) hb); replace BK418 := a0_ (blk_below (g := gb418) (o := .cells #[.slice Ao12 t410.length co12, .slice Ao15 t413.length co15] 26 (0, 0)) (by (with_reducible repeat (first | refine blk_drewN ?_ _ | refine blk_drew ?_ | refine blk_alloc ?_ _)); refine blk_far ?_ NB418_419.out _; (with_reducible repeat (first | refine blk_drewN ?_ _ | refine blk_drew ?_ | refine blk_alloc ?_ _)); refine blk_far ?_ NB418_419.out _; (with_reducible repeat (first | refine blk_drewN ?_ _ | refine blk_drew ?_ | refine blk_alloc ?_ _)); refine blk_put (cs := #[.slice Ao12 t410.length co12, .slice none 0 0]) ?_ 1 _ rfl; (with_reducible repeat (first | refine blk_drewN ?_ _ | refine blk_drew ?_ | refine blk_alloc ?_ _)); refine blk_put (cs := #[.slice none 0 0, .slice none 0 0]) ?_ 0 _ rfl; (with_reducible repeat (first | refine blk_drewN ?_ _ | refine blk_drew ?_ | refine blk_alloc ?_ _)); exact BK418.out) hb); replace BK419 := a0_ (blk_below (g := gb419) (o := .cells #[.int .i64 t416, .int .i64 t417] 28 (0, 0)) (by (with_reducible repeat (first | refine blk_drewN ?_ _ | refine blk_drew ?_ | refine blk_alloc ?_ _)); refine blk_put (cs := #[.int .i64 t416, .int .i64 0]) ?_ 1 _ rfl; (with_reducible repeat (first | refine blk_drewN ?_ _ | refine blk_drew ?_ | refine blk_alloc ?_ _)); refine blk_put (cs := #[.int .i64 0, .int .i64 0]) ?_ 0 _ rfl; (with_reducible repeat (first | refine blk_drewN ?_ _ | refine blk_drew ?_ | refine blk_alloc ?_ _)); refine blk_far ?_ NB419_418.out _; (with_reducible repeat (first | refine blk_drewN ?_ _ | refine blk_drew ?_ | refine blk_alloc ?_ _)); refine blk_far ?_ NB419_418.out _; (with_reducible repeat (first | refine blk_drewN ?_ _ | refine blk_drew ?_ | refine blk_alloc ?_ _)); exact BK419.out) hb); replace HB := sb_ HB hb; (try clear hb)))
    (try simp only [Act.put, List.setIfInBounds_toArray, List.set_cons_zero, List.set_cons_succ])
    go_cut [42] (fun v42 wc => ∃ (kq : Nat) (x42_7 : Bool), v42 = .bool x42_7 ∧ Aside0 (laws_FnPlateStep.j1 kq l1 t420 x42_7 t410 t413 t416 t417 = some r) ∧ Aside0 (kq ≤ kj2) ∧ Aside0 (Kd.R k28 28 wc w.heap.size (fun k_ => k_ ≠ gb419) (.slice Ao12 t410.length co12) t410) ∧ Aside0 (Kd.N (Kd.slice 28 k28) 23 wc w.heap.size (fun k_ => some k_ ≠ ((.slice Ao12 t410.length co12) : Value).ownBlock ∧ k_ ≠ gb418 ∧ k_ ≠ gb419) (.slice Ao15 t413.length co15) t413) ∧ Aside0 (wc.heap[gb418]? = some (.cells #[(.slice Ao12 t410.length co12), (.slice Ao15 t413.length co15)] 26 (0, 0))) ∧ Aside0 (wc.heap[gb419]? = some (.cells #[.int .i64 t416, .int .i64 t417] 28 (0, 0))) ∧ Aside0 (Below w.heap.size w wc))
    case first =>
     have H := HC8.out
     clear HC8
     replace H := Option.bind_eq_some_iff.mp H
     obtain ⟨t421, A180, H⟩ := H
     (try dsimp only at H)
     have A18 := Aside0.mk A180
     clear A180
     by_cases c19 : t420 = t421
     ·
      rw [if_pos c19] at H
      have c19b0 : (t420 == t421) = true := beq_iff_eq.mpr c19
      have c19b1 : (t420 != t421) = false := bne_eq_false_iff_eq.mpr c19
      clear c19
      (first | rw [c19b0] | (simp only [i64_w, i32_w]; rw [c19b0]) | skip)
      replace H := Option.bind_eq_some_iff.mp H
      obtain ⟨t422, A200, H⟩ := H
      (try dsimp only at H)
      have A20 := Aside0.mk A200
      clear A200
      by_cases c21 : t422 = true
      ·
       subst c21
       rw [if_pos rfl] at H
       (try dsimp only at H)
       replace H := Option.bind_eq_some_iff.mp H
       obtain ⟨t423, A220, H⟩ := H
       (try dsimp only at H)
       have A22 := Aside0.mk A220
       clear A220
       have H' := Aside0.mk H
       clear H
       have hnb23 := NB418_419.out
       have hnc23 := NB419_418.out
       have hcz24_0 := c20_ BK418
       have hcz24_1 := c21_ BK418
       have hfz24_0 := fz_ BK418 0
       have hfz24_1 := fz_ BK418 1
       have hcz25_0 := c20_ BK419
       have hcz25_1 := c21_ BK419
       have hfz25_0 := fz_ BK419 0
       have hfz25_1 := fz_ BK419 1
       go_wp2_with (first | ((with_reducible refine gate_callee (f := 17) rfl ?_); refine gL_ (some 31) Tryd.func17 #[.agg #[.slice Ao12 t410.length co12, .slice Ao15 t413.length co15], .agg #[.int .i64 t416, .int .i64 t417]] (h := ?_); (with_reducible refine (spec_PlateIn.calls kj2 _ _ t410 _ _ t413 t416 t417 t421 _ ?side1 ?side2 ?side3 ?side4 A18.out).mono ?_); (case side1 => repeat (first | exact (Kd.R_reads' HO412.out).2.2 | (with_reducible refine Kd.C_alloc ?_ _) | (with_reducible refine Kd.C_drewN ?_ _) | (with_reducible refine Kd.C_drew ?_))); (case side2 => exact (Kd.R_reads' HO412.out).2.1); (case side3 => repeat (first | exact (Kd.N_reads' HO415.out).2.2 | (with_reducible refine Kd.C_alloc ?_ _) | (with_reducible refine Kd.C_drewN ?_ _) | (with_reducible refine Kd.C_drew ?_))); (case side4 => exact (Kd.N_reads' HO415.out).2.1); rintro e w26 ⟨rfl, hb⟩; refine ⟨_, rfl, ?_⟩; replace HO412 := rb_ HO412 hb; replace HO415 := nb_ HO415 hb; replace BK418 := vb_ BK418 hb; replace BK419 := vb_ BK419 hb; replace HB := sb_ HB hb; (try clear hb); have hcz27_0 := c20_ BK418; have hcz27_1 := c21_ BK418; have hfz27_0 := fz_ BK418 0; have hfz27_1 := fz_ BK418 1) | (go_at_call 18; (with_reducible refine (spec_PlateOk.calls kj2 _ _ t410 _ _ t413 true _ ?side1 ?side2 ?side3 ?side4 A20.out).mono ?_); (case side1 => repeat (first | exact (Kd.R_reads' HO412.out).2.2 | (with_reducible refine Kd.C_alloc ?_ _) | (with_reducible refine Kd.C_drewN ?_ _) | (with_reducible refine Kd.C_drew ?_))); (case side2 => exact (Kd.R_reads' HO412.out).2.1); (case side3 => repeat (first | exact (Kd.N_reads' HO415.out).2.2 | (with_reducible refine Kd.C_alloc ?_ _) | (with_reducible refine Kd.C_drewN ?_ _) | (with_reducible refine Kd.C_drew ?_))); (case side4 => exact (Kd.N_reads' HO415.out).2.1); rintro e w28 ⟨rfl, hb⟩; replace HO412 := rb_ HO412 hb; replace HO415 := nb_ HO415 hb; replace BK418 := vb_ BK418 hb; replace BK419 := vb_ BK419 hb; replace HB := sb_ HB hb; (try clear hb); have hcz29_0 := c20_ BK419; have hcz29_1 := c21_ BK419; have hfz29_0 := fz_ BK419 0; have hfz29_1 := fz_ BK419 1) | (go_at_call 19; (with_reducible refine (spec_PtOk.calls t416 t417 t423 _ A22.out).mono ?_); rintro e w30 ⟨rfl, hb⟩; replace HO412 := rb_ HO412 hb; replace HO415 := nb_ HO415 hb; replace BK418 := vb_ BK418 hb; replace BK419 := vb_ BK419 hb; replace HB := sb_ HB hb; (try clear hb)))
       go_meet
       case rel => exact ⟨_, (!t423), (by first | rfl | (simp; done) | (simp [*]; done)), H', ⟨by have := HJ2.out; first | omega | exact Nat.le_refl _⟩, ⟨by (with_reducible repeat (first | apply Kd.R_alloc | apply Kd.R_drewN | apply Kd.R_drew)); exact Kd.R_mono HO412.out (fun _ hk => hk.2)⟩, ⟨by (with_reducible repeat (first | apply Kd.N_alloc | apply Kd.N_drewN | apply Kd.N_drew)); exact Kd.N_mono HO415.out (fun _ hk => ⟨hk.1.1, ⟨hk.1.2, hk.2⟩⟩)⟩, ⟨uq_⟩, ⟨uq_⟩, ⟨hB_⟩⟩
      ·
       replace c21 := Bool.eq_false_iff.mpr c21
       subst c21
       rw [if_neg (show ¬ (false = true) by decide)] at H
       (try dsimp only at H)
       have H' := Aside0.mk H
       clear H
       have hnb31 := NB418_419.out
       have hnc31 := NB419_418.out
       have hcz32_0 := c20_ BK418
       have hcz32_1 := c21_ BK418
       have hfz32_0 := fz_ BK418 0
       have hfz32_1 := fz_ BK418 1
       have hcz33_0 := c20_ BK419
       have hcz33_1 := c21_ BK419
       have hfz33_0 := fz_ BK419 0
       have hfz33_1 := fz_ BK419 1
       go_wp2_with (first | ((with_reducible refine gate_callee (f := 17) rfl ?_); refine gL_ (some 31) Tryd.func17 #[.agg #[.slice Ao12 t410.length co12, .slice Ao15 t413.length co15], .agg #[.int .i64 t416, .int .i64 t417]] (h := ?_); (with_reducible refine (spec_PlateIn.calls kj2 _ _ t410 _ _ t413 t416 t417 t421 _ ?side1 ?side2 ?side3 ?side4 A18.out).mono ?_); (case side1 => repeat (first | exact (Kd.R_reads' HO412.out).2.2 | (with_reducible refine Kd.C_alloc ?_ _) | (with_reducible refine Kd.C_drewN ?_ _) | (with_reducible refine Kd.C_drew ?_))); (case side2 => exact (Kd.R_reads' HO412.out).2.1); (case side3 => repeat (first | exact (Kd.N_reads' HO415.out).2.2 | (with_reducible refine Kd.C_alloc ?_ _) | (with_reducible refine Kd.C_drewN ?_ _) | (with_reducible refine Kd.C_drew ?_))); (case side4 => exact (Kd.N_reads' HO415.out).2.1); rintro e w34 ⟨rfl, hb⟩; refine ⟨_, rfl, ?_⟩; replace HO412 := rb_ HO412 hb; replace HO415 := nb_ HO415 hb; replace BK418 := vb_ BK418 hb; replace BK419 := vb_ BK419 hb; replace HB := sb_ HB hb; (try clear hb); have hcz35_0 := c20_ BK418; have hcz35_1 := c21_ BK418; have hfz35_0 := fz_ BK418 0; have hfz35_1 := fz_ BK418 1) | (go_at_call 18; (with_reducible refine (spec_PlateOk.calls kj2 _ _ t410 _ _ t413 false _ ?side1 ?side2 ?side3 ?side4 A20.out).mono ?_); (case side1 => repeat (first | exact (Kd.R_reads' HO412.out).2.2 | (with_reducible refine Kd.C_alloc ?_ _) | (with_reducible refine Kd.C_drewN ?_ _) | (with_reducible refine Kd.C_drew ?_))); (case side2 => exact (Kd.R_reads' HO412.out).2.1); (case side3 => repeat (first | exact (Kd.N_reads' HO415.out).2.2 | (with_reducible refine Kd.C_alloc ?_ _) | (with_reducible refine Kd.C_drewN ?_ _) | (with_reducible refine Kd.C_drew ?_))); (case side4 => exact (Kd.N_reads' HO415.out).2.1); rintro e w36 ⟨rfl, hb⟩; replace HO412 := rb_ HO412 hb; replace HO415 := nb_ HO415 hb; replace BK418 := vb_ BK418 hb; replace BK419 := vb_ BK419 hb; replace HB := sb_ HB hb; (try clear hb)))
       go_meet
       case rel => exact ⟨_, (true), (by first | rfl | (simp; done) | (simp [*]; done)), H', ⟨by have := HJ2.out; first | omega | exact Nat.le_refl _⟩, ⟨by (with_reducible repeat (first | apply Kd.R_alloc | apply Kd.R_drewN | apply Kd.R_drew)); exact Kd.R_mono HO412.out (fun _ hk => hk.2)⟩, ⟨by (with_reducible repeat (first | apply Kd.N_alloc | apply Kd.N_drewN | apply Kd.N_drew)); exact Kd.N_mono HO415.out (fun _ hk => ⟨hk.1.1, ⟨hk.1.2, hk.2⟩⟩)⟩, ⟨uq_⟩, ⟨uq_⟩, ⟨hB_⟩⟩
     ·
      rw [if_neg c19] at H
      have c19b0 : (t420 == t421) = false := beq_eq_false_iff_ne.mpr c19
      have c19b1 : (t420 != t421) = true := bne_iff_ne.mpr c19
      (first | rw [c19b0] | (simp only [i64_w, i32_w]; rw [c19b0]) | skip)
      have H' := Aside0.mk H
      clear H
      have hnb37 := NB418_419.out
      have hnc37 := NB419_418.out
      have hcz38_0 := c20_ BK418
      have hcz38_1 := c21_ BK418
      have hfz38_0 := fz_ BK418 0
      have hfz38_1 := fz_ BK418 1
      have hcz39_0 := c20_ BK419
      have hcz39_1 := c21_ BK419
      have hfz39_0 := fz_ BK419 0
      have hfz39_1 := fz_ BK419 1
      go_wp2_with (first | ((with_reducible refine gate_callee (f := 17) rfl ?_); refine gL_ (some 31) Tryd.func17 #[.agg #[.slice Ao12 t410.length co12, .slice Ao15 t413.length co15], .agg #[.int .i64 t416, .int .i64 t417]] (h := ?_); (with_reducible refine (spec_PlateIn.calls kj2 _ _ t410 _ _ t413 t416 t417 t421 _ ?side1 ?side2 ?side3 ?side4 A18.out).mono ?_); (case side1 => repeat (first | exact (Kd.R_reads' HO412.out).2.2 | (with_reducible refine Kd.C_alloc ?_ _) | (with_reducible refine Kd.C_drewN ?_ _) | (with_reducible refine Kd.C_drew ?_))); (case side2 => exact (Kd.R_reads' HO412.out).2.1); (case side3 => repeat (first | exact (Kd.N_reads' HO415.out).2.2 | (with_reducible refine Kd.C_alloc ?_ _) | (with_reducible refine Kd.C_drewN ?_ _) | (with_reducible refine Kd.C_drew ?_))); (case side4 => exact (Kd.N_reads' HO415.out).2.1); rintro e w40 ⟨rfl, hb⟩; refine ⟨_, rfl, ?_⟩; replace HO412 := rb_ HO412 hb; replace HO415 := nb_ HO415 hb; replace BK418 := vb_ BK418 hb; replace BK419 := vb_ BK419 hb; replace HB := sb_ HB hb; (try clear hb)))
      go_meet
      case rel => exact ⟨_, (true), (by first | rfl | (simp; done) | (simp [*]; done)), H', ⟨by have := HJ2.out; first | omega | exact Nat.le_refl _⟩, ⟨by (with_reducible repeat (first | apply Kd.R_alloc | apply Kd.R_drewN | apply Kd.R_drew)); exact Kd.R_mono HO412.out (fun _ hk => hk.2)⟩, ⟨by (with_reducible repeat (first | apply Kd.N_alloc | apply Kd.N_drewN | apply Kd.N_drew)); exact Kd.N_mono HO415.out (fun _ hk => ⟨hk.1.1, ⟨hk.1.2, hk.2⟩⟩)⟩, ⟨uq_⟩, ⟨uq_⟩, ⟨hB_⟩⟩
    case rest =>
     clear HC8
     obtain ⟨kq, x42_7, rfl, HA, HJ7, HO_419000, HO_419001, BK418, BK419, HB⟩ := hcut
     cases kq with
     | zero => exact absurd HA.out (by simp [laws_FnPlateStep.j1])
     | succ kj7 =>
      have H := HA.out
      clear HA
      simp only [laws_FnPlateStep.j1] at H
      by_cases c41 : x42_7 = true
      ·
       subst c41
       rw [if_pos rfl] at H
       (try dsimp only at H)
       replace H := Option.bind_eq_some_iff.mp H
       obtain ⟨t424, A420, H⟩ := H
       (try dsimp only at H)
       have A42 := Aside0.mk A420
       clear A420
       obtain rfl := Option.some.inj H
       have hnb43 := NB418_419.out
       have hnc43 := NB419_418.out
       have hcz44_0 := c20_ BK418
       have hcz44_1 := c21_ BK418
       have hfz44_0 := fz_ BK418 0
       have hfz44_1 := fz_ BK418 1
       have hcz45_0 := c20_ BK419
       have hcz45_1 := c21_ BK419
       have hfz45_0 := fz_ BK419 0
       have hfz45_1 := fz_ BK419 1
       go_wp2_with (first | ((with_reducible refine gate_callee (f := 17) rfl ?_); refine gL_ (some 46) Tryd.func17 #[.agg #[.slice Ao12 t410.length co12, .slice Ao15 t413.length co15], .agg #[.int .i64 t416, .int .i64 t417]] (h := ?_); (with_reducible refine (spec_PlateIn.calls kj7 _ _ t410 _ _ t413 t416 t417 t424 _ ?side1 ?side2 ?side3 ?side4 A42.out).mono ?_); (case side1 => repeat (first | exact (Kd.R_reads' HO_419000.out).2.2 | (with_reducible refine Kd.C_alloc ?_ _) | (with_reducible refine Kd.C_drewN ?_ _) | (with_reducible refine Kd.C_drew ?_))); (case side2 => exact (Kd.R_reads' HO_419000.out).2.1); (case side3 => repeat (first | exact (Kd.N_reads' HO_419001.out).2.2 | (with_reducible refine Kd.C_alloc ?_ _) | (with_reducible refine Kd.C_drewN ?_ _) | (with_reducible refine Kd.C_drew ?_))); (case side4 => exact (Kd.N_reads' HO_419001.out).2.1); rintro e w46 ⟨rfl, hb⟩; refine ⟨_, rfl, ?_⟩; replace HO_419000 := rb_ HO_419000 hb; replace HO_419001 := nb_ HO_419001 hb; replace BK418 := vb_ BK418 hb; replace BK419 := vb_ BK419 hb; replace HB := sb_ HB hb; (try clear hb)))
       go_ret
       exact ⟨rr_, hB_⟩
      ·
       replace c41 := Bool.eq_false_iff.mpr c41
       subst c41
       rw [if_neg (show ¬ (false = true) by decide)] at H
       (try dsimp only at H)
       replace H := Option.bind_eq_some_iff.mp H
       obtain ⟨⟨t425, t426, t427⟩, A470, H⟩ := H
       (try dsimp only at H)
       have A47 := Aside0.mk A470
       clear A470
       replace H := Option.bind_eq_some_iff.mp H
       obtain ⟨⟨t429, t430⟩, A480, H⟩ := H
       (try dsimp only at H)
       have A48 := Aside0.mk A480
       clear A480
       replace H := Option.bind_eq_some_iff.mp H
       obtain ⟨t431, A490, H⟩ := H
       (try dsimp only at H)
       have A49 := Aside0.mk A490
       clear A490
       by_cases c50 : t431 ≤ 0
       ·
        rw [if_pos c50] at H
        have c50b0 : decide (t431 ≤ 0) = true := decide_eq_true c50
        clear c50
        obtain rfl := Option.some.inj H
        try go_wp2_with (first | ((with_reducible refine gate_callee (f := 20) rfl ?_); refine gL_ (some 49) Tryd.func20 #[.int .i64 1, .int .i64 1] (h := ?_); (with_reducible refine (impl_FracOf.calls kj7 1 1 t425 t426 t427 _ A47.out).mono ?_); rintro e w51 ⟨rfl, hb⟩; refine ⟨_, rfl, ?_⟩; replace HO_419000 := rb_ HO_419000 hb; replace HO_419001 := nb_ HO_419001 hb; replace BK418 := vb_ BK418 hb; replace BK419 := vb_ BK419 hb; replace HB := sb_ HB hb; (try clear hb)) | ((with_reducible refine gate_dst (N := 8) rfl ?_); (try (refine gate_guard (by rfl) ?_; dsimp only)); refine bx_ (N := 8) (cs := #[.int .i64 0, .int .i64 0]) (t := 35) (h := ?_); intro gb428 hg w52 hbox hb; have BK428 := a0_ (hbox); have GW428 := gh_ HB hg; have GE428 := gh_ HB hg; have NB418_428 := nl_ BK418 hg; have NB428_418 := nr_ BK418 hg; have NB419_428 := nl_ BK419 hg; have NB428_419 := nr_ BK419 hg; replace HO_419000 := rb_ HO_419000 hb; replace HO_419001 := a0_ (Kd.N_below (Kd.N_elderB (uN_ HO_419001) gb428 (Nat.le_of_eq hg.symm)) hb); replace BK418 := vb_ BK418 hb; replace BK419 := vb_ BK419 hb; replace HB := sb_ HB hb; clear hb hbox hg; have hnb53 := NB428_418.out; have hnc53 := NB418_428.out; have hnb54 := NB428_419.out; have hnc54 := NB419_428.out; have hcz55_0 := c20_ BK428; have hcz55_1 := c21_ BK428; have hfz55_0 := fz_ BK428 0; have hfz55_1 := fz_ BK428 1))
        have n0_ : Aside0 (Kd.R k28 28 ((w52.setCell ⟨gb428, 0, none⟩ (.int .i64 t425)).setCell ⟨gb428, 1, none⟩ (.int .i64 t426)) w.heap.size (fun k_ => k_ ≠ gb419) (.slice Ao12 t410.length co12) t410) := ⟨by (with_reducible repeat (first | apply Kd.R_alloc | apply Kd.R_drewN | apply Kd.R_drew)); exact Kd.R_mono (Kd.R_far (p := ⟨gb428, 1, none⟩) (Kd.R_far (p := ⟨gb428, 0, none⟩) (Kd.R_types HO_419000.out BK428.out (by decide)) (fun _ hk => hk.2) (.int .i64 t425)) (fun _ hk => hk.2) (.int .i64 t426)) (fun _ hk => hk.1)⟩
        have n1_ : Aside0 (Kd.N (Kd.slice 28 k28) 23 ((w52.setCell ⟨gb428, 0, none⟩ (.int .i64 t425)).setCell ⟨gb428, 1, none⟩ (.int .i64 t426)) w.heap.size (fun k_ => some k_ ≠ (.slice Ao12 t410.length co12 : Value).ownBlock ∧ k_ ≠ gb418 ∧ k_ ≠ gb419 ∧ k_ ≠ gb428) (.slice Ao15 t413.length co15) t413) := ⟨by (with_reducible repeat (first | apply Kd.N_alloc | apply Kd.N_drewN | apply Kd.N_drew)); exact Kd.N_mono (Kd.N_far (p := ⟨gb428, 1, none⟩) (Kd.N_far (p := ⟨gb428, 0, none⟩) (Kd.N_mono HO_419001.out (fun k_ hk => (⟨hk, hk.2⟩ : _ ∧ k_ ≠ gb428))) (fun _ hk => hk.2) (.int .i64 t425)) (fun _ hk => hk.2) (.int .i64 t426)) (fun _ hk => ⟨hk.1.1.1, ⟨hk.1.1.2.1, ⟨hk.1.1.2.2, hk.1.2⟩⟩⟩)⟩
        have n2_ : Aside0 (((w52.setCell ⟨gb428, 0, none⟩ (.int .i64 t425)).setCell ⟨gb428, 1, none⟩ (.int .i64 t426)).heap[gb418]? = some (.cells #[.slice Ao12 t410.length co12, .slice Ao15 t413.length co15] 26 (0, 0))) := ⟨by (with_reducible repeat (first | refine blk_drewN ?_ _ | refine blk_drew ?_ | refine blk_alloc ?_ _)); refine blk_far ?_ NB418_428.out _; (with_reducible repeat (first | refine blk_drewN ?_ _ | refine blk_drew ?_ | refine blk_alloc ?_ _)); refine blk_far ?_ NB418_428.out _; (with_reducible repeat (first | refine blk_drewN ?_ _ | refine blk_drew ?_ | refine blk_alloc ?_ _)); exact BK418.out⟩
        have n3_ : Aside0 (((w52.setCell ⟨gb428, 0, none⟩ (.int .i64 t425)).setCell ⟨gb428, 1, none⟩ (.int .i64 t426)).heap[gb419]? = some (.cells #[.int .i64 t416, .int .i64 t417] 28 (0, 0))) := ⟨by (with_reducible repeat (first | refine blk_drewN ?_ _ | refine blk_drew ?_ | refine blk_alloc ?_ _)); refine blk_far ?_ NB419_428.out _; (with_reducible repeat (first | refine blk_drewN ?_ _ | refine blk_drew ?_ | refine blk_alloc ?_ _)); refine blk_far ?_ NB419_428.out _; (with_reducible repeat (first | refine blk_drewN ?_ _ | refine blk_drew ?_ | refine blk_alloc ?_ _)); exact BK419.out⟩
        have n4_ : Aside0 (((w52.setCell ⟨gb428, 0, none⟩ (.int .i64 t425)).setCell ⟨gb428, 1, none⟩ (.int .i64 t426)).heap[gb428]? = some (.cells #[.int .i64 t425, .int .i64 t426] 35 (0, 0))) := ⟨by (with_reducible repeat (first | refine blk_drewN ?_ _ | refine blk_drew ?_ | refine blk_alloc ?_ _)); refine blk_put (cs := #[.int .i64 t425, .int .i64 0]) ?_ 1 _ rfl; (with_reducible repeat (first | refine blk_drewN ?_ _ | refine blk_drew ?_ | refine blk_alloc ?_ _)); refine blk_put (cs := #[.int .i64 0, .int .i64 0]) ?_ 0 _ rfl; (with_reducible repeat (first | refine blk_drewN ?_ _ | refine blk_drew ?_ | refine blk_alloc ?_ _)); exact BK428.out⟩
        have n5_ : Aside0 (Below w.heap.size w ((w52.setCell ⟨gb428, 0, none⟩ (.int .i64 t425)).setCell ⟨gb428, 1, none⟩ (.int .i64 t426))) := ⟨hB_⟩
        (try clear HO_419000)
        (try clear HO_419001)
        (try clear BK418)
        (try clear BK419)
        (try clear BK428)
        (try clear HB)
        generalize ((w52.setCell ⟨gb428, 0, none⟩ (.int .i64 t425)).setCell ⟨gb428, 1, none⟩ (.int .i64 t426)) = w56 at n0_ n1_ n2_ n3_ n4_ n5_ ⊢
        have HO_419000 := n0_
        have HO_419001 := n1_
        have BK418 := n2_
        have BK419 := n3_
        have BK428 := n4_
        have HB := n5_
        clear n0_ n1_ n2_ n3_ n4_ n5_
        replace HO_419000 := a0_ (Kd.R_drew HO_419000.out)
        replace HO_419001 := a0_ (Kd.N_drew HO_419001.out)
        replace BK418 := a0_ (blk_drew BK418.out)
        replace BK419 := a0_ (blk_drew BK419.out)
        replace BK428 := a0_ (blk_drew BK428.out)
        replace HB := a0_ (below_drew1 HB.out)
        refine start_ (n := 6) (S := fun w' => w'.cell? ⟨gb418, 0, none⟩ = some (.slice Ao12 t410.length co12) ∧ w'.cell? ⟨gb418, 1, none⟩ = some (.slice Ao15 t413.length co15) ∧ w'.cell? ⟨gb419, 0, none⟩ = some (.int .i64 t416) ∧ w'.cell? ⟨gb419, 1, none⟩ = some (.int .i64 t417) ∧ w'.cell? ⟨gb428, 0, none⟩ = some (.int .i64 t425) ∧ w'.cell? ⟨gb428, 1, none⟩ = some (.int .i64 t426)) (ds := []) (Array.replicate 6 false) (by kernel_rfl) rfl rfl ⟨bc_, bc_, bc_, bc_, bc_, bc_⟩ (fun hHeld => ?_)
        generalize w56.drew = w57 at HO_419000 HO_419001 BK418 BK419 BK428 HB hHeld ⊢
        refine tb6_ 0 52 (bm 6 1) hHeld ?_
        refine tb6_ 1 53 (bm 6 3) hHeld ?_
        refine tb6_ 3 55 (bm 6 11) hHeld ?_
        refine one_ (i := 2) (N := some 54) (bm 6 15) rfl rfl (by kernel_rfl) (by decide) (fun K hK => ?_)
        refine goes_ Tryd.func22 (by kernel_rfl) rfl #[.agg #[.slice Ao12 t410.length co12, .slice Ao15 t413.length co15], .agg #[.int .i64 t416, .int .i64 t417]] (by rfl) rfl rfl ma_ ?_
        with_reducible refine (impl_PlateFar.calls _ _ t410 _ _ t413 t416 t417 t429 t430 _ ?side1 ?side2 ?side3 ?side4 ?side5 A48.out).mono ?_
        (case side1 => repeat (first | exact (Kd.R_reads' HO_419000.out).2.2 | (with_reducible refine Kd.C_alloc ?_ _) | (with_reducible refine Kd.C_drewN ?_ _) | (with_reducible refine Kd.C_drew ?_)))
        (case side2 => exact (Kd.R_reads' HO_419000.out).2.1)
        (case side3 => repeat (first | exact (Kd.N_reads' HO_419001.out).2.2 | (with_reducible refine Kd.C_alloc ?_ _) | (with_reducible refine Kd.C_drewN ?_ _) | (with_reducible refine Kd.C_drew ?_)))
        (case side4 => exact (Kd.N_reads' HO_419001.out).2.1)
        (case side5 => exact ErrW.below HE.out hB_)
        rintro e w58 ⟨rfl, hb⟩
        refine ⟨_, rfl, ?_⟩
        replace HO_419000 := rb_ HO_419000 hb
        replace HO_419001 := nb_ HO_419001 hb
        replace BK418 := vb_ BK418 hb
        replace BK419 := vb_ BK419 hb
        replace BK428 := vb_ BK428 hb
        replace HB := sb_ HB hb
        (try clear hb)
        (try clear hb2)
        (try clear hk)
        (try clear hi)
        refine hK.out _ _ ⟨bc_, bc_, bc_, bc_, bc_, bc_⟩ (fun hHeld => ?_)
        clear hK K
        refine no_ (h := ?_)
        refine one_ (i := 4) (N := some 56) (bm 6 31) rfl rfl (by kernel_rfl) (by decide) (fun K hK => ?_)
        refine goes_ Tryd.func21 (by kernel_rfl) rfl #[.agg #[.int .i64 t429, .int .i64 t430], .agg #[.int .i64 t425, .int .i64 t426]] (by rfl) rfl rfl ma_ ?_
        with_reducible refine (impl_FracCmp.calls t429 t430 t425 t426 t431 _ (ErrW.below HE.out hB_) A49.out).mono ?_
        rintro e w59 ⟨rfl, hb⟩
        refine ⟨_, rfl, ?_⟩
        replace HO_419000 := rb_ HO_419000 hb
        replace HO_419001 := nb_ HO_419001 hb
        replace BK418 := vb_ BK418 hb
        replace BK419 := vb_ BK419 hb
        replace BK428 := vb_ BK428 hb
        replace HB := sb_ HB hb
        (try clear hb)
        (try clear hb2)
        (try clear hk)
        (try clear hi)
        refine hK.out _ _ ⟨bc_, bc_, bc_, bc_, bc_, bc_⟩ (fun hHeld => ?_)
        clear hK K
        refine no_ (h := ?_)
        refine pv_ 5 57 (bm 6 63) ?_
        refine done_ (by kernel_rfl) ?_
        try go_wp2
        go_ret
        exact ⟨rr_, hB_⟩
       ·
        rw [if_neg c50] at H
        have c50b0 : decide (t431 ≤ 0) = false := decide_eq_false c50
        clear c50
        obtain ⟨y432, hy432⟩ : ∃ y_ : List (S28), y_ = (([(⟨wrap64 (t416 + 1), t417⟩ : S28), (⟨wrap64 (t416 - 1), t417⟩ : S28), (⟨t416, wrap64 (t417 + 1)⟩ : S28), (⟨t416, wrap64 (t417 - 1)⟩ : S28)] : List (S28))) := ⟨_, rfl⟩
        replace H : (if 0 ≤ ((l1.length : Int) % 4) then (if ((l1.length : Int) % 4) < (y432.length : Int) then ((impl_PtOk.f ((rd_T28 y432 ((l1.length : Int) % 4)).f0) ((rd_T28 y432 ((l1.length : Int) % 4)).f1)).bind fun t437 => (if t437 = true then ((impl_PlateIn.f t410 t413 ((rd_T28 y432 ((l1.length : Int) % 4)).f0) ((rd_T28 y432 ((l1.length : Int) % 4)).f1)).bind fun t438 => (if t438 = t420 then (some (t420 != 0)) else (some false))) else (some true))) else (none)) else (none)) = some r := by first | (rw [hy432]; with_reducible exact H) | (have H2_ := (Option.bind_some _ _).symm.trans H; rw [hy432]; with_reducible exact H2_) | (have H2_ := (Option.bind_some _ _).symm.trans H; with_reducible exact H2_) | with_reducible exact H | (rw [hy432]; exact H) | exact H
        have Ny432 := Aside0.mk hy432
        clear hy432
        obtain ⟨ji60, hji60⟩ : ∃ j_ : Int, ((l1.length : Int) % 4) = j_ := ⟨_, rfl⟩
        replace H : (if 0 ≤ (ji60) then (if (ji60) < (y432.length : Int) then ((impl_PtOk.f ((rd_T28 y432 (ji60)).f0) ((rd_T28 y432 (ji60)).f1)).bind fun t437 => (if t437 = true then ((impl_PlateIn.f t410 t413 ((rd_T28 y432 (ji60)).f0) ((rd_T28 y432 (ji60)).f1)).bind fun t438 => (if t438 = t420 then (some (t420 != 0)) else (some false))) else (some true))) else (none)) else (none)) = some r := by first | (rw [hji60] at H; exact H) | (simp only [hji60] at H ⊢; exact H)
        (try rw [hji60] at A47)
        (try rw [hji60] at A48)
        (try rw [hji60] at A49)
        by_cases c61 : 0 ≤ (ji60)
        ·
         rw [if_pos c61] at H
         have c61b0 : decide (0 ≤ (ji60)) = true := decide_eq_true c61
         clear c61
         by_cases c62 : (ji60) < (y432.length : Int)
         ·
          rw [if_pos c62] at H
          have c62b0 : decide ((ji60) < (y432.length : Int)) = true := decide_eq_true c62
          clear c62
          replace H := Option.bind_eq_some_iff.mp H
          obtain ⟨t437, A630, H⟩ := H
          (try dsimp only at H)
          have A63 := Aside0.mk A630
          clear A630
          by_cases c64 : t437 = true
          ·
           subst c64
           rw [if_pos rfl] at H
           (try dsimp only at H)
           replace H := Option.bind_eq_some_iff.mp H
           obtain ⟨t438, A650, H⟩ := H
           (try dsimp only at H)
           have A65 := Aside0.mk A650
           clear A650
           by_cases c66 : t438 = t420
           ·
            rw [if_pos c66] at H
            have c66b0 : (t438 == t420) = true := beq_iff_eq.mpr c66
            have c66b1 : (t438 != t420) = false := bne_eq_false_iff_eq.mpr c66
            clear c66
            obtain rfl := Option.some.inj H
            try go_wp2_with (first | ((with_reducible refine gate_callee (f := 20) rfl ?_); refine gL_ (some 49) Tryd.func20 #[.int .i64 1, .int .i64 1] (h := ?_); (with_reducible refine (impl_FracOf.calls kj7 1 1 t425 t426 t427 _ A47.out).mono ?_); rintro e w67 ⟨rfl, hb⟩; refine ⟨_, rfl, ?_⟩; replace HO_419000 := rb_ HO_419000 hb; replace HO_419001 := nb_ HO_419001 hb; replace BK418 := vb_ BK418 hb; replace BK419 := vb_ BK419 hb; replace HB := sb_ HB hb; (try clear hb)) | ((with_reducible refine gate_dst (N := 8) rfl ?_); (try (refine gate_guard (by rfl) ?_; dsimp only)); refine bx_ (N := 8) (cs := #[.int .i64 0, .int .i64 0]) (t := 35) (h := ?_); intro gb428 hg w68 hbox hb; have BK428 := a0_ (hbox); have GW428 := gh_ HB hg; have GE428 := gh_ HB hg; have NB418_428 := nl_ BK418 hg; have NB428_418 := nr_ BK418 hg; have NB419_428 := nl_ BK419 hg; have NB428_419 := nr_ BK419 hg; replace HO_419000 := rb_ HO_419000 hb; replace HO_419001 := a0_ (Kd.N_below (Kd.N_elderB (uN_ HO_419001) gb428 (Nat.le_of_eq hg.symm)) hb); replace BK418 := vb_ BK418 hb; replace BK419 := vb_ BK419 hb; replace HB := sb_ HB hb; clear hb hbox hg; have hnb69 := NB428_418.out; have hnc69 := NB418_428.out; have hnb70 := NB428_419.out; have hnc70 := NB419_428.out; have hcz71_0 := c20_ BK428; have hcz71_1 := c21_ BK428; have hfz71_0 := fz_ BK428 0; have hfz71_1 := fz_ BK428 1))
            have n0_ : Aside0 (Kd.R k28 28 ((w68.setCell ⟨gb428, 0, none⟩ (.int .i64 t425)).setCell ⟨gb428, 1, none⟩ (.int .i64 t426)) w.heap.size (fun k_ => k_ ≠ gb419) (.slice Ao12 t410.length co12) t410) := ⟨by (with_reducible repeat (first | apply Kd.R_alloc | apply Kd.R_drewN | apply Kd.R_drew)); exact Kd.R_mono (Kd.R_far (p := ⟨gb428, 1, none⟩) (Kd.R_far (p := ⟨gb428, 0, none⟩) (Kd.R_types HO_419000.out BK428.out (by decide)) (fun _ hk => hk.2) (.int .i64 t425)) (fun _ hk => hk.2) (.int .i64 t426)) (fun _ hk => hk.1)⟩
            have n1_ : Aside0 (Kd.N (Kd.slice 28 k28) 23 ((w68.setCell ⟨gb428, 0, none⟩ (.int .i64 t425)).setCell ⟨gb428, 1, none⟩ (.int .i64 t426)) w.heap.size (fun k_ => some k_ ≠ (.slice Ao12 t410.length co12 : Value).ownBlock ∧ k_ ≠ gb418 ∧ k_ ≠ gb419 ∧ k_ ≠ gb428) (.slice Ao15 t413.length co15) t413) := ⟨by (with_reducible repeat (first | apply Kd.N_alloc | apply Kd.N_drewN | apply Kd.N_drew)); exact Kd.N_mono (Kd.N_far (p := ⟨gb428, 1, none⟩) (Kd.N_far (p := ⟨gb428, 0, none⟩) (Kd.N_mono HO_419001.out (fun k_ hk => (⟨hk, hk.2⟩ : _ ∧ k_ ≠ gb428))) (fun _ hk => hk.2) (.int .i64 t425)) (fun _ hk => hk.2) (.int .i64 t426)) (fun _ hk => ⟨hk.1.1.1, ⟨hk.1.1.2.1, ⟨hk.1.1.2.2, hk.1.2⟩⟩⟩)⟩
            have n2_ : Aside0 (((w68.setCell ⟨gb428, 0, none⟩ (.int .i64 t425)).setCell ⟨gb428, 1, none⟩ (.int .i64 t426)).heap[gb418]? = some (.cells #[.slice Ao12 t410.length co12, .slice Ao15 t413.length co15] 26 (0, 0))) := ⟨by (with_reducible repeat (first | refine blk_drewN ?_ _ | refine blk_drew ?_ | refine blk_alloc ?_ _)); refine blk_far ?_ NB418_428.out _; (with_reducible repeat (first | refine blk_drewN ?_ _ | refine blk_drew ?_ | refine blk_alloc ?_ _)); refine blk_far ?_ NB418_428.out _; (with_reducible repeat (first | refine blk_drewN ?_ _ | refine blk_drew ?_ | refine blk_alloc ?_ _)); exact BK418.out⟩
            have n3_ : Aside0 (((w68.setCell ⟨gb428, 0, none⟩ (.int .i64 t425)).setCell ⟨gb428, 1, none⟩ (.int .i64 t426)).heap[gb419]? = some (.cells #[.int .i64 t416, .int .i64 t417] 28 (0, 0))) := ⟨by (with_reducible repeat (first | refine blk_drewN ?_ _ | refine blk_drew ?_ | refine blk_alloc ?_ _)); refine blk_far ?_ NB419_428.out _; (with_reducible repeat (first | refine blk_drewN ?_ _ | refine blk_drew ?_ | refine blk_alloc ?_ _)); refine blk_far ?_ NB419_428.out _; (with_reducible repeat (first | refine blk_drewN ?_ _ | refine blk_drew ?_ | refine blk_alloc ?_ _)); exact BK419.out⟩
            have n4_ : Aside0 (((w68.setCell ⟨gb428, 0, none⟩ (.int .i64 t425)).setCell ⟨gb428, 1, none⟩ (.int .i64 t426)).heap[gb428]? = some (.cells #[.int .i64 t425, .int .i64 t426] 35 (0, 0))) := ⟨by (with_reducible repeat (first | refine blk_drewN ?_ _ | refine blk_drew ?_ | refine blk_alloc ?_ _)); refine blk_put (cs := #[.int .i64 t425, .int .i64 0]) ?_ 1 _ rfl; (with_reducible repeat (first | refine blk_drewN ?_ _ | refine blk_drew ?_ | refine blk_alloc ?_ _)); refine blk_put (cs := #[.int .i64 0, .int .i64 0]) ?_ 0 _ rfl; (with_reducible repeat (first | refine blk_drewN ?_ _ | refine blk_drew ?_ | refine blk_alloc ?_ _)); exact BK428.out⟩
            have n5_ : Aside0 (Below w.heap.size w ((w68.setCell ⟨gb428, 0, none⟩ (.int .i64 t425)).setCell ⟨gb428, 1, none⟩ (.int .i64 t426))) := ⟨hB_⟩
            (try clear HO_419000)
            (try clear HO_419001)
            (try clear BK418)
            (try clear BK419)
            (try clear BK428)
            (try clear HB)
            generalize ((w68.setCell ⟨gb428, 0, none⟩ (.int .i64 t425)).setCell ⟨gb428, 1, none⟩ (.int .i64 t426)) = w72 at n0_ n1_ n2_ n3_ n4_ n5_ ⊢
            have HO_419000 := n0_
            have HO_419001 := n1_
            have BK418 := n2_
            have BK419 := n3_
            have BK428 := n4_
            have HB := n5_
            clear n0_ n1_ n2_ n3_ n4_ n5_
            replace HO_419000 := a0_ (Kd.R_drew HO_419000.out)
            replace HO_419001 := a0_ (Kd.N_drew HO_419001.out)
            replace BK418 := a0_ (blk_drew BK418.out)
            replace BK419 := a0_ (blk_drew BK419.out)
            replace BK428 := a0_ (blk_drew BK428.out)
            replace HB := a0_ (below_drew1 HB.out)
            refine start_ (n := 6) (S := fun w' => w'.cell? ⟨gb418, 0, none⟩ = some (.slice Ao12 t410.length co12) ∧ w'.cell? ⟨gb418, 1, none⟩ = some (.slice Ao15 t413.length co15) ∧ w'.cell? ⟨gb419, 0, none⟩ = some (.int .i64 t416) ∧ w'.cell? ⟨gb419, 1, none⟩ = some (.int .i64 t417) ∧ w'.cell? ⟨gb428, 0, none⟩ = some (.int .i64 t425) ∧ w'.cell? ⟨gb428, 1, none⟩ = some (.int .i64 t426)) (ds := []) (Array.replicate 6 false) (by kernel_rfl) rfl rfl ⟨bc_, bc_, bc_, bc_, bc_, bc_⟩ (fun hHeld => ?_)
            generalize w72.drew = w73 at HO_419000 HO_419001 BK418 BK419 BK428 HB hHeld ⊢
            refine tb6_ 0 52 (bm 6 1) hHeld ?_
            refine tb6_ 1 53 (bm 6 3) hHeld ?_
            refine tb6_ 3 55 (bm 6 11) hHeld ?_
            refine one_ (i := 2) (N := some 54) (bm 6 15) rfl rfl (by kernel_rfl) (by decide) (fun K hK => ?_)
            refine goes_ Tryd.func22 (by kernel_rfl) rfl #[.agg #[.slice Ao12 t410.length co12, .slice Ao15 t413.length co15], .agg #[.int .i64 t416, .int .i64 t417]] (by rfl) rfl rfl ma_ ?_
            with_reducible refine (impl_PlateFar.calls _ _ t410 _ _ t413 t416 t417 t429 t430 _ ?side1 ?side2 ?side3 ?side4 ?side5 A48.out).mono ?_
            (case side1 => repeat (first | exact (Kd.R_reads' HO_419000.out).2.2 | (with_reducible refine Kd.C_alloc ?_ _) | (with_reducible refine Kd.C_drewN ?_ _) | (with_reducible refine Kd.C_drew ?_)))
            (case side2 => exact (Kd.R_reads' HO_419000.out).2.1)
            (case side3 => repeat (first | exact (Kd.N_reads' HO_419001.out).2.2 | (with_reducible refine Kd.C_alloc ?_ _) | (with_reducible refine Kd.C_drewN ?_ _) | (with_reducible refine Kd.C_drew ?_)))
            (case side4 => exact (Kd.N_reads' HO_419001.out).2.1)
            (case side5 => exact ErrW.below HE.out hB_)
            rintro e w74 ⟨rfl, hb⟩
            refine ⟨_, rfl, ?_⟩
            replace HO_419000 := rb_ HO_419000 hb
            replace HO_419001 := nb_ HO_419001 hb
            replace BK418 := vb_ BK418 hb
            replace BK419 := vb_ BK419 hb
            replace BK428 := vb_ BK428 hb
            replace HB := sb_ HB hb
            (try clear hb)
            (try clear hb2)
            (try clear hk)
            (try clear hi)
            refine hK.out _ _ ⟨bc_, bc_, bc_, bc_, bc_, bc_⟩ (fun hHeld => ?_)
            clear hK K
            refine no_ (h := ?_)
            refine one_ (i := 4) (N := some 56) (bm 6 31) rfl rfl (by kernel_rfl) (by decide) (fun K hK => ?_)
            refine goes_ Tryd.func21 (by kernel_rfl) rfl #[.agg #[.int .i64 t429, .int .i64 t430], .agg #[.int .i64 t425, .int .i64 t426]] (by rfl) rfl rfl ma_ ?_
            with_reducible refine (impl_FracCmp.calls t429 t430 t425 t426 t431 _ (ErrW.below HE.out hB_) A49.out).mono ?_
            rintro e w75 ⟨rfl, hb⟩
            refine ⟨_, rfl, ?_⟩
            replace HO_419000 := rb_ HO_419000 hb
            replace HO_419001 := nb_ HO_419001 hb
            replace BK418 := vb_ BK418 hb
            replace BK419 := vb_ BK419 hb
            replace BK428 := vb_ BK428 hb
            replace HB := sb_ HB hb
            (try clear hb)
            (try clear hb2)
            (try clear hk)
            (try clear hi)
            refine hK.out _ _ ⟨bc_, bc_, bc_, bc_, bc_, bc_⟩ (fun hHeld => ?_)
            clear hK K
            refine no_ (h := ?_)
            refine pv_ 5 57 (bm 6 63) ?_
            refine done_ (by kernel_rfl) ?_
            have hnb76 := NB419_418.out
            have hnc76 := NB418_419.out
            have hcz77_0 := c20_ BK419
            have hcz77_1 := c21_ BK419
            have hfz77_0 := fz_ BK419 0
            have hfz77_1 := fz_ BK419 1
            try go_wp2_with (first | ((with_reducible refine gate_dst (N := 82) rfl ?_); (try (refine gate_guard (by rfl) ?_; dsimp only)); refine Kd.R_lit k28 _ 28 ?hg (N := 82) ?hd (xs := ([(⟨wrap64 (t416 + 1), t417⟩ : S28), (⟨wrap64 (t416 - 1), t417⟩ : S28), (⟨t416, wrap64 (t417 + 1)⟩ : S28), (⟨t416, wrap64 (t417 - 1)⟩ : S28)] : List (S28))) (inner := [.int .i64 (wrap64 (t416 + 1)), .int .i64 t417, .int .i64 (wrap64 (t416 - 1)), .int .i64 t417, .int .i64 t416, .int .i64 (wrap64 (t417 + 1)), .int .i64 t416, .int .i64 (wrap64 (t417 - 1))]) (ok := fun _ => True) (okp := fun _ => True) ?hr ?hp (fun _ hk => hk) trivial (Below.refl _ _) (Nat.le_refl _) (by simp) ?_; (case hd => rfl); (case hg => rfl); (case hr => first | (go_simp; done) | (go_simp; rfl)); (case hp => exact (Reps.c2 (show Kd.M k28 _ _ _ (⟨wrap64 (t416 + 1), t417⟩ : S28) [.int .i64 (wrap64 (t416 + 1)), .int .i64 t417] from (k28_mkM _ _ _ (⟨wrap64 (t416 + 1), t417⟩ : S28) )) (Reps.c2 (show Kd.M k28 _ _ _ (⟨wrap64 (t416 - 1), t417⟩ : S28) [.int .i64 (wrap64 (t416 - 1)), .int .i64 t417] from (k28_mkM _ _ _ (⟨wrap64 (t416 - 1), t417⟩ : S28) )) (Reps.c2 (show Kd.M k28 _ _ _ (⟨t416, wrap64 (t417 + 1)⟩ : S28) [.int .i64 t416, .int .i64 (wrap64 (t417 + 1))] from (k28_mkM _ _ _ (⟨t416, wrap64 (t417 + 1)⟩ : S28) )) (Reps.c2 (show Kd.M k28 _ _ _ (⟨t416, wrap64 (t417 - 1)⟩ : S28) [.int .i64 t416, .int .i64 (wrap64 (t417 - 1))] from (k28_mkM _ _ _ (⟨t416, wrap64 (t417 - 1)⟩ : S28) )) (Reps.none _ _)))))); intro v433 w78 ho79 hb hg_ hnew_; clear hg_ hnew_; (first | rw [← Ny432.out] at ho79 | (simp only [Int.reduceToNat] at ho79; rw [← Ny432.out] at ho79)); have HO434 := a0_ (Kd.R_lower (Kd.R_newB (Kd.R_new' ho79 (Kd.R_lt (uR_ HO_419000))) (g := gb419) (o := .cells #[.int .i64 t416, .int .i64 t417] 28 (0, 0)) uq_) (below_size hB_)); replace HO_419000 := a0_ (Kd.R_elder' (uR_ HO_419000) (Kd.R_base ho79) hb); replace HO_419001 := a0_ (Kd.N_elder' (uN_ HO_419001) (Kd.R_base ho79) hb); replace BK418 := vb_ BK418 hb; replace BK419 := vb_ BK419 hb; replace BK428 := vb_ BK428 hb; replace HB := sb_ HB hb; clear hb ho79; obtain ⟨Ao80, co80, eo80⟩ := Kd.R_slice HO434.out; subst eo80; have p435 : 0 ≤ ((ji60) : Int) := od_; have q435 : (ji60) < (y432.length : Int) := od_; obtain ⟨ad435, e435, hx435_0, hx435_1⟩ := at_T28 (Kd.R_reads' HO434.out).2.2 (ji60) p435 q435; cases e435; replace p435 := eq_true p435; replace q435 := eq_true q435) | ((with_reducible refine gate_dst (N := 11) rfl ?_); (try (refine gate_guard (by rfl) ?_; dsimp only)); refine bx_ (N := 11) (cs := #[.int .i64 0, .int .i64 0]) (t := 28) (h := ?_); intro gb436 hg w81 hbox hb; have BK436 := a0_ (hbox); have GW436 := gh_ HB hg; have GE436 := gh_ HB hg; have NB418_436 := nl_ BK418 hg; have NB436_418 := nr_ BK418 hg; have NB419_436 := nl_ BK419 hg; have NB436_419 := nr_ BK419 hg; have NB428_436 := nl_ BK428 hg; have NB436_428 := nr_ BK428 hg; replace HO_419000 := a0_ (Kd.R_below (Kd.R_elderB (uR_ HO_419000) gb436 (Nat.le_of_eq hg.symm)) hb); replace HO_419001 := a0_ (Kd.N_below (Kd.N_elderB (uN_ HO_419001) gb436 (Nat.le_of_eq hg.symm)) hb); replace HO434 := a0_ (Kd.R_below (Kd.R_elderB (uR_ HO434) gb436 (Nat.le_of_eq hg.symm)) hb); replace BK418 := vb_ BK418 hb; replace BK419 := vb_ BK419 hb; replace BK428 := vb_ BK428 hb; replace HB := sb_ HB hb; clear hb hbox hg; have hnb82 := NB436_418.out; have hnc82 := NB418_436.out; have hnb83 := NB436_419.out; have hnc83 := NB419_436.out; have hnb84 := NB436_428.out; have hnc84 := NB428_436.out; have hcz85_0 := c20_ BK436; have hcz85_1 := c21_ BK436; have hfz85_0 := fz_ BK436 0; have hfz85_1 := fz_ BK436 1) | ((with_reducible refine gate_callee (f := 23) rfl ?_); refine goesL_ (some 90) rfl rfl Tryd.func23 (by kernel_rfl) rfl #[.agg #[.int .i64 ((rd_T28 y432 (ji60)).f0), .int .i64 ((rd_T28 y432 (ji60)).f1)]] rfl (by (try simp only [List.map_toArray, List.map_cons, List.map_nil]); first | done | (simp only [hji60]; rfl) | rfl | (simp only [List.length_drop, List.length_take]; rfl)) ?_; (with_reducible refine (impl_PtOk.calls ((rd_T28 y432 (ji60)).f0) ((rd_T28 y432 (ji60)).f1) true _ A63.out).mono ?_); rintro e w86 ⟨rfl, hb⟩; refine ⟨_, rfl, ?_⟩; replace HO_419000 := a0_ (Kd.R_below (by (with_reducible repeat (first | apply Kd.R_alloc | apply Kd.R_drewN | apply Kd.R_drew)); exact (Kd.R_mono (Kd.R_far (p := ⟨gb436, 1, none⟩) (Kd.R_far (p := ⟨gb436, 0, none⟩) (Kd.R_mono HO_419000.out (fun k_ hk => (⟨hk, hk.2⟩ : _ ∧ k_ ≠ gb436))) (fun _ hk => hk.2) (.int .i64 ((rd_T28 y432 (ji60)).f0))) (fun _ hk => hk.2) (.int .i64 ((rd_T28 y432 (ji60)).f1))) (fun _ h_ => h_.1))) hb); replace HO_419001 := a0_ (Kd.N_below (by (with_reducible repeat (first | apply Kd.N_alloc | apply Kd.N_drewN | apply Kd.N_drew)); exact (Kd.N_mono (Kd.N_far (p := ⟨gb436, 1, none⟩) (Kd.N_far (p := ⟨gb436, 0, none⟩) (Kd.N_mono HO_419001.out (fun k_ hk => (⟨hk, hk.2⟩ : _ ∧ k_ ≠ gb436))) (fun _ hk => hk.2) (.int .i64 ((rd_T28 y432 (ji60)).f0))) (fun _ hk => hk.2) (.int .i64 ((rd_T28 y432 (ji60)).f1))) (fun _ h_ => h_.1))) hb); replace HO434 := a0_ (Kd.R_below (by (with_reducible repeat (first | apply Kd.R_alloc | apply Kd.R_drewN | apply Kd.R_drew)); exact (Kd.R_mono (Kd.R_far (p := ⟨gb436, 1, none⟩) (Kd.R_far (p := ⟨gb436, 0, none⟩) (Kd.R_mono HO434.out (fun k_ hk => (⟨hk, hk.2⟩ : _ ∧ k_ ≠ gb436))) (fun _ hk => hk.2) (.int .i64 ((rd_T28 y432 (ji60)).f0))) (fun _ hk => hk.2) (.int .i64 ((rd_T28 y432 (ji60)).f1))) (fun _ h_ => h_.1))) hb); replace BK418 := a0_ (blk_below (g := gb418) (o := .cells #[.slice Ao12 t410.length co12, .slice Ao15 t413.length co15] 26 (0, 0)) uf_ hb); replace BK419 := a0_ (blk_below (g := gb419) (o := .cells #[.int .i64 t416, .int .i64 t417] 28 (0, 0)) uf_ hb); replace BK428 := a0_ (blk_below (g := gb428) (o := .cells #[.int .i64 t425, .int .i64 t426] 35 (0, 0)) uf_ hb); replace BK436 := a0_ (blk_below (g := gb436) (o := .cells #[.int .i64 ((rd_T28 y432 (ji60)).f0), .int .i64 ((rd_T28 y432 (ji60)).f1)] 28 (0, 0)) (by (with_reducible repeat (first | refine blk_drewN ?_ _ | refine blk_drew ?_ | refine blk_alloc ?_ _)); refine blk_put (cs := #[.int .i64 ((rd_T28 y432 (ji60)).f0), .int .i64 0]) ?_ 1 _ rfl; (with_reducible repeat (first | refine blk_drewN ?_ _ | refine blk_drew ?_ | refine blk_alloc ?_ _)); refine blk_put (cs := #[.int .i64 0, .int .i64 0]) ?_ 0 _ rfl; (with_reducible repeat (first | refine blk_drewN ?_ _ | refine blk_drew ?_ | refine blk_alloc ?_ _)); exact BK436.out) hb); replace HB := sb_ HB hb; (try clear hb); have hcz87_0 := c20_ BK418; have hcz87_1 := c21_ BK418; have hfz87_0 := fz_ BK418 0; have hfz87_1 := fz_ BK418 1; have hcz88_0 := c20_ BK436; have hcz88_1 := c21_ BK436; have hfz88_0 := fz_ BK436 0; have hfz88_1 := fz_ BK436 1) | (go_at_call 16; (with_reducible refine (impl_PlateIn.calls _ _ t410 _ _ t413 ((rd_T28 y432 (ji60)).f0) ((rd_T28 y432 (ji60)).f1) t438 _ ?side1 ?side2 ?side3 ?side4 A65.out).mono ?_); (case side1 => repeat (first | exact (Kd.R_reads' HO_419000.out).2.2 | (with_reducible refine Kd.C_alloc ?_ _) | (with_reducible refine Kd.C_drewN ?_ _) | (with_reducible refine Kd.C_drew ?_))); (case side2 => exact (Kd.R_reads' HO_419000.out).2.1); (case side3 => repeat (first | exact (Kd.N_reads' HO_419001.out).2.2 | (with_reducible refine Kd.C_alloc ?_ _) | (with_reducible refine Kd.C_drewN ?_ _) | (with_reducible refine Kd.C_drew ?_))); (case side4 => exact (Kd.N_reads' HO_419001.out).2.1); rintro e w89 ⟨rfl, hb⟩; replace HO_419000 := rb_ HO_419000 hb; replace HO_419001 := nb_ HO_419001 hb; replace HO434 := rb_ HO434 hb; replace BK418 := vb_ BK418 hb; replace BK419 := vb_ BK419 hb; replace BK428 := vb_ BK428 hb; replace BK436 := vb_ BK436 hb; replace HB := sb_ HB hb; (try clear hb)))
            go_ret
            exact ⟨by first | rfl | (simp [errW_none, errW_some] <;> rfl) | (simp only [← hji60]; first | rfl | (simp [errW_none, errW_some] <;> rfl)) | (simp [*, errW_none, errW_some] <;> rfl), hB_⟩
           ·
            rw [if_neg c66] at H
            have c66b0 : (t438 == t420) = false := beq_eq_false_iff_ne.mpr c66
            have c66b1 : (t438 != t420) = true := bne_iff_ne.mpr c66
            obtain rfl := Option.some.inj H
            try go_wp2_with (first | ((with_reducible refine gate_callee (f := 20) rfl ?_); refine gL_ (some 49) Tryd.func20 #[.int .i64 1, .int .i64 1] (h := ?_); (with_reducible refine (impl_FracOf.calls kj7 1 1 t425 t426 t427 _ A47.out).mono ?_); rintro e w90 ⟨rfl, hb⟩; refine ⟨_, rfl, ?_⟩; replace HO_419000 := rb_ HO_419000 hb; replace HO_419001 := nb_ HO_419001 hb; replace BK418 := vb_ BK418 hb; replace BK419 := vb_ BK419 hb; replace HB := sb_ HB hb; (try clear hb)) | ((with_reducible refine gate_dst (N := 8) rfl ?_); (try (refine gate_guard (by rfl) ?_; dsimp only)); refine bx_ (N := 8) (cs := #[.int .i64 0, .int .i64 0]) (t := 35) (h := ?_); intro gb428 hg w91 hbox hb; have BK428 := a0_ (hbox); have GW428 := gh_ HB hg; have GE428 := gh_ HB hg; have NB418_428 := nl_ BK418 hg; have NB428_418 := nr_ BK418 hg; have NB419_428 := nl_ BK419 hg; have NB428_419 := nr_ BK419 hg; replace HO_419000 := rb_ HO_419000 hb; replace HO_419001 := a0_ (Kd.N_below (Kd.N_elderB (uN_ HO_419001) gb428 (Nat.le_of_eq hg.symm)) hb); replace BK418 := vb_ BK418 hb; replace BK419 := vb_ BK419 hb; replace HB := sb_ HB hb; clear hb hbox hg; have hnb92 := NB428_418.out; have hnc92 := NB418_428.out; have hnb93 := NB428_419.out; have hnc93 := NB419_428.out; have hcz94_0 := c20_ BK428; have hcz94_1 := c21_ BK428; have hfz94_0 := fz_ BK428 0; have hfz94_1 := fz_ BK428 1))
            have n0_ : Aside0 (Kd.R k28 28 ((w91.setCell ⟨gb428, 0, none⟩ (.int .i64 t425)).setCell ⟨gb428, 1, none⟩ (.int .i64 t426)) w.heap.size (fun k_ => k_ ≠ gb419) (.slice Ao12 t410.length co12) t410) := ⟨by (with_reducible repeat (first | apply Kd.R_alloc | apply Kd.R_drewN | apply Kd.R_drew)); exact Kd.R_mono (Kd.R_far (p := ⟨gb428, 1, none⟩) (Kd.R_far (p := ⟨gb428, 0, none⟩) (Kd.R_types HO_419000.out BK428.out (by decide)) (fun _ hk => hk.2) (.int .i64 t425)) (fun _ hk => hk.2) (.int .i64 t426)) (fun _ hk => hk.1)⟩
            have n1_ : Aside0 (Kd.N (Kd.slice 28 k28) 23 ((w91.setCell ⟨gb428, 0, none⟩ (.int .i64 t425)).setCell ⟨gb428, 1, none⟩ (.int .i64 t426)) w.heap.size (fun k_ => some k_ ≠ (.slice Ao12 t410.length co12 : Value).ownBlock ∧ k_ ≠ gb418 ∧ k_ ≠ gb419 ∧ k_ ≠ gb428) (.slice Ao15 t413.length co15) t413) := ⟨by (with_reducible repeat (first | apply Kd.N_alloc | apply Kd.N_drewN | apply Kd.N_drew)); exact Kd.N_mono (Kd.N_far (p := ⟨gb428, 1, none⟩) (Kd.N_far (p := ⟨gb428, 0, none⟩) (Kd.N_mono HO_419001.out (fun k_ hk => (⟨hk, hk.2⟩ : _ ∧ k_ ≠ gb428))) (fun _ hk => hk.2) (.int .i64 t425)) (fun _ hk => hk.2) (.int .i64 t426)) (fun _ hk => ⟨hk.1.1.1, ⟨hk.1.1.2.1, ⟨hk.1.1.2.2, hk.1.2⟩⟩⟩)⟩
            have n2_ : Aside0 (((w91.setCell ⟨gb428, 0, none⟩ (.int .i64 t425)).setCell ⟨gb428, 1, none⟩ (.int .i64 t426)).heap[gb418]? = some (.cells #[.slice Ao12 t410.length co12, .slice Ao15 t413.length co15] 26 (0, 0))) := ⟨by (with_reducible repeat (first | refine blk_drewN ?_ _ | refine blk_drew ?_ | refine blk_alloc ?_ _)); refine blk_far ?_ NB418_428.out _; (with_reducible repeat (first | refine blk_drewN ?_ _ | refine blk_drew ?_ | refine blk_alloc ?_ _)); refine blk_far ?_ NB418_428.out _; (with_reducible repeat (first | refine blk_drewN ?_ _ | refine blk_drew ?_ | refine blk_alloc ?_ _)); exact BK418.out⟩
            have n3_ : Aside0 (((w91.setCell ⟨gb428, 0, none⟩ (.int .i64 t425)).setCell ⟨gb428, 1, none⟩ (.int .i64 t426)).heap[gb419]? = some (.cells #[.int .i64 t416, .int .i64 t417] 28 (0, 0))) := ⟨by (with_reducible repeat (first | refine blk_drewN ?_ _ | refine blk_drew ?_ | refine blk_alloc ?_ _)); refine blk_far ?_ NB419_428.out _; (with_reducible repeat (first | refine blk_drewN ?_ _ | refine blk_drew ?_ | refine blk_alloc ?_ _)); refine blk_far ?_ NB419_428.out _; (with_reducible repeat (first | refine blk_drewN ?_ _ | refine blk_drew ?_ | refine blk_alloc ?_ _)); exact BK419.out⟩
            have n4_ : Aside0 (((w91.setCell ⟨gb428, 0, none⟩ (.int .i64 t425)).setCell ⟨gb428, 1, none⟩ (.int .i64 t426)).heap[gb428]? = some (.cells #[.int .i64 t425, .int .i64 t426] 35 (0, 0))) := ⟨by (with_reducible repeat (first | refine blk_drewN ?_ _ | refine blk_drew ?_ | refine blk_alloc ?_ _)); refine blk_put (cs := #[.int .i64 t425, .int .i64 0]) ?_ 1 _ rfl; (with_reducible repeat (first | refine blk_drewN ?_ _ | refine blk_drew ?_ | refine blk_alloc ?_ _)); refine blk_put (cs := #[.int .i64 0, .int .i64 0]) ?_ 0 _ rfl; (with_reducible repeat (first | refine blk_drewN ?_ _ | refine blk_drew ?_ | refine blk_alloc ?_ _)); exact BK428.out⟩
            have n5_ : Aside0 (Below w.heap.size w ((w91.setCell ⟨gb428, 0, none⟩ (.int .i64 t425)).setCell ⟨gb428, 1, none⟩ (.int .i64 t426))) := ⟨hB_⟩
            (try clear HO_419000)
            (try clear HO_419001)
            (try clear BK418)
            (try clear BK419)
            (try clear BK428)
            (try clear HB)
            generalize ((w91.setCell ⟨gb428, 0, none⟩ (.int .i64 t425)).setCell ⟨gb428, 1, none⟩ (.int .i64 t426)) = w95 at n0_ n1_ n2_ n3_ n4_ n5_ ⊢
            have HO_419000 := n0_
            have HO_419001 := n1_
            have BK418 := n2_
            have BK419 := n3_
            have BK428 := n4_
            have HB := n5_
            clear n0_ n1_ n2_ n3_ n4_ n5_
            replace HO_419000 := a0_ (Kd.R_drew HO_419000.out)
            replace HO_419001 := a0_ (Kd.N_drew HO_419001.out)
            replace BK418 := a0_ (blk_drew BK418.out)
            replace BK419 := a0_ (blk_drew BK419.out)
            replace BK428 := a0_ (blk_drew BK428.out)
            replace HB := a0_ (below_drew1 HB.out)
            refine start_ (n := 6) (S := fun w' => w'.cell? ⟨gb418, 0, none⟩ = some (.slice Ao12 t410.length co12) ∧ w'.cell? ⟨gb418, 1, none⟩ = some (.slice Ao15 t413.length co15) ∧ w'.cell? ⟨gb419, 0, none⟩ = some (.int .i64 t416) ∧ w'.cell? ⟨gb419, 1, none⟩ = some (.int .i64 t417) ∧ w'.cell? ⟨gb428, 0, none⟩ = some (.int .i64 t425) ∧ w'.cell? ⟨gb428, 1, none⟩ = some (.int .i64 t426)) (ds := []) (Array.replicate 6 false) (by kernel_rfl) rfl rfl ⟨bc_, bc_, bc_, bc_, bc_, bc_⟩ (fun hHeld => ?_)
            generalize w95.drew = w96 at HO_419000 HO_419001 BK418 BK419 BK428 HB hHeld ⊢
            refine tb6_ 0 52 (bm 6 1) hHeld ?_
            refine tb6_ 1 53 (bm 6 3) hHeld ?_
            refine tb6_ 3 55 (bm 6 11) hHeld ?_
            refine one_ (i := 2) (N := some 54) (bm 6 15) rfl rfl (by kernel_rfl) (by decide) (fun K hK => ?_)
            refine goes_ Tryd.func22 (by kernel_rfl) rfl #[.agg #[.slice Ao12 t410.length co12, .slice Ao15 t413.length co15], .agg #[.int .i64 t416, .int .i64 t417]] (by rfl) rfl rfl ma_ ?_
            with_reducible refine (impl_PlateFar.calls _ _ t410 _ _ t413 t416 t417 t429 t430 _ ?side1 ?side2 ?side3 ?side4 ?side5 A48.out).mono ?_
            (case side1 => repeat (first | exact (Kd.R_reads' HO_419000.out).2.2 | (with_reducible refine Kd.C_alloc ?_ _) | (with_reducible refine Kd.C_drewN ?_ _) | (with_reducible refine Kd.C_drew ?_)))
            (case side2 => exact (Kd.R_reads' HO_419000.out).2.1)
            (case side3 => repeat (first | exact (Kd.N_reads' HO_419001.out).2.2 | (with_reducible refine Kd.C_alloc ?_ _) | (with_reducible refine Kd.C_drewN ?_ _) | (with_reducible refine Kd.C_drew ?_)))
            (case side4 => exact (Kd.N_reads' HO_419001.out).2.1)
            (case side5 => exact ErrW.below HE.out hB_)
            rintro e w97 ⟨rfl, hb⟩
            refine ⟨_, rfl, ?_⟩
            replace HO_419000 := rb_ HO_419000 hb
            replace HO_419001 := nb_ HO_419001 hb
            replace BK418 := vb_ BK418 hb
            replace BK419 := vb_ BK419 hb
            replace BK428 := vb_ BK428 hb
            replace HB := sb_ HB hb
            (try clear hb)
            (try clear hb2)
            (try clear hk)
            (try clear hi)
            refine hK.out _ _ ⟨bc_, bc_, bc_, bc_, bc_, bc_⟩ (fun hHeld => ?_)
            clear hK K
            refine no_ (h := ?_)
            refine one_ (i := 4) (N := some 56) (bm 6 31) rfl rfl (by kernel_rfl) (by decide) (fun K hK => ?_)
            refine goes_ Tryd.func21 (by kernel_rfl) rfl #[.agg #[.int .i64 t429, .int .i64 t430], .agg #[.int .i64 t425, .int .i64 t426]] (by rfl) rfl rfl ma_ ?_
            with_reducible refine (impl_FracCmp.calls t429 t430 t425 t426 t431 _ (ErrW.below HE.out hB_) A49.out).mono ?_
            rintro e w98 ⟨rfl, hb⟩
            refine ⟨_, rfl, ?_⟩
            replace HO_419000 := rb_ HO_419000 hb
            replace HO_419001 := nb_ HO_419001 hb
            replace BK418 := vb_ BK418 hb
            replace BK419 := vb_ BK419 hb
            replace BK428 := vb_ BK428 hb
            replace HB := sb_ HB hb
            (try clear hb)
            (try clear hb2)
            (try clear hk)
            (try clear hi)
            refine hK.out _ _ ⟨bc_, bc_, bc_, bc_, bc_, bc_⟩ (fun hHeld => ?_)
            clear hK K
            refine no_ (h := ?_)
            refine pv_ 5 57 (bm 6 63) ?_
            refine done_ (by kernel_rfl) ?_
            have hnb99 := NB419_418.out
            have hnc99 := NB418_419.out
            have hcz100_0 := c20_ BK419
            have hcz100_1 := c21_ BK419
            have hfz100_0 := fz_ BK419 0
            have hfz100_1 := fz_ BK419 1
            try go_wp2_with (first | ((with_reducible refine gate_dst (N := 82) rfl ?_); (try (refine gate_guard (by rfl) ?_; dsimp only)); refine Kd.R_lit k28 _ 28 ?hg (N := 82) ?hd (xs := ([(⟨wrap64 (t416 + 1), t417⟩ : S28), (⟨wrap64 (t416 - 1), t417⟩ : S28), (⟨t416, wrap64 (t417 + 1)⟩ : S28), (⟨t416, wrap64 (t417 - 1)⟩ : S28)] : List (S28))) (inner := [.int .i64 (wrap64 (t416 + 1)), .int .i64 t417, .int .i64 (wrap64 (t416 - 1)), .int .i64 t417, .int .i64 t416, .int .i64 (wrap64 (t417 + 1)), .int .i64 t416, .int .i64 (wrap64 (t417 - 1))]) (ok := fun _ => True) (okp := fun _ => True) ?hr ?hp (fun _ hk => hk) trivial (Below.refl _ _) (Nat.le_refl _) (by simp) ?_; (case hd => rfl); (case hg => rfl); (case hr => first | (go_simp; done) | (go_simp; rfl)); (case hp => exact (Reps.c2 (show Kd.M k28 _ _ _ (⟨wrap64 (t416 + 1), t417⟩ : S28) [.int .i64 (wrap64 (t416 + 1)), .int .i64 t417] from (k28_mkM _ _ _ (⟨wrap64 (t416 + 1), t417⟩ : S28) )) (Reps.c2 (show Kd.M k28 _ _ _ (⟨wrap64 (t416 - 1), t417⟩ : S28) [.int .i64 (wrap64 (t416 - 1)), .int .i64 t417] from (k28_mkM _ _ _ (⟨wrap64 (t416 - 1), t417⟩ : S28) )) (Reps.c2 (show Kd.M k28 _ _ _ (⟨t416, wrap64 (t417 + 1)⟩ : S28) [.int .i64 t416, .int .i64 (wrap64 (t417 + 1))] from (k28_mkM _ _ _ (⟨t416, wrap64 (t417 + 1)⟩ : S28) )) (Reps.c2 (show Kd.M k28 _ _ _ (⟨t416, wrap64 (t417 - 1)⟩ : S28) [.int .i64 t416, .int .i64 (wrap64 (t417 - 1))] from (k28_mkM _ _ _ (⟨t416, wrap64 (t417 - 1)⟩ : S28) )) (Reps.none _ _)))))); intro v433 w101 ho102 hb hg_ hnew_; clear hg_ hnew_; (first | rw [← Ny432.out] at ho102 | (simp only [Int.reduceToNat] at ho102; rw [← Ny432.out] at ho102)); have HO434 := a0_ (Kd.R_lower (Kd.R_newB (Kd.R_new' ho102 (Kd.R_lt (uR_ HO_419000))) (g := gb419) (o := .cells #[.int .i64 t416, .int .i64 t417] 28 (0, 0)) uq_) (below_size hB_)); replace HO_419000 := a0_ (Kd.R_elder' (uR_ HO_419000) (Kd.R_base ho102) hb); replace HO_419001 := a0_ (Kd.N_elder' (uN_ HO_419001) (Kd.R_base ho102) hb); replace BK418 := vb_ BK418 hb; replace BK419 := vb_ BK419 hb; replace BK428 := vb_ BK428 hb; replace HB := sb_ HB hb; clear hb ho102; obtain ⟨Ao103, co103, eo103⟩ := Kd.R_slice HO434.out; subst eo103; have p435 : 0 ≤ ((ji60) : Int) := od_; have q435 : (ji60) < (y432.length : Int) := od_; obtain ⟨ad435, e435, hx435_0, hx435_1⟩ := at_T28 (Kd.R_reads' HO434.out).2.2 (ji60) p435 q435; cases e435; replace p435 := eq_true p435; replace q435 := eq_true q435) | ((with_reducible refine gate_dst (N := 11) rfl ?_); (try (refine gate_guard (by rfl) ?_; dsimp only)); refine bx_ (N := 11) (cs := #[.int .i64 0, .int .i64 0]) (t := 28) (h := ?_); intro gb436 hg w104 hbox hb; have BK436 := a0_ (hbox); have GW436 := gh_ HB hg; have GE436 := gh_ HB hg; have NB418_436 := nl_ BK418 hg; have NB436_418 := nr_ BK418 hg; have NB419_436 := nl_ BK419 hg; have NB436_419 := nr_ BK419 hg; have NB428_436 := nl_ BK428 hg; have NB436_428 := nr_ BK428 hg; replace HO_419000 := a0_ (Kd.R_below (Kd.R_elderB (uR_ HO_419000) gb436 (Nat.le_of_eq hg.symm)) hb); replace HO_419001 := a0_ (Kd.N_below (Kd.N_elderB (uN_ HO_419001) gb436 (Nat.le_of_eq hg.symm)) hb); replace HO434 := a0_ (Kd.R_below (Kd.R_elderB (uR_ HO434) gb436 (Nat.le_of_eq hg.symm)) hb); replace BK418 := vb_ BK418 hb; replace BK419 := vb_ BK419 hb; replace BK428 := vb_ BK428 hb; replace HB := sb_ HB hb; clear hb hbox hg; have hnb105 := NB436_418.out; have hnc105 := NB418_436.out; have hnb106 := NB436_419.out; have hnc106 := NB419_436.out; have hnb107 := NB436_428.out; have hnc107 := NB428_436.out; have hcz108_0 := c20_ BK436; have hcz108_1 := c21_ BK436; have hfz108_0 := fz_ BK436 0; have hfz108_1 := fz_ BK436 1) | ((with_reducible refine gate_callee (f := 23) rfl ?_); refine goesL_ (some 90) rfl rfl Tryd.func23 (by kernel_rfl) rfl #[.agg #[.int .i64 ((rd_T28 y432 (ji60)).f0), .int .i64 ((rd_T28 y432 (ji60)).f1)]] rfl (by (try simp only [List.map_toArray, List.map_cons, List.map_nil]); first | done | (simp only [hji60]; rfl) | rfl | (simp only [List.length_drop, List.length_take]; rfl)) ?_; (with_reducible refine (impl_PtOk.calls ((rd_T28 y432 (ji60)).f0) ((rd_T28 y432 (ji60)).f1) true _ A63.out).mono ?_); rintro e w109 ⟨rfl, hb⟩; refine ⟨_, rfl, ?_⟩; replace HO_419000 := a0_ (Kd.R_below (by (with_reducible repeat (first | apply Kd.R_alloc | apply Kd.R_drewN | apply Kd.R_drew)); exact (Kd.R_mono (Kd.R_far (p := ⟨gb436, 1, none⟩) (Kd.R_far (p := ⟨gb436, 0, none⟩) (Kd.R_mono HO_419000.out (fun k_ hk => (⟨hk, hk.2⟩ : _ ∧ k_ ≠ gb436))) (fun _ hk => hk.2) (.int .i64 ((rd_T28 y432 (ji60)).f0))) (fun _ hk => hk.2) (.int .i64 ((rd_T28 y432 (ji60)).f1))) (fun _ h_ => h_.1))) hb); replace HO_419001 := a0_ (Kd.N_below (by (with_reducible repeat (first | apply Kd.N_alloc | apply Kd.N_drewN | apply Kd.N_drew)); exact (Kd.N_mono (Kd.N_far (p := ⟨gb436, 1, none⟩) (Kd.N_far (p := ⟨gb436, 0, none⟩) (Kd.N_mono HO_419001.out (fun k_ hk => (⟨hk, hk.2⟩ : _ ∧ k_ ≠ gb436))) (fun _ hk => hk.2) (.int .i64 ((rd_T28 y432 (ji60)).f0))) (fun _ hk => hk.2) (.int .i64 ((rd_T28 y432 (ji60)).f1))) (fun _ h_ => h_.1))) hb); replace HO434 := a0_ (Kd.R_below (by (with_reducible repeat (first | apply Kd.R_alloc | apply Kd.R_drewN | apply Kd.R_drew)); exact (Kd.R_mono (Kd.R_far (p := ⟨gb436, 1, none⟩) (Kd.R_far (p := ⟨gb436, 0, none⟩) (Kd.R_mono HO434.out (fun k_ hk => (⟨hk, hk.2⟩ : _ ∧ k_ ≠ gb436))) (fun _ hk => hk.2) (.int .i64 ((rd_T28 y432 (ji60)).f0))) (fun _ hk => hk.2) (.int .i64 ((rd_T28 y432 (ji60)).f1))) (fun _ h_ => h_.1))) hb); replace BK418 := a0_ (blk_below (g := gb418) (o := .cells #[.slice Ao12 t410.length co12, .slice Ao15 t413.length co15] 26 (0, 0)) uf_ hb); replace BK419 := a0_ (blk_below (g := gb419) (o := .cells #[.int .i64 t416, .int .i64 t417] 28 (0, 0)) uf_ hb); replace BK428 := a0_ (blk_below (g := gb428) (o := .cells #[.int .i64 t425, .int .i64 t426] 35 (0, 0)) uf_ hb); replace BK436 := a0_ (blk_below (g := gb436) (o := .cells #[.int .i64 ((rd_T28 y432 (ji60)).f0), .int .i64 ((rd_T28 y432 (ji60)).f1)] 28 (0, 0)) (by (with_reducible repeat (first | refine blk_drewN ?_ _ | refine blk_drew ?_ | refine blk_alloc ?_ _)); refine blk_put (cs := #[.int .i64 ((rd_T28 y432 (ji60)).f0), .int .i64 0]) ?_ 1 _ rfl; (with_reducible repeat (first | refine blk_drewN ?_ _ | refine blk_drew ?_ | refine blk_alloc ?_ _)); refine blk_put (cs := #[.int .i64 0, .int .i64 0]) ?_ 0 _ rfl; (with_reducible repeat (first | refine blk_drewN ?_ _ | refine blk_drew ?_ | refine blk_alloc ?_ _)); exact BK436.out) hb); replace HB := sb_ HB hb; (try clear hb); have hcz110_0 := c20_ BK418; have hcz110_1 := c21_ BK418; have hfz110_0 := fz_ BK418 0; have hfz110_1 := fz_ BK418 1; have hcz111_0 := c20_ BK436; have hcz111_1 := c21_ BK436; have hfz111_0 := fz_ BK436 0; have hfz111_1 := fz_ BK436 1) | (go_at_call 16; (with_reducible refine (impl_PlateIn.calls _ _ t410 _ _ t413 ((rd_T28 y432 (ji60)).f0) ((rd_T28 y432 (ji60)).f1) t438 _ ?side1 ?side2 ?side3 ?side4 A65.out).mono ?_); (case side1 => repeat (first | exact (Kd.R_reads' HO_419000.out).2.2 | (with_reducible refine Kd.C_alloc ?_ _) | (with_reducible refine Kd.C_drewN ?_ _) | (with_reducible refine Kd.C_drew ?_))); (case side2 => exact (Kd.R_reads' HO_419000.out).2.1); (case side3 => repeat (first | exact (Kd.N_reads' HO_419001.out).2.2 | (with_reducible refine Kd.C_alloc ?_ _) | (with_reducible refine Kd.C_drewN ?_ _) | (with_reducible refine Kd.C_drew ?_))); (case side4 => exact (Kd.N_reads' HO_419001.out).2.1); rintro e w112 ⟨rfl, hb⟩; replace HO_419000 := rb_ HO_419000 hb; replace HO_419001 := nb_ HO_419001 hb; replace HO434 := rb_ HO434 hb; replace BK418 := vb_ BK418 hb; replace BK419 := vb_ BK419 hb; replace BK428 := vb_ BK428 hb; replace BK436 := vb_ BK436 hb; replace HB := sb_ HB hb; (try clear hb)))
            go_ret
            exact ⟨by first | rfl | (simp [errW_none, errW_some] <;> rfl) | (simp only [← hji60]; first | rfl | (simp [errW_none, errW_some] <;> rfl)) | (simp [*, errW_none, errW_some] <;> rfl), hB_⟩
          ·
           replace c64 := Bool.eq_false_iff.mpr c64
           subst c64
           rw [if_neg (show ¬ (false = true) by decide)] at H
           (try dsimp only at H)
           obtain rfl := Option.some.inj H
           try go_wp2_with (first | ((with_reducible refine gate_callee (f := 20) rfl ?_); refine gL_ (some 49) Tryd.func20 #[.int .i64 1, .int .i64 1] (h := ?_); (with_reducible refine (impl_FracOf.calls kj7 1 1 t425 t426 t427 _ A47.out).mono ?_); rintro e w113 ⟨rfl, hb⟩; refine ⟨_, rfl, ?_⟩; replace HO_419000 := rb_ HO_419000 hb; replace HO_419001 := nb_ HO_419001 hb; replace BK418 := vb_ BK418 hb; replace BK419 := vb_ BK419 hb; replace HB := sb_ HB hb; (try clear hb)) | ((with_reducible refine gate_dst (N := 8) rfl ?_); (try (refine gate_guard (by rfl) ?_; dsimp only)); refine bx_ (N := 8) (cs := #[.int .i64 0, .int .i64 0]) (t := 35) (h := ?_); intro gb428 hg w114 hbox hb; have BK428 := a0_ (hbox); have GW428 := gh_ HB hg; have GE428 := gh_ HB hg; have NB418_428 := nl_ BK418 hg; have NB428_418 := nr_ BK418 hg; have NB419_428 := nl_ BK419 hg; have NB428_419 := nr_ BK419 hg; replace HO_419000 := rb_ HO_419000 hb; replace HO_419001 := a0_ (Kd.N_below (Kd.N_elderB (uN_ HO_419001) gb428 (Nat.le_of_eq hg.symm)) hb); replace BK418 := vb_ BK418 hb; replace BK419 := vb_ BK419 hb; replace HB := sb_ HB hb; clear hb hbox hg; have hnb115 := NB428_418.out; have hnc115 := NB418_428.out; have hnb116 := NB428_419.out; have hnc116 := NB419_428.out; have hcz117_0 := c20_ BK428; have hcz117_1 := c21_ BK428; have hfz117_0 := fz_ BK428 0; have hfz117_1 := fz_ BK428 1))
           have n0_ : Aside0 (Kd.R k28 28 ((w114.setCell ⟨gb428, 0, none⟩ (.int .i64 t425)).setCell ⟨gb428, 1, none⟩ (.int .i64 t426)) w.heap.size (fun k_ => k_ ≠ gb419) (.slice Ao12 t410.length co12) t410) := ⟨by (with_reducible repeat (first | apply Kd.R_alloc | apply Kd.R_drewN | apply Kd.R_drew)); exact Kd.R_mono (Kd.R_far (p := ⟨gb428, 1, none⟩) (Kd.R_far (p := ⟨gb428, 0, none⟩) (Kd.R_types HO_419000.out BK428.out (by decide)) (fun _ hk => hk.2) (.int .i64 t425)) (fun _ hk => hk.2) (.int .i64 t426)) (fun _ hk => hk.1)⟩
           have n1_ : Aside0 (Kd.N (Kd.slice 28 k28) 23 ((w114.setCell ⟨gb428, 0, none⟩ (.int .i64 t425)).setCell ⟨gb428, 1, none⟩ (.int .i64 t426)) w.heap.size (fun k_ => some k_ ≠ (.slice Ao12 t410.length co12 : Value).ownBlock ∧ k_ ≠ gb418 ∧ k_ ≠ gb419 ∧ k_ ≠ gb428) (.slice Ao15 t413.length co15) t413) := ⟨by (with_reducible repeat (first | apply Kd.N_alloc | apply Kd.N_drewN | apply Kd.N_drew)); exact Kd.N_mono (Kd.N_far (p := ⟨gb428, 1, none⟩) (Kd.N_far (p := ⟨gb428, 0, none⟩) (Kd.N_mono HO_419001.out (fun k_ hk => (⟨hk, hk.2⟩ : _ ∧ k_ ≠ gb428))) (fun _ hk => hk.2) (.int .i64 t425)) (fun _ hk => hk.2) (.int .i64 t426)) (fun _ hk => ⟨hk.1.1.1, ⟨hk.1.1.2.1, ⟨hk.1.1.2.2, hk.1.2⟩⟩⟩)⟩
           have n2_ : Aside0 (((w114.setCell ⟨gb428, 0, none⟩ (.int .i64 t425)).setCell ⟨gb428, 1, none⟩ (.int .i64 t426)).heap[gb418]? = some (.cells #[.slice Ao12 t410.length co12, .slice Ao15 t413.length co15] 26 (0, 0))) := ⟨by (with_reducible repeat (first | refine blk_drewN ?_ _ | refine blk_drew ?_ | refine blk_alloc ?_ _)); refine blk_far ?_ NB418_428.out _; (with_reducible repeat (first | refine blk_drewN ?_ _ | refine blk_drew ?_ | refine blk_alloc ?_ _)); refine blk_far ?_ NB418_428.out _; (with_reducible repeat (first | refine blk_drewN ?_ _ | refine blk_drew ?_ | refine blk_alloc ?_ _)); exact BK418.out⟩
           have n3_ : Aside0 (((w114.setCell ⟨gb428, 0, none⟩ (.int .i64 t425)).setCell ⟨gb428, 1, none⟩ (.int .i64 t426)).heap[gb419]? = some (.cells #[.int .i64 t416, .int .i64 t417] 28 (0, 0))) := ⟨by (with_reducible repeat (first | refine blk_drewN ?_ _ | refine blk_drew ?_ | refine blk_alloc ?_ _)); refine blk_far ?_ NB419_428.out _; (with_reducible repeat (first | refine blk_drewN ?_ _ | refine blk_drew ?_ | refine blk_alloc ?_ _)); refine blk_far ?_ NB419_428.out _; (with_reducible repeat (first | refine blk_drewN ?_ _ | refine blk_drew ?_ | refine blk_alloc ?_ _)); exact BK419.out⟩
           have n4_ : Aside0 (((w114.setCell ⟨gb428, 0, none⟩ (.int .i64 t425)).setCell ⟨gb428, 1, none⟩ (.int .i64 t426)).heap[gb428]? = some (.cells #[.int .i64 t425, .int .i64 t426] 35 (0, 0))) := ⟨by (with_reducible repeat (first | refine blk_drewN ?_ _ | refine blk_drew ?_ | refine blk_alloc ?_ _)); refine blk_put (cs := #[.int .i64 t425, .int .i64 0]) ?_ 1 _ rfl; (with_reducible repeat (first | refine blk_drewN ?_ _ | refine blk_drew ?_ | refine blk_alloc ?_ _)); refine blk_put (cs := #[.int .i64 0, .int .i64 0]) ?_ 0 _ rfl; (with_reducible repeat (first | refine blk_drewN ?_ _ | refine blk_drew ?_ | refine blk_alloc ?_ _)); exact BK428.out⟩
           have n5_ : Aside0 (Below w.heap.size w ((w114.setCell ⟨gb428, 0, none⟩ (.int .i64 t425)).setCell ⟨gb428, 1, none⟩ (.int .i64 t426))) := ⟨hB_⟩
           (try clear HO_419000)
           (try clear HO_419001)
           (try clear BK418)
           (try clear BK419)
           (try clear BK428)
           (try clear HB)
           generalize ((w114.setCell ⟨gb428, 0, none⟩ (.int .i64 t425)).setCell ⟨gb428, 1, none⟩ (.int .i64 t426)) = w118 at n0_ n1_ n2_ n3_ n4_ n5_ ⊢
           have HO_419000 := n0_
           have HO_419001 := n1_
           have BK418 := n2_
           have BK419 := n3_
           have BK428 := n4_
           have HB := n5_
           clear n0_ n1_ n2_ n3_ n4_ n5_
           replace HO_419000 := a0_ (Kd.R_drew HO_419000.out)
           replace HO_419001 := a0_ (Kd.N_drew HO_419001.out)
           replace BK418 := a0_ (blk_drew BK418.out)
           replace BK419 := a0_ (blk_drew BK419.out)
           replace BK428 := a0_ (blk_drew BK428.out)
           replace HB := a0_ (below_drew1 HB.out)
           refine start_ (n := 6) (S := fun w' => w'.cell? ⟨gb418, 0, none⟩ = some (.slice Ao12 t410.length co12) ∧ w'.cell? ⟨gb418, 1, none⟩ = some (.slice Ao15 t413.length co15) ∧ w'.cell? ⟨gb419, 0, none⟩ = some (.int .i64 t416) ∧ w'.cell? ⟨gb419, 1, none⟩ = some (.int .i64 t417) ∧ w'.cell? ⟨gb428, 0, none⟩ = some (.int .i64 t425) ∧ w'.cell? ⟨gb428, 1, none⟩ = some (.int .i64 t426)) (ds := []) (Array.replicate 6 false) (by kernel_rfl) rfl rfl ⟨bc_, bc_, bc_, bc_, bc_, bc_⟩ (fun hHeld => ?_)
           generalize w118.drew = w119 at HO_419000 HO_419001 BK418 BK419 BK428 HB hHeld ⊢
           refine tb6_ 0 52 (bm 6 1) hHeld ?_
           refine tb6_ 1 53 (bm 6 3) hHeld ?_
           refine tb6_ 3 55 (bm 6 11) hHeld ?_
           refine one_ (i := 2) (N := some 54) (bm 6 15) rfl rfl (by kernel_rfl) (by decide) (fun K hK => ?_)
           refine goes_ Tryd.func22 (by kernel_rfl) rfl #[.agg #[.slice Ao12 t410.length co12, .slice Ao15 t413.length co15], .agg #[.int .i64 t416, .int .i64 t417]] (by rfl) rfl rfl ma_ ?_
           with_reducible refine (impl_PlateFar.calls _ _ t410 _ _ t413 t416 t417 t429 t430 _ ?side1 ?side2 ?side3 ?side4 ?side5 A48.out).mono ?_
           (case side1 => repeat (first | exact (Kd.R_reads' HO_419000.out).2.2 | (with_reducible refine Kd.C_alloc ?_ _) | (with_reducible refine Kd.C_drewN ?_ _) | (with_reducible refine Kd.C_drew ?_)))
           (case side2 => exact (Kd.R_reads' HO_419000.out).2.1)
           (case side3 => repeat (first | exact (Kd.N_reads' HO_419001.out).2.2 | (with_reducible refine Kd.C_alloc ?_ _) | (with_reducible refine Kd.C_drewN ?_ _) | (with_reducible refine Kd.C_drew ?_)))
           (case side4 => exact (Kd.N_reads' HO_419001.out).2.1)
           (case side5 => exact ErrW.below HE.out hB_)
           rintro e w120 ⟨rfl, hb⟩
           refine ⟨_, rfl, ?_⟩
           replace HO_419000 := rb_ HO_419000 hb
           replace HO_419001 := nb_ HO_419001 hb
           replace BK418 := vb_ BK418 hb
           replace BK419 := vb_ BK419 hb
           replace BK428 := vb_ BK428 hb
           replace HB := sb_ HB hb
           (try clear hb)
           (try clear hb2)
           (try clear hk)
           (try clear hi)
           refine hK.out _ _ ⟨bc_, bc_, bc_, bc_, bc_, bc_⟩ (fun hHeld => ?_)
           clear hK K
           refine no_ (h := ?_)
           refine one_ (i := 4) (N := some 56) (bm 6 31) rfl rfl (by kernel_rfl) (by decide) (fun K hK => ?_)
           refine goes_ Tryd.func21 (by kernel_rfl) rfl #[.agg #[.int .i64 t429, .int .i64 t430], .agg #[.int .i64 t425, .int .i64 t426]] (by rfl) rfl rfl ma_ ?_
           with_reducible refine (impl_FracCmp.calls t429 t430 t425 t426 t431 _ (ErrW.below HE.out hB_) A49.out).mono ?_
           rintro e w121 ⟨rfl, hb⟩
           refine ⟨_, rfl, ?_⟩
           replace HO_419000 := rb_ HO_419000 hb
           replace HO_419001 := nb_ HO_419001 hb
           replace BK418 := vb_ BK418 hb
           replace BK419 := vb_ BK419 hb
           replace BK428 := vb_ BK428 hb
           replace HB := sb_ HB hb
           (try clear hb)
           (try clear hb2)
           (try clear hk)
           (try clear hi)
           refine hK.out _ _ ⟨bc_, bc_, bc_, bc_, bc_, bc_⟩ (fun hHeld => ?_)
           clear hK K
           refine no_ (h := ?_)
           refine pv_ 5 57 (bm 6 63) ?_
           refine done_ (by kernel_rfl) ?_
           have hnb122 := NB419_418.out
           have hnc122 := NB418_419.out
           have hcz123_0 := c20_ BK419
           have hcz123_1 := c21_ BK419
           have hfz123_0 := fz_ BK419 0
           have hfz123_1 := fz_ BK419 1
           try go_wp2_with (first | ((with_reducible refine gate_dst (N := 82) rfl ?_); (try (refine gate_guard (by rfl) ?_; dsimp only)); refine Kd.R_lit k28 _ 28 ?hg (N := 82) ?hd (xs := ([(⟨wrap64 (t416 + 1), t417⟩ : S28), (⟨wrap64 (t416 - 1), t417⟩ : S28), (⟨t416, wrap64 (t417 + 1)⟩ : S28), (⟨t416, wrap64 (t417 - 1)⟩ : S28)] : List (S28))) (inner := [.int .i64 (wrap64 (t416 + 1)), .int .i64 t417, .int .i64 (wrap64 (t416 - 1)), .int .i64 t417, .int .i64 t416, .int .i64 (wrap64 (t417 + 1)), .int .i64 t416, .int .i64 (wrap64 (t417 - 1))]) (ok := fun _ => True) (okp := fun _ => True) ?hr ?hp (fun _ hk => hk) trivial (Below.refl _ _) (Nat.le_refl _) (by simp) ?_; (case hd => rfl); (case hg => rfl); (case hr => first | (go_simp; done) | (go_simp; rfl)); (case hp => exact (Reps.c2 (show Kd.M k28 _ _ _ (⟨wrap64 (t416 + 1), t417⟩ : S28) [.int .i64 (wrap64 (t416 + 1)), .int .i64 t417] from (k28_mkM _ _ _ (⟨wrap64 (t416 + 1), t417⟩ : S28) )) (Reps.c2 (show Kd.M k28 _ _ _ (⟨wrap64 (t416 - 1), t417⟩ : S28) [.int .i64 (wrap64 (t416 - 1)), .int .i64 t417] from (k28_mkM _ _ _ (⟨wrap64 (t416 - 1), t417⟩ : S28) )) (Reps.c2 (show Kd.M k28 _ _ _ (⟨t416, wrap64 (t417 + 1)⟩ : S28) [.int .i64 t416, .int .i64 (wrap64 (t417 + 1))] from (k28_mkM _ _ _ (⟨t416, wrap64 (t417 + 1)⟩ : S28) )) (Reps.c2 (show Kd.M k28 _ _ _ (⟨t416, wrap64 (t417 - 1)⟩ : S28) [.int .i64 t416, .int .i64 (wrap64 (t417 - 1))] from (k28_mkM _ _ _ (⟨t416, wrap64 (t417 - 1)⟩ : S28) )) (Reps.none _ _)))))); intro v433 w124 ho125 hb hg_ hnew_; clear hg_ hnew_; (first | rw [← Ny432.out] at ho125 | (simp only [Int.reduceToNat] at ho125; rw [← Ny432.out] at ho125)); have HO434 := a0_ (Kd.R_lower (Kd.R_newB (Kd.R_new' ho125 (Kd.R_lt (uR_ HO_419000))) (g := gb419) (o := .cells #[.int .i64 t416, .int .i64 t417] 28 (0, 0)) uq_) (below_size hB_)); replace HO_419000 := a0_ (Kd.R_elder' (uR_ HO_419000) (Kd.R_base ho125) hb); replace HO_419001 := a0_ (Kd.N_elder' (uN_ HO_419001) (Kd.R_base ho125) hb); replace BK418 := vb_ BK418 hb; replace BK419 := vb_ BK419 hb; replace BK428 := vb_ BK428 hb; replace HB := sb_ HB hb; clear hb ho125; obtain ⟨Ao126, co126, eo126⟩ := Kd.R_slice HO434.out; subst eo126; have p435 : 0 ≤ ((ji60) : Int) := od_; have q435 : (ji60) < (y432.length : Int) := od_; obtain ⟨ad435, e435, hx435_0, hx435_1⟩ := at_T28 (Kd.R_reads' HO434.out).2.2 (ji60) p435 q435; cases e435; replace p435 := eq_true p435; replace q435 := eq_true q435) | ((with_reducible refine gate_dst (N := 11) rfl ?_); (try (refine gate_guard (by rfl) ?_; dsimp only)); refine bx_ (N := 11) (cs := #[.int .i64 0, .int .i64 0]) (t := 28) (h := ?_); intro gb436 hg w127 hbox hb; have BK436 := a0_ (hbox); have GW436 := gh_ HB hg; have GE436 := gh_ HB hg; have NB418_436 := nl_ BK418 hg; have NB436_418 := nr_ BK418 hg; have NB419_436 := nl_ BK419 hg; have NB436_419 := nr_ BK419 hg; have NB428_436 := nl_ BK428 hg; have NB436_428 := nr_ BK428 hg; replace HO_419000 := a0_ (Kd.R_below (Kd.R_elderB (uR_ HO_419000) gb436 (Nat.le_of_eq hg.symm)) hb); replace HO_419001 := a0_ (Kd.N_below (Kd.N_elderB (uN_ HO_419001) gb436 (Nat.le_of_eq hg.symm)) hb); replace HO434 := a0_ (Kd.R_below (Kd.R_elderB (uR_ HO434) gb436 (Nat.le_of_eq hg.symm)) hb); replace BK418 := vb_ BK418 hb; replace BK419 := vb_ BK419 hb; replace BK428 := vb_ BK428 hb; replace HB := sb_ HB hb; clear hb hbox hg; have hnb128 := NB436_418.out; have hnc128 := NB418_436.out; have hnb129 := NB436_419.out; have hnc129 := NB419_436.out; have hnb130 := NB436_428.out; have hnc130 := NB428_436.out; have hcz131_0 := c20_ BK436; have hcz131_1 := c21_ BK436; have hfz131_0 := fz_ BK436 0; have hfz131_1 := fz_ BK436 1) | ((with_reducible refine gate_callee (f := 23) rfl ?_); refine goesL_ (some 90) rfl rfl Tryd.func23 (by kernel_rfl) rfl #[.agg #[.int .i64 ((rd_T28 y432 (ji60)).f0), .int .i64 ((rd_T28 y432 (ji60)).f1)]] rfl (by (try simp only [List.map_toArray, List.map_cons, List.map_nil]); first | done | (simp only [hji60]; rfl) | rfl | (simp only [List.length_drop, List.length_take]; rfl)) ?_; (with_reducible refine (impl_PtOk.calls ((rd_T28 y432 (ji60)).f0) ((rd_T28 y432 (ji60)).f1) false _ A63.out).mono ?_); rintro e w132 ⟨rfl, hb⟩; refine ⟨_, rfl, ?_⟩; replace HO_419000 := a0_ (Kd.R_below (by (with_reducible repeat (first | apply Kd.R_alloc | apply Kd.R_drewN | apply Kd.R_drew)); exact (Kd.R_mono (Kd.R_far (p := ⟨gb436, 1, none⟩) (Kd.R_far (p := ⟨gb436, 0, none⟩) (Kd.R_mono HO_419000.out (fun k_ hk => (⟨hk, hk.2⟩ : _ ∧ k_ ≠ gb436))) (fun _ hk => hk.2) (.int .i64 ((rd_T28 y432 (ji60)).f0))) (fun _ hk => hk.2) (.int .i64 ((rd_T28 y432 (ji60)).f1))) (fun _ h_ => h_.1))) hb); replace HO_419001 := a0_ (Kd.N_below (by (with_reducible repeat (first | apply Kd.N_alloc | apply Kd.N_drewN | apply Kd.N_drew)); exact (Kd.N_mono (Kd.N_far (p := ⟨gb436, 1, none⟩) (Kd.N_far (p := ⟨gb436, 0, none⟩) (Kd.N_mono HO_419001.out (fun k_ hk => (⟨hk, hk.2⟩ : _ ∧ k_ ≠ gb436))) (fun _ hk => hk.2) (.int .i64 ((rd_T28 y432 (ji60)).f0))) (fun _ hk => hk.2) (.int .i64 ((rd_T28 y432 (ji60)).f1))) (fun _ h_ => h_.1))) hb); replace HO434 := a0_ (Kd.R_below (by (with_reducible repeat (first | apply Kd.R_alloc | apply Kd.R_drewN | apply Kd.R_drew)); exact (Kd.R_mono (Kd.R_far (p := ⟨gb436, 1, none⟩) (Kd.R_far (p := ⟨gb436, 0, none⟩) (Kd.R_mono HO434.out (fun k_ hk => (⟨hk, hk.2⟩ : _ ∧ k_ ≠ gb436))) (fun _ hk => hk.2) (.int .i64 ((rd_T28 y432 (ji60)).f0))) (fun _ hk => hk.2) (.int .i64 ((rd_T28 y432 (ji60)).f1))) (fun _ h_ => h_.1))) hb); replace BK418 := a0_ (blk_below (g := gb418) (o := .cells #[.slice Ao12 t410.length co12, .slice Ao15 t413.length co15] 26 (0, 0)) uf_ hb); replace BK419 := a0_ (blk_below (g := gb419) (o := .cells #[.int .i64 t416, .int .i64 t417] 28 (0, 0)) uf_ hb); replace BK428 := a0_ (blk_below (g := gb428) (o := .cells #[.int .i64 t425, .int .i64 t426] 35 (0, 0)) uf_ hb); replace BK436 := a0_ (blk_below (g := gb436) (o := .cells #[.int .i64 ((rd_T28 y432 (ji60)).f0), .int .i64 ((rd_T28 y432 (ji60)).f1)] 28 (0, 0)) (by (with_reducible repeat (first | refine blk_drewN ?_ _ | refine blk_drew ?_ | refine blk_alloc ?_ _)); refine blk_put (cs := #[.int .i64 ((rd_T28 y432 (ji60)).f0), .int .i64 0]) ?_ 1 _ rfl; (with_reducible repeat (first | refine blk_drewN ?_ _ | refine blk_drew ?_ | refine blk_alloc ?_ _)); refine blk_put (cs := #[.int .i64 0, .int .i64 0]) ?_ 0 _ rfl; (with_reducible repeat (first | refine blk_drewN ?_ _ | refine blk_drew ?_ | refine blk_alloc ?_ _)); exact BK436.out) hb); replace HB := sb_ HB hb; (try clear hb)))
           go_ret
           exact ⟨by first | rfl | (simp [errW_none, errW_some] <;> rfl) | (simp only [← hji60]; first | rfl | (simp [errW_none, errW_some] <;> rfl)) | (simp [*, errW_none, errW_some] <;> rfl), hB_⟩
         ·
          rw [if_neg c62] at H
          exact absurd H (by simp)
        ·
         rw [if_neg c61] at H
         exact absurd H (by simp)
def laws_FnPlateStep.Pure : Prop := ∀ (l0 : List Int) (l1 : List Int), l0.length ≤ maxLen → l0.length * 1 ≤ 140737488351232 → (∀ x ∈ l0, (Lit.int .u8 x).wf = true) → l1.length ≤ maxLen → l1.length * 1 ≤ 140737488351232 → (∀ x ∈ l1, (Lit.int .u8 x).wf = true) → ∃ k, laws_FnPlateStep.f k l0 l1 = some true
theorem laws_FnPlateStep.walk (P : laws_FnPlateStep.Pure) (a0 : Option Addr) (len0 cap0 : Nat) (z0 : List Int) (a1 : Option Addr) (len1 cap1 : Nat) (z1 : List Int) (w : World) (hE : ErrW w) (w0 : (a0 = none ∧ len0 = 0 ∧ cap0 = 0 ∧ z0 = []) ∨ ∃ x, a0 = some x ∧ len0 ≤ cap0 ∧ cap0 ≤ maxLen ∧ z0.length = cap0 ∧ (∀ i, i < z0.length → w.cell? (x.add i) = some (.int .u8 (z0.getD i 0))) ∧ ∀ n ∈ z0, (Lit.int .u8 n).wf = true) (y0 : len0 * 1 ≤ 140737488351232) (w1 : (a1 = none ∧ len1 = 0 ∧ cap1 = 0 ∧ z1 = []) ∨ ∃ x, a1 = some x ∧ len1 ≤ cap1 ∧ cap1 ≤ maxLen ∧ z1.length = cap1 ∧ (∀ i, i < z1.length → w.cell? (x.add i) = some (.int .u8 (z1.getD i 0))) ∧ ∀ n ∈ z1, (Lit.int .u8 n).wf = true) (y1 : len1 * 1 ≤ 140737488351232) :
  Calls Tryd.prog 3 #[.slice a0 len0 cap0, .slice a1 len1 cap1] w fun e w' => e = .returned (.bool true) ∧ Below w.heap.size w w' := by
 obtain ⟨l0, rfl, hr0, hm0, hw0, hc0⟩ := ReadsInt.ofRowC w0
 obtain ⟨l1, rfl, hr1, hm1, hw1, hc1⟩ := ReadsInt.ofRowC w1
 obtain ⟨k, h⟩ := P l0 l1 hm0 y0 hw0 hm1 y1 hw1
 refine (laws_FnPlateStep.calls k _ _ l0 _ _ l1 true w (Kd.C_of_reads (d := (0 : Int)) (h1 := fun _ => rfl) hr0) hc0 (Kd.C_of_reads (d := (0 : Int)) (h1 := fun _ => rfl) hr1) hc1 hE h).mono ?_
 rintro e w' ⟨rfl, hd⟩
 exact ⟨rfl, hd⟩
end Go.Proofs.YtkefmnmoaomlhaaDoor.X
end
section
set_option linter.unusedVariables false
set_option linter.unusedSimpArgs false
namespace Go.Proofs.YtkefmnmoaomlhaaDoor.X
open Go.RowKit Go.Proofs.YtkefmnmoaomlhaaDoorW.PrintWords Go.Proofs.YtkefmnmoaomlhaaDoorW.PrintLast Go.Proofs.YtkefmnmoaomlhaaDoorW.PrintMore
open Mort (edges loopOk ptOk segOk has meet ed pairOk joined apartB)
theorem rd_es (z : List S28) {i : Nat} (h : i < z.length) : rd_T61 (esOf z) (i : Int) = edS z i := esOf_getD z h
theorem seg_ends {s : S61} (h : segOk (sgP s) = true) : ptOk (s.f0.f0, s.f0.f1) = true ∧ ptOk (s.f1.f0, s.f1.f1) = true := ⟨((Mort.segOk_iff _).1 h).1, ((Mort.segOk_iff _).1 h).2.1⟩
theorem sHasS {s : S61} {x y : Int} (h : segOk (sgP s) = true) (hp : ptOk (x, y) = true) : spec_l2Has.f s.f0.f0 s.f0.f1 s.f1.f0 s.f1.f1 x y = some (has (sgP s) (x, y)) := sHas (seg_ends h).1 (seg_ends h).2 hp
theorem sMeetS {s t : S61} (h : segOk (sgP s) = true) (h' : segOk (sgP t) = true) : spec_l2Meet.f s.f0.f0 s.f0.f1 s.f1.f0 s.f1.f1 t.f0.f0 t.f0.f1 t.f1.f0 t.f1.f1 = some (meet (sgP s) (sgP t)) := sMeet (seg_ends h).1 (seg_ends h).2 (seg_ends h').1 (seg_ends h').2
theorem succ64 {i : Nat} (h : i ≤ 100000) : wrap64 ((i : Int) + 1) = ((i + 1 : Nat) : Int) := by rw [w64i (by omega) (by omega)]; rfl
def rowJ (l : List Mort.Pt) (i j : Nat) : Bool := decide ((j + 1) % l.length = i) || !meet (ed l i) (ed l j)
def rowI (l : List Mort.Pt) (i : Nat) : Bool := joined (ed l i) (ed l ((i + 1) % l.length)) && (List.range' (i + 2) (l.length - (i + 2))).all (rowJ l i)
section
variable (z : List S28) (h8 : z.length ≤ 8) (hall : ∀ i, i < z.length → segOk (sgP (edS z i)) = true)
include h8 hall
theorem loop_l2 (i : Nat) (hi : i < z.length) (R : Bool) (K : Nat) (hR : ∀ k, K ≤ k → spec_LoopOk.l1 k (z.length : Int) (esOf z) ((i + 1 : Nat) : Int) = some R) :
  ∀ (m j k : Nat), z.length - j = m → j ≤ 10 → K + m + 1 ≤ k → spec_LoopOk.l2 k (z.length : Int) (esOf z) (i : Int) (j : Int) = some ((List.range' j m).all (rowJ (z.map ptP) i) && R) := by
 intro m
 induction m with
 | zero =>
  intro j k hm hj hk
  obtain ⟨k, rfl⟩ : ∃ q, k = q + 1 := ⟨k - 1, by omega⟩
  simp only [spec_LoopOk.l2]
  rw [if_neg (by omega), succ64 (by omega), hR k (by omega)]
  simp
 | succ m ih =>
  intro j k hm hj hk
  obtain ⟨k, rfl⟩ : ∃ q, k = q + 1 := ⟨k - 1, by omega⟩
  simp only [spec_LoopOk.l2]
  rw [if_pos (by omega), if_neg (by omega), succ64 (by omega)]
  have ht : Int.tmod ((j + 1 : Nat) : Int) (z.length : Int) = (((j + 1) % z.length : Nat) : Int) := rfl
  rw [ht, List.range'_succ, List.all_cons]
  by_cases hq : (j + 1) % z.length = i
  ·
   rw [if_pos (by omega), ih (j + 1) k (by omega) (by omega) (by omega)]
   have : rowJ (z.map ptP) i j = true := by unfold rowJ; rw [List.length_map, decide_eq_true hq]; rfl
   rw [this, Bool.true_and]
  ·
   rw [if_neg (by omega), if_pos (by omega), if_pos (by rw [esOf_len]; omega), if_pos (by omega), if_pos (by rw [esOf_len]; omega)]
   rw [rd_es z hi, rd_es z (by omega), sMeetS (hall i hi) (hall j (by omega)), Option.bind_some]
   have hrow : rowJ (z.map ptP) i j = !meet (sgP (edS z i)) (sgP (edS z j)) := by unfold rowJ; rw [List.length_map, decide_eq_false hq, ed_edS, ed_edS]; rfl
   rw [hrow]
   cases hm2 : meet (sgP (edS z i)) (sgP (edS z j)) with
   | true => rw [if_pos rfl]; simp
   | false => rw [if_neg (by decide), ih (j + 1) k (by omega) (by omega) (by omega)]; simp
theorem loop_l1 : ∀ (m i k : Nat), z.length - i = m → i ≤ z.length → m * 20 + 1 ≤ k → spec_LoopOk.l1 k (z.length : Int) (esOf z) (i : Int) = some ((List.range' i m).all (rowI (z.map ptP))) := by
 intro m
 induction m with
 | zero =>
  intro i k hm hi hk
  obtain ⟨k, rfl⟩ : ∃ q, k = q + 1 := ⟨k - 1, by omega⟩
  simp only [spec_LoopOk.l1]
  rw [if_neg (by omega)]
  simp
 | succ m ih =>
  intro i k hm hi hk
  obtain ⟨k, rfl⟩ : ∃ q, k = q + 2 := ⟨k - 2, by omega⟩
  simp only [spec_LoopOk.l1]
  have hlt := Nat.mod_lt (i + 1) (show 0 < z.length by omega)
  have ht : Int.tmod ((i + 1 : Nat) : Int) (z.length : Int) = (((i + 1) % z.length : Nat) : Int) := rfl
  rw [if_pos (by omega), if_pos (by omega), if_pos (by rw [esOf_len]; omega), if_neg (by omega), succ64 (by omega), ht, if_pos (by omega), if_pos (by rw [esOf_len]; omega)]
  rw [rd_es z (by omega : i < z.length), rd_es z hlt]
  generalize hq : (i + 1) % z.length = q at hlt
  have o1 := hall i (by omega)
  have o2 := hall q hlt
  rw [sHasS o1 (seg_ends o2).2, Option.bind_some, sHasS o2 (seg_ends o1).1, Option.bind_some]
  have hrow : rowI (z.map ptP) i = ((!has (sgP (edS z i)) (sgP (edS z q)).2 && !has (sgP (edS z q)) (sgP (edS z i)).1) && (List.range' (i + 2) (z.length - (i + 2))).all (rowJ (z.map ptP) i)) := by
   unfold rowI joined; rw [List.length_map, hq, ed_edS, ed_edS]
  have e2 : (ptP (edS z q).f1) = ((edS z q).f1.f0, (edS z q).f1.f1) := rfl
  rw [List.range'_succ, List.all_cons, hrow]
  show (if has (sgP (edS z i)) (sgP (edS z q)).2 = true then _ else spec_LoopOk.j2 (k + 1) _ _ _ (has (sgP (edS z q)) (sgP (edS z i)).1)) = _
  cases has (sgP (edS z i)) (sgP (edS z q)).2 with
  | true => rw [if_pos rfl]; simp only [spec_LoopOk.j2]; simp
  | false =>
   rw [if_neg (by decide)]
   simp only [spec_LoopOk.j2]
   cases has (sgP (edS z q)) (sgP (edS z i)).1 with
   | true => rw [if_pos rfl]; simp
   | false =>
    rw [if_neg (by decide)]
    have hw : wrap64 ((i : Int) + 2) = ((i + 2 : Nat) : Int) := by rw [w64i (by omega) (by omega)]; rfl
    rw [hw, loop_l2 z h8 hall i (by omega) _ (m * 20 + 1) (fun k hk => ih (i + 1) k (by omega) (by omega) hk) (z.length - (i + 2)) (i + 2) k rfl (by omega) (by omega)]
    simp
end
theorem loop_l0 (z : List S28) (h8 : z.length ≤ 8) : ∀ (m i k : Nat), z.length - i = m → i ≤ z.length → m + 200 ≤ k → (∀ j, j < i → segOk (sgP (edS z j)) = true) →
  spec_LoopOk.l0 k (z.length : Int) (esOf z) (i : Int) = some ((List.range' i m).all (fun j => segOk (sgP (edS z j))) && (List.range' 0 z.length).all (rowI (z.map ptP))) := by
 intro m
 induction m with
 | zero =>
  intro i k hm hi hk hp
  obtain ⟨k, rfl⟩ : ∃ q, k = q + 1 := ⟨k - 1, by omega⟩
  simp only [spec_LoopOk.l0]
  rw [if_neg (by omega), show (0 : Int) = ((0 : Nat) : Int) from rfl, loop_l1 z h8 (fun j hj => hp j (by omega)) z.length 0 k (by omega) (by omega) (by omega)]
  simp
 | succ m ih =>
  intro i k hm hi hk hp
  obtain ⟨k, rfl⟩ : ∃ q, k = q + 1 := ⟨k - 1, by omega⟩
  simp only [spec_LoopOk.l0]
  rw [if_pos (by omega), if_pos (by omega), if_pos (by rw [esOf_len]; omega), rd_es z (by omega : i < z.length), sSegOk, Option.bind_some, List.range'_succ, List.all_cons]
  show (if segOk (sgP (edS z i)) = true then _ else _) = _
  cases ho : segOk (sgP (edS z i)) with
  | true =>
   rw [if_pos rfl, succ64 (by omega), ih (i + 1) k (by omega) (by omega) (by omega) (fun j hj => by
    by_cases hji : j = i
    ·
     rw [hji]; exact ho
    ·
     exact hp j (by omega))]
   simp
  | false => rw [if_neg (by decide)]; simp
theorem rows_pairs (l : List Mort.Pt) (h3 : 3 ≤ l.length) : (List.range' 0 l.length).all (rowI l) = (List.range l.length).all fun i => (List.range l.length).all fun j => pairOk l i j := by
 rw [Bool.eq_iff_iff]
 simp only [List.all_eq_true, List.mem_range'_1, List.mem_range]
 constructor
 ·
  intro h i hi j hj
  have row : ∀ i, i < l.length → joined (ed l i) (ed l ((i + 1) % l.length)) = true ∧ ∀ j, i + 2 ≤ j → j < l.length → rowJ l i j = true := fun i hi => by
   have := h i ⟨by omega, by omega⟩
   unfold rowI at this
   simp only [Bool.and_eq_true, List.all_eq_true, List.mem_range'_1] at this
   exact ⟨this.1, fun j h1 h2 => this.2 j ⟨h1, by omega⟩⟩
  unfold pairOk
  by_cases h1 : j ≤ i
  ·
   rw [if_pos h1]
  ·
   rw [if_neg h1]
   by_cases h2 : j = i + 1
   ·
    rw [if_pos h2]
    have := (row i hi).1
    rwa [Nat.mod_eq_of_lt (by omega), ← h2] at this
   ·
    rw [if_neg h2]
    by_cases h4 : i = 0 ∧ j + 1 = l.length
    ·
     rw [if_pos h4]
     have := (row j hj).1
     rwa [h4.2, Nat.mod_self, ← h4.1] at this
    ·
     rw [if_neg h4]
     have := (row i hi).2 j (by omega) hj
     unfold rowJ at this
     have hne : (j + 1) % l.length ≠ i := by
      intro e
      by_cases hj2 : j + 1 < l.length
      ·
       rw [Nat.mod_eq_of_lt hj2] at e; omega
      ·
       have e2 : j + 1 = l.length := by omega
       rw [e2, Nat.mod_self] at e
       exact h4 ⟨e.symm, e2⟩
     rwa [decide_eq_false hne, Bool.false_or] at this
 ·
  intro h i hi
  have hi2 : i < l.length := by omega
  unfold rowI
  simp only [Bool.and_eq_true, List.all_eq_true, List.mem_range'_1]
  refine ⟨?_, fun j hj => ?_⟩
  ·
   by_cases h1 : i + 1 < l.length
   ·
    have := h i hi2 (i + 1) h1
    unfold pairOk at this
    rw [if_neg (by omega), if_pos rfl] at this
    rwa [Nat.mod_eq_of_lt h1]
   ·
    have e2 : i + 1 = l.length := by omega
    have := h 0 (by omega) i hi2
    unfold pairOk at this
    rw [if_neg (by omega), if_neg (by omega), if_pos ⟨rfl, e2⟩] at this
    rwa [e2, Nat.mod_self]
  ·
   unfold rowJ
   by_cases hq : (j + 1) % l.length = i
   ·
    rw [decide_eq_true hq]; rfl
   ·
    rw [decide_eq_false hq, Bool.false_or]
    have := h i hi2 j (by omega)
    unfold pairOk at this
    rw [if_neg (by omega), if_neg (by omega), if_neg (fun e => hq (by rw [e.2, Nat.mod_self]; exact e.1.symm))] at this
    exact this
theorem sLoopOk {k : Nat} (hk : 300 ≤ k) (z : List S28) : spec_LoopOk.f k z = some (loopOk (z.map ptP)) := by
 unfold spec_LoopOk.f loopOk
 rw [l6In_told, Option.bind_some, List.length_map]
 have e0 : (decide (3 ≤ (z.length : Int)) && decide ((z.length : Int) ≤ 8)) = (decide (3 ≤ z.length) && decide (z.length ≤ 8)) := by
  congr 1
  ·
   rw [decide_eq_decide]; omega
  ·
   rw [decide_eq_decide]; omega
 rw [e0]
 by_cases hn : 3 ≤ z.length ∧ z.length ≤ 8
 ·
  rw [decide_eq_true hn.1, decide_eq_true hn.2, Bool.and_self, if_pos rfl, sEdges (by omega) (by omega), Option.bind_some, Bool.true_and, show (0 : Int) = ((0 : Nat) : Int) from rfl, loop_l0 z hn.2 z.length 0 k (by omega) (by omega) (by omega) (fun j hj => by omega)]
  have h3 := rows_pairs (z.map ptP) (by rw [List.length_map]; exact hn.1)
  rw [List.length_map] at h3
  rw [h3, Mort.edges_eq, List.length_map, List.all_map, List.range_eq_range']
  congr 3
  funext i
  show _ = segOk (ed (z.map ptP) i)
  rw [ed_edS]
 ·
  have : (decide (3 ≤ z.length) && decide (z.length ≤ 8)) = false := by
   by_cases h1 : 3 ≤ z.length
   ·
    rw [decide_eq_false (show ¬ z.length ≤ 8 from fun h2 => hn ⟨h1, h2⟩), Bool.and_false]
   ·
    rw [decide_eq_false h1, Bool.false_and]
  rw [this, if_neg (by decide), Bool.false_and]
theorem ok_facts {z : List S28} (h : loopOk (z.map ptP) = true) : 3 ≤ z.length ∧ z.length ≤ 8 ∧ ∀ i, i < z.length → segOk (sgP (edS z i)) = true := by
 obtain ⟨h1, h2, h3, _⟩ := (Mort.loopOk_iff _).1 h
 rw [List.length_map] at h1 h2
 refine ⟨h1, h2, fun i hi => ?_⟩
 have := h3 _ (Mort.mem_edges.2 ⟨i, by simpa using hi, rfl⟩)
 rwa [ed_edS] at this
theorem apart_l1 (a b : List S28) (ha : loopOk (a.map ptP) = true) (hb : loopOk (b.map ptP) = true) (i : Nat) (hi : i < a.length) (R : Bool) (K : Nat) (hR : ∀ k, K ≤ k → spec_l11Apart.l0 k (esOf a) (esOf b) ((i + 1 : Nat) : Int) = some R) :
  ∀ (m j k : Nat), b.length - j = m → j ≤ b.length → K + m + 1 ≤ k → spec_l11Apart.l1 k (esOf a) (esOf b) (i : Int) (j : Int) = some ((List.range' j m).all (fun j => !meet (sgP (edS a i)) (sgP (edS b j))) && R) := by
 obtain ⟨a3, a8, aok⟩ := ok_facts ha
 obtain ⟨b3, b8, bok⟩ := ok_facts hb
 intro m
 induction m with
 | zero =>
  intro j k hm hj hk
  obtain ⟨k, rfl⟩ : ∃ q, k = q + 1 := ⟨k - 1, by omega⟩
  simp only [spec_l11Apart.l1]
  rw [if_neg (by rw [esOf_len]; omega), succ64 (by omega), hR k (by omega)]
  simp
 | succ m ih =>
  intro j k hm hj hk
  obtain ⟨k, rfl⟩ : ∃ q, k = q + 1 := ⟨k - 1, by omega⟩
  simp only [spec_l11Apart.l1]
  rw [if_pos (by rw [esOf_len]; omega), if_pos (by omega), if_pos (by rw [esOf_len]; omega), if_pos (by omega), rd_es a hi, rd_es b (by omega), sMeetS (aok i hi) (bok j (by omega)), Option.bind_some, List.range'_succ, List.all_cons]
  cases meet (sgP (edS a i)) (sgP (edS b j)) with
  | true => rw [if_pos rfl]; simp
  | false => rw [if_neg (by decide), succ64 (by omega), ih (j + 1) k (by omega) (by omega) (by omega)]; simp
theorem apart_l0 (a b : List S28) (ha : loopOk (a.map ptP) = true) (hb : loopOk (b.map ptP) = true) :
  ∀ (m i k : Nat), a.length - i = m → i ≤ a.length → m * 20 + 1 ≤ k → spec_l11Apart.l0 k (esOf a) (esOf b) (i : Int) = some ((List.range' i m).all (fun i => (List.range' 0 b.length).all (fun j => !meet (sgP (edS a i)) (sgP (edS b j))))) := by
 obtain ⟨a3, a8, aok⟩ := ok_facts ha
 obtain ⟨b3, b8, bok⟩ := ok_facts hb
 intro m
 induction m with
 | zero =>
  intro i k hm hi hk
  obtain ⟨k, rfl⟩ : ∃ q, k = q + 1 := ⟨k - 1, by omega⟩
  simp only [spec_l11Apart.l0]
  rw [if_neg (by rw [esOf_len]; omega)]
  simp
 | succ m ih =>
  intro i k hm hi hk
  obtain ⟨k, rfl⟩ : ∃ q, k = q + 1 := ⟨k - 1, by omega⟩
  simp only [spec_l11Apart.l0]
  rw [if_pos (by rw [esOf_len]; omega), List.range'_succ, List.all_cons, show (0 : Int) = ((0 : Nat) : Int) from rfl,
   apart_l1 a b ha hb i (by omega) _ (m * 20 + 1) (fun k hk => ih (i + 1) k (by omega) (by omega) hk) b.length 0 k (by omega) (by omega) (by omega)]
theorem sApart {k : Nat} (hk : 300 ≤ k) {a b : List S28} (ha : loopOk (a.map ptP) = true) (hb : loopOk (b.map ptP) = true) : spec_l11Apart.f k a b = some (apartB (a.map ptP) (b.map ptP)) := by
 obtain ⟨a3, a8, aok⟩ := ok_facts ha
 obtain ⟨b3, b8, bok⟩ := ok_facts hb
 unfold spec_l11Apart.f apartB
 rw [sEdges (by omega) (by omega), sEdges (by omega) (by omega), Option.bind_some, Option.bind_some, show (0 : Int) = ((0 : Nat) : Int) from rfl, apart_l0 a b ha hb a.length 0 k (by omega) (by omega) (by omega)]
 rw [Mort.edges_eq (a.map ptP), Mort.edges_eq (b.map ptP), List.length_map, List.length_map, List.all_map, List.range_eq_range']
 congr 2
 funext i
 show _ = ((List.range b.length).map (ed (b.map ptP))).all _
 rw [List.all_map, List.range_eq_range']
 congr 1
 funext j
 show _ = !meet (ed (a.map ptP) i) (ed (b.map ptP) j)
 rw [ed_edS, ed_edS]
end Go.Proofs.YtkefmnmoaomlhaaDoor.X
end
section
set_option linter.unusedVariables false
set_option linter.unusedSimpArgs false
namespace Mort
theorem par_below {l : List Pt} {x y : Rat} (h : par l x y = true) : ∃ v ∈ l, y < (v.2 : Rat) := by
 have h1 : ∃ e ∈ edges l, crsQ e.1.1 e.1.2 e.2.1 e.2.2 x y = true := by
  refine Classical.byContradiction fun hn => ?_
  have : par l x y = xorAll ((edges l).map fun _ => false) := xorAll_congr fun e he => by
   cases hc : crsQ e.1.1 e.1.2 e.2.1 e.2.2 x y with
   | true => exact absurd ⟨e, he, hc⟩ hn
   | false => rfl
  rw [this] at h
  have : ∀ (m : List Seg), xorAll (m.map fun _ => false) = false := fun m => by
   induction m with
   | nil => rfl
   | cons a m ih => rw [List.map_cons]; unfold xorAll; rw [ih]; rfl
  rw [this] at h
  cases h
 obtain ⟨e, he, hc⟩ := h1
 obtain ⟨i, hi, rfl⟩ := mem_edges.1 he
 have m1 : (ed l i).1 ∈ l := by
  unfold ed; simp only
  rw [List.getD_eq_getElem?_getD, List.getElem?_eq_getElem hi]; exact List.getElem_mem hi
 have hq := Nat.mod_lt (i + 1) (show 0 < l.length by omega)
 have m2 : (ed l i).2 ∈ l := by
  unfold ed; simp only
  rw [List.getD_eq_getElem?_getD, List.getElem?_eq_getElem hq]; exact List.getElem_mem hq
 unfold crsQ at hc
 simp only [Bool.or_eq_true, Bool.and_eq_true, decide_eq_true_eq] at hc
 rcases hc with hc | hc
 ·
  exact ⟨_, m2, hc.2.1⟩
 ·
  exact ⟨_, m1, hc.2.1⟩
theorem inOf_below {l : List Pt} {p : Pt} (h : inOf l p = 1) : ∃ v ∈ l, p.2 < v.2 := by
 have hp : par l p.1 p.2 = true := by
  unfold inOf at h
  split at h
  ·
   omega
  ·
   split at h
   ·
    assumption
   ·
    omega
 obtain ⟨v, hv, hlt⟩ := par_below hp
 exact ⟨v, hv, by exact_mod_cast hlt⟩
theorem vertex_on {l : List Pt} {v : Pt} (h : v ∈ l) : onB l v = true := by
 obtain ⟨i, hi, rfl⟩ := List.getElem_of_mem h
 refine (onB_iff l _).2 ⟨ed l i, mem_edges.2 ⟨i, hi, rfl⟩, ?_⟩
 have : (ed l i).1 = l[i] := by unfold ed; simp only; rw [List.getD_eq_getElem?_getD, List.getElem?_eq_getElem hi]; rfl
 rw [← this]
 exact (has_ends _).1
theorem has_max {l : List Pt} (h : 0 < l.length) : ∃ v ∈ l, ∀ u ∈ l, u.2 ≤ v.2 := by
 induction l with
 | nil => simp at h
 | cons a m ih =>
  by_cases hm : 0 < m.length
  ·
   obtain ⟨v, hv, hx⟩ := ih hm
   by_cases hc : v.2 ≤ a.2
   ·
    refine ⟨a, List.mem_cons_self, fun u hu => ?_⟩
    rcases List.mem_cons.1 hu with rfl | hu
    ·
     omega
    ·
     have := hx u hu; omega
   ·
    refine ⟨v, List.mem_cons_of_mem _ hv, fun u hu => ?_⟩
    rcases List.mem_cons.1 hu with rfl | hu
    ·
     omega
    ·
     exact hx u hu
  ·
   obtain rfl : m = [] := List.eq_nil_of_length_eq_zero (by omega)
   exact ⟨a, List.mem_cons_self, fun u hu => by rw [List.mem_singleton] at hu; rw [hu]; omega⟩
theorem PlateGood.on_outer {P : Plate} (g : PlateGood P) {h : List Pt} (hh : h ∈ P.2) {p : Pt} (hp : onB P.1 p = true) : inOf h p = -1 := by
 have hl := g.holes h hh
 have same : ∀ q, onB P.1 q = true → inOf h q = inOf h (P.1.getD 0 (0, 0)) := fun q hq => on_inOf (ndl_of_ok hl) (ndl_of_ok g.outer) (by rw [apartB_comm]; exact g.away h hh) (loop_pos g.outer) hq
 rw [same p hp]
 rcases inOf_vals h (P.1.getD 0 (0, 0)) with e | e | e
 ·
  exfalso
  have h1 := (inOf_zero h _).1 e
  have h2 := g.on_hole hh h1
  have h3 := (inOf_zero P.1 (P.1.getD 0 (0, 0))).2 (first_on (loop_pos g.outer))
  omega
 ·
  exfalso
  obtain ⟨v, hv, hmax⟩ := has_max (loop_pos g.outer)
  have h1 : inOf h v = 1 := (same v (vertex_on hv)).trans e
  obtain ⟨u, hu, hlt⟩ := inOf_below h1
  have h2 := g.on_hole hh (vertex_on hu)
  obtain ⟨t, ht, hlt2⟩ := inOf_below h2
  have := hmax t ht
  omega
 ·
  exact e
theorem plateInOf_spec {P : Plate} (g : PlateGood P) (p : Pt) :
  (inOf P.1 p = 0 → plateInOf P p = 0 ∧ ∀ h ∈ P.2, inOf h p = -1) ∧ ((∃ h ∈ P.2, inOf h p = 0) → plateInOf P p = 0 ∧ inOf P.1 p = 1) ∧
  (inOf P.1 p ≠ 0 → (∀ h ∈ P.2, inOf h p ≠ 0) → plateInOf P p = if inOf P.1 p = 1 ∧ ∀ h ∈ P.2, inOf h p = -1 then 1 else -1) := by
 refine ⟨fun h0 => ?_, fun ⟨h, hh, h0⟩ => ?_, fun h0 h1 => ?_⟩
 ·
  have hon := (inOf_zero _ _).1 h0
  refine ⟨?_, fun h hh => g.on_outer hh hon⟩
  unfold plateInOf plateOn; rw [hon, Bool.true_or, if_pos rfl]
 ·
  have hon := (inOf_zero _ _).1 h0
  refine ⟨?_, g.on_hole hh hon⟩
  have : plateOn P p = true := by unfold plateOn; rw [Bool.or_eq_true, List.any_eq_true]; exact .inr ⟨h, hh, hon⟩
  unfold plateInOf; rw [this, if_pos rfl]
 ·
  have : plateOn P p = false := by
   unfold plateOn
   rw [Bool.or_eq_false_iff]
   refine ⟨?_, ?_⟩
   ·
    cases hc : onB P.1 p with
    | true => exact absurd ((inOf_zero _ _).2 hc) h0
    | false => rfl
   ·
    rw [List.any_eq_false]
    intro h hh hc
    exact h1 h hh ((inOf_zero _ _).2 hc)
  unfold plateInOf
  rw [this, if_neg (by decide)]
  unfold plateInB
  by_cases hq : inOf P.1 p = 1 ∧ ∀ h ∈ P.2, inOf h p = -1
  ·
   rw [if_pos hq, if_pos]
   rw [Bool.and_eq_true, List.all_eq_true]
   exact ⟨beq_iff_eq.2 hq.1, fun h hh => beq_iff_eq.2 (hq.2 h hh)⟩
  ·
   rw [if_neg hq, if_neg]
   rw [Bool.and_eq_true, List.all_eq_true]
   exact fun e => hq ⟨beq_iff_eq.1 e.1, fun h hh => beq_iff_eq.1 (e.2 h hh)⟩
end Mort
namespace Go.Proofs.YtkefmnmoaomlhaaDoor.X
open Go.RowKit Go.Proofs.YtkefmnmoaomlhaaDoorW.PrintWords Go.Proofs.YtkefmnmoaomlhaaDoorW.PrintLast Go.Proofs.YtkefmnmoaomlhaaDoorW.PrintMore
open Mort (edges loopOk ptOk segOk has meet ed pairOk joined apartB plateOk plateInOf plateIn PlateGood inOf segMeet)
def pl (o : List S28) (H : List (List S28)) : Mort.Plate := (o.map ptP, H.map (List.map ptP))
theorem fst_pt (z : List S28) : (z.map ptP).getD 0 (0, 0) = fstP z := ptP_getD z 0
theorem apart_ix (a b : List S28) : apartB (a.map ptP) (b.map ptP) = true ↔ ∀ i, i < a.length → ∀ j, j < b.length → meet (sgP (edS a i)) (sgP (edS b j)) = false := by
 rw [Mort.apartB_iff]
 constructor
 ·
  intro h i hi j hj
  rw [← ed_edS, ← ed_edS]
  exact h _ (Mort.mem_edges.2 ⟨i, by simpa using hi, rfl⟩) _ (Mort.mem_edges.2 ⟨j, by simpa using hj, rfl⟩)
 ·
  intro h e he f hf
  obtain ⟨i, hi, rfl⟩ := Mort.mem_edges.1 he
  obtain ⟨j, hj, rfl⟩ := Mort.mem_edges.1 hf
  rw [ed_edS, ed_edS]
  exact h i (by simpa using hi) j (by simpa using hj)
theorem meetsB_eq {a b : List S28} (ha : loopOk (a.map ptP) = true) (hb : loopOk (b.map ptP) = true) : (!meetsB a b) = apartB (a.map ptP) (b.map ptP) := by
 obtain ⟨_, _, aok⟩ := ok_facts ha
 obtain ⟨_, _, bok⟩ := ok_facts hb
 rw [Bool.eq_iff_iff, apart_ix]
 unfold meetsB
 rw [Bool.not_eq_true', List.any_eq_false]
 constructor
 ·
  intro h i hi j hj
  have h1 := h ⟨i, hi⟩ (List.mem_finRange _)
  rw [Bool.not_eq_true, List.any_eq_false] at h1
  have h2 := h1 ⟨j, hj⟩ (List.mem_finRange _)
  cases hm : meet (sgP (edS a i)) (sgP (edS b j)) with
  | false => rfl
  | true => exact absurd ((Mort.segMeet_iff _ _).2 ⟨aok i hi, bok j hj, hm⟩) h2
 ·
  intro h i _ h1
  rw [List.any_eq_true] at h1
  obtain ⟨j, _, h2⟩ := h1
  have := h i i.2 j j.2
  rw [((Mort.segMeet_iff _ _).1 h2).2.2] at this
  cases this
theorem iBodyOk (o : List S28) (H : List (List S28)) : bodyOkB o H = plateOk (pl o H) := by
 unfold bodyOkB plateOk pl Mort.nested
 simp only [List.length_map]
 match H with
 | [] =>
  simp only [List.length_nil, List.all_nil, List.map_nil, apartAll, nestedAll, List.range'_zero, Bool.and_true, Bool.true_and]
 | [a] =>
  simp only [List.length_cons, List.length_nil, List.all_cons, List.all_nil, List.map_cons, List.map_nil, apartAll, nestedAll, List.range'_succ, List.range'_zero, rowN, okN, Bool.and_true, Bool.true_and, fst_pt, inS, List.getD_cons_zero, beq_self_eq_true, Bool.true_or]
  cases ho : loopOk (o.map ptP) <;> cases ha : loopOk (a.map ptP) <;> try rfl
  rw [meetsB_eq ho ha]
  simp [Nat.zero_le]
 | [a, b] =>
  simp only [List.length_cons, List.length_nil, List.all_cons, List.all_nil, List.map_cons, List.map_nil, apartAll, nestedAll, List.range'_succ, List.range'_zero, rowN, okN, Bool.and_true, Bool.true_and, fst_pt, inS, List.getD_cons_zero, List.getD_cons_succ, beq_self_eq_true, Bool.true_or]
  cases ho : loopOk (o.map ptP) <;> cases ha : loopOk (a.map ptP) <;> cases hb : loopOk (b.map ptP) <;> try rfl
  rw [meetsB_eq ho ha, meetsB_eq ho hb, meetsB_eq ha hb]
  generalize apartB (o.map ptP) (a.map ptP) = t1
  generalize apartB (o.map ptP) (b.map ptP) = t2
  generalize apartB (a.map ptP) (b.map ptP) = t3
  generalize (inOf (o.map ptP) (fstP a) == 1) = t4
  generalize (inOf (o.map ptP) (fstP b) == 1) = t5
  generalize (inOf (b.map ptP) (fstP a) == -1) = t6
  generalize (inOf (a.map ptP) (fstP b) == -1) = t7
  cases t1 <;> cases t2 <;> cases t3 <;> cases t4 <;> cases t5 <;> cases t6 <;> cases t7 <;> rfl
 | a :: b :: c :: r =>
  rw [decide_eq_false (by simp only [List.length_cons]; omega)]
  rfl
theorem good_of {o : List S28} {H : List (List S28)} (h : plateOk (pl o H) = true) : PlateGood (pl o H) := (Mort.plateOk_iff _).1 h
theorem runIn_eq {o : List S28} {H : List (List S28)} (h : plateOk (pl o H) = true) (p : Mort.Pt) : runIn p (inS o p) H = plateInOf (pl o H) p := by
 obtain ⟨s1, s2, s3⟩ := Mort.plateInOf_spec (good_of h) p
 have gen : ∀ (R : List (List S28)) (x : Int), runIn p x R = if (∃ z ∈ R, inS z p = 0) then 0 else if (∃ z ∈ R, inS z p = 1) then -1 else x := by
  intro R
  induction R with
  | nil => intro x; simp [runIn]
  | cons z R ih =>
   intro x
   rw [runIn_cons, ih]
   by_cases h0 : inS z p = 0
   ·
    rw [if_pos h0, if_pos ⟨z, List.mem_cons_self, h0⟩]
   ·
    rw [if_neg h0]
    have e0 : (∃ y ∈ z :: R, inS y p = 0) ↔ ∃ y ∈ R, inS y p = 0 := by simp [h0]
    by_cases hR0 : ∃ y ∈ R, inS y p = 0
    ·
     rw [if_pos hR0, if_pos (e0.2 hR0)]
    ·
     rw [if_neg hR0, if_neg (fun q => hR0 (e0.1 q))]
     by_cases h1 : inS z p = 1
     ·
      rw [if_pos h1, if_pos (show ∃ y ∈ z :: R, inS y p = 1 from ⟨z, List.mem_cons_self, h1⟩)]
      split <;> rfl
     ·
      have e1 : (∃ y ∈ z :: R, inS y p = 1) ↔ ∃ y ∈ R, inS y p = 1 := by simp [h1]
      rw [if_neg h1]
      by_cases hR1 : ∃ y ∈ R, inS y p = 1
      ·
       rw [if_pos hR1, if_pos (e1.2 hR1)]
      ·
       rw [if_neg hR1, if_neg (fun q => hR1 (e1.1 q))]
 have mem : ∀ z ∈ H, z.map ptP ∈ (pl o H).2 := fun z hz => List.mem_map_of_mem hz
 rw [gen]
 by_cases h0 : ∃ z ∈ H, inS z p = 0
 ·
  rw [if_pos h0]
  obtain ⟨z, hz, e⟩ := h0
  exact (s2 ⟨_, mem z hz, e⟩).1.symm
 ·
  rw [if_neg h0]
  have all0 : ∀ y ∈ (pl o H).2, inOf y p ≠ 0 := by
   intro y hy e
   obtain ⟨z, hz, rfl⟩ := List.mem_map.1 hy
   exact h0 ⟨z, hz, e⟩
  have ho : (pl o H).1 = o.map ptP := rfl
  by_cases h1 : ∃ z ∈ H, inS z p = 1
  ·
   rw [if_pos h1]
   obtain ⟨z, hz, e⟩ := h1
   have e' : inOf (z.map ptP) p = 1 := e
   by_cases hq : inOf (pl o H).1 p = 0
   ·
    have := (s1 hq).2 _ (mem z hz); omega
   ·
    rw [s3 hq all0, if_neg]
    intro hh
    have := hh.2 _ (mem z hz); omega
  ·
   rw [if_neg h1]
   have allm : ∀ y ∈ (pl o H).2, inOf y p = -1 := by
    intro y hy
    have h2 := all0 y hy
    obtain ⟨z, hz, rfl⟩ := List.mem_map.1 hy
    rcases Mort.inOf_vals (z.map ptP) p with e | e | e
    ·
     exact absurd e h2
    ·
     exact absurd ⟨z, hz, e⟩ h1
    ·
     exact e
   show inOf (pl o H).1 p = _
   by_cases hq : inOf (pl o H).1 p = 0
   ·
    rw [(s1 hq).1, hq]
   ·
    rw [s3 hq all0]
    rcases Mort.inOf_vals (pl o H).1 p with e | e | e
    ·
     exact absurd e hq
    ·
     rw [if_pos ⟨e, allm⟩, e]
    ·
     rw [if_neg (by omega), e]
theorem iPlateIn (o : List S28) (H : List (List S28)) (x y : Int) : impl_PlateIn.f o H x y = some (plateIn (pl o H) (x, y)) := by
 unfold impl_PlateIn.f plateIn
 rw [iBodyOk]
 cases h : plateOk (pl o H) with
 | false => rfl
 | true =>
  cases hp : ptOk (x, y) with
  | false => rfl
  | true => rw [runIn_eq h]
end Go.Proofs.YtkefmnmoaomlhaaDoor.X
end
section
set_option linter.unusedVariables false
set_option linter.unusedSimpArgs false
namespace Go.Proofs.YtkefmnmoaomlhaaDoor.X
open Go.RowKit Go.Proofs.YtkefmnmoaomlhaaDoorW.PrintWords Go.Proofs.YtkefmnmoaomlhaaDoorW.PrintLast Go.Proofs.YtkefmnmoaomlhaaDoorW.PrintMore
open Mort (edges loopOk ptOk segOk has meet ed pairOk joined apartB plateOk plateInOf plateIn PlateGood inOf segMeet)
theorem fst_ok {z : List S28} (h : loopOk (z.map ptP) = true) : ptOk ((rd_T28 z 0).f0, (rd_T28 z 0).f1) = true := by
 obtain ⟨h3, _, hok⟩ := ok_facts h
 exact (seg_ends (hok 0 (by omega))).1
theorem sL3In {z : List S28} {x y : Int} (h : loopOk (z.map ptP) = true) (hp : ptOk (x, y) = true) : spec_l3In.f z x y = some (inOf (z.map ptP) (x, y)) := by
 unfold spec_l3In.f; rw [if_pos ⟨h, hp⟩]
theorem sL3Fst {z a : List S28} (h : loopOk (z.map ptP) = true) (ha : loopOk (a.map ptP) = true) : spec_l3In.f z (rd_T28 a 0).f0 (rd_T28 a 0).f1 = some (inOf (z.map ptP) (fstP a)) := sL3In h (fst_ok ha)
def holeOk (o a : List S28) : Bool := loopOk (a.map ptP) && (inOf (o.map ptP) (fstP a) == 1 && apartB (o.map ptP) (a.map ptP))
def pairH (a b : List S28) : Bool := apartB (a.map ptP) (b.map ptP) && (inOf (b.map ptP) (fstP a) == -1 && inOf (a.map ptP) (fstP b) == -1)
theorem plate_hole {o : List S28} {H : List (List S28)} (ho : loopOk (o.map ptP) = true) (i : Nat) (hi : i < H.length) {k : Nat} (hk : 300 ≤ k) :
  spec_PlateOk.l0 (k + 2) (i : Int) o H = if holeOk o (rd_L5 H (i : Int)) then spec_PlateOk.l1 k (i : Int) (rd_L5 H (i : Int)) 0 o H else some false := by
 simp only [spec_PlateOk.l0]
 rw [if_pos (by omega), if_pos (by omega), sLoopOk (by omega), Option.bind_some]
 generalize rd_L5 H (i : Int) = a
 unfold holeOk
 cases ha : loopOk (a.map ptP) with
 | false => rw [if_neg (by decide)]; simp only [spec_PlateOk.j2]; simp
 | true =>
  obtain ⟨h3, _, _⟩ := ok_facts ha
  rw [if_pos rfl, if_pos (by omega), sL3Fst ho ha, Option.bind_some]
  by_cases h1 : inOf (o.map ptP) (fstP a) = 1
  ·
   rw [if_pos h1, sApart (by omega) ho ha, Option.bind_some]
   simp only [spec_PlateOk.j2]
   rw [h1]
   cases apartB (o.map ptP) (a.map ptP) <;> simp
  ·
   rw [if_neg h1, beq_eq_false_iff_ne.2 h1]
   simp only [spec_PlateOk.j2]; simp
theorem sPlateOk {k : Nat} (hk : 1000 ≤ k) (o : List S28) (H : List (List S28)) : spec_PlateOk.f k o H = some (plateOk (pl o H)) := by
 unfold spec_PlateOk.f
 rw [sLoopOk (by omega), Option.bind_some]
 obtain ⟨k, rfl⟩ : ∃ q, k = q + 10 := ⟨k - 10, by omega⟩
 cases ho : loopOk (o.map ptP) with
 | false =>
  rw [if_neg (by decide)]
  simp only [spec_PlateOk.j0]
  unfold plateOk pl
  simp only
  rw [ho]; simp
 | true =>
  rw [if_pos rfl]
  by_cases h2 : H.length ≤ 2
  ·
   rw [decide_eq_false (by omega)]
   simp only [spec_PlateOk.j0]
   rw [if_neg (by decide)]
   unfold plateOk pl Mort.nested
   simp only [List.length_map]
   rw [ho, decide_eq_true h2]
   match H, h2 with
   | [], _ => simp only [spec_PlateOk.l0]; simp
   | [a], _ =>
    refine Eq.trans (show spec_PlateOk.l0 (k + 9) 0 o [a] = _ from plate_hole (k := k + 7) ho 0 (by simp) (by omega)) ?_
    have e1 : spec_PlateOk.l1 (k + 7) ((0 : Nat) : Int) a 0 o [a] = some true := by
     simp only [spec_PlateOk.l1]
     rw [if_neg (by omega), show wrap64 (((0 : Nat) : Int) + 1) = 1 by unfold wrap64; omega]
     simp only [spec_PlateOk.l0]
     rw [if_neg (by simp)]
    show (if holeOk o a then spec_PlateOk.l1 (k + 7) ((0 : Nat) : Int) a 0 o [a] else _) = _
    rw [e1]
    unfold holeOk
    simp only [List.map_cons, List.map_nil, List.all_cons, List.all_nil, Bool.and_true, Bool.true_and, fst_pt]
    generalize loopOk (a.map ptP) = t1
    generalize (inOf (o.map ptP) (fstP a) == 1) = t2
    generalize apartB (o.map ptP) (a.map ptP) = t3
    cases t1 <;> cases t2 <;> cases t3 <;> rfl
   | [a, b], _ =>
    refine Eq.trans (show spec_PlateOk.l0 (k + 9) 0 o [a, b] = _ from plate_hole (k := k + 7) ho 0 (by simp) (by omega)) ?_
    have e1 : spec_PlateOk.l1 (k + 7) ((0 : Nat) : Int) a 0 o [a, b] = if holeOk o b then spec_PlateOk.l1 (k + 4) ((1 : Nat) : Int) b 0 o [a, b] else some false := by
     simp only [spec_PlateOk.l1]
     rw [if_neg (by omega), show wrap64 (((0 : Nat) : Int) + 1) = ((1 : Nat) : Int) by unfold wrap64; omega, plate_hole (k := k + 4) ho 1 (by simp) (by omega)]
     rfl
    show (if holeOk o a then spec_PlateOk.l1 (k + 7) ((0 : Nat) : Int) a 0 o [a, b] else _) = _
    rw [e1]
    have hp : holeOk o a = true → holeOk o b = true → spec_PlateOk.l1 (k + 4) ((1 : Nat) : Int) b 0 o [a, b] = some (pairH b a) := by
     intro h1 h2
     have ha : loopOk (a.map ptP) = true := by unfold holeOk at h1; cases h : loopOk (a.map ptP) with | true => rfl | false => rw [h] at h1; cases h1
     have hb : loopOk (b.map ptP) = true := by unfold holeOk at h2; cases h : loopOk (b.map ptP) with | true => rfl | false => rw [h] at h2; cases h2
     obtain ⟨a3, _, _⟩ := ok_facts ha
     obtain ⟨b3, _, _⟩ := ok_facts hb
     simp only [spec_PlateOk.l1]
     rw [if_pos (by omega), if_pos (by omega), if_pos (by simp)]
     rw [show rd_L5 [a, b] 0 = a from rfl, sApart (by omega) hb ha, Option.bind_some]
     unfold pairH
     cases apartB (b.map ptP) (a.map ptP) with
     | false => rw [if_neg (by decide)]; rfl
     | true =>
      rw [if_pos rfl, if_pos (by omega), sL3Fst ha hb, Option.bind_some]
      by_cases e1 : inOf (a.map ptP) (fstP b) = -1
      ·
       rw [if_pos e1, if_pos (by omega), sL3Fst hb ha, Option.bind_some, e1]
       by_cases e2 : inOf (b.map ptP) (fstP a) = -1
       ·
        rw [if_pos e2, e2]
        have hw0 : wrap64 (0 + 1) = 1 := by unfold wrap64; omega
        rw [hw0, if_neg (by omega)]
        have hw2 : wrap64 (((1 : Nat) : Int) + 1) = 2 := by unfold wrap64; omega
        rw [hw2]
        simp only [spec_PlateOk.l0]
        rw [if_neg (by simp)]
        rfl
       ·
        rw [if_neg e2, beq_eq_false_iff_ne.2 e2]; rfl
      ·
       rw [if_neg e1, beq_eq_false_iff_ne.2 e1]; rfl
    have hc := Mort.apartB_comm (a.map ptP) (b.map ptP)
    simp only [List.map_cons, List.map_nil, List.all_cons, List.all_nil, Bool.and_true, Bool.true_and, fst_pt]
    cases h1 : holeOk o a with
    | false =>
     rw [if_neg (by decide)]
     unfold holeOk at h1
     revert h1
     generalize loopOk (a.map ptP) = t1
     generalize (inOf (o.map ptP) (fstP a) == 1) = t2
     generalize apartB (o.map ptP) (a.map ptP) = t3
     intro h1
     cases t1 <;> cases t2 <;> cases t3 <;> simp at h1 ⊢
    | true =>
     rw [if_pos rfl]
     cases h2 : holeOk o b with
     | false =>
      rw [if_neg (by decide)]
      unfold holeOk at h2
      revert h2
      generalize loopOk (b.map ptP) = t1
      generalize (inOf (o.map ptP) (fstP b) == 1) = t2
      generalize apartB (o.map ptP) (b.map ptP) = t3
      intro h2
      cases t1 <;> cases t2 <;> cases t3 <;> simp at h2 ⊢
     | true =>
      rw [if_pos rfl, hp h1 h2]
      unfold holeOk at h1 h2
      unfold pairH
      rw [hc]
      simp only [Bool.and_eq_true] at h1 h2
      rw [h1.1, h1.2.1, h1.2.2, h2.1, h2.2.1, h2.2.2]
      generalize apartB (b.map ptP) (a.map ptP) = t1
      generalize (inOf (b.map ptP) (fstP a) == -1) = t2
      generalize (inOf (a.map ptP) (fstP b) == -1) = t3
      cases t1 <;> cases t2 <;> cases t3 <;> rfl
  ·
   rw [decide_eq_true (by omega)]
   simp only [spec_PlateOk.j0]
   unfold plateOk pl
   simp only [List.length_map]
   rw [decide_eq_false h2]
   simp
theorem l11In_l0 {o : List S28} {H : List (List S28)} (hH : ∀ z ∈ H, loopOk (z.map ptP) = true) {x y : Int} (hp : ptOk (x, y) = true) :
  ∀ (m i k : Nat) (u : Int), H.length - i = m → i ≤ H.length → m < k → H.length ≤ 2 → (-1 ≤ u ∧ u ≤ 1) → spec_l11In.l0 k u (i : Int) o H x y = some ((H.drop i).foldl (fun u z => mn u (-inS z (x, y))) u) := by
 intro m
 induction m with
 | zero =>
  intro i k u hm hi hk h2 hu
  obtain ⟨k, rfl⟩ : ∃ q, k = q + 1 := ⟨k - 1, by omega⟩
  simp only [spec_l11In.l0]
  rw [if_neg (by omega), List.drop_of_length_le (by omega)]
  rfl
 | succ m ih =>
  intro i k u hm hi hk h2 hu
  obtain ⟨k, rfl⟩ : ∃ q, k = q + 1 := ⟨k - 1, by omega⟩
  simp only [spec_l11In.l0]
  have hlt : i < H.length := by omega
  have hg : rd_L5 H (i : Int) = H[i] := by show H.getD i [] = _; rw [List.getD_eq_getElem?_getD, List.getElem?_eq_getElem hlt]; rfl
  rw [if_pos (by omega), if_pos (by omega), hg, sL3In (hH _ (List.getElem_mem hlt)) hp, Option.bind_some, List.drop_eq_getElem_cons hlt, List.foldl_cons]
  have hv := Mort.inOf_vals (H[i].map ptP) (x, y)
  have hw : wrap64 (-inOf (H[i].map ptP) (x, y)) = -inOf (H[i].map ptP) (x, y) := w64i (by omega) (by omega)
  rw [hw, succ64 (by omega), ih (i + 1) k _ (by omega) (by omega) (by omega) h2 (by unfold mn; split <;> omega)]
  rfl
theorem sL11In {k : Nat} (hk : 10 ≤ k) {o : List S28} {H : List (List S28)} (h : plateOk (pl o H) = true) {x y : Int} (hp : ptOk (x, y) = true) : spec_l11In.f k o H x y = some (plateInOf (pl o H) (x, y)) := by
 have g := good_of h
 have ho : loopOk (o.map ptP) = true := g.outer
 have hH : ∀ z ∈ H, loopOk (z.map ptP) = true := fun z hz => g.holes _ (List.mem_map_of_mem hz)
 have h2 : H.length ≤ 2 := by have := g.few; unfold pl at this; simpa using this
 unfold spec_l11In.f
 rw [sL3In ho hp, Option.bind_some, show (0 : Int) = ((0 : Nat) : Int) from rfl, l11In_l0 hH hp H.length 0 k _ (by omega) (by omega) (by omega) h2 (by have := Mort.inOf_vals (o.map ptP) (x, y); omega), List.drop_zero]
 obtain ⟨s1, s2, s3⟩ := Mort.plateInOf_spec g (x, y)
 have gen : ∀ (R : List (List S28)) (u : Int), (-1 ≤ u ∧ u ≤ 1) → R.foldl (fun u z => mn u (-inS z (x, y))) u = if (∃ z ∈ R, inS z (x, y) = 1) then -1 else if (∃ z ∈ R, inS z (x, y) = 0) then (if u < 0 then u else 0) else u := by
  intro R
  induction R with
  | nil => intro u _; simp
  | cons z R ih =>
   intro u hu
   rw [List.foldl_cons]
   have hz := Mort.inOf_vals (z.map ptP) (x, y)
   have hz' : inS z (x, y) = 0 ∨ inS z (x, y) = 1 ∨ inS z (x, y) = -1 := hz
   rw [ih _ (by unfold mn; split <;> omega)]
   have e1 : (∃ w ∈ z :: R, inS w (x, y) = 1) ↔ inS z (x, y) = 1 ∨ ∃ w ∈ R, inS w (x, y) = 1 := by simp
   have e0 : (∃ w ∈ z :: R, inS w (x, y) = 0) ↔ inS z (x, y) = 0 ∨ ∃ w ∈ R, inS w (x, y) = 0 := by simp
   have m1 : inS z (x, y) = 1 → mn u (-inS z (x, y)) = -1 := fun e => by rw [e]; unfold mn; split <;> omega
   have m0 : inS z (x, y) = 0 → mn u (-inS z (x, y)) = if u < 0 then u else 0 := fun e => by rw [e]; unfold mn; (repeat' split) <;> omega
   have mm : inS z (x, y) = -1 → mn u (-inS z (x, y)) = u := fun e => by rw [e]; unfold mn; split <;> omega
   have mt : (if (if u < 0 then u else 0) < 0 then (if u < 0 then u else 0) else 0) = if u < 0 then u else 0 := by (repeat' split) <;> omega
   by_cases r1 : ∃ w ∈ R, inS w (x, y) = 1
   ·
    rw [if_pos r1, if_pos (e1.2 (.inr r1))]
   ·
    rw [if_neg r1]
    by_cases r0 : ∃ w ∈ R, inS w (x, y) = 0
    ·
     rw [if_pos r0]
     rcases hz' with z0 | z1 | zm
     ·
      rw [if_neg (fun q => (e1.1 q).elim (by rw [z0]; decide) r1), if_pos (e0.2 (.inr r0)), m0 z0, mt]
     ·
      rw [if_pos (e1.2 (.inl z1)), m1 z1]; rfl
     ·
      rw [if_neg (fun q => (e1.1 q).elim (by rw [zm]; decide) r1), if_pos (e0.2 (.inr r0)), mm zm]
    ·
     rw [if_neg r0]
     rcases hz' with z0 | z1 | zm
     ·
      rw [if_neg (fun q => (e1.1 q).elim (by rw [z0]; decide) r1), if_pos (e0.2 (.inl z0)), m0 z0]
     ·
      rw [if_pos (e1.2 (.inl z1)), m1 z1]
     ·
      rw [if_neg (fun q => (e1.1 q).elim (by rw [zm]; decide) r1), if_neg (fun q => (e0.1 q).elim (by rw [zm]; decide) r0), mm zm]
 have hvo := Mort.inOf_vals (o.map ptP) (x, y)
 have hoq : (pl o H).1 = o.map ptP := rfl
 have mem : ∀ z ∈ H, z.map ptP ∈ (pl o H).2 := fun z hz => List.mem_map_of_mem hz
 rw [gen H _ (by omega)]
 congr 1
 by_cases q0 : inOf (o.map ptP) (x, y) = 0
 ·
  obtain ⟨p1, p2⟩ := s1 q0
  rw [if_neg (fun ⟨z, hz, e⟩ => by have := p2 _ (mem z hz); have e' : inOf (z.map ptP) (x, y) = 1 := e; omega), if_neg (fun ⟨z, hz, e⟩ => by have := p2 _ (mem z hz); have e' : inOf (z.map ptP) (x, y) = 0 := e; omega), p1, q0]
 ·
  by_cases r0 : ∃ z ∈ H, inS z (x, y) = 0
  ·
   obtain ⟨z, hz, e⟩ := r0
   obtain ⟨p1, p2⟩ := s2 ⟨_, mem z hz, e⟩
   have hno : ¬ ∃ w ∈ H, inS w (x, y) = 1 := by
    rintro ⟨w, hw, e1⟩
    have hon := (Mort.inOf_zero _ _).1 (show inOf (z.map ptP) (x, y) = 0 from e)
    have e1' : inOf (w.map ptP) (x, y) = 1 := e1
    match H, h2, hz, hw, g with
    | [a], _, hz, hw, _ => simp only [List.mem_singleton] at hz hw; subst hz; subst hw; have e' : inOf (w.map ptP) (x, y) = 0 := e; omega
    | [a, b], _, hz, hw, g =>
     obtain ⟨o1, o2⟩ := Mort.PlateGood.on_other g (a := a.map ptP) (b := b.map ptP) rfl (p := (x, y))
     have e' : inOf (z.map ptP) (x, y) = 0 := e
     simp only [List.mem_cons, List.not_mem_nil, or_false] at hz hw
     rcases hz with rfl | rfl <;> rcases hw with rfl | rfl
     ·
      omega
     ·
      have := o1 hon; omega
     ·
      have := o2 hon; omega
     ·
      omega
   have p2' : inOf (o.map ptP) (x, y) = 1 := p2
   rw [if_neg hno, if_pos ⟨z, hz, e⟩, p1, p2', if_neg (by omega)]
  ·
   have all0 : ∀ y' ∈ (pl o H).2, inOf y' (x, y) ≠ 0 := by
    intro y' hy e
    obtain ⟨z, hz, rfl⟩ := List.mem_map.1 hy
    exact r0 ⟨z, hz, e⟩
   rw [s3 q0 all0]
   by_cases r1 : ∃ z ∈ H, inS z (x, y) = 1
   ·
    rw [if_pos r1, if_neg]
    rintro ⟨_, hh⟩
    obtain ⟨z, hz, e⟩ := r1
    have := hh _ (mem z hz)
    have e' : inOf (z.map ptP) (x, y) = 1 := e
    omega
   ·
    rw [if_neg r1, if_neg r0]
    have allm : ∀ y' ∈ (pl o H).2, inOf y' (x, y) = -1 := by
     intro y' hy
     have h2 := all0 y' hy
     obtain ⟨z, hz, rfl⟩ := List.mem_map.1 hy
     rcases Mort.inOf_vals (z.map ptP) (x, y) with e | e | e
     ·
      exact absurd e h2
     ·
      exact absurd ⟨z, hz, e⟩ r1
     ·
      exact e
    rw [hoq]
    rcases hvo with e | e | e
    ·
     exact absurd e q0
    ·
     rw [if_pos ⟨e, allm⟩, e]
    ·
     rw [if_neg (by omega), e]
theorem sPlateIn {k : Nat} (hk : 1000 ≤ k) (o : List S28) (H : List (List S28)) (x y : Int) : spec_PlateIn.f k o H x y = some (plateIn (pl o H) (x, y)) := by
 unfold spec_PlateIn.f plateIn
 rw [sPlateOk hk, Option.bind_some]
 cases h : plateOk (pl o H) with
 | false => rw [if_neg (by decide)]; rfl
 | true =>
  rw [if_pos rfl, sPtOk, Option.bind_some]
  cases hp : ptOk (x, y) with
  | false => rw [if_neg (by decide)]; rfl
  | true => rw [if_pos rfl, sL11In (by omega) h hp]; rfl
end Go.Proofs.YtkefmnmoaomlhaaDoor.X
end
section
set_option linter.unusedVariables false
set_option linter.unusedSimpArgs false
namespace Mort
def farL (es : List Seg) (p : Pt) : Frac := match es with
 | [] => (0, 0)
 | e :: r => r.foldl (fun a s => least a (segFar s p)) (segFar e p)
def plateFar (P : Plate) (p : Pt) : Frac := if plateOk P && ptOk p then farL (plateEdges P) p else (0, 0)
theorem fold_least {p : Pt} (hp : ptOk p = true) : ∀ (r : List Seg) (a : Frac), fracOk a = true → (∀ e ∈ r, segOk e = true) →
  fracOk (r.foldl (fun a s => least a (segFar s p)) a) = true ∧ val (r.foldl (fun a s => least a (segFar s p)) a) ≤ val a ∧ (∀ e ∈ r, val (r.foldl (fun a s => least a (segFar s p)) a) ≤ val (segFar e p)) ∧
  (r.foldl (fun a s => least a (segFar s p)) a = a ∨ ∃ e ∈ r, r.foldl (fun a s => least a (segFar s p)) a = segFar e p) := by
 intro r
 induction r with
 | nil => intro a ha _; exact ⟨ha, Rat.le_refl, fun e he => by simp at he, .inl rfl⟩
 | cons s r ih =>
  intro a ha hr
  have hs := (segFar_ok (hr s List.mem_cons_self) hp).1
  obtain ⟨⟨l1, l2⟩, l3⟩ := val_least ha hs
  obtain ⟨i1, i2, i3, i4⟩ := ih (least a (segFar s p)) (least_ok ha hs) (fun e he => hr e (List.mem_cons_of_mem _ he))
  rw [List.foldl_cons]
  refine ⟨i1, Rat.le_trans i2 l1, fun e he => ?_, ?_⟩
  ·
   rcases List.mem_cons.1 he with rfl | he
   ·
    exact Rat.le_trans i2 l2
   ·
    exact i3 e he
  ·
   rcases i4 with h | ⟨e, he, h⟩
   ·
    rw [h]
    rcases l3 with h3 | h3
    ·
     exact .inl h3
    ·
     exact .inr ⟨s, List.mem_cons_self, h3⟩
   ·
    exact .inr ⟨e, List.mem_cons_of_mem _ he, h⟩
theorem farL_spec {es : List Seg} {p : Pt} (hp : ptOk p = true) (hne : 0 < es.length) (hok : ∀ e ∈ es, segOk e = true) :
  fracOk (farL es p) = true ∧ (∀ e ∈ es, val (farL es p) ≤ val (segFar e p)) ∧ ∃ e ∈ es, farL es p = segFar e p := by
 cases es with
 | nil => simp at hne
 | cons e r =>
  obtain ⟨i1, i2, i3, i4⟩ := fold_least hp r (segFar e p) (segFar_ok (hok e List.mem_cons_self) hp).1 (fun s hs => hok s (List.mem_cons_of_mem _ hs))
  refine ⟨i1, fun s hs => ?_, ?_⟩
  ·
   rcases List.mem_cons.1 hs with rfl | hs
   ·
    exact i2
   ·
    exact i3 s hs
  ·
   rcases i4 with h | ⟨s, hs, h⟩
   ·
    exact ⟨e, List.mem_cons_self, h⟩
   ·
    exact ⟨s, List.mem_cons_of_mem _ hs, h⟩
theorem plateEdges_ok {P : Plate} (g : PlateGood P) : (∀ e ∈ plateEdges P, segOk e = true) ∧ 0 < (plateEdges P).length := by
 refine ⟨fun e he => ?_, ?_⟩
 ·
  unfold plateEdges at he
  rcases List.mem_append.1 he with he | he
  ·
   exact ((loopOk_iff _).1 g.outer).2.2.1 e he
  ·
   obtain ⟨h, hh, he⟩ := List.mem_flatMap.1 he
   exact ((loopOk_iff _).1 (g.holes h hh)).2.2.1 e he
 ·
  unfold plateEdges
  rw [List.length_append, edges_length]
  have := loop_pos g.outer
  omega
end Mort
namespace Go.Proofs.YtkefmnmoaomlhaaDoor.X
open Go.RowKit Go.Proofs.YtkefmnmoaomlhaaDoorW.PrintWords Go.Proofs.YtkefmnmoaomlhaaDoorW.PrintLast Go.Proofs.YtkefmnmoaomlhaaDoorW.PrintMore
open Mort (edges loopOk ptOk segOk has meet ed pairOk joined apartB plateOk plateInOf plateIn PlateGood inOf segMeet segFar least fracOk fracCmp cmp0 farL plateFar plateEdges)
theorem edgesS_eq (z : List S28) : edgesS z = esOf z := by
 unfold edgesS esOf
 apply List.ext_getElem
 ·
  simp
 ·
  intro i h1 h2; simp
theorem allEdges_pl (o : List S28) (H : List (List S28)) : (allEdges (o :: H)).map sgP = plateEdges (pl o H) := by
 unfold allEdges plateEdges pl
 rw [List.flatMap_cons, List.map_append, edgesS_eq, esOf_edges]
 congr 1
 induction H with
 | nil => rfl
 | cons z H ih => rw [List.flatMap_cons, List.map_append, edgesS_eq, esOf_edges, List.map_cons, List.flatMap_cons, ih]
theorem farE_L (E : List S61) (p : Mort.Pt) : farE E p = farL (E.map sgP) p := by
 cases E with
 | nil => rfl
 | cons e r =>
  show r.foldl _ _ = (r.map sgP).foldl _ _
  rw [List.foldl_map]
theorem iPlateFar (o : List S28) (H : List (List S28)) (x y : Int) : impl_PlateFar.f o H x y = some ((plateFar (pl o H) (x, y)).1, (plateFar (pl o H) (x, y)).2) := by
 unfold impl_PlateFar.f plateFar
 rw [iBodyOk, farE_L, allEdges_pl]
theorem far_ok {o : List S28} {H : List (List S28)} (h : plateOk (pl o H) = true) {p : Mort.Pt} (hp : ptOk p = true) : fracOk (farL (plateEdges (pl o H)) p) = true := by
 obtain ⟨h1, h2⟩ := Mort.plateEdges_ok (good_of h)
 exact (Mort.farL_spec hp h2 h1).1
end Go.Proofs.YtkefmnmoaomlhaaDoor.X
end
section
set_option linter.unusedVariables false
set_option linter.unusedSimpArgs false
namespace Go.Proofs.YtkefmnmoaomlhaaDoor.X
open Go.RowKit Go.Proofs.YtkefmnmoaomlhaaDoorW.PrintWords Go.Proofs.YtkefmnmoaomlhaaDoorW.PrintLast Go.Proofs.YtkefmnmoaomlhaaDoorW.PrintMore
def Tells {α : Type} (K : Nat) (f : Nat → Option α) (P : α → Prop) : Prop := ∃ a, (∀ k, K ≤ k → f k = some a) ∧ P a
namespace Tells
variable {α β : Type} {K : Nat} {P : α → Prop} {Q : β → Prop}
theorem bind {f : Nat → Option α} {g : α → Nat → Option β} (h : Tells K f P) (hg : ∀ a, P a → Tells K (g a) Q) : Tells K (fun k => (f k).bind fun a => g a k) Q := by
 obtain ⟨a, h1, h2⟩ := h
 obtain ⟨b, h3, h4⟩ := hg a h2
 exact ⟨b, fun k hk => by show (f k).bind _ = _; rw [h1 k hk, Option.bind_some, h3 k hk], h4⟩
theorem ret (a : α) (h : P a) : Tells K (fun _ => some a) P := ⟨a, fun _ _ => rfl, h⟩
theorem ite {c : Prop} [Decidable c] {f g : Nat → Option α} (h1 : c → Tells K f P) (h2 : ¬ c → Tells K g P) : Tells K (fun k => if c then f k else g k) P := by
 by_cases h : c
 ·
  obtain ⟨a, e, p⟩ := h1 h
  exact ⟨a, fun k hk => by show (if c then _ else _) = _; rw [if_pos h, e k hk], p⟩
 ·
  obtain ⟨a, e, p⟩ := h2 h
  exact ⟨a, fun k hk => by show (if c then _ else _) = _; rw [if_neg h, e k hk], p⟩
theorem guard {c : Prop} [Decidable c] {f : Nat → Option α} (h : c) (h1 : Tells K f P) : Tells K (fun k => if c then f k else none) P := ite (fun _ => h1) (fun n => absurd h n)
theorem nay {c : Prop} [Decidable c] {f : Nat → Option α} (h : ¬ c) (h1 : Tells K f P) : Tells K (fun k => if c then none else f k) P := ite (fun n => absurd n h) (fun _ => h1)
theorem up {K' : Nat} {f : Nat → Option α} (hk : K ≤ K') (h : Tells K f P) : Tells K' f P := by
 obtain ⟨a, e, p⟩ := h
 exact ⟨a, fun k hk' => e k (by omega), p⟩
theorem mono {P' : α → Prop} {f : Nat → Option α} (h : Tells K f P) (hp : ∀ a, P a → P' a) : Tells K f P' := by
 obtain ⟨a, e, p⟩ := h
 exact ⟨a, e, hp a p⟩
theorem succ {f g : Nat → Option α} (hf : ∀ k, f (k + 1) = g k) (h : Tells K g P) : Tells (K + 1) f P := by
 obtain ⟨a, e, p⟩ := h
 refine ⟨a, fun k hk => ?_, p⟩
 obtain ⟨k, rfl⟩ : ∃ q, k = q + 1 := ⟨k - 1, by omega⟩
 rw [hf, e k (by omega)]
theorem same {f g : Nat → Option α} (hf : ∀ k, f k = g k) (h : Tells K g P) : Tells K f P := by
 obtain ⟨a, e, p⟩ := h
 exact ⟨a, fun k hk => by rw [hf, e k hk], p⟩
end Tells
section
variable {l : List Int} (hl : Bytes l)
include hl
theorem tPick {K : Nat} (hK : 1 ≤ K) {p n : Int} (hp : 0 ≤ p) (hp' : p ≤ 1000000) (hn : 1 ≤ n) (hn' : n ≤ 1000000) : Tells K (fun k => spec_l6Rd_pick.f k l p n) fun a => 0 ≤ a.1 ∧ a.1 < n ∧ a.2 = p + 1 := by
 obtain ⟨r, h1, h2, h3⟩ := pick_told hl hp hp' hn hn'
 exact ⟨(r, p + 1), fun k hk => h1 k (by omega), h2, h3, rfl⟩
theorem tPt {K : Nat} (hK : 1 ≤ K) {p : Int} (hp : 0 ≤ p) (hp' : p ≤ 900000) : Tells K (fun k => spec_l71Pt.f k l p) fun a => p ≤ a.2.2 ∧ a.2.2 ≤ p + 10 := by
 unfold spec_l71Pt.f
 refine Tells.bind (tPick hl hK hp (by omega) (by omega) (by omega)) ?_
 rintro ⟨r1, q1⟩ ⟨a1, b1, c1⟩
 simp only at a1 b1 c1 ⊢
 refine Tells.bind (tPick hl hK (by omega) (by omega) (by omega) (by omega)) ?_
 rintro ⟨r2, q2⟩ ⟨a2, b2, c2⟩
 simp only at a2 b2 c2 ⊢
 refine Tells.bind (tPick hl hK (by omega) (by omega) (by omega) (by omega)) ?_
 rintro ⟨r3, q3⟩ ⟨a3, b3, c3⟩
 simp only at a3 b3 c3 ⊢
 refine Tells.ite (fun h => ?_) (fun h => Tells.ite (fun h' => ?_) (fun h' => ?_))
 ·
  refine Tells.bind (Tells.ret (P := fun a => a = [(-1), 10]) _ rfl) ?_
  rintro y rfl
  refine Tells.bind (tPick hl hK (by omega) (by omega) (by omega) (by omega)) ?_
  rintro ⟨r4, q4⟩ ⟨a4, b4, c4⟩
  simp only at a4 b4 c4 ⊢
  exact Tells.guard (by omega) (Tells.guard (by simpa using b4) (Tells.ret _ (by simp only; omega)))
 ·
  refine Tells.bind (Tells.ret (P := fun a => a = [(-1), 10]) _ rfl) ?_
  rintro y rfl
  refine Tells.bind (tPick hl hK (by omega) (by omega) (by omega) (by omega)) ?_
  rintro ⟨r4, q4⟩ ⟨a4, b4, c4⟩
  simp only at a4 b4 c4 ⊢
  exact Tells.guard (by omega) (Tells.guard (by simpa using b4) (Tells.ret _ (by simp only; omega)))
 ·
  exact Tells.ret _ (by simp only; omega)
theorem tBox {K : Nat} (hK : 1 ≤ K) {p a1 a2 a3 a4 : Int} (hp : 0 ≤ p) (hp' : p ≤ 900000) : Tells K (fun k => spec_l71Box.f k l p a1 a2 a3 a4) fun a => (3 ≤ a.1.length ∧ a.1.length ≤ 6) ∧ p ≤ a.2 ∧ a.2 ≤ p + 10 := by
 unfold spec_l71Box.f
 refine Tells.bind (Tells.ret (P := fun a => a.length = 4) _ rfl) ?_
 intro y hy
 have hy' : (y.length : Int) = 4 := by omega
 refine Tells.bind (tPick hl hK hp (by omega) (by omega) (by omega)) ?_
 rintro ⟨r1, q1⟩ ⟨a1, b1, c1⟩
 simp only at a1 b1 c1 ⊢
 rw [hy']
 repeat' first
  | (refine Tells.ret _ ⟨⟨?_, ?_⟩, ?_, ?_⟩ <;> first | omega | (simp; done) | (simp [hy]; done) | (simp only [List.length_take]; omega))
  | (refine Tells.guard (by omega) ?_)
  | (refine Tells.ite (fun _ => ?_) (fun _ => ?_))
theorem tLoopL {K : Nat} (hK : 1 ≤ K) : ∀ (m : Nat) (z : List S28) (i p : Int), i < m → -1 ≤ i → i ≤ 100 → 3 ≤ z.length → z.length ≤ 1000 → 0 ≤ p → p + 10 * m ≤ 900000 → Tells (K + m + 1) (fun k => spec_l71Loop.l0 k z i l p) fun a => a.1.length = z.length ∧ p ≤ a.2 ∧ a.2 ≤ p + 10 * m := by
 intro m
 induction m with
 | zero =>
  intro z i p hm hi hi' hz hz' hp hp'
  refine Tells.succ (fun k => by simp only [spec_l71Loop.l0]; exact rfl) ?_
  exact Tells.ite (fun h => by omega) (fun _ => Tells.ret _ ⟨rfl, Int.le_refl _, by show p ≤ p + 10 * _; omega⟩)
 | succ m ih =>
  intro z i p hm hi hi' hz hz' hp hp'
  refine Tells.succ (K := K + (m + 1)) (fun k => by simp only [spec_l71Loop.l0]; exact rfl) ?_
  refine Tells.ite (fun h => ?_) (fun _ => Tells.ret _ ⟨rfl, Int.le_refl _, by show p ≤ p + 10 * _; omega⟩)
  refine Tells.nay (by omega) ?_
  refine Tells.bind (tPt hl (by omega) hp (by omega)) ?_
  rintro ⟨x, y, q⟩ ⟨h1, h2⟩
  simp only at h1 h2 ⊢
  have t1 : 0 ≤ Int.tmod i z.length := Int.tmod_nonneg _ (by omega)
  have t2 : Int.tmod i z.length < z.length := Int.tmod_lt_of_pos _ (by omega)
  refine Tells.guard t1 (Tells.guard t2 ?_)
  refine Tells.mono (ih _ (wrap64 (i - 1)) q (by unfold wrap64; omega) (by unfold wrap64; omega) (by unfold wrap64; omega) (by rw [List.length_set]; omega) (by rw [List.length_set]; omega) (by omega) (by omega)) ?_
  rintro ⟨b, u⟩ ⟨g1, g2, g3⟩
  rw [List.length_set] at g1
  simp only at g1 g2 g3 ⊢
  omega
theorem tLoop {K : Nat} (hK : 20 ≤ K) {p : Int} (hp : 0 ≤ p) (hp' : p ≤ 800000) : Tells K (fun k => spec_l71Loop.f k l p) fun a => a.1.length ≤ 100 ∧ p ≤ a.2 ∧ a.2 ≤ p + 200 := by
 unfold spec_l71Loop.f
 refine Tells.bind (tPick hl (by omega) hp (by omega) (by omega) (by omega)) ?_
 rintro ⟨r1, q1⟩ ⟨a1, b1, c1⟩
 simp only at a1 b1 c1 ⊢
 refine Tells.bind (tPick hl (by omega) (by omega) (by omega) (by omega) (by omega)) ?_
 rintro ⟨r2, q2⟩ ⟨a2, b2, c2⟩
 simp only at a2 b2 c2 ⊢
 refine Tells.bind (tPick hl (by omega) (by omega) (by omega) (by unfold wrap64; omega) (by unfold wrap64; omega)) ?_
 rintro ⟨r3, q3⟩ ⟨a3, b3, c3⟩
 simp only at a3 b3 c3 ⊢
 refine Tells.bind (tPick hl (by omega) (by omega) (by omega) (by unfold wrap64; omega) (by unfold wrap64; omega)) ?_
 rintro ⟨r4, q4⟩ ⟨a4, b4, c4⟩
 simp only at a4 b4 c4 ⊢
 refine Tells.bind (tBox hl (by omega) (by omega) (by omega)) ?_
 rintro ⟨z, q5⟩ ⟨⟨a5, b5⟩, c5, d5⟩
 simp only at a5 b5 c5 d5 ⊢
 refine Tells.bind (tPick hl (by omega) (by omega) (by omega) (by omega) (by omega)) ?_
 rintro ⟨r6, q6⟩ ⟨a6, b6, c6⟩
 simp only at a6 b6 c6 ⊢
 refine Tells.ite (fun _ => ?_) (fun _ => Tells.ite (fun _ => ?_) (fun _ => Tells.ite (fun _ => ?_) (fun _ => ?_)))
 ·
  refine Tells.bind (tPt hl (by omega) (by omega) (by omega)) ?_
  rintro ⟨x, y, q⟩ ⟨h1, h2⟩
  simp only at h1 h2 ⊢
  exact Tells.guard (by omega) (Tells.ret _ (by simp only [List.length_append, List.length_cons, List.length_nil]; omega))
 ·
  refine Tells.bind (tPick hl (by omega) (by omega) (by omega) (by omega) (by omega)) ?_
  rintro ⟨r7, q7⟩ ⟨a7, b7, c7⟩
  simp only at a7 b7 c7 ⊢
  refine Tells.bind (tPt hl (by omega) (by omega) (by omega)) ?_
  rintro ⟨x, y, q⟩ ⟨h1, h2⟩
  simp only at h1 h2 ⊢
  exact Tells.guard (by omega) (Tells.guard (by omega) (Tells.ret _ (by simp only [List.length_set]; omega)))
 ·
  refine Tells.bind (tPick hl (by omega) (by omega) (by omega) (by omega) (by omega)) ?_
  rintro ⟨r7, q7⟩ ⟨a7, b7, c7⟩
  simp only at a7 b7 c7 ⊢
  refine Tells.up (K := 1 + 7 + 1) (by omega) (Tells.mono (tLoopL hl (K := 1) (by omega) 7 z r7 q7 (by omega) (by omega) (by omega) (by omega) (by omega) (by omega) (by omega)) ?_)
  rintro ⟨b, u⟩ ⟨g1, g2, g3⟩
  simp only at g1 g2 g3 ⊢
  omega
 ·
  exact Tells.ret _ (by simp only; omega)
end
section
variable {l : List Int} (hl : Bytes l)
include hl
theorem tGoodL {K : Nat} (hK : 1000 ≤ K) : ∀ (m : Nat) (x3 x4 x5 x6 i p : Int) (o : List S28) (H : List (List S28)), i ≤ m → i ≤ 100 → (0 ≤ x3 ∧ x3 ≤ 20) → (0 ≤ x4 ∧ x4 ≤ 20) → (3 ≤ x5 ∧ x5 ≤ 20) → (3 ≤ x6 ∧ x6 ≤ 20) → H.length + m ≤ 100 → o.length ≤ 100 → 0 ≤ p → p + 20 * m ≤ 900000 →
    Tells (K + m + 1) (fun k => spec_l71Good.l0 k x3 x4 x5 x6 i l p o H) fun a => a.1.length ≤ 100 ∧ a.2.1.length ≤ 100 ∧ p ≤ a.2.2 ∧ a.2.2 ≤ p + 20 * m := by
  intro m
  induction m with
  | zero =>
    intro x3 x4 x5 x6 i p o H hm hi h3 h4 h5 h6 hH ho hp hp'
    refine Tells.succ (fun k => by simp only [spec_l71Good.l0]; exact rfl) ?_
    exact Tells.ite (fun h => by omega) (fun _ => Tells.ret _ ⟨ho, by show H.length ≤ 100; omega, Int.le_refl _, by show p ≤ p + 20 * _; omega⟩)
  | succ m ih =>
    intro x3 x4 x5 x6 i p o H hm hi h3 h4 h5 h6 hH ho hp hp'
    refine Tells.succ (K := K + (m + 1)) (fun k => by simp only [spec_l71Good.l0]; exact rfl) ?_
    refine Tells.ite (fun h => ?_) (fun _ => Tells.ret _ ⟨ho, by show H.length ≤ 100; omega, Int.le_refl _, by show p ≤ p + 20 * _; omega⟩)
    refine Tells.bind (tPick hl (by omega) hp (by omega) (by unfold wrap64; omega) (by unfold wrap64; omega)) ?_
    rintro ⟨r1, q1⟩ ⟨a1, b1, c1⟩
    simp only at a1 b1 c1 ⊢
    refine Tells.bind (tPick hl (by omega) (by omega) (by omega) (by unfold wrap64; omega) (by unfold wrap64; omega)) ?_
    rintro ⟨r2, q2⟩ ⟨a2, b2, c2⟩
    simp only at a2 b2 c2 ⊢
    refine Tells.bind (tPick hl (by omega) (by omega) (by omega) (by omega) (by omega)) ?_
    rintro ⟨r3, q3⟩ ⟨a3, b3, c3⟩
    simp only at a3 b3 c3 ⊢
    refine Tells.bind (tPick hl (by omega) (by omega) (by omega) (by omega) (by omega)) ?_
    rintro ⟨r4, q4⟩ ⟨a4, b4, c4⟩
    simp only at a4 b4 c4 ⊢
    refine Tells.bind (tBox hl (by omega) (by omega) (by omega)) ?_
    rintro ⟨z, q5⟩ ⟨_, c5, d5⟩
    simp only at c5 d5 ⊢
    refine Tells.bind (Tells.ret (P := fun a => a = []) _ rfl) ?_
    rintro y rfl
    refine Tells.guard (by simp; omega) ?_
    refine Tells.bind (Tells.ret (P := fun a => a = H) _ rfl) ?_
    rintro y rfl
    refine Tells.guard (by omega) ?_
    refine Tells.bind (Tells.ret (P := fun a => a.length = y.length + 1) _ (by simp)) ?_
    intro y2 hy2
    refine Tells.bind (P := fun _ => True) ⟨_, fun k hk => sPlateOk (by omega) o y2, trivial⟩ ?_
    intro t _
    have hw : wrap64 (i - 1) = i - 1 := w64i (by omega) (by omega)
    by_cases hneg : 0 ≤ i
    · rw [hw]
      refine Tells.ite (fun _ => ?_) (fun _ => ?_)
      · refine Tells.mono (ih x3 x4 x5 x6 (i - 1) q5 o y2 (by omega) (by omega) h3 h4 h5 h6 (by omega) ho (by omega) (by omega)) ?_
        rintro ⟨u1, u2, u3⟩ ⟨g1, g2, g3, g4⟩
        simp only at g1 g2 g3 g4 ⊢
        omega
      · refine Tells.mono (ih x3 x4 x5 x6 (i - 1) q5 o y (by omega) (by omega) h3 h4 h5 h6 (by omega) ho (by omega) (by omega)) ?_
        rintro ⟨u1, u2, u3⟩ ⟨g1, g2, g3, g4⟩
        simp only at g1 g2 g3 g4 ⊢
        omega
    · omega
theorem tGood {K : Nat} (hK : 1010 ≤ K) {p : Int} (hp : 0 ≤ p) (hp' : p ≤ 800000) : Tells K (fun k => spec_l71Good.f k l p) fun a => a.1.length ≤ 100 ∧ a.2.1.length ≤ 100 ∧ p ≤ a.2.2 ∧ a.2.2 ≤ p + 100 := by
  unfold spec_l71Good.f
  refine Tells.bind (tPick hl (by omega) hp (by omega) (by omega) (by omega)) ?_
  rintro ⟨r1, q1⟩ ⟨a1, b1, c1⟩
  simp only at a1 b1 c1 ⊢
  refine Tells.bind (tPick hl (by omega) (by omega) (by omega) (by omega) (by omega)) ?_
  rintro ⟨r2, q2⟩ ⟨a2, b2, c2⟩
  simp only at a2 b2 c2 ⊢
  refine Tells.bind (tPick hl (by omega) (by omega) (by omega) (by unfold wrap64; omega) (by unfold wrap64; omega)) ?_
  rintro ⟨r3, q3⟩ ⟨a3, b3, c3⟩
  have b3' : r3 < 9 - r1 - 3 := by have e : wrap64 (wrap64 (9 - r1) - 3) = 9 - r1 - 3 := by unfold wrap64; omega
                                   simp only at b3; omega
  simp only at a3 c3 ⊢
  refine Tells.bind (tPick hl (by omega) (by omega) (by omega) (by unfold wrap64; omega) (by unfold wrap64; omega)) ?_
  rintro ⟨r4, q4⟩ ⟨a4, b4, c4⟩
  have b4' : r4 < 9 - r2 - 3 := by have e : wrap64 (wrap64 (9 - r2) - 3) = 9 - r2 - 3 := by unfold wrap64; omega
                                   simp only at b4; omega
  simp only at a4 c4 ⊢
  have e1 : wrap64 (4 + r3) = 4 + r3 := w64i (by omega) (by omega)
  have e2 : wrap64 (4 + r4) = 4 + r4 := w64i (by omega) (by omega)
  rw [e1, e2]
  refine Tells.bind (tBox hl (by omega) (by omega) (by omega)) ?_
  rintro ⟨z, q5⟩ ⟨⟨_, z5⟩, c5, d5⟩
  simp only at z5 c5 d5 ⊢
  refine Tells.bind (tPick hl (by omega) (by omega) (by omega) (by omega) (by omega)) ?_
  rintro ⟨r6, q6⟩ ⟨a6, b6, c6⟩
  simp only at a6 b6 c6 ⊢
  refine Tells.up (K := 1000 + 2 + 1) (by omega) (Tells.mono (tGoodL hl (K := 1000) (by omega) 2 r1 r2 (4 + r3) (4 + r4) r6 q6 z [] (by omega) (by omega) (by omega) (by omega) (by omega) (by omega) (by simp) (by omega) (by omega) (by omega)) ?_)
  rintro ⟨u1, u2, u3⟩ ⟨g1, g2, g3, g4⟩
  simp only at g1 g2 g3 g4 ⊢
  omega
theorem tPlate {K : Nat} (hK : 1010 ≤ K) {p : Int} (hp : 0 ≤ p) (hp' : p ≤ 700000) : Tells K (fun k => spec_l71Plate.f k l p) fun a => p ≤ a.2.2 ∧ a.2.2 ≤ p + 1000 := by
  unfold spec_l71Plate.f
  refine Tells.bind (tGood hl hK hp (by omega)) ?_
  rintro ⟨o, H, q⟩ ⟨g1, g2, g3, g4⟩
  simp only at g1 g2 g3 g4 ⊢
  refine Tells.bind (tPick hl (by omega) (by omega) (by omega) (by omega) (by omega)) ?_
  rintro ⟨r1, q1⟩ ⟨a1, b1, c1⟩
  simp only at a1 b1 c1 ⊢
  refine Tells.ite (fun _ => ?_) (fun _ => Tells.ite (fun _ => ?_) (fun _ => Tells.ite (fun _ => ?_) (fun _ => ?_)))
  · refine Tells.bind (tLoop hl (by omega) (by omega) (by omega)) ?_
    rintro ⟨z, q2⟩ ⟨h1, h2, h3⟩
    simp only at h1 h2 h3 ⊢
    exact Tells.ret _ (by simp only; omega)
  · refine Tells.bind (tLoop hl (by omega) (by omega) (by omega)) ?_
    rintro ⟨z, q2⟩ ⟨h1, h2, h3⟩
    simp only at h1 h2 h3 ⊢
    exact Tells.guard (by omega) (Tells.ret _ (by simp only; omega))
  · refine Tells.bind (Tells.ret (P := fun a => a = []) _ rfl) ?_
    rintro y rfl
    refine Tells.guard (by simp; omega) ?_
    refine Tells.bind (Tells.ret (P := fun a => a = o) _ rfl) ?_
    rintro y rfl
    refine Tells.bind (tPt hl (by omega) (by omega) (by omega)) ?_
    rintro ⟨x, y', q2⟩ ⟨h1, h2⟩
    simp only at h1 h2 ⊢
    exact Tells.guard (by omega) (Tells.ret _ (by simp only; omega))
  · exact Tells.ret _ (by simp only; omega)
end
theorem tPlatePt {m : List Int} (hm : Bytes m) : Tells 400000 (fun k => (spec_l71Plate.f k m 0).bind fun bt => ((spec_l71Pt.f k m bt.2.2).bind fun bp => (some (bt.1, bt.2.1, bp.1, bp.2.1)))) fun _ => True := by
 refine Tells.bind (tPlate hm (by omega) (by omega) (by omega)) ?_
 rintro ⟨o, H, q⟩ ⟨g3, g4⟩
 simp only at g3 g4 ⊢
 refine Tells.bind (tPt hm (by omega) (by omega) (by omega)) ?_
 rintro ⟨x, y, q2⟩ _
 exact Tells.ret _ trivial
theorem drawPlateIn (l : List Int) (h : ∀ x ∈ l, (Lit.int .u8 x).wf = true) : ∃ o H x y, ∀ k, 400000 ≤ k → spec_DrawPlateIn.f k l = some (o, H, x, y) := by
 obtain ⟨m, hm, hb⟩ := open_told l h
 obtain ⟨⟨o, H, x, y⟩, ht, _⟩ := tPlatePt hb
 exact ⟨o, H, x, y, fun k hk => by unfold spec_DrawPlateIn.f; rw [hm, Option.bind_some]; exact ht k hk⟩
end Go.Proofs.YtkefmnmoaomlhaaDoor.X
end
section
set_option linter.unusedVariables false
set_option linter.unusedSimpArgs false
namespace Go.Proofs.YtkefmnmoaomlhaaDoor.Pure
open Go.RowKit Go.Proofs.YtkefmnmoaomlhaaDoor.X Go.Proofs.YtkefmnmoaomlhaaDoorW.PrintWords Go.Proofs.YtkefmnmoaomlhaaDoorW.PrintLast
open Mort (ptOk plateOk plateIn plateInOf plateFar fracCmp fracOk farL plateEdges segFar segOk val inOf edges Plate Pt PlateGood)
theorem step_plate {P : Plate} (g : PlateGood P) {p q : Pt} (hd : (q.1 - p.1) * (q.1 - p.1) + (q.2 - p.2) * (q.2 - p.2) = 1) (h : ∀ e ∈ plateEdges P, 1 < val (Mort.far e p)) : plateInOf P p = plateInOf P q ∧ plateInOf P p ≠ 0 := by
 have st : ∀ l, Mort.loopOk l = true → (∀ e ∈ edges l, e ∈ plateEdges P) → inOf l p = inOf l q ∧ inOf l p ≠ 0 := fun l hl hs =>
  Mort.inOf_step (Mort.ndl_of_ok hl) fun e he => Mort.step_noC e p q (Mort.ndl_of_ok hl e he) hd (h e (hs e he))
 have so := st P.1 g.outer fun e he => by unfold plateEdges; exact List.mem_append_left _ he
 have sh : ∀ z ∈ P.2, inOf z p = inOf z q ∧ inOf z p ≠ 0 := fun z hz => st z (g.holes z hz) fun e he => by unfold plateEdges; exact List.mem_append_right _ (List.mem_flatMap.2 ⟨z, hz, he⟩)
 rw [(Mort.plateInOf_spec g p).2.2 so.2 fun z hz => (sh z hz).2, (Mort.plateInOf_spec g q).2.2 (so.1 ▸ so.2) fun z hz => (sh z hz).1 ▸ (sh z hz).2]
 constructor
 ·
  rw [so.1]
  by_cases c : inOf P.1 q = 1 ∧ ∀ z ∈ P.2, inOf z q = -1
  ·
   rw [if_pos c, if_pos ⟨c.1, fun z hz => (sh z hz).1.trans (c.2 z hz)⟩]
  ·
   rw [if_neg c, if_neg fun e => c ⟨e.1, fun z hz => (sh z hz).1.symm.trans (e.2 z hz)⟩]
 ·
  split <;> decide
theorem FnPlateStep : laws_FnPlateStep.Pure := by
 intro l m _ _ hw hm _ _
 obtain ⟨o, H, x, y, hd⟩ := drawPlateIn l hw
 refine ⟨400000 + 2, ?_⟩
 unfold laws_FnPlateStep.f
 have skip : laws_FnPlateStep.j0 (400000 + 2) l m true = some true := by simp only [laws_FnPlateStep.j0, if_true]
 split
 ·
  exact skip
 cases hb : decide ((m.length : Int) > 1048576) with
 | true => exact skip
 | false =>
  simp only [laws_FnPlateStep.j0, Bool.false_eq_true, if_false]
  rw [hd _ (by omega)]; simp only [Option.bind_some]
  rw [iPlateIn, Option.bind_some, sPlateIn (by omega), Option.bind_some, if_pos rfl, sPlateOk (by omega), Option.bind_some]
  have bad : laws_FnPlateStep.j1 (400000 + 1) m (plateIn (pl o H) (x, y)) true o H x y = some true := by
   simp only [laws_FnPlateStep.j1, if_true, sPlateIn (show 1000 ≤ 400000 by omega), Option.bind_some, beq_self_eq_true]
  cases hP : plateOk (pl o H) with
  | false => rw [if_neg (by decide)]; exact bad
  | true =>
   rw [if_pos rfl, sPtOk, Option.bind_some]
   cases hp : ptOk (x, y) with
   | false => exact bad
   | true =>
    simp only [laws_FnPlateStep.j1, Bool.not_true, Bool.false_eq_true, if_false]
    rw [iFracOf1 (by omega) (by omega) (by omega), Option.bind_some, iPlateFar, Option.bind_some]
    simp only [fracCmp_f, Option.bind_some]
    have hf := far_ok hP hp
    have hF : plateFar (pl o H) (x, y) = farL (plateEdges (pl o H)) (x, y) := by unfold plateFar; rw [hP, hp]; rfl
    by_cases hc : fracCmp (plateFar (pl o H) (x, y)) (1, 1) ≤ 0
    ·
     rw [show ((plateFar (pl o H) (x, y)).1, (plateFar (pl o H) (x, y)).2) = plateFar (pl o H) (x, y) from rfl, if_pos hc]
    ·
     rw [show ((plateFar (pl o H) (x, y)).1, (plateFar (pl o H) (x, y)).2) = plateFar (pl o H) (x, y) from rfl, if_neg hc]
     have g := good_of hP
     have hgt : 1 < val (plateFar (pl o H) (x, y)) := by
      have hf' : fracOk (plateFar (pl o H) (x, y)) = true := by rw [hF]; exact hf
      have := fun e => hc ((Mort.cmp_le hf' (Mort.fracOk_whole (n := 1) (by omega) (by omega))).2 e)
      rw [Mort.val_whole] at this
      have h2 := Rat.not_le.1 this
      simpa using h2
     have hall : ∀ e ∈ plateEdges (pl o H), 1 < val (Mort.far e (x, y)) := by
      intro e he
      obtain ⟨e1, e2⟩ := Mort.plateEdges_ok g
      have := (Mort.farL_spec hp e2 e1).2.1 e he
      rw [(Mort.segFar_ok (e1 e he) hp).2, ← hF] at this
      exact Std.lt_of_lt_of_le hgt this
     have hpb := (Mort.ptOk_iff (x, y)).1 hp
     simp only at hpb
     have w1 : wrap64 (x + 1) = x + 1 := w64i (by omega) (by omega)
     have w2 : wrap64 (x - 1) = x - 1 := w64i (by omega) (by omega)
     have w3 : wrap64 (y + 1) = y + 1 := w64i (by omega) (by omega)
     have w4 : wrap64 (y - 1) = y - 1 := w64i (by omega) (by omega)
     rw [w1, w2, w3, w4, if_pos (by omega)]
     have fin : ∀ qx qy : Int, (qx - x) * (qx - x) + (qy - y) * (qy - y) = 1 → ((impl_PtOk.f qx qy).bind fun t437 => (if t437 = true then ((impl_PlateIn.f o H qx qy).bind fun t438 => (if t438 = plateIn (pl o H) (x, y) then (some (plateIn (pl o H) (x, y) != 0)) else (some false))) else (some true))) = some true := by
      intro qx qy hd1
      rw [iPtOk, Option.bind_some]
      cases hq : ptOk (qx, qy) with
      | false => rfl
      | true =>
       obtain ⟨s1, s2⟩ := step_plate g (p := (x, y)) (q := (qx, qy)) hd1 hall
       rw [if_pos rfl, iPlateIn, Option.bind_some]
       unfold plateIn
       rw [hP, hp, hq, Bool.and_self, if_pos rfl, if_pos rfl, ← s1, if_pos rfl]
       exact congrArg some (bne_iff_ne.2 s2)
     have hmod : ((m.length : Int) % 4 = 0 ∨ (m.length : Int) % 4 = 1) ∨ ((m.length : Int) % 4 = 2 ∨ (m.length : Int) % 4 = 3) := by omega
     rcases hmod with (e | e) | (e | e) <;> rw [e]
     ·
      rw [if_pos (by simp)]; exact fin (x + 1) y (by grind)
     ·
      rw [if_pos (by simp)]; exact fin (x - 1) y (by grind)
     ·
      rw [if_pos (by simp)]; exact fin x (y + 1) (by grind)
     ·
      rw [if_pos (by simp)]; exact fin x (y - 1) (by grind)
end Go.Proofs.YtkefmnmoaomlhaaDoor.Pure
end
section
namespace Go.Proofs.YtkefmnmoaomlhaaDoorW.PrintWords
open Go.ChangeShapes Go.WideShapes
theorem sized_ints {H : Type} {enc : TypeId × Value → H} {P : Program} {W : World} {base : Nat} {spare : Nat → Bool} {held : Bool} {t e : TypeId} {k : IntKind} {a : Option Addr} {len cap : Nat} {d : DataW H} {ps : List MemPlace} {ts : List TypeId} {ds : List (DataW H)} {j : Nat}
  (hsz : (DataW.weightsEach P ts ds).all (· ≤ reachBytes) = true) (ht : ts[j]? = some t) (hd : ds[j]? = some d) (hu : P.underlying t = some (.slice e)) (he : P.underlying e = some (.int k)) (hc : P.cellsOf e = 1) {B : Nat} (hB : P.bytesOf e = B)
  (h : DataW.Trod enc P W base spare held t (.slice a len cap) d ps) : len * B ≤ 140737488351232 := by
 obtain ⟨fuel, hf⟩ := h
 rcases open_ints hu he hc hf with ⟨hcs, _⟩ | ⟨x, l, c, zs, hcs, _, hl, _, hz, hx, _, _⟩
 ·
  simp [Value.cells] at hcs
  obtain ⟨rfl, rfl, rfl⟩ := hcs
  simp
 ·
  simp [Value.cells] at hcs
  obtain ⟨rfl, rfl, rfl⟩ := hcs
  obtain ⟨hx, _⟩ := Prod.mk.inj hx
  subst hx
  have z := sized_slice hsz ht hd hu
  rw [hB] at z
  have hl2 : len ≤ zs.length := by
   rw [hz]
   split
   ·
    exact hl
   ·
    exact Nat.le_refl _
  have h1 : (lits (H := H) k (zs.take len)).length + (lits (H := H) k (zs.drop len)).length = zs.length := by
   simp [lits]
   omega
  rw [h1] at z
  exact Nat.le_trans (Nat.mul_le_mul_right _ hl2) z
end Go.Proofs.YtkefmnmoaomlhaaDoorW.PrintWords
end
section
set_option linter.unusedVariables false
namespace Go.Proofs.YtkefmnmoaomlhaaDoor.fnPlateStep
open Go Go.ChangeShapes Go.WideShapes Go.ChangeAt Go.RowKit Go.Proofs.YtkefmnmoaomlhaaDoorW
open Go.ChangeMaps (open_string shut_string)
def IsRow (k : IntKind) (w : World) (a : Option Addr) (len cap : Nat) (zs : List Int) : Prop :=
 (a = none ∧ len = 0 ∧ cap = 0 ∧ zs = []) ∨
 ∃ x, a = some x ∧ len ≤ cap ∧ cap ≤ maxLen ∧ zs.length = cap ∧ (∀ i, i < zs.length → w.cell? (x.add i) = some (.int k (zs.getD i 0))) ∧ ∀ n ∈ zs, (Lit.int k n).wf = true
set_option maxRecDepth 100000 in
theorem lifted (os : Os) (started : os.Started) (H : Type) (enc : TypeId × Value → H) :
  ReturnsInHanded {} Tryd.checked os 3 .any (fun w args => (Rows.fnPlateStepSpec.pre enc Tryd.prog Tryd.f3 [] false w args ∧ laidMet Tryd.prog laidErr w) ∧ sizedMet enc Tryd.prog Tryd.f3 (OpenSpec.ofChange Rows.fnPlateStepSpec) false w args) (Rows.fnPlateStepSpec.post enc Tryd.prog Tryd.f3 false true false false) := by
 refine returnsInHanded_of_change_and (C := Tryd.checked) (X := fun w _ => laidMet Tryd.prog laidErr w) (fun _ _ _ hh h => h.of_heap hh) own started (by kernel_rfl) Tryd.func3
  (ChangeSpec.witness_at (enc := enc) (C := Tryd.checked) (os := os) (X := fun w _ => laidMet Tryd.prog laidErr w) false (laidWorld os) #[.slice none 0 0, .slice none 0 0] 8 rfl (by kernel_rfl) (by kernel_rfl) (by kernel_rfl) (by kernel_rfl) (by kernel_rfl) (laidWorld_met os _)) ?_
 intro W base args ds gs before hval0 hW hcnd hsz0 hL _
 have hsz : (DataW.weightsEach Tryd.prog (Tryd.f3.params.toList ++ Rows.fnPlateStepSpec.plain.varTypes Tryd.prog) (ds ++ gs)).all (· ≤ reachBytes) = true := hsz0
 have hval : ∀ (j : Nat) t v, Tryd.f3.params[j]? = some t → args[j]? = some v → Value.okWide Tryd.prog W .any base t v := hval0
 have hW' := hW
 obtain ⟨p, q, hA0, hV0, rfl, hfz, hnd⟩ := hW
 have hA : DataW.TrodAll enc Tryd.prog W 0 (fun _ => true) true Tryd.f3.params.toList args.toList ds p := hA0
 have hV : DataW.TrodVars enc Tryd.prog W (fun _ => true) ["loop.example/mortiser/impl.errNoFrac"] gs q := hV0
 rw [Tryd.params3] at hA hval hsz
 obtain ⟨v0, vs0, d0, ds0, p0, q0, hargs, rfl, rfl, h0, r0⟩ := trodAll_cons hA
 obtain ⟨v1, vs1, d1, ds1, p1, q1, rfl, rfl, rfl, h1, r1⟩ := trodAll_cons r0
 obtain ⟨rfl, rfl, rfl⟩ := trodAll_nil r1
 obtain rfl : args = #[v0, v1] := by cases args; simp_all
 obtain ⟨a, st, hv, hcs, hs0, hz0⟩ := err_of_laid hL
 obtain ⟨rfl, rfl⟩ := hV.unique (errVars enc hv trivial _)
 have hE : ErrW W := ErrW.of_var hv
 obtain ⟨a0, len0, cap0, rfl⟩ := okWide_slice Tryd.underlying22 (hval 0 22 v0 rfl rfl)
 have k0 := h0
 have lt0 : ∀ x ∈ p0, x.block < W.heap.size := by obtain ⟨m, hm⟩ := k0; exact DataW.trod_lt m _ _ _ hm
 obtain ⟨z0, w0⟩ : ∃ zs, IsRow .u8 W a0 len0 cap0 zs := by
  obtain ⟨fuel, hf⟩ := h0
  rcases open_ints Tryd.underlying22 Tryd.underlying5 (by kernel_rfl) hf with ⟨hcs, _⟩ | ⟨x, l, c, zs, hcs, _, hl, hm, hz, _, hcell, hwz⟩
  ·
   simp [Value.cells] at hcs
   obtain ⟨rfl, rfl, rfl⟩ := hcs
   exact ⟨[], .inl ⟨rfl, rfl, rfl, rfl⟩⟩
  ·
   simp [Value.cells] at hcs
   obtain ⟨rfl, rfl, rfl⟩ := hcs
   exact ⟨zs, .inr ⟨_, rfl, hl, hm, by simpa using hz, hcell, hwz⟩⟩
 have y0 : len0 * 1 ≤ 140737488351232 := PrintWords.sized_ints hsz (j := 0) (t := 22) rfl rfl Tryd.underlying22 Tryd.underlying5 (by kernel_rfl) (by kernel_rfl) h0
 obtain ⟨a1, len1, cap1, rfl⟩ := okWide_slice Tryd.underlying22 (hval 1 22 v1 rfl rfl)
 have k1 := h1
 have lt1 : ∀ x ∈ p1, x.block < W.heap.size := by obtain ⟨m, hm⟩ := k1; exact DataW.trod_lt m _ _ _ hm
 obtain ⟨z1, w1⟩ : ∃ zs, IsRow .u8 W a1 len1 cap1 zs := by
  obtain ⟨fuel, hf⟩ := h1
  rcases open_ints Tryd.underlying22 Tryd.underlying5 (by kernel_rfl) hf with ⟨hcs, _⟩ | ⟨x, l, c, zs, hcs, _, hl, hm, hz, _, hcell, hwz⟩
  ·
   simp [Value.cells] at hcs
   obtain ⟨rfl, rfl, rfl⟩ := hcs
   exact ⟨[], .inl ⟨rfl, rfl, rfl, rfl⟩⟩
  ·
   simp [Value.cells] at hcs
   obtain ⟨rfl, rfl, rfl⟩ := hcs
   exact ⟨zs, .inr ⟨_, rfl, hl, hm, by simpa using hz, hcell, hwz⟩⟩
 have y1 : len1 * 1 ≤ 140737488351232 := PrintWords.sized_ints hsz (j := 1) (t := 22) rfl rfl Tryd.underlying22 Tryd.underlying5 (by kernel_rfl) (by kernel_rfl) h1
 clear hA0 hval0 hsz0 hsz
 refine (X.laws_FnPlateStep.walk Pure.FnPlateStep a0 len0 cap0 z0 a1 len1 cap1 z1 W hE w0 y0 w1 y1).mono fun e W' ⟨he, bel⟩ => ?_
 subst he
 exact ⟨_, rfl, _, _, _, [], _, [.cell 0 0], hW', trodAll_mk1 (shut_bool Tryd.underlying4 _), (trodAll_cons_mk (Below.trod laidOut (by kernel_rfl) (of_decide_eq_true (by kernel_rfl)) k0 bel lt0) (trodAll_cons_mk (Below.trod laidOut (by kernel_rfl) (of_decide_eq_true (by kernel_rfl)) k1 bel lt1) trodAll_mk0)), errVars enc (errBelow bel hv) trivial _, bel.frame _, fun h => by cases h⟩
theorem over : Rows.fnPlateStepRow.holds Tryd.pinned (OpenSpec.ofChange Rows.fnPlateStepSpec) :=
 OpenClaim.holds_of_wide 3 Tryd.f3 rfl rfl rfl rfl rfl rfl rfl ⟨rfl, rfl, rfl, rfl, rfl⟩ rfl rfl rfl rfl rfl (by kernel_rfl) Tryd.func3 (by kernel_rfl)
  (of_decide_eq_true (by kernel_rfl)) (by unfold Func.isWrapper; first | (rw [if_pos (by decide +kernel)]; kernel_rfl) | (rw [if_neg (by decide +kernel)]; exact ⟨rfl, rfl⟩))
  (fun os started H enc _ => lifted os started H enc)
theorem proved : Rows.FnPlateStepCardSaid :=
 Claim7.holds_tied_plain_at .later [] [.sentinel] true (true, "81de65706e8f648528cfb316c2c65b1eb27649638b9ac8b9a8b267c9286ff7f7") true
  over (fun _ h => by cases h) (by kernel_rfl) (fun _ h => by cases h) fnPlateStep_row_tie rfl ⟨rfl, rfl⟩ (by kernel_rfl) rfl
  (fun f fn hf hfn => by
   obtain rfl : f = 3 := Option.some.inj ((show Tryd.prog.funcNamed "loop.example/mortiser/laws.FnPlateStep" = some 3 by kernel_rfl).symm.trans hf) |>.symm
   obtain rfl : fn = Tryd.f3 := (Option.some.inj (Tryd.func3.symm.trans hfn)).symm
   exact ⟨by kernel_rfl, fun j t ht => by
    rw [Tryd.params3] at ht
    have h3 : t = 22 := by
     rcases j with _ | _ | j
     ·
      simpa using ht.symm
     ·
      simpa using ht.symm
     ·
      simp at ht
    subst h3
    exact (show Tryd.prog.wantsStandIn 22 = false by kernel_rfl)⟩)
  (by kernel_rfl)
end Go.Proofs.YtkefmnmoaomlhaaDoor.fnPlateStep
namespace Go.Proofs.YtkefmnmoaomlhaaDoor
theorem fnPlateStep_holds : Rows.FnPlateStepCardSaid := fnPlateStep.proved
end Go.Proofs.YtkefmnmoaomlhaaDoor
end
