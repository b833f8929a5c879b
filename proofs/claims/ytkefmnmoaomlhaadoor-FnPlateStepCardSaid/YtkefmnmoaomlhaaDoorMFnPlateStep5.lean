/- FnPlateStep: the law returns true for every input, and each input reads behind the call as before; part 5 of 7. No condition. Merged by program out of: FSpecPlateOk. -/
import Derived.Test.YtkefmnmoaomlhaaDoorMFnPlateStep4
section
namespace Go.Proofs.YtkefmnmoaomlhaaDoor.X
open Go.RowKit Go.Proofs.YtkefmnmoaomlhaaDoorW.PrintWords Go.Proofs.YtkefmnmoaomlhaaDoorW.PrintLast Go.Proofs.YtkefmnmoaomlhaaDoorW.PrintMore
attribute [local go_sem] max2_int min2_int max_two min_two max_three min_three max_four min_four
set_option linter.unusedVariables false
set_option linter.unusedSimpArgs false
mutual
def spec_PlateOk.j0 : Nat → Bool → List (S28) → List (List (S28)) → Option (Bool)
 | 0, _, _, _ => none
 | k + 1, x15, x178000, x178001 => if x15 = true then (some false) else (spec_PlateOk.l0 k 0 x178000 x178001)
def spec_PlateOk.l0 : Nat → Int → List (S28) → List (List (S28)) → Option (Bool)
 | 0, _, _, _ => none
 | k + 1, x3, x178000, x178001 => if x3 < (x178001.length : Int) then (if 0 ≤ x3 then ((spec_LoopOk.f k (rd_L5 x178001 x3)).bind fun t180 => (if t180 = true then (if 0 < ((rd_L5 x178001 x3).length : Int) then ((spec_l3In.f x178000 ((rd_T28 (rd_L5 x178001 x3) 0).f0) ((rd_T28 (rd_L5 x178001 x3) 0).f1)).bind fun t182 => (if t182 = 1 then ((spec_l11Apart.f k x178000 (rd_L5 x178001 x3)).bind fun t183 => (spec_PlateOk.j2 k x3 (rd_L5 x178001 x3) (!t183) x178000 x178001)) else (spec_PlateOk.j2 k x3 (rd_L5 x178001 x3) true x178000 x178001))) else (none)) else (spec_PlateOk.j2 k x3 (rd_L5 x178001 x3) true x178000 x178001))) else (none)) else (some true)
def spec_PlateOk.j2 : Nat → Int → List (S28) → Bool → List (S28) → List (List (S28)) → Option (Bool)
 | 0, _, _, _, _, _ => none
 | k + 1, x3, x4, x46, x178000, x178001 => if x46 = true then (some false) else (spec_PlateOk.l1 k x3 x4 0 x178000 x178001)
def spec_PlateOk.l1 : Nat → Int → List (S28) → Int → List (S28) → List (List (S28)) → Option (Bool)
 | 0, _, _, _, _, _ => none
 | k + 1, x3, x4, x5, x178000, x178001 => if x5 < x3 then (if 0 ≤ x5 then (if x5 < (x178001.length : Int) then ((spec_l11Apart.f k x4 (rd_L5 x178001 x5)).bind fun t185 => (if t185 = true then (if 0 < (x4.length : Int) then ((spec_l3In.f (rd_L5 x178001 x5) ((rd_T28 x4 0).f0) ((rd_T28 x4 0).f1)).bind fun t188 => (if t188 = (-1) then (if 0 < ((rd_L5 x178001 x5).length : Int) then ((spec_l3In.f x4 ((rd_T28 (rd_L5 x178001 x5) 0).f0) ((rd_T28 (rd_L5 x178001 x5) 0).f1)).bind fun t191 => (if t191 = (-1) then (spec_PlateOk.l1 k x3 x4 (wrap64 (x5 + 1)) x178000 x178001) else (some false))) else (none)) else (some false))) else (none)) else (some false))) else (none)) else (none)) else (spec_PlateOk.l0 k (wrap64 (x3 + 1)) x178000 x178001)
end
def spec_PlateOk.f (k : Nat) (l0_0 : List (S28)) (l0_1 : List (List (S28))) : Option (Bool) := (spec_LoopOk.f k l0_0).bind fun t178 => (if t178 = true then (spec_PlateOk.j0 k (decide ((l0_1.length : Int) > 2)) l0_0 l0_1) else (spec_PlateOk.j0 k true l0_0 l0_1))
def spec_PlateOk.T7 : Bool × List (List Nat × List Nat) := (true, [([], []), ([0], [0]), ([1], [1]), ([2, 1], [2]), ([3], [3]), ([4, 3], [3, 4]), ([3], [3]), ([6, 3], [3, 6]), ([7, 3], [3, 7]), ([5, 8, 3, 3], [3, 5, 8]), ([9, 3], [3, 9]), ([3, 10], [3, 10]), ([11, 9], [11]), ([12], [12]), ([13, 12], [12, 13]), ([12], [12]), ([14, 15, 12, 12], [12, 14, 15]), ([16, 12], [12, 16]), ([12, 17], [12, 17])])
def spec_PlateOk.B7 : List Nat := [0, 1, 3, 7, 15, 31, 15, 79, 207, 511, 1023, 2047, 4095, 8191, 16383, 8191, 65535, 131071, 262143]
theorem spec_PlateOk.tab7 : rtab .any (opsOf Tryd.f18 7) = spec_PlateOk.T7 := by kernel_rfl
theorem spec_PlateOk.bits7 : waitsOk spec_PlateOk.T7.2 spec_PlateOk.B7 = true := by kernel_rfl
def spec_PlateOk.T12 : Bool × List (List Nat × List Nat) := (true, [([], []), ([], []), ([1], [1]), ([], []), ([2, 3], [2, 3]), ([4], [4]), ([0, 5], [0, 5]), ([6], [6]), ([7, 6], [7]), ([8], [8]), ([9, 8], [8, 9]), ([8], [8]), ([10, 11, 8], [8, 10, 11]), ([12, 8], [8, 12]), ([8], [8]), ([14, 8], [8, 14]), ([15, 8], [8, 15]), ([13, 16, 8, 8], [8, 13, 16]), ([17, 8], [8, 17]), ([8, 18], [8, 18]), ([19, 17], [19]), ([20], [20]), ([20], [20]), ([22, 20], [20, 22]), ([20], [20]), ([23, 24, 20], [20, 23, 24]), ([25, 20], [20, 25]), ([26, 20], [20, 26]), ([27, 20], [20, 27]), ([21, 28, 20, 20], [20, 21, 28]), ([29, 20], [20, 29]), ([20, 30], [20, 30])])
def spec_PlateOk.B12 : List Nat := [0, 0, 2, 0, 14, 30, 63, 127, 255, 511, 1023, 511, 4095, 8191, 511, 16895, 49663, 131071, 262143, 524287, 1048575, 2097151, 2097151, 6291455, 2097151, 31457279, 65011711, 132120575, 266338303, 536870911, 1073741823, 2147483647]
theorem spec_PlateOk.tab12 : rtab .any (opsOf Tryd.f18 12) = spec_PlateOk.T12 := by kernel_rfl
theorem spec_PlateOk.bits12 : waitsOk spec_PlateOk.T12.2 spec_PlateOk.B12 = true := by kernel_rfl
set_option maxHeartbeats 8000000 in
set_option maxRecDepth 100000 in
theorem spec_PlateOk.calls (k : Nat) (A0_0 : Option Addr) (c0_0 : Nat) (l0_0 : List (S28)) (A0_1 : Option Addr) (c0_1 : Nat) (l0_1 : List (List (S28))) (r : Bool) (w : World) (hr0_0 : Kd.C k28 w A0_0 l0_0.length l0_0) (hc0_0 : l0_0.length ≤ c0_0) (hr0_1 : Kd.C (Kd.slice 28 k28) w A0_1 l0_1.length l0_1) (hc0_1 : l0_1.length ≤ c0_1) (h : spec_PlateOk.f k l0_0 l0_1 = some r) :
  Calls Tryd.prog 18 #[.agg #[.slice A0_0 l0_0.length c0_0, .slice A0_1 l0_1.length c0_1]] w fun e w' => e = .returned (.bool r) ∧ Below w.heap.size w w' := by
 have hu26 := Tryd.underlying26
 have hu28 := Tryd.underlying28
 have HR0_0 := Aside0.mk hr0_0
 have HC0_0 := Aside0.mk hc0_0
 clear hr0_0 hc0_0
 have HR0_1 := Aside0.mk hr0_1
 have HC0_1 := Aside0.mk hc0_1
 clear hr0_1 hc0_1
 have HB := a0_ (Below.refl w.heap.size w)
 have H : ((spec_LoopOk.f k l0_0).bind fun t178 => (if t178 = true then (spec_PlateOk.j0 k (decide ((l0_1.length : Int) > 2)) l0_0 l0_1) else (spec_PlateOk.j0 k true l0_0 l0_1))) = some r := h
 clear h
 have HC2 := Aside0.mk H
 clear H
 go_enter Tryd.func18, Tryd.ntmps18
 go_upto_region 1 with (first | ((with_reducible refine gate_dst (N := 1) rfl ?_); (try (refine gate_guard (by rfl) ?_; dsimp only)); refine bx_ (N := 1) (cs := #[.slice A0_0 l0_0.length c0_0, .slice A0_1 l0_1.length c0_1]) (t := 26) (h := ?_); intro gb177 hg w3 hbox hb; have BK177 := a0_ (hbox); have GW177 := gh_ HB hg; have GE177 := gh_ HB hg; replace HB := sb_ HB hb; clear hb hbox hg))
 (try simp only [Act.put, List.setIfInBounds_toArray, List.set_cons_zero, List.set_cons_succ])
 go_cut [15] (fun v15 wc => ∃ (kq : Nat) (x15_1 : Bool), v15 = .bool x15_1 ∧ Aside0 (spec_PlateOk.j0 kq x15_1 l0_0 l0_1 = some r) ∧ Aside0 (kq ≤ k) ∧ Aside0 (wc.heap[gb177]? = some (.cells #[(.slice A0_0 l0_0.length c0_0), (.slice A0_1 l0_1.length c0_1)] 26 (0, 0))) ∧ Aside0 (Below w.heap.size w wc))
 case first =>
  have H := HC2.out
  clear HC2
  replace H := Option.bind_eq_some_iff.mp H
  obtain ⟨t178, A40, H⟩ := H
  (try dsimp only at H)
  have A4 := Aside0.mk A40
  clear A40
  by_cases c5 : t178 = true
  ·
   subst c5
   rw [if_pos rfl] at H
   (try dsimp only at H)
   have H' := Aside0.mk H
   clear H
   have hcz6_0 := c20_ BK177
   have hcz6_1 := c21_ BK177
   have hfz6_0 := fz_ BK177 0
   have hfz6_1 := fz_ BK177 1
   go_wp2_with (first | ((with_reducible refine gate_callee (f := 55) rfl ?_); refine gL_ (some 8) Tryd.func55 #[.slice A0_0 l0_0.length c0_0] (h := ?_); (with_reducible refine (spec_LoopOk.calls k _ _ l0_0 true _ ?side1 ?side2 A4.out).mono ?_); (case side1 => repeat (first | exact (Kd.C_below HR0_0.out HB.out) | (with_reducible refine Kd.C_alloc ?_ _) | (with_reducible refine Kd.C_drewN ?_ _) | (with_reducible refine Kd.C_drew ?_))); (case side2 => exact HC0_0.out); rintro e w7 ⟨rfl, hb⟩; refine ⟨_, rfl, ?_⟩; replace BK177 := vb_ BK177 hb; replace HB := sb_ HB hb; (try clear hb); have hcz8_0 := c20_ BK177; have hcz8_1 := c21_ BK177; have hfz8_0 := fz_ BK177 0; have hfz8_1 := fz_ BK177 1))
   go_meet
   case rel => exact ⟨_, (decide ((l0_1.length : Int) > 2)), (by first | rfl | (simp; done) | (simp [*]; done)), H', ⟨by first | omega | exact Nat.le_refl _⟩, ⟨uq_⟩, ⟨hB_⟩⟩
  ·
   replace c5 := Bool.eq_false_iff.mpr c5
   subst c5
   rw [if_neg (show ¬ (false = true) by decide)] at H
   (try dsimp only at H)
   have H' := Aside0.mk H
   clear H
   have hcz9_0 := c20_ BK177
   have hcz9_1 := c21_ BK177
   have hfz9_0 := fz_ BK177 0
   have hfz9_1 := fz_ BK177 1
   go_wp2_with (first | ((with_reducible refine gate_callee (f := 55) rfl ?_); refine gL_ (some 8) Tryd.func55 #[.slice A0_0 l0_0.length c0_0] (h := ?_); (with_reducible refine (spec_LoopOk.calls k _ _ l0_0 false _ ?side1 ?side2 A4.out).mono ?_); (case side1 => repeat (first | exact (Kd.C_below HR0_0.out HB.out) | (with_reducible refine Kd.C_alloc ?_ _) | (with_reducible refine Kd.C_drewN ?_ _) | (with_reducible refine Kd.C_drew ?_))); (case side2 => exact HC0_0.out); rintro e w10 ⟨rfl, hb⟩; refine ⟨_, rfl, ?_⟩; replace BK177 := vb_ BK177 hb; replace HB := sb_ HB hb; (try clear hb)))
   go_meet
   case rel => exact ⟨_, (true), (by first | rfl | (simp; done) | (simp [*]; done)), H', ⟨by first | omega | exact Nat.le_refl _⟩, ⟨uq_⟩, ⟨hB_⟩⟩
 case rest =>
  clear HC2
  obtain ⟨kq, x15_1, rfl, HA, HJ1, BK177, HB⟩ := hcut
  cases kq with
  | zero => exact absurd HA.out (by simp [spec_PlateOk.j0])
  | succ kj1 =>
   have H := HA.out
   clear HA
   simp only [spec_PlateOk.j0] at H
   by_cases c11 : x15_1 = true
   ·
    subst c11
    rw [if_pos rfl] at H
    (try dsimp only at H)
    obtain rfl := Option.some.inj H
    go_wp2
    go_ret
    exact ⟨rr_, hB_⟩
   ·
    replace c11 := Bool.eq_false_iff.mpr c11
    subst c11
    rw [if_neg (show ¬ (false = true) by decide)] at H
    (try dsimp only at H)
    have H' := Aside0.mk H
    clear H
    go_wp2
    go_loopg [3] kj1 (fun kq v3 w' => ∃ (x3_2 : Int), v3 = .int .i64 x3_2 ∧ Aside0 (spec_PlateOk.l0 kq x3_2 l0_0 l0_1 = some r) ∧ Aside0 (kq ≤ kj1) ∧ Aside0 (w'.heap[gb177]? = some (.cells #[(.slice A0_0 l0_0.length c0_0), (.slice A0_1 l0_1.length c0_1)] 26 (0, 0))) ∧ Aside0 (Below w.heap.size w w'))
    case atStart => exact ⟨(0), (by first | rfl | (simp; done) | (simp [*]; done)), H', ⟨Nat.le_refl _⟩, ⟨uq_⟩, ⟨hB_⟩⟩
    case round =>
     clear H'
     obtain ⟨x3_2, rfl, HA, HK2, BK177, HB⟩ := hrel
     cases gk with
     | zero => exact absurd HA.out (by simp [spec_PlateOk.l0])
     | succ k2 =>
      have H := HA.out
      clear HA
      simp only [spec_PlateOk.l0] at H
      by_cases c12 : x3_2 < (l0_1.length : Int)
      ·
       rw [if_pos c12] at H
       have c12b0 : decide (x3_2 < (l0_1.length : Int)) = true := decide_eq_true c12
       clear c12
       by_cases c13 : 0 ≤ x3_2
       ·
        rw [if_pos c13] at H
        have c13b0 : decide (0 ≤ x3_2) = true := decide_eq_true c13
        clear c13
        have HC14 := Aside0.mk H
        clear H
        have hcz15_0 := c20_ BK177
        have hcz15_1 := c21_ BK177
        have hfz15_0 := fz_ BK177 0
        have hfz15_1 := fz_ BK177 1
        have p179 : 0 ≤ (x3_2 : Int) := od_
        have q179 : x3_2 < (l0_1.length : Int) := od_
        obtain ⟨ad179, A179_0, c179_0, e179, hx179_0, hl179_0, hi179_0⟩ := at_L5 HR0_1.out x3_2 p179 q179
        cases e179
        replace hx179_0 := ce_ HB hx179_0
        have HR179_0 := Aside0.mk hi179_0
        have HC179_0 := Aside0.mk hl179_0
        clear hi179_0 hl179_0
        replace p179 := eq_true p179
        replace q179 := eq_true q179
        go_upto_region 7 with (fail)
        go_cut [46] (fun v46 wc => ∃ (kq : Nat) (x46_13 : Bool), v46 = .bool x46_13 ∧ Aside0 (spec_PlateOk.j2 kq x3_2 (rd_L5 l0_1 x3_2) x46_13 l0_0 l0_1 = some r) ∧ Aside0 (kq ≤ k2) ∧ Aside0 (wc.heap[gb177]? = some (.cells #[(.slice A0_0 l0_0.length c0_0), (.slice (some ad179) l0_1.length c0_1)] 26 (0, 0))) ∧ Aside0 (Below w.heap.size w wc))
        case first =>
         have H := HC14.out
         clear HC14
         replace H := Option.bind_eq_some_iff.mp H
         obtain ⟨t180, A160, H⟩ := H
         (try dsimp only at H)
         have A16 := Aside0.mk A160
         clear A160
         by_cases c17 : t180 = true
         ·
          subst c17
          rw [if_pos rfl] at H
          (try dsimp only at H)
          by_cases c18 : 0 < ((rd_L5 l0_1 x3_2).length : Int)
          ·
           rw [if_pos c18] at H
           have c18b0 : decide (0 < ((rd_L5 l0_1 x3_2).length : Int)) = true := decide_eq_true c18
           have c18b1 : decide (0 < (rd_L5 l0_1 x3_2).length) = true := decide_eq_true (by omega)
           clear c18
           (first | rw [c18b0] | (simp only [i64_w, i32_w]; rw [c18b0]) | skip)
           replace H := Option.bind_eq_some_iff.mp H
           obtain ⟨t182, A190, H⟩ := H
           (try dsimp only at H)
           have A19 := Aside0.mk A190
           clear A190
           by_cases c20 : t182 = 1
           ·
            rw [if_pos c20] at H
            have c20b0 : (t182 == 1) = true := beq_iff_eq.mpr c20
            have c20b1 : (t182 != 1) = false := bne_eq_false_iff_eq.mpr c20
            clear c20
            replace H := Option.bind_eq_some_iff.mp H
            obtain ⟨t183, A210, H⟩ := H
            (try dsimp only at H)
            have A21 := Aside0.mk A210
            clear A210
            have H' := Aside0.mk H
            clear H
            try go_wp2
            replace BK177 := a0_ (blk_drew BK177.out)
            replace HB := a0_ (below_drew1 HB.out)
            have p181 : 0 ≤ (0 : Int) := (by omega)
            have q181 : 0 < ((rd_L5 l0_1 x3_2).length : Int) := od_
            obtain ⟨ad181, e181, hx181_0, hx181_1⟩ := at_T28 HR179_0.out 0 p181 q181
            have hw181_1 := hx181_1
            (try simp only [Int.toNat_zero, Nat.zero_mul, Addr.add_zero'] at hw181_1)
            have hw181_0 := hx181_0
            (try simp only [Int.toNat_zero, Nat.zero_mul, Addr.add_zero'] at hw181_0)
            cases e181
            have qi181 : (0 < (rd_L5 l0_1 x3_2).length) = True := eq_true (by omega)
            (try simp only [Int.toNat_zero, Nat.zero_mul, Addr.add_zero'] at hx181_0)
            (try simp only [Int.toNat_zero, Nat.zero_mul, Addr.add_zero'] at hx181_1)
            replace hx181_0 := ce_ HB hx181_0
            replace hx181_1 := ce_ HB hx181_1
            replace p181 := eq_true p181
            replace q181 := eq_true q181
            refine start_ (n := 19) (S := fun w' => w'.cell? ⟨gb177, 0, none⟩ = some (.slice A0_0 l0_0.length c0_0) ∧ w'.cell? ⟨gb177, 1, none⟩ = some (.slice (some ad179) l0_1.length c0_1) ∧ w'.cell? ad181 = some (.int .i64 ((rd_T28 (rd_L5 l0_1 x3_2) 0).f0)) ∧ w'.cell? ⟨ad181.block, ad181.off + 1, none⟩ = some (.int .i64 ((rd_T28 (rd_L5 l0_1 x3_2) 0).f1))) (ds := []) (Array.replicate 19 false) (by kernel_rfl) rfl rfl ⟨bc_, bc_, (ce_ HB hw181_0), (ce_ HB hw181_1)⟩ (fun hHeld => ?_); refine with_tabW spec_PlateOk.tab7 spec_PlateOk.bits7 (fun HT_ HW_ => ?_)
            generalize wr.drew = w22 at BK177 HB hx181_0 hx181_1 hHeld ⊢
            refine pu_ HT_ 0 28 (bm 19 1) ?_
            refine one_ (i := 1) (N := some 29) (bm 19 3) rfl rfl (one_of HT_.out (by kernel_rfl)) (by decide) (fun K hK => ?_)
            refine goes_ Tryd.func55 (by kernel_rfl) rfl #[.slice (some ad181) (rd_L5 l0_1 x3_2).length c179_0] (by rfl) rfl rfl ma_ ?_
            with_reducible refine (spec_LoopOk.calls k2 _ _ (rd_L5 l0_1 x3_2) true _ ?side1 ?side2 A16.out).mono ?_
            (case side1 => repeat (first | exact (Kd.C_below HR179_0.out HB.out) | (with_reducible refine Kd.C_alloc ?_ _) | (with_reducible refine Kd.C_drewN ?_ _) | (with_reducible refine Kd.C_drew ?_)))
            (case side2 => exact HC179_0.out)
            rintro e w23 ⟨rfl, hb⟩
            refine ⟨_, rfl, ?_⟩
            replace BK177 := vb_ BK177 hb
            replace HB := sb_ HB hb
            (try clear hb)
            (try clear hb2)
            (try clear hk)
            (try clear hi)
            refine hK.out _ _ ⟨bc_, bc_, (ce_ HB hw181_0), (ce_ HB hw181_1)⟩ (fun hHeld => ?_)
            clear hK K
            refine no_ (h := ?_)
            refine pu_ HT_ 2 30 (bm 19 7) ?_
            refine pu_ HT_ 3 31 (bm 19 15) ?_
            refine pu_ HT_ 4 32 (bm 19 31) ?_
            refine pu_ HT_ 6 34 (bm 19 95) ?_
            refine pu_ HT_ 7 35 (bm 19 223) ?_
            refine ta4_ HT_ HW_ 5 33 (bm 19 255) hHeld ?_
            refine ta4_ HT_ HW_ 8 36 (bm 19 511) hHeld ?_
            refine one_ (i := 9) (N := some 37) (bm 19 1023) rfl rfl (one_of HT_.out (by kernel_rfl)) (by decide) (fun K hK => ?_)
            refine goes_ Tryd.func56 (by kernel_rfl) rfl #[.slice A0_0 l0_0.length c0_0, .agg #[.int .i64 ((rd_T28 (rd_L5 l0_1 x3_2) 0).f0), .int .i64 ((rd_T28 (rd_L5 l0_1 x3_2) 0).f1)]] (by rfl) rfl rfl ma_ ?_
            with_reducible refine (spec_l3In.calls _ _ l0_0 ((rd_T28 (rd_L5 l0_1 x3_2) 0).f0) ((rd_T28 (rd_L5 l0_1 x3_2) 0).f1) t182 _ ?side1 ?side2 A19.out).mono ?_
            (case side1 => repeat (first | exact (Kd.C_below HR0_0.out HB.out) | (with_reducible refine Kd.C_alloc ?_ _) | (with_reducible refine Kd.C_drewN ?_ _) | (with_reducible refine Kd.C_drew ?_)))
            (case side2 => exact HC0_0.out)
            rintro e w24 ⟨rfl, hb⟩
            refine ⟨_, rfl, ?_⟩
            replace BK177 := vb_ BK177 hb
            replace HB := sb_ HB hb
            (try clear hb)
            (try clear hb2)
            (try clear hk)
            (try clear hi)
            refine hK.out _ _ ⟨bc_, bc_, (ce_ HB hw181_0), (ce_ HB hw181_1)⟩ (fun hHeld => ?_)
            clear hK K
            refine no_ (h := ?_)
            refine pu_ HT_ 10 38 (bm 19 2047) ?_
            refine pu_ HT_ 11 39 (bm 19 4095) ?_
            refine pu_ HT_ 12 40 (bm 19 8191) ?_
            refine pu_ HT_ 13 41 (bm 19 16383) ?_
            refine pu_ HT_ 15 43 (bm 19 49151) ?_
            refine ta4_ HT_ HW_ 14 42 (bm 19 65535) hHeld ?_
            refine one_ (i := 16) (N := some 44) (bm 19 131071) rfl rfl (one_of HT_.out (by kernel_rfl)) (by decide) (fun K hK => ?_)
            refine goes_ Tryd.func57 (by kernel_rfl) rfl #[.slice A0_0 l0_0.length c0_0, .slice (some ad181) (rd_L5 l0_1 x3_2).length c179_0] (by rfl) rfl rfl ma_ ?_
            with_reducible refine (spec_l11Apart.calls k2 _ _ l0_0 _ _ (rd_L5 l0_1 x3_2) t183 _ ?side1 ?side2 ?side3 ?side4 A21.out).mono ?_
            (case side1 => repeat (first | exact (Kd.C_below HR0_0.out HB.out) | (with_reducible refine Kd.C_alloc ?_ _) | (with_reducible refine Kd.C_drewN ?_ _) | (with_reducible refine Kd.C_drew ?_)))
            (case side2 => exact HC0_0.out)
            (case side3 => repeat (first | exact (Kd.C_below HR179_0.out HB.out) | (with_reducible refine Kd.C_alloc ?_ _) | (with_reducible refine Kd.C_drewN ?_ _) | (with_reducible refine Kd.C_drew ?_)))
            (case side4 => exact HC179_0.out)
            rintro e w25 ⟨rfl, hb⟩
            refine ⟨_, rfl, ?_⟩
            replace BK177 := vb_ BK177 hb
            replace HB := sb_ HB hb
            (try clear hb)
            (try clear hb2)
            (try clear hk)
            (try clear hi)
            refine hK.out _ _ ⟨bc_, bc_, (ce_ HB hw181_0), (ce_ HB hw181_1)⟩ (fun hHeld => ?_)
            clear hK K
            refine no_ (h := ?_)
            refine pu_ HT_ 17 45 (bm 19 262143) ?_
            refine pu_ HT_ 18 46 (bm 19 524287) ?_
            refine done_ (done_of HT_.out (by kernel_rfl)) ?_
            try go_wp2
            go_meet
            case rel => exact ⟨_, (!t183), (by first | rfl | (simp; done) | (simp [*]; done)), H', ⟨by have := HJ1.out; have := HK2.out; first | omega | exact Nat.le_refl _⟩, ⟨uq_⟩, ⟨hB_⟩⟩
           ·
            rw [if_neg c20] at H
            have c20b0 : (t182 == 1) = false := beq_eq_false_iff_ne.mpr c20
            have c20b1 : (t182 != 1) = true := bne_iff_ne.mpr c20
            have H' := Aside0.mk H
            clear H
            try go_wp2
            replace BK177 := a0_ (blk_drew BK177.out)
            replace HB := a0_ (below_drew1 HB.out)
            have p181 : 0 ≤ (0 : Int) := (by omega)
            have q181 : 0 < ((rd_L5 l0_1 x3_2).length : Int) := od_
            obtain ⟨ad181, e181, hx181_0, hx181_1⟩ := at_T28 HR179_0.out 0 p181 q181
            have hw181_1 := hx181_1
            (try simp only [Int.toNat_zero, Nat.zero_mul, Addr.add_zero'] at hw181_1)
            have hw181_0 := hx181_0
            (try simp only [Int.toNat_zero, Nat.zero_mul, Addr.add_zero'] at hw181_0)
            cases e181
            have qi181 : (0 < (rd_L5 l0_1 x3_2).length) = True := eq_true (by omega)
            (try simp only [Int.toNat_zero, Nat.zero_mul, Addr.add_zero'] at hx181_0)
            (try simp only [Int.toNat_zero, Nat.zero_mul, Addr.add_zero'] at hx181_1)
            replace hx181_0 := ce_ HB hx181_0
            replace hx181_1 := ce_ HB hx181_1
            replace p181 := eq_true p181
            replace q181 := eq_true q181
            refine start_ (n := 19) (S := fun w' => w'.cell? ⟨gb177, 0, none⟩ = some (.slice A0_0 l0_0.length c0_0) ∧ w'.cell? ⟨gb177, 1, none⟩ = some (.slice (some ad179) l0_1.length c0_1) ∧ w'.cell? ad181 = some (.int .i64 ((rd_T28 (rd_L5 l0_1 x3_2) 0).f0)) ∧ w'.cell? ⟨ad181.block, ad181.off + 1, none⟩ = some (.int .i64 ((rd_T28 (rd_L5 l0_1 x3_2) 0).f1))) (ds := []) (Array.replicate 19 false) (by kernel_rfl) rfl rfl ⟨bc_, bc_, (ce_ HB hw181_0), (ce_ HB hw181_1)⟩ (fun hHeld => ?_); refine with_tabW spec_PlateOk.tab7 spec_PlateOk.bits7 (fun HT_ HW_ => ?_)
            generalize wr.drew = w26 at BK177 HB hx181_0 hx181_1 hHeld ⊢
            refine pu_ HT_ 0 28 (bm 19 1) ?_
            refine one_ (i := 1) (N := some 29) (bm 19 3) rfl rfl (one_of HT_.out (by kernel_rfl)) (by decide) (fun K hK => ?_)
            refine goes_ Tryd.func55 (by kernel_rfl) rfl #[.slice (some ad181) (rd_L5 l0_1 x3_2).length c179_0] (by rfl) rfl rfl ma_ ?_
            with_reducible refine (spec_LoopOk.calls k2 _ _ (rd_L5 l0_1 x3_2) true _ ?side1 ?side2 A16.out).mono ?_
            (case side1 => repeat (first | exact (Kd.C_below HR179_0.out HB.out) | (with_reducible refine Kd.C_alloc ?_ _) | (with_reducible refine Kd.C_drewN ?_ _) | (with_reducible refine Kd.C_drew ?_)))
            (case side2 => exact HC179_0.out)
            rintro e w27 ⟨rfl, hb⟩
            refine ⟨_, rfl, ?_⟩
            replace BK177 := vb_ BK177 hb
            replace HB := sb_ HB hb
            (try clear hb)
            (try clear hb2)
            (try clear hk)
            (try clear hi)
            refine hK.out _ _ ⟨bc_, bc_, (ce_ HB hw181_0), (ce_ HB hw181_1)⟩ (fun hHeld => ?_)
            clear hK K
            refine no_ (h := ?_)
            refine pu_ HT_ 2 30 (bm 19 7) ?_
            refine pu_ HT_ 3 31 (bm 19 15) ?_
            refine pu_ HT_ 4 32 (bm 19 31) ?_
            refine pu_ HT_ 6 34 (bm 19 95) ?_
            refine pu_ HT_ 7 35 (bm 19 223) ?_
            refine ta4_ HT_ HW_ 5 33 (bm 19 255) hHeld ?_
            refine ta4_ HT_ HW_ 8 36 (bm 19 511) hHeld ?_
            refine one_ (i := 9) (N := some 37) (bm 19 1023) rfl rfl (one_of HT_.out (by kernel_rfl)) (by decide) (fun K hK => ?_)
            refine goes_ Tryd.func56 (by kernel_rfl) rfl #[.slice A0_0 l0_0.length c0_0, .agg #[.int .i64 ((rd_T28 (rd_L5 l0_1 x3_2) 0).f0), .int .i64 ((rd_T28 (rd_L5 l0_1 x3_2) 0).f1)]] (by rfl) rfl rfl ma_ ?_
            with_reducible refine (spec_l3In.calls _ _ l0_0 ((rd_T28 (rd_L5 l0_1 x3_2) 0).f0) ((rd_T28 (rd_L5 l0_1 x3_2) 0).f1) t182 _ ?side1 ?side2 A19.out).mono ?_
            (case side1 => repeat (first | exact (Kd.C_below HR0_0.out HB.out) | (with_reducible refine Kd.C_alloc ?_ _) | (with_reducible refine Kd.C_drewN ?_ _) | (with_reducible refine Kd.C_drew ?_)))
            (case side2 => exact HC0_0.out)
            rintro e w28 ⟨rfl, hb⟩
            refine ⟨_, rfl, ?_⟩
            replace BK177 := vb_ BK177 hb
            replace HB := sb_ HB hb
            (try clear hb)
            (try clear hb2)
            (try clear hk)
            (try clear hi)
            refine hK.out _ _ ⟨bc_, bc_, (ce_ HB hw181_0), (ce_ HB hw181_1)⟩ (fun hHeld => ?_)
            clear hK K
            refine no_ (h := ?_)
            refine pu_ HT_ 10 38 (bm 19 2047) ?_
            refine pu_ HT_ 11 39 (bm 19 4095) ?_
            refine pu_ HT_ 12 40 (bm 19 8191) ?_
            refine pz_ HT_ 13 41 (bm 19 16383) ?_
            refine pz_ HT_ 14 42 (bm 19 32767) ?_
            refine pz_ HT_ 15 43 (bm 19 65535) ?_
            refine pz_ HT_ 16 44 (bm 19 131071) ?_
            refine pz_ HT_ 17 45 (bm 19 262143) ?_
            refine pu_ HT_ 18 46 (bm 19 524287) ?_
            refine done_ (done_of HT_.out (by kernel_rfl)) ?_
            try go_wp2
            go_meet
            case rel => exact ⟨_, (true), (by first | rfl | (simp; done) | (simp [*]; done)), H', ⟨by have := HJ1.out; have := HK2.out; first | omega | exact Nat.le_refl _⟩, ⟨uq_⟩, ⟨hB_⟩⟩
          ·
           rw [if_neg c18] at H
           exact absurd H (by simp)
         ·
          replace c17 := Bool.eq_false_iff.mpr c17
          subst c17
          rw [if_neg (show ¬ (false = true) by decide)] at H
          (try dsimp only at H)
          have H' := Aside0.mk H
          clear H
          try go_wp2
          replace BK177 := a0_ (blk_drew BK177.out)
          replace HB := a0_ (below_drew1 HB.out)
          refine start_ (n := 19) (S := fun w' => True) (ds := []) (Array.replicate 19 false) (by kernel_rfl) rfl rfl trivial (fun hHeld => ?_); refine with_tabW spec_PlateOk.tab7 spec_PlateOk.bits7 (fun HT_ HW_ => ?_)
          generalize wr.drew = w29 at BK177 HB hHeld ⊢
          refine pu_ HT_ 0 28 (bm 19 1) ?_
          refine one_ (i := 1) (N := some 29) (bm 19 3) rfl rfl (one_of HT_.out (by kernel_rfl)) (by decide) (fun K hK => ?_)
          refine goes_ Tryd.func55 (by kernel_rfl) rfl #[.slice A179_0 (rd_L5 l0_1 x3_2).length c179_0] (by rfl) rfl rfl ma_ ?_
          with_reducible refine (spec_LoopOk.calls k2 _ _ (rd_L5 l0_1 x3_2) false _ ?side1 ?side2 A16.out).mono ?_
          (case side1 => repeat (first | exact (Kd.C_below HR179_0.out HB.out) | (with_reducible refine Kd.C_alloc ?_ _) | (with_reducible refine Kd.C_drewN ?_ _) | (with_reducible refine Kd.C_drew ?_)))
          (case side2 => exact HC179_0.out)
          rintro e w30 ⟨rfl, hb⟩
          refine ⟨_, rfl, ?_⟩
          replace BK177 := vb_ BK177 hb
          replace HB := sb_ HB hb
          (try clear hb)
          (try clear hb2)
          (try clear hk)
          (try clear hi)
          refine hK.out _ _ trivial (fun hHeld => ?_)
          clear hK K
          refine no_ (h := ?_)
          refine pu_ HT_ 2 30 (bm 19 7) ?_
          refine pu_ HT_ 3 31 (bm 19 15) ?_
          refine pz_ HT_ 4 32 (bm 19 31) ?_
          refine pz_ HT_ 5 33 (bm 19 63) ?_
          refine pz_ HT_ 6 34 (bm 19 127) ?_
          refine pz_ HT_ 7 35 (bm 19 255) ?_
          refine pz_ HT_ 8 36 (bm 19 511) ?_
          refine pz_ HT_ 9 37 (bm 19 1023) ?_
          refine pz_ HT_ 10 38 (bm 19 2047) ?_
          refine pu_ HT_ 11 39 (bm 19 4095) ?_
          refine pu_ HT_ 12 40 (bm 19 8191) ?_
          refine pz_ HT_ 13 41 (bm 19 16383) ?_
          refine pz_ HT_ 14 42 (bm 19 32767) ?_
          refine pz_ HT_ 15 43 (bm 19 65535) ?_
          refine pz_ HT_ 16 44 (bm 19 131071) ?_
          refine pz_ HT_ 17 45 (bm 19 262143) ?_
          refine pu_ HT_ 18 46 (bm 19 524287) ?_
          refine done_ (done_of HT_.out (by kernel_rfl)) ?_
          try go_wp2
          go_meet
          case rel => exact ⟨_, (true), (by first | rfl | (simp; done) | (simp [*]; done)), H', ⟨by have := HJ1.out; have := HK2.out; first | omega | exact Nat.le_refl _⟩, ⟨uq_⟩, ⟨hB_⟩⟩
        case rest =>
         clear HC14
         obtain ⟨kq, x46_13, rfl, HA, HJ13, BK177, HB⟩ := hcut
         cases kq with
         | zero => exact absurd HA.out (by simp [spec_PlateOk.j2])
         | succ kj13 =>
          have H := HA.out
          clear HA
          simp only [spec_PlateOk.j2] at H
          by_cases c31 : x46_13 = true
          ·
           subst c31
           rw [if_pos rfl] at H
           (try dsimp only at H)
           obtain rfl := Option.some.inj H
           go_wp2
           go_ret
           exact ⟨rr_, hB_⟩
          ·
           replace c31 := Bool.eq_false_iff.mpr c31
           subst c31
           rw [if_neg (show ¬ (false = true) by decide)] at H
           (try dsimp only at H)
           have H' := Aside0.mk H
           clear H
           go_wp2
           go_loopg [5] kj13 (fun kq v5 w' => ∃ (x5_4 : Int), v5 = .int .i64 x5_4 ∧ Aside0 (spec_PlateOk.l1 kq x3_2 (rd_L5 l0_1 x3_2) x5_4 l0_0 l0_1 = some r) ∧ Aside0 (kq ≤ kj13) ∧ Aside0 (w'.heap[gb177]? = some (.cells #[(.slice A0_0 l0_0.length c0_0), (.slice (some ad179) l0_1.length c0_1)] 26 (0, 0))) ∧ Aside0 (Below w.heap.size w w'))
           case atStart => exact ⟨(0), (by first | rfl | (simp; done) | (simp [*]; done)), H', ⟨Nat.le_refl _⟩, ⟨uq_⟩, ⟨hB_⟩⟩
           case round =>
            clear H'
            obtain ⟨x5_4, rfl, HA, HK4, BK177, HB⟩ := hrel
            cases gk with
            | zero => exact absurd HA.out (by simp [spec_PlateOk.l1])
            | succ k4 =>
             have H := HA.out
             clear HA
             simp only [spec_PlateOk.l1] at H
             by_cases c32 : x5_4 < x3_2
             ·
              rw [if_pos c32] at H
              have c32b0 : decide (x5_4 < x3_2) = true := decide_eq_true c32
              clear c32
              by_cases c33 : 0 ≤ x5_4
              ·
               rw [if_pos c33] at H
               have c33b0 : decide (0 ≤ x5_4) = true := decide_eq_true c33
               clear c33
               by_cases c34 : x5_4 < (l0_1.length : Int)
               ·
                rw [if_pos c34] at H
                have c34b0 : decide (x5_4 < (l0_1.length : Int)) = true := decide_eq_true c34
                clear c34
                replace H := Option.bind_eq_some_iff.mp H
                obtain ⟨t185, A350, H⟩ := H
                (try dsimp only at H)
                have A35 := Aside0.mk A350
                clear A350
                by_cases c36 : t185 = true
                ·
                 subst c36
                 rw [if_pos rfl] at H
                 (try dsimp only at H)
                 by_cases c37 : 0 < ((rd_L5 l0_1 x3_2).length : Int)
                 ·
                  rw [if_pos c37] at H
                  have c37b0 : decide (0 < ((rd_L5 l0_1 x3_2).length : Int)) = true := decide_eq_true c37
                  have c37b1 : decide (0 < (rd_L5 l0_1 x3_2).length) = true := decide_eq_true (by omega)
                  clear c37
                  replace H := Option.bind_eq_some_iff.mp H
                  obtain ⟨t188, A380, H⟩ := H
                  (try dsimp only at H)
                  have A38 := Aside0.mk A380
                  clear A380
                  by_cases c39 : t188 = (-1)
                  ·
                   rw [if_pos c39] at H
                   have c39b0 : (t188 == (-1)) = true := beq_iff_eq.mpr c39
                   have c39b1 : (t188 != (-1)) = false := bne_eq_false_iff_eq.mpr c39
                   clear c39
                   by_cases c40 : 0 < ((rd_L5 l0_1 x5_4).length : Int)
                   ·
                    rw [if_pos c40] at H
                    have c40b0 : decide (0 < ((rd_L5 l0_1 x5_4).length : Int)) = true := decide_eq_true c40
                    have c40b1 : decide (0 < (rd_L5 l0_1 x5_4).length) = true := decide_eq_true (by omega)
                    clear c40
                    replace H := Option.bind_eq_some_iff.mp H
                    obtain ⟨t191, A410, H⟩ := H
                    (try dsimp only at H)
                    have A41 := Aside0.mk A410
                    clear A410
                    by_cases c42 : t191 = (-1)
                    ·
                     rw [if_pos c42] at H
                     have c42b0 : (t191 == (-1)) = true := beq_iff_eq.mpr c42
                     have c42b1 : (t191 != (-1)) = false := bne_eq_false_iff_eq.mpr c42
                     clear c42
                     have H' := Aside0.mk H
                     clear H
                     try go_wp2
                     replace BK177 := a0_ (blk_drew BK177.out)
                     replace HB := a0_ (below_drew1 HB.out)
                     have p184 : 0 ≤ (x5_4 : Int) := od_
                     have q184 : x5_4 < (l0_1.length : Int) := od_
                     obtain ⟨ad184, A184_0, c184_0, e184, hx184_0, hl184_0, hi184_0⟩ := at_L5 HR0_1.out x5_4 p184 q184
                     have hw184_0 := hx184_0
                     obtain rfl : ad179 = ad184 := (by injection e184)
                     replace hx184_0 := ce_ HB hx184_0
                     have HR184_0 := Aside0.mk hi184_0
                     have HC184_0 := Aside0.mk hl184_0
                     clear hi184_0 hl184_0
                     replace p184 := eq_true p184
                     replace q184 := eq_true q184
                     have p187 : 0 ≤ (0 : Int) := (by omega)
                     have q187 : 0 < ((rd_L5 l0_1 x3_2).length : Int) := od_
                     obtain ⟨ad187, e187, hx187_0, hx187_1⟩ := at_T28 HR179_0.out 0 p187 q187
                     have hw187_1 := hx187_1
                     (try simp only [Int.toNat_zero, Nat.zero_mul, Addr.add_zero'] at hw187_1)
                     have hw187_0 := hx187_0
                     (try simp only [Int.toNat_zero, Nat.zero_mul, Addr.add_zero'] at hw187_0)
                     cases e187
                     have qi187 : (0 < (rd_L5 l0_1 x3_2).length) = True := eq_true (by omega)
                     (try simp only [Int.toNat_zero, Nat.zero_mul, Addr.add_zero'] at hx187_0)
                     (try simp only [Int.toNat_zero, Nat.zero_mul, Addr.add_zero'] at hx187_1)
                     replace hx187_0 := ce_ HB hx187_0
                     replace hx187_1 := ce_ HB hx187_1
                     replace p187 := eq_true p187
                     replace q187 := eq_true q187
                     have p190 : 0 ≤ (0 : Int) := (by omega)
                     have q190 : 0 < ((rd_L5 l0_1 x5_4).length : Int) := od_
                     obtain ⟨ad190, e190, hx190_0, hx190_1⟩ := at_T28 HR184_0.out 0 p190 q190
                     have hw190_1 := hx190_1
                     (try simp only [Int.toNat_zero, Nat.zero_mul, Addr.add_zero'] at hw190_1)
                     have hw190_0 := hx190_0
                     (try simp only [Int.toNat_zero, Nat.zero_mul, Addr.add_zero'] at hw190_0)
                     cases e190
                     have qi190 : (0 < (rd_L5 l0_1 x5_4).length) = True := eq_true (by omega)
                     (try simp only [Int.toNat_zero, Nat.zero_mul, Addr.add_zero'] at hx190_0)
                     (try simp only [Int.toNat_zero, Nat.zero_mul, Addr.add_zero'] at hx190_1)
                     replace hx190_0 := ce_ HB hx190_0
                     replace hx190_1 := ce_ HB hx190_1
                     replace p190 := eq_true p190
                     replace q190 := eq_true q190
                     refine start_ (n := 32) (S := fun w' => w'.cell? ⟨gb177, 0, none⟩ = some (.slice A0_0 l0_0.length c0_0) ∧ w'.cell? ⟨gb177, 1, none⟩ = some (.slice (some ad179) l0_1.length c0_1) ∧ w'.cell? (ad179.add (x5_4).toNat) = some (.slice (some ad190) (rd_L5 l0_1 x5_4).length c184_0) ∧ w'.cell? (ad179.add (x5_4).toNat) = some (.slice (some ad190) (rd_L5 l0_1 x5_4).length c184_0) ∧ w'.cell? ad187 = some (.int .i64 ((rd_T28 (rd_L5 l0_1 x3_2) 0).f0)) ∧ w'.cell? ⟨ad187.block, ad187.off + 1, none⟩ = some (.int .i64 ((rd_T28 (rd_L5 l0_1 x3_2) 0).f1)) ∧ w'.cell? (ad179.add (x5_4).toNat) = some (.slice (some ad190) (rd_L5 l0_1 x5_4).length c184_0) ∧ w'.cell? ad190 = some (.int .i64 ((rd_T28 (rd_L5 l0_1 x5_4) 0).f0)) ∧ w'.cell? ⟨ad190.block, ad190.off + 1, none⟩ = some (.int .i64 ((rd_T28 (rd_L5 l0_1 x5_4) 0).f1))) (ds := []) (Array.replicate 32 false) (by kernel_rfl) rfl rfl ⟨bc_, bc_, (ce_ HB hw184_0), (ce_ HB hw184_0), (ce_ HB hw187_0), (ce_ HB hw187_1), (ce_ HB hw184_0), (ce_ HB hw190_0), (ce_ HB hw190_1)⟩ (fun hHeld => ?_); refine with_tabW spec_PlateOk.tab12 spec_PlateOk.bits12 (fun HT_ HW_ => ?_)
                     generalize wr.drew = w43 at BK177 HB HR184_0 hx184_0 hx187_0 hx187_1 hx190_0 hx190_1 hHeld ⊢
                     refine pu_ HT_ 0 52 (bm 32 1) ?_
                     refine pu_ HT_ 1 53 (bm 32 3) ?_
                     refine pu_ HT_ 3 55 (bm 32 11) ?_
                     refine ta9_ HT_ HW_ 2 54 (bm 32 15) hHeld ?_
                     refine pu_ HT_ 4 56 (bm 32 31) ?_
                     refine ta9_ HT_ HW_ 5 57 (bm 32 63) hHeld ?_
                     refine one_ (i := 6) (N := some 58) (bm 32 127) rfl rfl (one_of HT_.out (by kernel_rfl)) (by decide) (fun K hK => ?_)
                     refine goes_ Tryd.func57 (by kernel_rfl) rfl #[.slice (some ad187) (rd_L5 l0_1 x3_2).length c179_0, .slice (some ad190) (rd_L5 l0_1 x5_4).length c184_0] (by rfl) rfl rfl ma_ ?_
                     with_reducible refine (spec_l11Apart.calls k4 _ _ (rd_L5 l0_1 x3_2) _ _ (rd_L5 l0_1 x5_4) true _ ?side1 ?side2 ?side3 ?side4 A35.out).mono ?_
                     (case side1 => repeat (first | exact (Kd.C_below HR179_0.out HB.out) | (with_reducible refine Kd.C_alloc ?_ _) | (with_reducible refine Kd.C_drewN ?_ _) | (with_reducible refine Kd.C_drew ?_)))
                     (case side2 => exact HC179_0.out)
                     (case side3 => repeat (first | exact (Kd.C_below HR184_0.out HB.out) | (with_reducible refine Kd.C_alloc ?_ _) | (with_reducible refine Kd.C_drewN ?_ _) | (with_reducible refine Kd.C_drew ?_)))
                     (case side4 => exact HC184_0.out)
                     rintro e w44 ⟨rfl, hb⟩
                     refine ⟨_, rfl, ?_⟩
                     replace BK177 := vb_ BK177 hb
                     replace HB := sb_ HB hb
                     (try clear hb)
                     (try clear hb2)
                     (try clear hk)
                     (try clear hi)
                     refine hK.out _ _ ⟨bc_, bc_, (ce_ HB hw184_0), (ce_ HB hw184_0), (ce_ HB hw187_0), (ce_ HB hw187_1), (ce_ HB hw184_0), (ce_ HB hw190_0), (ce_ HB hw190_1)⟩ (fun hHeld => ?_)
                     clear hK K
                     refine no_ (h := ?_)
                     refine pu_ HT_ 7 59 (bm 32 255) ?_
                     refine pu_ HT_ 8 60 (bm 32 511) ?_
                     refine pu_ HT_ 9 61 (bm 32 1023) ?_
                     refine pu_ HT_ 11 63 (bm 32 3071) ?_
                     refine pu_ HT_ 14 66 (bm 32 19455) ?_
                     refine pu_ HT_ 15 67 (bm 32 52223) ?_
                     refine ta9_ HT_ HW_ 10 62 (bm 32 53247) hHeld ?_
                     refine pu_ HT_ 12 64 (bm 32 57343) ?_
                     refine ta9_ HT_ HW_ 13 65 (bm 32 65535) hHeld ?_
                     refine ta9_ HT_ HW_ 16 68 (bm 32 131071) hHeld ?_
                     refine one_ (i := 17) (N := some 69) (bm 32 262143) rfl rfl (one_of HT_.out (by kernel_rfl)) (by decide) (fun K hK => ?_)
                     refine goes_ Tryd.func56 (by kernel_rfl) rfl #[.slice (some ad190) (rd_L5 l0_1 x5_4).length c184_0, .agg #[.int .i64 ((rd_T28 (rd_L5 l0_1 x3_2) 0).f0), .int .i64 ((rd_T28 (rd_L5 l0_1 x3_2) 0).f1)]] (by rfl) rfl rfl ma_ ?_
                     with_reducible refine (spec_l3In.calls _ _ (rd_L5 l0_1 x5_4) ((rd_T28 (rd_L5 l0_1 x3_2) 0).f0) ((rd_T28 (rd_L5 l0_1 x3_2) 0).f1) t188 _ ?side1 ?side2 A38.out).mono ?_
                     (case side1 => repeat (first | exact (Kd.C_below HR184_0.out HB.out) | (with_reducible refine Kd.C_alloc ?_ _) | (with_reducible refine Kd.C_drewN ?_ _) | (with_reducible refine Kd.C_drew ?_)))
                     (case side2 => exact HC184_0.out)
                     rintro e w45 ⟨rfl, hb⟩
                     refine ⟨_, rfl, ?_⟩
                     replace BK177 := vb_ BK177 hb
                     replace HB := sb_ HB hb
                     (try clear hb)
                     (try clear hb2)
                     (try clear hk)
                     (try clear hi)
                     refine hK.out _ _ ⟨bc_, bc_, (ce_ HB hw184_0), (ce_ HB hw184_0), (ce_ HB hw187_0), (ce_ HB hw187_1), (ce_ HB hw184_0), (ce_ HB hw190_0), (ce_ HB hw190_1)⟩ (fun hHeld => ?_)
                     clear hK K
                     refine no_ (h := ?_)
                     refine pu_ HT_ 18 70 (bm 32 524287) ?_
                     refine pu_ HT_ 19 71 (bm 32 1048575) ?_
                     refine pu_ HT_ 20 72 (bm 32 2097151) ?_
                     refine pu_ HT_ 21 73 (bm 32 4194303) ?_
                     refine pu_ HT_ 22 74 (bm 32 8388607) ?_
                     refine pu_ HT_ 24 76 (bm 32 25165823) ?_
                     refine ta9_ HT_ HW_ 23 75 (bm 32 33554431) hHeld ?_
                     refine pu_ HT_ 25 77 (bm 32 67108863) ?_
                     refine ta9_ HT_ HW_ 26 78 (bm 32 134217727) hHeld ?_
                     refine pu_ HT_ 27 79 (bm 32 268435455) ?_
                     refine ta9_ HT_ HW_ 28 80 (bm 32 536870911) hHeld ?_
                     refine one_ (i := 29) (N := some 81) (bm 32 1073741823) rfl rfl (one_of HT_.out (by kernel_rfl)) (by decide) (fun K hK => ?_)
                     refine goes_ Tryd.func56 (by kernel_rfl) rfl #[.slice (some ad187) (rd_L5 l0_1 x3_2).length c179_0, .agg #[.int .i64 ((rd_T28 (rd_L5 l0_1 x5_4) 0).f0), .int .i64 ((rd_T28 (rd_L5 l0_1 x5_4) 0).f1)]] (by rfl) rfl rfl ma_ ?_
                     with_reducible refine (spec_l3In.calls _ _ (rd_L5 l0_1 x3_2) ((rd_T28 (rd_L5 l0_1 x5_4) 0).f0) ((rd_T28 (rd_L5 l0_1 x5_4) 0).f1) t191 _ ?side1 ?side2 A41.out).mono ?_
                     (case side1 => repeat (first | exact (Kd.C_below HR179_0.out HB.out) | (with_reducible refine Kd.C_alloc ?_ _) | (with_reducible refine Kd.C_drewN ?_ _) | (with_reducible refine Kd.C_drew ?_)))
                     (case side2 => exact HC179_0.out)
                     rintro e w46 ⟨rfl, hb⟩
                     refine ⟨_, rfl, ?_⟩
                     replace BK177 := vb_ BK177 hb
                     replace HB := sb_ HB hb
                     (try clear hb)
                     (try clear hb2)
                     (try clear hk)
                     (try clear hi)
                     refine hK.out _ _ ⟨bc_, bc_, (ce_ HB hw184_0), (ce_ HB hw184_0), (ce_ HB hw187_0), (ce_ HB hw187_1), (ce_ HB hw184_0), (ce_ HB hw190_0), (ce_ HB hw190_1)⟩ (fun hHeld => ?_)
                     clear hK K
                     refine no_ (h := ?_)
                     refine pu_ HT_ 30 82 (bm 32 2147483647) ?_
                     refine pu_ HT_ 31 83 (bm 32 4294967295) ?_
                     refine done_ (done_of HT_.out (by kernel_rfl)) ?_
                     try go_wp2
                     go_roundg k4
                     case measure => have := HJ1.out; have := HK2.out; have := HJ13.out; have := HK4.out; omega
                     case rel => exact ⟨(wrap64 (x5_4 + 1)), (by first | rfl | (simp; done) | (simp [*]; done)), H', ⟨by have := HJ1.out; have := HK2.out; have := HJ13.out; have := HK4.out; omega⟩, ⟨uq_⟩, ⟨hB_⟩⟩
                    ·
                     rw [if_neg c42] at H
                     have c42b0 : (t191 == (-1)) = false := beq_eq_false_iff_ne.mpr c42
                     have c42b1 : (t191 != (-1)) = true := bne_iff_ne.mpr c42
                     obtain rfl := Option.some.inj H
                     try go_wp2
                     replace BK177 := a0_ (blk_drew BK177.out)
                     replace HB := a0_ (below_drew1 HB.out)
                     have p184 : 0 ≤ (x5_4 : Int) := od_
                     have q184 : x5_4 < (l0_1.length : Int) := od_
                     obtain ⟨ad184, A184_0, c184_0, e184, hx184_0, hl184_0, hi184_0⟩ := at_L5 HR0_1.out x5_4 p184 q184
                     have hw184_0 := hx184_0
                     obtain rfl : ad179 = ad184 := (by injection e184)
                     replace hx184_0 := ce_ HB hx184_0
                     have HR184_0 := Aside0.mk hi184_0
                     have HC184_0 := Aside0.mk hl184_0
                     clear hi184_0 hl184_0
                     replace p184 := eq_true p184
                     replace q184 := eq_true q184
                     have p187 : 0 ≤ (0 : Int) := (by omega)
                     have q187 : 0 < ((rd_L5 l0_1 x3_2).length : Int) := od_
                     obtain ⟨ad187, e187, hx187_0, hx187_1⟩ := at_T28 HR179_0.out 0 p187 q187
                     have hw187_1 := hx187_1
                     (try simp only [Int.toNat_zero, Nat.zero_mul, Addr.add_zero'] at hw187_1)
                     have hw187_0 := hx187_0
                     (try simp only [Int.toNat_zero, Nat.zero_mul, Addr.add_zero'] at hw187_0)
                     cases e187
                     have qi187 : (0 < (rd_L5 l0_1 x3_2).length) = True := eq_true (by omega)
                     (try simp only [Int.toNat_zero, Nat.zero_mul, Addr.add_zero'] at hx187_0)
                     (try simp only [Int.toNat_zero, Nat.zero_mul, Addr.add_zero'] at hx187_1)
                     replace hx187_0 := ce_ HB hx187_0
                     replace hx187_1 := ce_ HB hx187_1
                     replace p187 := eq_true p187
                     replace q187 := eq_true q187
                     have p190 : 0 ≤ (0 : Int) := (by omega)
                     have q190 : 0 < ((rd_L5 l0_1 x5_4).length : Int) := od_
                     obtain ⟨ad190, e190, hx190_0, hx190_1⟩ := at_T28 HR184_0.out 0 p190 q190
                     have hw190_1 := hx190_1
                     (try simp only [Int.toNat_zero, Nat.zero_mul, Addr.add_zero'] at hw190_1)
                     have hw190_0 := hx190_0
                     (try simp only [Int.toNat_zero, Nat.zero_mul, Addr.add_zero'] at hw190_0)
                     cases e190
                     have qi190 : (0 < (rd_L5 l0_1 x5_4).length) = True := eq_true (by omega)
                     (try simp only [Int.toNat_zero, Nat.zero_mul, Addr.add_zero'] at hx190_0)
                     (try simp only [Int.toNat_zero, Nat.zero_mul, Addr.add_zero'] at hx190_1)
                     replace hx190_0 := ce_ HB hx190_0
                     replace hx190_1 := ce_ HB hx190_1
                     replace p190 := eq_true p190
                     replace q190 := eq_true q190
                     refine start_ (n := 32) (S := fun w' => w'.cell? ⟨gb177, 0, none⟩ = some (.slice A0_0 l0_0.length c0_0) ∧ w'.cell? ⟨gb177, 1, none⟩ = some (.slice (some ad179) l0_1.length c0_1) ∧ w'.cell? (ad179.add (x5_4).toNat) = some (.slice (some ad190) (rd_L5 l0_1 x5_4).length c184_0) ∧ w'.cell? (ad179.add (x5_4).toNat) = some (.slice (some ad190) (rd_L5 l0_1 x5_4).length c184_0) ∧ w'.cell? ad187 = some (.int .i64 ((rd_T28 (rd_L5 l0_1 x3_2) 0).f0)) ∧ w'.cell? ⟨ad187.block, ad187.off + 1, none⟩ = some (.int .i64 ((rd_T28 (rd_L5 l0_1 x3_2) 0).f1)) ∧ w'.cell? (ad179.add (x5_4).toNat) = some (.slice (some ad190) (rd_L5 l0_1 x5_4).length c184_0) ∧ w'.cell? ad190 = some (.int .i64 ((rd_T28 (rd_L5 l0_1 x5_4) 0).f0)) ∧ w'.cell? ⟨ad190.block, ad190.off + 1, none⟩ = some (.int .i64 ((rd_T28 (rd_L5 l0_1 x5_4) 0).f1))) (ds := []) (Array.replicate 32 false) (by kernel_rfl) rfl rfl ⟨bc_, bc_, (ce_ HB hw184_0), (ce_ HB hw184_0), (ce_ HB hw187_0), (ce_ HB hw187_1), (ce_ HB hw184_0), (ce_ HB hw190_0), (ce_ HB hw190_1)⟩ (fun hHeld => ?_); refine with_tabW spec_PlateOk.tab12 spec_PlateOk.bits12 (fun HT_ HW_ => ?_)
                     generalize wr.drew = w47 at BK177 HB HR184_0 hx184_0 hx187_0 hx187_1 hx190_0 hx190_1 hHeld ⊢
                     refine pu_ HT_ 0 52 (bm 32 1) ?_
                     refine pu_ HT_ 1 53 (bm 32 3) ?_
                     refine pu_ HT_ 3 55 (bm 32 11) ?_
                     refine ta9_ HT_ HW_ 2 54 (bm 32 15) hHeld ?_
                     refine pu_ HT_ 4 56 (bm 32 31) ?_
                     refine ta9_ HT_ HW_ 5 57 (bm 32 63) hHeld ?_
                     refine one_ (i := 6) (N := some 58) (bm 32 127) rfl rfl (one_of HT_.out (by kernel_rfl)) (by decide) (fun K hK => ?_)
                     refine goes_ Tryd.func57 (by kernel_rfl) rfl #[.slice (some ad187) (rd_L5 l0_1 x3_2).length c179_0, .slice (some ad190) (rd_L5 l0_1 x5_4).length c184_0] (by rfl) rfl rfl ma_ ?_
                     with_reducible refine (spec_l11Apart.calls k4 _ _ (rd_L5 l0_1 x3_2) _ _ (rd_L5 l0_1 x5_4) true _ ?side1 ?side2 ?side3 ?side4 A35.out).mono ?_
                     (case side1 => repeat (first | exact (Kd.C_below HR179_0.out HB.out) | (with_reducible refine Kd.C_alloc ?_ _) | (with_reducible refine Kd.C_drewN ?_ _) | (with_reducible refine Kd.C_drew ?_)))
                     (case side2 => exact HC179_0.out)
                     (case side3 => repeat (first | exact (Kd.C_below HR184_0.out HB.out) | (with_reducible refine Kd.C_alloc ?_ _) | (with_reducible refine Kd.C_drewN ?_ _) | (with_reducible refine Kd.C_drew ?_)))
                     (case side4 => exact HC184_0.out)
                     rintro e w48 ⟨rfl, hb⟩
                     refine ⟨_, rfl, ?_⟩
                     replace BK177 := vb_ BK177 hb
                     replace HB := sb_ HB hb
                     (try clear hb)
                     (try clear hb2)
                     (try clear hk)
                     (try clear hi)
                     refine hK.out _ _ ⟨bc_, bc_, (ce_ HB hw184_0), (ce_ HB hw184_0), (ce_ HB hw187_0), (ce_ HB hw187_1), (ce_ HB hw184_0), (ce_ HB hw190_0), (ce_ HB hw190_1)⟩ (fun hHeld => ?_)
                     clear hK K
                     refine no_ (h := ?_)
                     refine pu_ HT_ 7 59 (bm 32 255) ?_
                     refine pu_ HT_ 8 60 (bm 32 511) ?_
                     refine pu_ HT_ 9 61 (bm 32 1023) ?_
                     refine pu_ HT_ 11 63 (bm 32 3071) ?_
                     refine pu_ HT_ 14 66 (bm 32 19455) ?_
                     refine pu_ HT_ 15 67 (bm 32 52223) ?_
                     refine ta9_ HT_ HW_ 10 62 (bm 32 53247) hHeld ?_
                     refine pu_ HT_ 12 64 (bm 32 57343) ?_
                     refine ta9_ HT_ HW_ 13 65 (bm 32 65535) hHeld ?_
                     refine ta9_ HT_ HW_ 16 68 (bm 32 131071) hHeld ?_
                     refine one_ (i := 17) (N := some 69) (bm 32 262143) rfl rfl (one_of HT_.out (by kernel_rfl)) (by decide) (fun K hK => ?_)
                     refine goes_ Tryd.func56 (by kernel_rfl) rfl #[.slice (some ad190) (rd_L5 l0_1 x5_4).length c184_0, .agg #[.int .i64 ((rd_T28 (rd_L5 l0_1 x3_2) 0).f0), .int .i64 ((rd_T28 (rd_L5 l0_1 x3_2) 0).f1)]] (by rfl) rfl rfl ma_ ?_
                     with_reducible refine (spec_l3In.calls _ _ (rd_L5 l0_1 x5_4) ((rd_T28 (rd_L5 l0_1 x3_2) 0).f0) ((rd_T28 (rd_L5 l0_1 x3_2) 0).f1) t188 _ ?side1 ?side2 A38.out).mono ?_
                     (case side1 => repeat (first | exact (Kd.C_below HR184_0.out HB.out) | (with_reducible refine Kd.C_alloc ?_ _) | (with_reducible refine Kd.C_drewN ?_ _) | (with_reducible refine Kd.C_drew ?_)))
                     (case side2 => exact HC184_0.out)
                     rintro e w49 ⟨rfl, hb⟩
                     refine ⟨_, rfl, ?_⟩
                     replace BK177 := vb_ BK177 hb
                     replace HB := sb_ HB hb
                     (try clear hb)
                     (try clear hb2)
                     (try clear hk)
                     (try clear hi)
                     refine hK.out _ _ ⟨bc_, bc_, (ce_ HB hw184_0), (ce_ HB hw184_0), (ce_ HB hw187_0), (ce_ HB hw187_1), (ce_ HB hw184_0), (ce_ HB hw190_0), (ce_ HB hw190_1)⟩ (fun hHeld => ?_)
                     clear hK K
                     refine no_ (h := ?_)
                     refine pu_ HT_ 18 70 (bm 32 524287) ?_
                     refine pu_ HT_ 19 71 (bm 32 1048575) ?_
                     refine pu_ HT_ 20 72 (bm 32 2097151) ?_
                     refine pu_ HT_ 21 73 (bm 32 4194303) ?_
                     refine pu_ HT_ 22 74 (bm 32 8388607) ?_
                     refine pu_ HT_ 24 76 (bm 32 25165823) ?_
                     refine ta9_ HT_ HW_ 23 75 (bm 32 33554431) hHeld ?_
                     refine pu_ HT_ 25 77 (bm 32 67108863) ?_
                     refine ta9_ HT_ HW_ 26 78 (bm 32 134217727) hHeld ?_
                     refine pu_ HT_ 27 79 (bm 32 268435455) ?_
                     refine ta9_ HT_ HW_ 28 80 (bm 32 536870911) hHeld ?_
                     refine one_ (i := 29) (N := some 81) (bm 32 1073741823) rfl rfl (one_of HT_.out (by kernel_rfl)) (by decide) (fun K hK => ?_)
                     refine goes_ Tryd.func56 (by kernel_rfl) rfl #[.slice (some ad187) (rd_L5 l0_1 x3_2).length c179_0, .agg #[.int .i64 ((rd_T28 (rd_L5 l0_1 x5_4) 0).f0), .int .i64 ((rd_T28 (rd_L5 l0_1 x5_4) 0).f1)]] (by rfl) rfl rfl ma_ ?_
                     with_reducible refine (spec_l3In.calls _ _ (rd_L5 l0_1 x3_2) ((rd_T28 (rd_L5 l0_1 x5_4) 0).f0) ((rd_T28 (rd_L5 l0_1 x5_4) 0).f1) t191 _ ?side1 ?side2 A41.out).mono ?_
                     (case side1 => repeat (first | exact (Kd.C_below HR179_0.out HB.out) | (with_reducible refine Kd.C_alloc ?_ _) | (with_reducible refine Kd.C_drewN ?_ _) | (with_reducible refine Kd.C_drew ?_)))
                     (case side2 => exact HC179_0.out)
                     rintro e w50 ⟨rfl, hb⟩
                     refine ⟨_, rfl, ?_⟩
                     replace BK177 := vb_ BK177 hb
                     replace HB := sb_ HB hb
                     (try clear hb)
                     (try clear hb2)
                     (try clear hk)
                     (try clear hi)
                     refine hK.out _ _ ⟨bc_, bc_, (ce_ HB hw184_0), (ce_ HB hw184_0), (ce_ HB hw187_0), (ce_ HB hw187_1), (ce_ HB hw184_0), (ce_ HB hw190_0), (ce_ HB hw190_1)⟩ (fun hHeld => ?_)
                     clear hK K
                     refine no_ (h := ?_)
                     refine pu_ HT_ 30 82 (bm 32 2147483647) ?_
                     refine pu_ HT_ 31 83 (bm 32 4294967295) ?_
                     refine done_ (done_of HT_.out (by kernel_rfl)) ?_
                     try go_wp2
                     go_ret
                     exact ⟨rr_, hB_⟩
                   ·
                    rw [if_neg c40] at H
                    exact absurd H (by simp)
                  ·
                   rw [if_neg c39] at H
                   have c39b0 : (t188 == (-1)) = false := beq_eq_false_iff_ne.mpr c39
                   have c39b1 : (t188 != (-1)) = true := bne_iff_ne.mpr c39
                   obtain rfl := Option.some.inj H
                   try go_wp2
                   replace BK177 := a0_ (blk_drew BK177.out)
                   replace HB := a0_ (below_drew1 HB.out)
                   have p184 : 0 ≤ (x5_4 : Int) := od_
                   have q184 : x5_4 < (l0_1.length : Int) := od_
                   obtain ⟨ad184, A184_0, c184_0, e184, hx184_0, hl184_0, hi184_0⟩ := at_L5 HR0_1.out x5_4 p184 q184
                   have hw184_0 := hx184_0
                   obtain rfl : ad179 = ad184 := (by injection e184)
                   replace hx184_0 := ce_ HB hx184_0
                   have HR184_0 := Aside0.mk hi184_0
                   have HC184_0 := Aside0.mk hl184_0
                   clear hi184_0 hl184_0
                   replace p184 := eq_true p184
                   replace q184 := eq_true q184
                   have p187 : 0 ≤ (0 : Int) := (by omega)
                   have q187 : 0 < ((rd_L5 l0_1 x3_2).length : Int) := od_
                   obtain ⟨ad187, e187, hx187_0, hx187_1⟩ := at_T28 HR179_0.out 0 p187 q187
                   have hw187_1 := hx187_1
                   (try simp only [Int.toNat_zero, Nat.zero_mul, Addr.add_zero'] at hw187_1)
                   have hw187_0 := hx187_0
                   (try simp only [Int.toNat_zero, Nat.zero_mul, Addr.add_zero'] at hw187_0)
                   cases e187
                   have qi187 : (0 < (rd_L5 l0_1 x3_2).length) = True := eq_true (by omega)
                   (try simp only [Int.toNat_zero, Nat.zero_mul, Addr.add_zero'] at hx187_0)
                   (try simp only [Int.toNat_zero, Nat.zero_mul, Addr.add_zero'] at hx187_1)
                   replace hx187_0 := ce_ HB hx187_0
                   replace hx187_1 := ce_ HB hx187_1
                   replace p187 := eq_true p187
                   replace q187 := eq_true q187
                   refine start_ (n := 32) (S := fun w' => w'.cell? ⟨gb177, 0, none⟩ = some (.slice A0_0 l0_0.length c0_0) ∧ w'.cell? ⟨gb177, 1, none⟩ = some (.slice (some ad179) l0_1.length c0_1) ∧ w'.cell? (ad179.add (x5_4).toNat) = some (.slice A184_0 (rd_L5 l0_1 x5_4).length c184_0) ∧ w'.cell? (ad179.add (x5_4).toNat) = some (.slice A184_0 (rd_L5 l0_1 x5_4).length c184_0) ∧ w'.cell? ad187 = some (.int .i64 ((rd_T28 (rd_L5 l0_1 x3_2) 0).f0)) ∧ w'.cell? ⟨ad187.block, ad187.off + 1, none⟩ = some (.int .i64 ((rd_T28 (rd_L5 l0_1 x3_2) 0).f1))) (ds := []) (Array.replicate 32 false) (by kernel_rfl) rfl rfl ⟨bc_, bc_, (ce_ HB hw184_0), (ce_ HB hw184_0), (ce_ HB hw187_0), (ce_ HB hw187_1)⟩ (fun hHeld => ?_); refine with_tabW spec_PlateOk.tab12 spec_PlateOk.bits12 (fun HT_ HW_ => ?_)
                   generalize wr.drew = w51 at BK177 HB HR184_0 hx184_0 hx187_0 hx187_1 hHeld ⊢
                   refine pu_ HT_ 0 52 (bm 32 1) ?_
                   refine pu_ HT_ 1 53 (bm 32 3) ?_
                   refine pu_ HT_ 3 55 (bm 32 11) ?_
                   refine ta6_ HT_ HW_ 2 54 (bm 32 15) hHeld ?_
                   refine pu_ HT_ 4 56 (bm 32 31) ?_
                   refine ta6_ HT_ HW_ 5 57 (bm 32 63) hHeld ?_
                   refine one_ (i := 6) (N := some 58) (bm 32 127) rfl rfl (one_of HT_.out (by kernel_rfl)) (by decide) (fun K hK => ?_)
                   refine goes_ Tryd.func57 (by kernel_rfl) rfl #[.slice (some ad187) (rd_L5 l0_1 x3_2).length c179_0, .slice A184_0 (rd_L5 l0_1 x5_4).length c184_0] (by rfl) rfl rfl ma_ ?_
                   with_reducible refine (spec_l11Apart.calls k4 _ _ (rd_L5 l0_1 x3_2) _ _ (rd_L5 l0_1 x5_4) true _ ?side1 ?side2 ?side3 ?side4 A35.out).mono ?_
                   (case side1 => repeat (first | exact (Kd.C_below HR179_0.out HB.out) | (with_reducible refine Kd.C_alloc ?_ _) | (with_reducible refine Kd.C_drewN ?_ _) | (with_reducible refine Kd.C_drew ?_)))
                   (case side2 => exact HC179_0.out)
                   (case side3 => repeat (first | exact (Kd.C_below HR184_0.out HB.out) | (with_reducible refine Kd.C_alloc ?_ _) | (with_reducible refine Kd.C_drewN ?_ _) | (with_reducible refine Kd.C_drew ?_)))
                   (case side4 => exact HC184_0.out)
                   rintro e w52 ⟨rfl, hb⟩
                   refine ⟨_, rfl, ?_⟩
                   replace BK177 := vb_ BK177 hb
                   replace HB := sb_ HB hb
                   (try clear hb)
                   (try clear hb2)
                   (try clear hk)
                   (try clear hi)
                   refine hK.out _ _ ⟨bc_, bc_, (ce_ HB hw184_0), (ce_ HB hw184_0), (ce_ HB hw187_0), (ce_ HB hw187_1)⟩ (fun hHeld => ?_)
                   clear hK K
                   refine no_ (h := ?_)
                   refine pu_ HT_ 7 59 (bm 32 255) ?_
                   refine pu_ HT_ 8 60 (bm 32 511) ?_
                   refine pu_ HT_ 9 61 (bm 32 1023) ?_
                   refine pu_ HT_ 11 63 (bm 32 3071) ?_
                   refine pu_ HT_ 14 66 (bm 32 19455) ?_
                   refine pu_ HT_ 15 67 (bm 32 52223) ?_
                   refine ta6_ HT_ HW_ 10 62 (bm 32 53247) hHeld ?_
                   refine pu_ HT_ 12 64 (bm 32 57343) ?_
                   refine ta6_ HT_ HW_ 13 65 (bm 32 65535) hHeld ?_
                   refine ta6_ HT_ HW_ 16 68 (bm 32 131071) hHeld ?_
                   refine one_ (i := 17) (N := some 69) (bm 32 262143) rfl rfl (one_of HT_.out (by kernel_rfl)) (by decide) (fun K hK => ?_)
                   refine goes_ Tryd.func56 (by kernel_rfl) rfl #[.slice A184_0 (rd_L5 l0_1 x5_4).length c184_0, .agg #[.int .i64 ((rd_T28 (rd_L5 l0_1 x3_2) 0).f0), .int .i64 ((rd_T28 (rd_L5 l0_1 x3_2) 0).f1)]] (by rfl) rfl rfl ma_ ?_
                   with_reducible refine (spec_l3In.calls _ _ (rd_L5 l0_1 x5_4) ((rd_T28 (rd_L5 l0_1 x3_2) 0).f0) ((rd_T28 (rd_L5 l0_1 x3_2) 0).f1) t188 _ ?side1 ?side2 A38.out).mono ?_
                   (case side1 => repeat (first | exact (Kd.C_below HR184_0.out HB.out) | (with_reducible refine Kd.C_alloc ?_ _) | (with_reducible refine Kd.C_drewN ?_ _) | (with_reducible refine Kd.C_drew ?_)))
                   (case side2 => exact HC184_0.out)
                   rintro e w53 ⟨rfl, hb⟩
                   refine ⟨_, rfl, ?_⟩
                   replace BK177 := vb_ BK177 hb
                   replace HB := sb_ HB hb
                   (try clear hb)
                   (try clear hb2)
                   (try clear hk)
                   (try clear hi)
                   refine hK.out _ _ ⟨bc_, bc_, (ce_ HB hw184_0), (ce_ HB hw184_0), (ce_ HB hw187_0), (ce_ HB hw187_1)⟩ (fun hHeld => ?_)
                   clear hK K
                   refine no_ (h := ?_)
                   refine pu_ HT_ 18 70 (bm 32 524287) ?_
                   refine pu_ HT_ 19 71 (bm 32 1048575) ?_
                   refine pu_ HT_ 20 72 (bm 32 2097151) ?_
                   refine pz_ HT_ 21 73 (bm 32 4194303) ?_
                   refine pz_ HT_ 22 74 (bm 32 8388607) ?_
                   refine pz_ HT_ 23 75 (bm 32 16777215) ?_
                   refine pz_ HT_ 24 76 (bm 32 33554431) ?_
                   refine pz_ HT_ 25 77 (bm 32 67108863) ?_
                   refine pz_ HT_ 26 78 (bm 32 134217727) ?_
                   refine pz_ HT_ 27 79 (bm 32 268435455) ?_
                   refine pz_ HT_ 28 80 (bm 32 536870911) ?_
                   refine pz_ HT_ 29 81 (bm 32 1073741823) ?_
                   refine pz_ HT_ 30 82 (bm 32 2147483647) ?_
                   refine pu_ HT_ 31 83 (bm 32 4294967295) ?_
                   refine done_ (done_of HT_.out (by kernel_rfl)) ?_
                   try go_wp2
                   go_ret
                   exact ⟨rr_, hB_⟩
                 ·
                  rw [if_neg c37] at H
                  exact absurd H (by simp)
                ·
                 replace c36 := Bool.eq_false_iff.mpr c36
                 subst c36
                 rw [if_neg (show ¬ (false = true) by decide)] at H
                 (try dsimp only at H)
                 obtain rfl := Option.some.inj H
                 try go_wp2
                 replace BK177 := a0_ (blk_drew BK177.out)
                 replace HB := a0_ (below_drew1 HB.out)
                 have p184 : 0 ≤ (x5_4 : Int) := od_
                 have q184 : x5_4 < (l0_1.length : Int) := od_
                 obtain ⟨ad184, A184_0, c184_0, e184, hx184_0, hl184_0, hi184_0⟩ := at_L5 HR0_1.out x5_4 p184 q184
                 have hw184_0 := hx184_0
                 obtain rfl : ad179 = ad184 := (by injection e184)
                 replace hx184_0 := ce_ HB hx184_0
                 have HR184_0 := Aside0.mk hi184_0
                 have HC184_0 := Aside0.mk hl184_0
                 clear hi184_0 hl184_0
                 replace p184 := eq_true p184
                 replace q184 := eq_true q184
                 refine start_ (n := 32) (S := fun w' => w'.cell? ⟨gb177, 0, none⟩ = some (.slice A0_0 l0_0.length c0_0) ∧ w'.cell? ⟨gb177, 1, none⟩ = some (.slice (some ad179) l0_1.length c0_1) ∧ w'.cell? (ad179.add (x5_4).toNat) = some (.slice A184_0 (rd_L5 l0_1 x5_4).length c184_0)) (ds := []) (Array.replicate 32 false) (by kernel_rfl) rfl rfl ⟨bc_, bc_, (ce_ HB hw184_0)⟩ (fun hHeld => ?_); refine with_tabW spec_PlateOk.tab12 spec_PlateOk.bits12 (fun HT_ HW_ => ?_)
                 generalize wr.drew = w54 at BK177 HB HR184_0 hx184_0 hHeld ⊢
                 refine pu_ HT_ 0 52 (bm 32 1) ?_
                 refine pu_ HT_ 1 53 (bm 32 3) ?_
                 refine pu_ HT_ 3 55 (bm 32 11) ?_
                 refine ta3_ HT_ HW_ 2 54 (bm 32 15) hHeld ?_
                 refine pu_ HT_ 4 56 (bm 32 31) ?_
                 refine ta3_ HT_ HW_ 5 57 (bm 32 63) hHeld ?_
                 refine one_ (i := 6) (N := some 58) (bm 32 127) rfl rfl (one_of HT_.out (by kernel_rfl)) (by decide) (fun K hK => ?_)
                 refine goes_ Tryd.func57 (by kernel_rfl) rfl #[.slice A179_0 (rd_L5 l0_1 x3_2).length c179_0, .slice A184_0 (rd_L5 l0_1 x5_4).length c184_0] (by rfl) rfl rfl ma_ ?_
                 with_reducible refine (spec_l11Apart.calls k4 _ _ (rd_L5 l0_1 x3_2) _ _ (rd_L5 l0_1 x5_4) false _ ?side1 ?side2 ?side3 ?side4 A35.out).mono ?_
                 (case side1 => repeat (first | exact (Kd.C_below HR179_0.out HB.out) | (with_reducible refine Kd.C_alloc ?_ _) | (with_reducible refine Kd.C_drewN ?_ _) | (with_reducible refine Kd.C_drew ?_)))
                 (case side2 => exact HC179_0.out)
                 (case side3 => repeat (first | exact (Kd.C_below HR184_0.out HB.out) | (with_reducible refine Kd.C_alloc ?_ _) | (with_reducible refine Kd.C_drewN ?_ _) | (with_reducible refine Kd.C_drew ?_)))
                 (case side4 => exact HC184_0.out)
                 rintro e w55 ⟨rfl, hb⟩
                 refine ⟨_, rfl, ?_⟩
                 replace BK177 := vb_ BK177 hb
                 replace HB := sb_ HB hb
                 (try clear hb)
                 (try clear hb2)
                 (try clear hk)
                 (try clear hi)
                 refine hK.out _ _ ⟨bc_, bc_, (ce_ HB hw184_0)⟩ (fun hHeld => ?_)
                 clear hK K
                 refine no_ (h := ?_)
                 refine pu_ HT_ 7 59 (bm 32 255) ?_
                 refine pu_ HT_ 8 60 (bm 32 511) ?_
                 refine pz_ HT_ 9 61 (bm 32 1023) ?_
                 refine pz_ HT_ 10 62 (bm 32 2047) ?_
                 refine pz_ HT_ 11 63 (bm 32 4095) ?_
                 refine pz_ HT_ 12 64 (bm 32 8191) ?_
                 refine pz_ HT_ 13 65 (bm 32 16383) ?_
                 refine pz_ HT_ 14 66 (bm 32 32767) ?_
                 refine pz_ HT_ 15 67 (bm 32 65535) ?_
                 refine pz_ HT_ 16 68 (bm 32 131071) ?_
                 refine pz_ HT_ 17 69 (bm 32 262143) ?_
                 refine pz_ HT_ 18 70 (bm 32 524287) ?_
                 refine pu_ HT_ 19 71 (bm 32 1048575) ?_
                 refine pu_ HT_ 20 72 (bm 32 2097151) ?_
                 refine pz_ HT_ 21 73 (bm 32 4194303) ?_
                 refine pz_ HT_ 22 74 (bm 32 8388607) ?_
                 refine pz_ HT_ 23 75 (bm 32 16777215) ?_
                 refine pz_ HT_ 24 76 (bm 32 33554431) ?_
                 refine pz_ HT_ 25 77 (bm 32 67108863) ?_
                 refine pz_ HT_ 26 78 (bm 32 134217727) ?_
                 refine pz_ HT_ 27 79 (bm 32 268435455) ?_
                 refine pz_ HT_ 28 80 (bm 32 536870911) ?_
                 refine pz_ HT_ 29 81 (bm 32 1073741823) ?_
                 refine pz_ HT_ 30 82 (bm 32 2147483647) ?_
                 refine pu_ HT_ 31 83 (bm 32 4294967295) ?_
                 refine done_ (done_of HT_.out (by kernel_rfl)) ?_
                 try go_wp2
                 go_ret
                 exact ⟨rr_, hB_⟩
               ·
                rw [if_neg c34] at H
                exact absurd H (by simp)
              ·
               rw [if_neg c33] at H
               exact absurd H (by simp)
             ·
              rw [if_neg c32] at H
              have c32b0 : decide (x5_4 < x3_2) = false := decide_eq_false c32
              clear c32
              have H' := Aside0.mk H
              clear H
              go_wp2
              go_roundg k4
              case measure => have := HJ1.out; have := HK2.out; have := HJ13.out; have := HK4.out; omega
              case rel => exact ⟨(wrap64 (x3_2 + 1)), (by first | rfl | (simp; done) | (simp [*]; done)), H', ⟨by have := HJ1.out; have := HK2.out; have := HJ13.out; have := HK4.out; omega⟩, ⟨uq_⟩, ⟨hB_⟩⟩
       ·
        rw [if_neg c13] at H
        exact absurd H (by simp)
      ·
       rw [if_neg c12] at H
       have c12b0 : decide (x3_2 < (l0_1.length : Int)) = false := decide_eq_false c12
       clear c12
       obtain rfl := Option.some.inj H
       have hcz56_0 := c20_ BK177
       have hcz56_1 := c21_ BK177
       have hfz56_0 := fz_ BK177 0
       have hfz56_1 := fz_ BK177 1
       go_wp2
       go_ret
       exact ⟨rr_, hB_⟩
def spec_l71Good.l0 : Nat → Int → Int → Int → Int → Int → List Int → Int → List (S28) → List (List (S28)) → Option ((List (S28)) × (List (List (S28))) × Int)
 | 0, _, _, _, _, _, _, _, _, _ => none
 | k + 1, x3, x4, x5, x6, x8, x1000, x1001, x243000, x243001 => if x8 > 0 then ((spec_l6Rd_pick.f k x1000 x1001 (wrap64 (x5 - 2))).bind fun bt246 => ((spec_l6Rd_pick.f k x1000 bt246.2 (wrap64 (x6 - 2))).bind fun bt248 => ((spec_l6Rd_pick.f k x1000 bt248.2 2).bind fun bt250 => ((spec_l6Rd_pick.f k x1000 bt250.2 2).bind fun bt252 => ((spec_l71Box.f k x1000 bt252.2 (wrap64 ((wrap64 (x3 + 1)) + bt246.1)) (wrap64 ((wrap64 (x4 + 1)) + bt248.1)) (wrap64 (1 + bt250.1)) (wrap64 (1 + bt252.1))).bind fun bt254 => ((some (([] : List (List (S28))) : List (List (S28)))).bind fun y258 => (if y258.length + x243001.length < 5864062014805 then ((some (y258 ++ x243001 : List (List (S28)))).bind fun y261 => (if y261.length < 5864062014805 then ((some (y261 ++ [bt254.1] : List (List (S28)))).bind fun y264 => ((spec_PlateOk.f k x243000 y264).bind fun t267 => (if t267 = true then (spec_l71Good.l0 k x3 x4 x5 x6 (wrap64 (x8 - 1)) x1000 bt254.2 x243000 y264) else (spec_l71Good.l0 k x3 x4 x5 x6 (wrap64 (x8 - 1)) x1000 bt254.2 x243000 x243001)))) else (none))) else (none)))))))) else (some (x243000, x243001, x1001))
def spec_l71Good.f (k : Nat) (s0_0 : List Int) (s0_1 : Int) : Option ((List (S28)) × (List (List (S28))) × Int) := (spec_l6Rd_pick.f k s0_0 s0_1 3).bind fun bt227 => ((spec_l6Rd_pick.f k s0_0 bt227.2 3).bind fun bt229 => ((spec_l6Rd_pick.f k s0_0 bt229.2 (wrap64 ((wrap64 (9 - bt227.1)) - 3))).bind fun bt231 => ((spec_l6Rd_pick.f k s0_0 bt231.2 (wrap64 ((wrap64 (9 - bt229.1)) - 3))).bind fun bt233 => ((spec_l71Box.f k s0_0 bt233.2 bt227.1 bt229.1 (wrap64 (4 + bt231.1)) (wrap64 (4 + bt233.1))).bind fun bt235 => ((spec_l6Rd_pick.f k s0_0 bt235.2 3).bind fun bt243 => (spec_l71Good.l0 k bt227.1 bt229.1 (wrap64 (4 + bt231.1)) (wrap64 (4 + bt233.1)) bt243.1 s0_0 bt243.2 bt235.1 (([] : List (List (S28))))))))))
set_option maxHeartbeats 8000000 in
set_option maxRecDepth 100000 in
theorem spec_l71Good.calls (k : Nat) (g : Nat) (s0_0 : List Int) (s0_1 : Int) (r1 : List (S28)) (r2 : List (List (S28))) (r3 : Int) (w0 w : World) (hI : IsS123 w0 w g s0_0 s0_1) (hB : Below w0.heap.size w0 w) (h : spec_l71Good.f k s0_0 s0_1 = some (r1, r2, r3)) :
  Calls Tryd.prog 91 #[.pointer (some ⟨g, 0, none⟩)] w fun e w' => ∃ v0_ v1_ : Value, e = .returned (.agg #[v0_, v1_]) ∧ Kd.R k28 28 w' w.heap.size (fun k_ => (w.heap.size ≤ k_)) v0_ r1 ∧ Kd.N (Kd.slice 28 k28) 23 w' w.heap.size (fun k_ => (w.heap.size ≤ k_) ∧ some k_ ≠ (v0_ : Value).ownBlock) v1_ r2 ∧ IsS123 w0 w' g s0_0 r3 ∧ Below w0.heap.size w0 w' ∧ KeepBut w w' g none := by
 have hu26 := Tryd.underlying26
 have HI0 := Aside0.mk hI
 have HK := a0_ (KeepBut.refl w g none)
 have HL := Aside0.mk hB.size
 clear hI
 have HW0 := Aside0.mk hB.size
 have HB := Aside0.mk hB
 clear hB
 have H : ((spec_l6Rd_pick.f k s0_0 s0_1 3).bind fun bt227 => ((spec_l6Rd_pick.f k s0_0 bt227.2 3).bind fun bt229 => ((spec_l6Rd_pick.f k s0_0 bt229.2 (wrap64 ((wrap64 (9 - bt227.1)) - 3))).bind fun bt231 => ((spec_l6Rd_pick.f k s0_0 bt231.2 (wrap64 ((wrap64 (9 - bt229.1)) - 3))).bind fun bt233 => ((spec_l71Box.f k s0_0 bt233.2 bt227.1 bt229.1 (wrap64 (4 + bt231.1)) (wrap64 (4 + bt233.1))).bind fun bt235 => ((spec_l6Rd_pick.f k s0_0 bt235.2 3).bind fun bt243 => (spec_l71Good.l0 k bt227.1 bt229.1 (wrap64 (4 + bt231.1)) (wrap64 (4 + bt233.1)) bt243.1 s0_0 bt243.2 bt235.1 (([] : List (List (S28))))))))))) = some (r1, r2, r3) := h
 clear h
 replace H := Option.bind_eq_some_iff.mp H
 obtain ⟨⟨t227, t228⟩, A20, H⟩ := H
 (try dsimp only at H)
 have A2 := Aside0.mk A20
 clear A20
 replace H := Option.bind_eq_some_iff.mp H
 obtain ⟨⟨t229, t230⟩, A30, H⟩ := H
 (try dsimp only at H)
 have A3 := Aside0.mk A30
 clear A30
 replace H := Option.bind_eq_some_iff.mp H
 obtain ⟨⟨t231, t232⟩, A40, H⟩ := H
 (try dsimp only at H)
 have A4 := Aside0.mk A40
 clear A40
 replace H := Option.bind_eq_some_iff.mp H
 obtain ⟨⟨t233, t234⟩, A50, H⟩ := H
 (try dsimp only at H)
 have A5 := Aside0.mk A50
 clear A50
 replace H := Option.bind_eq_some_iff.mp H
 obtain ⟨⟨t235, t238⟩, A60, H⟩ := H
 (try dsimp only at H)
 have A6 := Aside0.mk A60
 clear A60
 obtain ⟨y239, hy239⟩ : ∃ y_ : List (List (S28)), y_ = (([] : List (List (S28)))) := ⟨_, rfl⟩
 replace H : ((spec_l6Rd_pick.f k s0_0 t238 3).bind fun bt243 => (spec_l71Good.l0 k t227 t229 (wrap64 (4 + t231)) (wrap64 (4 + t233)) bt243.1 s0_0 bt243.2 t235 y239)) = some (r1, r2, r3) := by first | (rw [hy239]; with_reducible exact H) | (have H2_ := (Option.bind_some _ _).symm.trans H; rw [hy239]; with_reducible exact H2_) | (have H2_ := (Option.bind_some _ _).symm.trans H; with_reducible exact H2_) | with_reducible exact H | (rw [hy239]; exact H) | exact H
 have Ny239 := Aside0.mk hy239
 clear hy239
 replace H := Option.bind_eq_some_iff.mp H
 obtain ⟨⟨t243, t244⟩, A70, H⟩ := H
 (try dsimp only at H)
 have A7 := Aside0.mk A70
 clear A70
 have H' := Aside0.mk H
 clear H
 go_enter Tryd.func91, Tryd.ntmps91
 go_wp2_with (first | ((with_reducible refine gate_dst (N := 2) rfl ?_); refine bx_ (N := 2) (cs := #[.slice none 0 0, .slice none 0 0]) (t := 26) (h := ?_); intro gb226 hg w8 hbox hb; have BK226 := a0_ (hbox); have GW226 := gw_ HK hg; have GE226 := a0_ ((Nat.le_trans HW0.out (gw_ HK hg).out)); have NB0_226 := sl_ HI0 hg; have NB226_0 := sr_ HI0 hg; replace HK := kb_ HK hb; replace HB := a0_ (below_step hBs_ hb); replace HI0 := a0_ (IsS123.below hI_ hb); clear hb hbox hg) | ((with_reducible refine gate_callee (f := 74) rfl ?_); refine gL_ (some 12) Tryd.func74 #[.pointer (some ⟨g, 0, none⟩), .int .i64 3] (h := ?_); (with_reducible refine (spec_l6Rd_pick.calls k g s0_0 s0_1 3 t227 t228 w0 _ hI_ hBs_ A2.out).mono ?_); rintro e w9 ⟨rfl, hi, hb, hk⟩; refine ⟨_, rfl, ?_⟩; replace BK226 := a0_ (KeepBut.blk hk (g' := gb226) (o := .cells #[.slice none 0 0, .slice none 0 0] 26 (0, 0)) uq_ NB226_0.out (by simp)); replace HK := kk_ HK hk; replace HB := a0_ (hb); replace HI0 := a0_ (hi); (try clear hi hb hk)) | ((with_reducible refine gate_callee (f := 74) rfl ?_); refine gL_ (some 14) Tryd.func74 #[.pointer (some ⟨g, 0, none⟩), .int .i64 3] (h := ?_); (with_reducible refine (spec_l6Rd_pick.calls k g s0_0 t228 3 t229 t230 w0 _ hI_ hBs_ A3.out).mono ?_); rintro e w10 ⟨rfl, hi, hb, hk⟩; refine ⟨_, rfl, ?_⟩; replace BK226 := a0_ (KeepBut.blk hk (g' := gb226) (o := .cells #[.slice none 0 0, .slice none 0 0] 26 (0, 0)) uq_ NB226_0.out (by simp)); replace HK := kk_ HK hk; replace HB := a0_ (hb); replace HI0 := a0_ (hi); (try clear hi hb hk)) | ((with_reducible refine gate_callee (f := 74) rfl ?_); refine gL_ (some 19) Tryd.func74 #[.pointer (some ⟨g, 0, none⟩), .int .i64 (wrap64 ((wrap64 (9 - t227)) - 3))] (h := ?_); (with_reducible refine (spec_l6Rd_pick.calls k g s0_0 t230 (wrap64 ((wrap64 (9 - t227)) - 3)) t231 t232 w0 _ hI_ hBs_ A4.out).mono ?_); rintro e w11 ⟨rfl, hi, hb, hk⟩; refine ⟨_, rfl, ?_⟩; replace BK226 := a0_ (KeepBut.blk hk (g' := gb226) (o := .cells #[.slice none 0 0, .slice none 0 0] 26 (0, 0)) uq_ NB226_0.out (by simp)); replace HK := kk_ HK hk; replace HB := a0_ (hb); replace HI0 := a0_ (hi); (try clear hi hb hk)) | ((with_reducible refine gate_callee (f := 74) rfl ?_); refine gL_ (some 25) Tryd.func74 #[.pointer (some ⟨g, 0, none⟩), .int .i64 (wrap64 ((wrap64 (9 - t229)) - 3))] (h := ?_); (with_reducible refine (spec_l6Rd_pick.calls k g s0_0 t232 (wrap64 ((wrap64 (9 - t229)) - 3)) t233 t234 w0 _ hI_ hBs_ A5.out).mono ?_); rintro e w12 ⟨rfl, hi, hb, hk⟩; refine ⟨_, rfl, ?_⟩; replace BK226 := a0_ (KeepBut.blk hk (g' := gb226) (o := .cells #[.slice none 0 0, .slice none 0 0] 26 (0, 0)) uq_ NB226_0.out (by simp)); replace HK := kk_ HK hk; replace HB := a0_ (hb); replace HI0 := a0_ (hi); (try clear hi hb hk)) | ((with_reducible refine gate_callee (f := 110) rfl ?_); refine gL_ (some 32) Tryd.func110 #[.pointer (some ⟨g, 0, none⟩), .int .i64 t227, .int .i64 t229, .int .i64 (wrap64 (4 + t231)), .int .i64 (wrap64 (4 + t233))] (h := ?_); (with_reducible refine (spec_l71Box.calls k g s0_0 t234 t227 t229 (wrap64 (4 + t231)) (wrap64 (4 + t233)) t235 t238 w0 _ hI_ hBs_ A6.out).mono ?_); rintro e w13 ⟨v236, rfl, ho0, hi, hb, hk⟩; refine ⟨_, rfl, ?_⟩; have HO237 := a0_ (Kd.R_lower (Kd.R_newM (M := fun k_ => (w.heap.size ≤ k_)) ho0 (keep_size (w := w) (g := g) (row := none) (hK_ HK)) (fun k_ h_ => h_)) (keep_size (w := w) (g := g) (row := none) (hK_ HK))); replace BK226 := a0_ (KeepBut.blk hk (g' := gb226) (o := .cells #[.slice none 0 0, .slice none 0 0] 26 (0, 0)) uq_ NB226_0.out (by simp)); replace HK := kk_ HK hk; replace HB := a0_ (hb); replace HI0 := a0_ (hi); (try clear ho0 hi hb hk)) | ((with_reducible refine gate_dst (N := 33) rfl ?_); refine Kd.N_lit (Kd.slice 28 k28) _ 23 ?hg (N' := 33) ?hd (xs := ([] : List (List (S28)))) (inner := []) (ok := (fun k_ => (w.heap.size ≤ k_) ∧ some k_ ≠ (v236 : Value).ownBlock ∧ k_ ≠ gb226 ∧ k_ ≠ g)) (okp := (fun k_ => (w.heap.size ≤ k_) ∧ some k_ ≠ (v236 : Value).ownBlock ∧ k_ ≠ gb226 ∧ k_ ≠ g)) ?hr ?hp (fun _ hk => hk) ((show ∀ k_, w13.heap.size ≤ k_ → (fun k_ => (w.heap.size ≤ k_) ∧ some k_ ≠ (v236 : Value).ownBlock ∧ k_ ≠ gb226 ∧ k_ ≠ g) k_ from fun k_ hk => ⟨(Nat.le_trans (keep_size (w := w) (g := g) (row := none) (hK_ HK)) hk), Kd.fresh' (Kd.R_lt (uR_ HO237)) k_ hk, Kd.freshB (g := gb226) (o := .cells #[.slice none 0 0, .slice none 0 0] 26 (0, 0)) uq_ k_ hk, IsS123.fresh hI_ k_ hk⟩) _ (Nat.le_refl _)) (Below.refl _ _) (Nat.le_refl _) (by simp) ?_; (case hd => rfl); (case hg => rfl); (case hr => first | (go_simp; done) | (go_simp; rfl)); (case hp => exact (Reps.none _ _)); intro v240 w14 ho15 hb hg_ hnew_; clear hg_ hnew_; (first | rw [← Ny239.out] at ho15 | (simp only [Int.reduceToNat] at ho15; rw [← Ny239.out] at ho15)); have HO241 := a0_ (Kd.N_lower ho15 (keep_size (w := w) (g := g) (row := none) (hK_ HK))); replace HO237 := rb_ HO237 hb; replace BK226 := vb_ BK226 hb; replace HK := kb_ HK hb; replace HB := a0_ (below_step hBs_ hb); replace HI0 := a0_ (IsS123.below hI_ hb); clear hb ho15; obtain ⟨Ao16, co16, eo16⟩ := Kd.N_slice HO241.out; subst eo16; obtain ⟨Ao17, co17, eo17⟩ := Kd.R_slice HO237.out; subst eo17) | ((with_reducible refine gate_dst (N := 7) rfl ?_); refine bx_ (N := 7) (cs := #[.slice none 0 0, .slice none 0 0]) (t := 26) (h := ?_); intro gb242 hg w18 hbox hb; have BK242 := a0_ (hbox); have GW242 := gw_ HK hg; have GE242 := a0_ ((Nat.le_trans HW0.out (gw_ HK hg).out)); have NB226_242 := nl_ BK226 hg; have NB242_226 := nr_ BK226 hg; have NB0_242 := sl_ HI0 hg; have NB242_0 := sr_ HI0 hg; replace HO237 := rb_ HO237 hb; replace HO241 := a0_ (Kd.N_below (Kd.N_elderB (uN_ HO241) gb242 (Nat.le_of_eq hg.symm)) hb); replace BK226 := vb_ BK226 hb; replace HK := kb_ HK hb; replace HB := a0_ (below_step hBs_ hb); replace HI0 := a0_ (IsS123.below hI_ hb); clear hb hbox hg; have hnb19 := NB242_226.out; have hnc19 := NB226_242.out; have hnb20 := NB242_0.out; have hnc20 := NB0_242.out; have hcz21_0 := c20_ BK242; have hcz21_1 := c21_ BK242; have hfz21_0 := fz_ BK242 0; have hfz21_1 := fz_ BK242 1) | ((with_reducible refine gate_callee (f := 74) rfl ?_); refine gL_ (some 36) Tryd.func74 #[.pointer (some ⟨g, 0, none⟩), .int .i64 3] (h := ?_); (with_reducible refine (spec_l6Rd_pick.calls k g s0_0 t238 3 t243 t244 w0 _ hI_ hBs_ A7.out).mono ?_); rintro e w22 ⟨rfl, hi, hb, hk⟩; refine ⟨_, rfl, ?_⟩; replace BK226 := a0_ (KeepBut.blk hk (g' := gb226) (o := .cells #[.slice none 0 0, .slice none 0 0] 26 (0, 0)) uf_ NB226_0.out (by simp)); replace HO237 := a0_ (Kd.R_mono (Kd.R_keep (IsS123.apart (show IsS123 w0 _ g s0_0 t238 from hI_) (by (with_reducible repeat (first | apply Kd.R_alloc | apply Kd.R_drewN | apply Kd.R_drew)); exact (Kd.R_mono (Kd.R_far (p := ⟨gb242, 1, none⟩) (Kd.R_far (p := ⟨gb242, 0, none⟩) (Kd.R_types HO237.out BK242.out (by decide)) (fun _ hk => hk.2) (.slice Ao17 t235.length co17)) (fun _ hk => hk.2) (.slice Ao16 y239.length co16)) (fun _ h_ => h_.1))) (by decide)) hk (fun _ h => h.2)) (fun _ h => h.1)); replace HO241 := a0_ (Kd.N_mono (Kd.N_keep (Kd.N_mono (ok := fun k_ => ((((w.heap.size ≤ k_)) ∧ (some k_ ≠ (.slice Ao17 t235.length co17 : Value).ownBlock ∧ (k_ ≠ gb226 ∧ k_ ≠ g))) ∧ k_ ≠ gb242)) (by (with_reducible repeat (first | apply Kd.N_alloc | apply Kd.N_drewN | apply Kd.N_drew)); exact (Kd.N_mono (Kd.N_far (p := ⟨gb242, 1, none⟩) (Kd.N_far (p := ⟨gb242, 0, none⟩) (Kd.N_mono HO241.out (fun k_ hk => (⟨hk, hk.2⟩ : _ ∧ k_ ≠ gb242))) (fun _ hk => hk.2) (.slice Ao17 t235.length co17)) (fun _ hk => hk.2) (.slice Ao16 y239.length co16)) (fun _ h_ => h_.1))) (fun k_ hk_ => (⟨hk_, hk_.1.2.2.2⟩ : _ ∧ k_ ≠ g))) hk (fun _ h => h.2)) (fun _ h => h.1)); replace BK242 := a0_ (KeepBut.blk hk (g' := gb242) (o := .cells #[.slice Ao17 t235.length co17, .slice Ao16 y239.length co16] 26 (0, 0)) (by (with_reducible repeat (first | refine blk_drewN ?_ _ | refine blk_drew ?_ | refine blk_alloc ?_ _)); refine blk_put (cs := #[.slice Ao17 t235.length co17, .slice none 0 0]) ?_ 1 _ rfl; (with_reducible repeat (first | refine blk_drewN ?_ _ | refine blk_drew ?_ | refine blk_alloc ?_ _)); refine blk_put (cs := #[.slice none 0 0, .slice none 0 0]) ?_ 0 _ rfl; (with_reducible repeat (first | refine blk_drewN ?_ _ | refine blk_drew ?_ | refine blk_alloc ?_ _)); exact BK242.out) NB242_0.out (by simp)); replace HK := kk_ HK hk; replace HB := a0_ (hb); replace HI0 := a0_ (hi); (try clear hi hb hk)))
 go_loopg [8] k (fun kq v8 w' => ∃ (x8_1 : Int) (x1001_1 : Int) (x243000_1 : List (S28)) (x243001_1 : List (List (S28))) (u243000 : Value) (u243001 : Value), v8 = .int .i64 x8_1 ∧ Aside0 (spec_l71Good.l0 kq t227 t229 (wrap64 (4 + t231)) (wrap64 (4 + t233)) x8_1 s0_0 x1001_1 x243000_1 x243001_1 = some (r1, r2, r3)) ∧ Aside0 (kq ≤ k) ∧ Aside0 (Kd.R k28 28 w' w.heap.size (fun k_ => (w.heap.size ≤ k_)) u243000 x243000_1) ∧ Aside0 (Kd.N (Kd.slice 28 k28) 23 w' w.heap.size (fun k_ => (w.heap.size ≤ k_) ∧ some k_ ≠ (u243000 : Value).ownBlock ∧ k_ ≠ gb226 ∧ k_ ≠ gb242 ∧ k_ ≠ g) u243001 x243001_1) ∧ Aside0 (w'.heap[gb226]? = some (.cells #[(.slice none 0 0), (.slice none 0 0)] 26 (0, 0))) ∧ Aside0 (w'.heap[gb242]? = some (.cells #[u243000, u243001] 26 (0, 0))) ∧ Aside0 (IsS123 w0 w' g s0_0 x1001_1) ∧ Aside0 (KeepBut w w' g none) ∧ Aside0 (Below w0.heap.size w0 w'))
 case atStart => exact ⟨(t243), (t244), (t235), (y239), (.slice Ao17 t235.length co17), (.slice Ao16 y239.length co16), (by first | rfl | (simp; done) | (simp [*]; done)), H', ⟨Nat.le_refl _⟩, ⟨by (with_reducible repeat (first | apply Kd.R_alloc | apply Kd.R_drewN | apply Kd.R_drew)); exact Kd.R_mono HO237.out (fun _ hk => hk.1)⟩, ⟨by (with_reducible repeat (first | apply Kd.N_alloc | apply Kd.N_drewN | apply Kd.N_drew)); exact Kd.N_mono HO241.out (fun _ hk => ⟨hk.1.1, ⟨hk.1.2.1, ⟨hk.1.2.2.1, ⟨hk.2, hk.1.2.2.2⟩⟩⟩⟩)⟩, ⟨uq_⟩, ⟨uq_⟩, ⟨by repeat (first | (with_reducible first | exact HI0.out | apply IsS123.alloc | apply IsS123.drewN | apply IsS123.drew | apply IsS123.set_1 | refine IsS123.far ?_ NB0_226.out _ | refine IsS123.far ?_ NB0_242.out _) | exact HI0.out)⟩, ⟨by repeat (first | (with_reducible first | exact HK.out | apply KeepBut.set_ | apply keep_drewN | apply keep_drew | apply keep_alloc | refine keep_far ?_ GW226.out _ | refine keep_far ?_ GW242.out _) | exact HK.out)⟩, ⟨by repeat (first | (with_reducible first | exact HB.out | apply below_alloc | apply pw_below_drewN | apply below_drew1 | refine below_set ?_ (IsS123.ge HI0.out) | refine below_set ?_ GE226.out | refine below_set ?_ GE242.out) | exact HB.out)⟩⟩
 case round =>
  clear H'
  obtain ⟨x8_1, x1001_1, x243000_1, x243001_1, u243000, u243001, rfl, HA, HK1, HO_243000, HO_243001, BK226, BK242, HI0, HK, HB⟩ := hrel
  cases gk with
  | zero => exact absurd HA.out (by simp [spec_l71Good.l0])
  | succ k1 =>
   have H := HA.out
   clear HA
   simp only [spec_l71Good.l0] at H
   by_cases c23 : x8_1 > 0
   ·
    rw [if_pos c23] at H
    have c23b0 : decide (0 < x8_1) = true := decide_eq_true c23
    clear c23
    replace H := Option.bind_eq_some_iff.mp H
    obtain ⟨⟨t246, t247⟩, A240, H⟩ := H
    (try dsimp only at H)
    have A24 := Aside0.mk A240
    clear A240
    replace H := Option.bind_eq_some_iff.mp H
    obtain ⟨⟨t248, t249⟩, A250, H⟩ := H
    (try dsimp only at H)
    have A25 := Aside0.mk A250
    clear A250
    replace H := Option.bind_eq_some_iff.mp H
    obtain ⟨⟨t250, t251⟩, A260, H⟩ := H
    (try dsimp only at H)
    have A26 := Aside0.mk A260
    clear A260
    replace H := Option.bind_eq_some_iff.mp H
    obtain ⟨⟨t252, t253⟩, A270, H⟩ := H
    (try dsimp only at H)
    have A27 := Aside0.mk A270
    clear A270
    replace H := Option.bind_eq_some_iff.mp H
    obtain ⟨⟨t254, t257⟩, A280, H⟩ := H
    (try dsimp only at H)
    have A28 := Aside0.mk A280
    clear A280
    obtain ⟨y258, hy258⟩ : ∃ y_ : List (List (S28)), y_ = (([] : List (List (S28)))) := ⟨_, rfl⟩
    replace H : (if y258.length + x243001_1.length < 5864062014805 then ((some (y258 ++ x243001_1 : List (List (S28)))).bind fun y261 => (if y261.length < 5864062014805 then ((some (y261 ++ [t254] : List (List (S28)))).bind fun y264 => ((spec_PlateOk.f k1 x243000_1 y264).bind fun t267 => (if t267 = true then (spec_l71Good.l0 k1 t227 t229 (wrap64 (4 + t231)) (wrap64 (4 + t233)) (wrap64 (x8_1 - 1)) s0_0 t257 x243000_1 y264) else (spec_l71Good.l0 k1 t227 t229 (wrap64 (4 + t231)) (wrap64 (4 + t233)) (wrap64 (x8_1 - 1)) s0_0 t257 x243000_1 x243001_1)))) else (none))) else (none)) = some (r1, r2, r3) := by first | (rw [hy258]; with_reducible exact H) | (have H2_ := (Option.bind_some _ _).symm.trans H; rw [hy258]; with_reducible exact H2_) | (have H2_ := (Option.bind_some _ _).symm.trans H; with_reducible exact H2_) | with_reducible exact H | (rw [hy258]; exact H) | exact H
    have Ny258 := Aside0.mk hy258
    clear hy258
    by_cases c29 : y258.length + x243001_1.length < 5864062014805
    ·
     rw [if_pos c29] at H
     have LMc29 := Aside0.mk c29
     clear c29
     obtain ⟨y261, hy261⟩ : ∃ y_ : List (List (S28)), y_ = (y258 ++ x243001_1) := ⟨_, rfl⟩
     replace H : (if y261.length < 5864062014805 then ((some (y261 ++ [t254] : List (List (S28)))).bind fun y264 => ((spec_PlateOk.f k1 x243000_1 y264).bind fun t267 => (if t267 = true then (spec_l71Good.l0 k1 t227 t229 (wrap64 (4 + t231)) (wrap64 (4 + t233)) (wrap64 (x8_1 - 1)) s0_0 t257 x243000_1 y264) else (spec_l71Good.l0 k1 t227 t229 (wrap64 (4 + t231)) (wrap64 (4 + t233)) (wrap64 (x8_1 - 1)) s0_0 t257 x243000_1 x243001_1)))) else (none)) = some (r1, r2, r3) := by first | (rw [hy261]; with_reducible exact H) | (have H2_ := (Option.bind_some _ _).symm.trans H; rw [hy261]; with_reducible exact H2_) | (have H2_ := (Option.bind_some _ _).symm.trans H; with_reducible exact H2_) | with_reducible exact H | (rw [hy261]; exact H) | exact H
     have Ny261 := Aside0.mk hy261
     clear hy261
     by_cases c30 : y261.length < 5864062014805
     ·
      rw [if_pos c30] at H
      have LMc30 := Aside0.mk c30
      clear c30
      obtain ⟨y264, hy264⟩ : ∃ y_ : List (List (S28)), y_ = (y261 ++ [t254]) := ⟨_, rfl⟩
      replace H : ((spec_PlateOk.f k1 x243000_1 y264).bind fun t267 => (if t267 = true then (spec_l71Good.l0 k1 t227 t229 (wrap64 (4 + t231)) (wrap64 (4 + t233)) (wrap64 (x8_1 - 1)) s0_0 t257 x243000_1 y264) else (spec_l71Good.l0 k1 t227 t229 (wrap64 (4 + t231)) (wrap64 (4 + t233)) (wrap64 (x8_1 - 1)) s0_0 t257 x243000_1 x243001_1))) = some (r1, r2, r3) := by first | (rw [hy264]; with_reducible exact H) | (have H2_ := (Option.bind_some _ _).symm.trans H; rw [hy264]; with_reducible exact H2_) | (have H2_ := (Option.bind_some _ _).symm.trans H; with_reducible exact H2_) | with_reducible exact H | (rw [hy264]; exact H) | exact H
      have Ny264 := Aside0.mk hy264
      clear hy264
      replace H := Option.bind_eq_some_iff.mp H
      obtain ⟨t267, A310, H⟩ := H
      (try dsimp only at H)
      have A31 := Aside0.mk A310
      clear A310
      by_cases c32 : t267 = true
      ·
       subst c32
       rw [if_pos rfl] at H
       (try dsimp only at H)
       have H' := Aside0.mk H
       clear H
       have hnb33 := NB242_226.out
       have hnc33 := NB226_242.out
       have hnb34 := NB242_0.out
       have hnc34 := NB0_242.out
       have hcz35_0 := c20_ BK242
       have hcz35_1 := c21_ BK242
       have hfz35_0 := fz_ BK242 0
       have hfz35_1 := fz_ BK242 1
       go_wp2_with (first | ((with_reducible refine gate_dst (N := 9) rfl ?_); refine bx_ (N := 9) (cs := #[.slice none 0 0, .slice none 0 0]) (t := 26) (h := ?_); intro gb245 hg w36 hbox hb; have BK245 := a0_ (hbox); have GW245 := gw_ HK hg; have GE245 := a0_ ((Nat.le_trans HW0.out (gw_ HK hg).out)); have NB226_245 := nl_ BK226 hg; have NB245_226 := nr_ BK226 hg; have NB242_245 := nl_ BK242 hg; have NB245_242 := nr_ BK242 hg; have NB0_245 := sl_ HI0 hg; have NB245_0 := sr_ HI0 hg; replace HO_243000 := rb_ HO_243000 hb; replace HO_243001 := a0_ (Kd.N_below (Kd.N_elderB (uN_ HO_243001) gb245 (Nat.le_of_eq hg.symm)) hb); replace BK226 := vb_ BK226 hb; replace BK242 := vb_ BK242 hb; replace HK := kb_ HK hb; replace HB := a0_ (below_step hBs_ hb); replace HI0 := a0_ (IsS123.below hI_ hb); clear hb hbox hg; obtain ⟨Ao37, co37, eo37⟩ := Kd.R_slice HO_243000.out; subst eo37; have hnb38 := NB245_226.out; have hnc38 := NB226_245.out; have hnb39 := NB245_242.out; have hnc39 := NB242_245.out; have hnb40 := NB245_0.out; have hnc40 := NB0_245.out; have hcz41_0 := c20_ BK245; have hcz41_1 := c21_ BK245; have hfz41_0 := fz_ BK245 0; have hfz41_1 := fz_ BK245 1; obtain ⟨Ao42, co42, eo42⟩ := Kd.N_slice HO_243001.out; subst eo42) | ((with_reducible refine gate_callee (f := 74) rfl ?_); refine gL_ (some 48) Tryd.func74 #[.pointer (some ⟨g, 0, none⟩), .int .i64 (wrap64 ((wrap64 (4 + t231)) - 2))] (h := ?_); (with_reducible refine (spec_l6Rd_pick.calls k1 g s0_0 x1001_1 (wrap64 ((wrap64 (4 + t231)) - 2)) t246 t247 w0 _ hI_ hBs_ A24.out).mono ?_); rintro e w43 ⟨rfl, hi, hb, hk⟩; refine ⟨_, rfl, ?_⟩; replace HO_243000 := a0_ (Kd.R_mono (Kd.R_keep (IsS123.apart (show IsS123 w0 _ g s0_0 x1001_1 from hI_) (by (with_reducible repeat (first | apply Kd.R_alloc | apply Kd.R_drewN | apply Kd.R_drew)); exact (Kd.R_mono (Kd.R_far (p := ⟨gb245, 1, none⟩) (Kd.R_far (p := ⟨gb245, 0, none⟩) (Kd.R_types HO_243000.out BK245.out (by decide)) (fun _ hk => hk.2) (.slice Ao37 x243000_1.length co37)) (fun _ hk => hk.2) (.slice Ao42 x243001_1.length co42)) (fun _ h_ => h_.1))) (by decide)) hk (fun _ h => h.2)) (fun _ h => h.1)); replace HO_243001 := a0_ (Kd.N_mono (Kd.N_keep (Kd.N_mono (ok := fun k_ => ((((w.heap.size ≤ k_)) ∧ (some k_ ≠ (.slice Ao37 x243000_1.length co37 : Value).ownBlock ∧ (k_ ≠ gb226 ∧ (k_ ≠ gb242 ∧ k_ ≠ g)))) ∧ k_ ≠ gb245)) (by (with_reducible repeat (first | apply Kd.N_alloc | apply Kd.N_drewN | apply Kd.N_drew)); exact (Kd.N_mono (Kd.N_far (p := ⟨gb245, 1, none⟩) (Kd.N_far (p := ⟨gb245, 0, none⟩) (Kd.N_mono HO_243001.out (fun k_ hk => (⟨hk, hk.2⟩ : _ ∧ k_ ≠ gb245))) (fun _ hk => hk.2) (.slice Ao37 x243000_1.length co37)) (fun _ hk => hk.2) (.slice Ao42 x243001_1.length co42)) (fun _ h_ => h_.1))) (fun k_ hk_ => (⟨hk_, hk_.1.2.2.2.2⟩ : _ ∧ k_ ≠ g))) hk (fun _ h => h.2)) (fun _ h => h.1)); replace BK226 := a0_ (KeepBut.blk hk (g' := gb226) (o := .cells #[.slice none 0 0, .slice none 0 0] 26 (0, 0)) uf_ NB226_0.out (by simp)); replace BK242 := a0_ (KeepBut.blk hk (g' := gb242) (o := .cells #[.slice Ao37 x243000_1.length co37, .slice Ao42 x243001_1.length co42] 26 (0, 0)) uf_ NB242_0.out (by simp)); replace BK245 := a0_ (KeepBut.blk hk (g' := gb245) (o := .cells #[.slice Ao37 x243000_1.length co37, .slice Ao42 x243001_1.length co42] 26 (0, 0)) (by (with_reducible repeat (first | refine blk_drewN ?_ _ | refine blk_drew ?_ | refine blk_alloc ?_ _)); refine blk_put (cs := #[.slice Ao37 x243000_1.length co37, .slice none 0 0]) ?_ 1 _ rfl; (with_reducible repeat (first | refine blk_drewN ?_ _ | refine blk_drew ?_ | refine blk_alloc ?_ _)); refine blk_put (cs := #[.slice none 0 0, .slice none 0 0]) ?_ 0 _ rfl; (with_reducible repeat (first | refine blk_drewN ?_ _ | refine blk_drew ?_ | refine blk_alloc ?_ _)); exact BK245.out) NB245_0.out (by simp)); replace HK := kk_ HK hk; replace HB := a0_ (hb); replace HI0 := a0_ (hi); (try clear hi hb hk)) | ((with_reducible refine gate_callee (f := 74) rfl ?_); refine gL_ (some 55) Tryd.func74 #[.pointer (some ⟨g, 0, none⟩), .int .i64 (wrap64 ((wrap64 (4 + t233)) - 2))] (h := ?_); (with_reducible refine (spec_l6Rd_pick.calls k1 g s0_0 t247 (wrap64 ((wrap64 (4 + t233)) - 2)) t248 t249 w0 _ hI_ hBs_ A25.out).mono ?_); rintro e w44 ⟨rfl, hi, hb, hk⟩; refine ⟨_, rfl, ?_⟩; replace HO_243000 := a0_ (Kd.R_mono (Kd.R_keep (IsS123.apart (show IsS123 w0 _ g s0_0 t247 from hI_) (uR_ HO_243000) (by decide)) hk (fun _ h => h.2)) (fun _ h => h.1)); replace HO_243001 := a0_ (Kd.N_mono (Kd.N_keep (Kd.N_mono (ok := fun k_ => ((((w.heap.size ≤ k_)) ∧ (some k_ ≠ (.slice Ao37 x243000_1.length co37 : Value).ownBlock ∧ (k_ ≠ gb226 ∧ (k_ ≠ gb242 ∧ k_ ≠ g)))) ∧ k_ ≠ gb245)) (uN_ HO_243001) (fun k_ hk_ => (⟨hk_, hk_.1.2.2.2.2⟩ : _ ∧ k_ ≠ g))) hk (fun _ h => h.2)) (fun _ h => h.1)); replace BK226 := a0_ (KeepBut.blk hk (g' := gb226) (o := .cells #[.slice none 0 0, .slice none 0 0] 26 (0, 0)) uq_ NB226_0.out (by simp)); replace BK242 := a0_ (KeepBut.blk hk (g' := gb242) (o := .cells #[.slice Ao37 x243000_1.length co37, .slice Ao42 x243001_1.length co42] 26 (0, 0)) uq_ NB242_0.out (by simp)); replace BK245 := a0_ (KeepBut.blk hk (g' := gb245) (o := .cells #[.slice Ao37 x243000_1.length co37, .slice Ao42 x243001_1.length co42] 26 (0, 0)) uq_ NB245_0.out (by simp)); replace HK := kk_ HK hk; replace HB := a0_ (hb); replace HI0 := a0_ (hi); (try clear hi hb hk)) | ((with_reducible refine gate_callee (f := 74) rfl ?_); refine gL_ (some 58) Tryd.func74 #[.pointer (some ⟨g, 0, none⟩), .int .i64 2] (h := ?_); (with_reducible refine (spec_l6Rd_pick.calls k1 g s0_0 t249 2 t250 t251 w0 _ hI_ hBs_ A26.out).mono ?_); rintro e w45 ⟨rfl, hi, hb, hk⟩; refine ⟨_, rfl, ?_⟩; replace HO_243000 := a0_ (Kd.R_mono (Kd.R_keep (IsS123.apart (show IsS123 w0 _ g s0_0 t249 from hI_) (uR_ HO_243000) (by decide)) hk (fun _ h => h.2)) (fun _ h => h.1)); replace HO_243001 := a0_ (Kd.N_mono (Kd.N_keep (Kd.N_mono (ok := fun k_ => ((((w.heap.size ≤ k_)) ∧ (some k_ ≠ (.slice Ao37 x243000_1.length co37 : Value).ownBlock ∧ (k_ ≠ gb226 ∧ (k_ ≠ gb242 ∧ k_ ≠ g)))) ∧ k_ ≠ gb245)) (uN_ HO_243001) (fun k_ hk_ => (⟨hk_, hk_.1.2.2.2.2⟩ : _ ∧ k_ ≠ g))) hk (fun _ h => h.2)) (fun _ h => h.1)); replace BK226 := a0_ (KeepBut.blk hk (g' := gb226) (o := .cells #[.slice none 0 0, .slice none 0 0] 26 (0, 0)) uq_ NB226_0.out (by simp)); replace BK242 := a0_ (KeepBut.blk hk (g' := gb242) (o := .cells #[.slice Ao37 x243000_1.length co37, .slice Ao42 x243001_1.length co42] 26 (0, 0)) uq_ NB242_0.out (by simp)); replace BK245 := a0_ (KeepBut.blk hk (g' := gb245) (o := .cells #[.slice Ao37 x243000_1.length co37, .slice Ao42 x243001_1.length co42] 26 (0, 0)) uq_ NB245_0.out (by simp)); replace HK := kk_ HK hk; replace HB := a0_ (hb); replace HI0 := a0_ (hi); (try clear hi hb hk)) | ((with_reducible refine gate_callee (f := 74) rfl ?_); refine gL_ (some 61) Tryd.func74 #[.pointer (some ⟨g, 0, none⟩), .int .i64 2] (h := ?_); (with_reducible refine (spec_l6Rd_pick.calls k1 g s0_0 t251 2 t252 t253 w0 _ hI_ hBs_ A27.out).mono ?_); rintro e w46 ⟨rfl, hi, hb, hk⟩; refine ⟨_, rfl, ?_⟩; replace HO_243000 := a0_ (Kd.R_mono (Kd.R_keep (IsS123.apart (show IsS123 w0 _ g s0_0 t251 from hI_) (uR_ HO_243000) (by decide)) hk (fun _ h => h.2)) (fun _ h => h.1)); replace HO_243001 := a0_ (Kd.N_mono (Kd.N_keep (Kd.N_mono (ok := fun k_ => ((((w.heap.size ≤ k_)) ∧ (some k_ ≠ (.slice Ao37 x243000_1.length co37 : Value).ownBlock ∧ (k_ ≠ gb226 ∧ (k_ ≠ gb242 ∧ k_ ≠ g)))) ∧ k_ ≠ gb245)) (uN_ HO_243001) (fun k_ hk_ => (⟨hk_, hk_.1.2.2.2.2⟩ : _ ∧ k_ ≠ g))) hk (fun _ h => h.2)) (fun _ h => h.1)); replace BK226 := a0_ (KeepBut.blk hk (g' := gb226) (o := .cells #[.slice none 0 0, .slice none 0 0] 26 (0, 0)) uq_ NB226_0.out (by simp)); replace BK242 := a0_ (KeepBut.blk hk (g' := gb242) (o := .cells #[.slice Ao37 x243000_1.length co37, .slice Ao42 x243001_1.length co42] 26 (0, 0)) uq_ NB242_0.out (by simp)); replace BK245 := a0_ (KeepBut.blk hk (g' := gb245) (o := .cells #[.slice Ao37 x243000_1.length co37, .slice Ao42 x243001_1.length co42] 26 (0, 0)) uq_ NB245_0.out (by simp)); replace HK := kk_ HK hk; replace HB := a0_ (hb); replace HI0 := a0_ (hi); (try clear hi hb hk)) | ((with_reducible refine gate_callee (f := 110) rfl ?_); refine gL_ (some 63) Tryd.func110 #[.pointer (some ⟨g, 0, none⟩), .int .i64 (wrap64 ((wrap64 (t227 + 1)) + t246)), .int .i64 (wrap64 ((wrap64 (t229 + 1)) + t248)), .int .i64 (wrap64 (1 + t250)), .int .i64 (wrap64 (1 + t252))] (h := ?_); (with_reducible refine (spec_l71Box.calls k1 g s0_0 t253 (wrap64 ((wrap64 (t227 + 1)) + t246)) (wrap64 ((wrap64 (t229 + 1)) + t248)) (wrap64 (1 + t250)) (wrap64 (1 + t252)) t254 t257 w0 _ hI_ hBs_ A28.out).mono ?_); rintro e w47 ⟨v255, rfl, ho0, hi, hb, hk⟩; refine ⟨_, rfl, ?_⟩; have HO256 := a0_ (Kd.R_lower (Kd.R_new' (Kd.R_newM (M := fun k_ => (w.heap.size ≤ k_)) ho0 (keep_size (w := w) (g := g) (row := none) (hK_ HK)) (fun k_ h_ => h_)) (Kd.R_lt (uR_ HO_243000))) (keep_size (w := w) (g := g) (row := none) (hK_ HK))); replace HO_243000 := a0_ (Kd.R_mono (Kd.R_told (Kd.R_oldK (IsS123.apart (show IsS123 w0 _ g s0_0 t253 from hI_) (uR_ HO_243000) (by decide)) hk) (Kd.R_base ho0)) (fun _ h_ => h_.1)); replace HO_243001 := a0_ (Kd.N_mono (Kd.N_told (Kd.N_oldK (Kd.N_mono (ok := fun k_ => ((((w.heap.size ≤ k_)) ∧ (some k_ ≠ (.slice Ao37 x243000_1.length co37 : Value).ownBlock ∧ (k_ ≠ gb226 ∧ (k_ ≠ gb242 ∧ k_ ≠ g)))) ∧ k_ ≠ gb245)) (uN_ HO_243001) (fun k_ hk_ => (⟨hk_, hk_.1.2.2.2.2⟩ : _ ∧ k_ ≠ g))) hk) (Kd.R_base ho0)) (fun _ h_ => h_.1)); replace BK226 := a0_ (KeepBut.blk hk (g' := gb226) (o := .cells #[.slice none 0 0, .slice none 0 0] 26 (0, 0)) uq_ NB226_0.out (by simp)); replace BK242 := a0_ (KeepBut.blk hk (g' := gb242) (o := .cells #[.slice Ao37 x243000_1.length co37, .slice Ao42 x243001_1.length co42] 26 (0, 0)) uq_ NB242_0.out (by simp)); replace BK245 := a0_ (KeepBut.blk hk (g' := gb245) (o := .cells #[.slice Ao37 x243000_1.length co37, .slice Ao42 x243001_1.length co42] 26 (0, 0)) uq_ NB245_0.out (by simp)); replace HK := kk_ HK hk; replace HB := a0_ (hb); replace HI0 := a0_ (hi); (try clear ho0 hi hb hk)) | ((with_reducible refine gate_dst (N := 64) rfl ?_); refine Kd.N_lit (Kd.slice 28 k28) _ 23 ?hg (N' := 64) ?hd (xs := ([] : List (List (S28)))) (inner := []) (ok := (fun k_ => (w.heap.size ≤ k_) ∧ some k_ ≠ (.slice Ao37 x243000_1.length co37 : Value).ownBlock ∧ some k_ ≠ (.slice Ao42 x243001_1.length co42 : Value).ownBlock ∧ some k_ ≠ (v255 : Value).ownBlock ∧ k_ ≠ gb226 ∧ k_ ≠ gb242 ∧ k_ ≠ gb245 ∧ k_ ≠ g)) (okp := (fun k_ => (w.heap.size ≤ k_) ∧ some k_ ≠ (.slice Ao37 x243000_1.length co37 : Value).ownBlock ∧ some k_ ≠ (.slice Ao42 x243001_1.length co42 : Value).ownBlock ∧ some k_ ≠ (v255 : Value).ownBlock ∧ k_ ≠ gb226 ∧ k_ ≠ gb242 ∧ k_ ≠ gb245 ∧ k_ ≠ g)) ?hr ?hp (fun _ hk => hk) ((show ∀ k_, w47.heap.size ≤ k_ → (fun k_ => (w.heap.size ≤ k_) ∧ some k_ ≠ (.slice Ao37 x243000_1.length co37 : Value).ownBlock ∧ some k_ ≠ (.slice Ao42 x243001_1.length co42 : Value).ownBlock ∧ some k_ ≠ (v255 : Value).ownBlock ∧ k_ ≠ gb226 ∧ k_ ≠ gb242 ∧ k_ ≠ gb245 ∧ k_ ≠ g) k_ from fun k_ hk => ⟨(Nat.le_trans (keep_size (w := w) (g := g) (row := none) (hK_ HK)) hk), Kd.fresh' (Kd.R_lt (uR_ HO_243000)) k_ hk, Kd.fresh' (Kd.N_lt (uN_ HO_243001)) k_ hk, Kd.fresh' (Kd.R_lt (uR_ HO256)) k_ hk, Kd.freshB (g := gb226) (o := .cells #[.slice none 0 0, .slice none 0 0] 26 (0, 0)) uq_ k_ hk, Kd.freshB (g := gb242) (o := .cells #[.slice Ao37 x243000_1.length co37, .slice Ao42 x243001_1.length co42] 26 (0, 0)) uq_ k_ hk, Kd.freshB (g := gb245) (o := .cells #[.slice Ao37 x243000_1.length co37, .slice Ao42 x243001_1.length co42] 26 (0, 0)) uq_ k_ hk, IsS123.fresh hI_ k_ hk⟩) _ (Nat.le_refl _)) (Below.refl _ _) (Nat.le_refl _) (by simp) ?_; (case hd => rfl); (case hg => rfl); (case hr => first | (go_simp; done) | (go_simp; rfl)); (case hp => exact (Reps.none _ _)); intro v259 w48 ho49 hb hg_ hnew_; clear hg_ hnew_; (first | rw [← Ny258.out] at ho49 | (simp only [Int.reduceToNat] at ho49; rw [← Ny258.out] at ho49)); have HO260 := a0_ (Kd.N_lower ho49 (keep_size (w := w) (g := g) (row := none) (hK_ HK))); replace HO_243000 := rb_ HO_243000 hb; replace HO_243001 := a0_ (Kd.N_elder' (uN_ HO_243001) (Kd.N_base ho49) hb); replace HO256 := rb_ HO256 hb; replace BK226 := vb_ BK226 hb; replace BK242 := vb_ BK242 hb; replace BK245 := vb_ BK245 hb; replace HK := kb_ HK hb; replace HB := a0_ (below_step hBs_ hb); replace HI0 := a0_ (IsS123.below hI_ hb); clear hb ho49; have hcz50_0 := c20_ BK242; have hcz50_1 := c21_ BK242; have hfz50_0 := fz_ BK242 0; have hfz50_1 := fz_ BK242 1) | ((with_reducible refine gate_builtin (b := .append) (xs := #[.tmp 64, .tmp 66]) rfl ?_); at_builtin; refine Kd.N_append_rows (Kd.slice 28 k28) w.heap.size rfl (.tmp 64) (.tmp 66) 24 23 (.slice none 0 0) 24 rfl Tryd.underlying24 info23 rfl (by decide) (by omega) v259 y258 x243001_1 _ _ _ (fun k_ => (w.heap.size ≤ k_) ∧ some k_ ≠ (.slice Ao37 x243000_1.length co37 : Value).ownBlock ∧ some k_ ≠ (v255 : Value).ownBlock ∧ k_ ≠ gb226 ∧ k_ ≠ gb242 ∧ k_ ≠ gb245 ∧ k_ ≠ g) (fun k_ => ((fun k_ => (w.heap.size ≤ k_) ∧ some k_ ≠ (.slice Ao37 x243000_1.length co37 : Value).ownBlock ∧ some k_ ≠ (v255 : Value).ownBlock ∧ k_ ≠ gb226 ∧ k_ ≠ gb242 ∧ k_ ≠ gb245 ∧ k_ ≠ g)) k_ ∧ some k_ ≠ (v259 : Value).ownBlock) rfl rfl ?aO ?aR (fun _ hk => hk) ?aF (Below.refl _ _) ?aS ?aL ?_; (case aR => exact (by skip; exact Kd.N_F (Kd.N_mono (ok' := (fun k_ => ((fun k_ => (w.heap.size ≤ k_) ∧ some k_ ≠ (.slice Ao37 x243000_1.length co37 : Value).ownBlock ∧ some k_ ≠ (v255 : Value).ownBlock ∧ k_ ≠ gb226 ∧ k_ ≠ gb242 ∧ k_ ≠ gb245 ∧ k_ ≠ g)) k_ ∧ some k_ ≠ (v259 : Value).ownBlock)) (HO_243001.out) (fun k_ hk => ⟨⟨hk.1.1.1.1, ⟨hk.1.1.1.2.1, ⟨hk.1.2, ⟨hk.1.1.1.2.2.1, ⟨hk.1.1.1.2.2.2.1, ⟨hk.1.1.2, hk.1.1.1.2.2.2.2⟩⟩⟩⟩⟩⟩, hk.2⟩)))); (case aF => exact (fun k_ hk => ⟨(Nat.le_trans (keep_size (w := w) (g := g) (row := none) (hK_ HK)) hk), Kd.fresh' (Kd.R_lt (uR_ HO_243000)) k_ hk, Kd.fresh' (Kd.R_lt (uR_ HO256)) k_ hk, Kd.freshB (g := gb226) (o := .cells #[.slice none 0 0, .slice none 0 0] 26 (0, 0)) uq_ k_ hk, Kd.freshB (g := gb242) (o := .cells #[.slice Ao37 x243000_1.length co37, .slice Ao42 x243001_1.length co42] 26 (0, 0)) uq_ k_ hk, Kd.freshB (g := gb245) (o := .cells #[.slice Ao37 x243000_1.length co37, .slice Ao42 x243001_1.length co42] 26 (0, 0)) uq_ k_ hk, IsS123.fresh hI_ k_ hk⟩)); (case aO => exact (by (with_reducible repeat (first | apply Kd.N_alloc | apply Kd.N_drewN | apply Kd.N_drew)); exact Kd.N_mono HO260.out (fun _ hk => ⟨hk.1, ⟨hk.2.1, ⟨hk.2.2.2.1, ⟨hk.2.2.2.2.1, ⟨hk.2.2.2.2.2.1, ⟨hk.2.2.2.2.2.2.1, hk.2.2.2.2.2.2.2⟩⟩⟩⟩⟩⟩))); (case aS => exact (keep_size (w := w) (g := g) (row := none) (hK_ HK))); (case aL => have := LMc29.out; omega); intro v262 w51 ho hb hg hat; rw [← Ny261.out] at ho; have HO263 := a0_ (ho); replace HO_243000 := a0_ (Kd.R_over' (uR_ HO_243000) (Kd.N_typed (uN_ HO260)) (by decide) hg); replace HO_243001 := a0_ (Kd.N_afterv (ok := (fun k_ => (w.heap.size ≤ k_) ∧ some k_ ≠ (.slice Ao37 x243000_1.length co37 : Value).ownBlock ∧ some k_ ≠ (v255 : Value).ownBlock ∧ k_ ≠ gb226 ∧ k_ ≠ gb242 ∧ k_ ≠ g ∧ k_ ≠ gb245)) (by (with_reducible repeat (first | apply Kd.N_alloc | apply Kd.N_drewN | apply Kd.N_drew)); exact Kd.N_mono HO_243001.out (fun _ hk => ⟨⟨hk.1.1.1.1, ⟨hk.1.1.1.2.1, ⟨hk.1.2, ⟨hk.1.1.1.2.2.1, ⟨hk.1.1.1.2.2.2.1, ⟨hk.1.1.1.2.2.2.2, hk.1.1.2⟩⟩⟩⟩⟩⟩, hk.2⟩)) hg hat); replace BK226 := a0_ (blk_grown (g := gb226) (o := .cells #[.slice none 0 0, .slice none 0 0] 26 (0, 0)) uq_ hg (Kd.N_ne HO260.out BK226.out (by decide))); replace BK242 := a0_ (blk_grown (g := gb242) (o := .cells #[.slice Ao37 x243000_1.length co37, .slice Ao42 x243001_1.length co42] 26 (0, 0)) uq_ hg (Kd.N_ne HO260.out BK242.out (by decide))); replace BK245 := a0_ (blk_grown (g := gb245) (o := .cells #[.slice Ao37 x243000_1.length co37, .slice Ao42 x243001_1.length co42] 26 (0, 0)) uq_ hg (Kd.N_ne HO260.out BK245.out (by decide))); replace HO256 := a0_ (Kd.R_over' (uR_ HO256) (Kd.N_typed (uN_ HO260)) (by decide) hg); replace HB := a0_ (below_weaken hBs_ HL.out hb); replace HI0 := a0_ (IsS123.grown hI_ hg (IsS123.own_neN HI0.out HO260.out (by decide))); replace HK := a0_ (KeepBut.trans (hK_ HK) (KeepBut.of_grown hg g) (Kd.N_base2 HO260.out)); clear HO260; clear ho hb hg hat; obtain ⟨Ao53, co53, eo53⟩ := Kd.R_slice HO256.out; subst eo53) | ((with_reducible refine gate_builtin (b := .append) (xs := #[.tmp 67, .tmp 69]) rfl ?_); at_builtin; refine Kd.N_append (Kd.slice 28 k28) w.heap.size rfl (.tmp 67) (.tmp 69) 24 23 (.slice none 0 0) 24 rfl Tryd.underlying24 info23 rfl (by decide) (by omega) v262 y261 t254 [.slice Ao53 t254.length co53] (fun k_ => (w.heap.size ≤ k_) ∧ some k_ ≠ (.slice Ao37 x243000_1.length co37 : Value).ownBlock ∧ k_ ≠ gb226 ∧ k_ ≠ gb242 ∧ k_ ≠ gb245 ∧ k_ ≠ g) (fun k_ => ((fun k_ => (w.heap.size ≤ k_) ∧ some k_ ≠ (.slice Ao37 x243000_1.length co37 : Value).ownBlock ∧ k_ ≠ gb226 ∧ k_ ≠ gb242 ∧ k_ ≠ gb245 ∧ k_ ≠ g)) k_ ∧ some k_ ≠ (v262 : Value).ownBlock) rfl rfl ?aP (fun _ hk => hk) ?aF ?aO (Below.refl _ _) ?aS ?aL ?_; (case aP => exact (Kd.FK_slice_mk (Kd.R_reads' (Kd.R_mono (ok' := (fun k_ => ((fun k_ => (w.heap.size ≤ k_) ∧ some k_ ≠ (.slice Ao37 x243000_1.length co37 : Value).ownBlock ∧ k_ ≠ gb226 ∧ k_ ≠ gb242 ∧ k_ ≠ gb245 ∧ k_ ≠ g)) k_ ∧ some k_ ≠ (v262 : Value).ownBlock)) (IsS123.apart HI0.out (Kd.R_types (Kd.R_types (Kd.R_types (Kd.R_apart' (HO256.out) (Kd.N_typed HO263.out) (by decide)) BK226.out (by decide)) BK242.out (by decide)) BK245.out (by decide)) (by decide)) (fun k_ hk => ⟨⟨hk.1.1.1.1.1.1.1, ⟨hk.1.1.1.1.1.2, ⟨hk.1.1.1.2, ⟨hk.1.1.2, ⟨hk.1.2, hk.2⟩⟩⟩⟩⟩, hk.1.1.1.1.2⟩))).2.1 (Kd.R_F (Kd.R_mono (ok' := (fun k_ => ((fun k_ => (w.heap.size ≤ k_) ∧ some k_ ≠ (.slice Ao37 x243000_1.length co37 : Value).ownBlock ∧ k_ ≠ gb226 ∧ k_ ≠ gb242 ∧ k_ ≠ gb245 ∧ k_ ≠ g)) k_ ∧ some k_ ≠ (v262 : Value).ownBlock)) (IsS123.apart HI0.out (Kd.R_types (Kd.R_types (Kd.R_types (Kd.R_apart' (HO256.out) (Kd.N_typed HO263.out) (by decide)) BK226.out (by decide)) BK242.out (by decide)) BK245.out (by decide)) (by decide)) (fun k_ hk => ⟨⟨hk.1.1.1.1.1.1.1, ⟨hk.1.1.1.1.1.2, ⟨hk.1.1.1.2, ⟨hk.1.1.2, ⟨hk.1.2, hk.2⟩⟩⟩⟩⟩, hk.1.1.1.1.2⟩))))); (case aF => exact (fun k_ hk => ⟨(Nat.le_trans (keep_size (w := w) (g := g) (row := none) (hK_ HK)) hk), Kd.fresh' (Kd.R_lt (uR_ HO_243000)) k_ hk, Kd.freshB (g := gb226) (o := .cells #[.slice none 0 0, .slice none 0 0] 26 (0, 0)) uq_ k_ hk, Kd.freshB (g := gb242) (o := .cells #[.slice Ao37 x243000_1.length co37, .slice Ao42 x243001_1.length co42] 26 (0, 0)) uq_ k_ hk, Kd.freshB (g := gb245) (o := .cells #[.slice Ao37 x243000_1.length co37, .slice Ao42 x243001_1.length co42] 26 (0, 0)) uq_ k_ hk, IsS123.fresh hI_ k_ hk⟩)); (case aO => exact (by (with_reducible repeat (first | apply Kd.N_alloc | apply Kd.N_drewN | apply Kd.N_drew)); exact Kd.N_mono HO263.out (fun _ hk => ⟨hk.1, ⟨hk.2.1, ⟨hk.2.2.2.1, ⟨hk.2.2.2.2.1, ⟨hk.2.2.2.2.2.1, hk.2.2.2.2.2.2⟩⟩⟩⟩⟩))); (case aS => exact (keep_size (w := w) (g := g) (row := none) (hK_ HK))); (case aL => have := LMc30.out; omega); intro v265 w52 ho hb hg hat; rw [← Ny264.out] at ho; have HO266 := a0_ (ho); replace HO_243000 := a0_ (Kd.R_over' (uR_ HO_243000) (Kd.N_typed (uN_ HO263)) (by decide) hg); replace HO_243001 := a0_ (Kd.N_afterv (ok := (fun k_ => (w.heap.size ≤ k_) ∧ some k_ ≠ (.slice Ao37 x243000_1.length co37 : Value).ownBlock ∧ some k_ ≠ (.slice Ao53 t254.length co53 : Value).ownBlock ∧ k_ ≠ gb226 ∧ k_ ≠ gb242 ∧ k_ ≠ g ∧ k_ ≠ gb245)) (uN_ HO_243001) hg hat); replace BK226 := a0_ (blk_grown (g := gb226) (o := .cells #[.slice none 0 0, .slice none 0 0] 26 (0, 0)) uq_ hg (Kd.N_ne HO263.out BK226.out (by decide))); replace BK242 := a0_ (blk_grown (g := gb242) (o := .cells #[.slice Ao37 x243000_1.length co37, .slice Ao42 x243001_1.length co42] 26 (0, 0)) uq_ hg (Kd.N_ne HO263.out BK242.out (by decide))); replace BK245 := a0_ (blk_grown (g := gb245) (o := .cells #[.slice Ao37 x243000_1.length co37, .slice Ao42 x243001_1.length co42] 26 (0, 0)) uq_ hg (Kd.N_ne HO263.out BK245.out (by decide))); replace HB := a0_ (below_weaken hBs_ HL.out hb); replace HI0 := a0_ (IsS123.grown hI_ hg (IsS123.own_neN HI0.out HO263.out (by decide))); replace HK := a0_ (KeepBut.trans (hK_ HK) (KeepBut.of_grown hg g) (Kd.N_base2 HO263.out)); clear HO256 HO263; clear ho hb hg hat; obtain ⟨Ao54, co54, eo54⟩ := Kd.N_slice HO266.out; subst eo54; have hcz55_0 := c20_ BK245; have hcz55_1 := c21_ BK245; have hfz55_0 := fz_ BK245 0; have hfz55_1 := fz_ BK245 1) | ((with_reducible refine gate_callee (f := 18) rfl ?_); refine gL_ (some 73) Tryd.func18 #[.agg #[.slice Ao37 x243000_1.length co37, .slice Ao54 y264.length co54]] (h := ?_); (with_reducible refine (spec_PlateOk.calls k1 _ _ x243000_1 _ _ y264 true _ ((Kd.R_reads' (Kd.R_far (p := ⟨gb245, 1, none⟩) (Kd.R_types HO_243000.out BK245.out (by decide)) (fun _ hk => hk.2) (.slice Ao54 y264.length co54))).2.2) ((Kd.R_reads' HO_243000.out).2.1) ?side3 ?side4 A31.out).mono ?_); (case side3 => refine (Kd.N_reads' (e := 23) (base := w.heap.size) (ok := fun k_ => ((w.heap.size ≤ k_) ∧ (some k_ ≠ (.slice Ao37 x243000_1.length co37 : Value).ownBlock ∧ (k_ ≠ gb226 ∧ (k_ ≠ gb242 ∧ (k_ ≠ gb245 ∧ k_ ≠ g)))))) (n := y264.length) (c := co54) ?_).2.2; exact (by (with_reducible repeat (first | apply Kd.N_alloc | apply Kd.N_drewN | apply Kd.N_drew)); exact (Kd.N_mono (Kd.N_far (p := ⟨gb245, 1, none⟩) (Kd.N_mono HO266.out (fun k_ hk => (⟨hk, hk.2.2.2.2.1⟩ : _ ∧ k_ ≠ gb245))) (fun _ hk => hk.2) (.slice Ao54 y264.length co54)) (fun _ h_ => h_.1)))); (case side4 => exact (Kd.N_reads' HO266.out).2.1); rintro e w56 ⟨rfl, hb⟩; refine ⟨_, rfl, ?_⟩; replace HO_243000 := a0_ (Kd.R_below (by (with_reducible repeat (first | apply Kd.R_alloc | apply Kd.R_drewN | apply Kd.R_drew)); exact (Kd.R_mono (Kd.R_far (p := ⟨gb245, 1, none⟩) (Kd.R_types HO_243000.out BK245.out (by decide)) (fun _ hk => hk.2) (.slice Ao54 y264.length co54)) (fun _ h_ => h_.1))) hb); replace HO_243001 := a0_ (Kd.N_below (by (with_reducible repeat (first | apply Kd.N_alloc | apply Kd.N_drewN | apply Kd.N_drew)); exact (Kd.N_mono (Kd.N_far (p := ⟨gb245, 1, none⟩) (Kd.N_mono HO_243001.out (fun k_ hk => (⟨hk, hk.1.2.2.2.2.2.2⟩ : _ ∧ k_ ≠ gb245))) (fun _ hk => hk.2) (.slice Ao54 y264.length co54)) (fun _ h_ => h_.1))) hb); replace HO266 := a0_ (Kd.N_below (by (with_reducible repeat (first | apply Kd.N_alloc | apply Kd.N_drewN | apply Kd.N_drew)); exact (Kd.N_mono (Kd.N_far (p := ⟨gb245, 1, none⟩) (Kd.N_mono HO266.out (fun k_ hk => (⟨hk, hk.2.2.2.2.1⟩ : _ ∧ k_ ≠ gb245))) (fun _ hk => hk.2) (.slice Ao54 y264.length co54)) (fun _ h_ => h_.1))) hb); replace BK226 := a0_ (blk_below (g := gb226) (o := .cells #[.slice none 0 0, .slice none 0 0] 26 (0, 0)) uf_ hb); replace BK242 := a0_ (blk_below (g := gb242) (o := .cells #[.slice Ao37 x243000_1.length co37, .slice Ao42 x243001_1.length co42] 26 (0, 0)) uf_ hb); replace BK245 := a0_ (blk_below (g := gb245) (o := .cells #[.slice Ao37 x243000_1.length co37, .slice Ao54 y264.length co54] 26 (0, 0)) (by (with_reducible repeat (first | refine blk_drewN ?_ _ | refine blk_drew ?_ | refine blk_alloc ?_ _)); refine blk_put (cs := #[.slice Ao37 x243000_1.length co37, .slice Ao42 x243001_1.length co42]) ?_ 1 _ rfl; (with_reducible repeat (first | refine blk_drewN ?_ _ | refine blk_drew ?_ | refine blk_alloc ?_ _)); exact BK245.out) hb); replace HK := kb_ HK hb; replace HB := a0_ (below_step hBs_ hb); replace HI0 := a0_ (IsS123.below (show IsS123 w0 (w52.setCell ⟨gb245, 1, none⟩ (.slice Ao54 y264.length co54)) g s0_0 t257 from hI_) hb); (try clear hb); have hcz57_0 := c20_ BK245; have hcz57_1 := c21_ BK245; have hfz57_0 := fz_ BK245 0; have hfz57_1 := fz_ BK245 1; have hcz58_0 := c20_ BK242; have hcz58_1 := c21_ BK242; have hfz58_0 := fz_ BK242 0; have hfz58_1 := fz_ BK242 1))
       go_roundg k1
       case measure => have := HK1.out; omega
       case rel => exact ⟨(wrap64 (x8_1 - 1)), (t257), (x243000_1), (y264), (.slice Ao37 x243000_1.length co37), (.slice Ao54 y264.length co54), (by first | rfl | (simp; done) | (simp [*]; done)), H', ⟨by have := HK1.out; omega⟩, ⟨by (with_reducible repeat (first | apply Kd.R_alloc | apply Kd.R_drewN | apply Kd.R_drew)); exact Kd.R_mono (Kd.R_far (p := ⟨gb242, 1, none⟩) (Kd.R_far (p := ⟨gb242, 0, none⟩) (Kd.R_types HO_243000.out BK242.out (by decide)) (fun _ hk => hk.2) (.slice Ao37 x243000_1.length co37)) (fun _ hk => hk.2) (.slice Ao54 y264.length co54)) (fun _ hk => hk.1.1)⟩, ⟨by (with_reducible repeat (first | apply Kd.N_alloc | apply Kd.N_drewN | apply Kd.N_drew)); exact Kd.N_mono (Kd.N_far (p := ⟨gb242, 1, none⟩) (Kd.N_far (p := ⟨gb242, 0, none⟩) (Kd.N_mono HO266.out (fun k_ hk => (⟨hk, hk.2.2.2.1⟩ : _ ∧ k_ ≠ gb242))) (fun _ hk => hk.2) (.slice Ao37 x243000_1.length co37)) (fun _ hk => hk.2) (.slice Ao54 y264.length co54)) (fun _ hk => ⟨hk.1.1, ⟨hk.1.2.1, ⟨hk.1.2.2.1, ⟨hk.1.2.2.2.1, hk.1.2.2.2.2.2⟩⟩⟩⟩)⟩, ⟨by (with_reducible repeat (first | refine blk_drewN ?_ _ | refine blk_drew ?_ | refine blk_alloc ?_ _)); refine blk_far ?_ NB226_242.out _; (with_reducible repeat (first | refine blk_drewN ?_ _ | refine blk_drew ?_ | refine blk_alloc ?_ _)); refine blk_far ?_ NB226_242.out _; (with_reducible repeat (first | refine blk_drewN ?_ _ | refine blk_drew ?_ | refine blk_alloc ?_ _)); exact BK226.out⟩, ⟨by (with_reducible repeat (first | refine blk_drewN ?_ _ | refine blk_drew ?_ | refine blk_alloc ?_ _)); refine blk_put (cs := #[.slice Ao37 x243000_1.length co37, .slice Ao42 x243001_1.length co42]) ?_ 1 _ rfl; (with_reducible repeat (first | refine blk_drewN ?_ _ | refine blk_drew ?_ | refine blk_alloc ?_ _)); refine blk_put (cs := #[.slice Ao37 x243000_1.length co37, .slice Ao42 x243001_1.length co42]) ?_ 0 _ rfl; (with_reducible repeat (first | refine blk_drewN ?_ _ | refine blk_drew ?_ | refine blk_alloc ?_ _)); exact BK242.out⟩, ⟨by repeat (first | (with_reducible first | exact HI0.out | apply IsS123.alloc | apply IsS123.drewN | apply IsS123.drew | apply IsS123.set_1 | refine IsS123.far ?_ NB0_226.out _ | refine IsS123.far ?_ NB0_242.out _ | refine IsS123.far ?_ NB0_245.out _) | exact HI0.out)⟩, ⟨by repeat (first | (with_reducible first | exact HK.out | apply KeepBut.set_ | apply keep_drewN | apply keep_drew | apply keep_alloc | refine keep_far ?_ GW226.out _ | refine keep_far ?_ GW242.out _ | refine keep_far ?_ GW245.out _) | exact HK.out)⟩, ⟨by repeat (first | (with_reducible first | exact HB.out | apply below_alloc | apply pw_below_drewN | apply below_drew1 | refine below_set ?_ (IsS123.ge HI0.out) | refine below_set ?_ GE226.out | refine below_set ?_ GE242.out | refine below_set ?_ GE245.out) | exact HB.out)⟩⟩
      ·
       replace c32 := Bool.eq_false_iff.mpr c32
       subst c32
       rw [if_neg (show ¬ (false = true) by decide)] at H
       (try dsimp only at H)
       have H' := Aside0.mk H
       clear H
       have hnb59 := NB242_226.out
       have hnc59 := NB226_242.out
       have hnb60 := NB242_0.out
       have hnc60 := NB0_242.out
       have hcz61_0 := c20_ BK242
       have hcz61_1 := c21_ BK242
       have hfz61_0 := fz_ BK242 0
       have hfz61_1 := fz_ BK242 1
       go_wp2_with (first | ((with_reducible refine gate_dst (N := 9) rfl ?_); refine bx_ (N := 9) (cs := #[.slice none 0 0, .slice none 0 0]) (t := 26) (h := ?_); intro gb245 hg w62 hbox hb; have BK245 := a0_ (hbox); have GW245 := gw_ HK hg; have GE245 := a0_ ((Nat.le_trans HW0.out (gw_ HK hg).out)); have NB226_245 := nl_ BK226 hg; have NB245_226 := nr_ BK226 hg; have NB242_245 := nl_ BK242 hg; have NB245_242 := nr_ BK242 hg; have NB0_245 := sl_ HI0 hg; have NB245_0 := sr_ HI0 hg; replace HO_243000 := rb_ HO_243000 hb; replace HO_243001 := a0_ (Kd.N_below (Kd.N_elderB (uN_ HO_243001) gb245 (Nat.le_of_eq hg.symm)) hb); replace BK226 := vb_ BK226 hb; replace BK242 := vb_ BK242 hb; replace HK := kb_ HK hb; replace HB := a0_ (below_step hBs_ hb); replace HI0 := a0_ (IsS123.below hI_ hb); clear hb hbox hg; obtain ⟨Ao63, co63, eo63⟩ := Kd.R_slice HO_243000.out; subst eo63; have hnb64 := NB245_226.out; have hnc64 := NB226_245.out; have hnb65 := NB245_242.out; have hnc65 := NB242_245.out; have hnb66 := NB245_0.out; have hnc66 := NB0_245.out; have hcz67_0 := c20_ BK245; have hcz67_1 := c21_ BK245; have hfz67_0 := fz_ BK245 0; have hfz67_1 := fz_ BK245 1; obtain ⟨Ao68, co68, eo68⟩ := Kd.N_slice HO_243001.out; subst eo68) | ((with_reducible refine gate_callee (f := 74) rfl ?_); refine gL_ (some 48) Tryd.func74 #[.pointer (some ⟨g, 0, none⟩), .int .i64 (wrap64 ((wrap64 (4 + t231)) - 2))] (h := ?_); (with_reducible refine (spec_l6Rd_pick.calls k1 g s0_0 x1001_1 (wrap64 ((wrap64 (4 + t231)) - 2)) t246 t247 w0 _ hI_ hBs_ A24.out).mono ?_); rintro e w69 ⟨rfl, hi, hb, hk⟩; refine ⟨_, rfl, ?_⟩; replace HO_243000 := a0_ (Kd.R_mono (Kd.R_keep (IsS123.apart (show IsS123 w0 _ g s0_0 x1001_1 from hI_) (by (with_reducible repeat (first | apply Kd.R_alloc | apply Kd.R_drewN | apply Kd.R_drew)); exact (Kd.R_mono (Kd.R_far (p := ⟨gb245, 1, none⟩) (Kd.R_far (p := ⟨gb245, 0, none⟩) (Kd.R_types HO_243000.out BK245.out (by decide)) (fun _ hk => hk.2) (.slice Ao63 x243000_1.length co63)) (fun _ hk => hk.2) (.slice Ao68 x243001_1.length co68)) (fun _ h_ => h_.1))) (by decide)) hk (fun _ h => h.2)) (fun _ h => h.1)); replace HO_243001 := a0_ (Kd.N_mono (Kd.N_keep (Kd.N_mono (ok := fun k_ => ((((w.heap.size ≤ k_)) ∧ (some k_ ≠ (.slice Ao63 x243000_1.length co63 : Value).ownBlock ∧ (k_ ≠ gb226 ∧ (k_ ≠ gb242 ∧ k_ ≠ g)))) ∧ k_ ≠ gb245)) (by (with_reducible repeat (first | apply Kd.N_alloc | apply Kd.N_drewN | apply Kd.N_drew)); exact (Kd.N_mono (Kd.N_far (p := ⟨gb245, 1, none⟩) (Kd.N_far (p := ⟨gb245, 0, none⟩) (Kd.N_mono HO_243001.out (fun k_ hk => (⟨hk, hk.2⟩ : _ ∧ k_ ≠ gb245))) (fun _ hk => hk.2) (.slice Ao63 x243000_1.length co63)) (fun _ hk => hk.2) (.slice Ao68 x243001_1.length co68)) (fun _ h_ => h_.1))) (fun k_ hk_ => (⟨hk_, hk_.1.2.2.2.2⟩ : _ ∧ k_ ≠ g))) hk (fun _ h => h.2)) (fun _ h => h.1)); replace BK226 := a0_ (KeepBut.blk hk (g' := gb226) (o := .cells #[.slice none 0 0, .slice none 0 0] 26 (0, 0)) uf_ NB226_0.out (by simp)); replace BK242 := a0_ (KeepBut.blk hk (g' := gb242) (o := .cells #[.slice Ao63 x243000_1.length co63, .slice Ao68 x243001_1.length co68] 26 (0, 0)) uf_ NB242_0.out (by simp)); replace BK245 := a0_ (KeepBut.blk hk (g' := gb245) (o := .cells #[.slice Ao63 x243000_1.length co63, .slice Ao68 x243001_1.length co68] 26 (0, 0)) (by (with_reducible repeat (first | refine blk_drewN ?_ _ | refine blk_drew ?_ | refine blk_alloc ?_ _)); refine blk_put (cs := #[.slice Ao63 x243000_1.length co63, .slice none 0 0]) ?_ 1 _ rfl; (with_reducible repeat (first | refine blk_drewN ?_ _ | refine blk_drew ?_ | refine blk_alloc ?_ _)); refine blk_put (cs := #[.slice none 0 0, .slice none 0 0]) ?_ 0 _ rfl; (with_reducible repeat (first | refine blk_drewN ?_ _ | refine blk_drew ?_ | refine blk_alloc ?_ _)); exact BK245.out) NB245_0.out (by simp)); replace HK := kk_ HK hk; replace HB := a0_ (hb); replace HI0 := a0_ (hi); (try clear hi hb hk)) | ((with_reducible refine gate_callee (f := 74) rfl ?_); refine gL_ (some 55) Tryd.func74 #[.pointer (some ⟨g, 0, none⟩), .int .i64 (wrap64 ((wrap64 (4 + t233)) - 2))] (h := ?_); (with_reducible refine (spec_l6Rd_pick.calls k1 g s0_0 t247 (wrap64 ((wrap64 (4 + t233)) - 2)) t248 t249 w0 _ hI_ hBs_ A25.out).mono ?_); rintro e w70 ⟨rfl, hi, hb, hk⟩; refine ⟨_, rfl, ?_⟩; replace HO_243000 := a0_ (Kd.R_mono (Kd.R_keep (IsS123.apart (show IsS123 w0 _ g s0_0 t247 from hI_) (uR_ HO_243000) (by decide)) hk (fun _ h => h.2)) (fun _ h => h.1)); replace HO_243001 := a0_ (Kd.N_mono (Kd.N_keep (Kd.N_mono (ok := fun k_ => ((((w.heap.size ≤ k_)) ∧ (some k_ ≠ (.slice Ao63 x243000_1.length co63 : Value).ownBlock ∧ (k_ ≠ gb226 ∧ (k_ ≠ gb242 ∧ k_ ≠ g)))) ∧ k_ ≠ gb245)) (uN_ HO_243001) (fun k_ hk_ => (⟨hk_, hk_.1.2.2.2.2⟩ : _ ∧ k_ ≠ g))) hk (fun _ h => h.2)) (fun _ h => h.1)); replace BK226 := a0_ (KeepBut.blk hk (g' := gb226) (o := .cells #[.slice none 0 0, .slice none 0 0] 26 (0, 0)) uq_ NB226_0.out (by simp)); replace BK242 := a0_ (KeepBut.blk hk (g' := gb242) (o := .cells #[.slice Ao63 x243000_1.length co63, .slice Ao68 x243001_1.length co68] 26 (0, 0)) uq_ NB242_0.out (by simp)); replace BK245 := a0_ (KeepBut.blk hk (g' := gb245) (o := .cells #[.slice Ao63 x243000_1.length co63, .slice Ao68 x243001_1.length co68] 26 (0, 0)) uq_ NB245_0.out (by simp)); replace HK := kk_ HK hk; replace HB := a0_ (hb); replace HI0 := a0_ (hi); (try clear hi hb hk)) | ((with_reducible refine gate_callee (f := 74) rfl ?_); refine gL_ (some 58) Tryd.func74 #[.pointer (some ⟨g, 0, none⟩), .int .i64 2] (h := ?_); (with_reducible refine (spec_l6Rd_pick.calls k1 g s0_0 t249 2 t250 t251 w0 _ hI_ hBs_ A26.out).mono ?_); rintro e w71 ⟨rfl, hi, hb, hk⟩; refine ⟨_, rfl, ?_⟩; replace HO_243000 := a0_ (Kd.R_mono (Kd.R_keep (IsS123.apart (show IsS123 w0 _ g s0_0 t249 from hI_) (uR_ HO_243000) (by decide)) hk (fun _ h => h.2)) (fun _ h => h.1)); replace HO_243001 := a0_ (Kd.N_mono (Kd.N_keep (Kd.N_mono (ok := fun k_ => ((((w.heap.size ≤ k_)) ∧ (some k_ ≠ (.slice Ao63 x243000_1.length co63 : Value).ownBlock ∧ (k_ ≠ gb226 ∧ (k_ ≠ gb242 ∧ k_ ≠ g)))) ∧ k_ ≠ gb245)) (uN_ HO_243001) (fun k_ hk_ => (⟨hk_, hk_.1.2.2.2.2⟩ : _ ∧ k_ ≠ g))) hk (fun _ h => h.2)) (fun _ h => h.1)); replace BK226 := a0_ (KeepBut.blk hk (g' := gb226) (o := .cells #[.slice none 0 0, .slice none 0 0] 26 (0, 0)) uq_ NB226_0.out (by simp)); replace BK242 := a0_ (KeepBut.blk hk (g' := gb242) (o := .cells #[.slice Ao63 x243000_1.length co63, .slice Ao68 x243001_1.length co68] 26 (0, 0)) uq_ NB242_0.out (by simp)); replace BK245 := a0_ (KeepBut.blk hk (g' := gb245) (o := .cells #[.slice Ao63 x243000_1.length co63, .slice Ao68 x243001_1.length co68] 26 (0, 0)) uq_ NB245_0.out (by simp)); replace HK := kk_ HK hk; replace HB := a0_ (hb); replace HI0 := a0_ (hi); (try clear hi hb hk)) | ((with_reducible refine gate_callee (f := 74) rfl ?_); refine gL_ (some 61) Tryd.func74 #[.pointer (some ⟨g, 0, none⟩), .int .i64 2] (h := ?_); (with_reducible refine (spec_l6Rd_pick.calls k1 g s0_0 t251 2 t252 t253 w0 _ hI_ hBs_ A27.out).mono ?_); rintro e w72 ⟨rfl, hi, hb, hk⟩; refine ⟨_, rfl, ?_⟩; replace HO_243000 := a0_ (Kd.R_mono (Kd.R_keep (IsS123.apart (show IsS123 w0 _ g s0_0 t251 from hI_) (uR_ HO_243000) (by decide)) hk (fun _ h => h.2)) (fun _ h => h.1)); replace HO_243001 := a0_ (Kd.N_mono (Kd.N_keep (Kd.N_mono (ok := fun k_ => ((((w.heap.size ≤ k_)) ∧ (some k_ ≠ (.slice Ao63 x243000_1.length co63 : Value).ownBlock ∧ (k_ ≠ gb226 ∧ (k_ ≠ gb242 ∧ k_ ≠ g)))) ∧ k_ ≠ gb245)) (uN_ HO_243001) (fun k_ hk_ => (⟨hk_, hk_.1.2.2.2.2⟩ : _ ∧ k_ ≠ g))) hk (fun _ h => h.2)) (fun _ h => h.1)); replace BK226 := a0_ (KeepBut.blk hk (g' := gb226) (o := .cells #[.slice none 0 0, .slice none 0 0] 26 (0, 0)) uq_ NB226_0.out (by simp)); replace BK242 := a0_ (KeepBut.blk hk (g' := gb242) (o := .cells #[.slice Ao63 x243000_1.length co63, .slice Ao68 x243001_1.length co68] 26 (0, 0)) uq_ NB242_0.out (by simp)); replace BK245 := a0_ (KeepBut.blk hk (g' := gb245) (o := .cells #[.slice Ao63 x243000_1.length co63, .slice Ao68 x243001_1.length co68] 26 (0, 0)) uq_ NB245_0.out (by simp)); replace HK := kk_ HK hk; replace HB := a0_ (hb); replace HI0 := a0_ (hi); (try clear hi hb hk)) | ((with_reducible refine gate_callee (f := 110) rfl ?_); refine gL_ (some 63) Tryd.func110 #[.pointer (some ⟨g, 0, none⟩), .int .i64 (wrap64 ((wrap64 (t227 + 1)) + t246)), .int .i64 (wrap64 ((wrap64 (t229 + 1)) + t248)), .int .i64 (wrap64 (1 + t250)), .int .i64 (wrap64 (1 + t252))] (h := ?_); (with_reducible refine (spec_l71Box.calls k1 g s0_0 t253 (wrap64 ((wrap64 (t227 + 1)) + t246)) (wrap64 ((wrap64 (t229 + 1)) + t248)) (wrap64 (1 + t250)) (wrap64 (1 + t252)) t254 t257 w0 _ hI_ hBs_ A28.out).mono ?_); rintro e w73 ⟨v255, rfl, ho0, hi, hb, hk⟩; refine ⟨_, rfl, ?_⟩; have HO256 := a0_ (Kd.R_lower (Kd.R_new' (Kd.R_newM (M := fun k_ => (w.heap.size ≤ k_)) ho0 (keep_size (w := w) (g := g) (row := none) (hK_ HK)) (fun k_ h_ => h_)) (Kd.R_lt (uR_ HO_243000))) (keep_size (w := w) (g := g) (row := none) (hK_ HK))); replace HO_243000 := a0_ (Kd.R_mono (Kd.R_told (Kd.R_oldK (IsS123.apart (show IsS123 w0 _ g s0_0 t253 from hI_) (uR_ HO_243000) (by decide)) hk) (Kd.R_base ho0)) (fun _ h_ => h_.1)); replace HO_243001 := a0_ (Kd.N_mono (Kd.N_told (Kd.N_oldK (Kd.N_mono (ok := fun k_ => ((((w.heap.size ≤ k_)) ∧ (some k_ ≠ (.slice Ao63 x243000_1.length co63 : Value).ownBlock ∧ (k_ ≠ gb226 ∧ (k_ ≠ gb242 ∧ k_ ≠ g)))) ∧ k_ ≠ gb245)) (uN_ HO_243001) (fun k_ hk_ => (⟨hk_, hk_.1.2.2.2.2⟩ : _ ∧ k_ ≠ g))) hk) (Kd.R_base ho0)) (fun _ h_ => h_.1)); replace BK226 := a0_ (KeepBut.blk hk (g' := gb226) (o := .cells #[.slice none 0 0, .slice none 0 0] 26 (0, 0)) uq_ NB226_0.out (by simp)); replace BK242 := a0_ (KeepBut.blk hk (g' := gb242) (o := .cells #[.slice Ao63 x243000_1.length co63, .slice Ao68 x243001_1.length co68] 26 (0, 0)) uq_ NB242_0.out (by simp)); replace BK245 := a0_ (KeepBut.blk hk (g' := gb245) (o := .cells #[.slice Ao63 x243000_1.length co63, .slice Ao68 x243001_1.length co68] 26 (0, 0)) uq_ NB245_0.out (by simp)); replace HK := kk_ HK hk; replace HB := a0_ (hb); replace HI0 := a0_ (hi); (try clear ho0 hi hb hk)) | ((with_reducible refine gate_dst (N := 64) rfl ?_); refine Kd.N_lit (Kd.slice 28 k28) _ 23 ?hg (N' := 64) ?hd (xs := ([] : List (List (S28)))) (inner := []) (ok := (fun k_ => (w.heap.size ≤ k_) ∧ some k_ ≠ (.slice Ao63 x243000_1.length co63 : Value).ownBlock ∧ some k_ ≠ (.slice Ao68 x243001_1.length co68 : Value).ownBlock ∧ some k_ ≠ (v255 : Value).ownBlock ∧ k_ ≠ gb226 ∧ k_ ≠ gb242 ∧ k_ ≠ gb245 ∧ k_ ≠ g)) (okp := (fun k_ => (w.heap.size ≤ k_) ∧ some k_ ≠ (.slice Ao63 x243000_1.length co63 : Value).ownBlock ∧ some k_ ≠ (.slice Ao68 x243001_1.length co68 : Value).ownBlock ∧ some k_ ≠ (v255 : Value).ownBlock ∧ k_ ≠ gb226 ∧ k_ ≠ gb242 ∧ k_ ≠ gb245 ∧ k_ ≠ g)) ?hr ?hp (fun _ hk => hk) ((show ∀ k_, w73.heap.size ≤ k_ → (fun k_ => (w.heap.size ≤ k_) ∧ some k_ ≠ (.slice Ao63 x243000_1.length co63 : Value).ownBlock ∧ some k_ ≠ (.slice Ao68 x243001_1.length co68 : Value).ownBlock ∧ some k_ ≠ (v255 : Value).ownBlock ∧ k_ ≠ gb226 ∧ k_ ≠ gb242 ∧ k_ ≠ gb245 ∧ k_ ≠ g) k_ from fun k_ hk => ⟨(Nat.le_trans (keep_size (w := w) (g := g) (row := none) (hK_ HK)) hk), Kd.fresh' (Kd.R_lt (uR_ HO_243000)) k_ hk, Kd.fresh' (Kd.N_lt (uN_ HO_243001)) k_ hk, Kd.fresh' (Kd.R_lt (uR_ HO256)) k_ hk, Kd.freshB (g := gb226) (o := .cells #[.slice none 0 0, .slice none 0 0] 26 (0, 0)) uq_ k_ hk, Kd.freshB (g := gb242) (o := .cells #[.slice Ao63 x243000_1.length co63, .slice Ao68 x243001_1.length co68] 26 (0, 0)) uq_ k_ hk, Kd.freshB (g := gb245) (o := .cells #[.slice Ao63 x243000_1.length co63, .slice Ao68 x243001_1.length co68] 26 (0, 0)) uq_ k_ hk, IsS123.fresh hI_ k_ hk⟩) _ (Nat.le_refl _)) (Below.refl _ _) (Nat.le_refl _) (by simp) ?_; (case hd => rfl); (case hg => rfl); (case hr => first | (go_simp; done) | (go_simp; rfl)); (case hp => exact (Reps.none _ _)); intro v259 w74 ho75 hb hg_ hnew_; clear hg_ hnew_; (first | rw [← Ny258.out] at ho75 | (simp only [Int.reduceToNat] at ho75; rw [← Ny258.out] at ho75)); have HO260 := a0_ (Kd.N_lower ho75 (keep_size (w := w) (g := g) (row := none) (hK_ HK))); replace HO_243000 := rb_ HO_243000 hb; replace HO_243001 := a0_ (Kd.N_elder' (uN_ HO_243001) (Kd.N_base ho75) hb); replace HO256 := rb_ HO256 hb; replace BK226 := vb_ BK226 hb; replace BK242 := vb_ BK242 hb; replace BK245 := vb_ BK245 hb; replace HK := kb_ HK hb; replace HB := a0_ (below_step hBs_ hb); replace HI0 := a0_ (IsS123.below hI_ hb); clear hb ho75; have hcz76_0 := c20_ BK242; have hcz76_1 := c21_ BK242; have hfz76_0 := fz_ BK242 0; have hfz76_1 := fz_ BK242 1) | ((with_reducible refine gate_builtin (b := .append) (xs := #[.tmp 64, .tmp 66]) rfl ?_); at_builtin; refine Kd.N_append_rows (Kd.slice 28 k28) w.heap.size rfl (.tmp 64) (.tmp 66) 24 23 (.slice none 0 0) 24 rfl Tryd.underlying24 info23 rfl (by decide) (by omega) v259 y258 x243001_1 _ _ _ (fun k_ => (w.heap.size ≤ k_) ∧ some k_ ≠ (.slice Ao63 x243000_1.length co63 : Value).ownBlock ∧ some k_ ≠ (v255 : Value).ownBlock ∧ k_ ≠ gb226 ∧ k_ ≠ gb242 ∧ k_ ≠ gb245 ∧ k_ ≠ g) (fun k_ => ((fun k_ => (w.heap.size ≤ k_) ∧ some k_ ≠ (.slice Ao63 x243000_1.length co63 : Value).ownBlock ∧ some k_ ≠ (v255 : Value).ownBlock ∧ k_ ≠ gb226 ∧ k_ ≠ gb242 ∧ k_ ≠ gb245 ∧ k_ ≠ g)) k_ ∧ some k_ ≠ (v259 : Value).ownBlock) rfl rfl ?aO ?aR (fun _ hk => hk) ?aF (Below.refl _ _) ?aS ?aL ?_; (case aR => exact (by skip; exact Kd.N_F (Kd.N_mono (ok' := (fun k_ => ((fun k_ => (w.heap.size ≤ k_) ∧ some k_ ≠ (.slice Ao63 x243000_1.length co63 : Value).ownBlock ∧ some k_ ≠ (v255 : Value).ownBlock ∧ k_ ≠ gb226 ∧ k_ ≠ gb242 ∧ k_ ≠ gb245 ∧ k_ ≠ g)) k_ ∧ some k_ ≠ (v259 : Value).ownBlock)) (HO_243001.out) (fun k_ hk => ⟨⟨hk.1.1.1.1, ⟨hk.1.1.1.2.1, ⟨hk.1.2, ⟨hk.1.1.1.2.2.1, ⟨hk.1.1.1.2.2.2.1, ⟨hk.1.1.2, hk.1.1.1.2.2.2.2⟩⟩⟩⟩⟩⟩, hk.2⟩)))); (case aF => exact (fun k_ hk => ⟨(Nat.le_trans (keep_size (w := w) (g := g) (row := none) (hK_ HK)) hk), Kd.fresh' (Kd.R_lt (uR_ HO_243000)) k_ hk, Kd.fresh' (Kd.R_lt (uR_ HO256)) k_ hk, Kd.freshB (g := gb226) (o := .cells #[.slice none 0 0, .slice none 0 0] 26 (0, 0)) uq_ k_ hk, Kd.freshB (g := gb242) (o := .cells #[.slice Ao63 x243000_1.length co63, .slice Ao68 x243001_1.length co68] 26 (0, 0)) uq_ k_ hk, Kd.freshB (g := gb245) (o := .cells #[.slice Ao63 x243000_1.length co63, .slice Ao68 x243001_1.length co68] 26 (0, 0)) uq_ k_ hk, IsS123.fresh hI_ k_ hk⟩)); (case aO => exact (by (with_reducible repeat (first | apply Kd.N_alloc | apply Kd.N_drewN | apply Kd.N_drew)); exact Kd.N_mono HO260.out (fun _ hk => ⟨hk.1, ⟨hk.2.1, ⟨hk.2.2.2.1, ⟨hk.2.2.2.2.1, ⟨hk.2.2.2.2.2.1, ⟨hk.2.2.2.2.2.2.1, hk.2.2.2.2.2.2.2⟩⟩⟩⟩⟩⟩))); (case aS => exact (keep_size (w := w) (g := g) (row := none) (hK_ HK))); (case aL => have := LMc29.out; omega); intro v262 w77 ho hb hg hat; rw [← Ny261.out] at ho; have HO263 := a0_ (ho); replace HO_243000 := a0_ (Kd.R_over' (uR_ HO_243000) (Kd.N_typed (uN_ HO260)) (by decide) hg); replace HO_243001 := a0_ (Kd.N_afterv (ok := (fun k_ => (w.heap.size ≤ k_) ∧ some k_ ≠ (.slice Ao63 x243000_1.length co63 : Value).ownBlock ∧ some k_ ≠ (v255 : Value).ownBlock ∧ k_ ≠ gb226 ∧ k_ ≠ gb242 ∧ k_ ≠ g ∧ k_ ≠ gb245)) (by (with_reducible repeat (first | apply Kd.N_alloc | apply Kd.N_drewN | apply Kd.N_drew)); exact Kd.N_mono HO_243001.out (fun _ hk => ⟨⟨hk.1.1.1.1, ⟨hk.1.1.1.2.1, ⟨hk.1.2, ⟨hk.1.1.1.2.2.1, ⟨hk.1.1.1.2.2.2.1, ⟨hk.1.1.1.2.2.2.2, hk.1.1.2⟩⟩⟩⟩⟩⟩, hk.2⟩)) hg hat); replace BK226 := a0_ (blk_grown (g := gb226) (o := .cells #[.slice none 0 0, .slice none 0 0] 26 (0, 0)) uq_ hg (Kd.N_ne HO260.out BK226.out (by decide))); replace BK242 := a0_ (blk_grown (g := gb242) (o := .cells #[.slice Ao63 x243000_1.length co63, .slice Ao68 x243001_1.length co68] 26 (0, 0)) uq_ hg (Kd.N_ne HO260.out BK242.out (by decide))); replace BK245 := a0_ (blk_grown (g := gb245) (o := .cells #[.slice Ao63 x243000_1.length co63, .slice Ao68 x243001_1.length co68] 26 (0, 0)) uq_ hg (Kd.N_ne HO260.out BK245.out (by decide))); replace HO256 := a0_ (Kd.R_over' (uR_ HO256) (Kd.N_typed (uN_ HO260)) (by decide) hg); replace HB := a0_ (below_weaken hBs_ HL.out hb); replace HI0 := a0_ (IsS123.grown hI_ hg (IsS123.own_neN HI0.out HO260.out (by decide))); replace HK := a0_ (KeepBut.trans (hK_ HK) (KeepBut.of_grown hg g) (Kd.N_base2 HO260.out)); clear HO260; clear ho hb hg hat; obtain ⟨Ao79, co79, eo79⟩ := Kd.R_slice HO256.out; subst eo79) | ((with_reducible refine gate_builtin (b := .append) (xs := #[.tmp 67, .tmp 69]) rfl ?_); at_builtin; refine Kd.N_append (Kd.slice 28 k28) w.heap.size rfl (.tmp 67) (.tmp 69) 24 23 (.slice none 0 0) 24 rfl Tryd.underlying24 info23 rfl (by decide) (by omega) v262 y261 t254 [.slice Ao79 t254.length co79] (fun k_ => (w.heap.size ≤ k_) ∧ some k_ ≠ (.slice Ao63 x243000_1.length co63 : Value).ownBlock ∧ k_ ≠ gb226 ∧ k_ ≠ gb242 ∧ k_ ≠ gb245 ∧ k_ ≠ g) (fun k_ => ((fun k_ => (w.heap.size ≤ k_) ∧ some k_ ≠ (.slice Ao63 x243000_1.length co63 : Value).ownBlock ∧ k_ ≠ gb226 ∧ k_ ≠ gb242 ∧ k_ ≠ gb245 ∧ k_ ≠ g)) k_ ∧ some k_ ≠ (v262 : Value).ownBlock) rfl rfl ?aP (fun _ hk => hk) ?aF ?aO (Below.refl _ _) ?aS ?aL ?_; (case aP => exact (Kd.FK_slice_mk (Kd.R_reads' (Kd.R_mono (ok' := (fun k_ => ((fun k_ => (w.heap.size ≤ k_) ∧ some k_ ≠ (.slice Ao63 x243000_1.length co63 : Value).ownBlock ∧ k_ ≠ gb226 ∧ k_ ≠ gb242 ∧ k_ ≠ gb245 ∧ k_ ≠ g)) k_ ∧ some k_ ≠ (v262 : Value).ownBlock)) (IsS123.apart HI0.out (Kd.R_types (Kd.R_types (Kd.R_types (Kd.R_apart' (HO256.out) (Kd.N_typed HO263.out) (by decide)) BK226.out (by decide)) BK242.out (by decide)) BK245.out (by decide)) (by decide)) (fun k_ hk => ⟨⟨hk.1.1.1.1.1.1.1, ⟨hk.1.1.1.1.1.2, ⟨hk.1.1.1.2, ⟨hk.1.1.2, ⟨hk.1.2, hk.2⟩⟩⟩⟩⟩, hk.1.1.1.1.2⟩))).2.1 (Kd.R_F (Kd.R_mono (ok' := (fun k_ => ((fun k_ => (w.heap.size ≤ k_) ∧ some k_ ≠ (.slice Ao63 x243000_1.length co63 : Value).ownBlock ∧ k_ ≠ gb226 ∧ k_ ≠ gb242 ∧ k_ ≠ gb245 ∧ k_ ≠ g)) k_ ∧ some k_ ≠ (v262 : Value).ownBlock)) (IsS123.apart HI0.out (Kd.R_types (Kd.R_types (Kd.R_types (Kd.R_apart' (HO256.out) (Kd.N_typed HO263.out) (by decide)) BK226.out (by decide)) BK242.out (by decide)) BK245.out (by decide)) (by decide)) (fun k_ hk => ⟨⟨hk.1.1.1.1.1.1.1, ⟨hk.1.1.1.1.1.2, ⟨hk.1.1.1.2, ⟨hk.1.1.2, ⟨hk.1.2, hk.2⟩⟩⟩⟩⟩, hk.1.1.1.1.2⟩))))); (case aF => exact (fun k_ hk => ⟨(Nat.le_trans (keep_size (w := w) (g := g) (row := none) (hK_ HK)) hk), Kd.fresh' (Kd.R_lt (uR_ HO_243000)) k_ hk, Kd.freshB (g := gb226) (o := .cells #[.slice none 0 0, .slice none 0 0] 26 (0, 0)) uq_ k_ hk, Kd.freshB (g := gb242) (o := .cells #[.slice Ao63 x243000_1.length co63, .slice Ao68 x243001_1.length co68] 26 (0, 0)) uq_ k_ hk, Kd.freshB (g := gb245) (o := .cells #[.slice Ao63 x243000_1.length co63, .slice Ao68 x243001_1.length co68] 26 (0, 0)) uq_ k_ hk, IsS123.fresh hI_ k_ hk⟩)); (case aO => exact (by (with_reducible repeat (first | apply Kd.N_alloc | apply Kd.N_drewN | apply Kd.N_drew)); exact Kd.N_mono HO263.out (fun _ hk => ⟨hk.1, ⟨hk.2.1, ⟨hk.2.2.2.1, ⟨hk.2.2.2.2.1, ⟨hk.2.2.2.2.2.1, hk.2.2.2.2.2.2⟩⟩⟩⟩⟩))); (case aS => exact (keep_size (w := w) (g := g) (row := none) (hK_ HK))); (case aL => have := LMc30.out; omega); intro v265 w78 ho hb hg hat; rw [← Ny264.out] at ho; have HO266 := a0_ (ho); replace HO_243000 := a0_ (Kd.R_over' (uR_ HO_243000) (Kd.N_typed (uN_ HO263)) (by decide) hg); replace HO_243001 := a0_ (Kd.N_afterv (ok := (fun k_ => (w.heap.size ≤ k_) ∧ some k_ ≠ (.slice Ao63 x243000_1.length co63 : Value).ownBlock ∧ some k_ ≠ (.slice Ao79 t254.length co79 : Value).ownBlock ∧ k_ ≠ gb226 ∧ k_ ≠ gb242 ∧ k_ ≠ g ∧ k_ ≠ gb245)) (uN_ HO_243001) hg hat); replace BK226 := a0_ (blk_grown (g := gb226) (o := .cells #[.slice none 0 0, .slice none 0 0] 26 (0, 0)) uq_ hg (Kd.N_ne HO263.out BK226.out (by decide))); replace BK242 := a0_ (blk_grown (g := gb242) (o := .cells #[.slice Ao63 x243000_1.length co63, .slice Ao68 x243001_1.length co68] 26 (0, 0)) uq_ hg (Kd.N_ne HO263.out BK242.out (by decide))); replace BK245 := a0_ (blk_grown (g := gb245) (o := .cells #[.slice Ao63 x243000_1.length co63, .slice Ao68 x243001_1.length co68] 26 (0, 0)) uq_ hg (Kd.N_ne HO263.out BK245.out (by decide))); replace HB := a0_ (below_weaken hBs_ HL.out hb); replace HI0 := a0_ (IsS123.grown hI_ hg (IsS123.own_neN HI0.out HO263.out (by decide))); replace HK := a0_ (KeepBut.trans (hK_ HK) (KeepBut.of_grown hg g) (Kd.N_base2 HO263.out)); clear HO256 HO263; clear ho hb hg hat; obtain ⟨Ao80, co80, eo80⟩ := Kd.N_slice HO266.out; subst eo80; have hcz81_0 := c20_ BK245; have hcz81_1 := c21_ BK245; have hfz81_0 := fz_ BK245 0; have hfz81_1 := fz_ BK245 1) | ((with_reducible refine gate_callee (f := 18) rfl ?_); refine gL_ (some 73) Tryd.func18 #[.agg #[.slice Ao63 x243000_1.length co63, .slice Ao80 y264.length co80]] (h := ?_); (with_reducible refine (spec_PlateOk.calls k1 _ _ x243000_1 _ _ y264 false _ ((Kd.R_reads' (Kd.R_far (p := ⟨gb245, 1, none⟩) (Kd.R_types HO_243000.out BK245.out (by decide)) (fun _ hk => hk.2) (.slice Ao80 y264.length co80))).2.2) ((Kd.R_reads' HO_243000.out).2.1) ?side3 ?side4 A31.out).mono ?_); (case side3 => refine (Kd.N_reads' (e := 23) (base := w.heap.size) (ok := fun k_ => ((w.heap.size ≤ k_) ∧ (some k_ ≠ (.slice Ao63 x243000_1.length co63 : Value).ownBlock ∧ (k_ ≠ gb226 ∧ (k_ ≠ gb242 ∧ (k_ ≠ gb245 ∧ k_ ≠ g)))))) (n := y264.length) (c := co80) ?_).2.2; exact (by (with_reducible repeat (first | apply Kd.N_alloc | apply Kd.N_drewN | apply Kd.N_drew)); exact (Kd.N_mono (Kd.N_far (p := ⟨gb245, 1, none⟩) (Kd.N_mono HO266.out (fun k_ hk => (⟨hk, hk.2.2.2.2.1⟩ : _ ∧ k_ ≠ gb245))) (fun _ hk => hk.2) (.slice Ao80 y264.length co80)) (fun _ h_ => h_.1)))); (case side4 => exact (Kd.N_reads' HO266.out).2.1); rintro e w82 ⟨rfl, hb⟩; refine ⟨_, rfl, ?_⟩; replace HO_243000 := a0_ (Kd.R_below (by (with_reducible repeat (first | apply Kd.R_alloc | apply Kd.R_drewN | apply Kd.R_drew)); exact (Kd.R_mono (Kd.R_far (p := ⟨gb245, 1, none⟩) (Kd.R_types HO_243000.out BK245.out (by decide)) (fun _ hk => hk.2) (.slice Ao80 y264.length co80)) (fun _ h_ => h_.1))) hb); replace HO_243001 := a0_ (Kd.N_below (by (with_reducible repeat (first | apply Kd.N_alloc | apply Kd.N_drewN | apply Kd.N_drew)); exact (Kd.N_mono (Kd.N_far (p := ⟨gb245, 1, none⟩) (Kd.N_mono HO_243001.out (fun k_ hk => (⟨hk, hk.1.2.2.2.2.2.2⟩ : _ ∧ k_ ≠ gb245))) (fun _ hk => hk.2) (.slice Ao80 y264.length co80)) (fun _ h_ => h_.1))) hb); replace HO266 := a0_ (Kd.N_below (by (with_reducible repeat (first | apply Kd.N_alloc | apply Kd.N_drewN | apply Kd.N_drew)); exact (Kd.N_mono (Kd.N_far (p := ⟨gb245, 1, none⟩) (Kd.N_mono HO266.out (fun k_ hk => (⟨hk, hk.2.2.2.2.1⟩ : _ ∧ k_ ≠ gb245))) (fun _ hk => hk.2) (.slice Ao80 y264.length co80)) (fun _ h_ => h_.1))) hb); replace BK226 := a0_ (blk_below (g := gb226) (o := .cells #[.slice none 0 0, .slice none 0 0] 26 (0, 0)) uf_ hb); replace BK242 := a0_ (blk_below (g := gb242) (o := .cells #[.slice Ao63 x243000_1.length co63, .slice Ao68 x243001_1.length co68] 26 (0, 0)) uf_ hb); replace BK245 := a0_ (blk_below (g := gb245) (o := .cells #[.slice Ao63 x243000_1.length co63, .slice Ao80 y264.length co80] 26 (0, 0)) (by (with_reducible repeat (first | refine blk_drewN ?_ _ | refine blk_drew ?_ | refine blk_alloc ?_ _)); refine blk_put (cs := #[.slice Ao63 x243000_1.length co63, .slice Ao68 x243001_1.length co68]) ?_ 1 _ rfl; (with_reducible repeat (first | refine blk_drewN ?_ _ | refine blk_drew ?_ | refine blk_alloc ?_ _)); exact BK245.out) hb); replace HK := kb_ HK hb; replace HB := a0_ (below_step hBs_ hb); replace HI0 := a0_ (IsS123.below (show IsS123 w0 (w78.setCell ⟨gb245, 1, none⟩ (.slice Ao80 y264.length co80)) g s0_0 t257 from hI_) hb); (try clear hb)))
       go_roundg k1
       case measure => have := HK1.out; omega
       case rel => exact ⟨(wrap64 (x8_1 - 1)), (t257), (x243000_1), (x243001_1), (.slice Ao63 x243000_1.length co63), (.slice Ao68 x243001_1.length co68), (by first | rfl | (simp; done) | (simp [*]; done)), H', ⟨by have := HK1.out; omega⟩, ⟨by (with_reducible repeat (first | apply Kd.R_alloc | apply Kd.R_drewN | apply Kd.R_drew)); exact Kd.R_mono HO_243000.out (fun _ hk => hk.1)⟩, ⟨by (with_reducible repeat (first | apply Kd.N_alloc | apply Kd.N_drewN | apply Kd.N_drew)); exact Kd.N_mono HO_243001.out (fun _ hk => ⟨hk.1.1, ⟨hk.1.2.1, ⟨hk.1.2.2.2.1, ⟨hk.1.2.2.2.2.1, hk.1.2.2.2.2.2.1⟩⟩⟩⟩)⟩, ⟨uq_⟩, ⟨uq_⟩, ⟨by repeat (first | (with_reducible first | exact HI0.out | apply IsS123.alloc | apply IsS123.drewN | apply IsS123.drew | apply IsS123.set_1 | refine IsS123.far ?_ NB0_226.out _ | refine IsS123.far ?_ NB0_242.out _ | refine IsS123.far ?_ NB0_245.out _) | exact HI0.out)⟩, ⟨by repeat (first | (with_reducible first | exact HK.out | apply KeepBut.set_ | apply keep_drewN | apply keep_drew | apply keep_alloc | refine keep_far ?_ GW226.out _ | refine keep_far ?_ GW242.out _ | refine keep_far ?_ GW245.out _) | exact HK.out)⟩, ⟨by repeat (first | (with_reducible first | exact HB.out | apply below_alloc | apply pw_below_drewN | apply below_drew1 | refine below_set ?_ (IsS123.ge HI0.out) | refine below_set ?_ GE226.out | refine below_set ?_ GE242.out | refine below_set ?_ GE245.out) | exact HB.out)⟩⟩
     ·
      rw [if_neg c30] at H
      exact absurd H (by simp)
    ·
     rw [if_neg c29] at H
     exact absurd H (by simp)
   ·
    rw [if_neg c23] at H
    have c23b0 : decide (0 < x8_1) = false := decide_eq_false c23
    clear c23
    simp only [Option.some.injEq, Prod.mk.injEq] at H
    obtain ⟨rfl, rfl, rfl⟩ := H
    have hnb83 := NB242_226.out
    have hnc83 := NB226_242.out
    have hnb84 := NB242_0.out
    have hnc84 := NB0_242.out
    have hcz85_0 := c20_ BK242
    have hcz85_1 := c21_ BK242
    have hfz85_0 := fz_ BK242 0
    have hfz85_1 := fz_ BK242 1
    obtain ⟨Ao86, co86, eo86⟩ := Kd.R_slice HO_243000.out
    subst eo86
    have hnb87 := NB226_0.out
    have hnc87 := NB0_226.out
    have hcz88_0 := c20_ BK226
    have hcz88_1 := c21_ BK226
    have hfz88_0 := fz_ BK226 0
    have hfz88_1 := fz_ BK226 1
    obtain ⟨Ao89, co89, eo89⟩ := Kd.N_slice HO_243001.out
    subst eo89
    go_wp2
    refine bodyPost_ret (results_cell_row rfl _ _ gb226 26 #[.slice Ao86 x243000_1.length co86, .slice Ao89 x243001_1.length co89] (0, 0) _ rfl (by (with_reducible repeat (first | refine blk_drewN ?_ _ | refine blk_drew ?_ | refine blk_alloc ?_ _)); refine blk_put (cs := #[.slice Ao86 x243000_1.length co86, .slice none 0 0]) ?_ 1 _ rfl; (with_reducible repeat (first | refine blk_drewN ?_ _ | refine blk_drew ?_ | refine blk_alloc ?_ _)); refine blk_put (cs := #[.slice none 0 0, .slice none 0 0]) ?_ 0 _ rfl; (with_reducible repeat (first | refine blk_drewN ?_ _ | refine blk_drew ?_ | refine blk_alloc ?_ _)); exact BK226.out) Tryd.underlying26 rfl (by kernel_rfl)) rfl ?_
    exact ⟨_, _, rr_, by (with_reducible repeat (first | apply Kd.R_alloc | apply Kd.R_drewN | apply Kd.R_drew)); exact Kd.R_mono (Kd.R_far (p := ⟨gb226, 1, none⟩) (Kd.R_far (p := ⟨gb226, 0, none⟩) (Kd.R_types HO_243000.out BK226.out (by decide)) (fun _ hk => hk.2) (.slice Ao86 x243000_1.length co86)) (fun _ hk => hk.2) (.slice Ao89 x243001_1.length co89)) (fun _ hk => hk.1), by (with_reducible repeat (first | apply Kd.N_alloc | apply Kd.N_drewN | apply Kd.N_drew)); exact Kd.N_mono (Kd.N_far (p := ⟨gb226, 1, none⟩) (Kd.N_far (p := ⟨gb226, 0, none⟩) (Kd.N_mono HO_243001.out (fun k_ hk => (⟨hk, hk.2.2.1⟩ : _ ∧ k_ ≠ gb226))) (fun _ hk => hk.2) (.slice Ao86 x243000_1.length co86)) (fun _ hk => hk.2) (.slice Ao89 x243001_1.length co89)) (fun _ hk => ⟨hk.1.1, hk.1.2.1⟩), by repeat (first | (with_reducible first | exact HI0.out | apply IsS123.alloc | apply IsS123.drewN | apply IsS123.drew | apply IsS123.set_1 | refine IsS123.far ?_ NB0_226.out _ | refine IsS123.far ?_ NB0_242.out _) | exact HI0.out), by repeat (first | (with_reducible first | exact HB.out | apply below_alloc | apply pw_below_drewN | apply below_drew1 | refine below_set ?_ (IsS123.ge HI0.out) | refine below_set ?_ GE226.out | refine below_set ?_ GE242.out) | exact HB.out), by repeat (first | (with_reducible first | exact HK.out | apply KeepBut.set_ | apply keep_drewN | apply keep_drew | apply keep_alloc | refine keep_far ?_ GW226.out _ | refine keep_far ?_ GW242.out _) | exact HK.out)⟩
def spec_l71Pt.f (k : Nat) (s0_0 : List Int) (s0_1 : Int) : Option (Int × Int × Int) := (spec_l6Rd_pick.f k s0_0 s0_1 10).bind fun bt108 => ((spec_l6Rd_pick.f k s0_0 bt108.2 10).bind fun bt110 => ((spec_l6Rd_pick.f k s0_0 bt110.2 40).bind fun bt113 => (if bt113.1 = 0 then ((some (([(-1), 10] : List Int) : List Int)).bind fun y115 => ((spec_l6Rd_pick.f k s0_0 bt113.2 2).bind fun bt118 => (if 0 ≤ bt118.1 then (if bt118.1 < (y115.length : Int) then (some (rd y115 bt118.1, bt110.1, bt118.2)) else (none)) else (none)))) else (if bt113.1 = 1 then ((some (([(-1), 10] : List Int) : List Int)).bind fun y121 => ((spec_l6Rd_pick.f k s0_0 bt113.2 2).bind fun bt124 => (if 0 ≤ bt124.1 then (if bt124.1 < (y121.length : Int) then (some (bt108.1, rd y121 bt124.1, bt124.2)) else (none)) else (none)))) else (some (bt108.1, bt110.1, bt113.2))))))
set_option maxHeartbeats 8000000 in
set_option maxRecDepth 100000 in
theorem spec_l71Pt.calls (k : Nat) (g : Nat) (s0_0 : List Int) (s0_1 : Int) (r1 : Int) (r2 : Int) (r3 : Int) (w0 w : World) (hI : IsS123 w0 w g s0_0 s0_1) (hB : Below w0.heap.size w0 w) (h : spec_l71Pt.f k s0_0 s0_1 = some (r1, r2, r3)) :
  Calls Tryd.prog 51 #[.pointer (some ⟨g, 0, none⟩)] w fun e w' => e = .returned (.agg #[.int .i64 r1, .int .i64 r2]) ∧ IsS123 w0 w' g s0_0 r3 ∧ Below w0.heap.size w0 w' ∧ KeepBut w w' g none := by
 have hu28 := Tryd.underlying28
 have HI0 := Aside0.mk hI
 have HK := a0_ (KeepBut.refl w g none)
 have HL := Aside0.mk hB.size
 clear hI
 have HW0 := Aside0.mk hB.size
 have HB := Aside0.mk hB
 clear hB
 have H : ((spec_l6Rd_pick.f k s0_0 s0_1 10).bind fun bt108 => ((spec_l6Rd_pick.f k s0_0 bt108.2 10).bind fun bt110 => ((spec_l6Rd_pick.f k s0_0 bt110.2 40).bind fun bt113 => (if bt113.1 = 0 then ((some (([(-1), 10] : List Int) : List Int)).bind fun y115 => ((spec_l6Rd_pick.f k s0_0 bt113.2 2).bind fun bt118 => (if 0 ≤ bt118.1 then (if bt118.1 < (y115.length : Int) then (some (rd y115 bt118.1, bt110.1, bt118.2)) else (none)) else (none)))) else (if bt113.1 = 1 then ((some (([(-1), 10] : List Int) : List Int)).bind fun y121 => ((spec_l6Rd_pick.f k s0_0 bt113.2 2).bind fun bt124 => (if 0 ≤ bt124.1 then (if bt124.1 < (y121.length : Int) then (some (bt108.1, rd y121 bt124.1, bt124.2)) else (none)) else (none)))) else (some (bt108.1, bt110.1, bt113.2))))))) = some (r1, r2, r3) := h
 clear h
 replace H := Option.bind_eq_some_iff.mp H
 obtain ⟨⟨t108, t109⟩, A20, H⟩ := H
 (try dsimp only at H)
 have A2 := Aside0.mk A20
 clear A20
 replace H := Option.bind_eq_some_iff.mp H
 obtain ⟨⟨t110, t111⟩, A30, H⟩ := H
 (try dsimp only at H)
 have A3 := Aside0.mk A30
 clear A30
 replace H := Option.bind_eq_some_iff.mp H
 obtain ⟨⟨t113, t114⟩, A40, H⟩ := H
 (try dsimp only at H)
 have A4 := Aside0.mk A40
 clear A40
 by_cases c5 : t113 = 0
 ·
  rw [if_pos c5] at H
  have c5b0 : (t113 == 0) = true := beq_iff_eq.mpr c5
  have c5b1 : (t113 != 0) = false := bne_eq_false_iff_eq.mpr c5
  clear c5
  obtain ⟨y115, hy115⟩ : ∃ y_ : List Int, y_ = (([(-1), 10] : List Int)) := ⟨_, rfl⟩
  replace H : ((spec_l6Rd_pick.f k s0_0 t114 2).bind fun bt118 => (if 0 ≤ bt118.1 then (if bt118.1 < (y115.length : Int) then (some (rd y115 bt118.1, t110, bt118.2)) else (none)) else (none))) = some (r1, r2, r3) := by first | (rw [hy115]; with_reducible exact H) | (have H2_ := (Option.bind_some _ _).symm.trans H; rw [hy115]; with_reducible exact H2_) | (have H2_ := (Option.bind_some _ _).symm.trans H; with_reducible exact H2_) | with_reducible exact H | (rw [hy115]; exact H) | exact H
  have Ny115 := Aside0.mk hy115
  clear hy115
  replace H := Option.bind_eq_some_iff.mp H
  obtain ⟨⟨t118, t119⟩, A60, H⟩ := H
  (try dsimp only at H)
  have A6 := Aside0.mk A60
  clear A60
  by_cases c7 : 0 ≤ t118
  ·
   rw [if_pos c7] at H
   have c7b0 : decide (0 ≤ t118) = true := decide_eq_true c7
   clear c7
   by_cases c8 : t118 < (y115.length : Int)
   ·
    rw [if_pos c8] at H
    have c8b0 : decide (t118 < (y115.length : Int)) = true := decide_eq_true c8
    clear c8
    simp only [Option.some.injEq, Prod.mk.injEq] at H
    obtain ⟨rfl, rfl, rfl⟩ := H
    go_enter Tryd.func51, Tryd.ntmps51
    go_wp2_with (first | ((with_reducible refine gate_dst (N := 2) rfl ?_); refine bx_ (N := 2) (cs := #[.int .i64 0, .int .i64 0]) (t := 28) (h := ?_); intro gb107 hg w9 hbox hb; have BK107 := a0_ (hbox); have GW107 := gw_ HK hg; have GE107 := a0_ ((Nat.le_trans HW0.out (gw_ HK hg).out)); have NB0_107 := sl_ HI0 hg; have NB107_0 := sr_ HI0 hg; replace HK := kb_ HK hb; replace HB := a0_ (below_step hBs_ hb); replace HI0 := a0_ (IsS123.below hI_ hb); clear hb hbox hg) | ((with_reducible refine gate_callee (f := 74) rfl ?_); refine gL_ (some 5) Tryd.func74 #[.pointer (some ⟨g, 0, none⟩), .int .i64 10] (h := ?_); (with_reducible refine (spec_l6Rd_pick.calls k g s0_0 s0_1 10 t108 t109 w0 _ hI_ hBs_ A2.out).mono ?_); rintro e w10 ⟨rfl, hi, hb, hk⟩; refine ⟨_, rfl, ?_⟩; replace BK107 := a0_ (KeepBut.blk hk (g' := gb107) (o := .cells #[.int .i64 0, .int .i64 0] 28 (0, 0)) uq_ NB107_0.out (by simp)); replace HK := kk_ HK hk; replace HB := a0_ (hb); replace HI0 := a0_ (hi); (try clear hi hb hk)) | ((with_reducible refine gate_callee (f := 74) rfl ?_); refine gL_ (some 7) Tryd.func74 #[.pointer (some ⟨g, 0, none⟩), .int .i64 10] (h := ?_); (with_reducible refine (spec_l6Rd_pick.calls k g s0_0 t109 10 t110 t111 w0 _ hI_ hBs_ A3.out).mono ?_); rintro e w11 ⟨rfl, hi, hb, hk⟩; refine ⟨_, rfl, ?_⟩; replace BK107 := a0_ (KeepBut.blk hk (g' := gb107) (o := .cells #[.int .i64 0, .int .i64 0] 28 (0, 0)) uq_ NB107_0.out (by simp)); replace HK := kk_ HK hk; replace HB := a0_ (hb); replace HI0 := a0_ (hi); (try clear hi hb hk)) | ((with_reducible refine gate_dst (N := 3) rfl ?_); refine bx_ (N := 3) (cs := #[.int .i64 0, .int .i64 0]) (t := 28) (h := ?_); intro gb112 hg w12 hbox hb; have BK112 := a0_ (hbox); have GW112 := gw_ HK hg; have GE112 := a0_ ((Nat.le_trans HW0.out (gw_ HK hg).out)); have NB107_112 := nl_ BK107 hg; have NB112_107 := nr_ BK107 hg; have NB0_112 := sl_ HI0 hg; have NB112_0 := sr_ HI0 hg; replace BK107 := vb_ BK107 hb; replace HK := kb_ HK hb; replace HB := a0_ (below_step hBs_ hb); replace HI0 := a0_ (IsS123.below hI_ hb); clear hb hbox hg; have hnb13 := NB112_107.out; have hnc13 := NB107_112.out; have hnb14 := NB112_0.out; have hnc14 := NB0_112.out; have hcz15_0 := c20_ BK112; have hcz15_1 := c21_ BK112; have hfz15_0 := fz_ BK112 0; have hfz15_1 := fz_ BK112 1) | ((with_reducible refine gate_callee (f := 74) rfl ?_); refine gL_ (some 10) Tryd.func74 #[.pointer (some ⟨g, 0, none⟩), .int .i64 40] (h := ?_); (with_reducible refine (spec_l6Rd_pick.calls k g s0_0 t111 40 t113 t114 w0 _ hI_ hBs_ A4.out).mono ?_); rintro e w16 ⟨rfl, hi, hb, hk⟩; refine ⟨_, rfl, ?_⟩; replace BK107 := a0_ (KeepBut.blk hk (g' := gb107) (o := .cells #[.int .i64 0, .int .i64 0] 28 (0, 0)) uf_ NB107_0.out (by simp)); replace BK112 := a0_ (KeepBut.blk hk (g' := gb112) (o := .cells #[.int .i64 t108, .int .i64 t110] 28 (0, 0)) (by (with_reducible repeat (first | refine blk_drewN ?_ _ | refine blk_drew ?_ | refine blk_alloc ?_ _)); refine blk_put (cs := #[.int .i64 t108, .int .i64 0]) ?_ 1 _ rfl; (with_reducible repeat (first | refine blk_drewN ?_ _ | refine blk_drew ?_ | refine blk_alloc ?_ _)); refine blk_put (cs := #[.int .i64 0, .int .i64 0]) ?_ 0 _ rfl; (with_reducible repeat (first | refine blk_drewN ?_ _ | refine blk_drew ?_ | refine blk_alloc ?_ _)); exact BK112.out) NB112_0.out (by simp)); replace HK := kk_ HK hk; replace HB := a0_ (hb); replace HI0 := a0_ (hi); (try clear hi hb hk)) | ((with_reducible refine gate_dst (N := 13) rfl ?_); refine Kd.R_lit (Kd.int .i64) _ 3 ?hg (N := 13) ?hd (xs := ([(-1), 10] : List Int)) (inner := [.int .i64 (-1), .int .i64 10]) (ok := fun _ => True) (okp := fun _ => True) ?hr ?hp (fun _ hk => hk) trivial (Below.refl _ _) (Nat.le_refl _) (by simp) ?_; (case hd => rfl); (case hg => rfl); (case hr => first | (go_simp; done) | (go_simp; rfl)); (case hp => exact (Reps.one (show Kd.M (Kd.int .i64) _ _ _ (-1) [.int .i64 (-1)] from rfl) (Reps.one (show Kd.M (Kd.int .i64) _ _ _ 10 [.int .i64 10] from rfl) (Reps.none _ _)))); intro v116 w17 ho18 hb hg_ hnew_; clear hg_ hnew_; (first | rw [← Ny115.out] at ho18 | (simp only [Int.reduceToNat] at ho18; rw [← Ny115.out] at ho18)); have HO117 := a0_ (Kd.R_lower ho18 (keep_size (w := w) (g := g) (row := none) (hK_ HK))); replace BK107 := vb_ BK107 hb; replace BK112 := vb_ BK112 hb; replace HK := kb_ HK hb; replace HB := a0_ (below_step hBs_ hb); replace HI0 := a0_ (IsS123.below hI_ hb); clear hb ho18) | ((with_reducible refine gate_callee (f := 74) rfl ?_); refine gL_ (some 15) Tryd.func74 #[.pointer (some ⟨g, 0, none⟩), .int .i64 2] (h := ?_); (with_reducible refine (spec_l6Rd_pick.calls k g s0_0 t114 2 t118 t119 w0 _ hI_ hBs_ A6.out).mono ?_); rintro e w19 ⟨rfl, hi, hb, hk⟩; refine ⟨_, rfl, ?_⟩; replace BK107 := a0_ (KeepBut.blk hk (g' := gb107) (o := .cells #[.int .i64 0, .int .i64 0] 28 (0, 0)) uq_ NB107_0.out (by simp)); replace BK112 := a0_ (KeepBut.blk hk (g' := gb112) (o := .cells #[.int .i64 t108, .int .i64 t110] 28 (0, 0)) uq_ NB112_0.out (by simp)); replace HO117 := a0_ (Kd.R_mono (Kd.R_keep (IsS123.apart (show IsS123 w0 _ g s0_0 t114 from hI_) (uR_ HO117) (by decide)) hk (fun _ h => h.2)) (fun _ h => h.1)); replace HK := kk_ HK hk; replace HB := a0_ (hb); replace HI0 := a0_ (hi); (try clear hi hb hk); obtain ⟨Ao20, co20, eo20⟩ := Kd.R_slice HO117.out; subst eo20; have p120 : 0 ≤ (t118 : Int) := od_; have q120 : t118 < (y115.length : Int) := od_; obtain ⟨ad120, e120, hx120_0⟩ := Kd.at_int (Kd.R_reads' HO117.out).2.2 t118 p120 q120; cases e120; replace p120 := eq_true p120; replace q120 := eq_true q120; have hcz21_0 := c20_ BK112; have hcz21_1 := c21_ BK112; have hfz21_0 := fz_ BK112 0; have hfz21_1 := fz_ BK112 1; have hnb22 := NB107_0.out; have hnc22 := NB0_107.out; have hcz23_0 := c20_ BK107; have hcz23_1 := c21_ BK107; have hfz23_0 := fz_ BK107 0; have hfz23_1 := fz_ BK107 1))
    refine bodyPost_ret (results_cell_row rfl _ _ gb107 28 #[.int .i64 (rd y115 t118), .int .i64 t110] (0, 0) _ rfl (by (with_reducible repeat (first | refine blk_drewN ?_ _ | refine blk_drew ?_ | refine blk_alloc ?_ _)); refine blk_put (cs := #[.int .i64 (rd y115 t118), .int .i64 0]) ?_ 1 _ rfl; (with_reducible repeat (first | refine blk_drewN ?_ _ | refine blk_drew ?_ | refine blk_alloc ?_ _)); refine blk_put (cs := #[.int .i64 0, .int .i64 0]) ?_ 0 _ rfl; (with_reducible repeat (first | refine blk_drewN ?_ _ | refine blk_drew ?_ | refine blk_alloc ?_ _)); refine blk_far ?_ NB107_112.out _; (with_reducible repeat (first | refine blk_drewN ?_ _ | refine blk_drew ?_ | refine blk_alloc ?_ _)); exact BK107.out) Tryd.underlying28 rfl (by kernel_rfl)) rfl ?_
    exact ⟨rr_, by repeat (first | (with_reducible first | exact HI0.out | apply IsS123.alloc | apply IsS123.drewN | apply IsS123.drew | apply IsS123.set_1 | refine IsS123.far ?_ NB0_107.out _ | refine IsS123.far ?_ NB0_112.out _) | exact HI0.out), by repeat (first | (with_reducible first | exact HB.out | apply below_alloc | apply pw_below_drewN | apply below_drew1 | refine below_set ?_ (IsS123.ge HI0.out) | refine below_set ?_ GE107.out | refine below_set ?_ GE112.out) | exact HB.out), by repeat (first | (with_reducible first | exact HK.out | apply KeepBut.set_ | apply keep_drewN | apply keep_drew | apply keep_alloc | refine keep_far ?_ GW107.out _ | refine keep_far ?_ GW112.out _) | exact HK.out)⟩
   ·
    rw [if_neg c8] at H
    exact absurd H (by simp)
  ·
   rw [if_neg c7] at H
   exact absurd H (by simp)
 ·
  rw [if_neg c5] at H
  have c5b0 : (t113 == 0) = false := beq_eq_false_iff_ne.mpr c5
  have c5b1 : (t113 != 0) = true := bne_iff_ne.mpr c5
  by_cases c24 : t113 = 1
  ·
   rw [if_pos c24] at H
   have c24b0 : (t113 == 1) = true := beq_iff_eq.mpr c24
   have c24b1 : (t113 != 1) = false := bne_eq_false_iff_eq.mpr c24
   clear c24
   obtain ⟨y121, hy121⟩ : ∃ y_ : List Int, y_ = (([(-1), 10] : List Int)) := ⟨_, rfl⟩
   replace H : ((spec_l6Rd_pick.f k s0_0 t114 2).bind fun bt124 => (if 0 ≤ bt124.1 then (if bt124.1 < (y121.length : Int) then (some (t108, rd y121 bt124.1, bt124.2)) else (none)) else (none))) = some (r1, r2, r3) := by first | (rw [hy121]; with_reducible exact H) | (have H2_ := (Option.bind_some _ _).symm.trans H; rw [hy121]; with_reducible exact H2_) | (have H2_ := (Option.bind_some _ _).symm.trans H; with_reducible exact H2_) | with_reducible exact H | (rw [hy121]; exact H) | exact H
   have Ny121 := Aside0.mk hy121
   clear hy121
   replace H := Option.bind_eq_some_iff.mp H
   obtain ⟨⟨t124, t125⟩, A250, H⟩ := H
   (try dsimp only at H)
   have A25 := Aside0.mk A250
   clear A250
   by_cases c26 : 0 ≤ t124
   ·
    rw [if_pos c26] at H
    have c26b0 : decide (0 ≤ t124) = true := decide_eq_true c26
    clear c26
    by_cases c27 : t124 < (y121.length : Int)
    ·
     rw [if_pos c27] at H
     have c27b0 : decide (t124 < (y121.length : Int)) = true := decide_eq_true c27
     clear c27
     simp only [Option.some.injEq, Prod.mk.injEq] at H
     obtain ⟨rfl, rfl, rfl⟩ := H
     go_enter Tryd.func51, Tryd.ntmps51
     go_wp2_with (first | ((with_reducible refine gate_dst (N := 2) rfl ?_); refine bx_ (N := 2) (cs := #[.int .i64 0, .int .i64 0]) (t := 28) (h := ?_); intro gb107 hg w28 hbox hb; have BK107 := a0_ (hbox); have GW107 := gw_ HK hg; have GE107 := a0_ ((Nat.le_trans HW0.out (gw_ HK hg).out)); have NB0_107 := sl_ HI0 hg; have NB107_0 := sr_ HI0 hg; replace HK := kb_ HK hb; replace HB := a0_ (below_step hBs_ hb); replace HI0 := a0_ (IsS123.below hI_ hb); clear hb hbox hg) | ((with_reducible refine gate_callee (f := 74) rfl ?_); refine gL_ (some 5) Tryd.func74 #[.pointer (some ⟨g, 0, none⟩), .int .i64 10] (h := ?_); (with_reducible refine (spec_l6Rd_pick.calls k g s0_0 s0_1 10 t108 t109 w0 _ hI_ hBs_ A2.out).mono ?_); rintro e w29 ⟨rfl, hi, hb, hk⟩; refine ⟨_, rfl, ?_⟩; replace BK107 := a0_ (KeepBut.blk hk (g' := gb107) (o := .cells #[.int .i64 0, .int .i64 0] 28 (0, 0)) uq_ NB107_0.out (by simp)); replace HK := kk_ HK hk; replace HB := a0_ (hb); replace HI0 := a0_ (hi); (try clear hi hb hk)) | ((with_reducible refine gate_callee (f := 74) rfl ?_); refine gL_ (some 7) Tryd.func74 #[.pointer (some ⟨g, 0, none⟩), .int .i64 10] (h := ?_); (with_reducible refine (spec_l6Rd_pick.calls k g s0_0 t109 10 t110 t111 w0 _ hI_ hBs_ A3.out).mono ?_); rintro e w30 ⟨rfl, hi, hb, hk⟩; refine ⟨_, rfl, ?_⟩; replace BK107 := a0_ (KeepBut.blk hk (g' := gb107) (o := .cells #[.int .i64 0, .int .i64 0] 28 (0, 0)) uq_ NB107_0.out (by simp)); replace HK := kk_ HK hk; replace HB := a0_ (hb); replace HI0 := a0_ (hi); (try clear hi hb hk)) | ((with_reducible refine gate_dst (N := 3) rfl ?_); refine bx_ (N := 3) (cs := #[.int .i64 0, .int .i64 0]) (t := 28) (h := ?_); intro gb112 hg w31 hbox hb; have BK112 := a0_ (hbox); have GW112 := gw_ HK hg; have GE112 := a0_ ((Nat.le_trans HW0.out (gw_ HK hg).out)); have NB107_112 := nl_ BK107 hg; have NB112_107 := nr_ BK107 hg; have NB0_112 := sl_ HI0 hg; have NB112_0 := sr_ HI0 hg; replace BK107 := vb_ BK107 hb; replace HK := kb_ HK hb; replace HB := a0_ (below_step hBs_ hb); replace HI0 := a0_ (IsS123.below hI_ hb); clear hb hbox hg; have hnb32 := NB112_107.out; have hnc32 := NB107_112.out; have hnb33 := NB112_0.out; have hnc33 := NB0_112.out; have hcz34_0 := c20_ BK112; have hcz34_1 := c21_ BK112; have hfz34_0 := fz_ BK112 0; have hfz34_1 := fz_ BK112 1) | ((with_reducible refine gate_callee (f := 74) rfl ?_); refine gL_ (some 10) Tryd.func74 #[.pointer (some ⟨g, 0, none⟩), .int .i64 40] (h := ?_); (with_reducible refine (spec_l6Rd_pick.calls k g s0_0 t111 40 t113 t114 w0 _ hI_ hBs_ A4.out).mono ?_); rintro e w35 ⟨rfl, hi, hb, hk⟩; refine ⟨_, rfl, ?_⟩; replace BK107 := a0_ (KeepBut.blk hk (g' := gb107) (o := .cells #[.int .i64 0, .int .i64 0] 28 (0, 0)) uf_ NB107_0.out (by simp)); replace BK112 := a0_ (KeepBut.blk hk (g' := gb112) (o := .cells #[.int .i64 t108, .int .i64 t110] 28 (0, 0)) (by (with_reducible repeat (first | refine blk_drewN ?_ _ | refine blk_drew ?_ | refine blk_alloc ?_ _)); refine blk_put (cs := #[.int .i64 t108, .int .i64 0]) ?_ 1 _ rfl; (with_reducible repeat (first | refine blk_drewN ?_ _ | refine blk_drew ?_ | refine blk_alloc ?_ _)); refine blk_put (cs := #[.int .i64 0, .int .i64 0]) ?_ 0 _ rfl; (with_reducible repeat (first | refine blk_drewN ?_ _ | refine blk_drew ?_ | refine blk_alloc ?_ _)); exact BK112.out) NB112_0.out (by simp)); replace HK := kk_ HK hk; replace HB := a0_ (hb); replace HI0 := a0_ (hi); (try clear hi hb hk)) | ((with_reducible refine gate_dst (N := 21) rfl ?_); refine Kd.R_lit (Kd.int .i64) _ 3 ?hg (N := 21) ?hd (xs := ([(-1), 10] : List Int)) (inner := [.int .i64 (-1), .int .i64 10]) (ok := fun _ => True) (okp := fun _ => True) ?hr ?hp (fun _ hk => hk) trivial (Below.refl _ _) (Nat.le_refl _) (by simp) ?_; (case hd => rfl); (case hg => rfl); (case hr => first | (go_simp; done) | (go_simp; rfl)); (case hp => exact (Reps.one (show Kd.M (Kd.int .i64) _ _ _ (-1) [.int .i64 (-1)] from rfl) (Reps.one (show Kd.M (Kd.int .i64) _ _ _ 10 [.int .i64 10] from rfl) (Reps.none _ _)))); intro v122 w36 ho37 hb hg_ hnew_; clear hg_ hnew_; (first | rw [← Ny121.out] at ho37 | (simp only [Int.reduceToNat] at ho37; rw [← Ny121.out] at ho37)); have HO123 := a0_ (Kd.R_lower ho37 (keep_size (w := w) (g := g) (row := none) (hK_ HK))); replace BK107 := vb_ BK107 hb; replace BK112 := vb_ BK112 hb; replace HK := kb_ HK hb; replace HB := a0_ (below_step hBs_ hb); replace HI0 := a0_ (IsS123.below hI_ hb); clear hb ho37) | ((with_reducible refine gate_callee (f := 74) rfl ?_); refine gL_ (some 23) Tryd.func74 #[.pointer (some ⟨g, 0, none⟩), .int .i64 2] (h := ?_); (with_reducible refine (spec_l6Rd_pick.calls k g s0_0 t114 2 t124 t125 w0 _ hI_ hBs_ A25.out).mono ?_); rintro e w38 ⟨rfl, hi, hb, hk⟩; refine ⟨_, rfl, ?_⟩; replace BK107 := a0_ (KeepBut.blk hk (g' := gb107) (o := .cells #[.int .i64 0, .int .i64 0] 28 (0, 0)) uq_ NB107_0.out (by simp)); replace BK112 := a0_ (KeepBut.blk hk (g' := gb112) (o := .cells #[.int .i64 t108, .int .i64 t110] 28 (0, 0)) uq_ NB112_0.out (by simp)); replace HO123 := a0_ (Kd.R_mono (Kd.R_keep (IsS123.apart (show IsS123 w0 _ g s0_0 t114 from hI_) (uR_ HO123) (by decide)) hk (fun _ h => h.2)) (fun _ h => h.1)); replace HK := kk_ HK hk; replace HB := a0_ (hb); replace HI0 := a0_ (hi); (try clear hi hb hk); obtain ⟨Ao39, co39, eo39⟩ := Kd.R_slice HO123.out; subst eo39; have p126 : 0 ≤ (t124 : Int) := od_; have q126 : t124 < (y121.length : Int) := od_; obtain ⟨ad126, e126, hx126_0⟩ := Kd.at_int (Kd.R_reads' HO123.out).2.2 t124 p126 q126; cases e126; replace p126 := eq_true p126; replace q126 := eq_true q126; have hcz40_0 := c20_ BK112; have hcz40_1 := c21_ BK112; have hfz40_0 := fz_ BK112 0; have hfz40_1 := fz_ BK112 1; have hnb41 := NB107_0.out; have hnc41 := NB0_107.out; have hcz42_0 := c20_ BK107; have hcz42_1 := c21_ BK107; have hfz42_0 := fz_ BK107 0; have hfz42_1 := fz_ BK107 1))
     refine bodyPost_ret (results_cell_row rfl _ _ gb107 28 #[.int .i64 t108, .int .i64 (rd y121 t124)] (0, 0) _ rfl (by (with_reducible repeat (first | refine blk_drewN ?_ _ | refine blk_drew ?_ | refine blk_alloc ?_ _)); refine blk_put (cs := #[.int .i64 t108, .int .i64 0]) ?_ 1 _ rfl; (with_reducible repeat (first | refine blk_drewN ?_ _ | refine blk_drew ?_ | refine blk_alloc ?_ _)); refine blk_put (cs := #[.int .i64 0, .int .i64 0]) ?_ 0 _ rfl; (with_reducible repeat (first | refine blk_drewN ?_ _ | refine blk_drew ?_ | refine blk_alloc ?_ _)); refine blk_far ?_ NB107_112.out _; (with_reducible repeat (first | refine blk_drewN ?_ _ | refine blk_drew ?_ | refine blk_alloc ?_ _)); exact BK107.out) Tryd.underlying28 rfl (by kernel_rfl)) rfl ?_
     exact ⟨rr_, by repeat (first | (with_reducible first | exact HI0.out | apply IsS123.alloc | apply IsS123.drewN | apply IsS123.drew | apply IsS123.set_1 | refine IsS123.far ?_ NB0_107.out _ | refine IsS123.far ?_ NB0_112.out _) | exact HI0.out), by repeat (first | (with_reducible first | exact HB.out | apply below_alloc | apply pw_below_drewN | apply below_drew1 | refine below_set ?_ (IsS123.ge HI0.out) | refine below_set ?_ GE107.out | refine below_set ?_ GE112.out) | exact HB.out), by repeat (first | (with_reducible first | exact HK.out | apply KeepBut.set_ | apply keep_drewN | apply keep_drew | apply keep_alloc | refine keep_far ?_ GW107.out _ | refine keep_far ?_ GW112.out _) | exact HK.out)⟩
    ·
     rw [if_neg c27] at H
     exact absurd H (by simp)
   ·
    rw [if_neg c26] at H
    exact absurd H (by simp)
  ·
   rw [if_neg c24] at H
   have c24b0 : (t113 == 1) = false := beq_eq_false_iff_ne.mpr c24
   have c24b1 : (t113 != 1) = true := bne_iff_ne.mpr c24
   simp only [Option.some.injEq, Prod.mk.injEq] at H
   obtain ⟨rfl, rfl, rfl⟩ := H
   go_enter Tryd.func51, Tryd.ntmps51
   go_wp2_with (first | ((with_reducible refine gate_dst (N := 2) rfl ?_); refine bx_ (N := 2) (cs := #[.int .i64 0, .int .i64 0]) (t := 28) (h := ?_); intro gb107 hg w43 hbox hb; have BK107 := a0_ (hbox); have GW107 := gw_ HK hg; have GE107 := a0_ ((Nat.le_trans HW0.out (gw_ HK hg).out)); have NB0_107 := sl_ HI0 hg; have NB107_0 := sr_ HI0 hg; replace HK := kb_ HK hb; replace HB := a0_ (below_step hBs_ hb); replace HI0 := a0_ (IsS123.below hI_ hb); clear hb hbox hg) | ((with_reducible refine gate_callee (f := 74) rfl ?_); refine gL_ (some 5) Tryd.func74 #[.pointer (some ⟨g, 0, none⟩), .int .i64 10] (h := ?_); (with_reducible refine (spec_l6Rd_pick.calls k g s0_0 s0_1 10 t108 t109 w0 _ hI_ hBs_ A2.out).mono ?_); rintro e w44 ⟨rfl, hi, hb, hk⟩; refine ⟨_, rfl, ?_⟩; replace BK107 := a0_ (KeepBut.blk hk (g' := gb107) (o := .cells #[.int .i64 0, .int .i64 0] 28 (0, 0)) uq_ NB107_0.out (by simp)); replace HK := kk_ HK hk; replace HB := a0_ (hb); replace HI0 := a0_ (hi); (try clear hi hb hk)) | ((with_reducible refine gate_callee (f := 74) rfl ?_); refine gL_ (some 7) Tryd.func74 #[.pointer (some ⟨g, 0, none⟩), .int .i64 10] (h := ?_); (with_reducible refine (spec_l6Rd_pick.calls k g s0_0 t109 10 t110 t111 w0 _ hI_ hBs_ A3.out).mono ?_); rintro e w45 ⟨rfl, hi, hb, hk⟩; refine ⟨_, rfl, ?_⟩; replace BK107 := a0_ (KeepBut.blk hk (g' := gb107) (o := .cells #[.int .i64 0, .int .i64 0] 28 (0, 0)) uq_ NB107_0.out (by simp)); replace HK := kk_ HK hk; replace HB := a0_ (hb); replace HI0 := a0_ (hi); (try clear hi hb hk)) | ((with_reducible refine gate_dst (N := 3) rfl ?_); refine bx_ (N := 3) (cs := #[.int .i64 0, .int .i64 0]) (t := 28) (h := ?_); intro gb112 hg w46 hbox hb; have BK112 := a0_ (hbox); have GW112 := gw_ HK hg; have GE112 := a0_ ((Nat.le_trans HW0.out (gw_ HK hg).out)); have NB107_112 := nl_ BK107 hg; have NB112_107 := nr_ BK107 hg; have NB0_112 := sl_ HI0 hg; have NB112_0 := sr_ HI0 hg; replace BK107 := vb_ BK107 hb; replace HK := kb_ HK hb; replace HB := a0_ (below_step hBs_ hb); replace HI0 := a0_ (IsS123.below hI_ hb); clear hb hbox hg; have hnb47 := NB112_107.out; have hnc47 := NB107_112.out; have hnb48 := NB112_0.out; have hnc48 := NB0_112.out; have hcz49_0 := c20_ BK112; have hcz49_1 := c21_ BK112; have hfz49_0 := fz_ BK112 0; have hfz49_1 := fz_ BK112 1) | ((with_reducible refine gate_callee (f := 74) rfl ?_); refine gL_ (some 10) Tryd.func74 #[.pointer (some ⟨g, 0, none⟩), .int .i64 40] (h := ?_); (with_reducible refine (spec_l6Rd_pick.calls k g s0_0 t111 40 t113 t114 w0 _ hI_ hBs_ A4.out).mono ?_); rintro e w50 ⟨rfl, hi, hb, hk⟩; refine ⟨_, rfl, ?_⟩; replace BK107 := a0_ (KeepBut.blk hk (g' := gb107) (o := .cells #[.int .i64 0, .int .i64 0] 28 (0, 0)) uf_ NB107_0.out (by simp)); replace BK112 := a0_ (KeepBut.blk hk (g' := gb112) (o := .cells #[.int .i64 t108, .int .i64 t110] 28 (0, 0)) (by (with_reducible repeat (first | refine blk_drewN ?_ _ | refine blk_drew ?_ | refine blk_alloc ?_ _)); refine blk_put (cs := #[.int .i64 t108, .int .i64 0]) ?_ 1 _ rfl; (with_reducible repeat (first | refine blk_drewN ?_ _ | refine blk_drew ?_ | refine blk_alloc ?_ _)); refine blk_put (cs := #[.int .i64 0, .int .i64 0]) ?_ 0 _ rfl; (with_reducible repeat (first | refine blk_drewN ?_ _ | refine blk_drew ?_ | refine blk_alloc ?_ _)); exact BK112.out) NB112_0.out (by simp)); replace HK := kk_ HK hk; replace HB := a0_ (hb); replace HI0 := a0_ (hi); (try clear hi hb hk); have hcz51_0 := c20_ BK112; have hcz51_1 := c21_ BK112; have hfz51_0 := fz_ BK112 0; have hfz51_1 := fz_ BK112 1; have hnb52 := NB107_0.out; have hnc52 := NB0_107.out; have hcz53_0 := c20_ BK107; have hcz53_1 := c21_ BK107; have hfz53_0 := fz_ BK107 0; have hfz53_1 := fz_ BK107 1))
   refine bodyPost_ret (results_cell_row rfl _ _ gb107 28 #[.int .i64 t108, .int .i64 t110] (0, 0) _ rfl (by (with_reducible repeat (first | refine blk_drewN ?_ _ | refine blk_drew ?_ | refine blk_alloc ?_ _)); refine blk_put (cs := #[.int .i64 t108, .int .i64 0]) ?_ 1 _ rfl; (with_reducible repeat (first | refine blk_drewN ?_ _ | refine blk_drew ?_ | refine blk_alloc ?_ _)); refine blk_put (cs := #[.int .i64 0, .int .i64 0]) ?_ 0 _ rfl; (with_reducible repeat (first | refine blk_drewN ?_ _ | refine blk_drew ?_ | refine blk_alloc ?_ _)); exact BK107.out) Tryd.underlying28 rfl (by kernel_rfl)) rfl ?_
   exact ⟨rr_, by repeat (first | (with_reducible first | exact HI0.out | apply IsS123.alloc | apply IsS123.drewN | apply IsS123.drew | apply IsS123.set_1 | refine IsS123.far ?_ NB0_107.out _ | refine IsS123.far ?_ NB0_112.out _) | exact HI0.out), by repeat (first | (with_reducible first | exact HB.out | apply below_alloc | apply pw_below_drewN | apply below_drew1 | refine below_set ?_ (IsS123.ge HI0.out) | refine below_set ?_ GE107.out | refine below_set ?_ GE112.out) | exact HB.out), by repeat (first | (with_reducible first | exact HK.out | apply KeepBut.set_ | apply keep_drewN | apply keep_drew | apply keep_alloc | refine keep_far ?_ GW107.out _ | refine keep_far ?_ GW112.out _) | exact HK.out)⟩
def spec_l71Loop.l0 : Nat → List (S28) → Int → List Int → Int → Option ((List (S28)) × Int)
 | 0, _, _, _, _ => none
 | k + 1, x5, x6, x1000, x1001 => if x6 ≥ 0 then (if (x5.length : Int) = 0 then (none) else ((spec_l71Pt.f k x1000 x1001).bind fun bt296 => (if 0 ≤ (Int.tmod x6 (x5.length : Int)) then (if (Int.tmod x6 (x5.length : Int)) < (x5.length : Int) then (spec_l71Loop.l0 k (x5.set ((Int.tmod x6 (x5.length : Int)) : Int).toNat (⟨bt296.1, bt296.2.1⟩ : S28)) (wrap64 (x6 - 1)) x1000 bt296.2.2) else (none)) else (none)))) else (some (x5, x1001))
def spec_l71Loop.f (k : Nat) (s0_0 : List Int) (s0_1 : Int) : Option ((List (S28)) × Int) := (spec_l6Rd_pick.f k s0_0 s0_1 5).bind fun bt268 => ((spec_l6Rd_pick.f k s0_0 bt268.2 5).bind fun bt270 => ((spec_l6Rd_pick.f k s0_0 bt270.2 (wrap64 (9 - bt268.1))).bind fun bt272 => ((spec_l6Rd_pick.f k s0_0 bt272.2 (wrap64 (9 - bt270.1))).bind fun bt274 => ((spec_l71Box.f k s0_0 bt274.2 bt268.1 bt270.1 (wrap64 (1 + bt272.1)) (wrap64 (1 + bt274.1))).bind fun bt276 => ((spec_l6Rd_pick.f k s0_0 bt276.2 12).bind fun bt280 => (if bt280.1 = 0 then ((spec_l71Pt.f k s0_0 bt280.2).bind fun bt282 => (if bt276.1.length < 8796093022208 then (some ((bt276.1 ++ [(⟨bt282.1, bt282.2.1⟩ : S28)]), bt282.2.2)) else (none))) else (if bt280.1 = 1 then ((spec_l6Rd_pick.f k s0_0 bt280.2 (bt276.1.length : Int)).bind fun bt288 => ((spec_l71Pt.f k s0_0 bt288.2).bind fun bt290 => (if 0 ≤ bt288.1 then (if bt288.1 < (bt276.1.length : Int) then (some ((bt276.1.set (bt288.1 : Int).toNat (⟨bt290.1, bt290.2.1⟩ : S28)), bt290.2.2)) else (none)) else (none)))) else (if bt280.1 = 2 then ((spec_l6Rd_pick.f k s0_0 bt280.2 6).bind fun bt294 => (spec_l71Loop.l0 k bt276.1 bt294.1 s0_0 bt294.2)) else (some (bt276.1, bt280.2))))))))))
def spec_l71Loop.T13 : Bool × List (List Nat × List Nat) := (true, [([], []), ([], []), ([], []), ([2], [2]), ([1, 3], [1, 3]), ([], []), ([5], [5]), ([0, 4, 0, 1, 2, 3, 4, 5, 6], [0, 4]), ([7, 6, 6, 0, 1, 2, 3, 4, 5, 6], [6, 7])])
def spec_l71Loop.B13 : List Nat := [0, 0, 0, 4, 14, 0, 32, 127, 255]
theorem spec_l71Loop.tab13 : rtab .any (opsOf Tryd.f92 13) = spec_l71Loop.T13 := by kernel_rfl
theorem spec_l71Loop.bits13 : waitsOk spec_l71Loop.T13.2 spec_l71Loop.B13 = true := by kernel_rfl
set_option maxHeartbeats 8000000 in
set_option maxRecDepth 100000 in
theorem spec_l71Loop.calls (k : Nat) (g : Nat) (s0_0 : List Int) (s0_1 : Int) (r1 : List (S28)) (r2 : Int) (w0 w : World) (hI : IsS123 w0 w g s0_0 s0_1) (hB : Below w0.heap.size w0 w) (h : spec_l71Loop.f k s0_0 s0_1 = some (r1, r2)) :
  Calls Tryd.prog 92 #[.pointer (some ⟨g, 0, none⟩)] w fun e w' => ∃ v0_ : Value, e = .returned (v0_) ∧ Kd.R k28 28 w' w.heap.size (fun _ => True) v0_ r1 ∧ IsS123 w0 w' g s0_0 r2 ∧ Below w0.heap.size w0 w' ∧ KeepBut w w' g none := by
 have hu28 := Tryd.underlying28
 have HI0 := Aside0.mk hI
 have HK := a0_ (KeepBut.refl w g none)
 have HL := Aside0.mk hB.size
 clear hI
 have HW0 := Aside0.mk hB.size
 have HB := Aside0.mk hB
 clear hB
 have H : ((spec_l6Rd_pick.f k s0_0 s0_1 5).bind fun bt268 => ((spec_l6Rd_pick.f k s0_0 bt268.2 5).bind fun bt270 => ((spec_l6Rd_pick.f k s0_0 bt270.2 (wrap64 (9 - bt268.1))).bind fun bt272 => ((spec_l6Rd_pick.f k s0_0 bt272.2 (wrap64 (9 - bt270.1))).bind fun bt274 => ((spec_l71Box.f k s0_0 bt274.2 bt268.1 bt270.1 (wrap64 (1 + bt272.1)) (wrap64 (1 + bt274.1))).bind fun bt276 => ((spec_l6Rd_pick.f k s0_0 bt276.2 12).bind fun bt280 => (if bt280.1 = 0 then ((spec_l71Pt.f k s0_0 bt280.2).bind fun bt282 => (if bt276.1.length < 8796093022208 then (some ((bt276.1 ++ [(⟨bt282.1, bt282.2.1⟩ : S28)]), bt282.2.2)) else (none))) else (if bt280.1 = 1 then ((spec_l6Rd_pick.f k s0_0 bt280.2 (bt276.1.length : Int)).bind fun bt288 => ((spec_l71Pt.f k s0_0 bt288.2).bind fun bt290 => (if 0 ≤ bt288.1 then (if bt288.1 < (bt276.1.length : Int) then (some ((bt276.1.set (bt288.1 : Int).toNat (⟨bt290.1, bt290.2.1⟩ : S28)), bt290.2.2)) else (none)) else (none)))) else (if bt280.1 = 2 then ((spec_l6Rd_pick.f k s0_0 bt280.2 6).bind fun bt294 => (spec_l71Loop.l0 k bt276.1 bt294.1 s0_0 bt294.2)) else (some (bt276.1, bt280.2))))))))))) = some (r1, r2) := h
 clear h
 replace H := Option.bind_eq_some_iff.mp H
 obtain ⟨⟨t268, t269⟩, A20, H⟩ := H
 (try dsimp only at H)
 have A2 := Aside0.mk A20
 clear A20
 replace H := Option.bind_eq_some_iff.mp H
 obtain ⟨⟨t270, t271⟩, A30, H⟩ := H
 (try dsimp only at H)
 have A3 := Aside0.mk A30
 clear A30
 replace H := Option.bind_eq_some_iff.mp H
 obtain ⟨⟨t272, t273⟩, A40, H⟩ := H
 (try dsimp only at H)
 have A4 := Aside0.mk A40
 clear A40
 replace H := Option.bind_eq_some_iff.mp H
 obtain ⟨⟨t274, t275⟩, A50, H⟩ := H
 (try dsimp only at H)
 have A5 := Aside0.mk A50
 clear A50
 replace H := Option.bind_eq_some_iff.mp H
 obtain ⟨⟨t276, t279⟩, A60, H⟩ := H
 (try dsimp only at H)
 have A6 := Aside0.mk A60
 clear A60
 replace H := Option.bind_eq_some_iff.mp H
 obtain ⟨⟨t280, t281⟩, A70, H⟩ := H
 (try dsimp only at H)
 have A7 := Aside0.mk A70
 clear A70
 by_cases c8 : t280 = 0
 ·
  rw [if_pos c8] at H
  have c8b0 : (t280 == 0) = true := beq_iff_eq.mpr c8
  have c8b1 : (t280 != 0) = false := bne_eq_false_iff_eq.mpr c8
  clear c8
  replace H := Option.bind_eq_some_iff.mp H
  obtain ⟨⟨t282, t283, t284⟩, A90, H⟩ := H
  (try dsimp only at H)
  have A9 := Aside0.mk A90
  clear A90
  by_cases c10 : t276.length < 8796093022208
  ·
   rw [if_pos c10] at H
   have LMc10 := Aside0.mk c10
   clear c10
   obtain ⟨y285, hy285⟩ : ∃ y_ : List (S28), y_ = (t276 ++ [(⟨t282, t283⟩ : S28)]) := ⟨_, rfl⟩
   replace H : (some (y285, t284)) = some (r1, r2) := by first | (rw [hy285]; with_reducible exact H) | (have H2_ := (Option.bind_some _ _).symm.trans H; rw [hy285]; with_reducible exact H2_) | (have H2_ := (Option.bind_some _ _).symm.trans H; with_reducible exact H2_) | with_reducible exact H | (rw [hy285]; exact H) | exact H
   have Ny285 := Aside0.mk hy285
   clear hy285
   simp only [Option.some.injEq, Prod.mk.injEq] at H
   obtain ⟨rfl, rfl⟩ := H
   go_enter Tryd.func92, Tryd.ntmps92
   go_wp2_with (first | ((with_reducible refine gate_callee (f := 74) rfl ?_); refine gL_ (some 8) Tryd.func74 #[.pointer (some ⟨g, 0, none⟩), .int .i64 5] (h := ?_); (with_reducible refine (spec_l6Rd_pick.calls k g s0_0 s0_1 5 t268 t269 w0 _ hI_ hBs_ A2.out).mono ?_); rintro e w11 ⟨rfl, hi, hb, hk⟩; refine ⟨_, rfl, ?_⟩; replace HK := kk_ HK hk; replace HB := a0_ (hb); replace HI0 := a0_ (hi); (try clear hi hb hk)) | ((with_reducible refine gate_callee (f := 74) rfl ?_); refine gL_ (some 10) Tryd.func74 #[.pointer (some ⟨g, 0, none⟩), .int .i64 5] (h := ?_); (with_reducible refine (spec_l6Rd_pick.calls k g s0_0 t269 5 t270 t271 w0 _ hI_ hBs_ A3.out).mono ?_); rintro e w12 ⟨rfl, hi, hb, hk⟩; refine ⟨_, rfl, ?_⟩; replace HK := kk_ HK hk; replace HB := a0_ (hb); replace HI0 := a0_ (hi); (try clear hi hb hk)) | ((with_reducible refine gate_callee (f := 74) rfl ?_); refine gL_ (some 17) Tryd.func74 #[.pointer (some ⟨g, 0, none⟩), .int .i64 (wrap64 (9 - t268))] (h := ?_); (with_reducible refine (spec_l6Rd_pick.calls k g s0_0 t271 (wrap64 (9 - t268)) t272 t273 w0 _ hI_ hBs_ A4.out).mono ?_); rintro e w13 ⟨rfl, hi, hb, hk⟩; refine ⟨_, rfl, ?_⟩; replace HK := kk_ HK hk; replace HB := a0_ (hb); replace HI0 := a0_ (hi); (try clear hi hb hk)) | ((with_reducible refine gate_callee (f := 74) rfl ?_); refine gL_ (some 22) Tryd.func74 #[.pointer (some ⟨g, 0, none⟩), .int .i64 (wrap64 (9 - t270))] (h := ?_); (with_reducible refine (spec_l6Rd_pick.calls k g s0_0 t273 (wrap64 (9 - t270)) t274 t275 w0 _ hI_ hBs_ A5.out).mono ?_); rintro e w14 ⟨rfl, hi, hb, hk⟩; refine ⟨_, rfl, ?_⟩; replace HK := kk_ HK hk; replace HB := a0_ (hb); replace HI0 := a0_ (hi); (try clear hi hb hk)) | ((with_reducible refine gate_callee (f := 110) rfl ?_); refine gL_ (some 24) Tryd.func110 #[.pointer (some ⟨g, 0, none⟩), .int .i64 t268, .int .i64 t270, .int .i64 (wrap64 (1 + t272)), .int .i64 (wrap64 (1 + t274))] (h := ?_); (with_reducible refine (spec_l71Box.calls k g s0_0 t275 t268 t270 (wrap64 (1 + t272)) (wrap64 (1 + t274)) t276 t279 w0 _ hI_ hBs_ A6.out).mono ?_); rintro e w15 ⟨v277, rfl, ho0, hi, hb, hk⟩; refine ⟨_, rfl, ?_⟩; have HO278 := a0_ (Kd.R_lower ho0 (keep_size (w := w) (g := g) (row := none) (hK_ HK))); replace HK := kk_ HK hk; replace HB := a0_ (hb); replace HI0 := a0_ (hi); (try clear ho0 hi hb hk)) | ((with_reducible refine gate_callee (f := 74) rfl ?_); refine gL_ (some 26) Tryd.func74 #[.pointer (some ⟨g, 0, none⟩), .int .i64 12] (h := ?_); (with_reducible refine (spec_l6Rd_pick.calls k g s0_0 t279 12 t280 t281 w0 _ hI_ hBs_ A7.out).mono ?_); rintro e w16 ⟨rfl, hi, hb, hk⟩; refine ⟨_, rfl, ?_⟩; replace HO278 := a0_ (Kd.R_mono (Kd.R_keep (IsS123.apart (show IsS123 w0 _ g s0_0 t279 from hI_) (uR_ HO278) (by decide)) hk (fun _ h => h.2)) (fun _ h => h.1)); replace HK := kk_ HK hk; replace HB := a0_ (hb); replace HI0 := a0_ (hi); (try clear hi hb hk)) | ((with_reducible refine gate_callee (f := 51) rfl ?_); refine gL_ (some 31) Tryd.func51 #[.pointer (some ⟨g, 0, none⟩)] (h := ?_); (with_reducible refine (spec_l71Pt.calls k g s0_0 t281 t282 t283 t284 w0 _ hI_ hBs_ A9.out).mono ?_); rintro e w17 ⟨rfl, hi, hb, hk⟩; refine ⟨_, rfl, ?_⟩; replace HO278 := a0_ (Kd.R_mono (Kd.R_keep (IsS123.apart (show IsS123 w0 _ g s0_0 t281 from hI_) (uR_ HO278) (by decide)) hk (fun _ h => h.2)) (fun _ h => h.1)); replace HK := kk_ HK hk; replace HB := a0_ (hb); replace HI0 := a0_ (hi); (try clear hi hb hk)) | ((with_reducible refine gate_builtin (b := .append) (xs := #[.tmp 29, .tmp 32]) rfl ?_); at_builtin; refine Kd.R_append k28 w.heap.size rfl (.tmp 29) (.tmp 32) 23 28 (.agg #[(.int .i64 0), (.int .i64 0)]) 16 rfl Tryd.underlying23 info28 rfl (by decide) (by omega) v277 t276 (⟨t282, t283⟩ : S28) [.int .i64 t282, .int .i64 t283] (fun _ => True) (fun _ => False) rfl rfl ?aP (fun _ hk => hk.elim) ?aF ?aO (Below.refl _ _) ?aS ?aL ?_; (case aP => exact k28_mkM _ _ _ (⟨t282, t283⟩ : S28)); (case aF => exact (fun _ _ => trivial)); (case aO => exact (uR_ HO278)); (case aS => exact (keep_size (w := w) (g := g) (row := none) (hK_ HK))); (case aL => have := LMc10.out; omega); intro v286 w18 ho hb hg hat; rw [← Ny285.out] at ho; have HO287 := a0_ (ho); replace HB := a0_ (below_weaken hBs_ HL.out hb); replace HI0 := a0_ (IsS123.grown hI_ hg (IsS123.own_ne HI0.out HO278.out (by decide))); replace HK := a0_ (KeepBut.trans (hK_ HK) (KeepBut.of_grown hg g) (Kd.R_base2 HO278.out)); clear HO278; clear ho hb hg hat))
   go_ret
   exact ⟨_, rr_, by (with_reducible repeat (first | apply Kd.R_alloc | apply Kd.R_drewN | apply Kd.R_drew)); exact HO287.out, by repeat (first | (with_reducible first | exact HI0.out | apply IsS123.alloc | apply IsS123.drewN | apply IsS123.drew | apply IsS123.set_1) | exact HI0.out), by repeat (first | (with_reducible first | exact HB.out | apply below_alloc | apply pw_below_drewN | apply below_drew1 | refine below_set ?_ (IsS123.ge HI0.out)) | exact HB.out), by repeat (first | (with_reducible first | exact HK.out | apply KeepBut.set_ | apply keep_drewN | apply keep_drew | apply keep_alloc) | exact HK.out)⟩
  ·
   rw [if_neg c10] at H
   exact absurd H (by simp)
 ·
  rw [if_neg c8] at H
  have c8b0 : (t280 == 0) = false := beq_eq_false_iff_ne.mpr c8
  have c8b1 : (t280 != 0) = true := bne_iff_ne.mpr c8
  by_cases c19 : t280 = 1
  ·
   rw [if_pos c19] at H
   have c19b0 : (t280 == 1) = true := beq_iff_eq.mpr c19
   have c19b1 : (t280 != 1) = false := bne_eq_false_iff_eq.mpr c19
   clear c19
   replace H := Option.bind_eq_some_iff.mp H
   obtain ⟨⟨t288, t289⟩, A200, H⟩ := H
   (try dsimp only at H)
   have A20 := Aside0.mk A200
   clear A200
   replace H := Option.bind_eq_some_iff.mp H
   obtain ⟨⟨t290, t291, t292⟩, A210, H⟩ := H
   (try dsimp only at H)
   have A21 := Aside0.mk A210
   clear A210
   by_cases c22 : 0 ≤ t288
   ·
    rw [if_pos c22] at H
    have c22b0 : decide (0 ≤ t288) = true := decide_eq_true c22
    clear c22
    by_cases c23 : t288 < (t276.length : Int)
    ·
     rw [if_pos c23] at H
     have c23b0 : decide (t288 < (t276.length : Int)) = true := decide_eq_true c23
     clear c23
     obtain ⟨y293, hy293⟩ : ∃ y_ : List (S28), y_ = (t276.set (t288 : Int).toNat (⟨t290, t291⟩ : S28)) := ⟨_, rfl⟩
     replace H : (some (y293, t292)) = some (r1, r2) := by first | (rw [hy293]; with_reducible exact H) | (have H2_ := (Option.bind_some _ _).symm.trans H; rw [hy293]; with_reducible exact H2_) | (have H2_ := (Option.bind_some _ _).symm.trans H; with_reducible exact H2_) | with_reducible exact H | (rw [hy293]; exact H) | exact H
     have Ny293 := Aside0.mk hy293
     clear hy293
     simp only [Option.some.injEq, Prod.mk.injEq] at H
     obtain ⟨rfl, rfl⟩ := H
     go_enter Tryd.func92, Tryd.ntmps92
     go_wp2_with (first | ((with_reducible refine gate_callee (f := 74) rfl ?_); refine gL_ (some 8) Tryd.func74 #[.pointer (some ⟨g, 0, none⟩), .int .i64 5] (h := ?_); (with_reducible refine (spec_l6Rd_pick.calls k g s0_0 s0_1 5 t268 t269 w0 _ hI_ hBs_ A2.out).mono ?_); rintro e w25 ⟨rfl, hi, hb, hk⟩; refine ⟨_, rfl, ?_⟩; replace HK := kk_ HK hk; replace HB := a0_ (hb); replace HI0 := a0_ (hi); (try clear hi hb hk)) | ((with_reducible refine gate_callee (f := 74) rfl ?_); refine gL_ (some 10) Tryd.func74 #[.pointer (some ⟨g, 0, none⟩), .int .i64 5] (h := ?_); (with_reducible refine (spec_l6Rd_pick.calls k g s0_0 t269 5 t270 t271 w0 _ hI_ hBs_ A3.out).mono ?_); rintro e w26 ⟨rfl, hi, hb, hk⟩; refine ⟨_, rfl, ?_⟩; replace HK := kk_ HK hk; replace HB := a0_ (hb); replace HI0 := a0_ (hi); (try clear hi hb hk)) | ((with_reducible refine gate_callee (f := 74) rfl ?_); refine gL_ (some 17) Tryd.func74 #[.pointer (some ⟨g, 0, none⟩), .int .i64 (wrap64 (9 - t268))] (h := ?_); (with_reducible refine (spec_l6Rd_pick.calls k g s0_0 t271 (wrap64 (9 - t268)) t272 t273 w0 _ hI_ hBs_ A4.out).mono ?_); rintro e w27 ⟨rfl, hi, hb, hk⟩; refine ⟨_, rfl, ?_⟩; replace HK := kk_ HK hk; replace HB := a0_ (hb); replace HI0 := a0_ (hi); (try clear hi hb hk)) | ((with_reducible refine gate_callee (f := 74) rfl ?_); refine gL_ (some 22) Tryd.func74 #[.pointer (some ⟨g, 0, none⟩), .int .i64 (wrap64 (9 - t270))] (h := ?_); (with_reducible refine (spec_l6Rd_pick.calls k g s0_0 t273 (wrap64 (9 - t270)) t274 t275 w0 _ hI_ hBs_ A5.out).mono ?_); rintro e w28 ⟨rfl, hi, hb, hk⟩; refine ⟨_, rfl, ?_⟩; replace HK := kk_ HK hk; replace HB := a0_ (hb); replace HI0 := a0_ (hi); (try clear hi hb hk)) | ((with_reducible refine gate_callee (f := 110) rfl ?_); refine gL_ (some 24) Tryd.func110 #[.pointer (some ⟨g, 0, none⟩), .int .i64 t268, .int .i64 t270, .int .i64 (wrap64 (1 + t272)), .int .i64 (wrap64 (1 + t274))] (h := ?_); (with_reducible refine (spec_l71Box.calls k g s0_0 t275 t268 t270 (wrap64 (1 + t272)) (wrap64 (1 + t274)) t276 t279 w0 _ hI_ hBs_ A6.out).mono ?_); rintro e w29 ⟨v277, rfl, ho0, hi, hb, hk⟩; refine ⟨_, rfl, ?_⟩; have HO278 := a0_ (Kd.R_lower ho0 (keep_size (w := w) (g := g) (row := none) (hK_ HK))); replace HK := kk_ HK hk; replace HB := a0_ (hb); replace HI0 := a0_ (hi); (try clear ho0 hi hb hk)) | ((with_reducible refine gate_callee (f := 74) rfl ?_); refine gL_ (some 26) Tryd.func74 #[.pointer (some ⟨g, 0, none⟩), .int .i64 12] (h := ?_); (with_reducible refine (spec_l6Rd_pick.calls k g s0_0 t279 12 t280 t281 w0 _ hI_ hBs_ A7.out).mono ?_); rintro e w30 ⟨rfl, hi, hb, hk⟩; refine ⟨_, rfl, ?_⟩; replace HO278 := a0_ (Kd.R_mono (Kd.R_keep (IsS123.apart (show IsS123 w0 _ g s0_0 t279 from hI_) (uR_ HO278) (by decide)) hk (fun _ h => h.2)) (fun _ h => h.1)); replace HK := kk_ HK hk; replace HB := a0_ (hb); replace HI0 := a0_ (hi); (try clear hi hb hk); obtain ⟨Ao31, co31, eo31⟩ := Kd.R_slice HO278.out; subst eo31) | ((with_reducible refine gate_callee (f := 74) rfl ?_); refine gL_ (some 40) Tryd.func74 #[.pointer (some ⟨g, 0, none⟩), .int .i64 (t276.length : Int)] (h := ?_); (with_reducible refine (spec_l6Rd_pick.calls k g s0_0 t281 (t276.length : Int) t288 t289 w0 _ hI_ hBs_ A20.out).mono ?_); rintro e w32 ⟨rfl, hi, hb, hk⟩; refine ⟨_, rfl, ?_⟩; replace HO278 := a0_ (Kd.R_mono (Kd.R_keep (IsS123.apart (show IsS123 w0 _ g s0_0 t281 from hI_) (uR_ HO278) (by decide)) hk (fun _ h => h.2)) (fun _ h => h.1)); replace HK := kk_ HK hk; replace HB := a0_ (hb); replace HI0 := a0_ (hi); (try clear hi hb hk)) | ((with_reducible refine gate_callee (f := 51) rfl ?_); refine gL_ (some 42) Tryd.func51 #[.pointer (some ⟨g, 0, none⟩)] (h := ?_); (with_reducible refine (spec_l71Pt.calls k g s0_0 t289 t290 t291 t292 w0 _ hI_ hBs_ A21.out).mono ?_); rintro e w33 ⟨rfl, hi, hb, hk⟩; refine ⟨_, rfl, ?_⟩; replace HO278 := a0_ (Kd.R_mono (Kd.R_keep (IsS123.apart (show IsS123 w0 _ g s0_0 t289 from hI_) (uR_ HO278) (by decide)) hk (fun _ h => h.2)) (fun _ h => h.1)); replace HK := kk_ HK hk; replace HB := a0_ (hb); replace HI0 := a0_ (hi); (try clear hi hb hk); have p24 : 0 ≤ (t288 : Int) := od_; have q24 : (t288 : Int) < ((t276.length : Int) : Int) := od_; obtain ⟨go24, co24, eo24, gb24, gl24, cl24, HG24⟩ := Kd.R_form HO278.out (by omega); (first | cases eo24 | (injection eo24 with ea_ en_ ec_; (first | subst ea_ | (injection ea_ with ea_; subst ea_)); subst ec_; clear en_)); have GB24 := Aside0.mk gb24; have GG24 := Aside0.mk HG24; clear gb24 gl24 HG24; obtain ⟨ce24, hcl24, hM24, hcc24, hfr24⟩ := Kd.R_elem HO278.out z28 (t288 : Int) p24 q24; obtain rfl := k28_openM hM24; have hx24_0 : w33.cell? ⟨go24, (t288 : Int).toNat * 2, none⟩ = some (.int .i64 ((rd_T28 t276 t288).f0)) := hcc24 0 _ rfl; have hx24_1 : w33.cell? ⟨go24, (t288 : Int).toNat * 2 + 1, none⟩ = some (.int .i64 ((rd_T28 t276 t288).f1)) := hcc24 1 _ rfl; have hf24_0 : w33.frozen? ⟨go24, (t288 : Int).toNat * 2, none⟩ = false := hfr24 0; have hf24_1 : w33.frozen? ⟨go24, (t288 : Int).toNat * 2 + 1, none⟩ = false := hfr24 1; clear hcl24 hcc24 hfr24; (try clear hM24); replace p24 := eq_true p24; replace q24 := eq_true q24; have HX34 := a0_ (show Kd.R k28 28 w33 w.heap.size (fun _ => True) (.slice (some ⟨go24, 0, none⟩) t276.length co31) t276 from (uR_ HO278)); obtain ⟨ce34, hcl34, hM34, hcc34, hfr34⟩ := Kd.R_elem HX34.out z28 (t288 : Int) (od_) (by have h_ : (t288 : Int) < ((t276.length : Int) : Int) := od_; first | exact h_ | (have e_ := (Kd.R_reads' HO278.out).1; omega) | simpa using h_); obtain rfl := k28_openM hM34; have HP34 := Kd.R_seg HX34.out (t288 : Int) (od_) (by have h_ : (t288 : Int) < ((t276.length : Int) : Int) := od_; first | exact h_ | (have e_ := (Kd.R_reads' HO278.out).1; omega) | simpa using h_) (seg := [.int .i64 t290, .int .i64 t291]) (j := 0) hcl34 hcc34 (show 2 ≤ 2 from by decide) (x' := (⟨t290, t291⟩ : S28)) (k28_mkM _ _ _ (⟨t290, t291⟩ : S28) ) (fun _ hk => hk); have hx34_0 := hcc34 0 _ rfl; (try simp only [show (k28).sz = 2 from rfl, Nat.mul_one, Nat.add_zero] at hx34_0); have hf34_0 := hfr34 0; (try simp only [show (k28).sz = 2 from rfl, Nat.mul_one, Nat.add_zero] at hf34_0); have hx34_1 := hcc34 1 _ rfl; (try simp only [show (k28).sz = 2 from rfl, Nat.mul_one, Nat.add_zero] at hx34_1); have hf34_1 := hfr34 1; (try simp only [show (k28).sz = 2 from rfl, Nat.mul_one, Nat.add_zero] at hf34_1); clear hcl34 hcc34 hfr34; (try clear hM34)) | ((with_reducible refine gate_store (t := 28) (p := 43) rfl ?_); refine store_event (t := 28) (p := 43) (v := ?vo_w35) (w1 := ((w33.setCell ⟨go24, (t288 : Int).toNat * 2, none⟩ (.int .i64 t290)).setCell ⟨go24, (t288 : Int).toNat * 2 + 1, none⟩ (.int .i64 t291))) ?hg ?ho ?hn ?hr ?_; (case ho => rfl); (case hg => rfl); (case hn => rfl); (case hr => first | (go_simp; done) | (go_simp; rfl)); intro w35 hw; have hg : w33.grownBy w35 (some go24) := (by rw [hw]; exact HP34.2); have hp_ : Kd.R k28 28 w35 w.heap.size (fun _ => True) (.slice (some ⟨go24, 0, none⟩) t276.length co31) y293 := (by rw [hw, Ny293.out]; exact HP34.1); clear HP34; replace HI0 := a0_ (IsS123.grown hI_ hg (IsS123.own_ne HI0.out HO278.out (by decide))); replace HB := a0_ ((by rw [hw]; exact below_set (below_set (HB.out) (Nat.le_trans HL.out GB24.out)) (Nat.le_trans HL.out GB24.out) : Below w0.heap.size w0 w35)); replace HK := a0_ (KeepBut.trans (hK_ HK) (KeepBut.of_grown hg g) (Kd.R_base2 HO278.out)); replace HO278 := a0_ (hp_); clear hg hw hp_))
     go_ret
     exact ⟨_, rr_, by (with_reducible repeat (first | apply Kd.R_alloc | apply Kd.R_drewN | apply Kd.R_drew)); exact HO278.out, by repeat (first | (with_reducible first | exact HI0.out | apply IsS123.alloc | apply IsS123.drewN | apply IsS123.drew | apply IsS123.set_1) | exact HI0.out), by repeat (first | (with_reducible first | exact HB.out | apply below_alloc | apply pw_below_drewN | apply below_drew1 | refine below_set ?_ (IsS123.ge HI0.out)) | exact HB.out), by repeat (first | (with_reducible first | exact HK.out | apply KeepBut.set_ | apply keep_drewN | apply keep_drew | apply keep_alloc) | exact HK.out)⟩
    ·
     rw [if_neg c23] at H
     exact absurd H (by simp)
   ·
    rw [if_neg c22] at H
    exact absurd H (by simp)
  ·
   rw [if_neg c19] at H
   have c19b0 : (t280 == 1) = false := beq_eq_false_iff_ne.mpr c19
   have c19b1 : (t280 != 1) = true := bne_iff_ne.mpr c19
   by_cases c36 : t280 = 2
   ·
    rw [if_pos c36] at H
    have c36b0 : (t280 == 2) = true := beq_iff_eq.mpr c36
    have c36b1 : (t280 != 2) = false := bne_eq_false_iff_eq.mpr c36
    clear c36
    replace H := Option.bind_eq_some_iff.mp H
    obtain ⟨⟨t294, t295⟩, A370, H⟩ := H
    (try dsimp only at H)
    have A37 := Aside0.mk A370
    clear A370
    have H' := Aside0.mk H
    clear H
    go_enter Tryd.func92, Tryd.ntmps92
    go_wp2_with (first | ((with_reducible refine gate_callee (f := 74) rfl ?_); refine gL_ (some 8) Tryd.func74 #[.pointer (some ⟨g, 0, none⟩), .int .i64 5] (h := ?_); (with_reducible refine (spec_l6Rd_pick.calls k g s0_0 s0_1 5 t268 t269 w0 _ hI_ hBs_ A2.out).mono ?_); rintro e w38 ⟨rfl, hi, hb, hk⟩; refine ⟨_, rfl, ?_⟩; replace HK := kk_ HK hk; replace HB := a0_ (hb); replace HI0 := a0_ (hi); (try clear hi hb hk)) | ((with_reducible refine gate_callee (f := 74) rfl ?_); refine gL_ (some 10) Tryd.func74 #[.pointer (some ⟨g, 0, none⟩), .int .i64 5] (h := ?_); (with_reducible refine (spec_l6Rd_pick.calls k g s0_0 t269 5 t270 t271 w0 _ hI_ hBs_ A3.out).mono ?_); rintro e w39 ⟨rfl, hi, hb, hk⟩; refine ⟨_, rfl, ?_⟩; replace HK := kk_ HK hk; replace HB := a0_ (hb); replace HI0 := a0_ (hi); (try clear hi hb hk)) | ((with_reducible refine gate_callee (f := 74) rfl ?_); refine gL_ (some 17) Tryd.func74 #[.pointer (some ⟨g, 0, none⟩), .int .i64 (wrap64 (9 - t268))] (h := ?_); (with_reducible refine (spec_l6Rd_pick.calls k g s0_0 t271 (wrap64 (9 - t268)) t272 t273 w0 _ hI_ hBs_ A4.out).mono ?_); rintro e w40 ⟨rfl, hi, hb, hk⟩; refine ⟨_, rfl, ?_⟩; replace HK := kk_ HK hk; replace HB := a0_ (hb); replace HI0 := a0_ (hi); (try clear hi hb hk)) | ((with_reducible refine gate_callee (f := 74) rfl ?_); refine gL_ (some 22) Tryd.func74 #[.pointer (some ⟨g, 0, none⟩), .int .i64 (wrap64 (9 - t270))] (h := ?_); (with_reducible refine (spec_l6Rd_pick.calls k g s0_0 t273 (wrap64 (9 - t270)) t274 t275 w0 _ hI_ hBs_ A5.out).mono ?_); rintro e w41 ⟨rfl, hi, hb, hk⟩; refine ⟨_, rfl, ?_⟩; replace HK := kk_ HK hk; replace HB := a0_ (hb); replace HI0 := a0_ (hi); (try clear hi hb hk)) | ((with_reducible refine gate_callee (f := 110) rfl ?_); refine gL_ (some 24) Tryd.func110 #[.pointer (some ⟨g, 0, none⟩), .int .i64 t268, .int .i64 t270, .int .i64 (wrap64 (1 + t272)), .int .i64 (wrap64 (1 + t274))] (h := ?_); (with_reducible refine (spec_l71Box.calls k g s0_0 t275 t268 t270 (wrap64 (1 + t272)) (wrap64 (1 + t274)) t276 t279 w0 _ hI_ hBs_ A6.out).mono ?_); rintro e w42 ⟨v277, rfl, ho0, hi, hb, hk⟩; refine ⟨_, rfl, ?_⟩; have HO278 := a0_ (Kd.R_lower ho0 (keep_size (w := w) (g := g) (row := none) (hK_ HK))); replace HK := kk_ HK hk; replace HB := a0_ (hb); replace HI0 := a0_ (hi); (try clear ho0 hi hb hk)) | ((with_reducible refine gate_callee (f := 74) rfl ?_); refine gL_ (some 26) Tryd.func74 #[.pointer (some ⟨g, 0, none⟩), .int .i64 12] (h := ?_); (with_reducible refine (spec_l6Rd_pick.calls k g s0_0 t279 12 t280 t281 w0 _ hI_ hBs_ A7.out).mono ?_); rintro e w43 ⟨rfl, hi, hb, hk⟩; refine ⟨_, rfl, ?_⟩; replace HO278 := a0_ (Kd.R_mono (Kd.R_keep (IsS123.apart (show IsS123 w0 _ g s0_0 t279 from hI_) (uR_ HO278) (by decide)) hk (fun _ h => h.2)) (fun _ h => h.1)); replace HK := kk_ HK hk; replace HB := a0_ (hb); replace HI0 := a0_ (hi); (try clear hi hb hk)) | ((with_reducible refine gate_callee (f := 74) rfl ?_); refine gL_ (some 47) Tryd.func74 #[.pointer (some ⟨g, 0, none⟩), .int .i64 6] (h := ?_); (with_reducible refine (spec_l6Rd_pick.calls k g s0_0 t281 6 t294 t295 w0 _ hI_ hBs_ A37.out).mono ?_); rintro e w44 ⟨rfl, hi, hb, hk⟩; refine ⟨_, rfl, ?_⟩; replace HO278 := a0_ (Kd.R_mono (Kd.R_keep (IsS123.apart (show IsS123 w0 _ g s0_0 t281 from hI_) (uR_ HO278) (by decide)) hk (fun _ h => h.2)) (fun _ h => h.1)); replace HK := kk_ HK hk; replace HB := a0_ (hb); replace HI0 := a0_ (hi); (try clear hi hb hk)))
    go_loopg [6] k (fun kq v6 w' => ∃ (x5_1 : List (S28)) (x6_1 : Int) (x1001_1 : Int), v6 = .int .i64 x6_1 ∧ Aside0 (spec_l71Loop.l0 kq x5_1 x6_1 s0_0 x1001_1 = some (r1, r2)) ∧ Aside0 (kq ≤ k) ∧ Aside0 (Kd.R k28 28 w' w.heap.size (fun _ => True) v277 x5_1) ∧ Aside0 (IsS123 w0 w' g s0_0 x1001_1) ∧ Aside0 (KeepBut w w' g none) ∧ Aside0 (Below w0.heap.size w0 w'))
    case atStart => exact ⟨(t276), (t294), (t295), (by first | rfl | (simp; done) | (simp [*]; done)), H', ⟨Nat.le_refl _⟩, ⟨by (with_reducible repeat (first | apply Kd.R_alloc | apply Kd.R_drewN | apply Kd.R_drew)); exact HO278.out⟩, ⟨by repeat (first | (with_reducible first | exact HI0.out | apply IsS123.alloc | apply IsS123.drewN | apply IsS123.drew | apply IsS123.set_1) | exact HI0.out)⟩, ⟨by repeat (first | (with_reducible first | exact HK.out | apply KeepBut.set_ | apply keep_drewN | apply keep_drew | apply keep_alloc) | exact HK.out)⟩, ⟨by repeat (first | (with_reducible first | exact HB.out | apply below_alloc | apply pw_below_drewN | apply below_drew1 | refine below_set ?_ (IsS123.ge HI0.out)) | exact HB.out)⟩⟩
    case round =>
     clear H'
     obtain ⟨x5_1, x6_1, x1001_1, rfl, HA, HK1, HO_5, HI0, HK, HB⟩ := hrel
     cases gk with
     | zero => exact absurd HA.out (by simp [spec_l71Loop.l0])
     | succ k1 =>
      have H := HA.out
      clear HA
      simp only [spec_l71Loop.l0] at H
      by_cases c45 : x6_1 ≥ 0
      ·
       rw [if_pos c45] at H
       have c45b0 : decide (0 ≤ x6_1) = true := decide_eq_true c45
       clear c45
       by_cases c46 : (x5_1.length : Int) = 0
       ·
        rw [if_pos c46] at H
        exact absurd H (by simp)
       ·
        rw [if_neg c46] at H
        have c46b0 : ((x5_1.length : Int) == 0) = false := beq_eq_false_iff_ne.mpr c46
        have c46b1 : ((x5_1.length : Int) != 0) = true := bne_iff_ne.mpr c46
        have c46b2 : ¬ (x5_1 = []) := fun h_ => c46 (by rw [h_]; rfl)
        replace H := Option.bind_eq_some_iff.mp H
        obtain ⟨⟨t296, t297, t298⟩, A470, H⟩ := H
        (try dsimp only at H)
        have A47 := Aside0.mk A470
        clear A470
        obtain ⟨ji48, hji48⟩ : ∃ j_ : Int, (Int.tmod x6_1 (x5_1.length : Int)) = j_ := ⟨_, rfl⟩
        replace H : (if 0 ≤ (ji48) then (if (ji48) < (x5_1.length : Int) then (spec_l71Loop.l0 k1 (x5_1.set ((ji48) : Int).toNat (⟨t296, t297⟩ : S28)) (wrap64 (x6_1 - 1)) s0_0 t298) else (none)) else (none)) = some (r1, r2) := by first | (rw [hji48] at H; exact H) | (simp only [hji48] at H ⊢; exact H)
        (try rw [hji48] at A47)
        by_cases c49 : 0 ≤ (ji48)
        ·
         rw [if_pos c49] at H
         have c49b0 : decide (0 ≤ (ji48)) = true := decide_eq_true c49
         clear c49
         by_cases c50 : (ji48) < (x5_1.length : Int)
         ·
          rw [if_pos c50] at H
          have c50b0 : decide ((ji48) < (x5_1.length : Int)) = true := decide_eq_true c50
          clear c50
          obtain ⟨y299, hy299⟩ : ∃ y_ : List (S28), y_ = (x5_1.set ((ji48) : Int).toNat (⟨t296, t297⟩ : S28)) := ⟨_, rfl⟩
          replace H : (spec_l71Loop.l0 k1 y299 (wrap64 (x6_1 - 1)) s0_0 t298) = some (r1, r2) := by first | (rw [hy299]; with_reducible exact H) | (have H2_ := (Option.bind_some _ _).symm.trans H; rw [hy299]; with_reducible exact H2_) | (have H2_ := (Option.bind_some _ _).symm.trans H; with_reducible exact H2_) | with_reducible exact H | (rw [hy299]; exact H) | exact H
          have Ny299 := Aside0.mk hy299
          clear hy299
          have H' := Aside0.mk H
          clear H
          try go_wp2
          replace HO_5 := a0_ (Kd.R_drew HO_5.out)
          replace HI0 := a0_ (IsS123.drew HI0.out)
          replace HK := a0_ (keep_drew HK.out)
          replace HB := a0_ (below_drew1 HB.out)
          obtain ⟨Ao53, co53, eo53⟩ := Kd.R_slice HO_5.out
          (first | subst eo53 | (injection eo53 with f1_ f2_ f3_; have f4_ := f1_.symm; have f5_ := f3_.symm; clear f1_ f2_ f3_; subst f4_; subst f5_))
          refine start_ (n := 9) (S := fun w' => True) (ds := [8]) (Array.replicate 9 false) (by kernel_rfl) rfl rfl trivial (fun hHeld => ?_); refine with_tabW spec_l71Loop.tab13 spec_l71Loop.bits13 (fun HT_ HW_ => ?_)
          generalize wr.drew = w52 at HO_5 HI0 HK HB hHeld ⊢
          refine pu_ HT_ 0 52 (bm 9 1) ?_
          refine pu_ HT_ 1 53 (bm 9 3) ?_
          refine pu_ HT_ 2 54 (bm 9 7) ?_
          refine pu_ HT_ 3 55 (bm 9 15) ?_
          refine pu_ HT_ 4 56 (bm 9 31) ?_
          refine pu_ HT_ 5 57 (bm 9 63) ?_
          refine one_ (i := 6) (N := some 58) (bm 9 127) rfl rfl (one_of HT_.out (by kernel_rfl)) (by decide) (fun K hK => ?_)
          refine goes_ Tryd.func51 (by kernel_rfl) rfl #[.pointer (some ⟨g, 0, none⟩)] (by rfl) rfl rfl ma_ ?_
          with_reducible refine (spec_l71Pt.calls k1 g s0_0 x1001_1 t296 t297 t298 w0 _ hI_ hBs_ A47.out).mono ?_
          rintro e w54 ⟨rfl, hi, hb, hk⟩
          refine ⟨_, rfl, ?_⟩
          replace HO_5 := a0_ (Kd.R_mono (Kd.R_keep (IsS123.apart (show IsS123 w0 _ g s0_0 x1001_1 from hI_) (uR_ HO_5) (by decide)) hk (fun _ h => h.2)) (fun _ h => h.1))
          replace HK := kk_ HK hk
          replace HB := a0_ (hb)
          replace HI0 := a0_ (hi)
          (try clear hb)
          (try clear hb2)
          (try clear hk)
          (try clear hi)
          have p51 : 0 ≤ ((ji48) : Int) := od_
          have q51 : ((ji48) : Int) < ((x5_1.length : Int) : Int) := od_
          obtain ⟨go51, co51, eo51, gb51, gl51, cl51, HG51⟩ := Kd.R_form HO_5.out (by omega)
          (first | cases eo51 | (injection eo51 with ea_ en_ ec_; (first | subst ea_ | (injection ea_ with ea_; subst ea_)); subst ec_; clear en_))
          have GB51 := Aside0.mk gb51
          have GG51 := Aside0.mk HG51
          clear gb51 gl51 HG51
          obtain ⟨ce51, hcl51, hM51, hcc51, hfr51⟩ := Kd.R_elem HO_5.out z28 ((ji48) : Int) p51 q51
          obtain rfl := k28_openM hM51
          have hx51_0 : World.cell? _ ⟨go51, ((ji48) : Int).toNat * 2, none⟩ = some (.int .i64 ((rd_T28 x5_1 (ji48)).f0)) := hcc51 0 _ rfl
          have hx51_1 : World.cell? _ ⟨go51, ((ji48) : Int).toNat * 2 + 1, none⟩ = some (.int .i64 ((rd_T28 x5_1 (ji48)).f1)) := hcc51 1 _ rfl
          have hf51_0 : World.frozen? _ ⟨go51, ((ji48) : Int).toNat * 2, none⟩ = false := hfr51 0
          have hf51_1 : World.frozen? _ ⟨go51, ((ji48) : Int).toNat * 2 + 1, none⟩ = false := hfr51 1
          clear hcl51 hcc51 hfr51; (try clear hM51)
          replace p51 := eq_true p51
          replace q51 := eq_true q51
          have HN0_go51 := a0_ (show g ≠ go51 from by have h_ := IsS123.own_ne HI0.out HO_5.out (by decide); intro e_; exact h_ (by rw [e_]; rfl))
          obtain ⟨ce55, hcl55, hM55, hcc55, hfr55⟩ := Kd.R_elem HO_5.out z28 ((ji48) : Int) (od_) (by have h_ : ((ji48) : Int) < ((x5_1.length : Int) : Int) := od_; first | exact h_ | (have e_ := (Kd.R_reads' HO_5.out).1; omega) | simpa using h_)
          obtain rfl := k28_openM hM55
          have HP55 := (Kd.R_seg HO_5.out ((ji48) : Int) (od_) (by have h_ : ((ji48) : Int) < ((x5_1.length : Int) : Int) := od_; first | exact h_ | (have e_ := (Kd.R_reads' HO_5.out).1; omega) | simpa using h_) (seg := [.int .i64 t296, .int .i64 t297]) (j := 0) hcl55 hcc55 (show 2 ≤ 2 from by decide) (x' := (⟨t296, t297⟩ : S28)) (k28_mkM _ _ _ (⟨t296, t297⟩ : S28) ) (fun _ hk => hk)).1
          rw [← Ny299.out] at HP55
          have HQ55 := Aside0.mk HP55
          clear hcl55 hcc55 hfr55 HP55; (try clear hM55)
          refine hK.out _ _ trivial (fun hHeld => ?_)
          clear hK K
          refine no_ (h := ?_)
          refine pu_ HT_ 7 59 (bm 9 255) ?_
          refine last_ (i := 8) (N := none) (bm 9 511) rfl rfl (one_of HT_.out (by kernel_rfl)) (by decide) (fun K hK => ?_)
          refine skip_ (w1 := ?_) (by rfl) rfl ?_ ?_
          rotate_left
          ·
           go_simp
           rfl
          refine hK.out _ _ ?_
          clear hK K
          refine done_ (done_of HT_.out (by kernel_rfl)) ?_
          try go_wp2
          go_roundg k1
          case measure => have := HK1.out; omega
          case rel => exact ⟨(y299), (wrap64 (x6_1 - 1)), (t298), (by first | rfl | (simp; done) | (simp [*]; done)), H', ⟨by have := HK1.out; omega⟩, ⟨by (with_reducible repeat (first | apply Kd.R_alloc | apply Kd.R_drewN | apply Kd.R_drew)); exact HQ55.out⟩, ⟨by repeat (first | (with_reducible first | exact HI0.out | apply IsS123.alloc | apply IsS123.drewN | apply IsS123.drew | apply IsS123.set_1 | refine IsS123.far ?_ HN0_go51.out _ | refine IsS123.far ?_ HN0_go51.out _) | exact HI0.out)⟩, ⟨by repeat (first | (with_reducible first | exact HK.out | apply KeepBut.set_ | apply keep_drewN | apply keep_drew | apply keep_alloc | refine keep_far ?_ GB51.out _ | refine keep_far ?_ GB51.out _) | exact HK.out)⟩, ⟨by repeat (first | (with_reducible first | exact HB.out | apply below_alloc | apply pw_below_drewN | apply below_drew1 | refine below_set ?_ (Nat.le_trans HL.out GB51.out) | refine below_set ?_ (Nat.le_trans HL.out GB51.out) | refine below_set ?_ (IsS123.ge HI0.out)) | exact HB.out)⟩⟩
         ·
          rw [if_neg c50] at H
          exact absurd H (by simp)
        ·
         rw [if_neg c49] at H
         exact absurd H (by simp)
      ·
       rw [if_neg c45] at H
       have c45b0 : decide (0 ≤ x6_1) = false := decide_eq_false c45
       clear c45
       simp only [Option.some.injEq, Prod.mk.injEq] at H
       obtain ⟨rfl, rfl⟩ := H
       go_wp2
       go_ret
       exact ⟨_, rr_, by (with_reducible repeat (first | apply Kd.R_alloc | apply Kd.R_drewN | apply Kd.R_drew)); exact HO_5.out, by repeat (first | (with_reducible first | exact HI0.out | apply IsS123.alloc | apply IsS123.drewN | apply IsS123.drew | apply IsS123.set_1) | exact HI0.out), by repeat (first | (with_reducible first | exact HB.out | apply below_alloc | apply pw_below_drewN | apply below_drew1 | refine below_set ?_ (IsS123.ge HI0.out)) | exact HB.out), by repeat (first | (with_reducible first | exact HK.out | apply KeepBut.set_ | apply keep_drewN | apply keep_drew | apply keep_alloc) | exact HK.out)⟩
   ·
    rw [if_neg c36] at H
    have c36b0 : (t280 == 2) = false := beq_eq_false_iff_ne.mpr c36
    have c36b1 : (t280 != 2) = true := bne_iff_ne.mpr c36
    simp only [Option.some.injEq, Prod.mk.injEq] at H
    obtain ⟨rfl, rfl⟩ := H
    go_enter Tryd.func92, Tryd.ntmps92
    go_wp2_with (first | ((with_reducible refine gate_callee (f := 74) rfl ?_); refine gL_ (some 8) Tryd.func74 #[.pointer (some ⟨g, 0, none⟩), .int .i64 5] (h := ?_); (with_reducible refine (spec_l6Rd_pick.calls k g s0_0 s0_1 5 t268 t269 w0 _ hI_ hBs_ A2.out).mono ?_); rintro e w56 ⟨rfl, hi, hb, hk⟩; refine ⟨_, rfl, ?_⟩; replace HK := kk_ HK hk; replace HB := a0_ (hb); replace HI0 := a0_ (hi); (try clear hi hb hk)) | ((with_reducible refine gate_callee (f := 74) rfl ?_); refine gL_ (some 10) Tryd.func74 #[.pointer (some ⟨g, 0, none⟩), .int .i64 5] (h := ?_); (with_reducible refine (spec_l6Rd_pick.calls k g s0_0 t269 5 t270 t271 w0 _ hI_ hBs_ A3.out).mono ?_); rintro e w57 ⟨rfl, hi, hb, hk⟩; refine ⟨_, rfl, ?_⟩; replace HK := kk_ HK hk; replace HB := a0_ (hb); replace HI0 := a0_ (hi); (try clear hi hb hk)) | ((with_reducible refine gate_callee (f := 74) rfl ?_); refine gL_ (some 17) Tryd.func74 #[.pointer (some ⟨g, 0, none⟩), .int .i64 (wrap64 (9 - t268))] (h := ?_); (with_reducible refine (spec_l6Rd_pick.calls k g s0_0 t271 (wrap64 (9 - t268)) t272 t273 w0 _ hI_ hBs_ A4.out).mono ?_); rintro e w58 ⟨rfl, hi, hb, hk⟩; refine ⟨_, rfl, ?_⟩; replace HK := kk_ HK hk; replace HB := a0_ (hb); replace HI0 := a0_ (hi); (try clear hi hb hk)) | ((with_reducible refine gate_callee (f := 74) rfl ?_); refine gL_ (some 22) Tryd.func74 #[.pointer (some ⟨g, 0, none⟩), .int .i64 (wrap64 (9 - t270))] (h := ?_); (with_reducible refine (spec_l6Rd_pick.calls k g s0_0 t273 (wrap64 (9 - t270)) t274 t275 w0 _ hI_ hBs_ A5.out).mono ?_); rintro e w59 ⟨rfl, hi, hb, hk⟩; refine ⟨_, rfl, ?_⟩; replace HK := kk_ HK hk; replace HB := a0_ (hb); replace HI0 := a0_ (hi); (try clear hi hb hk)) | ((with_reducible refine gate_callee (f := 110) rfl ?_); refine gL_ (some 24) Tryd.func110 #[.pointer (some ⟨g, 0, none⟩), .int .i64 t268, .int .i64 t270, .int .i64 (wrap64 (1 + t272)), .int .i64 (wrap64 (1 + t274))] (h := ?_); (with_reducible refine (spec_l71Box.calls k g s0_0 t275 t268 t270 (wrap64 (1 + t272)) (wrap64 (1 + t274)) t276 t279 w0 _ hI_ hBs_ A6.out).mono ?_); rintro e w60 ⟨v277, rfl, ho0, hi, hb, hk⟩; refine ⟨_, rfl, ?_⟩; have HO278 := a0_ (Kd.R_lower ho0 (keep_size (w := w) (g := g) (row := none) (hK_ HK))); replace HK := kk_ HK hk; replace HB := a0_ (hb); replace HI0 := a0_ (hi); (try clear ho0 hi hb hk)) | ((with_reducible refine gate_callee (f := 74) rfl ?_); refine gL_ (some 26) Tryd.func74 #[.pointer (some ⟨g, 0, none⟩), .int .i64 12] (h := ?_); (with_reducible refine (spec_l6Rd_pick.calls k g s0_0 t279 12 t280 t281 w0 _ hI_ hBs_ A7.out).mono ?_); rintro e w61 ⟨rfl, hi, hb, hk⟩; refine ⟨_, rfl, ?_⟩; replace HO278 := a0_ (Kd.R_mono (Kd.R_keep (IsS123.apart (show IsS123 w0 _ g s0_0 t279 from hI_) (uR_ HO278) (by decide)) hk (fun _ h => h.2)) (fun _ h => h.1)); replace HK := kk_ HK hk; replace HB := a0_ (hb); replace HI0 := a0_ (hi); (try clear hi hb hk)))
    go_ret
    exact ⟨_, rr_, by (with_reducible repeat (first | apply Kd.R_alloc | apply Kd.R_drewN | apply Kd.R_drew)); exact HO278.out, by repeat (first | (with_reducible first | exact HI0.out | apply IsS123.alloc | apply IsS123.drewN | apply IsS123.drew | apply IsS123.set_1) | exact HI0.out), by repeat (first | (with_reducible first | exact HB.out | apply below_alloc | apply pw_below_drewN | apply below_drew1 | refine below_set ?_ (IsS123.ge HI0.out)) | exact HB.out), by repeat (first | (with_reducible first | exact HK.out | apply KeepBut.set_ | apply keep_drewN | apply keep_drew | apply keep_alloc) | exact HK.out)⟩
def spec_l71Plate.f (k : Nat) (s0_0 : List Int) (s0_1 : Int) : Option ((List (S28)) × (List (List (S28))) × Int) := (spec_l71Good.f k s0_0 s0_1).bind fun bt301 => ((spec_l6Rd_pick.f k s0_0 bt301.2.2 24).bind fun bt309 => (if bt309.1 = 0 then ((spec_l71Loop.f k s0_0 bt309.2).bind fun bt311 => (some (bt311.1, bt301.2.1, bt311.2))) else (if bt309.1 = 1 then ((spec_l71Loop.f k s0_0 bt309.2).bind fun bt315 => (if bt301.2.1.length < 5864062014805 then (some (bt301.1, (bt301.2.1 ++ [bt315.1]), bt315.2)) else (none))) else (if bt309.1 = 2 then ((some (([] : List (S28)) : List (S28))).bind fun y322 => (if y322.length + bt301.1.length < 8796093022208 then ((some (y322 ++ bt301.1 : List (S28))).bind fun y325 => ((spec_l71Pt.f k s0_0 bt309.2).bind fun bt328 => (if y325.length < 8796093022208 then (some ((y325 ++ [(⟨bt328.1, bt328.2.1⟩ : S28)]), bt301.2.1, bt328.2.2)) else (none)))) else (none))) else (some (bt301.1, bt301.2.1, bt309.2))))))
def spec_l71Plate.T6 : Bool × List (List Nat × List Nat) := (true, [([], []), ([0], [0]), ([], []), ([2], [2]), ([3], [3]), ([1, 4, 3], [1, 4]), ([0, 1, 2, 3, 4, 5], []), ([6, 5, 5, 0, 1, 2, 3, 4, 5], [5, 6])])
def spec_l71Plate.B6 : List Nat := [0, 1, 0, 4, 12, 31, 63, 127]
theorem spec_l71Plate.tab6 : rtab .any (opsOf Tryd.f50 6) = spec_l71Plate.T6 := by kernel_rfl
theorem spec_l71Plate.bits6 : waitsOk spec_l71Plate.T6.2 spec_l71Plate.B6 = true := by kernel_rfl
set_option maxHeartbeats 8000000 in
set_option maxRecDepth 100000 in
theorem spec_l71Plate.calls (k : Nat) (g : Nat) (s0_0 : List Int) (s0_1 : Int) (r1 : List (S28)) (r2 : List (List (S28))) (r3 : Int) (w0 w : World) (hI : IsS123 w0 w g s0_0 s0_1) (hB : Below w0.heap.size w0 w) (h : spec_l71Plate.f k s0_0 s0_1 = some (r1, r2, r3)) :
  Calls Tryd.prog 50 #[.pointer (some ⟨g, 0, none⟩)] w fun e w' => ∃ v0_ v1_ : Value, e = .returned (.agg #[v0_, v1_]) ∧ Kd.R k28 28 w' w.heap.size (fun k_ => (w.heap.size ≤ k_)) v0_ r1 ∧ Kd.N (Kd.slice 28 k28) 23 w' w.heap.size (fun k_ => (w.heap.size ≤ k_) ∧ some k_ ≠ (v0_ : Value).ownBlock) v1_ r2 ∧ IsS123 w0 w' g s0_0 r3 ∧ Below w0.heap.size w0 w' ∧ KeepBut w w' g none := by
 have hu26 := Tryd.underlying26
 have HI0 := Aside0.mk hI
 have HK := a0_ (KeepBut.refl w g none)
 have HL := Aside0.mk hB.size
 clear hI
 have HW0 := Aside0.mk hB.size
 have HB := Aside0.mk hB
 clear hB
 have H : ((spec_l71Good.f k s0_0 s0_1).bind fun bt301 => ((spec_l6Rd_pick.f k s0_0 bt301.2.2 24).bind fun bt309 => (if bt309.1 = 0 then ((spec_l71Loop.f k s0_0 bt309.2).bind fun bt311 => (some (bt311.1, bt301.2.1, bt311.2))) else (if bt309.1 = 1 then ((spec_l71Loop.f k s0_0 bt309.2).bind fun bt315 => (if bt301.2.1.length < 5864062014805 then (some (bt301.1, (bt301.2.1 ++ [bt315.1]), bt315.2)) else (none))) else (if bt309.1 = 2 then ((some (([] : List (S28)) : List (S28))).bind fun y322 => (if y322.length + bt301.1.length < 8796093022208 then ((some (y322 ++ bt301.1 : List (S28))).bind fun y325 => ((spec_l71Pt.f k s0_0 bt309.2).bind fun bt328 => (if y325.length < 8796093022208 then (some ((y325 ++ [(⟨bt328.1, bt328.2.1⟩ : S28)]), bt301.2.1, bt328.2.2)) else (none)))) else (none))) else (some (bt301.1, bt301.2.1, bt309.2))))))) = some (r1, r2, r3) := h
 clear h
 replace H := Option.bind_eq_some_iff.mp H
 obtain ⟨⟨t301, t304, t307⟩, A20, H⟩ := H
 (try dsimp only at H)
 have A2 := Aside0.mk A20
 clear A20
 replace H := Option.bind_eq_some_iff.mp H
 obtain ⟨⟨t309, t310⟩, A30, H⟩ := H
 (try dsimp only at H)
 have A3 := Aside0.mk A30
 clear A30
 by_cases c4 : t309 = 0
 ·
  rw [if_pos c4] at H
  have c4b0 : (t309 == 0) = true := beq_iff_eq.mpr c4
  have c4b1 : (t309 != 0) = false := bne_eq_false_iff_eq.mpr c4
  clear c4
  replace H := Option.bind_eq_some_iff.mp H
  obtain ⟨⟨t311, t314⟩, A50, H⟩ := H
  (try dsimp only at H)
  have A5 := Aside0.mk A50
  clear A50
  simp only [Option.some.injEq, Prod.mk.injEq] at H
  obtain ⟨rfl, rfl, rfl⟩ := H
  go_enter Tryd.func50, Tryd.ntmps50
  go_wp2_with (first | ((with_reducible refine gate_dst (N := 2) rfl ?_); refine bx_ (N := 2) (cs := #[.slice none 0 0, .slice none 0 0]) (t := 26) (h := ?_); intro gb300 hg w6 hbox hb; have BK300 := a0_ (hbox); have GW300 := gw_ HK hg; have GE300 := a0_ ((Nat.le_trans HW0.out (gw_ HK hg).out)); have NB0_300 := sl_ HI0 hg; have NB300_0 := sr_ HI0 hg; replace HK := kb_ HK hb; replace HB := a0_ (below_step hBs_ hb); replace HI0 := a0_ (IsS123.below hI_ hb); clear hb hbox hg) | ((with_reducible refine gate_callee (f := 91) rfl ?_); refine gL_ (some 5) Tryd.func91 #[.pointer (some ⟨g, 0, none⟩)] (h := ?_); (with_reducible refine (spec_l71Good.calls k g s0_0 s0_1 t301 t304 t307 w0 _ hI_ hBs_ A2.out).mono ?_); rintro e w7 ⟨v302, v305, rfl, ho0, ho1, hi, hb, hk⟩; refine ⟨_, rfl, ?_⟩; have HO303 := a0_ (Kd.R_lower (Kd.R_newM (M := fun k_ => (w.heap.size ≤ k_)) (Kd.R_mono (ok' := fun k_ => True) ho0 (fun _ hk_ => trivial)) (keep_size (w := w) (g := g) (row := none) (hK_ HK)) (fun k_ h_ => h_)) (keep_size (w := w) (g := g) (row := none) (hK_ HK))); have HO306 := a0_ (Kd.N_lower (Kd.N_mono (ok' := fun k_ => (w.heap.size ≤ k_) ∧ some k_ ≠ (v302 : Value).ownBlock ∧ k_ ≠ gb300 ∧ k_ ≠ g) ho1 (fun k_ hk_ => ⟨(Nat.le_trans (keep_size (w := w) (g := g) (row := none) (hK_ HK)) hk_.1), hk_.2, (Kd.freshB (g := gb300) (o := .cells #[.slice none 0 0, .slice none 0 0] 26 (0, 0)) uq_ k_ hk_.1), (IsS123.fresh hI_ k_ hk_.1)⟩)) (keep_size (w := w) (g := g) (row := none) (hK_ HK))); replace BK300 := a0_ (KeepBut.blk hk (g' := gb300) (o := .cells #[.slice none 0 0, .slice none 0 0] 26 (0, 0)) uq_ NB300_0.out (by simp)); replace HK := kk_ HK hk; replace HB := a0_ (hb); replace HI0 := a0_ (hi); (try clear ho0 ho1 hi hb hk)) | ((with_reducible refine gate_dst (N := 3) rfl ?_); refine bx_ (N := 3) (cs := #[.slice none 0 0, .slice none 0 0]) (t := 26) (h := ?_); intro gb308 hg w8 hbox hb; have BK308 := a0_ (hbox); have GW308 := gw_ HK hg; have GE308 := a0_ ((Nat.le_trans HW0.out (gw_ HK hg).out)); have NB300_308 := nl_ BK300 hg; have NB308_300 := nr_ BK300 hg; have NB0_308 := sl_ HI0 hg; have NB308_0 := sr_ HI0 hg; replace HO303 := rb_ HO303 hb; replace HO306 := a0_ (Kd.N_below (Kd.N_elderB (uN_ HO306) gb308 (Nat.le_of_eq hg.symm)) hb); replace BK300 := vb_ BK300 hb; replace HK := kb_ HK hb; replace HB := a0_ (below_step hBs_ hb); replace HI0 := a0_ (IsS123.below hI_ hb); clear hb hbox hg; obtain ⟨Ao9, co9, eo9⟩ := Kd.R_slice HO303.out; subst eo9; have hnb10 := NB308_300.out; have hnc10 := NB300_308.out; have hnb11 := NB308_0.out; have hnc11 := NB0_308.out; have hcz12_0 := c20_ BK308; have hcz12_1 := c21_ BK308; have hfz12_0 := fz_ BK308 0; have hfz12_1 := fz_ BK308 1; obtain ⟨Ao13, co13, eo13⟩ := Kd.N_slice HO306.out; subst eo13) | ((with_reducible refine gate_callee (f := 74) rfl ?_); refine gL_ (some 7) Tryd.func74 #[.pointer (some ⟨g, 0, none⟩), .int .i64 24] (h := ?_); (with_reducible refine (spec_l6Rd_pick.calls k g s0_0 t307 24 t309 t310 w0 _ hI_ hBs_ A3.out).mono ?_); rintro e w14 ⟨rfl, hi, hb, hk⟩; refine ⟨_, rfl, ?_⟩; replace BK300 := a0_ (KeepBut.blk hk (g' := gb300) (o := .cells #[.slice none 0 0, .slice none 0 0] 26 (0, 0)) uf_ NB300_0.out (by simp)); replace HO303 := a0_ (Kd.R_mono (Kd.R_keep (IsS123.apart (show IsS123 w0 _ g s0_0 t307 from hI_) (by (with_reducible repeat (first | apply Kd.R_alloc | apply Kd.R_drewN | apply Kd.R_drew)); exact (Kd.R_mono (Kd.R_far (p := ⟨gb308, 1, none⟩) (Kd.R_far (p := ⟨gb308, 0, none⟩) (Kd.R_types HO303.out BK308.out (by decide)) (fun _ hk => hk.2) (.slice Ao9 t301.length co9)) (fun _ hk => hk.2) (.slice Ao13 t304.length co13)) (fun _ h_ => h_.1))) (by decide)) hk (fun _ h => h.2)) (fun _ h => h.1)); replace HO306 := a0_ (Kd.N_mono (Kd.N_keep (Kd.N_mono (ok := fun k_ => ((((w.heap.size ≤ k_)) ∧ (some k_ ≠ (.slice Ao9 t301.length co9 : Value).ownBlock ∧ (k_ ≠ gb300 ∧ k_ ≠ g))) ∧ k_ ≠ gb308)) (by (with_reducible repeat (first | apply Kd.N_alloc | apply Kd.N_drewN | apply Kd.N_drew)); exact (Kd.N_mono (Kd.N_far (p := ⟨gb308, 1, none⟩) (Kd.N_far (p := ⟨gb308, 0, none⟩) (Kd.N_mono HO306.out (fun k_ hk => (⟨hk, hk.2⟩ : _ ∧ k_ ≠ gb308))) (fun _ hk => hk.2) (.slice Ao9 t301.length co9)) (fun _ hk => hk.2) (.slice Ao13 t304.length co13)) (fun _ h_ => h_.1))) (fun k_ hk_ => (⟨hk_, hk_.1.2.2.2⟩ : _ ∧ k_ ≠ g))) hk (fun _ h => h.2)) (fun _ h => h.1)); replace BK308 := a0_ (KeepBut.blk hk (g' := gb308) (o := .cells #[.slice Ao9 t301.length co9, .slice Ao13 t304.length co13] 26 (0, 0)) (by (with_reducible repeat (first | refine blk_drewN ?_ _ | refine blk_drew ?_ | refine blk_alloc ?_ _)); refine blk_put (cs := #[.slice Ao9 t301.length co9, .slice none 0 0]) ?_ 1 _ rfl; (with_reducible repeat (first | refine blk_drewN ?_ _ | refine blk_drew ?_ | refine blk_alloc ?_ _)); refine blk_put (cs := #[.slice none 0 0, .slice none 0 0]) ?_ 0 _ rfl; (with_reducible repeat (first | refine blk_drewN ?_ _ | refine blk_drew ?_ | refine blk_alloc ?_ _)); exact BK308.out) NB308_0.out (by simp)); replace HK := kk_ HK hk; replace HB := a0_ (hb); replace HI0 := a0_ (hi); (try clear hi hb hk)) | ((with_reducible refine gate_callee (f := 92) rfl ?_); refine gL_ (some 11) Tryd.func92 #[.pointer (some ⟨g, 0, none⟩)] (h := ?_); (with_reducible refine (spec_l71Loop.calls k g s0_0 t310 t311 t314 w0 _ hI_ hBs_ A5.out).mono ?_); rintro e w15 ⟨v312, rfl, ho0, hi, hb, hk⟩; refine ⟨_, rfl, ?_⟩; have HO313 := a0_ (Kd.R_lower (Kd.R_new' (Kd.R_newM (M := fun k_ => (w.heap.size ≤ k_)) ho0 (keep_size (w := w) (g := g) (row := none) (hK_ HK)) (fun k_ h_ => h_)) (Kd.R_lt (uR_ HO303))) (keep_size (w := w) (g := g) (row := none) (hK_ HK))); replace BK300 := a0_ (KeepBut.blk hk (g' := gb300) (o := .cells #[.slice none 0 0, .slice none 0 0] 26 (0, 0)) uq_ NB300_0.out (by simp)); replace HO303 := a0_ (Kd.R_mono (Kd.R_told (Kd.R_oldK (IsS123.apart (show IsS123 w0 _ g s0_0 t310 from hI_) (uR_ HO303) (by decide)) hk) (Kd.R_base ho0)) (fun _ h_ => h_.1)); replace HO306 := a0_ (Kd.N_mono (Kd.N_told (Kd.N_oldK (Kd.N_mono (ok := fun k_ => ((((w.heap.size ≤ k_)) ∧ (some k_ ≠ (.slice Ao9 t301.length co9 : Value).ownBlock ∧ (k_ ≠ gb300 ∧ k_ ≠ g))) ∧ k_ ≠ gb308)) (uN_ HO306) (fun k_ hk_ => (⟨hk_, hk_.1.2.2.2⟩ : _ ∧ k_ ≠ g))) hk) (Kd.R_base ho0)) (fun _ h_ => h_.1)); replace BK308 := a0_ (KeepBut.blk hk (g' := gb308) (o := .cells #[.slice Ao9 t301.length co9, .slice Ao13 t304.length co13] 26 (0, 0)) uq_ NB308_0.out (by simp)); replace HK := kk_ HK hk; replace HB := a0_ (hb); replace HI0 := a0_ (hi); (try clear ho0 hi hb hk); obtain ⟨Ao16, co16, eo16⟩ := Kd.R_slice HO313.out; subst eo16; have hcz17_0 := c20_ BK308; have hcz17_1 := c21_ BK308; have hfz17_0 := fz_ BK308 0; have hfz17_1 := fz_ BK308 1; have hnb18 := NB300_0.out; have hnc18 := NB0_300.out; have hcz19_0 := c20_ BK300; have hcz19_1 := c21_ BK300; have hfz19_0 := fz_ BK300 0; have hfz19_1 := fz_ BK300 1))
  refine bodyPost_ret (results_cell_row rfl _ _ gb300 26 #[.slice Ao16 t311.length co16, .slice Ao13 t304.length co13] (0, 0) _ rfl (by (with_reducible repeat (first | refine blk_drewN ?_ _ | refine blk_drew ?_ | refine blk_alloc ?_ _)); refine blk_put (cs := #[.slice Ao16 t311.length co16, .slice none 0 0]) ?_ 1 _ rfl; (with_reducible repeat (first | refine blk_drewN ?_ _ | refine blk_drew ?_ | refine blk_alloc ?_ _)); refine blk_put (cs := #[.slice none 0 0, .slice none 0 0]) ?_ 0 _ rfl; (with_reducible repeat (first | refine blk_drewN ?_ _ | refine blk_drew ?_ | refine blk_alloc ?_ _)); refine blk_far ?_ NB300_308.out _; (with_reducible repeat (first | refine blk_drewN ?_ _ | refine blk_drew ?_ | refine blk_alloc ?_ _)); exact BK300.out) Tryd.underlying26 rfl (by kernel_rfl)) rfl ?_
  exact ⟨_, _, rr_, by (with_reducible repeat (first | apply Kd.R_alloc | apply Kd.R_drewN | apply Kd.R_drew)); exact Kd.R_mono (Kd.R_far (p := ⟨gb300, 1, none⟩) (Kd.R_far (p := ⟨gb300, 0, none⟩) (Kd.R_far (p := ⟨gb308, 0, none⟩) (Kd.R_types (Kd.R_types HO313.out BK308.out (by decide)) BK300.out (by decide)) (fun _ hk => hk.1.2) (.slice Ao16 t311.length co16)) (fun _ hk => hk.2) (.slice Ao16 t311.length co16)) (fun _ hk => hk.2) (.slice Ao13 t304.length co13)) (fun _ hk => hk.1.1.1.1), by (with_reducible repeat (first | apply Kd.N_alloc | apply Kd.N_drewN | apply Kd.N_drew)); exact Kd.N_mono (Kd.N_far (p := ⟨gb300, 1, none⟩) (Kd.N_far (p := ⟨gb300, 0, none⟩) (Kd.N_far (p := ⟨gb308, 0, none⟩) (Kd.N_mono (Kd.N_mono HO306.out (fun k_ hk => (⟨hk, hk.1.2⟩ : _ ∧ k_ ≠ gb308))) (fun k_ hk => (⟨hk, hk.1.1.1.2.2.1⟩ : _ ∧ k_ ≠ gb300))) (fun _ hk => hk.1.2) (.slice Ao16 t311.length co16)) (fun _ hk => hk.2) (.slice Ao16 t311.length co16)) (fun _ hk => hk.2) (.slice Ao13 t304.length co13)) (fun _ hk => ⟨hk.1.1.1.1.1, hk.1.1.2⟩), by repeat (first | (with_reducible first | exact HI0.out | apply IsS123.alloc | apply IsS123.drewN | apply IsS123.drew | apply IsS123.set_1 | refine IsS123.far ?_ NB0_300.out _ | refine IsS123.far ?_ NB0_308.out _) | exact HI0.out), by repeat (first | (with_reducible first | exact HB.out | apply below_alloc | apply pw_below_drewN | apply below_drew1 | refine below_set ?_ (IsS123.ge HI0.out) | refine below_set ?_ GE300.out | refine below_set ?_ GE308.out) | exact HB.out), by repeat (first | (with_reducible first | exact HK.out | apply KeepBut.set_ | apply keep_drewN | apply keep_drew | apply keep_alloc | refine keep_far ?_ GW300.out _ | refine keep_far ?_ GW308.out _) | exact HK.out)⟩
 ·
  rw [if_neg c4] at H
  have c4b0 : (t309 == 0) = false := beq_eq_false_iff_ne.mpr c4
  have c4b1 : (t309 != 0) = true := bne_iff_ne.mpr c4
  by_cases c20 : t309 = 1
  ·
   rw [if_pos c20] at H
   have c20b0 : (t309 == 1) = true := beq_iff_eq.mpr c20
   have c20b1 : (t309 != 1) = false := bne_eq_false_iff_eq.mpr c20
   clear c20
   replace H := Option.bind_eq_some_iff.mp H
   obtain ⟨⟨t315, t318⟩, A210, H⟩ := H
   (try dsimp only at H)
   have A21 := Aside0.mk A210
   clear A210
   by_cases c22 : t304.length < 5864062014805
   ·
    rw [if_pos c22] at H
    have LMc22 := Aside0.mk c22
    clear c22
    obtain ⟨y319, hy319⟩ : ∃ y_ : List (List (S28)), y_ = (t304 ++ [t315]) := ⟨_, rfl⟩
    replace H : (some (t301, y319, t318)) = some (r1, r2, r3) := by first | (rw [hy319]; with_reducible exact H) | (have H2_ := (Option.bind_some _ _).symm.trans H; rw [hy319]; with_reducible exact H2_) | (have H2_ := (Option.bind_some _ _).symm.trans H; with_reducible exact H2_) | with_reducible exact H | (rw [hy319]; exact H) | exact H
    have Ny319 := Aside0.mk hy319
    clear hy319
    simp only [Option.some.injEq, Prod.mk.injEq] at H
    obtain ⟨rfl, rfl, rfl⟩ := H
    go_enter Tryd.func50, Tryd.ntmps50
    try go_wp2_with (first | ((with_reducible refine gate_dst (N := 2) rfl ?_); refine bx_ (N := 2) (cs := #[.slice none 0 0, .slice none 0 0]) (t := 26) (h := ?_); intro gb300 hg w23 hbox hb; have BK300 := a0_ (hbox); have GW300 := gw_ HK hg; have GE300 := a0_ ((Nat.le_trans HW0.out (gw_ HK hg).out)); have NB0_300 := sl_ HI0 hg; have NB300_0 := sr_ HI0 hg; replace HK := kb_ HK hb; replace HB := a0_ (below_step hBs_ hb); replace HI0 := a0_ (IsS123.below hI_ hb); clear hb hbox hg) | ((with_reducible refine gate_callee (f := 91) rfl ?_); refine gL_ (some 5) Tryd.func91 #[.pointer (some ⟨g, 0, none⟩)] (h := ?_); (with_reducible refine (spec_l71Good.calls k g s0_0 s0_1 t301 t304 t307 w0 _ hI_ hBs_ A2.out).mono ?_); rintro e w24 ⟨v302, v305, rfl, ho0, ho1, hi, hb, hk⟩; refine ⟨_, rfl, ?_⟩; have HO303 := a0_ (Kd.R_lower (Kd.R_newM (M := fun k_ => (w.heap.size ≤ k_)) (Kd.R_mono (ok' := fun k_ => True) ho0 (fun _ hk_ => trivial)) (keep_size (w := w) (g := g) (row := none) (hK_ HK)) (fun k_ h_ => h_)) (keep_size (w := w) (g := g) (row := none) (hK_ HK))); have HO306 := a0_ (Kd.N_lower (Kd.N_mono (ok' := fun k_ => (w.heap.size ≤ k_) ∧ some k_ ≠ (v302 : Value).ownBlock ∧ k_ ≠ gb300 ∧ k_ ≠ g) ho1 (fun k_ hk_ => ⟨(Nat.le_trans (keep_size (w := w) (g := g) (row := none) (hK_ HK)) hk_.1), hk_.2, (Kd.freshB (g := gb300) (o := .cells #[.slice none 0 0, .slice none 0 0] 26 (0, 0)) uq_ k_ hk_.1), (IsS123.fresh hI_ k_ hk_.1)⟩)) (keep_size (w := w) (g := g) (row := none) (hK_ HK))); replace BK300 := a0_ (KeepBut.blk hk (g' := gb300) (o := .cells #[.slice none 0 0, .slice none 0 0] 26 (0, 0)) uq_ NB300_0.out (by simp)); replace HK := kk_ HK hk; replace HB := a0_ (hb); replace HI0 := a0_ (hi); (try clear ho0 ho1 hi hb hk)) | ((with_reducible refine gate_dst (N := 3) rfl ?_); refine bx_ (N := 3) (cs := #[.slice none 0 0, .slice none 0 0]) (t := 26) (h := ?_); intro gb308 hg w25 hbox hb; have BK308 := a0_ (hbox); have GW308 := gw_ HK hg; have GE308 := a0_ ((Nat.le_trans HW0.out (gw_ HK hg).out)); have NB300_308 := nl_ BK300 hg; have NB308_300 := nr_ BK300 hg; have NB0_308 := sl_ HI0 hg; have NB308_0 := sr_ HI0 hg; replace HO303 := rb_ HO303 hb; replace HO306 := a0_ (Kd.N_below (Kd.N_elderB (uN_ HO306) gb308 (Nat.le_of_eq hg.symm)) hb); replace BK300 := vb_ BK300 hb; replace HK := kb_ HK hb; replace HB := a0_ (below_step hBs_ hb); replace HI0 := a0_ (IsS123.below hI_ hb); clear hb hbox hg; obtain ⟨Ao26, co26, eo26⟩ := Kd.R_slice HO303.out; subst eo26; have hnb27 := NB308_300.out; have hnc27 := NB300_308.out; have hnb28 := NB308_0.out; have hnc28 := NB0_308.out; have hcz29_0 := c20_ BK308; have hcz29_1 := c21_ BK308; have hfz29_0 := fz_ BK308 0; have hfz29_1 := fz_ BK308 1; obtain ⟨Ao30, co30, eo30⟩ := Kd.N_slice HO306.out; subst eo30) | ((with_reducible refine gate_callee (f := 74) rfl ?_); refine gL_ (some 7) Tryd.func74 #[.pointer (some ⟨g, 0, none⟩), .int .i64 24] (h := ?_); (with_reducible refine (spec_l6Rd_pick.calls k g s0_0 t307 24 t309 t310 w0 _ hI_ hBs_ A3.out).mono ?_); rintro e w31 ⟨rfl, hi, hb, hk⟩; refine ⟨_, rfl, ?_⟩; replace BK300 := a0_ (KeepBut.blk hk (g' := gb300) (o := .cells #[.slice none 0 0, .slice none 0 0] 26 (0, 0)) uf_ NB300_0.out (by simp)); replace HO303 := a0_ (Kd.R_mono (Kd.R_keep (IsS123.apart (show IsS123 w0 _ g s0_0 t307 from hI_) (by (with_reducible repeat (first | apply Kd.R_alloc | apply Kd.R_drewN | apply Kd.R_drew)); exact (Kd.R_mono (Kd.R_far (p := ⟨gb308, 1, none⟩) (Kd.R_far (p := ⟨gb308, 0, none⟩) (Kd.R_types HO303.out BK308.out (by decide)) (fun _ hk => hk.2) (.slice Ao26 t301.length co26)) (fun _ hk => hk.2) (.slice Ao30 t304.length co30)) (fun _ h_ => h_.1))) (by decide)) hk (fun _ h => h.2)) (fun _ h => h.1)); replace HO306 := a0_ (Kd.N_mono (Kd.N_keep (Kd.N_mono (ok := fun k_ => ((((w.heap.size ≤ k_)) ∧ (some k_ ≠ (.slice Ao26 t301.length co26 : Value).ownBlock ∧ (k_ ≠ gb300 ∧ k_ ≠ g))) ∧ k_ ≠ gb308)) (by (with_reducible repeat (first | apply Kd.N_alloc | apply Kd.N_drewN | apply Kd.N_drew)); exact (Kd.N_mono (Kd.N_far (p := ⟨gb308, 1, none⟩) (Kd.N_far (p := ⟨gb308, 0, none⟩) (Kd.N_mono HO306.out (fun k_ hk => (⟨hk, hk.2⟩ : _ ∧ k_ ≠ gb308))) (fun _ hk => hk.2) (.slice Ao26 t301.length co26)) (fun _ hk => hk.2) (.slice Ao30 t304.length co30)) (fun _ h_ => h_.1))) (fun k_ hk_ => (⟨hk_, hk_.1.2.2.2⟩ : _ ∧ k_ ≠ g))) hk (fun _ h => h.2)) (fun _ h => h.1)); replace BK308 := a0_ (KeepBut.blk hk (g' := gb308) (o := .cells #[.slice Ao26 t301.length co26, .slice Ao30 t304.length co30] 26 (0, 0)) (by (with_reducible repeat (first | refine blk_drewN ?_ _ | refine blk_drew ?_ | refine blk_alloc ?_ _)); refine blk_put (cs := #[.slice Ao26 t301.length co26, .slice none 0 0]) ?_ 1 _ rfl; (with_reducible repeat (first | refine blk_drewN ?_ _ | refine blk_drew ?_ | refine blk_alloc ?_ _)); refine blk_put (cs := #[.slice none 0 0, .slice none 0 0]) ?_ 0 _ rfl; (with_reducible repeat (first | refine blk_drewN ?_ _ | refine blk_drew ?_ | refine blk_alloc ?_ _)); exact BK308.out) NB308_0.out (by simp)); replace HK := kk_ HK hk; replace HB := a0_ (hb); replace HI0 := a0_ (hi); (try clear hi hb hk)))
    replace HO303 := a0_ (Kd.R_drew HO303.out)
    replace HO306 := a0_ (Kd.N_drew HO306.out)
    replace BK300 := a0_ (blk_drew BK300.out)
    replace BK308 := a0_ (blk_drew BK308.out)
    replace HI0 := a0_ (IsS123.drew HI0.out)
    replace HK := a0_ (keep_drew HK.out)
    replace HB := a0_ (below_drew1 HB.out)
    refine start_ (n := 8) (S := fun w' => w'.cell? ⟨gb308, 0, none⟩ = some (.slice Ao26 t301.length co26) ∧ w'.cell? ⟨gb308, 1, none⟩ = some (.slice Ao30 t304.length co30)) (ds := [7]) (Array.replicate 8 false) (by kernel_rfl) rfl rfl ⟨bc_, bc_⟩ (fun hHeld => ?_); refine with_tabW spec_l71Plate.tab6 spec_l71Plate.bits6 (fun HT_ HW_ => ?_)
    generalize w31.drew = w32 at HO303 HO306 BK300 BK308 HI0 HK HB hHeld ⊢
    refine pu_ HT_ 0 15 (bm 8 1) ?_
    refine pu_ HT_ 2 17 (bm 8 5) ?_
    refine ta2_ HT_ HW_ 1 16 (bm 8 7) hHeld ?_
    refine one_ (i := 3) (N := some 18) (bm 8 15) rfl rfl (one_of HT_.out (by kernel_rfl)) (by decide) (fun K hK => ?_)
    refine goes_ Tryd.func92 (by kernel_rfl) rfl #[.pointer (some ⟨g, 0, none⟩)] (by rfl) rfl rfl ma_ ?_
    with_reducible refine (spec_l71Loop.calls k g s0_0 t310 t315 t318 w0 _ hI_ hBs_ A21.out).mono ?_
    rintro e w33 ⟨v316, rfl, ho0, hi, hb, hk⟩
    refine ⟨_, rfl, ?_⟩
    have HO317 := a0_ (Kd.R_lower (Kd.R_new' (Kd.R_newM (M := fun k_ => (w.heap.size ≤ k_)) ho0 (keep_size (w := w) (g := g) (row := none) (hK_ HK)) (fun k_ h_ => h_)) (Kd.R_lt (uR_ HO303))) (keep_size (w := w) (g := g) (row := none) (hK_ HK)))
    replace BK300 := a0_ (KeepBut.blk hk (g' := gb300) (o := .cells #[.slice none 0 0, .slice none 0 0] 26 (0, 0)) uq_ NB300_0.out (by simp))
    replace HO303 := a0_ (Kd.R_mono (Kd.R_told (Kd.R_oldK (IsS123.apart (show IsS123 w0 _ g s0_0 t310 from hI_) (uR_ HO303) (by decide)) hk) (Kd.R_base ho0)) (fun _ h_ => h_.1))
    replace HO306 := a0_ (Kd.N_mono (Kd.N_told (Kd.N_oldK (Kd.N_mono (ok := fun k_ => ((((w.heap.size ≤ k_)) ∧ (some k_ ≠ (.slice Ao26 t301.length co26 : Value).ownBlock ∧ (k_ ≠ gb300 ∧ k_ ≠ g))) ∧ k_ ≠ gb308)) (uN_ HO306) (fun k_ hk_ => (⟨hk_, hk_.1.2.2.2⟩ : _ ∧ k_ ≠ g))) hk) (Kd.R_base ho0)) (fun _ h_ => h_.1))
    replace BK308 := a0_ (KeepBut.blk hk (g' := gb308) (o := .cells #[.slice Ao26 t301.length co26, .slice Ao30 t304.length co30] 26 (0, 0)) uq_ NB308_0.out (by simp))
    replace HK := kk_ HK hk
    replace HB := a0_ (hb)
    replace HI0 := a0_ (hi)
    (try clear hb)
    (try clear hb2)
    (try clear hk)
    (try clear hi)
    (try clear ho0)
    obtain ⟨Ao35, co35, eo35⟩ := Kd.R_slice HO317.out
    (first | subst eo35 | (injection eo35 with f1_ f2_ f3_; have f4_ := f1_.symm; have f5_ := f3_.symm; clear f1_ f2_ f3_; subst f4_; subst f5_))
    refine hK.out _ _ ⟨bc_, bc_⟩ (fun hHeld => ?_)
    clear hK K
    refine no_ (h := ?_)
    refine one_ (i := 4) (N := some 19) (bm 8 31) rfl rfl (one_of HT_.out (by kernel_rfl)) (by decide) (fun K hK => ?_)
    refine value_ (w1 := ?_) (v := ?_) (by rfl) rfl ?_ ?_
    rotate_left 2
    ·
     go_simp
     constructor
     ·
      rfl
     ·
      rfl
    refine hK.out _ _ ⟨(blk_cell (blk_alloc BK308.out _) 0).trans rfl, (blk_cell (blk_alloc BK308.out _) 1).trans rfl⟩ (fun hHeld => ?_)
    clear hK K
    refine no_ (h := ?_)
    refine one_ (i := 5) (N := some 20) (bm 8 63) rfl rfl (one_of HT_.out (by kernel_rfl)) (by decide) (fun K hK => ?_)
    refine Kd.N_append_step (Kd.slice 28 k28) w.heap.size (by rfl) (.tmp 16) (.tmp 19) 24 23 (.slice none 0 0) 24 rfl Tryd.underlying24 info23 rfl (by decide) (by omega) (.slice Ao30 t304.length co30) t304 t315 [.slice Ao35 t315.length co35] (fun k_ => (w.heap.size ≤ k_) ∧ some k_ ≠ (.slice Ao26 t301.length co26 : Value).ownBlock ∧ k_ ≠ gb300 ∧ k_ ≠ gb308 ∧ k_ ≠ g) (fun k_ => ((fun k_ => (w.heap.size ≤ k_) ∧ some k_ ≠ (.slice Ao26 t301.length co26 : Value).ownBlock ∧ k_ ≠ gb300 ∧ k_ ≠ gb308 ∧ k_ ≠ g)) k_ ∧ some k_ ≠ (.slice Ao30 t304.length co30 : Value).ownBlock) rfl rfl ?aP (fun _ hk => hk) ?aF ?aO (Below.refl _ _) ?aS ?aL ?_
    (case aP => exact (Kd.FK_slice_mk (Kd.R_reads' (Kd.R_mono (ok' := (fun k_ => ((fun k_ => (w.heap.size ≤ k_) ∧ some k_ ≠ (.slice Ao26 t301.length co26 : Value).ownBlock ∧ k_ ≠ gb300 ∧ k_ ≠ gb308 ∧ k_ ≠ g)) k_ ∧ some k_ ≠ (.slice Ao30 t304.length co30 : Value).ownBlock)) (IsS123.apart HI0.out (Kd.R_types (Kd.R_types (Kd.R_apart' (HO317.out) (Kd.N_typed HO306.out) (by decide)) BK300.out (by decide)) BK308.out (by decide)) (by decide)) (fun k_ hk => ⟨⟨hk.1.1.1.1.1.1, ⟨hk.1.1.1.1.2, ⟨hk.1.1.2, ⟨hk.1.2, hk.2⟩⟩⟩⟩, hk.1.1.1.2⟩))).2.1 (Kd.R_F (Kd.R_mono (ok' := (fun k_ => ((fun k_ => (w.heap.size ≤ k_) ∧ some k_ ≠ (.slice Ao26 t301.length co26 : Value).ownBlock ∧ k_ ≠ gb300 ∧ k_ ≠ gb308 ∧ k_ ≠ g)) k_ ∧ some k_ ≠ (.slice Ao30 t304.length co30 : Value).ownBlock)) (IsS123.apart HI0.out (Kd.R_types (Kd.R_types (Kd.R_apart' (HO317.out) (Kd.N_typed HO306.out) (by decide)) BK300.out (by decide)) BK308.out (by decide)) (by decide)) (fun k_ hk => ⟨⟨hk.1.1.1.1.1.1, ⟨hk.1.1.1.1.2, ⟨hk.1.1.2, ⟨hk.1.2, hk.2⟩⟩⟩⟩, hk.1.1.1.2⟩)))))
    (case aF => exact (fun k_ hk => ⟨(Nat.le_trans (keep_size (w := w) (g := g) (row := none) (hK_ HK)) hk), Kd.fresh' (Kd.R_lt (uR_ HO303)) k_ hk, Kd.freshB (g := gb300) (o := .cells #[.slice none 0 0, .slice none 0 0] 26 (0, 0)) uq_ k_ hk, Kd.freshB (g := gb308) (o := .cells #[.slice Ao26 t301.length co26, .slice Ao30 t304.length co30] 26 (0, 0)) uq_ k_ hk, IsS123.fresh hI_ k_ hk⟩))
    (case aO => exact (by (with_reducible repeat (first | apply Kd.N_alloc | apply Kd.N_drewN | apply Kd.N_drew)); exact Kd.N_mono HO306.out (fun _ hk => ⟨hk.1.1.1, ⟨hk.1.1.2.1, ⟨hk.1.1.2.2.1, ⟨hk.1.2, hk.1.1.2.2.2⟩⟩⟩⟩)))
    (case aS => exact (keep_size (w := w) (g := g) (row := none) (hK_ HK)))
    (case aL => have := LMc22.out; omega)
    intro v320 w34 ho hb hg hat
    rw [← Ny319.out] at ho
    have HO321 := a0_ (ho)
    replace BK300 := a0_ (blk_grown (g := gb300) (o := .cells #[.slice none 0 0, .slice none 0 0] 26 (0, 0)) uq_ hg (Kd.N_ne HO306.out BK300.out (by decide)))
    replace HO303 := a0_ (Kd.R_over' (uR_ HO303) (Kd.N_typed (uN_ HO306)) (by decide) hg)
    replace BK308 := a0_ (blk_grown (g := gb308) (o := .cells #[.slice Ao26 t301.length co26, .slice Ao30 t304.length co30] 26 (0, 0)) uq_ hg (Kd.N_ne HO306.out BK308.out (by decide)))
    replace HB := a0_ (below_weaken hBs_ HL.out hb)
    replace HI0 := a0_ (IsS123.grown hI_ hg (IsS123.own_neN HI0.out HO306.out (by decide)))
    replace HK := a0_ (KeepBut.trans (hK_ HK) (KeepBut.of_grown hg g) (Kd.N_base2 HO306.out))
    clear HO306 HO317
    clear ho hb hg hat
    obtain ⟨Ao36, co36, eo36⟩ := Kd.N_slice HO321.out
    (first | subst eo36 | (injection eo36 with f1_ f2_ f3_; have f4_ := f1_.symm; have f5_ := f3_.symm; clear f1_ f2_ f3_; subst f4_; subst f5_))
    refine hK.out _ _ ⟨bc_, bc_⟩ (fun hHeld => ?_)
    clear hK K
    refine no_ (h := ?_)
    refine pu_ HT_ 6 21 (bm 8 127) ?_
    refine last_ (i := 7) (N := none) (bm 8 255) rfl rfl (one_of HT_.out (by kernel_rfl)) (by decide) (fun K hK => ?_)
    have hs37 : w34.cell? ⟨gb308, 1, none⟩ = some (.slice Ao30 t304.length co30) := bc_
    have hfs37 := blk_frozen BK308.out 1
    have hns37_0 := NB300_308.out
    have hms37_0 := NB308_300.out
    refine skip_ (w1 := ?_) (by rfl) rfl ?_ ?_
    rotate_left
    ·
     go_simp
     rfl
    refine hK.out _ _ ?_
    clear hK K
    refine done_ (done_of HT_.out (by kernel_rfl)) ?_
    have hcz38_0 := c20_ BK308
    have hcz38_1 := c21_ BK308
    have hfz38_0 := fz_ BK308 0
    have hfz38_1 := fz_ BK308 1
    have hnb39 := NB300_0.out
    have hnc39 := NB0_300.out
    have hcz40_0 := c20_ BK300
    have hcz40_1 := c21_ BK300
    have hfz40_0 := fz_ BK300 0
    have hfz40_1 := fz_ BK300 1
    try go_wp2
    refine bodyPost_ret (results_cell_row rfl _ _ gb300 26 #[.slice Ao26 t301.length co26, .slice Ao36 y319.length co36] (0, 0) _ rfl (by (with_reducible repeat (first | refine blk_drewN ?_ _ | refine blk_drew ?_ | refine blk_alloc ?_ _)); refine blk_put (cs := #[.slice Ao26 t301.length co26, .slice none 0 0]) ?_ 1 _ rfl; (with_reducible repeat (first | refine blk_drewN ?_ _ | refine blk_drew ?_ | refine blk_alloc ?_ _)); refine blk_put (cs := #[.slice none 0 0, .slice none 0 0]) ?_ 0 _ rfl; (with_reducible repeat (first | refine blk_drewN ?_ _ | refine blk_drew ?_ | refine blk_alloc ?_ _)); refine blk_far ?_ NB300_308.out _; (with_reducible repeat (first | refine blk_drewN ?_ _ | refine blk_drew ?_ | refine blk_alloc ?_ _)); exact BK300.out) Tryd.underlying26 rfl (by kernel_rfl)) rfl ?_
    exact ⟨_, _, rr_, by (with_reducible repeat (first | apply Kd.R_alloc | apply Kd.R_drewN | apply Kd.R_drew)); exact Kd.R_mono (Kd.R_far (p := ⟨gb300, 1, none⟩) (Kd.R_far (p := ⟨gb300, 0, none⟩) (Kd.R_far (p := ⟨gb308, 1, none⟩) (Kd.R_types (Kd.R_types HO303.out BK308.out (by decide)) BK300.out (by decide)) (fun _ hk => hk.1.2) (.slice Ao36 y319.length co36)) (fun _ hk => hk.2) (.slice Ao26 t301.length co26)) (fun _ hk => hk.2) (.slice Ao36 y319.length co36)) (fun _ hk => hk.1.1.1.1), by (with_reducible repeat (first | apply Kd.N_alloc | apply Kd.N_drewN | apply Kd.N_drew)); exact Kd.N_mono (Kd.N_far (p := ⟨gb300, 1, none⟩) (Kd.N_far (p := ⟨gb300, 0, none⟩) (Kd.N_far (p := ⟨gb308, 1, none⟩) (Kd.N_mono (Kd.N_mono HO321.out (fun k_ hk => (⟨hk, hk.2.2.2.1⟩ : _ ∧ k_ ≠ gb308))) (fun k_ hk => (⟨hk, hk.1.2.2.1⟩ : _ ∧ k_ ≠ gb300))) (fun _ hk => hk.1.2) (.slice Ao36 y319.length co36)) (fun _ hk => hk.2) (.slice Ao26 t301.length co26)) (fun _ hk => hk.2) (.slice Ao36 y319.length co36)) (fun _ hk => ⟨hk.1.1.1, hk.1.1.2.1⟩), by repeat (first | (with_reducible first | exact HI0.out | apply IsS123.alloc | apply IsS123.drewN | apply IsS123.drew | apply IsS123.set_1 | refine IsS123.far ?_ NB0_300.out _ | refine IsS123.far ?_ NB0_308.out _) | exact HI0.out), by repeat (first | (with_reducible first | exact HB.out | apply below_alloc | apply pw_below_drewN | apply below_drew1 | refine below_set ?_ (IsS123.ge HI0.out) | refine below_set ?_ GE300.out | refine below_set ?_ GE308.out) | exact HB.out), by repeat (first | (with_reducible first | exact HK.out | apply KeepBut.set_ | apply keep_drewN | apply keep_drew | apply keep_alloc | refine keep_far ?_ GW300.out _ | refine keep_far ?_ GW308.out _) | exact HK.out)⟩
   ·
    rw [if_neg c22] at H
    exact absurd H (by simp)
  ·
   rw [if_neg c20] at H
   have c20b0 : (t309 == 1) = false := beq_eq_false_iff_ne.mpr c20
   have c20b1 : (t309 != 1) = true := bne_iff_ne.mpr c20
   by_cases c41 : t309 = 2
   ·
    rw [if_pos c41] at H
    have c41b0 : (t309 == 2) = true := beq_iff_eq.mpr c41
    have c41b1 : (t309 != 2) = false := bne_eq_false_iff_eq.mpr c41
    clear c41
    obtain ⟨y322, hy322⟩ : ∃ y_ : List (S28), y_ = (([] : List (S28))) := ⟨_, rfl⟩
    replace H : (if y322.length + t301.length < 8796093022208 then ((some (y322 ++ t301 : List (S28))).bind fun y325 => ((spec_l71Pt.f k s0_0 t310).bind fun bt328 => (if y325.length < 8796093022208 then (some ((y325 ++ [(⟨bt328.1, bt328.2.1⟩ : S28)]), t304, bt328.2.2)) else (none)))) else (none)) = some (r1, r2, r3) := by first | (rw [hy322]; with_reducible exact H) | (have H2_ := (Option.bind_some _ _).symm.trans H; rw [hy322]; with_reducible exact H2_) | (have H2_ := (Option.bind_some _ _).symm.trans H; with_reducible exact H2_) | with_reducible exact H | (rw [hy322]; exact H) | exact H
    have Ny322 := Aside0.mk hy322
    clear hy322
    by_cases c42 : y322.length + t301.length < 8796093022208
    ·
     rw [if_pos c42] at H
     have LMc42 := Aside0.mk c42
     clear c42
     obtain ⟨y325, hy325⟩ : ∃ y_ : List (S28), y_ = (y322 ++ t301) := ⟨_, rfl⟩
     replace H : ((spec_l71Pt.f k s0_0 t310).bind fun bt328 => (if y325.length < 8796093022208 then (some ((y325 ++ [(⟨bt328.1, bt328.2.1⟩ : S28)]), t304, bt328.2.2)) else (none))) = some (r1, r2, r3) := by first | (rw [hy325]; with_reducible exact H) | (have H2_ := (Option.bind_some _ _).symm.trans H; rw [hy325]; with_reducible exact H2_) | (have H2_ := (Option.bind_some _ _).symm.trans H; with_reducible exact H2_) | with_reducible exact H | (rw [hy325]; exact H) | exact H
     have Ny325 := Aside0.mk hy325
     clear hy325
     replace H := Option.bind_eq_some_iff.mp H
     obtain ⟨⟨t328, t329, t330⟩, A430, H⟩ := H
     (try dsimp only at H)
     have A43 := Aside0.mk A430
     clear A430
     by_cases c44 : y325.length < 8796093022208
     ·
      rw [if_pos c44] at H
      have LMc44 := Aside0.mk c44
      clear c44
      obtain ⟨y331, hy331⟩ : ∃ y_ : List (S28), y_ = (y325 ++ [(⟨t328, t329⟩ : S28)]) := ⟨_, rfl⟩
      replace H : (some (y331, t304, t330)) = some (r1, r2, r3) := by first | (rw [hy331]; with_reducible exact H) | (have H2_ := (Option.bind_some _ _).symm.trans H; rw [hy331]; with_reducible exact H2_) | (have H2_ := (Option.bind_some _ _).symm.trans H; with_reducible exact H2_) | with_reducible exact H | (rw [hy331]; exact H) | exact H
      have Ny331 := Aside0.mk hy331
      clear hy331
      simp only [Option.some.injEq, Prod.mk.injEq] at H
      obtain ⟨rfl, rfl, rfl⟩ := H
      go_enter Tryd.func50, Tryd.ntmps50
      go_wp2_with (first | ((with_reducible refine gate_dst (N := 2) rfl ?_); refine bx_ (N := 2) (cs := #[.slice none 0 0, .slice none 0 0]) (t := 26) (h := ?_); intro gb300 hg w45 hbox hb; have BK300 := a0_ (hbox); have GW300 := gw_ HK hg; have GE300 := a0_ ((Nat.le_trans HW0.out (gw_ HK hg).out)); have NB0_300 := sl_ HI0 hg; have NB300_0 := sr_ HI0 hg; replace HK := kb_ HK hb; replace HB := a0_ (below_step hBs_ hb); replace HI0 := a0_ (IsS123.below hI_ hb); clear hb hbox hg) | ((with_reducible refine gate_callee (f := 91) rfl ?_); refine gL_ (some 5) Tryd.func91 #[.pointer (some ⟨g, 0, none⟩)] (h := ?_); (with_reducible refine (spec_l71Good.calls k g s0_0 s0_1 t301 t304 t307 w0 _ hI_ hBs_ A2.out).mono ?_); rintro e w46 ⟨v302, v305, rfl, ho0, ho1, hi, hb, hk⟩; refine ⟨_, rfl, ?_⟩; have HO303 := a0_ (Kd.R_lower (Kd.R_newM (M := fun k_ => (w.heap.size ≤ k_)) (Kd.R_mono (ok' := fun k_ => True) ho0 (fun _ hk_ => trivial)) (keep_size (w := w) (g := g) (row := none) (hK_ HK)) (fun k_ h_ => h_)) (keep_size (w := w) (g := g) (row := none) (hK_ HK))); have HO306 := a0_ (Kd.N_lower (Kd.N_mono (ok' := fun k_ => (w.heap.size ≤ k_) ∧ some k_ ≠ (v302 : Value).ownBlock ∧ k_ ≠ gb300 ∧ k_ ≠ g) ho1 (fun k_ hk_ => ⟨(Nat.le_trans (keep_size (w := w) (g := g) (row := none) (hK_ HK)) hk_.1), hk_.2, (Kd.freshB (g := gb300) (o := .cells #[.slice none 0 0, .slice none 0 0] 26 (0, 0)) uq_ k_ hk_.1), (IsS123.fresh hI_ k_ hk_.1)⟩)) (keep_size (w := w) (g := g) (row := none) (hK_ HK))); replace BK300 := a0_ (KeepBut.blk hk (g' := gb300) (o := .cells #[.slice none 0 0, .slice none 0 0] 26 (0, 0)) uq_ NB300_0.out (by simp)); replace HK := kk_ HK hk; replace HB := a0_ (hb); replace HI0 := a0_ (hi); (try clear ho0 ho1 hi hb hk)) | ((with_reducible refine gate_dst (N := 3) rfl ?_); refine bx_ (N := 3) (cs := #[.slice none 0 0, .slice none 0 0]) (t := 26) (h := ?_); intro gb308 hg w47 hbox hb; have BK308 := a0_ (hbox); have GW308 := gw_ HK hg; have GE308 := a0_ ((Nat.le_trans HW0.out (gw_ HK hg).out)); have NB300_308 := nl_ BK300 hg; have NB308_300 := nr_ BK300 hg; have NB0_308 := sl_ HI0 hg; have NB308_0 := sr_ HI0 hg; replace HO303 := rb_ HO303 hb; replace HO306 := a0_ (Kd.N_below (Kd.N_elderB (uN_ HO306) gb308 (Nat.le_of_eq hg.symm)) hb); replace BK300 := vb_ BK300 hb; replace HK := kb_ HK hb; replace HB := a0_ (below_step hBs_ hb); replace HI0 := a0_ (IsS123.below hI_ hb); clear hb hbox hg; obtain ⟨Ao48, co48, eo48⟩ := Kd.R_slice HO303.out; subst eo48; have hnb49 := NB308_300.out; have hnc49 := NB300_308.out; have hnb50 := NB308_0.out; have hnc50 := NB0_308.out; have hcz51_0 := c20_ BK308; have hcz51_1 := c21_ BK308; have hfz51_0 := fz_ BK308 0; have hfz51_1 := fz_ BK308 1; obtain ⟨Ao52, co52, eo52⟩ := Kd.N_slice HO306.out; subst eo52) | ((with_reducible refine gate_callee (f := 74) rfl ?_); refine gL_ (some 7) Tryd.func74 #[.pointer (some ⟨g, 0, none⟩), .int .i64 24] (h := ?_); (with_reducible refine (spec_l6Rd_pick.calls k g s0_0 t307 24 t309 t310 w0 _ hI_ hBs_ A3.out).mono ?_); rintro e w53 ⟨rfl, hi, hb, hk⟩; refine ⟨_, rfl, ?_⟩; replace BK300 := a0_ (KeepBut.blk hk (g' := gb300) (o := .cells #[.slice none 0 0, .slice none 0 0] 26 (0, 0)) uf_ NB300_0.out (by simp)); replace HO303 := a0_ (Kd.R_mono (Kd.R_keep (IsS123.apart (show IsS123 w0 _ g s0_0 t307 from hI_) (by (with_reducible repeat (first | apply Kd.R_alloc | apply Kd.R_drewN | apply Kd.R_drew)); exact (Kd.R_mono (Kd.R_far (p := ⟨gb308, 1, none⟩) (Kd.R_far (p := ⟨gb308, 0, none⟩) (Kd.R_types HO303.out BK308.out (by decide)) (fun _ hk => hk.2) (.slice Ao48 t301.length co48)) (fun _ hk => hk.2) (.slice Ao52 t304.length co52)) (fun _ h_ => h_.1))) (by decide)) hk (fun _ h => h.2)) (fun _ h => h.1)); replace HO306 := a0_ (Kd.N_mono (Kd.N_keep (Kd.N_mono (ok := fun k_ => ((((w.heap.size ≤ k_)) ∧ (some k_ ≠ (.slice Ao48 t301.length co48 : Value).ownBlock ∧ (k_ ≠ gb300 ∧ k_ ≠ g))) ∧ k_ ≠ gb308)) (by (with_reducible repeat (first | apply Kd.N_alloc | apply Kd.N_drewN | apply Kd.N_drew)); exact (Kd.N_mono (Kd.N_far (p := ⟨gb308, 1, none⟩) (Kd.N_far (p := ⟨gb308, 0, none⟩) (Kd.N_mono HO306.out (fun k_ hk => (⟨hk, hk.2⟩ : _ ∧ k_ ≠ gb308))) (fun _ hk => hk.2) (.slice Ao48 t301.length co48)) (fun _ hk => hk.2) (.slice Ao52 t304.length co52)) (fun _ h_ => h_.1))) (fun k_ hk_ => (⟨hk_, hk_.1.2.2.2⟩ : _ ∧ k_ ≠ g))) hk (fun _ h => h.2)) (fun _ h => h.1)); replace BK308 := a0_ (KeepBut.blk hk (g' := gb308) (o := .cells #[.slice Ao48 t301.length co48, .slice Ao52 t304.length co52] 26 (0, 0)) (by (with_reducible repeat (first | refine blk_drewN ?_ _ | refine blk_drew ?_ | refine blk_alloc ?_ _)); refine blk_put (cs := #[.slice Ao48 t301.length co48, .slice none 0 0]) ?_ 1 _ rfl; (with_reducible repeat (first | refine blk_drewN ?_ _ | refine blk_drew ?_ | refine blk_alloc ?_ _)); refine blk_put (cs := #[.slice none 0 0, .slice none 0 0]) ?_ 0 _ rfl; (with_reducible repeat (first | refine blk_drewN ?_ _ | refine blk_drew ?_ | refine blk_alloc ?_ _)); exact BK308.out) NB308_0.out (by simp)); replace HK := kk_ HK hk; replace HB := a0_ (hb); replace HI0 := a0_ (hi); (try clear hi hb hk)) | ((with_reducible refine gate_dst (N := 24) rfl ?_); refine Kd.R_lit k28 _ 28 ?hg (N := 24) ?hd (xs := ([] : List (S28))) (inner := []) (ok := fun _ => True) (okp := fun _ => True) ?hr ?hp (fun _ hk => hk) trivial (Below.refl _ _) (Nat.le_refl _) (by simp) ?_; (case hd => rfl); (case hg => rfl); (case hr => first | (go_simp; done) | (go_simp; rfl)); (case hp => exact (Reps.none _ _)); intro v323 w54 ho55 hb hg_ hnew_; clear hg_ hnew_; (first | rw [← Ny322.out] at ho55 | (simp only [Int.reduceToNat] at ho55; rw [← Ny322.out] at ho55)); have HO324 := a0_ (Kd.R_lower (Kd.R_new' (Kd.R_newM (M := fun k_ => (w.heap.size ≤ k_)) ho55 (keep_size (w := w) (g := g) (row := none) (hK_ HK)) (fun k_ h_ => h_)) (Kd.R_lt (uR_ HO303))) (keep_size (w := w) (g := g) (row := none) (hK_ HK))); replace HO303 := a0_ (Kd.R_elder' (uR_ HO303) (Kd.R_base ho55) hb); replace HO306 := a0_ (Kd.N_elder' (uN_ HO306) (Kd.R_base ho55) hb); replace BK300 := vb_ BK300 hb; replace BK308 := vb_ BK308 hb; replace HK := kb_ HK hb; replace HB := a0_ (below_step hBs_ hb); replace HI0 := a0_ (IsS123.below hI_ hb); clear hb ho55; have hcz56_0 := c20_ BK308; have hcz56_1 := c21_ BK308; have hfz56_0 := fz_ BK308 0; have hfz56_1 := fz_ BK308 1) | ((with_reducible refine gate_builtin (b := .append) (xs := #[.tmp 24, .tmp 26]) rfl ?_); at_builtin; refine Kd.R_append_rows k28 w.heap.size rfl (.tmp 24) (.tmp 26) 23 28 (.agg #[(.int .i64 0), (.int .i64 0)]) 16 rfl Tryd.underlying23 info28 rfl (by decide) (by omega) v323 y322 t301 _ _ _ (fun k_ => (w.heap.size ≤ k_) ∧ some k_ ≠ (.slice Ao48 t301.length co48 : Value).ownBlock) (fun _ => False) rfl rfl ?aO ?aR (fun _ _ h => h) (fun _ h => h.elim) ?aF (Below.refl _ _) ?aS ?aL ?_; (case aR => repeat (first | exact (Kd.R_reads' HO303.out).2.2 | (with_reducible refine Kd.C_alloc ?_ _) | (with_reducible refine Kd.C_drewN ?_ _) | (with_reducible refine Kd.C_drew ?_))); (case aF => exact (fun k_ hk => ⟨(Nat.le_trans (keep_size (w := w) (g := g) (row := none) (hK_ HK)) hk), Kd.fresh' (Kd.R_lt (uR_ HO303)) k_ hk⟩)); (case aO => exact (by (with_reducible repeat (first | apply Kd.R_alloc | apply Kd.R_drewN | apply Kd.R_drew)); exact Kd.R_mono HO324.out (fun _ hk => ⟨hk.1.1, hk.2⟩))); (case aS => exact (keep_size (w := w) (g := g) (row := none) (hK_ HK))); (case aL => have := LMc42.out; omega); intro v326 w57 ho hb hg hat; rw [← Ny325.out] at ho; have HO327 := a0_ (ho); replace BK300 := a0_ (blk_grown (g := gb300) (o := .cells #[.slice none 0 0, .slice none 0 0] 26 (0, 0)) uq_ hg (Kd.R_ne HO324.out BK300.out (by decide))); replace HO303 := a0_ (Kd.R_after (ok := (fun k_ => (w.heap.size ≤ k_))) (by (with_reducible repeat (first | apply Kd.R_alloc | apply Kd.R_drewN | apply Kd.R_drew)); exact Kd.R_mono HO303.out (fun _ hk => ⟨hk.1.1, hk.2⟩)) hg hat); replace HO306 := a0_ (Kd.N_afterv (ok := (fun k_ => (w.heap.size ≤ k_) ∧ some k_ ≠ (.slice Ao48 t301.length co48 : Value).ownBlock ∧ k_ ≠ gb300 ∧ k_ ≠ g ∧ k_ ≠ gb308)) (by (with_reducible repeat (first | apply Kd.N_alloc | apply Kd.N_drewN | apply Kd.N_drew)); exact Kd.N_mono HO306.out (fun _ hk => ⟨⟨hk.1.1.1, ⟨hk.1.1.2.1, ⟨hk.1.1.2.2.1, ⟨hk.1.1.2.2.2, hk.1.2⟩⟩⟩⟩, hk.2⟩)) hg hat); replace BK308 := a0_ (blk_grown (g := gb308) (o := .cells #[.slice Ao48 t301.length co48, .slice Ao52 t304.length co52] 26 (0, 0)) uq_ hg (Kd.R_ne HO324.out BK308.out (by decide))); replace HB := a0_ (below_weaken hBs_ HL.out hb); replace HI0 := a0_ (IsS123.grown hI_ hg (IsS123.own_ne HI0.out HO324.out (by decide))); replace HK := a0_ (KeepBut.trans (hK_ HK) (KeepBut.of_grown hg g) (Kd.R_base2 HO324.out)); clear HO324; clear ho hb hg hat) | ((with_reducible refine gate_callee (f := 51) rfl ?_); refine gL_ (some 29) Tryd.func51 #[.pointer (some ⟨g, 0, none⟩)] (h := ?_); (with_reducible refine (spec_l71Pt.calls k g s0_0 t310 t328 t329 t330 w0 _ hI_ hBs_ A43.out).mono ?_); rintro e w58 ⟨rfl, hi, hb, hk⟩; refine ⟨_, rfl, ?_⟩; replace BK300 := a0_ (KeepBut.blk hk (g' := gb300) (o := .cells #[.slice none 0 0, .slice none 0 0] 26 (0, 0)) uq_ NB300_0.out (by simp)); replace HO303 := a0_ (Kd.R_mono (Kd.R_keep (IsS123.apart (show IsS123 w0 _ g s0_0 t310 from hI_) (uR_ HO303) (by decide)) hk (fun _ h => h.2)) (fun _ h => h.1)); replace HO306 := a0_ (Kd.N_mono (Kd.N_keep (Kd.N_mono (ok := fun k_ => ((((w.heap.size ≤ k_)) ∧ (some k_ ≠ (.slice Ao48 t301.length co48 : Value).ownBlock ∧ (k_ ≠ gb300 ∧ (k_ ≠ g ∧ k_ ≠ gb308)))) ∧ some k_ ≠ (v326 : Value).ownBlock)) (uN_ HO306) (fun k_ hk_ => (⟨hk_, hk_.1.2.2.2.1⟩ : _ ∧ k_ ≠ g))) hk (fun _ h => h.2)) (fun _ h => h.1)); replace BK308 := a0_ (KeepBut.blk hk (g' := gb308) (o := .cells #[.slice Ao48 t301.length co48, .slice Ao52 t304.length co52] 26 (0, 0)) uq_ NB308_0.out (by simp)); replace HO327 := a0_ (Kd.R_mono (Kd.R_keep (IsS123.apart (show IsS123 w0 _ g s0_0 t310 from hI_) (uR_ HO327) (by decide)) hk (fun _ h => h.2)) (fun _ h => h.1)); replace HK := kk_ HK hk; replace HB := a0_ (hb); replace HI0 := a0_ (hi); (try clear hi hb hk)) | ((with_reducible refine gate_builtin (b := .append) (xs := #[.tmp 27, .tmp 30]) rfl ?_); at_builtin; refine Kd.R_append k28 w.heap.size rfl (.tmp 27) (.tmp 30) 23 28 (.agg #[(.int .i64 0), (.int .i64 0)]) 16 rfl Tryd.underlying23 info28 rfl (by decide) (by omega) v326 y325 (⟨t328, t329⟩ : S28) [.int .i64 t328, .int .i64 t329] (fun k_ => (w.heap.size ≤ k_) ∧ some k_ ≠ (.slice Ao48 t301.length co48 : Value).ownBlock) (fun _ => False) rfl rfl ?aP (fun _ hk => hk.elim) ?aF ?aO (Below.refl _ _) ?aS ?aL ?_; (case aP => exact k28_mkM _ _ _ (⟨t328, t329⟩ : S28)); (case aF => exact (fun k_ hk => ⟨(Nat.le_trans (keep_size (w := w) (g := g) (row := none) (hK_ HK)) hk), Kd.fresh' (Kd.R_lt (uR_ HO303)) k_ hk⟩)); (case aO => exact (uR_ HO327)); (case aS => exact (keep_size (w := w) (g := g) (row := none) (hK_ HK))); (case aL => have := LMc44.out; omega); intro v332 w59 ho hb hg hat; rw [← Ny331.out] at ho; have HO333 := a0_ (ho); replace BK300 := a0_ (blk_grown (g := gb300) (o := .cells #[.slice none 0 0, .slice none 0 0] 26 (0, 0)) uq_ hg (Kd.R_ne HO327.out BK300.out (by decide))); replace HO303 := a0_ (Kd.R_after (ok := (fun k_ => (w.heap.size ≤ k_))) (uR_ HO303) hg hat); replace HO306 := a0_ (Kd.N_afterv (ok := (fun k_ => (w.heap.size ≤ k_) ∧ some k_ ≠ (.slice Ao48 t301.length co48 : Value).ownBlock ∧ k_ ≠ gb300 ∧ k_ ≠ g ∧ k_ ≠ gb308)) (uN_ HO306) hg hat); replace BK308 := a0_ (blk_grown (g := gb308) (o := .cells #[.slice Ao48 t301.length co48, .slice Ao52 t304.length co52] 26 (0, 0)) uq_ hg (Kd.R_ne HO327.out BK308.out (by decide))); replace HB := a0_ (below_weaken hBs_ HL.out hb); replace HI0 := a0_ (IsS123.grown hI_ hg (IsS123.own_ne HI0.out HO327.out (by decide))); replace HK := a0_ (KeepBut.trans (hK_ HK) (KeepBut.of_grown hg g) (Kd.R_base2 HO327.out)); clear HO327; clear ho hb hg hat; obtain ⟨Ao60, co60, eo60⟩ := Kd.R_slice HO333.out; subst eo60; have hcz61_0 := c20_ BK308; have hcz61_1 := c21_ BK308; have hfz61_0 := fz_ BK308 0; have hfz61_1 := fz_ BK308 1; have hnb62 := NB300_0.out; have hnc62 := NB0_300.out; have hcz63_0 := c20_ BK300; have hcz63_1 := c21_ BK300; have hfz63_0 := fz_ BK300 0; have hfz63_1 := fz_ BK300 1))
      refine bodyPost_ret (results_cell_row rfl _ _ gb300 26 #[.slice Ao60 y331.length co60, .slice Ao52 t304.length co52] (0, 0) _ rfl (by (with_reducible repeat (first | refine blk_drewN ?_ _ | refine blk_drew ?_ | refine blk_alloc ?_ _)); refine blk_put (cs := #[.slice Ao60 y331.length co60, .slice none 0 0]) ?_ 1 _ rfl; (with_reducible repeat (first | refine blk_drewN ?_ _ | refine blk_drew ?_ | refine blk_alloc ?_ _)); refine blk_put (cs := #[.slice none 0 0, .slice none 0 0]) ?_ 0 _ rfl; (with_reducible repeat (first | refine blk_drewN ?_ _ | refine blk_drew ?_ | refine blk_alloc ?_ _)); refine blk_far ?_ NB300_308.out _; (with_reducible repeat (first | refine blk_drewN ?_ _ | refine blk_drew ?_ | refine blk_alloc ?_ _)); exact BK300.out) Tryd.underlying26 rfl (by kernel_rfl)) rfl ?_
      exact ⟨_, _, rr_, by (with_reducible repeat (first | apply Kd.R_alloc | apply Kd.R_drewN | apply Kd.R_drew)); exact Kd.R_mono (Kd.R_far (p := ⟨gb300, 1, none⟩) (Kd.R_far (p := ⟨gb300, 0, none⟩) (Kd.R_far (p := ⟨gb308, 0, none⟩) (Kd.R_types (Kd.R_types HO333.out BK308.out (by decide)) BK300.out (by decide)) (fun _ hk => hk.1.2) (.slice Ao60 y331.length co60)) (fun _ hk => hk.2) (.slice Ao60 y331.length co60)) (fun _ hk => hk.2) (.slice Ao52 t304.length co52)) (fun _ hk => hk.1.1.1), by (with_reducible repeat (first | apply Kd.N_alloc | apply Kd.N_drewN | apply Kd.N_drew)); exact Kd.N_mono (Kd.N_far (p := ⟨gb300, 1, none⟩) (Kd.N_far (p := ⟨gb300, 0, none⟩) (Kd.N_far (p := ⟨gb308, 0, none⟩) (Kd.N_mono (Kd.N_mono HO306.out (fun k_ hk => (⟨hk, hk.1.2.2.2.2⟩ : _ ∧ k_ ≠ gb308))) (fun k_ hk => (⟨hk, hk.1.1.2.2.1⟩ : _ ∧ k_ ≠ gb300))) (fun _ hk => hk.1.2) (.slice Ao60 y331.length co60)) (fun _ hk => hk.2) (.slice Ao60 y331.length co60)) (fun _ hk => hk.2) (.slice Ao52 t304.length co52)) (fun _ hk => ⟨hk.1.1.1.1, hk.1.1.2⟩), by repeat (first | (with_reducible first | exact HI0.out | apply IsS123.alloc | apply IsS123.drewN | apply IsS123.drew | apply IsS123.set_1 | refine IsS123.far ?_ NB0_300.out _ | refine IsS123.far ?_ NB0_308.out _) | exact HI0.out), by repeat (first | (with_reducible first | exact HB.out | apply below_alloc | apply pw_below_drewN | apply below_drew1 | refine below_set ?_ (IsS123.ge HI0.out) | refine below_set ?_ GE300.out | refine below_set ?_ GE308.out) | exact HB.out), by repeat (first | (with_reducible first | exact HK.out | apply KeepBut.set_ | apply keep_drewN | apply keep_drew | apply keep_alloc | refine keep_far ?_ GW300.out _ | refine keep_far ?_ GW308.out _) | exact HK.out)⟩
     ·
      rw [if_neg c44] at H
      exact absurd H (by simp)
    ·
     rw [if_neg c42] at H
     exact absurd H (by simp)
   ·
    rw [if_neg c41] at H
    have c41b0 : (t309 == 2) = false := beq_eq_false_iff_ne.mpr c41
    have c41b1 : (t309 != 2) = true := bne_iff_ne.mpr c41
    simp only [Option.some.injEq, Prod.mk.injEq] at H
    obtain ⟨rfl, rfl, rfl⟩ := H
    go_enter Tryd.func50, Tryd.ntmps50
    go_wp2_with (first | ((with_reducible refine gate_dst (N := 2) rfl ?_); refine bx_ (N := 2) (cs := #[.slice none 0 0, .slice none 0 0]) (t := 26) (h := ?_); intro gb300 hg w64 hbox hb; have BK300 := a0_ (hbox); have GW300 := gw_ HK hg; have GE300 := a0_ ((Nat.le_trans HW0.out (gw_ HK hg).out)); have NB0_300 := sl_ HI0 hg; have NB300_0 := sr_ HI0 hg; replace HK := kb_ HK hb; replace HB := a0_ (below_step hBs_ hb); replace HI0 := a0_ (IsS123.below hI_ hb); clear hb hbox hg) | ((with_reducible refine gate_callee (f := 91) rfl ?_); refine gL_ (some 5) Tryd.func91 #[.pointer (some ⟨g, 0, none⟩)] (h := ?_); (with_reducible refine (spec_l71Good.calls k g s0_0 s0_1 t301 t304 t307 w0 _ hI_ hBs_ A2.out).mono ?_); rintro e w65 ⟨v302, v305, rfl, ho0, ho1, hi, hb, hk⟩; refine ⟨_, rfl, ?_⟩; have HO303 := a0_ (Kd.R_lower (Kd.R_newM (M := fun k_ => (w.heap.size ≤ k_)) (Kd.R_mono (ok' := fun k_ => True) ho0 (fun _ hk_ => trivial)) (keep_size (w := w) (g := g) (row := none) (hK_ HK)) (fun k_ h_ => h_)) (keep_size (w := w) (g := g) (row := none) (hK_ HK))); have HO306 := a0_ (Kd.N_lower (Kd.N_mono (ok' := fun k_ => (w.heap.size ≤ k_) ∧ some k_ ≠ (v302 : Value).ownBlock ∧ k_ ≠ gb300 ∧ k_ ≠ g) ho1 (fun k_ hk_ => ⟨(Nat.le_trans (keep_size (w := w) (g := g) (row := none) (hK_ HK)) hk_.1), hk_.2, (Kd.freshB (g := gb300) (o := .cells #[.slice none 0 0, .slice none 0 0] 26 (0, 0)) uq_ k_ hk_.1), (IsS123.fresh hI_ k_ hk_.1)⟩)) (keep_size (w := w) (g := g) (row := none) (hK_ HK))); replace BK300 := a0_ (KeepBut.blk hk (g' := gb300) (o := .cells #[.slice none 0 0, .slice none 0 0] 26 (0, 0)) uq_ NB300_0.out (by simp)); replace HK := kk_ HK hk; replace HB := a0_ (hb); replace HI0 := a0_ (hi); (try clear ho0 ho1 hi hb hk)) | ((with_reducible refine gate_dst (N := 3) rfl ?_); refine bx_ (N := 3) (cs := #[.slice none 0 0, .slice none 0 0]) (t := 26) (h := ?_); intro gb308 hg w66 hbox hb; have BK308 := a0_ (hbox); have GW308 := gw_ HK hg; have GE308 := a0_ ((Nat.le_trans HW0.out (gw_ HK hg).out)); have NB300_308 := nl_ BK300 hg; have NB308_300 := nr_ BK300 hg; have NB0_308 := sl_ HI0 hg; have NB308_0 := sr_ HI0 hg; replace HO303 := rb_ HO303 hb; replace HO306 := a0_ (Kd.N_below (Kd.N_elderB (uN_ HO306) gb308 (Nat.le_of_eq hg.symm)) hb); replace BK300 := vb_ BK300 hb; replace HK := kb_ HK hb; replace HB := a0_ (below_step hBs_ hb); replace HI0 := a0_ (IsS123.below hI_ hb); clear hb hbox hg; obtain ⟨Ao67, co67, eo67⟩ := Kd.R_slice HO303.out; subst eo67; have hnb68 := NB308_300.out; have hnc68 := NB300_308.out; have hnb69 := NB308_0.out; have hnc69 := NB0_308.out; have hcz70_0 := c20_ BK308; have hcz70_1 := c21_ BK308; have hfz70_0 := fz_ BK308 0; have hfz70_1 := fz_ BK308 1; obtain ⟨Ao71, co71, eo71⟩ := Kd.N_slice HO306.out; subst eo71) | ((with_reducible refine gate_callee (f := 74) rfl ?_); refine gL_ (some 7) Tryd.func74 #[.pointer (some ⟨g, 0, none⟩), .int .i64 24] (h := ?_); (with_reducible refine (spec_l6Rd_pick.calls k g s0_0 t307 24 t309 t310 w0 _ hI_ hBs_ A3.out).mono ?_); rintro e w72 ⟨rfl, hi, hb, hk⟩; refine ⟨_, rfl, ?_⟩; replace BK300 := a0_ (KeepBut.blk hk (g' := gb300) (o := .cells #[.slice none 0 0, .slice none 0 0] 26 (0, 0)) uf_ NB300_0.out (by simp)); replace HO303 := a0_ (Kd.R_mono (Kd.R_keep (IsS123.apart (show IsS123 w0 _ g s0_0 t307 from hI_) (by (with_reducible repeat (first | apply Kd.R_alloc | apply Kd.R_drewN | apply Kd.R_drew)); exact (Kd.R_mono (Kd.R_far (p := ⟨gb308, 1, none⟩) (Kd.R_far (p := ⟨gb308, 0, none⟩) (Kd.R_types HO303.out BK308.out (by decide)) (fun _ hk => hk.2) (.slice Ao67 t301.length co67)) (fun _ hk => hk.2) (.slice Ao71 t304.length co71)) (fun _ h_ => h_.1))) (by decide)) hk (fun _ h => h.2)) (fun _ h => h.1)); replace HO306 := a0_ (Kd.N_mono (Kd.N_keep (Kd.N_mono (ok := fun k_ => ((((w.heap.size ≤ k_)) ∧ (some k_ ≠ (.slice Ao67 t301.length co67 : Value).ownBlock ∧ (k_ ≠ gb300 ∧ k_ ≠ g))) ∧ k_ ≠ gb308)) (by (with_reducible repeat (first | apply Kd.N_alloc | apply Kd.N_drewN | apply Kd.N_drew)); exact (Kd.N_mono (Kd.N_far (p := ⟨gb308, 1, none⟩) (Kd.N_far (p := ⟨gb308, 0, none⟩) (Kd.N_mono HO306.out (fun k_ hk => (⟨hk, hk.2⟩ : _ ∧ k_ ≠ gb308))) (fun _ hk => hk.2) (.slice Ao67 t301.length co67)) (fun _ hk => hk.2) (.slice Ao71 t304.length co71)) (fun _ h_ => h_.1))) (fun k_ hk_ => (⟨hk_, hk_.1.2.2.2⟩ : _ ∧ k_ ≠ g))) hk (fun _ h => h.2)) (fun _ h => h.1)); replace BK308 := a0_ (KeepBut.blk hk (g' := gb308) (o := .cells #[.slice Ao67 t301.length co67, .slice Ao71 t304.length co71] 26 (0, 0)) (by (with_reducible repeat (first | refine blk_drewN ?_ _ | refine blk_drew ?_ | refine blk_alloc ?_ _)); refine blk_put (cs := #[.slice Ao67 t301.length co67, .slice none 0 0]) ?_ 1 _ rfl; (with_reducible repeat (first | refine blk_drewN ?_ _ | refine blk_drew ?_ | refine blk_alloc ?_ _)); refine blk_put (cs := #[.slice none 0 0, .slice none 0 0]) ?_ 0 _ rfl; (with_reducible repeat (first | refine blk_drewN ?_ _ | refine blk_drew ?_ | refine blk_alloc ?_ _)); exact BK308.out) NB308_0.out (by simp)); replace HK := kk_ HK hk; replace HB := a0_ (hb); replace HI0 := a0_ (hi); (try clear hi hb hk); have hcz73_0 := c20_ BK308; have hcz73_1 := c21_ BK308; have hfz73_0 := fz_ BK308 0; have hfz73_1 := fz_ BK308 1; have hnb74 := NB300_0.out; have hnc74 := NB0_300.out; have hcz75_0 := c20_ BK300; have hcz75_1 := c21_ BK300; have hfz75_0 := fz_ BK300 0; have hfz75_1 := fz_ BK300 1))
    refine bodyPost_ret (results_cell_row rfl _ _ gb300 26 #[.slice Ao67 t301.length co67, .slice Ao71 t304.length co71] (0, 0) _ rfl (by (with_reducible repeat (first | refine blk_drewN ?_ _ | refine blk_drew ?_ | refine blk_alloc ?_ _)); refine blk_put (cs := #[.slice Ao67 t301.length co67, .slice none 0 0]) ?_ 1 _ rfl; (with_reducible repeat (first | refine blk_drewN ?_ _ | refine blk_drew ?_ | refine blk_alloc ?_ _)); refine blk_put (cs := #[.slice none 0 0, .slice none 0 0]) ?_ 0 _ rfl; (with_reducible repeat (first | refine blk_drewN ?_ _ | refine blk_drew ?_ | refine blk_alloc ?_ _)); exact BK300.out) Tryd.underlying26 rfl (by kernel_rfl)) rfl ?_
    exact ⟨_, _, rr_, by (with_reducible repeat (first | apply Kd.R_alloc | apply Kd.R_drewN | apply Kd.R_drew)); exact Kd.R_mono (Kd.R_far (p := ⟨gb300, 1, none⟩) (Kd.R_far (p := ⟨gb300, 0, none⟩) (Kd.R_types HO303.out BK300.out (by decide)) (fun _ hk => hk.2) (.slice Ao67 t301.length co67)) (fun _ hk => hk.2) (.slice Ao71 t304.length co71)) (fun _ hk => hk.1.1), by (with_reducible repeat (first | apply Kd.N_alloc | apply Kd.N_drewN | apply Kd.N_drew)); exact Kd.N_mono (Kd.N_far (p := ⟨gb300, 1, none⟩) (Kd.N_far (p := ⟨gb300, 0, none⟩) (Kd.N_mono HO306.out (fun k_ hk => (⟨hk, hk.1.2.2.1⟩ : _ ∧ k_ ≠ gb300))) (fun _ hk => hk.2) (.slice Ao67 t301.length co67)) (fun _ hk => hk.2) (.slice Ao71 t304.length co71)) (fun _ hk => ⟨hk.1.1.1, hk.1.1.2.1⟩), by repeat (first | (with_reducible first | exact HI0.out | apply IsS123.alloc | apply IsS123.drewN | apply IsS123.drew | apply IsS123.set_1 | refine IsS123.far ?_ NB0_300.out _ | refine IsS123.far ?_ NB0_308.out _) | exact HI0.out), by repeat (first | (with_reducible first | exact HB.out | apply below_alloc | apply pw_below_drewN | apply below_drew1 | refine below_set ?_ (IsS123.ge HI0.out) | refine below_set ?_ GE300.out | refine below_set ?_ GE308.out) | exact HB.out), by repeat (first | (with_reducible first | exact HK.out | apply KeepBut.set_ | apply keep_drewN | apply keep_drew | apply keep_alloc | refine keep_far ?_ GW300.out _ | refine keep_far ?_ GW308.out _) | exact HK.out)⟩
end Go.Proofs.YtkefmnmoaomlhaaDoor.X
end
