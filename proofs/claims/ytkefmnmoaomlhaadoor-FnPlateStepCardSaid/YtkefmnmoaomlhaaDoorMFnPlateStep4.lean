/- FnPlateStep: the law returns true for every input, and each input reads behind the call as before; part 4 of 7. No condition. Merged by program out of: HL3In. -/
import Derived.Test.YtkefmnmoaomlhaaDoorMFnPlateStep3
import Derived.Deep.LoopGhost
import Derived.Deep.RegionHeld3
import Derived.RegionTactic
section
set_option linter.unusedVariables false
set_option linter.unusedSimpArgs false
namespace Go.Proofs.YtkefmnmoaomlhaaDoor.X
open Go.RowKit Go.Shelf Go.Proofs.YtkefmnmoaomlhaaDoorW.PrintWords Go.Proofs.YtkefmnmoaomlhaaDoorW.PrintLast Go.Proofs.YtkefmnmoaomlhaaDoorW.PrintMore
open Mort (edges loopOk ptOk inOf inRun crsI cross has)
def spec_l3In.f (l0 : List S28) (a1_0 a1_1 : Int) : Option Int := if loopOk (l0.map ptP) = true ∧ ptOk (a1_0, a1_1) = true then some (inOf (l0.map ptP) (a1_0, a1_1)) else none
theorem at_sg3 {W : World} {A : Option Addr} {n : Nat} {zs : List S61} (hC : Kd.C k61 W A n zs) (k : Nat) (h : k < n) :
  ∃ ad, A = some ad ∧ W.cell? (ad.add (k * 4)) = some (.int .i64 (zs.getD k z61).f0.f0) ∧ W.cell? ⟨(ad.add (k * 4)).block, (ad.add (k * 4)).off + 1, none⟩ = some (.int .i64 (zs.getD k z61).f0.f1) ∧
   W.cell? ⟨(ad.add (k * 4)).block, (ad.add (k * 4)).off + 2, none⟩ = some (.int .i64 (zs.getD k z61).f1.f0) ∧ W.cell? ⟨(ad.add (k * 4)).block, (ad.add (k * 4)).off + 3, none⟩ = some (.int .i64 (zs.getD k z61).f1.f1) :=
 at_T61 hC (k : Int) (by omega) (by omega)
def upC (lo hi p : Mort.Pt) : Bool := decide (lo.2 ≤ p.2) && (decide (p.2 < hi.2) && decide (0 < cross lo hi p))
theorem crs_up (a b p : Mort.Pt) : crsI (a, b) p = if b.2 < a.2 then upC b a p else upC a b p := by
 unfold crsI upC
 simp only
 have hr := Mort.cross_rev a b p
 by_cases h : b.2 < a.2
 ·
  rw [if_pos h]
  have e1 : (decide (a.2 ≤ p.2) && (decide (p.2 < b.2) && decide (0 < cross a b p))) = false := by
   by_cases h1 : a.2 ≤ p.2
   ·
    rw [decide_eq_false (show ¬ p.2 < b.2 by omega)]; simp
   ·
    rw [decide_eq_false h1]; rfl
  rw [e1, Bool.false_or, hr]
  congr 2
  rw [decide_eq_decide]; omega
 ·
  rw [if_neg h]
  have e1 : (decide (b.2 ≤ p.2) && (decide (p.2 < a.2) && decide (cross a b p < 0))) = false := by
   by_cases h1 : b.2 ≤ p.2
   ·
    rw [decide_eq_false (show ¬ p.2 < a.2 by omega)]; simp
   ·
    rw [decide_eq_false h1]; rfl
  rw [e1, Bool.or_false]
set_option maxHeartbeats 4000000 in
set_option maxRecDepth 100000 in
theorem spec_l3In.calls (A0 : Option Addr) (c0 : Nat) (l0 : List S28) (a1_0 a1_1 : Int) (r : Int) (w : World) (hr0 : Kd.C k28 w A0 l0.length l0) (hc0 : l0.length ≤ c0) (h : spec_l3In.f l0 a1_0 a1_1 = some r) :
  Calls Tryd.prog 56 #[.slice A0 l0.length c0, .agg #[.int .i64 a1_0, .int .i64 a1_1]] w fun e w' => e = .returned (.int .i64 r) ∧ Below w.heap.size w w' := by
 have hu28 := Tryd.underlying28
 have hu61 := Tryd.underlying61
 unfold spec_l3In.f at h
 split at h
 case isFalse => cases h
 rename_i hh
 obtain ⟨hok, hp⟩ := hh
 have h := Option.some.inj h
 have hlen : l0.length ≤ 8 := by have := ((Mort.loopOk_iff _).1 hok).2.1; simpa using this
 have hal := below_alloc (Below.refl w.heap.size w) (.cells #[.int .i64 a1_0, .int .i64 a1_1] 28)
 have np := blk_new w (.cells #[.int .i64 a1_0, .int .i64 a1_1] 28 (0, 0))
 have hes : spec_l3Edges.f 10 l0 = some (esOf l0) := sEdges (by omega) (by omega)
 have hsg : ∀ i, i < l0.length → Mort.segOk (sgP (edS l0 i)) = true := fun i hi => by
  have := ((Mort.loopOk_iff _).1 hok).2.2.1 _ (Mort.mem_edges.2 ⟨i, by simpa using hi, rfl⟩)
  rwa [ed_edS] at this
 have hmem : ∀ i, i < l0.length → sgP (edS l0 i) ∈ edges (l0.map ptP) := fun i hi => by
  rw [← ed_edS]; exact Mort.mem_edges.2 ⟨i, by simpa using hi, rfl⟩
 have HK := a0_ (And.intro (Kd.C_below hr0 hal) (And.intro hc0 (And.intro hes (And.intro hsg (And.intro hmem (And.intro hp (And.intro h (And.intro hlen (And.intro hal np)))))))))
 clear hr0 hc0 hes hsg hmem hp h hlen hal np hok
 go_enter Tryd.func56, Tryd.ntmps56
 go_wp2_with (go_at_call 98; refine (spec_l3Edges.calls 10 A0 c0 l0 (esOf l0) _ HK.out.1 HK.out.2.1 HK.out.2.2.1).mono ?_; rintro e w1 ⟨v, rfl, hR, hb1⟩; obtain ⟨Ae, ce, hv, hce, hCe⟩ := Kd.R_reads hR; subst hv; have HE := a0_ (And.intro hCe (And.intro hce hb1)); clear hR hCe hce hb1)
 generalize hg : w.heap.size = g at *
 have hG := Aside0.mk hg
 clear hg
 have hL : (esOf l0).length = l0.length := esOf_len l0
 rw [hL]
 have HLn := Aside0.mk hL
 clear hL
 go_loopg [5, 7] l0.length (fun kq v5 v7 wr => ∃ (i : Nat), v5 = .int .i64 (inRun (((esOf l0).take i).map sgP) (a1_0, a1_1)) ∧ v7 = .int .i64 (i : Int) ∧ Aside0 (kq = l0.length - i ∧ i ≤ l0.length ∧ wr.heap[g]? = some (.cells #[.int .i64 a1_0, .int .i64 a1_1] 28 (0, 0)) ∧
   (∀ e ∈ ((esOf l0).take i).map sgP, has e (a1_0, a1_1) = false) ∧ Below g w wr ∧ Below w1.heap.size w1 wr))
 case atStart =>
  have hG' := hG.out
  subst hG'
  refine ⟨0, rfl, rfl, ⟨rfl, Nat.zero_le _, blk_later HK.out.2.2.2.2.2.2.2.2.2 HE.out.2.2, ?_, below_step HK.out.2.2.2.2.2.2.2.2.1 HE.out.2.2, Below.refl _ _⟩⟩
  intro e he
  simp at he
 case round =>
  obtain ⟨i, rfl, rfl, H1⟩ := hrel
  obtain ⟨hk, hi, hpb, hno, hBw, hB1⟩ := H1.out
  clear H1
  by_cases hlt : i < l0.length
  ·
   have hd : decide ((i : Int) < (l0.length : Int)) = true := decide_eq_true (by omega)
   obtain ⟨adr, hadr, z0, z1, z2, z3⟩ := at_sg3 HE.out.1 i (by rw [HLn.out]; exact hlt)
   subst hadr
   have t0 := pw_cell_below (below_drew1 hB1) z0
   have t1 := pw_cell_below (below_drew1 hB1) z1
   have t2 := pw_cell_below (below_drew1 hB1) z2
   have t3 := pw_cell_below (below_drew1 hB1) z3
   have p0 : wr.drew.cell? ⟨g, 0, none⟩ = some (.int .i64 a1_0) := (blk_cell hpb 0).trans rfl
   have p1 : wr.drew.cell? ⟨g, 1, none⟩ = some (.int .i64 a1_1) := (blk_cell hpb 1).trans rfl
   have hes : (esOf l0).getD i z61 = edS l0 i := esOf_getD l0 hlt
   have htk : ((esOf l0).take (i + 1)).map sgP = ((esOf l0).take i).map sgP ++ [sgP (edS l0 i)] := by
    rw [List.take_succ_eq_append_getElem (by rw [HLn.out]; exact hlt), List.map_append]
    rw [List.getD_eq_getElem?_getD, List.getElem?_eq_getElem (by rw [HLn.out]; exact hlt)] at hes
    rw [show (esOf l0)[i]'(by rw [HLn.out]; exact hlt) = edS l0 i from hes]; rfl
   rw [hes] at t0 t1 t2 t3
   have hseg := HK.out.2.2.2.1 i hlt
   have hmem := HK.out.2.2.2.2.1 i hlt
   generalize edS l0 i = s0 at *
   obtain ⟨⟨ax, ay⟩, ⟨bx, by'⟩⟩ := s0
   obtain ⟨⟨hpa, hpb'⟩, _⟩ : (ptOk (ax, ay) = true ∧ ptOk (bx, by') = true) ∧ True := ⟨⟨((Mort.segOk_iff _).1 hseg).1, ((Mort.segOk_iff _).1 hseg).2.1⟩, trivial⟩
   have hhas := sHas hpa hpb' HK.out.2.2.2.2.2.1
   have hc1 := sCross hpa hpb' HK.out.2.2.2.2.2.1
   have hc2 := sCross hpb' hpa HK.out.2.2.2.2.2.1
   have HL := a0_ (And.intro hk (And.intro hpb (And.intro hno (And.intro hBw (And.intro hB1 (And.intro hhas (And.intro hc1 (And.intro hc2 (And.intro htk hmem)))))))))
   clear hk hi hpb hno hBw hB1 hhas hc1 hc2 htk hmem hes z0 z1 z2 z3 hseg hpa hpb'
   cases hh : has ((ax, ay), (bx, by')) (a1_0, a1_1) with
   | true =>
    obtain ⟨k1, k2, k3, k4, k5, k6, k7, k8, k9, k10⟩ := HL.out
    have hr : 0 = r := by rw [← HK.out.2.2.2.2.2.2.1, Mort.inOf_on k10 hh]
    subst hr
    have HV := a0_ (k6.trans (congrArg some hh))
    clear k1 k2 k3 k4 k5 k6 k7 k8 k9 k10 hh
    go_wp2
    go_region_held3 (fun W => W.cell? (adr.add (i * 4)) = some (.int .i64 ax) ∧ W.cell? ⟨(adr.add (i * 4)).block, (adr.add (i * 4)).off + 1, none⟩ = some (.int .i64 ay) ∧ W.cell? ⟨(adr.add (i * 4)).block, (adr.add (i * 4)).off + 2, none⟩ = some (.int .i64 bx) ∧ W.cell? ⟨(adr.add (i * 4)).block, (adr.add (i * 4)).off + 3, none⟩ = some (.int .i64 by') ∧ W.cell? ⟨g, 0, none⟩ = some (.int .i64 a1_0) ∧ W.cell? ⟨g, 1, none⟩ = some (.int .i64 a1_1))
     (first | exact ⟨pw_cell_below hb t0, pw_cell_below hb t1, pw_cell_below hb t2, pw_cell_below hb t3, pw_cell_below hb p0, pw_cell_below hb p1⟩ | go_keep)
     (first | (go_at_call 100; refine (spec_l2Has.calls ax ay bx by' a1_0 a1_1 true _ HV.out).mono ?_; rintro e w2 ⟨rfl, hb⟩))
    go_wp2
    go_ret
    have hG' := hG.out
    subst hG'
    exact ⟨rfl, below_row (below_drew1 HL.out.2.2.2.1) (Nat.le_refl _) hb⟩
   | false =>
    obtain ⟨k1, k2, k3, k4, k5, k6, k7, k8, k9, k10⟩ := HL.out
    have hin : inRun (((esOf l0).take (i + 1)).map sgP) (a1_0, a1_1) = if crsI ((ax, ay), (bx, by')) (a1_0, a1_1) then - inRun (((esOf l0).take i).map sgP) (a1_0, a1_1) else inRun (((esOf l0).take i).map sgP) (a1_0, a1_1) := by rw [k9, Mort.inRun_snoc]; rfl
    have hno2 : ∀ e ∈ ((esOf l0).take (i + 1)).map sgP, has e (a1_0, a1_1) = false := by
     rw [k9]
     intro e he
     rcases List.mem_append.1 he with he | he
     ·
      exact k3 e he
     ·
      rw [List.mem_singleton] at he; subst he; exact hh
    rw [crs_up] at hin
    have hvals : inRun (((esOf l0).take i).map sgP) (a1_0, a1_1) = 1 ∨ inRun (((esOf l0).take i).map sgP) (a1_0, a1_1) = -1 := by
     unfold inRun Mort.sideOf
     cases Mort.xorAll _ <;> simp
    generalize inRun (((esOf l0).take i).map sgP) (a1_0, a1_1) = u at *
    have HV := a0_ (k6.trans (congrArg some hh))
    have HN := a0_ (And.intro hin (And.intro hno2 hvals))
    clear k1 k2 k3 k4 k5 k6 k7 k8 k9 k10 hh hin hno2 hvals
    go_wp2
    go_region_held3 (fun W => W.cell? (adr.add (i * 4)) = some (.int .i64 ax) ∧ W.cell? ⟨(adr.add (i * 4)).block, (adr.add (i * 4)).off + 1, none⟩ = some (.int .i64 ay) ∧ W.cell? ⟨(adr.add (i * 4)).block, (adr.add (i * 4)).off + 2, none⟩ = some (.int .i64 bx) ∧ W.cell? ⟨(adr.add (i * 4)).block, (adr.add (i * 4)).off + 3, none⟩ = some (.int .i64 by') ∧ W.cell? ⟨g, 0, none⟩ = some (.int .i64 a1_0) ∧ W.cell? ⟨g, 1, none⟩ = some (.int .i64 a1_1))
     (first | exact ⟨pw_cell_below hb t0, pw_cell_below hb t1, pw_cell_below hb t2, pw_cell_below hb t3, pw_cell_below hb p0, pw_cell_below hb p1⟩ | go_keep)
     (first | (go_at_call 100; refine (spec_l2Has.calls ax ay bx by' a1_0 a1_1 false _ HV.out).mono ?_; rintro e w2 ⟨rfl, hb⟩))
    have t0' := pw_cell_below hb t0
    have t1' := pw_cell_below hb t1
    have t2' := pw_cell_below hb t2
    have t3' := pw_cell_below hb t3
    have hxa := below_alloc (Below.refl w2.heap.size w2) (.cells #[.int .i64 ax, .int .i64 ay] 28)
    have x0 := pw_cell_below hxa t2'
    have x1 := pw_cell_below hxa t3'
    have hu28 := Tryd.underlying28
    have hu61 := Tryd.underlying61
    obtain ⟨_, _, _, _, _, _, k7_, k8_, _, _⟩ := HL.out
    by_cases hsw : by' < ay
    ·
     have b1 : decide (by' < ay) = true := decide_eq_true hsw
     have HSW := Aside0.mk hsw
     clear hsw k7_
     have hW3 := below_alloc (below_alloc (Below.refl w2.heap.size w2) (.cells #[.int .i64 bx, .int .i64 by'] 28)) (.cells #[.int .i64 ax, .int .i64 ay] 28)
     have q0 := pw_cell_below hW3 (pw_cell_below hb p0)
     have q1 := pw_cell_below hW3 (pw_cell_below hb p1)
     have HB3 := a0_ (And.intro hb hW3)
     clear hb hW3 p0 p1 t0 t1 t2 t3 hxa
     have HCR := Aside0.mk k8_
     clear k8_
     by_cases g1 : by' ≤ a1_1
     ·
      have b2 : decide (by' ≤ a1_1) = true := decide_eq_true g1
      have G1 := Aside0.mk g1
      clear g1
      by_cases g2 : a1_1 < ay
      ·
       have b3 : decide (a1_1 < ay) = true := decide_eq_true g2
       have G2 := Aside0.mk g2
       clear g2
       by_cases g3 : 0 < cross (bx, by') (ax, ay) (a1_0, a1_1)
       ·
        have G3 := Aside0.mk g3
        generalize cross (bx, by') (ax, ay) (a1_0, a1_1) = cv at g3 HCR
        have b4 : decide (0 < cv) = true := decide_eq_true g3
        have hvals2 := HN.out.2.2
        clear g3
        rcases hvals2 with rfl | rfl
        all_goals
         go_wp2_with (go_at_call 102; refine (spec_l2Cross.calls bx by' ax ay a1_0 a1_1 cv _ HCR.out).mono ?_; rintro e w4 ⟨rfl, hb4⟩)
         obtain ⟨k1, k2, k3, k4, k5, k6, k7, k8, k9, k10⟩ := HL.out
         have hbb : Below wr.heap.size wr _ := below_step (below_step (below_step (below_drew1 (Below.refl wr.heap.size wr)) HB3.out.1) HB3.out.2) hb4
         go_roundg (l0.length - (i + 1))
         case measure => omega
         case rel =>
          refine ⟨i + 1, ?_, ?_, ⟨rfl, by omega, blk_later k2 hbb, HN.out.2.1, ?_, k5.trans (hbb.mono k5.size)⟩⟩
          ·
           have hin := HN.out.1
           have hvals := HN.out.2.2
           rw [hin]
           have hu : upC (bx, by') (ax, ay) (a1_0, a1_1) = true := by unfold upC; simp only [G1.out, G2.out, G3.out, decide_true, Bool.and_true]
           rw [if_pos HSW.out, hu]
           first | rfl | decide
          ·
           have hw : wrap64 ((i : Int) + 1) = (i : Int) + 1 := by have := HK.out.2.2.2.2.2.2.2.1; unfold wrap64; omega
           first | rfl | (rw [hw]; rfl)
          ·
           have hG' := hG.out
           subst hG'
           exact below_row k4 (Nat.le_refl _) hbb
       ·
        have G3 := Aside0.mk g3
        generalize cross (bx, by') (ax, ay) (a1_0, a1_1) = cv at g3 HCR
        have b4 : decide (0 < cv) = false := decide_eq_false g3
        clear g3
        go_wp2_with (go_at_call 102; refine (spec_l2Cross.calls bx by' ax ay a1_0 a1_1 cv _ HCR.out).mono ?_; rintro e w4 ⟨rfl, hb4⟩)
        obtain ⟨k1, k2, k3, k4, k5, k6, k7, k8, k9, k10⟩ := HL.out
        have hbb : Below wr.heap.size wr _ := below_step (below_step (below_step (below_drew1 (Below.refl wr.heap.size wr)) HB3.out.1) HB3.out.2) hb4
        go_roundg (l0.length - (i + 1))
        case measure => omega
        case rel =>
         refine ⟨i + 1, ?_, ?_, ⟨rfl, by omega, blk_later k2 hbb, HN.out.2.1, ?_, k5.trans (hbb.mono k5.size)⟩⟩
         ·
          have hin := HN.out.1
          have hvals := HN.out.2.2
          rw [hin]
          have hu : upC (bx, by') (ax, ay) (a1_0, a1_1) = false := by unfold upC; simp only [decide_eq_false (show ¬ 0 < cross (bx, by') (ax, ay) (a1_0, a1_1) by have := G3.out; omega), Bool.and_false]
          rw [if_pos HSW.out, hu]
          rfl
         ·
          have hw : wrap64 ((i : Int) + 1) = (i : Int) + 1 := by have := HK.out.2.2.2.2.2.2.2.1; unfold wrap64; omega
          first | rfl | (rw [hw]; rfl)
         ·
          have hG' := hG.out
          subst hG'
          exact below_row k4 (Nat.le_refl _) hbb
      ·
       have b3 : decide (a1_1 < ay) = false := decide_eq_false g2
       have G2 := Aside0.mk g2
       clear g2
       go_wp2
       obtain ⟨k1, k2, k3, k4, k5, k6, k7, k8, k9, k10⟩ := HL.out
       have hbb : Below wr.heap.size wr _ := below_step (below_step (below_drew1 (Below.refl wr.heap.size wr)) HB3.out.1) HB3.out.2
       go_roundg (l0.length - (i + 1))
       case measure => omega
       case rel =>
        refine ⟨i + 1, ?_, ?_, ⟨rfl, by omega, blk_later k2 hbb, HN.out.2.1, ?_, k5.trans (hbb.mono k5.size)⟩⟩
        ·
         have hin := HN.out.1
         have hvals := HN.out.2.2
         rw [hin]
         have hu : upC (bx, by') (ax, ay) (a1_0, a1_1) = false := by unfold upC; simp only [decide_eq_false (show ¬ a1_1 < ay from by have := G2.out; omega), Bool.false_and, Bool.and_false]
         rw [if_pos HSW.out, hu]
         rfl
        ·
         have hw : wrap64 ((i : Int) + 1) = (i : Int) + 1 := by have := HK.out.2.2.2.2.2.2.2.1; unfold wrap64; omega
         first | rfl | (rw [hw]; rfl)
        ·
         have hG' := hG.out
         subst hG'
         exact below_row k4 (Nat.le_refl _) hbb
     ·
      have b2 : decide (by' ≤ a1_1) = false := decide_eq_false g1
      have G1 := Aside0.mk g1
      clear g1
      go_wp2
      obtain ⟨k1, k2, k3, k4, k5, k6, k7, k8, k9, k10⟩ := HL.out
      have hbb : Below wr.heap.size wr _ := below_step (below_step (below_drew1 (Below.refl wr.heap.size wr)) HB3.out.1) HB3.out.2
      go_roundg (l0.length - (i + 1))
      case measure => omega
      case rel =>
       refine ⟨i + 1, ?_, ?_, ⟨rfl, by omega, blk_later k2 hbb, HN.out.2.1, ?_, k5.trans (hbb.mono k5.size)⟩⟩
       ·
        have hin := HN.out.1
        have hvals := HN.out.2.2
        rw [hin]
        have hu : upC (bx, by') (ax, ay) (a1_0, a1_1) = false := by unfold upC; simp only [decide_eq_false (show ¬ by' ≤ a1_1 from by have := G1.out; omega), Bool.false_and]
        rw [if_pos HSW.out, hu]
        rfl
       ·
        have hw : wrap64 ((i : Int) + 1) = (i : Int) + 1 := by have := HK.out.2.2.2.2.2.2.2.1; unfold wrap64; omega
        first | rfl | (rw [hw]; rfl)
       ·
        have hG' := hG.out
        subst hG'
        exact below_row k4 (Nat.le_refl _) hbb
    ·
     have b1 : decide (by' < ay) = false := decide_eq_false hsw
     have HSW := Aside0.mk hsw
     clear hsw k8_
     have hW3 := below_alloc (below_alloc (Below.refl w2.heap.size w2) (.cells #[.int .i64 ax, .int .i64 ay] 28)) (.cells #[.int .i64 bx, .int .i64 by'] 28)
     have q0 := pw_cell_below hW3 (pw_cell_below hb p0)
     have q1 := pw_cell_below hW3 (pw_cell_below hb p1)
     have HB3 := a0_ (And.intro hb hW3)
     clear hb hW3 p0 p1 t0 t1 t2 t3 hxa
     have HCR := Aside0.mk k7_
     clear k7_
     by_cases g1 : ay ≤ a1_1
     ·
      have b2 : decide (ay ≤ a1_1) = true := decide_eq_true g1
      have G1 := Aside0.mk g1
      clear g1
      by_cases g2 : a1_1 < by'
      ·
       have b3 : decide (a1_1 < by') = true := decide_eq_true g2
       have G2 := Aside0.mk g2
       clear g2
       by_cases g3 : 0 < cross (ax, ay) (bx, by') (a1_0, a1_1)
       ·
        have G3 := Aside0.mk g3
        generalize cross (ax, ay) (bx, by') (a1_0, a1_1) = cv at g3 HCR
        have b4 : decide (0 < cv) = true := decide_eq_true g3
        have hvals2 := HN.out.2.2
        clear g3
        rcases hvals2 with rfl | rfl
        all_goals
         go_wp2_with (go_at_call 102; refine (spec_l2Cross.calls ax ay bx by' a1_0 a1_1 cv _ HCR.out).mono ?_; rintro e w4 ⟨rfl, hb4⟩)
         obtain ⟨k1, k2, k3, k4, k5, k6, k7, k8, k9, k10⟩ := HL.out
         have hbb : Below wr.heap.size wr _ := below_step (below_step (below_step (below_drew1 (Below.refl wr.heap.size wr)) HB3.out.1) HB3.out.2) hb4
         go_roundg (l0.length - (i + 1))
         case measure => omega
         case rel =>
          refine ⟨i + 1, ?_, ?_, ⟨rfl, by omega, blk_later k2 hbb, HN.out.2.1, ?_, k5.trans (hbb.mono k5.size)⟩⟩
          ·
           have hin := HN.out.1
           have hvals := HN.out.2.2
           rw [hin]
           have hu : upC (ax, ay) (bx, by') (a1_0, a1_1) = true := by unfold upC; simp only [G1.out, G2.out, G3.out, decide_true, Bool.and_true]
           rw [if_neg (show ¬ by' < ay by have := HSW.out; omega), hu]
           first | rfl | decide
          ·
           have hw : wrap64 ((i : Int) + 1) = (i : Int) + 1 := by have := HK.out.2.2.2.2.2.2.2.1; unfold wrap64; omega
           first | rfl | (rw [hw]; rfl)
          ·
           have hG' := hG.out
           subst hG'
           exact below_row k4 (Nat.le_refl _) hbb
       ·
        have G3 := Aside0.mk g3
        generalize cross (ax, ay) (bx, by') (a1_0, a1_1) = cv at g3 HCR
        have b4 : decide (0 < cv) = false := decide_eq_false g3
        clear g3
        go_wp2_with (go_at_call 102; refine (spec_l2Cross.calls ax ay bx by' a1_0 a1_1 cv _ HCR.out).mono ?_; rintro e w4 ⟨rfl, hb4⟩)
        obtain ⟨k1, k2, k3, k4, k5, k6, k7, k8, k9, k10⟩ := HL.out
        have hbb : Below wr.heap.size wr _ := below_step (below_step (below_step (below_drew1 (Below.refl wr.heap.size wr)) HB3.out.1) HB3.out.2) hb4
        go_roundg (l0.length - (i + 1))
        case measure => omega
        case rel =>
         refine ⟨i + 1, ?_, ?_, ⟨rfl, by omega, blk_later k2 hbb, HN.out.2.1, ?_, k5.trans (hbb.mono k5.size)⟩⟩
         ·
          have hin := HN.out.1
          have hvals := HN.out.2.2
          rw [hin]
          have hu : upC (ax, ay) (bx, by') (a1_0, a1_1) = false := by unfold upC; simp only [decide_eq_false (show ¬ 0 < cross (ax, ay) (bx, by') (a1_0, a1_1) by have := G3.out; omega), Bool.and_false]
          rw [if_neg (show ¬ by' < ay by have := HSW.out; omega), hu]
          rfl
         ·
          have hw : wrap64 ((i : Int) + 1) = (i : Int) + 1 := by have := HK.out.2.2.2.2.2.2.2.1; unfold wrap64; omega
          first | rfl | (rw [hw]; rfl)
         ·
          have hG' := hG.out
          subst hG'
          exact below_row k4 (Nat.le_refl _) hbb
      ·
       have b3 : decide (a1_1 < by') = false := decide_eq_false g2
       have G2 := Aside0.mk g2
       clear g2
       go_wp2
       obtain ⟨k1, k2, k3, k4, k5, k6, k7, k8, k9, k10⟩ := HL.out
       have hbb : Below wr.heap.size wr _ := below_step (below_step (below_drew1 (Below.refl wr.heap.size wr)) HB3.out.1) HB3.out.2
       go_roundg (l0.length - (i + 1))
       case measure => omega
       case rel =>
        refine ⟨i + 1, ?_, ?_, ⟨rfl, by omega, blk_later k2 hbb, HN.out.2.1, ?_, k5.trans (hbb.mono k5.size)⟩⟩
        ·
         have hin := HN.out.1
         have hvals := HN.out.2.2
         rw [hin]
         have hu : upC (ax, ay) (bx, by') (a1_0, a1_1) = false := by unfold upC; simp only [decide_eq_false (show ¬ a1_1 < by' from by have := G2.out; omega), Bool.false_and, Bool.and_false]
         rw [if_neg (show ¬ by' < ay by have := HSW.out; omega), hu]
         rfl
        ·
         have hw : wrap64 ((i : Int) + 1) = (i : Int) + 1 := by have := HK.out.2.2.2.2.2.2.2.1; unfold wrap64; omega
         first | rfl | (rw [hw]; rfl)
        ·
         have hG' := hG.out
         subst hG'
         exact below_row k4 (Nat.le_refl _) hbb
     ·
      have b2 : decide (ay ≤ a1_1) = false := decide_eq_false g1
      have G1 := Aside0.mk g1
      clear g1
      go_wp2
      obtain ⟨k1, k2, k3, k4, k5, k6, k7, k8, k9, k10⟩ := HL.out
      have hbb : Below wr.heap.size wr _ := below_step (below_step (below_drew1 (Below.refl wr.heap.size wr)) HB3.out.1) HB3.out.2
      go_roundg (l0.length - (i + 1))
      case measure => omega
      case rel =>
       refine ⟨i + 1, ?_, ?_, ⟨rfl, by omega, blk_later k2 hbb, HN.out.2.1, ?_, k5.trans (hbb.mono k5.size)⟩⟩
       ·
        have hin := HN.out.1
        have hvals := HN.out.2.2
        rw [hin]
        have hu : upC (ax, ay) (bx, by') (a1_0, a1_1) = false := by unfold upC; simp only [decide_eq_false (show ¬ ay ≤ a1_1 from by have := G1.out; omega), Bool.false_and]
        rw [if_neg (show ¬ by' < ay by have := HSW.out; omega), hu]
        rfl
       ·
        have hw : wrap64 ((i : Int) + 1) = (i : Int) + 1 := by have := HK.out.2.2.2.2.2.2.2.1; unfold wrap64; omega
        first | rfl | (rw [hw]; rfl)
       ·
        have hG' := hG.out
        subst hG'
        exact below_row k4 (Nat.le_refl _) hbb
  ·
   obtain rfl : i = l0.length := by omega
   have hd : decide ((l0.length : Int) < (l0.length : Int)) = false := decide_eq_false (by omega)
   have hr : inRun (((esOf l0).take l0.length).map sgP) (a1_0, a1_1) = r := by
    rw [← HK.out.2.2.2.2.2.2.1]
    have e1 : ((esOf l0).take l0.length).map sgP = edges (l0.map ptP) := by rw [List.take_of_length_le (by rw [HLn.out]; exact Nat.le_refl _), esOf_edges]
    rw [e1] at hno ⊢
    exact Mort.inRun_end hno
   rw [hr]
   have HB := Aside0.mk hBw
   clear hk hi hpb hno hBw hB1 hr hlt
   go_wp2
   go_ret
   have hG' := hG.out
   subst hG'
   exact ⟨rfl, HB.out⟩
end Go.Proofs.YtkefmnmoaomlhaaDoor.X
end
