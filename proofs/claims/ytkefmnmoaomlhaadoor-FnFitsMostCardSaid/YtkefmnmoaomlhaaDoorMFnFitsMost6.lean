/- FnFitsMost: the law returns true for every input, and each input reads behind the call as before; part 6 of 6. No condition. Merged by program out of: FSpecL71Tool, EvLoop, EvPlate, EvPlateS, EvPlateF, EvDraws, PureFnFitsMost, WSized, LawFnFitsMost. -/
import Derived.Test.YtkefmnmoaomlhaaDoorMFnFitsMost5
import Derived.SizedLaws
import Derived.ChangeSlices
import Derived.WalkKit
import Derived.ProofKit
import Derived.OpenShut
import Derived.ShutString
import Derived.ChangeOld
import Derived.Below
import Derived.SevenTiedAt
set_option linter.all false
section
namespace Go.Proofs.YtkefmnmoaomlhaaDoor.X
open Go.RowKit Go.Proofs.YtkefmnmoaomlhaaDoorW.PrintWords Go.Proofs.YtkefmnmoaomlhaaDoorW.PrintLast Go.Proofs.YtkefmnmoaomlhaaDoorW.PrintMore
attribute [local go_sem] max2_int min2_int max_two min_two max_three min_three max_four min_four
set_option linter.unusedVariables false
set_option linter.unusedSimpArgs false
def spec_l71Tool.f (k:Nat)(s0_0:List Int)(s0_1:Int):Option (Int × Int):=(spec_l6Rd_pick.f k s0_0 s0_1 24).bind fun bt667=>(if bt667.1=0 then ((some (([0,(-1),10,9]:List Int):List Int)).bind fun y669=>((spec_l6Rd_pick.f k s0_0 bt667.2 4).bind fun bt672=>(if 0≤bt672.1 then (if bt672.1<(y669.length:Int) then (some (rd y669 bt672.1,bt672.2)) else (none)) else (none)))) else ((some (([1,1,1,2,2,3,4,4,5,9]:List Int):List Int)).bind fun y675=>((spec_l6Rd_pick.f k s0_0 bt667.2 10).bind fun bt678=>(if 0≤bt678.1 then (if bt678.1<(y675.length:Int) then (some (rd y675 bt678.1,bt678.2)) else (none)) else (none)))))
set_option maxHeartbeats 8000000 in
set_option maxRecDepth 100000 in
theorem spec_l71Tool.calls (k:Nat)(g:Nat)(s0_0:List Int)(s0_1:Int)(r1:Int)(r2:Int)(w0 w:World)(hI:IsS123 w0 w g s0_0 s0_1)(hB:Below w0.heap.size w0 w)(h:spec_l71Tool.f k s0_0 s0_1=some (r1,r2)):
  Calls Tryd.prog 75 #[.pointer (some ⟨g,0,none⟩)] w fun e w'=>e=.returned (.int .i64 r1)∧IsS123 w0 w' g s0_0 r2∧Below w0.heap.size w0 w'∧KeepBut w w' g none:=by
 have HI0:=Aside0.mk hI;have HK:=a0_ (KeepBut.refl w g none);have HL:=Aside0.mk hB.size;clear hI;have HW0:=Aside0.mk hB.size;have HB:=Aside0.mk hB;clear hB;have H:((spec_l6Rd_pick.f k s0_0 s0_1 24).bind fun bt667=>(if bt667.1=0 then ((some (([0,(-1),10,9]:List Int):List Int)).bind fun y669=>((spec_l6Rd_pick.f k s0_0 bt667.2 4).bind fun bt672=>(if 0≤bt672.1 then (if bt672.1<(y669.length:Int) then (some (rd y669 bt672.1,bt672.2)) else (none)) else (none)))) else ((some (([1,1,1,2,2,3,4,4,5,9]:List Int):List Int)).bind fun y675=>((spec_l6Rd_pick.f k s0_0 bt667.2 10).bind fun bt678=>(if 0≤bt678.1 then (if bt678.1<(y675.length:Int) then (some (rd y675 bt678.1,bt678.2)) else (none)) else (none))))))=some (r1,r2):=h;clear h;replace H:=Option.bind_eq_some_iff.mp H;obtain⟨⟨t667,t668⟩,A20,H⟩:=H
 (try dsimp only at H)
 have A2:=Aside0.mk A20;clear A20;by_cases c3:t667=0
 ·
  rw [if_pos c3] at H;have c3b0:(t667==0)=true:=beq_iff_eq.mpr c3;have c3b1:(t667 != 0)=false:=bne_eq_false_iff_eq.mpr c3;clear c3;obtain⟨y669,hy669⟩:∃ y_:List Int,y_=(([0,(-1),10,9]:List Int)):=⟨_,rfl⟩;replace H:((spec_l6Rd_pick.f k s0_0 t668 4).bind fun bt672=>(if 0≤bt672.1 then (if bt672.1<(y669.length:Int) then (some (rd y669 bt672.1,bt672.2)) else (none)) else (none)))=some (r1,r2):=by first | (rw [hy669];with_reducible exact H) | (have H2_:=(Option.bind_some _ _).symm.trans H;rw [hy669];with_reducible exact H2_) | (have H2_:=(Option.bind_some _ _).symm.trans H;with_reducible exact H2_) | with_reducible exact H | (rw [hy669];exact H) | exact H
  have Ny669:=Aside0.mk hy669;clear hy669;replace H:=Option.bind_eq_some_iff.mp H;obtain⟨⟨t672,t673⟩,A40,H⟩:=H
  (try dsimp only at H)
  have A4:=Aside0.mk A40;clear A40;by_cases c5:0≤t672
  ·
   rw [if_pos c5] at H;have c5b0:decide (0≤t672)=true:=decide_eq_true c5;clear c5;by_cases c6:t672<(y669.length:Int)
   ·
    rw [if_pos c6] at H;have c6b0:decide (t672<(y669.length:Int))=true:=decide_eq_true c6;clear c6;simp only [Option.some.injEq,Prod.mk.injEq] at H;obtain⟨rfl,rfl⟩:=H;go_enter Tryd.func75,Tryd.ntmps75
    go_wp2_with (first | ((with_reducible refine gate_callee (f:=74) rfl ?_);refine gL_ (some 4) Tryd.func74 #[.pointer (some ⟨g,0,none⟩),.int .i64 24] (h:=?_);(with_reducible refine (spec_l6Rd_pick.calls k g s0_0 s0_1 24 t667 t668 w0 _ hI_ hBs_ A2.out).mono ?_);rintro e w7 ⟨rfl,hi,hb,hk⟩;refine⟨_,rfl,?_⟩;replace HK:=kk_ HK hk;replace HB:=a0_ (hb);replace HI0:=a0_ (hi);(try clear hi hb hk)) | ((with_reducible refine gate_dst (N:=6) rfl ?_);refine Kd.R_lit (Kd.int .i64) _ 3 ?hg (N:=6) ?hd (xs:=([0,(-1),10,9]:List Int)) (inner:=[.int .i64 0,.int .i64 (-1),.int .i64 10,.int .i64 9]) (ok:=fun _=>True) (okp:=fun _=>True) ?hr ?hp (fun _ hk=>hk) trivial (Below.refl _ _) (Nat.le_refl _) (by simp) ?_;(case hd=>rfl);(case hg=>rfl);(case hr=>first | (go_simp;done) | (go_simp;rfl));(case hp=>exact (Reps.one (show Kd.M (Kd.int .i64) _ _ _ 0 [.int .i64 0] from rfl) (Reps.one (show Kd.M (Kd.int .i64) _ _ _ (-1) [.int .i64 (-1)] from rfl) (Reps.one (show Kd.M (Kd.int .i64) _ _ _ 10 [.int .i64 10] from rfl) (Reps.one (show Kd.M (Kd.int .i64) _ _ _ 9 [.int .i64 9] from rfl) (Reps.none _ _))))));intro v670 w8 ho9 hb hg_ hnew_;clear hg_ hnew_;(first | rw [← Ny669.out] at ho9 | (simp only [Int.reduceToNat] at ho9;rw [← Ny669.out] at ho9));have HO671:=a0_ (Kd.R_lower ho9 (keep_size (w:=w) (g:=g) (row:=none) (hK_ HK)));replace HK:=kb_ HK hb;replace HB:=a0_ (below_step hBs_ hb);replace HI0:=a0_ (IsS123.below hI_ hb);clear hb ho9) | ((with_reducible refine gate_callee (f:=74) rfl ?_);refine gL_ (some 8) Tryd.func74 #[.pointer (some ⟨g,0,none⟩),.int .i64 4] (h:=?_);(with_reducible refine (spec_l6Rd_pick.calls k g s0_0 t668 4 t672 t673 w0 _ hI_ hBs_ A4.out).mono ?_);rintro e w10 ⟨rfl,hi,hb,hk⟩;refine⟨_,rfl,?_⟩;replace HO671:=a0_ (Kd.R_mono (Kd.R_keep (IsS123.apart (show IsS123 w0 _ g s0_0 t668 from hI_) (uR_ HO671) (by decide)) hk (fun _ h=>h.2)) (fun _ h=>h.1));replace HK:=kk_ HK hk;replace HB:=a0_ (hb);replace HI0:=a0_ (hi);(try clear hi hb hk);obtain⟨Ao11,co11,eo11⟩:=Kd.R_slice HO671.out;subst eo11;have p674:0≤(t672:Int):=od_;have q674:t672<(y669.length:Int):=od_;obtain⟨ad674,e674,hx674_0⟩:=Kd.at_int (Kd.R_reads' HO671.out).2.2 t672 p674 q674;cases e674;replace p674:=eq_true p674;replace q674:=eq_true q674))
    go_ret;exact⟨rr_,by repeat (first | (with_reducible first | exact HI0.out | apply IsS123.alloc | apply IsS123.drewN | apply IsS123.drew | apply IsS123.set_1) | exact HI0.out),by repeat (first | (with_reducible first | exact HB.out | apply below_alloc | apply pw_below_drewN | apply below_drew1 | refine below_set ?_ (IsS123.ge HI0.out)) | exact HB.out),by repeat (first | (with_reducible first | exact HK.out | apply KeepBut.set_ | apply keep_drewN | apply keep_drew | apply keep_alloc) | exact HK.out)⟩
   ·
    rw [if_neg c6] at H;exact absurd H (by simp)
  ·
   rw [if_neg c5] at H;exact absurd H (by simp)
 ·
  rw [if_neg c3] at H;have c3b0:(t667==0)=false:=beq_eq_false_iff_ne.mpr c3;have c3b1:(t667 != 0)=true:=bne_iff_ne.mpr c3;obtain⟨y675,hy675⟩:∃ y_:List Int,y_=(([1,1,1,2,2,3,4,4,5,9]:List Int)):=⟨_,rfl⟩;replace H:((spec_l6Rd_pick.f k s0_0 t668 10).bind fun bt678=>(if 0≤bt678.1 then (if bt678.1<(y675.length:Int) then (some (rd y675 bt678.1,bt678.2)) else (none)) else (none)))=some (r1,r2):=by first | (rw [hy675];with_reducible exact H) | (have H2_:=(Option.bind_some _ _).symm.trans H;rw [hy675];with_reducible exact H2_) | (have H2_:=(Option.bind_some _ _).symm.trans H;with_reducible exact H2_) | with_reducible exact H | (rw [hy675];exact H) | exact H
  have Ny675:=Aside0.mk hy675;clear hy675;replace H:=Option.bind_eq_some_iff.mp H;obtain⟨⟨t678,t679⟩,A120,H⟩:=H
  (try dsimp only at H)
  have A12:=Aside0.mk A120;clear A120;by_cases c13:0≤t678
  ·
   rw [if_pos c13] at H;have c13b0:decide (0≤t678)=true:=decide_eq_true c13;clear c13;by_cases c14:t678<(y675.length:Int)
   ·
    rw [if_pos c14] at H;have c14b0:decide (t678<(y675.length:Int))=true:=decide_eq_true c14;clear c14;simp only [Option.some.injEq,Prod.mk.injEq] at H;obtain⟨rfl,rfl⟩:=H;go_enter Tryd.func75,Tryd.ntmps75
    go_wp2_with (first | ((with_reducible refine gate_callee (f:=74) rfl ?_);refine gL_ (some 4) Tryd.func74 #[.pointer (some ⟨g,0,none⟩),.int .i64 24] (h:=?_);(with_reducible refine (spec_l6Rd_pick.calls k g s0_0 s0_1 24 t667 t668 w0 _ hI_ hBs_ A2.out).mono ?_);rintro e w15 ⟨rfl,hi,hb,hk⟩;refine⟨_,rfl,?_⟩;replace HK:=kk_ HK hk;replace HB:=a0_ (hb);replace HI0:=a0_ (hi);(try clear hi hb hk)) | ((with_reducible refine gate_dst (N:=11) rfl ?_);refine Kd.R_lit (Kd.int .i64) _ 3 ?hg (N:=11) ?hd (xs:=([1,1,1,2,2,3,4,4,5,9]:List Int)) (inner:=[.int .i64 1,.int .i64 1,.int .i64 1,.int .i64 2,.int .i64 2,.int .i64 3,.int .i64 4,.int .i64 4,.int .i64 5,.int .i64 9]) (ok:=fun _=>True) (okp:=fun _=>True) ?hr ?hp (fun _ hk=>hk) trivial (Below.refl _ _) (Nat.le_refl _) (by simp) ?_;(case hd=>rfl);(case hg=>rfl);(case hr=>first | (go_simp;done) | (go_simp;rfl));(case hp=>exact (Reps.one (show Kd.M (Kd.int .i64) _ _ _ 1 [.int .i64 1] from rfl) (Reps.one (show Kd.M (Kd.int .i64) _ _ _ 1 [.int .i64 1] from rfl) (Reps.one (show Kd.M (Kd.int .i64) _ _ _ 1 [.int .i64 1] from rfl) (Reps.one (show Kd.M (Kd.int .i64) _ _ _ 2 [.int .i64 2] from rfl) (Reps.one (show Kd.M (Kd.int .i64) _ _ _ 2 [.int .i64 2] from rfl) (Reps.one (show Kd.M (Kd.int .i64) _ _ _ 3 [.int .i64 3] from rfl) (Reps.one (show Kd.M (Kd.int .i64) _ _ _ 4 [.int .i64 4] from rfl) (Reps.one (show Kd.M (Kd.int .i64) _ _ _ 4 [.int .i64 4] from rfl) (Reps.one (show Kd.M (Kd.int .i64) _ _ _ 5 [.int .i64 5] from rfl) (Reps.one (show Kd.M (Kd.int .i64) _ _ _ 9 [.int .i64 9] from rfl) (Reps.none _ _))))))))))));intro v676 w16 ho17 hb hg_ hnew_;clear hg_ hnew_;(first | rw [← Ny675.out] at ho17 | (simp only [Int.reduceToNat] at ho17;rw [← Ny675.out] at ho17));have HO677:=a0_ (Kd.R_lower ho17 (keep_size (w:=w) (g:=g) (row:=none) (hK_ HK)));replace HK:=kb_ HK hb;replace HB:=a0_ (below_step hBs_ hb);replace HI0:=a0_ (IsS123.below hI_ hb);clear hb ho17) | ((with_reducible refine gate_callee (f:=74) rfl ?_);refine gL_ (some 13) Tryd.func74 #[.pointer (some ⟨g,0,none⟩),.int .i64 10] (h:=?_);(with_reducible refine (spec_l6Rd_pick.calls k g s0_0 t668 10 t678 t679 w0 _ hI_ hBs_ A12.out).mono ?_);rintro e w18 ⟨rfl,hi,hb,hk⟩;refine⟨_,rfl,?_⟩;replace HO677:=a0_ (Kd.R_mono (Kd.R_keep (IsS123.apart (show IsS123 w0 _ g s0_0 t668 from hI_) (uR_ HO677) (by decide)) hk (fun _ h=>h.2)) (fun _ h=>h.1));replace HK:=kk_ HK hk;replace HB:=a0_ (hb);replace HI0:=a0_ (hi);(try clear hi hb hk);obtain⟨Ao19,co19,eo19⟩:=Kd.R_slice HO677.out;subst eo19;have p680:0≤(t678:Int):=od_;have q680:t678<(y675.length:Int):=od_;obtain⟨ad680,e680,hx680_0⟩:=Kd.at_int (Kd.R_reads' HO677.out).2.2 t678 p680 q680;cases e680;replace p680:=eq_true p680;replace q680:=eq_true q680))
    go_ret;exact⟨rr_,by repeat (first | (with_reducible first | exact HI0.out | apply IsS123.alloc | apply IsS123.drewN | apply IsS123.drew | apply IsS123.set_1) | exact HI0.out),by repeat (first | (with_reducible first | exact HB.out | apply below_alloc | apply pw_below_drewN | apply below_drew1 | refine below_set ?_ (IsS123.ge HI0.out)) | exact HB.out),by repeat (first | (with_reducible first | exact HK.out | apply KeepBut.set_ | apply keep_drewN | apply keep_drew | apply keep_alloc) | exact HK.out)⟩
   ·
    rw [if_neg c14] at H;exact absurd H (by simp)
  ·
   rw [if_neg c13] at H;exact absurd H (by simp)
def spec_l11Edges.l0:Nat→List (S61)→Int→List (S28)→List (List (S28))→Option ((List (S61)))
 | 0,_,_,_,_=>none
 | k+1,x3,x4,x457000,x457001=>if x4<(x457001.length:Int) then (if 0≤x4 then ((spec_l3Edges.f k (rd_L5 x457001 x4)).bind fun t461=>(if x3.length+t461.length<4398046511104 then (spec_l11Edges.l0 k (x3++t461) (wrap64 (x4+1)) x457000 x457001) else (none))) else (none)) else (some x3)
def spec_l11Edges.f (k:Nat)(l0_0:List (S28))(l0_1:List (List (S28))):Option ((List (S61))):=(spec_l3Edges.f k l0_0).bind fun t457=>(spec_l11Edges.l0 k t457 0 l0_0 l0_1)
set_option maxHeartbeats 8000000 in
set_option maxRecDepth 100000 in
theorem spec_l11Edges.calls (k:Nat)(A0_0:Option Addr)(c0_0:Nat)(l0_0:List (S28))(A0_1:Option Addr)(c0_1:Nat)(l0_1:List (List (S28)))(r:List (S61))(w:World)(hr0_0:Kd.C k28 w A0_0 l0_0.length l0_0)(hc0_0:l0_0.length≤c0_0)(hr0_1:Kd.C (Kd.slice 28 k28) w A0_1 l0_1.length l0_1)(hc0_1:l0_1.length≤c0_1)(h:spec_l11Edges.f k l0_0 l0_1=some r):
  Calls Tryd.prog 66 #[.agg #[.slice A0_0 l0_0.length c0_0,.slice A0_1 l0_1.length c0_1]] w fun e w'=>∃ v0_:Value,e=.returned (v0_)∧Kd.R k61 61 w' w.heap.size (fun _=>True) v0_ r∧Below w.heap.size w w':=by
 have hu26:=Tryd.underlying26;have HR0_0:=Aside0.mk hr0_0;have HC0_0:=Aside0.mk hc0_0;clear hr0_0 hc0_0;have HR0_1:=Aside0.mk hr0_1;have HC0_1:=Aside0.mk hc0_1;clear hr0_1 hc0_1;have HB:=a0_ (Below.refl w.heap.size w);have H:((spec_l3Edges.f k l0_0).bind fun t457=>(spec_l11Edges.l0 k t457 0 l0_0 l0_1))=some r:=h;clear h;replace H:=Option.bind_eq_some_iff.mp H;obtain⟨t457,A20,H⟩:=H
 (try dsimp only at H)
 have A2:=Aside0.mk A20;clear A20;have H':=Aside0.mk H;clear H;go_enter Tryd.func66,Tryd.ntmps66;go_wp2_with (first | ((with_reducible refine gate_dst (N:=1) rfl ?_);refine bx_ (N:=1) (cs:=#[.slice A0_0 l0_0.length c0_0,.slice A0_1 l0_1.length c0_1]) (t:=26) (h:=?_);intro gb456 hg w3 hbox hb;have BK456:=a0_ (hbox);have GW456:=gh_ HB hg;have GE456:=gh_ HB hg;replace HB:=sb_ HB hb;clear hb hbox hg;have hcz4_0:=c20_ BK456;have hcz4_1:=c21_ BK456;have hfz4_0:=fz_ BK456 0;have hfz4_1:=fz_ BK456 1) | ((with_reducible refine gate_callee (f:=98) rfl ?_);refine gL_ (some 7) Tryd.func98 #[.slice A0_0 l0_0.length c0_0] (h:=?_);(with_reducible refine (spec_l3Edges.calls k _ _ l0_0 t457 _ ?side1 ?side2 A2.out).mono ?_);(case side1=>repeat (first | exact (Kd.C_below HR0_0.out HB.out) | (with_reducible refine Kd.C_alloc ?_ _) | (with_reducible refine Kd.C_drewN ?_ _) | (with_reducible refine Kd.C_drew ?_)));(case side2=>exact HC0_0.out);rintro e w5 ⟨v458,rfl,ho0,hb⟩;refine⟨_,rfl,?_⟩;have HO459:=a0_ (Kd.R_lower ho0 (below_size hB_));replace BK456:=vb_ BK456 hb;replace HB:=sb_ HB hb;(try clear ho0 hb)));go_loopg [3,4] k (fun kq v3 v4 w'=>∃ (x3_1:List (S61)) (x4_1:Int),v4=.int .i64 x4_1∧Aside0 (spec_l11Edges.l0 kq x3_1 x4_1 l0_0 l0_1=some r)∧Aside0 (kq≤k)∧Aside0 (Kd.R k61 61 w' w.heap.size (fun _=>True) v3 x3_1)∧Aside0 (w'.heap[gb456]?=some (.cells #[(.slice A0_0 l0_0.length c0_0),(.slice A0_1 l0_1.length c0_1)] 26 (0,0)))∧Aside0 (Below w.heap.size w w'))
 case atStart=>exact⟨(t457),(0),(by first | rfl | (simp;done) | (simp [*];done)),H',⟨Nat.le_refl _⟩,⟨by (with_reducible repeat (first | apply Kd.R_alloc | apply Kd.R_drewN | apply Kd.R_drew));exact HO459.out⟩,⟨uq_⟩,⟨hB_⟩⟩
 case round =>
  clear H';obtain⟨x3_1,x4_1,rfl,HA,HK1,HO_3,BK456,HB⟩:=hrel
  cases gk with
  | zero=>exact absurd HA.out (by simp [spec_l11Edges.l0])
  | succ k1 =>
   have H:=HA.out;clear HA;simp only [spec_l11Edges.l0] at H;by_cases c6:x4_1<(l0_1.length:Int)
   ·
    rw [if_pos c6] at H;have c6b0:decide (x4_1<(l0_1.length:Int))=true:=decide_eq_true c6;clear c6;by_cases c7:0≤x4_1
    ·
     rw [if_pos c7] at H;have c7b0:decide (0≤x4_1)=true:=decide_eq_true c7;clear c7;replace H:=Option.bind_eq_some_iff.mp H;obtain⟨t461,A80,H⟩:=H
     (try dsimp only at H)
     have A8:=Aside0.mk A80;clear A80;by_cases c9:x3_1.length+t461.length<4398046511104
     ·
      rw [if_pos c9] at H;have LMc9:=Aside0.mk c9;clear c9;obtain⟨y464,hy464⟩:∃ y_:List (S61),y_=(x3_1++t461):=⟨_,rfl⟩;replace H:(spec_l11Edges.l0 k1 y464 (wrap64 (x4_1+1)) l0_0 l0_1)=some r:=by first | (rw [hy464];with_reducible exact H) | (have H2_:=(Option.bind_some _ _).symm.trans H;rw [hy464];with_reducible exact H2_) | (have H2_:=(Option.bind_some _ _).symm.trans H;with_reducible exact H2_) | with_reducible exact H | (rw [hy464];exact H) | exact H
      have Ny464:=Aside0.mk hy464;clear hy464;have H':=Aside0.mk H;clear H;have hcz10_0:=c20_ BK456;have hcz10_1:=c21_ BK456;have hfz10_0:=fz_ BK456 0;have hfz10_1:=fz_ BK456 1;have p460:0≤(x4_1:Int):=od_;have q460:x4_1<(l0_1.length:Int):=od_;obtain⟨ad460,A460_0,c460_0,e460,hx460_0,hl460_0,hi460_0⟩:=at_L5 HR0_1.out x4_1 p460 q460;cases e460;replace hx460_0:=ce_ HB hx460_0;have HR460_0:=Aside0.mk hi460_0;have HC460_0:=Aside0.mk hl460_0;clear hi460_0 hl460_0;replace p460:=eq_true p460;replace q460:=eq_true q460
      go_wp2_with (first | ((with_reducible refine gate_callee (f:=98) rfl ?_);refine gL_ (some 21) Tryd.func98 #[.slice A460_0 (rd_L5 l0_1 x4_1).length c460_0] (h:=?_);(with_reducible refine (spec_l3Edges.calls k1 _ _ (rd_L5 l0_1 x4_1) t461 _ ?side1 ?side2 A8.out).mono ?_);(case side1=>repeat (first | exact (Kd.C_below HR460_0.out HB.out) | (with_reducible refine Kd.C_alloc ?_ _) | (with_reducible refine Kd.C_drewN ?_ _) | (with_reducible refine Kd.C_drew ?_)));(case side2=>exact HC460_0.out);rintro e w11 ⟨v462,rfl,ho0,hb⟩;refine⟨_,rfl,?_⟩;have HO463:=a0_ (Kd.R_lower (Kd.R_new' ho0 (Kd.R_lt (uR_ HO_3))) (below_size hB_));replace HO_3:=a0_ (Kd.R_elder' (uR_ HO_3) (Kd.R_base ho0) hb);replace BK456:=vb_ BK456 hb;replace HB:=sb_ HB hb;(try clear ho0 hb);obtain⟨Ao13,co13,eo13⟩:=Kd.R_slice HO463.out;subst eo13) | ((with_reducible refine gate_builtin (b:=.append) (xs:=#[.tmp 15,.tmp 21]) rfl ?_);at_builtin;refine Kd.R_append_rows k61 (w0:=w) w.heap.size rfl (.tmp 15) (.tmp 21) 57 61 (.agg #[(.int .i64 0),(.int .i64 0),(.int .i64 0),(.int .i64 0)]) 32 rfl Tryd.underlying57 info61 rfl (by decide) (by omega) u3 x3_1 t461 _ _ _ (fun k_=>some k_≠(.slice Ao13 t461.length co13:Value).ownBlock) (fun _=>False) rfl rfl ?aO ?aR (fun _ _ h=>h) (fun _ h=>h.elim) ?aF ?aB ?aS ?aL ?_;(case aR=>repeat (first | exact (Kd.R_reads' HO463.out).2.2 | (with_reducible refine Kd.C_alloc ?_ _) | (with_reducible refine Kd.C_drewN ?_ _) | (with_reducible refine Kd.C_drew ?_)));(case aB=>exact hB_);(case aF=>exact (fun k_ hk=>Kd.fresh' (Kd.R_lt (uR_ HO463)) k_ hk));(case aO=>exact (by (with_reducible repeat (first | apply Kd.R_alloc | apply Kd.R_drewN | apply Kd.R_drew));exact Kd.R_mono HO_3.out (fun _ hk=>hk.2)));(case aS=>exact (below_size hB_));(case aL=>have:=LMc9.out;omega);intro v465 w12 ho hb hg hat;rw [← Ny464.out] at ho;have HO466:=a0_ (ho);replace BK456:=a0_ (blk_grown (g:=gb456) (o:=.cells #[.slice A0_0 l0_0.length c0_0,.slice (some ad460) l0_1.length c0_1] 26 (0,0)) uq_ hg (Kd.R_ne HO_3.out BK456.out (by decide)));replace HO463:=a0_ (Kd.R_after (ok:=(fun _=>True)) (uR_ HO463) hg hat);replace HB:=a0_ (hb);clear HO_3;clear ho hb hg hat))
      go_roundg k1
      case measure=>have:=HK1.out;omega
      case rel=>exact⟨(y464),(wrap64 (x4_1+1)),(by first | rfl | (simp;done) | (simp [*];done)),H',⟨by have:=HK1.out;omega⟩,⟨by (with_reducible repeat (first | apply Kd.R_alloc | apply Kd.R_drewN | apply Kd.R_drew));exact Kd.R_mono HO466.out (fun _ hk=>trivial)⟩,⟨uq_⟩,⟨hB_⟩⟩
     ·
      rw [if_neg c9] at H;exact absurd H (by simp)
    ·
     rw [if_neg c7] at H;exact absurd H (by simp)
   ·
    rw [if_neg c6] at H;have c6b0:decide (x4_1<(l0_1.length:Int))=false:=decide_eq_false c6;clear c6;obtain rfl:=Option.some.inj H;have hcz14_0:=c20_ BK456;have hcz14_1:=c21_ BK456;have hfz14_0:=fz_ BK456 0;have hfz14_1:=fz_ BK456 1;go_wp2;go_ret;exact⟨_,rr_,by (with_reducible repeat (first | apply Kd.R_alloc | apply Kd.R_drewN | apply Kd.R_drew));exact HO_3.out,hB_⟩
def spec_l11In.l0:Nat→Int→Int→List (S28)→List (List (S28))→Int→Int→Option (Int)
 | 0,_,_,_,_,_,_=>none
 | k+1,x5,x6,x393000,x393001,x394000,x394001=>if x6<(x393001.length:Int) then (if 0≤x6 then ((spec_l3In.f (rd_L5 x393001 x6) x394000 x394001).bind fun t396=>(spec_l11In.l0 k (mn x5 (wrap64 (-t396))) (wrap64 (x6+1)) x393000 x393001 x394000 x394001)) else (none)) else (some x5)
def spec_l11In.f (k:Nat)(l0_0:List (S28))(l0_1:List (List (S28)))(a1_0:Int)(a1_1:Int):Option (Int):=(spec_l3In.f l0_0 a1_0 a1_1).bind fun t394=>(spec_l11In.l0 k t394 0 l0_0 l0_1 a1_0 a1_1)
def spec_l11In.T5:Bool × List (List Nat × List Nat):=(true,[([],[]),([],[]),([1],[1]),([],[]),([2,3],[2,3]),([4],[4]),([],[]),([5,6],[5,6]),([7],[7]),([0,8],[0,8]),([9,7,0,1,2,3,4,5,6,7,8,9],[0,9])])
def spec_l11In.B5:List Nat:=[0,0,2,0,14,30,0,126,254,511,1023]
theorem spec_l11In.tab5:rtab .any (opsOf Tryd.f54 5)=spec_l11In.T5:=by kernel_rfl
theorem spec_l11In.bits5:waitsOk spec_l11In.T5.2 spec_l11In.B5=true:=by kernel_rfl
set_option maxHeartbeats 8000000 in
set_option maxRecDepth 100000 in
theorem spec_l11In.calls (k:Nat)(A0_0:Option Addr)(c0_0:Nat)(l0_0:List (S28))(A0_1:Option Addr)(c0_1:Nat)(l0_1:List (List (S28)))(a1_0:Int)(a1_1:Int)(r:Int)(w:World)(hr0_0:Kd.C k28 w A0_0 l0_0.length l0_0)(hc0_0:l0_0.length≤c0_0)(hr0_1:Kd.C (Kd.slice 28 k28) w A0_1 l0_1.length l0_1)(hc0_1:l0_1.length≤c0_1)(h:spec_l11In.f k l0_0 l0_1 a1_0 a1_1=some r):
  Calls Tryd.prog 54 #[.agg #[.slice A0_0 l0_0.length c0_0,.slice A0_1 l0_1.length c0_1],.agg #[.int .i64 a1_0,.int .i64 a1_1]] w fun e w'=>e=.returned (.int .i64 r)∧Below w.heap.size w w':=by
 have hu26:=Tryd.underlying26;have hu28:=Tryd.underlying28;have HR0_0:=Aside0.mk hr0_0;have HC0_0:=Aside0.mk hc0_0;clear hr0_0 hc0_0;have HR0_1:=Aside0.mk hr0_1;have HC0_1:=Aside0.mk hc0_1;clear hr0_1 hc0_1;have HB:=a0_ (Below.refl w.heap.size w);have H:((spec_l3In.f l0_0 a1_0 a1_1).bind fun t394=>(spec_l11In.l0 k t394 0 l0_0 l0_1 a1_0 a1_1))=some r:=h;clear h;replace H:=Option.bind_eq_some_iff.mp H;obtain⟨t394,A30,H⟩:=H
 (try dsimp only at H)
 have A3:=Aside0.mk A30;clear A30;have H':=Aside0.mk H;clear H;go_enter Tryd.func54,Tryd.ntmps54;go_wp2_with (first | ((with_reducible refine gate_dst (N:=2) rfl ?_);refine bx_ (N:=2) (cs:=#[.slice A0_0 l0_0.length c0_0,.slice A0_1 l0_1.length c0_1]) (t:=26) (h:=?_);intro gb392 hg w4 hbox hb;have BK392:=a0_ (hbox);have GW392:=gh_ HB hg;have GE392:=gh_ HB hg;replace HB:=sb_ HB hb;clear hb hbox hg) | ((with_reducible refine gate_dst (N:=3) rfl ?_);refine bx_ (N:=3) (cs:=#[.int .i64 a1_0,.int .i64 a1_1]) (t:=28) (h:=?_);intro gb393 hg w5 hbox hb;have BK393:=a0_ (hbox);have GW393:=gh_ HB hg;have GE393:=gh_ HB hg;have NB392_393:=nl_ BK392 hg;have NB393_392:=nr_ BK392 hg;replace BK392:=vb_ BK392 hb;replace HB:=sb_ HB hb;clear hb hbox hg;have hnb6:=NB392_393.out;have hnc6:=NB393_392.out;have hcz7_0:=c20_ BK392;have hcz7_1:=c21_ BK392;have hfz7_0:=fz_ BK392 0;have hfz7_1:=fz_ BK392 1;have hcz8_0:=c20_ BK393;have hcz8_1:=c21_ BK393;have hfz8_0:=fz_ BK393 0;have hfz8_1:=fz_ BK393 1) | ((with_reducible refine gate_callee (f:=56) rfl ?_);refine gL_ (some 10) Tryd.func56 #[.slice A0_0 l0_0.length c0_0,.agg #[.int .i64 a1_0,.int .i64 a1_1]] (h:=?_);(with_reducible refine (spec_l3In.calls _ _ l0_0 a1_0 a1_1 t394 _ ?side1 ?side2 A3.out).mono ?_);(case side1=>repeat (first | exact (Kd.C_below HR0_0.out HB.out) | (with_reducible refine Kd.C_alloc ?_ _) | (with_reducible refine Kd.C_drewN ?_ _) | (with_reducible refine Kd.C_drew ?_)));(case side2=>exact HC0_0.out);rintro e w9 ⟨rfl,hb⟩;refine⟨_,rfl,?_⟩;replace BK392:=vb_ BK392 hb;replace BK393:=vb_ BK393 hb;replace HB:=sb_ HB hb;(try clear hb)))
 go_loopg [5,6] k (fun kq v5 v6 w'=>∃ (x5_1:Int) (x6_1:Int),v5=.int .i64 x5_1∧v6=.int .i64 x6_1∧Aside0 (spec_l11In.l0 kq x5_1 x6_1 l0_0 l0_1 a1_0 a1_1=some r)∧Aside0 (kq≤k)∧Aside0 (w'.heap[gb392]?=some (.cells #[(.slice A0_0 l0_0.length c0_0),(.slice A0_1 l0_1.length c0_1)] 26 (0,0)))∧Aside0 (w'.heap[gb393]?=some (.cells #[.int .i64 a1_0,.int .i64 a1_1] 28 (0,0)))∧Aside0 (Below w.heap.size w w'))
 case atStart=>exact⟨(t394),(0),(by first | rfl | (simp;done) | (simp [*];done)),(by first | rfl | (simp;done) | (simp [*];done)),H',⟨Nat.le_refl _⟩,⟨uq_⟩,⟨uq_⟩,⟨hB_⟩⟩
 case round =>
  clear H';obtain⟨x5_1,x6_1,rfl,rfl,HA,HK1,BK392,BK393,HB⟩:=hrel
  cases gk with
  | zero=>exact absurd HA.out (by simp [spec_l11In.l0])
  | succ k1 =>
   have H:=HA.out;clear HA;simp only [spec_l11In.l0] at H;by_cases c10:x6_1<(l0_1.length:Int)
   ·
    rw [if_pos c10] at H;have c10b0:decide (x6_1<(l0_1.length:Int))=true:=decide_eq_true c10;clear c10;by_cases c11:0≤x6_1
    ·
     rw [if_pos c11] at H;have c11b0:decide (0≤x6_1)=true:=decide_eq_true c11;clear c11;replace H:=Option.bind_eq_some_iff.mp H;obtain⟨t396,A120,H⟩:=H
     (try dsimp only at H)
     have A12:=Aside0.mk A120;clear A120;obtain⟨ji13,hji13⟩:∃ j_:Int,(mn x5_1 (wrap64 (-t396)))=j_:=⟨_,rfl⟩;replace H:(spec_l11In.l0 k1 ji13 (wrap64 (x6_1+1)) l0_0 l0_1 a1_0 a1_1)=some r:=by first | (rw [hji13] at H;exact H) | (simp only [hji13] at H ⊢;exact H)
     (try rw [hji13] at A12)
     have hji13_:(if (wrap64 (-t396))<x5_1 then (wrap64 (-t396)) else x5_1)=ji13:=hji13;have H':=Aside0.mk H;clear H;have hnb14:=NB392_393.out;have hnc14:=NB393_392.out;have hcz15_0:=c20_ BK392;have hcz15_1:=c21_ BK392;have hfz15_0:=fz_ BK392 0;have hfz15_1:=fz_ BK392 1
     try go_wp2
     replace BK392:=a0_ (blk_drew BK392.out);replace BK393:=a0_ (blk_drew BK393.out);replace HB:=a0_ (below_drew1 HB.out);have p395:0≤(x6_1:Int):=od_;have q395:x6_1<(l0_1.length:Int):=od_;obtain⟨ad395,A395_0,c395_0,e395,hx395_0,hl395_0,hi395_0⟩:=at_L5 HR0_1.out x6_1 p395 q395;have hw395_0:=hx395_0;cases e395;replace hx395_0:=ce_ HB hx395_0;have HR395_0:=Aside0.mk hi395_0;have HC395_0:=Aside0.mk hl395_0;clear hi395_0 hl395_0;replace p395:=eq_true p395;replace q395:=eq_true q395;refine start_ (n:=11) (S:=fun w'=>w'.cell? ⟨gb392,0,none⟩=some (.slice A0_0 l0_0.length c0_0)∧w'.cell? ⟨gb392,1,none⟩=some (.slice (some ad395) l0_1.length c0_1)∧w'.cell? ⟨gb393,0,none⟩=some (.int .i64 a1_0)∧w'.cell? ⟨gb393,1,none⟩=some (.int .i64 a1_1)∧w'.cell? (ad395.add (x6_1).toNat)=some (.slice A395_0 (rd_L5 l0_1 x6_1).length c395_0)) (ds:=[]) (Array.replicate 11 false) (by kernel_rfl) rfl rfl ⟨bc_,bc_,bc_,bc_,(ce_ HB hw395_0)⟩ (fun hHeld=>?_);refine with_tabW spec_l11In.tab5 spec_l11In.bits5 (fun HT_ HW_=>?_);generalize wr.drew=w16 at BK392 BK393 HB HR395_0 hx395_0 hHeld ⊢
     refine pu_ HT_ 0 18 (bm 11 1) ?_;refine pu_ HT_ 1 19 (bm 11 3) ?_;refine pu_ HT_ 3 21 (bm 11 11) ?_;refine ta5_ HT_ HW_ 2 20 (bm 11 15) hHeld ?_;refine pu_ HT_ 4 22 (bm 11 31) ?_;refine ta5_ HT_ HW_ 5 23 (bm 11 63) hHeld ?_;refine ta5_ HT_ HW_ 6 24 (bm 11 127) hHeld ?_;refine one_ (i:=7) (N:=some 25) (bm 11 255) rfl rfl (one_of HT_.out (by kernel_rfl)) (by decide) (fun K hK=>?_);refine goes_ Tryd.func56 (by kernel_rfl) rfl #[.slice A395_0 (rd_L5 l0_1 x6_1).length c395_0,.agg #[.int .i64 a1_0,.int .i64 a1_1]] (by rfl) rfl rfl ma_ ?_
     with_reducible refine (spec_l3In.calls _ _ (rd_L5 l0_1 x6_1) a1_0 a1_1 t396 _ ?side1 ?side2 A12.out).mono ?_
     (case side1=>repeat (first | exact (Kd.C_below HR395_0.out HB.out) | (with_reducible refine Kd.C_alloc ?_ _) | (with_reducible refine Kd.C_drewN ?_ _) | (with_reducible refine Kd.C_drew ?_)))
     (case side2=>exact HC395_0.out)
     rintro e w17 ⟨rfl,hb⟩;refine⟨_,rfl,?_⟩;replace BK392:=vb_ BK392 hb;replace BK393:=vb_ BK393 hb;replace HB:=sb_ HB hb
     (try clear hb)
     (try clear hb2)
     (try clear hk)
     (try clear hi)
     refine hK.out _ _ ⟨bc_,bc_,bc_,bc_,(ce_ HB hw395_0)⟩ (fun hHeld=>?_);clear hK K;refine no_ (h:=?_);refine pu_ HT_ 8 26 (bm 11 511) ?_;refine pu_ HT_ 9 27 (bm 11 1023) ?_;refine pu_ HT_ 10 5 (bm 11 2047) ?_;refine done_ (done_of HT_.out (by kernel_rfl)) ?_
     try go_wp2
     go_roundg k1
     case measure=>have:=HK1.out;omega
     case rel=>exact⟨(ji13),(wrap64 (x6_1+1)),(by first | rfl | (simp;done) | (simp only [← hji13] <;> (first | rfl | simp)) | (simp [*];done)),(by first | rfl | (simp;done) | (simp [*];done)),H',⟨by have:=HK1.out;omega⟩,⟨uq_⟩,⟨uq_⟩,⟨hB_⟩⟩
    ·
     rw [if_neg c11] at H;exact absurd H (by simp)
   ·
    rw [if_neg c10] at H;have c10b0:decide (x6_1<(l0_1.length:Int))=false:=decide_eq_false c10;clear c10;obtain rfl:=Option.some.inj H;have hnb18:=NB392_393.out;have hnc18:=NB393_392.out;have hcz19_0:=c20_ BK392;have hcz19_1:=c21_ BK392;have hfz19_0:=fz_ BK392 0;have hfz19_1:=fz_ BK392 1;go_wp2;go_ret;exact⟨rr_,hB_⟩
def spec_l13Near.f (a0_0:Int)(a0_1:Int)(a0_2:Int)(a0_3:Int)(a1:Int)(a2_0:Int)(a2_1:Int):Option (Bool):=(spec_l2Dot.f a0_0 a0_1 a0_2 a0_3 a2_0 a2_1).bind fun t446=>((spec_l2Dot.f a0_0 a0_1 a0_2 a0_3 a0_2 a0_3).bind fun t447=>(if t446≤0 then ((spec_l2Dot.f a0_0 a0_1 a2_0 a2_1 a2_0 a2_1).bind fun t448=>(some (decide (t448<a1)))) else (if t446≥t447 then ((spec_l2Dot.f a0_2 a0_3 a2_0 a2_1 a2_0 a2_1).bind fun t449=>(some (decide (t449<a1)))) else ((spec_l2Cross.f a0_0 a0_1 a0_2 a0_3 a2_0 a2_1).bind fun t450=>(some (decide ((wrap64 (t450*t450))<(wrap64 (a1*t447)))))))))
set_option maxHeartbeats 8000000 in
set_option maxRecDepth 100000 in
theorem spec_l13Near.calls (a0_0:Int)(a0_1:Int)(a0_2:Int)(a0_3:Int)(a1:Int)(a2_0:Int)(a2_1:Int)(r:Bool)(w:World)(h:spec_l13Near.f a0_0 a0_1 a0_2 a0_3 a1 a2_0 a2_1=some r):
  Calls Tryd.prog 105 #[.agg #[.int .i64 a0_0,.int .i64 a0_1,.int .i64 a0_2,.int .i64 a0_3],.int .i64 a1,.agg #[.int .i64 a2_0,.int .i64 a2_1]] w fun e w'=>e=.returned (.bool r)∧Below w.heap.size w w':=by
 have hu61:=Tryd.underlying61;have hu28:=Tryd.underlying28;have HB:=a0_ (Below.refl w.heap.size w);have H:((spec_l2Dot.f a0_0 a0_1 a0_2 a0_3 a2_0 a2_1).bind fun t446=>((spec_l2Dot.f a0_0 a0_1 a0_2 a0_3 a0_2 a0_3).bind fun t447=>(if t446≤0 then ((spec_l2Dot.f a0_0 a0_1 a2_0 a2_1 a2_0 a2_1).bind fun t448=>(some (decide (t448<a1)))) else (if t446≥t447 then ((spec_l2Dot.f a0_2 a0_3 a2_0 a2_1 a2_0 a2_1).bind fun t449=>(some (decide (t449<a1)))) else ((spec_l2Cross.f a0_0 a0_1 a0_2 a0_3 a2_0 a2_1).bind fun t450=>(some (decide ((wrap64 (t450*t450))<(wrap64 (a1*t447))))))))))=some r:=h;clear h;replace H:=Option.bind_eq_some_iff.mp H;obtain⟨t446,A40,H⟩:=H
 (try dsimp only at H)
 have A4:=Aside0.mk A40;clear A40;replace H:=Option.bind_eq_some_iff.mp H;obtain⟨t447,A50,H⟩:=H
 (try dsimp only at H)
 have A5:=Aside0.mk A50;clear A50;by_cases c6:t446≤0
 ·
  rw [if_pos c6] at H;have c6b0:decide (t446≤0)=true:=decide_eq_true c6;clear c6;replace H:=Option.bind_eq_some_iff.mp H;obtain⟨t448,A70,H⟩:=H
  (try dsimp only at H)
  have A7:=Aside0.mk A70;clear A70;obtain rfl:=Option.some.inj H;go_enter Tryd.func105,Tryd.ntmps105
  go_wp2_with (first | ((with_reducible refine gate_dst (N:=3) rfl ?_);refine bx_ (N:=3) (cs:=#[.int .i64 a0_0,.int .i64 a0_1,.int .i64 a0_2,.int .i64 a0_3]) (t:=61) (h:=?_);intro gb444 hg w8 hbox hb;have BK444:=a0_ (hbox);have GW444:=gh_ HB hg;have GE444:=gh_ HB hg;replace HB:=sb_ HB hb;clear hb hbox hg) | ((with_reducible refine gate_dst (N:=5) rfl ?_);refine bx_ (N:=5) (cs:=#[.int .i64 a2_0,.int .i64 a2_1]) (t:=28) (h:=?_);intro gb445 hg w9 hbox hb;have BK445:=a0_ (hbox);have GW445:=gh_ HB hg;have GE445:=gh_ HB hg;have NB444_445:=nl_ BK444 hg;have NB445_444:=nr_ BK444 hg;replace BK444:=vb_ BK444 hb;replace HB:=sb_ HB hb;clear hb hbox hg;have hnb10:=NB444_445.out;have hnc10:=NB445_444.out;have hcz11_0:=c40_ BK444;have hcz11_1:=c41_ BK444;have hcz11_2:=c42_ BK444;have hcz11_3:=c43_ BK444;have hfz11_0:=fz_ BK444 0;have hfz11_1:=fz_ BK444 1;have hfz11_2:=fz_ BK444 2;have hfz11_3:=fz_ BK444 3;have hcz12_0:=c20_ BK445;have hcz12_1:=c21_ BK445;have hfz12_0:=fz_ BK445 0;have hfz12_1:=fz_ BK445 1) | ((with_reducible refine gate_callee (f:=117) rfl ?_);refine gL_ (some 15) Tryd.func117 #[.agg #[.int .i64 a0_0,.int .i64 a0_1],.agg #[.int .i64 a0_2,.int .i64 a0_3],.agg #[.int .i64 a2_0,.int .i64 a2_1]] (h:=?_);(with_reducible refine (spec_l2Dot.calls a0_0 a0_1 a0_2 a0_3 a2_0 a2_1 t446 _ A4.out).mono ?_);rintro e w13 ⟨rfl,hb⟩;refine⟨_,rfl,?_⟩;replace BK444:=vb_ BK444 hb;replace BK445:=vb_ BK445 hb;replace HB:=sb_ HB hb;(try clear hb);have hcz14_0:=c40_ BK444;have hcz14_1:=c41_ BK444;have hcz14_2:=c42_ BK444;have hcz14_3:=c43_ BK444;have hfz14_0:=fz_ BK444 0;have hfz14_1:=fz_ BK444 1;have hfz14_2:=fz_ BK444 2;have hfz14_3:=fz_ BK444 3) | ((with_reducible refine gate_callee (f:=117) rfl ?_);refine gL_ (some 22) Tryd.func117 #[.agg #[.int .i64 a0_0,.int .i64 a0_1],.agg #[.int .i64 a0_2,.int .i64 a0_3],.agg #[.int .i64 a0_2,.int .i64 a0_3]] (h:=?_);(with_reducible refine (spec_l2Dot.calls a0_0 a0_1 a0_2 a0_3 a0_2 a0_3 t447 _ A5.out).mono ?_);rintro e w15 ⟨rfl,hb⟩;refine⟨_,rfl,?_⟩;replace BK444:=vb_ BK444 hb;replace BK445:=vb_ BK445 hb;replace HB:=sb_ HB hb;(try clear hb);have hcz16_0:=c40_ BK444;have hcz16_1:=c41_ BK444;have hcz16_2:=c42_ BK444;have hcz16_3:=c43_ BK444;have hfz16_0:=fz_ BK444 0;have hfz16_1:=fz_ BK444 1;have hfz16_2:=fz_ BK444 2;have hfz16_3:=fz_ BK444 3;have hcz17_0:=c20_ BK445;have hcz17_1:=c21_ BK445;have hfz17_0:=fz_ BK445 0;have hfz17_1:=fz_ BK445 1) | ((with_reducible refine gate_callee (f:=117) rfl ?_);refine gL_ (some 30) Tryd.func117 #[.agg #[.int .i64 a0_0,.int .i64 a0_1],.agg #[.int .i64 a2_0,.int .i64 a2_1],.agg #[.int .i64 a2_0,.int .i64 a2_1]] (h:=?_);(with_reducible refine (spec_l2Dot.calls a0_0 a0_1 a2_0 a2_1 a2_0 a2_1 t448 _ A7.out).mono ?_);rintro e w18 ⟨rfl,hb⟩;refine⟨_,rfl,?_⟩;replace BK444:=vb_ BK444 hb;replace BK445:=vb_ BK445 hb;replace HB:=sb_ HB hb;(try clear hb)))
  go_ret;exact⟨rr_,hB_⟩
 ·
  rw [if_neg c6] at H;have c6b0:decide (t446≤0)=false:=decide_eq_false c6;clear c6;by_cases c19:t446≥t447
  ·
   rw [if_pos c19] at H;have c19b0:decide (t447≤t446)=true:=decide_eq_true c19;clear c19;replace H:=Option.bind_eq_some_iff.mp H;obtain⟨t449,A200,H⟩:=H
   (try dsimp only at H)
   have A20:=Aside0.mk A200;clear A200;obtain rfl:=Option.some.inj H;go_enter Tryd.func105,Tryd.ntmps105
   go_wp2_with (first | ((with_reducible refine gate_dst (N:=3) rfl ?_);refine bx_ (N:=3) (cs:=#[.int .i64 a0_0,.int .i64 a0_1,.int .i64 a0_2,.int .i64 a0_3]) (t:=61) (h:=?_);intro gb444 hg w21 hbox hb;have BK444:=a0_ (hbox);have GW444:=gh_ HB hg;have GE444:=gh_ HB hg;replace HB:=sb_ HB hb;clear hb hbox hg) | ((with_reducible refine gate_dst (N:=5) rfl ?_);refine bx_ (N:=5) (cs:=#[.int .i64 a2_0,.int .i64 a2_1]) (t:=28) (h:=?_);intro gb445 hg w22 hbox hb;have BK445:=a0_ (hbox);have GW445:=gh_ HB hg;have GE445:=gh_ HB hg;have NB444_445:=nl_ BK444 hg;have NB445_444:=nr_ BK444 hg;replace BK444:=vb_ BK444 hb;replace HB:=sb_ HB hb;clear hb hbox hg;have hnb23:=NB444_445.out;have hnc23:=NB445_444.out;have hcz24_0:=c40_ BK444;have hcz24_1:=c41_ BK444;have hcz24_2:=c42_ BK444;have hcz24_3:=c43_ BK444;have hfz24_0:=fz_ BK444 0;have hfz24_1:=fz_ BK444 1;have hfz24_2:=fz_ BK444 2;have hfz24_3:=fz_ BK444 3;have hcz25_0:=c20_ BK445;have hcz25_1:=c21_ BK445;have hfz25_0:=fz_ BK445 0;have hfz25_1:=fz_ BK445 1) | ((with_reducible refine gate_callee (f:=117) rfl ?_);refine gL_ (some 15) Tryd.func117 #[.agg #[.int .i64 a0_0,.int .i64 a0_1],.agg #[.int .i64 a0_2,.int .i64 a0_3],.agg #[.int .i64 a2_0,.int .i64 a2_1]] (h:=?_);(with_reducible refine (spec_l2Dot.calls a0_0 a0_1 a0_2 a0_3 a2_0 a2_1 t446 _ A4.out).mono ?_);rintro e w26 ⟨rfl,hb⟩;refine⟨_,rfl,?_⟩;replace BK444:=vb_ BK444 hb;replace BK445:=vb_ BK445 hb;replace HB:=sb_ HB hb;(try clear hb);have hcz27_0:=c40_ BK444;have hcz27_1:=c41_ BK444;have hcz27_2:=c42_ BK444;have hcz27_3:=c43_ BK444;have hfz27_0:=fz_ BK444 0;have hfz27_1:=fz_ BK444 1;have hfz27_2:=fz_ BK444 2;have hfz27_3:=fz_ BK444 3) | ((with_reducible refine gate_callee (f:=117) rfl ?_);refine gL_ (some 22) Tryd.func117 #[.agg #[.int .i64 a0_0,.int .i64 a0_1],.agg #[.int .i64 a0_2,.int .i64 a0_3],.agg #[.int .i64 a0_2,.int .i64 a0_3]] (h:=?_);(with_reducible refine (spec_l2Dot.calls a0_0 a0_1 a0_2 a0_3 a0_2 a0_3 t447 _ A5.out).mono ?_);rintro e w28 ⟨rfl,hb⟩;refine⟨_,rfl,?_⟩;replace BK444:=vb_ BK444 hb;replace BK445:=vb_ BK445 hb;replace HB:=sb_ HB hb;(try clear hb);have hcz29_0:=c40_ BK444;have hcz29_1:=c41_ BK444;have hcz29_2:=c42_ BK444;have hcz29_3:=c43_ BK444;have hfz29_0:=fz_ BK444 0;have hfz29_1:=fz_ BK444 1;have hfz29_2:=fz_ BK444 2;have hfz29_3:=fz_ BK444 3;have hcz30_0:=c20_ BK445;have hcz30_1:=c21_ BK445;have hfz30_0:=fz_ BK445 0;have hfz30_1:=fz_ BK445 1) | ((with_reducible refine gate_callee (f:=117) rfl ?_);refine gL_ (some 41) Tryd.func117 #[.agg #[.int .i64 a0_2,.int .i64 a0_3],.agg #[.int .i64 a2_0,.int .i64 a2_1],.agg #[.int .i64 a2_0,.int .i64 a2_1]] (h:=?_);(with_reducible refine (spec_l2Dot.calls a0_2 a0_3 a2_0 a2_1 a2_0 a2_1 t449 _ A20.out).mono ?_);rintro e w31 ⟨rfl,hb⟩;refine⟨_,rfl,?_⟩;replace BK444:=vb_ BK444 hb;replace BK445:=vb_ BK445 hb;replace HB:=sb_ HB hb;(try clear hb)))
   go_ret;exact⟨rr_,hB_⟩
  ·
   rw [if_neg c19] at H;have c19b0:decide (t447≤t446)=false:=decide_eq_false c19;clear c19;replace H:=Option.bind_eq_some_iff.mp H;obtain⟨t450,A320,H⟩:=H
   (try dsimp only at H)
   have A32:=Aside0.mk A320;clear A320;obtain rfl:=Option.some.inj H;go_enter Tryd.func105,Tryd.ntmps105
   go_wp2_with (first | ((with_reducible refine gate_dst (N:=3) rfl ?_);refine bx_ (N:=3) (cs:=#[.int .i64 a0_0,.int .i64 a0_1,.int .i64 a0_2,.int .i64 a0_3]) (t:=61) (h:=?_);intro gb444 hg w33 hbox hb;have BK444:=a0_ (hbox);have GW444:=gh_ HB hg;have GE444:=gh_ HB hg;replace HB:=sb_ HB hb;clear hb hbox hg) | ((with_reducible refine gate_dst (N:=5) rfl ?_);refine bx_ (N:=5) (cs:=#[.int .i64 a2_0,.int .i64 a2_1]) (t:=28) (h:=?_);intro gb445 hg w34 hbox hb;have BK445:=a0_ (hbox);have GW445:=gh_ HB hg;have GE445:=gh_ HB hg;have NB444_445:=nl_ BK444 hg;have NB445_444:=nr_ BK444 hg;replace BK444:=vb_ BK444 hb;replace HB:=sb_ HB hb;clear hb hbox hg;have hnb35:=NB444_445.out;have hnc35:=NB445_444.out;have hcz36_0:=c40_ BK444;have hcz36_1:=c41_ BK444;have hcz36_2:=c42_ BK444;have hcz36_3:=c43_ BK444;have hfz36_0:=fz_ BK444 0;have hfz36_1:=fz_ BK444 1;have hfz36_2:=fz_ BK444 2;have hfz36_3:=fz_ BK444 3;have hcz37_0:=c20_ BK445;have hcz37_1:=c21_ BK445;have hfz37_0:=fz_ BK445 0;have hfz37_1:=fz_ BK445 1) | ((with_reducible refine gate_callee (f:=117) rfl ?_);refine gL_ (some 15) Tryd.func117 #[.agg #[.int .i64 a0_0,.int .i64 a0_1],.agg #[.int .i64 a0_2,.int .i64 a0_3],.agg #[.int .i64 a2_0,.int .i64 a2_1]] (h:=?_);(with_reducible refine (spec_l2Dot.calls a0_0 a0_1 a0_2 a0_3 a2_0 a2_1 t446 _ A4.out).mono ?_);rintro e w38 ⟨rfl,hb⟩;refine⟨_,rfl,?_⟩;replace BK444:=vb_ BK444 hb;replace BK445:=vb_ BK445 hb;replace HB:=sb_ HB hb;(try clear hb);have hcz39_0:=c40_ BK444;have hcz39_1:=c41_ BK444;have hcz39_2:=c42_ BK444;have hcz39_3:=c43_ BK444;have hfz39_0:=fz_ BK444 0;have hfz39_1:=fz_ BK444 1;have hfz39_2:=fz_ BK444 2;have hfz39_3:=fz_ BK444 3) | ((with_reducible refine gate_callee (f:=117) rfl ?_);refine gL_ (some 22) Tryd.func117 #[.agg #[.int .i64 a0_0,.int .i64 a0_1],.agg #[.int .i64 a0_2,.int .i64 a0_3],.agg #[.int .i64 a0_2,.int .i64 a0_3]] (h:=?_);(with_reducible refine (spec_l2Dot.calls a0_0 a0_1 a0_2 a0_3 a0_2 a0_3 t447 _ A5.out).mono ?_);rintro e w40 ⟨rfl,hb⟩;refine⟨_,rfl,?_⟩;replace BK444:=vb_ BK444 hb;replace BK445:=vb_ BK445 hb;replace HB:=sb_ HB hb;(try clear hb);have hcz41_0:=c40_ BK444;have hcz41_1:=c41_ BK444;have hcz41_2:=c42_ BK444;have hcz41_3:=c43_ BK444;have hfz41_0:=fz_ BK444 0;have hfz41_1:=fz_ BK444 1;have hfz41_2:=fz_ BK444 2;have hfz41_3:=fz_ BK444 3;have hcz42_0:=c20_ BK445;have hcz42_1:=c21_ BK445;have hfz42_0:=fz_ BK445 0;have hfz42_1:=fz_ BK445 1) | ((with_reducible refine gate_callee (f:=102) rfl ?_);refine gL_ (some 49) Tryd.func102 #[.agg #[.int .i64 a0_0,.int .i64 a0_1],.agg #[.int .i64 a0_2,.int .i64 a0_3],.agg #[.int .i64 a2_0,.int .i64 a2_1]] (h:=?_);(with_reducible refine (spec_l2Cross.calls a0_0 a0_1 a0_2 a0_3 a2_0 a2_1 t450 _ A32.out).mono ?_);rintro e w43 ⟨rfl,hb⟩;refine⟨_,rfl,?_⟩;replace BK444:=vb_ BK444 hb;replace BK445:=vb_ BK445 hb;replace HB:=sb_ HB hb;(try clear hb)))
   go_ret;exact⟨rr_,hB_⟩
def spec_l13Fits.l0:Nat→List (S61)→Int→Int→List (S28)→List (List (S28))→Int→Int→Option (Bool)
 | 0,_,_,_,_,_,_,_=>none
 | k+1,x1,x2,x9,x452000,x452001,x453000,x453001=>if x9<(x1.length:Int) then (if 0≤x9 then ((spec_l13Near.f ((rd_T61 x1 x9).f0.f0) ((rd_T61 x1 x9).f0.f1) ((rd_T61 x1 x9).f1.f0) ((rd_T61 x1 x9).f1.f1) x2 x453000 x453001).bind fun t454=>(if t454=true then (some false) else (spec_l13Fits.l0 k x1 x2 (wrap64 (x9+1)) x452000 x452001 x453000 x453001))) else (none)) else ((spec_l11In.f k x452000 x452001 x453000 x453001).bind fun t455=>(some (t455==1)))
def spec_l13Fits.f (k:Nat)(l0_0:List (S28))(l0_1:List (List (S28)))(l1:List (S61))(a2:Int)(a3_0:Int)(a3_1:Int):Option (Bool):=spec_l13Fits.l0 k l1 a2 0 l0_0 l0_1 a3_0 a3_1
set_option maxHeartbeats 8000000 in
set_option maxRecDepth 100000 in
theorem spec_l13Fits.calls (k:Nat)(A0_0:Option Addr)(c0_0:Nat)(l0_0:List (S28))(A0_1:Option Addr)(c0_1:Nat)(l0_1:List (List (S28)))(A1:Option Addr)(c1:Nat)(l1:List (S61))(a2:Int)(a3_0:Int)(a3_1:Int)(r:Bool)(w:World)(hr0_0:Kd.C k28 w A0_0 l0_0.length l0_0)(hc0_0:l0_0.length≤c0_0)(hr0_1:Kd.C (Kd.slice 28 k28) w A0_1 l0_1.length l0_1)(hc0_1:l0_1.length≤c0_1)(hr1:Kd.C k61 w A1 l1.length l1)(hc1:l1.length≤c1)(h:spec_l13Fits.f k l0_0 l0_1 l1 a2 a3_0 a3_1=some r):
  Calls Tryd.prog 65 #[.agg #[.slice A0_0 l0_0.length c0_0,.slice A0_1 l0_1.length c0_1],.slice A1 l1.length c1,.int .i64 a2,.agg #[.int .i64 a3_0,.int .i64 a3_1]] w fun e w'=>e=.returned (.bool r)∧Below w.heap.size w w':=by
 have hu26:=Tryd.underlying26;have hu28:=Tryd.underlying28;have hu61:=Tryd.underlying61;have HR0_0:=Aside0.mk hr0_0;have HC0_0:=Aside0.mk hc0_0;clear hr0_0 hc0_0;have HR0_1:=Aside0.mk hr0_1;have HC0_1:=Aside0.mk hc0_1;clear hr0_1 hc0_1;have HR1:=Aside0.mk hr1;have HC1:=Aside0.mk hc1;clear hr1 hc1;have HB:=a0_ (Below.refl w.heap.size w);have H:(spec_l13Fits.l0 k l1 a2 0 l0_0 l0_1 a3_0 a3_1)=some r:=h;clear h;have H':=Aside0.mk H;clear H;go_enter Tryd.func65,Tryd.ntmps65;go_wp2_with (first | ((with_reducible refine gate_dst (N:=4) rfl ?_);refine bx_ (N:=4) (cs:=#[.slice A0_0 l0_0.length c0_0,.slice A0_1 l0_1.length c0_1]) (t:=26) (h:=?_);intro gb451 hg w5 hbox hb;have BK451:=a0_ (hbox);have GW451:=gh_ HB hg;have GE451:=gh_ HB hg;replace HB:=sb_ HB hb;clear hb hbox hg) | ((with_reducible refine gate_dst (N:=7) rfl ?_);refine bx_ (N:=7) (cs:=#[.int .i64 a3_0,.int .i64 a3_1]) (t:=28) (h:=?_);intro gb452 hg w6 hbox hb;have BK452:=a0_ (hbox);have GW452:=gh_ HB hg;have GE452:=gh_ HB hg;have NB451_452:=nl_ BK451 hg;have NB452_451:=nr_ BK451 hg;replace BK451:=vb_ BK451 hb;replace HB:=sb_ HB hb;clear hb hbox hg));go_loopg [9] k (fun kq v9 w'=>∃ (x9_1:Int),v9=.int .i64 x9_1∧Aside0 (spec_l13Fits.l0 kq l1 a2 x9_1 l0_0 l0_1 a3_0 a3_1=some r)∧Aside0 (kq≤k)∧Aside0 (w'.heap[gb451]?=some (.cells #[(.slice A0_0 l0_0.length c0_0),(.slice A0_1 l0_1.length c0_1)] 26 (0,0)))∧Aside0 (w'.heap[gb452]?=some (.cells #[.int .i64 a3_0,.int .i64 a3_1] 28 (0,0)))∧Aside0 (Below w.heap.size w w'))
 case atStart=>exact⟨(0),(by first | rfl | (simp;done) | (simp [*];done)),H',⟨Nat.le_refl _⟩,⟨uq_⟩,⟨uq_⟩,⟨hB_⟩⟩
 case round =>
  clear H';obtain⟨x9_1,rfl,HA,HK1,BK451,BK452,HB⟩:=hrel
  cases gk with
  | zero=>exact absurd HA.out (by simp [spec_l13Fits.l0])
  | succ k1 =>
   have H:=HA.out;clear HA;simp only [spec_l13Fits.l0] at H;by_cases c7:x9_1<(l1.length:Int)
   ·
    rw [if_pos c7] at H;have c7b0:decide (x9_1<(l1.length:Int))=true:=decide_eq_true c7;clear c7;by_cases c8:0≤x9_1
    ·
     rw [if_pos c8] at H;have c8b0:decide (0≤x9_1)=true:=decide_eq_true c8;clear c8;replace H:=Option.bind_eq_some_iff.mp H;obtain⟨t454,A90,H⟩:=H
     (try dsimp only at H)
     have A9:=Aside0.mk A90;clear A90;by_cases c10:t454=true
     ·
      subst c10;rw [if_pos rfl] at H
      (try dsimp only at H)
      obtain rfl:=Option.some.inj H
      try go_wp2
      replace BK451:=a0_ (blk_drew BK451.out);replace BK452:=a0_ (blk_drew BK452.out);replace HB:=a0_ (below_drew1 HB.out);have p453:0≤(x9_1:Int):=od_;have q453:x9_1<(l1.length:Int):=od_;obtain⟨ad453,e453,hx453_0,hx453_1,hx453_2,hx453_3⟩:=at_T61 HR1.out x9_1 p453 q453;have hw453_3:=hx453_3;have hw453_2:=hx453_2;have hw453_1:=hx453_1;have hw453_0:=hx453_0;cases e453;replace hx453_0:=ce_ HB hx453_0;replace hx453_1:=ce_ HB hx453_1;replace hx453_2:=ce_ HB hx453_2;replace hx453_3:=ce_ HB hx453_3;replace p453:=eq_true p453;replace q453:=eq_true q453;refine start_ (n:=7) (S:=fun w'=>w'.cell? ⟨gb452,0,none⟩=some (.int .i64 a3_0)∧w'.cell? ⟨gb452,1,none⟩=some (.int .i64 a3_1)∧w'.cell? (ad453.add ((x9_1).toNat*4))=some (.int .i64 ((rd_T61 l1 x9_1).f0.f0))∧w'.cell? ⟨(ad453.add ((x9_1).toNat*4)).block,(ad453.add ((x9_1).toNat*4)).off+1,none⟩=some (.int .i64 ((rd_T61 l1 x9_1).f0.f1))∧w'.cell? ⟨(ad453.add ((x9_1).toNat*4)).block,(ad453.add ((x9_1).toNat*4)).off+2,none⟩=some (.int .i64 ((rd_T61 l1 x9_1).f1.f0))∧w'.cell? ⟨(ad453.add ((x9_1).toNat*4)).block,(ad453.add ((x9_1).toNat*4)).off+3,none⟩=some (.int .i64 ((rd_T61 l1 x9_1).f1.f1))) (ds:=[]) (Array.replicate 7 false) (by kernel_rfl) rfl rfl ⟨bc_,bc_,(ce_ HB hw453_0),(ce_ HB hw453_1),(ce_ HB hw453_2),(ce_ HB hw453_3)⟩ (fun hHeld=>?_);generalize wr.drew=w11 at BK451 BK452 HB hx453_0 hx453_1 hx453_2 hx453_3 hHeld ⊢
      refine pv_ 0 16 (bm 7 1) ?_;refine pv_ 1 17 (bm 7 3) ?_;refine pv_ 2 18 (bm 7 7) ?_;refine pv_ 4 20 (bm 7 23) ?_;refine tb6_ 3 19 (bm 7 31) hHeld ?_;refine tb6_ 5 21 (bm 7 63) hHeld ?_;refine one_ (i:=6) (N:=some 22) (bm 7 127) rfl rfl (by kernel_rfl) (by decide) (fun K hK=>?_);refine goes_ Tryd.func105 (by kernel_rfl) rfl #[.agg #[.int .i64 ((rd_T61 l1 x9_1).f0.f0),.int .i64 ((rd_T61 l1 x9_1).f0.f1),.int .i64 ((rd_T61 l1 x9_1).f1.f0),.int .i64 ((rd_T61 l1 x9_1).f1.f1)],.int .i64 a2,.agg #[.int .i64 a3_0,.int .i64 a3_1]] (by rfl) rfl rfl ma_ ?_
      with_reducible refine (spec_l13Near.calls ((rd_T61 l1 x9_1).f0.f0) ((rd_T61 l1 x9_1).f0.f1) ((rd_T61 l1 x9_1).f1.f0) ((rd_T61 l1 x9_1).f1.f1) a2 a3_0 a3_1 true _ A9.out).mono ?_
      rintro e w12 ⟨rfl,hb⟩;refine⟨_,rfl,?_⟩;replace BK451:=vb_ BK451 hb;replace BK452:=vb_ BK452 hb;replace HB:=sb_ HB hb
      (try clear hb)
      (try clear hb2)
      (try clear hk)
      (try clear hi)
      refine hK.out _ _ ⟨bc_,bc_,(ce_ HB hw453_0),(ce_ HB hw453_1),(ce_ HB hw453_2),(ce_ HB hw453_3)⟩ (fun hHeld=>?_);clear hK K;refine no_ (h:=?_);refine done_ (by kernel_rfl) ?_
      try go_wp2
      go_ret;exact⟨rr_,hB_⟩
     ·
      replace c10:=Bool.eq_false_iff.mpr c10;subst c10;rw [if_neg (show ¬ (false=true) by decide)] at H
      (try dsimp only at H)
      have H':=Aside0.mk H;clear H
      try go_wp2
      replace BK451:=a0_ (blk_drew BK451.out);replace BK452:=a0_ (blk_drew BK452.out);replace HB:=a0_ (below_drew1 HB.out);have p453:0≤(x9_1:Int):=od_;have q453:x9_1<(l1.length:Int):=od_;obtain⟨ad453,e453,hx453_0,hx453_1,hx453_2,hx453_3⟩:=at_T61 HR1.out x9_1 p453 q453;have hw453_3:=hx453_3;have hw453_2:=hx453_2;have hw453_1:=hx453_1;have hw453_0:=hx453_0;cases e453;replace hx453_0:=ce_ HB hx453_0;replace hx453_1:=ce_ HB hx453_1;replace hx453_2:=ce_ HB hx453_2;replace hx453_3:=ce_ HB hx453_3;replace p453:=eq_true p453;replace q453:=eq_true q453;refine start_ (n:=7) (S:=fun w'=>w'.cell? ⟨gb452,0,none⟩=some (.int .i64 a3_0)∧w'.cell? ⟨gb452,1,none⟩=some (.int .i64 a3_1)∧w'.cell? (ad453.add ((x9_1).toNat*4))=some (.int .i64 ((rd_T61 l1 x9_1).f0.f0))∧w'.cell? ⟨(ad453.add ((x9_1).toNat*4)).block,(ad453.add ((x9_1).toNat*4)).off+1,none⟩=some (.int .i64 ((rd_T61 l1 x9_1).f0.f1))∧w'.cell? ⟨(ad453.add ((x9_1).toNat*4)).block,(ad453.add ((x9_1).toNat*4)).off+2,none⟩=some (.int .i64 ((rd_T61 l1 x9_1).f1.f0))∧w'.cell? ⟨(ad453.add ((x9_1).toNat*4)).block,(ad453.add ((x9_1).toNat*4)).off+3,none⟩=some (.int .i64 ((rd_T61 l1 x9_1).f1.f1))) (ds:=[]) (Array.replicate 7 false) (by kernel_rfl) rfl rfl ⟨bc_,bc_,(ce_ HB hw453_0),(ce_ HB hw453_1),(ce_ HB hw453_2),(ce_ HB hw453_3)⟩ (fun hHeld=>?_);generalize wr.drew=w13 at BK451 BK452 HB hx453_0 hx453_1 hx453_2 hx453_3 hHeld ⊢
      refine pv_ 0 16 (bm 7 1) ?_;refine pv_ 1 17 (bm 7 3) ?_;refine pv_ 2 18 (bm 7 7) ?_;refine pv_ 4 20 (bm 7 23) ?_;refine tb6_ 3 19 (bm 7 31) hHeld ?_;refine tb6_ 5 21 (bm 7 63) hHeld ?_;refine one_ (i:=6) (N:=some 22) (bm 7 127) rfl rfl (by kernel_rfl) (by decide) (fun K hK=>?_);refine goes_ Tryd.func105 (by kernel_rfl) rfl #[.agg #[.int .i64 ((rd_T61 l1 x9_1).f0.f0),.int .i64 ((rd_T61 l1 x9_1).f0.f1),.int .i64 ((rd_T61 l1 x9_1).f1.f0),.int .i64 ((rd_T61 l1 x9_1).f1.f1)],.int .i64 a2,.agg #[.int .i64 a3_0,.int .i64 a3_1]] (by rfl) rfl rfl ma_ ?_
      with_reducible refine (spec_l13Near.calls ((rd_T61 l1 x9_1).f0.f0) ((rd_T61 l1 x9_1).f0.f1) ((rd_T61 l1 x9_1).f1.f0) ((rd_T61 l1 x9_1).f1.f1) a2 a3_0 a3_1 false _ A9.out).mono ?_
      rintro e w14 ⟨rfl,hb⟩;refine⟨_,rfl,?_⟩;replace BK451:=vb_ BK451 hb;replace BK452:=vb_ BK452 hb;replace HB:=sb_ HB hb
      (try clear hb)
      (try clear hb2)
      (try clear hk)
      (try clear hi)
      refine hK.out _ _ ⟨bc_,bc_,(ce_ HB hw453_0),(ce_ HB hw453_1),(ce_ HB hw453_2),(ce_ HB hw453_3)⟩ (fun hHeld=>?_);clear hK K;refine no_ (h:=?_);refine done_ (by kernel_rfl) ?_
      try go_wp2
      go_roundg k1
      case measure=>have:=HK1.out;omega
      case rel=>exact⟨(wrap64 (x9_1+1)),(by first | rfl | (simp;done) | (simp [*];done)),H',⟨by have:=HK1.out;omega⟩,⟨uq_⟩,⟨uq_⟩,⟨hB_⟩⟩
    ·
     rw [if_neg c8] at H;exact absurd H (by simp)
   ·
    rw [if_neg c7] at H;have c7b0:decide (x9_1<(l1.length:Int))=false:=decide_eq_false c7;clear c7;replace H:=Option.bind_eq_some_iff.mp H;obtain⟨t455,A150,H⟩:=H
    (try dsimp only at H)
    have A15:=Aside0.mk A150;clear A150;obtain rfl:=Option.some.inj H;have hnb16:=NB451_452.out;have hnc16:=NB452_451.out;have hcz17_0:=c20_ BK451;have hcz17_1:=c21_ BK451;have hfz17_0:=fz_ BK451 0;have hfz17_1:=fz_ BK451 1;have hcz18_0:=c20_ BK452;have hcz18_1:=c21_ BK452;have hfz18_0:=fz_ BK452 0;have hfz18_1:=fz_ BK452 1;go_wp2_with (first | ((with_reducible refine gate_callee (f:=54) rfl ?_);refine gL_ (some 25) Tryd.func54 #[.agg #[.slice A0_0 l0_0.length c0_0,.slice A0_1 l0_1.length c0_1],.agg #[.int .i64 a3_0,.int .i64 a3_1]] (h:=?_);(with_reducible refine (spec_l11In.calls k1 _ _ l0_0 _ _ l0_1 a3_0 a3_1 t455 _ ?side1 ?side2 ?side3 ?side4 A15.out).mono ?_);(case side1=>repeat (first | exact (Kd.C_below HR0_0.out HB.out) | (with_reducible refine Kd.C_alloc ?_ _) | (with_reducible refine Kd.C_drewN ?_ _) | (with_reducible refine Kd.C_drew ?_)));(case side2=>exact HC0_0.out);(case side3=>repeat (first | exact (Kd.C_below HR0_1.out HB.out) | (with_reducible refine Kd.C_alloc ?_ _) | (with_reducible refine Kd.C_drewN ?_ _) | (with_reducible refine Kd.C_drew ?_)));(case side4=>exact HC0_1.out);rintro e w19 ⟨rfl,hb⟩;refine⟨_,rfl,?_⟩;replace BK451:=vb_ BK451 hb;replace BK452:=vb_ BK452 hb;replace HB:=sb_ HB hb;(try clear hb)));go_ret;exact⟨rr_,hB_⟩
def spec_ToolFits.f (k:Nat)(l0_0:List (S28))(l0_1:List (List (S28)))(a1:Int)(a2_0:Int)(a2_1:Int):Option (Bool):=(spec_PlateOk.f k l0_0 l0_1).bind fun t469=>(if t469=true then ((spec_l6In.f a1 1 9).bind fun t470=>(if t470=true then ((spec_PtOk.f a2_0 a2_1).bind fun t471=>(if t471=true then ((spec_l11Edges.f k l0_0 l0_1).bind fun t472=>((spec_l13Fits.f k l0_0 l0_1 t472 a1 a2_0 a2_1).bind fun t475=>(some t475))) else (some false))) else (some false))) else (some false))
def spec_ToolFits.T1:Bool × List (List Nat × List Nat):=(true,[([],[]),([0],[0]),([1,1],[1]),([2],[2]),([3,2,2],[2,3]),([2,4],[2,4]),([5,4],[5]),([6],[6]),([7,6,6],[6,7]),([6,8],[6,8]),([9,8],[9]),([10],[10]),([10],[10]),([12,10,10],[10,12]),([10],[10]),([10],[10]),([11,13,14,15,13,10],[10,11,13,14,15]),([10,16],[10,16]),([17,16,0,1,2,3,4,5,6,7,8,9,10,11,12,13,14,15,16,17],[17])])
def spec_ToolFits.B1:List Nat:=[0,1,3,7,15,31,63,127,255,511,1023,2047,2047,6143,2047,2047,65535,131071,262143]
theorem spec_ToolFits.tab1:rtab .any (opsOf Tryd.f25 1)=spec_ToolFits.T1:=by kernel_rfl
theorem spec_ToolFits.bits1:waitsOk spec_ToolFits.T1.2 spec_ToolFits.B1=true:=by kernel_rfl
set_option maxHeartbeats 8000000 in
set_option maxRecDepth 100000 in
theorem spec_ToolFits.calls (k:Nat)(A0_0:Option Addr)(c0_0:Nat)(l0_0:List (S28))(A0_1:Option Addr)(c0_1:Nat)(l0_1:List (List (S28)))(a1:Int)(a2_0:Int)(a2_1:Int)(r:Bool)(w:World)(hr0_0:Kd.C k28 w A0_0 l0_0.length l0_0)(hc0_0:l0_0.length≤c0_0)(hr0_1:Kd.C (Kd.slice 28 k28) w A0_1 l0_1.length l0_1)(hc0_1:l0_1.length≤c0_1)(h:spec_ToolFits.f k l0_0 l0_1 a1 a2_0 a2_1=some r):
  Calls Tryd.prog 25 #[.agg #[.slice A0_0 l0_0.length c0_0,.slice A0_1 l0_1.length c0_1],.int .i64 a1,.agg #[.int .i64 a2_0,.int .i64 a2_1]] w fun e w'=>e=.returned (.bool r)∧Below w.heap.size w w':=by
 have hu26:=Tryd.underlying26;have hu28:=Tryd.underlying28;have HR0_0:=Aside0.mk hr0_0;have HC0_0:=Aside0.mk hc0_0;clear hr0_0 hc0_0;have HR0_1:=Aside0.mk hr0_1;have HC0_1:=Aside0.mk hc0_1;clear hr0_1 hc0_1;have HB:=a0_ (Below.refl w.heap.size w);have H:((spec_PlateOk.f k l0_0 l0_1).bind fun t469=>(if t469=true then ((spec_l6In.f a1 1 9).bind fun t470=>(if t470=true then ((spec_PtOk.f a2_0 a2_1).bind fun t471=>(if t471=true then ((spec_l11Edges.f k l0_0 l0_1).bind fun t472=>((spec_l13Fits.f k l0_0 l0_1 t472 a1 a2_0 a2_1).bind fun t475=>(some t475))) else (some false))) else (some false))) else (some false)))=some r:=h;clear h;replace H:=Option.bind_eq_some_iff.mp H;obtain⟨t469,A40,H⟩:=H
 (try dsimp only at H)
 have A4:=Aside0.mk A40;clear A40;by_cases c5:t469=true
 ·
  subst c5;rw [if_pos rfl] at H
  (try dsimp only at H)
  replace H:=Option.bind_eq_some_iff.mp H;obtain⟨t470,A60,H⟩:=H
  (try dsimp only at H)
  have A6:=Aside0.mk A60;clear A60;by_cases c7:t470=true
  ·
   subst c7;rw [if_pos rfl] at H
   (try dsimp only at H)
   replace H:=Option.bind_eq_some_iff.mp H;obtain⟨t471,A80,H⟩:=H
   (try dsimp only at H)
   have A8:=Aside0.mk A80;clear A80;by_cases c9:t471=true
   ·
    subst c9;rw [if_pos rfl] at H
    (try dsimp only at H)
    replace H:=Option.bind_eq_some_iff.mp H;obtain⟨t472,A100,H⟩:=H
    (try dsimp only at H)
    have A10:=Aside0.mk A100;clear A100;replace H:=Option.bind_eq_some_iff.mp H;obtain⟨t475,A110,H⟩:=H
    (try dsimp only at H)
    have A11:=Aside0.mk A110;clear A110;obtain rfl:=Option.some.inj H;go_enter Tryd.func25,Tryd.ntmps25
    try go_wp2_with (first | ((with_reducible refine gate_dst (N:=3) rfl ?_);refine bx_ (N:=3) (cs:=#[.slice A0_0 l0_0.length c0_0,.slice A0_1 l0_1.length c0_1]) (t:=26) (h:=?_);intro gb467 hg w12 hbox hb;have BK467:=a0_ (hbox);have GW467:=gh_ HB hg;have GE467:=gh_ HB hg;replace HB:=sb_ HB hb;clear hb hbox hg) | ((with_reducible refine gate_dst (N:=5) rfl ?_);refine bx_ (N:=5) (cs:=#[.int .i64 a2_0,.int .i64 a2_1]) (t:=28) (h:=?_);intro gb468 hg w13 hbox hb;have BK468:=a0_ (hbox);have GW468:=gh_ HB hg;have GE468:=gh_ HB hg;have NB467_468:=nl_ BK467 hg;have NB468_467:=nr_ BK467 hg;replace BK467:=vb_ BK467 hb;replace HB:=sb_ HB hb;clear hb hbox hg))
    replace BK467:=a0_ (blk_drew BK467.out);replace BK468:=a0_ (blk_drew BK468.out);replace HB:=a0_ (below_drew1 HB.out);refine start_ (n:=19) (S:=fun w'=>w'.cell? ⟨gb467,0,none⟩=some (.slice A0_0 l0_0.length c0_0)∧w'.cell? ⟨gb467,1,none⟩=some (.slice A0_1 l0_1.length c0_1)∧w'.cell? ⟨gb468,0,none⟩=some (.int .i64 a2_0)∧w'.cell? ⟨gb468,1,none⟩=some (.int .i64 a2_1)) (ds:=[]) (Array.replicate 19 false) (by kernel_rfl) rfl rfl ⟨bc_,bc_,bc_,bc_⟩ (fun hHeld=>?_);refine with_tabW spec_ToolFits.tab1 spec_ToolFits.bits1 (fun HT_ HW_=>?_);generalize w13.drew=w14 at BK467 BK468 HB hHeld ⊢
    refine ta4_ HT_ HW_ 0 7 (bm 19 1) hHeld ?_;refine one_ (i:=1) (N:=some 8) (bm 19 3) rfl rfl (one_of HT_.out (by kernel_rfl)) (by decide) (fun K hK=>?_);refine goes_ Tryd.func18 (by kernel_rfl) rfl #[.agg #[.slice A0_0 l0_0.length c0_0,.slice A0_1 l0_1.length c0_1]] (by rfl) rfl rfl ma_ ?_
    with_reducible refine (spec_PlateOk.calls k _ _ l0_0 _ _ l0_1 true _ ?side1 ?side2 ?side3 ?side4 A4.out).mono ?_
    (case side1=>repeat (first | exact (Kd.C_below HR0_0.out HB.out) | (with_reducible refine Kd.C_alloc ?_ _) | (with_reducible refine Kd.C_drewN ?_ _) | (with_reducible refine Kd.C_drew ?_)))
    (case side2=>exact HC0_0.out)
    (case side3=>repeat (first | exact (Kd.C_below HR0_1.out HB.out) | (with_reducible refine Kd.C_alloc ?_ _) | (with_reducible refine Kd.C_drewN ?_ _) | (with_reducible refine Kd.C_drew ?_)))
    (case side4=>exact HC0_1.out)
    rintro e w15 ⟨rfl,hb⟩;refine⟨_,rfl,?_⟩;replace BK467:=vb_ BK467 hb;replace BK468:=vb_ BK468 hb;replace HB:=sb_ HB hb
    (try clear hb)
    (try clear hb2)
    (try clear hk)
    (try clear hi)
    refine hK.out _ _ ⟨bc_,bc_,bc_,bc_⟩ (fun hHeld=>?_);clear hK K;refine no_ (h:=?_);refine pu_ HT_ 2 9 (bm 19 7) ?_;refine pu_ HT_ 3 10 (bm 19 15) ?_;refine one_ (i:=4) (N:=some 11) (bm 19 31) rfl rfl (one_of HT_.out (by kernel_rfl)) (by decide) (fun K hK=>?_);refine goes_ Tryd.func58 (by kernel_rfl) rfl #[.int .i64 a1,.int .i64 1,.int .i64 9] (by rfl) rfl rfl ma_ ?_
    with_reducible refine (spec_l6In.calls a1 1 9 true _ A6.out).mono ?_
    rintro e w' ⟨rfl,⟨nd,rfl⟩⟩;refine⟨_,rfl,?_⟩;refine hK.out _ _ ⟨bc_,bc_,bc_,bc_⟩ (fun hHeld=>?_);clear hK K;refine no_ (h:=?_);refine pu_ HT_ 5 12 (bm 19 63) ?_;refine pu_ HT_ 6 13 (bm 19 127) ?_;refine ta4_ HT_ HW_ 7 14 (bm 19 255) hHeld ?_;refine one_ (i:=8) (N:=some 15) (bm 19 511) rfl rfl (one_of HT_.out (by kernel_rfl)) (by decide) (fun K hK=>?_);refine goes_ Tryd.func19 (by kernel_rfl) rfl #[.agg #[.int .i64 a2_0,.int .i64 a2_1]] (by rfl) rfl rfl ma_ ?_
    with_reducible refine (spec_PtOk.calls a2_0 a2_1 true _ A8.out).mono ?_
    rintro e w16 ⟨rfl,hb⟩;refine⟨_,rfl,?_⟩;replace BK467:=vb_ BK467 hb;replace BK468:=vb_ BK468 hb;replace HB:=sb_ HB hb
    (try clear hb)
    (try clear hb2)
    (try clear hk)
    (try clear hi)
    refine hK.out _ _ ⟨bc_,bc_,bc_,bc_⟩ (fun hHeld=>?_);clear hK K;refine no_ (h:=?_);refine pu_ HT_ 9 16 (bm 19 1023) ?_;refine pu_ HT_ 10 17 (bm 19 2047) ?_;refine pu_ HT_ 14 21 (bm 19 18431) ?_;refine ta4_ HT_ HW_ 11 18 (bm 19 20479) hHeld ?_;refine ta4_ HT_ HW_ 12 19 (bm 19 24575) hHeld ?_;refine ta4_ HT_ HW_ 15 22 (bm 19 57343) hHeld ?_;refine one_ (i:=13) (N:=some 20) (bm 19 65535) rfl rfl (one_of HT_.out (by kernel_rfl)) (by decide) (fun K hK=>?_);refine goes_ Tryd.func66 (by kernel_rfl) rfl #[.agg #[.slice A0_0 l0_0.length c0_0,.slice A0_1 l0_1.length c0_1]] (by rfl) rfl rfl ma_ ?_
    with_reducible refine (spec_l11Edges.calls k _ _ l0_0 _ _ l0_1 t472 _ ?side1 ?side2 ?side3 ?side4 A10.out).mono ?_
    (case side1=>repeat (first | exact (Kd.C_below HR0_0.out HB.out) | (with_reducible refine Kd.C_alloc ?_ _) | (with_reducible refine Kd.C_drewN ?_ _) | (with_reducible refine Kd.C_drew ?_)))
    (case side2=>exact HC0_0.out)
    (case side3=>repeat (first | exact (Kd.C_below HR0_1.out HB.out) | (with_reducible refine Kd.C_alloc ?_ _) | (with_reducible refine Kd.C_drewN ?_ _) | (with_reducible refine Kd.C_drew ?_)))
    (case side4=>exact HC0_1.out)
    rintro e w17 ⟨v473,rfl,ho0,hb⟩;refine⟨_,rfl,?_⟩;have HO474:=a0_ (Kd.R_lower ho0 (below_size hB_));replace BK467:=vb_ BK467 hb;replace BK468:=vb_ BK468 hb;replace HB:=sb_ HB hb
    (try clear hb)
    (try clear hb2)
    (try clear hk)
    (try clear hi)
    (try clear ho0)
    obtain⟨Ao18,co18,eo18⟩:=Kd.R_slice HO474.out
    (first | subst eo18 | (injection eo18 with f1_ f2_ f3_;have f4_:=f1_.symm;have f5_:=f3_.symm;clear f1_ f2_ f3_;subst f4_;subst f5_))
    refine hK.out _ _ ⟨bc_,bc_,bc_,bc_⟩ (fun hHeld=>?_);clear hK K;refine no_ (h:=?_);refine one_ (i:=16) (N:=some 23) (bm 19 131071) rfl rfl (one_of HT_.out (by kernel_rfl)) (by decide) (fun K hK=>?_);refine goes_ Tryd.func65 (by kernel_rfl) rfl #[.agg #[.slice A0_0 l0_0.length c0_0,.slice A0_1 l0_1.length c0_1],.slice Ao18 t472.length co18,.int .i64 a1,.agg #[.int .i64 a2_0,.int .i64 a2_1]] (by rfl) rfl rfl ma_ ?_
    with_reducible refine (spec_l13Fits.calls k _ _ l0_0 _ _ l0_1 _ _ t472 a1 a2_0 a2_1 t475 _ ?side1 ?side2 ?side3 ?side4 ?side5 ?side6 A11.out).mono ?_
    (case side1=>repeat (first | exact (Kd.C_below HR0_0.out HB.out) | (with_reducible refine Kd.C_alloc ?_ _) | (with_reducible refine Kd.C_drewN ?_ _) | (with_reducible refine Kd.C_drew ?_)))
    (case side2=>exact HC0_0.out)
    (case side3=>repeat (first | exact (Kd.C_below HR0_1.out HB.out) | (with_reducible refine Kd.C_alloc ?_ _) | (with_reducible refine Kd.C_drewN ?_ _) | (with_reducible refine Kd.C_drew ?_)))
    (case side4=>exact HC0_1.out)
    (case side5=>repeat (first | exact (Kd.R_reads' HO474.out).2.2 | (with_reducible refine Kd.C_alloc ?_ _) | (with_reducible refine Kd.C_drewN ?_ _) | (with_reducible refine Kd.C_drew ?_)))
    (case side6=>exact (Kd.R_reads' HO474.out).2.1)
    rintro e w19 ⟨rfl,hb⟩;refine⟨_,rfl,?_⟩;replace HO474:=rb_ HO474 hb;replace BK467:=vb_ BK467 hb;replace BK468:=vb_ BK468 hb;replace HB:=sb_ HB hb
    (try clear hb)
    (try clear hb2)
    (try clear hk)
    (try clear hi)
    refine hK.out _ _ ⟨bc_,bc_,bc_,bc_⟩ (fun hHeld=>?_);clear hK K;refine no_ (h:=?_);refine pu_ HT_ 17 24 (bm 19 262143) ?_;refine pu_ HT_ 18 6 (bm 19 524287) ?_;refine done_ (done_of HT_.out (by kernel_rfl)) ?_
    try go_wp2
    go_ret;exact⟨rr_,hB_⟩
   ·
    replace c9:=Bool.eq_false_iff.mpr c9;subst c9;rw [if_neg (show ¬ (false=true) by decide)] at H
    (try dsimp only at H)
    obtain rfl:=Option.some.inj H;go_enter Tryd.func25,Tryd.ntmps25
    try go_wp2_with (first | ((with_reducible refine gate_dst (N:=3) rfl ?_);refine bx_ (N:=3) (cs:=#[.slice A0_0 l0_0.length c0_0,.slice A0_1 l0_1.length c0_1]) (t:=26) (h:=?_);intro gb467 hg w20 hbox hb;have BK467:=a0_ (hbox);have GW467:=gh_ HB hg;have GE467:=gh_ HB hg;replace HB:=sb_ HB hb;clear hb hbox hg) | ((with_reducible refine gate_dst (N:=5) rfl ?_);refine bx_ (N:=5) (cs:=#[.int .i64 a2_0,.int .i64 a2_1]) (t:=28) (h:=?_);intro gb468 hg w21 hbox hb;have BK468:=a0_ (hbox);have GW468:=gh_ HB hg;have GE468:=gh_ HB hg;have NB467_468:=nl_ BK467 hg;have NB468_467:=nr_ BK467 hg;replace BK467:=vb_ BK467 hb;replace HB:=sb_ HB hb;clear hb hbox hg))
    replace BK467:=a0_ (blk_drew BK467.out);replace BK468:=a0_ (blk_drew BK468.out);replace HB:=a0_ (below_drew1 HB.out);refine start_ (n:=19) (S:=fun w'=>w'.cell? ⟨gb467,0,none⟩=some (.slice A0_0 l0_0.length c0_0)∧w'.cell? ⟨gb467,1,none⟩=some (.slice A0_1 l0_1.length c0_1)∧w'.cell? ⟨gb468,0,none⟩=some (.int .i64 a2_0)∧w'.cell? ⟨gb468,1,none⟩=some (.int .i64 a2_1)) (ds:=[]) (Array.replicate 19 false) (by kernel_rfl) rfl rfl ⟨bc_,bc_,bc_,bc_⟩ (fun hHeld=>?_);refine with_tabW spec_ToolFits.tab1 spec_ToolFits.bits1 (fun HT_ HW_=>?_);generalize w21.drew=w22 at BK467 BK468 HB hHeld ⊢
    refine ta4_ HT_ HW_ 0 7 (bm 19 1) hHeld ?_;refine one_ (i:=1) (N:=some 8) (bm 19 3) rfl rfl (one_of HT_.out (by kernel_rfl)) (by decide) (fun K hK=>?_);refine goes_ Tryd.func18 (by kernel_rfl) rfl #[.agg #[.slice A0_0 l0_0.length c0_0,.slice A0_1 l0_1.length c0_1]] (by rfl) rfl rfl ma_ ?_
    with_reducible refine (spec_PlateOk.calls k _ _ l0_0 _ _ l0_1 true _ ?side1 ?side2 ?side3 ?side4 A4.out).mono ?_
    (case side1=>repeat (first | exact (Kd.C_below HR0_0.out HB.out) | (with_reducible refine Kd.C_alloc ?_ _) | (with_reducible refine Kd.C_drewN ?_ _) | (with_reducible refine Kd.C_drew ?_)))
    (case side2=>exact HC0_0.out)
    (case side3=>repeat (first | exact (Kd.C_below HR0_1.out HB.out) | (with_reducible refine Kd.C_alloc ?_ _) | (with_reducible refine Kd.C_drewN ?_ _) | (with_reducible refine Kd.C_drew ?_)))
    (case side4=>exact HC0_1.out)
    rintro e w23 ⟨rfl,hb⟩;refine⟨_,rfl,?_⟩;replace BK467:=vb_ BK467 hb;replace BK468:=vb_ BK468 hb;replace HB:=sb_ HB hb
    (try clear hb)
    (try clear hb2)
    (try clear hk)
    (try clear hi)
    refine hK.out _ _ ⟨bc_,bc_,bc_,bc_⟩ (fun hHeld=>?_);clear hK K;refine no_ (h:=?_);refine pu_ HT_ 2 9 (bm 19 7) ?_;refine pu_ HT_ 3 10 (bm 19 15) ?_;refine one_ (i:=4) (N:=some 11) (bm 19 31) rfl rfl (one_of HT_.out (by kernel_rfl)) (by decide) (fun K hK=>?_);refine goes_ Tryd.func58 (by kernel_rfl) rfl #[.int .i64 a1,.int .i64 1,.int .i64 9] (by rfl) rfl rfl ma_ ?_
    with_reducible refine (spec_l6In.calls a1 1 9 true _ A6.out).mono ?_
    rintro e w' ⟨rfl,⟨nd,rfl⟩⟩;refine⟨_,rfl,?_⟩;refine hK.out _ _ ⟨bc_,bc_,bc_,bc_⟩ (fun hHeld=>?_);clear hK K;refine no_ (h:=?_);refine pu_ HT_ 5 12 (bm 19 63) ?_;refine pu_ HT_ 6 13 (bm 19 127) ?_;refine ta4_ HT_ HW_ 7 14 (bm 19 255) hHeld ?_;refine one_ (i:=8) (N:=some 15) (bm 19 511) rfl rfl (one_of HT_.out (by kernel_rfl)) (by decide) (fun K hK=>?_);refine goes_ Tryd.func19 (by kernel_rfl) rfl #[.agg #[.int .i64 a2_0,.int .i64 a2_1]] (by rfl) rfl rfl ma_ ?_
    with_reducible refine (spec_PtOk.calls a2_0 a2_1 false _ A8.out).mono ?_
    rintro e w24 ⟨rfl,hb⟩;refine⟨_,rfl,?_⟩;replace BK467:=vb_ BK467 hb;replace BK468:=vb_ BK468 hb;replace HB:=sb_ HB hb
    (try clear hb)
    (try clear hb2)
    (try clear hk)
    (try clear hi)
    refine hK.out _ _ ⟨bc_,bc_,bc_,bc_⟩ (fun hHeld=>?_);clear hK K;refine no_ (h:=?_);refine pu_ HT_ 9 16 (bm 19 1023) ?_;refine pu_ HT_ 10 17 (bm 19 2047) ?_;refine pz_ HT_ 11 18 (bm 19 4095) ?_;refine pz_ HT_ 12 19 (bm 19 8191) ?_;refine pz_ HT_ 13 20 (bm 19 16383) ?_;refine pz_ HT_ 14 21 (bm 19 32767) ?_;refine pz_ HT_ 15 22 (bm 19 65535) ?_;refine pz_ HT_ 16 23 (bm 19 131071) ?_;refine pu_ HT_ 17 24 (bm 19 262143) ?_;refine pu_ HT_ 18 6 (bm 19 524287) ?_;refine done_ (done_of HT_.out (by kernel_rfl)) ?_
    try go_wp2
    go_ret;exact⟨rr_,hB_⟩
  ·
   replace c7:=Bool.eq_false_iff.mpr c7;subst c7;rw [if_neg (show ¬ (false=true) by decide)] at H
   (try dsimp only at H)
   obtain rfl:=Option.some.inj H;go_enter Tryd.func25,Tryd.ntmps25
   try go_wp2_with (first | ((with_reducible refine gate_dst (N:=3) rfl ?_);refine bx_ (N:=3) (cs:=#[.slice A0_0 l0_0.length c0_0,.slice A0_1 l0_1.length c0_1]) (t:=26) (h:=?_);intro gb467 hg w25 hbox hb;have BK467:=a0_ (hbox);have GW467:=gh_ HB hg;have GE467:=gh_ HB hg;replace HB:=sb_ HB hb;clear hb hbox hg) | ((with_reducible refine gate_dst (N:=5) rfl ?_);refine bx_ (N:=5) (cs:=#[.int .i64 a2_0,.int .i64 a2_1]) (t:=28) (h:=?_);intro gb468 hg w26 hbox hb;have BK468:=a0_ (hbox);have GW468:=gh_ HB hg;have GE468:=gh_ HB hg;have NB467_468:=nl_ BK467 hg;have NB468_467:=nr_ BK467 hg;replace BK467:=vb_ BK467 hb;replace HB:=sb_ HB hb;clear hb hbox hg))
   replace BK467:=a0_ (blk_drew BK467.out);replace BK468:=a0_ (blk_drew BK468.out);replace HB:=a0_ (below_drew1 HB.out);refine start_ (n:=19) (S:=fun w'=>w'.cell? ⟨gb467,0,none⟩=some (.slice A0_0 l0_0.length c0_0)∧w'.cell? ⟨gb467,1,none⟩=some (.slice A0_1 l0_1.length c0_1)) (ds:=[]) (Array.replicate 19 false) (by kernel_rfl) rfl rfl ⟨bc_,bc_⟩ (fun hHeld=>?_);refine with_tabW spec_ToolFits.tab1 spec_ToolFits.bits1 (fun HT_ HW_=>?_);generalize w26.drew=w27 at BK467 BK468 HB hHeld ⊢
   refine ta2_ HT_ HW_ 0 7 (bm 19 1) hHeld ?_;refine one_ (i:=1) (N:=some 8) (bm 19 3) rfl rfl (one_of HT_.out (by kernel_rfl)) (by decide) (fun K hK=>?_);refine goes_ Tryd.func18 (by kernel_rfl) rfl #[.agg #[.slice A0_0 l0_0.length c0_0,.slice A0_1 l0_1.length c0_1]] (by rfl) rfl rfl ma_ ?_
   with_reducible refine (spec_PlateOk.calls k _ _ l0_0 _ _ l0_1 true _ ?side1 ?side2 ?side3 ?side4 A4.out).mono ?_
   (case side1=>repeat (first | exact (Kd.C_below HR0_0.out HB.out) | (with_reducible refine Kd.C_alloc ?_ _) | (with_reducible refine Kd.C_drewN ?_ _) | (with_reducible refine Kd.C_drew ?_)))
   (case side2=>exact HC0_0.out)
   (case side3=>repeat (first | exact (Kd.C_below HR0_1.out HB.out) | (with_reducible refine Kd.C_alloc ?_ _) | (with_reducible refine Kd.C_drewN ?_ _) | (with_reducible refine Kd.C_drew ?_)))
   (case side4=>exact HC0_1.out)
   rintro e w28 ⟨rfl,hb⟩;refine⟨_,rfl,?_⟩;replace BK467:=vb_ BK467 hb;replace BK468:=vb_ BK468 hb;replace HB:=sb_ HB hb
   (try clear hb)
   (try clear hb2)
   (try clear hk)
   (try clear hi)
   refine hK.out _ _ ⟨bc_,bc_⟩ (fun hHeld=>?_);clear hK K;refine no_ (h:=?_);refine pu_ HT_ 2 9 (bm 19 7) ?_;refine pu_ HT_ 3 10 (bm 19 15) ?_;refine one_ (i:=4) (N:=some 11) (bm 19 31) rfl rfl (one_of HT_.out (by kernel_rfl)) (by decide) (fun K hK=>?_);refine goes_ Tryd.func58 (by kernel_rfl) rfl #[.int .i64 a1,.int .i64 1,.int .i64 9] (by rfl) rfl rfl ma_ ?_
   with_reducible refine (spec_l6In.calls a1 1 9 false _ A6.out).mono ?_
   rintro e w' ⟨rfl,⟨nd,rfl⟩⟩;refine⟨_,rfl,?_⟩;refine hK.out _ _ ⟨bc_,bc_⟩ (fun hHeld=>?_);clear hK K;refine no_ (h:=?_);refine pu_ HT_ 5 12 (bm 19 63) ?_;refine pu_ HT_ 6 13 (bm 19 127) ?_;refine pz_ HT_ 7 14 (bm 19 255) ?_;refine pz_ HT_ 8 15 (bm 19 511) ?_;refine pu_ HT_ 9 16 (bm 19 1023) ?_;refine pu_ HT_ 10 17 (bm 19 2047) ?_;refine pz_ HT_ 11 18 (bm 19 4095) ?_;refine pz_ HT_ 12 19 (bm 19 8191) ?_;refine pz_ HT_ 13 20 (bm 19 16383) ?_;refine pz_ HT_ 14 21 (bm 19 32767) ?_;refine pz_ HT_ 15 22 (bm 19 65535) ?_;refine pz_ HT_ 16 23 (bm 19 131071) ?_;refine pu_ HT_ 17 24 (bm 19 262143) ?_;refine pu_ HT_ 18 6 (bm 19 524287) ?_;refine done_ (done_of HT_.out (by kernel_rfl)) ?_
   try go_wp2
   go_ret;exact⟨rr_,hB_⟩
 ·
  replace c5:=Bool.eq_false_iff.mpr c5;subst c5;rw [if_neg (show ¬ (false=true) by decide)] at H
  (try dsimp only at H)
  obtain rfl:=Option.some.inj H;go_enter Tryd.func25,Tryd.ntmps25
  try go_wp2_with (first | ((with_reducible refine gate_dst (N:=3) rfl ?_);refine bx_ (N:=3) (cs:=#[.slice A0_0 l0_0.length c0_0,.slice A0_1 l0_1.length c0_1]) (t:=26) (h:=?_);intro gb467 hg w29 hbox hb;have BK467:=a0_ (hbox);have GW467:=gh_ HB hg;have GE467:=gh_ HB hg;replace HB:=sb_ HB hb;clear hb hbox hg) | ((with_reducible refine gate_dst (N:=5) rfl ?_);refine bx_ (N:=5) (cs:=#[.int .i64 a2_0,.int .i64 a2_1]) (t:=28) (h:=?_);intro gb468 hg w30 hbox hb;have BK468:=a0_ (hbox);have GW468:=gh_ HB hg;have GE468:=gh_ HB hg;have NB467_468:=nl_ BK467 hg;have NB468_467:=nr_ BK467 hg;replace BK467:=vb_ BK467 hb;replace HB:=sb_ HB hb;clear hb hbox hg))
  replace BK467:=a0_ (blk_drew BK467.out);replace BK468:=a0_ (blk_drew BK468.out);replace HB:=a0_ (below_drew1 HB.out);refine start_ (n:=19) (S:=fun w'=>w'.cell? ⟨gb467,0,none⟩=some (.slice A0_0 l0_0.length c0_0)∧w'.cell? ⟨gb467,1,none⟩=some (.slice A0_1 l0_1.length c0_1)) (ds:=[]) (Array.replicate 19 false) (by kernel_rfl) rfl rfl ⟨bc_,bc_⟩ (fun hHeld=>?_);refine with_tabW spec_ToolFits.tab1 spec_ToolFits.bits1 (fun HT_ HW_=>?_);generalize w30.drew=w31 at BK467 BK468 HB hHeld ⊢
  refine ta2_ HT_ HW_ 0 7 (bm 19 1) hHeld ?_;refine one_ (i:=1) (N:=some 8) (bm 19 3) rfl rfl (one_of HT_.out (by kernel_rfl)) (by decide) (fun K hK=>?_);refine goes_ Tryd.func18 (by kernel_rfl) rfl #[.agg #[.slice A0_0 l0_0.length c0_0,.slice A0_1 l0_1.length c0_1]] (by rfl) rfl rfl ma_ ?_
  with_reducible refine (spec_PlateOk.calls k _ _ l0_0 _ _ l0_1 false _ ?side1 ?side2 ?side3 ?side4 A4.out).mono ?_
  (case side1=>repeat (first | exact (Kd.C_below HR0_0.out HB.out) | (with_reducible refine Kd.C_alloc ?_ _) | (with_reducible refine Kd.C_drewN ?_ _) | (with_reducible refine Kd.C_drew ?_)))
  (case side2=>exact HC0_0.out)
  (case side3=>repeat (first | exact (Kd.C_below HR0_1.out HB.out) | (with_reducible refine Kd.C_alloc ?_ _) | (with_reducible refine Kd.C_drewN ?_ _) | (with_reducible refine Kd.C_drew ?_)))
  (case side4=>exact HC0_1.out)
  rintro e w32 ⟨rfl,hb⟩;refine⟨_,rfl,?_⟩;replace BK467:=vb_ BK467 hb;replace BK468:=vb_ BK468 hb;replace HB:=sb_ HB hb
  (try clear hb)
  (try clear hb2)
  (try clear hk)
  (try clear hi)
  refine hK.out _ _ ⟨bc_,bc_⟩ (fun hHeld=>?_);clear hK K;refine no_ (h:=?_);refine pu_ HT_ 2 9 (bm 19 7) ?_;refine pz_ HT_ 3 10 (bm 19 15) ?_;refine pz_ HT_ 4 11 (bm 19 31) ?_;refine pu_ HT_ 5 12 (bm 19 63) ?_;refine pu_ HT_ 6 13 (bm 19 127) ?_;refine pz_ HT_ 7 14 (bm 19 255) ?_;refine pz_ HT_ 8 15 (bm 19 511) ?_;refine pu_ HT_ 9 16 (bm 19 1023) ?_;refine pu_ HT_ 10 17 (bm 19 2047) ?_;refine pz_ HT_ 11 18 (bm 19 4095) ?_;refine pz_ HT_ 12 19 (bm 19 8191) ?_;refine pz_ HT_ 13 20 (bm 19 16383) ?_;refine pz_ HT_ 14 21 (bm 19 32767) ?_;refine pz_ HT_ 15 22 (bm 19 65535) ?_;refine pz_ HT_ 16 23 (bm 19 131071) ?_;refine pu_ HT_ 17 24 (bm 19 262143) ?_;refine pu_ HT_ 18 6 (bm 19 524287) ?_;refine done_ (done_of HT_.out (by kernel_rfl)) ?_
  try go_wp2
  go_ret;exact⟨rr_,hB_⟩
def spec_l71Stand.l0:Nat→Int→Int→List Int→Int→List (S28)→List (List (S28))→Int→Int→Option ((List (S28)) × (List (List (S28))) × Int × Int × Int × Int)
 | 0,_,_,_,_,_,_,_,_=>none
 | k+1,x6,x8,x1000,x1001,x691000,x691001,x697000,x697001=>if x8<30 then ((spec_l6Rd_pick.f k x1000 x1001 20).bind fun bt697=>(if bt697.1>0 then ((spec_ToolFits.f k x691000 x691001 x6 x697000 x697001).bind fun t699=>(if t699=true then (some (x691000,x691001,x6,x697000,x697001,bt697.2)) else ((spec_l71Pt.f k x1000 bt697.2).bind fun bt700=>(spec_l71Stand.l0 k x6 (wrap64 (x8+1)) x1000 bt700.2.2 x691000 x691001 bt700.1 bt700.2.1)))) else (some (x691000,x691001,x6,x697000,x697001,bt697.2)))) else (some (x691000,x691001,x6,x697000,x697001,x1001))
def spec_l71Stand.f (k:Nat)(s0_0:List Int)(s0_1:Int):Option ((List (S28)) × (List (List (S28))) × Int × Int × Int × Int):=(spec_l71Plate.f k s0_0 s0_1).bind fun bt683=>((spec_l71Tool.f k s0_0 bt683.2.2).bind fun bt691=>((spec_l71Pt.f k s0_0 bt691.2).bind fun bt693=>(spec_l71Stand.l0 k bt691.1 0 s0_0 bt693.2.2 bt683.1 bt683.2.1 bt693.1 bt693.2.1)))
set_option maxHeartbeats 8000000 in
set_option maxRecDepth 100000 in
theorem spec_l71Stand.calls (k:Nat)(g:Nat)(s0_0:List Int)(s0_1:Int)(r1:List (S28))(r2:List (List (S28)))(r3:Int)(r4:Int)(r5:Int)(r6:Int)(w0 w:World)(hI:IsS123 w0 w g s0_0 s0_1)(hB:Below w0.heap.size w0 w)(h:spec_l71Stand.f k s0_0 s0_1=some (r1,r2,r3,r4,r5,r6)):
  Calls Tryd.prog 76 #[.pointer (some ⟨g,0,none⟩)] w fun e w'=>∃ v0_ v1_:Value,e=.returned (.tuple #[.agg #[v0_,v1_],.int .i64 r3,.agg #[.int .i64 r4,.int .i64 r5]])∧Kd.R k28 28 w' w.heap.size (fun k_=>(w.heap.size≤k_)) v0_ r1∧Kd.N (Kd.slice 28 k28) 23 w' w.heap.size (fun k_=>(w.heap.size≤k_)∧some k_≠(v0_:Value).ownBlock) v1_ r2∧IsS123 w0 w' g s0_0 r6∧Below w0.heap.size w0 w'∧KeepBut w w' g none:=by
 have hu26:=Tryd.underlying26;have hu28:=Tryd.underlying28;have HI0:=Aside0.mk hI;have HK:=a0_ (KeepBut.refl w g none);have HL:=Aside0.mk hB.size;clear hI;have HW0:=Aside0.mk hB.size;have HB:=Aside0.mk hB;clear hB;have H:((spec_l71Plate.f k s0_0 s0_1).bind fun bt683=>((spec_l71Tool.f k s0_0 bt683.2.2).bind fun bt691=>((spec_l71Pt.f k s0_0 bt691.2).bind fun bt693=>(spec_l71Stand.l0 k bt691.1 0 s0_0 bt693.2.2 bt683.1 bt683.2.1 bt693.1 bt693.2.1))))=some (r1,r2,r3,r4,r5,r6):=h;clear h;replace H:=Option.bind_eq_some_iff.mp H;obtain⟨⟨t683,t686,t689⟩,A20,H⟩:=H
 (try dsimp only at H)
 have A2:=Aside0.mk A20;clear A20;replace H:=Option.bind_eq_some_iff.mp H;obtain⟨⟨t691,t692⟩,A30,H⟩:=H
 (try dsimp only at H)
 have A3:=Aside0.mk A30;clear A30;replace H:=Option.bind_eq_some_iff.mp H;obtain⟨⟨t693,t694,t695⟩,A40,H⟩:=H
 (try dsimp only at H)
 have A4:=Aside0.mk A40;clear A40;have H':=Aside0.mk H;clear H;go_enter Tryd.func76,Tryd.ntmps76
 go_wp2_with (first | ((with_reducible refine gate_dst (N:=2) rfl ?_);refine bx_ (N:=2) (cs:=#[.slice none 0 0,.slice none 0 0]) (t:=26) (h:=?_);intro gb681 hg w5 hbox hb;have BK681:=a0_ (hbox);have GW681:=gw_ HK hg;have GE681:=a0_ ((Nat.le_trans HW0.out (gw_ HK hg).out));have NB0_681:=sl_ HI0 hg;have NB681_0:=sr_ HI0 hg;replace HK:=kb_ HK hb;replace HB:=a0_ (below_step hBs_ hb);replace HI0:=a0_ (IsS123.below hI_ hb);clear hb hbox hg) | ((with_reducible refine gate_dst (N:=4) rfl ?_);refine bx_ (N:=4) (cs:=#[.int .i64 0,.int .i64 0]) (t:=28) (h:=?_);intro gb682 hg w6 hbox hb;have BK682:=a0_ (hbox);have GW682:=gw_ HK hg;have GE682:=a0_ ((Nat.le_trans HW0.out (gw_ HK hg).out));have NB681_682:=nl_ BK681 hg;have NB682_681:=nr_ BK681 hg;have NB0_682:=sl_ HI0 hg;have NB682_0:=sr_ HI0 hg;replace BK681:=vb_ BK681 hb;replace HK:=kb_ HK hb;replace HB:=a0_ (below_step hBs_ hb);replace HI0:=a0_ (IsS123.below hI_ hb);clear hb hbox hg) | ((with_reducible refine gate_callee (f:=50) rfl ?_);refine gL_ (some 10) Tryd.func50 #[.pointer (some ⟨g,0,none⟩)] (h:=?_);(with_reducible refine (spec_l71Plate.calls k g s0_0 s0_1 t683 t686 t689 w0 _ hI_ hBs_ A2.out).mono ?_);rintro e w7 ⟨v684,v687,rfl,ho0,ho1,hi,hb,hk⟩;refine⟨_,rfl,?_⟩;have HO685:=a0_ (Kd.R_lower (Kd.R_newB (Kd.R_newM (M:=fun k_=>(w.heap.size≤k_)) (Kd.R_mono (ok':=fun k_=>True) ho0 (fun _ hk_=>trivial)) (keep_size (w:=w) (g:=g) (row:=none) (hK_ HK)) (fun k_ h_=>h_)) (g:=gb682) (o:=.cells #[.int .i64 0,.int .i64 0] 28 (0,0)) uq_) (keep_size (w:=w) (g:=g) (row:=none) (hK_ HK)));have HO688:=a0_ (Kd.N_lower (Kd.N_mono (ok':=fun k_=>(w.heap.size≤k_)∧some k_≠(v684:Value).ownBlock∧k_≠gb681∧k_≠gb682∧k_≠g) ho1 (fun k_ hk_=>⟨(Nat.le_trans (keep_size (w:=w) (g:=g) (row:=none) (hK_ HK)) hk_.1),hk_.2,(Kd.freshB (g:=gb681) (o:=.cells #[.slice none 0 0,.slice none 0 0] 26 (0,0)) uq_ k_ hk_.1),(Kd.freshB (g:=gb682) (o:=.cells #[.int .i64 0,.int .i64 0] 28 (0,0)) uq_ k_ hk_.1),(IsS123.fresh hI_ k_ hk_.1)⟩)) (keep_size (w:=w) (g:=g) (row:=none) (hK_ HK)));replace BK681:=a0_ (KeepBut.blk hk (g':=gb681) (o:=.cells #[.slice none 0 0,.slice none 0 0] 26 (0,0)) uq_ NB681_0.out (by simp));replace BK682:=a0_ (KeepBut.blk hk (g':=gb682) (o:=.cells #[.int .i64 0,.int .i64 0] 28 (0,0)) uq_ NB682_0.out (by simp));replace HK:=kk_ HK hk;replace HB:=a0_ (hb);replace HI0:=a0_ (hi);(try clear ho0 ho1 hi hb hk)) | ((with_reducible refine gate_dst (N:=5) rfl ?_);refine bx_ (N:=5) (cs:=#[.slice none 0 0,.slice none 0 0]) (t:=26) (h:=?_);intro gb690 hg w8 hbox hb;have BK690:=a0_ (hbox);have GW690:=gw_ HK hg;have GE690:=a0_ ((Nat.le_trans HW0.out (gw_ HK hg).out));have NB681_690:=nl_ BK681 hg;have NB690_681:=nr_ BK681 hg;have NB682_690:=nl_ BK682 hg;have NB690_682:=nr_ BK682 hg;have NB0_690:=sl_ HI0 hg;have NB690_0:=sr_ HI0 hg;replace HO685:=rb_ HO685 hb;replace HO688:=a0_ (Kd.N_below (Kd.N_elderB (uN_ HO688) gb690 (Nat.le_of_eq hg.symm)) hb);replace BK681:=vb_ BK681 hb;replace BK682:=vb_ BK682 hb;replace HK:=kb_ HK hb;replace HB:=a0_ (below_step hBs_ hb);replace HI0:=a0_ (IsS123.below hI_ hb);clear hb hbox hg;obtain⟨Ao9,co9,eo9⟩:=Kd.R_slice HO685.out;subst eo9;have hnb10:=NB690_681.out;have hnc10:=NB681_690.out;have hnb11:=NB690_682.out;have hnc11:=NB682_690.out;have hnb12:=NB690_0.out;have hnc12:=NB0_690.out;have hcz13_0:=c20_ BK690;have hcz13_1:=c21_ BK690;have hfz13_0:=fz_ BK690 0;have hfz13_1:=fz_ BK690 1;obtain⟨Ao14,co14,eo14⟩:=Kd.N_slice HO688.out;subst eo14) | ((with_reducible refine gate_callee (f:=75) rfl ?_);refine gL_ (some 12) Tryd.func75 #[.pointer (some ⟨g,0,none⟩)] (h:=?_);(with_reducible refine (spec_l71Tool.calls k g s0_0 t689 t691 t692 w0 _ hI_ hBs_ A3.out).mono ?_);rintro e w15 ⟨rfl,hi,hb,hk⟩;refine⟨_,rfl,?_⟩;replace BK681:=a0_ (KeepBut.blk hk (g':=gb681) (o:=.cells #[.slice none 0 0,.slice none 0 0] 26 (0,0)) uf_ NB681_0.out (by simp));replace BK682:=a0_ (KeepBut.blk hk (g':=gb682) (o:=.cells #[.int .i64 0,.int .i64 0] 28 (0,0)) uf_ NB682_0.out (by simp));replace HO685:=a0_ (Kd.R_mono (Kd.R_keep (IsS123.apart (show IsS123 w0 _ g s0_0 t689 from hI_) (by (with_reducible repeat (first | apply Kd.R_alloc | apply Kd.R_drewN | apply Kd.R_drew));exact (Kd.R_mono (Kd.R_far (p:=⟨gb690,1,none⟩) (Kd.R_far (p:=⟨gb690,0,none⟩) (Kd.R_types HO685.out BK690.out (by decide)) (fun _ hk=>hk.2) (.slice Ao9 t683.length co9)) (fun _ hk=>hk.2) (.slice Ao14 t686.length co14)) (fun _ h_=>h_.1))) (by decide)) hk (fun _ h=>h.2)) (fun _ h=>h.1));replace HO688:=a0_ (Kd.N_mono (Kd.N_keep (Kd.N_mono (ok:=fun k_=>((((w.heap.size≤k_))∧(some k_≠(.slice Ao9 t683.length co9:Value).ownBlock∧(k_≠gb681∧(k_≠gb682∧k_≠g))))∧k_≠gb690)) (by (with_reducible repeat (first | apply Kd.N_alloc | apply Kd.N_drewN | apply Kd.N_drew));exact (Kd.N_mono (Kd.N_far (p:=⟨gb690,1,none⟩) (Kd.N_far (p:=⟨gb690,0,none⟩) (Kd.N_mono HO688.out (fun k_ hk=>(⟨hk,hk.2⟩:_∧k_≠gb690))) (fun _ hk=>hk.2) (.slice Ao9 t683.length co9)) (fun _ hk=>hk.2) (.slice Ao14 t686.length co14)) (fun _ h_=>h_.1))) (fun k_ hk_=>(⟨hk_,hk_.1.2.2.2.2⟩:_∧k_≠g))) hk (fun _ h=>h.2)) (fun _ h=>h.1));replace BK690:=a0_ (KeepBut.blk hk (g':=gb690) (o:=.cells #[.slice Ao9 t683.length co9,.slice Ao14 t686.length co14] 26 (0,0)) (by (with_reducible repeat (first | refine blk_drewN ?_ _ | refine blk_drew ?_ | refine blk_alloc ?_ _));refine blk_put (cs:=#[.slice Ao9 t683.length co9,.slice none 0 0]) ?_ 1 _ rfl;(with_reducible repeat (first | refine blk_drewN ?_ _ | refine blk_drew ?_ | refine blk_alloc ?_ _));refine blk_put (cs:=#[.slice none 0 0,.slice none 0 0]) ?_ 0 _ rfl;(with_reducible repeat (first | refine blk_drewN ?_ _ | refine blk_drew ?_ | refine blk_alloc ?_ _));exact BK690.out) NB690_0.out (by simp));replace HK:=kk_ HK hk;replace HB:=a0_ (hb);replace HI0:=a0_ (hi);(try clear hi hb hk)) | ((with_reducible refine gate_callee (f:=51) rfl ?_);refine gL_ (some 14) Tryd.func51 #[.pointer (some ⟨g,0,none⟩)] (h:=?_);(with_reducible refine (spec_l71Pt.calls k g s0_0 t692 t693 t694 t695 w0 _ hI_ hBs_ A4.out).mono ?_);rintro e w16 ⟨rfl,hi,hb,hk⟩;refine⟨_,rfl,?_⟩;replace BK681:=a0_ (KeepBut.blk hk (g':=gb681) (o:=.cells #[.slice none 0 0,.slice none 0 0] 26 (0,0)) uq_ NB681_0.out (by simp));replace BK682:=a0_ (KeepBut.blk hk (g':=gb682) (o:=.cells #[.int .i64 0,.int .i64 0] 28 (0,0)) uq_ NB682_0.out (by simp));replace HO685:=a0_ (Kd.R_mono (Kd.R_keep (IsS123.apart (show IsS123 w0 _ g s0_0 t692 from hI_) (uR_ HO685) (by decide)) hk (fun _ h=>h.2)) (fun _ h=>h.1));replace HO688:=a0_ (Kd.N_mono (Kd.N_keep (Kd.N_mono (ok:=fun k_=>((((w.heap.size≤k_))∧(some k_≠(.slice Ao9 t683.length co9:Value).ownBlock∧(k_≠gb681∧(k_≠gb682∧k_≠g))))∧k_≠gb690)) (uN_ HO688) (fun k_ hk_=>(⟨hk_,hk_.1.2.2.2.2⟩:_∧k_≠g))) hk (fun _ h=>h.2)) (fun _ h=>h.1));replace BK690:=a0_ (KeepBut.blk hk (g':=gb690) (o:=.cells #[.slice Ao9 t683.length co9,.slice Ao14 t686.length co14] 26 (0,0)) uq_ NB690_0.out (by simp));replace HK:=kk_ HK hk;replace HB:=a0_ (hb);replace HI0:=a0_ (hi);(try clear hi hb hk)) | ((with_reducible refine gate_dst (N:=7) rfl ?_);refine bx_ (N:=7) (cs:=#[.int .i64 0,.int .i64 0]) (t:=28) (h:=?_);intro gb696 hg w17 hbox hb;have BK696:=a0_ (hbox);have GW696:=gw_ HK hg;have GE696:=a0_ ((Nat.le_trans HW0.out (gw_ HK hg).out));have NB681_696:=nl_ BK681 hg;have NB696_681:=nr_ BK681 hg;have NB682_696:=nl_ BK682 hg;have NB696_682:=nr_ BK682 hg;have NB690_696:=nl_ BK690 hg;have NB696_690:=nr_ BK690 hg;have NB0_696:=sl_ HI0 hg;have NB696_0:=sr_ HI0 hg;replace HO685:=a0_ (Kd.R_below (Kd.R_elderB (uR_ HO685) gb696 (Nat.le_of_eq hg.symm)) hb);replace HO688:=a0_ (Kd.N_below (Kd.N_elderB (uN_ HO688) gb696 (Nat.le_of_eq hg.symm)) hb);replace BK681:=vb_ BK681 hb;replace BK682:=vb_ BK682 hb;replace BK690:=vb_ BK690 hb;replace HK:=kb_ HK hb;replace HB:=a0_ (below_step hBs_ hb);replace HI0:=a0_ (IsS123.below hI_ hb);clear hb hbox hg;have hnb18:=NB696_681.out;have hnc18:=NB681_696.out;have hnb19:=NB696_682.out;have hnc19:=NB682_696.out;have hnb20:=NB696_690.out;have hnc20:=NB690_696.out;have hnb21:=NB696_0.out;have hnc21:=NB0_696.out;have hcz22_0:=c20_ BK696;have hcz22_1:=c21_ BK696;have hfz22_0:=fz_ BK696 0;have hfz22_1:=fz_ BK696 1))
 go_loopg [8] k (fun kq v8 w'=>∃ (x8_1:Int) (x1001_1:Int) (x697000_1:Int) (x697001_1:Int),v8=.int .i64 x8_1∧Aside0 (spec_l71Stand.l0 kq t691 x8_1 s0_0 x1001_1 t683 t686 x697000_1 x697001_1=some (r1,r2,r3,r4,r5,r6))∧Aside0 (kq≤k)∧Aside0 (Kd.R k28 28 w' w.heap.size (fun k_=>(w.heap.size≤k_)∧k_≠gb682∧k_≠gb696) (.slice Ao9 t683.length co9) t683)∧Aside0 (Kd.N (Kd.slice 28 k28) 23 w' w.heap.size (fun k_=>(w.heap.size≤k_)∧some k_≠((.slice Ao9 t683.length co9):Value).ownBlock∧k_≠gb681∧k_≠gb682∧k_≠gb690∧k_≠gb696∧k_≠g) (.slice Ao14 t686.length co14) t686)∧Aside0 (w'.heap[gb681]?=some (.cells #[(.slice none 0 0),(.slice none 0 0)] 26 (0,0)))∧Aside0 (w'.heap[gb682]?=some (.cells #[.int .i64 0,.int .i64 0] 28 (0,0)))∧Aside0 (w'.heap[gb690]?=some (.cells #[(.slice Ao9 t683.length co9),(.slice Ao14 t686.length co14)] 26 (0,0)))∧Aside0 (w'.heap[gb696]?=some (.cells #[.int .i64 x697000_1,.int .i64 x697001_1] 28 (0,0)))∧Aside0 (IsS123 w0 w' g s0_0 x1001_1)∧Aside0 (KeepBut w w' g none)∧Aside0 (Below w0.heap.size w0 w'))
 case atStart=>exact⟨(0),(t695),(t693),(t694),(by first | rfl | (simp;done) | (simp [*];done)),H',⟨Nat.le_refl _⟩,⟨by (with_reducible repeat (first | apply Kd.R_alloc | apply Kd.R_drewN | apply Kd.R_drew));exact Kd.R_mono (Kd.R_far (p:=⟨gb696,1,none⟩) (Kd.R_far (p:=⟨gb696,0,none⟩) (Kd.R_mono HO685.out (fun k_ hk=>(⟨hk,hk.2⟩:_∧k_≠gb696))) (fun _ hk=>hk.2) (.int .i64 t693)) (fun _ hk=>hk.2) (.int .i64 t694)) (fun _ hk=>⟨hk.1.1.1.1,⟨hk.1.1.2,hk.1.2⟩⟩)⟩,⟨by (with_reducible repeat (first | apply Kd.N_alloc | apply Kd.N_drewN | apply Kd.N_drew));exact Kd.N_mono (Kd.N_far (p:=⟨gb696,1,none⟩) (Kd.N_far (p:=⟨gb696,0,none⟩) (Kd.N_mono HO688.out (fun k_ hk=>(⟨hk,hk.2⟩:_∧k_≠gb696))) (fun _ hk=>hk.2) (.int .i64 t693)) (fun _ hk=>hk.2) (.int .i64 t694)) (fun _ hk=>⟨hk.1.1.1.1,⟨hk.1.1.1.2.1,⟨hk.1.1.1.2.2.1,⟨hk.1.1.1.2.2.2.1,⟨hk.1.1.2,⟨hk.1.2,hk.1.1.1.2.2.2.2⟩⟩⟩⟩⟩⟩)⟩,⟨by (with_reducible repeat (first | refine blk_drewN ?_ _ | refine blk_drew ?_ | refine blk_alloc ?_ _));refine blk_far ?_ NB681_696.out _;(with_reducible repeat (first | refine blk_drewN ?_ _ | refine blk_drew ?_ | refine blk_alloc ?_ _));refine blk_far ?_ NB681_696.out _;(with_reducible repeat (first | refine blk_drewN ?_ _ | refine blk_drew ?_ | refine blk_alloc ?_ _));exact BK681.out⟩,⟨by (with_reducible repeat (first | refine blk_drewN ?_ _ | refine blk_drew ?_ | refine blk_alloc ?_ _));refine blk_far ?_ NB682_696.out _;(with_reducible repeat (first | refine blk_drewN ?_ _ | refine blk_drew ?_ | refine blk_alloc ?_ _));refine blk_far ?_ NB682_696.out _;(with_reducible repeat (first | refine blk_drewN ?_ _ | refine blk_drew ?_ | refine blk_alloc ?_ _));exact BK682.out⟩,⟨by (with_reducible repeat (first | refine blk_drewN ?_ _ | refine blk_drew ?_ | refine blk_alloc ?_ _));refine blk_far ?_ NB690_696.out _;(with_reducible repeat (first | refine blk_drewN ?_ _ | refine blk_drew ?_ | refine blk_alloc ?_ _));refine blk_far ?_ NB690_696.out _;(with_reducible repeat (first | refine blk_drewN ?_ _ | refine blk_drew ?_ | refine blk_alloc ?_ _));exact BK690.out⟩,⟨by (with_reducible repeat (first | refine blk_drewN ?_ _ | refine blk_drew ?_ | refine blk_alloc ?_ _));refine blk_put (cs:=#[.int .i64 t693,.int .i64 0]) ?_ 1 _ rfl;(with_reducible repeat (first | refine blk_drewN ?_ _ | refine blk_drew ?_ | refine blk_alloc ?_ _));refine blk_put (cs:=#[.int .i64 0,.int .i64 0]) ?_ 0 _ rfl;(with_reducible repeat (first | refine blk_drewN ?_ _ | refine blk_drew ?_ | refine blk_alloc ?_ _));exact BK696.out⟩,⟨by repeat (first | (with_reducible first | exact HI0.out | apply IsS123.alloc | apply IsS123.drewN | apply IsS123.drew | apply IsS123.set_1 | refine IsS123.far ?_ NB0_681.out _ | refine IsS123.far ?_ NB0_682.out _ | refine IsS123.far ?_ NB0_690.out _ | refine IsS123.far ?_ NB0_696.out _) | exact HI0.out)⟩,⟨by repeat (first | (with_reducible first | exact HK.out | apply KeepBut.set_ | apply keep_drewN | apply keep_drew | apply keep_alloc | refine keep_far ?_ GW681.out _ | refine keep_far ?_ GW682.out _ | refine keep_far ?_ GW690.out _ | refine keep_far ?_ GW696.out _) | exact HK.out)⟩,⟨by repeat (first | (with_reducible first | exact HB.out | apply below_alloc | apply pw_below_drewN | apply below_drew1 | refine below_set ?_ (IsS123.ge HI0.out) | refine below_set ?_ GE681.out | refine below_set ?_ GE682.out | refine below_set ?_ GE690.out | refine below_set ?_ GE696.out) | exact HB.out)⟩⟩
 case round =>
  clear H';obtain⟨x8_1,x1001_1,x697000_1,x697001_1,rfl,HA,HK1,HO_691000,HO_691001,BK681,BK682,BK690,BK696,HI0,HK,HB⟩:=hrel
  cases gk with
  | zero=>exact absurd HA.out (by simp [spec_l71Stand.l0])
  | succ k1 =>
   have H:=HA.out;clear HA;simp only [spec_l71Stand.l0] at H;by_cases c23:x8_1<30
   ·
    rw [if_pos c23] at H;have c23b0:decide (x8_1<30)=true:=decide_eq_true c23;clear c23;replace H:=Option.bind_eq_some_iff.mp H;obtain⟨⟨t697,t698⟩,A240,H⟩:=H
    (try dsimp only at H)
    have A24:=Aside0.mk A240;clear A240;by_cases c25:t697>0
    ·
     rw [if_pos c25] at H;have c25b0:decide (0<t697)=true:=decide_eq_true c25;clear c25;replace H:=Option.bind_eq_some_iff.mp H;obtain⟨t699,A260,H⟩:=H
     (try dsimp only at H)
     have A26:=Aside0.mk A260;clear A260;by_cases c27:t699=true
     ·
      subst c27;rw [if_pos rfl] at H
      (try dsimp only at H)
      simp only [Option.some.injEq,Prod.mk.injEq] at H;obtain⟨rfl,rfl,rfl,rfl,rfl,rfl⟩:=H
      try go_wp2_with (first | (go_at_call 74;(with_reducible refine (spec_l6Rd_pick.calls k1 g s0_0 x1001_1 20 t697 t698 w0 _ hI_ hBs_ A24.out).mono ?_);rintro e w28 ⟨rfl,hi,hb,hk⟩;replace HO_691000:=a0_ (Kd.R_mono (Kd.R_keep (IsS123.apart (show IsS123 w0 _ g s0_0 x1001_1 from hI_) (uR_ HO_691000) (by decide)) hk (fun _ h=>h.2)) (fun _ h=>h.1));replace HO_691001:=a0_ (Kd.N_mono (Kd.N_keep (Kd.N_mono (ok:=fun k_=>(((w.heap.size≤k_))∧(some k_≠(.slice Ao9 t683.length co9:Value).ownBlock∧(k_≠gb681∧(k_≠gb682∧(k_≠gb690∧(k_≠gb696∧k_≠g))))))) (uN_ HO_691001) (fun k_ hk_=>(⟨hk_,hk_.2.2.2.2.2.2⟩:_∧k_≠g))) hk (fun _ h=>h.2)) (fun _ h=>h.1));replace BK681:=a0_ (KeepBut.blk hk (g':=gb681) (o:=.cells #[.slice none 0 0,.slice none 0 0] 26 (0,0)) uq_ NB681_0.out (by simp));replace BK682:=a0_ (KeepBut.blk hk (g':=gb682) (o:=.cells #[.int .i64 0,.int .i64 0] 28 (0,0)) uq_ NB682_0.out (by simp));replace BK690:=a0_ (KeepBut.blk hk (g':=gb690) (o:=.cells #[.slice Ao9 t683.length co9,.slice Ao14 t686.length co14] 26 (0,0)) uq_ NB690_0.out (by simp));replace BK696:=a0_ (KeepBut.blk hk (g':=gb696) (o:=.cells #[.int .i64 x697000_1,.int .i64 x697001_1] 28 (0,0)) uq_ NB696_0.out (by simp));replace HK:=kk_ HK hk;replace HB:=a0_ (hb);replace HI0:=a0_ (hi);(try clear hi hb hk);have hnb29:=NB690_681.out;have hnc29:=NB681_690.out;have hnb30:=NB690_682.out;have hnc30:=NB682_690.out;have hnb31:=NB690_696.out;have hnc31:=NB696_690.out;have hnb32:=NB690_0.out;have hnc32:=NB0_690.out;have hcz33_0:=c20_ BK690;have hcz33_1:=c21_ BK690;have hfz33_0:=fz_ BK690 0;have hfz33_1:=fz_ BK690 1;have hnb34:=NB696_681.out;have hnc34:=NB681_696.out;have hnb35:=NB696_682.out;have hnc35:=NB682_696.out;have hnb36:=NB696_0.out;have hnc36:=NB0_696.out;have hcz37_0:=c20_ BK696;have hcz37_1:=c21_ BK696;have hfz37_0:=fz_ BK696 0;have hfz37_1:=fz_ BK696 1) | (go_at_call 25;(with_reducible refine (spec_ToolFits.calls k1 _ _ t683 _ _ t686 t691 x697000_1 x697001_1 true _ ?side1 ?side2 ?side3 ?side4 A26.out).mono ?_);(case side1=>repeat (first | exact (Kd.R_reads' HO_691000.out).2.2 | (with_reducible refine Kd.C_alloc ?_ _) | (with_reducible refine Kd.C_drewN ?_ _) | (with_reducible refine Kd.C_drew ?_)));(case side2=>exact (Kd.R_reads' HO_691000.out).2.1);(case side3=>repeat (first | exact (Kd.N_reads' HO_691001.out).2.2 | (with_reducible refine Kd.C_alloc ?_ _) | (with_reducible refine Kd.C_drewN ?_ _) | (with_reducible refine Kd.C_drew ?_)));(case side4=>exact (Kd.N_reads' HO_691001.out).2.1);rintro e w38 ⟨rfl,hb⟩;replace HO_691000:=rb_ HO_691000 hb;replace HO_691001:=nb_ HO_691001 hb;replace BK681:=vb_ BK681 hb;replace BK682:=vb_ BK682 hb;replace BK690:=vb_ BK690 hb;replace BK696:=vb_ BK696 hb;replace HK:=kb_ HK hb;replace HB:=a0_ (below_step hBs_ hb);replace HI0:=a0_ (IsS123.below hI_ hb);(try clear hb)))
      replace HO_691000:=a0_ (Kd.R_drew HO_691000.out);replace HO_691001:=a0_ (Kd.N_drew HO_691001.out);replace BK681:=a0_ (blk_drew BK681.out);replace BK682:=a0_ (blk_drew BK682.out);replace BK690:=a0_ (blk_drew BK690.out);replace BK696:=a0_ (blk_drew BK696.out);replace HI0:=a0_ (IsS123.drew HI0.out);replace HK:=a0_ (keep_drew HK.out);replace HB:=a0_ (below_drew1 HB.out);refine start_ (n:=6) (S:=fun w'=>w'.cell? ⟨gb690,0,none⟩=some (.slice Ao9 t683.length co9)∧w'.cell? ⟨gb690,1,none⟩=some (.slice Ao14 t686.length co14)∧w'.cell? ⟨gb696,0,none⟩=some (.int .i64 x697000_1)∧w'.cell? ⟨gb696,1,none⟩=some (.int .i64 x697001_1)) (ds:=[]) (Array.replicate 6 false) (by kernel_rfl) rfl rfl ⟨bc_,bc_,bc_,bc_⟩ (fun hHeld=>?_);generalize w38.drew=w39 at HO_691000 HO_691001 BK681 BK682 BK690 BK696 HI0 HK HB hHeld ⊢
      refine pv_ 1 34 (bm 6 2) ?_;refine tb4_ 0 33 (bm 6 3) hHeld ?_;refine tb4_ 2 35 (bm 6 7) hHeld ?_;refine one_ (i:=3) (N:=none) (bm 6 15) rfl rfl (by kernel_rfl) (by decide) (fun K hK=>?_);have hs40:w39.cell? ⟨gb681,0,none⟩=some (.slice none 0 0):=bc_;have hfs40:=blk_frozen BK681.out 0;have hns40_1:=NB682_681.out;have hns40_2:=NB690_681.out;have hns40_3:=NB696_681.out;have hms40_1:=NB681_682.out;have hms40_2:=NB681_690.out;have hms40_3:=NB681_696.out;have hs41:w39.cell? ⟨gb681,1,none⟩=some (.slice none 0 0):=bc_;have hfs41:=blk_frozen BK681.out 1;have hns41_1:=NB682_681.out;have hns41_2:=NB690_681.out;have hns41_3:=NB696_681.out;have hms41_1:=NB681_682.out;have hms41_2:=NB681_690.out;have hms41_3:=NB681_696.out;refine skip_ (w1:=?_) (by rfl) rfl ?_ ?_;rotate_left
      ·
       go_simp;rfl
      refine hK.out _ _ ⟨((cell_far (p:=⟨gb681,_,none⟩) NB690_681.out _).trans (((cell_far (p:=⟨gb681,_,none⟩) NB690_681.out _).trans (hHeld.1)))),((cell_far (p:=⟨gb681,_,none⟩) NB690_681.out _).trans (((cell_far (p:=⟨gb681,_,none⟩) NB690_681.out _).trans (hHeld.2.1)))),((cell_far (p:=⟨gb681,_,none⟩) NB696_681.out _).trans (((cell_far (p:=⟨gb681,_,none⟩) NB696_681.out _).trans (hHeld.2.2.1)))),((cell_far (p:=⟨gb681,_,none⟩) NB696_681.out _).trans (((cell_far (p:=⟨gb681,_,none⟩) NB696_681.out _).trans (hHeld.2.2.2))))⟩ (fun hHeld=>?_);clear hK K;refine pv_ 4 3 (bm 6 31) ?_;refine one_ (i:=5) (N:=none) (bm 6 63) rfl rfl (by kernel_rfl) (by decide) (fun K hK=>?_);have hs42:w39.cell? ⟨gb682,0,none⟩=some (.int .i64 0):=bc_;have hfs42:=blk_frozen BK682.out 0;have hns42_0:=NB681_682.out;have hns42_2:=NB690_682.out;have hns42_3:=NB696_682.out;have hms42_0:=NB682_681.out;have hms42_2:=NB682_690.out;have hms42_3:=NB682_696.out;have hs43:w39.cell? ⟨gb682,1,none⟩=some (.int .i64 0):=bc_;have hfs43:=blk_frozen BK682.out 1;have hns43_0:=NB681_682.out;have hns43_2:=NB690_682.out;have hns43_3:=NB696_682.out;have hms43_0:=NB682_681.out;have hms43_2:=NB682_690.out;have hms43_3:=NB682_696.out;refine skip_ (w1:=?_) (by rfl) rfl ?_ ?_;rotate_left
      ·
       go_simp;rfl
      refine hK.out _ _ ⟨((cell_far (p:=⟨gb682,_,none⟩) NB690_682.out _).trans (((cell_far (p:=⟨gb682,_,none⟩) NB690_682.out _).trans (hHeld.1)))),((cell_far (p:=⟨gb682,_,none⟩) NB690_682.out _).trans (((cell_far (p:=⟨gb682,_,none⟩) NB690_682.out _).trans (hHeld.2.1)))),((cell_far (p:=⟨gb682,_,none⟩) NB696_682.out _).trans (((cell_far (p:=⟨gb682,_,none⟩) NB696_682.out _).trans (hHeld.2.2.1)))),((cell_far (p:=⟨gb682,_,none⟩) NB696_682.out _).trans (((cell_far (p:=⟨gb682,_,none⟩) NB696_682.out _).trans (hHeld.2.2.2))))⟩ (fun hHeld=>?_);clear hK K;refine done_ (by kernel_rfl) ?_
      try go_wp2
      refine bodyPost_ret (results_list (rs:=[.cell 2 26,.tmp 3,.cell 4 28]) rfl (by simp) (.cell gb681 26 #[.slice Ao9 t683.length co9,.slice Ao14 t686.length co14] (0,0) _ rfl (by (with_reducible repeat (first | refine blk_drewN ?_ _ | refine blk_drew ?_ | refine blk_alloc ?_ _));refine blk_far ?_ NB681_682.out _;(with_reducible repeat (first | refine blk_drewN ?_ _ | refine blk_drew ?_ | refine blk_alloc ?_ _));refine blk_far ?_ NB681_682.out _;(with_reducible repeat (first | refine blk_drewN ?_ _ | refine blk_drew ?_ | refine blk_alloc ?_ _));refine blk_put (cs:=#[.slice Ao9 t683.length co9,.slice none 0 0]) ?_ 1 _ rfl;(with_reducible repeat (first | refine blk_drewN ?_ _ | refine blk_drew ?_ | refine blk_alloc ?_ _));refine blk_put (cs:=#[.slice none 0 0,.slice none 0 0]) ?_ 0 _ rfl;(with_reducible repeat (first | refine blk_drewN ?_ _ | refine blk_drew ?_ | refine blk_alloc ?_ _));exact BK681.out) Tryd.underlying26 rfl (by kernel_rfl) (.tmp (.cell gb682 28 #[.int .i64 x697000_1,.int .i64 x697001_1] (0,0) _ rfl (by (with_reducible repeat (first | refine blk_drewN ?_ _ | refine blk_drew ?_ | refine blk_alloc ?_ _));refine blk_put (cs:=#[.int .i64 x697000_1,.int .i64 0]) ?_ 1 _ rfl;(with_reducible repeat (first | refine blk_drewN ?_ _ | refine blk_drew ?_ | refine blk_alloc ?_ _));refine blk_put (cs:=#[.int .i64 0,.int .i64 0]) ?_ 0 _ rfl;(with_reducible repeat (first | refine blk_drewN ?_ _ | refine blk_drew ?_ | refine blk_alloc ?_ _));refine blk_far ?_ NB682_681.out _;(with_reducible repeat (first | refine blk_drewN ?_ _ | refine blk_drew ?_ | refine blk_alloc ?_ _));refine blk_far ?_ NB682_681.out _;(with_reducible repeat (first | refine blk_drewN ?_ _ | refine blk_drew ?_ | refine blk_alloc ?_ _));exact BK682.out) Tryd.underlying28 rfl (by kernel_rfl) .nil)))) rfl ?_
      exact⟨_,_,rr_,by (with_reducible repeat (first | apply Kd.R_alloc | apply Kd.R_drewN | apply Kd.R_drew));exact Kd.R_mono (Kd.R_far (p:=⟨gb682,1,none⟩) (Kd.R_far (p:=⟨gb682,0,none⟩) (Kd.R_far (p:=⟨gb681,1,none⟩) (Kd.R_far (p:=⟨gb681,0,none⟩) (Kd.R_mono (Kd.R_types HO_691000.out BK681.out (by decide)) (fun k_ hk=>(⟨hk,hk.1.2.1⟩:_∧k_≠gb682))) (fun _ hk=>hk.1.2) (.slice Ao9 t683.length co9)) (fun _ hk=>hk.1.2) (.slice Ao14 t686.length co14)) (fun _ hk=>hk.2) (.int .i64 x697000_1)) (fun _ hk=>hk.2) (.int .i64 x697001_1)) (fun _ hk=>hk.1.1.1),by (with_reducible repeat (first | apply Kd.N_alloc | apply Kd.N_drewN | apply Kd.N_drew));exact Kd.N_mono (Kd.N_far (p:=⟨gb682,1,none⟩) (Kd.N_far (p:=⟨gb682,0,none⟩) (Kd.N_far (p:=⟨gb681,1,none⟩) (Kd.N_far (p:=⟨gb681,0,none⟩) (Kd.N_mono (Kd.N_mono HO_691001.out (fun k_ hk=>(⟨hk,hk.2.2.1⟩:_∧k_≠gb681))) (fun k_ hk=>(⟨hk,hk.1.2.2.2.1⟩:_∧k_≠gb682))) (fun _ hk=>hk.1.2) (.slice Ao9 t683.length co9)) (fun _ hk=>hk.1.2) (.slice Ao14 t686.length co14)) (fun _ hk=>hk.2) (.int .i64 x697000_1)) (fun _ hk=>hk.2) (.int .i64 x697001_1)) (fun _ hk=>⟨hk.1.1.1,hk.1.1.2.1⟩),by repeat (first | (with_reducible first | exact HI0.out | apply IsS123.alloc | apply IsS123.drewN | apply IsS123.drew | apply IsS123.set_1 | refine IsS123.far ?_ NB0_681.out _ | refine IsS123.far ?_ NB0_682.out _ | refine IsS123.far ?_ NB0_690.out _ | refine IsS123.far ?_ NB0_696.out _) | exact HI0.out),by repeat (first | (with_reducible first | exact HB.out | apply below_alloc | apply pw_below_drewN | apply below_drew1 | refine below_set ?_ (IsS123.ge HI0.out) | refine below_set ?_ GE681.out | refine below_set ?_ GE682.out | refine below_set ?_ GE690.out | refine below_set ?_ GE696.out) | exact HB.out),by repeat (first | (with_reducible first | exact HK.out | apply KeepBut.set_ | apply keep_drewN | apply keep_drew | apply keep_alloc | refine keep_far ?_ GW681.out _ | refine keep_far ?_ GW682.out _ | refine keep_far ?_ GW690.out _ | refine keep_far ?_ GW696.out _) | exact HK.out)⟩
     ·
      replace c27:=Bool.eq_false_iff.mpr c27;subst c27;rw [if_neg (show ¬ (false=true) by decide)] at H
      (try dsimp only at H)
      replace H:=Option.bind_eq_some_iff.mp H;obtain⟨⟨t700,t701,t702⟩,A440,H⟩:=H
      (try dsimp only at H)
      have A44:=Aside0.mk A440;clear A440;have H':=Aside0.mk H;clear H
      go_wp2_with (first | (go_at_call 74;(with_reducible refine (spec_l6Rd_pick.calls k1 g s0_0 x1001_1 20 t697 t698 w0 _ hI_ hBs_ A24.out).mono ?_);rintro e w45 ⟨rfl,hi,hb,hk⟩;replace HO_691000:=a0_ (Kd.R_mono (Kd.R_keep (IsS123.apart (show IsS123 w0 _ g s0_0 x1001_1 from hI_) (uR_ HO_691000) (by decide)) hk (fun _ h=>h.2)) (fun _ h=>h.1));replace HO_691001:=a0_ (Kd.N_mono (Kd.N_keep (Kd.N_mono (ok:=fun k_=>(((w.heap.size≤k_))∧(some k_≠(.slice Ao9 t683.length co9:Value).ownBlock∧(k_≠gb681∧(k_≠gb682∧(k_≠gb690∧(k_≠gb696∧k_≠g))))))) (uN_ HO_691001) (fun k_ hk_=>(⟨hk_,hk_.2.2.2.2.2.2⟩:_∧k_≠g))) hk (fun _ h=>h.2)) (fun _ h=>h.1));replace BK681:=a0_ (KeepBut.blk hk (g':=gb681) (o:=.cells #[.slice none 0 0,.slice none 0 0] 26 (0,0)) uq_ NB681_0.out (by simp));replace BK682:=a0_ (KeepBut.blk hk (g':=gb682) (o:=.cells #[.int .i64 0,.int .i64 0] 28 (0,0)) uq_ NB682_0.out (by simp));replace BK690:=a0_ (KeepBut.blk hk (g':=gb690) (o:=.cells #[.slice Ao9 t683.length co9,.slice Ao14 t686.length co14] 26 (0,0)) uq_ NB690_0.out (by simp));replace BK696:=a0_ (KeepBut.blk hk (g':=gb696) (o:=.cells #[.int .i64 x697000_1,.int .i64 x697001_1] 28 (0,0)) uq_ NB696_0.out (by simp));replace HK:=kk_ HK hk;replace HB:=a0_ (hb);replace HI0:=a0_ (hi);(try clear hi hb hk);have hnb46:=NB690_681.out;have hnc46:=NB681_690.out;have hnb47:=NB690_682.out;have hnc47:=NB682_690.out;have hnb48:=NB690_696.out;have hnc48:=NB696_690.out;have hnb49:=NB690_0.out;have hnc49:=NB0_690.out;have hcz50_0:=c20_ BK690;have hcz50_1:=c21_ BK690;have hfz50_0:=fz_ BK690 0;have hfz50_1:=fz_ BK690 1;have hnb51:=NB696_681.out;have hnc51:=NB681_696.out;have hnb52:=NB696_682.out;have hnc52:=NB682_696.out;have hnb53:=NB696_0.out;have hnc53:=NB0_696.out;have hcz54_0:=c20_ BK696;have hcz54_1:=c21_ BK696;have hfz54_0:=fz_ BK696 0;have hfz54_1:=fz_ BK696 1) | (go_at_call 25;(with_reducible refine (spec_ToolFits.calls k1 _ _ t683 _ _ t686 t691 x697000_1 x697001_1 false _ ?side1 ?side2 ?side3 ?side4 A26.out).mono ?_);(case side1=>repeat (first | exact (Kd.R_reads' HO_691000.out).2.2 | (with_reducible refine Kd.C_alloc ?_ _) | (with_reducible refine Kd.C_drewN ?_ _) | (with_reducible refine Kd.C_drew ?_)));(case side2=>exact (Kd.R_reads' HO_691000.out).2.1);(case side3=>repeat (first | exact (Kd.N_reads' HO_691001.out).2.2 | (with_reducible refine Kd.C_alloc ?_ _) | (with_reducible refine Kd.C_drewN ?_ _) | (with_reducible refine Kd.C_drew ?_)));(case side4=>exact (Kd.N_reads' HO_691001.out).2.1);rintro e w55 ⟨rfl,hb⟩;replace HO_691000:=rb_ HO_691000 hb;replace HO_691001:=nb_ HO_691001 hb;replace BK681:=vb_ BK681 hb;replace BK682:=vb_ BK682 hb;replace BK690:=vb_ BK690 hb;replace BK696:=vb_ BK696 hb;replace HK:=kb_ HK hb;replace HB:=a0_ (below_step hBs_ hb);replace HI0:=a0_ (IsS123.below hI_ hb);(try clear hb)) | ((with_reducible refine gate_callee (f:=51) rfl ?_);refine gL_ (some 32) Tryd.func51 #[.pointer (some ⟨g,0,none⟩)] (h:=?_);(with_reducible refine (spec_l71Pt.calls k1 g s0_0 t698 t700 t701 t702 w0 _ hI_ hBs_ A44.out).mono ?_);rintro e w56 ⟨rfl,hi,hb,hk⟩;refine⟨_,rfl,?_⟩;replace HO_691000:=a0_ (Kd.R_mono (Kd.R_keep (IsS123.apart (show IsS123 w0 _ g s0_0 t698 from hI_) (uR_ HO_691000) (by decide)) hk (fun _ h=>h.2)) (fun _ h=>h.1));replace HO_691001:=a0_ (Kd.N_mono (Kd.N_keep (Kd.N_mono (ok:=fun k_=>(((w.heap.size≤k_))∧(some k_≠(.slice Ao9 t683.length co9:Value).ownBlock∧(k_≠gb681∧(k_≠gb682∧(k_≠gb690∧(k_≠gb696∧k_≠g))))))) (uN_ HO_691001) (fun k_ hk_=>(⟨hk_,hk_.2.2.2.2.2.2⟩:_∧k_≠g))) hk (fun _ h=>h.2)) (fun _ h=>h.1));replace BK681:=a0_ (KeepBut.blk hk (g':=gb681) (o:=.cells #[.slice none 0 0,.slice none 0 0] 26 (0,0)) uq_ NB681_0.out (by simp));replace BK682:=a0_ (KeepBut.blk hk (g':=gb682) (o:=.cells #[.int .i64 0,.int .i64 0] 28 (0,0)) uq_ NB682_0.out (by simp));replace BK690:=a0_ (KeepBut.blk hk (g':=gb690) (o:=.cells #[.slice Ao9 t683.length co9,.slice Ao14 t686.length co14] 26 (0,0)) uq_ NB690_0.out (by simp));replace BK696:=a0_ (KeepBut.blk hk (g':=gb696) (o:=.cells #[.int .i64 x697000_1,.int .i64 x697001_1] 28 (0,0)) uq_ NB696_0.out (by simp));replace HK:=kk_ HK hk;replace HB:=a0_ (hb);replace HI0:=a0_ (hi);(try clear hi hb hk);have hcz57_0:=c20_ BK696;have hcz57_1:=c21_ BK696;have hfz57_0:=fz_ BK696 0;have hfz57_1:=fz_ BK696 1))
      go_roundg k1
      case measure=>have:=HK1.out;omega
      case rel=>exact⟨(wrap64 (x8_1+1)),(t702),(t700),(t701),(by first | rfl | (simp;done) | (simp [*];done)),H',⟨by have:=HK1.out;omega⟩,⟨by (with_reducible repeat (first | apply Kd.R_alloc | apply Kd.R_drewN | apply Kd.R_drew));exact Kd.R_mono (Kd.R_far (p:=⟨gb696,1,none⟩) (Kd.R_far (p:=⟨gb696,0,none⟩) (Kd.R_mono HO_691000.out (fun k_ hk=>(⟨hk,hk.2.2⟩:_∧k_≠gb696))) (fun _ hk=>hk.2) (.int .i64 t700)) (fun _ hk=>hk.2) (.int .i64 t701)) (fun _ hk=>⟨hk.1.1,⟨hk.1.2.1,hk.1.2.2⟩⟩)⟩,⟨by (with_reducible repeat (first | apply Kd.N_alloc | apply Kd.N_drewN | apply Kd.N_drew));exact Kd.N_mono (Kd.N_far (p:=⟨gb696,1,none⟩) (Kd.N_far (p:=⟨gb696,0,none⟩) (Kd.N_mono HO_691001.out (fun k_ hk=>(⟨hk,hk.2.2.2.2.2.1⟩:_∧k_≠gb696))) (fun _ hk=>hk.2) (.int .i64 t700)) (fun _ hk=>hk.2) (.int .i64 t701)) (fun _ hk=>⟨hk.1.1,⟨hk.1.2.1,⟨hk.1.2.2.1,⟨hk.1.2.2.2.1,⟨hk.1.2.2.2.2.1,⟨hk.1.2.2.2.2.2.1,hk.1.2.2.2.2.2.2⟩⟩⟩⟩⟩⟩)⟩,⟨by (with_reducible repeat (first | refine blk_drewN ?_ _ | refine blk_drew ?_ | refine blk_alloc ?_ _));refine blk_far ?_ NB681_696.out _;(with_reducible repeat (first | refine blk_drewN ?_ _ | refine blk_drew ?_ | refine blk_alloc ?_ _));refine blk_far ?_ NB681_696.out _;(with_reducible repeat (first | refine blk_drewN ?_ _ | refine blk_drew ?_ | refine blk_alloc ?_ _));exact BK681.out⟩,⟨by (with_reducible repeat (first | refine blk_drewN ?_ _ | refine blk_drew ?_ | refine blk_alloc ?_ _));refine blk_far ?_ NB682_696.out _;(with_reducible repeat (first | refine blk_drewN ?_ _ | refine blk_drew ?_ | refine blk_alloc ?_ _));refine blk_far ?_ NB682_696.out _;(with_reducible repeat (first | refine blk_drewN ?_ _ | refine blk_drew ?_ | refine blk_alloc ?_ _));exact BK682.out⟩,⟨by (with_reducible repeat (first | refine blk_drewN ?_ _ | refine blk_drew ?_ | refine blk_alloc ?_ _));refine blk_far ?_ NB690_696.out _;(with_reducible repeat (first | refine blk_drewN ?_ _ | refine blk_drew ?_ | refine blk_alloc ?_ _));refine blk_far ?_ NB690_696.out _;(with_reducible repeat (first | refine blk_drewN ?_ _ | refine blk_drew ?_ | refine blk_alloc ?_ _));exact BK690.out⟩,⟨by (with_reducible repeat (first | refine blk_drewN ?_ _ | refine blk_drew ?_ | refine blk_alloc ?_ _));refine blk_put (cs:=#[.int .i64 t700,.int .i64 x697001_1]) ?_ 1 _ rfl;(with_reducible repeat (first | refine blk_drewN ?_ _ | refine blk_drew ?_ | refine blk_alloc ?_ _));refine blk_put (cs:=#[.int .i64 x697000_1,.int .i64 x697001_1]) ?_ 0 _ rfl;(with_reducible repeat (first | refine blk_drewN ?_ _ | refine blk_drew ?_ | refine blk_alloc ?_ _));exact BK696.out⟩,⟨by repeat (first | (with_reducible first | exact HI0.out | apply IsS123.alloc | apply IsS123.drewN | apply IsS123.drew | apply IsS123.set_1 | refine IsS123.far ?_ NB0_681.out _ | refine IsS123.far ?_ NB0_682.out _ | refine IsS123.far ?_ NB0_690.out _ | refine IsS123.far ?_ NB0_696.out _) | exact HI0.out)⟩,⟨by repeat (first | (with_reducible first | exact HK.out | apply KeepBut.set_ | apply keep_drewN | apply keep_drew | apply keep_alloc | refine keep_far ?_ GW681.out _ | refine keep_far ?_ GW682.out _ | refine keep_far ?_ GW690.out _ | refine keep_far ?_ GW696.out _) | exact HK.out)⟩,⟨by repeat (first | (with_reducible first | exact HB.out | apply below_alloc | apply pw_below_drewN | apply below_drew1 | refine below_set ?_ (IsS123.ge HI0.out) | refine below_set ?_ GE681.out | refine below_set ?_ GE682.out | refine below_set ?_ GE690.out | refine below_set ?_ GE696.out) | exact HB.out)⟩⟩
    ·
     rw [if_neg c25] at H;have c25b0:decide (0<t697)=false:=decide_eq_false c25;clear c25;simp only [Option.some.injEq,Prod.mk.injEq] at H;obtain⟨rfl,rfl,rfl,rfl,rfl,rfl⟩:=H
     try go_wp2_with (first | (go_at_call 74;(with_reducible refine (spec_l6Rd_pick.calls k1 g s0_0 x1001_1 20 t697 t698 w0 _ hI_ hBs_ A24.out).mono ?_);rintro e w58 ⟨rfl,hi,hb,hk⟩;replace HO_691000:=a0_ (Kd.R_mono (Kd.R_keep (IsS123.apart (show IsS123 w0 _ g s0_0 x1001_1 from hI_) (uR_ HO_691000) (by decide)) hk (fun _ h=>h.2)) (fun _ h=>h.1));replace HO_691001:=a0_ (Kd.N_mono (Kd.N_keep (Kd.N_mono (ok:=fun k_=>(((w.heap.size≤k_))∧(some k_≠(.slice Ao9 t683.length co9:Value).ownBlock∧(k_≠gb681∧(k_≠gb682∧(k_≠gb690∧(k_≠gb696∧k_≠g))))))) (uN_ HO_691001) (fun k_ hk_=>(⟨hk_,hk_.2.2.2.2.2.2⟩:_∧k_≠g))) hk (fun _ h=>h.2)) (fun _ h=>h.1));replace BK681:=a0_ (KeepBut.blk hk (g':=gb681) (o:=.cells #[.slice none 0 0,.slice none 0 0] 26 (0,0)) uq_ NB681_0.out (by simp));replace BK682:=a0_ (KeepBut.blk hk (g':=gb682) (o:=.cells #[.int .i64 0,.int .i64 0] 28 (0,0)) uq_ NB682_0.out (by simp));replace BK690:=a0_ (KeepBut.blk hk (g':=gb690) (o:=.cells #[.slice Ao9 t683.length co9,.slice Ao14 t686.length co14] 26 (0,0)) uq_ NB690_0.out (by simp));replace BK696:=a0_ (KeepBut.blk hk (g':=gb696) (o:=.cells #[.int .i64 x697000_1,.int .i64 x697001_1] 28 (0,0)) uq_ NB696_0.out (by simp));replace HK:=kk_ HK hk;replace HB:=a0_ (hb);replace HI0:=a0_ (hi);(try clear hi hb hk)))
     replace HO_691000:=a0_ (Kd.R_drew HO_691000.out);replace HO_691001:=a0_ (Kd.N_drew HO_691001.out);replace BK681:=a0_ (blk_drew BK681.out);replace BK682:=a0_ (blk_drew BK682.out);replace BK690:=a0_ (blk_drew BK690.out);replace BK696:=a0_ (blk_drew BK696.out);replace HI0:=a0_ (IsS123.drew HI0.out);replace HK:=a0_ (keep_drew HK.out);replace HB:=a0_ (below_drew1 HB.out);refine start_ (n:=6) (S:=fun w'=>w'.cell? ⟨gb690,0,none⟩=some (.slice Ao9 t683.length co9)∧w'.cell? ⟨gb690,1,none⟩=some (.slice Ao14 t686.length co14)∧w'.cell? ⟨gb696,0,none⟩=some (.int .i64 x697000_1)∧w'.cell? ⟨gb696,1,none⟩=some (.int .i64 x697001_1)) (ds:=[]) (Array.replicate 6 false) (by kernel_rfl) rfl rfl ⟨bc_,bc_,bc_,bc_⟩ (fun hHeld=>?_);generalize w58.drew=w59 at HO_691000 HO_691001 BK681 BK682 BK690 BK696 HI0 HK HB hHeld ⊢
     refine pv_ 1 34 (bm 6 2) ?_;refine tb4_ 0 33 (bm 6 3) hHeld ?_;refine tb4_ 2 35 (bm 6 7) hHeld ?_;refine one_ (i:=3) (N:=none) (bm 6 15) rfl rfl (by kernel_rfl) (by decide) (fun K hK=>?_);have hs60:w59.cell? ⟨gb681,0,none⟩=some (.slice none 0 0):=bc_;have hfs60:=blk_frozen BK681.out 0;have hns60_1:=NB682_681.out;have hns60_2:=NB690_681.out;have hns60_3:=NB696_681.out;have hms60_1:=NB681_682.out;have hms60_2:=NB681_690.out;have hms60_3:=NB681_696.out;have hs61:w59.cell? ⟨gb681,1,none⟩=some (.slice none 0 0):=bc_;have hfs61:=blk_frozen BK681.out 1;have hns61_1:=NB682_681.out;have hns61_2:=NB690_681.out;have hns61_3:=NB696_681.out;have hms61_1:=NB681_682.out;have hms61_2:=NB681_690.out;have hms61_3:=NB681_696.out;refine skip_ (w1:=?_) (by rfl) rfl ?_ ?_;rotate_left
     ·
      go_simp;rfl
     refine hK.out _ _ ⟨((cell_far (p:=⟨gb681,_,none⟩) NB690_681.out _).trans (((cell_far (p:=⟨gb681,_,none⟩) NB690_681.out _).trans (hHeld.1)))),((cell_far (p:=⟨gb681,_,none⟩) NB690_681.out _).trans (((cell_far (p:=⟨gb681,_,none⟩) NB690_681.out _).trans (hHeld.2.1)))),((cell_far (p:=⟨gb681,_,none⟩) NB696_681.out _).trans (((cell_far (p:=⟨gb681,_,none⟩) NB696_681.out _).trans (hHeld.2.2.1)))),((cell_far (p:=⟨gb681,_,none⟩) NB696_681.out _).trans (((cell_far (p:=⟨gb681,_,none⟩) NB696_681.out _).trans (hHeld.2.2.2))))⟩ (fun hHeld=>?_);clear hK K;refine pv_ 4 3 (bm 6 31) ?_;refine one_ (i:=5) (N:=none) (bm 6 63) rfl rfl (by kernel_rfl) (by decide) (fun K hK=>?_);have hs62:w59.cell? ⟨gb682,0,none⟩=some (.int .i64 0):=bc_;have hfs62:=blk_frozen BK682.out 0;have hns62_0:=NB681_682.out;have hns62_2:=NB690_682.out;have hns62_3:=NB696_682.out;have hms62_0:=NB682_681.out;have hms62_2:=NB682_690.out;have hms62_3:=NB682_696.out;have hs63:w59.cell? ⟨gb682,1,none⟩=some (.int .i64 0):=bc_;have hfs63:=blk_frozen BK682.out 1;have hns63_0:=NB681_682.out;have hns63_2:=NB690_682.out;have hns63_3:=NB696_682.out;have hms63_0:=NB682_681.out;have hms63_2:=NB682_690.out;have hms63_3:=NB682_696.out;refine skip_ (w1:=?_) (by rfl) rfl ?_ ?_;rotate_left
     ·
      go_simp;rfl
     refine hK.out _ _ ⟨((cell_far (p:=⟨gb682,_,none⟩) NB690_682.out _).trans (((cell_far (p:=⟨gb682,_,none⟩) NB690_682.out _).trans (hHeld.1)))),((cell_far (p:=⟨gb682,_,none⟩) NB690_682.out _).trans (((cell_far (p:=⟨gb682,_,none⟩) NB690_682.out _).trans (hHeld.2.1)))),((cell_far (p:=⟨gb682,_,none⟩) NB696_682.out _).trans (((cell_far (p:=⟨gb682,_,none⟩) NB696_682.out _).trans (hHeld.2.2.1)))),((cell_far (p:=⟨gb682,_,none⟩) NB696_682.out _).trans (((cell_far (p:=⟨gb682,_,none⟩) NB696_682.out _).trans (hHeld.2.2.2))))⟩ (fun hHeld=>?_);clear hK K;refine done_ (by kernel_rfl) ?_
     try go_wp2
     refine bodyPost_ret (results_list (rs:=[.cell 2 26,.tmp 3,.cell 4 28]) rfl (by simp) (.cell gb681 26 #[.slice Ao9 t683.length co9,.slice Ao14 t686.length co14] (0,0) _ rfl (by (with_reducible repeat (first | refine blk_drewN ?_ _ | refine blk_drew ?_ | refine blk_alloc ?_ _));refine blk_far ?_ NB681_682.out _;(with_reducible repeat (first | refine blk_drewN ?_ _ | refine blk_drew ?_ | refine blk_alloc ?_ _));refine blk_far ?_ NB681_682.out _;(with_reducible repeat (first | refine blk_drewN ?_ _ | refine blk_drew ?_ | refine blk_alloc ?_ _));refine blk_put (cs:=#[.slice Ao9 t683.length co9,.slice none 0 0]) ?_ 1 _ rfl;(with_reducible repeat (first | refine blk_drewN ?_ _ | refine blk_drew ?_ | refine blk_alloc ?_ _));refine blk_put (cs:=#[.slice none 0 0,.slice none 0 0]) ?_ 0 _ rfl;(with_reducible repeat (first | refine blk_drewN ?_ _ | refine blk_drew ?_ | refine blk_alloc ?_ _));exact BK681.out) Tryd.underlying26 rfl (by kernel_rfl) (.tmp (.cell gb682 28 #[.int .i64 x697000_1,.int .i64 x697001_1] (0,0) _ rfl (by (with_reducible repeat (first | refine blk_drewN ?_ _ | refine blk_drew ?_ | refine blk_alloc ?_ _));refine blk_put (cs:=#[.int .i64 x697000_1,.int .i64 0]) ?_ 1 _ rfl;(with_reducible repeat (first | refine blk_drewN ?_ _ | refine blk_drew ?_ | refine blk_alloc ?_ _));refine blk_put (cs:=#[.int .i64 0,.int .i64 0]) ?_ 0 _ rfl;(with_reducible repeat (first | refine blk_drewN ?_ _ | refine blk_drew ?_ | refine blk_alloc ?_ _));refine blk_far ?_ NB682_681.out _;(with_reducible repeat (first | refine blk_drewN ?_ _ | refine blk_drew ?_ | refine blk_alloc ?_ _));refine blk_far ?_ NB682_681.out _;(with_reducible repeat (first | refine blk_drewN ?_ _ | refine blk_drew ?_ | refine blk_alloc ?_ _));exact BK682.out) Tryd.underlying28 rfl (by kernel_rfl) .nil)))) rfl ?_
     exact⟨_,_,rr_,by (with_reducible repeat (first | apply Kd.R_alloc | apply Kd.R_drewN | apply Kd.R_drew));exact Kd.R_mono (Kd.R_far (p:=⟨gb682,1,none⟩) (Kd.R_far (p:=⟨gb682,0,none⟩) (Kd.R_far (p:=⟨gb681,1,none⟩) (Kd.R_far (p:=⟨gb681,0,none⟩) (Kd.R_mono (Kd.R_types HO_691000.out BK681.out (by decide)) (fun k_ hk=>(⟨hk,hk.1.2.1⟩:_∧k_≠gb682))) (fun _ hk=>hk.1.2) (.slice Ao9 t683.length co9)) (fun _ hk=>hk.1.2) (.slice Ao14 t686.length co14)) (fun _ hk=>hk.2) (.int .i64 x697000_1)) (fun _ hk=>hk.2) (.int .i64 x697001_1)) (fun _ hk=>hk.1.1.1),by (with_reducible repeat (first | apply Kd.N_alloc | apply Kd.N_drewN | apply Kd.N_drew));exact Kd.N_mono (Kd.N_far (p:=⟨gb682,1,none⟩) (Kd.N_far (p:=⟨gb682,0,none⟩) (Kd.N_far (p:=⟨gb681,1,none⟩) (Kd.N_far (p:=⟨gb681,0,none⟩) (Kd.N_mono (Kd.N_mono HO_691001.out (fun k_ hk=>(⟨hk,hk.2.2.1⟩:_∧k_≠gb681))) (fun k_ hk=>(⟨hk,hk.1.2.2.2.1⟩:_∧k_≠gb682))) (fun _ hk=>hk.1.2) (.slice Ao9 t683.length co9)) (fun _ hk=>hk.1.2) (.slice Ao14 t686.length co14)) (fun _ hk=>hk.2) (.int .i64 x697000_1)) (fun _ hk=>hk.2) (.int .i64 x697001_1)) (fun _ hk=>⟨hk.1.1.1,hk.1.1.2.1⟩),by repeat (first | (with_reducible first | exact HI0.out | apply IsS123.alloc | apply IsS123.drewN | apply IsS123.drew | apply IsS123.set_1 | refine IsS123.far ?_ NB0_681.out _ | refine IsS123.far ?_ NB0_682.out _ | refine IsS123.far ?_ NB0_690.out _ | refine IsS123.far ?_ NB0_696.out _) | exact HI0.out),by repeat (first | (with_reducible first | exact HB.out | apply below_alloc | apply pw_below_drewN | apply below_drew1 | refine below_set ?_ (IsS123.ge HI0.out) | refine below_set ?_ GE681.out | refine below_set ?_ GE682.out | refine below_set ?_ GE690.out | refine below_set ?_ GE696.out) | exact HB.out),by repeat (first | (with_reducible first | exact HK.out | apply KeepBut.set_ | apply keep_drewN | apply keep_drew | apply keep_alloc | refine keep_far ?_ GW681.out _ | refine keep_far ?_ GW682.out _ | refine keep_far ?_ GW690.out _ | refine keep_far ?_ GW696.out _) | exact HK.out)⟩
   ·
    rw [if_neg c23] at H;have c23b0:decide (x8_1<30)=false:=decide_eq_false c23;clear c23;simp only [Option.some.injEq,Prod.mk.injEq] at H;obtain⟨rfl,rfl,rfl,rfl,rfl,rfl⟩:=H
    try go_wp2
    replace HO_691000:=a0_ (Kd.R_drew HO_691000.out);replace HO_691001:=a0_ (Kd.N_drew HO_691001.out);replace BK681:=a0_ (blk_drew BK681.out);replace BK682:=a0_ (blk_drew BK682.out);replace BK690:=a0_ (blk_drew BK690.out);replace BK696:=a0_ (blk_drew BK696.out);replace HI0:=a0_ (IsS123.drew HI0.out);replace HK:=a0_ (keep_drew HK.out);replace HB:=a0_ (below_drew1 HB.out);refine start_ (n:=6) (S:=fun w'=>w'.cell? ⟨gb690,0,none⟩=some (.slice Ao9 t683.length co9)∧w'.cell? ⟨gb690,1,none⟩=some (.slice Ao14 t686.length co14)∧w'.cell? ⟨gb696,0,none⟩=some (.int .i64 x697000_1)∧w'.cell? ⟨gb696,1,none⟩=some (.int .i64 x697001_1)) (ds:=[]) (Array.replicate 6 false) (by kernel_rfl) rfl rfl ⟨bc_,bc_,bc_,bc_⟩ (fun hHeld=>?_);generalize wr.drew=w64 at HO_691000 HO_691001 BK681 BK682 BK690 BK696 HI0 HK HB hHeld ⊢
    refine pv_ 1 34 (bm 6 2) ?_;refine tb4_ 0 33 (bm 6 3) hHeld ?_;refine tb4_ 2 35 (bm 6 7) hHeld ?_;refine one_ (i:=3) (N:=none) (bm 6 15) rfl rfl (by kernel_rfl) (by decide) (fun K hK=>?_);have hs65:w64.cell? ⟨gb681,0,none⟩=some (.slice none 0 0):=bc_;have hfs65:=blk_frozen BK681.out 0;have hns65_1:=NB682_681.out;have hns65_2:=NB690_681.out;have hns65_3:=NB696_681.out;have hms65_1:=NB681_682.out;have hms65_2:=NB681_690.out;have hms65_3:=NB681_696.out;have hs66:w64.cell? ⟨gb681,1,none⟩=some (.slice none 0 0):=bc_;have hfs66:=blk_frozen BK681.out 1;have hns66_1:=NB682_681.out;have hns66_2:=NB690_681.out;have hns66_3:=NB696_681.out;have hms66_1:=NB681_682.out;have hms66_2:=NB681_690.out;have hms66_3:=NB681_696.out;refine skip_ (w1:=?_) (by rfl) rfl ?_ ?_;rotate_left
    ·
     go_simp;rfl
    refine hK.out _ _ ⟨((cell_far (p:=⟨gb681,_,none⟩) NB690_681.out _).trans (((cell_far (p:=⟨gb681,_,none⟩) NB690_681.out _).trans (hHeld.1)))),((cell_far (p:=⟨gb681,_,none⟩) NB690_681.out _).trans (((cell_far (p:=⟨gb681,_,none⟩) NB690_681.out _).trans (hHeld.2.1)))),((cell_far (p:=⟨gb681,_,none⟩) NB696_681.out _).trans (((cell_far (p:=⟨gb681,_,none⟩) NB696_681.out _).trans (hHeld.2.2.1)))),((cell_far (p:=⟨gb681,_,none⟩) NB696_681.out _).trans (((cell_far (p:=⟨gb681,_,none⟩) NB696_681.out _).trans (hHeld.2.2.2))))⟩ (fun hHeld=>?_);clear hK K;refine pv_ 4 3 (bm 6 31) ?_;refine one_ (i:=5) (N:=none) (bm 6 63) rfl rfl (by kernel_rfl) (by decide) (fun K hK=>?_);have hs67:w64.cell? ⟨gb682,0,none⟩=some (.int .i64 0):=bc_;have hfs67:=blk_frozen BK682.out 0;have hns67_0:=NB681_682.out;have hns67_2:=NB690_682.out;have hns67_3:=NB696_682.out;have hms67_0:=NB682_681.out;have hms67_2:=NB682_690.out;have hms67_3:=NB682_696.out;have hs68:w64.cell? ⟨gb682,1,none⟩=some (.int .i64 0):=bc_;have hfs68:=blk_frozen BK682.out 1;have hns68_0:=NB681_682.out;have hns68_2:=NB690_682.out;have hns68_3:=NB696_682.out;have hms68_0:=NB682_681.out;have hms68_2:=NB682_690.out;have hms68_3:=NB682_696.out;refine skip_ (w1:=?_) (by rfl) rfl ?_ ?_;rotate_left
    ·
     go_simp;rfl
    refine hK.out _ _ ⟨((cell_far (p:=⟨gb682,_,none⟩) NB690_682.out _).trans (((cell_far (p:=⟨gb682,_,none⟩) NB690_682.out _).trans (hHeld.1)))),((cell_far (p:=⟨gb682,_,none⟩) NB690_682.out _).trans (((cell_far (p:=⟨gb682,_,none⟩) NB690_682.out _).trans (hHeld.2.1)))),((cell_far (p:=⟨gb682,_,none⟩) NB696_682.out _).trans (((cell_far (p:=⟨gb682,_,none⟩) NB696_682.out _).trans (hHeld.2.2.1)))),((cell_far (p:=⟨gb682,_,none⟩) NB696_682.out _).trans (((cell_far (p:=⟨gb682,_,none⟩) NB696_682.out _).trans (hHeld.2.2.2))))⟩ (fun hHeld=>?_);clear hK K;refine done_ (by kernel_rfl) ?_
    try go_wp2
    refine bodyPost_ret (results_list (rs:=[.cell 2 26,.tmp 3,.cell 4 28]) rfl (by simp) (.cell gb681 26 #[.slice Ao9 t683.length co9,.slice Ao14 t686.length co14] (0,0) _ rfl (by (with_reducible repeat (first | refine blk_drewN ?_ _ | refine blk_drew ?_ | refine blk_alloc ?_ _));refine blk_far ?_ NB681_682.out _;(with_reducible repeat (first | refine blk_drewN ?_ _ | refine blk_drew ?_ | refine blk_alloc ?_ _));refine blk_far ?_ NB681_682.out _;(with_reducible repeat (first | refine blk_drewN ?_ _ | refine blk_drew ?_ | refine blk_alloc ?_ _));refine blk_put (cs:=#[.slice Ao9 t683.length co9,.slice none 0 0]) ?_ 1 _ rfl;(with_reducible repeat (first | refine blk_drewN ?_ _ | refine blk_drew ?_ | refine blk_alloc ?_ _));refine blk_put (cs:=#[.slice none 0 0,.slice none 0 0]) ?_ 0 _ rfl;(with_reducible repeat (first | refine blk_drewN ?_ _ | refine blk_drew ?_ | refine blk_alloc ?_ _));exact BK681.out) Tryd.underlying26 rfl (by kernel_rfl) (.tmp (.cell gb682 28 #[.int .i64 x697000_1,.int .i64 x697001_1] (0,0) _ rfl (by (with_reducible repeat (first | refine blk_drewN ?_ _ | refine blk_drew ?_ | refine blk_alloc ?_ _));refine blk_put (cs:=#[.int .i64 x697000_1,.int .i64 0]) ?_ 1 _ rfl;(with_reducible repeat (first | refine blk_drewN ?_ _ | refine blk_drew ?_ | refine blk_alloc ?_ _));refine blk_put (cs:=#[.int .i64 0,.int .i64 0]) ?_ 0 _ rfl;(with_reducible repeat (first | refine blk_drewN ?_ _ | refine blk_drew ?_ | refine blk_alloc ?_ _));refine blk_far ?_ NB682_681.out _;(with_reducible repeat (first | refine blk_drewN ?_ _ | refine blk_drew ?_ | refine blk_alloc ?_ _));refine blk_far ?_ NB682_681.out _;(with_reducible repeat (first | refine blk_drewN ?_ _ | refine blk_drew ?_ | refine blk_alloc ?_ _));exact BK682.out) Tryd.underlying28 rfl (by kernel_rfl) .nil)))) rfl ?_
    exact⟨_,_,rr_,by (with_reducible repeat (first | apply Kd.R_alloc | apply Kd.R_drewN | apply Kd.R_drew));exact Kd.R_mono (Kd.R_far (p:=⟨gb682,1,none⟩) (Kd.R_far (p:=⟨gb682,0,none⟩) (Kd.R_far (p:=⟨gb681,1,none⟩) (Kd.R_far (p:=⟨gb681,0,none⟩) (Kd.R_mono (Kd.R_types HO_691000.out BK681.out (by decide)) (fun k_ hk=>(⟨hk,hk.1.2.1⟩:_∧k_≠gb682))) (fun _ hk=>hk.1.2) (.slice Ao9 t683.length co9)) (fun _ hk=>hk.1.2) (.slice Ao14 t686.length co14)) (fun _ hk=>hk.2) (.int .i64 x697000_1)) (fun _ hk=>hk.2) (.int .i64 x697001_1)) (fun _ hk=>hk.1.1.1),by (with_reducible repeat (first | apply Kd.N_alloc | apply Kd.N_drewN | apply Kd.N_drew));exact Kd.N_mono (Kd.N_far (p:=⟨gb682,1,none⟩) (Kd.N_far (p:=⟨gb682,0,none⟩) (Kd.N_far (p:=⟨gb681,1,none⟩) (Kd.N_far (p:=⟨gb681,0,none⟩) (Kd.N_mono (Kd.N_mono HO_691001.out (fun k_ hk=>(⟨hk,hk.2.2.1⟩:_∧k_≠gb681))) (fun k_ hk=>(⟨hk,hk.1.2.2.2.1⟩:_∧k_≠gb682))) (fun _ hk=>hk.1.2) (.slice Ao9 t683.length co9)) (fun _ hk=>hk.1.2) (.slice Ao14 t686.length co14)) (fun _ hk=>hk.2) (.int .i64 x697000_1)) (fun _ hk=>hk.2) (.int .i64 x697001_1)) (fun _ hk=>⟨hk.1.1.1,hk.1.1.2.1⟩),by repeat (first | (with_reducible first | exact HI0.out | apply IsS123.alloc | apply IsS123.drewN | apply IsS123.drew | apply IsS123.set_1 | refine IsS123.far ?_ NB0_681.out _ | refine IsS123.far ?_ NB0_682.out _ | refine IsS123.far ?_ NB0_690.out _ | refine IsS123.far ?_ NB0_696.out _) | exact HI0.out),by repeat (first | (with_reducible first | exact HB.out | apply below_alloc | apply pw_below_drewN | apply below_drew1 | refine below_set ?_ (IsS123.ge HI0.out) | refine below_set ?_ GE681.out | refine below_set ?_ GE682.out | refine below_set ?_ GE690.out | refine below_set ?_ GE696.out) | exact HB.out),by repeat (first | (with_reducible first | exact HK.out | apply KeepBut.set_ | apply keep_drewN | apply keep_drew | apply keep_alloc | refine keep_far ?_ GW681.out _ | refine keep_far ?_ GW682.out _ | refine keep_far ?_ GW690.out _ | refine keep_far ?_ GW696.out _) | exact HK.out)⟩
def spec_DrawToolFits.f (k:Nat)(l0:List Int):Option ((List (S28)) × (List (List (S28))) × Int × Int × Int):=(spec_l6Open.f l0).bind fun bt705=>((spec_l6Rd_pick.f k bt705.1 bt705.2 5).bind fun bt708=>(if bt708.1=0 then ((spec_l71Plate.f k bt705.1 bt708.2).bind fun bt710=>((spec_l71Tool.f k bt705.1 bt710.2.2).bind fun bt717=>((spec_l71Pt.f k bt705.1 bt717.2).bind fun bt719=>(some (bt710.1,bt710.2.1,bt717.1,bt719.1,bt719.2.1))))) else ((spec_l71Stand.f k bt705.1 bt708.2).bind fun bt722=>(some (bt722.1,bt722.2.1,bt722.2.2.1,bt722.2.2.2.1,bt722.2.2.2.2.1)))))
set_option maxHeartbeats 8000000 in
set_option maxRecDepth 100000 in
theorem spec_DrawToolFits.calls (k:Nat)(A0:Option Addr)(c0:Nat)(l0:List Int)(r1:List (S28))(r2:List (List (S28)))(r3:Int)(r4:Int)(r5:Int)(w:World)(hr0:Kd.C (Kd.int .u8) w A0 l0.length l0)(hc0:l0.length≤c0)(h:spec_DrawToolFits.f k l0=some (r1,r2,r3,r4,r5)):
  Calls Tryd.prog 33 #[.slice A0 l0.length c0] w fun e w'=>∃ v0_ v1_:Value,e=.returned (.tuple #[.agg #[v0_,v1_],.int .i64 r3,.agg #[.int .i64 r4,.int .i64 r5]])∧Kd.R k28 28 w' w.heap.size (fun k_=>(w.heap.size≤k_)) v0_ r1∧Kd.N (Kd.slice 28 k28) 23 w' w.heap.size (fun k_=>(w.heap.size≤k_)∧some k_≠(v0_:Value).ownBlock) v1_ r2∧Below w.heap.size w w':=by
 have hu26:=Tryd.underlying26;have hu28:=Tryd.underlying28;have HR0:=Aside0.mk hr0;have HC0:=Aside0.mk hc0;clear hr0 hc0;have HB:=a0_ (Below.refl w.heap.size w);have H:((spec_l6Open.f l0).bind fun bt705=>((spec_l6Rd_pick.f k bt705.1 bt705.2 5).bind fun bt708=>(if bt708.1=0 then ((spec_l71Plate.f k bt705.1 bt708.2).bind fun bt710=>((spec_l71Tool.f k bt705.1 bt710.2.2).bind fun bt717=>((spec_l71Pt.f k bt705.1 bt717.2).bind fun bt719=>(some (bt710.1,bt710.2.1,bt717.1,bt719.1,bt719.2.1))))) else ((spec_l71Stand.f k bt705.1 bt708.2).bind fun bt722=>(some (bt722.1,bt722.2.1,bt722.2.2.1,bt722.2.2.2.1,bt722.2.2.2.2.1))))))=some (r1,r2,r3,r4,r5):=h;clear h;replace H:=Option.bind_eq_some_iff.mp H;obtain⟨⟨t705,t706⟩,A20,H⟩:=H
 (try dsimp only at H)
 have A2:=Aside0.mk A20;clear A20;replace H:=Option.bind_eq_some_iff.mp H;obtain⟨⟨t708,t709⟩,A30,H⟩:=H
 (try dsimp only at H)
 have A3:=Aside0.mk A30;clear A30;by_cases c4:t708=0
 ·
  rw [if_pos c4] at H;have c4b0:(t708==0)=true:=beq_iff_eq.mpr c4;have c4b1:(t708 != 0)=false:=bne_eq_false_iff_eq.mpr c4;clear c4;replace H:=Option.bind_eq_some_iff.mp H;obtain⟨⟨t710,t713,t716⟩,A50,H⟩:=H
  (try dsimp only at H)
  have A5:=Aside0.mk A50;clear A50;replace H:=Option.bind_eq_some_iff.mp H;obtain⟨⟨t717,t718⟩,A60,H⟩:=H
  (try dsimp only at H)
  have A6:=Aside0.mk A60;clear A60;replace H:=Option.bind_eq_some_iff.mp H;obtain⟨⟨t719,t720,t721⟩,A70,H⟩:=H
  (try dsimp only at H)
  have A7:=Aside0.mk A70;clear A70;simp only [Option.some.injEq,Prod.mk.injEq] at H;obtain⟨rfl,rfl,rfl,rfl,rfl⟩:=H;go_enter Tryd.func33,Tryd.ntmps33
  go_wp2_with (first | ((with_reducible refine gate_dst (N:=2) rfl ?_);refine bx_ (N:=2) (cs:=#[.slice none 0 0,.slice none 0 0]) (t:=26) (h:=?_);intro gb703 hg w8 hbox hb;have BK703:=a0_ (hbox);have GW703:=a0_ ((by rw [hg];exact (below_size hBs_):w.heap.size≤gb703));have GE703:=a0_ ((by rw [hg];exact (below_size hBs_):w.heap.size≤gb703));replace HB:=a0_ (below_step hBs_ hb);clear hb hbox hg) | ((with_reducible refine gate_dst (N:=4) rfl ?_);refine bx_ (N:=4) (cs:=#[.int .i64 0,.int .i64 0]) (t:=28) (h:=?_);intro gb704 hg w9 hbox hb;have BK704:=a0_ (hbox);have GW704:=a0_ ((by rw [hg];exact (below_size hBs_):w.heap.size≤gb704));have GE704:=a0_ ((by rw [hg];exact (below_size hBs_):w.heap.size≤gb704));have NB703_704:=nl_ BK703 hg;have NB704_703:=nr_ BK703 hg;replace BK703:=vb_ BK703 hb;replace HB:=a0_ (below_step hBs_ hb);clear hb hbox hg) | ((with_reducible refine gate_callee (f:=49) rfl ?_);refine gL_ (some 7) Tryd.func49 #[.slice A0 l0.length c0] (h:=?_);(with_reducible refine (spec_l6Open.calls _ _ l0 t705 t706 w _ hBs_ HR0.out HC0.out A2.out).mono ?_);rintro e w10 ⟨g707,rfl,hi,hb,hb2⟩;refine⟨_,rfl,?_⟩;have HI707:=a0_ (hi);have NB707_703:=a0_ (IsS123.ne_blk hi (blk_below (g:=gb703) (o:=.cells #[.slice none 0 0,.slice none 0 0] 26 (0,0)) uq_ hb2) (by decide));have NB703_707:=a0_ (Ne.symm (IsS123.ne_blk hi (blk_below (g:=gb703) (o:=.cells #[.slice none 0 0,.slice none 0 0] 26 (0,0)) uq_ hb2) (by decide)));have NB707_704:=a0_ (IsS123.ne_blk hi (blk_below (g:=gb704) (o:=.cells #[.int .i64 0,.int .i64 0] 28 (0,0)) uq_ hb2) (by decide));have NB704_707:=a0_ (Ne.symm (IsS123.ne_blk hi (blk_below (g:=gb704) (o:=.cells #[.int .i64 0,.int .i64 0] 28 (0,0)) uq_ hb2) (by decide)));replace BK703:=a0_ (blk_below (g:=gb703) (o:=.cells #[.slice none 0 0,.slice none 0 0] 26 (0,0)) uq_ hb2);replace BK704:=a0_ (blk_below (g:=gb704) (o:=.cells #[.int .i64 0,.int .i64 0] 28 (0,0)) uq_ hb2);replace HB:=a0_ (hb);(try clear hi hb hb2)) | ((with_reducible refine gate_callee (f:=74) rfl ?_);refine gL_ (some 9) Tryd.func74 #[.pointer (some ⟨g707,0,none⟩),.int .i64 5] (h:=?_);(with_reducible refine (spec_l6Rd_pick.calls k g707 t705 t706 5 t708 t709 w _ ?side1 ?side2 A3.out).mono ?_);(case side1=>repeat (first | (with_reducible first | exact HI707.out | apply IsS123.alloc | apply IsS123.drewN | apply IsS123.drew | apply IsS123.set_1 | refine IsS123.far ?_ NB707_703.out _ | refine IsS123.far ?_ NB707_704.out _) | exact HI707.out));(case side2=>exact hBs_);rintro e w11 ⟨rfl,hi,hb,hk⟩;refine⟨_,rfl,?_⟩;replace BK703:=a0_ (KeepBut.blk hk (g':=gb703) (o:=.cells #[.slice none 0 0,.slice none 0 0] 26 (0,0)) uq_ NB703_707.out (by simp));replace BK704:=a0_ (KeepBut.blk hk (g':=gb704) (o:=.cells #[.int .i64 0,.int .i64 0] 28 (0,0)) uq_ NB704_707.out (by simp));replace HB:=a0_ (hb);replace HI707:=a0_ (hi);(try clear hi hb hk)) | ((with_reducible refine gate_callee (f:=50) rfl ?_);refine gL_ (some 12) Tryd.func50 #[.pointer (some ⟨g707,0,none⟩)] (h:=?_);(with_reducible refine (spec_l71Plate.calls k g707 t705 t709 t710 t713 t716 w _ ?side1 ?side2 A5.out).mono ?_);(case side1=>repeat (first | (with_reducible first | exact HI707.out | apply IsS123.alloc | apply IsS123.drewN | apply IsS123.drew | apply IsS123.set_1 | refine IsS123.far ?_ NB707_703.out _ | refine IsS123.far ?_ NB707_704.out _) | exact HI707.out));(case side2=>exact hBs_);rintro e w12 ⟨v711,v714,rfl,ho0,ho1,hi,hb,hk⟩;refine⟨_,rfl,?_⟩;have HO712:=a0_ (Kd.R_lower (Kd.R_newB (Kd.R_newM (M:=fun k_=>(w.heap.size≤k_)) (Kd.R_mono (ok':=fun k_=>True) ho0 (fun _ hk_=>trivial)) (below_size hBs_) (fun k_ h_=>h_)) (g:=gb704) (o:=.cells #[.int .i64 0,.int .i64 0] 28 (0,0)) uq_) (below_size hBs_));have HO715:=a0_ (Kd.N_lower (Kd.N_mono (ok':=fun k_=>(w.heap.size≤k_)∧some k_≠(v711:Value).ownBlock∧k_≠gb703∧k_≠gb704∧k_≠g707) ho1 (fun k_ hk_=>⟨(Nat.le_trans (below_size hBs_) hk_.1),hk_.2,(Kd.freshB (g:=gb703) (o:=.cells #[.slice none 0 0,.slice none 0 0] 26 (0,0)) uq_ k_ hk_.1),(Kd.freshB (g:=gb704) (o:=.cells #[.int .i64 0,.int .i64 0] 28 (0,0)) uq_ k_ hk_.1),(IsS123.fresh (by repeat (first | (with_reducible first | exact HI707.out | apply IsS123.alloc | apply IsS123.drewN | apply IsS123.drew | apply IsS123.set_1 | refine IsS123.far ?_ NB707_703.out _ | refine IsS123.far ?_ NB707_704.out _) | exact HI707.out)) k_ hk_.1)⟩)) (below_size hBs_));replace BK703:=a0_ (KeepBut.blk hk (g':=gb703) (o:=.cells #[.slice none 0 0,.slice none 0 0] 26 (0,0)) uq_ NB703_707.out (by simp));replace BK704:=a0_ (KeepBut.blk hk (g':=gb704) (o:=.cells #[.int .i64 0,.int .i64 0] 28 (0,0)) uq_ NB704_707.out (by simp));replace HB:=a0_ (hb);replace HI707:=a0_ (hi);(try clear ho0 ho1 hi hb hk)) | ((with_reducible refine gate_callee (f:=75) rfl ?_);refine gL_ (some 14) Tryd.func75 #[.pointer (some ⟨g707,0,none⟩)] (h:=?_);(with_reducible refine (spec_l71Tool.calls k g707 t705 t716 t717 t718 w _ ?side1 ?side2 A6.out).mono ?_);(case side1=>repeat (first | (with_reducible first | exact HI707.out | apply IsS123.alloc | apply IsS123.drewN | apply IsS123.drew | apply IsS123.set_1 | refine IsS123.far ?_ NB707_703.out _ | refine IsS123.far ?_ NB707_704.out _) | exact HI707.out));(case side2=>exact hBs_);rintro e w13 ⟨rfl,hi,hb,hk⟩;refine⟨_,rfl,?_⟩;replace BK703:=a0_ (KeepBut.blk hk (g':=gb703) (o:=.cells #[.slice none 0 0,.slice none 0 0] 26 (0,0)) uq_ NB703_707.out (by simp));replace BK704:=a0_ (KeepBut.blk hk (g':=gb704) (o:=.cells #[.int .i64 0,.int .i64 0] 28 (0,0)) uq_ NB704_707.out (by simp));replace HO712:=a0_ (Kd.R_mono (Kd.R_keep (IsS123.apart (show IsS123 w _ g707 t705 t716 from by repeat (first | (with_reducible first | exact HI707.out | apply IsS123.alloc | apply IsS123.drewN | apply IsS123.drew | apply IsS123.set_1 | refine IsS123.far ?_ NB707_703.out _ | refine IsS123.far ?_ NB707_704.out _) | exact HI707.out)) (uR_ HO712) (by decide)) hk (fun _ h=>h.2)) (fun _ h=>h.1));replace HO715:=a0_ (Kd.N_mono (Kd.N_keep (Kd.N_mono (ok:=fun k_=>(((w.heap.size≤k_))∧(some k_≠(v711:Value).ownBlock∧(k_≠gb703∧(k_≠gb704∧k_≠g707))))) (uN_ HO715) (fun k_ hk_=>(⟨hk_,hk_.2.2.2.2⟩:_∧k_≠g707))) hk (fun _ h=>h.2)) (fun _ h=>h.1));replace HB:=a0_ (hb);replace HI707:=a0_ (hi);(try clear hi hb hk)) | ((with_reducible refine gate_callee (f:=51) rfl ?_);refine gL_ (some 16) Tryd.func51 #[.pointer (some ⟨g707,0,none⟩)] (h:=?_);(with_reducible refine (spec_l71Pt.calls k g707 t705 t718 t719 t720 t721 w _ ?side1 ?side2 A7.out).mono ?_);(case side1=>repeat (first | (with_reducible first | exact HI707.out | apply IsS123.alloc | apply IsS123.drewN | apply IsS123.drew | apply IsS123.set_1 | refine IsS123.far ?_ NB707_703.out _ | refine IsS123.far ?_ NB707_704.out _) | exact HI707.out));(case side2=>exact hBs_);rintro e w14 ⟨rfl,hi,hb,hk⟩;refine⟨_,rfl,?_⟩;replace BK703:=a0_ (KeepBut.blk hk (g':=gb703) (o:=.cells #[.slice none 0 0,.slice none 0 0] 26 (0,0)) uq_ NB703_707.out (by simp));replace BK704:=a0_ (KeepBut.blk hk (g':=gb704) (o:=.cells #[.int .i64 0,.int .i64 0] 28 (0,0)) uq_ NB704_707.out (by simp));replace HO712:=a0_ (Kd.R_mono (Kd.R_keep (IsS123.apart (show IsS123 w _ g707 t705 t718 from by repeat (first | (with_reducible first | exact HI707.out | apply IsS123.alloc | apply IsS123.drewN | apply IsS123.drew | apply IsS123.set_1 | refine IsS123.far ?_ NB707_703.out _ | refine IsS123.far ?_ NB707_704.out _) | exact HI707.out)) (uR_ HO712) (by decide)) hk (fun _ h=>h.2)) (fun _ h=>h.1));replace HO715:=a0_ (Kd.N_mono (Kd.N_keep (Kd.N_mono (ok:=fun k_=>(((w.heap.size≤k_))∧(some k_≠(v711:Value).ownBlock∧(k_≠gb703∧(k_≠gb704∧k_≠g707))))) (uN_ HO715) (fun k_ hk_=>(⟨hk_,hk_.2.2.2.2⟩:_∧k_≠g707))) hk (fun _ h=>h.2)) (fun _ h=>h.1));replace HB:=a0_ (hb);replace HI707:=a0_ (hi);(try clear hi hb hk);obtain⟨Ao15,co15,eo15⟩:=Kd.R_slice HO712.out;subst eo15;have hnb16:=NB703_704.out;have hnc16:=NB704_703.out;have hnb17:=NB703_707.out;have hnc17:=NB707_703.out;have hcz18_0:=c20_ BK703;have hcz18_1:=c21_ BK703;have hfz18_0:=fz_ BK703 0;have hfz18_1:=fz_ BK703 1;obtain⟨Ao19,co19,eo19⟩:=Kd.N_slice HO715.out;subst eo19;have hnb20:=NB704_707.out;have hnc20:=NB707_704.out;have hcz21_0:=c20_ BK704;have hcz21_1:=c21_ BK704;have hfz21_0:=fz_ BK704 0;have hfz21_1:=fz_ BK704 1))
  refine bodyPost_ret (results_list (rs:=[.cell 2 26,.tmp 3,.cell 4 28]) rfl (by simp) (.cell gb703 26 #[.slice Ao15 t710.length co15,.slice Ao19 t713.length co19] (0,0) _ rfl (by (with_reducible repeat (first | refine blk_drewN ?_ _ | refine blk_drew ?_ | refine blk_alloc ?_ _));refine blk_far ?_ NB703_704.out _;(with_reducible repeat (first | refine blk_drewN ?_ _ | refine blk_drew ?_ | refine blk_alloc ?_ _));refine blk_far ?_ NB703_704.out _;(with_reducible repeat (first | refine blk_drewN ?_ _ | refine blk_drew ?_ | refine blk_alloc ?_ _));refine blk_put (cs:=#[.slice Ao15 t710.length co15,.slice none 0 0]) ?_ 1 _ rfl;(with_reducible repeat (first | refine blk_drewN ?_ _ | refine blk_drew ?_ | refine blk_alloc ?_ _));refine blk_put (cs:=#[.slice none 0 0,.slice none 0 0]) ?_ 0 _ rfl;(with_reducible repeat (first | refine blk_drewN ?_ _ | refine blk_drew ?_ | refine blk_alloc ?_ _));exact BK703.out) Tryd.underlying26 rfl (by kernel_rfl) (.tmp (.cell gb704 28 #[.int .i64 t719,.int .i64 t720] (0,0) _ rfl (by (with_reducible repeat (first | refine blk_drewN ?_ _ | refine blk_drew ?_ | refine blk_alloc ?_ _));refine blk_put (cs:=#[.int .i64 t719,.int .i64 0]) ?_ 1 _ rfl;(with_reducible repeat (first | refine blk_drewN ?_ _ | refine blk_drew ?_ | refine blk_alloc ?_ _));refine blk_put (cs:=#[.int .i64 0,.int .i64 0]) ?_ 0 _ rfl;(with_reducible repeat (first | refine blk_drewN ?_ _ | refine blk_drew ?_ | refine blk_alloc ?_ _));refine blk_far ?_ NB704_703.out _;(with_reducible repeat (first | refine blk_drewN ?_ _ | refine blk_drew ?_ | refine blk_alloc ?_ _));refine blk_far ?_ NB704_703.out _;(with_reducible repeat (first | refine blk_drewN ?_ _ | refine blk_drew ?_ | refine blk_alloc ?_ _));exact BK704.out) Tryd.underlying28 rfl (by kernel_rfl) .nil)))) rfl ?_
  exact⟨_,_,rr_,by (with_reducible repeat (first | apply Kd.R_alloc | apply Kd.R_drewN | apply Kd.R_drew));exact Kd.R_mono (Kd.R_far (p:=⟨gb704,1,none⟩) (Kd.R_far (p:=⟨gb704,0,none⟩) (Kd.R_far (p:=⟨gb703,1,none⟩) (Kd.R_far (p:=⟨gb703,0,none⟩) (Kd.R_mono (Kd.R_types HO712.out BK703.out (by decide)) (fun k_ hk=>(⟨hk,hk.1.2⟩:_∧k_≠gb704))) (fun _ hk=>hk.1.2) (.slice Ao15 t710.length co15)) (fun _ hk=>hk.1.2) (.slice Ao19 t713.length co19)) (fun _ hk=>hk.2) (.int .i64 t719)) (fun _ hk=>hk.2) (.int .i64 t720)) (fun _ hk=>hk.1.1.1.1),by (with_reducible repeat (first | apply Kd.N_alloc | apply Kd.N_drewN | apply Kd.N_drew));exact Kd.N_mono (Kd.N_far (p:=⟨gb704,1,none⟩) (Kd.N_far (p:=⟨gb704,0,none⟩) (Kd.N_far (p:=⟨gb703,1,none⟩) (Kd.N_far (p:=⟨gb703,0,none⟩) (Kd.N_mono (Kd.N_mono HO715.out (fun k_ hk=>(⟨hk,hk.2.2.1⟩:_∧k_≠gb703))) (fun k_ hk=>(⟨hk,hk.1.2.2.2.1⟩:_∧k_≠gb704))) (fun _ hk=>hk.1.2) (.slice Ao15 t710.length co15)) (fun _ hk=>hk.1.2) (.slice Ao19 t713.length co19)) (fun _ hk=>hk.2) (.int .i64 t719)) (fun _ hk=>hk.2) (.int .i64 t720)) (fun _ hk=>⟨hk.1.1.1,hk.1.1.2.1⟩),by repeat (first | (with_reducible first | exact HB.out | apply below_alloc | apply pw_below_drewN | apply below_drew1 | refine below_set ?_ (IsS123.ge HI707.out) | refine below_set ?_ GE703.out | refine below_set ?_ GE704.out) | exact HB.out)⟩
 ·
  rw [if_neg c4] at H;have c4b0:(t708==0)=false:=beq_eq_false_iff_ne.mpr c4;have c4b1:(t708 != 0)=true:=bne_iff_ne.mpr c4;replace H:=Option.bind_eq_some_iff.mp H;obtain⟨⟨t722,t725,t728,t729,t730,t731⟩,A220,H⟩:=H
  (try dsimp only at H)
  have A22:=Aside0.mk A220;clear A220;simp only [Option.some.injEq,Prod.mk.injEq] at H;obtain⟨rfl,rfl,rfl,rfl,rfl⟩:=H;go_enter Tryd.func33,Tryd.ntmps33
  go_wp2_with (first | ((with_reducible refine gate_dst (N:=2) rfl ?_);refine bx_ (N:=2) (cs:=#[.slice none 0 0,.slice none 0 0]) (t:=26) (h:=?_);intro gb703 hg w23 hbox hb;have BK703:=a0_ (hbox);have GW703:=a0_ ((by rw [hg];exact (below_size hBs_):w.heap.size≤gb703));have GE703:=a0_ ((by rw [hg];exact (below_size hBs_):w.heap.size≤gb703));replace HB:=a0_ (below_step hBs_ hb);clear hb hbox hg) | ((with_reducible refine gate_dst (N:=4) rfl ?_);refine bx_ (N:=4) (cs:=#[.int .i64 0,.int .i64 0]) (t:=28) (h:=?_);intro gb704 hg w24 hbox hb;have BK704:=a0_ (hbox);have GW704:=a0_ ((by rw [hg];exact (below_size hBs_):w.heap.size≤gb704));have GE704:=a0_ ((by rw [hg];exact (below_size hBs_):w.heap.size≤gb704));have NB703_704:=nl_ BK703 hg;have NB704_703:=nr_ BK703 hg;replace BK703:=vb_ BK703 hb;replace HB:=a0_ (below_step hBs_ hb);clear hb hbox hg) | ((with_reducible refine gate_callee (f:=49) rfl ?_);refine gL_ (some 7) Tryd.func49 #[.slice A0 l0.length c0] (h:=?_);(with_reducible refine (spec_l6Open.calls _ _ l0 t705 t706 w _ hBs_ HR0.out HC0.out A2.out).mono ?_);rintro e w25 ⟨g707,rfl,hi,hb,hb2⟩;refine⟨_,rfl,?_⟩;have HI707:=a0_ (hi);have NB707_703:=a0_ (IsS123.ne_blk hi (blk_below (g:=gb703) (o:=.cells #[.slice none 0 0,.slice none 0 0] 26 (0,0)) uq_ hb2) (by decide));have NB703_707:=a0_ (Ne.symm (IsS123.ne_blk hi (blk_below (g:=gb703) (o:=.cells #[.slice none 0 0,.slice none 0 0] 26 (0,0)) uq_ hb2) (by decide)));have NB707_704:=a0_ (IsS123.ne_blk hi (blk_below (g:=gb704) (o:=.cells #[.int .i64 0,.int .i64 0] 28 (0,0)) uq_ hb2) (by decide));have NB704_707:=a0_ (Ne.symm (IsS123.ne_blk hi (blk_below (g:=gb704) (o:=.cells #[.int .i64 0,.int .i64 0] 28 (0,0)) uq_ hb2) (by decide)));replace BK703:=a0_ (blk_below (g:=gb703) (o:=.cells #[.slice none 0 0,.slice none 0 0] 26 (0,0)) uq_ hb2);replace BK704:=a0_ (blk_below (g:=gb704) (o:=.cells #[.int .i64 0,.int .i64 0] 28 (0,0)) uq_ hb2);replace HB:=a0_ (hb);(try clear hi hb hb2)) | ((with_reducible refine gate_callee (f:=74) rfl ?_);refine gL_ (some 9) Tryd.func74 #[.pointer (some ⟨g707,0,none⟩),.int .i64 5] (h:=?_);(with_reducible refine (spec_l6Rd_pick.calls k g707 t705 t706 5 t708 t709 w _ ?side1 ?side2 A3.out).mono ?_);(case side1=>repeat (first | (with_reducible first | exact HI707.out | apply IsS123.alloc | apply IsS123.drewN | apply IsS123.drew | apply IsS123.set_1 | refine IsS123.far ?_ NB707_703.out _ | refine IsS123.far ?_ NB707_704.out _) | exact HI707.out));(case side2=>exact hBs_);rintro e w26 ⟨rfl,hi,hb,hk⟩;refine⟨_,rfl,?_⟩;replace BK703:=a0_ (KeepBut.blk hk (g':=gb703) (o:=.cells #[.slice none 0 0,.slice none 0 0] 26 (0,0)) uq_ NB703_707.out (by simp));replace BK704:=a0_ (KeepBut.blk hk (g':=gb704) (o:=.cells #[.int .i64 0,.int .i64 0] 28 (0,0)) uq_ NB704_707.out (by simp));replace HB:=a0_ (hb);replace HI707:=a0_ (hi);(try clear hi hb hk)) | ((with_reducible refine gate_callee (f:=76) rfl ?_);refine gL_ (some 18) Tryd.func76 #[.pointer (some ⟨g707,0,none⟩)] (h:=?_);(with_reducible refine (spec_l71Stand.calls k g707 t705 t709 t722 t725 t728 t729 t730 t731 w _ ?side1 ?side2 A22.out).mono ?_);(case side1=>repeat (first | (with_reducible first | exact HI707.out | apply IsS123.alloc | apply IsS123.drewN | apply IsS123.drew | apply IsS123.set_1 | refine IsS123.far ?_ NB707_703.out _ | refine IsS123.far ?_ NB707_704.out _) | exact HI707.out));(case side2=>exact hBs_);rintro e w27 ⟨v723,v726,rfl,ho0,ho1,hi,hb,hk⟩;refine⟨_,rfl,?_⟩;have HO724:=a0_ (Kd.R_lower (Kd.R_newB (Kd.R_newM (M:=fun k_=>(w.heap.size≤k_)) (Kd.R_mono (ok':=fun k_=>True) ho0 (fun _ hk_=>trivial)) (below_size hBs_) (fun k_ h_=>h_)) (g:=gb704) (o:=.cells #[.int .i64 0,.int .i64 0] 28 (0,0)) uq_) (below_size hBs_));have HO727:=a0_ (Kd.N_lower (Kd.N_mono (ok':=fun k_=>(w.heap.size≤k_)∧some k_≠(v723:Value).ownBlock∧k_≠gb703∧k_≠gb704∧k_≠g707) ho1 (fun k_ hk_=>⟨(Nat.le_trans (below_size hBs_) hk_.1),hk_.2,(Kd.freshB (g:=gb703) (o:=.cells #[.slice none 0 0,.slice none 0 0] 26 (0,0)) uq_ k_ hk_.1),(Kd.freshB (g:=gb704) (o:=.cells #[.int .i64 0,.int .i64 0] 28 (0,0)) uq_ k_ hk_.1),(IsS123.fresh (by repeat (first | (with_reducible first | exact HI707.out | apply IsS123.alloc | apply IsS123.drewN | apply IsS123.drew | apply IsS123.set_1 | refine IsS123.far ?_ NB707_703.out _ | refine IsS123.far ?_ NB707_704.out _) | exact HI707.out)) k_ hk_.1)⟩)) (below_size hBs_));replace BK703:=a0_ (KeepBut.blk hk (g':=gb703) (o:=.cells #[.slice none 0 0,.slice none 0 0] 26 (0,0)) uq_ NB703_707.out (by simp));replace BK704:=a0_ (KeepBut.blk hk (g':=gb704) (o:=.cells #[.int .i64 0,.int .i64 0] 28 (0,0)) uq_ NB704_707.out (by simp));replace HB:=a0_ (hb);replace HI707:=a0_ (hi);(try clear ho0 ho1 hi hb hk);obtain⟨Ao28,co28,eo28⟩:=Kd.R_slice HO724.out;subst eo28;have hnb29:=NB703_704.out;have hnc29:=NB704_703.out;have hnb30:=NB703_707.out;have hnc30:=NB707_703.out;have hcz31_0:=c20_ BK703;have hcz31_1:=c21_ BK703;have hfz31_0:=fz_ BK703 0;have hfz31_1:=fz_ BK703 1;obtain⟨Ao32,co32,eo32⟩:=Kd.N_slice HO727.out;subst eo32;have hnb33:=NB704_707.out;have hnc33:=NB707_704.out;have hcz34_0:=c20_ BK704;have hcz34_1:=c21_ BK704;have hfz34_0:=fz_ BK704 0;have hfz34_1:=fz_ BK704 1))
  refine bodyPost_ret (results_list (rs:=[.cell 2 26,.tmp 3,.cell 4 28]) rfl (by simp) (.cell gb703 26 #[.slice Ao28 t722.length co28,.slice Ao32 t725.length co32] (0,0) _ rfl (by (with_reducible repeat (first | refine blk_drewN ?_ _ | refine blk_drew ?_ | refine blk_alloc ?_ _));refine blk_far ?_ NB703_704.out _;(with_reducible repeat (first | refine blk_drewN ?_ _ | refine blk_drew ?_ | refine blk_alloc ?_ _));refine blk_far ?_ NB703_704.out _;(with_reducible repeat (first | refine blk_drewN ?_ _ | refine blk_drew ?_ | refine blk_alloc ?_ _));refine blk_put (cs:=#[.slice Ao28 t722.length co28,.slice none 0 0]) ?_ 1 _ rfl;(with_reducible repeat (first | refine blk_drewN ?_ _ | refine blk_drew ?_ | refine blk_alloc ?_ _));refine blk_put (cs:=#[.slice none 0 0,.slice none 0 0]) ?_ 0 _ rfl;(with_reducible repeat (first | refine blk_drewN ?_ _ | refine blk_drew ?_ | refine blk_alloc ?_ _));exact BK703.out) Tryd.underlying26 rfl (by kernel_rfl) (.tmp (.cell gb704 28 #[.int .i64 t729,.int .i64 t730] (0,0) _ rfl (by (with_reducible repeat (first | refine blk_drewN ?_ _ | refine blk_drew ?_ | refine blk_alloc ?_ _));refine blk_put (cs:=#[.int .i64 t729,.int .i64 0]) ?_ 1 _ rfl;(with_reducible repeat (first | refine blk_drewN ?_ _ | refine blk_drew ?_ | refine blk_alloc ?_ _));refine blk_put (cs:=#[.int .i64 0,.int .i64 0]) ?_ 0 _ rfl;(with_reducible repeat (first | refine blk_drewN ?_ _ | refine blk_drew ?_ | refine blk_alloc ?_ _));refine blk_far ?_ NB704_703.out _;(with_reducible repeat (first | refine blk_drewN ?_ _ | refine blk_drew ?_ | refine blk_alloc ?_ _));refine blk_far ?_ NB704_703.out _;(with_reducible repeat (first | refine blk_drewN ?_ _ | refine blk_drew ?_ | refine blk_alloc ?_ _));exact BK704.out) Tryd.underlying28 rfl (by kernel_rfl) .nil)))) rfl ?_
  exact⟨_,_,rr_,by (with_reducible repeat (first | apply Kd.R_alloc | apply Kd.R_drewN | apply Kd.R_drew));exact Kd.R_mono (Kd.R_far (p:=⟨gb704,1,none⟩) (Kd.R_far (p:=⟨gb704,0,none⟩) (Kd.R_far (p:=⟨gb703,1,none⟩) (Kd.R_far (p:=⟨gb703,0,none⟩) (Kd.R_mono (Kd.R_types HO724.out BK703.out (by decide)) (fun k_ hk=>(⟨hk,hk.1.2⟩:_∧k_≠gb704))) (fun _ hk=>hk.1.2) (.slice Ao28 t722.length co28)) (fun _ hk=>hk.1.2) (.slice Ao32 t725.length co32)) (fun _ hk=>hk.2) (.int .i64 t729)) (fun _ hk=>hk.2) (.int .i64 t730)) (fun _ hk=>hk.1.1.1.1),by (with_reducible repeat (first | apply Kd.N_alloc | apply Kd.N_drewN | apply Kd.N_drew));exact Kd.N_mono (Kd.N_far (p:=⟨gb704,1,none⟩) (Kd.N_far (p:=⟨gb704,0,none⟩) (Kd.N_far (p:=⟨gb703,1,none⟩) (Kd.N_far (p:=⟨gb703,0,none⟩) (Kd.N_mono (Kd.N_mono HO727.out (fun k_ hk=>(⟨hk,hk.2.2.1⟩:_∧k_≠gb703))) (fun k_ hk=>(⟨hk,hk.1.2.2.2.1⟩:_∧k_≠gb704))) (fun _ hk=>hk.1.2) (.slice Ao28 t722.length co28)) (fun _ hk=>hk.1.2) (.slice Ao32 t725.length co32)) (fun _ hk=>hk.2) (.int .i64 t729)) (fun _ hk=>hk.2) (.int .i64 t730)) (fun _ hk=>⟨hk.1.1.1,hk.1.1.2.1⟩),by repeat (first | (with_reducible first | exact HB.out | apply below_alloc | apply pw_below_drewN | apply below_drew1 | refine below_set ?_ (IsS123.ge HI707.out) | refine below_set ?_ GE703.out | refine below_set ?_ GE704.out) | exact HB.out)⟩
def laws_FnFitsMost.j0:Nat→Int→Bool→Bool→List (S28)→List (List (S28))→Int→Int→Option (Bool)
 | 0,_,_,_,_,_,_,_=>none
 | k+1,x4,x6,x36,x865000,x865001,x866000,x866001=>if x36=true then ((spec_ToolFits.f k x865000 x865001 x4 x866000 x866001).bind fun t870=>(some (x6==t870))) else ((impl_PlateFar.f x865000 x865001 x866000 x866001).bind fun bt871=>((impl_PlateIn.f x865000 x865001 x866000 x866001).bind fun t874=>(if t874=1 then ((laws_luMost.f k x865000 x865001 x866000 x866001).bind fun t875=>(if bt871.2=0 then (none) else (some (t875==(mn (wrap64 (Int.tdiv bt871.1 bt871.2)) 9))))) else ((laws_luMost.f k x865000 x865001 x866000 x866001).bind fun t876=>(some (t876==0))))))
def laws_FnFitsMost.f (k:Nat)(l0:List Int):Option (Bool):=if (l0.length:Int)>1048576 then (some true) else ((spec_DrawToolFits.f k l0).bind fun bt855=>((impl_ToolFits.f bt855.1 bt855.2.1 bt855.2.2.1 bt855.2.2.2.1 bt855.2.2.2.2).bind fun t866=>((spec_ToolFits.f k bt855.1 bt855.2.1 bt855.2.2.1 bt855.2.2.2.1 bt855.2.2.2.2).bind fun t867=>(if (t866 != t867)=true then (laws_FnFitsMost.j0 k bt855.2.2.1 t866 true bt855.1 bt855.2.1 bt855.2.2.2.1 bt855.2.2.2.2) else ((spec_PlateOk.f k bt855.1 bt855.2.1).bind fun t868=>(if t868=true then ((spec_PtOk.f bt855.2.2.2.1 bt855.2.2.2.2).bind fun t869=>(laws_FnFitsMost.j0 k bt855.2.2.1 t866 (!t869) bt855.1 bt855.2.1 bt855.2.2.2.1 bt855.2.2.2.2)) else (laws_FnFitsMost.j0 k bt855.2.2.1 t866 true bt855.1 bt855.2.1 bt855.2.2.2.1 bt855.2.2.2.2)))))))
def laws_FnFitsMost.T10:Bool × List (List Nat × List Nat):=(true,[([],[]),([],[]),([0,1],[0,1]),([],[]),([3],[3]),([],[]),([5],[5]),([4,6],[4,6]),([7],[7]),([2,8],[2,8]),([9,2,0,1,2,3,4,5,6,7,8,9],[9])])
def laws_FnFitsMost.B10:List Nat:=[0,0,3,0,8,0,32,120,248,511,1023]
theorem laws_FnFitsMost.tab10:rtab .any (opsOf Tryd.f11 10)=laws_FnFitsMost.T10:=by kernel_rfl
theorem laws_FnFitsMost.bits10:waitsOk laws_FnFitsMost.T10.2 laws_FnFitsMost.B10=true:=by kernel_rfl
set_option maxHeartbeats 8000000 in
set_option maxRecDepth 100000 in
theorem laws_FnFitsMost.calls (k:Nat)(A0:Option Addr)(c0:Nat)(l0:List Int)(r:Bool)(w:World)(hr0:Kd.C (Kd.int .u8) w A0 l0.length l0)(hc0:l0.length≤c0)(hE:ErrW w)(h:laws_FnFitsMost.f k l0=some r):
  Calls Tryd.prog 11 #[.slice A0 l0.length c0] w fun e w'=>e=.returned (.bool r)∧Below w.heap.size w w':=by
 have hu26:=Tryd.underlying26;have hu28:=Tryd.underlying28;have hu35:=Tryd.underlying35;have HR0:=Aside0.mk hr0;have HC0:=Aside0.mk hc0;clear hr0 hc0;have HB:=a0_ (Below.refl w.heap.size w);have HE:=Aside0.mk hE;clear hE;have H:(if (l0.length:Int)>1048576 then (some true) else ((spec_DrawToolFits.f k l0).bind fun bt855=>((impl_ToolFits.f bt855.1 bt855.2.1 bt855.2.2.1 bt855.2.2.2.1 bt855.2.2.2.2).bind fun t866=>((spec_ToolFits.f k bt855.1 bt855.2.1 bt855.2.2.1 bt855.2.2.2.1 bt855.2.2.2.2).bind fun t867=>(if (t866 != t867)=true then (laws_FnFitsMost.j0 k bt855.2.2.1 t866 true bt855.1 bt855.2.1 bt855.2.2.2.1 bt855.2.2.2.2) else ((spec_PlateOk.f k bt855.1 bt855.2.1).bind fun t868=>(if t868=true then ((spec_PtOk.f bt855.2.2.2.1 bt855.2.2.2.2).bind fun t869=>(laws_FnFitsMost.j0 k bt855.2.2.1 t866 (!t869) bt855.1 bt855.2.1 bt855.2.2.2.1 bt855.2.2.2.2)) else (laws_FnFitsMost.j0 k bt855.2.2.1 t866 true bt855.1 bt855.2.1 bt855.2.2.2.1 bt855.2.2.2.2))))))))=some r:=h;clear h;by_cases c2:(l0.length:Int)>1048576
 ·
  rw [if_pos c2] at H;have c2b0:decide (1048576<(l0.length:Int))=true:=decide_eq_true c2;have c2b1:decide (1048576<l0.length)=true:=decide_eq_true (by omega);clear c2;obtain rfl:=Option.some.inj H;go_enter Tryd.func11,Tryd.ntmps11;go_wp2;go_ret;exact⟨rr_,hB_⟩
 ·
  rw [if_neg c2] at H;have c2b0:decide (1048576<(l0.length:Int))=false:=decide_eq_false c2;have c2b1:decide (1048576<l0.length)=false:=decide_eq_false (by omega);clear c2;replace H:=Option.bind_eq_some_iff.mp H;obtain⟨⟨t855,t858,t861,t862,t863⟩,A30,H⟩:=H
  (try dsimp only at H)
  have A3:=Aside0.mk A30;clear A30;replace H:=Option.bind_eq_some_iff.mp H;obtain⟨t866,A40,H⟩:=H
  (try dsimp only at H)
  have A4:=Aside0.mk A40;clear A40;have HC5:=Aside0.mk H;clear H;go_enter Tryd.func11,Tryd.ntmps11
  go_upto_region 5 with (first | ((with_reducible refine gate_callee (f:=33) rfl ?_);refine gL_ (some 13) Tryd.func33 #[.slice A0 l0.length c0] (h:=?_);(with_reducible refine (spec_DrawToolFits.calls k _ _ l0 t855 t858 t861 t862 t863 _ ?side1 ?side2 A3.out).mono ?_);(case side1=>repeat (first | exact HR0.out | (with_reducible refine Kd.C_alloc ?_ _) | (with_reducible refine Kd.C_drewN ?_ _) | (with_reducible refine Kd.C_drew ?_)));(case side2=>exact HC0.out);rintro e w6 ⟨v856,v859,rfl,ho0,ho1,hb⟩;refine⟨_,rfl,?_⟩;have HO857:=a0_ (Kd.R_lower (Kd.R_mono (ok':=fun k_=>True) ho0 (fun _ hk_=>trivial)) (below_size hB_));have HO860:=a0_ (Kd.N_lower (Kd.N_mono (ok':=fun k_=>some k_≠(v856:Value).ownBlock) ho1 (fun k_ hk_=>hk_.2)) (below_size hB_));replace HB:=sb_ HB hb;(try clear ho0 ho1 hb)) | ((with_reducible refine gate_dst (N:=3) rfl ?_);refine bx_ (N:=3) (cs:=#[.slice none 0 0,.slice none 0 0]) (t:=26) (h:=?_);intro gb864 hg w7 hbox hb;have BK864:=a0_ (hbox);have GW864:=gh_ HB hg;have GE864:=gh_ HB hg;replace HO857:=rb_ HO857 hb;replace HO860:=a0_ (Kd.N_below (Kd.N_elderB (uN_ HO860) gb864 (Nat.le_of_eq hg.symm)) hb);replace HB:=sb_ HB hb;clear hb hbox hg) | ((with_reducible refine gate_dst (N:=5) rfl ?_);refine bx_ (N:=5) (cs:=#[.int .i64 0,.int .i64 0]) (t:=28) (h:=?_);intro gb865 hg w8 hbox hb;have BK865:=a0_ (hbox);have GW865:=gh_ HB hg;have GE865:=gh_ HB hg;have NB864_865:=nl_ BK864 hg;have NB865_864:=nr_ BK864 hg;replace HO857:=a0_ (Kd.R_below (Kd.R_elderB (uR_ HO857) gb865 (Nat.le_of_eq hg.symm)) hb);replace HO860:=a0_ (Kd.N_below (Kd.N_elderB (uN_ HO860) gb865 (Nat.le_of_eq hg.symm)) hb);replace BK864:=vb_ BK864 hb;replace HB:=sb_ HB hb;clear hb hbox hg;obtain⟨Ao9,co9,eo9⟩:=Kd.R_slice HO857.out;subst eo9;have hnb10:=NB864_865.out;have hnc10:=NB865_864.out;have hcz11_0:=c20_ BK864;have hcz11_1:=c21_ BK864;have hfz11_0:=fz_ BK864 0;have hfz11_1:=fz_ BK864 1;obtain⟨Ao12,co12,eo12⟩:=Kd.N_slice HO860.out;subst eo12;have hcz13_0:=c20_ BK865;have hcz13_1:=c21_ BK865;have hfz13_0:=fz_ BK865 0;have hfz13_1:=fz_ BK865 1) | ((with_reducible refine gate_callee (f:=28) rfl ?_);refine gL_ (some 20) Tryd.func28 #[.agg #[.slice Ao9 t855.length co9,.slice Ao12 t858.length co12],.int .i64 t861,.agg #[.int .i64 t862,.int .i64 t863]] (h:=?_);(with_reducible refine (impl_ToolFits.calls _ _ t855 _ _ t858 t861 t862 t863 t866 _ ?side1 ?side2 ?side3 ?side4 ?side5 A4.out).mono ?_);(case side1=>refine (Kd.R_reads' (e:=28) (base:=w.heap.size) (ok:=fun k_=>(True∧k_≠gb865)) (n:=t855.length) (c:=co9) ?_).2.2;exact (by (with_reducible repeat (first | apply Kd.R_alloc | apply Kd.R_drewN | apply Kd.R_drew));exact (Kd.R_mono (Kd.R_mono (Kd.R_far (p:=⟨gb865,1,none⟩) (Kd.R_far (p:=⟨gb865,0,none⟩) (Kd.R_far (p:=⟨gb864,1,none⟩) (Kd.R_far (p:=⟨gb864,0,none⟩) (Kd.R_mono (Kd.R_types HO857.out BK864.out (by decide)) (fun k_ hk=>(⟨hk,hk.1.2⟩:_∧k_≠gb865))) (fun _ hk=>hk.1.2) (.slice Ao9 t855.length co9)) (fun _ hk=>hk.1.2) (.slice Ao12 t858.length co12)) (fun _ hk=>hk.2) (.int .i64 t862)) (fun _ hk=>hk.2) (.int .i64 t863)) (fun _ h_=>h_.1)) (fun _ h_=>h_.1))));(case side2=>exact (Kd.R_reads' HO857.out).2.1);(case side3=>refine (Kd.N_reads' (e:=23) (base:=w.heap.size) (ok:=fun k_=>((some k_≠(.slice Ao9 t855.length co9:Value).ownBlock∧k_≠gb864)∧k_≠gb865)) (n:=t858.length) (c:=co12) ?_).2.2;exact (by (with_reducible repeat (first | apply Kd.N_alloc | apply Kd.N_drewN | apply Kd.N_drew));exact (Kd.N_mono (Kd.N_mono (Kd.N_far (p:=⟨gb865,1,none⟩) (Kd.N_far (p:=⟨gb865,0,none⟩) (Kd.N_far (p:=⟨gb864,1,none⟩) (Kd.N_far (p:=⟨gb864,0,none⟩) (Kd.N_mono (Kd.N_mono HO860.out (fun k_ hk=>(⟨hk,hk.1.2⟩:_∧k_≠gb864))) (fun k_ hk=>(⟨hk,hk.1.2⟩:_∧k_≠gb865))) (fun _ hk=>hk.1.2) (.slice Ao9 t855.length co9)) (fun _ hk=>hk.1.2) (.slice Ao12 t858.length co12)) (fun _ hk=>hk.2) (.int .i64 t862)) (fun _ hk=>hk.2) (.int .i64 t863)) (fun _ h_=>h_.1)) (fun _ h_=>h_.1))));(case side4=>exact (Kd.N_reads' HO860.out).2.1);(case side5=>exact ErrW.below HE.out hB_);rintro e w14 ⟨rfl,hb⟩;refine⟨_,rfl,?_⟩;replace HO857:=a0_ (Kd.R_below (by (with_reducible repeat (first | apply Kd.R_alloc | apply Kd.R_drewN | apply Kd.R_drew));exact (Kd.R_mono (Kd.R_mono (Kd.R_far (p:=⟨gb865,1,none⟩) (Kd.R_far (p:=⟨gb865,0,none⟩) (Kd.R_far (p:=⟨gb864,1,none⟩) (Kd.R_far (p:=⟨gb864,0,none⟩) (Kd.R_mono (Kd.R_types HO857.out BK864.out (by decide)) (fun k_ hk=>(⟨hk,hk.1.2⟩:_∧k_≠gb865))) (fun _ hk=>hk.1.2) (.slice Ao9 t855.length co9)) (fun _ hk=>hk.1.2) (.slice Ao12 t858.length co12)) (fun _ hk=>hk.2) (.int .i64 t862)) (fun _ hk=>hk.2) (.int .i64 t863)) (fun _ h_=>h_.1)) (fun _ h_=>h_.1))) hb);replace HO860:=a0_ (Kd.N_below (by (with_reducible repeat (first | apply Kd.N_alloc | apply Kd.N_drewN | apply Kd.N_drew));exact (Kd.N_mono (Kd.N_mono (Kd.N_far (p:=⟨gb865,1,none⟩) (Kd.N_far (p:=⟨gb865,0,none⟩) (Kd.N_far (p:=⟨gb864,1,none⟩) (Kd.N_far (p:=⟨gb864,0,none⟩) (Kd.N_mono (Kd.N_mono HO860.out (fun k_ hk=>(⟨hk,hk.1.2⟩:_∧k_≠gb864))) (fun k_ hk=>(⟨hk,hk.1.2⟩:_∧k_≠gb865))) (fun _ hk=>hk.1.2) (.slice Ao9 t855.length co9)) (fun _ hk=>hk.1.2) (.slice Ao12 t858.length co12)) (fun _ hk=>hk.2) (.int .i64 t862)) (fun _ hk=>hk.2) (.int .i64 t863)) (fun _ h_=>h_.1)) (fun _ h_=>h_.1))) hb);replace BK864:=a0_ (blk_below (g:=gb864) (o:=.cells #[.slice Ao9 t855.length co9,.slice Ao12 t858.length co12] 26 (0,0)) (by (with_reducible repeat (first | refine blk_drewN ?_ _ | refine blk_drew ?_ | refine blk_alloc ?_ _));refine blk_far ?_ NB864_865.out _;(with_reducible repeat (first | refine blk_drewN ?_ _ | refine blk_drew ?_ | refine blk_alloc ?_ _));refine blk_far ?_ NB864_865.out _;(with_reducible repeat (first | refine blk_drewN ?_ _ | refine blk_drew ?_ | refine blk_alloc ?_ _));refine blk_put (cs:=#[.slice Ao9 t855.length co9,.slice none 0 0]) ?_ 1 _ rfl;(with_reducible repeat (first | refine blk_drewN ?_ _ | refine blk_drew ?_ | refine blk_alloc ?_ _));refine blk_put (cs:=#[.slice none 0 0,.slice none 0 0]) ?_ 0 _ rfl;(with_reducible repeat (first | refine blk_drewN ?_ _ | refine blk_drew ?_ | refine blk_alloc ?_ _));exact BK864.out) hb);replace BK865:=a0_ (blk_below (g:=gb865) (o:=.cells #[.int .i64 t862,.int .i64 t863] 28 (0,0)) (by (with_reducible repeat (first | refine blk_drewN ?_ _ | refine blk_drew ?_ | refine blk_alloc ?_ _));refine blk_put (cs:=#[.int .i64 t862,.int .i64 0]) ?_ 1 _ rfl;(with_reducible repeat (first | refine blk_drewN ?_ _ | refine blk_drew ?_ | refine blk_alloc ?_ _));refine blk_put (cs:=#[.int .i64 0,.int .i64 0]) ?_ 0 _ rfl;(with_reducible repeat (first | refine blk_drewN ?_ _ | refine blk_drew ?_ | refine blk_alloc ?_ _));refine blk_far ?_ NB865_864.out _;(with_reducible repeat (first | refine blk_drewN ?_ _ | refine blk_drew ?_ | refine blk_alloc ?_ _));refine blk_far ?_ NB865_864.out _;(with_reducible repeat (first | refine blk_drewN ?_ _ | refine blk_drew ?_ | refine blk_alloc ?_ _));exact BK865.out) hb);replace HB:=sb_ HB hb;(try clear hb)))
  (try simp only [Act.put,List.setIfInBounds_toArray,List.set_cons_zero,List.set_cons_succ])
  go_cut [36] (fun v36 wc=>∃ (kq:Nat) (x36_4:Bool),v36=.bool x36_4∧Aside0 (laws_FnFitsMost.j0 kq t861 t866 x36_4 t855 t858 t862 t863=some r)∧Aside0 (kq≤k)∧Aside0 (Kd.R k28 28 wc w.heap.size (fun k_=>k_≠gb865) (.slice Ao9 t855.length co9) t855)∧Aside0 (Kd.N (Kd.slice 28 k28) 23 wc w.heap.size (fun k_=>some k_≠((.slice Ao9 t855.length co9):Value).ownBlock∧k_≠gb864∧k_≠gb865) (.slice Ao12 t858.length co12) t858)∧Aside0 (wc.heap[gb864]?=some (.cells #[(.slice Ao9 t855.length co9),(.slice Ao12 t858.length co12)] 26 (0,0)))∧Aside0 (wc.heap[gb865]?=some (.cells #[.int .i64 t862,.int .i64 t863] 28 (0,0)))∧Aside0 (Below w.heap.size w wc))
  case first =>
   have H:=HC5.out;clear HC5;replace H:=Option.bind_eq_some_iff.mp H;obtain⟨t867,A150,H⟩:=H
   (try dsimp only at H)
   have A15:=Aside0.mk A150;clear A150;by_cases c16:(t866 != t867)=true
   ·
    rw [if_pos c16] at H;have c16b0:(t866 != t867)=true:=c16
    (try (have c16b1:decide (t866=t867)=false:=by simpa using c16))
    (try (have c16b2:(t866==t867)=false:=by simpa using c16))
    (try (have c16b3:¬ (t866=t867):=by simpa using c16))
    clear c16
    (first | rw [c16b0] | (simp only [i64_w,i32_w];rw [c16b0]) | skip)
    have H':=Aside0.mk H;clear H;have hnb17:=NB864_865.out;have hnc17:=NB865_864.out;have hcz18_0:=c20_ BK864;have hcz18_1:=c21_ BK864;have hfz18_0:=fz_ BK864 0;have hfz18_1:=fz_ BK864 1;have hcz19_0:=c20_ BK865;have hcz19_1:=c21_ BK865;have hfz19_0:=fz_ BK865 0;have hfz19_1:=fz_ BK865 1;go_wp2_with (first | ((with_reducible refine gate_callee (f:=25) rfl ?_);refine gL_ (some 25) Tryd.func25 #[.agg #[.slice Ao9 t855.length co9,.slice Ao12 t858.length co12],.int .i64 t861,.agg #[.int .i64 t862,.int .i64 t863]] (h:=?_);(with_reducible refine (spec_ToolFits.calls k _ _ t855 _ _ t858 t861 t862 t863 t867 _ ?side1 ?side2 ?side3 ?side4 A15.out).mono ?_);(case side1=>repeat (first | exact (Kd.R_reads' HO857.out).2.2 | (with_reducible refine Kd.C_alloc ?_ _) | (with_reducible refine Kd.C_drewN ?_ _) | (with_reducible refine Kd.C_drew ?_)));(case side2=>exact (Kd.R_reads' HO857.out).2.1);(case side3=>repeat (first | exact (Kd.N_reads' HO860.out).2.2 | (with_reducible refine Kd.C_alloc ?_ _) | (with_reducible refine Kd.C_drewN ?_ _) | (with_reducible refine Kd.C_drew ?_)));(case side4=>exact (Kd.N_reads' HO860.out).2.1);rintro e w20 ⟨rfl,hb⟩;refine⟨_,rfl,?_⟩;replace HO857:=rb_ HO857 hb;replace HO860:=nb_ HO860 hb;replace BK864:=vb_ BK864 hb;replace BK865:=vb_ BK865 hb;replace HB:=sb_ HB hb;(try clear hb)));go_meet
    case rel=>exact⟨_,(true),(by first | rfl | (simp;done) | (simp [*];done)),H',⟨by first | omega | exact Nat.le_refl _⟩,⟨by (with_reducible repeat (first | apply Kd.R_alloc | apply Kd.R_drewN | apply Kd.R_drew));exact Kd.R_mono HO857.out (fun _ hk=>hk.2)⟩,⟨by (with_reducible repeat (first | apply Kd.N_alloc | apply Kd.N_drewN | apply Kd.N_drew));exact Kd.N_mono HO860.out (fun _ hk=>⟨hk.1.1,⟨hk.1.2,hk.2⟩⟩)⟩,⟨uq_⟩,⟨uq_⟩,⟨hB_⟩⟩
   ·
    rw [if_neg c16] at H;have c16b0:(t866 != t867)=false:=by simpa using c16
    (try (have c16b1:decide (t866=t867)=true:=by simpa using c16))
    (try (have c16b2:(t866==t867)=true:=by simpa using c16))
    clear c16
    (first | rw [c16b0] | (simp only [i64_w,i32_w];rw [c16b0]) | skip)
    replace H:=Option.bind_eq_some_iff.mp H;obtain⟨t868,A210,H⟩:=H
    (try dsimp only at H)
    have A21:=Aside0.mk A210;clear A210;by_cases c22:t868=true
    ·
     subst c22;rw [if_pos rfl] at H
     (try dsimp only at H)
     replace H:=Option.bind_eq_some_iff.mp H;obtain⟨t869,A230,H⟩:=H
     (try dsimp only at H)
     have A23:=Aside0.mk A230;clear A230;have H':=Aside0.mk H;clear H;have hnb24:=NB864_865.out;have hnc24:=NB865_864.out;have hcz25_0:=c20_ BK864;have hcz25_1:=c21_ BK864;have hfz25_0:=fz_ BK864 0;have hfz25_1:=fz_ BK864 1;have hcz26_0:=c20_ BK865;have hcz26_1:=c21_ BK865;have hfz26_0:=fz_ BK865 0;have hfz26_1:=fz_ BK865 1
     go_wp2_with (first | ((with_reducible refine gate_callee (f:=25) rfl ?_);refine gL_ (some 25) Tryd.func25 #[.agg #[.slice Ao9 t855.length co9,.slice Ao12 t858.length co12],.int .i64 t861,.agg #[.int .i64 t862,.int .i64 t863]] (h:=?_);(with_reducible refine (spec_ToolFits.calls k _ _ t855 _ _ t858 t861 t862 t863 t867 _ ?side1 ?side2 ?side3 ?side4 A15.out).mono ?_);(case side1=>repeat (first | exact (Kd.R_reads' HO857.out).2.2 | (with_reducible refine Kd.C_alloc ?_ _) | (with_reducible refine Kd.C_drewN ?_ _) | (with_reducible refine Kd.C_drew ?_)));(case side2=>exact (Kd.R_reads' HO857.out).2.1);(case side3=>repeat (first | exact (Kd.N_reads' HO860.out).2.2 | (with_reducible refine Kd.C_alloc ?_ _) | (with_reducible refine Kd.C_drewN ?_ _) | (with_reducible refine Kd.C_drew ?_)));(case side4=>exact (Kd.N_reads' HO860.out).2.1);rintro e w27 ⟨rfl,hb⟩;refine⟨_,rfl,?_⟩;replace HO857:=rb_ HO857 hb;replace HO860:=nb_ HO860 hb;replace BK864:=vb_ BK864 hb;replace BK865:=vb_ BK865 hb;replace HB:=sb_ HB hb;(try clear hb);have hcz28_0:=c20_ BK864;have hcz28_1:=c21_ BK864;have hfz28_0:=fz_ BK864 0;have hfz28_1:=fz_ BK864 1) | (go_at_call 18;(with_reducible refine (spec_PlateOk.calls k _ _ t855 _ _ t858 true _ ?side1 ?side2 ?side3 ?side4 A21.out).mono ?_);(case side1=>repeat (first | exact (Kd.R_reads' HO857.out).2.2 | (with_reducible refine Kd.C_alloc ?_ _) | (with_reducible refine Kd.C_drewN ?_ _) | (with_reducible refine Kd.C_drew ?_)));(case side2=>exact (Kd.R_reads' HO857.out).2.1);(case side3=>repeat (first | exact (Kd.N_reads' HO860.out).2.2 | (with_reducible refine Kd.C_alloc ?_ _) | (with_reducible refine Kd.C_drewN ?_ _) | (with_reducible refine Kd.C_drew ?_)));(case side4=>exact (Kd.N_reads' HO860.out).2.1);rintro e w29 ⟨rfl,hb⟩;replace HO857:=rb_ HO857 hb;replace HO860:=nb_ HO860 hb;replace BK864:=vb_ BK864 hb;replace BK865:=vb_ BK865 hb;replace HB:=sb_ HB hb;(try clear hb);have hcz30_0:=c20_ BK865;have hcz30_1:=c21_ BK865;have hfz30_0:=fz_ BK865 0;have hfz30_1:=fz_ BK865 1) | (go_at_call 19;(with_reducible refine (spec_PtOk.calls t862 t863 t869 _ A23.out).mono ?_);rintro e w31 ⟨rfl,hb⟩;replace HO857:=rb_ HO857 hb;replace HO860:=nb_ HO860 hb;replace BK864:=vb_ BK864 hb;replace BK865:=vb_ BK865 hb;replace HB:=sb_ HB hb;(try clear hb)))
     go_meet
     case rel=>exact⟨_,(!t869),(by first | rfl | (simp;done) | (simp [*];done)),H',⟨by first | omega | exact Nat.le_refl _⟩,⟨by (with_reducible repeat (first | apply Kd.R_alloc | apply Kd.R_drewN | apply Kd.R_drew));exact Kd.R_mono HO857.out (fun _ hk=>hk.2)⟩,⟨by (with_reducible repeat (first | apply Kd.N_alloc | apply Kd.N_drewN | apply Kd.N_drew));exact Kd.N_mono HO860.out (fun _ hk=>⟨hk.1.1,⟨hk.1.2,hk.2⟩⟩)⟩,⟨uq_⟩,⟨uq_⟩,⟨hB_⟩⟩
    ·
     replace c22:=Bool.eq_false_iff.mpr c22;subst c22;rw [if_neg (show ¬ (false=true) by decide)] at H
     (try dsimp only at H)
     have H':=Aside0.mk H;clear H;have hnb32:=NB864_865.out;have hnc32:=NB865_864.out;have hcz33_0:=c20_ BK864;have hcz33_1:=c21_ BK864;have hfz33_0:=fz_ BK864 0;have hfz33_1:=fz_ BK864 1;have hcz34_0:=c20_ BK865;have hcz34_1:=c21_ BK865;have hfz34_0:=fz_ BK865 0;have hfz34_1:=fz_ BK865 1
     go_wp2_with (first | ((with_reducible refine gate_callee (f:=25) rfl ?_);refine gL_ (some 25) Tryd.func25 #[.agg #[.slice Ao9 t855.length co9,.slice Ao12 t858.length co12],.int .i64 t861,.agg #[.int .i64 t862,.int .i64 t863]] (h:=?_);(with_reducible refine (spec_ToolFits.calls k _ _ t855 _ _ t858 t861 t862 t863 t867 _ ?side1 ?side2 ?side3 ?side4 A15.out).mono ?_);(case side1=>repeat (first | exact (Kd.R_reads' HO857.out).2.2 | (with_reducible refine Kd.C_alloc ?_ _) | (with_reducible refine Kd.C_drewN ?_ _) | (with_reducible refine Kd.C_drew ?_)));(case side2=>exact (Kd.R_reads' HO857.out).2.1);(case side3=>repeat (first | exact (Kd.N_reads' HO860.out).2.2 | (with_reducible refine Kd.C_alloc ?_ _) | (with_reducible refine Kd.C_drewN ?_ _) | (with_reducible refine Kd.C_drew ?_)));(case side4=>exact (Kd.N_reads' HO860.out).2.1);rintro e w35 ⟨rfl,hb⟩;refine⟨_,rfl,?_⟩;replace HO857:=rb_ HO857 hb;replace HO860:=nb_ HO860 hb;replace BK864:=vb_ BK864 hb;replace BK865:=vb_ BK865 hb;replace HB:=sb_ HB hb;(try clear hb);have hcz36_0:=c20_ BK864;have hcz36_1:=c21_ BK864;have hfz36_0:=fz_ BK864 0;have hfz36_1:=fz_ BK864 1) | (go_at_call 18;(with_reducible refine (spec_PlateOk.calls k _ _ t855 _ _ t858 false _ ?side1 ?side2 ?side3 ?side4 A21.out).mono ?_);(case side1=>repeat (first | exact (Kd.R_reads' HO857.out).2.2 | (with_reducible refine Kd.C_alloc ?_ _) | (with_reducible refine Kd.C_drewN ?_ _) | (with_reducible refine Kd.C_drew ?_)));(case side2=>exact (Kd.R_reads' HO857.out).2.1);(case side3=>repeat (first | exact (Kd.N_reads' HO860.out).2.2 | (with_reducible refine Kd.C_alloc ?_ _) | (with_reducible refine Kd.C_drewN ?_ _) | (with_reducible refine Kd.C_drew ?_)));(case side4=>exact (Kd.N_reads' HO860.out).2.1);rintro e w37 ⟨rfl,hb⟩;replace HO857:=rb_ HO857 hb;replace HO860:=nb_ HO860 hb;replace BK864:=vb_ BK864 hb;replace BK865:=vb_ BK865 hb;replace HB:=sb_ HB hb;(try clear hb)))
     go_meet
     case rel=>exact⟨_,(true),(by first | rfl | (simp;done) | (simp [*];done)),H',⟨by first | omega | exact Nat.le_refl _⟩,⟨by (with_reducible repeat (first | apply Kd.R_alloc | apply Kd.R_drewN | apply Kd.R_drew));exact Kd.R_mono HO857.out (fun _ hk=>hk.2)⟩,⟨by (with_reducible repeat (first | apply Kd.N_alloc | apply Kd.N_drewN | apply Kd.N_drew));exact Kd.N_mono HO860.out (fun _ hk=>⟨hk.1.1,⟨hk.1.2,hk.2⟩⟩)⟩,⟨uq_⟩,⟨uq_⟩,⟨hB_⟩⟩
  case rest =>
   clear HC5;obtain⟨kq,x36_4,rfl,HA,HJ4,HO_865000,HO_865001,BK864,BK865,HB⟩:=hcut
   cases kq with
   | zero=>exact absurd HA.out (by simp [laws_FnFitsMost.j0])
   | succ kj4 =>
    have H:=HA.out;clear HA;simp only [laws_FnFitsMost.j0] at H;by_cases c38:x36_4=true
    ·
     subst c38;rw [if_pos rfl] at H
     (try dsimp only at H)
     replace H:=Option.bind_eq_some_iff.mp H;obtain⟨t870,A390,H⟩:=H
     (try dsimp only at H)
     have A39:=Aside0.mk A390;clear A390;obtain rfl:=Option.some.inj H;have hnb40:=NB864_865.out;have hnc40:=NB865_864.out;have hcz41_0:=c20_ BK864;have hcz41_1:=c21_ BK864;have hfz41_0:=fz_ BK864 0;have hfz41_1:=fz_ BK864 1;have hcz42_0:=c20_ BK865;have hcz42_1:=c21_ BK865;have hfz42_0:=fz_ BK865 0;have hfz42_1:=fz_ BK865 1;go_wp2_with (first | ((with_reducible refine gate_callee (f:=25) rfl ?_);refine gL_ (some 41) Tryd.func25 #[.agg #[.slice Ao9 t855.length co9,.slice Ao12 t858.length co12],.int .i64 t861,.agg #[.int .i64 t862,.int .i64 t863]] (h:=?_);(with_reducible refine (spec_ToolFits.calls kj4 _ _ t855 _ _ t858 t861 t862 t863 t870 _ ?side1 ?side2 ?side3 ?side4 A39.out).mono ?_);(case side1=>repeat (first | exact (Kd.R_reads' HO_865000.out).2.2 | (with_reducible refine Kd.C_alloc ?_ _) | (with_reducible refine Kd.C_drewN ?_ _) | (with_reducible refine Kd.C_drew ?_)));(case side2=>exact (Kd.R_reads' HO_865000.out).2.1);(case side3=>repeat (first | exact (Kd.N_reads' HO_865001.out).2.2 | (with_reducible refine Kd.C_alloc ?_ _) | (with_reducible refine Kd.C_drewN ?_ _) | (with_reducible refine Kd.C_drew ?_)));(case side4=>exact (Kd.N_reads' HO_865001.out).2.1);rintro e w43 ⟨rfl,hb⟩;refine⟨_,rfl,?_⟩;replace HO_865000:=rb_ HO_865000 hb;replace HO_865001:=nb_ HO_865001 hb;replace BK864:=vb_ BK864 hb;replace BK865:=vb_ BK865 hb;replace HB:=sb_ HB hb;(try clear hb)));go_ret;exact⟨rr_,hB_⟩
    ·
     replace c38:=Bool.eq_false_iff.mpr c38;subst c38;rw [if_neg (show ¬ (false=true) by decide)] at H
     (try dsimp only at H)
     replace H:=Option.bind_eq_some_iff.mp H;obtain⟨⟨t871,t872⟩,A440,H⟩:=H
     (try dsimp only at H)
     have A44:=Aside0.mk A440;clear A440;replace H:=Option.bind_eq_some_iff.mp H;obtain⟨t874,A450,H⟩:=H
     (try dsimp only at H)
     have A45:=Aside0.mk A450;clear A450;by_cases c46:t874=1
     ·
      rw [if_pos c46] at H;have c46b0:(t874==1)=true:=beq_iff_eq.mpr c46;have c46b1:(t874 != 1)=false:=bne_eq_false_iff_eq.mpr c46;clear c46;replace H:=Option.bind_eq_some_iff.mp H;obtain⟨t875,A470,H⟩:=H
      (try dsimp only at H)
      have A47:=Aside0.mk A470;clear A470;by_cases c48:t872=0
      ·
       rw [if_pos c48] at H;exact absurd H (by simp)
      ·
       rw [if_neg c48] at H;have c48b0:(t872==0)=false:=beq_eq_false_iff_ne.mpr c48;have c48b1:(t872 != 0)=true:=bne_iff_ne.mpr c48;obtain⟨ji49,hji49⟩:∃ j_:Int,(mn (wrap64 (Int.tdiv t871 t872)) 9)=j_:=⟨_,rfl⟩;replace H:(some (t875==(ji49)))=some r:=by first | (rw [hji49] at H;exact H) | (simp only [hji49] at H ⊢;exact H)
       (try rw [hji49] at A44)
       (try rw [hji49] at A45)
       (try rw [hji49] at A47)
       (try (have hji49h:ji49≤9:=by (rw [← hji49];unfold mn;(repeat' split) <;> omega)))
       (try (have hji49g:ji49≤64:=by omega))
       have hji49_:(if 9<(wrap64 (Int.tdiv t871 t872)) then 9 else (wrap64 (Int.tdiv t871 t872)))=ji49:=hji49;obtain rfl:=Option.some.inj H;have hnb50:=NB864_865.out;have hnc50:=NB865_864.out;have hcz51_0:=c20_ BK864;have hcz51_1:=c21_ BK864;have hfz51_0:=fz_ BK864 0;have hfz51_1:=fz_ BK864 1;have hcz52_0:=c20_ BK865;have hcz52_1:=c21_ BK865;have hfz52_0:=fz_ BK865 0;have hfz52_1:=fz_ BK865 1
       try go_wp2_with (first | ((with_reducible refine gate_callee (f:=22) rfl ?_);refine gL_ (some 45) Tryd.func22 #[.agg #[.slice Ao9 t855.length co9,.slice Ao12 t858.length co12],.agg #[.int .i64 t862,.int .i64 t863]] (h:=?_);(with_reducible refine (impl_PlateFar.calls _ _ t855 _ _ t858 t862 t863 t871 t872 _ ?side1 ?side2 ?side3 ?side4 ?side5 A44.out).mono ?_);(case side1=>repeat (first | exact (Kd.R_reads' HO_865000.out).2.2 | (with_reducible refine Kd.C_alloc ?_ _) | (with_reducible refine Kd.C_drewN ?_ _) | (with_reducible refine Kd.C_drew ?_)));(case side2=>exact (Kd.R_reads' HO_865000.out).2.1);(case side3=>repeat (first | exact (Kd.N_reads' HO_865001.out).2.2 | (with_reducible refine Kd.C_alloc ?_ _) | (with_reducible refine Kd.C_drewN ?_ _) | (with_reducible refine Kd.C_drew ?_)));(case side4=>exact (Kd.N_reads' HO_865001.out).2.1);(case side5=>exact ErrW.below HE.out hB_);rintro e w53 ⟨rfl,hb⟩;refine⟨_,rfl,?_⟩;replace HO_865000:=rb_ HO_865000 hb;replace HO_865001:=nb_ HO_865001 hb;replace BK864:=vb_ BK864 hb;replace BK865:=vb_ BK865 hb;replace HB:=sb_ HB hb;(try clear hb)) | ((with_reducible refine gate_dst (N:=7) rfl ?_);refine bx_ (N:=7) (cs:=#[.int .i64 0,.int .i64 0]) (t:=35) (h:=?_);intro gb873 hg w54 hbox hb;have BK873:=a0_ (hbox);have GW873:=gh_ HB hg;have GE873:=gh_ HB hg;have NB864_873:=nl_ BK864 hg;have NB873_864:=nr_ BK864 hg;have NB865_873:=nl_ BK865 hg;have NB873_865:=nr_ BK865 hg;replace HO_865000:=rb_ HO_865000 hb;replace HO_865001:=a0_ (Kd.N_below (Kd.N_elderB (uN_ HO_865001) gb873 (Nat.le_of_eq hg.symm)) hb);replace BK864:=vb_ BK864 hb;replace BK865:=vb_ BK865 hb;replace HB:=sb_ HB hb;clear hb hbox hg;have hnb55:=NB873_864.out;have hnc55:=NB864_873.out;have hnb56:=NB873_865.out;have hnc56:=NB865_873.out;have hcz57_0:=c20_ BK873;have hcz57_1:=c21_ BK873;have hfz57_0:=fz_ BK873 0;have hfz57_1:=fz_ BK873 1;have hcz58_0:=c20_ BK864;have hcz58_1:=c21_ BK864;have hfz58_0:=fz_ BK864 0;have hfz58_1:=fz_ BK864 1;have hcz59_0:=c20_ BK865;have hcz59_1:=c21_ BK865;have hfz59_0:=fz_ BK865 0;have hfz59_1:=fz_ BK865 1) | ((with_reducible refine gate_callee (f:=16) rfl ?_);refine gL_ (some 48) Tryd.func16 #[.agg #[.slice Ao9 t855.length co9,.slice Ao12 t858.length co12],.agg #[.int .i64 t862,.int .i64 t863]] (h:=?_);(with_reducible refine (impl_PlateIn.calls _ _ t855 _ _ t858 t862 t863 t874 _ ?side1 ?side2 ?side3 ?side4 A45.out).mono ?_);(case side1=>refine (Kd.R_reads' (e:=28) (base:=w.heap.size) (ok:=fun k_=>k_≠gb865) (n:=t855.length) (c:=co9) ?_).2.2;exact (by (with_reducible repeat (first | apply Kd.R_alloc | apply Kd.R_drewN | apply Kd.R_drew));exact (Kd.R_mono (Kd.R_far (p:=⟨gb873,1,none⟩) (Kd.R_far (p:=⟨gb873,0,none⟩) (Kd.R_types HO_865000.out BK873.out (by decide)) (fun _ hk=>hk.2) (.int .i64 t871)) (fun _ hk=>hk.2) (.int .i64 t872)) (fun _ h_=>h_.1))));(case side2=>exact (Kd.R_reads' HO_865000.out).2.1);(case side3=>refine (Kd.N_reads' (e:=23) (base:=w.heap.size) (ok:=fun k_=>((some k_≠(.slice Ao9 t855.length co9:Value).ownBlock∧(k_≠gb864∧k_≠gb865))∧k_≠gb873)) (n:=t858.length) (c:=co12) ?_).2.2;exact (by (with_reducible repeat (first | apply Kd.N_alloc | apply Kd.N_drewN | apply Kd.N_drew));exact (Kd.N_mono (Kd.N_far (p:=⟨gb873,1,none⟩) (Kd.N_far (p:=⟨gb873,0,none⟩) (Kd.N_mono HO_865001.out (fun k_ hk=>(⟨hk,hk.2⟩:_∧k_≠gb873))) (fun _ hk=>hk.2) (.int .i64 t871)) (fun _ hk=>hk.2) (.int .i64 t872)) (fun _ h_=>h_.1))));(case side4=>exact (Kd.N_reads' HO_865001.out).2.1);rintro e w60 ⟨rfl,hb⟩;refine⟨_,rfl,?_⟩;replace HO_865000:=a0_ (Kd.R_below (by (with_reducible repeat (first | apply Kd.R_alloc | apply Kd.R_drewN | apply Kd.R_drew));exact (Kd.R_mono (Kd.R_far (p:=⟨gb873,1,none⟩) (Kd.R_far (p:=⟨gb873,0,none⟩) (Kd.R_types HO_865000.out BK873.out (by decide)) (fun _ hk=>hk.2) (.int .i64 t871)) (fun _ hk=>hk.2) (.int .i64 t872)) (fun _ h_=>h_.1))) hb);replace HO_865001:=a0_ (Kd.N_below (by (with_reducible repeat (first | apply Kd.N_alloc | apply Kd.N_drewN | apply Kd.N_drew));exact (Kd.N_mono (Kd.N_far (p:=⟨gb873,1,none⟩) (Kd.N_far (p:=⟨gb873,0,none⟩) (Kd.N_mono HO_865001.out (fun k_ hk=>(⟨hk,hk.2⟩:_∧k_≠gb873))) (fun _ hk=>hk.2) (.int .i64 t871)) (fun _ hk=>hk.2) (.int .i64 t872)) (fun _ h_=>h_.1))) hb);replace BK864:=a0_ (blk_below (g:=gb864) (o:=.cells #[.slice Ao9 t855.length co9,.slice Ao12 t858.length co12] 26 (0,0)) uf_ hb);replace BK865:=a0_ (blk_below (g:=gb865) (o:=.cells #[.int .i64 t862,.int .i64 t863] 28 (0,0)) uf_ hb);replace BK873:=a0_ (blk_below (g:=gb873) (o:=.cells #[.int .i64 t871,.int .i64 t872] 35 (0,0)) (by (with_reducible repeat (first | refine blk_drewN ?_ _ | refine blk_drew ?_ | refine blk_alloc ?_ _));refine blk_put (cs:=#[.int .i64 t871,.int .i64 0]) ?_ 1 _ rfl;(with_reducible repeat (first | refine blk_drewN ?_ _ | refine blk_drew ?_ | refine blk_alloc ?_ _));refine blk_put (cs:=#[.int .i64 0,.int .i64 0]) ?_ 0 _ rfl;(with_reducible repeat (first | refine blk_drewN ?_ _ | refine blk_drew ?_ | refine blk_alloc ?_ _));exact BK873.out) hb);replace HB:=sb_ HB hb;(try clear hb)))
       replace HO_865000:=a0_ (Kd.R_drew HO_865000.out);replace HO_865001:=a0_ (Kd.N_drew HO_865001.out);replace BK864:=a0_ (blk_drew BK864.out);replace BK865:=a0_ (blk_drew BK865.out);replace BK873:=a0_ (blk_drew BK873.out);replace HB:=a0_ (below_drew1 HB.out);refine start_ (n:=11) (S:=fun w'=>w'.cell? ⟨gb864,0,none⟩=some (.slice Ao9 t855.length co9)∧w'.cell? ⟨gb864,1,none⟩=some (.slice Ao12 t858.length co12)∧w'.cell? ⟨gb865,0,none⟩=some (.int .i64 t862)∧w'.cell? ⟨gb865,1,none⟩=some (.int .i64 t863)∧w'.cell? ⟨gb873,0,none⟩=some (.int .i64 t871)∧w'.cell? ⟨gb873,1,none⟩=some (.int .i64 t872)) (ds:=[]) (Array.replicate 11 false) (by kernel_rfl) rfl rfl ⟨bc_,bc_,bc_,bc_,bc_,bc_⟩ (fun hHeld=>?_);refine with_tabW laws_FnFitsMost.tab10 laws_FnFitsMost.bits10 (fun HT_ HW_=>?_);generalize w60.drew=w61 at HO_865000 HO_865001 BK864 BK865 BK873 HB hHeld ⊢
       refine pu_ HT_ 3 57 (bm 11 8) ?_;refine pu_ HT_ 5 59 (bm 11 40) ?_;refine ta6_ HT_ HW_ 0 54 (bm 11 41) hHeld ?_;refine ta6_ HT_ HW_ 1 55 (bm 11 43) hHeld ?_;refine ta6_ HT_ HW_ 4 58 (bm 11 59) hHeld ?_;refine ta6_ HT_ HW_ 6 60 (bm 11 123) hHeld ?_;refine pu_ HT_ 7 61 (bm 11 251) ?_;refine pu_ HT_ 8 62 (bm 11 507) ?_;refine one_ (i:=2) (N:=some 56) (bm 11 511) rfl rfl (one_of HT_.out (by kernel_rfl)) (by decide) (fun K hK=>?_);refine goes_ Tryd.func34 (by kernel_rfl) rfl #[.agg #[.slice Ao9 t855.length co9,.slice Ao12 t858.length co12],.agg #[.int .i64 t862,.int .i64 t863]] (by rfl) rfl rfl ma_ ?_
       with_reducible refine (laws_luMost.calls kj4 _ _ t855 _ _ t858 t862 t863 t875 _ ?side1 ?side2 ?side3 ?side4 ?side5 A47.out).mono ?_
       (case side1=>repeat (first | exact (Kd.R_reads' HO_865000.out).2.2 | (with_reducible refine Kd.C_alloc ?_ _) | (with_reducible refine Kd.C_drewN ?_ _) | (with_reducible refine Kd.C_drew ?_)))
       (case side2=>exact (Kd.R_reads' HO_865000.out).2.1)
       (case side3=>repeat (first | exact (Kd.N_reads' HO_865001.out).2.2 | (with_reducible refine Kd.C_alloc ?_ _) | (with_reducible refine Kd.C_drewN ?_ _) | (with_reducible refine Kd.C_drew ?_)))
       (case side4=>exact (Kd.N_reads' HO_865001.out).2.1)
       (case side5=>exact ErrW.below HE.out hB_)
       rintro e w62 ⟨rfl,hb⟩;refine⟨_,rfl,?_⟩;replace HO_865000:=rb_ HO_865000 hb;replace HO_865001:=nb_ HO_865001 hb;replace BK864:=vb_ BK864 hb;replace BK865:=vb_ BK865 hb;replace BK873:=vb_ BK873 hb;replace HB:=sb_ HB hb
       (try clear hb)
       (try clear hb2)
       (try clear hk)
       (try clear hi)
       refine hK.out _ _ ⟨bc_,bc_,bc_,bc_,bc_,bc_⟩ (fun hHeld=>?_);clear hK K;refine no_ (h:=?_);refine pu_ HT_ 9 63 (bm 11 1023) ?_;refine pu_ HT_ 10 2 (bm 11 2047) ?_;refine done_ (done_of HT_.out (by kernel_rfl)) ?_
       try go_wp2
       go_ret;exact⟨by first | rfl | (simp [errW_none,errW_some] <;> rfl) | (simp only [← hji49];first | rfl | (simp [errW_none,errW_some] <;> rfl)) | (simp [*,errW_none,errW_some] <;> rfl),hB_⟩
     ·
      rw [if_neg c46] at H;have c46b0:(t874==1)=false:=beq_eq_false_iff_ne.mpr c46;have c46b1:(t874 != 1)=true:=bne_iff_ne.mpr c46;replace H:=Option.bind_eq_some_iff.mp H;obtain⟨t876,A630,H⟩:=H
      (try dsimp only at H)
      have A63:=Aside0.mk A630;clear A630;obtain rfl:=Option.some.inj H;have hnb64:=NB864_865.out;have hnc64:=NB865_864.out;have hcz65_0:=c20_ BK864;have hcz65_1:=c21_ BK864;have hfz65_0:=fz_ BK864 0;have hfz65_1:=fz_ BK864 1;have hcz66_0:=c20_ BK865;have hcz66_1:=c21_ BK865;have hfz66_0:=fz_ BK865 0;have hfz66_1:=fz_ BK865 1
      go_wp2_with (first | ((with_reducible refine gate_callee (f:=22) rfl ?_);refine gL_ (some 45) Tryd.func22 #[.agg #[.slice Ao9 t855.length co9,.slice Ao12 t858.length co12],.agg #[.int .i64 t862,.int .i64 t863]] (h:=?_);(with_reducible refine (impl_PlateFar.calls _ _ t855 _ _ t858 t862 t863 t871 t872 _ ?side1 ?side2 ?side3 ?side4 ?side5 A44.out).mono ?_);(case side1=>repeat (first | exact (Kd.R_reads' HO_865000.out).2.2 | (with_reducible refine Kd.C_alloc ?_ _) | (with_reducible refine Kd.C_drewN ?_ _) | (with_reducible refine Kd.C_drew ?_)));(case side2=>exact (Kd.R_reads' HO_865000.out).2.1);(case side3=>repeat (first | exact (Kd.N_reads' HO_865001.out).2.2 | (with_reducible refine Kd.C_alloc ?_ _) | (with_reducible refine Kd.C_drewN ?_ _) | (with_reducible refine Kd.C_drew ?_)));(case side4=>exact (Kd.N_reads' HO_865001.out).2.1);(case side5=>exact ErrW.below HE.out hB_);rintro e w67 ⟨rfl,hb⟩;refine⟨_,rfl,?_⟩;replace HO_865000:=rb_ HO_865000 hb;replace HO_865001:=nb_ HO_865001 hb;replace BK864:=vb_ BK864 hb;replace BK865:=vb_ BK865 hb;replace HB:=sb_ HB hb;(try clear hb)) | ((with_reducible refine gate_dst (N:=7) rfl ?_);refine bx_ (N:=7) (cs:=#[.int .i64 0,.int .i64 0]) (t:=35) (h:=?_);intro gb873 hg w68 hbox hb;have BK873:=a0_ (hbox);have GW873:=gh_ HB hg;have GE873:=gh_ HB hg;have NB864_873:=nl_ BK864 hg;have NB873_864:=nr_ BK864 hg;have NB865_873:=nl_ BK865 hg;have NB873_865:=nr_ BK865 hg;replace HO_865000:=rb_ HO_865000 hb;replace HO_865001:=a0_ (Kd.N_below (Kd.N_elderB (uN_ HO_865001) gb873 (Nat.le_of_eq hg.symm)) hb);replace BK864:=vb_ BK864 hb;replace BK865:=vb_ BK865 hb;replace HB:=sb_ HB hb;clear hb hbox hg;have hnb69:=NB873_864.out;have hnc69:=NB864_873.out;have hnb70:=NB873_865.out;have hnc70:=NB865_873.out;have hcz71_0:=c20_ BK873;have hcz71_1:=c21_ BK873;have hfz71_0:=fz_ BK873 0;have hfz71_1:=fz_ BK873 1;have hcz72_0:=c20_ BK864;have hcz72_1:=c21_ BK864;have hfz72_0:=fz_ BK864 0;have hfz72_1:=fz_ BK864 1;have hcz73_0:=c20_ BK865;have hcz73_1:=c21_ BK865;have hfz73_0:=fz_ BK865 0;have hfz73_1:=fz_ BK865 1) | ((with_reducible refine gate_callee (f:=16) rfl ?_);refine gL_ (some 48) Tryd.func16 #[.agg #[.slice Ao9 t855.length co9,.slice Ao12 t858.length co12],.agg #[.int .i64 t862,.int .i64 t863]] (h:=?_);(with_reducible refine (impl_PlateIn.calls _ _ t855 _ _ t858 t862 t863 t874 _ ?side1 ?side2 ?side3 ?side4 A45.out).mono ?_);(case side1=>refine (Kd.R_reads' (e:=28) (base:=w.heap.size) (ok:=fun k_=>k_≠gb865) (n:=t855.length) (c:=co9) ?_).2.2;exact (by (with_reducible repeat (first | apply Kd.R_alloc | apply Kd.R_drewN | apply Kd.R_drew));exact (Kd.R_mono (Kd.R_far (p:=⟨gb873,1,none⟩) (Kd.R_far (p:=⟨gb873,0,none⟩) (Kd.R_types HO_865000.out BK873.out (by decide)) (fun _ hk=>hk.2) (.int .i64 t871)) (fun _ hk=>hk.2) (.int .i64 t872)) (fun _ h_=>h_.1))));(case side2=>exact (Kd.R_reads' HO_865000.out).2.1);(case side3=>refine (Kd.N_reads' (e:=23) (base:=w.heap.size) (ok:=fun k_=>((some k_≠(.slice Ao9 t855.length co9:Value).ownBlock∧(k_≠gb864∧k_≠gb865))∧k_≠gb873)) (n:=t858.length) (c:=co12) ?_).2.2;exact (by (with_reducible repeat (first | apply Kd.N_alloc | apply Kd.N_drewN | apply Kd.N_drew));exact (Kd.N_mono (Kd.N_far (p:=⟨gb873,1,none⟩) (Kd.N_far (p:=⟨gb873,0,none⟩) (Kd.N_mono HO_865001.out (fun k_ hk=>(⟨hk,hk.2⟩:_∧k_≠gb873))) (fun _ hk=>hk.2) (.int .i64 t871)) (fun _ hk=>hk.2) (.int .i64 t872)) (fun _ h_=>h_.1))));(case side4=>exact (Kd.N_reads' HO_865001.out).2.1);rintro e w74 ⟨rfl,hb⟩;refine⟨_,rfl,?_⟩;replace HO_865000:=a0_ (Kd.R_below (by (with_reducible repeat (first | apply Kd.R_alloc | apply Kd.R_drewN | apply Kd.R_drew));exact (Kd.R_mono (Kd.R_far (p:=⟨gb873,1,none⟩) (Kd.R_far (p:=⟨gb873,0,none⟩) (Kd.R_types HO_865000.out BK873.out (by decide)) (fun _ hk=>hk.2) (.int .i64 t871)) (fun _ hk=>hk.2) (.int .i64 t872)) (fun _ h_=>h_.1))) hb);replace HO_865001:=a0_ (Kd.N_below (by (with_reducible repeat (first | apply Kd.N_alloc | apply Kd.N_drewN | apply Kd.N_drew));exact (Kd.N_mono (Kd.N_far (p:=⟨gb873,1,none⟩) (Kd.N_far (p:=⟨gb873,0,none⟩) (Kd.N_mono HO_865001.out (fun k_ hk=>(⟨hk,hk.2⟩:_∧k_≠gb873))) (fun _ hk=>hk.2) (.int .i64 t871)) (fun _ hk=>hk.2) (.int .i64 t872)) (fun _ h_=>h_.1))) hb);replace BK864:=a0_ (blk_below (g:=gb864) (o:=.cells #[.slice Ao9 t855.length co9,.slice Ao12 t858.length co12] 26 (0,0)) uf_ hb);replace BK865:=a0_ (blk_below (g:=gb865) (o:=.cells #[.int .i64 t862,.int .i64 t863] 28 (0,0)) uf_ hb);replace BK873:=a0_ (blk_below (g:=gb873) (o:=.cells #[.int .i64 t871,.int .i64 t872] 35 (0,0)) (by (with_reducible repeat (first | refine blk_drewN ?_ _ | refine blk_drew ?_ | refine blk_alloc ?_ _));refine blk_put (cs:=#[.int .i64 t871,.int .i64 0]) ?_ 1 _ rfl;(with_reducible repeat (first | refine blk_drewN ?_ _ | refine blk_drew ?_ | refine blk_alloc ?_ _));refine blk_put (cs:=#[.int .i64 0,.int .i64 0]) ?_ 0 _ rfl;(with_reducible repeat (first | refine blk_drewN ?_ _ | refine blk_drew ?_ | refine blk_alloc ?_ _));exact BK873.out) hb);replace HB:=sb_ HB hb;(try clear hb);have hcz75_0:=c20_ BK864;have hcz75_1:=c21_ BK864;have hfz75_0:=fz_ BK864 0;have hfz75_1:=fz_ BK864 1;have hcz76_0:=c20_ BK865;have hcz76_1:=c21_ BK865;have hfz76_0:=fz_ BK865 0;have hfz76_1:=fz_ BK865 1) | ((with_reducible refine gate_callee (f:=34) rfl ?_);refine gL_ (some 52) Tryd.func34 #[.agg #[.slice Ao9 t855.length co9,.slice Ao12 t858.length co12],.agg #[.int .i64 t862,.int .i64 t863]] (h:=?_);(with_reducible refine (laws_luMost.calls kj4 _ _ t855 _ _ t858 t862 t863 t876 _ ?side1 ?side2 ?side3 ?side4 ?side5 A63.out).mono ?_);(case side1=>repeat (first | exact (Kd.R_reads' HO_865000.out).2.2 | (with_reducible refine Kd.C_alloc ?_ _) | (with_reducible refine Kd.C_drewN ?_ _) | (with_reducible refine Kd.C_drew ?_)));(case side2=>exact (Kd.R_reads' HO_865000.out).2.1);(case side3=>repeat (first | exact (Kd.N_reads' HO_865001.out).2.2 | (with_reducible refine Kd.C_alloc ?_ _) | (with_reducible refine Kd.C_drewN ?_ _) | (with_reducible refine Kd.C_drew ?_)));(case side4=>exact (Kd.N_reads' HO_865001.out).2.1);(case side5=>exact ErrW.below HE.out hB_);rintro e w77 ⟨rfl,hb⟩;refine⟨_,rfl,?_⟩;replace HO_865000:=rb_ HO_865000 hb;replace HO_865001:=nb_ HO_865001 hb;replace BK864:=vb_ BK864 hb;replace BK865:=vb_ BK865 hb;replace BK873:=vb_ BK873 hb;replace HB:=sb_ HB hb;(try clear hb)))
      go_ret;exact⟨rr_,hB_⟩
def laws_FnFitsMost.Pure:Prop:=∀ (l0:List Int),l0.length≤maxLen→l0.length*1≤140737488351232→(∀ x∈l0,(Lit.int .u8 x).wf=true)→∃ k,laws_FnFitsMost.f k l0=some true
theorem laws_FnFitsMost.walk (P:laws_FnFitsMost.Pure)(a0:Option Addr)(len0 cap0:Nat)(z0:List Int)(w:World)(hE:ErrW w)(w0:(a0=none∧len0=0∧cap0=0∧z0=[])∨∃ x,a0=some x∧len0≤cap0∧cap0≤maxLen∧z0.length=cap0∧(∀ i,i<z0.length→w.cell? (x.add i)=some (.int .u8 (z0.getD i 0)))∧∀ n∈z0,(Lit.int .u8 n).wf=true)(y0:len0*1≤140737488351232):
  Calls Tryd.prog 11 #[.slice a0 len0 cap0] w fun e w'=>e=.returned (.bool true)∧Below w.heap.size w w':=by
 obtain⟨l0,rfl,hr0,hm0,hw0,hc0⟩:=ReadsInt.ofRowC w0;obtain⟨k,h⟩:=P l0 hm0 y0 hw0;refine (laws_FnFitsMost.calls k _ _ l0 true w (Kd.C_of_reads (d:=(0:Int)) (h1:=fun _=>rfl) hr0) hc0 hE h).mono ?_;rintro e w' ⟨rfl,hd⟩;exact⟨rfl,hd⟩
end Go.Proofs.YtkefmnmoaomlhaaDoor.X
end
section
set_option linter.unusedVariables false
set_option linter.unusedSimpArgs false
namespace Go.Proofs.YtkefmnmoaomlhaaDoor.X
open Go.RowKit Go.Proofs.YtkefmnmoaomlhaaDoorW.PrintWords Go.Proofs.YtkefmnmoaomlhaaDoorW.PrintLast Go.Proofs.YtkefmnmoaomlhaaDoorW.PrintMore
open Mort (edges loopOk ptOk segOk has meet ed pairOk joined apartB)
theorem rd_es (z:List S28){i:Nat}(h:i<z.length):rd_T61 (esOf z) (i:Int)=edS z i:=esOf_getD z h
theorem seg_ends {s:S61}(h:segOk (sgP s)=true):ptOk (s.f0.f0,s.f0.f1)=true∧ptOk (s.f1.f0,s.f1.f1)=true:=⟨((Mort.segOk_iff _).1 h).1,((Mort.segOk_iff _).1 h).2.1⟩
theorem sHasS {s:S61}{x y:Int}(h:segOk (sgP s)=true)(hp:ptOk (x,y)=true):spec_l2Has.f s.f0.f0 s.f0.f1 s.f1.f0 s.f1.f1 x y=some (has (sgP s) (x,y)):=sHas (seg_ends h).1 (seg_ends h).2 hp
theorem sMeetS {s t:S61}(h:segOk (sgP s)=true)(h':segOk (sgP t)=true):spec_l2Meet.f s.f0.f0 s.f0.f1 s.f1.f0 s.f1.f1 t.f0.f0 t.f0.f1 t.f1.f0 t.f1.f1=some (meet (sgP s) (sgP t)):=sMeet (seg_ends h).1 (seg_ends h).2 (seg_ends h').1 (seg_ends h').2
theorem succ64 {i:Nat}(h:i≤100000):wrap64 ((i:Int)+1)=((i+1:Nat):Int):=by rw [w64i (by omega) (by omega)];rfl
def rowJ (l:List Mort.Pt)(i j:Nat):Bool:=decide ((j+1) % l.length=i) || !meet (ed l i) (ed l j)
def rowI (l:List Mort.Pt)(i:Nat):Bool:=joined (ed l i) (ed l ((i+1) % l.length)) && (List.range' (i+2) (l.length-(i+2))).all (rowJ l i)
section
variable (z:List S28) (h8:z.length≤8) (hall:∀ i,i<z.length→segOk (sgP (edS z i))=true)
include h8 hall
theorem loop_l2 (i:Nat)(hi:i<z.length)(R:Bool)(K:Nat)(hR:∀ k,K≤k→spec_LoopOk.l1 k (z.length:Int) (esOf z) ((i+1:Nat):Int)=some R):
  ∀ (m j k:Nat),z.length-j=m→j≤10→K+m+1≤k→spec_LoopOk.l2 k (z.length:Int) (esOf z) (i:Int) (j:Int)=some ((List.range' j m).all (rowJ (z.map ptP) i) && R):=by
 intro m
 induction m with
 | zero =>
  intro j k hm hj hk;obtain⟨k,rfl⟩:∃ q,k=q+1:=⟨k-1,by omega⟩;simp only [spec_LoopOk.l2];rw [if_neg (by omega),succ64 (by omega),hR k (by omega)];simp
 | succ m ih =>
  intro j k hm hj hk;obtain⟨k,rfl⟩:∃ q,k=q+1:=⟨k-1,by omega⟩;simp only [spec_LoopOk.l2];rw [if_pos (by omega),if_neg (by omega),succ64 (by omega)];have ht:Int.tmod ((j+1:Nat):Int) (z.length:Int)=(((j+1) % z.length:Nat):Int):=rfl;rw [ht,List.range'_succ,List.all_cons];by_cases hq:(j+1) % z.length=i
  ·
   rw [if_pos (by omega),ih (j+1) k (by omega) (by omega) (by omega)];have:rowJ (z.map ptP) i j=true:=by unfold rowJ;rw [List.length_map,decide_eq_true hq];rfl
   rw [this,Bool.true_and]
  ·
   rw [if_neg (by omega),if_pos (by omega),if_pos (by rw [esOf_len];omega),if_pos (by omega),if_pos (by rw [esOf_len];omega)];rw [rd_es z hi,rd_es z (by omega),sMeetS (hall i hi) (hall j (by omega)),Option.bind_some];have hrow:rowJ (z.map ptP) i j = !meet (sgP (edS z i)) (sgP (edS z j)):=by unfold rowJ;rw [List.length_map,decide_eq_false hq,ed_edS,ed_edS];rfl
   rw [hrow]
   cases hm2:meet (sgP (edS z i)) (sgP (edS z j)) with
   | true=>rw [if_pos rfl];simp
   | false=>rw [if_neg (by decide),ih (j+1) k (by omega) (by omega) (by omega)];simp
theorem loop_l1:∀ (m i k:Nat),z.length-i=m→i≤z.length→m*20+1≤k→spec_LoopOk.l1 k (z.length:Int) (esOf z) (i:Int)=some ((List.range' i m).all (rowI (z.map ptP))):=by
 intro m
 induction m with
 | zero =>
  intro i k hm hi hk;obtain⟨k,rfl⟩:∃ q,k=q+1:=⟨k-1,by omega⟩;simp only [spec_LoopOk.l1];rw [if_neg (by omega)];simp
 | succ m ih =>
  intro i k hm hi hk;obtain⟨k,rfl⟩:∃ q,k=q+2:=⟨k-2,by omega⟩;simp only [spec_LoopOk.l1];have hlt:=Nat.mod_lt (i+1) (show 0<z.length by omega);have ht:Int.tmod ((i+1:Nat):Int) (z.length:Int)=(((i+1) % z.length:Nat):Int):=rfl;rw [if_pos (by omega),if_pos (by omega),if_pos (by rw [esOf_len];omega),if_neg (by omega),succ64 (by omega),ht,if_pos (by omega),if_pos (by rw [esOf_len];omega)];rw [rd_es z (by omega:i<z.length),rd_es z hlt];generalize hq:(i+1) % z.length=q at hlt;have o1:=hall i (by omega);have o2:=hall q hlt;rw [sHasS o1 (seg_ends o2).2,Option.bind_some,sHasS o2 (seg_ends o1).1,Option.bind_some];have hrow:rowI (z.map ptP) i=((!has (sgP (edS z i)) (sgP (edS z q)).2 && !has (sgP (edS z q)) (sgP (edS z i)).1) && (List.range' (i+2) (z.length-(i+2))).all (rowJ (z.map ptP) i)):=by
   unfold rowI joined;rw [List.length_map,hq,ed_edS,ed_edS]
  have e2:(ptP (edS z q).f1)=((edS z q).f1.f0,(edS z q).f1.f1):=rfl;rw [List.range'_succ,List.all_cons,hrow]
  show (if has (sgP (edS z i)) (sgP (edS z q)).2=true then _ else spec_LoopOk.j2 (k+1) _ _ _ (has (sgP (edS z q)) (sgP (edS z i)).1))=_
  cases has (sgP (edS z i)) (sgP (edS z q)).2 with
  | true=>rw [if_pos rfl];simp only [spec_LoopOk.j2];simp
  | false =>
   rw [if_neg (by decide)];simp only [spec_LoopOk.j2]
   cases has (sgP (edS z q)) (sgP (edS z i)).1 with
   | true=>rw [if_pos rfl];simp
   | false =>
    rw [if_neg (by decide)];have hw:wrap64 ((i:Int)+2)=((i+2:Nat):Int):=by rw [w64i (by omega) (by omega)];rfl
    rw [hw,loop_l2 z h8 hall i (by omega) _ (m*20+1) (fun k hk=>ih (i+1) k (by omega) (by omega) hk) (z.length-(i+2)) (i+2) k rfl (by omega) (by omega)];simp
end
theorem loop_l0 (z:List S28)(h8:z.length≤8):∀ (m i k:Nat),z.length-i=m→i≤z.length→m+200≤k→(∀ j,j<i→segOk (sgP (edS z j))=true) →
  spec_LoopOk.l0 k (z.length:Int) (esOf z) (i:Int)=some ((List.range' i m).all (fun j=>segOk (sgP (edS z j))) && (List.range' 0 z.length).all (rowI (z.map ptP))):=by
 intro m
 induction m with
 | zero =>
  intro i k hm hi hk hp;obtain⟨k,rfl⟩:∃ q,k=q+1:=⟨k-1,by omega⟩;simp only [spec_LoopOk.l0];rw [if_neg (by omega),show (0:Int)=((0:Nat):Int) from rfl,loop_l1 z h8 (fun j hj=>hp j (by omega)) z.length 0 k (by omega) (by omega) (by omega)];simp
 | succ m ih =>
  intro i k hm hi hk hp;obtain⟨k,rfl⟩:∃ q,k=q+1:=⟨k-1,by omega⟩;simp only [spec_LoopOk.l0];rw [if_pos (by omega),if_pos (by omega),if_pos (by rw [esOf_len];omega),rd_es z (by omega:i<z.length),sSegOk,Option.bind_some,List.range'_succ,List.all_cons]
  show (if segOk (sgP (edS z i))=true then _ else _)=_
  cases ho:segOk (sgP (edS z i)) with
  | true =>
   rw [if_pos rfl,succ64 (by omega),ih (i+1) k (by omega) (by omega) (by omega) (fun j hj=>by
    by_cases hji:j=i
    ·
     rw [hji];exact ho
    ·
     exact hp j (by omega))]
   simp
  | false=>rw [if_neg (by decide)];simp
theorem rows_pairs (l:List Mort.Pt)(h3:3≤l.length):(List.range' 0 l.length).all (rowI l)=(List.range l.length).all fun i=>(List.range l.length).all fun j=>pairOk l i j:=by
 rw [Bool.eq_iff_iff];simp only [List.all_eq_true,List.mem_range'_1,List.mem_range];constructor
 ·
  intro h i hi j hj;have row:∀ i,i<l.length→joined (ed l i) (ed l ((i+1) % l.length))=true∧∀ j,i+2≤j→j<l.length→rowJ l i j=true:=fun i hi=>by
   have:=h i ⟨by omega,by omega⟩;unfold rowI at this;simp only [Bool.and_eq_true,List.all_eq_true,List.mem_range'_1] at this;exact⟨this.1,fun j h1 h2=>this.2 j ⟨h1,by omega⟩⟩
  unfold pairOk;by_cases h1:j≤i
  ·
   rw [if_pos h1]
  ·
   rw [if_neg h1];by_cases h2:j=i+1
   ·
    rw [if_pos h2];have:=(row i hi).1
    rwa [Nat.mod_eq_of_lt (by omega),← h2] at this
   ·
    rw [if_neg h2];by_cases h4:i=0∧j+1=l.length
    ·
     rw [if_pos h4];have:=(row j hj).1
     rwa [h4.2,Nat.mod_self,← h4.1] at this
    ·
     rw [if_neg h4];have:=(row i hi).2 j (by omega) hj;unfold rowJ at this;have hne:(j+1) % l.length≠i:=by
      intro e;by_cases hj2:j+1<l.length
      ·
       rw [Nat.mod_eq_of_lt hj2] at e;omega
      ·
       have e2:j+1=l.length:=by omega
       rw [e2,Nat.mod_self] at e;exact h4 ⟨e.symm,e2⟩
     rwa [decide_eq_false hne,Bool.false_or] at this
 ·
  intro h i hi;have hi2:i<l.length:=by omega
  unfold rowI;simp only [Bool.and_eq_true,List.all_eq_true,List.mem_range'_1];refine⟨?_,fun j hj=>?_⟩
  ·
   by_cases h1:i+1<l.length
   ·
    have:=h i hi2 (i+1) h1;unfold pairOk at this;rw [if_neg (by omega),if_pos rfl] at this
    rwa [Nat.mod_eq_of_lt h1]
   ·
    have e2:i+1=l.length:=by omega
    have:=h 0 (by omega) i hi2;unfold pairOk at this;rw [if_neg (by omega),if_neg (by omega),if_pos ⟨rfl,e2⟩] at this
    rwa [e2,Nat.mod_self]
  ·
   unfold rowJ;by_cases hq:(j+1) % l.length=i
   ·
    rw [decide_eq_true hq];rfl
   ·
    rw [decide_eq_false hq,Bool.false_or];have:=h i hi2 j (by omega);unfold pairOk at this;rw [if_neg (by omega),if_neg (by omega),if_neg (fun e=>hq (by rw [e.2,Nat.mod_self];exact e.1.symm))] at this;exact this
theorem sLoopOk {k:Nat}(hk:300≤k)(z:List S28):spec_LoopOk.f k z=some (loopOk (z.map ptP)):=by
 unfold spec_LoopOk.f loopOk;rw [l6In_told,Option.bind_some,List.length_map];have e0:(decide (3≤(z.length:Int)) && decide ((z.length:Int)≤8))=(decide (3≤z.length) && decide (z.length≤8)):=by
  congr 1
  ·
   rw [decide_eq_decide];omega
  ·
   rw [decide_eq_decide];omega
 rw [e0];by_cases hn:3≤z.length∧z.length≤8
 ·
  rw [decide_eq_true hn.1,decide_eq_true hn.2,Bool.and_self,if_pos rfl,sEdges (by omega) (by omega),Option.bind_some,Bool.true_and,show (0:Int)=((0:Nat):Int) from rfl,loop_l0 z hn.2 z.length 0 k (by omega) (by omega) (by omega) (fun j hj=>by omega)];have h3:=rows_pairs (z.map ptP) (by rw [List.length_map];exact hn.1);rw [List.length_map] at h3;rw [h3,Mort.edges_eq,List.length_map,List.all_map,List.range_eq_range']
  congr 3
  funext i
  show _=segOk (ed (z.map ptP) i)
  rw [ed_edS]
 ·
  have:(decide (3≤z.length) && decide (z.length≤8))=false:=by
   by_cases h1:3≤z.length
   ·
    rw [decide_eq_false (show ¬ z.length≤8 from fun h2=>hn ⟨h1,h2⟩),Bool.and_false]
   ·
    rw [decide_eq_false h1,Bool.false_and]
  rw [this,if_neg (by decide),Bool.false_and]
theorem ok_facts {z:List S28}(h:loopOk (z.map ptP)=true):3≤z.length∧z.length≤8∧∀ i,i<z.length→segOk (sgP (edS z i))=true:=by
 obtain⟨h1,h2,h3,_⟩:=(Mort.loopOk_iff _).1 h;rw [List.length_map] at h1 h2;refine⟨h1,h2,fun i hi=>?_⟩;have:=h3 _ (Mort.mem_edges.2 ⟨i,by simpa using hi,rfl⟩)
 rwa [ed_edS] at this
theorem apart_l1 (a b:List S28)(ha:loopOk (a.map ptP)=true)(hb:loopOk (b.map ptP)=true)(i:Nat)(hi:i<a.length)(R:Bool)(K:Nat)(hR:∀ k,K≤k→spec_l11Apart.l0 k (esOf a) (esOf b) ((i+1:Nat):Int)=some R):
  ∀ (m j k:Nat),b.length-j=m→j≤b.length→K+m+1≤k→spec_l11Apart.l1 k (esOf a) (esOf b) (i:Int) (j:Int)=some ((List.range' j m).all (fun j => !meet (sgP (edS a i)) (sgP (edS b j))) && R):=by
 obtain⟨a3,a8,aok⟩:=ok_facts ha;obtain⟨b3,b8,bok⟩:=ok_facts hb;intro m
 induction m with
 | zero =>
  intro j k hm hj hk;obtain⟨k,rfl⟩:∃ q,k=q+1:=⟨k-1,by omega⟩;simp only [spec_l11Apart.l1];rw [if_neg (by rw [esOf_len];omega),succ64 (by omega),hR k (by omega)];simp
 | succ m ih =>
  intro j k hm hj hk;obtain⟨k,rfl⟩:∃ q,k=q+1:=⟨k-1,by omega⟩;simp only [spec_l11Apart.l1];rw [if_pos (by rw [esOf_len];omega),if_pos (by omega),if_pos (by rw [esOf_len];omega),if_pos (by omega),rd_es a hi,rd_es b (by omega),sMeetS (aok i hi) (bok j (by omega)),Option.bind_some,List.range'_succ,List.all_cons]
  cases meet (sgP (edS a i)) (sgP (edS b j)) with
  | true=>rw [if_pos rfl];simp
  | false=>rw [if_neg (by decide),succ64 (by omega),ih (j+1) k (by omega) (by omega) (by omega)];simp
theorem apart_l0 (a b:List S28)(ha:loopOk (a.map ptP)=true)(hb:loopOk (b.map ptP)=true):
  ∀ (m i k:Nat),a.length-i=m→i≤a.length→m*20+1≤k→spec_l11Apart.l0 k (esOf a) (esOf b) (i:Int)=some ((List.range' i m).all (fun i=>(List.range' 0 b.length).all (fun j => !meet (sgP (edS a i)) (sgP (edS b j))))):=by
 obtain⟨a3,a8,aok⟩:=ok_facts ha;obtain⟨b3,b8,bok⟩:=ok_facts hb;intro m
 induction m with
 | zero =>
  intro i k hm hi hk;obtain⟨k,rfl⟩:∃ q,k=q+1:=⟨k-1,by omega⟩;simp only [spec_l11Apart.l0];rw [if_neg (by rw [esOf_len];omega)];simp
 | succ m ih =>
  intro i k hm hi hk;obtain⟨k,rfl⟩:∃ q,k=q+1:=⟨k-1,by omega⟩;simp only [spec_l11Apart.l0]
  rw [if_pos (by rw [esOf_len];omega),List.range'_succ,List.all_cons,show (0:Int)=((0:Nat):Int) from rfl,
   apart_l1 a b ha hb i (by omega) _ (m*20+1) (fun k hk=>ih (i+1) k (by omega) (by omega) hk) b.length 0 k (by omega) (by omega) (by omega)]
theorem sApart {k:Nat}(hk:300≤k){a b:List S28}(ha:loopOk (a.map ptP)=true)(hb:loopOk (b.map ptP)=true):spec_l11Apart.f k a b=some (apartB (a.map ptP) (b.map ptP)):=by
 obtain⟨a3,a8,aok⟩:=ok_facts ha;obtain⟨b3,b8,bok⟩:=ok_facts hb;unfold spec_l11Apart.f apartB;rw [sEdges (by omega) (by omega),sEdges (by omega) (by omega),Option.bind_some,Option.bind_some,show (0:Int)=((0:Nat):Int) from rfl,apart_l0 a b ha hb a.length 0 k (by omega) (by omega) (by omega)];rw [Mort.edges_eq (a.map ptP),Mort.edges_eq (b.map ptP),List.length_map,List.length_map,List.all_map,List.range_eq_range']
 congr 2
 funext i
 show _=((List.range b.length).map (ed (b.map ptP))).all _
 rw [List.all_map,List.range_eq_range']
 congr 1
 funext j
 show _ = !meet (ed (a.map ptP) i) (ed (b.map ptP) j)
 rw [ed_edS,ed_edS]
end Go.Proofs.YtkefmnmoaomlhaaDoor.X
end
section
set_option linter.unusedVariables false
set_option linter.unusedSimpArgs false
namespace Mort
theorem par_below {l:List Pt}{x y:Rat}(h:par l x y=true):∃ v∈l,y<(v.2:Rat):=by
 have h1:∃ e∈edges l,crsQ e.1.1 e.1.2 e.2.1 e.2.2 x y=true:=by
  refine Classical.byContradiction fun hn=>?_
  have:par l x y=xorAll ((edges l).map fun _=>false):=xorAll_congr fun e he=>by
   cases hc:crsQ e.1.1 e.1.2 e.2.1 e.2.2 x y with
   | true=>exact absurd ⟨e,he,hc⟩ hn
   | false=>rfl
  rw [this] at h;have:∀ (m:List Seg),xorAll (m.map fun _=>false)=false:=fun m=>by
   induction m with
   | nil=>rfl
   | cons a m ih=>rw [List.map_cons];unfold xorAll;rw [ih];rfl
  rw [this] at h;cases h
 obtain⟨e,he,hc⟩:=h1;obtain⟨i,hi,rfl⟩:=mem_edges.1 he;have m1:(ed l i).1∈l:=by
  unfold ed;simp only;rw [List.getD_eq_getElem?_getD,List.getElem?_eq_getElem hi];exact List.getElem_mem hi
 have hq:=Nat.mod_lt (i+1) (show 0<l.length by omega);have m2:(ed l i).2∈l:=by
  unfold ed;simp only;rw [List.getD_eq_getElem?_getD,List.getElem?_eq_getElem hq];exact List.getElem_mem hq
 unfold crsQ at hc;simp only [Bool.or_eq_true,Bool.and_eq_true,decide_eq_true_eq] at hc
 rcases hc with hc | hc
 ·
  exact⟨_,m2,hc.2.1⟩
 ·
  exact⟨_,m1,hc.2.1⟩
theorem inOf_below {l:List Pt}{p:Pt}(h:inOf l p=1):∃ v∈l,p.2<v.2:=by
 have hp:par l p.1 p.2=true:=by
  unfold inOf at h
  split at h
  ·
   omega
  ·
   split at h
   ·
    assumption
   ·
    omega
 obtain⟨v,hv,hlt⟩:=par_below hp;exact⟨v,hv,by exact_mod_cast hlt⟩
theorem vertex_on {l:List Pt}{v:Pt}(h:v∈l):onB l v=true:=by
 obtain⟨i,hi,rfl⟩:=List.getElem_of_mem h;refine (onB_iff l _).2 ⟨ed l i,mem_edges.2 ⟨i,hi,rfl⟩,?_⟩;have:(ed l i).1=l[i]:=by unfold ed;simp only;rw [List.getD_eq_getElem?_getD,List.getElem?_eq_getElem hi];rfl
 rw [← this];exact (has_ends _).1
theorem has_max {l:List Pt}(h:0<l.length):∃ v∈l,∀ u∈l,u.2≤v.2:=by
 induction l with
 | nil=>simp at h
 | cons a m ih =>
  by_cases hm:0<m.length
  ·
   obtain⟨v,hv,hx⟩:=ih hm;by_cases hc:v.2≤a.2
   ·
    refine⟨a,List.mem_cons_self,fun u hu=>?_⟩
    rcases List.mem_cons.1 hu with rfl | hu
    ·
     omega
    ·
     have:=hx u hu;omega
   ·
    refine⟨v,List.mem_cons_of_mem _ hv,fun u hu=>?_⟩
    rcases List.mem_cons.1 hu with rfl | hu
    ·
     omega
    ·
     exact hx u hu
  ·
   obtain rfl:m=[]:=List.eq_nil_of_length_eq_zero (by omega);exact⟨a,List.mem_cons_self,fun u hu=>by rw [List.mem_singleton] at hu;rw [hu];omega⟩
theorem PlateGood.on_outer {P:Plate}(g:PlateGood P){h:List Pt}(hh:h∈P.2){p:Pt}(hp:onB P.1 p=true):inOf h p = -1:=by
 have hl:=g.holes h hh;have same:∀ q,onB P.1 q=true→inOf h q=inOf h (P.1.getD 0 (0,0)):=fun q hq=>on_inOf (ndl_of_ok hl) (ndl_of_ok g.outer) (by rw [apartB_comm];exact g.away h hh) (loop_pos g.outer) hq
 rw [same p hp]
 rcases inOf_vals h (P.1.getD 0 (0,0)) with e | e | e
 ·
  exfalso
  have h1:=(inOf_zero h _).1 e;have h2:=g.on_hole hh h1;have h3:=(inOf_zero P.1 (P.1.getD 0 (0,0))).2 (first_on (loop_pos g.outer));omega
 ·
  exfalso
  obtain⟨v,hv,hmax⟩:=has_max (loop_pos g.outer);have h1:inOf h v=1:=(same v (vertex_on hv)).trans e;obtain⟨u,hu,hlt⟩:=inOf_below h1;have h2:=g.on_hole hh (vertex_on hu);obtain⟨t,ht,hlt2⟩:=inOf_below h2;have:=hmax t ht;omega
 ·
  exact e
theorem plateInOf_spec {P:Plate}(g:PlateGood P)(p:Pt):
  (inOf P.1 p=0→plateInOf P p=0∧∀ h∈P.2,inOf h p = -1)∧((∃ h∈P.2,inOf h p=0)→plateInOf P p=0∧inOf P.1 p=1) ∧
  (inOf P.1 p≠0→(∀ h∈P.2,inOf h p≠0)→plateInOf P p=if inOf P.1 p=1∧∀ h∈P.2,inOf h p = -1 then 1 else -1):=by
 refine⟨fun h0=>?_,fun⟨h,hh,h0⟩=>?_,fun h0 h1=>?_⟩
 ·
  have hon:=(inOf_zero _ _).1 h0;refine⟨?_,fun h hh=>g.on_outer hh hon⟩;unfold plateInOf plateOn;rw [hon,Bool.true_or,if_pos rfl]
 ·
  have hon:=(inOf_zero _ _).1 h0;refine⟨?_,g.on_hole hh hon⟩;have:plateOn P p=true:=by unfold plateOn;rw [Bool.or_eq_true,List.any_eq_true];exact .inr ⟨h,hh,hon⟩
  unfold plateInOf;rw [this,if_pos rfl]
 ·
  have:plateOn P p=false:=by
   unfold plateOn;rw [Bool.or_eq_false_iff];refine⟨?_,?_⟩
   ·
    cases hc:onB P.1 p with
    | true=>exact absurd ((inOf_zero _ _).2 hc) h0
    | false=>rfl
   ·
    rw [List.any_eq_false];intro h hh hc;exact h1 h hh ((inOf_zero _ _).2 hc)
  unfold plateInOf;rw [this,if_neg (by decide)];unfold plateInB;by_cases hq:inOf P.1 p=1∧∀ h∈P.2,inOf h p = -1
  ·
   rw [if_pos hq,if_pos];rw [Bool.and_eq_true,List.all_eq_true];exact⟨beq_iff_eq.2 hq.1,fun h hh=>beq_iff_eq.2 (hq.2 h hh)⟩
  ·
   rw [if_neg hq,if_neg];rw [Bool.and_eq_true,List.all_eq_true];exact fun e=>hq ⟨beq_iff_eq.1 e.1,fun h hh=>beq_iff_eq.1 (e.2 h hh)⟩
end Mort
namespace Go.Proofs.YtkefmnmoaomlhaaDoor.X
open Go.RowKit Go.Proofs.YtkefmnmoaomlhaaDoorW.PrintWords Go.Proofs.YtkefmnmoaomlhaaDoorW.PrintLast Go.Proofs.YtkefmnmoaomlhaaDoorW.PrintMore
open Mort (edges loopOk ptOk segOk has meet ed pairOk joined apartB plateOk plateInOf plateIn PlateGood inOf segMeet)
def pl (o:List S28)(H:List (List S28)):Mort.Plate:=(o.map ptP,H.map (List.map ptP))
theorem fst_pt (z:List S28):(z.map ptP).getD 0 (0,0)=fstP z:=ptP_getD z 0
theorem apart_ix (a b:List S28):apartB (a.map ptP) (b.map ptP)=true ↔ ∀ i,i<a.length→∀ j,j<b.length→meet (sgP (edS a i)) (sgP (edS b j))=false:=by
 rw [Mort.apartB_iff];constructor
 ·
  intro h i hi j hj;rw [← ed_edS,← ed_edS];exact h _ (Mort.mem_edges.2 ⟨i,by simpa using hi,rfl⟩) _ (Mort.mem_edges.2 ⟨j,by simpa using hj,rfl⟩)
 ·
  intro h e he f hf;obtain⟨i,hi,rfl⟩:=Mort.mem_edges.1 he;obtain⟨j,hj,rfl⟩:=Mort.mem_edges.1 hf;rw [ed_edS,ed_edS];exact h i (by simpa using hi) j (by simpa using hj)
theorem meetsB_eq {a b:List S28}(ha:loopOk (a.map ptP)=true)(hb:loopOk (b.map ptP)=true):(!meetsB a b)=apartB (a.map ptP) (b.map ptP):=by
 obtain⟨_,_,aok⟩:=ok_facts ha;obtain⟨_,_,bok⟩:=ok_facts hb;rw [Bool.eq_iff_iff,apart_ix];unfold meetsB;rw [Bool.not_eq_true',List.any_eq_false];constructor
 ·
  intro h i hi j hj;have h1:=h ⟨i,hi⟩ (List.mem_finRange _);rw [Bool.not_eq_true,List.any_eq_false] at h1;have h2:=h1 ⟨j,hj⟩ (List.mem_finRange _)
  cases hm:meet (sgP (edS a i)) (sgP (edS b j)) with
  | false=>rfl
  | true=>exact absurd ((Mort.segMeet_iff _ _).2 ⟨aok i hi,bok j hj,hm⟩) h2
 ·
  intro h i _ h1;rw [List.any_eq_true] at h1;obtain⟨j,_,h2⟩:=h1;have:=h i i.2 j j.2;rw [((Mort.segMeet_iff _ _).1 h2).2.2] at this;cases this
theorem iBodyOk (o:List S28)(H:List (List S28)):bodyOkB o H=plateOk (pl o H):=by
 unfold bodyOkB plateOk pl Mort.nested;simp only [List.length_map]
 match H with
 | [] =>
  simp only [List.length_nil,List.all_nil,List.map_nil,apartAll,nestedAll,List.range'_zero,Bool.and_true,Bool.true_and]
 | [a] =>
  simp only [List.length_cons,List.length_nil,List.all_cons,List.all_nil,List.map_cons,List.map_nil,apartAll,nestedAll,List.range'_succ,List.range'_zero,rowN,okN,Bool.and_true,Bool.true_and,fst_pt,inS,List.getD_cons_zero,beq_self_eq_true,Bool.true_or];cases ho:loopOk (o.map ptP) <;> cases ha:loopOk (a.map ptP) <;> try rfl
  rw [meetsB_eq ho ha];simp [Nat.zero_le]
 | [a,b] =>
  simp only [List.length_cons,List.length_nil,List.all_cons,List.all_nil,List.map_cons,List.map_nil,apartAll,nestedAll,List.range'_succ,List.range'_zero,rowN,okN,Bool.and_true,Bool.true_and,fst_pt,inS,List.getD_cons_zero,List.getD_cons_succ,beq_self_eq_true,Bool.true_or];cases ho:loopOk (o.map ptP) <;> cases ha:loopOk (a.map ptP) <;> cases hb:loopOk (b.map ptP) <;> try rfl
  rw [meetsB_eq ho ha,meetsB_eq ho hb,meetsB_eq ha hb];generalize apartB (o.map ptP) (a.map ptP)=t1;generalize apartB (o.map ptP) (b.map ptP)=t2;generalize apartB (a.map ptP) (b.map ptP)=t3;generalize (inOf (o.map ptP) (fstP a)==1)=t4;generalize (inOf (o.map ptP) (fstP b)==1)=t5;generalize (inOf (b.map ptP) (fstP a) == -1)=t6;generalize (inOf (a.map ptP) (fstP b) == -1)=t7;cases t1 <;> cases t2 <;> cases t3 <;> cases t4 <;> cases t5 <;> cases t6 <;> cases t7 <;> rfl
 | a::b::c::r =>
  rw [decide_eq_false (by simp only [List.length_cons];omega)];rfl
theorem good_of {o:List S28}{H:List (List S28)}(h:plateOk (pl o H)=true):PlateGood (pl o H):=(Mort.plateOk_iff _).1 h
theorem runIn_eq {o:List S28}{H:List (List S28)}(h:plateOk (pl o H)=true)(p:Mort.Pt):runIn p (inS o p) H=plateInOf (pl o H) p:=by
 obtain⟨s1,s2,s3⟩:=Mort.plateInOf_spec (good_of h) p;have gen:∀ (R:List (List S28)) (x:Int),runIn p x R=if (∃ z∈R,inS z p=0) then 0 else if (∃ z∈R,inS z p=1) then -1 else x:=by
  intro R
  induction R with
  | nil=>intro x;simp [runIn]
  | cons z R ih =>
   intro x;rw [runIn_cons,ih];by_cases h0:inS z p=0
   ·
    rw [if_pos h0,if_pos ⟨z,List.mem_cons_self,h0⟩]
   ·
    rw [if_neg h0];have e0:(∃ y∈z::R,inS y p=0) ↔ ∃ y∈R,inS y p=0:=by simp [h0]
    by_cases hR0:∃ y∈R,inS y p=0
    ·
     rw [if_pos hR0,if_pos (e0.2 hR0)]
    ·
     rw [if_neg hR0,if_neg (fun q=>hR0 (e0.1 q))];by_cases h1:inS z p=1
     ·
      rw [if_pos h1,if_pos (show ∃ y∈z::R,inS y p=1 from ⟨z,List.mem_cons_self,h1⟩)]
      split <;> rfl
     ·
      have e1:(∃ y∈z::R,inS y p=1) ↔ ∃ y∈R,inS y p=1:=by simp [h1]
      rw [if_neg h1];by_cases hR1:∃ y∈R,inS y p=1
      ·
       rw [if_pos hR1,if_pos (e1.2 hR1)]
      ·
       rw [if_neg hR1,if_neg (fun q=>hR1 (e1.1 q))]
 have mem:∀ z∈H,z.map ptP∈(pl o H).2:=fun z hz=>List.mem_map_of_mem hz
 rw [gen];by_cases h0:∃ z∈H,inS z p=0
 ·
  rw [if_pos h0];obtain⟨z,hz,e⟩:=h0;exact (s2 ⟨_,mem z hz,e⟩).1.symm
 ·
  rw [if_neg h0];have all0:∀ y∈(pl o H).2,inOf y p≠0:=by
   intro y hy e;obtain⟨z,hz,rfl⟩:=List.mem_map.1 hy;exact h0 ⟨z,hz,e⟩
  have ho:(pl o H).1=o.map ptP:=rfl;by_cases h1:∃ z∈H,inS z p=1
  ·
   rw [if_pos h1];obtain⟨z,hz,e⟩:=h1;have e':inOf (z.map ptP) p=1:=e;by_cases hq:inOf (pl o H).1 p=0
   ·
    have:=(s1 hq).2 _ (mem z hz);omega
   ·
    rw [s3 hq all0,if_neg];intro hh;have:=hh.2 _ (mem z hz);omega
  ·
   rw [if_neg h1];have allm:∀ y∈(pl o H).2,inOf y p = -1:=by
    intro y hy;have h2:=all0 y hy;obtain⟨z,hz,rfl⟩:=List.mem_map.1 hy
    rcases Mort.inOf_vals (z.map ptP) p with e | e | e
    ·
     exact absurd e h2
    ·
     exact absurd ⟨z,hz,e⟩ h1
    ·
     exact e
   show inOf (pl o H).1 p=_
   by_cases hq:inOf (pl o H).1 p=0
   ·
    rw [(s1 hq).1,hq]
   ·
    rw [s3 hq all0]
    rcases Mort.inOf_vals (pl o H).1 p with e | e | e
    ·
     exact absurd e hq
    ·
     rw [if_pos ⟨e,allm⟩,e]
    ·
     rw [if_neg (by omega),e]
theorem iPlateIn (o:List S28)(H:List (List S28))(x y:Int):impl_PlateIn.f o H x y=some (plateIn (pl o H) (x,y)):=by
 unfold impl_PlateIn.f plateIn;rw [iBodyOk]
 cases h:plateOk (pl o H) with
 | false=>rfl
 | true =>
  cases hp:ptOk (x,y) with
  | false=>rfl
  | true=>rw [runIn_eq h]
end Go.Proofs.YtkefmnmoaomlhaaDoor.X
end
section
set_option linter.unusedVariables false
set_option linter.unusedSimpArgs false
namespace Go.Proofs.YtkefmnmoaomlhaaDoor.X
open Go.RowKit Go.Proofs.YtkefmnmoaomlhaaDoorW.PrintWords Go.Proofs.YtkefmnmoaomlhaaDoorW.PrintLast Go.Proofs.YtkefmnmoaomlhaaDoorW.PrintMore
open Mort (edges loopOk ptOk segOk has meet ed pairOk joined apartB plateOk plateInOf plateIn PlateGood inOf segMeet)
theorem fst_ok {z:List S28}(h:loopOk (z.map ptP)=true):ptOk ((rd_T28 z 0).f0,(rd_T28 z 0).f1)=true:=by
 obtain⟨h3,_,hok⟩:=ok_facts h;exact (seg_ends (hok 0 (by omega))).1
theorem sL3In {z:List S28}{x y:Int}(h:loopOk (z.map ptP)=true)(hp:ptOk (x,y)=true):spec_l3In.f z x y=some (inOf (z.map ptP) (x,y)):=by
 unfold spec_l3In.f;rw [if_pos ⟨h,hp⟩]
theorem sL3Fst {z a:List S28}(h:loopOk (z.map ptP)=true)(ha:loopOk (a.map ptP)=true):spec_l3In.f z (rd_T28 a 0).f0 (rd_T28 a 0).f1=some (inOf (z.map ptP) (fstP a)):=sL3In h (fst_ok ha)
def holeOk (o a:List S28):Bool:=loopOk (a.map ptP) && (inOf (o.map ptP) (fstP a)==1 && apartB (o.map ptP) (a.map ptP))
def pairH (a b:List S28):Bool:=apartB (a.map ptP) (b.map ptP) && (inOf (b.map ptP) (fstP a) == -1 && inOf (a.map ptP) (fstP b) == -1)
theorem plate_hole {o:List S28}{H:List (List S28)}(ho:loopOk (o.map ptP)=true)(i:Nat)(hi:i<H.length){k:Nat}(hk:300≤k):
  spec_PlateOk.l0 (k+2) (i:Int) o H=if holeOk o (rd_L5 H (i:Int)) then spec_PlateOk.l1 k (i:Int) (rd_L5 H (i:Int)) 0 o H else some false:=by
 simp only [spec_PlateOk.l0];rw [if_pos (by omega),if_pos (by omega),sLoopOk (by omega),Option.bind_some];generalize rd_L5 H (i:Int)=a;unfold holeOk
 cases ha:loopOk (a.map ptP) with
 | false=>rw [if_neg (by decide)];simp only [spec_PlateOk.j2];simp
 | true =>
  obtain⟨h3,_,_⟩:=ok_facts ha;rw [if_pos rfl,if_pos (by omega),sL3Fst ho ha,Option.bind_some];by_cases h1:inOf (o.map ptP) (fstP a)=1
  ·
   rw [if_pos h1,sApart (by omega) ho ha,Option.bind_some];simp only [spec_PlateOk.j2];rw [h1];cases apartB (o.map ptP) (a.map ptP) <;> simp
  ·
   rw [if_neg h1,beq_eq_false_iff_ne.2 h1];simp only [spec_PlateOk.j2];simp
theorem sPlateOk {k:Nat}(hk:1000≤k)(o:List S28)(H:List (List S28)):spec_PlateOk.f k o H=some (plateOk (pl o H)):=by
 unfold spec_PlateOk.f;rw [sLoopOk (by omega),Option.bind_some];obtain⟨k,rfl⟩:∃ q,k=q+10:=⟨k-10,by omega⟩
 cases ho:loopOk (o.map ptP) with
 | false =>
  rw [if_neg (by decide)];simp only [spec_PlateOk.j0];unfold plateOk pl;simp only;rw [ho];simp
 | true =>
  rw [if_pos rfl];by_cases h2:H.length≤2
  ·
   rw [decide_eq_false (by omega)];simp only [spec_PlateOk.j0];rw [if_neg (by decide)];unfold plateOk pl Mort.nested;simp only [List.length_map];rw [ho,decide_eq_true h2]
   match H,h2 with
   | [],_=>simp only [spec_PlateOk.l0];simp
   | [a],_ =>
    refine Eq.trans (show spec_PlateOk.l0 (k+9) 0 o [a]=_ from plate_hole (k:=k+7) ho 0 (by simp) (by omega)) ?_;have e1:spec_PlateOk.l1 (k+7) ((0:Nat):Int) a 0 o [a]=some true:=by
     simp only [spec_PlateOk.l1];rw [if_neg (by omega),show wrap64 (((0:Nat):Int)+1)=1 by unfold wrap64;omega];simp only [spec_PlateOk.l0];rw [if_neg (by simp)]
    show (if holeOk o a then spec_PlateOk.l1 (k+7) ((0:Nat):Int) a 0 o [a] else _)=_
    rw [e1];unfold holeOk;simp only [List.map_cons,List.map_nil,List.all_cons,List.all_nil,Bool.and_true,Bool.true_and,fst_pt];generalize loopOk (a.map ptP)=t1;generalize (inOf (o.map ptP) (fstP a)==1)=t2;generalize apartB (o.map ptP) (a.map ptP)=t3;cases t1 <;> cases t2 <;> cases t3 <;> rfl
   | [a,b],_ =>
    refine Eq.trans (show spec_PlateOk.l0 (k+9) 0 o [a,b]=_ from plate_hole (k:=k+7) ho 0 (by simp) (by omega)) ?_;have e1:spec_PlateOk.l1 (k+7) ((0:Nat):Int) a 0 o [a,b]=if holeOk o b then spec_PlateOk.l1 (k+4) ((1:Nat):Int) b 0 o [a,b] else some false:=by
     simp only [spec_PlateOk.l1];rw [if_neg (by omega),show wrap64 (((0:Nat):Int)+1)=((1:Nat):Int) by unfold wrap64;omega,plate_hole (k:=k+4) ho 1 (by simp) (by omega)];rfl
    show (if holeOk o a then spec_PlateOk.l1 (k+7) ((0:Nat):Int) a 0 o [a,b] else _)=_
    rw [e1];have hp:holeOk o a=true→holeOk o b=true→spec_PlateOk.l1 (k+4) ((1:Nat):Int) b 0 o [a,b]=some (pairH b a):=by
     intro h1 h2;have ha:loopOk (a.map ptP)=true:=by unfold holeOk at h1;cases h:loopOk (a.map ptP) with | true=>rfl | false=>rw [h] at h1;cases h1
     have hb:loopOk (b.map ptP)=true:=by unfold holeOk at h2;cases h:loopOk (b.map ptP) with | true=>rfl | false=>rw [h] at h2;cases h2
     obtain⟨a3,_,_⟩:=ok_facts ha;obtain⟨b3,_,_⟩:=ok_facts hb;simp only [spec_PlateOk.l1];rw [if_pos (by omega),if_pos (by omega),if_pos (by simp)];rw [show rd_L5 [a,b] 0=a from rfl,sApart (by omega) hb ha,Option.bind_some];unfold pairH
     cases apartB (b.map ptP) (a.map ptP) with
     | false=>rw [if_neg (by decide)];rfl
     | true =>
      rw [if_pos rfl,if_pos (by omega),sL3Fst ha hb,Option.bind_some];by_cases e1:inOf (a.map ptP) (fstP b) = -1
      ·
       rw [if_pos e1,if_pos (by omega),sL3Fst hb ha,Option.bind_some,e1];by_cases e2:inOf (b.map ptP) (fstP a) = -1
       ·
        rw [if_pos e2,e2];have hw0:wrap64 (0+1)=1:=by unfold wrap64;omega
        rw [hw0,if_neg (by omega)];have hw2:wrap64 (((1:Nat):Int)+1)=2:=by unfold wrap64;omega
        rw [hw2];simp only [spec_PlateOk.l0];rw [if_neg (by simp)];rfl
       ·
        rw [if_neg e2,beq_eq_false_iff_ne.2 e2];rfl
      ·
       rw [if_neg e1,beq_eq_false_iff_ne.2 e1];rfl
    have hc:=Mort.apartB_comm (a.map ptP) (b.map ptP);simp only [List.map_cons,List.map_nil,List.all_cons,List.all_nil,Bool.and_true,Bool.true_and,fst_pt]
    cases h1:holeOk o a with
    | false =>
     rw [if_neg (by decide)];unfold holeOk at h1;revert h1;generalize loopOk (a.map ptP)=t1;generalize (inOf (o.map ptP) (fstP a)==1)=t2;generalize apartB (o.map ptP) (a.map ptP)=t3;intro h1;cases t1 <;> cases t2 <;> cases t3 <;> simp at h1 ⊢
    | true =>
     rw [if_pos rfl]
     cases h2:holeOk o b with
     | false =>
      rw [if_neg (by decide)];unfold holeOk at h2;revert h2;generalize loopOk (b.map ptP)=t1;generalize (inOf (o.map ptP) (fstP b)==1)=t2;generalize apartB (o.map ptP) (b.map ptP)=t3;intro h2;cases t1 <;> cases t2 <;> cases t3 <;> simp at h2 ⊢
     | true =>
      rw [if_pos rfl,hp h1 h2];unfold holeOk at h1 h2;unfold pairH;rw [hc];simp only [Bool.and_eq_true] at h1 h2;rw [h1.1,h1.2.1,h1.2.2,h2.1,h2.2.1,h2.2.2];generalize apartB (b.map ptP) (a.map ptP)=t1;generalize (inOf (b.map ptP) (fstP a) == -1)=t2;generalize (inOf (a.map ptP) (fstP b) == -1)=t3;cases t1 <;> cases t2 <;> cases t3 <;> rfl
  ·
   rw [decide_eq_true (by omega)];simp only [spec_PlateOk.j0];unfold plateOk pl;simp only [List.length_map];rw [decide_eq_false h2];simp
theorem l11In_l0 {o:List S28}{H:List (List S28)}(hH:∀ z∈H,loopOk (z.map ptP)=true){x y:Int}(hp:ptOk (x,y)=true):
  ∀ (m i k:Nat) (u:Int),H.length-i=m→i≤H.length→m<k→H.length≤2→(-1≤u∧u≤1)→spec_l11In.l0 k u (i:Int) o H x y=some ((H.drop i).foldl (fun u z=>mn u (-inS z (x,y))) u):=by
 intro m
 induction m with
 | zero =>
  intro i k u hm hi hk h2 hu;obtain⟨k,rfl⟩:∃ q,k=q+1:=⟨k-1,by omega⟩;simp only [spec_l11In.l0];rw [if_neg (by omega),List.drop_of_length_le (by omega)];rfl
 | succ m ih =>
  intro i k u hm hi hk h2 hu;obtain⟨k,rfl⟩:∃ q,k=q+1:=⟨k-1,by omega⟩;simp only [spec_l11In.l0];have hlt:i<H.length:=by omega
  have hg:rd_L5 H (i:Int)=H[i]:=by show H.getD i []=_;rw [List.getD_eq_getElem?_getD,List.getElem?_eq_getElem hlt];rfl
  rw [if_pos (by omega),if_pos (by omega),hg,sL3In (hH _ (List.getElem_mem hlt)) hp,Option.bind_some,List.drop_eq_getElem_cons hlt,List.foldl_cons];have hv:=Mort.inOf_vals (H[i].map ptP) (x,y);have hw:wrap64 (-inOf (H[i].map ptP) (x,y)) = -inOf (H[i].map ptP) (x,y):=w64i (by omega) (by omega);rw [hw,succ64 (by omega),ih (i+1) k _ (by omega) (by omega) (by omega) h2 (by unfold mn;split <;> omega)];rfl
theorem sL11In {k:Nat}(hk:10≤k){o:List S28}{H:List (List S28)}(h:plateOk (pl o H)=true){x y:Int}(hp:ptOk (x,y)=true):spec_l11In.f k o H x y=some (plateInOf (pl o H) (x,y)):=by
 have g:=good_of h;have ho:loopOk (o.map ptP)=true:=g.outer;have hH:∀ z∈H,loopOk (z.map ptP)=true:=fun z hz=>g.holes _ (List.mem_map_of_mem hz)
 have h2:H.length≤2:=by have:=g.few;unfold pl at this;simpa using this
 unfold spec_l11In.f;rw [sL3In ho hp,Option.bind_some,show (0:Int)=((0:Nat):Int) from rfl,l11In_l0 hH hp H.length 0 k _ (by omega) (by omega) (by omega) h2 (by have:=Mort.inOf_vals (o.map ptP) (x,y);omega),List.drop_zero];obtain⟨s1,s2,s3⟩:=Mort.plateInOf_spec g (x,y);have gen:∀ (R:List (List S28)) (u:Int),(-1≤u∧u≤1)→R.foldl (fun u z=>mn u (-inS z (x,y))) u=if (∃ z∈R,inS z (x,y)=1) then -1 else if (∃ z∈R,inS z (x,y)=0) then (if u<0 then u else 0) else u:=by
  intro R
  induction R with
  | nil=>intro u _;simp
  | cons z R ih =>
   intro u hu;rw [List.foldl_cons];have hz:=Mort.inOf_vals (z.map ptP) (x,y);have hz':inS z (x,y)=0∨inS z (x,y)=1∨inS z (x,y) = -1:=hz;rw [ih _ (by unfold mn;split <;> omega)];have e1:(∃ w∈z::R,inS w (x,y)=1) ↔ inS z (x,y)=1∨∃ w∈R,inS w (x,y)=1:=by simp
   have e0:(∃ w∈z::R,inS w (x,y)=0) ↔ inS z (x,y)=0∨∃ w∈R,inS w (x,y)=0:=by simp
   have m1:inS z (x,y)=1→mn u (-inS z (x,y)) = -1:=fun e=>by rw [e];unfold mn;split <;> omega
   have m0:inS z (x,y)=0→mn u (-inS z (x,y))=if u<0 then u else 0:=fun e=>by rw [e];unfold mn;(repeat' split) <;> omega
   have mm:inS z (x,y) = -1→mn u (-inS z (x,y))=u:=fun e=>by rw [e];unfold mn;split <;> omega
   have mt:(if (if u<0 then u else 0)<0 then (if u<0 then u else 0) else 0)=if u<0 then u else 0:=by (repeat' split) <;> omega
   by_cases r1:∃ w∈R,inS w (x,y)=1
   ·
    rw [if_pos r1,if_pos (e1.2 (.inr r1))]
   ·
    rw [if_neg r1];by_cases r0:∃ w∈R,inS w (x,y)=0
    ·
     rw [if_pos r0]
     rcases hz' with z0 | z1 | zm
     ·
      rw [if_neg (fun q=>(e1.1 q).elim (by rw [z0];decide) r1),if_pos (e0.2 (.inr r0)),m0 z0,mt]
     ·
      rw [if_pos (e1.2 (.inl z1)),m1 z1];rfl
     ·
      rw [if_neg (fun q=>(e1.1 q).elim (by rw [zm];decide) r1),if_pos (e0.2 (.inr r0)),mm zm]
    ·
     rw [if_neg r0]
     rcases hz' with z0 | z1 | zm
     ·
      rw [if_neg (fun q=>(e1.1 q).elim (by rw [z0];decide) r1),if_pos (e0.2 (.inl z0)),m0 z0]
     ·
      rw [if_pos (e1.2 (.inl z1)),m1 z1]
     ·
      rw [if_neg (fun q=>(e1.1 q).elim (by rw [zm];decide) r1),if_neg (fun q=>(e0.1 q).elim (by rw [zm];decide) r0),mm zm]
 have hvo:=Mort.inOf_vals (o.map ptP) (x,y);have hoq:(pl o H).1=o.map ptP:=rfl;have mem:∀ z∈H,z.map ptP∈(pl o H).2:=fun z hz=>List.mem_map_of_mem hz
 rw [gen H _ (by omega)]
 congr 1
 by_cases q0:inOf (o.map ptP) (x,y)=0
 ·
  obtain⟨p1,p2⟩:=s1 q0;rw [if_neg (fun⟨z,hz,e⟩=>by have:=p2 _ (mem z hz);have e':inOf (z.map ptP) (x,y)=1:=e;omega),if_neg (fun⟨z,hz,e⟩=>by have:=p2 _ (mem z hz);have e':inOf (z.map ptP) (x,y)=0:=e;omega),p1,q0]
 ·
  by_cases r0:∃ z∈H,inS z (x,y)=0
  ·
   obtain⟨z,hz,e⟩:=r0;obtain⟨p1,p2⟩:=s2 ⟨_,mem z hz,e⟩;have hno:¬ ∃ w∈H,inS w (x,y)=1:=by
    rintro⟨w,hw,e1⟩;have hon:=(Mort.inOf_zero _ _).1 (show inOf (z.map ptP) (x,y)=0 from e);have e1':inOf (w.map ptP) (x,y)=1:=e1
    match H,h2,hz,hw,g with
    | [a],_,hz,hw,_=>simp only [List.mem_singleton] at hz hw;subst hz;subst hw;have e':inOf (w.map ptP) (x,y)=0:=e;omega
    | [a,b],_,hz,hw,g =>
     obtain⟨o1,o2⟩:=Mort.PlateGood.on_other g (a:=a.map ptP) (b:=b.map ptP) rfl (p:=(x,y));have e':inOf (z.map ptP) (x,y)=0:=e;simp only [List.mem_cons,List.not_mem_nil,or_false] at hz hw
     rcases hz with rfl | rfl <;> rcases hw with rfl | rfl
     ·
      omega
     ·
      have:=o1 hon;omega
     ·
      have:=o2 hon;omega
     ·
      omega
   have p2':inOf (o.map ptP) (x,y)=1:=p2;rw [if_neg hno,if_pos ⟨z,hz,e⟩,p1,p2',if_neg (by omega)]
  ·
   have all0:∀ y'∈(pl o H).2,inOf y' (x,y)≠0:=by
    intro y' hy e;obtain⟨z,hz,rfl⟩:=List.mem_map.1 hy;exact r0 ⟨z,hz,e⟩
   rw [s3 q0 all0];by_cases r1:∃ z∈H,inS z (x,y)=1
   ·
    rw [if_pos r1,if_neg];rintro⟨_,hh⟩;obtain⟨z,hz,e⟩:=r1;have:=hh _ (mem z hz);have e':inOf (z.map ptP) (x,y)=1:=e;omega
   ·
    rw [if_neg r1,if_neg r0];have allm:∀ y'∈(pl o H).2,inOf y' (x,y) = -1:=by
     intro y' hy;have h2:=all0 y' hy;obtain⟨z,hz,rfl⟩:=List.mem_map.1 hy
     rcases Mort.inOf_vals (z.map ptP) (x,y) with e | e | e
     ·
      exact absurd e h2
     ·
      exact absurd ⟨z,hz,e⟩ r1
     ·
      exact e
    rw [hoq]
    rcases hvo with e | e | e
    ·
     exact absurd e q0
    ·
     rw [if_pos ⟨e,allm⟩,e]
    ·
     rw [if_neg (by omega),e]
end Go.Proofs.YtkefmnmoaomlhaaDoor.X
end
section
set_option linter.unusedVariables false
set_option linter.unusedSimpArgs false
namespace Mort
def farL (es:List Seg)(p:Pt):Frac:=match es with
 | []=>(0,0)
 | e::r=>r.foldl (fun a s=>least a (segFar s p)) (segFar e p)
def plateFar (P:Plate)(p:Pt):Frac:=if plateOk P && ptOk p then farL (plateEdges P) p else (0,0)
def toolOk (q:Int):Bool:=decide (1≤q) && decide (q≤9)
def toolFits (P:Plate)(q:Int)(p:Pt):Bool:=plateOk P && (toolOk q && (ptOk p && (plateInOf P p==1 && decide (0≤fracCmp (farL (plateEdges P) p) (q,1)))))
theorem fold_least {p:Pt}(hp:ptOk p=true):∀ (r:List Seg) (a:Frac),fracOk a=true→(∀ e∈r,segOk e=true) →
  fracOk (r.foldl (fun a s=>least a (segFar s p)) a)=true∧val (r.foldl (fun a s=>least a (segFar s p)) a)≤val a∧(∀ e∈r,val (r.foldl (fun a s=>least a (segFar s p)) a)≤val (segFar e p)) ∧
  (r.foldl (fun a s=>least a (segFar s p)) a=a∨∃ e∈r,r.foldl (fun a s=>least a (segFar s p)) a=segFar e p):=by
 intro r
 induction r with
 | nil=>intro a ha _;exact⟨ha,Rat.le_refl,fun e he=>by simp at he,.inl rfl⟩
 | cons s r ih =>
  intro a ha hr;have hs:=(segFar_ok (hr s List.mem_cons_self) hp).1;obtain⟨⟨l1,l2⟩,l3⟩:=val_least ha hs;obtain⟨i1,i2,i3,i4⟩:=ih (least a (segFar s p)) (least_ok ha hs) (fun e he=>hr e (List.mem_cons_of_mem _ he));rw [List.foldl_cons];refine⟨i1,Rat.le_trans i2 l1,fun e he=>?_,?_⟩
  ·
   rcases List.mem_cons.1 he with rfl | he
   ·
    exact Rat.le_trans i2 l2
   ·
    exact i3 e he
  ·
   rcases i4 with h | ⟨e,he,h⟩
   ·
    rw [h]
    rcases l3 with h3 | h3
    ·
     exact .inl h3
    ·
     exact .inr ⟨s,List.mem_cons_self,h3⟩
   ·
    exact .inr ⟨e,List.mem_cons_of_mem _ he,h⟩
theorem farL_spec {es:List Seg}{p:Pt}(hp:ptOk p=true)(hne:0<es.length)(hok:∀ e∈es,segOk e=true):
  fracOk (farL es p)=true∧(∀ e∈es,val (farL es p)≤val (segFar e p))∧∃ e∈es,farL es p=segFar e p:=by
 cases es with
 | nil=>simp at hne
 | cons e r =>
  obtain⟨i1,i2,i3,i4⟩:=fold_least hp r (segFar e p) (segFar_ok (hok e List.mem_cons_self) hp).1 (fun s hs=>hok s (List.mem_cons_of_mem _ hs));refine⟨i1,fun s hs=>?_,?_⟩
  ·
   rcases List.mem_cons.1 hs with rfl | hs
   ·
    exact i2
   ·
    exact i3 s hs
  ·
   rcases i4 with h | ⟨s,hs,h⟩
   ·
    exact⟨e,List.mem_cons_self,h⟩
   ·
    exact⟨s,List.mem_cons_of_mem _ hs,h⟩
theorem plateEdges_ok {P:Plate}(g:PlateGood P):(∀ e∈plateEdges P,segOk e=true)∧0<(plateEdges P).length:=by
 refine⟨fun e he=>?_,?_⟩
 ·
  unfold plateEdges at he
  rcases List.mem_append.1 he with he | he
  ·
   exact ((loopOk_iff _).1 g.outer).2.2.1 e he
  ·
   obtain⟨h,hh,he⟩:=List.mem_flatMap.1 he;exact ((loopOk_iff _).1 (g.holes h hh)).2.2.1 e he
 ·
  unfold plateEdges;rw [List.length_append,edges_length];have:=loop_pos g.outer;omega
end Mort
namespace Go.Proofs.YtkefmnmoaomlhaaDoor.X
open Go.RowKit Go.Proofs.YtkefmnmoaomlhaaDoorW.PrintWords Go.Proofs.YtkefmnmoaomlhaaDoorW.PrintLast Go.Proofs.YtkefmnmoaomlhaaDoorW.PrintMore
open Mort (edges loopOk ptOk segOk has meet ed pairOk joined apartB plateOk plateInOf plateIn PlateGood inOf segMeet segFar least fracOk fracCmp cmp0 farL plateFar toolFits plateEdges)
theorem edgesS_eq (z:List S28):edgesS z=esOf z:=by
 unfold edgesS esOf;apply List.ext_getElem
 ·
  simp
 ·
  intro i h1 h2;simp
theorem allEdges_pl (o:List S28)(H:List (List S28)):(allEdges (o::H)).map sgP=plateEdges (pl o H):=by
 unfold allEdges plateEdges pl;rw [List.flatMap_cons,List.map_append,edgesS_eq,esOf_edges]
 congr 1
 induction H with
 | nil=>rfl
 | cons z H ih=>rw [List.flatMap_cons,List.map_append,edgesS_eq,esOf_edges,List.map_cons,List.flatMap_cons,ih]
theorem farE_L (E:List S61)(p:Mort.Pt):farE E p=farL (E.map sgP) p:=by
 cases E with
 | nil=>rfl
 | cons e r =>
  show r.foldl _ _=(r.map sgP).foldl _ _
  rw [List.foldl_map]
theorem iPlateFar (o:List S28)(H:List (List S28))(x y:Int):impl_PlateFar.f o H x y=some ((plateFar (pl o H) (x,y)).1,(plateFar (pl o H) (x,y)).2):=by
 unfold impl_PlateFar.f plateFar;rw [iBodyOk,farE_L,allEdges_pl]
theorem edges_facts {o:List S28}{H:List (List S28)}(h:plateOk (pl o H)=true):(∀ s∈allEdges (o::H),segOk (sgP s)=true)∧0<(allEdges (o::H)).length∧(allEdges (o::H)).length≤24∧H.length≤2:=by
 rw [← iBodyOk] at h;obtain⟨e0,es,hEe,hle⟩:=allEdges_cons h;refine⟨allEdges_ok h,by rw [hEe];simp,by rw [hEe];simp only [List.length_cons];omega,((bodyOkB_iff o H).1 h).1⟩
theorem far_ok {o:List S28}{H:List (List S28)}(h:plateOk (pl o H)=true){p:Mort.Pt}(hp:ptOk p=true):fracOk (farL (plateEdges (pl o H)) p)=true:=by
 obtain⟨h1,h2⟩:=Mort.plateEdges_ok (good_of h);exact (Mort.farL_spec hp h2 h1).1
theorem iToolFits (o:List S28)(H:List (List S28))(q x y:Int):impl_ToolFits.f o H q x y=some (toolFits (pl o H) q (x,y)):=by
 unfold impl_ToolFits.f toolFits fitsB toolB Mort.toolOk;rw [iBodyOk,farE_L,allEdges_pl]
 cases h:plateOk (pl o H) with
 | false=>rfl
 | true=>rw [runIn_eq h]
theorem sL11Edges {k:Nat}(hk:1000≤k){o:List S28}{H:List (List S28)}(h:plateOk (pl o H)=true):spec_l11Edges.f k o H=some (allEdges (o::H)):=by
 have g:=good_of h;obtain⟨o3,o8,_⟩:=ok_facts (z:=o) g.outer;have hH:∀ z∈H,z.length≤8:=fun z hz=>(ok_facts (g.holes _ (List.mem_map_of_mem hz))).2.1
 have h2:H.length≤2:=(edges_facts h).2.2.2;have loop:∀ (m i k:Nat) (acc:List S61),H.length-i=m→i≤H.length→m+20≤k→acc.length≤100*(i+1)→spec_l11Edges.l0 k acc (i:Int) o H=some (acc++(H.drop i).flatMap esOf):=by
  intro m
  induction m with
  | zero =>
   intro i k acc hm hi hk ha;obtain⟨k,rfl⟩:∃ q,k=q+1:=⟨k-1,by omega⟩;simp only [spec_l11Edges.l0];rw [if_neg (by omega),List.drop_of_length_le (by omega)];simp
  | succ m ih =>
   intro i k acc hm hi hk ha;obtain⟨k,rfl⟩:∃ q,k=q+1:=⟨k-1,by omega⟩;simp only [spec_l11Edges.l0];have hlt:i<H.length:=by omega
   have hg:rd_L5 H (i:Int)=H[i]:=by show H.getD i []=_;rw [List.getD_eq_getElem?_getD,List.getElem?_eq_getElem hlt];rfl
   have hl:=hH _ (List.getElem_mem hlt);rw [if_pos (by omega),if_pos (by omega),hg,sEdges (by omega) (by omega),Option.bind_some,if_pos (by rw [esOf_len];omega),succ64 (by omega),ih (i+1) k _ (by omega) (by omega) (by omega) (by rw [List.length_append,esOf_len];omega),List.drop_eq_getElem_cons hlt,List.flatMap_cons,List.append_assoc]
 unfold spec_l11Edges.f;rw [sEdges (by omega) (by omega),Option.bind_some];refine (loop H.length 0 k _ (by omega) (by omega) (by omega) (by rw [esOf_len];omega)).trans ?_;rw [List.drop_zero];unfold allEdges;rw [List.flatMap_cons,edgesS_eq]
 congr 2
 have:edgesS=esOf:=funext edgesS_eq;rw [this]
theorem rd_seg {E:List S61}{i:Nat}(h:i<E.length):rd_T61 E (i:Int)=E[i]:=by
 show E.getD i _=_
 rw [List.getD_eq_getElem?_getD,List.getElem?_eq_getElem h];rfl
theorem sL13Near {s:S61}{q x y:Int}(hs:segOk (sgP s)=true)(hp:ptOk (x,y)=true)(h1:1≤q)(h9:q≤9):
  spec_l13Near.f s.f0.f0 s.f0.f1 s.f1.f0 s.f1.f1 q x y=some (decide ((Mort.far (sgP s) (x,y)).1<q*(Mort.far (sgP s) (x,y)).2)):=by
 obtain⟨o1,o2⟩:=seg_ends hs;have hin:=Mort.far_inR hs hp;have e:sgP s=((s.f0.f0,s.f0.f1),(s.f1.f0,s.f1.f1)):=rfl;rw [e] at hin ⊢
 generalize s.f0.f0=a at *;generalize s.f0.f1=b at *;generalize s.f1.f0=c at *;generalize s.f1.f1=d at *;unfold spec_l13Near.f Mort.far at *;simp only [sDot o1 o2 hp,sDot o1 o2 o2,sDot o1 hp hp,sDot o2 hp hp,sCross o1 o2 hp,Option.bind_some];by_cases z:Mort.dot (a,b) (c,d) (x,y)≤0
 ·
  rw [if_pos z,if_pos z];simp only [Int.mul_one]
 ·
  rw [if_neg z,if_neg z];rw [if_neg z] at hin;by_cases z':Mort.dot (a,b) (c,d) (c,d)≤Mort.dot (a,b) (c,d) (x,y)
  ·
   rw [if_pos z',if_pos z'];simp only [Int.mul_one]
  ·
   rw [if_neg z',if_neg z'];rw [if_neg z'] at hin;obtain⟨i1,i2,i3,i4⟩:=hin;simp only at i1 i2 i3 i4 ⊢
   have hc:=Mort.cross_bound o1 o2 hp;have hq:=Mort.sq_bound hc.1 hc.2;have m1:0≤q*Mort.dot (a,b) (c,d) (c,d):=Int.mul_nonneg (by omega) (by omega);have m2:q*Mort.dot (a,b) (c,d) (c,d)≤9*99999:=Int.mul_le_mul h9 i4 (by omega) (by decide);rw [w64i (by omega) (by omega),w64i (by omega) (by omega)]
theorem not_near_iff {s:Mort.Seg}{q:Int}{p:Mort.Pt}(hs:segOk s=true)(hp:ptOk p=true)(h1:1≤q)(h9:q≤9):¬ ((Mort.far s p).1<q*(Mort.far s p).2) ↔ (Mort.val (q,1)≤Mort.val (segFar s p)):=by
 have hin:=Mort.far_inR hs hp;rw [(Mort.segFar_ok hs hp).2,Mort.val_le (by show (1:Int)≤1;decide) hin.2.2.1];simp only [Int.mul_one];omega
theorem sToolFits {k:Nat}(hk:300000≤k)(o:List S28)(H:List (List S28))(q x y:Int):spec_ToolFits.f k o H q x y=some (toolFits (pl o H) q (x,y)):=by
 unfold spec_ToolFits.f toolFits;rw [sPlateOk (by omega),Option.bind_some]
 cases h:plateOk (pl o H) with
 | false=>rw [if_neg (by decide)];rfl
 | true =>
  rw [if_pos rfl,l6In_told,Option.bind_some]
  show (if Mort.toolOk q=true then _ else _)=_
  cases ht:Mort.toolOk q with
  | false=>rw [if_neg (by decide)];rfl
  | true =>
   have hq:1≤q∧q≤9:=by unfold Mort.toolOk at ht;simpa using ht
   rw [if_pos rfl,sPtOk,Option.bind_some]
   cases hp:ptOk (x,y) with
   | false=>rw [if_neg (by decide)];rfl
   | true =>
    obtain⟨e1,e2,e3,_⟩:=edges_facts h;rw [if_pos rfl,sL11Edges (by omega) h,Option.bind_some];unfold spec_l13Fits.f;have loop:∀ (m i k:Nat),(allEdges (o::H)).length-i=m→i≤(allEdges (o::H)).length→m+100≤k →
      spec_l13Fits.l0 k (allEdges (o::H)) q (i:Int) o H x y=some (((allEdges (o::H)).drop i).all (fun s=>decide (¬ ((Mort.far (sgP s) (x,y)).1<q*(Mort.far (sgP s) (x,y)).2))) && plateInOf (pl o H) (x,y)==1):=by
     intro m
     induction m with
     | zero =>
      intro i k hm hi hk;obtain⟨k,rfl⟩:∃ q,k=q+1:=⟨k-1,by omega⟩;simp only [spec_l13Fits.l0];rw [if_neg (by omega),List.drop_of_length_le (by omega),sL11In (by omega) h hp];rfl
     | succ m ih =>
      intro i k hm hi hk;obtain⟨k,rfl⟩:∃ q,k=q+1:=⟨k-1,by omega⟩;simp only [spec_l13Fits.l0];have hlt:i<(allEdges (o::H)).length:=by omega
      rw [if_pos (by omega),if_pos (by omega),rd_seg hlt,sL13Near (e1 _ (List.getElem_mem hlt)) hp hq.1 hq.2,Option.bind_some,List.drop_eq_getElem_cons hlt,List.all_cons];by_cases e:(Mort.far (sgP (allEdges (o::H))[i]) (x,y)).1<q*(Mort.far (sgP (allEdges (o::H))[i]) (x,y)).2
      ·
       rw [decide_eq_true e,if_pos rfl,decide_eq_false (fun hh=>hh e)];rfl
      ·
       rw [decide_eq_false e,if_neg (by decide),succ64 (by omega),ih (i+1) k (by omega) (by omega) (by omega),decide_eq_true e,Bool.true_and]
    rw [show (0:Int)=((0:Nat):Int) from rfl];rw [loop (allEdges (o::H)).length 0 k (by omega) (by omega) (by omega),Option.bind_some,List.drop_zero,Bool.true_and,Bool.true_and,Bool.true_and]
    congr 1
    rw [Bool.and_comm]
    congr 1
    obtain⟨f1,f2,e,he,f3⟩:=Mort.farL_spec hp (Mort.plateEdges_ok (good_of h)).2 (Mort.plateEdges_ok (good_of h)).1;have hqo:fracOk (q,1)=true:=Mort.fracOk_whole (by omega) (by omega);rw [Bool.eq_iff_iff,List.all_eq_true,decide_eq_true_eq];have e0:((0:Nat):Int)=0:=rfl;rw [e0,Mort.cmp_ge f1 hqo];constructor
    ·
     intro hall;rw [f3];rw [← allEdges_pl] at he;obtain⟨s,hs,rfl⟩:=List.mem_map.1 he;have:=hall s hs;rw [decide_eq_true_eq] at this;exact (not_near_iff (e1 s hs) hp hq.1 hq.2).1 this
    ·
     intro hv s hs;rw [decide_eq_true_eq];refine (not_near_iff (e1 s hs) hp hq.1 hq.2).2 (Rat.le_trans hv (f2 _ ?_));rw [← allEdges_pl];exact List.mem_map_of_mem hs
end Go.Proofs.YtkefmnmoaomlhaaDoor.X
end
section
set_option linter.unusedVariables false
set_option linter.unusedSimpArgs false
namespace Go.Proofs.YtkefmnmoaomlhaaDoor.X
open Go.RowKit Go.Proofs.YtkefmnmoaomlhaaDoorW.PrintWords Go.Proofs.YtkefmnmoaomlhaaDoorW.PrintLast Go.Proofs.YtkefmnmoaomlhaaDoorW.PrintMore
def Tells {α:Type}(K:Nat)(f:Nat→Option α)(P:α→Prop):Prop:=∃ a,(∀ k,K≤k→f k=some a)∧P a
namespace Tells
variable {α β:Type} {K:Nat} {P:α→Prop} {Q:β→Prop}
theorem bind {f:Nat→Option α}{g:α→Nat→Option β}(h:Tells K f P)(hg:∀ a,P a→Tells K (g a) Q):Tells K (fun k=>(f k).bind fun a=>g a k) Q:=by
 obtain⟨a,h1,h2⟩:=h;obtain⟨b,h3,h4⟩:=hg a h2;exact⟨b,fun k hk=>by show (f k).bind _=_;rw [h1 k hk,Option.bind_some,h3 k hk],h4⟩
theorem ret (a:α)(h:P a):Tells K (fun _=>some a) P:=⟨a,fun _ _=>rfl,h⟩
theorem ite {c:Prop}[Decidable c]{f g:Nat→Option α}(h1:c→Tells K f P)(h2:¬ c→Tells K g P):Tells K (fun k=>if c then f k else g k) P:=by
 by_cases h:c
 ·
  obtain⟨a,e,p⟩:=h1 h;exact⟨a,fun k hk=>by show (if c then _ else _)=_;rw [if_pos h,e k hk],p⟩
 ·
  obtain⟨a,e,p⟩:=h2 h;exact⟨a,fun k hk=>by show (if c then _ else _)=_;rw [if_neg h,e k hk],p⟩
theorem guard {c:Prop}[Decidable c]{f:Nat→Option α}(h:c)(h1:Tells K f P):Tells K (fun k=>if c then f k else none) P:=ite (fun _=>h1) (fun n=>absurd h n)
theorem nay {c:Prop}[Decidable c]{f:Nat→Option α}(h:¬ c)(h1:Tells K f P):Tells K (fun k=>if c then none else f k) P:=ite (fun n=>absurd n h) (fun _=>h1)
theorem up {K':Nat}{f:Nat→Option α}(hk:K≤K')(h:Tells K f P):Tells K' f P:=by
 obtain⟨a,e,p⟩:=h;exact⟨a,fun k hk'=>e k (by omega),p⟩
theorem mono {P':α→Prop}{f:Nat→Option α}(h:Tells K f P)(hp:∀ a,P a→P' a):Tells K f P':=by
 obtain⟨a,e,p⟩:=h;exact⟨a,e,hp a p⟩
theorem succ {f g:Nat→Option α}(hf:∀ k,f (k+1)=g k)(h:Tells K g P):Tells (K+1) f P:=by
 obtain⟨a,e,p⟩:=h;refine⟨a,fun k hk=>?_,p⟩;obtain⟨k,rfl⟩:∃ q,k=q+1:=⟨k-1,by omega⟩;rw [hf,e k (by omega)]
theorem same {f g:Nat→Option α}(hf:∀ k,f k=g k)(h:Tells K g P):Tells K f P:=by
 obtain⟨a,e,p⟩:=h;exact⟨a,fun k hk=>by rw [hf,e k hk],p⟩
end Tells
section
variable {l:List Int} (hl:Bytes l)
include hl
theorem tPick {K:Nat}(hK:1≤K){p n:Int}(hp:0≤p)(hp':p≤1000000)(hn:1≤n)(hn':n≤1000000):Tells K (fun k=>spec_l6Rd_pick.f k l p n) fun a=>0≤a.1∧a.1<n∧a.2=p+1:=by
 obtain⟨r,h1,h2,h3⟩:=pick_told hl hp hp' hn hn';exact⟨(r,p+1),fun k hk=>h1 k (by omega),h2,h3,rfl⟩
theorem tPt {K:Nat}(hK:1≤K){p:Int}(hp:0≤p)(hp':p≤900000):Tells K (fun k=>spec_l71Pt.f k l p) fun a=>p≤a.2.2∧a.2.2≤p+10:=by
 unfold spec_l71Pt.f;refine Tells.bind (tPick hl hK hp (by omega) (by omega) (by omega)) ?_;rintro⟨r1,q1⟩ ⟨a1,b1,c1⟩;simp only at a1 b1 c1 ⊢
 refine Tells.bind (tPick hl hK (by omega) (by omega) (by omega) (by omega)) ?_;rintro⟨r2,q2⟩ ⟨a2,b2,c2⟩;simp only at a2 b2 c2 ⊢
 refine Tells.bind (tPick hl hK (by omega) (by omega) (by omega) (by omega)) ?_;rintro⟨r3,q3⟩ ⟨a3,b3,c3⟩;simp only at a3 b3 c3 ⊢
 refine Tells.ite (fun h=>?_) (fun h=>Tells.ite (fun h'=>?_) (fun h'=>?_))
 ·
  refine Tells.bind (Tells.ret (P:=fun a=>a=[(-1),10]) _ rfl) ?_;rintro y rfl;refine Tells.bind (tPick hl hK (by omega) (by omega) (by omega) (by omega)) ?_;rintro⟨r4,q4⟩ ⟨a4,b4,c4⟩;simp only at a4 b4 c4 ⊢
  exact Tells.guard (by omega) (Tells.guard (by simpa using b4) (Tells.ret _ (by simp only;omega)))
 ·
  refine Tells.bind (Tells.ret (P:=fun a=>a=[(-1),10]) _ rfl) ?_;rintro y rfl;refine Tells.bind (tPick hl hK (by omega) (by omega) (by omega) (by omega)) ?_;rintro⟨r4,q4⟩ ⟨a4,b4,c4⟩;simp only at a4 b4 c4 ⊢
  exact Tells.guard (by omega) (Tells.guard (by simpa using b4) (Tells.ret _ (by simp only;omega)))
 ·
  exact Tells.ret _ (by simp only;omega)
theorem tBox {K:Nat}(hK:1≤K){p a1 a2 a3 a4:Int}(hp:0≤p)(hp':p≤900000):Tells K (fun k=>spec_l71Box.f k l p a1 a2 a3 a4) fun a=>(3≤a.1.length∧a.1.length≤6)∧p≤a.2∧a.2≤p+10:=by
 unfold spec_l71Box.f;refine Tells.bind (Tells.ret (P:=fun a=>a.length=4) _ rfl) ?_;intro y hy;have hy':(y.length:Int)=4:=by omega
 refine Tells.bind (tPick hl hK hp (by omega) (by omega) (by omega)) ?_;rintro⟨r1,q1⟩ ⟨a1,b1,c1⟩;simp only at a1 b1 c1 ⊢
 rw [hy']
 repeat' first
  | (refine Tells.ret _ ⟨⟨?_,?_⟩,?_,?_⟩ <;> first | omega | (simp;done) | (simp [hy];done) | (simp only [List.length_take];omega))
  | (refine Tells.guard (by omega) ?_)
  | (refine Tells.ite (fun _=>?_) (fun _=>?_))
theorem tLoopL {K:Nat}(hK:1≤K):∀ (m:Nat) (z:List S28) (i p:Int),i<m → -1≤i→i≤100→3≤z.length→z.length≤1000→0≤p→p+10*m≤900000→Tells (K+m+1) (fun k=>spec_l71Loop.l0 k z i l p) fun a=>a.1.length=z.length∧p≤a.2∧a.2≤p+10*m:=by
 intro m
 induction m with
 | zero =>
  intro z i p hm hi hi' hz hz' hp hp';refine Tells.succ (fun k=>by simp only [spec_l71Loop.l0];exact rfl) ?_;exact Tells.ite (fun h=>by omega) (fun _=>Tells.ret _ ⟨rfl,Int.le_refl _,by show p≤p+10*_;omega⟩)
 | succ m ih =>
  intro z i p hm hi hi' hz hz' hp hp';refine Tells.succ (K:=K+(m+1)) (fun k=>by simp only [spec_l71Loop.l0];exact rfl) ?_;refine Tells.ite (fun h=>?_) (fun _=>Tells.ret _ ⟨rfl,Int.le_refl _,by show p≤p+10*_;omega⟩);refine Tells.nay (by omega) ?_;refine Tells.bind (tPt hl (by omega) hp (by omega)) ?_;rintro⟨x,y,q⟩ ⟨h1,h2⟩;simp only at h1 h2 ⊢
  have t1:0≤Int.tmod i z.length:=Int.tmod_nonneg _ (by omega);have t2:Int.tmod i z.length<z.length:=Int.tmod_lt_of_pos _ (by omega);refine Tells.guard t1 (Tells.guard t2 ?_);refine Tells.mono (ih _ (wrap64 (i-1)) q (by unfold wrap64;omega) (by unfold wrap64;omega) (by unfold wrap64;omega) (by rw [List.length_set];omega) (by rw [List.length_set];omega) (by omega) (by omega)) ?_;rintro⟨b,u⟩ ⟨g1,g2,g3⟩;rw [List.length_set] at g1;simp only at g1 g2 g3 ⊢
  omega
theorem tLoop {K:Nat}(hK:20≤K){p:Int}(hp:0≤p)(hp':p≤800000):Tells K (fun k=>spec_l71Loop.f k l p) fun a=>a.1.length≤100∧p≤a.2∧a.2≤p+200:=by
 unfold spec_l71Loop.f;refine Tells.bind (tPick hl (by omega) hp (by omega) (by omega) (by omega)) ?_;rintro⟨r1,q1⟩ ⟨a1,b1,c1⟩;simp only at a1 b1 c1 ⊢
 refine Tells.bind (tPick hl (by omega) (by omega) (by omega) (by omega) (by omega)) ?_;rintro⟨r2,q2⟩ ⟨a2,b2,c2⟩;simp only at a2 b2 c2 ⊢
 refine Tells.bind (tPick hl (by omega) (by omega) (by omega) (by unfold wrap64;omega) (by unfold wrap64;omega)) ?_;rintro⟨r3,q3⟩ ⟨a3,b3,c3⟩;simp only at a3 b3 c3 ⊢
 refine Tells.bind (tPick hl (by omega) (by omega) (by omega) (by unfold wrap64;omega) (by unfold wrap64;omega)) ?_;rintro⟨r4,q4⟩ ⟨a4,b4,c4⟩;simp only at a4 b4 c4 ⊢
 refine Tells.bind (tBox hl (by omega) (by omega) (by omega)) ?_;rintro⟨z,q5⟩ ⟨⟨a5,b5⟩,c5,d5⟩;simp only at a5 b5 c5 d5 ⊢
 refine Tells.bind (tPick hl (by omega) (by omega) (by omega) (by omega) (by omega)) ?_;rintro⟨r6,q6⟩ ⟨a6,b6,c6⟩;simp only at a6 b6 c6 ⊢
 refine Tells.ite (fun _=>?_) (fun _=>Tells.ite (fun _=>?_) (fun _=>Tells.ite (fun _=>?_) (fun _=>?_)))
 ·
  refine Tells.bind (tPt hl (by omega) (by omega) (by omega)) ?_;rintro⟨x,y,q⟩ ⟨h1,h2⟩;simp only at h1 h2 ⊢
  exact Tells.guard (by omega) (Tells.ret _ (by simp only [List.length_append,List.length_cons,List.length_nil];omega))
 ·
  refine Tells.bind (tPick hl (by omega) (by omega) (by omega) (by omega) (by omega)) ?_;rintro⟨r7,q7⟩ ⟨a7,b7,c7⟩;simp only at a7 b7 c7 ⊢
  refine Tells.bind (tPt hl (by omega) (by omega) (by omega)) ?_;rintro⟨x,y,q⟩ ⟨h1,h2⟩;simp only at h1 h2 ⊢
  exact Tells.guard (by omega) (Tells.guard (by omega) (Tells.ret _ (by simp only [List.length_set];omega)))
 ·
  refine Tells.bind (tPick hl (by omega) (by omega) (by omega) (by omega) (by omega)) ?_;rintro⟨r7,q7⟩ ⟨a7,b7,c7⟩;simp only at a7 b7 c7 ⊢
  refine Tells.up (K:=1+7+1) (by omega) (Tells.mono (tLoopL hl (K:=1) (by omega) 7 z r7 q7 (by omega) (by omega) (by omega) (by omega) (by omega) (by omega) (by omega)) ?_);rintro⟨b,u⟩ ⟨g1,g2,g3⟩;simp only at g1 g2 g3 ⊢
  omega
 ·
  exact Tells.ret _ (by simp only;omega)
theorem tTool {K:Nat}(hK:1≤K){p:Int}(hp:0≤p)(hp':p≤800000):Tells K (fun k=>spec_l71Tool.f k l p) fun a=>p≤a.2∧a.2≤p+10:=by
 unfold spec_l71Tool.f;refine Tells.bind (tPick hl (by omega) hp (by omega) (by omega) (by omega)) ?_;rintro⟨r1,q1⟩ ⟨a1,b1,c1⟩;simp only at a1 b1 c1 ⊢
 refine Tells.ite (fun _=>?_) (fun _=>?_)
 ·
  refine Tells.bind (Tells.ret (P:=fun a=>a.length=4) _ rfl) ?_;intro y hy;refine Tells.bind (tPick hl (by omega) (by omega) (by omega) (by omega) (by omega)) ?_;rintro⟨r2,q2⟩ ⟨a2,b2,c2⟩;simp only at a2 b2 c2 ⊢
  exact Tells.guard (by omega) (Tells.guard (by omega) (Tells.ret _ (by simp only;omega)))
 ·
  refine Tells.bind (Tells.ret (P:=fun a=>a.length=10) _ rfl) ?_;intro y hy;refine Tells.bind (tPick hl (by omega) (by omega) (by omega) (by omega) (by omega)) ?_;rintro⟨r2,q2⟩ ⟨a2,b2,c2⟩;simp only at a2 b2 c2 ⊢
  exact Tells.guard (by omega) (Tells.guard (by omega) (Tells.ret _ (by simp only;omega)))
end
section
variable {l:List Int} (hl:Bytes l)
include hl
theorem tGoodL {K:Nat}(hK:1000≤K):∀ (m:Nat) (x3 x4 x5 x6 i p:Int) (o:List S28) (H:List (List S28)),i≤m→i≤100→(0≤x3∧x3≤20)→(0≤x4∧x4≤20)→(3≤x5∧x5≤20)→(3≤x6∧x6≤20)→H.length+m≤100→o.length≤100→0≤p→p+20*m≤900000 →
  Tells (K+m+1) (fun k=>spec_l71Good.l0 k x3 x4 x5 x6 i l p o H) fun a=>a.1.length≤100∧a.2.1.length≤100∧p≤a.2.2∧a.2.2≤p+20*m:=by
 intro m
 induction m with
 | zero =>
  intro x3 x4 x5 x6 i p o H hm hi h3 h4 h5 h6 hH ho hp hp';refine Tells.succ (fun k=>by simp only [spec_l71Good.l0];exact rfl) ?_;exact Tells.ite (fun h=>by omega) (fun _=>Tells.ret _ ⟨ho,by show H.length≤100;omega,Int.le_refl _,by show p≤p+20*_;omega⟩)
 | succ m ih =>
  intro x3 x4 x5 x6 i p o H hm hi h3 h4 h5 h6 hH ho hp hp';refine Tells.succ (K:=K+(m+1)) (fun k=>by simp only [spec_l71Good.l0];exact rfl) ?_;refine Tells.ite (fun h=>?_) (fun _=>Tells.ret _ ⟨ho,by show H.length≤100;omega,Int.le_refl _,by show p≤p+20*_;omega⟩);refine Tells.bind (tPick hl (by omega) hp (by omega) (by unfold wrap64;omega) (by unfold wrap64;omega)) ?_;rintro⟨r1,q1⟩ ⟨a1,b1,c1⟩;simp only at a1 b1 c1 ⊢
  refine Tells.bind (tPick hl (by omega) (by omega) (by omega) (by unfold wrap64;omega) (by unfold wrap64;omega)) ?_;rintro⟨r2,q2⟩ ⟨a2,b2,c2⟩;simp only at a2 b2 c2 ⊢
  refine Tells.bind (tPick hl (by omega) (by omega) (by omega) (by omega) (by omega)) ?_;rintro⟨r3,q3⟩ ⟨a3,b3,c3⟩;simp only at a3 b3 c3 ⊢
  refine Tells.bind (tPick hl (by omega) (by omega) (by omega) (by omega) (by omega)) ?_;rintro⟨r4,q4⟩ ⟨a4,b4,c4⟩;simp only at a4 b4 c4 ⊢
  refine Tells.bind (tBox hl (by omega) (by omega) (by omega)) ?_;rintro⟨z,q5⟩ ⟨_,c5,d5⟩;simp only at c5 d5 ⊢
  refine Tells.bind (Tells.ret (P:=fun a=>a=[]) _ rfl) ?_;rintro y rfl;refine Tells.guard (by simp;omega) ?_;refine Tells.bind (Tells.ret (P:=fun a=>a=H) _ rfl) ?_;rintro y rfl;refine Tells.guard (by omega) ?_;refine Tells.bind (Tells.ret (P:=fun a=>a.length=y.length+1) _ (by simp)) ?_;intro y2 hy2;refine Tells.bind (P:=fun _=>True) ⟨_,fun k hk=>sPlateOk (by omega) o y2,trivial⟩ ?_;intro t _;have hw:wrap64 (i-1)=i-1:=w64i (by omega) (by omega);by_cases hneg:0≤i
  ·
   rw [hw];refine Tells.ite (fun _=>?_) (fun _=>?_)
   ·
    refine Tells.mono (ih x3 x4 x5 x6 (i-1) q5 o y2 (by omega) (by omega) h3 h4 h5 h6 (by omega) ho (by omega) (by omega)) ?_;rintro⟨u1,u2,u3⟩ ⟨g1,g2,g3,g4⟩;simp only at g1 g2 g3 g4 ⊢
    omega
   ·
    refine Tells.mono (ih x3 x4 x5 x6 (i-1) q5 o y (by omega) (by omega) h3 h4 h5 h6 (by omega) ho (by omega) (by omega)) ?_;rintro⟨u1,u2,u3⟩ ⟨g1,g2,g3,g4⟩;simp only at g1 g2 g3 g4 ⊢
    omega
  ·
   omega
theorem tGood {K:Nat}(hK:1010≤K){p:Int}(hp:0≤p)(hp':p≤800000):Tells K (fun k=>spec_l71Good.f k l p) fun a=>a.1.length≤100∧a.2.1.length≤100∧p≤a.2.2∧a.2.2≤p+100:=by
 unfold spec_l71Good.f;refine Tells.bind (tPick hl (by omega) hp (by omega) (by omega) (by omega)) ?_;rintro⟨r1,q1⟩ ⟨a1,b1,c1⟩;simp only at a1 b1 c1 ⊢
 refine Tells.bind (tPick hl (by omega) (by omega) (by omega) (by omega) (by omega)) ?_;rintro⟨r2,q2⟩ ⟨a2,b2,c2⟩;simp only at a2 b2 c2 ⊢
 refine Tells.bind (tPick hl (by omega) (by omega) (by omega) (by unfold wrap64;omega) (by unfold wrap64;omega)) ?_;rintro⟨r3,q3⟩ ⟨a3,b3,c3⟩;have b3':r3<9-r1-3:=by
  have e:wrap64 (wrap64 (9-r1)-3)=9-r1-3:=by unfold wrap64;omega
  simp only at b3;omega
 simp only at a3 c3 ⊢
 refine Tells.bind (tPick hl (by omega) (by omega) (by omega) (by unfold wrap64;omega) (by unfold wrap64;omega)) ?_;rintro⟨r4,q4⟩ ⟨a4,b4,c4⟩;have b4':r4<9-r2-3:=by
  have e:wrap64 (wrap64 (9-r2)-3)=9-r2-3:=by unfold wrap64;omega
  simp only at b4;omega
 simp only at a4 c4 ⊢
 have e1:wrap64 (4+r3)=4+r3:=w64i (by omega) (by omega);have e2:wrap64 (4+r4)=4+r4:=w64i (by omega) (by omega);rw [e1,e2];refine Tells.bind (tBox hl (by omega) (by omega) (by omega)) ?_;rintro⟨z,q5⟩ ⟨⟨_,z5⟩,c5,d5⟩;simp only at z5 c5 d5 ⊢
 refine Tells.bind (tPick hl (by omega) (by omega) (by omega) (by omega) (by omega)) ?_;rintro⟨r6,q6⟩ ⟨a6,b6,c6⟩;simp only at a6 b6 c6 ⊢
 refine Tells.up (K:=1000+2+1) (by omega) (Tells.mono (tGoodL hl (K:=1000) (by omega) 2 r1 r2 (4+r3) (4+r4) r6 q6 z [] (by omega) (by omega) (by omega) (by omega) (by omega) (by omega) (by simp) (by omega) (by omega) (by omega)) ?_);rintro⟨u1,u2,u3⟩ ⟨g1,g2,g3,g4⟩;simp only at g1 g2 g3 g4 ⊢
 omega
theorem tPlate {K:Nat}(hK:1010≤K){p:Int}(hp:0≤p)(hp':p≤700000):Tells K (fun k=>spec_l71Plate.f k l p) fun a=>p≤a.2.2∧a.2.2≤p+1000:=by
 unfold spec_l71Plate.f;refine Tells.bind (tGood hl hK hp (by omega)) ?_;rintro⟨o,H,q⟩ ⟨g1,g2,g3,g4⟩;simp only at g1 g2 g3 g4 ⊢
 refine Tells.bind (tPick hl (by omega) (by omega) (by omega) (by omega) (by omega)) ?_;rintro⟨r1,q1⟩ ⟨a1,b1,c1⟩;simp only at a1 b1 c1 ⊢
 refine Tells.ite (fun _=>?_) (fun _=>Tells.ite (fun _=>?_) (fun _=>Tells.ite (fun _=>?_) (fun _=>?_)))
 ·
  refine Tells.bind (tLoop hl (by omega) (by omega) (by omega)) ?_;rintro⟨z,q2⟩ ⟨h1,h2,h3⟩;simp only at h1 h2 h3 ⊢
  exact Tells.ret _ (by simp only;omega)
 ·
  refine Tells.bind (tLoop hl (by omega) (by omega) (by omega)) ?_;rintro⟨z,q2⟩ ⟨h1,h2,h3⟩;simp only at h1 h2 h3 ⊢
  exact Tells.guard (by omega) (Tells.ret _ (by simp only;omega))
 ·
  refine Tells.bind (Tells.ret (P:=fun a=>a=[]) _ rfl) ?_;rintro y rfl;refine Tells.guard (by simp;omega) ?_;refine Tells.bind (Tells.ret (P:=fun a=>a=o) _ rfl) ?_;rintro y rfl;refine Tells.bind (tPt hl (by omega) (by omega) (by omega)) ?_;rintro⟨x,y',q2⟩ ⟨h1,h2⟩;simp only at h1 h2 ⊢
  exact Tells.guard (by omega) (Tells.ret _ (by simp only;omega))
 ·
  exact Tells.ret _ (by simp only;omega)
theorem tStandL {K:Nat}(hK:300000≤K)(o:List S28)(H:List (List S28))(q:Int):∀ (m:Nat) (i x y p:Int),30-i≤m→0≤i→0≤p→p+20*m≤900000→Tells (K+m+1) (fun k=>spec_l71Stand.l0 k q i l p o H x y) fun _=>True:=by
 intro m
 induction m with
 | zero =>
  intro i x y p hm hi hp hp';refine Tells.succ (fun k=>by simp only [spec_l71Stand.l0];exact rfl) ?_;exact Tells.ite (fun h=>by omega) (fun _=>Tells.ret _ trivial)
 | succ m ih =>
  intro i x y p hm hi hp hp';refine Tells.succ (K:=K+(m+1)) (fun k=>by simp only [spec_l71Stand.l0];exact rfl) ?_;refine Tells.ite (fun h=>?_) (fun _=>Tells.ret _ trivial);refine Tells.bind (tPick hl (by omega) hp (by omega) (by omega) (by omega)) ?_;rintro⟨r1,q1⟩ ⟨a1,b1,c1⟩;simp only at a1 b1 c1 ⊢
  refine Tells.ite (fun _=>?_) (fun _=>Tells.ret _ trivial);refine Tells.bind (P:=fun _=>True) ⟨_,fun k hk=>sToolFits (by omega) o H q x y,trivial⟩ ?_;intro t _;refine Tells.ite (fun _=>Tells.ret _ trivial) (fun _=>?_);refine Tells.bind (tPt hl (by omega) (by omega) (by omega)) ?_;rintro⟨x',y',q2⟩ ⟨h1,h2⟩;simp only at h1 h2 ⊢
  have hw:wrap64 (i+1)=i+1:=w64i (by omega) (by omega);rw [hw];exact ih (i+1) x' y' q2 (by omega) (by omega) (by omega) (by omega)
theorem tStand {K:Nat}(hK:400000≤K){p:Int}(hp:0≤p)(hp':p≤600000):Tells K (fun k=>spec_l71Stand.f k l p) fun _=>True:=by
 unfold spec_l71Stand.f;refine Tells.bind (tPlate hl (by omega) hp (by omega)) ?_;rintro⟨o,H,q⟩ ⟨g3,g4⟩;simp only at g3 g4 ⊢
 refine Tells.bind (tTool hl (by omega) (by omega) (by omega)) ?_;rintro⟨r,q1⟩ ⟨g5,g6⟩;simp only at g5 g6 ⊢
 refine Tells.bind (tPt hl (by omega) (by omega) (by omega)) ?_;rintro⟨x,y,q2⟩ ⟨h1,h2⟩;simp only at h1 h2 ⊢
 exact Tells.up (K:=300000+30+1) (by omega) (tStandL hl (K:=300000) (by omega) o H r 30 0 x y q2 (by omega) (by omega) (by omega) (by omega))
end
theorem drawToolFits (l:List Int)(h:∀ x∈l,(Lit.int .u8 x).wf=true):∃ o H q x y,∀ k,400000≤k→spec_DrawToolFits.f k l=some (o,H,q,x,y):=by
 obtain⟨m,hm,hb⟩:=open_told l h;have ht:Tells 400000 (fun k=>spec_DrawToolFits.f k l) fun _=>True:=by
  refine Tells.same (fun k=>by unfold spec_DrawToolFits.f;rw [hm,Option.bind_some]) ?_;refine Tells.bind (tPick hb (by omega) (by omega) (by omega) (by omega) (by omega)) ?_;rintro⟨r1,q1⟩ ⟨a1,b1,c1⟩;simp only at a1 b1 c1 ⊢
  refine Tells.ite (fun _=>?_) (fun _=>?_)
  ·
   refine Tells.bind (tPlate hb (by omega) (by omega) (by omega)) ?_;rintro⟨o,H,q⟩ ⟨g3,g4⟩;simp only at g3 g4 ⊢
   refine Tells.bind (tTool hb (by omega) (by omega) (by omega)) ?_;rintro⟨r,q2⟩ ⟨g5,g6⟩;simp only at g5 g6 ⊢
   refine Tells.bind (tPt hb (by omega) (by omega) (by omega)) ?_;rintro⟨x,y,q3⟩ _;exact Tells.ret _ trivial
  ·
   refine Tells.bind (tStand hb (by omega) (by omega) (by omega)) ?_;rintro⟨o,H,r,x,y,q3⟩ _;exact Tells.ret _ trivial
 obtain⟨⟨o,H,q,x,y⟩,ht,_⟩:=ht;exact⟨o,H,q,x,y,ht⟩
end Go.Proofs.YtkefmnmoaomlhaaDoor.X
end
section
set_option linter.unusedVariables false
set_option linter.unusedSimpArgs false
namespace Go.Proofs.YtkefmnmoaomlhaaDoor.Pure
open Go.RowKit Go.Proofs.YtkefmnmoaomlhaaDoor.X Go.Proofs.YtkefmnmoaomlhaaDoorW.PrintWords Go.Proofs.YtkefmnmoaomlhaaDoorW.PrintLast
open Mort (ptOk plateOk plateIn plateInOf plateFar toolFits fracCmp fracOk farL plateEdges toolOk)
theorem most_loop {o:List S28}{H:List (List S28)}{x y M:Int}(hM:∀ q,1≤q→q≤9→(toolFits (pl o H) q (x,y)=true ↔ q≤M)):
  ∀ (m:Nat) (u i:Int) (k:Nat),10-i=m→1≤i→m<k→laws_luMost.l0 k u i o H x y=some (if i≤M∧i≤9 then (if M<9 then M else 9) else u):=by
 intro m
 induction m with
 | zero =>
  intro u i k hm hi hk;obtain⟨k,rfl⟩:∃ q,k=q+1:=⟨k-1,by omega⟩;simp only [laws_luMost.l0];rw [if_neg (by omega),if_neg (by omega)]
 | succ m ih =>
  intro u i k hm hi hk;obtain⟨k,rfl⟩:∃ q,k=q+1:=⟨k-1,by omega⟩;simp only [laws_luMost.l0];have hw:wrap64 (i+1)=i+1:=w64i (by omega) (by omega);rw [if_pos (by omega),iToolFits,Option.bind_some,hw];by_cases h:i≤M
  ·
   rw [if_pos ((hM i hi (by omega)).2 h),ih i (i+1) k (by omega) (by omega) (by omega),if_pos (show i≤M∧i≤9 by omega)]
   congr 1
   (repeat' split) <;> omega
  ·
   rw [if_neg (fun e=>h ((hM i hi (by omega)).1 e)),ih u (i+1) k (by omega) (by omega) (by omega),if_neg (by omega),if_neg (by omega)]
theorem FnFitsMost:laws_FnFitsMost.Pure:=by
 intro l _ _ hw;obtain⟨o,H,q,x,y,hd⟩:=drawToolFits l hw;refine⟨400000+1,?_⟩;unfold laws_FnFitsMost.f
 split
 ·
  rfl
 rw [hd _ (by omega)];simp only [Option.bind_some];rw [iToolFits,Option.bind_some,sToolFits (by omega),Option.bind_some,bne_self_eq_false,if_neg (by decide),sPlateOk (by omega),Option.bind_some];have bad:laws_FnFitsMost.j0 (400000+1) q (toolFits (pl o H) q (x,y)) true o H x y=some true:=by
  simp only [laws_FnFitsMost.j0,if_true,sToolFits (show 300000≤400000 by omega),Option.bind_some,beq_self_eq_true]
 cases hP:plateOk (pl o H) with
 | false=>rw [if_neg (by decide)];exact bad
 | true =>
  rw [if_pos rfl,sPtOk,Option.bind_some]
  cases hp:ptOk (x,y) with
  | false=>exact bad
  | true =>
   simp only [laws_FnFitsMost.j0,Bool.not_true,Bool.false_eq_true,if_false];have hf:=far_ok hP hp;have hF:plateFar (pl o H) (x,y)=farL (plateEdges (pl o H)) (x,y):=by unfold plateFar;rw [hP,hp];rfl
   rw [← hF] at hf;have hin:=((Mort.fracOk_iff _).1 hf).1;obtain⟨n1,n2,n3,n4⟩:=hin;have hI:plateIn (pl o H) (x,y)=plateInOf (pl o H) (x,y):=by unfold plateIn;rw [hP,hp];rfl
   have hT:∀ q,1≤q→q≤9→(toolFits (pl o H) q (x,y)=true ↔ plateInOf (pl o H) (x,y)=1∧q*(plateFar (pl o H) (x,y)).2≤(plateFar (pl o H) (x,y)).1):=by
    intro q h1 h9;have hqo:fracOk (q,1)=true:=Mort.fracOk_whole (by omega) (by omega);unfold toolFits toolOk;rw [hP,hp,decide_eq_true h1,decide_eq_true h9,← hF];simp only [Bool.true_and,Bool.and_eq_true,beq_iff_eq,decide_eq_true_eq];rw [Mort.cmp_ge hf hqo,Mort.val_le (by show (1:Int)≤1;decide) n3];simp only [Int.mul_one]
   rw [iPlateFar,Option.bind_some,iPlateIn,Option.bind_some,hI];simp only;generalize plateFar (pl o H) (x,y)=F at *;by_cases hi:plateInOf (pl o H) (x,y)=1
   ·
    rw [if_pos hi];have hM:∀ q,1≤q→q≤9→(toolFits (pl o H) q (x,y)=true ↔ q≤F.1 / F.2):=by
     intro q h1 h9;rw [hT q h1 h9,Int.le_ediv_iff_mul_le (by omega)];exact⟨fun h=>h.2,fun h=>⟨hi,h⟩⟩
    unfold laws_luMost.f;rw [most_loop hM 9 0 1 400000 (by omega) (by omega) (by omega),Option.bind_some,if_neg (by omega)];have htd:Int.tdiv F.1 F.2=F.1 / F.2:=Int.tdiv_eq_ediv_of_nonneg n1;have hnn:0≤F.1 / F.2:=Int.ediv_nonneg n1 (by omega);have hle:F.1 / F.2≤F.1:=Int.ediv_le_self _ n1;rw [htd,w64i (by omega) (by omega)]
    congr 1
    rw [beq_iff_eq];unfold mn
    (repeat' split) <;> omega
   ·
    rw [if_neg hi];have hM:∀ q,1≤q→q≤9→(toolFits (pl o H) q (x,y)=true ↔ q≤0):=by
     intro q h1 h9;rw [hT q h1 h9];exact⟨fun h=>absurd h.1 hi,fun h=>by omega⟩
    unfold laws_luMost.f;rw [most_loop hM 9 0 1 400000 (by omega) (by omega) (by omega),Option.bind_some,if_neg (by omega)];rfl
end Go.Proofs.YtkefmnmoaomlhaaDoor.Pure
end
section
namespace Go.Proofs.YtkefmnmoaomlhaaDoorW.PrintWords
open Go.ChangeShapes Go.WideShapes
theorem sized_ints {H:Type}{enc:TypeId × Value→H}{P:Program}{W:World}{base:Nat}{spare:Nat→Bool}{held:Bool}{t e:TypeId}{k:IntKind}{a:Option Addr}{len cap:Nat}{d:DataW H}{ps:List MemPlace}{ts:List TypeId}{ds:List (DataW H)}{j:Nat}
  (hsz:(DataW.weightsEach P ts ds).all (· ≤ reachBytes)=true) (ht:ts[j]?=some t) (hd:ds[j]?=some d) (hu:P.underlying t=some (.slice e)) (he:P.underlying e=some (.int k)) (hc:P.cellsOf e=1) {B:Nat} (hB:P.bytesOf e=B)
  (h:DataW.Trod enc P W base spare held t (.slice a len cap) d ps):len*B≤140737488351232:=by
 obtain⟨fuel,hf⟩:=h
 rcases open_ints hu he hc hf with ⟨hcs,_⟩ | ⟨x,l,c,zs,hcs,_,hl,_,hz,hx,_,_⟩
 ·
  simp [Value.cells] at hcs;obtain⟨rfl,rfl,rfl⟩:=hcs;simp
 ·
  simp [Value.cells] at hcs;obtain⟨rfl,rfl,rfl⟩:=hcs;obtain⟨hx,_⟩:=Prod.mk.inj hx;subst hx;have z:=sized_slice hsz ht hd hu;rw [hB] at z;have hl2:len≤zs.length:=by
   rw [hz]
   split
   ·
    exact hl
   ·
    exact Nat.le_refl _
  have h1:(lits (H:=H) k (zs.take len)).length+(lits (H:=H) k (zs.drop len)).length=zs.length:=by
   simp [lits];omega
  rw [h1] at z;exact Nat.le_trans (Nat.mul_le_mul_right _ hl2) z
end Go.Proofs.YtkefmnmoaomlhaaDoorW.PrintWords
end
section
set_option linter.unusedVariables false
namespace Go.Proofs.YtkefmnmoaomlhaaDoor.fnFitsMost
open Go Go.ChangeShapes Go.WideShapes Go.ChangeAt Go.RowKit Go.Proofs.YtkefmnmoaomlhaaDoorW
open Go.ChangeMaps (open_string shut_string)
def IsRow (k:IntKind)(w:World)(a:Option Addr)(len cap:Nat)(zs:List Int):Prop:=
 (a=none∧len=0∧cap=0∧zs=[]) ∨
 ∃ x,a=some x∧len≤cap∧cap≤maxLen∧zs.length=cap∧(∀ i,i<zs.length→w.cell? (x.add i)=some (.int k (zs.getD i 0)))∧∀ n∈zs,(Lit.int k n).wf=true
set_option maxRecDepth 100000 in
theorem lifted (os:Os)(started:os.Started)(H:Type)(enc:TypeId × Value→H):
  ReturnsInHanded {} Tryd.checked os 11 .any (fun w args=>(Rows.fnFitsMostSpec.pre enc Tryd.prog Tryd.f11 [] false w args∧laidMet Tryd.prog laidErr w)∧sizedMet enc Tryd.prog Tryd.f11 (OpenSpec.ofChange Rows.fnFitsMostSpec) false w args) (Rows.fnFitsMostSpec.post enc Tryd.prog Tryd.f11 false true false false):=by
 refine returnsInHanded_of_change_and (C:=Tryd.checked) (X:=fun w _=>laidMet Tryd.prog laidErr w) (fun _ _ _ hh h=>h.of_heap hh) own started (by kernel_rfl) Tryd.func11
  (ChangeSpec.witness_at (enc:=enc) (C:=Tryd.checked) (os:=os) (X:=fun w _=>laidMet Tryd.prog laidErr w) false (laidWorld os) #[.slice none 0 0] 8 rfl (by kernel_rfl) (by kernel_rfl) (by kernel_rfl) (by kernel_rfl) (by kernel_rfl) (laidWorld_met os _)) ?_
 intro W base args ds gs before hval0 hW hcnd hsz0 hL _;have hsz:(DataW.weightsEach Tryd.prog (Tryd.f11.params.toList++Rows.fnFitsMostSpec.plain.varTypes Tryd.prog) (ds++gs)).all (· ≤ reachBytes)=true:=hsz0;have hval:∀ (j:Nat) t v,Tryd.f11.params[j]?=some t→args[j]?=some v→Value.okWide Tryd.prog W .any base t v:=hval0;have hW':=hW;obtain⟨p,q,hA0,hV0,rfl,hfz,hnd⟩:=hW;have hA:DataW.TrodAll enc Tryd.prog W 0 (fun _=>true) true Tryd.f11.params.toList args.toList ds p:=hA0;have hV:DataW.TrodVars enc Tryd.prog W (fun _=>true) ["loop.example/mortiser/impl.errNoFrac"] gs q:=hV0;rw [Tryd.params11] at hA hval hsz;obtain⟨v0,vs0,d0,ds0,p0,q0,hargs,rfl,rfl,h0,r0⟩:=trodAll_cons hA;obtain⟨rfl,rfl,rfl⟩:=trodAll_nil r0;obtain rfl:args=#[v0]:=by cases args;simp_all
 obtain⟨a,st,hv,hcs,hs0,hz0⟩:=err_of_laid hL;obtain⟨rfl,rfl⟩:=hV.unique (errVars enc hv trivial _);have hE:ErrW W:=ErrW.of_var hv;obtain⟨a0,len0,cap0,rfl⟩:=okWide_slice Tryd.underlying22 (hval 0 22 v0 rfl rfl);have k0:=h0;have lt0:∀ x∈p0,x.block<W.heap.size:=by obtain⟨m,hm⟩:=k0;exact DataW.trod_lt m _ _ _ hm
 obtain⟨z0,w0⟩:∃ zs,IsRow .u8 W a0 len0 cap0 zs:=by
  obtain⟨fuel,hf⟩:=h0
  rcases open_ints Tryd.underlying22 Tryd.underlying5 (by kernel_rfl) hf with ⟨hcs,_⟩ | ⟨x,l,c,zs,hcs,_,hl,hm,hz,_,hcell,hwz⟩
  ·
   simp [Value.cells] at hcs;obtain⟨rfl,rfl,rfl⟩:=hcs;exact⟨[],.inl ⟨rfl,rfl,rfl,rfl⟩⟩
  ·
   simp [Value.cells] at hcs;obtain⟨rfl,rfl,rfl⟩:=hcs;exact⟨zs,.inr ⟨_,rfl,hl,hm,by simpa using hz,hcell,hwz⟩⟩
 have y0:len0*1≤140737488351232:=PrintWords.sized_ints hsz (j:=0) (t:=22) rfl rfl Tryd.underlying22 Tryd.underlying5 (by kernel_rfl) (by kernel_rfl) h0;clear hA0 hval0 hsz0 hsz;refine (X.laws_FnFitsMost.walk Pure.FnFitsMost a0 len0 cap0 z0 W hE w0 y0).mono fun e W' ⟨he,bel⟩=>?_
 subst he;exact⟨_,rfl,_,_,_,[],_,[.cell 0 0],hW',trodAll_mk1 (shut_bool Tryd.underlying4 _),(trodAll_cons_mk (Below.trod laidOut (by kernel_rfl) (of_decide_eq_true (by kernel_rfl)) k0 bel lt0) trodAll_mk0),errVars enc (errBelow bel hv) trivial _,bel.frame _,fun h=>by cases h⟩
theorem over:Rows.fnFitsMostRow.holds Tryd.pinned (OpenSpec.ofChange Rows.fnFitsMostSpec):=
 OpenClaim.holds_of_wide 11 Tryd.f11 rfl rfl rfl rfl rfl rfl rfl ⟨rfl,rfl,rfl,rfl,rfl⟩ rfl rfl rfl rfl rfl (by kernel_rfl) Tryd.func11 (by kernel_rfl)
  (of_decide_eq_true (by kernel_rfl)) (by unfold Func.isWrapper;first | (rw [if_pos (by decide +kernel)];kernel_rfl) | (rw [if_neg (by decide +kernel)];exact⟨rfl,rfl⟩))
  (fun os started H enc _=>lifted os started H enc)
theorem proved:Rows.FnFitsMostCardSaid:=
 Claim7.holds_tied_plain_at .later [] [.sentinel] true (true,"81de65706e8f648528cfb316c2c65b1eb27649638b9ac8b9a8b267c9286ff7f7") true
  over (fun _ h=>by cases h) (by kernel_rfl) (fun _ h=>by cases h) fnFitsMost_row_tie rfl ⟨rfl,rfl⟩ (by kernel_rfl) rfl
  (fun f fn hf hfn=>by
   obtain rfl:f=11:=Option.some.inj ((show Tryd.prog.funcNamed "loop.example/mortiser/laws.FnFitsMost" = some 11 by kernel_rfl).symm.trans hf) |>.symm
   obtain rfl:fn=Tryd.f11:=(Option.some.inj (Tryd.func11.symm.trans hfn)).symm
   exact⟨by kernel_rfl,fun j t ht=>by
    rw [Tryd.params11] at ht;have h3:t=22:=by
     rcases j with _ | j
     ·
      simpa using ht.symm
     ·
      simp at ht
    subst h3
    exact (show Tryd.prog.wantsStandIn 22=false by kernel_rfl)⟩)
  (by kernel_rfl)
end Go.Proofs.YtkefmnmoaomlhaaDoor.fnFitsMost
namespace Go.Proofs.YtkefmnmoaomlhaaDoor
theorem fnFitsMost_holds:Rows.FnFitsMostCardSaid:=fnFitsMost.proved
end Go.Proofs.YtkefmnmoaomlhaaDoor
end
