/- FnFits: the law returns true for every input, and each input reads behind the call as before; part 5 of 6. No condition. Merged by program out of: FSpecL71Tool, HMeets, HInside, HRings, HRound, HLoopA, HKept. -/
import Derived.Test.YtkefmnmoaomlhaaDoorMFnFits4
import Derived.Deep.LoopGhost
import Derived.Deep.RegionHeld3
import Derived.LaidEqlPtr
import Derived.RegionTactic
import Derived.BigRegion
import Derived.BigGuard
set_option linter.all false
section
namespace Go.Proofs.YtkefmnmoaomlhaaDoor.X
open Go.RowKit Go.Proofs.YtkefmnmoaomlhaaDoorW.PrintWords Go.Proofs.YtkefmnmoaomlhaaDoorW.PrintLast Go.Proofs.YtkefmnmoaomlhaaDoorW.PrintMore
attribute [local go_sem] max2_int min2_int max_two min_two max_three min_three max_four min_four
set_option linter.unusedVariables false
set_option linter.unusedSimpArgs false
def spec_l71Tool.f (k:Nat)(s0_0:List Int)(s0_1:Int):Option (Int × Int):=(spec_l6Rd_pick.f k s0_0 s0_1 24).bind fun bt667=>(if bt667.1=0 then ((some (([0,(-1),10,9]:List Int):List Int)).bind fun y669=>((spec_l6Rd_pick.f k s0_0 bt667.2 4).bind fun bt672=>(if 0≤bt672.1 then (if bt672.1<(y669.length:Int) then (some (rd y669 bt672.1,bt672.2)) else (none)) else (none)))) else ((some (([1,1,1,2,2,3,4,4,5,9]:List Int):List Int)).bind fun y675=>((spec_l6Rd_pick.f k s0_0 bt667.2 10).bind fun bt678=>(if 0≤bt678.1 then (if bt678.1<(y675.length:Int) then (some (rd y675 bt678.1,bt678.2)) else (none)) else (none)))))
set_option maxHeartbeats 8000000 in
set_option maxRecDepth 100000 in
theorem spec_l71Tool.calls (k:Nat)(g:Nat)(s0_0:List Int)(s0_1:Int)(r1:Int)(r2:Int)(w0 w:World)(hI:IsS123 w0 w g s0_0 s0_1)(hB:Below w0.heap.size w0 w)(h:spec_l71Tool.f k s0_0 s0_1=some (r1,r2)):
  Calls Tryd.prog 75 #[.pointer (some ⟨g,0,none⟩)] w fun e w'=>e=.returned (.int .i64 r1)∧IsS123 w0 w' g s0_0 r2∧Below w0.heap.size w0 w'∧KeepBut w w' g none:=by
 have HI0:=Aside0.mk hI;have HK:=a0_ (KeepBut.refl w g none);have HL:=Aside0.mk hB.size;clear hI;have HW0:=Aside0.mk hB.size;have HB:=Aside0.mk hB;clear hB;have H:((spec_l6Rd_pick.f k s0_0 s0_1 24).bind fun bt667=>(if bt667.1=0 then ((some (([0,(-1),10,9]:List Int):List Int)).bind fun y669=>((spec_l6Rd_pick.f k s0_0 bt667.2 4).bind fun bt672=>(if 0≤bt672.1 then (if bt672.1<(y669.length:Int) then (some (rd y669 bt672.1,bt672.2)) else (none)) else (none)))) else ((some (([1,1,1,2,2,3,4,4,5,9]:List Int):List Int)).bind fun y675=>((spec_l6Rd_pick.f k s0_0 bt667.2 10).bind fun bt678=>(if 0≤bt678.1 then (if bt678.1<(y675.length:Int) then (some (rd y675 bt678.1,bt678.2)) else (none)) else (none))))))=some (r1,r2):=h;clear h;replace H:=Option.bind_eq_some_iff.mp H;obtain⟨⟨t667,t668⟩,A20,H⟩:=H
 (try dsimp only at H)
 have A2:=Aside0.mk A20;clear A20;by_cases c3:t667=0
 ·
  rw [if_pos c3] at H;have c3b0:(t667==0)=true:=beq_iff_eq.mpr c3;have c3b1:(t667 != 0)=false:=bne_eq_false_iff_eq.mpr c3;clear c3;obtain⟨y669,hy669⟩:∃ y_:List Int,y_=(([0,(-1),10,9]:List Int)):=⟨_,rfl⟩;replace H:((spec_l6Rd_pick.f k s0_0 t668 4).bind fun bt672=>(if 0≤bt672.1 then (if bt672.1<(y669.length:Int) then (some (rd y669 bt672.1,bt672.2)) else (none)) else (none)))=some (r1,r2):=by first | (rw [hy669];with_reducible exact H) | (have H2_:=(Option.bind_some _ _).symm.trans H;rw [hy669];with_reducible exact H2_) | (have H2_:=(Option.bind_some _ _).symm.trans H;with_reducible exact H2_) | with_reducible exact H | (rw [hy669];exact H) | exact H
  have Ny669:=Aside0.mk hy669;clear hy669;replace H:=Option.bind_eq_some_iff.mp H;obtain⟨⟨t672,t673⟩,A40,H⟩:=H
  (try dsimp only at H)
  have A4:=Aside0.mk A40;clear A40;by_cases c5:0≤t672
  ·
   rw [if_pos c5] at H;have c5b0:decide (0≤t672)=true:=decide_eq_true c5;clear c5;by_cases c6:t672<(y669.length:Int)
   ·
    rw [if_pos c6] at H;have c6b0:decide (t672<(y669.length:Int))=true:=decide_eq_true c6;clear c6;simp only [Option.some.injEq,Prod.mk.injEq] at H;obtain⟨rfl,rfl⟩:=H;go_enter Tryd.func75,Tryd.ntmps75
    go_wp2_with (first | ((with_reducible refine gate_callee (f:=74) rfl ?_);refine gL_ (some 4) Tryd.func74 #[.pointer (some ⟨g,0,none⟩),.int .i64 24] (h:=?_);(with_reducible refine (spec_l6Rd_pick.calls k g s0_0 s0_1 24 t667 t668 w0 _ hI_ hBs_ A2.out).mono ?_);rintro e w7 ⟨rfl,hi,hb,hk⟩;refine⟨_,rfl,?_⟩;replace HK:=kk_ HK hk;replace HB:=a0_ (hb);replace HI0:=a0_ (hi);(try clear hi hb hk)) | ((with_reducible refine gate_dst (N:=6) rfl ?_);refine Kd.R_lit (Kd.int .i64) _ 3 ?hg (N:=6) ?hd (xs:=([0,(-1),10,9]:List Int)) (inner:=[.int .i64 0,.int .i64 (-1),.int .i64 10,.int .i64 9]) (ok:=fun _=>True) (okp:=fun _=>True) ?hr ?hp (fun _ hk=>hk) trivial (Below.refl _ _) (Nat.le_refl _) (by simp) ?_;(case hd=>rfl);(case hg=>rfl);(case hr=>first | (go_simp;done) | (go_simp;rfl));(case hp=>exact (Reps.one (show Kd.M (Kd.int .i64) _ _ _ 0 [.int .i64 0] from rfl) (Reps.one (show Kd.M (Kd.int .i64) _ _ _ (-1) [.int .i64 (-1)] from rfl) (Reps.one (show Kd.M (Kd.int .i64) _ _ _ 10 [.int .i64 10] from rfl) (Reps.one (show Kd.M (Kd.int .i64) _ _ _ 9 [.int .i64 9] from rfl) (Reps.none _ _))))));intro v670 w8 ho9 hb hg_ hnew_;clear hg_ hnew_;(first | rw [← Ny669.out] at ho9 | (simp only [Int.reduceToNat] at ho9;rw [← Ny669.out] at ho9));have HO671:=a0_ (Kd.R_lower ho9 (keep_size (w:=w) (g:=g) (row:=none) (hK_ HK)));replace HK:=kb_ HK hb;replace HB:=a0_ (below_step hBs_ hb);replace HI0:=a0_ (IsS123.below hI_ hb);clear hb ho9) | ((with_reducible refine gate_callee (f:=74) rfl ?_);refine gL_ (some 8) Tryd.func74 #[.pointer (some ⟨g,0,none⟩),.int .i64 4] (h:=?_);(with_reducible refine (spec_l6Rd_pick.calls k g s0_0 t668 4 t672 t673 w0 _ hI_ hBs_ A4.out).mono ?_);rintro e w10 ⟨rfl,hi,hb,hk⟩;refine⟨_,rfl,?_⟩;replace HO671:=a0_ (Kd.R_mono (Kd.R_keep (IsS123.apart (show IsS123 w0 _ g s0_0 t668 from hI_) (uR_ HO671) (by decide)) hk (fun _ h=>h.2)) (fun _ h=>h.1));replace HK:=kk_ HK hk;replace HB:=a0_ (hb);replace HI0:=a0_ (hi);(try clear hi hb hk);obtain⟨Ao11,co11,eo11⟩:=Kd.R_slice HO671.out;subst eo11;have p674:0≤(t672:Int):=od_;have q674:t672<(y669.length:Int):=od_;obtain⟨ad674,e674,hx674_0⟩:=Kd.at_int (Kd.R_reads' HO671.out).2.2 t672 p674 q674;cases e674;replace p674:=eq_true p674;replace q674:=eq_true q674))
    go_ret;exact⟨rr_,by repeat (first | (with_reducible first | exact HI0.out | apply IsS123.alloc | apply IsS123.drewN | apply IsS123.drew | apply IsS123.set_1) | exact HI0.out),by repeat (first | (with_reducible first | exact HB.out | apply below_alloc | apply pw_below_drewN | apply below_drew1 | refine below_set ?_ (IsS123.ge HI0.out)) | exact HB.out),by repeat (first | (with_reducible first | exact HK.out | apply KeepBut.set_ | apply keep_drewN | apply keep_drew | apply keep_alloc) | exact HK.out)⟩
   ·
    rw [if_neg c6] at H;exact absurd H (by simp)
  ·
   rw [if_neg c5] at H;exact absurd H (by simp)
 ·
  rw [if_neg c3] at H;have c3b0:(t667==0)=false:=beq_eq_false_iff_ne.mpr c3;have c3b1:(t667 != 0)=true:=bne_iff_ne.mpr c3;obtain⟨y675,hy675⟩:∃ y_:List Int,y_=(([1,1,1,2,2,3,4,4,5,9]:List Int)):=⟨_,rfl⟩;replace H:((spec_l6Rd_pick.f k s0_0 t668 10).bind fun bt678=>(if 0≤bt678.1 then (if bt678.1<(y675.length:Int) then (some (rd y675 bt678.1,bt678.2)) else (none)) else (none)))=some (r1,r2):=by first | (rw [hy675];with_reducible exact H) | (have H2_:=(Option.bind_some _ _).symm.trans H;rw [hy675];with_reducible exact H2_) | (have H2_:=(Option.bind_some _ _).symm.trans H;with_reducible exact H2_) | with_reducible exact H | (rw [hy675];exact H) | exact H
  have Ny675:=Aside0.mk hy675;clear hy675;replace H:=Option.bind_eq_some_iff.mp H;obtain⟨⟨t678,t679⟩,A120,H⟩:=H
  (try dsimp only at H)
  have A12:=Aside0.mk A120;clear A120;by_cases c13:0≤t678
  ·
   rw [if_pos c13] at H;have c13b0:decide (0≤t678)=true:=decide_eq_true c13;clear c13;by_cases c14:t678<(y675.length:Int)
   ·
    rw [if_pos c14] at H;have c14b0:decide (t678<(y675.length:Int))=true:=decide_eq_true c14;clear c14;simp only [Option.some.injEq,Prod.mk.injEq] at H;obtain⟨rfl,rfl⟩:=H;go_enter Tryd.func75,Tryd.ntmps75
    go_wp2_with (first | ((with_reducible refine gate_callee (f:=74) rfl ?_);refine gL_ (some 4) Tryd.func74 #[.pointer (some ⟨g,0,none⟩),.int .i64 24] (h:=?_);(with_reducible refine (spec_l6Rd_pick.calls k g s0_0 s0_1 24 t667 t668 w0 _ hI_ hBs_ A2.out).mono ?_);rintro e w15 ⟨rfl,hi,hb,hk⟩;refine⟨_,rfl,?_⟩;replace HK:=kk_ HK hk;replace HB:=a0_ (hb);replace HI0:=a0_ (hi);(try clear hi hb hk)) | ((with_reducible refine gate_dst (N:=11) rfl ?_);refine Kd.R_lit (Kd.int .i64) _ 3 ?hg (N:=11) ?hd (xs:=([1,1,1,2,2,3,4,4,5,9]:List Int)) (inner:=[.int .i64 1,.int .i64 1,.int .i64 1,.int .i64 2,.int .i64 2,.int .i64 3,.int .i64 4,.int .i64 4,.int .i64 5,.int .i64 9]) (ok:=fun _=>True) (okp:=fun _=>True) ?hr ?hp (fun _ hk=>hk) trivial (Below.refl _ _) (Nat.le_refl _) (by simp) ?_;(case hd=>rfl);(case hg=>rfl);(case hr=>first | (go_simp;done) | (go_simp;rfl));(case hp=>exact (Reps.one (show Kd.M (Kd.int .i64) _ _ _ 1 [.int .i64 1] from rfl) (Reps.one (show Kd.M (Kd.int .i64) _ _ _ 1 [.int .i64 1] from rfl) (Reps.one (show Kd.M (Kd.int .i64) _ _ _ 1 [.int .i64 1] from rfl) (Reps.one (show Kd.M (Kd.int .i64) _ _ _ 2 [.int .i64 2] from rfl) (Reps.one (show Kd.M (Kd.int .i64) _ _ _ 2 [.int .i64 2] from rfl) (Reps.one (show Kd.M (Kd.int .i64) _ _ _ 3 [.int .i64 3] from rfl) (Reps.one (show Kd.M (Kd.int .i64) _ _ _ 4 [.int .i64 4] from rfl) (Reps.one (show Kd.M (Kd.int .i64) _ _ _ 4 [.int .i64 4] from rfl) (Reps.one (show Kd.M (Kd.int .i64) _ _ _ 5 [.int .i64 5] from rfl) (Reps.one (show Kd.M (Kd.int .i64) _ _ _ 9 [.int .i64 9] from rfl) (Reps.none _ _))))))))))));intro v676 w16 ho17 hb hg_ hnew_;clear hg_ hnew_;(first | rw [← Ny675.out] at ho17 | (simp only [Int.reduceToNat] at ho17;rw [← Ny675.out] at ho17));have HO677:=a0_ (Kd.R_lower ho17 (keep_size (w:=w) (g:=g) (row:=none) (hK_ HK)));replace HK:=kb_ HK hb;replace HB:=a0_ (below_step hBs_ hb);replace HI0:=a0_ (IsS123.below hI_ hb);clear hb ho17) | ((with_reducible refine gate_callee (f:=74) rfl ?_);refine gL_ (some 13) Tryd.func74 #[.pointer (some ⟨g,0,none⟩),.int .i64 10] (h:=?_);(with_reducible refine (spec_l6Rd_pick.calls k g s0_0 t668 10 t678 t679 w0 _ hI_ hBs_ A12.out).mono ?_);rintro e w18 ⟨rfl,hi,hb,hk⟩;refine⟨_,rfl,?_⟩;replace HO677:=a0_ (Kd.R_mono (Kd.R_keep (IsS123.apart (show IsS123 w0 _ g s0_0 t668 from hI_) (uR_ HO677) (by decide)) hk (fun _ h=>h.2)) (fun _ h=>h.1));replace HK:=kk_ HK hk;replace HB:=a0_ (hb);replace HI0:=a0_ (hi);(try clear hi hb hk);obtain⟨Ao19,co19,eo19⟩:=Kd.R_slice HO677.out;subst eo19;have p680:0≤(t678:Int):=od_;have q680:t678<(y675.length:Int):=od_;obtain⟨ad680,e680,hx680_0⟩:=Kd.at_int (Kd.R_reads' HO677.out).2.2 t678 p680 q680;cases e680;replace p680:=eq_true p680;replace q680:=eq_true q680))
    go_ret;exact⟨rr_,by repeat (first | (with_reducible first | exact HI0.out | apply IsS123.alloc | apply IsS123.drewN | apply IsS123.drew | apply IsS123.set_1) | exact HI0.out),by repeat (first | (with_reducible first | exact HB.out | apply below_alloc | apply pw_below_drewN | apply below_drew1 | refine below_set ?_ (IsS123.ge HI0.out)) | exact HB.out),by repeat (first | (with_reducible first | exact HK.out | apply KeepBut.set_ | apply keep_drewN | apply keep_drew | apply keep_alloc) | exact HK.out)⟩
   ·
    rw [if_neg c14] at H;exact absurd H (by simp)
  ·
   rw [if_neg c13] at H;exact absurd H (by simp)
def spec_l11Edges.l0:Nat→List (S61)→Int→List (S28)→List (List (S28))→Option ((List (S61)))
 | 0,_,_,_,_=>none
 | k+1,x3,x4,x457000,x457001=>if x4<(x457001.length:Int) then (if 0≤x4 then ((spec_l3Edges.f k (rd_L5 x457001 x4)).bind fun t461=>(if x3.length+t461.length<4398046511104 then (spec_l11Edges.l0 k (x3++t461) (wrap64 (x4+1)) x457000 x457001) else (none))) else (none)) else (some x3)
def spec_l11Edges.f (k:Nat)(l0_0:List (S28))(l0_1:List (List (S28))):Option ((List (S61))):=(spec_l3Edges.f k l0_0).bind fun t457=>(spec_l11Edges.l0 k t457 0 l0_0 l0_1)
set_option maxHeartbeats 8000000 in
set_option maxRecDepth 100000 in
theorem spec_l11Edges.calls (k:Nat)(A0_0:Option Addr)(c0_0:Nat)(l0_0:List (S28))(A0_1:Option Addr)(c0_1:Nat)(l0_1:List (List (S28)))(r:List (S61))(w:World)(hr0_0:Kd.C k28 w A0_0 l0_0.length l0_0)(hc0_0:l0_0.length≤c0_0)(hr0_1:Kd.C (Kd.slice 28 k28) w A0_1 l0_1.length l0_1)(hc0_1:l0_1.length≤c0_1)(h:spec_l11Edges.f k l0_0 l0_1=some r):
  Calls Tryd.prog 66 #[.agg #[.slice A0_0 l0_0.length c0_0,.slice A0_1 l0_1.length c0_1]] w fun e w'=>∃ v0_:Value,e=.returned (v0_)∧Kd.R k61 61 w' w.heap.size (fun _=>True) v0_ r∧Below w.heap.size w w':=by
 have hu26:=Tryd.underlying26;have HR0_0:=Aside0.mk hr0_0;have HC0_0:=Aside0.mk hc0_0;clear hr0_0 hc0_0;have HR0_1:=Aside0.mk hr0_1;have HC0_1:=Aside0.mk hc0_1;clear hr0_1 hc0_1;have HB:=a0_ (Below.refl w.heap.size w);have H:((spec_l3Edges.f k l0_0).bind fun t457=>(spec_l11Edges.l0 k t457 0 l0_0 l0_1))=some r:=h;clear h;replace H:=Option.bind_eq_some_iff.mp H;obtain⟨t457,A20,H⟩:=H
 (try dsimp only at H)
 have A2:=Aside0.mk A20;clear A20;have H':=Aside0.mk H;clear H;go_enter Tryd.func66,Tryd.ntmps66;go_wp2_with (first | ((with_reducible refine gate_dst (N:=1) rfl ?_);refine bx_ (N:=1) (cs:=#[.slice A0_0 l0_0.length c0_0,.slice A0_1 l0_1.length c0_1]) (t:=26) (h:=?_);intro gb456 hg w3 hbox hb;have BK456:=a0_ (hbox);have GW456:=gh_ HB hg;have GE456:=gh_ HB hg;replace HB:=sb_ HB hb;clear hb hbox hg;have hcz4_0:=c20_ BK456;have hcz4_1:=c21_ BK456;have hfz4_0:=fz_ BK456 0;have hfz4_1:=fz_ BK456 1) | ((with_reducible refine gate_callee (f:=98) rfl ?_);refine gL_ (some 7) Tryd.func98 #[.slice A0_0 l0_0.length c0_0] (h:=?_);(with_reducible refine (spec_l3Edges.calls k _ _ l0_0 t457 _ ?side1 ?side2 A2.out).mono ?_);(case side1=>repeat (first | exact (Kd.C_below HR0_0.out HB.out) | (with_reducible refine Kd.C_alloc ?_ _) | (with_reducible refine Kd.C_drewN ?_ _) | (with_reducible refine Kd.C_drew ?_)));(case side2=>exact HC0_0.out);rintro e w5 ⟨v458,rfl,ho0,hb⟩;refine⟨_,rfl,?_⟩;have HO459:=a0_ (Kd.R_lower ho0 (below_size hB_));replace BK456:=vb_ BK456 hb;replace HB:=sb_ HB hb;(try clear ho0 hb)));go_loopg [3,4] k (fun kq v3 v4 w'=>∃ (x3_1:List (S61)) (x4_1:Int),v4=.int .i64 x4_1∧Aside0 (spec_l11Edges.l0 kq x3_1 x4_1 l0_0 l0_1=some r)∧Aside0 (kq≤k)∧Aside0 (Kd.R k61 61 w' w.heap.size (fun _=>True) v3 x3_1)∧Aside0 (w'.heap[gb456]?=some (.cells #[(.slice A0_0 l0_0.length c0_0),(.slice A0_1 l0_1.length c0_1)] 26 (0,0)))∧Aside0 (Below w.heap.size w w'))
 case atStart=>exact⟨(t457),(0),(by first | rfl | (simp;done) | (simp [*];done)),H',⟨Nat.le_refl _⟩,⟨by (with_reducible repeat (first | apply Kd.R_alloc | apply Kd.R_drewN | apply Kd.R_drew));exact HO459.out⟩,⟨uq_⟩,⟨hB_⟩⟩
 case round =>
  clear H';obtain⟨x3_1,x4_1,rfl,HA,HK1,HO_3,BK456,HB⟩:=hrel
  cases gk with
  | zero=>exact absurd HA.out (by simp [spec_l11Edges.l0])
  | succ k1 =>
   have H:=HA.out;clear HA;simp only [spec_l11Edges.l0] at H;by_cases c6:x4_1<(l0_1.length:Int)
   ·
    rw [if_pos c6] at H;have c6b0:decide (x4_1<(l0_1.length:Int))=true:=decide_eq_true c6;clear c6;by_cases c7:0≤x4_1
    ·
     rw [if_pos c7] at H;have c7b0:decide (0≤x4_1)=true:=decide_eq_true c7;clear c7;replace H:=Option.bind_eq_some_iff.mp H;obtain⟨t461,A80,H⟩:=H
     (try dsimp only at H)
     have A8:=Aside0.mk A80;clear A80;by_cases c9:x3_1.length+t461.length<4398046511104
     ·
      rw [if_pos c9] at H;have LMc9:=Aside0.mk c9;clear c9;obtain⟨y464,hy464⟩:∃ y_:List (S61),y_=(x3_1++t461):=⟨_,rfl⟩;replace H:(spec_l11Edges.l0 k1 y464 (wrap64 (x4_1+1)) l0_0 l0_1)=some r:=by first | (rw [hy464];with_reducible exact H) | (have H2_:=(Option.bind_some _ _).symm.trans H;rw [hy464];with_reducible exact H2_) | (have H2_:=(Option.bind_some _ _).symm.trans H;with_reducible exact H2_) | with_reducible exact H | (rw [hy464];exact H) | exact H
      have Ny464:=Aside0.mk hy464;clear hy464;have H':=Aside0.mk H;clear H;have hcz10_0:=c20_ BK456;have hcz10_1:=c21_ BK456;have hfz10_0:=fz_ BK456 0;have hfz10_1:=fz_ BK456 1;have p460:0≤(x4_1:Int):=od_;have q460:x4_1<(l0_1.length:Int):=od_;obtain⟨ad460,A460_0,c460_0,e460,hx460_0,hl460_0,hi460_0⟩:=at_L5 HR0_1.out x4_1 p460 q460;cases e460;replace hx460_0:=ce_ HB hx460_0;have HR460_0:=Aside0.mk hi460_0;have HC460_0:=Aside0.mk hl460_0;clear hi460_0 hl460_0;replace p460:=eq_true p460;replace q460:=eq_true q460
      go_wp2_with (first | ((with_reducible refine gate_callee (f:=98) rfl ?_);refine gL_ (some 21) Tryd.func98 #[.slice A460_0 (rd_L5 l0_1 x4_1).length c460_0] (h:=?_);(with_reducible refine (spec_l3Edges.calls k1 _ _ (rd_L5 l0_1 x4_1) t461 _ ?side1 ?side2 A8.out).mono ?_);(case side1=>repeat (first | exact (Kd.C_below HR460_0.out HB.out) | (with_reducible refine Kd.C_alloc ?_ _) | (with_reducible refine Kd.C_drewN ?_ _) | (with_reducible refine Kd.C_drew ?_)));(case side2=>exact HC460_0.out);rintro e w11 ⟨v462,rfl,ho0,hb⟩;refine⟨_,rfl,?_⟩;have HO463:=a0_ (Kd.R_lower (Kd.R_new' ho0 (Kd.R_lt (uR_ HO_3))) (below_size hB_));replace HO_3:=a0_ (Kd.R_elder' (uR_ HO_3) (Kd.R_base ho0) hb);replace BK456:=vb_ BK456 hb;replace HB:=sb_ HB hb;(try clear ho0 hb);obtain⟨Ao13,co13,eo13⟩:=Kd.R_slice HO463.out;subst eo13) | ((with_reducible refine gate_builtin (b:=.append) (xs:=#[.tmp 15,.tmp 21]) rfl ?_);at_builtin;refine Kd.R_append_rows k61 (w0:=w) w.heap.size rfl (.tmp 15) (.tmp 21) 57 61 (.agg #[(.int .i64 0),(.int .i64 0),(.int .i64 0),(.int .i64 0)]) 32 rfl Tryd.underlying57 info61 rfl (by decide) (by omega) u3 x3_1 t461 _ _ _ (fun k_=>some k_≠(.slice Ao13 t461.length co13:Value).ownBlock) (fun _=>False) rfl rfl ?aO ?aR (fun _ _ h=>h) (fun _ h=>h.elim) ?aF ?aB ?aS ?aL ?_;(case aR=>repeat (first | exact (Kd.R_reads' HO463.out).2.2 | (with_reducible refine Kd.C_alloc ?_ _) | (with_reducible refine Kd.C_drewN ?_ _) | (with_reducible refine Kd.C_drew ?_)));(case aB=>exact hB_);(case aF=>exact (fun k_ hk=>Kd.fresh' (Kd.R_lt (uR_ HO463)) k_ hk));(case aO=>exact (by (with_reducible repeat (first | apply Kd.R_alloc | apply Kd.R_drewN | apply Kd.R_drew));exact Kd.R_mono HO_3.out (fun _ hk=>hk.2)));(case aS=>exact (below_size hB_));(case aL=>have:=LMc9.out;omega);intro v465 w12 ho hb hg hat;rw [← Ny464.out] at ho;have HO466:=a0_ (ho);replace BK456:=a0_ (blk_grown (g:=gb456) (o:=.cells #[.slice A0_0 l0_0.length c0_0,.slice (some ad460) l0_1.length c0_1] 26 (0,0)) uq_ hg (Kd.R_ne HO_3.out BK456.out (by decide)));replace HO463:=a0_ (Kd.R_after (ok:=(fun _=>True)) (uR_ HO463) hg hat);replace HB:=a0_ (hb);clear HO_3;clear ho hb hg hat))
      go_roundg k1
      case measure=>have:=HK1.out;omega
      case rel=>exact⟨(y464),(wrap64 (x4_1+1)),(by first | rfl | (simp;done) | (simp [*];done)),H',⟨by have:=HK1.out;omega⟩,⟨by (with_reducible repeat (first | apply Kd.R_alloc | apply Kd.R_drewN | apply Kd.R_drew));exact Kd.R_mono HO466.out (fun _ hk=>trivial)⟩,⟨uq_⟩,⟨hB_⟩⟩
     ·
      rw [if_neg c9] at H;exact absurd H (by simp)
    ·
     rw [if_neg c7] at H;exact absurd H (by simp)
   ·
    rw [if_neg c6] at H;have c6b0:decide (x4_1<(l0_1.length:Int))=false:=decide_eq_false c6;clear c6;obtain rfl:=Option.some.inj H;have hcz14_0:=c20_ BK456;have hcz14_1:=c21_ BK456;have hfz14_0:=fz_ BK456 0;have hfz14_1:=fz_ BK456 1;go_wp2;go_ret;exact⟨_,rr_,by (with_reducible repeat (first | apply Kd.R_alloc | apply Kd.R_drewN | apply Kd.R_drew));exact HO_3.out,hB_⟩
def spec_l11In.l0:Nat→Int→Int→List (S28)→List (List (S28))→Int→Int→Option (Int)
 | 0,_,_,_,_,_,_=>none
 | k+1,x5,x6,x393000,x393001,x394000,x394001=>if x6<(x393001.length:Int) then (if 0≤x6 then ((spec_l3In.f (rd_L5 x393001 x6) x394000 x394001).bind fun t396=>(spec_l11In.l0 k (mn x5 (wrap64 (-t396))) (wrap64 (x6+1)) x393000 x393001 x394000 x394001)) else (none)) else (some x5)
def spec_l11In.f (k:Nat)(l0_0:List (S28))(l0_1:List (List (S28)))(a1_0:Int)(a1_1:Int):Option (Int):=(spec_l3In.f l0_0 a1_0 a1_1).bind fun t394=>(spec_l11In.l0 k t394 0 l0_0 l0_1 a1_0 a1_1)
def spec_l11In.T5:Bool × List (List Nat × List Nat):=(true,[([],[]),([],[]),([1],[1]),([],[]),([2,3],[2,3]),([4],[4]),([],[]),([5,6],[5,6]),([7],[7]),([0,8],[0,8]),([9,7,0,1,2,3,4,5,6,7,8,9],[0,9])])
def spec_l11In.B5:List Nat:=[0,0,2,0,14,30,0,126,254,511,1023]
theorem spec_l11In.tab5:rtab .any (opsOf Tryd.f54 5)=spec_l11In.T5:=by kernel_rfl
theorem spec_l11In.bits5:waitsOk spec_l11In.T5.2 spec_l11In.B5=true:=by kernel_rfl
set_option maxHeartbeats 8000000 in
set_option maxRecDepth 100000 in
theorem spec_l11In.calls (k:Nat)(A0_0:Option Addr)(c0_0:Nat)(l0_0:List (S28))(A0_1:Option Addr)(c0_1:Nat)(l0_1:List (List (S28)))(a1_0:Int)(a1_1:Int)(r:Int)(w:World)(hr0_0:Kd.C k28 w A0_0 l0_0.length l0_0)(hc0_0:l0_0.length≤c0_0)(hr0_1:Kd.C (Kd.slice 28 k28) w A0_1 l0_1.length l0_1)(hc0_1:l0_1.length≤c0_1)(h:spec_l11In.f k l0_0 l0_1 a1_0 a1_1=some r):
  Calls Tryd.prog 54 #[.agg #[.slice A0_0 l0_0.length c0_0,.slice A0_1 l0_1.length c0_1],.agg #[.int .i64 a1_0,.int .i64 a1_1]] w fun e w'=>e=.returned (.int .i64 r)∧Below w.heap.size w w':=by
 have hu26:=Tryd.underlying26;have hu28:=Tryd.underlying28;have HR0_0:=Aside0.mk hr0_0;have HC0_0:=Aside0.mk hc0_0;clear hr0_0 hc0_0;have HR0_1:=Aside0.mk hr0_1;have HC0_1:=Aside0.mk hc0_1;clear hr0_1 hc0_1;have HB:=a0_ (Below.refl w.heap.size w);have H:((spec_l3In.f l0_0 a1_0 a1_1).bind fun t394=>(spec_l11In.l0 k t394 0 l0_0 l0_1 a1_0 a1_1))=some r:=h;clear h;replace H:=Option.bind_eq_some_iff.mp H;obtain⟨t394,A30,H⟩:=H
 (try dsimp only at H)
 have A3:=Aside0.mk A30;clear A30;have H':=Aside0.mk H;clear H;go_enter Tryd.func54,Tryd.ntmps54;go_wp2_with (first | ((with_reducible refine gate_dst (N:=2) rfl ?_);refine bx_ (N:=2) (cs:=#[.slice A0_0 l0_0.length c0_0,.slice A0_1 l0_1.length c0_1]) (t:=26) (h:=?_);intro gb392 hg w4 hbox hb;have BK392:=a0_ (hbox);have GW392:=gh_ HB hg;have GE392:=gh_ HB hg;replace HB:=sb_ HB hb;clear hb hbox hg) | ((with_reducible refine gate_dst (N:=3) rfl ?_);refine bx_ (N:=3) (cs:=#[.int .i64 a1_0,.int .i64 a1_1]) (t:=28) (h:=?_);intro gb393 hg w5 hbox hb;have BK393:=a0_ (hbox);have GW393:=gh_ HB hg;have GE393:=gh_ HB hg;have NB392_393:=nl_ BK392 hg;have NB393_392:=nr_ BK392 hg;replace BK392:=vb_ BK392 hb;replace HB:=sb_ HB hb;clear hb hbox hg;have hnb6:=NB392_393.out;have hnc6:=NB393_392.out;have hcz7_0:=c20_ BK392;have hcz7_1:=c21_ BK392;have hfz7_0:=fz_ BK392 0;have hfz7_1:=fz_ BK392 1;have hcz8_0:=c20_ BK393;have hcz8_1:=c21_ BK393;have hfz8_0:=fz_ BK393 0;have hfz8_1:=fz_ BK393 1) | ((with_reducible refine gate_callee (f:=56) rfl ?_);refine gL_ (some 10) Tryd.func56 #[.slice A0_0 l0_0.length c0_0,.agg #[.int .i64 a1_0,.int .i64 a1_1]] (h:=?_);(with_reducible refine (spec_l3In.calls _ _ l0_0 a1_0 a1_1 t394 _ ?side1 ?side2 A3.out).mono ?_);(case side1=>repeat (first | exact (Kd.C_below HR0_0.out HB.out) | (with_reducible refine Kd.C_alloc ?_ _) | (with_reducible refine Kd.C_drewN ?_ _) | (with_reducible refine Kd.C_drew ?_)));(case side2=>exact HC0_0.out);rintro e w9 ⟨rfl,hb⟩;refine⟨_,rfl,?_⟩;replace BK392:=vb_ BK392 hb;replace BK393:=vb_ BK393 hb;replace HB:=sb_ HB hb;(try clear hb)))
 go_loopg [5,6] k (fun kq v5 v6 w'=>∃ (x5_1:Int) (x6_1:Int),v5=.int .i64 x5_1∧v6=.int .i64 x6_1∧Aside0 (spec_l11In.l0 kq x5_1 x6_1 l0_0 l0_1 a1_0 a1_1=some r)∧Aside0 (kq≤k)∧Aside0 (w'.heap[gb392]?=some (.cells #[(.slice A0_0 l0_0.length c0_0),(.slice A0_1 l0_1.length c0_1)] 26 (0,0)))∧Aside0 (w'.heap[gb393]?=some (.cells #[.int .i64 a1_0,.int .i64 a1_1] 28 (0,0)))∧Aside0 (Below w.heap.size w w'))
 case atStart=>exact⟨(t394),(0),(by first | rfl | (simp;done) | (simp [*];done)),(by first | rfl | (simp;done) | (simp [*];done)),H',⟨Nat.le_refl _⟩,⟨uq_⟩,⟨uq_⟩,⟨hB_⟩⟩
 case round =>
  clear H';obtain⟨x5_1,x6_1,rfl,rfl,HA,HK1,BK392,BK393,HB⟩:=hrel
  cases gk with
  | zero=>exact absurd HA.out (by simp [spec_l11In.l0])
  | succ k1 =>
   have H:=HA.out;clear HA;simp only [spec_l11In.l0] at H;by_cases c10:x6_1<(l0_1.length:Int)
   ·
    rw [if_pos c10] at H;have c10b0:decide (x6_1<(l0_1.length:Int))=true:=decide_eq_true c10;clear c10;by_cases c11:0≤x6_1
    ·
     rw [if_pos c11] at H;have c11b0:decide (0≤x6_1)=true:=decide_eq_true c11;clear c11;replace H:=Option.bind_eq_some_iff.mp H;obtain⟨t396,A120,H⟩:=H
     (try dsimp only at H)
     have A12:=Aside0.mk A120;clear A120;obtain⟨ji13,hji13⟩:∃ j_:Int,(mn x5_1 (wrap64 (-t396)))=j_:=⟨_,rfl⟩;replace H:(spec_l11In.l0 k1 ji13 (wrap64 (x6_1+1)) l0_0 l0_1 a1_0 a1_1)=some r:=by first | (rw [hji13] at H;exact H) | (simp only [hji13] at H ⊢;exact H)
     (try rw [hji13] at A12)
     have hji13_:(if (wrap64 (-t396))<x5_1 then (wrap64 (-t396)) else x5_1)=ji13:=hji13;have H':=Aside0.mk H;clear H;have hnb14:=NB392_393.out;have hnc14:=NB393_392.out;have hcz15_0:=c20_ BK392;have hcz15_1:=c21_ BK392;have hfz15_0:=fz_ BK392 0;have hfz15_1:=fz_ BK392 1
     try go_wp2
     replace BK392:=a0_ (blk_drew BK392.out);replace BK393:=a0_ (blk_drew BK393.out);replace HB:=a0_ (below_drew1 HB.out);have p395:0≤(x6_1:Int):=od_;have q395:x6_1<(l0_1.length:Int):=od_;obtain⟨ad395,A395_0,c395_0,e395,hx395_0,hl395_0,hi395_0⟩:=at_L5 HR0_1.out x6_1 p395 q395;have hw395_0:=hx395_0;cases e395;replace hx395_0:=ce_ HB hx395_0;have HR395_0:=Aside0.mk hi395_0;have HC395_0:=Aside0.mk hl395_0;clear hi395_0 hl395_0;replace p395:=eq_true p395;replace q395:=eq_true q395;refine start_ (n:=11) (S:=fun w'=>w'.cell? ⟨gb392,0,none⟩=some (.slice A0_0 l0_0.length c0_0)∧w'.cell? ⟨gb392,1,none⟩=some (.slice (some ad395) l0_1.length c0_1)∧w'.cell? ⟨gb393,0,none⟩=some (.int .i64 a1_0)∧w'.cell? ⟨gb393,1,none⟩=some (.int .i64 a1_1)∧w'.cell? (ad395.add (x6_1).toNat)=some (.slice A395_0 (rd_L5 l0_1 x6_1).length c395_0)) (ds:=[]) (Array.replicate 11 false) (by kernel_rfl) rfl rfl ⟨bc_,bc_,bc_,bc_,(ce_ HB hw395_0)⟩ (fun hHeld=>?_);refine with_tabW spec_l11In.tab5 spec_l11In.bits5 (fun HT_ HW_=>?_);generalize wr.drew=w16 at BK392 BK393 HB HR395_0 hx395_0 hHeld ⊢
     refine pu_ HT_ 0 18 (bm 11 1) ?_;refine pu_ HT_ 1 19 (bm 11 3) ?_;refine pu_ HT_ 3 21 (bm 11 11) ?_;refine ta5_ HT_ HW_ 2 20 (bm 11 15) hHeld ?_;refine pu_ HT_ 4 22 (bm 11 31) ?_;refine ta5_ HT_ HW_ 5 23 (bm 11 63) hHeld ?_;refine ta5_ HT_ HW_ 6 24 (bm 11 127) hHeld ?_;refine one_ (i:=7) (N:=some 25) (bm 11 255) rfl rfl (one_of HT_.out (by kernel_rfl)) (by decide) (fun K hK=>?_);refine goes_ Tryd.func56 (by kernel_rfl) rfl #[.slice A395_0 (rd_L5 l0_1 x6_1).length c395_0,.agg #[.int .i64 a1_0,.int .i64 a1_1]] (by rfl) rfl rfl ma_ ?_
     with_reducible refine (spec_l3In.calls _ _ (rd_L5 l0_1 x6_1) a1_0 a1_1 t396 _ ?side1 ?side2 A12.out).mono ?_
     (case side1=>repeat (first | exact (Kd.C_below HR395_0.out HB.out) | (with_reducible refine Kd.C_alloc ?_ _) | (with_reducible refine Kd.C_drewN ?_ _) | (with_reducible refine Kd.C_drew ?_)))
     (case side2=>exact HC395_0.out)
     rintro e w17 ⟨rfl,hb⟩;refine⟨_,rfl,?_⟩;replace BK392:=vb_ BK392 hb;replace BK393:=vb_ BK393 hb;replace HB:=sb_ HB hb
     (try clear hb)
     (try clear hb2)
     (try clear hk)
     (try clear hi)
     refine hK.out _ _ ⟨bc_,bc_,bc_,bc_,(ce_ HB hw395_0)⟩ (fun hHeld=>?_);clear hK K;refine no_ (h:=?_);refine pu_ HT_ 8 26 (bm 11 511) ?_;refine pu_ HT_ 9 27 (bm 11 1023) ?_;refine pu_ HT_ 10 5 (bm 11 2047) ?_;refine done_ (done_of HT_.out (by kernel_rfl)) ?_
     try go_wp2
     go_roundg k1
     case measure=>have:=HK1.out;omega
     case rel=>exact⟨(ji13),(wrap64 (x6_1+1)),(by first | rfl | (simp;done) | (simp only [← hji13] <;> (first | rfl | simp)) | (simp [*];done)),(by first | rfl | (simp;done) | (simp [*];done)),H',⟨by have:=HK1.out;omega⟩,⟨uq_⟩,⟨uq_⟩,⟨hB_⟩⟩
    ·
     rw [if_neg c11] at H;exact absurd H (by simp)
   ·
    rw [if_neg c10] at H;have c10b0:decide (x6_1<(l0_1.length:Int))=false:=decide_eq_false c10;clear c10;obtain rfl:=Option.some.inj H;have hnb18:=NB392_393.out;have hnc18:=NB393_392.out;have hcz19_0:=c20_ BK392;have hcz19_1:=c21_ BK392;have hfz19_0:=fz_ BK392 0;have hfz19_1:=fz_ BK392 1;go_wp2;go_ret;exact⟨rr_,hB_⟩
def spec_l13Near.f (a0_0:Int)(a0_1:Int)(a0_2:Int)(a0_3:Int)(a1:Int)(a2_0:Int)(a2_1:Int):Option (Bool):=(spec_l2Dot.f a0_0 a0_1 a0_2 a0_3 a2_0 a2_1).bind fun t446=>((spec_l2Dot.f a0_0 a0_1 a0_2 a0_3 a0_2 a0_3).bind fun t447=>(if t446≤0 then ((spec_l2Dot.f a0_0 a0_1 a2_0 a2_1 a2_0 a2_1).bind fun t448=>(some (decide (t448<a1)))) else (if t446≥t447 then ((spec_l2Dot.f a0_2 a0_3 a2_0 a2_1 a2_0 a2_1).bind fun t449=>(some (decide (t449<a1)))) else ((spec_l2Cross.f a0_0 a0_1 a0_2 a0_3 a2_0 a2_1).bind fun t450=>(some (decide ((wrap64 (t450*t450))<(wrap64 (a1*t447)))))))))
set_option maxHeartbeats 8000000 in
set_option maxRecDepth 100000 in
theorem spec_l13Near.calls (a0_0:Int)(a0_1:Int)(a0_2:Int)(a0_3:Int)(a1:Int)(a2_0:Int)(a2_1:Int)(r:Bool)(w:World)(h:spec_l13Near.f a0_0 a0_1 a0_2 a0_3 a1 a2_0 a2_1=some r):
  Calls Tryd.prog 105 #[.agg #[.int .i64 a0_0,.int .i64 a0_1,.int .i64 a0_2,.int .i64 a0_3],.int .i64 a1,.agg #[.int .i64 a2_0,.int .i64 a2_1]] w fun e w'=>e=.returned (.bool r)∧Below w.heap.size w w':=by
 have hu61:=Tryd.underlying61;have hu28:=Tryd.underlying28;have HB:=a0_ (Below.refl w.heap.size w);have H:((spec_l2Dot.f a0_0 a0_1 a0_2 a0_3 a2_0 a2_1).bind fun t446=>((spec_l2Dot.f a0_0 a0_1 a0_2 a0_3 a0_2 a0_3).bind fun t447=>(if t446≤0 then ((spec_l2Dot.f a0_0 a0_1 a2_0 a2_1 a2_0 a2_1).bind fun t448=>(some (decide (t448<a1)))) else (if t446≥t447 then ((spec_l2Dot.f a0_2 a0_3 a2_0 a2_1 a2_0 a2_1).bind fun t449=>(some (decide (t449<a1)))) else ((spec_l2Cross.f a0_0 a0_1 a0_2 a0_3 a2_0 a2_1).bind fun t450=>(some (decide ((wrap64 (t450*t450))<(wrap64 (a1*t447))))))))))=some r:=h;clear h;replace H:=Option.bind_eq_some_iff.mp H;obtain⟨t446,A40,H⟩:=H
 (try dsimp only at H)
 have A4:=Aside0.mk A40;clear A40;replace H:=Option.bind_eq_some_iff.mp H;obtain⟨t447,A50,H⟩:=H
 (try dsimp only at H)
 have A5:=Aside0.mk A50;clear A50;by_cases c6:t446≤0
 ·
  rw [if_pos c6] at H;have c6b0:decide (t446≤0)=true:=decide_eq_true c6;clear c6;replace H:=Option.bind_eq_some_iff.mp H;obtain⟨t448,A70,H⟩:=H
  (try dsimp only at H)
  have A7:=Aside0.mk A70;clear A70;obtain rfl:=Option.some.inj H;go_enter Tryd.func105,Tryd.ntmps105
  go_wp2_with (first | ((with_reducible refine gate_dst (N:=3) rfl ?_);refine bx_ (N:=3) (cs:=#[.int .i64 a0_0,.int .i64 a0_1,.int .i64 a0_2,.int .i64 a0_3]) (t:=61) (h:=?_);intro gb444 hg w8 hbox hb;have BK444:=a0_ (hbox);have GW444:=gh_ HB hg;have GE444:=gh_ HB hg;replace HB:=sb_ HB hb;clear hb hbox hg) | ((with_reducible refine gate_dst (N:=5) rfl ?_);refine bx_ (N:=5) (cs:=#[.int .i64 a2_0,.int .i64 a2_1]) (t:=28) (h:=?_);intro gb445 hg w9 hbox hb;have BK445:=a0_ (hbox);have GW445:=gh_ HB hg;have GE445:=gh_ HB hg;have NB444_445:=nl_ BK444 hg;have NB445_444:=nr_ BK444 hg;replace BK444:=vb_ BK444 hb;replace HB:=sb_ HB hb;clear hb hbox hg;have hnb10:=NB444_445.out;have hnc10:=NB445_444.out;have hcz11_0:=c40_ BK444;have hcz11_1:=c41_ BK444;have hcz11_2:=c42_ BK444;have hcz11_3:=c43_ BK444;have hfz11_0:=fz_ BK444 0;have hfz11_1:=fz_ BK444 1;have hfz11_2:=fz_ BK444 2;have hfz11_3:=fz_ BK444 3;have hcz12_0:=c20_ BK445;have hcz12_1:=c21_ BK445;have hfz12_0:=fz_ BK445 0;have hfz12_1:=fz_ BK445 1) | ((with_reducible refine gate_callee (f:=117) rfl ?_);refine gL_ (some 15) Tryd.func117 #[.agg #[.int .i64 a0_0,.int .i64 a0_1],.agg #[.int .i64 a0_2,.int .i64 a0_3],.agg #[.int .i64 a2_0,.int .i64 a2_1]] (h:=?_);(with_reducible refine (spec_l2Dot.calls a0_0 a0_1 a0_2 a0_3 a2_0 a2_1 t446 _ A4.out).mono ?_);rintro e w13 ⟨rfl,hb⟩;refine⟨_,rfl,?_⟩;replace BK444:=vb_ BK444 hb;replace BK445:=vb_ BK445 hb;replace HB:=sb_ HB hb;(try clear hb);have hcz14_0:=c40_ BK444;have hcz14_1:=c41_ BK444;have hcz14_2:=c42_ BK444;have hcz14_3:=c43_ BK444;have hfz14_0:=fz_ BK444 0;have hfz14_1:=fz_ BK444 1;have hfz14_2:=fz_ BK444 2;have hfz14_3:=fz_ BK444 3) | ((with_reducible refine gate_callee (f:=117) rfl ?_);refine gL_ (some 22) Tryd.func117 #[.agg #[.int .i64 a0_0,.int .i64 a0_1],.agg #[.int .i64 a0_2,.int .i64 a0_3],.agg #[.int .i64 a0_2,.int .i64 a0_3]] (h:=?_);(with_reducible refine (spec_l2Dot.calls a0_0 a0_1 a0_2 a0_3 a0_2 a0_3 t447 _ A5.out).mono ?_);rintro e w15 ⟨rfl,hb⟩;refine⟨_,rfl,?_⟩;replace BK444:=vb_ BK444 hb;replace BK445:=vb_ BK445 hb;replace HB:=sb_ HB hb;(try clear hb);have hcz16_0:=c40_ BK444;have hcz16_1:=c41_ BK444;have hcz16_2:=c42_ BK444;have hcz16_3:=c43_ BK444;have hfz16_0:=fz_ BK444 0;have hfz16_1:=fz_ BK444 1;have hfz16_2:=fz_ BK444 2;have hfz16_3:=fz_ BK444 3;have hcz17_0:=c20_ BK445;have hcz17_1:=c21_ BK445;have hfz17_0:=fz_ BK445 0;have hfz17_1:=fz_ BK445 1) | ((with_reducible refine gate_callee (f:=117) rfl ?_);refine gL_ (some 30) Tryd.func117 #[.agg #[.int .i64 a0_0,.int .i64 a0_1],.agg #[.int .i64 a2_0,.int .i64 a2_1],.agg #[.int .i64 a2_0,.int .i64 a2_1]] (h:=?_);(with_reducible refine (spec_l2Dot.calls a0_0 a0_1 a2_0 a2_1 a2_0 a2_1 t448 _ A7.out).mono ?_);rintro e w18 ⟨rfl,hb⟩;refine⟨_,rfl,?_⟩;replace BK444:=vb_ BK444 hb;replace BK445:=vb_ BK445 hb;replace HB:=sb_ HB hb;(try clear hb)))
  go_ret;exact⟨rr_,hB_⟩
 ·
  rw [if_neg c6] at H;have c6b0:decide (t446≤0)=false:=decide_eq_false c6;clear c6;by_cases c19:t446≥t447
  ·
   rw [if_pos c19] at H;have c19b0:decide (t447≤t446)=true:=decide_eq_true c19;clear c19;replace H:=Option.bind_eq_some_iff.mp H;obtain⟨t449,A200,H⟩:=H
   (try dsimp only at H)
   have A20:=Aside0.mk A200;clear A200;obtain rfl:=Option.some.inj H;go_enter Tryd.func105,Tryd.ntmps105
   go_wp2_with (first | ((with_reducible refine gate_dst (N:=3) rfl ?_);refine bx_ (N:=3) (cs:=#[.int .i64 a0_0,.int .i64 a0_1,.int .i64 a0_2,.int .i64 a0_3]) (t:=61) (h:=?_);intro gb444 hg w21 hbox hb;have BK444:=a0_ (hbox);have GW444:=gh_ HB hg;have GE444:=gh_ HB hg;replace HB:=sb_ HB hb;clear hb hbox hg) | ((with_reducible refine gate_dst (N:=5) rfl ?_);refine bx_ (N:=5) (cs:=#[.int .i64 a2_0,.int .i64 a2_1]) (t:=28) (h:=?_);intro gb445 hg w22 hbox hb;have BK445:=a0_ (hbox);have GW445:=gh_ HB hg;have GE445:=gh_ HB hg;have NB444_445:=nl_ BK444 hg;have NB445_444:=nr_ BK444 hg;replace BK444:=vb_ BK444 hb;replace HB:=sb_ HB hb;clear hb hbox hg;have hnb23:=NB444_445.out;have hnc23:=NB445_444.out;have hcz24_0:=c40_ BK444;have hcz24_1:=c41_ BK444;have hcz24_2:=c42_ BK444;have hcz24_3:=c43_ BK444;have hfz24_0:=fz_ BK444 0;have hfz24_1:=fz_ BK444 1;have hfz24_2:=fz_ BK444 2;have hfz24_3:=fz_ BK444 3;have hcz25_0:=c20_ BK445;have hcz25_1:=c21_ BK445;have hfz25_0:=fz_ BK445 0;have hfz25_1:=fz_ BK445 1) | ((with_reducible refine gate_callee (f:=117) rfl ?_);refine gL_ (some 15) Tryd.func117 #[.agg #[.int .i64 a0_0,.int .i64 a0_1],.agg #[.int .i64 a0_2,.int .i64 a0_3],.agg #[.int .i64 a2_0,.int .i64 a2_1]] (h:=?_);(with_reducible refine (spec_l2Dot.calls a0_0 a0_1 a0_2 a0_3 a2_0 a2_1 t446 _ A4.out).mono ?_);rintro e w26 ⟨rfl,hb⟩;refine⟨_,rfl,?_⟩;replace BK444:=vb_ BK444 hb;replace BK445:=vb_ BK445 hb;replace HB:=sb_ HB hb;(try clear hb);have hcz27_0:=c40_ BK444;have hcz27_1:=c41_ BK444;have hcz27_2:=c42_ BK444;have hcz27_3:=c43_ BK444;have hfz27_0:=fz_ BK444 0;have hfz27_1:=fz_ BK444 1;have hfz27_2:=fz_ BK444 2;have hfz27_3:=fz_ BK444 3) | ((with_reducible refine gate_callee (f:=117) rfl ?_);refine gL_ (some 22) Tryd.func117 #[.agg #[.int .i64 a0_0,.int .i64 a0_1],.agg #[.int .i64 a0_2,.int .i64 a0_3],.agg #[.int .i64 a0_2,.int .i64 a0_3]] (h:=?_);(with_reducible refine (spec_l2Dot.calls a0_0 a0_1 a0_2 a0_3 a0_2 a0_3 t447 _ A5.out).mono ?_);rintro e w28 ⟨rfl,hb⟩;refine⟨_,rfl,?_⟩;replace BK444:=vb_ BK444 hb;replace BK445:=vb_ BK445 hb;replace HB:=sb_ HB hb;(try clear hb);have hcz29_0:=c40_ BK444;have hcz29_1:=c41_ BK444;have hcz29_2:=c42_ BK444;have hcz29_3:=c43_ BK444;have hfz29_0:=fz_ BK444 0;have hfz29_1:=fz_ BK444 1;have hfz29_2:=fz_ BK444 2;have hfz29_3:=fz_ BK444 3;have hcz30_0:=c20_ BK445;have hcz30_1:=c21_ BK445;have hfz30_0:=fz_ BK445 0;have hfz30_1:=fz_ BK445 1) | ((with_reducible refine gate_callee (f:=117) rfl ?_);refine gL_ (some 41) Tryd.func117 #[.agg #[.int .i64 a0_2,.int .i64 a0_3],.agg #[.int .i64 a2_0,.int .i64 a2_1],.agg #[.int .i64 a2_0,.int .i64 a2_1]] (h:=?_);(with_reducible refine (spec_l2Dot.calls a0_2 a0_3 a2_0 a2_1 a2_0 a2_1 t449 _ A20.out).mono ?_);rintro e w31 ⟨rfl,hb⟩;refine⟨_,rfl,?_⟩;replace BK444:=vb_ BK444 hb;replace BK445:=vb_ BK445 hb;replace HB:=sb_ HB hb;(try clear hb)))
   go_ret;exact⟨rr_,hB_⟩
  ·
   rw [if_neg c19] at H;have c19b0:decide (t447≤t446)=false:=decide_eq_false c19;clear c19;replace H:=Option.bind_eq_some_iff.mp H;obtain⟨t450,A320,H⟩:=H
   (try dsimp only at H)
   have A32:=Aside0.mk A320;clear A320;obtain rfl:=Option.some.inj H;go_enter Tryd.func105,Tryd.ntmps105
   go_wp2_with (first | ((with_reducible refine gate_dst (N:=3) rfl ?_);refine bx_ (N:=3) (cs:=#[.int .i64 a0_0,.int .i64 a0_1,.int .i64 a0_2,.int .i64 a0_3]) (t:=61) (h:=?_);intro gb444 hg w33 hbox hb;have BK444:=a0_ (hbox);have GW444:=gh_ HB hg;have GE444:=gh_ HB hg;replace HB:=sb_ HB hb;clear hb hbox hg) | ((with_reducible refine gate_dst (N:=5) rfl ?_);refine bx_ (N:=5) (cs:=#[.int .i64 a2_0,.int .i64 a2_1]) (t:=28) (h:=?_);intro gb445 hg w34 hbox hb;have BK445:=a0_ (hbox);have GW445:=gh_ HB hg;have GE445:=gh_ HB hg;have NB444_445:=nl_ BK444 hg;have NB445_444:=nr_ BK444 hg;replace BK444:=vb_ BK444 hb;replace HB:=sb_ HB hb;clear hb hbox hg;have hnb35:=NB444_445.out;have hnc35:=NB445_444.out;have hcz36_0:=c40_ BK444;have hcz36_1:=c41_ BK444;have hcz36_2:=c42_ BK444;have hcz36_3:=c43_ BK444;have hfz36_0:=fz_ BK444 0;have hfz36_1:=fz_ BK444 1;have hfz36_2:=fz_ BK444 2;have hfz36_3:=fz_ BK444 3;have hcz37_0:=c20_ BK445;have hcz37_1:=c21_ BK445;have hfz37_0:=fz_ BK445 0;have hfz37_1:=fz_ BK445 1) | ((with_reducible refine gate_callee (f:=117) rfl ?_);refine gL_ (some 15) Tryd.func117 #[.agg #[.int .i64 a0_0,.int .i64 a0_1],.agg #[.int .i64 a0_2,.int .i64 a0_3],.agg #[.int .i64 a2_0,.int .i64 a2_1]] (h:=?_);(with_reducible refine (spec_l2Dot.calls a0_0 a0_1 a0_2 a0_3 a2_0 a2_1 t446 _ A4.out).mono ?_);rintro e w38 ⟨rfl,hb⟩;refine⟨_,rfl,?_⟩;replace BK444:=vb_ BK444 hb;replace BK445:=vb_ BK445 hb;replace HB:=sb_ HB hb;(try clear hb);have hcz39_0:=c40_ BK444;have hcz39_1:=c41_ BK444;have hcz39_2:=c42_ BK444;have hcz39_3:=c43_ BK444;have hfz39_0:=fz_ BK444 0;have hfz39_1:=fz_ BK444 1;have hfz39_2:=fz_ BK444 2;have hfz39_3:=fz_ BK444 3) | ((with_reducible refine gate_callee (f:=117) rfl ?_);refine gL_ (some 22) Tryd.func117 #[.agg #[.int .i64 a0_0,.int .i64 a0_1],.agg #[.int .i64 a0_2,.int .i64 a0_3],.agg #[.int .i64 a0_2,.int .i64 a0_3]] (h:=?_);(with_reducible refine (spec_l2Dot.calls a0_0 a0_1 a0_2 a0_3 a0_2 a0_3 t447 _ A5.out).mono ?_);rintro e w40 ⟨rfl,hb⟩;refine⟨_,rfl,?_⟩;replace BK444:=vb_ BK444 hb;replace BK445:=vb_ BK445 hb;replace HB:=sb_ HB hb;(try clear hb);have hcz41_0:=c40_ BK444;have hcz41_1:=c41_ BK444;have hcz41_2:=c42_ BK444;have hcz41_3:=c43_ BK444;have hfz41_0:=fz_ BK444 0;have hfz41_1:=fz_ BK444 1;have hfz41_2:=fz_ BK444 2;have hfz41_3:=fz_ BK444 3;have hcz42_0:=c20_ BK445;have hcz42_1:=c21_ BK445;have hfz42_0:=fz_ BK445 0;have hfz42_1:=fz_ BK445 1) | ((with_reducible refine gate_callee (f:=102) rfl ?_);refine gL_ (some 49) Tryd.func102 #[.agg #[.int .i64 a0_0,.int .i64 a0_1],.agg #[.int .i64 a0_2,.int .i64 a0_3],.agg #[.int .i64 a2_0,.int .i64 a2_1]] (h:=?_);(with_reducible refine (spec_l2Cross.calls a0_0 a0_1 a0_2 a0_3 a2_0 a2_1 t450 _ A32.out).mono ?_);rintro e w43 ⟨rfl,hb⟩;refine⟨_,rfl,?_⟩;replace BK444:=vb_ BK444 hb;replace BK445:=vb_ BK445 hb;replace HB:=sb_ HB hb;(try clear hb)))
   go_ret;exact⟨rr_,hB_⟩
def spec_l13Fits.l0:Nat→List (S61)→Int→Int→List (S28)→List (List (S28))→Int→Int→Option (Bool)
 | 0,_,_,_,_,_,_,_=>none
 | k+1,x1,x2,x9,x452000,x452001,x453000,x453001=>if x9<(x1.length:Int) then (if 0≤x9 then ((spec_l13Near.f ((rd_T61 x1 x9).f0.f0) ((rd_T61 x1 x9).f0.f1) ((rd_T61 x1 x9).f1.f0) ((rd_T61 x1 x9).f1.f1) x2 x453000 x453001).bind fun t454=>(if t454=true then (some false) else (spec_l13Fits.l0 k x1 x2 (wrap64 (x9+1)) x452000 x452001 x453000 x453001))) else (none)) else ((spec_l11In.f k x452000 x452001 x453000 x453001).bind fun t455=>(some (t455==1)))
def spec_l13Fits.f (k:Nat)(l0_0:List (S28))(l0_1:List (List (S28)))(l1:List (S61))(a2:Int)(a3_0:Int)(a3_1:Int):Option (Bool):=spec_l13Fits.l0 k l1 a2 0 l0_0 l0_1 a3_0 a3_1
set_option maxHeartbeats 8000000 in
set_option maxRecDepth 100000 in
theorem spec_l13Fits.calls (k:Nat)(A0_0:Option Addr)(c0_0:Nat)(l0_0:List (S28))(A0_1:Option Addr)(c0_1:Nat)(l0_1:List (List (S28)))(A1:Option Addr)(c1:Nat)(l1:List (S61))(a2:Int)(a3_0:Int)(a3_1:Int)(r:Bool)(w:World)(hr0_0:Kd.C k28 w A0_0 l0_0.length l0_0)(hc0_0:l0_0.length≤c0_0)(hr0_1:Kd.C (Kd.slice 28 k28) w A0_1 l0_1.length l0_1)(hc0_1:l0_1.length≤c0_1)(hr1:Kd.C k61 w A1 l1.length l1)(hc1:l1.length≤c1)(h:spec_l13Fits.f k l0_0 l0_1 l1 a2 a3_0 a3_1=some r):
  Calls Tryd.prog 65 #[.agg #[.slice A0_0 l0_0.length c0_0,.slice A0_1 l0_1.length c0_1],.slice A1 l1.length c1,.int .i64 a2,.agg #[.int .i64 a3_0,.int .i64 a3_1]] w fun e w'=>e=.returned (.bool r)∧Below w.heap.size w w':=by
 have hu26:=Tryd.underlying26;have hu28:=Tryd.underlying28;have hu61:=Tryd.underlying61;have HR0_0:=Aside0.mk hr0_0;have HC0_0:=Aside0.mk hc0_0;clear hr0_0 hc0_0;have HR0_1:=Aside0.mk hr0_1;have HC0_1:=Aside0.mk hc0_1;clear hr0_1 hc0_1;have HR1:=Aside0.mk hr1;have HC1:=Aside0.mk hc1;clear hr1 hc1;have HB:=a0_ (Below.refl w.heap.size w);have H:(spec_l13Fits.l0 k l1 a2 0 l0_0 l0_1 a3_0 a3_1)=some r:=h;clear h;have H':=Aside0.mk H;clear H;go_enter Tryd.func65,Tryd.ntmps65;go_wp2_with (first | ((with_reducible refine gate_dst (N:=4) rfl ?_);refine bx_ (N:=4) (cs:=#[.slice A0_0 l0_0.length c0_0,.slice A0_1 l0_1.length c0_1]) (t:=26) (h:=?_);intro gb451 hg w5 hbox hb;have BK451:=a0_ (hbox);have GW451:=gh_ HB hg;have GE451:=gh_ HB hg;replace HB:=sb_ HB hb;clear hb hbox hg) | ((with_reducible refine gate_dst (N:=7) rfl ?_);refine bx_ (N:=7) (cs:=#[.int .i64 a3_0,.int .i64 a3_1]) (t:=28) (h:=?_);intro gb452 hg w6 hbox hb;have BK452:=a0_ (hbox);have GW452:=gh_ HB hg;have GE452:=gh_ HB hg;have NB451_452:=nl_ BK451 hg;have NB452_451:=nr_ BK451 hg;replace BK451:=vb_ BK451 hb;replace HB:=sb_ HB hb;clear hb hbox hg));go_loopg [9] k (fun kq v9 w'=>∃ (x9_1:Int),v9=.int .i64 x9_1∧Aside0 (spec_l13Fits.l0 kq l1 a2 x9_1 l0_0 l0_1 a3_0 a3_1=some r)∧Aside0 (kq≤k)∧Aside0 (w'.heap[gb451]?=some (.cells #[(.slice A0_0 l0_0.length c0_0),(.slice A0_1 l0_1.length c0_1)] 26 (0,0)))∧Aside0 (w'.heap[gb452]?=some (.cells #[.int .i64 a3_0,.int .i64 a3_1] 28 (0,0)))∧Aside0 (Below w.heap.size w w'))
 case atStart=>exact⟨(0),(by first | rfl | (simp;done) | (simp [*];done)),H',⟨Nat.le_refl _⟩,⟨uq_⟩,⟨uq_⟩,⟨hB_⟩⟩
 case round =>
  clear H';obtain⟨x9_1,rfl,HA,HK1,BK451,BK452,HB⟩:=hrel
  cases gk with
  | zero=>exact absurd HA.out (by simp [spec_l13Fits.l0])
  | succ k1 =>
   have H:=HA.out;clear HA;simp only [spec_l13Fits.l0] at H;by_cases c7:x9_1<(l1.length:Int)
   ·
    rw [if_pos c7] at H;have c7b0:decide (x9_1<(l1.length:Int))=true:=decide_eq_true c7;clear c7;by_cases c8:0≤x9_1
    ·
     rw [if_pos c8] at H;have c8b0:decide (0≤x9_1)=true:=decide_eq_true c8;clear c8;replace H:=Option.bind_eq_some_iff.mp H;obtain⟨t454,A90,H⟩:=H
     (try dsimp only at H)
     have A9:=Aside0.mk A90;clear A90;by_cases c10:t454=true
     ·
      subst c10;rw [if_pos rfl] at H
      (try dsimp only at H)
      obtain rfl:=Option.some.inj H
      try go_wp2
      replace BK451:=a0_ (blk_drew BK451.out);replace BK452:=a0_ (blk_drew BK452.out);replace HB:=a0_ (below_drew1 HB.out);have p453:0≤(x9_1:Int):=od_;have q453:x9_1<(l1.length:Int):=od_;obtain⟨ad453,e453,hx453_0,hx453_1,hx453_2,hx453_3⟩:=at_T61 HR1.out x9_1 p453 q453;have hw453_3:=hx453_3;have hw453_2:=hx453_2;have hw453_1:=hx453_1;have hw453_0:=hx453_0;cases e453;replace hx453_0:=ce_ HB hx453_0;replace hx453_1:=ce_ HB hx453_1;replace hx453_2:=ce_ HB hx453_2;replace hx453_3:=ce_ HB hx453_3;replace p453:=eq_true p453;replace q453:=eq_true q453;refine start_ (n:=7) (S:=fun w'=>w'.cell? ⟨gb452,0,none⟩=some (.int .i64 a3_0)∧w'.cell? ⟨gb452,1,none⟩=some (.int .i64 a3_1)∧w'.cell? (ad453.add ((x9_1).toNat*4))=some (.int .i64 ((rd_T61 l1 x9_1).f0.f0))∧w'.cell? ⟨(ad453.add ((x9_1).toNat*4)).block,(ad453.add ((x9_1).toNat*4)).off+1,none⟩=some (.int .i64 ((rd_T61 l1 x9_1).f0.f1))∧w'.cell? ⟨(ad453.add ((x9_1).toNat*4)).block,(ad453.add ((x9_1).toNat*4)).off+2,none⟩=some (.int .i64 ((rd_T61 l1 x9_1).f1.f0))∧w'.cell? ⟨(ad453.add ((x9_1).toNat*4)).block,(ad453.add ((x9_1).toNat*4)).off+3,none⟩=some (.int .i64 ((rd_T61 l1 x9_1).f1.f1))) (ds:=[]) (Array.replicate 7 false) (by kernel_rfl) rfl rfl ⟨bc_,bc_,(ce_ HB hw453_0),(ce_ HB hw453_1),(ce_ HB hw453_2),(ce_ HB hw453_3)⟩ (fun hHeld=>?_);generalize wr.drew=w11 at BK451 BK452 HB hx453_0 hx453_1 hx453_2 hx453_3 hHeld ⊢
      refine pv_ 0 16 (bm 7 1) ?_;refine pv_ 1 17 (bm 7 3) ?_;refine pv_ 2 18 (bm 7 7) ?_;refine pv_ 4 20 (bm 7 23) ?_;refine tb6_ 3 19 (bm 7 31) hHeld ?_;refine tb6_ 5 21 (bm 7 63) hHeld ?_;refine one_ (i:=6) (N:=some 22) (bm 7 127) rfl rfl (by kernel_rfl) (by decide) (fun K hK=>?_);refine goes_ Tryd.func105 (by kernel_rfl) rfl #[.agg #[.int .i64 ((rd_T61 l1 x9_1).f0.f0),.int .i64 ((rd_T61 l1 x9_1).f0.f1),.int .i64 ((rd_T61 l1 x9_1).f1.f0),.int .i64 ((rd_T61 l1 x9_1).f1.f1)],.int .i64 a2,.agg #[.int .i64 a3_0,.int .i64 a3_1]] (by rfl) rfl rfl ma_ ?_
      with_reducible refine (spec_l13Near.calls ((rd_T61 l1 x9_1).f0.f0) ((rd_T61 l1 x9_1).f0.f1) ((rd_T61 l1 x9_1).f1.f0) ((rd_T61 l1 x9_1).f1.f1) a2 a3_0 a3_1 true _ A9.out).mono ?_
      rintro e w12 ⟨rfl,hb⟩;refine⟨_,rfl,?_⟩;replace BK451:=vb_ BK451 hb;replace BK452:=vb_ BK452 hb;replace HB:=sb_ HB hb
      (try clear hb)
      (try clear hb2)
      (try clear hk)
      (try clear hi)
      refine hK.out _ _ ⟨bc_,bc_,(ce_ HB hw453_0),(ce_ HB hw453_1),(ce_ HB hw453_2),(ce_ HB hw453_3)⟩ (fun hHeld=>?_);clear hK K;refine no_ (h:=?_);refine done_ (by kernel_rfl) ?_
      try go_wp2
      go_ret;exact⟨rr_,hB_⟩
     ·
      replace c10:=Bool.eq_false_iff.mpr c10;subst c10;rw [if_neg (show ¬ (false=true) by decide)] at H
      (try dsimp only at H)
      have H':=Aside0.mk H;clear H
      try go_wp2
      replace BK451:=a0_ (blk_drew BK451.out);replace BK452:=a0_ (blk_drew BK452.out);replace HB:=a0_ (below_drew1 HB.out);have p453:0≤(x9_1:Int):=od_;have q453:x9_1<(l1.length:Int):=od_;obtain⟨ad453,e453,hx453_0,hx453_1,hx453_2,hx453_3⟩:=at_T61 HR1.out x9_1 p453 q453;have hw453_3:=hx453_3;have hw453_2:=hx453_2;have hw453_1:=hx453_1;have hw453_0:=hx453_0;cases e453;replace hx453_0:=ce_ HB hx453_0;replace hx453_1:=ce_ HB hx453_1;replace hx453_2:=ce_ HB hx453_2;replace hx453_3:=ce_ HB hx453_3;replace p453:=eq_true p453;replace q453:=eq_true q453;refine start_ (n:=7) (S:=fun w'=>w'.cell? ⟨gb452,0,none⟩=some (.int .i64 a3_0)∧w'.cell? ⟨gb452,1,none⟩=some (.int .i64 a3_1)∧w'.cell? (ad453.add ((x9_1).toNat*4))=some (.int .i64 ((rd_T61 l1 x9_1).f0.f0))∧w'.cell? ⟨(ad453.add ((x9_1).toNat*4)).block,(ad453.add ((x9_1).toNat*4)).off+1,none⟩=some (.int .i64 ((rd_T61 l1 x9_1).f0.f1))∧w'.cell? ⟨(ad453.add ((x9_1).toNat*4)).block,(ad453.add ((x9_1).toNat*4)).off+2,none⟩=some (.int .i64 ((rd_T61 l1 x9_1).f1.f0))∧w'.cell? ⟨(ad453.add ((x9_1).toNat*4)).block,(ad453.add ((x9_1).toNat*4)).off+3,none⟩=some (.int .i64 ((rd_T61 l1 x9_1).f1.f1))) (ds:=[]) (Array.replicate 7 false) (by kernel_rfl) rfl rfl ⟨bc_,bc_,(ce_ HB hw453_0),(ce_ HB hw453_1),(ce_ HB hw453_2),(ce_ HB hw453_3)⟩ (fun hHeld=>?_);generalize wr.drew=w13 at BK451 BK452 HB hx453_0 hx453_1 hx453_2 hx453_3 hHeld ⊢
      refine pv_ 0 16 (bm 7 1) ?_;refine pv_ 1 17 (bm 7 3) ?_;refine pv_ 2 18 (bm 7 7) ?_;refine pv_ 4 20 (bm 7 23) ?_;refine tb6_ 3 19 (bm 7 31) hHeld ?_;refine tb6_ 5 21 (bm 7 63) hHeld ?_;refine one_ (i:=6) (N:=some 22) (bm 7 127) rfl rfl (by kernel_rfl) (by decide) (fun K hK=>?_);refine goes_ Tryd.func105 (by kernel_rfl) rfl #[.agg #[.int .i64 ((rd_T61 l1 x9_1).f0.f0),.int .i64 ((rd_T61 l1 x9_1).f0.f1),.int .i64 ((rd_T61 l1 x9_1).f1.f0),.int .i64 ((rd_T61 l1 x9_1).f1.f1)],.int .i64 a2,.agg #[.int .i64 a3_0,.int .i64 a3_1]] (by rfl) rfl rfl ma_ ?_
      with_reducible refine (spec_l13Near.calls ((rd_T61 l1 x9_1).f0.f0) ((rd_T61 l1 x9_1).f0.f1) ((rd_T61 l1 x9_1).f1.f0) ((rd_T61 l1 x9_1).f1.f1) a2 a3_0 a3_1 false _ A9.out).mono ?_
      rintro e w14 ⟨rfl,hb⟩;refine⟨_,rfl,?_⟩;replace BK451:=vb_ BK451 hb;replace BK452:=vb_ BK452 hb;replace HB:=sb_ HB hb
      (try clear hb)
      (try clear hb2)
      (try clear hk)
      (try clear hi)
      refine hK.out _ _ ⟨bc_,bc_,(ce_ HB hw453_0),(ce_ HB hw453_1),(ce_ HB hw453_2),(ce_ HB hw453_3)⟩ (fun hHeld=>?_);clear hK K;refine no_ (h:=?_);refine done_ (by kernel_rfl) ?_
      try go_wp2
      go_roundg k1
      case measure=>have:=HK1.out;omega
      case rel=>exact⟨(wrap64 (x9_1+1)),(by first | rfl | (simp;done) | (simp [*];done)),H',⟨by have:=HK1.out;omega⟩,⟨uq_⟩,⟨uq_⟩,⟨hB_⟩⟩
    ·
     rw [if_neg c8] at H;exact absurd H (by simp)
   ·
    rw [if_neg c7] at H;have c7b0:decide (x9_1<(l1.length:Int))=false:=decide_eq_false c7;clear c7;replace H:=Option.bind_eq_some_iff.mp H;obtain⟨t455,A150,H⟩:=H
    (try dsimp only at H)
    have A15:=Aside0.mk A150;clear A150;obtain rfl:=Option.some.inj H;have hnb16:=NB451_452.out;have hnc16:=NB452_451.out;have hcz17_0:=c20_ BK451;have hcz17_1:=c21_ BK451;have hfz17_0:=fz_ BK451 0;have hfz17_1:=fz_ BK451 1;have hcz18_0:=c20_ BK452;have hcz18_1:=c21_ BK452;have hfz18_0:=fz_ BK452 0;have hfz18_1:=fz_ BK452 1;go_wp2_with (first | ((with_reducible refine gate_callee (f:=54) rfl ?_);refine gL_ (some 25) Tryd.func54 #[.agg #[.slice A0_0 l0_0.length c0_0,.slice A0_1 l0_1.length c0_1],.agg #[.int .i64 a3_0,.int .i64 a3_1]] (h:=?_);(with_reducible refine (spec_l11In.calls k1 _ _ l0_0 _ _ l0_1 a3_0 a3_1 t455 _ ?side1 ?side2 ?side3 ?side4 A15.out).mono ?_);(case side1=>repeat (first | exact (Kd.C_below HR0_0.out HB.out) | (with_reducible refine Kd.C_alloc ?_ _) | (with_reducible refine Kd.C_drewN ?_ _) | (with_reducible refine Kd.C_drew ?_)));(case side2=>exact HC0_0.out);(case side3=>repeat (first | exact (Kd.C_below HR0_1.out HB.out) | (with_reducible refine Kd.C_alloc ?_ _) | (with_reducible refine Kd.C_drewN ?_ _) | (with_reducible refine Kd.C_drew ?_)));(case side4=>exact HC0_1.out);rintro e w19 ⟨rfl,hb⟩;refine⟨_,rfl,?_⟩;replace BK451:=vb_ BK451 hb;replace BK452:=vb_ BK452 hb;replace HB:=sb_ HB hb;(try clear hb)));go_ret;exact⟨rr_,hB_⟩
def spec_ToolFits.f (k:Nat)(l0_0:List (S28))(l0_1:List (List (S28)))(a1:Int)(a2_0:Int)(a2_1:Int):Option (Bool):=(spec_PlateOk.f k l0_0 l0_1).bind fun t469=>(if t469=true then ((spec_l6In.f a1 1 9).bind fun t470=>(if t470=true then ((spec_PtOk.f a2_0 a2_1).bind fun t471=>(if t471=true then ((spec_l11Edges.f k l0_0 l0_1).bind fun t472=>((spec_l13Fits.f k l0_0 l0_1 t472 a1 a2_0 a2_1).bind fun t475=>(some t475))) else (some false))) else (some false))) else (some false))
def spec_ToolFits.T1:Bool × List (List Nat × List Nat):=(true,[([],[]),([0],[0]),([1,1],[1]),([2],[2]),([3,2,2],[2,3]),([2,4],[2,4]),([5,4],[5]),([6],[6]),([7,6,6],[6,7]),([6,8],[6,8]),([9,8],[9]),([10],[10]),([10],[10]),([12,10,10],[10,12]),([10],[10]),([10],[10]),([11,13,14,15,13,10],[10,11,13,14,15]),([10,16],[10,16]),([17,16,0,1,2,3,4,5,6,7,8,9,10,11,12,13,14,15,16,17],[17])])
def spec_ToolFits.B1:List Nat:=[0,1,3,7,15,31,63,127,255,511,1023,2047,2047,6143,2047,2047,65535,131071,262143]
theorem spec_ToolFits.tab1:rtab .any (opsOf Tryd.f25 1)=spec_ToolFits.T1:=by kernel_rfl
theorem spec_ToolFits.bits1:waitsOk spec_ToolFits.T1.2 spec_ToolFits.B1=true:=by kernel_rfl
set_option maxHeartbeats 8000000 in
set_option maxRecDepth 100000 in
theorem spec_ToolFits.calls (k:Nat)(A0_0:Option Addr)(c0_0:Nat)(l0_0:List (S28))(A0_1:Option Addr)(c0_1:Nat)(l0_1:List (List (S28)))(a1:Int)(a2_0:Int)(a2_1:Int)(r:Bool)(w:World)(hr0_0:Kd.C k28 w A0_0 l0_0.length l0_0)(hc0_0:l0_0.length≤c0_0)(hr0_1:Kd.C (Kd.slice 28 k28) w A0_1 l0_1.length l0_1)(hc0_1:l0_1.length≤c0_1)(h:spec_ToolFits.f k l0_0 l0_1 a1 a2_0 a2_1=some r):
  Calls Tryd.prog 25 #[.agg #[.slice A0_0 l0_0.length c0_0,.slice A0_1 l0_1.length c0_1],.int .i64 a1,.agg #[.int .i64 a2_0,.int .i64 a2_1]] w fun e w'=>e=.returned (.bool r)∧Below w.heap.size w w':=by
 have hu26:=Tryd.underlying26;have hu28:=Tryd.underlying28;have HR0_0:=Aside0.mk hr0_0;have HC0_0:=Aside0.mk hc0_0;clear hr0_0 hc0_0;have HR0_1:=Aside0.mk hr0_1;have HC0_1:=Aside0.mk hc0_1;clear hr0_1 hc0_1;have HB:=a0_ (Below.refl w.heap.size w);have H:((spec_PlateOk.f k l0_0 l0_1).bind fun t469=>(if t469=true then ((spec_l6In.f a1 1 9).bind fun t470=>(if t470=true then ((spec_PtOk.f a2_0 a2_1).bind fun t471=>(if t471=true then ((spec_l11Edges.f k l0_0 l0_1).bind fun t472=>((spec_l13Fits.f k l0_0 l0_1 t472 a1 a2_0 a2_1).bind fun t475=>(some t475))) else (some false))) else (some false))) else (some false)))=some r:=h;clear h;replace H:=Option.bind_eq_some_iff.mp H;obtain⟨t469,A40,H⟩:=H
 (try dsimp only at H)
 have A4:=Aside0.mk A40;clear A40;by_cases c5:t469=true
 ·
  subst c5;rw [if_pos rfl] at H
  (try dsimp only at H)
  replace H:=Option.bind_eq_some_iff.mp H;obtain⟨t470,A60,H⟩:=H
  (try dsimp only at H)
  have A6:=Aside0.mk A60;clear A60;by_cases c7:t470=true
  ·
   subst c7;rw [if_pos rfl] at H
   (try dsimp only at H)
   replace H:=Option.bind_eq_some_iff.mp H;obtain⟨t471,A80,H⟩:=H
   (try dsimp only at H)
   have A8:=Aside0.mk A80;clear A80;by_cases c9:t471=true
   ·
    subst c9;rw [if_pos rfl] at H
    (try dsimp only at H)
    replace H:=Option.bind_eq_some_iff.mp H;obtain⟨t472,A100,H⟩:=H
    (try dsimp only at H)
    have A10:=Aside0.mk A100;clear A100;replace H:=Option.bind_eq_some_iff.mp H;obtain⟨t475,A110,H⟩:=H
    (try dsimp only at H)
    have A11:=Aside0.mk A110;clear A110;obtain rfl:=Option.some.inj H;go_enter Tryd.func25,Tryd.ntmps25
    try go_wp2_with (first | ((with_reducible refine gate_dst (N:=3) rfl ?_);refine bx_ (N:=3) (cs:=#[.slice A0_0 l0_0.length c0_0,.slice A0_1 l0_1.length c0_1]) (t:=26) (h:=?_);intro gb467 hg w12 hbox hb;have BK467:=a0_ (hbox);have GW467:=gh_ HB hg;have GE467:=gh_ HB hg;replace HB:=sb_ HB hb;clear hb hbox hg) | ((with_reducible refine gate_dst (N:=5) rfl ?_);refine bx_ (N:=5) (cs:=#[.int .i64 a2_0,.int .i64 a2_1]) (t:=28) (h:=?_);intro gb468 hg w13 hbox hb;have BK468:=a0_ (hbox);have GW468:=gh_ HB hg;have GE468:=gh_ HB hg;have NB467_468:=nl_ BK467 hg;have NB468_467:=nr_ BK467 hg;replace BK467:=vb_ BK467 hb;replace HB:=sb_ HB hb;clear hb hbox hg))
    replace BK467:=a0_ (blk_drew BK467.out);replace BK468:=a0_ (blk_drew BK468.out);replace HB:=a0_ (below_drew1 HB.out);refine start_ (n:=19) (S:=fun w'=>w'.cell? ⟨gb467,0,none⟩=some (.slice A0_0 l0_0.length c0_0)∧w'.cell? ⟨gb467,1,none⟩=some (.slice A0_1 l0_1.length c0_1)∧w'.cell? ⟨gb468,0,none⟩=some (.int .i64 a2_0)∧w'.cell? ⟨gb468,1,none⟩=some (.int .i64 a2_1)) (ds:=[]) (Array.replicate 19 false) (by kernel_rfl) rfl rfl ⟨bc_,bc_,bc_,bc_⟩ (fun hHeld=>?_);refine with_tabW spec_ToolFits.tab1 spec_ToolFits.bits1 (fun HT_ HW_=>?_);generalize w13.drew=w14 at BK467 BK468 HB hHeld ⊢
    refine ta4_ HT_ HW_ 0 7 (bm 19 1) hHeld ?_;refine one_ (i:=1) (N:=some 8) (bm 19 3) rfl rfl (one_of HT_.out (by kernel_rfl)) (by decide) (fun K hK=>?_);refine goes_ Tryd.func18 (by kernel_rfl) rfl #[.agg #[.slice A0_0 l0_0.length c0_0,.slice A0_1 l0_1.length c0_1]] (by rfl) rfl rfl ma_ ?_
    with_reducible refine (spec_PlateOk.calls k _ _ l0_0 _ _ l0_1 true _ ?side1 ?side2 ?side3 ?side4 A4.out).mono ?_
    (case side1=>repeat (first | exact (Kd.C_below HR0_0.out HB.out) | (with_reducible refine Kd.C_alloc ?_ _) | (with_reducible refine Kd.C_drewN ?_ _) | (with_reducible refine Kd.C_drew ?_)))
    (case side2=>exact HC0_0.out)
    (case side3=>repeat (first | exact (Kd.C_below HR0_1.out HB.out) | (with_reducible refine Kd.C_alloc ?_ _) | (with_reducible refine Kd.C_drewN ?_ _) | (with_reducible refine Kd.C_drew ?_)))
    (case side4=>exact HC0_1.out)
    rintro e w15 ⟨rfl,hb⟩;refine⟨_,rfl,?_⟩;replace BK467:=vb_ BK467 hb;replace BK468:=vb_ BK468 hb;replace HB:=sb_ HB hb
    (try clear hb)
    (try clear hb2)
    (try clear hk)
    (try clear hi)
    refine hK.out _ _ ⟨bc_,bc_,bc_,bc_⟩ (fun hHeld=>?_);clear hK K;refine no_ (h:=?_);refine pu_ HT_ 2 9 (bm 19 7) ?_;refine pu_ HT_ 3 10 (bm 19 15) ?_;refine one_ (i:=4) (N:=some 11) (bm 19 31) rfl rfl (one_of HT_.out (by kernel_rfl)) (by decide) (fun K hK=>?_);refine goes_ Tryd.func58 (by kernel_rfl) rfl #[.int .i64 a1,.int .i64 1,.int .i64 9] (by rfl) rfl rfl ma_ ?_
    with_reducible refine (spec_l6In.calls a1 1 9 true _ A6.out).mono ?_
    rintro e w' ⟨rfl,⟨nd,rfl⟩⟩;refine⟨_,rfl,?_⟩;refine hK.out _ _ ⟨bc_,bc_,bc_,bc_⟩ (fun hHeld=>?_);clear hK K;refine no_ (h:=?_);refine pu_ HT_ 5 12 (bm 19 63) ?_;refine pu_ HT_ 6 13 (bm 19 127) ?_;refine ta4_ HT_ HW_ 7 14 (bm 19 255) hHeld ?_;refine one_ (i:=8) (N:=some 15) (bm 19 511) rfl rfl (one_of HT_.out (by kernel_rfl)) (by decide) (fun K hK=>?_);refine goes_ Tryd.func19 (by kernel_rfl) rfl #[.agg #[.int .i64 a2_0,.int .i64 a2_1]] (by rfl) rfl rfl ma_ ?_
    with_reducible refine (spec_PtOk.calls a2_0 a2_1 true _ A8.out).mono ?_
    rintro e w16 ⟨rfl,hb⟩;refine⟨_,rfl,?_⟩;replace BK467:=vb_ BK467 hb;replace BK468:=vb_ BK468 hb;replace HB:=sb_ HB hb
    (try clear hb)
    (try clear hb2)
    (try clear hk)
    (try clear hi)
    refine hK.out _ _ ⟨bc_,bc_,bc_,bc_⟩ (fun hHeld=>?_);clear hK K;refine no_ (h:=?_);refine pu_ HT_ 9 16 (bm 19 1023) ?_;refine pu_ HT_ 10 17 (bm 19 2047) ?_;refine pu_ HT_ 14 21 (bm 19 18431) ?_;refine ta4_ HT_ HW_ 11 18 (bm 19 20479) hHeld ?_;refine ta4_ HT_ HW_ 12 19 (bm 19 24575) hHeld ?_;refine ta4_ HT_ HW_ 15 22 (bm 19 57343) hHeld ?_;refine one_ (i:=13) (N:=some 20) (bm 19 65535) rfl rfl (one_of HT_.out (by kernel_rfl)) (by decide) (fun K hK=>?_);refine goes_ Tryd.func66 (by kernel_rfl) rfl #[.agg #[.slice A0_0 l0_0.length c0_0,.slice A0_1 l0_1.length c0_1]] (by rfl) rfl rfl ma_ ?_
    with_reducible refine (spec_l11Edges.calls k _ _ l0_0 _ _ l0_1 t472 _ ?side1 ?side2 ?side3 ?side4 A10.out).mono ?_
    (case side1=>repeat (first | exact (Kd.C_below HR0_0.out HB.out) | (with_reducible refine Kd.C_alloc ?_ _) | (with_reducible refine Kd.C_drewN ?_ _) | (with_reducible refine Kd.C_drew ?_)))
    (case side2=>exact HC0_0.out)
    (case side3=>repeat (first | exact (Kd.C_below HR0_1.out HB.out) | (with_reducible refine Kd.C_alloc ?_ _) | (with_reducible refine Kd.C_drewN ?_ _) | (with_reducible refine Kd.C_drew ?_)))
    (case side4=>exact HC0_1.out)
    rintro e w17 ⟨v473,rfl,ho0,hb⟩;refine⟨_,rfl,?_⟩;have HO474:=a0_ (Kd.R_lower ho0 (below_size hB_));replace BK467:=vb_ BK467 hb;replace BK468:=vb_ BK468 hb;replace HB:=sb_ HB hb
    (try clear hb)
    (try clear hb2)
    (try clear hk)
    (try clear hi)
    (try clear ho0)
    obtain⟨Ao18,co18,eo18⟩:=Kd.R_slice HO474.out
    (first | subst eo18 | (injection eo18 with f1_ f2_ f3_;have f4_:=f1_.symm;have f5_:=f3_.symm;clear f1_ f2_ f3_;subst f4_;subst f5_))
    refine hK.out _ _ ⟨bc_,bc_,bc_,bc_⟩ (fun hHeld=>?_);clear hK K;refine no_ (h:=?_);refine one_ (i:=16) (N:=some 23) (bm 19 131071) rfl rfl (one_of HT_.out (by kernel_rfl)) (by decide) (fun K hK=>?_);refine goes_ Tryd.func65 (by kernel_rfl) rfl #[.agg #[.slice A0_0 l0_0.length c0_0,.slice A0_1 l0_1.length c0_1],.slice Ao18 t472.length co18,.int .i64 a1,.agg #[.int .i64 a2_0,.int .i64 a2_1]] (by rfl) rfl rfl ma_ ?_
    with_reducible refine (spec_l13Fits.calls k _ _ l0_0 _ _ l0_1 _ _ t472 a1 a2_0 a2_1 t475 _ ?side1 ?side2 ?side3 ?side4 ?side5 ?side6 A11.out).mono ?_
    (case side1=>repeat (first | exact (Kd.C_below HR0_0.out HB.out) | (with_reducible refine Kd.C_alloc ?_ _) | (with_reducible refine Kd.C_drewN ?_ _) | (with_reducible refine Kd.C_drew ?_)))
    (case side2=>exact HC0_0.out)
    (case side3=>repeat (first | exact (Kd.C_below HR0_1.out HB.out) | (with_reducible refine Kd.C_alloc ?_ _) | (with_reducible refine Kd.C_drewN ?_ _) | (with_reducible refine Kd.C_drew ?_)))
    (case side4=>exact HC0_1.out)
    (case side5=>repeat (first | exact (Kd.R_reads' HO474.out).2.2 | (with_reducible refine Kd.C_alloc ?_ _) | (with_reducible refine Kd.C_drewN ?_ _) | (with_reducible refine Kd.C_drew ?_)))
    (case side6=>exact (Kd.R_reads' HO474.out).2.1)
    rintro e w19 ⟨rfl,hb⟩;refine⟨_,rfl,?_⟩;replace HO474:=rb_ HO474 hb;replace BK467:=vb_ BK467 hb;replace BK468:=vb_ BK468 hb;replace HB:=sb_ HB hb
    (try clear hb)
    (try clear hb2)
    (try clear hk)
    (try clear hi)
    refine hK.out _ _ ⟨bc_,bc_,bc_,bc_⟩ (fun hHeld=>?_);clear hK K;refine no_ (h:=?_);refine pu_ HT_ 17 24 (bm 19 262143) ?_;refine pu_ HT_ 18 6 (bm 19 524287) ?_;refine done_ (done_of HT_.out (by kernel_rfl)) ?_
    try go_wp2
    go_ret;exact⟨rr_,hB_⟩
   ·
    replace c9:=Bool.eq_false_iff.mpr c9;subst c9;rw [if_neg (show ¬ (false=true) by decide)] at H
    (try dsimp only at H)
    obtain rfl:=Option.some.inj H;go_enter Tryd.func25,Tryd.ntmps25
    try go_wp2_with (first | ((with_reducible refine gate_dst (N:=3) rfl ?_);refine bx_ (N:=3) (cs:=#[.slice A0_0 l0_0.length c0_0,.slice A0_1 l0_1.length c0_1]) (t:=26) (h:=?_);intro gb467 hg w20 hbox hb;have BK467:=a0_ (hbox);have GW467:=gh_ HB hg;have GE467:=gh_ HB hg;replace HB:=sb_ HB hb;clear hb hbox hg) | ((with_reducible refine gate_dst (N:=5) rfl ?_);refine bx_ (N:=5) (cs:=#[.int .i64 a2_0,.int .i64 a2_1]) (t:=28) (h:=?_);intro gb468 hg w21 hbox hb;have BK468:=a0_ (hbox);have GW468:=gh_ HB hg;have GE468:=gh_ HB hg;have NB467_468:=nl_ BK467 hg;have NB468_467:=nr_ BK467 hg;replace BK467:=vb_ BK467 hb;replace HB:=sb_ HB hb;clear hb hbox hg))
    replace BK467:=a0_ (blk_drew BK467.out);replace BK468:=a0_ (blk_drew BK468.out);replace HB:=a0_ (below_drew1 HB.out);refine start_ (n:=19) (S:=fun w'=>w'.cell? ⟨gb467,0,none⟩=some (.slice A0_0 l0_0.length c0_0)∧w'.cell? ⟨gb467,1,none⟩=some (.slice A0_1 l0_1.length c0_1)∧w'.cell? ⟨gb468,0,none⟩=some (.int .i64 a2_0)∧w'.cell? ⟨gb468,1,none⟩=some (.int .i64 a2_1)) (ds:=[]) (Array.replicate 19 false) (by kernel_rfl) rfl rfl ⟨bc_,bc_,bc_,bc_⟩ (fun hHeld=>?_);refine with_tabW spec_ToolFits.tab1 spec_ToolFits.bits1 (fun HT_ HW_=>?_);generalize w21.drew=w22 at BK467 BK468 HB hHeld ⊢
    refine ta4_ HT_ HW_ 0 7 (bm 19 1) hHeld ?_;refine one_ (i:=1) (N:=some 8) (bm 19 3) rfl rfl (one_of HT_.out (by kernel_rfl)) (by decide) (fun K hK=>?_);refine goes_ Tryd.func18 (by kernel_rfl) rfl #[.agg #[.slice A0_0 l0_0.length c0_0,.slice A0_1 l0_1.length c0_1]] (by rfl) rfl rfl ma_ ?_
    with_reducible refine (spec_PlateOk.calls k _ _ l0_0 _ _ l0_1 true _ ?side1 ?side2 ?side3 ?side4 A4.out).mono ?_
    (case side1=>repeat (first | exact (Kd.C_below HR0_0.out HB.out) | (with_reducible refine Kd.C_alloc ?_ _) | (with_reducible refine Kd.C_drewN ?_ _) | (with_reducible refine Kd.C_drew ?_)))
    (case side2=>exact HC0_0.out)
    (case side3=>repeat (first | exact (Kd.C_below HR0_1.out HB.out) | (with_reducible refine Kd.C_alloc ?_ _) | (with_reducible refine Kd.C_drewN ?_ _) | (with_reducible refine Kd.C_drew ?_)))
    (case side4=>exact HC0_1.out)
    rintro e w23 ⟨rfl,hb⟩;refine⟨_,rfl,?_⟩;replace BK467:=vb_ BK467 hb;replace BK468:=vb_ BK468 hb;replace HB:=sb_ HB hb
    (try clear hb)
    (try clear hb2)
    (try clear hk)
    (try clear hi)
    refine hK.out _ _ ⟨bc_,bc_,bc_,bc_⟩ (fun hHeld=>?_);clear hK K;refine no_ (h:=?_);refine pu_ HT_ 2 9 (bm 19 7) ?_;refine pu_ HT_ 3 10 (bm 19 15) ?_;refine one_ (i:=4) (N:=some 11) (bm 19 31) rfl rfl (one_of HT_.out (by kernel_rfl)) (by decide) (fun K hK=>?_);refine goes_ Tryd.func58 (by kernel_rfl) rfl #[.int .i64 a1,.int .i64 1,.int .i64 9] (by rfl) rfl rfl ma_ ?_
    with_reducible refine (spec_l6In.calls a1 1 9 true _ A6.out).mono ?_
    rintro e w' ⟨rfl,⟨nd,rfl⟩⟩;refine⟨_,rfl,?_⟩;refine hK.out _ _ ⟨bc_,bc_,bc_,bc_⟩ (fun hHeld=>?_);clear hK K;refine no_ (h:=?_);refine pu_ HT_ 5 12 (bm 19 63) ?_;refine pu_ HT_ 6 13 (bm 19 127) ?_;refine ta4_ HT_ HW_ 7 14 (bm 19 255) hHeld ?_;refine one_ (i:=8) (N:=some 15) (bm 19 511) rfl rfl (one_of HT_.out (by kernel_rfl)) (by decide) (fun K hK=>?_);refine goes_ Tryd.func19 (by kernel_rfl) rfl #[.agg #[.int .i64 a2_0,.int .i64 a2_1]] (by rfl) rfl rfl ma_ ?_
    with_reducible refine (spec_PtOk.calls a2_0 a2_1 false _ A8.out).mono ?_
    rintro e w24 ⟨rfl,hb⟩;refine⟨_,rfl,?_⟩;replace BK467:=vb_ BK467 hb;replace BK468:=vb_ BK468 hb;replace HB:=sb_ HB hb
    (try clear hb)
    (try clear hb2)
    (try clear hk)
    (try clear hi)
    refine hK.out _ _ ⟨bc_,bc_,bc_,bc_⟩ (fun hHeld=>?_);clear hK K;refine no_ (h:=?_);refine pu_ HT_ 9 16 (bm 19 1023) ?_;refine pu_ HT_ 10 17 (bm 19 2047) ?_;refine pz_ HT_ 11 18 (bm 19 4095) ?_;refine pz_ HT_ 12 19 (bm 19 8191) ?_;refine pz_ HT_ 13 20 (bm 19 16383) ?_;refine pz_ HT_ 14 21 (bm 19 32767) ?_;refine pz_ HT_ 15 22 (bm 19 65535) ?_;refine pz_ HT_ 16 23 (bm 19 131071) ?_;refine pu_ HT_ 17 24 (bm 19 262143) ?_;refine pu_ HT_ 18 6 (bm 19 524287) ?_;refine done_ (done_of HT_.out (by kernel_rfl)) ?_
    try go_wp2
    go_ret;exact⟨rr_,hB_⟩
  ·
   replace c7:=Bool.eq_false_iff.mpr c7;subst c7;rw [if_neg (show ¬ (false=true) by decide)] at H
   (try dsimp only at H)
   obtain rfl:=Option.some.inj H;go_enter Tryd.func25,Tryd.ntmps25
   try go_wp2_with (first | ((with_reducible refine gate_dst (N:=3) rfl ?_);refine bx_ (N:=3) (cs:=#[.slice A0_0 l0_0.length c0_0,.slice A0_1 l0_1.length c0_1]) (t:=26) (h:=?_);intro gb467 hg w25 hbox hb;have BK467:=a0_ (hbox);have GW467:=gh_ HB hg;have GE467:=gh_ HB hg;replace HB:=sb_ HB hb;clear hb hbox hg) | ((with_reducible refine gate_dst (N:=5) rfl ?_);refine bx_ (N:=5) (cs:=#[.int .i64 a2_0,.int .i64 a2_1]) (t:=28) (h:=?_);intro gb468 hg w26 hbox hb;have BK468:=a0_ (hbox);have GW468:=gh_ HB hg;have GE468:=gh_ HB hg;have NB467_468:=nl_ BK467 hg;have NB468_467:=nr_ BK467 hg;replace BK467:=vb_ BK467 hb;replace HB:=sb_ HB hb;clear hb hbox hg))
   replace BK467:=a0_ (blk_drew BK467.out);replace BK468:=a0_ (blk_drew BK468.out);replace HB:=a0_ (below_drew1 HB.out);refine start_ (n:=19) (S:=fun w'=>w'.cell? ⟨gb467,0,none⟩=some (.slice A0_0 l0_0.length c0_0)∧w'.cell? ⟨gb467,1,none⟩=some (.slice A0_1 l0_1.length c0_1)) (ds:=[]) (Array.replicate 19 false) (by kernel_rfl) rfl rfl ⟨bc_,bc_⟩ (fun hHeld=>?_);refine with_tabW spec_ToolFits.tab1 spec_ToolFits.bits1 (fun HT_ HW_=>?_);generalize w26.drew=w27 at BK467 BK468 HB hHeld ⊢
   refine ta2_ HT_ HW_ 0 7 (bm 19 1) hHeld ?_;refine one_ (i:=1) (N:=some 8) (bm 19 3) rfl rfl (one_of HT_.out (by kernel_rfl)) (by decide) (fun K hK=>?_);refine goes_ Tryd.func18 (by kernel_rfl) rfl #[.agg #[.slice A0_0 l0_0.length c0_0,.slice A0_1 l0_1.length c0_1]] (by rfl) rfl rfl ma_ ?_
   with_reducible refine (spec_PlateOk.calls k _ _ l0_0 _ _ l0_1 true _ ?side1 ?side2 ?side3 ?side4 A4.out).mono ?_
   (case side1=>repeat (first | exact (Kd.C_below HR0_0.out HB.out) | (with_reducible refine Kd.C_alloc ?_ _) | (with_reducible refine Kd.C_drewN ?_ _) | (with_reducible refine Kd.C_drew ?_)))
   (case side2=>exact HC0_0.out)
   (case side3=>repeat (first | exact (Kd.C_below HR0_1.out HB.out) | (with_reducible refine Kd.C_alloc ?_ _) | (with_reducible refine Kd.C_drewN ?_ _) | (with_reducible refine Kd.C_drew ?_)))
   (case side4=>exact HC0_1.out)
   rintro e w28 ⟨rfl,hb⟩;refine⟨_,rfl,?_⟩;replace BK467:=vb_ BK467 hb;replace BK468:=vb_ BK468 hb;replace HB:=sb_ HB hb
   (try clear hb)
   (try clear hb2)
   (try clear hk)
   (try clear hi)
   refine hK.out _ _ ⟨bc_,bc_⟩ (fun hHeld=>?_);clear hK K;refine no_ (h:=?_);refine pu_ HT_ 2 9 (bm 19 7) ?_;refine pu_ HT_ 3 10 (bm 19 15) ?_;refine one_ (i:=4) (N:=some 11) (bm 19 31) rfl rfl (one_of HT_.out (by kernel_rfl)) (by decide) (fun K hK=>?_);refine goes_ Tryd.func58 (by kernel_rfl) rfl #[.int .i64 a1,.int .i64 1,.int .i64 9] (by rfl) rfl rfl ma_ ?_
   with_reducible refine (spec_l6In.calls a1 1 9 false _ A6.out).mono ?_
   rintro e w' ⟨rfl,⟨nd,rfl⟩⟩;refine⟨_,rfl,?_⟩;refine hK.out _ _ ⟨bc_,bc_⟩ (fun hHeld=>?_);clear hK K;refine no_ (h:=?_);refine pu_ HT_ 5 12 (bm 19 63) ?_;refine pu_ HT_ 6 13 (bm 19 127) ?_;refine pz_ HT_ 7 14 (bm 19 255) ?_;refine pz_ HT_ 8 15 (bm 19 511) ?_;refine pu_ HT_ 9 16 (bm 19 1023) ?_;refine pu_ HT_ 10 17 (bm 19 2047) ?_;refine pz_ HT_ 11 18 (bm 19 4095) ?_;refine pz_ HT_ 12 19 (bm 19 8191) ?_;refine pz_ HT_ 13 20 (bm 19 16383) ?_;refine pz_ HT_ 14 21 (bm 19 32767) ?_;refine pz_ HT_ 15 22 (bm 19 65535) ?_;refine pz_ HT_ 16 23 (bm 19 131071) ?_;refine pu_ HT_ 17 24 (bm 19 262143) ?_;refine pu_ HT_ 18 6 (bm 19 524287) ?_;refine done_ (done_of HT_.out (by kernel_rfl)) ?_
   try go_wp2
   go_ret;exact⟨rr_,hB_⟩
 ·
  replace c5:=Bool.eq_false_iff.mpr c5;subst c5;rw [if_neg (show ¬ (false=true) by decide)] at H
  (try dsimp only at H)
  obtain rfl:=Option.some.inj H;go_enter Tryd.func25,Tryd.ntmps25
  try go_wp2_with (first | ((with_reducible refine gate_dst (N:=3) rfl ?_);refine bx_ (N:=3) (cs:=#[.slice A0_0 l0_0.length c0_0,.slice A0_1 l0_1.length c0_1]) (t:=26) (h:=?_);intro gb467 hg w29 hbox hb;have BK467:=a0_ (hbox);have GW467:=gh_ HB hg;have GE467:=gh_ HB hg;replace HB:=sb_ HB hb;clear hb hbox hg) | ((with_reducible refine gate_dst (N:=5) rfl ?_);refine bx_ (N:=5) (cs:=#[.int .i64 a2_0,.int .i64 a2_1]) (t:=28) (h:=?_);intro gb468 hg w30 hbox hb;have BK468:=a0_ (hbox);have GW468:=gh_ HB hg;have GE468:=gh_ HB hg;have NB467_468:=nl_ BK467 hg;have NB468_467:=nr_ BK467 hg;replace BK467:=vb_ BK467 hb;replace HB:=sb_ HB hb;clear hb hbox hg))
  replace BK467:=a0_ (blk_drew BK467.out);replace BK468:=a0_ (blk_drew BK468.out);replace HB:=a0_ (below_drew1 HB.out);refine start_ (n:=19) (S:=fun w'=>w'.cell? ⟨gb467,0,none⟩=some (.slice A0_0 l0_0.length c0_0)∧w'.cell? ⟨gb467,1,none⟩=some (.slice A0_1 l0_1.length c0_1)) (ds:=[]) (Array.replicate 19 false) (by kernel_rfl) rfl rfl ⟨bc_,bc_⟩ (fun hHeld=>?_);refine with_tabW spec_ToolFits.tab1 spec_ToolFits.bits1 (fun HT_ HW_=>?_);generalize w30.drew=w31 at BK467 BK468 HB hHeld ⊢
  refine ta2_ HT_ HW_ 0 7 (bm 19 1) hHeld ?_;refine one_ (i:=1) (N:=some 8) (bm 19 3) rfl rfl (one_of HT_.out (by kernel_rfl)) (by decide) (fun K hK=>?_);refine goes_ Tryd.func18 (by kernel_rfl) rfl #[.agg #[.slice A0_0 l0_0.length c0_0,.slice A0_1 l0_1.length c0_1]] (by rfl) rfl rfl ma_ ?_
  with_reducible refine (spec_PlateOk.calls k _ _ l0_0 _ _ l0_1 false _ ?side1 ?side2 ?side3 ?side4 A4.out).mono ?_
  (case side1=>repeat (first | exact (Kd.C_below HR0_0.out HB.out) | (with_reducible refine Kd.C_alloc ?_ _) | (with_reducible refine Kd.C_drewN ?_ _) | (with_reducible refine Kd.C_drew ?_)))
  (case side2=>exact HC0_0.out)
  (case side3=>repeat (first | exact (Kd.C_below HR0_1.out HB.out) | (with_reducible refine Kd.C_alloc ?_ _) | (with_reducible refine Kd.C_drewN ?_ _) | (with_reducible refine Kd.C_drew ?_)))
  (case side4=>exact HC0_1.out)
  rintro e w32 ⟨rfl,hb⟩;refine⟨_,rfl,?_⟩;replace BK467:=vb_ BK467 hb;replace BK468:=vb_ BK468 hb;replace HB:=sb_ HB hb
  (try clear hb)
  (try clear hb2)
  (try clear hk)
  (try clear hi)
  refine hK.out _ _ ⟨bc_,bc_⟩ (fun hHeld=>?_);clear hK K;refine no_ (h:=?_);refine pu_ HT_ 2 9 (bm 19 7) ?_;refine pz_ HT_ 3 10 (bm 19 15) ?_;refine pz_ HT_ 4 11 (bm 19 31) ?_;refine pu_ HT_ 5 12 (bm 19 63) ?_;refine pu_ HT_ 6 13 (bm 19 127) ?_;refine pz_ HT_ 7 14 (bm 19 255) ?_;refine pz_ HT_ 8 15 (bm 19 511) ?_;refine pu_ HT_ 9 16 (bm 19 1023) ?_;refine pu_ HT_ 10 17 (bm 19 2047) ?_;refine pz_ HT_ 11 18 (bm 19 4095) ?_;refine pz_ HT_ 12 19 (bm 19 8191) ?_;refine pz_ HT_ 13 20 (bm 19 16383) ?_;refine pz_ HT_ 14 21 (bm 19 32767) ?_;refine pz_ HT_ 15 22 (bm 19 65535) ?_;refine pz_ HT_ 16 23 (bm 19 131071) ?_;refine pu_ HT_ 17 24 (bm 19 262143) ?_;refine pu_ HT_ 18 6 (bm 19 524287) ?_;refine done_ (done_of HT_.out (by kernel_rfl)) ?_
  try go_wp2
  go_ret;exact⟨rr_,hB_⟩
def spec_l71Stand.l0:Nat→Int→Int→List Int→Int→List (S28)→List (List (S28))→Int→Int→Option ((List (S28)) × (List (List (S28))) × Int × Int × Int × Int)
 | 0,_,_,_,_,_,_,_,_=>none
 | k+1,x6,x8,x1000,x1001,x691000,x691001,x697000,x697001=>if x8<30 then ((spec_l6Rd_pick.f k x1000 x1001 20).bind fun bt697=>(if bt697.1>0 then ((spec_ToolFits.f k x691000 x691001 x6 x697000 x697001).bind fun t699=>(if t699=true then (some (x691000,x691001,x6,x697000,x697001,bt697.2)) else ((spec_l71Pt.f k x1000 bt697.2).bind fun bt700=>(spec_l71Stand.l0 k x6 (wrap64 (x8+1)) x1000 bt700.2.2 x691000 x691001 bt700.1 bt700.2.1)))) else (some (x691000,x691001,x6,x697000,x697001,bt697.2)))) else (some (x691000,x691001,x6,x697000,x697001,x1001))
def spec_l71Stand.f (k:Nat)(s0_0:List Int)(s0_1:Int):Option ((List (S28)) × (List (List (S28))) × Int × Int × Int × Int):=(spec_l71Plate.f k s0_0 s0_1).bind fun bt683=>((spec_l71Tool.f k s0_0 bt683.2.2).bind fun bt691=>((spec_l71Pt.f k s0_0 bt691.2).bind fun bt693=>(spec_l71Stand.l0 k bt691.1 0 s0_0 bt693.2.2 bt683.1 bt683.2.1 bt693.1 bt693.2.1)))
set_option maxHeartbeats 8000000 in
set_option maxRecDepth 100000 in
theorem spec_l71Stand.calls (k:Nat)(g:Nat)(s0_0:List Int)(s0_1:Int)(r1:List (S28))(r2:List (List (S28)))(r3:Int)(r4:Int)(r5:Int)(r6:Int)(w0 w:World)(hI:IsS123 w0 w g s0_0 s0_1)(hB:Below w0.heap.size w0 w)(h:spec_l71Stand.f k s0_0 s0_1=some (r1,r2,r3,r4,r5,r6)):
  Calls Tryd.prog 76 #[.pointer (some ⟨g,0,none⟩)] w fun e w'=>∃ v0_ v1_:Value,e=.returned (.tuple #[.agg #[v0_,v1_],.int .i64 r3,.agg #[.int .i64 r4,.int .i64 r5]])∧Kd.R k28 28 w' w.heap.size (fun k_=>(w.heap.size≤k_)) v0_ r1∧Kd.N (Kd.slice 28 k28) 23 w' w.heap.size (fun k_=>(w.heap.size≤k_)∧some k_≠(v0_:Value).ownBlock) v1_ r2∧IsS123 w0 w' g s0_0 r6∧Below w0.heap.size w0 w'∧KeepBut w w' g none:=by
 have hu26:=Tryd.underlying26;have hu28:=Tryd.underlying28;have HI0:=Aside0.mk hI;have HK:=a0_ (KeepBut.refl w g none);have HL:=Aside0.mk hB.size;clear hI;have HW0:=Aside0.mk hB.size;have HB:=Aside0.mk hB;clear hB;have H:((spec_l71Plate.f k s0_0 s0_1).bind fun bt683=>((spec_l71Tool.f k s0_0 bt683.2.2).bind fun bt691=>((spec_l71Pt.f k s0_0 bt691.2).bind fun bt693=>(spec_l71Stand.l0 k bt691.1 0 s0_0 bt693.2.2 bt683.1 bt683.2.1 bt693.1 bt693.2.1))))=some (r1,r2,r3,r4,r5,r6):=h;clear h;replace H:=Option.bind_eq_some_iff.mp H;obtain⟨⟨t683,t686,t689⟩,A20,H⟩:=H
 (try dsimp only at H)
 have A2:=Aside0.mk A20;clear A20;replace H:=Option.bind_eq_some_iff.mp H;obtain⟨⟨t691,t692⟩,A30,H⟩:=H
 (try dsimp only at H)
 have A3:=Aside0.mk A30;clear A30;replace H:=Option.bind_eq_some_iff.mp H;obtain⟨⟨t693,t694,t695⟩,A40,H⟩:=H
 (try dsimp only at H)
 have A4:=Aside0.mk A40;clear A40;have H':=Aside0.mk H;clear H;go_enter Tryd.func76,Tryd.ntmps76
 go_wp2_with (first | ((with_reducible refine gate_dst (N:=2) rfl ?_);refine bx_ (N:=2) (cs:=#[.slice none 0 0,.slice none 0 0]) (t:=26) (h:=?_);intro gb681 hg w5 hbox hb;have BK681:=a0_ (hbox);have GW681:=gw_ HK hg;have GE681:=a0_ ((Nat.le_trans HW0.out (gw_ HK hg).out));have NB0_681:=sl_ HI0 hg;have NB681_0:=sr_ HI0 hg;replace HK:=kb_ HK hb;replace HB:=a0_ (below_step hBs_ hb);replace HI0:=a0_ (IsS123.below hI_ hb);clear hb hbox hg) | ((with_reducible refine gate_dst (N:=4) rfl ?_);refine bx_ (N:=4) (cs:=#[.int .i64 0,.int .i64 0]) (t:=28) (h:=?_);intro gb682 hg w6 hbox hb;have BK682:=a0_ (hbox);have GW682:=gw_ HK hg;have GE682:=a0_ ((Nat.le_trans HW0.out (gw_ HK hg).out));have NB681_682:=nl_ BK681 hg;have NB682_681:=nr_ BK681 hg;have NB0_682:=sl_ HI0 hg;have NB682_0:=sr_ HI0 hg;replace BK681:=vb_ BK681 hb;replace HK:=kb_ HK hb;replace HB:=a0_ (below_step hBs_ hb);replace HI0:=a0_ (IsS123.below hI_ hb);clear hb hbox hg) | ((with_reducible refine gate_callee (f:=50) rfl ?_);refine gL_ (some 10) Tryd.func50 #[.pointer (some ⟨g,0,none⟩)] (h:=?_);(with_reducible refine (spec_l71Plate.calls k g s0_0 s0_1 t683 t686 t689 w0 _ hI_ hBs_ A2.out).mono ?_);rintro e w7 ⟨v684,v687,rfl,ho0,ho1,hi,hb,hk⟩;refine⟨_,rfl,?_⟩;have HO685:=a0_ (Kd.R_lower (Kd.R_newB (Kd.R_newM (M:=fun k_=>(w.heap.size≤k_)) (Kd.R_mono (ok':=fun k_=>True) ho0 (fun _ hk_=>trivial)) (keep_size (w:=w) (g:=g) (row:=none) (hK_ HK)) (fun k_ h_=>h_)) (g:=gb682) (o:=.cells #[.int .i64 0,.int .i64 0] 28 (0,0)) uq_) (keep_size (w:=w) (g:=g) (row:=none) (hK_ HK)));have HO688:=a0_ (Kd.N_lower (Kd.N_mono (ok':=fun k_=>(w.heap.size≤k_)∧some k_≠(v684:Value).ownBlock∧k_≠gb681∧k_≠gb682∧k_≠g) ho1 (fun k_ hk_=>⟨(Nat.le_trans (keep_size (w:=w) (g:=g) (row:=none) (hK_ HK)) hk_.1),hk_.2,(Kd.freshB (g:=gb681) (o:=.cells #[.slice none 0 0,.slice none 0 0] 26 (0,0)) uq_ k_ hk_.1),(Kd.freshB (g:=gb682) (o:=.cells #[.int .i64 0,.int .i64 0] 28 (0,0)) uq_ k_ hk_.1),(IsS123.fresh hI_ k_ hk_.1)⟩)) (keep_size (w:=w) (g:=g) (row:=none) (hK_ HK)));replace BK681:=a0_ (KeepBut.blk hk (g':=gb681) (o:=.cells #[.slice none 0 0,.slice none 0 0] 26 (0,0)) uq_ NB681_0.out (by simp));replace BK682:=a0_ (KeepBut.blk hk (g':=gb682) (o:=.cells #[.int .i64 0,.int .i64 0] 28 (0,0)) uq_ NB682_0.out (by simp));replace HK:=kk_ HK hk;replace HB:=a0_ (hb);replace HI0:=a0_ (hi);(try clear ho0 ho1 hi hb hk)) | ((with_reducible refine gate_dst (N:=5) rfl ?_);refine bx_ (N:=5) (cs:=#[.slice none 0 0,.slice none 0 0]) (t:=26) (h:=?_);intro gb690 hg w8 hbox hb;have BK690:=a0_ (hbox);have GW690:=gw_ HK hg;have GE690:=a0_ ((Nat.le_trans HW0.out (gw_ HK hg).out));have NB681_690:=nl_ BK681 hg;have NB690_681:=nr_ BK681 hg;have NB682_690:=nl_ BK682 hg;have NB690_682:=nr_ BK682 hg;have NB0_690:=sl_ HI0 hg;have NB690_0:=sr_ HI0 hg;replace HO685:=rb_ HO685 hb;replace HO688:=a0_ (Kd.N_below (Kd.N_elderB (uN_ HO688) gb690 (Nat.le_of_eq hg.symm)) hb);replace BK681:=vb_ BK681 hb;replace BK682:=vb_ BK682 hb;replace HK:=kb_ HK hb;replace HB:=a0_ (below_step hBs_ hb);replace HI0:=a0_ (IsS123.below hI_ hb);clear hb hbox hg;obtain⟨Ao9,co9,eo9⟩:=Kd.R_slice HO685.out;subst eo9;have hnb10:=NB690_681.out;have hnc10:=NB681_690.out;have hnb11:=NB690_682.out;have hnc11:=NB682_690.out;have hnb12:=NB690_0.out;have hnc12:=NB0_690.out;have hcz13_0:=c20_ BK690;have hcz13_1:=c21_ BK690;have hfz13_0:=fz_ BK690 0;have hfz13_1:=fz_ BK690 1;obtain⟨Ao14,co14,eo14⟩:=Kd.N_slice HO688.out;subst eo14) | ((with_reducible refine gate_callee (f:=75) rfl ?_);refine gL_ (some 12) Tryd.func75 #[.pointer (some ⟨g,0,none⟩)] (h:=?_);(with_reducible refine (spec_l71Tool.calls k g s0_0 t689 t691 t692 w0 _ hI_ hBs_ A3.out).mono ?_);rintro e w15 ⟨rfl,hi,hb,hk⟩;refine⟨_,rfl,?_⟩;replace BK681:=a0_ (KeepBut.blk hk (g':=gb681) (o:=.cells #[.slice none 0 0,.slice none 0 0] 26 (0,0)) uf_ NB681_0.out (by simp));replace BK682:=a0_ (KeepBut.blk hk (g':=gb682) (o:=.cells #[.int .i64 0,.int .i64 0] 28 (0,0)) uf_ NB682_0.out (by simp));replace HO685:=a0_ (Kd.R_mono (Kd.R_keep (IsS123.apart (show IsS123 w0 _ g s0_0 t689 from hI_) (by (with_reducible repeat (first | apply Kd.R_alloc | apply Kd.R_drewN | apply Kd.R_drew));exact (Kd.R_mono (Kd.R_far (p:=⟨gb690,1,none⟩) (Kd.R_far (p:=⟨gb690,0,none⟩) (Kd.R_types HO685.out BK690.out (by decide)) (fun _ hk=>hk.2) (.slice Ao9 t683.length co9)) (fun _ hk=>hk.2) (.slice Ao14 t686.length co14)) (fun _ h_=>h_.1))) (by decide)) hk (fun _ h=>h.2)) (fun _ h=>h.1));replace HO688:=a0_ (Kd.N_mono (Kd.N_keep (Kd.N_mono (ok:=fun k_=>((((w.heap.size≤k_))∧(some k_≠(.slice Ao9 t683.length co9:Value).ownBlock∧(k_≠gb681∧(k_≠gb682∧k_≠g))))∧k_≠gb690)) (by (with_reducible repeat (first | apply Kd.N_alloc | apply Kd.N_drewN | apply Kd.N_drew));exact (Kd.N_mono (Kd.N_far (p:=⟨gb690,1,none⟩) (Kd.N_far (p:=⟨gb690,0,none⟩) (Kd.N_mono HO688.out (fun k_ hk=>(⟨hk,hk.2⟩:_∧k_≠gb690))) (fun _ hk=>hk.2) (.slice Ao9 t683.length co9)) (fun _ hk=>hk.2) (.slice Ao14 t686.length co14)) (fun _ h_=>h_.1))) (fun k_ hk_=>(⟨hk_,hk_.1.2.2.2.2⟩:_∧k_≠g))) hk (fun _ h=>h.2)) (fun _ h=>h.1));replace BK690:=a0_ (KeepBut.blk hk (g':=gb690) (o:=.cells #[.slice Ao9 t683.length co9,.slice Ao14 t686.length co14] 26 (0,0)) (by (with_reducible repeat (first | refine blk_drewN ?_ _ | refine blk_drew ?_ | refine blk_alloc ?_ _));refine blk_put (cs:=#[.slice Ao9 t683.length co9,.slice none 0 0]) ?_ 1 _ rfl;(with_reducible repeat (first | refine blk_drewN ?_ _ | refine blk_drew ?_ | refine blk_alloc ?_ _));refine blk_put (cs:=#[.slice none 0 0,.slice none 0 0]) ?_ 0 _ rfl;(with_reducible repeat (first | refine blk_drewN ?_ _ | refine blk_drew ?_ | refine blk_alloc ?_ _));exact BK690.out) NB690_0.out (by simp));replace HK:=kk_ HK hk;replace HB:=a0_ (hb);replace HI0:=a0_ (hi);(try clear hi hb hk)) | ((with_reducible refine gate_callee (f:=51) rfl ?_);refine gL_ (some 14) Tryd.func51 #[.pointer (some ⟨g,0,none⟩)] (h:=?_);(with_reducible refine (spec_l71Pt.calls k g s0_0 t692 t693 t694 t695 w0 _ hI_ hBs_ A4.out).mono ?_);rintro e w16 ⟨rfl,hi,hb,hk⟩;refine⟨_,rfl,?_⟩;replace BK681:=a0_ (KeepBut.blk hk (g':=gb681) (o:=.cells #[.slice none 0 0,.slice none 0 0] 26 (0,0)) uq_ NB681_0.out (by simp));replace BK682:=a0_ (KeepBut.blk hk (g':=gb682) (o:=.cells #[.int .i64 0,.int .i64 0] 28 (0,0)) uq_ NB682_0.out (by simp));replace HO685:=a0_ (Kd.R_mono (Kd.R_keep (IsS123.apart (show IsS123 w0 _ g s0_0 t692 from hI_) (uR_ HO685) (by decide)) hk (fun _ h=>h.2)) (fun _ h=>h.1));replace HO688:=a0_ (Kd.N_mono (Kd.N_keep (Kd.N_mono (ok:=fun k_=>((((w.heap.size≤k_))∧(some k_≠(.slice Ao9 t683.length co9:Value).ownBlock∧(k_≠gb681∧(k_≠gb682∧k_≠g))))∧k_≠gb690)) (uN_ HO688) (fun k_ hk_=>(⟨hk_,hk_.1.2.2.2.2⟩:_∧k_≠g))) hk (fun _ h=>h.2)) (fun _ h=>h.1));replace BK690:=a0_ (KeepBut.blk hk (g':=gb690) (o:=.cells #[.slice Ao9 t683.length co9,.slice Ao14 t686.length co14] 26 (0,0)) uq_ NB690_0.out (by simp));replace HK:=kk_ HK hk;replace HB:=a0_ (hb);replace HI0:=a0_ (hi);(try clear hi hb hk)) | ((with_reducible refine gate_dst (N:=7) rfl ?_);refine bx_ (N:=7) (cs:=#[.int .i64 0,.int .i64 0]) (t:=28) (h:=?_);intro gb696 hg w17 hbox hb;have BK696:=a0_ (hbox);have GW696:=gw_ HK hg;have GE696:=a0_ ((Nat.le_trans HW0.out (gw_ HK hg).out));have NB681_696:=nl_ BK681 hg;have NB696_681:=nr_ BK681 hg;have NB682_696:=nl_ BK682 hg;have NB696_682:=nr_ BK682 hg;have NB690_696:=nl_ BK690 hg;have NB696_690:=nr_ BK690 hg;have NB0_696:=sl_ HI0 hg;have NB696_0:=sr_ HI0 hg;replace HO685:=a0_ (Kd.R_below (Kd.R_elderB (uR_ HO685) gb696 (Nat.le_of_eq hg.symm)) hb);replace HO688:=a0_ (Kd.N_below (Kd.N_elderB (uN_ HO688) gb696 (Nat.le_of_eq hg.symm)) hb);replace BK681:=vb_ BK681 hb;replace BK682:=vb_ BK682 hb;replace BK690:=vb_ BK690 hb;replace HK:=kb_ HK hb;replace HB:=a0_ (below_step hBs_ hb);replace HI0:=a0_ (IsS123.below hI_ hb);clear hb hbox hg;have hnb18:=NB696_681.out;have hnc18:=NB681_696.out;have hnb19:=NB696_682.out;have hnc19:=NB682_696.out;have hnb20:=NB696_690.out;have hnc20:=NB690_696.out;have hnb21:=NB696_0.out;have hnc21:=NB0_696.out;have hcz22_0:=c20_ BK696;have hcz22_1:=c21_ BK696;have hfz22_0:=fz_ BK696 0;have hfz22_1:=fz_ BK696 1))
 go_loopg [8] k (fun kq v8 w'=>∃ (x8_1:Int) (x1001_1:Int) (x697000_1:Int) (x697001_1:Int),v8=.int .i64 x8_1∧Aside0 (spec_l71Stand.l0 kq t691 x8_1 s0_0 x1001_1 t683 t686 x697000_1 x697001_1=some (r1,r2,r3,r4,r5,r6))∧Aside0 (kq≤k)∧Aside0 (Kd.R k28 28 w' w.heap.size (fun k_=>(w.heap.size≤k_)∧k_≠gb682∧k_≠gb696) (.slice Ao9 t683.length co9) t683)∧Aside0 (Kd.N (Kd.slice 28 k28) 23 w' w.heap.size (fun k_=>(w.heap.size≤k_)∧some k_≠((.slice Ao9 t683.length co9):Value).ownBlock∧k_≠gb681∧k_≠gb682∧k_≠gb690∧k_≠gb696∧k_≠g) (.slice Ao14 t686.length co14) t686)∧Aside0 (w'.heap[gb681]?=some (.cells #[(.slice none 0 0),(.slice none 0 0)] 26 (0,0)))∧Aside0 (w'.heap[gb682]?=some (.cells #[.int .i64 0,.int .i64 0] 28 (0,0)))∧Aside0 (w'.heap[gb690]?=some (.cells #[(.slice Ao9 t683.length co9),(.slice Ao14 t686.length co14)] 26 (0,0)))∧Aside0 (w'.heap[gb696]?=some (.cells #[.int .i64 x697000_1,.int .i64 x697001_1] 28 (0,0)))∧Aside0 (IsS123 w0 w' g s0_0 x1001_1)∧Aside0 (KeepBut w w' g none)∧Aside0 (Below w0.heap.size w0 w'))
 case atStart=>exact⟨(0),(t695),(t693),(t694),(by first | rfl | (simp;done) | (simp [*];done)),H',⟨Nat.le_refl _⟩,⟨by (with_reducible repeat (first | apply Kd.R_alloc | apply Kd.R_drewN | apply Kd.R_drew));exact Kd.R_mono (Kd.R_far (p:=⟨gb696,1,none⟩) (Kd.R_far (p:=⟨gb696,0,none⟩) (Kd.R_mono HO685.out (fun k_ hk=>(⟨hk,hk.2⟩:_∧k_≠gb696))) (fun _ hk=>hk.2) (.int .i64 t693)) (fun _ hk=>hk.2) (.int .i64 t694)) (fun _ hk=>⟨hk.1.1.1.1,⟨hk.1.1.2,hk.1.2⟩⟩)⟩,⟨by (with_reducible repeat (first | apply Kd.N_alloc | apply Kd.N_drewN | apply Kd.N_drew));exact Kd.N_mono (Kd.N_far (p:=⟨gb696,1,none⟩) (Kd.N_far (p:=⟨gb696,0,none⟩) (Kd.N_mono HO688.out (fun k_ hk=>(⟨hk,hk.2⟩:_∧k_≠gb696))) (fun _ hk=>hk.2) (.int .i64 t693)) (fun _ hk=>hk.2) (.int .i64 t694)) (fun _ hk=>⟨hk.1.1.1.1,⟨hk.1.1.1.2.1,⟨hk.1.1.1.2.2.1,⟨hk.1.1.1.2.2.2.1,⟨hk.1.1.2,⟨hk.1.2,hk.1.1.1.2.2.2.2⟩⟩⟩⟩⟩⟩)⟩,⟨by (with_reducible repeat (first | refine blk_drewN ?_ _ | refine blk_drew ?_ | refine blk_alloc ?_ _));refine blk_far ?_ NB681_696.out _;(with_reducible repeat (first | refine blk_drewN ?_ _ | refine blk_drew ?_ | refine blk_alloc ?_ _));refine blk_far ?_ NB681_696.out _;(with_reducible repeat (first | refine blk_drewN ?_ _ | refine blk_drew ?_ | refine blk_alloc ?_ _));exact BK681.out⟩,⟨by (with_reducible repeat (first | refine blk_drewN ?_ _ | refine blk_drew ?_ | refine blk_alloc ?_ _));refine blk_far ?_ NB682_696.out _;(with_reducible repeat (first | refine blk_drewN ?_ _ | refine blk_drew ?_ | refine blk_alloc ?_ _));refine blk_far ?_ NB682_696.out _;(with_reducible repeat (first | refine blk_drewN ?_ _ | refine blk_drew ?_ | refine blk_alloc ?_ _));exact BK682.out⟩,⟨by (with_reducible repeat (first | refine blk_drewN ?_ _ | refine blk_drew ?_ | refine blk_alloc ?_ _));refine blk_far ?_ NB690_696.out _;(with_reducible repeat (first | refine blk_drewN ?_ _ | refine blk_drew ?_ | refine blk_alloc ?_ _));refine blk_far ?_ NB690_696.out _;(with_reducible repeat (first | refine blk_drewN ?_ _ | refine blk_drew ?_ | refine blk_alloc ?_ _));exact BK690.out⟩,⟨by (with_reducible repeat (first | refine blk_drewN ?_ _ | refine blk_drew ?_ | refine blk_alloc ?_ _));refine blk_put (cs:=#[.int .i64 t693,.int .i64 0]) ?_ 1 _ rfl;(with_reducible repeat (first | refine blk_drewN ?_ _ | refine blk_drew ?_ | refine blk_alloc ?_ _));refine blk_put (cs:=#[.int .i64 0,.int .i64 0]) ?_ 0 _ rfl;(with_reducible repeat (first | refine blk_drewN ?_ _ | refine blk_drew ?_ | refine blk_alloc ?_ _));exact BK696.out⟩,⟨by repeat (first | (with_reducible first | exact HI0.out | apply IsS123.alloc | apply IsS123.drewN | apply IsS123.drew | apply IsS123.set_1 | refine IsS123.far ?_ NB0_681.out _ | refine IsS123.far ?_ NB0_682.out _ | refine IsS123.far ?_ NB0_690.out _ | refine IsS123.far ?_ NB0_696.out _) | exact HI0.out)⟩,⟨by repeat (first | (with_reducible first | exact HK.out | apply KeepBut.set_ | apply keep_drewN | apply keep_drew | apply keep_alloc | refine keep_far ?_ GW681.out _ | refine keep_far ?_ GW682.out _ | refine keep_far ?_ GW690.out _ | refine keep_far ?_ GW696.out _) | exact HK.out)⟩,⟨by repeat (first | (with_reducible first | exact HB.out | apply below_alloc | apply pw_below_drewN | apply below_drew1 | refine below_set ?_ (IsS123.ge HI0.out) | refine below_set ?_ GE681.out | refine below_set ?_ GE682.out | refine below_set ?_ GE690.out | refine below_set ?_ GE696.out) | exact HB.out)⟩⟩
 case round =>
  clear H';obtain⟨x8_1,x1001_1,x697000_1,x697001_1,rfl,HA,HK1,HO_691000,HO_691001,BK681,BK682,BK690,BK696,HI0,HK,HB⟩:=hrel
  cases gk with
  | zero=>exact absurd HA.out (by simp [spec_l71Stand.l0])
  | succ k1 =>
   have H:=HA.out;clear HA;simp only [spec_l71Stand.l0] at H;by_cases c23:x8_1<30
   ·
    rw [if_pos c23] at H;have c23b0:decide (x8_1<30)=true:=decide_eq_true c23;clear c23;replace H:=Option.bind_eq_some_iff.mp H;obtain⟨⟨t697,t698⟩,A240,H⟩:=H
    (try dsimp only at H)
    have A24:=Aside0.mk A240;clear A240;by_cases c25:t697>0
    ·
     rw [if_pos c25] at H;have c25b0:decide (0<t697)=true:=decide_eq_true c25;clear c25;replace H:=Option.bind_eq_some_iff.mp H;obtain⟨t699,A260,H⟩:=H
     (try dsimp only at H)
     have A26:=Aside0.mk A260;clear A260;by_cases c27:t699=true
     ·
      subst c27;rw [if_pos rfl] at H
      (try dsimp only at H)
      simp only [Option.some.injEq,Prod.mk.injEq] at H;obtain⟨rfl,rfl,rfl,rfl,rfl,rfl⟩:=H
      try go_wp2_with (first | (go_at_call 74;(with_reducible refine (spec_l6Rd_pick.calls k1 g s0_0 x1001_1 20 t697 t698 w0 _ hI_ hBs_ A24.out).mono ?_);rintro e w28 ⟨rfl,hi,hb,hk⟩;replace HO_691000:=a0_ (Kd.R_mono (Kd.R_keep (IsS123.apart (show IsS123 w0 _ g s0_0 x1001_1 from hI_) (uR_ HO_691000) (by decide)) hk (fun _ h=>h.2)) (fun _ h=>h.1));replace HO_691001:=a0_ (Kd.N_mono (Kd.N_keep (Kd.N_mono (ok:=fun k_=>(((w.heap.size≤k_))∧(some k_≠(.slice Ao9 t683.length co9:Value).ownBlock∧(k_≠gb681∧(k_≠gb682∧(k_≠gb690∧(k_≠gb696∧k_≠g))))))) (uN_ HO_691001) (fun k_ hk_=>(⟨hk_,hk_.2.2.2.2.2.2⟩:_∧k_≠g))) hk (fun _ h=>h.2)) (fun _ h=>h.1));replace BK681:=a0_ (KeepBut.blk hk (g':=gb681) (o:=.cells #[.slice none 0 0,.slice none 0 0] 26 (0,0)) uq_ NB681_0.out (by simp));replace BK682:=a0_ (KeepBut.blk hk (g':=gb682) (o:=.cells #[.int .i64 0,.int .i64 0] 28 (0,0)) uq_ NB682_0.out (by simp));replace BK690:=a0_ (KeepBut.blk hk (g':=gb690) (o:=.cells #[.slice Ao9 t683.length co9,.slice Ao14 t686.length co14] 26 (0,0)) uq_ NB690_0.out (by simp));replace BK696:=a0_ (KeepBut.blk hk (g':=gb696) (o:=.cells #[.int .i64 x697000_1,.int .i64 x697001_1] 28 (0,0)) uq_ NB696_0.out (by simp));replace HK:=kk_ HK hk;replace HB:=a0_ (hb);replace HI0:=a0_ (hi);(try clear hi hb hk);have hnb29:=NB690_681.out;have hnc29:=NB681_690.out;have hnb30:=NB690_682.out;have hnc30:=NB682_690.out;have hnb31:=NB690_696.out;have hnc31:=NB696_690.out;have hnb32:=NB690_0.out;have hnc32:=NB0_690.out;have hcz33_0:=c20_ BK690;have hcz33_1:=c21_ BK690;have hfz33_0:=fz_ BK690 0;have hfz33_1:=fz_ BK690 1;have hnb34:=NB696_681.out;have hnc34:=NB681_696.out;have hnb35:=NB696_682.out;have hnc35:=NB682_696.out;have hnb36:=NB696_0.out;have hnc36:=NB0_696.out;have hcz37_0:=c20_ BK696;have hcz37_1:=c21_ BK696;have hfz37_0:=fz_ BK696 0;have hfz37_1:=fz_ BK696 1) | (go_at_call 25;(with_reducible refine (spec_ToolFits.calls k1 _ _ t683 _ _ t686 t691 x697000_1 x697001_1 true _ ?side1 ?side2 ?side3 ?side4 A26.out).mono ?_);(case side1=>repeat (first | exact (Kd.R_reads' HO_691000.out).2.2 | (with_reducible refine Kd.C_alloc ?_ _) | (with_reducible refine Kd.C_drewN ?_ _) | (with_reducible refine Kd.C_drew ?_)));(case side2=>exact (Kd.R_reads' HO_691000.out).2.1);(case side3=>repeat (first | exact (Kd.N_reads' HO_691001.out).2.2 | (with_reducible refine Kd.C_alloc ?_ _) | (with_reducible refine Kd.C_drewN ?_ _) | (with_reducible refine Kd.C_drew ?_)));(case side4=>exact (Kd.N_reads' HO_691001.out).2.1);rintro e w38 ⟨rfl,hb⟩;replace HO_691000:=rb_ HO_691000 hb;replace HO_691001:=nb_ HO_691001 hb;replace BK681:=vb_ BK681 hb;replace BK682:=vb_ BK682 hb;replace BK690:=vb_ BK690 hb;replace BK696:=vb_ BK696 hb;replace HK:=kb_ HK hb;replace HB:=a0_ (below_step hBs_ hb);replace HI0:=a0_ (IsS123.below hI_ hb);(try clear hb)))
      replace HO_691000:=a0_ (Kd.R_drew HO_691000.out);replace HO_691001:=a0_ (Kd.N_drew HO_691001.out);replace BK681:=a0_ (blk_drew BK681.out);replace BK682:=a0_ (blk_drew BK682.out);replace BK690:=a0_ (blk_drew BK690.out);replace BK696:=a0_ (blk_drew BK696.out);replace HI0:=a0_ (IsS123.drew HI0.out);replace HK:=a0_ (keep_drew HK.out);replace HB:=a0_ (below_drew1 HB.out);refine start_ (n:=6) (S:=fun w'=>w'.cell? ⟨gb690,0,none⟩=some (.slice Ao9 t683.length co9)∧w'.cell? ⟨gb690,1,none⟩=some (.slice Ao14 t686.length co14)∧w'.cell? ⟨gb696,0,none⟩=some (.int .i64 x697000_1)∧w'.cell? ⟨gb696,1,none⟩=some (.int .i64 x697001_1)) (ds:=[]) (Array.replicate 6 false) (by kernel_rfl) rfl rfl ⟨bc_,bc_,bc_,bc_⟩ (fun hHeld=>?_);generalize w38.drew=w39 at HO_691000 HO_691001 BK681 BK682 BK690 BK696 HI0 HK HB hHeld ⊢
      refine pv_ 1 34 (bm 6 2) ?_;refine tb4_ 0 33 (bm 6 3) hHeld ?_;refine tb4_ 2 35 (bm 6 7) hHeld ?_;refine one_ (i:=3) (N:=none) (bm 6 15) rfl rfl (by kernel_rfl) (by decide) (fun K hK=>?_);have hs40:w39.cell? ⟨gb681,0,none⟩=some (.slice none 0 0):=bc_;have hfs40:=blk_frozen BK681.out 0;have hns40_1:=NB682_681.out;have hns40_2:=NB690_681.out;have hns40_3:=NB696_681.out;have hms40_1:=NB681_682.out;have hms40_2:=NB681_690.out;have hms40_3:=NB681_696.out;have hs41:w39.cell? ⟨gb681,1,none⟩=some (.slice none 0 0):=bc_;have hfs41:=blk_frozen BK681.out 1;have hns41_1:=NB682_681.out;have hns41_2:=NB690_681.out;have hns41_3:=NB696_681.out;have hms41_1:=NB681_682.out;have hms41_2:=NB681_690.out;have hms41_3:=NB681_696.out;refine skip_ (w1:=?_) (by rfl) rfl ?_ ?_;rotate_left
      ·
       go_simp;rfl
      refine hK.out _ _ ⟨((cell_far (p:=⟨gb681,_,none⟩) NB690_681.out _).trans (((cell_far (p:=⟨gb681,_,none⟩) NB690_681.out _).trans (hHeld.1)))),((cell_far (p:=⟨gb681,_,none⟩) NB690_681.out _).trans (((cell_far (p:=⟨gb681,_,none⟩) NB690_681.out _).trans (hHeld.2.1)))),((cell_far (p:=⟨gb681,_,none⟩) NB696_681.out _).trans (((cell_far (p:=⟨gb681,_,none⟩) NB696_681.out _).trans (hHeld.2.2.1)))),((cell_far (p:=⟨gb681,_,none⟩) NB696_681.out _).trans (((cell_far (p:=⟨gb681,_,none⟩) NB696_681.out _).trans (hHeld.2.2.2))))⟩ (fun hHeld=>?_);clear hK K;refine pv_ 4 3 (bm 6 31) ?_;refine one_ (i:=5) (N:=none) (bm 6 63) rfl rfl (by kernel_rfl) (by decide) (fun K hK=>?_);have hs42:w39.cell? ⟨gb682,0,none⟩=some (.int .i64 0):=bc_;have hfs42:=blk_frozen BK682.out 0;have hns42_0:=NB681_682.out;have hns42_2:=NB690_682.out;have hns42_3:=NB696_682.out;have hms42_0:=NB682_681.out;have hms42_2:=NB682_690.out;have hms42_3:=NB682_696.out;have hs43:w39.cell? ⟨gb682,1,none⟩=some (.int .i64 0):=bc_;have hfs43:=blk_frozen BK682.out 1;have hns43_0:=NB681_682.out;have hns43_2:=NB690_682.out;have hns43_3:=NB696_682.out;have hms43_0:=NB682_681.out;have hms43_2:=NB682_690.out;have hms43_3:=NB682_696.out;refine skip_ (w1:=?_) (by rfl) rfl ?_ ?_;rotate_left
      ·
       go_simp;rfl
      refine hK.out _ _ ⟨((cell_far (p:=⟨gb682,_,none⟩) NB690_682.out _).trans (((cell_far (p:=⟨gb682,_,none⟩) NB690_682.out _).trans (hHeld.1)))),((cell_far (p:=⟨gb682,_,none⟩) NB690_682.out _).trans (((cell_far (p:=⟨gb682,_,none⟩) NB690_682.out _).trans (hHeld.2.1)))),((cell_far (p:=⟨gb682,_,none⟩) NB696_682.out _).trans (((cell_far (p:=⟨gb682,_,none⟩) NB696_682.out _).trans (hHeld.2.2.1)))),((cell_far (p:=⟨gb682,_,none⟩) NB696_682.out _).trans (((cell_far (p:=⟨gb682,_,none⟩) NB696_682.out _).trans (hHeld.2.2.2))))⟩ (fun hHeld=>?_);clear hK K;refine done_ (by kernel_rfl) ?_
      try go_wp2
      refine bodyPost_ret (results_list (rs:=[.cell 2 26,.tmp 3,.cell 4 28]) rfl (by simp) (.cell gb681 26 #[.slice Ao9 t683.length co9,.slice Ao14 t686.length co14] (0,0) _ rfl (by (with_reducible repeat (first | refine blk_drewN ?_ _ | refine blk_drew ?_ | refine blk_alloc ?_ _));refine blk_far ?_ NB681_682.out _;(with_reducible repeat (first | refine blk_drewN ?_ _ | refine blk_drew ?_ | refine blk_alloc ?_ _));refine blk_far ?_ NB681_682.out _;(with_reducible repeat (first | refine blk_drewN ?_ _ | refine blk_drew ?_ | refine blk_alloc ?_ _));refine blk_put (cs:=#[.slice Ao9 t683.length co9,.slice none 0 0]) ?_ 1 _ rfl;(with_reducible repeat (first | refine blk_drewN ?_ _ | refine blk_drew ?_ | refine blk_alloc ?_ _));refine blk_put (cs:=#[.slice none 0 0,.slice none 0 0]) ?_ 0 _ rfl;(with_reducible repeat (first | refine blk_drewN ?_ _ | refine blk_drew ?_ | refine blk_alloc ?_ _));exact BK681.out) Tryd.underlying26 rfl (by kernel_rfl) (.tmp (.cell gb682 28 #[.int .i64 x697000_1,.int .i64 x697001_1] (0,0) _ rfl (by (with_reducible repeat (first | refine blk_drewN ?_ _ | refine blk_drew ?_ | refine blk_alloc ?_ _));refine blk_put (cs:=#[.int .i64 x697000_1,.int .i64 0]) ?_ 1 _ rfl;(with_reducible repeat (first | refine blk_drewN ?_ _ | refine blk_drew ?_ | refine blk_alloc ?_ _));refine blk_put (cs:=#[.int .i64 0,.int .i64 0]) ?_ 0 _ rfl;(with_reducible repeat (first | refine blk_drewN ?_ _ | refine blk_drew ?_ | refine blk_alloc ?_ _));refine blk_far ?_ NB682_681.out _;(with_reducible repeat (first | refine blk_drewN ?_ _ | refine blk_drew ?_ | refine blk_alloc ?_ _));refine blk_far ?_ NB682_681.out _;(with_reducible repeat (first | refine blk_drewN ?_ _ | refine blk_drew ?_ | refine blk_alloc ?_ _));exact BK682.out) Tryd.underlying28 rfl (by kernel_rfl) .nil)))) rfl ?_
      exact⟨_,_,rr_,by (with_reducible repeat (first | apply Kd.R_alloc | apply Kd.R_drewN | apply Kd.R_drew));exact Kd.R_mono (Kd.R_far (p:=⟨gb682,1,none⟩) (Kd.R_far (p:=⟨gb682,0,none⟩) (Kd.R_far (p:=⟨gb681,1,none⟩) (Kd.R_far (p:=⟨gb681,0,none⟩) (Kd.R_mono (Kd.R_types HO_691000.out BK681.out (by decide)) (fun k_ hk=>(⟨hk,hk.1.2.1⟩:_∧k_≠gb682))) (fun _ hk=>hk.1.2) (.slice Ao9 t683.length co9)) (fun _ hk=>hk.1.2) (.slice Ao14 t686.length co14)) (fun _ hk=>hk.2) (.int .i64 x697000_1)) (fun _ hk=>hk.2) (.int .i64 x697001_1)) (fun _ hk=>hk.1.1.1),by (with_reducible repeat (first | apply Kd.N_alloc | apply Kd.N_drewN | apply Kd.N_drew));exact Kd.N_mono (Kd.N_far (p:=⟨gb682,1,none⟩) (Kd.N_far (p:=⟨gb682,0,none⟩) (Kd.N_far (p:=⟨gb681,1,none⟩) (Kd.N_far (p:=⟨gb681,0,none⟩) (Kd.N_mono (Kd.N_mono HO_691001.out (fun k_ hk=>(⟨hk,hk.2.2.1⟩:_∧k_≠gb681))) (fun k_ hk=>(⟨hk,hk.1.2.2.2.1⟩:_∧k_≠gb682))) (fun _ hk=>hk.1.2) (.slice Ao9 t683.length co9)) (fun _ hk=>hk.1.2) (.slice Ao14 t686.length co14)) (fun _ hk=>hk.2) (.int .i64 x697000_1)) (fun _ hk=>hk.2) (.int .i64 x697001_1)) (fun _ hk=>⟨hk.1.1.1,hk.1.1.2.1⟩),by repeat (first | (with_reducible first | exact HI0.out | apply IsS123.alloc | apply IsS123.drewN | apply IsS123.drew | apply IsS123.set_1 | refine IsS123.far ?_ NB0_681.out _ | refine IsS123.far ?_ NB0_682.out _ | refine IsS123.far ?_ NB0_690.out _ | refine IsS123.far ?_ NB0_696.out _) | exact HI0.out),by repeat (first | (with_reducible first | exact HB.out | apply below_alloc | apply pw_below_drewN | apply below_drew1 | refine below_set ?_ (IsS123.ge HI0.out) | refine below_set ?_ GE681.out | refine below_set ?_ GE682.out | refine below_set ?_ GE690.out | refine below_set ?_ GE696.out) | exact HB.out),by repeat (first | (with_reducible first | exact HK.out | apply KeepBut.set_ | apply keep_drewN | apply keep_drew | apply keep_alloc | refine keep_far ?_ GW681.out _ | refine keep_far ?_ GW682.out _ | refine keep_far ?_ GW690.out _ | refine keep_far ?_ GW696.out _) | exact HK.out)⟩
     ·
      replace c27:=Bool.eq_false_iff.mpr c27;subst c27;rw [if_neg (show ¬ (false=true) by decide)] at H
      (try dsimp only at H)
      replace H:=Option.bind_eq_some_iff.mp H;obtain⟨⟨t700,t701,t702⟩,A440,H⟩:=H
      (try dsimp only at H)
      have A44:=Aside0.mk A440;clear A440;have H':=Aside0.mk H;clear H
      go_wp2_with (first | (go_at_call 74;(with_reducible refine (spec_l6Rd_pick.calls k1 g s0_0 x1001_1 20 t697 t698 w0 _ hI_ hBs_ A24.out).mono ?_);rintro e w45 ⟨rfl,hi,hb,hk⟩;replace HO_691000:=a0_ (Kd.R_mono (Kd.R_keep (IsS123.apart (show IsS123 w0 _ g s0_0 x1001_1 from hI_) (uR_ HO_691000) (by decide)) hk (fun _ h=>h.2)) (fun _ h=>h.1));replace HO_691001:=a0_ (Kd.N_mono (Kd.N_keep (Kd.N_mono (ok:=fun k_=>(((w.heap.size≤k_))∧(some k_≠(.slice Ao9 t683.length co9:Value).ownBlock∧(k_≠gb681∧(k_≠gb682∧(k_≠gb690∧(k_≠gb696∧k_≠g))))))) (uN_ HO_691001) (fun k_ hk_=>(⟨hk_,hk_.2.2.2.2.2.2⟩:_∧k_≠g))) hk (fun _ h=>h.2)) (fun _ h=>h.1));replace BK681:=a0_ (KeepBut.blk hk (g':=gb681) (o:=.cells #[.slice none 0 0,.slice none 0 0] 26 (0,0)) uq_ NB681_0.out (by simp));replace BK682:=a0_ (KeepBut.blk hk (g':=gb682) (o:=.cells #[.int .i64 0,.int .i64 0] 28 (0,0)) uq_ NB682_0.out (by simp));replace BK690:=a0_ (KeepBut.blk hk (g':=gb690) (o:=.cells #[.slice Ao9 t683.length co9,.slice Ao14 t686.length co14] 26 (0,0)) uq_ NB690_0.out (by simp));replace BK696:=a0_ (KeepBut.blk hk (g':=gb696) (o:=.cells #[.int .i64 x697000_1,.int .i64 x697001_1] 28 (0,0)) uq_ NB696_0.out (by simp));replace HK:=kk_ HK hk;replace HB:=a0_ (hb);replace HI0:=a0_ (hi);(try clear hi hb hk);have hnb46:=NB690_681.out;have hnc46:=NB681_690.out;have hnb47:=NB690_682.out;have hnc47:=NB682_690.out;have hnb48:=NB690_696.out;have hnc48:=NB696_690.out;have hnb49:=NB690_0.out;have hnc49:=NB0_690.out;have hcz50_0:=c20_ BK690;have hcz50_1:=c21_ BK690;have hfz50_0:=fz_ BK690 0;have hfz50_1:=fz_ BK690 1;have hnb51:=NB696_681.out;have hnc51:=NB681_696.out;have hnb52:=NB696_682.out;have hnc52:=NB682_696.out;have hnb53:=NB696_0.out;have hnc53:=NB0_696.out;have hcz54_0:=c20_ BK696;have hcz54_1:=c21_ BK696;have hfz54_0:=fz_ BK696 0;have hfz54_1:=fz_ BK696 1) | (go_at_call 25;(with_reducible refine (spec_ToolFits.calls k1 _ _ t683 _ _ t686 t691 x697000_1 x697001_1 false _ ?side1 ?side2 ?side3 ?side4 A26.out).mono ?_);(case side1=>repeat (first | exact (Kd.R_reads' HO_691000.out).2.2 | (with_reducible refine Kd.C_alloc ?_ _) | (with_reducible refine Kd.C_drewN ?_ _) | (with_reducible refine Kd.C_drew ?_)));(case side2=>exact (Kd.R_reads' HO_691000.out).2.1);(case side3=>repeat (first | exact (Kd.N_reads' HO_691001.out).2.2 | (with_reducible refine Kd.C_alloc ?_ _) | (with_reducible refine Kd.C_drewN ?_ _) | (with_reducible refine Kd.C_drew ?_)));(case side4=>exact (Kd.N_reads' HO_691001.out).2.1);rintro e w55 ⟨rfl,hb⟩;replace HO_691000:=rb_ HO_691000 hb;replace HO_691001:=nb_ HO_691001 hb;replace BK681:=vb_ BK681 hb;replace BK682:=vb_ BK682 hb;replace BK690:=vb_ BK690 hb;replace BK696:=vb_ BK696 hb;replace HK:=kb_ HK hb;replace HB:=a0_ (below_step hBs_ hb);replace HI0:=a0_ (IsS123.below hI_ hb);(try clear hb)) | ((with_reducible refine gate_callee (f:=51) rfl ?_);refine gL_ (some 32) Tryd.func51 #[.pointer (some ⟨g,0,none⟩)] (h:=?_);(with_reducible refine (spec_l71Pt.calls k1 g s0_0 t698 t700 t701 t702 w0 _ hI_ hBs_ A44.out).mono ?_);rintro e w56 ⟨rfl,hi,hb,hk⟩;refine⟨_,rfl,?_⟩;replace HO_691000:=a0_ (Kd.R_mono (Kd.R_keep (IsS123.apart (show IsS123 w0 _ g s0_0 t698 from hI_) (uR_ HO_691000) (by decide)) hk (fun _ h=>h.2)) (fun _ h=>h.1));replace HO_691001:=a0_ (Kd.N_mono (Kd.N_keep (Kd.N_mono (ok:=fun k_=>(((w.heap.size≤k_))∧(some k_≠(.slice Ao9 t683.length co9:Value).ownBlock∧(k_≠gb681∧(k_≠gb682∧(k_≠gb690∧(k_≠gb696∧k_≠g))))))) (uN_ HO_691001) (fun k_ hk_=>(⟨hk_,hk_.2.2.2.2.2.2⟩:_∧k_≠g))) hk (fun _ h=>h.2)) (fun _ h=>h.1));replace BK681:=a0_ (KeepBut.blk hk (g':=gb681) (o:=.cells #[.slice none 0 0,.slice none 0 0] 26 (0,0)) uq_ NB681_0.out (by simp));replace BK682:=a0_ (KeepBut.blk hk (g':=gb682) (o:=.cells #[.int .i64 0,.int .i64 0] 28 (0,0)) uq_ NB682_0.out (by simp));replace BK690:=a0_ (KeepBut.blk hk (g':=gb690) (o:=.cells #[.slice Ao9 t683.length co9,.slice Ao14 t686.length co14] 26 (0,0)) uq_ NB690_0.out (by simp));replace BK696:=a0_ (KeepBut.blk hk (g':=gb696) (o:=.cells #[.int .i64 x697000_1,.int .i64 x697001_1] 28 (0,0)) uq_ NB696_0.out (by simp));replace HK:=kk_ HK hk;replace HB:=a0_ (hb);replace HI0:=a0_ (hi);(try clear hi hb hk);have hcz57_0:=c20_ BK696;have hcz57_1:=c21_ BK696;have hfz57_0:=fz_ BK696 0;have hfz57_1:=fz_ BK696 1))
      go_roundg k1
      case measure=>have:=HK1.out;omega
      case rel=>exact⟨(wrap64 (x8_1+1)),(t702),(t700),(t701),(by first | rfl | (simp;done) | (simp [*];done)),H',⟨by have:=HK1.out;omega⟩,⟨by (with_reducible repeat (first | apply Kd.R_alloc | apply Kd.R_drewN | apply Kd.R_drew));exact Kd.R_mono (Kd.R_far (p:=⟨gb696,1,none⟩) (Kd.R_far (p:=⟨gb696,0,none⟩) (Kd.R_mono HO_691000.out (fun k_ hk=>(⟨hk,hk.2.2⟩:_∧k_≠gb696))) (fun _ hk=>hk.2) (.int .i64 t700)) (fun _ hk=>hk.2) (.int .i64 t701)) (fun _ hk=>⟨hk.1.1,⟨hk.1.2.1,hk.1.2.2⟩⟩)⟩,⟨by (with_reducible repeat (first | apply Kd.N_alloc | apply Kd.N_drewN | apply Kd.N_drew));exact Kd.N_mono (Kd.N_far (p:=⟨gb696,1,none⟩) (Kd.N_far (p:=⟨gb696,0,none⟩) (Kd.N_mono HO_691001.out (fun k_ hk=>(⟨hk,hk.2.2.2.2.2.1⟩:_∧k_≠gb696))) (fun _ hk=>hk.2) (.int .i64 t700)) (fun _ hk=>hk.2) (.int .i64 t701)) (fun _ hk=>⟨hk.1.1,⟨hk.1.2.1,⟨hk.1.2.2.1,⟨hk.1.2.2.2.1,⟨hk.1.2.2.2.2.1,⟨hk.1.2.2.2.2.2.1,hk.1.2.2.2.2.2.2⟩⟩⟩⟩⟩⟩)⟩,⟨by (with_reducible repeat (first | refine blk_drewN ?_ _ | refine blk_drew ?_ | refine blk_alloc ?_ _));refine blk_far ?_ NB681_696.out _;(with_reducible repeat (first | refine blk_drewN ?_ _ | refine blk_drew ?_ | refine blk_alloc ?_ _));refine blk_far ?_ NB681_696.out _;(with_reducible repeat (first | refine blk_drewN ?_ _ | refine blk_drew ?_ | refine blk_alloc ?_ _));exact BK681.out⟩,⟨by (with_reducible repeat (first | refine blk_drewN ?_ _ | refine blk_drew ?_ | refine blk_alloc ?_ _));refine blk_far ?_ NB682_696.out _;(with_reducible repeat (first | refine blk_drewN ?_ _ | refine blk_drew ?_ | refine blk_alloc ?_ _));refine blk_far ?_ NB682_696.out _;(with_reducible repeat (first | refine blk_drewN ?_ _ | refine blk_drew ?_ | refine blk_alloc ?_ _));exact BK682.out⟩,⟨by (with_reducible repeat (first | refine blk_drewN ?_ _ | refine blk_drew ?_ | refine blk_alloc ?_ _));refine blk_far ?_ NB690_696.out _;(with_reducible repeat (first | refine blk_drewN ?_ _ | refine blk_drew ?_ | refine blk_alloc ?_ _));refine blk_far ?_ NB690_696.out _;(with_reducible repeat (first | refine blk_drewN ?_ _ | refine blk_drew ?_ | refine blk_alloc ?_ _));exact BK690.out⟩,⟨by (with_reducible repeat (first | refine blk_drewN ?_ _ | refine blk_drew ?_ | refine blk_alloc ?_ _));refine blk_put (cs:=#[.int .i64 t700,.int .i64 x697001_1]) ?_ 1 _ rfl;(with_reducible repeat (first | refine blk_drewN ?_ _ | refine blk_drew ?_ | refine blk_alloc ?_ _));refine blk_put (cs:=#[.int .i64 x697000_1,.int .i64 x697001_1]) ?_ 0 _ rfl;(with_reducible repeat (first | refine blk_drewN ?_ _ | refine blk_drew ?_ | refine blk_alloc ?_ _));exact BK696.out⟩,⟨by repeat (first | (with_reducible first | exact HI0.out | apply IsS123.alloc | apply IsS123.drewN | apply IsS123.drew | apply IsS123.set_1 | refine IsS123.far ?_ NB0_681.out _ | refine IsS123.far ?_ NB0_682.out _ | refine IsS123.far ?_ NB0_690.out _ | refine IsS123.far ?_ NB0_696.out _) | exact HI0.out)⟩,⟨by repeat (first | (with_reducible first | exact HK.out | apply KeepBut.set_ | apply keep_drewN | apply keep_drew | apply keep_alloc | refine keep_far ?_ GW681.out _ | refine keep_far ?_ GW682.out _ | refine keep_far ?_ GW690.out _ | refine keep_far ?_ GW696.out _) | exact HK.out)⟩,⟨by repeat (first | (with_reducible first | exact HB.out | apply below_alloc | apply pw_below_drewN | apply below_drew1 | refine below_set ?_ (IsS123.ge HI0.out) | refine below_set ?_ GE681.out | refine below_set ?_ GE682.out | refine below_set ?_ GE690.out | refine below_set ?_ GE696.out) | exact HB.out)⟩⟩
    ·
     rw [if_neg c25] at H;have c25b0:decide (0<t697)=false:=decide_eq_false c25;clear c25;simp only [Option.some.injEq,Prod.mk.injEq] at H;obtain⟨rfl,rfl,rfl,rfl,rfl,rfl⟩:=H
     try go_wp2_with (first | (go_at_call 74;(with_reducible refine (spec_l6Rd_pick.calls k1 g s0_0 x1001_1 20 t697 t698 w0 _ hI_ hBs_ A24.out).mono ?_);rintro e w58 ⟨rfl,hi,hb,hk⟩;replace HO_691000:=a0_ (Kd.R_mono (Kd.R_keep (IsS123.apart (show IsS123 w0 _ g s0_0 x1001_1 from hI_) (uR_ HO_691000) (by decide)) hk (fun _ h=>h.2)) (fun _ h=>h.1));replace HO_691001:=a0_ (Kd.N_mono (Kd.N_keep (Kd.N_mono (ok:=fun k_=>(((w.heap.size≤k_))∧(some k_≠(.slice Ao9 t683.length co9:Value).ownBlock∧(k_≠gb681∧(k_≠gb682∧(k_≠gb690∧(k_≠gb696∧k_≠g))))))) (uN_ HO_691001) (fun k_ hk_=>(⟨hk_,hk_.2.2.2.2.2.2⟩:_∧k_≠g))) hk (fun _ h=>h.2)) (fun _ h=>h.1));replace BK681:=a0_ (KeepBut.blk hk (g':=gb681) (o:=.cells #[.slice none 0 0,.slice none 0 0] 26 (0,0)) uq_ NB681_0.out (by simp));replace BK682:=a0_ (KeepBut.blk hk (g':=gb682) (o:=.cells #[.int .i64 0,.int .i64 0] 28 (0,0)) uq_ NB682_0.out (by simp));replace BK690:=a0_ (KeepBut.blk hk (g':=gb690) (o:=.cells #[.slice Ao9 t683.length co9,.slice Ao14 t686.length co14] 26 (0,0)) uq_ NB690_0.out (by simp));replace BK696:=a0_ (KeepBut.blk hk (g':=gb696) (o:=.cells #[.int .i64 x697000_1,.int .i64 x697001_1] 28 (0,0)) uq_ NB696_0.out (by simp));replace HK:=kk_ HK hk;replace HB:=a0_ (hb);replace HI0:=a0_ (hi);(try clear hi hb hk)))
     replace HO_691000:=a0_ (Kd.R_drew HO_691000.out);replace HO_691001:=a0_ (Kd.N_drew HO_691001.out);replace BK681:=a0_ (blk_drew BK681.out);replace BK682:=a0_ (blk_drew BK682.out);replace BK690:=a0_ (blk_drew BK690.out);replace BK696:=a0_ (blk_drew BK696.out);replace HI0:=a0_ (IsS123.drew HI0.out);replace HK:=a0_ (keep_drew HK.out);replace HB:=a0_ (below_drew1 HB.out);refine start_ (n:=6) (S:=fun w'=>w'.cell? ⟨gb690,0,none⟩=some (.slice Ao9 t683.length co9)∧w'.cell? ⟨gb690,1,none⟩=some (.slice Ao14 t686.length co14)∧w'.cell? ⟨gb696,0,none⟩=some (.int .i64 x697000_1)∧w'.cell? ⟨gb696,1,none⟩=some (.int .i64 x697001_1)) (ds:=[]) (Array.replicate 6 false) (by kernel_rfl) rfl rfl ⟨bc_,bc_,bc_,bc_⟩ (fun hHeld=>?_);generalize w58.drew=w59 at HO_691000 HO_691001 BK681 BK682 BK690 BK696 HI0 HK HB hHeld ⊢
     refine pv_ 1 34 (bm 6 2) ?_;refine tb4_ 0 33 (bm 6 3) hHeld ?_;refine tb4_ 2 35 (bm 6 7) hHeld ?_;refine one_ (i:=3) (N:=none) (bm 6 15) rfl rfl (by kernel_rfl) (by decide) (fun K hK=>?_);have hs60:w59.cell? ⟨gb681,0,none⟩=some (.slice none 0 0):=bc_;have hfs60:=blk_frozen BK681.out 0;have hns60_1:=NB682_681.out;have hns60_2:=NB690_681.out;have hns60_3:=NB696_681.out;have hms60_1:=NB681_682.out;have hms60_2:=NB681_690.out;have hms60_3:=NB681_696.out;have hs61:w59.cell? ⟨gb681,1,none⟩=some (.slice none 0 0):=bc_;have hfs61:=blk_frozen BK681.out 1;have hns61_1:=NB682_681.out;have hns61_2:=NB690_681.out;have hns61_3:=NB696_681.out;have hms61_1:=NB681_682.out;have hms61_2:=NB681_690.out;have hms61_3:=NB681_696.out;refine skip_ (w1:=?_) (by rfl) rfl ?_ ?_;rotate_left
     ·
      go_simp;rfl
     refine hK.out _ _ ⟨((cell_far (p:=⟨gb681,_,none⟩) NB690_681.out _).trans (((cell_far (p:=⟨gb681,_,none⟩) NB690_681.out _).trans (hHeld.1)))),((cell_far (p:=⟨gb681,_,none⟩) NB690_681.out _).trans (((cell_far (p:=⟨gb681,_,none⟩) NB690_681.out _).trans (hHeld.2.1)))),((cell_far (p:=⟨gb681,_,none⟩) NB696_681.out _).trans (((cell_far (p:=⟨gb681,_,none⟩) NB696_681.out _).trans (hHeld.2.2.1)))),((cell_far (p:=⟨gb681,_,none⟩) NB696_681.out _).trans (((cell_far (p:=⟨gb681,_,none⟩) NB696_681.out _).trans (hHeld.2.2.2))))⟩ (fun hHeld=>?_);clear hK K;refine pv_ 4 3 (bm 6 31) ?_;refine one_ (i:=5) (N:=none) (bm 6 63) rfl rfl (by kernel_rfl) (by decide) (fun K hK=>?_);have hs62:w59.cell? ⟨gb682,0,none⟩=some (.int .i64 0):=bc_;have hfs62:=blk_frozen BK682.out 0;have hns62_0:=NB681_682.out;have hns62_2:=NB690_682.out;have hns62_3:=NB696_682.out;have hms62_0:=NB682_681.out;have hms62_2:=NB682_690.out;have hms62_3:=NB682_696.out;have hs63:w59.cell? ⟨gb682,1,none⟩=some (.int .i64 0):=bc_;have hfs63:=blk_frozen BK682.out 1;have hns63_0:=NB681_682.out;have hns63_2:=NB690_682.out;have hns63_3:=NB696_682.out;have hms63_0:=NB682_681.out;have hms63_2:=NB682_690.out;have hms63_3:=NB682_696.out;refine skip_ (w1:=?_) (by rfl) rfl ?_ ?_;rotate_left
     ·
      go_simp;rfl
     refine hK.out _ _ ⟨((cell_far (p:=⟨gb682,_,none⟩) NB690_682.out _).trans (((cell_far (p:=⟨gb682,_,none⟩) NB690_682.out _).trans (hHeld.1)))),((cell_far (p:=⟨gb682,_,none⟩) NB690_682.out _).trans (((cell_far (p:=⟨gb682,_,none⟩) NB690_682.out _).trans (hHeld.2.1)))),((cell_far (p:=⟨gb682,_,none⟩) NB696_682.out _).trans (((cell_far (p:=⟨gb682,_,none⟩) NB696_682.out _).trans (hHeld.2.2.1)))),((cell_far (p:=⟨gb682,_,none⟩) NB696_682.out _).trans (((cell_far (p:=⟨gb682,_,none⟩) NB696_682.out _).trans (hHeld.2.2.2))))⟩ (fun hHeld=>?_);clear hK K;refine done_ (by kernel_rfl) ?_
     try go_wp2
     refine bodyPost_ret (results_list (rs:=[.cell 2 26,.tmp 3,.cell 4 28]) rfl (by simp) (.cell gb681 26 #[.slice Ao9 t683.length co9,.slice Ao14 t686.length co14] (0,0) _ rfl (by (with_reducible repeat (first | refine blk_drewN ?_ _ | refine blk_drew ?_ | refine blk_alloc ?_ _));refine blk_far ?_ NB681_682.out _;(with_reducible repeat (first | refine blk_drewN ?_ _ | refine blk_drew ?_ | refine blk_alloc ?_ _));refine blk_far ?_ NB681_682.out _;(with_reducible repeat (first | refine blk_drewN ?_ _ | refine blk_drew ?_ | refine blk_alloc ?_ _));refine blk_put (cs:=#[.slice Ao9 t683.length co9,.slice none 0 0]) ?_ 1 _ rfl;(with_reducible repeat (first | refine blk_drewN ?_ _ | refine blk_drew ?_ | refine blk_alloc ?_ _));refine blk_put (cs:=#[.slice none 0 0,.slice none 0 0]) ?_ 0 _ rfl;(with_reducible repeat (first | refine blk_drewN ?_ _ | refine blk_drew ?_ | refine blk_alloc ?_ _));exact BK681.out) Tryd.underlying26 rfl (by kernel_rfl) (.tmp (.cell gb682 28 #[.int .i64 x697000_1,.int .i64 x697001_1] (0,0) _ rfl (by (with_reducible repeat (first | refine blk_drewN ?_ _ | refine blk_drew ?_ | refine blk_alloc ?_ _));refine blk_put (cs:=#[.int .i64 x697000_1,.int .i64 0]) ?_ 1 _ rfl;(with_reducible repeat (first | refine blk_drewN ?_ _ | refine blk_drew ?_ | refine blk_alloc ?_ _));refine blk_put (cs:=#[.int .i64 0,.int .i64 0]) ?_ 0 _ rfl;(with_reducible repeat (first | refine blk_drewN ?_ _ | refine blk_drew ?_ | refine blk_alloc ?_ _));refine blk_far ?_ NB682_681.out _;(with_reducible repeat (first | refine blk_drewN ?_ _ | refine blk_drew ?_ | refine blk_alloc ?_ _));refine blk_far ?_ NB682_681.out _;(with_reducible repeat (first | refine blk_drewN ?_ _ | refine blk_drew ?_ | refine blk_alloc ?_ _));exact BK682.out) Tryd.underlying28 rfl (by kernel_rfl) .nil)))) rfl ?_
     exact⟨_,_,rr_,by (with_reducible repeat (first | apply Kd.R_alloc | apply Kd.R_drewN | apply Kd.R_drew));exact Kd.R_mono (Kd.R_far (p:=⟨gb682,1,none⟩) (Kd.R_far (p:=⟨gb682,0,none⟩) (Kd.R_far (p:=⟨gb681,1,none⟩) (Kd.R_far (p:=⟨gb681,0,none⟩) (Kd.R_mono (Kd.R_types HO_691000.out BK681.out (by decide)) (fun k_ hk=>(⟨hk,hk.1.2.1⟩:_∧k_≠gb682))) (fun _ hk=>hk.1.2) (.slice Ao9 t683.length co9)) (fun _ hk=>hk.1.2) (.slice Ao14 t686.length co14)) (fun _ hk=>hk.2) (.int .i64 x697000_1)) (fun _ hk=>hk.2) (.int .i64 x697001_1)) (fun _ hk=>hk.1.1.1),by (with_reducible repeat (first | apply Kd.N_alloc | apply Kd.N_drewN | apply Kd.N_drew));exact Kd.N_mono (Kd.N_far (p:=⟨gb682,1,none⟩) (Kd.N_far (p:=⟨gb682,0,none⟩) (Kd.N_far (p:=⟨gb681,1,none⟩) (Kd.N_far (p:=⟨gb681,0,none⟩) (Kd.N_mono (Kd.N_mono HO_691001.out (fun k_ hk=>(⟨hk,hk.2.2.1⟩:_∧k_≠gb681))) (fun k_ hk=>(⟨hk,hk.1.2.2.2.1⟩:_∧k_≠gb682))) (fun _ hk=>hk.1.2) (.slice Ao9 t683.length co9)) (fun _ hk=>hk.1.2) (.slice Ao14 t686.length co14)) (fun _ hk=>hk.2) (.int .i64 x697000_1)) (fun _ hk=>hk.2) (.int .i64 x697001_1)) (fun _ hk=>⟨hk.1.1.1,hk.1.1.2.1⟩),by repeat (first | (with_reducible first | exact HI0.out | apply IsS123.alloc | apply IsS123.drewN | apply IsS123.drew | apply IsS123.set_1 | refine IsS123.far ?_ NB0_681.out _ | refine IsS123.far ?_ NB0_682.out _ | refine IsS123.far ?_ NB0_690.out _ | refine IsS123.far ?_ NB0_696.out _) | exact HI0.out),by repeat (first | (with_reducible first | exact HB.out | apply below_alloc | apply pw_below_drewN | apply below_drew1 | refine below_set ?_ (IsS123.ge HI0.out) | refine below_set ?_ GE681.out | refine below_set ?_ GE682.out | refine below_set ?_ GE690.out | refine below_set ?_ GE696.out) | exact HB.out),by repeat (first | (with_reducible first | exact HK.out | apply KeepBut.set_ | apply keep_drewN | apply keep_drew | apply keep_alloc | refine keep_far ?_ GW681.out _ | refine keep_far ?_ GW682.out _ | refine keep_far ?_ GW690.out _ | refine keep_far ?_ GW696.out _) | exact HK.out)⟩
   ·
    rw [if_neg c23] at H;have c23b0:decide (x8_1<30)=false:=decide_eq_false c23;clear c23;simp only [Option.some.injEq,Prod.mk.injEq] at H;obtain⟨rfl,rfl,rfl,rfl,rfl,rfl⟩:=H
    try go_wp2
    replace HO_691000:=a0_ (Kd.R_drew HO_691000.out);replace HO_691001:=a0_ (Kd.N_drew HO_691001.out);replace BK681:=a0_ (blk_drew BK681.out);replace BK682:=a0_ (blk_drew BK682.out);replace BK690:=a0_ (blk_drew BK690.out);replace BK696:=a0_ (blk_drew BK696.out);replace HI0:=a0_ (IsS123.drew HI0.out);replace HK:=a0_ (keep_drew HK.out);replace HB:=a0_ (below_drew1 HB.out);refine start_ (n:=6) (S:=fun w'=>w'.cell? ⟨gb690,0,none⟩=some (.slice Ao9 t683.length co9)∧w'.cell? ⟨gb690,1,none⟩=some (.slice Ao14 t686.length co14)∧w'.cell? ⟨gb696,0,none⟩=some (.int .i64 x697000_1)∧w'.cell? ⟨gb696,1,none⟩=some (.int .i64 x697001_1)) (ds:=[]) (Array.replicate 6 false) (by kernel_rfl) rfl rfl ⟨bc_,bc_,bc_,bc_⟩ (fun hHeld=>?_);generalize wr.drew=w64 at HO_691000 HO_691001 BK681 BK682 BK690 BK696 HI0 HK HB hHeld ⊢
    refine pv_ 1 34 (bm 6 2) ?_;refine tb4_ 0 33 (bm 6 3) hHeld ?_;refine tb4_ 2 35 (bm 6 7) hHeld ?_;refine one_ (i:=3) (N:=none) (bm 6 15) rfl rfl (by kernel_rfl) (by decide) (fun K hK=>?_);have hs65:w64.cell? ⟨gb681,0,none⟩=some (.slice none 0 0):=bc_;have hfs65:=blk_frozen BK681.out 0;have hns65_1:=NB682_681.out;have hns65_2:=NB690_681.out;have hns65_3:=NB696_681.out;have hms65_1:=NB681_682.out;have hms65_2:=NB681_690.out;have hms65_3:=NB681_696.out;have hs66:w64.cell? ⟨gb681,1,none⟩=some (.slice none 0 0):=bc_;have hfs66:=blk_frozen BK681.out 1;have hns66_1:=NB682_681.out;have hns66_2:=NB690_681.out;have hns66_3:=NB696_681.out;have hms66_1:=NB681_682.out;have hms66_2:=NB681_690.out;have hms66_3:=NB681_696.out;refine skip_ (w1:=?_) (by rfl) rfl ?_ ?_;rotate_left
    ·
     go_simp;rfl
    refine hK.out _ _ ⟨((cell_far (p:=⟨gb681,_,none⟩) NB690_681.out _).trans (((cell_far (p:=⟨gb681,_,none⟩) NB690_681.out _).trans (hHeld.1)))),((cell_far (p:=⟨gb681,_,none⟩) NB690_681.out _).trans (((cell_far (p:=⟨gb681,_,none⟩) NB690_681.out _).trans (hHeld.2.1)))),((cell_far (p:=⟨gb681,_,none⟩) NB696_681.out _).trans (((cell_far (p:=⟨gb681,_,none⟩) NB696_681.out _).trans (hHeld.2.2.1)))),((cell_far (p:=⟨gb681,_,none⟩) NB696_681.out _).trans (((cell_far (p:=⟨gb681,_,none⟩) NB696_681.out _).trans (hHeld.2.2.2))))⟩ (fun hHeld=>?_);clear hK K;refine pv_ 4 3 (bm 6 31) ?_;refine one_ (i:=5) (N:=none) (bm 6 63) rfl rfl (by kernel_rfl) (by decide) (fun K hK=>?_);have hs67:w64.cell? ⟨gb682,0,none⟩=some (.int .i64 0):=bc_;have hfs67:=blk_frozen BK682.out 0;have hns67_0:=NB681_682.out;have hns67_2:=NB690_682.out;have hns67_3:=NB696_682.out;have hms67_0:=NB682_681.out;have hms67_2:=NB682_690.out;have hms67_3:=NB682_696.out;have hs68:w64.cell? ⟨gb682,1,none⟩=some (.int .i64 0):=bc_;have hfs68:=blk_frozen BK682.out 1;have hns68_0:=NB681_682.out;have hns68_2:=NB690_682.out;have hns68_3:=NB696_682.out;have hms68_0:=NB682_681.out;have hms68_2:=NB682_690.out;have hms68_3:=NB682_696.out;refine skip_ (w1:=?_) (by rfl) rfl ?_ ?_;rotate_left
    ·
     go_simp;rfl
    refine hK.out _ _ ⟨((cell_far (p:=⟨gb682,_,none⟩) NB690_682.out _).trans (((cell_far (p:=⟨gb682,_,none⟩) NB690_682.out _).trans (hHeld.1)))),((cell_far (p:=⟨gb682,_,none⟩) NB690_682.out _).trans (((cell_far (p:=⟨gb682,_,none⟩) NB690_682.out _).trans (hHeld.2.1)))),((cell_far (p:=⟨gb682,_,none⟩) NB696_682.out _).trans (((cell_far (p:=⟨gb682,_,none⟩) NB696_682.out _).trans (hHeld.2.2.1)))),((cell_far (p:=⟨gb682,_,none⟩) NB696_682.out _).trans (((cell_far (p:=⟨gb682,_,none⟩) NB696_682.out _).trans (hHeld.2.2.2))))⟩ (fun hHeld=>?_);clear hK K;refine done_ (by kernel_rfl) ?_
    try go_wp2
    refine bodyPost_ret (results_list (rs:=[.cell 2 26,.tmp 3,.cell 4 28]) rfl (by simp) (.cell gb681 26 #[.slice Ao9 t683.length co9,.slice Ao14 t686.length co14] (0,0) _ rfl (by (with_reducible repeat (first | refine blk_drewN ?_ _ | refine blk_drew ?_ | refine blk_alloc ?_ _));refine blk_far ?_ NB681_682.out _;(with_reducible repeat (first | refine blk_drewN ?_ _ | refine blk_drew ?_ | refine blk_alloc ?_ _));refine blk_far ?_ NB681_682.out _;(with_reducible repeat (first | refine blk_drewN ?_ _ | refine blk_drew ?_ | refine blk_alloc ?_ _));refine blk_put (cs:=#[.slice Ao9 t683.length co9,.slice none 0 0]) ?_ 1 _ rfl;(with_reducible repeat (first | refine blk_drewN ?_ _ | refine blk_drew ?_ | refine blk_alloc ?_ _));refine blk_put (cs:=#[.slice none 0 0,.slice none 0 0]) ?_ 0 _ rfl;(with_reducible repeat (first | refine blk_drewN ?_ _ | refine blk_drew ?_ | refine blk_alloc ?_ _));exact BK681.out) Tryd.underlying26 rfl (by kernel_rfl) (.tmp (.cell gb682 28 #[.int .i64 x697000_1,.int .i64 x697001_1] (0,0) _ rfl (by (with_reducible repeat (first | refine blk_drewN ?_ _ | refine blk_drew ?_ | refine blk_alloc ?_ _));refine blk_put (cs:=#[.int .i64 x697000_1,.int .i64 0]) ?_ 1 _ rfl;(with_reducible repeat (first | refine blk_drewN ?_ _ | refine blk_drew ?_ | refine blk_alloc ?_ _));refine blk_put (cs:=#[.int .i64 0,.int .i64 0]) ?_ 0 _ rfl;(with_reducible repeat (first | refine blk_drewN ?_ _ | refine blk_drew ?_ | refine blk_alloc ?_ _));refine blk_far ?_ NB682_681.out _;(with_reducible repeat (first | refine blk_drewN ?_ _ | refine blk_drew ?_ | refine blk_alloc ?_ _));refine blk_far ?_ NB682_681.out _;(with_reducible repeat (first | refine blk_drewN ?_ _ | refine blk_drew ?_ | refine blk_alloc ?_ _));exact BK682.out) Tryd.underlying28 rfl (by kernel_rfl) .nil)))) rfl ?_
    exact⟨_,_,rr_,by (with_reducible repeat (first | apply Kd.R_alloc | apply Kd.R_drewN | apply Kd.R_drew));exact Kd.R_mono (Kd.R_far (p:=⟨gb682,1,none⟩) (Kd.R_far (p:=⟨gb682,0,none⟩) (Kd.R_far (p:=⟨gb681,1,none⟩) (Kd.R_far (p:=⟨gb681,0,none⟩) (Kd.R_mono (Kd.R_types HO_691000.out BK681.out (by decide)) (fun k_ hk=>(⟨hk,hk.1.2.1⟩:_∧k_≠gb682))) (fun _ hk=>hk.1.2) (.slice Ao9 t683.length co9)) (fun _ hk=>hk.1.2) (.slice Ao14 t686.length co14)) (fun _ hk=>hk.2) (.int .i64 x697000_1)) (fun _ hk=>hk.2) (.int .i64 x697001_1)) (fun _ hk=>hk.1.1.1),by (with_reducible repeat (first | apply Kd.N_alloc | apply Kd.N_drewN | apply Kd.N_drew));exact Kd.N_mono (Kd.N_far (p:=⟨gb682,1,none⟩) (Kd.N_far (p:=⟨gb682,0,none⟩) (Kd.N_far (p:=⟨gb681,1,none⟩) (Kd.N_far (p:=⟨gb681,0,none⟩) (Kd.N_mono (Kd.N_mono HO_691001.out (fun k_ hk=>(⟨hk,hk.2.2.1⟩:_∧k_≠gb681))) (fun k_ hk=>(⟨hk,hk.1.2.2.2.1⟩:_∧k_≠gb682))) (fun _ hk=>hk.1.2) (.slice Ao9 t683.length co9)) (fun _ hk=>hk.1.2) (.slice Ao14 t686.length co14)) (fun _ hk=>hk.2) (.int .i64 x697000_1)) (fun _ hk=>hk.2) (.int .i64 x697001_1)) (fun _ hk=>⟨hk.1.1.1,hk.1.1.2.1⟩),by repeat (first | (with_reducible first | exact HI0.out | apply IsS123.alloc | apply IsS123.drewN | apply IsS123.drew | apply IsS123.set_1 | refine IsS123.far ?_ NB0_681.out _ | refine IsS123.far ?_ NB0_682.out _ | refine IsS123.far ?_ NB0_690.out _ | refine IsS123.far ?_ NB0_696.out _) | exact HI0.out),by repeat (first | (with_reducible first | exact HB.out | apply below_alloc | apply pw_below_drewN | apply below_drew1 | refine below_set ?_ (IsS123.ge HI0.out) | refine below_set ?_ GE681.out | refine below_set ?_ GE682.out | refine below_set ?_ GE690.out | refine below_set ?_ GE696.out) | exact HB.out),by repeat (first | (with_reducible first | exact HK.out | apply KeepBut.set_ | apply keep_drewN | apply keep_drew | apply keep_alloc | refine keep_far ?_ GW681.out _ | refine keep_far ?_ GW682.out _ | refine keep_far ?_ GW690.out _ | refine keep_far ?_ GW696.out _) | exact HK.out)⟩
def spec_DrawToolFits.f (k:Nat)(l0:List Int):Option ((List (S28)) × (List (List (S28))) × Int × Int × Int):=(spec_l6Open.f l0).bind fun bt705=>((spec_l6Rd_pick.f k bt705.1 bt705.2 5).bind fun bt708=>(if bt708.1=0 then ((spec_l71Plate.f k bt705.1 bt708.2).bind fun bt710=>((spec_l71Tool.f k bt705.1 bt710.2.2).bind fun bt717=>((spec_l71Pt.f k bt705.1 bt717.2).bind fun bt719=>(some (bt710.1,bt710.2.1,bt717.1,bt719.1,bt719.2.1))))) else ((spec_l71Stand.f k bt705.1 bt708.2).bind fun bt722=>(some (bt722.1,bt722.2.1,bt722.2.2.1,bt722.2.2.2.1,bt722.2.2.2.2.1)))))
set_option maxHeartbeats 8000000 in
set_option maxRecDepth 100000 in
theorem spec_DrawToolFits.calls (k:Nat)(A0:Option Addr)(c0:Nat)(l0:List Int)(r1:List (S28))(r2:List (List (S28)))(r3:Int)(r4:Int)(r5:Int)(w:World)(hr0:Kd.C (Kd.int .u8) w A0 l0.length l0)(hc0:l0.length≤c0)(h:spec_DrawToolFits.f k l0=some (r1,r2,r3,r4,r5)):
  Calls Tryd.prog 33 #[.slice A0 l0.length c0] w fun e w'=>∃ v0_ v1_:Value,e=.returned (.tuple #[.agg #[v0_,v1_],.int .i64 r3,.agg #[.int .i64 r4,.int .i64 r5]])∧Kd.R k28 28 w' w.heap.size (fun k_=>(w.heap.size≤k_)) v0_ r1∧Kd.N (Kd.slice 28 k28) 23 w' w.heap.size (fun k_=>(w.heap.size≤k_)∧some k_≠(v0_:Value).ownBlock) v1_ r2∧Below w.heap.size w w':=by
 have hu26:=Tryd.underlying26;have hu28:=Tryd.underlying28;have HR0:=Aside0.mk hr0;have HC0:=Aside0.mk hc0;clear hr0 hc0;have HB:=a0_ (Below.refl w.heap.size w);have H:((spec_l6Open.f l0).bind fun bt705=>((spec_l6Rd_pick.f k bt705.1 bt705.2 5).bind fun bt708=>(if bt708.1=0 then ((spec_l71Plate.f k bt705.1 bt708.2).bind fun bt710=>((spec_l71Tool.f k bt705.1 bt710.2.2).bind fun bt717=>((spec_l71Pt.f k bt705.1 bt717.2).bind fun bt719=>(some (bt710.1,bt710.2.1,bt717.1,bt719.1,bt719.2.1))))) else ((spec_l71Stand.f k bt705.1 bt708.2).bind fun bt722=>(some (bt722.1,bt722.2.1,bt722.2.2.1,bt722.2.2.2.1,bt722.2.2.2.2.1))))))=some (r1,r2,r3,r4,r5):=h;clear h;replace H:=Option.bind_eq_some_iff.mp H;obtain⟨⟨t705,t706⟩,A20,H⟩:=H
 (try dsimp only at H)
 have A2:=Aside0.mk A20;clear A20;replace H:=Option.bind_eq_some_iff.mp H;obtain⟨⟨t708,t709⟩,A30,H⟩:=H
 (try dsimp only at H)
 have A3:=Aside0.mk A30;clear A30;by_cases c4:t708=0
 ·
  rw [if_pos c4] at H;have c4b0:(t708==0)=true:=beq_iff_eq.mpr c4;have c4b1:(t708 != 0)=false:=bne_eq_false_iff_eq.mpr c4;clear c4;replace H:=Option.bind_eq_some_iff.mp H;obtain⟨⟨t710,t713,t716⟩,A50,H⟩:=H
  (try dsimp only at H)
  have A5:=Aside0.mk A50;clear A50;replace H:=Option.bind_eq_some_iff.mp H;obtain⟨⟨t717,t718⟩,A60,H⟩:=H
  (try dsimp only at H)
  have A6:=Aside0.mk A60;clear A60;replace H:=Option.bind_eq_some_iff.mp H;obtain⟨⟨t719,t720,t721⟩,A70,H⟩:=H
  (try dsimp only at H)
  have A7:=Aside0.mk A70;clear A70;simp only [Option.some.injEq,Prod.mk.injEq] at H;obtain⟨rfl,rfl,rfl,rfl,rfl⟩:=H;go_enter Tryd.func33,Tryd.ntmps33
  go_wp2_with (first | ((with_reducible refine gate_dst (N:=2) rfl ?_);refine bx_ (N:=2) (cs:=#[.slice none 0 0,.slice none 0 0]) (t:=26) (h:=?_);intro gb703 hg w8 hbox hb;have BK703:=a0_ (hbox);have GW703:=a0_ ((by rw [hg];exact (below_size hBs_):w.heap.size≤gb703));have GE703:=a0_ ((by rw [hg];exact (below_size hBs_):w.heap.size≤gb703));replace HB:=a0_ (below_step hBs_ hb);clear hb hbox hg) | ((with_reducible refine gate_dst (N:=4) rfl ?_);refine bx_ (N:=4) (cs:=#[.int .i64 0,.int .i64 0]) (t:=28) (h:=?_);intro gb704 hg w9 hbox hb;have BK704:=a0_ (hbox);have GW704:=a0_ ((by rw [hg];exact (below_size hBs_):w.heap.size≤gb704));have GE704:=a0_ ((by rw [hg];exact (below_size hBs_):w.heap.size≤gb704));have NB703_704:=nl_ BK703 hg;have NB704_703:=nr_ BK703 hg;replace BK703:=vb_ BK703 hb;replace HB:=a0_ (below_step hBs_ hb);clear hb hbox hg) | ((with_reducible refine gate_callee (f:=49) rfl ?_);refine gL_ (some 7) Tryd.func49 #[.slice A0 l0.length c0] (h:=?_);(with_reducible refine (spec_l6Open.calls _ _ l0 t705 t706 w _ hBs_ HR0.out HC0.out A2.out).mono ?_);rintro e w10 ⟨g707,rfl,hi,hb,hb2⟩;refine⟨_,rfl,?_⟩;have HI707:=a0_ (hi);have NB707_703:=a0_ (IsS123.ne_blk hi (blk_below (g:=gb703) (o:=.cells #[.slice none 0 0,.slice none 0 0] 26 (0,0)) uq_ hb2) (by decide));have NB703_707:=a0_ (Ne.symm (IsS123.ne_blk hi (blk_below (g:=gb703) (o:=.cells #[.slice none 0 0,.slice none 0 0] 26 (0,0)) uq_ hb2) (by decide)));have NB707_704:=a0_ (IsS123.ne_blk hi (blk_below (g:=gb704) (o:=.cells #[.int .i64 0,.int .i64 0] 28 (0,0)) uq_ hb2) (by decide));have NB704_707:=a0_ (Ne.symm (IsS123.ne_blk hi (blk_below (g:=gb704) (o:=.cells #[.int .i64 0,.int .i64 0] 28 (0,0)) uq_ hb2) (by decide)));replace BK703:=a0_ (blk_below (g:=gb703) (o:=.cells #[.slice none 0 0,.slice none 0 0] 26 (0,0)) uq_ hb2);replace BK704:=a0_ (blk_below (g:=gb704) (o:=.cells #[.int .i64 0,.int .i64 0] 28 (0,0)) uq_ hb2);replace HB:=a0_ (hb);(try clear hi hb hb2)) | ((with_reducible refine gate_callee (f:=74) rfl ?_);refine gL_ (some 9) Tryd.func74 #[.pointer (some ⟨g707,0,none⟩),.int .i64 5] (h:=?_);(with_reducible refine (spec_l6Rd_pick.calls k g707 t705 t706 5 t708 t709 w _ ?side1 ?side2 A3.out).mono ?_);(case side1=>repeat (first | (with_reducible first | exact HI707.out | apply IsS123.alloc | apply IsS123.drewN | apply IsS123.drew | apply IsS123.set_1 | refine IsS123.far ?_ NB707_703.out _ | refine IsS123.far ?_ NB707_704.out _) | exact HI707.out));(case side2=>exact hBs_);rintro e w11 ⟨rfl,hi,hb,hk⟩;refine⟨_,rfl,?_⟩;replace BK703:=a0_ (KeepBut.blk hk (g':=gb703) (o:=.cells #[.slice none 0 0,.slice none 0 0] 26 (0,0)) uq_ NB703_707.out (by simp));replace BK704:=a0_ (KeepBut.blk hk (g':=gb704) (o:=.cells #[.int .i64 0,.int .i64 0] 28 (0,0)) uq_ NB704_707.out (by simp));replace HB:=a0_ (hb);replace HI707:=a0_ (hi);(try clear hi hb hk)) | ((with_reducible refine gate_callee (f:=50) rfl ?_);refine gL_ (some 12) Tryd.func50 #[.pointer (some ⟨g707,0,none⟩)] (h:=?_);(with_reducible refine (spec_l71Plate.calls k g707 t705 t709 t710 t713 t716 w _ ?side1 ?side2 A5.out).mono ?_);(case side1=>repeat (first | (with_reducible first | exact HI707.out | apply IsS123.alloc | apply IsS123.drewN | apply IsS123.drew | apply IsS123.set_1 | refine IsS123.far ?_ NB707_703.out _ | refine IsS123.far ?_ NB707_704.out _) | exact HI707.out));(case side2=>exact hBs_);rintro e w12 ⟨v711,v714,rfl,ho0,ho1,hi,hb,hk⟩;refine⟨_,rfl,?_⟩;have HO712:=a0_ (Kd.R_lower (Kd.R_newB (Kd.R_newM (M:=fun k_=>(w.heap.size≤k_)) (Kd.R_mono (ok':=fun k_=>True) ho0 (fun _ hk_=>trivial)) (below_size hBs_) (fun k_ h_=>h_)) (g:=gb704) (o:=.cells #[.int .i64 0,.int .i64 0] 28 (0,0)) uq_) (below_size hBs_));have HO715:=a0_ (Kd.N_lower (Kd.N_mono (ok':=fun k_=>(w.heap.size≤k_)∧some k_≠(v711:Value).ownBlock∧k_≠gb703∧k_≠gb704∧k_≠g707) ho1 (fun k_ hk_=>⟨(Nat.le_trans (below_size hBs_) hk_.1),hk_.2,(Kd.freshB (g:=gb703) (o:=.cells #[.slice none 0 0,.slice none 0 0] 26 (0,0)) uq_ k_ hk_.1),(Kd.freshB (g:=gb704) (o:=.cells #[.int .i64 0,.int .i64 0] 28 (0,0)) uq_ k_ hk_.1),(IsS123.fresh (by repeat (first | (with_reducible first | exact HI707.out | apply IsS123.alloc | apply IsS123.drewN | apply IsS123.drew | apply IsS123.set_1 | refine IsS123.far ?_ NB707_703.out _ | refine IsS123.far ?_ NB707_704.out _) | exact HI707.out)) k_ hk_.1)⟩)) (below_size hBs_));replace BK703:=a0_ (KeepBut.blk hk (g':=gb703) (o:=.cells #[.slice none 0 0,.slice none 0 0] 26 (0,0)) uq_ NB703_707.out (by simp));replace BK704:=a0_ (KeepBut.blk hk (g':=gb704) (o:=.cells #[.int .i64 0,.int .i64 0] 28 (0,0)) uq_ NB704_707.out (by simp));replace HB:=a0_ (hb);replace HI707:=a0_ (hi);(try clear ho0 ho1 hi hb hk)) | ((with_reducible refine gate_callee (f:=75) rfl ?_);refine gL_ (some 14) Tryd.func75 #[.pointer (some ⟨g707,0,none⟩)] (h:=?_);(with_reducible refine (spec_l71Tool.calls k g707 t705 t716 t717 t718 w _ ?side1 ?side2 A6.out).mono ?_);(case side1=>repeat (first | (with_reducible first | exact HI707.out | apply IsS123.alloc | apply IsS123.drewN | apply IsS123.drew | apply IsS123.set_1 | refine IsS123.far ?_ NB707_703.out _ | refine IsS123.far ?_ NB707_704.out _) | exact HI707.out));(case side2=>exact hBs_);rintro e w13 ⟨rfl,hi,hb,hk⟩;refine⟨_,rfl,?_⟩;replace BK703:=a0_ (KeepBut.blk hk (g':=gb703) (o:=.cells #[.slice none 0 0,.slice none 0 0] 26 (0,0)) uq_ NB703_707.out (by simp));replace BK704:=a0_ (KeepBut.blk hk (g':=gb704) (o:=.cells #[.int .i64 0,.int .i64 0] 28 (0,0)) uq_ NB704_707.out (by simp));replace HO712:=a0_ (Kd.R_mono (Kd.R_keep (IsS123.apart (show IsS123 w _ g707 t705 t716 from by repeat (first | (with_reducible first | exact HI707.out | apply IsS123.alloc | apply IsS123.drewN | apply IsS123.drew | apply IsS123.set_1 | refine IsS123.far ?_ NB707_703.out _ | refine IsS123.far ?_ NB707_704.out _) | exact HI707.out)) (uR_ HO712) (by decide)) hk (fun _ h=>h.2)) (fun _ h=>h.1));replace HO715:=a0_ (Kd.N_mono (Kd.N_keep (Kd.N_mono (ok:=fun k_=>(((w.heap.size≤k_))∧(some k_≠(v711:Value).ownBlock∧(k_≠gb703∧(k_≠gb704∧k_≠g707))))) (uN_ HO715) (fun k_ hk_=>(⟨hk_,hk_.2.2.2.2⟩:_∧k_≠g707))) hk (fun _ h=>h.2)) (fun _ h=>h.1));replace HB:=a0_ (hb);replace HI707:=a0_ (hi);(try clear hi hb hk)) | ((with_reducible refine gate_callee (f:=51) rfl ?_);refine gL_ (some 16) Tryd.func51 #[.pointer (some ⟨g707,0,none⟩)] (h:=?_);(with_reducible refine (spec_l71Pt.calls k g707 t705 t718 t719 t720 t721 w _ ?side1 ?side2 A7.out).mono ?_);(case side1=>repeat (first | (with_reducible first | exact HI707.out | apply IsS123.alloc | apply IsS123.drewN | apply IsS123.drew | apply IsS123.set_1 | refine IsS123.far ?_ NB707_703.out _ | refine IsS123.far ?_ NB707_704.out _) | exact HI707.out));(case side2=>exact hBs_);rintro e w14 ⟨rfl,hi,hb,hk⟩;refine⟨_,rfl,?_⟩;replace BK703:=a0_ (KeepBut.blk hk (g':=gb703) (o:=.cells #[.slice none 0 0,.slice none 0 0] 26 (0,0)) uq_ NB703_707.out (by simp));replace BK704:=a0_ (KeepBut.blk hk (g':=gb704) (o:=.cells #[.int .i64 0,.int .i64 0] 28 (0,0)) uq_ NB704_707.out (by simp));replace HO712:=a0_ (Kd.R_mono (Kd.R_keep (IsS123.apart (show IsS123 w _ g707 t705 t718 from by repeat (first | (with_reducible first | exact HI707.out | apply IsS123.alloc | apply IsS123.drewN | apply IsS123.drew | apply IsS123.set_1 | refine IsS123.far ?_ NB707_703.out _ | refine IsS123.far ?_ NB707_704.out _) | exact HI707.out)) (uR_ HO712) (by decide)) hk (fun _ h=>h.2)) (fun _ h=>h.1));replace HO715:=a0_ (Kd.N_mono (Kd.N_keep (Kd.N_mono (ok:=fun k_=>(((w.heap.size≤k_))∧(some k_≠(v711:Value).ownBlock∧(k_≠gb703∧(k_≠gb704∧k_≠g707))))) (uN_ HO715) (fun k_ hk_=>(⟨hk_,hk_.2.2.2.2⟩:_∧k_≠g707))) hk (fun _ h=>h.2)) (fun _ h=>h.1));replace HB:=a0_ (hb);replace HI707:=a0_ (hi);(try clear hi hb hk);obtain⟨Ao15,co15,eo15⟩:=Kd.R_slice HO712.out;subst eo15;have hnb16:=NB703_704.out;have hnc16:=NB704_703.out;have hnb17:=NB703_707.out;have hnc17:=NB707_703.out;have hcz18_0:=c20_ BK703;have hcz18_1:=c21_ BK703;have hfz18_0:=fz_ BK703 0;have hfz18_1:=fz_ BK703 1;obtain⟨Ao19,co19,eo19⟩:=Kd.N_slice HO715.out;subst eo19;have hnb20:=NB704_707.out;have hnc20:=NB707_704.out;have hcz21_0:=c20_ BK704;have hcz21_1:=c21_ BK704;have hfz21_0:=fz_ BK704 0;have hfz21_1:=fz_ BK704 1))
  refine bodyPost_ret (results_list (rs:=[.cell 2 26,.tmp 3,.cell 4 28]) rfl (by simp) (.cell gb703 26 #[.slice Ao15 t710.length co15,.slice Ao19 t713.length co19] (0,0) _ rfl (by (with_reducible repeat (first | refine blk_drewN ?_ _ | refine blk_drew ?_ | refine blk_alloc ?_ _));refine blk_far ?_ NB703_704.out _;(with_reducible repeat (first | refine blk_drewN ?_ _ | refine blk_drew ?_ | refine blk_alloc ?_ _));refine blk_far ?_ NB703_704.out _;(with_reducible repeat (first | refine blk_drewN ?_ _ | refine blk_drew ?_ | refine blk_alloc ?_ _));refine blk_put (cs:=#[.slice Ao15 t710.length co15,.slice none 0 0]) ?_ 1 _ rfl;(with_reducible repeat (first | refine blk_drewN ?_ _ | refine blk_drew ?_ | refine blk_alloc ?_ _));refine blk_put (cs:=#[.slice none 0 0,.slice none 0 0]) ?_ 0 _ rfl;(with_reducible repeat (first | refine blk_drewN ?_ _ | refine blk_drew ?_ | refine blk_alloc ?_ _));exact BK703.out) Tryd.underlying26 rfl (by kernel_rfl) (.tmp (.cell gb704 28 #[.int .i64 t719,.int .i64 t720] (0,0) _ rfl (by (with_reducible repeat (first | refine blk_drewN ?_ _ | refine blk_drew ?_ | refine blk_alloc ?_ _));refine blk_put (cs:=#[.int .i64 t719,.int .i64 0]) ?_ 1 _ rfl;(with_reducible repeat (first | refine blk_drewN ?_ _ | refine blk_drew ?_ | refine blk_alloc ?_ _));refine blk_put (cs:=#[.int .i64 0,.int .i64 0]) ?_ 0 _ rfl;(with_reducible repeat (first | refine blk_drewN ?_ _ | refine blk_drew ?_ | refine blk_alloc ?_ _));refine blk_far ?_ NB704_703.out _;(with_reducible repeat (first | refine blk_drewN ?_ _ | refine blk_drew ?_ | refine blk_alloc ?_ _));refine blk_far ?_ NB704_703.out _;(with_reducible repeat (first | refine blk_drewN ?_ _ | refine blk_drew ?_ | refine blk_alloc ?_ _));exact BK704.out) Tryd.underlying28 rfl (by kernel_rfl) .nil)))) rfl ?_
  exact⟨_,_,rr_,by (with_reducible repeat (first | apply Kd.R_alloc | apply Kd.R_drewN | apply Kd.R_drew));exact Kd.R_mono (Kd.R_far (p:=⟨gb704,1,none⟩) (Kd.R_far (p:=⟨gb704,0,none⟩) (Kd.R_far (p:=⟨gb703,1,none⟩) (Kd.R_far (p:=⟨gb703,0,none⟩) (Kd.R_mono (Kd.R_types HO712.out BK703.out (by decide)) (fun k_ hk=>(⟨hk,hk.1.2⟩:_∧k_≠gb704))) (fun _ hk=>hk.1.2) (.slice Ao15 t710.length co15)) (fun _ hk=>hk.1.2) (.slice Ao19 t713.length co19)) (fun _ hk=>hk.2) (.int .i64 t719)) (fun _ hk=>hk.2) (.int .i64 t720)) (fun _ hk=>hk.1.1.1.1),by (with_reducible repeat (first | apply Kd.N_alloc | apply Kd.N_drewN | apply Kd.N_drew));exact Kd.N_mono (Kd.N_far (p:=⟨gb704,1,none⟩) (Kd.N_far (p:=⟨gb704,0,none⟩) (Kd.N_far (p:=⟨gb703,1,none⟩) (Kd.N_far (p:=⟨gb703,0,none⟩) (Kd.N_mono (Kd.N_mono HO715.out (fun k_ hk=>(⟨hk,hk.2.2.1⟩:_∧k_≠gb703))) (fun k_ hk=>(⟨hk,hk.1.2.2.2.1⟩:_∧k_≠gb704))) (fun _ hk=>hk.1.2) (.slice Ao15 t710.length co15)) (fun _ hk=>hk.1.2) (.slice Ao19 t713.length co19)) (fun _ hk=>hk.2) (.int .i64 t719)) (fun _ hk=>hk.2) (.int .i64 t720)) (fun _ hk=>⟨hk.1.1.1,hk.1.1.2.1⟩),by repeat (first | (with_reducible first | exact HB.out | apply below_alloc | apply pw_below_drewN | apply below_drew1 | refine below_set ?_ (IsS123.ge HI707.out) | refine below_set ?_ GE703.out | refine below_set ?_ GE704.out) | exact HB.out)⟩
 ·
  rw [if_neg c4] at H;have c4b0:(t708==0)=false:=beq_eq_false_iff_ne.mpr c4;have c4b1:(t708 != 0)=true:=bne_iff_ne.mpr c4;replace H:=Option.bind_eq_some_iff.mp H;obtain⟨⟨t722,t725,t728,t729,t730,t731⟩,A220,H⟩:=H
  (try dsimp only at H)
  have A22:=Aside0.mk A220;clear A220;simp only [Option.some.injEq,Prod.mk.injEq] at H;obtain⟨rfl,rfl,rfl,rfl,rfl⟩:=H;go_enter Tryd.func33,Tryd.ntmps33
  go_wp2_with (first | ((with_reducible refine gate_dst (N:=2) rfl ?_);refine bx_ (N:=2) (cs:=#[.slice none 0 0,.slice none 0 0]) (t:=26) (h:=?_);intro gb703 hg w23 hbox hb;have BK703:=a0_ (hbox);have GW703:=a0_ ((by rw [hg];exact (below_size hBs_):w.heap.size≤gb703));have GE703:=a0_ ((by rw [hg];exact (below_size hBs_):w.heap.size≤gb703));replace HB:=a0_ (below_step hBs_ hb);clear hb hbox hg) | ((with_reducible refine gate_dst (N:=4) rfl ?_);refine bx_ (N:=4) (cs:=#[.int .i64 0,.int .i64 0]) (t:=28) (h:=?_);intro gb704 hg w24 hbox hb;have BK704:=a0_ (hbox);have GW704:=a0_ ((by rw [hg];exact (below_size hBs_):w.heap.size≤gb704));have GE704:=a0_ ((by rw [hg];exact (below_size hBs_):w.heap.size≤gb704));have NB703_704:=nl_ BK703 hg;have NB704_703:=nr_ BK703 hg;replace BK703:=vb_ BK703 hb;replace HB:=a0_ (below_step hBs_ hb);clear hb hbox hg) | ((with_reducible refine gate_callee (f:=49) rfl ?_);refine gL_ (some 7) Tryd.func49 #[.slice A0 l0.length c0] (h:=?_);(with_reducible refine (spec_l6Open.calls _ _ l0 t705 t706 w _ hBs_ HR0.out HC0.out A2.out).mono ?_);rintro e w25 ⟨g707,rfl,hi,hb,hb2⟩;refine⟨_,rfl,?_⟩;have HI707:=a0_ (hi);have NB707_703:=a0_ (IsS123.ne_blk hi (blk_below (g:=gb703) (o:=.cells #[.slice none 0 0,.slice none 0 0] 26 (0,0)) uq_ hb2) (by decide));have NB703_707:=a0_ (Ne.symm (IsS123.ne_blk hi (blk_below (g:=gb703) (o:=.cells #[.slice none 0 0,.slice none 0 0] 26 (0,0)) uq_ hb2) (by decide)));have NB707_704:=a0_ (IsS123.ne_blk hi (blk_below (g:=gb704) (o:=.cells #[.int .i64 0,.int .i64 0] 28 (0,0)) uq_ hb2) (by decide));have NB704_707:=a0_ (Ne.symm (IsS123.ne_blk hi (blk_below (g:=gb704) (o:=.cells #[.int .i64 0,.int .i64 0] 28 (0,0)) uq_ hb2) (by decide)));replace BK703:=a0_ (blk_below (g:=gb703) (o:=.cells #[.slice none 0 0,.slice none 0 0] 26 (0,0)) uq_ hb2);replace BK704:=a0_ (blk_below (g:=gb704) (o:=.cells #[.int .i64 0,.int .i64 0] 28 (0,0)) uq_ hb2);replace HB:=a0_ (hb);(try clear hi hb hb2)) | ((with_reducible refine gate_callee (f:=74) rfl ?_);refine gL_ (some 9) Tryd.func74 #[.pointer (some ⟨g707,0,none⟩),.int .i64 5] (h:=?_);(with_reducible refine (spec_l6Rd_pick.calls k g707 t705 t706 5 t708 t709 w _ ?side1 ?side2 A3.out).mono ?_);(case side1=>repeat (first | (with_reducible first | exact HI707.out | apply IsS123.alloc | apply IsS123.drewN | apply IsS123.drew | apply IsS123.set_1 | refine IsS123.far ?_ NB707_703.out _ | refine IsS123.far ?_ NB707_704.out _) | exact HI707.out));(case side2=>exact hBs_);rintro e w26 ⟨rfl,hi,hb,hk⟩;refine⟨_,rfl,?_⟩;replace BK703:=a0_ (KeepBut.blk hk (g':=gb703) (o:=.cells #[.slice none 0 0,.slice none 0 0] 26 (0,0)) uq_ NB703_707.out (by simp));replace BK704:=a0_ (KeepBut.blk hk (g':=gb704) (o:=.cells #[.int .i64 0,.int .i64 0] 28 (0,0)) uq_ NB704_707.out (by simp));replace HB:=a0_ (hb);replace HI707:=a0_ (hi);(try clear hi hb hk)) | ((with_reducible refine gate_callee (f:=76) rfl ?_);refine gL_ (some 18) Tryd.func76 #[.pointer (some ⟨g707,0,none⟩)] (h:=?_);(with_reducible refine (spec_l71Stand.calls k g707 t705 t709 t722 t725 t728 t729 t730 t731 w _ ?side1 ?side2 A22.out).mono ?_);(case side1=>repeat (first | (with_reducible first | exact HI707.out | apply IsS123.alloc | apply IsS123.drewN | apply IsS123.drew | apply IsS123.set_1 | refine IsS123.far ?_ NB707_703.out _ | refine IsS123.far ?_ NB707_704.out _) | exact HI707.out));(case side2=>exact hBs_);rintro e w27 ⟨v723,v726,rfl,ho0,ho1,hi,hb,hk⟩;refine⟨_,rfl,?_⟩;have HO724:=a0_ (Kd.R_lower (Kd.R_newB (Kd.R_newM (M:=fun k_=>(w.heap.size≤k_)) (Kd.R_mono (ok':=fun k_=>True) ho0 (fun _ hk_=>trivial)) (below_size hBs_) (fun k_ h_=>h_)) (g:=gb704) (o:=.cells #[.int .i64 0,.int .i64 0] 28 (0,0)) uq_) (below_size hBs_));have HO727:=a0_ (Kd.N_lower (Kd.N_mono (ok':=fun k_=>(w.heap.size≤k_)∧some k_≠(v723:Value).ownBlock∧k_≠gb703∧k_≠gb704∧k_≠g707) ho1 (fun k_ hk_=>⟨(Nat.le_trans (below_size hBs_) hk_.1),hk_.2,(Kd.freshB (g:=gb703) (o:=.cells #[.slice none 0 0,.slice none 0 0] 26 (0,0)) uq_ k_ hk_.1),(Kd.freshB (g:=gb704) (o:=.cells #[.int .i64 0,.int .i64 0] 28 (0,0)) uq_ k_ hk_.1),(IsS123.fresh (by repeat (first | (with_reducible first | exact HI707.out | apply IsS123.alloc | apply IsS123.drewN | apply IsS123.drew | apply IsS123.set_1 | refine IsS123.far ?_ NB707_703.out _ | refine IsS123.far ?_ NB707_704.out _) | exact HI707.out)) k_ hk_.1)⟩)) (below_size hBs_));replace BK703:=a0_ (KeepBut.blk hk (g':=gb703) (o:=.cells #[.slice none 0 0,.slice none 0 0] 26 (0,0)) uq_ NB703_707.out (by simp));replace BK704:=a0_ (KeepBut.blk hk (g':=gb704) (o:=.cells #[.int .i64 0,.int .i64 0] 28 (0,0)) uq_ NB704_707.out (by simp));replace HB:=a0_ (hb);replace HI707:=a0_ (hi);(try clear ho0 ho1 hi hb hk);obtain⟨Ao28,co28,eo28⟩:=Kd.R_slice HO724.out;subst eo28;have hnb29:=NB703_704.out;have hnc29:=NB704_703.out;have hnb30:=NB703_707.out;have hnc30:=NB707_703.out;have hcz31_0:=c20_ BK703;have hcz31_1:=c21_ BK703;have hfz31_0:=fz_ BK703 0;have hfz31_1:=fz_ BK703 1;obtain⟨Ao32,co32,eo32⟩:=Kd.N_slice HO727.out;subst eo32;have hnb33:=NB704_707.out;have hnc33:=NB707_704.out;have hcz34_0:=c20_ BK704;have hcz34_1:=c21_ BK704;have hfz34_0:=fz_ BK704 0;have hfz34_1:=fz_ BK704 1))
  refine bodyPost_ret (results_list (rs:=[.cell 2 26,.tmp 3,.cell 4 28]) rfl (by simp) (.cell gb703 26 #[.slice Ao28 t722.length co28,.slice Ao32 t725.length co32] (0,0) _ rfl (by (with_reducible repeat (first | refine blk_drewN ?_ _ | refine blk_drew ?_ | refine blk_alloc ?_ _));refine blk_far ?_ NB703_704.out _;(with_reducible repeat (first | refine blk_drewN ?_ _ | refine blk_drew ?_ | refine blk_alloc ?_ _));refine blk_far ?_ NB703_704.out _;(with_reducible repeat (first | refine blk_drewN ?_ _ | refine blk_drew ?_ | refine blk_alloc ?_ _));refine blk_put (cs:=#[.slice Ao28 t722.length co28,.slice none 0 0]) ?_ 1 _ rfl;(with_reducible repeat (first | refine blk_drewN ?_ _ | refine blk_drew ?_ | refine blk_alloc ?_ _));refine blk_put (cs:=#[.slice none 0 0,.slice none 0 0]) ?_ 0 _ rfl;(with_reducible repeat (first | refine blk_drewN ?_ _ | refine blk_drew ?_ | refine blk_alloc ?_ _));exact BK703.out) Tryd.underlying26 rfl (by kernel_rfl) (.tmp (.cell gb704 28 #[.int .i64 t729,.int .i64 t730] (0,0) _ rfl (by (with_reducible repeat (first | refine blk_drewN ?_ _ | refine blk_drew ?_ | refine blk_alloc ?_ _));refine blk_put (cs:=#[.int .i64 t729,.int .i64 0]) ?_ 1 _ rfl;(with_reducible repeat (first | refine blk_drewN ?_ _ | refine blk_drew ?_ | refine blk_alloc ?_ _));refine blk_put (cs:=#[.int .i64 0,.int .i64 0]) ?_ 0 _ rfl;(with_reducible repeat (first | refine blk_drewN ?_ _ | refine blk_drew ?_ | refine blk_alloc ?_ _));refine blk_far ?_ NB704_703.out _;(with_reducible repeat (first | refine blk_drewN ?_ _ | refine blk_drew ?_ | refine blk_alloc ?_ _));refine blk_far ?_ NB704_703.out _;(with_reducible repeat (first | refine blk_drewN ?_ _ | refine blk_drew ?_ | refine blk_alloc ?_ _));exact BK704.out) Tryd.underlying28 rfl (by kernel_rfl) .nil)))) rfl ?_
  exact⟨_,_,rr_,by (with_reducible repeat (first | apply Kd.R_alloc | apply Kd.R_drewN | apply Kd.R_drew));exact Kd.R_mono (Kd.R_far (p:=⟨gb704,1,none⟩) (Kd.R_far (p:=⟨gb704,0,none⟩) (Kd.R_far (p:=⟨gb703,1,none⟩) (Kd.R_far (p:=⟨gb703,0,none⟩) (Kd.R_mono (Kd.R_types HO724.out BK703.out (by decide)) (fun k_ hk=>(⟨hk,hk.1.2⟩:_∧k_≠gb704))) (fun _ hk=>hk.1.2) (.slice Ao28 t722.length co28)) (fun _ hk=>hk.1.2) (.slice Ao32 t725.length co32)) (fun _ hk=>hk.2) (.int .i64 t729)) (fun _ hk=>hk.2) (.int .i64 t730)) (fun _ hk=>hk.1.1.1.1),by (with_reducible repeat (first | apply Kd.N_alloc | apply Kd.N_drewN | apply Kd.N_drew));exact Kd.N_mono (Kd.N_far (p:=⟨gb704,1,none⟩) (Kd.N_far (p:=⟨gb704,0,none⟩) (Kd.N_far (p:=⟨gb703,1,none⟩) (Kd.N_far (p:=⟨gb703,0,none⟩) (Kd.N_mono (Kd.N_mono HO727.out (fun k_ hk=>(⟨hk,hk.2.2.1⟩:_∧k_≠gb703))) (fun k_ hk=>(⟨hk,hk.1.2.2.2.1⟩:_∧k_≠gb704))) (fun _ hk=>hk.1.2) (.slice Ao28 t722.length co28)) (fun _ hk=>hk.1.2) (.slice Ao32 t725.length co32)) (fun _ hk=>hk.2) (.int .i64 t729)) (fun _ hk=>hk.2) (.int .i64 t730)) (fun _ hk=>⟨hk.1.1.1,hk.1.1.2.1⟩),by repeat (first | (with_reducible first | exact HB.out | apply below_alloc | apply pw_below_drewN | apply below_drew1 | refine below_set ?_ (IsS123.ge HI707.out) | refine below_set ?_ GE703.out | refine below_set ?_ GE704.out) | exact HB.out)⟩
end Go.Proofs.YtkefmnmoaomlhaaDoor.X
end
section
set_option linter.unusedVariables false
set_option linter.unusedSimpArgs false
namespace Go.Proofs.YtkefmnmoaomlhaaDoor.X
open Go.RowKit Go.Shelf Go.Proofs.YtkefmnmoaomlhaaDoorW.PrintWords Go.Proofs.YtkefmnmoaomlhaaDoorW.PrintLast Go.Proofs.YtkefmnmoaomlhaaDoorW.PrintMore
open Mort (edges segMeet)
attribute [local go_sem] Oper.semAt_some
structure RingAt (W:World) (b:Nat) (A:Option Addr) (c:Nat) (zs:List S28) (nx:Option Addr):Prop where
 pts:W.cell? ⟨b,0,none⟩=some (.slice A zs.length c)
 nxt:W.cell? ⟨b,1,none⟩=some (.pointer nx)
 row:Kd.C k28 W A zs.length zs
 cap:zs.length≤c
theorem RingAt.later {W W':World}{b c:Nat}{A nx:Option Addr}{zs:List S28}(h:RingAt W b A c zs nx)(hb:Below W.heap.size W W'):RingAt W' b A c zs nx:=
 ⟨pw_cell_below hb h.pts,pw_cell_below hb h.nxt,Kd.C_below h.row hb,h.cap⟩
theorem RingAt.alloc {W:World}{b c:Nat}{A nx:Option Addr}{zs:List S28}(h:RingAt W b A c zs nx)(o:Obj):RingAt (W.alloc o) b A c zs nx:=h.later (below_alloc (Below.refl _ W) o)
theorem RingAt.lt {W:World}{b c:Nat}{A nx:Option Addr}{zs:List S28}(h:RingAt W b A c zs nx):b<W.heap.size:=World.block_lt_of_cell? W _ h.pts
def meetsB (zs ys:List S28):Bool:=(List.finRange zs.length).any fun i=>(List.finRange ys.length).any fun j=>segMeet (sgP (edS zs i)) (sgP (edS ys j))
set_option maxHeartbeats 4000000 in
set_option maxRecDepth 100000 in
theorem meets_calls (b1 b2:Nat)(A1 A2 n1 n2:Option Addr)(c1 c2:Nat)(zs ys:List S28)(r:Bool)(w:World)(h1:RingAt w b1 A1 c1 zs n1)(h2:RingAt w b2 A2 c2 ys n2)(hl1:0<zs.length∧zs.length≤8)(hl2:0<ys.length∧ys.length≤8)(h:meetsB zs ys=r):
  Calls Tryd.prog 113 #[.pointer (some ⟨b1,0,none⟩),.pointer (some ⟨b2,0,none⟩)] w fun e w'=>e=.returned (.bool r)∧Below w.heap.size w w':=by
 have hR:=Aside0.mk h;clear h;have hu61:=Tryd.underlying61;obtain⟨p1,_,k1,_⟩:=h1;refine (callsIn_wide (n:=9)).1 ?_;refine callsIn_of_wp_marks Tryd.func113 rfl trivial ?_ rfl;simp only [Tryd.ntmps113,List.size_toArray,List.length_cons,List.length_nil,Nat.reduceAdd,Nat.reduceSub,Array.replicate_succ,Array.replicate_zero,List.push_toArray,List.append_toArray,List.nil_append,List.cons_append];have hAb1:=row_lt k1 hl1.1;have hAb2:=row_lt h2.row hl2.1;have q1:((w.alloc (.cells #[.pointer (some ⟨b2,0,none⟩)] 105)).alloc (.cells #[.bool false] 4)).cell? ⟨b1,0,none⟩=some (.slice A1 zs.length c1):=pw_cell_below (below_alloc (below_alloc (Below.refl _ w) _) _) p1;gi_wp2_with (refine⟨trivial,?_⟩;gi_at_call 96;refine (edges_in _ _ _ _ _).mono ?_;rintro e w' ⟨rfl,rfl⟩);have bO:=((Boxed.new w 105 (.pointer (some ⟨b2,0,none⟩))).alloc (.cells #[.bool false] 4)).alloc (.cells #[.slice A1 zs.length c1] 23);have bR:=(Boxed.new (w.alloc (.cells #[.pointer (some ⟨b2,0,none⟩)] 105)) 4 (.bool false)).alloc (.cells #[.slice A1 zs.length c1] 23);have bC:=Boxed.new ((w.alloc (.cells #[.pointer (some ⟨b2,0,none⟩)] 105)).alloc (.cells #[.bool false] 4)) 23 (.slice A1 zs.length c1);simp only [World.size_alloc] at bR bC;have hB0:Below w.heap.size w (((w.alloc (.cells #[.pointer (some ⟨b2,0,none⟩)] 105)).alloc (.cells #[.bool false] 4)).alloc (.cells #[.slice A1 zs.length c1] 23)):=below_alloc (below_alloc (below_alloc (Below.refl _ w) _) _) _;have hsz:(((w.alloc (.cells #[.pointer (some ⟨b2,0,none⟩)] 105)).alloc (.cells #[.bool false] 4)).alloc (.cells #[.slice A1 zs.length c1] 23)).heap.size=w.heap.size+3:=by simp
 obtain⟨W0,hW0⟩:∃ W0,((w.alloc (.cells #[.pointer (some ⟨b2,0,none⟩)] 105)).alloc (.cells #[.bool false] 4)).alloc (.cells #[.slice A1 zs.length c1] 23)=W0:=⟨_,rfl⟩;rw [hW0] at bO bR bC hB0 hsz ⊢
 clear hW0 q1;refine wpIn_rangeFunc_ownH rfl (by omega) (gf:=114) (lb:=#[.pointer (some ⟨w.heap.size+1+1,0,none⟩)]) rfl trivial (enters_of Tryd.func114 (by kernel_rfl) rfl)
  (edges_stops 8 (by omega) (w.heap.size+1+1) w.heap.size A1 c1 zs (by omega) hAb1 W0 (by omega) (by omega) bC.cell (Kd.C_below k1 hB0)) (fun h k=>KpE.trans h k) (fun W l o o' hl _ _ _=>KpE.putObj W l o' (by omega) (by omega)) (Below.refl _ _) (fun _=>rfl)
  (fun pre W=>(((∀ x∈pre,∀ y:Fin ys.length,segMeet (sgP (edS zs (x:Fin zs.length))) (sgP (edS ys y))=false)∧Boxed W (w.heap.size+1) 4 (.bool false))∧Boxed W w.heap.size 105 (.pointer (some ⟨b2,0,none⟩)))∧Below w.heap.size w W)
  (fun c pre W=>((c=.ret∧∃ (x:Fin zs.length) (y:Fin ys.length),segMeet (sgP (edS zs x)) (sgP (edS ys y))=true)∧Boxed W (w.heap.size+1) 4 (.bool true))∧Below w.heap.size w W)
  (OwnFrom.and (OwnFrom.and (OwnFrom.and (ownFrom_pure _ _) (Own.from (boxed_own _ _ _) _)) (Own.from (boxed_own _ _ _) _)) (ownFrom_below (Nat.le_refl _) (by omega)))
  (fun c=>OwnFrom.and (OwnFrom.and (ownFrom_pure _ _) (Own.from (boxed_own _ _ _) _)) (ownFrom_below (Nat.le_refl _) (by omega)))
  ⟨⟨⟨by simp,bR⟩,bO⟩,hB0⟩
  (fun x a' W=>∃ Bx,W.heap[Bx]?=some (segObj (edS zs x))∧a'={ tmps:=#[.pointer (some ⟨b1,0,none⟩),.pointer (some ⟨b2,0,none⟩),undef,.pointer (some ⟨w.heap.size,0,none⟩),.pointer (some ⟨w.heap.size+1,0,none⟩),undef,.pointer (some ⟨Bx,0,none⟩),undef,undef,.pointer (some ⟨b1,0,none⟩),.pointer (some ⟨b1,0,none⟩),.pointer (some ⟨b1,0,none⟩),.slice A1 zs.length c1,.func (.func 114) #[] #[.pointer (some ⟨w.heap.size+1+1,0,none⟩)],.int .i64 ((x:Nat):Int),.agg #[.int .i64 (edS zs x).f0.f0,.int .i64 (edS zs x).f0.f1,.int .i64 (edS zs x).f1.f0,.int .i64 (edS zs x).f1.f1],undef,undef,undef,undef,undef,undef,undef,undef,undef,undef],defers:=[] })
  (fun x a' _ X Y row hs hg hr=>by obtain⟨Bx,e2,e3⟩:=hs;exact⟨Bx,segObj_own Bx (edS zs x) () X Y row e2 hg (fun r e=>(hr r e).2),e3⟩)
  ?assign ?body ?done ?stop
 case assign =>
  rintro l pre x W K ⟨⟨⟨hq,bR1⟩,bO1⟩,hB1⟩ hK;have hBs:=hB1.size;dsimp only [encE,edV];gi_wp2;exact hK _ _ ((KeepsOthers.alloc _ _).from _) (KpE.alloc _ _ _ _) ⟨⟨⟨hq,bR1.alloc _⟩,bO1.alloc _⟩,below_alloc hB1 _⟩ ⟨W.heap.size,World.alloc_heap_new W _,rfl⟩
 case body =>
  rintro l pre x a' W hl ⟨rr,hrr⟩ ⟨⟨⟨hq,bR1⟩,bO1⟩,hB1⟩ ⟨Bx,bX,rfl⟩ hlt;have hO:=h2.later hB1;have cO:=bO1.cell;have p2:=hO.pts;gi_wp2_with (refine⟨trivial,?_⟩;gi_at_call 96;refine (CallsIn.inRound l (edges_in _ _ _ _ _)).mono ?_;rintro e w' ⟨rfl,rfl⟩);clear cO p2;have bN:=Boxed.new W 23 (.slice A2 ys.length c2);have hr':(W.alloc (.cells #[.slice A2 ys.length c2] 23)).heap[l]?=some (.loop rr):=blk_alloc' hrr _;have bR2:=bR1.alloc (.cells #[.slice A2 ys.length c2] 23);have bO2:=bO1.alloc (.cells #[.slice A2 ys.length c2] 23);have bX2:=blk_alloc' bX (.cells #[.slice A2 ys.length c2] 23);have hB2:=below_alloc hB1 (.cells #[.slice A2 ys.length c2] 23);have hE2:=KpE.alloc w.heap.size (w.heap.size+1+1) W (.cells #[.slice A2 ys.length c2] 23);have hF2:=(KeepsOthers.alloc W (.cells #[.slice A2 ys.length c2] 23)).from W0.heap.size;have hsz3:(W.alloc (.cells #[.slice A2 ys.length c2] 23)).heap.size=W.heap.size+1:=by simp
  have hBW:=hB1.size;have hRW:=bR1.lt;obtain⟨W3,hW3⟩:∃ W3,W.alloc (.cells #[.slice A2 ys.length c2] 23)=W3:=⟨_,rfl⟩;rw [hW3] at bN hr' bR2 bO2 bX2 hB2 hE2 hF2 hsz3 ⊢
  clear hW3;obtain⟨Bc,hBc⟩:∃ Bc,W.heap.size=Bc:=⟨_,rfl⟩;rw [hBc] at bN ⊢
  refine wpIn_rangeFunc_ownN (l₀:=l) (r₀:=rr) rfl hr' (by omega) (gf:=114) (lb:=#[.pointer (some ⟨Bc,0,none⟩)]) rfl trivial (enters_of Tryd.func114 (by kernel_rfl) rfl)
   ((edges_stops 6 (by omega) Bc w.heap.size A2 c2 ys (by omega) hAb2 W3 (by omega) (by omega) bN.cell (Kd.C_below h2.row hB2)).inRound l) (fun h k=>KpE.trans h k) (fun W l o o' hl _ _ _=>KpE.putObj W l o' (by omega) (by omega)) (Below.refl _ _) (fun _=>rfl)
   (fun pre' W'=>((((∀ y∈pre',segMeet (sgP (edS zs x)) (sgP (edS ys (y:Fin ys.length)))=false)∧Boxed W' (w.heap.size+1) 4 (.bool false))∧Boxed W' w.heap.size 105 (.pointer (some ⟨b2,0,none⟩)))∧W'.heap[Bx]?=some (segObj (edS zs x)))∧(Below w.heap.size w W'∧KpE w.heap.size (w.heap.size+1+1) W W')∧KeepsFrom W0.heap.size W W')
   (fun c pre' W'=>((c=.ret∧∃ y:Fin ys.length,segMeet (sgP (edS zs x)) (sgP (edS ys y))=true)∧Boxed W' (w.heap.size+1) 4 (.bool true))∧Below w.heap.size w W'∧KeepsFrom W0.heap.size W W')
   (OwnFrom.and (OwnFrom.and (OwnFrom.and (OwnFrom.and (ownFrom_pure _ _) (Own.from (boxed_own _ _ _) _)) (Own.from (boxed_own _ _ _) _)) (Own.from (blk_own _ (fun _=>segObj (edS zs x)) (fun _=>rfl)) _)) (OwnFrom.and (OwnFrom.and (ownFrom_below (Nat.le_refl _) (by omega)) (ownFrom_kpE (by omega))) (ownFrom_keepsFrom (by omega))))
   (fun c=>OwnFrom.and (OwnFrom.and (ownFrom_pure _ _) (Own.from (boxed_own _ _ _) _)) (OwnFrom.and (ownFrom_below (Nat.le_refl _) (by omega)) (ownFrom_keepsFrom (by omega))))
   ⟨⟨⟨⟨by simp,bR2⟩,bO2⟩,bX2⟩,⟨hB2,hE2⟩,hF2⟩
   (fun y a'' W'=>∃ Bt,W'.heap[Bt]?=some (segObj (edS ys y))∧a''={ tmps:=#[.pointer (some ⟨b1,0,none⟩),.pointer (some ⟨b2,0,none⟩),undef,.pointer (some ⟨w.heap.size,0,none⟩),.pointer (some ⟨w.heap.size+1,0,none⟩),undef,.pointer (some ⟨Bx,0,none⟩),undef,.pointer (some ⟨Bt,0,none⟩),.pointer (some ⟨b1,0,none⟩),.pointer (some ⟨b1,0,none⟩),.pointer (some ⟨b1,0,none⟩),.slice A1 zs.length c1,.func (.func 114) #[] #[.pointer (some ⟨w.heap.size+1+1,0,none⟩)],.int .i64 ((x:Nat):Int),.agg #[.int .i64 (edS zs x).f0.f0,.int .i64 (edS zs x).f0.f1,.int .i64 (edS zs x).f1.f0,.int .i64 (edS zs x).f1.f1],.pointer (some ⟨b2,0,none⟩),.pointer (some ⟨b2,0,none⟩),.pointer (some ⟨b2,0,none⟩),.slice A2 ys.length c2,.func (.func 114) #[] #[.pointer (some ⟨Bc,0,none⟩)],.int .i64 ((y:Nat):Int),.agg #[.int .i64 (edS ys y).f0.f0,.int .i64 (edS ys y).f0.f1,.int .i64 (edS ys y).f1.f0,.int .i64 (edS ys y).f1.f1],undef,undef,undef],defers:=[] })
   (fun y a'' _ X Y row hs hg hr=>by obtain⟨Bt,e2,e3⟩:=hs;exact⟨Bt,segObj_own Bt (edS ys y) () X Y row e2 hg (fun r e=>(hr r e).2),e3⟩)
   ?assign2 ?body2 ?done2 ?stop2
  case assign2 =>
   rintro l2 pre' y W' K ⟨⟨⟨⟨hq2,bR⟩,bO⟩,bX⟩,⟨hB,hE⟩,hF⟩ hKK;dsimp only [encE,edV];gi_wp2;exact hKK _ _ ((KeepsOthers.alloc _ _).from _) (KpE.alloc _ _ _ _) ⟨⟨⟨⟨hq2,bR.alloc _⟩,bO.alloc _⟩,blk_alloc' bX _⟩,⟨below_alloc hB _,hE.trans (KpE.alloc _ _ _ _)⟩,hF.trans ((KeepsOthers.alloc _ _).from _)⟩ ⟨W'.heap.size,World.alloc_heap_new W' _,rfl⟩
  case body2 =>
   rintro l2 pre' y a'' W' _ _ ⟨⟨⟨⟨hq2,bR⟩,bO⟩,bX⟩,⟨hB,hE⟩,hF⟩ ⟨Bt,bT,rfl⟩ _;have cX0:W'.cell? ⟨Bx,0,none⟩=some (.int .i64 (edS zs x).f0.f0):=(blk_cell bX 0).trans rfl;have cX1:W'.cell? ⟨Bx,1,none⟩=some (.int .i64 (edS zs x).f0.f1):=(blk_cell bX 1).trans rfl;have cX2:W'.cell? ⟨Bx,2,none⟩=some (.int .i64 (edS zs x).f1.f0):=(blk_cell bX 2).trans rfl;have cX3:W'.cell? ⟨Bx,3,none⟩=some (.int .i64 (edS zs x).f1.f1):=(blk_cell bX 3).trans rfl;have cT0:W'.cell? ⟨Bt,0,none⟩=some (.int .i64 (edS ys y).f0.f0):=(blk_cell bT 0).trans rfl;have cT1:W'.cell? ⟨Bt,1,none⟩=some (.int .i64 (edS ys y).f0.f1):=(blk_cell bT 1).trans rfl;have cT2:W'.cell? ⟨Bt,2,none⟩=some (.int .i64 (edS ys y).f1.f0):=(blk_cell bT 2).trans rfl;have cT3:W'.cell? ⟨Bt,3,none⟩=some (.int .i64 (edS ys y).f1.f1):=(blk_cell bT 3).trans rfl;have HJ:=iSegMeet (k:=3) (by omega) (edS zs x).f0.f0 (edS zs x).f0.f1 (edS zs x).f1.f0 (edS zs x).f1.f1 (edS ys y).f0.f0 (edS ys y).f0.f1 (edS ys y).f1.f0 (edS ys y).f1.f1
   cases hb:segMeet (sgP (edS zs x)) (sgP (edS ys y)) with
   | false =>
    replace HJ:=HJ.trans (congrArg some hb);gi_wp2_with (refine⟨trivial,?_⟩;gi_at_call 112;refine (CallsIn.inRound l2 (callsIn_wide.2 (impl_SegMeet.calls 3 _ _ _ _ _ _ _ _ false _ HJ))).mono ?_;rintro e w1 ⟨rfl,hb1⟩);exact⟨keeps_below hb1,KpE.below hb1,⟨⟨⟨fun z hz=>(List.mem_append.1 hz).elim (hq2 z) (fun e=>by simp at e;subst e;exact hb),box_later bR hb1⟩,box_later bO hb1⟩,blk_later bX hb1⟩,⟨below_row hB (Nat.le_refl _) hb1,hE.trans (KpE.below hb1)⟩,hF.trans (keeps_below hb1)⟩
   | true =>
    replace HJ:=HJ.trans (congrArg some hb);gi_wp2_with (refine⟨trivial,?_⟩;gi_at_call 112;refine (CallsIn.inRound l2 (callsIn_wide.2 (impl_SegMeet.calls 3 _ _ _ _ _ _ _ _ true _ HJ))).mono ?_;rintro e w1 ⟨rfl,hb1⟩;have cR1:=(box_later bR hb1).cell;have fR1:=(box_later bR hb1).frozen);exact⟨(keeps_below hb1).trans ((KeepsOthers.setCell _ _ _).from _),⟨⟨rfl,y,hb⟩,(box_later bR hb1).set _⟩,(below_row hB (Nat.le_refl _) hb1).setCell (p:=⟨w.heap.size+1,0,none⟩) (by simp) _,(hF.trans (keeps_below hb1)).trans ((KeepsOthers.setCell _ _ _).from _)⟩
  case done2 =>
   rintro ys' W' rfl ⟨⟨⟨⟨hq2,bR⟩,bO⟩,bX⟩,⟨hB,hE⟩,hF⟩;gi_wp2;exact⟨hF,hE,⟨⟨fun z hz y=>(List.mem_append.1 hz).elim (fun hm=>hq z hm y) (fun e=>by simp at e;subst e;exact hq2 y (List.mem_finRange _)),bR⟩,bO⟩,hB⟩
  case stop2 =>
   rintro c pre' W' hpre ⟨⟨⟨rfl,y,hy⟩,bR⟩,hB,hF⟩;gi_wp2;exact⟨hF,⟨⟨rfl,x,y,hy⟩,bR⟩,hB⟩
 case stop =>
  rintro D c pre W hD _ ⟨⟨⟨rfl,x,y,hs⟩,bR1⟩,hB1⟩ hK;obtain rfl:r=true:=by
   rw [← hR.out];unfold meetsB;rw [List.any_eq_true];exact⟨x,List.mem_finRange _,List.any_eq_true.2 ⟨y,List.mem_finRange _,hs⟩⟩
  gi_wp2;have hD1:∀ E∈[D],W.heap[E]?=some (.deferred (some [])):=by simpa using hK
  refine leavesM_marks [D] W (by simp) hD1 (fun w' h1 h2 h3 h4 h5=>?_);have hc5:=(marks_boxed bR1 hD1 h1).cell;refine⟨.bool true,?_,rfl,marks_below hB1 (by simp;omega) h1 h2 h3 h4 h5⟩;simp [results,Tryd.f113,go_sem,hc5]
 case done =>
  rintro D ys' W hD rfl ⟨⟨⟨hq,bR1⟩,bO1⟩,hB1⟩ hK;obtain rfl:r=false:=by
   rw [← hR.out];unfold meetsB;rw [List.any_eq_false];intro x _;rw [Bool.not_eq_true,List.any_eq_false];intro y _;rw [Bool.not_eq_true];exact hq x (List.mem_finRange _) y
  have cR:=bR1.cell;have fR:=bR1.frozen;gi_wp2;have hD1:∀ E∈[D],(W.setCell ⟨w.heap.size+1,0,none⟩ (.bool false)).heap[E]?=some (.deferred (some [])):=by
   intro E hE;simp at hE;subst hE;exact blk_set hK rfl bR1 _
  refine leavesM_marks [D] _ (by simp) hD1 (fun w' h1 h2 h3 h4 h5=>?_);have hc5:=(marks_boxed (bR1.set (.bool false)) hD1 h1).cell;refine⟨.bool false,?_,rfl,marks_below (hB1.setCell (p:=⟨w.heap.size+1,0,none⟩) (by simp) _) (by simp;omega) h1 h2 h3 h4 h5⟩;simp [results,Tryd.f113,go_sem,hc5]
end Go.Proofs.YtkefmnmoaomlhaaDoor.X
end
section
set_option linter.unusedVariables false
set_option linter.unusedSimpArgs false
namespace Go.Proofs.YtkefmnmoaomlhaaDoor.X
open Go.RowKit Go.Shelf Go.Proofs.YtkefmnmoaomlhaaDoorW.PrintWords Go.Proofs.YtkefmnmoaomlhaaDoorW.PrintLast Go.Proofs.YtkefmnmoaomlhaaDoorW.PrintMore
open Mort (edges loopOk ed segOk ptOk segHas inOf inRun crsI segTurn cross)
attribute [local go_sem] Oper.semAt_some
def impl_insideOf.f (l0:List S28)(a1_0 a1_1:Int):Option Int:=if loopOk (l0.map ptP)=true∧ptOk (a1_0,a1_1)=true then some (inOf (l0.map ptP) (a1_0,a1_1)) else none
def preE (l0:List S28)(pre:List (Fin l0.length)):List Mort.Seg:=pre.map fun (i:Fin l0.length)=>sgP (edS l0 (i:Nat))
theorem preE_snoc (l0:List S28)(pre:List (Fin l0.length))(x:Fin l0.length):preE l0 (pre++[x])=preE l0 pre++[sgP (edS l0 x)]:=by simp [preE]
theorem preE_all (l0:List S28):preE l0 (List.finRange l0.length)=edges (l0.map ptP):=by
 rw [Mort.edges_eq];unfold preE;apply List.ext_getElem
 ·
  simp
 ·
  intro i h1 h2;simp [ed_edS]
set_option maxHeartbeats 4000000 in
set_option maxRecDepth 100000 in
theorem impl_insideOf.calls (A0:Option Addr)(c0:Nat)(l0:List S28)(a1_0 a1_1:Int)(r:Int)(w:World)(hr0:Kd.C k28 w A0 l0.length l0)(hc0:l0.length≤c0)(h:impl_insideOf.f l0 a1_0 a1_1=some r):
  Calls Tryd.prog 97 #[.slice A0 l0.length c0,.agg #[.int .i64 a1_0,.int .i64 a1_1]] w fun e w'=>e=.returned (.int .i64 r)∧Below w.heap.size w w':=by
 unfold impl_insideOf.f at h
 split at h
 case isFalse=>cases h
 rename_i hok
 obtain⟨hl,hp⟩:=hok;have h:=Option.some.inj h;have hS:=(Mort.loopOk_iff _).1 hl;rw [List.length_map] at hS;obtain⟨hl3,hl8,hsg,_⟩:=hS;have hok:∀ i:Fin l0.length,segOk (sgP (edS l0 i))=true:=fun i=>by rw [← ed_edS];exact hsg _ (Mort.mem_edges.2 ⟨i,by simpa using i.2,rfl⟩)
 have hmem:∀ i:Fin l0.length,sgP (edS l0 i)∈edges (l0.map ptP):=fun i=>by rw [← ed_edS];exact Mort.mem_edges.2 ⟨i,by simpa using i.2,rfl⟩
 clear hsg;have HR:=Aside0.mk h;clear h;have hu61:=Tryd.underlying61;have hu28:=Tryd.underlying28;refine (callsIn_wide (n:=9)).1 ?_;refine callsIn_of_wp_marks Tryd.func97 rfl trivial ?_ rfl;simp only [Tryd.ntmps97,List.size_toArray,List.length_cons,List.length_nil,Nat.reduceAdd,Nat.reduceSub,Array.replicate_succ,Array.replicate_zero,List.push_toArray,List.append_toArray,List.nil_append,List.cons_append];have hAb:=row_lt hr0 (by omega);gi_wp2_with (refine⟨trivial,?_⟩;gi_at_call 96;refine (edges_in _ _ _ _ _).mono ?_;rintro e w' ⟨rfl,rfl⟩);have bP:((((w.alloc (.cells #[.int .i64 a1_0,.int .i64 a1_1] 28)).alloc (.cells #[.int .i64 0] 3)).alloc (.cells #[.int .i64 (-1)] 3)).alloc (.cells #[.slice A0 l0.length c0] 23)).heap[w.heap.size]?=some (.cells #[.int .i64 a1_0,.int .i64 a1_1] 28 (0,0)):=blk_alloc' (blk_alloc' (blk_alloc' (World.alloc_heap_new w _) _) _) _;have bR:=((Boxed.new (w.alloc (.cells #[.int .i64 a1_0,.int .i64 a1_1] 28)) 3 (.int .i64 0)).alloc (.cells #[.int .i64 (-1)] 3)).alloc (.cells #[.slice A0 l0.length c0] 23);have bI:=(Boxed.new ((w.alloc (.cells #[.int .i64 a1_0,.int .i64 a1_1] 28)).alloc (.cells #[.int .i64 0] 3)) 3 (.int .i64 (-1))).alloc (.cells #[.slice A0 l0.length c0] 23);have bC:=Boxed.new (((w.alloc (.cells #[.int .i64 a1_0,.int .i64 a1_1] 28)).alloc (.cells #[.int .i64 0] 3)).alloc (.cells #[.int .i64 (-1)] 3)) 23 (.slice A0 l0.length c0);simp only [World.size_alloc] at bR bI bC;have hB0:Below w.heap.size w ((((w.alloc (.cells #[.int .i64 a1_0,.int .i64 a1_1] 28)).alloc (.cells #[.int .i64 0] 3)).alloc (.cells #[.int .i64 (-1)] 3)).alloc (.cells #[.slice A0 l0.length c0] 23)):=below_alloc (below_alloc (below_alloc (below_alloc (Below.refl _ w) _) _) _) _;have hsz:((((w.alloc (.cells #[.int .i64 a1_0,.int .i64 a1_1] 28)).alloc (.cells #[.int .i64 0] 3)).alloc (.cells #[.int .i64 (-1)] 3)).alloc (.cells #[.slice A0 l0.length c0] 23)).heap.size=w.heap.size+4:=by simp
 obtain⟨W0,hW0⟩:∃ W0,(((w.alloc (.cells #[.int .i64 a1_0,.int .i64 a1_1] 28)).alloc (.cells #[.int .i64 0] 3)).alloc (.cells #[.int .i64 (-1)] 3)).alloc (.cells #[.slice A0 l0.length c0] 23)=W0:=⟨_,rfl⟩;rw [hW0] at bP bR bI bC hB0 hsz ⊢
 clear hW0;refine wpIn_rangeFunc_ownH rfl (by omega) (gf:=114) (lb:=#[.pointer (some ⟨w.heap.size+1+1+1,0,none⟩)]) rfl trivial (enters_of Tryd.func114 (by kernel_rfl) rfl)
  (edges_stops 8 (by omega) (w.heap.size+1+1+1) w.heap.size A0 c0 l0 (by omega) hAb W0 (by omega) (by omega) bC.cell (Kd.C_below hr0 hB0)) (fun h k=>KpE.trans h k) (fun W l o o' hl _ _ _=>KpE.putObj W l o' (by omega) (by omega)) (Below.refl _ _) (fun _=>rfl)
  (fun pre W=>((((∀ x∈pre,Mort.has (sgP (edS l0 (x:Fin l0.length))) (a1_0,a1_1)=false)∧Boxed W (w.heap.size+1) 3 (.int .i64 0))∧Boxed W (w.heap.size+1+1) 3 (.int .i64 (inRun (preE l0 pre) (a1_0,a1_1))))∧W.heap[w.heap.size]?=some (.cells #[.int .i64 a1_0,.int .i64 a1_1] 28 (0,0)))∧Below w.heap.size w W)
  (fun c pre W=>((c=.ret∧∃ x:Fin l0.length,Mort.has (sgP (edS l0 x)) (a1_0,a1_1)=true)∧Boxed W (w.heap.size+1) 3 (.int .i64 0))∧Below w.heap.size w W)
  (OwnFrom.and (OwnFrom.and (OwnFrom.and (OwnFrom.and (ownFrom_pure _ _) (Own.from (boxed_own _ _ _) _)) (Own.from (boxed_own _ _ (fun pre=>.int .i64 (inRun (preE l0 pre) (a1_0,a1_1)))) _)) (Own.from (blk_own _ (fun _=>.cells #[.int .i64 a1_0,.int .i64 a1_1] 28 (0,0)) (fun _=>rfl)) _)) (ownFrom_below (Nat.le_refl _) (by omega)))
  (fun c=>OwnFrom.and (OwnFrom.and (ownFrom_pure _ _) (Own.from (boxed_own _ _ _) _)) (ownFrom_below (Nat.le_refl _) (by omega)))
  ⟨⟨⟨⟨by simp,bR⟩,bI⟩,bP⟩,hB0⟩
  (fun x a' W=>∃ Bx,W.heap[Bx]?=some (segObj (edS l0 x))∧a'={ tmps:=#[.slice A0 l0.length c0,.agg #[.int .i64 a1_0,.int .i64 a1_1],undef,.pointer (some ⟨w.heap.size,0,none⟩),.pointer (some ⟨w.heap.size+1,0,none⟩),.pointer (some ⟨w.heap.size+1+1,0,none⟩),undef,.pointer (some ⟨Bx,0,none⟩),undef,undef,undef,.slice A0 l0.length c0,.func (.func 114) #[] #[.pointer (some ⟨w.heap.size+1+1+1,0,none⟩)],.int .i64 ((x:Nat):Int),.agg #[.int .i64 (edS l0 x).f0.f0,.int .i64 (edS l0 x).f0.f1,.int .i64 (edS l0 x).f1.f0,.int .i64 (edS l0 x).f1.f1],undef,undef,undef,undef,undef,undef,undef,undef,undef,undef,undef,undef,undef,undef,undef,undef,undef,undef,undef,undef,undef,undef,undef,undef,undef,undef,undef,undef,undef,undef,undef,undef,undef,undef,undef,undef,undef,undef,undef,undef,undef,undef,undef,undef,undef,undef,undef,undef,undef,undef,undef,undef],defers:=[] })
  (fun x a' _ X Y row hs hg hr=>by obtain⟨Bx,e2,e3⟩:=hs;exact⟨Bx,segObj_own Bx (edS l0 x) () X Y row e2 hg (fun r e=>(hr r e).2),e3⟩)
  ?assign ?body ?done ?stop
 case assign =>
  rintro l pre x W K ⟨⟨⟨⟨hq,bR1⟩,bI1⟩,bP1⟩,hB1⟩ hK;have hBs:=hB1.size;dsimp only [encE,edV];gi_wp2;exact hK _ _ ((KeepsOthers.alloc _ _).from _) (KpE.alloc _ _ _ _) ⟨⟨⟨⟨hq,bR1.alloc _⟩,bI1.alloc _⟩,blk_alloc' bP1 _⟩,below_alloc hB1 _⟩ ⟨W.heap.size,World.alloc_heap_new W _,rfl⟩
 case body =>
  rintro l pre x a' W hl ⟨rr,hrr⟩ ⟨⟨⟨⟨hq,bR1⟩,bI1⟩,bP1⟩,hB1⟩ ⟨Bx,bX,rfl⟩ hlt;have hsx:=hok x;have hE:=preE_snoc l0 pre x;have hIn:=Mort.inRun_snoc (preE l0 pre) (sgP (edS l0 x)) (a1_0,a1_1);rw [← hE] at hIn;have hvals:inRun (preE l0 pre) (a1_0,a1_1)=1∨inRun (preE l0 pre) (a1_0,a1_1) = -1:=by unfold inRun Mort.sideOf;split <;> simp
  have HX:=Aside0.mk hIn;clear hIn hE;generalize inRun (preE l0 pre) (a1_0,a1_1)=v at *;have hx1:=(Mort.segOk_iff _).1 hsx;have HH:=iSegHas (k:=2) (by omega) (edS l0 x).f0.f0 (edS l0 x).f0.f1 (edS l0 x).f1.f0 (edS l0 x).f1.f1 a1_0 a1_1;have HT:=iSegTurn (k:=2) (by omega) (edS l0 x).f0.f0 (edS l0 x).f0.f1 (edS l0 x).f1.f0 (edS l0 x).f1.f1 a1_0 a1_1;have eH:segHas (sgP (edS l0 x)) (a1_0,a1_1)=Mort.has (sgP (edS l0 x)) (a1_0,a1_1):=by unfold segHas;rw [hsx,hp];rfl
  have eT:segTurn ((edS l0 x).f0.f0,(edS l0 x).f0.f1) ((edS l0 x).f1.f0,(edS l0 x).f1.f1) (a1_0,a1_1)=Mort.sgn (cross (sgP (edS l0 x)).1 (sgP (edS l0 x)).2 (a1_0,a1_1)):=by
   unfold segTurn;rw [show ptOk ((edS l0 x).f0.f0,(edS l0 x).f0.f1)=true from hx1.1,show ptOk ((edS l0 x).f1.f0,(edS l0 x).f1.f1)=true from hx1.2.1,hp];rfl
  replace HH:=HH.trans (congrArg some eH);rw [eT] at HT;clear eH eT;have hmx:=hmem x;have hC:crsI (sgP (edS l0 x)) (a1_0,a1_1)=((decide ((edS l0 x).f0.f1≤a1_1) && (decide (a1_1<(edS l0 x).f1.f1) && decide (0<cross (sgP (edS l0 x)).1 (sgP (edS l0 x)).2 (a1_0,a1_1)))) || (decide ((edS l0 x).f1.f1≤a1_1) && (decide (a1_1<(edS l0 x).f0.f1) && decide (cross (sgP (edS l0 x)).1 (sgP (edS l0 x)).2 (a1_0,a1_1)<0)))):=rfl;have cX0:W.cell? ⟨Bx,0,none⟩=some (.int .i64 (edS l0 x).f0.f0):=(blk_cell bX 0).trans rfl;have cX1:W.cell? ⟨Bx,1,none⟩=some (.int .i64 (edS l0 x).f0.f1):=(blk_cell bX 1).trans rfl;have cX2:W.cell? ⟨Bx,2,none⟩=some (.int .i64 (edS l0 x).f1.f0):=(blk_cell bX 2).trans rfl;have cX3:W.cell? ⟨Bx,3,none⟩=some (.int .i64 (edS l0 x).f1.f1):=(blk_cell bX 3).trans rfl;have cP0:W.cell? ⟨w.heap.size,0,none⟩=some (.int .i64 a1_0):=(blk_cell bP1 0).trans rfl;have cP1:W.cell? ⟨w.heap.size,1,none⟩=some (.int .i64 a1_1):=(blk_cell bP1 1).trans rfl;clear bX;generalize cross (sgP (edS l0 x)).1 (sgP (edS l0 x)).2 (a1_0,a1_1)=cz at *;generalize hsp:sgP (edS l0 x)=sx at *;have hsp':=Aside0.mk hsp;clear hsp hx1;generalize (edS l0 x).f0.f0=ax at *;generalize (edS l0 x).f0.f1=ay at *;generalize (edS l0 x).f1.f0=bx at *;generalize (edS l0 x).f1.f1=by_ at *;have hv1 : -1≤v:=by omega
  have hv2:v≤1:=by omega
  clear hvals;have ht:(0<Mort.sgn cz ↔ 0<cz)∧(Mort.sgn cz<0 ↔ cz<0):=by unfold Mort.sgn;split <;> (try split) <;> omega
  generalize Mort.sgn cz=t at *;have cI:=bI1.cell;have fI:=bI1.frozen;have cR:=bR1.cell;have fR:=bR1.frozen;have later:∀ w1,Below W.heap.size W w1→∀ a y,W.cell? a=some y→w1.cell? a=some y:=fun w1 hb a y h=>pw_cell_below hb h
  cases hh:Mort.has sx (a1_0,a1_1) with
  | true =>
   rw [hh] at HH;gi_wp2_with (refine⟨trivial,?_⟩;gi_at_call 115;refine (CallsIn.inRound l (callsIn_wide.2 (impl_SegHas.calls 2 _ _ _ _ _ _ true _ HH))).mono ?_;rintro e w1 ⟨rfl,hb⟩;have cR1:=(box_later bR1 hb).cell;have fR1:=(box_later bR1 hb).frozen);exact⟨(keeps_below hb).trans ((KeepsOthers.setCell _ _ _).from _),⟨⟨rfl,x,by rw [hsp'.out];exact hh⟩,(box_later bR1 hb).set _⟩,(below_row hB1 (Nat.le_refl _) hb).setCell (p:=⟨w.heap.size+1,0,none⟩) (by simp) _⟩
  | false =>
   rw [hh] at HH;by_cases u1:ay≤a1_1
   ·
    by_cases u2:a1_1<by_
    ·
     by_cases u5:0<t
     ·
      have d1:decide (ay≤a1_1)=true:=decide_eq_true (by omega);have d2:decide (a1_1<by_)=true:=decide_eq_true (by omega);have d3:decide (by_≤a1_1)=false:=decide_eq_false (by omega);have d4:decide (a1_1<ay)=false:=decide_eq_false (by omega);have d5:decide (0<t)=true:=decide_eq_true (by omega);have d5':decide (0<cz)=true:=decide_eq_true (by omega);have hcv:crsI sx (a1_0,a1_1)=true:=by rw [hC,d1,d2,d3,d4,d5'];simp
      clear hC
      gi_wp2_with (first
       | (refine⟨trivial,?_⟩;gi_at_call 115;refine (CallsIn.inRound l (callsIn_wide.2 (impl_SegHas.calls 2 _ _ _ _ _ _ false _ HH))).mono ?_;rintro e w1 ⟨rfl,hb⟩;have dP0:=later _ hb _ _ cP0;have dP1:=later _ hb _ _ cP1;have dX0:=later _ hb _ _ cX0;have dX1:=later _ hb _ _ cX1;have dX2:=later _ hb _ _ cX2;have dX3:=later _ hb _ _ cX3)
       | (refine⟨trivial,?_⟩;gi_at_call 116;refine (CallsIn.inRound l (callsIn_wide.2 (impl_SegTurn.calls 2 _ _ _ _ _ _ t _ HT))).mono ?_;rintro e w2 ⟨rfl,hb2⟩;have cI1:=(box_later (box_later bI1 hb) hb2).cell;have fI1:=(box_later (box_later bI1 hb) hb2).frozen))
      have HV:inRun (preE l0 (pre++[x])) (a1_0,a1_1) = -v:=by rw [HX.out,hcv];rfl
      exact⟨(keeps_below (below_step_ hb hb2)).trans ((KeepsOthers.setCell _ _ _).from _),(KpE.below (below_step_ hb hb2)).trans (KpE.set _ (by simp;omega) (by simp) _),⟨⟨⟨fun z hz=>(List.mem_append.1 hz).elim (hq z) (fun e=>by simp at e;subst e;rw [hsp'.out];exact hh),box_other (box_later bR1 (below_step_ hb hb2)) (by omega) _⟩,by rw [HV];exact (box_later bI1 (below_step_ hb hb2)).set _⟩,blk_other (blk_later bP1 (below_step_ hb hb2)) (by omega) _⟩,(below_row hB1 (Nat.le_refl _) (below_step_ hb hb2)).setCell (p:=⟨w.heap.size+1+1,0,none⟩) (by simp;omega) _⟩
     ·
      have d1:decide (ay≤a1_1)=true:=decide_eq_true (by omega);have d2:decide (a1_1<by_)=true:=decide_eq_true (by omega);have d3:decide (by_≤a1_1)=false:=decide_eq_false (by omega);have d4:decide (a1_1<ay)=false:=decide_eq_false (by omega);have d5:decide (0<t)=false:=decide_eq_false (by omega);have d5':decide (0<cz)=false:=decide_eq_false (by omega);have hcv:crsI sx (a1_0,a1_1)=false:=by rw [hC,d1,d2,d3,d4,d5'];simp
      clear hC
      gi_wp2_with (first
       | (refine⟨trivial,?_⟩;gi_at_call 115;refine (CallsIn.inRound l (callsIn_wide.2 (impl_SegHas.calls 2 _ _ _ _ _ _ false _ HH))).mono ?_;rintro e w1 ⟨rfl,hb⟩;have dP0:=later _ hb _ _ cP0;have dP1:=later _ hb _ _ cP1;have dX0:=later _ hb _ _ cX0;have dX1:=later _ hb _ _ cX1;have dX2:=later _ hb _ _ cX2;have dX3:=later _ hb _ _ cX3)
       | (refine⟨trivial,?_⟩;gi_at_call 116;refine (CallsIn.inRound l (callsIn_wide.2 (impl_SegTurn.calls 2 _ _ _ _ _ _ t _ HT))).mono ?_;rintro e w2 ⟨rfl,hb2⟩;have cI1:=(box_later (box_later bI1 hb) hb2).cell;have fI1:=(box_later (box_later bI1 hb) hb2).frozen))
      have HV:inRun (preE l0 (pre++[x])) (a1_0,a1_1)=v:=by rw [HX.out,hcv];rfl
      exact⟨keeps_below (below_step_ hb hb2),KpE.below (below_step_ hb hb2),⟨⟨⟨fun z hz=>(List.mem_append.1 hz).elim (hq z) (fun e=>by simp at e;subst e;rw [hsp'.out];exact hh),box_later bR1 (below_step_ hb hb2)⟩,by rw [HV];exact box_later bI1 (below_step_ hb hb2)⟩,blk_later bP1 (below_step_ hb hb2)⟩,below_row hB1 (Nat.le_refl _) (below_step_ hb hb2)⟩
    ·
     have d1:decide (ay≤a1_1)=true:=decide_eq_true (by omega);have d2:decide (a1_1<by_)=false:=decide_eq_false (by omega);have d3:decide (by_≤a1_1)=true:=decide_eq_true (by omega);have d4:decide (a1_1<ay)=false:=decide_eq_false (by omega);have hcv:crsI sx (a1_0,a1_1)=false:=by rw [hC,d1,d2,d3,d4];simp
     clear hC
     gi_wp2_with (first
      | (refine⟨trivial,?_⟩;gi_at_call 115;refine (CallsIn.inRound l (callsIn_wide.2 (impl_SegHas.calls 2 _ _ _ _ _ _ false _ HH))).mono ?_;rintro e w1 ⟨rfl,hb⟩;have dP0:=later _ hb _ _ cP0;have dP1:=later _ hb _ _ cP1;have dX0:=later _ hb _ _ cX0;have dX1:=later _ hb _ _ cX1;have dX2:=later _ hb _ _ cX2;have dX3:=later _ hb _ _ cX3)
      | (refine⟨trivial,?_⟩;gi_at_call 116;refine (CallsIn.inRound l (callsIn_wide.2 (impl_SegTurn.calls 2 _ _ _ _ _ _ t _ HT))).mono ?_;rintro e w2 ⟨rfl,hb2⟩;have cI1:=(box_later (box_later bI1 hb) hb2).cell;have fI1:=(box_later (box_later bI1 hb) hb2).frozen))
     have HV:inRun (preE l0 (pre++[x])) (a1_0,a1_1)=v:=by rw [HX.out,hcv];rfl
     exact⟨keeps_below (below_step_ hb hb2),KpE.below (below_step_ hb hb2),⟨⟨⟨fun z hz=>(List.mem_append.1 hz).elim (hq z) (fun e=>by simp at e;subst e;rw [hsp'.out];exact hh),box_later bR1 (below_step_ hb hb2)⟩,by rw [HV];exact box_later bI1 (below_step_ hb hb2)⟩,blk_later bP1 (below_step_ hb hb2)⟩,below_row hB1 (Nat.le_refl _) (below_step_ hb hb2)⟩
   ·
    by_cases u2:a1_1<by_
    ·
     have d1:decide (ay≤a1_1)=false:=decide_eq_false (by omega);have d2:decide (a1_1<by_)=true:=decide_eq_true (by omega);have d3:decide (by_≤a1_1)=false:=decide_eq_false (by omega);have d4:decide (a1_1<ay)=true:=decide_eq_true (by omega);have hcv:crsI sx (a1_0,a1_1)=false:=by rw [hC,d1,d2,d3,d4];simp
     clear hC
     gi_wp2_with (first
      | (refine⟨trivial,?_⟩;gi_at_call 115;refine (CallsIn.inRound l (callsIn_wide.2 (impl_SegHas.calls 2 _ _ _ _ _ _ false _ HH))).mono ?_;rintro e w1 ⟨rfl,hb⟩;have dP0:=later _ hb _ _ cP0;have dP1:=later _ hb _ _ cP1;have dX0:=later _ hb _ _ cX0;have dX1:=later _ hb _ _ cX1;have dX2:=later _ hb _ _ cX2;have dX3:=later _ hb _ _ cX3)
      | (refine⟨trivial,?_⟩;gi_at_call 116;refine (CallsIn.inRound l (callsIn_wide.2 (impl_SegTurn.calls 2 _ _ _ _ _ _ t _ HT))).mono ?_;rintro e w2 ⟨rfl,hb2⟩;have cI1:=(box_later (box_later bI1 hb) hb2).cell;have fI1:=(box_later (box_later bI1 hb) hb2).frozen))
     have HV:inRun (preE l0 (pre++[x])) (a1_0,a1_1)=v:=by rw [HX.out,hcv];rfl
     exact⟨keeps_below (below_step_ hb hb2),KpE.below (below_step_ hb hb2),⟨⟨⟨fun z hz=>(List.mem_append.1 hz).elim (hq z) (fun e=>by simp at e;subst e;rw [hsp'.out];exact hh),box_later bR1 (below_step_ hb hb2)⟩,by rw [HV];exact box_later bI1 (below_step_ hb hb2)⟩,blk_later bP1 (below_step_ hb hb2)⟩,below_row hB1 (Nat.le_refl _) (below_step_ hb hb2)⟩
    ·
     by_cases u5:t<0
     ·
      have d1:decide (ay≤a1_1)=false:=decide_eq_false (by omega);have d2:decide (a1_1<by_)=false:=decide_eq_false (by omega);have d3:decide (by_≤a1_1)=true:=decide_eq_true (by omega);have d4:decide (a1_1<ay)=true:=decide_eq_true (by omega);have d6:decide (t<0)=true:=decide_eq_true (by omega);have d6':decide (cz<0)=true:=decide_eq_true (by omega);have hcv:crsI sx (a1_0,a1_1)=true:=by rw [hC,d1,d2,d3,d4,d6'];simp
      clear hC
      gi_wp2_with (first
       | (refine⟨trivial,?_⟩;gi_at_call 115;refine (CallsIn.inRound l (callsIn_wide.2 (impl_SegHas.calls 2 _ _ _ _ _ _ false _ HH))).mono ?_;rintro e w1 ⟨rfl,hb⟩;have dP0:=later _ hb _ _ cP0;have dP1:=later _ hb _ _ cP1;have dX0:=later _ hb _ _ cX0;have dX1:=later _ hb _ _ cX1;have dX2:=later _ hb _ _ cX2;have dX3:=later _ hb _ _ cX3)
       | (refine⟨trivial,?_⟩;gi_at_call 116;refine (CallsIn.inRound l (callsIn_wide.2 (impl_SegTurn.calls 2 _ _ _ _ _ _ t _ HT))).mono ?_;rintro e w2 ⟨rfl,hb2⟩;have cI1:=(box_later (box_later bI1 hb) hb2).cell;have fI1:=(box_later (box_later bI1 hb) hb2).frozen))
      have HV:inRun (preE l0 (pre++[x])) (a1_0,a1_1) = -v:=by rw [HX.out,hcv];rfl
      exact⟨(keeps_below (below_step_ hb hb2)).trans ((KeepsOthers.setCell _ _ _).from _),(KpE.below (below_step_ hb hb2)).trans (KpE.set _ (by simp;omega) (by simp) _),⟨⟨⟨fun z hz=>(List.mem_append.1 hz).elim (hq z) (fun e=>by simp at e;subst e;rw [hsp'.out];exact hh),box_other (box_later bR1 (below_step_ hb hb2)) (by omega) _⟩,by rw [HV];exact (box_later bI1 (below_step_ hb hb2)).set _⟩,blk_other (blk_later bP1 (below_step_ hb hb2)) (by omega) _⟩,(below_row hB1 (Nat.le_refl _) (below_step_ hb hb2)).setCell (p:=⟨w.heap.size+1+1,0,none⟩) (by simp;omega) _⟩
     ·
      have d1:decide (ay≤a1_1)=false:=decide_eq_false (by omega);have d2:decide (a1_1<by_)=false:=decide_eq_false (by omega);have d3:decide (by_≤a1_1)=true:=decide_eq_true (by omega);have d4:decide (a1_1<ay)=true:=decide_eq_true (by omega);have d6:decide (t<0)=false:=decide_eq_false (by omega);have d6':decide (cz<0)=false:=decide_eq_false (by omega);have hcv:crsI sx (a1_0,a1_1)=false:=by rw [hC,d1,d2,d3,d4,d6'];simp
      clear hC
      gi_wp2_with (first
       | (refine⟨trivial,?_⟩;gi_at_call 115;refine (CallsIn.inRound l (callsIn_wide.2 (impl_SegHas.calls 2 _ _ _ _ _ _ false _ HH))).mono ?_;rintro e w1 ⟨rfl,hb⟩;have dP0:=later _ hb _ _ cP0;have dP1:=later _ hb _ _ cP1;have dX0:=later _ hb _ _ cX0;have dX1:=later _ hb _ _ cX1;have dX2:=later _ hb _ _ cX2;have dX3:=later _ hb _ _ cX3)
       | (refine⟨trivial,?_⟩;gi_at_call 116;refine (CallsIn.inRound l (callsIn_wide.2 (impl_SegTurn.calls 2 _ _ _ _ _ _ t _ HT))).mono ?_;rintro e w2 ⟨rfl,hb2⟩;have cI1:=(box_later (box_later bI1 hb) hb2).cell;have fI1:=(box_later (box_later bI1 hb) hb2).frozen))
      have HV:inRun (preE l0 (pre++[x])) (a1_0,a1_1)=v:=by rw [HX.out,hcv];rfl
      exact⟨keeps_below (below_step_ hb hb2),KpE.below (below_step_ hb hb2),⟨⟨⟨fun z hz=>(List.mem_append.1 hz).elim (hq z) (fun e=>by simp at e;subst e;rw [hsp'.out];exact hh),box_later bR1 (below_step_ hb hb2)⟩,by rw [HV];exact box_later bI1 (below_step_ hb hb2)⟩,blk_later bP1 (below_step_ hb hb2)⟩,below_row hB1 (Nat.le_refl _) (below_step_ hb hb2)⟩
 case stop =>
  rintro D c pre W hD _ ⟨⟨⟨rfl,x,hs⟩,bR1⟩,hB1⟩ hK;obtain rfl:r=0:=by rw [← HR.out];exact Mort.inOf_on (hmem x) hs
  gi_wp2;have hD1:∀ E∈[D],W.heap[E]?=some (.deferred (some [])):=by simpa using hK
  refine leavesM_marks [D] W (by simp) hD1 (fun w' h1 h2 h3 h4 h5=>?_);have hc5:=(marks_boxed bR1 hD1 h1).cell;refine⟨.int .i64 0,?_,rfl,marks_below hB1 (by simp;omega) h1 h2 h3 h4 h5⟩;simp [results,Tryd.f97,go_sem,hc5]
 case done =>
  rintro D ys W hD rfl ⟨⟨⟨⟨hq,bR1⟩,bI1⟩,bP1⟩,hB1⟩ hK;have hV:inRun (preE l0 (List.finRange l0.length)) (a1_0,a1_1)=r:=by
   rw [preE_all,Mort.inRun_end,HR.out];intro e he;obtain⟨i,hi,rfl⟩:=Mort.mem_edges.1 he;rw [ed_edS];exact hq ⟨i,by simpa using hi⟩ (List.mem_finRange _)
  rw [hV] at bI1;clear hV;have cI:=bI1.cell;have cR:=bR1.cell;have fR:=bR1.frozen;gi_wp2;have hD1:∀ E∈[D],(W.setCell ⟨w.heap.size+1,0,none⟩ (.int .i64 r)).heap[E]?=some (.deferred (some [])):=by
   intro E hE;simp at hE;subst hE;exact blk_set hK rfl bR1 _
  refine leavesM_marks [D] _ (by simp) hD1 (fun w' h1 h2 h3 h4 h5=>?_);have hc5:=(marks_boxed (bR1.set (.int .i64 r)) hD1 h1).cell;refine⟨.int .i64 r,?_,rfl,marks_below (hB1.setCell (p:=⟨w.heap.size+1,0,none⟩) (by simp) _) (by simp;omega) h1 h2 h3 h4 h5⟩;simp [results,Tryd.f97,go_sem,hc5]
end Go.Proofs.YtkefmnmoaomlhaaDoor.X
end
section
set_option linter.unusedVariables false
set_option linter.unusedSimpArgs false
namespace Go.Proofs.YtkefmnmoaomlhaaDoor.X
open Go.RowKit Go.Shelf Go.Proofs.YtkefmnmoaomlhaaDoorW.PrintWords Go.Proofs.YtkefmnmoaomlhaaDoorW.PrintLast Go.Proofs.YtkefmnmoaomlhaaDoorW.PrintMore
open Mort (edges segMeet loopOk ptOk inOf)
def RingsAt (W:World):Option Addr→List (List S28)→Prop
 | p,[]=>p=none
 | p,zs::rest=>∃ b A c nx,p=some ⟨b,0,none⟩∧RingAt W b A c zs nx∧RingsAt W nx rest
theorem RingsAt.later {W W':World}(hb:Below W.heap.size W W'):∀ {p:Option Addr} {R:List (List S28)},RingsAt W p R→RingsAt W' p R
 | _,[],h=>h
 | _,_::_,⟨b,A,c,nx,e,h,k⟩=>⟨b,A,c,nx,e,h.later hb,RingsAt.later hb k⟩
def Small (R:List (List S28)):Prop:=∀ z∈R,0<z.length∧z.length≤8
def apartAll:List (List S28)→Bool
 | []=>true
 | z::rest=>(rest.all fun y => !meetsB z y) && apartAll rest
set_option maxHeartbeats 4000000 in
set_option maxRecDepth 100000 in
theorem apart_calls (b:Nat)(R:List (List S28))(r:Bool)(w:World)(hR:RingsAt w (some ⟨b,0,none⟩) R)(hS:Small R)(h:apartAll R=r):
  Calls Tryd.prog 94 #[.pointer (some ⟨b,0,none⟩)] w fun e w'=>e=.returned (.bool r)∧Below w.heap.size w w':=by
 have HR:=Aside0.mk h;clear h;go_enter Tryd.func94,Tryd.ntmps94;go_wp2;go_loopg [3] R.length (fun kq v3 wr=>∃ (p:Option Addr) (rest:List (List S28)),v3=.pointer p∧Aside0 (kq=rest.length∧RingsAt wr p rest∧Small rest∧apartAll rest=r∧Below w.heap.size w wr))
 case atStart=>exact⟨_,R,rfl,⟨rfl,hR,hS,HR.out,Below.refl _ _⟩⟩
 case round =>
  obtain⟨p,rest,rfl,H⟩:=hrel;obtain⟨hk,hr,hs,ha,hB⟩:=H.out;clear H
  cases rest with
  | nil =>
   obtain rfl:p=none:=hr;obtain rfl:true=r:=ha;clear HR;have HB:=Aside0.mk hB;clear hB hk;go_wp2;go_ret;exact⟨rfl,HB.out⟩
  | cons z rest =>
   obtain⟨b1,A1,c1,n1,rfl,hz,hrest⟩:=hr;have hn:=hz.nxt;have HZ:=a0_ (And.intro hz (And.intro hrest (And.intro hs (And.intro ha (And.intro hB hk)))));clear hz hrest hs ha hB hk HR;go_wp2;go_loopg [4] rest.length (fun kq v4 w2=>∃ (q:Option Addr) (rest2:List (List S28)),v4=.pointer q∧Aside0 (kq=rest2.length∧RingsAt w2 q rest2∧Small rest2∧((rest2.all fun y => !meetsB z y) && apartAll rest)=r∧RingAt w2 b1 A1 c1 z n1∧RingsAt w2 n1 rest∧Below w.heap.size w w2))
   case atStart =>
    obtain⟨hz,hrest,hs,ha,hB,hk⟩:=HZ.out;exact⟨n1,rest,rfl,⟨rfl,hrest,fun y hy=>hs y (List.mem_cons_of_mem _ hy),ha,hz,hrest,hB⟩⟩
   case round =>
    obtain⟨q,rest2,rfl,H⟩:=hrel;obtain⟨hk2,hr2,hs2,ha2,hz2,hrest2,hB2⟩:=H.out;clear H hn
    cases rest2 with
    | nil =>
     obtain rfl:q=none:=hr2;simp only [List.all_nil,Bool.true_and] at ha2;have hn2:=hz2.nxt;obtain⟨_,_,hs,_,_,hk⟩:=HZ.out;have HZ2:=a0_ (And.intro hrest2 (And.intro (show Small rest from fun y hy=>hs y (List.mem_cons_of_mem _ hy)) (And.intro ha2 (And.intro hB2 hk))));clear hz2 hrest2 ha2 hB2 hk2 hs2 hs hk HZ;go_wp2;obtain⟨h1,h2,h3,h4,h5⟩:=HZ2.out;go_roundg rest.length
     case measure=>rw [h5];simp
     case rel=>exact⟨n1,rest,rfl,⟨rfl,h1,h2,h3,h4⟩⟩
    | cons y rest2 =>
     obtain⟨b2,A2,c2,n2,rfl,hy,hrr⟩:=hr2;obtain⟨_,_,hs,_,_,_⟩:=HZ.out;have hsz:=hs z List.mem_cons_self;have hsy:=hs2 y List.mem_cons_self;have hny:=hy.nxt
     cases hm:meetsB z y with
     | true =>
      obtain rfl:false=r:=by rw [← ha2];simp [hm]
      have HK:=a0_ (And.intro hz2 (And.intro hy (And.intro hsz (And.intro hsy (And.intro hm hB2)))));clear hz2 hy hsz hsy hm hB2 hk2 hs2 ha2 hrest2 hrr hs HZ;go_wp2_with (go_at_call 113;refine (meets_calls b1 b2 A1 A2 n1 n2 c1 c2 z y true _ HK.out.1 HK.out.2.1 HK.out.2.2.1 HK.out.2.2.2.1 HK.out.2.2.2.2.1).mono ?_;rintro e w3 ⟨rfl,hb⟩);go_ret;exact⟨rfl,below_step HK.out.2.2.2.2.2 hb⟩
     | false =>
      have ha3:((rest2.all fun y => !meetsB z y) && apartAll rest)=r:=by rw [← ha2];simp [hm]
      have HK:=a0_ (And.intro hz2 (And.intro hy (And.intro hsz (And.intro hsy (And.intro hm (And.intro hB2 (And.intro hrr (And.intro (show Small rest2 from fun u hu=>hs2 u (List.mem_cons_of_mem _ hu)) (And.intro ha3 (And.intro hrest2 hk2))))))))));clear hz2 hy hsz hsy hm hB2 hk2 hs2 ha2 ha3 hrest2 hrr hs;go_wp2_with (go_at_call 113;refine (meets_calls b1 b2 A1 A2 n1 n2 c1 c2 z y false _ HK.out.1 HK.out.2.1 HK.out.2.2.1 HK.out.2.2.2.1 HK.out.2.2.2.2.1).mono ?_;rintro e w3 ⟨rfl,hb⟩;have hny3:=pw_cell_below hb hny);obtain⟨k1,k2,k3,k4,k5,k6,k7,k8,k9,k10,k11⟩:=HK.out;go_roundg rest2.length
      case measure=>rw [k11];simp
      case rel=>exact⟨n2,rest2,rfl,⟨rfl,k7.later hb,k8,k9,k1.later hb,k10.later hb,below_step k6 hb⟩⟩
def ptrAt (bs:List Nat)(i:Nat):Option Addr:=(bs[i]?).map fun b=>(⟨b,0,none⟩:Addr)
structure RingsIx (W:World) (bs:List Nat) (H:List (List S28)):Prop where
 len:bs.length=H.length
 nd:bs.Nodup
 ring:∀ i,i<H.length→∃ A c,RingAt W (bs.getD i 0) A c (H.getD i []) (ptrAt bs (i+1))∧W.heap[bs.getD i 0]?=some (.cells #[.slice A (H.getD i []).length c,.pointer (ptrAt bs (i+1))] 107 (0,0))
theorem RingsIx.later {W W':World}{bs:List Nat}{H:List (List S28)}(h:RingsIx W bs H)(hb:Below W.heap.size W W'):RingsIx W' bs H:=
 ⟨h.len,h.nd,fun i hi=>by obtain⟨A,c,k,o⟩:=h.ring i hi;exact⟨A,c,k.later hb,blk_later o hb⟩⟩
theorem ptrAt_some {bs:List Nat}{i:Nat}(h:i<bs.length):ptrAt bs i=some ⟨bs.getD i 0,0,none⟩:=by
 unfold ptrAt;rw [List.getD_eq_getElem?_getD,List.getElem?_eq_getElem h];rfl
theorem ptrAt_none {bs:List Nat}{i:Nat}(h:bs.length≤i):ptrAt bs i=none:=by
 unfold ptrAt;rw [List.getElem?_eq_none h];rfl
theorem RingsIx.at {W:World}{bs:List Nat}{H:List (List S28)}(h:RingsIx W bs H):∀ (n k:Nat),H.length-k=n→RingsAt W (ptrAt bs k) (H.drop k):=by
 intro n
 induction n with
 | zero =>
  intro k hk;have hl:=h.len;rw [List.drop_of_length_le (by omega),ptrAt_none (by omega)];rfl
 | succ n ih =>
  intro k hk;have hl:=h.len;have hlt:k<H.length:=by omega
  rw [ptrAt_some (by omega),List.drop_eq_getElem_cons hlt];obtain⟨A,c,hr,_⟩:=h.ring k hlt;have e:H.getD k []=H[k]:=by rw [List.getD_eq_getElem?_getD,List.getElem?_eq_getElem hlt];rfl
  rw [e] at hr;exact⟨_,A,c,_,rfl,hr,ih (k+1) (by omega)⟩
theorem infoRing:(Tryd.prog.info? 107).map (fun i=>(i.zero,i.size,i.bytes))=some (some (.agg #[.slice none 0 0,.pointer none]),2,32):=by kernel_rfl
theorem neq_same (w:World)(a:Addr):(binOp .neq 105 (.pointer (some a)) (.pointer (some a))).run Tryd.prog w=.ok (.bool false) w:=by
 obtain⟨i0,hi,hz0,hz1,hz2⟩:=info_parts infoRing;have h:∀ d:Nat,(Op.equalIn (d+1) 105 (.pointer (some a)) (.pointer (some a))).run Tryd.prog w=.ok true w:=fun d=>by
  simp [Op.equalIn,run_underlying Tryd.underlying105,sizeOf,typeInfo,hi,run_sameAddr_same]
 simp only [binOp];simp [Op.equal,Op.maxDepth,h 9999]
theorem neq_other (w:World){a b:Nat}{ca cb:Array Value}{ta tb:TypeId}(hne:a≠b)(ha:w.heap[a]?=some (.cells ca ta (0,0)))(hb:w.heap[b]?=some (.cells cb tb (0,0))):
  (binOp .neq 105 (.pointer (some ⟨a,0,none⟩)) (.pointer (some ⟨b,0,none⟩))).run Tryd.prog w=.ok (.bool true) w:=by
 obtain⟨i0,hi,hz0,hz1,hz2⟩:=info_parts infoRing;have h:∀ d:Nat,(Op.equalIn (d+1) 105 (.pointer (some ⟨a,0,none⟩)) (.pointer (some ⟨b,0,none⟩))).run Tryd.prog w=.ok false w:=fun d=>by
  have hs:=run_sameAddr_other (P:=Tryd.prog) w (a:=⟨a,0,none⟩) (b:=⟨b,0,none⟩) (by simpa using hne) ha hb;simp [Op.equalIn,run_underlying Tryd.underlying105,sizeOf,typeInfo,hi,hz1,hs]
 simp only [binOp];simp [Op.equal,Op.maxDepth,h 9999]
structure BodyAt (W:World) (b:Nat) (bs:List Nat) (o:List S28) (H:List (List S28)):Prop where
 outer:∃ A c,RingAt W b A c o (ptrAt bs 0)
 holes:RingsIx W bs H
theorem BodyAt.later {W W':World}{b:Nat}{bs:List Nat}{o:List S28}{H:List (List S28)}(h:BodyAt W b bs o H)(hb:Below W.heap.size W W'):BodyAt W' b bs o H:=
 ⟨by obtain⟨A,c,k⟩:=h.outer;exact⟨A,c,k.later hb⟩,h.holes.later hb⟩
theorem BodyAt.rings {W:World}{b:Nat}{bs:List Nat}{o:List S28}{H:List (List S28)}(h:BodyAt W b bs o H):RingsAt W (some ⟨b,0,none⟩) (o::H):=by
 obtain⟨A,c,k⟩:=h.outer;have:=h.holes.at _ 0 rfl;rw [List.drop_zero] at this;exact⟨b,A,c,_,rfl,k,this⟩
def fstP (z:List S28):Mort.Pt:=ptP (z.getD 0 z28)
def inS (z:List S28)(p:Mort.Pt):Int:=inOf (z.map ptP) p
def okN (H:List (List S28))(i j:Nat):Bool:=i==j || inS (H.getD j []) (fstP (H.getD i [])) == -1
def rowN (o:List S28)(H:List (List S28))(i:Nat):Bool:=inS o (fstP (H.getD i []))==1 && (List.range' 0 H.length).all (okN H i)
def nestedAll (o:List S28)(H:List (List S28)):Bool:=(List.range' 0 H.length).all (rowN o H)
theorem inside_told (b:Nat)(A nx:Option Addr)(c:Nat)(z:List S28)(x y:Int)(w:World)(h:RingAt w b A c z nx)(hz:loopOk (z.map ptP)=true)(hp:ptOk (x,y)=true):
  Calls Tryd.prog 97 #[.slice A z.length c,.agg #[.int .i64 x,.int .i64 y]] w fun e w'=>e=.returned (.int .i64 (inS z (x,y)))∧Below w.heap.size w w':=
 impl_insideOf.calls A c z x y _ w h.row h.cap (by unfold impl_insideOf.f;rw [if_pos ⟨hz,hp⟩];rfl)
set_option maxHeartbeats 4000000 in
set_option maxRecDepth 100000 in
theorem nested_calls (b:Nat)(bs:List Nat)(o:List S28)(H:List (List S28))(r:Bool)(w:World)(hB:BodyAt w b bs o H)(ho:loopOk (o.map ptP)=true)(hH:∀ z∈H,loopOk (z.map ptP)=true)(h:nestedAll o H=r):
  Calls Tryd.prog 95 #[.pointer (some ⟨b,0,none⟩)] w fun e w'=>e=.returned (.bool r)∧Below w.heap.size w w':=by
 have hh:∀ i,i<H.length→loopOk ((H.getD i []).map ptP)=true:=fun i hi=>by
  rw [List.getD_eq_getElem?_getD,List.getElem?_eq_getElem hi];exact hH _ (List.getElem_mem hi)
 have hpos:∀ i,i<H.length→0<(H.getD i []).length:=fun i hi=>by have:=Mort.loop_pos (hh i hi);simpa using this
 have hfst:∀ i,i<H.length→ptOk (fstP (H.getD i []))=true:=fun i hi=>by
  have h1:=((Mort.loopOk_iff _).1 (hh i hi)).2.2.1;have h2:=(Mort.segOk_iff _).1 (h1 _ (Mort.mem_edges.2 ⟨0,by have:=hpos i hi;simpa using this,rfl⟩));rw [ed_edS] at h2;exact h2.1
 clear hH;have hu28:=Tryd.underlying28;have HR:=Aside0.mk h;have HB0:=Aside0.mk hB;obtain⟨A0,c0,hout⟩:=hB.outer;have hn0:=hout.nxt;have hlen:=hB.holes.len;have HH:=a0_ (And.intro ho (And.intro hh (And.intro hpos (And.intro hfst hlen))));clear h hB hout ho hh hpos hfst hlen;go_enter Tryd.func95,Tryd.ntmps95;go_wp2;go_loopg [3] H.length (fun kq v3 wr=>∃ i:Nat,v3=.pointer (ptrAt bs i)∧Aside0 (kq=H.length-i∧i≤H.length∧BodyAt wr b bs o H∧(List.range' i (H.length-i)).all (rowN o H)=r∧Below w.heap.size w wr))
 case atStart=>exact⟨0,rfl,⟨rfl,Nat.zero_le _,HB0.out,HR.out,Below.refl _ _⟩⟩
 case round =>
  obtain⟨i,rfl,H1⟩:=hrel;obtain⟨hk,hi,hB,ha,hBw⟩:=H1.out;obtain⟨ho,hh,hpos,hfst,hlen⟩:=HH.out;clear H1 hn0;by_cases hlt:i<H.length
  ·
   obtain⟨A1,c1,hring,_⟩:=hB.holes.ring i hlt;obtain⟨A2,c2,hout⟩:=hB.outer;have hpi:=ptrAt_some (bs:=bs) (i:=i) (by omega);obtain⟨ad,hA1,hx0,hx1⟩:=at_pt hring.row 0 (hpos i hlt);have hpts:=hring.pts;have hl0:0<(H.getD i []).length:=hpos i hlt;rw [hpi];subst hA1;have p0:wr.cell? ad=some (.int .i64 ((H.getD i []).getD 0 z28).f0):=by have:=hx0;rwa [Nat.zero_mul,show ad.add 0=ad from rfl] at this
   have p1:wr.cell? ⟨ad.block,ad.off+1,none⟩=some (.int .i64 ((H.getD i []).getD 0 z28).f1):=by have:=hx1;rwa [Nat.zero_mul,show ad.add 0=ad from rfl] at this
   clear hx0 hx1;have hf0:ptOk (((H.getD i []).getD 0 z28).f0,((H.getD i []).getD 0 z28).f1)=true:=hfst i hlt;have hF:=a0_ (show fstP (H.getD i [])=(((H.getD i []).getD 0 z28).f0,((H.getD i []).getD 0 z28).f1) from rfl);generalize ((H.getD i []).getD 0 z28).f0=fx at *;generalize ((H.getD i []).getD 0 z28).f1=fy at *;have HK:=a0_ (And.intro hB (And.intro ha (And.intro hBw (And.intro hk (And.intro hring (And.intro hout (And.intro hf0 (And.intro hh ho))))))));have lo:=hout.pts;have bi1:=hring.pts;have bi2:=hring.nxt;clear hB ha hBw hk hring hout hpos hfst hlen hi hpi hf0 hh ho HB0 HR;generalize (H.getD i []).length=lz at *;generalize hbi:bs.getD i 0=bi at *;have hbi':=Aside0.mk hbi;clear hbi;go_wp2;have lo1:=pw_cell_below (below_drew1 (below_alloc (Below.refl _ wr) (.cells #[.int .i64 fx,.int .i64 fy] 28))) lo;have hb0:=below_drew1 (below_alloc (Below.refl wr.heap.size wr) (.cells #[.int .i64 fx,.int .i64 fy] 28));have nb:=World.alloc_heap_new wr (.cells #[.int .i64 fx,.int .i64 fy] 28 (0,0));have f0:((wr.alloc (.cells #[.int .i64 fx,.int .i64 fy] 28)).drew).cell? ⟨wr.heap.size,0,none⟩=some (.int .i64 fx):=(blk_cell nb 0).trans rfl;have f1:((wr.alloc (.cells #[.int .i64 fx,.int .i64 fy] 28)).drew).cell? ⟨wr.heap.size,1,none⟩=some (.int .i64 fy):=(blk_cell nb 1).trans rfl;generalize hg:wr.heap.size=g at *;go_region_held3 (fun W=>W.cell? ⟨b,0,none⟩=some (.slice A2 o.length c2)∧W.cell? ⟨g,0,none⟩=some (.int .i64 fx)∧W.cell? ⟨g,1,none⟩=some (.int .i64 fy))
    (first | exact⟨pw_cell_below hb lo1,pw_cell_below hb f0,pw_cell_below hb f1⟩ | go_keep)
    (first | (go_at_call 97;refine (inside_told b A2 _ c2 o fx fy _ (HK.out.2.2.2.2.2.1.later (hg▸hb0)) HK.out.2.2.2.2.2.2.2.2 HK.out.2.2.2.2.2.2.1).mono ?_;rintro e w3 ⟨rfl,hb⟩))
   have hBd:=HK.out.1.later (hg▸hb0);have hBd3:=hBd.later hb;have hw3:Below w.heap.size w w3:=below_step (below_step HK.out.2.2.1 (hg▸hb0)) hb;have nb3:w3.heap[g]?=some (.cells #[.int .i64 fx,.int .i64 fy] 28 (0,0)):=(hb.block g (Array.getElem?_eq_some_iff.1 nb).1).trans nb;have hall:=HK.out.2.1;obtain⟨m,hm⟩:∃ m,H.length-i=m+1:=⟨H.length-i-1,by omega⟩;rw [hm,List.range'_succ,List.all_cons] at hall;have hrow:rowN o H i=(inS o (fx,fy)==1 && (List.range' 0 H.length).all (okN H i)):=by unfold rowN;rw [hF.out]
   rw [hrow] at hall;have HL:=a0_ (And.intro hall (And.intro hm (And.intro hBd3 (And.intro hw3 (And.intro nb3 HK.out.2.2.2.1)))));have hG:=Aside0.mk hg;clear hall hm hrow hBd hBd3 hw3 nb3 nb hb0 hb lo lo1 f0 f1 bi1 bi2 p0 p1 hg hu28
   cases hin:(inS o (fx,fy)==1) with
   | false =>
    have e1:(inS o (fx,fy) != 1)=true:=by rw [bne,hin];rfl
    obtain rfl:false=r:=by rw [← HL.out.1,hin];rfl
    clear hin;go_wp2;go_ret;exact⟨rfl,HL.out.2.2.2.1⟩
   | true =>
    have e1:(inS o (fx,fy) != 1)=false:=by rw [bne,hin];rfl
    have hall2:((List.range' 0 H.length).all (okN H i) && (List.range' (i+1) m).all (rowN o H))=r:=by rw [← HL.out.1,hin];rfl
    have HA:=Aside0.mk hall2;clear hin hall2;generalize (inS o (fx,fy) != 1)=t30 at e1 ⊢
    subst e1;obtain⟨A3,c3,hout3⟩:=HL.out.2.2.1.outer;have lo2:=hout3.nxt;clear hout3;go_wp2;clear lo2;go_loopg [5] H.length (fun kq v5 w4=>∃ j:Nat,v5=.pointer (ptrAt bs j)∧Aside0 (kq=H.length-j∧j≤H.length∧BodyAt w4 b bs o H∧w4.heap[g]?=some (.cells #[.int .i64 fx,.int .i64 fy] 28 (0,0))∧((List.range' j (H.length-j)).all (okN H i) && (List.range' (i+1) m).all (rowN o H))=r∧Below w.heap.size w w4))
    case atStart=>exact⟨0,rfl,⟨rfl,Nat.zero_le _,HL.out.2.2.1,HL.out.2.2.2.2.1,HA.out,HL.out.2.2.2.1⟩⟩
    case round =>
     obtain⟨j,rfl,H2⟩:=hrel;obtain⟨hkj,hj,hBj,hgj,haj,hwj⟩:=H2.out;have HKJ:=Aside0.mk hkj;clear H2;by_cases hjlt:j<H.length
     ·
      obtain⟨A4,c4,hringj,hoj⟩:=hBj.holes.ring j hjlt;have hl:=hBj.holes.len;have hpj:=ptrAt_some (bs:=bs) (i:=j) (by omega);rw [hpj];obtain⟨m2,hm2⟩:∃ m2,H.length-j=m2+1:=⟨H.length-j-1,by omega⟩;rw [hm2,List.range'_succ,List.all_cons] at haj;by_cases hij:j=i
      ·
       subst hij;rw [hbi'.out];rw [hbi'.out] at hringj;have bj2:=hringj.nxt;have haj2:((List.range' (j+1) m2).all (okN H j) && (List.range' (j+1) m).all (rowN o H))=r:=by rw [← haj];simp [okN]
       have HJ:=a0_ (And.intro haj2 (And.intro hBj (And.intro hgj (And.intro hwj (And.intro hm2 hjlt)))));clear haj haj2 hBj hgj hwj hm2 hjlt hringj hl hpj hkj hj;have hsame:=neq_same;go_wp2;have bj3:wr.drew.cell? ⟨bi,1,none⟩=some (.pointer (ptrAt bs (j+1))):=bj2;go_region;go_wp2;obtain⟨k1,k2,k3,k4,k5,k6⟩:=HJ.out;have hdr:=below_drew1 (Below.refl wr.heap.size wr);go_roundg m2
       case measure=>have:=HKJ.out;omega
       case rel=>exact⟨j+1,rfl,⟨by omega,by omega,k2.later hdr,k3,by rw [show H.length-(j+1)=m2 by omega];exact k1,below_step k4 hdr⟩⟩
      ·
       obtain⟨A5,c5,hringi,hoi⟩:=hBj.holes.ring i hlt;rw [hbi'.out] at hoi;have hbij:bs.getD j 0≠bi:=by
        rw [← hbi'.out,List.getD_eq_getElem?_getD,List.getD_eq_getElem?_getD,List.getElem?_eq_getElem (by omega:j<bs.length),List.getElem?_eq_getElem (by omega:i<bs.length)];intro e;exact hij ((List.getElem_inj hBj.holes.nd).1 (by simpa using e))
       generalize hbj:bs.getD j 0=bj at *;have hbj':=Aside0.mk hbj;clear hbj;have bj1:=hringj.pts;have bj2:=hringj.nxt;have hneq:∀ W:World,W.heap[bj]?=some (.cells #[.slice A4 (H.getD j []).length c4,.pointer (ptrAt bs (j+1))] 107 (0,0))→W.heap[bi]?=some (.cells #[.slice A5 (H.getD i []).length c5,.pointer (ptrAt bs (i+1))] 107 (0,0)) →
         (binOp .neq 105 (.pointer (some ⟨bj,0,none⟩)) (.pointer (some ⟨bi,0,none⟩))).run Tryd.prog W=.ok (.bool true) W:=fun W h1 h2=>neq_other W hbij h1 h2
       have hin2:okN H i j=(inS (H.getD j []) (fx,fy) == -1):=by
        unfold okN;rw [hF.out,show (i==j)=false from beq_false_of_ne (Ne.symm hij)];rfl
       rw [hin2] at haj;have hu28:=Tryd.underlying28;have HJ:=a0_ (And.intro haj (And.intro hBj (And.intro hgj (And.intro hwj (And.intro hm2 (And.intro hjlt (And.intro hringj (And.intro (HK.out.2.2.2.2.2.2.2.1 j hjlt) HK.out.2.2.2.2.2.2.1))))))));clear haj hBj hwj hm2 hjlt hringj hl hpj hkj hj hringi hin2;have fb0:wr.drew.cell? ⟨g,0,none⟩=some (.int .i64 fx):=(blk_cell hgj 0).trans rfl;have fb1:wr.drew.cell? ⟨g,1,none⟩=some (.int .i64 fy):=(blk_cell hgj 1).trans rfl;have bj1':wr.drew.cell? ⟨bj,0,none⟩=some (.slice A4 (H.getD j []).length c4):=bj1;have hoj':wr.drew.heap[bj]?=some (.cells #[.slice A4 (H.getD j []).length c4,.pointer (ptrAt bs (j+1))] 107 (0,0)):=hoj;have hoi':wr.drew.heap[bi]?=some (.cells #[.slice A5 (H.getD i []).length c5,.pointer (ptrAt bs (i+1))] 107 (0,0)):=hoi;clear hgj hoj hoi bj1;generalize H.getD j []=zj at *;generalize H.getD i []=zi at *;have bj2':wr.drew.cell? ⟨bj,1,none⟩=some (.pointer (ptrAt bs (j+1))):=bj2;clear bj2
       cases hin:(inS zj (fx,fy) == -1) with
       | false =>
        have e1:(inS zj (fx,fy) != -1)=true:=by rw [bne,hin];rfl
        obtain rfl:false=r:=by rw [← HJ.out.1,hin];rfl
        clear hin;go_wp2;go_region_held3 (fun W=>W.cell? ⟨g,0,none⟩=some (.int .i64 fx)∧W.cell? ⟨g,1,none⟩=some (.int .i64 fy)∧W.cell? ⟨bj,0,none⟩=some (.slice A4 zj.length c4)∧W.heap[bj]?=some (.cells #[.slice A4 zj.length c4,.pointer (ptrAt bs (j+1))] 107 (0,0))∧W.heap[bi]?=some (.cells #[.slice A5 zi.length c5,.pointer (ptrAt bs (i+1))] 107 (0,0)))
         (first | exact⟨pw_cell_below hb fb0,pw_cell_below hb fb1,pw_cell_below hb bj1',blk_later hoj' hb,blk_later hoi' hb⟩ | go_keep)
         (first | (go_at_call 97;refine (inside_told bj A4 _ c4 zj fx fy _ (HJ.out.2.2.2.2.2.2.1.later (below_drew1 (Below.refl wr.heap.size wr))) HJ.out.2.2.2.2.2.2.2.1 HJ.out.2.2.2.2.2.2.2.2).mono ?_;rintro e w5 ⟨rfl,hb⟩;have bj5:=pw_cell_below hb bj2'))
        go_wp2;go_ret;exact⟨rfl,below_step (below_drew1 HJ.out.2.2.2.1) hb⟩
       | true =>
        have e1:(inS zj (fx,fy) != -1)=false:=by rw [bne,hin];rfl
        have haj2:((List.range' (j+1) m2).all (okN H i) && (List.range' (i+1) m).all (rowN o H))=r:=by rw [← HJ.out.1,hin];rfl
        have HA2:=Aside0.mk haj2;clear hin haj2;go_wp2;go_region_held3 (fun W=>W.cell? ⟨g,0,none⟩=some (.int .i64 fx)∧W.cell? ⟨g,1,none⟩=some (.int .i64 fy)∧W.cell? ⟨bj,0,none⟩=some (.slice A4 zj.length c4)∧W.heap[bj]?=some (.cells #[.slice A4 zj.length c4,.pointer (ptrAt bs (j+1))] 107 (0,0))∧W.heap[bi]?=some (.cells #[.slice A5 zi.length c5,.pointer (ptrAt bs (i+1))] 107 (0,0)))
         (first | exact⟨pw_cell_below hb fb0,pw_cell_below hb fb1,pw_cell_below hb bj1',blk_later hoj' hb,blk_later hoi' hb⟩ | go_keep)
         (first | (go_at_call 97;refine (inside_told bj A4 _ c4 zj fx fy _ (HJ.out.2.2.2.2.2.2.1.later (below_drew1 (Below.refl wr.heap.size wr))) HJ.out.2.2.2.2.2.2.2.1 HJ.out.2.2.2.2.2.2.2.2).mono ?_;rintro e w5 ⟨rfl,hb⟩;have bj5:=pw_cell_below hb bj2'))
        go_wp2;obtain⟨k1,k2,k3,k4,k5,k6,_⟩:=HJ.out;have hdr:=below_drew1 (Below.refl wr.heap.size wr);go_roundg m2
        case measure=>have:=HKJ.out;omega
        case rel=>exact⟨j+1,rfl,⟨by omega,by omega,(k2.later hdr).later hb,(hb.block g (Array.getElem?_eq_some_iff.1 k3).1).trans k3,by rw [show H.length-(j+1)=m2 by omega];exact HA2.out,below_step (below_drew1 k4) hb⟩⟩
     ·
      obtain rfl:j=H.length:=by omega
      have hl:=hBj.holes.len;rw [ptrAt_none (by omega)];rw [Nat.sub_self,List.range'_zero,List.all_nil,Bool.true_and] at haj;obtain⟨A6,c6,hring6,_⟩:=hBj.holes.ring i hlt;rw [hbi'.out] at hring6;have bi6:=hring6.nxt;have HJ:=a0_ (And.intro haj (And.intro hBj hwj));clear haj hBj hwj hring6 hl hkj hj hjlt;go_wp2;obtain⟨k1,k2,k3⟩:=HJ.out;go_roundg m
      case measure=>have:=HL.out.2.1;have:=HL.out.2.2.2.2.2;omega
      case rel=>exact⟨i+1,rfl,⟨by have:=HL.out.2.1;omega,by omega,k2,by rw [show H.length-(i+1)=m by have:=HL.out.2.1;omega];exact k1,k3⟩⟩
  ·
   obtain rfl:i=H.length:=by omega
   rw [Nat.sub_self,List.range'_zero,List.all_nil] at ha;obtain rfl:=ha;rw [ptrAt_none (by omega)];have HW:=Aside0.mk hBw;clear hBw hB hk hi hh hpos hfst HB0 HR HH hlt;go_wp2;go_ret;exact⟨rfl,HW.out⟩
def runIn (p:Mort.Pt):Int→List (List S28)→Int
 | x,[]=>x
 | x,z::H=>if inS z p=0 then 0 else runIn p (if inS z p=1 then -1 else x) H
theorem runIn_cons (p:Mort.Pt)(x:Int)(z:List S28)(H:List (List S28)):runIn p x (z::H)=if inS z p=0 then 0 else runIn p (if inS z p=1 then -1 else x) H:=rfl
theorem inside_told2 (b:Nat)(A nx:Option Addr)(c:Nat)(z:List S28)(x y v:Int)(w:World)(h:RingAt w b A c z nx)(hz:loopOk (z.map ptP)=true)(hp:ptOk (x,y)=true)(hv:inS z (x,y)=v):
  Calls Tryd.prog 97 #[.slice A z.length c,.agg #[.int .i64 x,.int .i64 y]] w fun e w'=>e=.returned (.int .i64 v)∧Below w.heap.size w w':=by
 rw [← hv];exact inside_told b A nx c z x y w h hz hp
set_option maxHeartbeats 4000000 in
set_option maxRecDepth 100000 in
theorem in_calls (b:Nat)(o:List S28)(H:List (List S28))(x y r:Int)(w:World)(hB:RingsAt w (some ⟨b,0,none⟩) (o::H))(ho:loopOk (o.map ptP)=true)(hH:∀ z∈H,loopOk (z.map ptP)=true)
  (hp:ptOk (x,y)=true) (h:runIn (x,y) (inS o (x,y)) H=r) :
  Calls Tryd.prog 53 #[.pointer (some ⟨b,0,none⟩),.agg #[.int .i64 x,.int .i64 y]] w fun e w'=>e=.returned (.int .i64 r)∧Below w.heap.size w w':=by
 obtain⟨b',A0,c0,nx,e0,hR,hRest⟩:=hB;obtain rfl:b=b':=by cases e0;rfl
 clear e0;have HK:=a0_ (And.intro hR (And.intro hRest (And.intro ho (And.intro hH (And.intro hp h)))));have bi1:=hR.pts;have bi2:=hR.nxt;clear hR hRest ho hH hp h;generalize hx0:inS o (x,y)=x0 at *;have HX:=Aside0.mk hx0;clear hx0;go_enter Tryd.func53,Tryd.ntmps53;go_wp2;have hb0:=below_drew1 (below_alloc (Below.refl w.heap.size w) (.cells #[.int .i64 x,.int .i64 y] 28));have lo1:=pw_cell_below hb0 bi1;have lo2:=pw_cell_below hb0 bi2;have nb:=World.alloc_heap_new w (.cells #[.int .i64 x,.int .i64 y] 28 (0,0));have f0:((w.alloc (.cells #[.int .i64 x,.int .i64 y] 28)).drew).cell? ⟨w.heap.size,0,none⟩=some (.int .i64 x):=(blk_cell nb 0).trans rfl;have f1:((w.alloc (.cells #[.int .i64 x,.int .i64 y] 28)).drew).cell? ⟨w.heap.size,1,none⟩=some (.int .i64 y):=(blk_cell nb 1).trans rfl;have hu28:=Tryd.underlying28;generalize hg:w.heap.size=g at *;go_region_held3 (fun W=>W.cell? ⟨b,0,none⟩=some (.slice A0 o.length c0)∧W.cell? ⟨g,0,none⟩=some (.int .i64 x)∧W.cell? ⟨g,1,none⟩=some (.int .i64 y))
  (first | exact⟨pw_cell_below hb lo1,pw_cell_below hb f0,pw_cell_below hb f1⟩ | go_keep)
  (first | (go_at_call 97;refine (inside_told2 b A0 _ c0 o x y x0 _ (HK.out.1.later (hg▸hb0)) HK.out.2.2.1 HK.out.2.2.2.2.1 HX.out).mono ?_;rintro e w3 ⟨rfl,hb⟩;have lo3:=pw_cell_below hb lo2))
 have nb3:w3.heap[g]?=some (.cells #[.int .i64 x,.int .i64 y] 28 (0,0)):=(hb.block g (Array.getElem?_eq_some_iff.1 nb).1).trans nb;have hw3:Below g w w3:=hg▸below_step (hg▸hb0) hb;have HL:=a0_ (And.intro ((HK.out.2.1.later (hg▸hb0)).later hb) (And.intro nb3 hw3));have HG:=Aside0.mk hg;clear nb3 hw3 hb hb0 lo1 lo2 bi1 bi2 f0 f1 nb hg;go_wp2;clear lo3;go_loopg [5,6] H.length (fun kq v5 v6 wr=>∃ (p:Option Addr) (rest:List (List S28)) (u:Int),v5=.int .i64 u∧v6=.pointer p∧Aside0 (kq=rest.length∧RingsAt wr p rest∧(∀ z∈rest,loopOk (z.map ptP)=true)∧wr.heap[g]?=some (.cells #[.int .i64 x,.int .i64 y] 28 (0,0))∧runIn (x,y) u rest=r∧Below g w wr))
 case atStart=>exact⟨nx,H,x0,rfl,rfl,⟨rfl,HL.out.1,HK.out.2.2.2.1,HL.out.2.1,HK.out.2.2.2.2.2,HL.out.2.2⟩⟩
 case round =>
  obtain⟨p,rest,u,rfl,rfl,H1⟩:=hrel;obtain⟨hk,hr,hl,hgb,hrun,hBw⟩:=H1.out;clear H1
  cases rest with
  | nil =>
   obtain rfl:p=none:=hr;obtain rfl:u=r:=hrun;have HB:=Aside0.mk hBw;clear hBw hk hgb hl;go_wp2;go_ret;exact⟨rfl,HG.out▸HB.out⟩
  | cons z rest =>
   obtain⟨b1,A1,c1,n1,rfl,hz,hrest⟩:=hr;have z1:=hz.pts;have z2:=hz.nxt;have f0:wr.drew.cell? ⟨g,0,none⟩=some (.int .i64 x):=(blk_cell hgb 0).trans rfl;have f1:wr.drew.cell? ⟨g,1,none⟩=some (.int .i64 y):=(blk_cell hgb 1).trans rfl;have hdr:=below_drew1 (Below.refl wr.heap.size wr);have z1':wr.drew.cell? ⟨b1,0,none⟩=some (.slice A1 z.length c1):=z1;have z2':wr.drew.cell? ⟨b1,1,none⟩=some (.pointer n1):=z2;have hu28:=Tryd.underlying28;have key:∀ v:Int,inS z (x,y)=v→RingAt wr.drew b1 A1 c1 z n1∧loopOk (z.map ptP)=true:=fun v _=>⟨hz.later hdr,hl z List.mem_cons_self⟩
   have hvals:inS z (x,y)=0∨inS z (x,y)=1∨inS z (x,y) = -1:=Mort.inOf_vals (z.map ptP) (x,y)
   rcases hvals with hv | hv | hv
   ·
    obtain rfl:0=r:=by rw [← hrun];unfold runIn;rw [if_pos hv]
    have HV:=a0_ (And.intro hv (And.intro (key 0 hv) (And.intro hBw HK.out.2.2.2.2.1)));clear hv key hrun hrest hz hl hk hgb z1 z2 hBw hdr;go_wp2;go_region_held3 (fun W=>W.cell? ⟨b1,0,none⟩=some (.slice A1 z.length c1)∧W.cell? ⟨g,0,none⟩=some (.int .i64 x)∧W.cell? ⟨g,1,none⟩=some (.int .i64 y))
     (first | exact⟨pw_cell_below hb z1',pw_cell_below hb f0,pw_cell_below hb f1⟩ | go_keep)
     (first | (go_at_call 97;refine (inside_told2 b1 A1 _ c1 z x y 0 _ HV.out.2.1.1 HV.out.2.1.2 HV.out.2.2.2 HV.out.1).mono ?_;rintro e w4 ⟨rfl,hb⟩))
    go_wp2;go_ret;exact⟨rfl,HG.out▸below_row (below_drew1 HV.out.2.2.1) (HG.out▸Nat.le_refl _) hb⟩
   ·
    have hrun2:runIn (x,y) (-1) rest=r:=by rw [← hrun,runIn_cons,if_neg (by omega),if_pos hv]
    have HV:=a0_ (And.intro hv (And.intro (key 1 hv) (And.intro hBw HK.out.2.2.2.2.1)));have HR:=a0_ (And.intro hrun2 (And.intro hrest (And.intro hl (And.intro hgb hk))));clear hv key hrun hrun2 hrest hz hl hk hgb z1 z2 hBw hdr;go_wp2;go_region_held3 (fun W=>W.cell? ⟨b1,0,none⟩=some (.slice A1 z.length c1)∧W.cell? ⟨g,0,none⟩=some (.int .i64 x)∧W.cell? ⟨g,1,none⟩=some (.int .i64 y))
     (first | exact⟨pw_cell_below hb z1',pw_cell_below hb f0,pw_cell_below hb f1⟩ | go_keep)
     (first | (go_at_call 97;refine (inside_told2 b1 A1 _ c1 z x y 1 _ HV.out.2.1.1 HV.out.2.1.2 HV.out.2.2.2 HV.out.1).mono ?_;rintro e w4 ⟨rfl,hb⟩;have z4:=pw_cell_below hb z2'))
    go_wp2;obtain⟨k1,k2,k3,k4,k5⟩:=HR.out;go_roundg rest.length
    case measure=>rw [k5];simp
    case rel=>exact⟨n1,rest,-1,rfl,rfl,⟨rfl,(k2.later (below_drew1 (Below.refl _ _))).later hb,fun y hy=>k3 y (List.mem_cons_of_mem _ hy),blk_later (show wr.drew.heap[g]?=_ from k4) hb,k1,below_row (below_drew1 HV.out.2.2.1) (HG.out▸Nat.le_refl _) hb⟩⟩
   ·
    have hrun2:runIn (x,y) u rest=r:=by rw [← hrun,runIn_cons,if_neg (by omega),if_neg (by omega)]
    have HV:=a0_ (And.intro hv (And.intro (key (-1) hv) (And.intro hBw HK.out.2.2.2.2.1)));have HR:=a0_ (And.intro hrun2 (And.intro hrest (And.intro hl (And.intro hgb hk))));clear hv key hrun hrun2 hrest hz hl hk hgb z1 z2 hBw hdr;go_wp2;go_region_held3 (fun W=>W.cell? ⟨b1,0,none⟩=some (.slice A1 z.length c1)∧W.cell? ⟨g,0,none⟩=some (.int .i64 x)∧W.cell? ⟨g,1,none⟩=some (.int .i64 y))
     (first | exact⟨pw_cell_below hb z1',pw_cell_below hb f0,pw_cell_below hb f1⟩ | go_keep)
     (first | (go_at_call 97;refine (inside_told2 b1 A1 _ c1 z x y (-1) _ HV.out.2.1.1 HV.out.2.1.2 HV.out.2.2.2 HV.out.1).mono ?_;rintro e w4 ⟨rfl,hb⟩;have z4:=pw_cell_below hb z2'))
    go_wp2;obtain⟨k1,k2,k3,k4,k5⟩:=HR.out;go_roundg rest.length
    case measure=>rw [k5];simp
    case rel=>exact⟨n1,rest,u,rfl,rfl,⟨rfl,(k2.later (below_drew1 (Below.refl _ _))).later hb,fun y hy=>k3 y (List.mem_cons_of_mem _ hy),blk_later (show wr.drew.heap[g]?=_ from k4) hb,k1,below_row (below_drew1 HV.out.2.2.1) (HG.out▸Nat.le_refl _) hb⟩⟩
end Go.Proofs.YtkefmnmoaomlhaaDoor.X
end
section
set_option linter.unusedVariables false
set_option linter.unusedSimpArgs false
namespace Go.Proofs.YtkefmnmoaomlhaaDoor.X
open Go.RowKit Go.Shelf Go.Proofs.YtkefmnmoaomlhaaDoorW.PrintWords Go.Proofs.YtkefmnmoaomlhaaDoorW.PrintLast Go.Proofs.YtkefmnmoaomlhaaDoorW.PrintMore
section
variable {l n:Nat} {P:Program} {ops:Array Oper} {Q:Exit→Act→World→Prop}
theorem upon_inRound {o:Oper}{a:Act}{K:Act→World→Prop}{r:Result Next}(h:o.upon P a K Q r):o.uponIn (Fence.wide.inRound l) n P a K Q r:=by
 cases r with
 | ok x w' =>
  cases x with
  | value v=>exact h
  | skip=>exact h
  | defer d=>exact h
  | enter f args=>exact⟨fun hd=>(by cases hd),CallsIn.inRound l (callsIn_wide.2 h)⟩
  | row rw_ args=>exact⟨fun hd=>(by cases hd),fun c cs _=>by obtain⟨v,w1,h1,h2⟩:=h c cs;exact⟨v,w1,h1,stepsIn_wide.2 h2⟩⟩
  | _=>exact h.elim
 | halt x w'=>cases x <;> exact h
theorem wpOps_inRound (hd:∀ (i:Nat) (o:Oper),ops[i]?=some o→∀ c,o.op≠.defer c)(hno:LetsOut Q→False):∀ (is:List Nat) (a:Act) (w:World),wpOps P ops Q is a w→wpOpsIn (Fence.wide.inRound l) n P ops Q is a w:=by
 intro is
 induction is with
 | nil=>exact fun a w h=>h
 | cons i rest ih =>
  intro a w h;simp only [wpOps] at h;simp only [wpOpsIn]
  cases ho:ops[i]? with
  | none=>rw [ho] at h;exact ih a w h
  | some o =>
   rw [ho] at h;simp only at h ⊢
   split at h
   ·
    rename_i hw
    rw [if_pos hw]
    rcases h with h | ⟨_,h⟩
    ·
     refine⟨fun _ _=>trivial,?_⟩;rw [show (Fence.wide.inRound l).round=some l from rfl,Oper.semAt_some l _ o (hd i o ho)];refine upon_inRound ?_;exact Oper.wp_mono (fun a w h=>ih a w h) h
    ·
     exact (hno h).elim
   ·
    rename_i hw
    rw [if_neg hw];exact⟨fun _ _=>trivial,ih _ _ h⟩
theorem region_inRound {id k:Nat}{S:World→Prop}{ds:List Nat}{a:Act}{w:World}(lst:Array Bool)(hm:P.follows .mixedOrders=true)(hn:ops.size=k)(hl:Array.replicate k false=lst)
  (hd:∀ (i:Nat) (o:Oper),ops[i]?=some o→∀ c,o.op≠.defer c) (hno:LetsOut Q→False) (hS:S w.drew) (h:S w.drew→wpAnyLast P .any ops Q S ds k lst a w.drew) :
  (Code.region id ops true).wpIn (Fence.wide.inRound l) n P Q a w:=by
 subst hn;subst hl;refine wpIn_region_draw fun t=>wpOps_inRound hd hno _ _ _ ?_
 simp only [Region.schedule,hm,Bool.true_or,if_true];exact wpAny_sound ops.size t _ a _ (wpAny_of_last _ _ _ _ (h hS))
end
structure Built (w W:World) (n₀ bb:Nat) (bs:List Nat) (A0:Option Addr) (c0:Nat) (o:List S28) (H:List (List S28)) (v:Value):Prop where
 body:W.heap[bb]?=some (.cells #[.slice A0 o.length c0,.pointer (ptrAt bs 0),v] 109 (0,0))
 lo:n₀≤bb
 len:bs.length=H.length
 nd:(bb::bs).Nodup
 ring:∀ j,j<H.length→n₀≤bs.getD j 0∧∃ A c,W.heap[bs.getD j 0]?=some (.cells #[.slice A (H.getD j []).length c,.pointer (ptrAt bs (j+1))] 107 (0,0))∧Kd.C k28 w A (H.getD j []).length (H.getD j [])∧(H.getD j []).length≤c
theorem Built.later {w W W':World}{n₀ bb:Nat}{bs:List Nat}{A0:Option Addr}{c0:Nat}{o:List S28}{H:List (List S28)}{v:Value}(h:Built w W n₀ bb bs A0 c0 o H v)(hb:Below W.heap.size W W'):Built w W' n₀ bb bs A0 c0 o H v:=
 ⟨blk_later h.body hb,h.lo,h.len,h.nd,fun j hj=>by obtain⟨l,A,c,k1,k2,k3⟩:=h.ring j hj;exact⟨l,A,c,blk_later k1 hb,k2,k3⟩⟩
theorem getD_lt {α:Type}{l:List α}{i:Nat}{d:α}(h:i<l.length):l.getD i d=l[i]:=by rw [List.getD_eq_getElem?_getD,List.getElem?_eq_getElem h];rfl
theorem getD_snoc_lt {α:Type}{l:List α}{x d:α}{i:Nat}(h:i<l.length):(l++[x]).getD i d=l.getD i d:=by
 rw [List.getD_eq_getElem?_getD,List.getD_eq_getElem?_getD,List.getElem?_append_left h]
theorem getD_snoc_eq {α:Type}{l:List α}{x d:α}:(l++[x]).getD l.length d=x:=by
 rw [List.getD_eq_getElem?_getD,List.getElem?_append_right (Nat.le_refl _),Nat.sub_self];rfl
theorem ptrAt_snoc_lt {bs:List Nat}{q i:Nat}(h:i<bs.length):ptrAt (bs++[q]) i=ptrAt bs i:=by unfold ptrAt;rw [List.getElem?_append_left h]
theorem ptrAt_snoc_eq {bs:List Nat}{q:Nat}:ptrAt (bs++[q]) bs.length=some ⟨q,0,none⟩:=by unfold ptrAt;rw [List.getElem?_append_right (Nat.le_refl _),Nat.sub_self];rfl
def lastOf (bb:Nat)(bs:List Nat):Nat:=(bb::bs).getD bs.length 0
theorem lastOf_pos {bb:Nat}{bs:List Nat}(h:0<bs.length):lastOf bb bs=bs.getD (bs.length-1) 0:=by
 unfold lastOf;obtain⟨m,hm⟩:∃ m,bs.length=m+1:=⟨bs.length-1,by omega⟩;rw [hm];simp
theorem lastOf_snoc (bb q:Nat)(bs:List Nat):lastOf bb (bs++[q])=q:=by
 unfold lastOf;rw [List.length_append,← List.cons_append];exact getD_snoc_eq (l:=bb::bs)
theorem Built.last_cells {w W:World}{n₀ bb:Nat}{bs:List Nat}{A0:Option Addr}{c0:Nat}{o:List S28}{H:List (List S28)}{v:Value}(h:Built w W n₀ bb bs A0 c0 o H v):
  ∃ (y:Value) (cs:List Value) (t:TypeId),W.heap[lastOf bb bs]?=some (.cells (#[y,.pointer none]++cs.toArray) t (0,0))∧n₀≤lastOf bb bs:=by
 cases bs with
 | nil=>exact⟨_,[v],_,h.body,h.lo⟩
 | cons q qs =>
  have hp:0<(q::qs).length:=by simp
  rw [lastOf_pos hp];have hl:=h.len;obtain⟨l,A,c,k1,_⟩:=h.ring ((q::qs).length-1) (by omega);rw [show (q::qs).length-1+1=(q::qs).length by omega,ptrAt_none (Nat.le_refl _)] at k1;exact⟨_,[],_,k1,l⟩
theorem Built.push {w W:World}{n₀ bb:Nat}{bs:List Nat}{A0:Option Addr}{c0:Nat}{o:List S28}{H:List (List S28)}{v:Value}(h:Built w W n₀ bb bs A0 c0 o H v)(A:Option Addr)(c:Nat)(z:List S28)(hz:Kd.C k28 w A z.length z)(hc:z.length≤c)(hn:n₀≤W.heap.size):
  Built w ((W.alloc (.cells #[.slice A z.length c,.pointer none] 107)).setCell ⟨lastOf bb bs,1,none⟩ (.pointer (some ⟨W.heap.size,0,none⟩))) n₀ bb (bs++[W.heap.size]) A0 c0 o (H++[z]) v:=by
 have hl:=h.len;have hnd:=h.nd;have hblt:∀ j,j<H.length→bs.getD j 0<W.heap.size:=fun j hj=>by obtain⟨_,_,_,k1,_⟩:=h.ring j hj;exact (Array.getElem?_eq_some_iff.1 k1).1
 have hbb:bb<W.heap.size:=(Array.getElem?_eq_some_iff.1 h.body).1;have hq:W.heap.size ∉ bb::bs:=by
  intro hm
  rcases List.mem_cons.1 hm with e | hm
  ·
   omega
  ·
   obtain⟨j,hj,e⟩:=List.getElem_of_mem hm;have:=hblt j (by omega);rw [getD_lt hj,e] at this;omega
 have hlast:lastOf bb bs∈bb::bs:=by
  unfold lastOf;rw [getD_lt (by simp)];exact List.getElem_mem _
 have far:∀ k,k≠lastOf bb bs→∀ ob,W.heap[k]?=some ob→((W.alloc (.cells #[.slice A z.length c,.pointer none] 107)).setCell ⟨lastOf bb bs,1,none⟩ (.pointer (some ⟨W.heap.size,0,none⟩))).heap[k]?=some ob:=fun k hk ob hob=>by
  rw [Below.heap_setCell _ _ _ _ hk];exact blk_alloc' hob _
 refine⟨?_,h.lo,by simp [hl],?_,?_⟩
 ·
  cases bs with
  | nil =>
   have:=blk_put (cs:=#[.slice A0 o.length c0,.pointer none,v]) (blk_alloc' h.body (.cells #[.slice A z.length c,.pointer none] 107)) 1 (.pointer (some ⟨W.heap.size,0,none⟩)) rfl;exact this
  | cons q qs =>
   have e:ptrAt (q::qs++[W.heap.size]) 0=ptrAt (q::qs) 0:=ptrAt_snoc_lt (by simp);rw [e];refine far bb ?_ _ h.body;rw [lastOf_pos (by simp)];intro e2;rw [List.nodup_cons] at hnd;refine hnd.1 ?_;rw [e2,getD_lt (by simp)];exact List.getElem_mem _
 ·
  rw [← List.cons_append,List.nodup_append];exact⟨hnd,by simp,fun a ha b hb=>by simp at hb;subst hb;intro e;subst e;exact hq ha⟩
 ·
  intro j hj;rw [List.length_append] at hj;by_cases hlt:j<H.length
  ·
   obtain⟨l,A1,c1,k1,k2,k3⟩:=h.ring j hlt;rw [getD_snoc_lt hlt,getD_snoc_lt (by omega:j<bs.length)];refine⟨l,A1,c1,?_,k2,k3⟩;by_cases he:j+1=H.length
   ·
    have e1:lastOf bb bs=bs.getD j 0:=by rw [lastOf_pos (by omega)];congr 1;omega
    rw [show j+1=bs.length by omega,ptrAt_snoc_eq,e1];rw [show j+1=bs.length by omega,ptrAt_none (Nat.le_refl _)] at k1;exact blk_put (cs:=#[.slice A1 (H.getD j []).length c1,.pointer none]) (blk_alloc' k1 (.cells #[.slice A z.length c,.pointer none] 107)) 1 (.pointer (some ⟨W.heap.size,0,none⟩)) rfl
   ·
    rw [ptrAt_snoc_lt (by omega)];refine far _ ?_ _ k1;rw [lastOf_pos (by omega)];rw [List.nodup_cons] at hnd;rw [getD_lt (by omega),getD_lt (by omega)];intro e;have:=(List.getElem_inj hnd.2).1 e;omega
  ·
   have e:j=H.length:=by simp at hj;omega
   subst e;rw [getD_snoc_eq,← hl,getD_snoc_eq,ptrAt_none (by simp)];refine⟨hn,A,c,?_,hz,hc⟩;rw [Below.heap_setCell _ _ _ _ (by intro e;simp only at e;rw [← e] at hlast;exact hq hlast)];exact World.alloc_heap_new W _
theorem Built.bodyAt {w W:World}{bb:Nat}{bs:List Nat}{A0:Option Addr}{c0:Nat}{o:List S28}{H:List (List S28)}{v:Value}(h:Built w W w.heap.size bb bs A0 c0 o H v)(hb:Below w.heap.size w W)(ho:Kd.C k28 w A0 o.length o)(hc:o.length≤c0):
  BodyAt W bb bs o H:=
 ⟨⟨A0,c0,(blk_cell h.body 0).trans rfl,(blk_cell h.body 1).trans rfl,Kd.C_below ho hb,hc⟩,h.len,(List.nodup_cons.1 h.nd).2,fun j hj=>by
  obtain⟨l,A,c,k1,k2,k3⟩:=h.ring j hj
  exact⟨A,c,⟨(blk_cell k1 0).trans rfl,(blk_cell k1 1).trans rfl,Kd.C_below k2 hb,k3⟩,k1⟩⟩
end Go.Proofs.YtkefmnmoaomlhaaDoor.X
end
section
set_option linter.unusedVariables false
set_option linter.unusedSimpArgs false
namespace Go.Proofs.YtkefmnmoaomlhaaDoor.X
open Go.RowKit Go.Shelf Go.Proofs.YtkefmnmoaomlhaaDoorW.PrintWords Go.Proofs.YtkefmnmoaomlhaaDoorW.PrintLast Go.Proofs.YtkefmnmoaomlhaaDoorW.PrintMore
open Mort (edges loopOk pairOk ed segOk meet joined ptOk segHas segMeet)
attribute [local go_sem] Oper.semAt_some
def impl_LoopOk.f (l0:List S28):Option Bool:=some (loopOk (l0.map ptP))
def pairS (l0:List S28)(i j:Nat):Bool:=
 if j≤i then true else if j=i+1 then !segHas (sgP (edS l0 i)) (ptP (edS l0 j).f1) && !segHas (sgP (edS l0 j)) (ptP (edS l0 i).f0)
 else if i=0∧j+1=l0.length then !segHas (sgP (edS l0 j)) (ptP (edS l0 i).f1) && !segHas (sgP (edS l0 i)) (ptP (edS l0 j).f0) else !segMeet (sgP (edS l0 i)) (sgP (edS l0 j))
theorem iJoined {k:Nat}(hk:2≤k)(a b c d e f g h:Int):impl_joined.f k a b c d e f g h=some (!segHas ((a,b),(c,d)) (g,h) && !segHas ((e,f),(g,h)) (a,b)):=by
 unfold impl_joined.f;simp only [iSegHas (k:=k) (by omega),Option.bind_some];cases segHas ((a,b),(c,d)) (g,h) <;> cases segHas ((e,f),(g,h)) (a,b) <;> rfl
theorem loopOk_S (l0:List S28):loopOk (l0.map ptP)=true ↔ 3≤l0.length∧l0.length≤8∧(∀ i,i<l0.length→segOk (sgP (edS l0 i))=true)∧∀ i j,i<l0.length→j<l0.length→pairS l0 i j=true:=by
 rw [Mort.loopOk_iff,List.length_map];have hE:(∀ e∈edges (l0.map ptP),segOk e=true) ↔ ∀ i,i<l0.length→segOk (sgP (edS l0 i))=true:=by
  constructor
  ·
   intro h i hi;rw [← ed_edS];exact h _ (Mort.mem_edges.2 ⟨i,by simpa using hi,rfl⟩)
  ·
   intro h e he;obtain⟨i,hi,rfl⟩:=Mort.mem_edges.1 he;rw [ed_edS];exact h i (by simpa using hi)
 rw [hE];refine and_congr_right fun h3=>and_congr_right fun h8=>and_congr_right fun hs=>forall_congr' fun i=>forall_congr' fun j=>forall_congr' fun hi=>forall_congr' fun hj=>?_
 unfold pairOk pairS joined;simp only [ed_edS,List.length_map];have oi:=(Mort.segOk_iff _).1 (hs i hi);have oj:=(Mort.segOk_iff _).1 (hs j hj);have e1:∀ p,ptOk p=true→segHas (sgP (edS l0 i)) p=Mort.has (sgP (edS l0 i)) p:=fun p hp=>by unfold segHas;rw [hs i hi,hp];rfl
 have e2:∀ p,ptOk p=true→segHas (sgP (edS l0 j)) p=Mort.has (sgP (edS l0 j)) p:=fun p hp=>by unfold segHas;rw [hs j hj,hp];rfl
 have e3:segMeet (sgP (edS l0 i)) (sgP (edS l0 j))=meet (sgP (edS l0 i)) (sgP (edS l0 j)):=by unfold segMeet;rw [hs i hi,hs j hj];rfl
 rw [e1 (ptP (edS l0 j).f1) oj.2.1,e2 (ptP (edS l0 i).f0) oi.1,e2 (ptP (edS l0 i).f1) oi.2.1,e1 (ptP (edS l0 j).f0) oj.1,e3];exact Iff.rfl
set_option maxHeartbeats 4000000 in
set_option maxRecDepth 100000 in
theorem impl_LoopOk.calls (A0:Option Addr)(c0:Nat)(l0:List S28)(r:Bool)(w:World)(hr0:Kd.C k28 w A0 l0.length l0)(hc0:l0.length≤c0)(h:impl_LoopOk.f l0=some r):
  Calls Tryd.prog 93 #[.slice A0 l0.length c0] w fun e w'=>e=.returned (.bool r)∧Below w.heap.size w w':=by
 have h:=Option.some.inj h;have hS:=loopOk_S l0;rw [h] at hS;have hS':=Aside0.mk hS;clear hS h;have hu61:=Tryd.underlying61;refine (callsIn_wide (n:=9)).1 ?_;refine callsIn_of_wp_marks Tryd.func93 rfl trivial ?_ rfl;simp only [Tryd.ntmps93,List.size_toArray,List.length_cons,List.length_nil,Nat.reduceAdd,Nat.reduceSub,Array.replicate_succ,Array.replicate_zero,List.push_toArray,List.append_toArray,List.nil_append,List.cons_append];by_cases hl3:l0.length<3
 ·
  obtain rfl:r=false:=by
   cases r with
   | false=>rfl
   | true=>have:=(hS'.out.1 rfl).1;omega
  gi_wp2;refine⟨.bool false,?_,rfl,below_alloc (below_alloc (Below.refl _ _) _) _⟩;simp [results,Tryd.f93,go_sem]
 by_cases hl8:8<l0.length
 ·
  obtain rfl:r=false:=by
   cases r with
   | false=>rfl
   | true=>have:=(hS'.out.1 rfl).2.1;omega
  gi_wp2;refine⟨.bool false,?_,rfl,below_alloc (below_alloc (Below.refl _ _) _) _⟩;simp [results,Tryd.f93,go_sem]
 have b1:decide ((l0.length:Int)<3)=false:=decide_eq_false (by omega);have b2:decide (8<(l0.length:Int))=false:=decide_eq_false (by omega);have hAb:=row_lt hr0 (by omega);gi_wp2_with (refine⟨trivial,?_⟩;gi_at_call 96;refine (edges_in _ _ _ _ _).mono ?_;rintro e w' ⟨rfl,rfl⟩);have bL:=((Boxed.new w 23 (.slice A0 l0.length c0)).alloc (.cells #[.bool false] 4)).alloc (.cells #[.slice A0 l0.length c0] 23);have bR:=(Boxed.new (w.alloc (.cells #[.slice A0 l0.length c0] 23)) 4 (.bool false)).alloc (.cells #[.slice A0 l0.length c0] 23);have bC:=Boxed.new ((w.alloc (.cells #[.slice A0 l0.length c0] 23)).alloc (.cells #[.bool false] 4)) 23 (.slice A0 l0.length c0);simp only [World.size_alloc] at bR bC;have hB0:Below w.heap.size w (((w.alloc (.cells #[.slice A0 l0.length c0] 23)).alloc (.cells #[.bool false] 4)).alloc (.cells #[.slice A0 l0.length c0] 23)):=below_alloc (below_alloc (below_alloc (Below.refl _ w) _) _) _;have hsz:(((w.alloc (.cells #[.slice A0 l0.length c0] 23)).alloc (.cells #[.bool false] 4)).alloc (.cells #[.slice A0 l0.length c0] 23)).heap.size=w.heap.size+3:=by simp
 obtain⟨W0,hW0⟩:∃ W0,((w.alloc (.cells #[.slice A0 l0.length c0] 23)).alloc (.cells #[.bool false] 4)).alloc (.cells #[.slice A0 l0.length c0] 23)=W0:=⟨_,rfl⟩;rw [hW0] at bL bR bC hB0 hsz ⊢
 clear hW0;refine wpIn_rangeFunc_ownH rfl (by omega) (gf:=114) (lb:=#[.pointer (some ⟨w.heap.size+1+1,0,none⟩)]) rfl trivial (enters_of Tryd.func114 (by kernel_rfl) rfl)
  (edges_stops 8 (by omega) (w.heap.size+1+1) w.heap.size A0 c0 l0 (by omega) hAb W0 (by omega) (by omega) bC.cell (Kd.C_below hr0 hB0)) (fun h k=>KpE.trans h k) (fun W l o o' hl _ _ _=>KpE.putObj W l o' (by omega) (by omega)) (Below.refl _ _) (fun _=>rfl)
  (fun pre W=>(((∀ x∈pre,segOk (sgP (edS l0 x))=true)∧Boxed W (w.heap.size+1) 4 (.bool false))∧Boxed W w.heap.size 23 (.slice A0 l0.length c0))∧Below w.heap.size w W)
  (fun c pre W=>((c=.ret∧∃ x:Fin l0.length,segOk (sgP (edS l0 x))=false)∧Boxed W (w.heap.size+1) 4 (.bool false))∧Below w.heap.size w W)
  (OwnFrom.and (OwnFrom.and (OwnFrom.and (ownFrom_pure _ _) (Own.from (boxed_own _ _ _) _)) (Own.from (boxed_own _ _ _) _)) (ownFrom_below (Nat.le_refl _) (by omega)))
  (fun c=>OwnFrom.and (OwnFrom.and (ownFrom_pure _ _) (Own.from (boxed_own _ _ _) _)) (ownFrom_below (Nat.le_refl _) (by omega)))
  ⟨⟨⟨by simp,bR⟩,bL⟩,hB0⟩
  (fun x a' W=>∃ Bx,W.heap[Bx]?=some (segObj (edS l0 x))∧a'={ tmps:=#[.slice A0 l0.length c0,.pointer (some ⟨w.heap.size,0,none⟩),.pointer (some ⟨w.heap.size+1,0,none⟩),undef,.pointer (some ⟨Bx,0,none⟩),undef,undef,undef,undef,undef,undef,.slice A0 l0.length c0,.int .i64 (l0.length:Int),.bool false,.bool false,.slice A0 l0.length c0,.int .i64 (l0.length:Int),.bool false,.bool false,.slice A0 l0.length c0,.func (.func 114) #[] #[.pointer (some ⟨w.heap.size+1+1,0,none⟩)],.int .i64 ((x:Nat):Int),.agg #[.int .i64 (edS l0 x).f0.f0,.int .i64 (edS l0 x).f0.f1,.int .i64 (edS l0 x).f1.f0,.int .i64 (edS l0 x).f1.f1],undef,undef,undef,undef,undef,undef,undef,undef,undef,undef,undef,undef,undef,undef,undef,undef,undef,undef,undef,undef,undef,undef,undef,undef,undef,undef,undef,undef,undef,undef,undef,undef,undef,undef,undef,undef,undef,undef,undef,undef,undef,undef,undef],defers:=[] })
  (fun x a' _ X Y row hs hg hr=>by obtain⟨Bx,e2,e3⟩:=hs;exact⟨Bx,segObj_own Bx (edS l0 x) () X Y row e2 hg (fun r e=>(hr r e).2),e3⟩)
  ?assign ?body ?done ?stop
 case assign =>
  rintro l pre x W K ⟨⟨⟨hp,bR1⟩,bL1⟩,hB1⟩ hK;have hWs:=bR1.lt;have hBs:=hB1.size;dsimp only [encE,edV];gi_wp2;refine hK _ _ ((KeepsOthers.alloc _ _).from _) (KpE.alloc _ _ _ _) ⟨⟨⟨hp,bR1.alloc _⟩,bL1.alloc _⟩,below_alloc hB1 _⟩ ⟨W.heap.size,World.alloc_heap_new W _,rfl⟩
 case body =>
  rintro l pre x a' W hl ⟨rr,hrr⟩ ⟨⟨⟨hp,bR1⟩,bL1⟩,hB1⟩ ⟨Bx,bX,rfl⟩ hlt;have cX0:W.cell? ⟨Bx,0,none⟩=some (.int .i64 (edS l0 x).f0.f0):=(blk_cell bX 0).trans rfl;have cX1:W.cell? ⟨Bx,1,none⟩=some (.int .i64 (edS l0 x).f0.f1):=(blk_cell bX 1).trans rfl;have cX2:W.cell? ⟨Bx,2,none⟩=some (.int .i64 (edS l0 x).f1.f0):=(blk_cell bX 2).trans rfl;have cX3:W.cell? ⟨Bx,3,none⟩=some (.int .i64 (edS l0 x).f1.f1):=(blk_cell bX 3).trans rfl;have H:=iSegOk (edS l0 x).f0.f0 (edS l0 x).f0.f1 (edS l0 x).f1.f0 (edS l0 x).f1.f1
  cases hs:segOk (sgP (edS l0 x)) with
  | true =>
   rw [show segOk (((edS l0 x).f0.f0,(edS l0 x).f0.f1),((edS l0 x).f1.f0,(edS l0 x).f1.f1))=true from hs] at H;gi_wp2_with (refine⟨trivial,?_⟩;gi_at_call 77;refine (CallsIn.inRound l (callsIn_wide.2 (impl_SegOk.calls _ _ _ _ true _ H))).mono ?_;rintro e w1 ⟨rfl,hb⟩);exact⟨keeps_below hb,KpE.below hb,⟨⟨fun z hz=>(List.mem_append.1 hz).elim (hp z) (fun e=>by simp at e;subst e;exact hs),box_later bR1 hb⟩,box_later bL1 hb⟩,below_row hB1 (Nat.le_refl _) hb⟩
  | false =>
   rw [show segOk (((edS l0 x).f0.f0,(edS l0 x).f0.f1),((edS l0 x).f1.f0,(edS l0 x).f1.f1))=false from hs] at H;gi_wp2_with (refine⟨trivial,?_⟩;gi_at_call 77;refine (CallsIn.inRound l (callsIn_wide.2 (impl_SegOk.calls _ _ _ _ false _ H))).mono ?_;rintro e w1 ⟨rfl,hb⟩;have cR:=(box_later bR1 hb).cell;have fR:=(box_later bR1 hb).frozen);exact⟨(keeps_below hb).trans ((KeepsOthers.setCell _ _ _).from _),⟨⟨rfl,x,hs⟩,(box_later bR1 hb).set _⟩,(below_row hB1 (Nat.le_refl _) hb).setCell (p:=⟨w.heap.size+1,0,none⟩) (by simp) _⟩
 case stop =>
  rintro D c pre W hD _ ⟨⟨⟨rfl,x,hs⟩,bR1⟩,hB1⟩ hK;obtain rfl:r=false:=by
   cases r with
   | false=>rfl
   | true=>have:=(hS'.out.1 rfl).2.2.1 x x.2;rw [hs] at this;cases this
  gi_wp2;have hD1:∀ E∈[D],W.heap[E]?=some (.deferred (some [])):=by simpa using hK
  refine leavesM_marks [D] W (by simp) hD1 (fun w' h1 h2 h3 h4 h5=>?_);have hc5:=(marks_boxed bR1 hD1 h1).cell;refine⟨.bool false,?_,rfl,marks_below hB1 (by simp;omega) h1 h2 h3 h4 h5⟩;simp [results,Tryd.f93,go_sem,hc5]
 case done =>
  rintro D ys W hD rfl ⟨⟨⟨hp,bR1⟩,bL1⟩,hB1⟩ hK;have hok:∀ i,i<l0.length→segOk (sgP (edS l0 i))=true:=fun i hi=>hp ⟨i,hi⟩ (List.mem_finRange _)
  clear hp;have cL:=bL1.cell;have cL2:=(bL1.alloc (.cells #[.int .i64 ((l0.length:Int)-1)] 3)).cell;gi_wp2_with (refine⟨trivial,?_⟩;gi_at_call 96;refine (edges_in _ _ _ _ _).mono ?_;rintro e w' ⟨rfl,rfl⟩);clear cL cL2;have hWs:=hB1.size;replace bR1:=(bR1.alloc (.cells #[.int .i64 ((l0.length:Int)-1)] 3)).alloc (.cells #[.slice A0 l0.length c0] 23);replace bL1:=(bL1.alloc (.cells #[.int .i64 ((l0.length:Int)-1)] 3)).alloc (.cells #[.slice A0 l0.length c0] 23);have b5:=(Boxed.new W 3 (.int .i64 ((l0.length:Int)-1))).alloc (.cells #[.slice A0 l0.length c0] 23);have bC2:=Boxed.new (W.alloc (.cells #[.int .i64 ((l0.length:Int)-1)] 3)) 23 (.slice A0 l0.length c0);replace hB1:=below_alloc (below_alloc hB1 (.cells #[.int .i64 ((l0.length:Int)-1)] 3)) (.cells #[.slice A0 l0.length c0] 23);have hDW:D<W.heap.size:=(Array.getElem?_eq_some_iff.1 hK).1;replace hK:=blk_alloc' (blk_alloc' hK (.cells #[.int .i64 ((l0.length:Int)-1)] 3)) (.cells #[.slice A0 l0.length c0] 23);have hsz2:((W.alloc (.cells #[.int .i64 ((l0.length:Int)-1)] 3)).alloc (.cells #[.slice A0 l0.length c0] 23)).heap.size=W.heap.size+2:=by simp
  simp only [World.size_alloc] at bC2;obtain⟨W2,hW2⟩:∃ W2,(W.alloc (.cells #[.int .i64 ((l0.length:Int)-1)] 3)).alloc (.cells #[.slice A0 l0.length c0] 23)=W2:=⟨_,rfl⟩;rw [hW2] at bR1 bL1 b5 bC2 hB1 hK hsz2 ⊢
  clear hW2;generalize W.heap.size=B5 at *;have hAC:=Kd.C_below hr0 hB1;refine wpIn_rangeFunc_ownH rfl (by omega) (gf:=114) (lb:=#[.pointer (some ⟨B5+1,0,none⟩)]) rfl trivial (enters_of Tryd.func114 (by kernel_rfl) rfl)
   (edges_stops 8 (by omega) (B5+1) w.heap.size A0 c0 l0 (by omega) hAb W2 (by omega) (by omega) bC2.cell hAC) (fun h k=>KpE.trans h k) (fun W l o o' hl _ _ _=>KpE.putObj W l o' (by omega) (by omega)) (Below.refl _ _) (fun _=>rfl)
   (fun pre W=>(((((∀ x∈pre,∀ j,j<l0.length→pairS l0 (x:Fin l0.length) j=true)∧Boxed W (w.heap.size+1) 4 (.bool false))∧Boxed W w.heap.size 23 (.slice A0 l0.length c0))∧Boxed W B5 3 (.int .i64 ((l0.length:Int)-1)))∧W.heap[D]?=some (.deferred (some [])))∧Below w.heap.size w W)
   (fun c pre W=>(((c=.ret∧∃ i j,i<l0.length∧j<l0.length∧pairS l0 i j=false)∧Boxed W (w.heap.size+1) 4 (.bool false))∧W.heap[D]?=some (.deferred (some [])))∧Below w.heap.size w W)
   (OwnFrom.and (OwnFrom.and (OwnFrom.and (OwnFrom.and (OwnFrom.and (ownFrom_pure _ _) (Own.from (boxed_own _ _ _) _)) (Own.from (boxed_own _ _ _) _)) (Own.from (boxed_own _ _ _) _)) (ownFrom_blk (by omega))) (ownFrom_below (Nat.le_refl _) (by omega)))
   (fun c=>OwnFrom.and (OwnFrom.and (OwnFrom.and (ownFrom_pure _ _) (Own.from (boxed_own _ _ _) _)) (ownFrom_blk (by omega))) (ownFrom_below (Nat.le_refl _) (by omega)))
   ⟨⟨⟨⟨⟨by simp,bR1⟩,bL1⟩,b5⟩,hK⟩,hB1⟩
   (fun x a' W=>∃ Bi Bs,(Boxed W Bi 3 (.int .i64 ((x:Nat):Int))∧W.heap[Bs]?=some (segObj (edS l0 x)))∧a'={ tmps:=#[.slice A0 l0.length c0,.pointer (some ⟨w.heap.size,0,none⟩),.pointer (some ⟨w.heap.size+1,0,none⟩),undef,undef,.pointer (some ⟨B5,0,none⟩),.pointer (some ⟨Bi,0,none⟩),.pointer (some ⟨Bs,0,none⟩),undef,undef,undef,.slice A0 l0.length c0,.int .i64 (l0.length:Int),.bool false,.bool false,.slice A0 l0.length c0,.int .i64 (l0.length:Int),.bool false,.bool false,.slice A0 l0.length c0,.func (.func 114) #[] #[.pointer (some ⟨w.heap.size+1+1,0,none⟩)],undef,undef,undef,undef,undef,.slice A0 l0.length c0,.int .i64 (l0.length:Int),.int .i64 ((l0.length:Int)-1),.slice A0 l0.length c0,.func (.func 114) #[] #[.pointer (some ⟨B5+1,0,none⟩)],.int .i64 ((x:Nat):Int),.agg #[.int .i64 (edS l0 x).f0.f0,.int .i64 (edS l0 x).f0.f1,.int .i64 (edS l0 x).f1.f0,.int .i64 (edS l0 x).f1.f1],undef,undef,undef,undef,undef,undef,undef,undef,undef,undef,undef,undef,undef,undef,undef,undef,undef,undef,undef,undef,undef,undef,undef,undef,undef,undef,undef,undef,undef,undef,undef,undef,undef],defers:=[] })
   (fun x a' _ X Y row hs hg hr=>by obtain⟨Bi,Bs,⟨e1,e2⟩,e3⟩:=hs;exact⟨Bi,Bs,⟨boxed_own Bi 3 (fun (_:Unit)=>Value.int .i64 ((x:Nat):Int)) () X Y row e1 hg (fun r e=>(hr r e).2),segObj_own Bs (edS l0 x) () X Y row e2 hg (fun r e=>(hr r e).2)⟩,e3⟩)
   ?assign2 ?body2 ?done2 ?stop2
  case assign2 =>
   rintro l pre x W K ⟨⟨⟨⟨⟨hp,bR1⟩,bL1⟩,b5⟩,hK⟩,hB1⟩ hKK;dsimp only [encE,edV];gi_wp2;refine hKK _ _ (((KeepsOthers.alloc _ _).from _).trans ((KeepsOthers.alloc _ _).from _)) ((KpE.alloc _ _ _ _).trans (KpE.alloc _ _ _ _)) ⟨⟨⟨⟨⟨hp,(bR1.alloc _).alloc _⟩,(bL1.alloc _).alloc _⟩,(b5.alloc _).alloc _⟩,blk_alloc' (blk_alloc' hK _) _⟩,below_alloc (below_alloc hB1 _) _⟩ ⟨W.heap.size,W.heap.size+1,⟨(Boxed.new W 3 _).alloc _,?_⟩,rfl⟩;have:=World.alloc_heap_new (W.alloc (.cells #[.int .i64 ((x:Nat):Int)] 3)) (segObj (edS l0 x))
   rwa [World.size_alloc] at this
  case body2 =>
   rintro l pre x a' W hl ⟨rr,hrr⟩ ⟨⟨⟨⟨⟨hp,bR1⟩,bL1⟩,b5⟩,hK⟩,hB1⟩ ⟨Bi,Bs,⟨bI,bX⟩,rfl⟩ hlt;have cL:=bL1.cell;gi_wp2_with (refine⟨trivial,?_⟩;gi_at_call 96;refine (CallsIn.inRound l (edges_in _ _ _ _ _)).mono ?_;rintro e w' ⟨rfl,rfl⟩);clear cL;have bN:=Boxed.new W 23 (.slice A0 l0.length c0);have hr':(W.alloc (.cells #[.slice A0 l0.length c0] 23)).heap[l]?=some (.loop rr):=blk_alloc' hrr _;have bR2:=bR1.alloc (.cells #[.slice A0 l0.length c0] 23);have bL2:=bL1.alloc (.cells #[.slice A0 l0.length c0] 23);have b52:=b5.alloc (.cells #[.slice A0 l0.length c0] 23);have bI2:=bI.alloc (.cells #[.slice A0 l0.length c0] 23);have bX2:=blk_alloc' bX (.cells #[.slice A0 l0.length c0] 23);have hK2:=blk_alloc' hK (.cells #[.slice A0 l0.length c0] 23);have hB2:=below_alloc hB1 (.cells #[.slice A0 l0.length c0] 23);have hE2:=KpE.alloc w.heap.size (B5+1) W (.cells #[.slice A0 l0.length c0] 23);have hF2:=(KeepsOthers.alloc W (.cells #[.slice A0 l0.length c0] 23)).from W2.heap.size;have hsz3:(W.alloc (.cells #[.slice A0 l0.length c0] 23)).heap.size=W.heap.size+1:=by simp
   have hBW:=hB1.size;have hRW:=bR1.lt;have hDW2:D<W.heap.size:=(Array.getElem?_eq_some_iff.1 hK).1;obtain⟨W3,hW3⟩:∃ W3,W.alloc (.cells #[.slice A0 l0.length c0] 23)=W3:=⟨_,rfl⟩;rw [hW3] at bN hr' bR2 bL2 b52 bI2 bX2 hK2 hB2 hE2 hF2 hsz3 ⊢
   clear hW3;obtain⟨Bc,hBc⟩:∃ Bc,W.heap.size=Bc:=⟨_,rfl⟩;rw [hBc] at bN ⊢
   refine wpIn_rangeFunc_ownN (l₀:=l) (r₀:=rr) rfl hr' (by omega) (gf:=114) (lb:=#[.pointer (some ⟨Bc,0,none⟩)]) rfl trivial (enters_of Tryd.func114 (by kernel_rfl) rfl)
    ((edges_stops 6 (by omega) Bc w.heap.size A0 c0 l0 (by omega) hAb W3 (by omega) (by omega) bN.cell (Kd.C_below hr0 hB2)).inRound l) (fun h k=>KpE.trans h k) (fun W l o o' hl _ _ _=>KpE.putObj W l o' (by omega) (by omega)) (Below.refl _ _) (fun _=>rfl)
    (fun pre' W'=>(((((((∀ y∈pre',pairS l0 x (y:Fin l0.length)=true)∧Boxed W' (w.heap.size+1) 4 (.bool false))∧Boxed W' w.heap.size 23 (.slice A0 l0.length c0))∧Boxed W' B5 3 (.int .i64 ((l0.length:Int)-1)))∧Boxed W' Bi 3 (.int .i64 ((x:Nat):Int)))∧W'.heap[Bs]?=some (segObj (edS l0 x)))∧W'.heap[D]?=some (.deferred (some [])))∧(Below w.heap.size w W'∧KpE w.heap.size (B5+1) W W')∧KeepsFrom W2.heap.size W W')
    (fun c pre' W'=>(((c=.ret∧∃ y:Fin l0.length,pairS l0 x y=false)∧Boxed W' (w.heap.size+1) 4 (.bool false))∧W'.heap[D]?=some (.deferred (some [])))∧Below w.heap.size w W'∧KeepsFrom W2.heap.size W W')
    (OwnFrom.and (OwnFrom.and (OwnFrom.and (OwnFrom.and (OwnFrom.and (OwnFrom.and (OwnFrom.and (ownFrom_pure _ _) (Own.from (boxed_own _ _ _) _)) (Own.from (boxed_own _ _ _) _)) (Own.from (boxed_own _ _ _) _)) (Own.from (boxed_own _ _ _) _)) (Own.from (blk_own _ (fun _=>segObj (edS l0 x)) (fun _=>rfl)) _)) (ownFrom_blk (by omega))) (OwnFrom.and (OwnFrom.and (ownFrom_below (Nat.le_refl _) (by omega)) (ownFrom_kpE (by omega))) (ownFrom_keepsFrom (by omega))))
    (fun c=>OwnFrom.and (OwnFrom.and (OwnFrom.and (ownFrom_pure _ _) (Own.from (boxed_own _ _ _) _)) (ownFrom_blk (by omega))) (OwnFrom.and (ownFrom_below (Nat.le_refl _) (by omega)) (ownFrom_keepsFrom (by omega))))
    ⟨⟨⟨⟨⟨⟨⟨by simp,bR2⟩,bL2⟩,b52⟩,bI2⟩,bX2⟩,hK2⟩,⟨hB2,hE2⟩,hF2⟩
    (fun y a'' W'=>∃ Bt,W'.heap[Bt]?=some (segObj (edS l0 y))∧a''={ tmps:=#[.slice A0 l0.length c0,.pointer (some ⟨w.heap.size,0,none⟩),.pointer (some ⟨w.heap.size+1,0,none⟩),undef,undef,.pointer (some ⟨B5,0,none⟩),.pointer (some ⟨Bi,0,none⟩),.pointer (some ⟨Bs,0,none⟩),.int .i64 ((y:Nat):Int),.pointer (some ⟨Bt,0,none⟩),undef,.slice A0 l0.length c0,.int .i64 (l0.length:Int),.bool false,.bool false,.slice A0 l0.length c0,.int .i64 (l0.length:Int),.bool false,.bool false,.slice A0 l0.length c0,.func (.func 114) #[] #[.pointer (some ⟨w.heap.size+1+1,0,none⟩)],undef,undef,undef,undef,undef,.slice A0 l0.length c0,.int .i64 (l0.length:Int),.int .i64 ((l0.length:Int)-1),.slice A0 l0.length c0,.func (.func 114) #[] #[.pointer (some ⟨B5+1,0,none⟩)],.int .i64 ((x:Nat):Int),.agg #[.int .i64 (edS l0 x).f0.f0,.int .i64 (edS l0 x).f0.f1,.int .i64 (edS l0 x).f1.f0,.int .i64 (edS l0 x).f1.f1],.slice A0 l0.length c0,.func (.func 114) #[] #[.pointer (some ⟨Bc,0,none⟩)],.int .i64 ((y:Nat):Int),.agg #[.int .i64 (edS l0 y).f0.f0,.int .i64 (edS l0 y).f0.f1,.int .i64 (edS l0 y).f1.f0,.int .i64 (edS l0 y).f1.f1],undef,undef,undef,undef,undef,undef,undef,undef,undef,undef,undef,undef,undef,undef,undef,undef,undef,undef,undef,undef,undef,undef,undef,undef,undef,undef,undef,undef,undef],defers:=[] })
    (fun y a'' _ X Y row hs hg hr=>by obtain⟨Bt,e2,e3⟩:=hs;exact⟨Bt,segObj_own Bt (edS l0 y) () X Y row e2 hg (fun r e=>(hr r e).2),e3⟩)
    ?assign3 ?body3 ?done3 ?stop3
   case assign3 =>
    rintro l2 pre' y W' K ⟨⟨⟨⟨⟨⟨⟨hq,bR⟩,bL⟩,b5⟩,bI⟩,bX⟩,hK⟩,⟨hB,hE⟩,hF⟩ hKK;dsimp only [encE,edV];gi_wp2;exact hKK _ _ ((KeepsOthers.alloc _ _).from _) (KpE.alloc _ _ _ _) ⟨⟨⟨⟨⟨⟨⟨hq,bR.alloc _⟩,bL.alloc _⟩,b5.alloc _⟩,bI.alloc _⟩,blk_alloc' bX _⟩,blk_alloc' hK _⟩,⟨below_alloc hB _,hE.trans (KpE.alloc _ _ _ _)⟩,hF.trans ((KeepsOthers.alloc _ _).from _)⟩ ⟨W'.heap.size,World.alloc_heap_new W' _,rfl⟩
   case body3 =>
    rintro l2 pre' y a'' W' _ _ ⟨⟨⟨⟨⟨⟨⟨hq,bR⟩,bL⟩,b5⟩,bI⟩,bX⟩,hK⟩,⟨hB,hE⟩,hF⟩ ⟨Bt,bT,rfl⟩ _;have hx8:((x:Nat):Int)<8:=by have:=x.2;omega
    have hx0:0≤((x:Nat):Int):=by omega
    have cI:=bI.cell;have c5:=b5.cell;have cX0:W'.cell? ⟨Bs,0,none⟩=some (.int .i64 (edS l0 x).f0.f0):=(blk_cell bX 0).trans rfl;have cX1:W'.cell? ⟨Bs,1,none⟩=some (.int .i64 (edS l0 x).f0.f1):=(blk_cell bX 1).trans rfl;have cX2:W'.cell? ⟨Bs,2,none⟩=some (.int .i64 (edS l0 x).f1.f0):=(blk_cell bX 2).trans rfl;have cX3:W'.cell? ⟨Bs,3,none⟩=some (.int .i64 (edS l0 x).f1.f1):=(blk_cell bX 3).trans rfl;have cT0:W'.cell? ⟨Bt,0,none⟩=some (.int .i64 (edS l0 y).f0.f0):=(blk_cell bT 0).trans rfl;have cT1:W'.cell? ⟨Bt,1,none⟩=some (.int .i64 (edS l0 y).f0.f1):=(blk_cell bT 1).trans rfl;have cT2:W'.cell? ⟨Bt,2,none⟩=some (.int .i64 (edS l0 y).f1.f0):=(blk_cell bT 2).trans rfl;have cT3:W'.cell? ⟨Bt,3,none⟩=some (.int .i64 (edS l0 y).f1.f1):=(blk_cell bT 3).trans rfl;have cR:=bR.cell;have fR:=bR.frozen;by_cases d1:(y:Nat)≤(x:Nat)
    ·
     have t1:decide (((y:Nat):Int)≤((x:Nat):Int))=true:=decide_eq_true (by omega);have hP:pairS l0 x y=true:=by unfold pairS;rw [if_pos d1]
     gi_wp2;have hb:=hP;have hb1:=Below.refl W'.heap.size W';exact⟨keeps_below hb1,KpE.below hb1,⟨⟨⟨⟨⟨⟨fun z hz=>(List.mem_append.1 hz).elim (hq z) (fun e=>by simp at e;subst e;exact hb),box_later bR hb1⟩,box_later bL hb1⟩,box_later b5 hb1⟩,box_later bI hb1⟩,blk_later bX hb1⟩,blk_later hK hb1⟩,⟨below_row hB (Nat.le_refl _) hb1,hE.trans (KpE.below hb1)⟩,hF.trans (keeps_below hb1)⟩
    have t1:decide (((y:Nat):Int)≤((x:Nat):Int))=false:=decide_eq_false (by omega);by_cases d2:(y:Nat)=(x:Nat)+1
    ·
     have t2:(((y:Nat):Int)==((x:Nat):Int)+1)=true:=by rw [beq_iff_eq];omega
     have hP:pairS l0 x y=(!segHas (sgP (edS l0 x)) (ptP (edS l0 y).f1) && !segHas (sgP (edS l0 y)) (ptP (edS l0 x).f0)):=by unfold pairS;rw [if_neg d1,if_pos d2]
     have HJ:=iJoined (k:=2) (by omega) (edS l0 x).f0.f0 (edS l0 x).f0.f1 (edS l0 x).f1.f0 (edS l0 x).f1.f1 (edS l0 y).f0.f0 (edS l0 y).f0.f1 (edS l0 y).f1.f0 (edS l0 y).f1.f1;replace HJ:=HJ.trans (congrArg some hP.symm);clear d2
     cases hb:pairS l0 x y with
     | true =>
      rw [hb] at HJ;clear hP;gi_wp2_with (refine⟨trivial,?_⟩;gi_at_call 111;refine (CallsIn.inRound l2 (callsIn_wide.2 (impl_joined.calls 2 _ _ _ _ _ _ _ _ true _ HJ))).mono ?_;rintro e w1 ⟨rfl,hb1⟩;have cR1:=(box_later bR hb1).cell;have fR1:=(box_later bR hb1).frozen);exact⟨keeps_below hb1,KpE.below hb1,⟨⟨⟨⟨⟨⟨fun z hz=>(List.mem_append.1 hz).elim (hq z) (fun e=>by simp at e;subst e;exact hb),box_later bR hb1⟩,box_later bL hb1⟩,box_later b5 hb1⟩,box_later bI hb1⟩,blk_later bX hb1⟩,blk_later hK hb1⟩,⟨below_row hB (Nat.le_refl _) hb1,hE.trans (KpE.below hb1)⟩,hF.trans (keeps_below hb1)⟩
     | false =>
      rw [hb] at HJ;clear hP;gi_wp2_with (refine⟨trivial,?_⟩;gi_at_call 111;refine (CallsIn.inRound l2 (callsIn_wide.2 (impl_joined.calls 2 _ _ _ _ _ _ _ _ false _ HJ))).mono ?_;rintro e w1 ⟨rfl,hb1⟩;have cR1:=(box_later bR hb1).cell;have fR1:=(box_later bR hb1).frozen);exact⟨(keeps_below hb1).trans ((KeepsOthers.setCell _ _ _).from _),⟨⟨⟨rfl,y,hb⟩,(box_later bR hb1).set _⟩,blk_set (blk_later hK hb1) rfl (box_later bR hb1) _⟩,(below_row hB (Nat.le_refl _) hb1).setCell (p:=⟨w.heap.size+1,0,none⟩) (by simp) _,(hF.trans (keeps_below hb1)).trans ((KeepsOthers.setCell _ _ _).from _)⟩
    have t2:(((y:Nat):Int)==((x:Nat):Int)+1)=false:=by rw [beq_eq_false_iff_ne];omega
    by_cases d3:(x:Nat)=0
    ·
     have t3:(((x:Nat):Int)==0)=true:=by rw [beq_iff_eq];omega
     by_cases d4:(y:Nat)+1=l0.length
     ·
      have t4:(((y:Nat):Int)==(l0.length:Int)-1)=true:=by rw [beq_iff_eq];omega
      have hP:pairS l0 x y=(!segHas (sgP (edS l0 y)) (ptP (edS l0 x).f1) && !segHas (sgP (edS l0 x)) (ptP (edS l0 y).f0)):=by unfold pairS;rw [if_neg d1,if_neg d2,if_pos ⟨d3,d4⟩]
      have HJ:=iJoined (k:=2) (by omega) (edS l0 y).f0.f0 (edS l0 y).f0.f1 (edS l0 y).f1.f0 (edS l0 y).f1.f1 (edS l0 x).f0.f0 (edS l0 x).f0.f1 (edS l0 x).f1.f0 (edS l0 x).f1.f1;replace HJ:=HJ.trans (congrArg some hP.symm);clear d3 d4
      cases hb:pairS l0 x y with
      | true =>
       rw [hb] at HJ;clear hP;gi_wp2_with (refine⟨trivial,?_⟩;gi_at_call 111;refine (CallsIn.inRound l2 (callsIn_wide.2 (impl_joined.calls 2 _ _ _ _ _ _ _ _ true _ HJ))).mono ?_;rintro e w1 ⟨rfl,hb1⟩;have cR1:=(box_later bR hb1).cell;have fR1:=(box_later bR hb1).frozen);exact⟨keeps_below hb1,KpE.below hb1,⟨⟨⟨⟨⟨⟨fun z hz=>(List.mem_append.1 hz).elim (hq z) (fun e=>by simp at e;subst e;exact hb),box_later bR hb1⟩,box_later bL hb1⟩,box_later b5 hb1⟩,box_later bI hb1⟩,blk_later bX hb1⟩,blk_later hK hb1⟩,⟨below_row hB (Nat.le_refl _) hb1,hE.trans (KpE.below hb1)⟩,hF.trans (keeps_below hb1)⟩
      | false =>
       rw [hb] at HJ;clear hP;gi_wp2_with (refine⟨trivial,?_⟩;gi_at_call 111;refine (CallsIn.inRound l2 (callsIn_wide.2 (impl_joined.calls 2 _ _ _ _ _ _ _ _ false _ HJ))).mono ?_;rintro e w1 ⟨rfl,hb1⟩;have cR1:=(box_later bR hb1).cell;have fR1:=(box_later bR hb1).frozen);exact⟨(keeps_below hb1).trans ((KeepsOthers.setCell _ _ _).from _),⟨⟨⟨rfl,y,hb⟩,(box_later bR hb1).set _⟩,blk_set (blk_later hK hb1) rfl (box_later bR hb1) _⟩,(below_row hB (Nat.le_refl _) hb1).setCell (p:=⟨w.heap.size+1,0,none⟩) (by simp) _,(hF.trans (keeps_below hb1)).trans ((KeepsOthers.setCell _ _ _).from _)⟩
     ·
      have t4:(((y:Nat):Int)==(l0.length:Int)-1)=false:=by rw [beq_eq_false_iff_ne];omega
      have hP:pairS l0 x y = !segMeet (sgP (edS l0 x)) (sgP (edS l0 y)):=by unfold pairS;rw [if_neg d1,if_neg d2,if_neg (fun h=>d4 h.2)]
      have HJ:=iSegMeet (k:=3) (by omega) (edS l0 x).f0.f0 (edS l0 x).f0.f1 (edS l0 x).f1.f0 (edS l0 x).f1.f1 (edS l0 y).f0.f0 (edS l0 y).f0.f1 (edS l0 y).f1.f0 (edS l0 y).f1.f1;clear d3
      cases hb0:segMeet (sgP (edS l0 x)) (sgP (edS l0 y)) with
      | false =>
       have hb:pairS l0 x y=true:=by rw [hP,hb0];rfl
       replace HJ:=HJ.trans (congrArg some hb0);clear hP hb0;gi_wp2_with (refine⟨trivial,?_⟩;gi_at_call 112;refine (CallsIn.inRound l2 (callsIn_wide.2 (impl_SegMeet.calls 3 _ _ _ _ _ _ _ _ false _ HJ))).mono ?_;rintro e w1 ⟨rfl,hb1⟩;have cR1:=(box_later bR hb1).cell;have fR1:=(box_later bR hb1).frozen);exact⟨keeps_below hb1,KpE.below hb1,⟨⟨⟨⟨⟨⟨fun z hz=>(List.mem_append.1 hz).elim (hq z) (fun e=>by simp at e;subst e;exact hb),box_later bR hb1⟩,box_later bL hb1⟩,box_later b5 hb1⟩,box_later bI hb1⟩,blk_later bX hb1⟩,blk_later hK hb1⟩,⟨below_row hB (Nat.le_refl _) hb1,hE.trans (KpE.below hb1)⟩,hF.trans (keeps_below hb1)⟩
      | true =>
       have hb:pairS l0 x y=false:=by rw [hP,hb0];rfl
       replace HJ:=HJ.trans (congrArg some hb0);clear hP hb0;gi_wp2_with (refine⟨trivial,?_⟩;gi_at_call 112;refine (CallsIn.inRound l2 (callsIn_wide.2 (impl_SegMeet.calls 3 _ _ _ _ _ _ _ _ true _ HJ))).mono ?_;rintro e w1 ⟨rfl,hb1⟩;have cR1:=(box_later bR hb1).cell;have fR1:=(box_later bR hb1).frozen);exact⟨(keeps_below hb1).trans ((KeepsOthers.setCell _ _ _).from _),⟨⟨⟨rfl,y,hb⟩,(box_later bR hb1).set _⟩,blk_set (blk_later hK hb1) rfl (box_later bR hb1) _⟩,(below_row hB (Nat.le_refl _) hb1).setCell (p:=⟨w.heap.size+1,0,none⟩) (by simp) _,(hF.trans (keeps_below hb1)).trans ((KeepsOthers.setCell _ _ _).from _)⟩
    have t3:(((x:Nat):Int)==0)=false:=by rw [beq_eq_false_iff_ne];omega
    have hP:pairS l0 x y = !segMeet (sgP (edS l0 x)) (sgP (edS l0 y)):=by unfold pairS;rw [if_neg d1,if_neg d2,if_neg (fun h=>d3 h.1)]
    have HJ:=iSegMeet (k:=3) (by omega) (edS l0 x).f0.f0 (edS l0 x).f0.f1 (edS l0 x).f1.f0 (edS l0 x).f1.f1 (edS l0 y).f0.f0 (edS l0 y).f0.f1 (edS l0 y).f1.f0 (edS l0 y).f1.f1
    cases hb0:segMeet (sgP (edS l0 x)) (sgP (edS l0 y)) with
    | false =>
     have hb:pairS l0 x y=true:=by rw [hP,hb0];rfl
     replace HJ:=HJ.trans (congrArg some hb0);clear hP hb0;gi_wp2_with (refine⟨trivial,?_⟩;gi_at_call 112;refine (CallsIn.inRound l2 (callsIn_wide.2 (impl_SegMeet.calls 3 _ _ _ _ _ _ _ _ false _ HJ))).mono ?_;rintro e w1 ⟨rfl,hb1⟩;have cR1:=(box_later bR hb1).cell;have fR1:=(box_later bR hb1).frozen);exact⟨keeps_below hb1,KpE.below hb1,⟨⟨⟨⟨⟨⟨fun z hz=>(List.mem_append.1 hz).elim (hq z) (fun e=>by simp at e;subst e;exact hb),box_later bR hb1⟩,box_later bL hb1⟩,box_later b5 hb1⟩,box_later bI hb1⟩,blk_later bX hb1⟩,blk_later hK hb1⟩,⟨below_row hB (Nat.le_refl _) hb1,hE.trans (KpE.below hb1)⟩,hF.trans (keeps_below hb1)⟩
    | true =>
     have hb:pairS l0 x y=false:=by rw [hP,hb0];rfl
     replace HJ:=HJ.trans (congrArg some hb0);clear hP hb0;gi_wp2_with (refine⟨trivial,?_⟩;gi_at_call 112;refine (CallsIn.inRound l2 (callsIn_wide.2 (impl_SegMeet.calls 3 _ _ _ _ _ _ _ _ true _ HJ))).mono ?_;rintro e w1 ⟨rfl,hb1⟩;have cR1:=(box_later bR hb1).cell;have fR1:=(box_later bR hb1).frozen);exact⟨(keeps_below hb1).trans ((KeepsOthers.setCell _ _ _).from _),⟨⟨⟨rfl,y,hb⟩,(box_later bR hb1).set _⟩,blk_set (blk_later hK hb1) rfl (box_later bR hb1) _⟩,(below_row hB (Nat.le_refl _) hb1).setCell (p:=⟨w.heap.size+1,0,none⟩) (by simp) _,(hF.trans (keeps_below hb1)).trans ((KeepsOthers.setCell _ _ _).from _)⟩
   case done3 =>
    rintro ys' W' rfl ⟨⟨⟨⟨⟨⟨⟨hq,bR⟩,bL⟩,b5⟩,bI⟩,bX⟩,hK⟩,⟨hB,hE⟩,hF⟩;gi_wp2;exact⟨hF,hE,⟨⟨⟨⟨fun z hz j hj=>(List.mem_append.1 hz).elim (fun hm=>hp z hm j hj) (fun e=>by simp at e;subst e;exact hq ⟨j,hj⟩ (List.mem_finRange _)),bR⟩,bL⟩,b5⟩,hK⟩,hB⟩
   case stop3 =>
    rintro c pre' W' hpre ⟨⟨⟨⟨rfl,y,hy⟩,bR⟩,hK⟩,hB,hF⟩;gi_wp2;exact⟨hF,⟨⟨⟨rfl,x,y,x.2,y.2,hy⟩,bR⟩,hK⟩,hB⟩
  case stop2 =>
   rintro D2 c pre W hD2 _ ⟨⟨⟨⟨rfl,i,j,hi,hj,hs⟩,bR1⟩,hK⟩,hB1⟩ hK2;obtain rfl:r=false:=by
    cases r with
    | false=>rfl
    | true=>have:=(hS'.out.1 rfl).2.2.2 i j hi hj;rw [hs] at this;cases this
   gi_wp2;have hD1:∀ E∈[D2,D],W.heap[E]?=some (.deferred (some [])):=by
    intro E hE;simp at hE
    rcases hE with rfl | rfl
    ·
     exact hK2
    ·
     exact hK
   refine leavesM_marks [D2,D] W (by simp;omega) hD1 (fun w' h1 h2 h3 h4 h5=>?_);have hc5:=(marks_boxed bR1 hD1 h1).cell;refine⟨.bool false,?_,rfl,marks_below hB1 (by simp;omega) h1 h2 h3 h4 h5⟩;simp [results,Tryd.f93,go_sem,hc5]
  case done2 =>
   rintro D2 ys W hD2 rfl ⟨⟨⟨⟨⟨hp,bR1⟩,bL1⟩,b5⟩,hK⟩,hB1⟩ hK2;obtain rfl:r=true:=hS'.out.2 ⟨by omega,by omega,hok,fun i j hi hj=>hp ⟨i,hi⟩ (List.mem_finRange _) j hj⟩;have cR:=bR1.cell;have fR:=bR1.frozen;gi_wp2;have hD1:∀ E∈[D2,D],(W.setCell ⟨w.heap.size+1,0,none⟩ (.bool true)).heap[E]?=some (.deferred (some [])):=by
    intro E hE;simp at hE
    rcases hE with rfl | rfl
    ·
     exact blk_set hK2 rfl bR1 _
    ·
     exact blk_set hK rfl bR1 _
   refine leavesM_marks [D2,D] _ (by simp;omega) hD1 (fun w' h1 h2 h3 h4 h5=>?_);have hc5:=(marks_boxed (bR1.set (.bool true)) hD1 h1).cell;refine⟨.bool true,?_,rfl,marks_below (hB1.setCell (p:=⟨w.heap.size+1,0,none⟩) (by simp) _) (by simp;omega) h1 h2 h3 h4 h5⟩;simp [results,Tryd.f93,go_sem,hc5]
end Go.Proofs.YtkefmnmoaomlhaaDoor.X
end
section
set_option linter.unusedVariables false
set_option linter.unusedSimpArgs false
namespace Go.Proofs.YtkefmnmoaomlhaaDoor.X
open Go.RowKit Go.Shelf Go.Proofs.YtkefmnmoaomlhaaDoorW.PrintWords Go.Proofs.YtkefmnmoaomlhaaDoorW.PrintLast Go.Proofs.YtkefmnmoaomlhaaDoorW.PrintMore
def CellsKept (W W':World):Prop:=∀ (k:Nat) (cs:Array Value) (t:TypeId) (fr:Nat × Nat),W.heap[k]?=some (Obj.cells cs t fr)→W'.heap[k]?=some (Obj.cells cs t fr)
theorem CellsKept.grown {W W':World}{row:Option Nat}(hg:W.grownBy W' row)(hr:∀ r,row=some r→∃ o,W.heap[r]?=some o∧o.isCells=false):CellsKept W W':=fun k cs t fr h =>
 (hg.block k (Array.getElem?_eq_some_iff.1 h).1 (fun e=>by obtain⟨o,ho,hc⟩:=hr k e.symm;rw [h] at ho;cases ho;cases hc)).trans h
theorem CellsKept.marks {W W':World}{Ds:List Nat}(hD:∀ D∈Ds,W.heap[D]?=some (.deferred (some [])))(h1:∀ k,k ∉ Ds→W'.heap[k]?=W.heap[k]?):CellsKept W W':=fun k cs t fr h =>
 (h1 k (fun e=>by have:=(hD k e).symm.trans h;cases this)).trans h
theorem CellsKept.below {W W':World}(hb:Below W.heap.size W W'):CellsKept W W':=fun k cs t fr h=>blk_later h hb
theorem Built.kept {w W W':World}{n₀ bb:Nat}{bs:List Nat}{A0:Option Addr}{c0:Nat}{o:List S28}{H:List (List S28)}{v:Value}(h:Built w W n₀ bb bs A0 c0 o H v)(k:CellsKept W W'):Built w W' n₀ bb bs A0 c0 o H v:=
 ⟨k _ _ _ _ h.body,h.lo,h.len,h.nd,fun j hj=>by obtain⟨l,A,c,k1,k2,k3⟩:=h.ring j hj;exact⟨l,A,c,k _ _ _ _ k1,k2,k3⟩⟩
theorem R_kept {α:Type}{d:Kd α}{e:Nat}{W W':World}{base:Nat}{ok:Nat→Prop}{v:Value}{xs:List α}(h:d.R e W base ok v xs)(k:CellsKept W W'):d.R e W' base ok v xs:=
 Kd.R_mono (Kd.R_move (Kd.R_bound h) (fun j hj=>by obtain⟨_,_,_,q,_,cells,hc⟩:=hj;exact (k _ _ _ _ hc).trans hc.symm)) (fun _ hk=>hk.1)
theorem box_kept {W W':World}{B:Nat}{t:TypeId}{v:Value}(h:Boxed W B t v)(k:CellsKept W W'):Boxed W' B t v:=k _ _ _ _ h
theorem R_ne {W:World}{base:Nat}{ok:Nat→Prop}{v:Value}{xs:List S61}(h:Kd.R k61 61 W base ok v xs){g t:Nat}{cs:Array Value}(hg:W.heap[g]?=some (.cells cs t (0,0)))(ht:t≠61):some g≠v.ownBlock:=fun e=>by
 obtain⟨_,inner,ho,_⟩:=h;obtain⟨cells,hc⟩:=own_typed ho g e.symm;rw [hg] at hc;injection hc with hc;injection hc with _ hc;exact ht hc
theorem R_lo {W:World}{base:Nat}{ok:Nat→Prop}{v:Value}{xs:List S61}(h:Kd.R k61 61 W base ok v xs){k:Nat}(hk:v.ownBlock=some k):base≤k:=by
 obtain⟨_,inner,ho,_⟩:=h;exact own_base ho k hk
theorem R_hi {W:World}{base:Nat}{ok:Nat→Prop}{v:Value}{xs:List S61}(h:Kd.R k61 61 W base ok v xs){k:Nat}(hk:v.ownBlock=some k):k<W.heap.size:=by
 obtain⟨_,inner,ho,_⟩:=h;exact own_lt ho k hk
theorem R_nc {W:World}{base:Nat}{ok:Nat→Prop}{v:Value}{xs:List S61}(h:Kd.R k61 61 W base ok v xs){k:Nat}{ob:Obj}(hk:W.heap[k]?=some ob)(hc:ob.isCells=false):some k≠v.ownBlock:=fun e=>by
 obtain⟨_,inner,ho,_⟩:=h;obtain⟨cells,hcs⟩:=own_typed ho k e.symm;rw [hk] at hcs;cases hcs;cases hc
theorem R_body {W:World}{base:Nat}{v:Value}{xs:List S61}{bb:Nat}{cs:Array Value}(h:Kd.R k61 61 W base (fun _=>True) v xs)(hb:W.heap[bb]?=some (.cells cs 109 (0,0)))(u:Value):Kd.R k61 61 (W.setCell ⟨bb,2,none⟩ u) base (fun _=>True) v xs:=
 Kd.R_mono (Kd.R_far (Kd.R_types h hb (by decide)) (fun k hk=>hk.2) u) (fun _ _=>trivial)
theorem Built.rings {w W:World}{n₀ bb:Nat}{bs:List Nat}{A0:Option Addr}{c0:Nat}{o:List S28}{H:List (List S28)}{v:Value}(h:Built w W n₀ bb bs A0 c0 o H v)(ho:Kd.C k28 w A0 o.length o)(i:Nat)(hi:i<(o::H).length):
  ∃ A c,W.cell? ⟨(bb::bs).getD i 0,0,none⟩=some (.slice A ((o::H).getD i []).length c)∧W.cell? ⟨(bb::bs).getD i 0,1,none⟩=some (.pointer (ptrAt (bb::bs) (i+1)))∧Kd.C k28 w A ((o::H).getD i []).length ((o::H).getD i []):=by
 cases i with
 | zero=>exact⟨A0,c0,(blk_cell h.body 0).trans rfl,(blk_cell h.body 1).trans rfl,ho⟩
 | succ i =>
  obtain⟨l,A,c,k1,k2,k3⟩:=h.ring i (by simpa using hi);exact⟨A,c,(blk_cell k1 0).trans rfl,(blk_cell k1 1).trans rfl,k2⟩
theorem Built.put {w W w1:World}{n₀ bb:Nat}{bs:List Nat}{A0:Option Addr}{c0:Nat}{o:List S28}{H:List (List S28)}{v v1:Value}(h:Built w W n₀ bb bs A0 c0 o H v)(hg:W.grownBy w1 v.ownBlock)
  (hne:∀ (g:Nat) (t:TypeId) (cs:Array Value),W.heap[g]?=some (Obj.cells cs t (0,0))→t≠61→some g≠v.ownBlock):Built w (w1.setCell ⟨bb,2,none⟩ v1) n₀ bb bs A0 c0 o H v1:=by
 have hk:∀ (g:Nat) (t:TypeId) (cs:Array Value),W.heap[g]?=some (Obj.cells cs t (0,0))→t≠61→w1.heap[g]?=some (Obj.cells cs t (0,0)):=fun g t cs hgc ht=>(hg.block g (Array.getElem?_eq_some_iff.1 hgc).1 (hne g t cs hgc ht)).trans hgc
 refine⟨blk_put (cs:=#[.slice A0 o.length c0,.pointer (ptrAt bs 0),v]) (hk _ _ _ h.body (by decide)) 2 v1 rfl,h.lo,h.len,h.nd,fun j hj=>?_⟩;obtain⟨l,A,c,k1,k2,k3⟩:=h.ring j hj;refine⟨l,A,c,?_,k2,k3⟩;rw [Below.heap_setCell _ ⟨bb,2,none⟩ _ _ ?_]
 ·
  exact hk _ _ _ k1 (by decide)
 ·
  intro e;have:=h.nd;rw [List.nodup_cons] at this;refine this.1 ?_;rw [← (show bs.getD j 0=bb from e),getD_lt (by rw [h.len];exact hj)];exact List.getElem_mem _
end Go.Proofs.YtkefmnmoaomlhaaDoor.X
end
