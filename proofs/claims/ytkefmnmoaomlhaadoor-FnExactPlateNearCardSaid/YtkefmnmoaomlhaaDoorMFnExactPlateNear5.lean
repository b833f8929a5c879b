/- FnExactPlateNear: the law returns true for every input, and each input reads behind the call as before; part 5 of 5. No condition. Merged by program out of: FLawsSzPtS, Exact, FLawsMarkPtS, Mark, Step, HExactNear, OpenPl, LawFnExactPlateNear. -/
import Derived.Test.YtkefmnmoaomlhaaDoorMFnExactPlateNear4
import Derived.Deep.SlicePairs
import Derived.OpenShut
import Derived.ShutString
import Derived.ChangeOld
import Derived.Lib.SmallJoins
import Derived.WalkKit
import Derived.ProofKit
import Derived.Below
import Derived.SizedLaws
import Derived.SevenTiedAt
set_option linter.all false
section
namespace Go.Proofs.YtkefmnmoaomlhaaDoor.X
open Go.RowKit Go.Proofs.YtkefmnmoaomlhaaDoorW.PrintWords Go.Proofs.YtkefmnmoaomlhaaDoorW.PrintLast Go.Proofs.YtkefmnmoaomlhaaDoorW.PrintMore
attribute [local go_sem] max2_int min2_int max_two min_two max_three min_three max_four min_four
set_option linter.unusedVariables false
set_option linter.unusedSimpArgs false
def laws_szPtS.f (l0:List (S45))(a1:Int):Option (Int):=if (wrap64 (a1-(l0.length:Int)))<0 then (some (-1)) else (some (wrap64 (a1-(l0.length:Int))))
set_option maxHeartbeats 8000000 in
set_option maxRecDepth 100000 in
theorem laws_szPtS.calls (A0:Option Addr)(c0:Nat)(l0:List (S45))(a1:Int)(r:Int)(w:World)(hr0:Kd.C k45 w A0 l0.length l0)(hc0:l0.length≤c0)(h:laws_szPtS.f l0 a1=some r):
  Calls Tryd.prog 63 #[.slice A0 l0.length c0,.int .i64 a1] w fun e w'=>e=.returned (.int .i64 r)∧Drawn0 w w':=by
 have HR0:=Aside0.mk hr0;have HC0:=Aside0.mk hc0;clear hr0 hc0;have H:(if (wrap64 (a1-(l0.length:Int)))<0 then (some (-1)) else (some (wrap64 (a1-(l0.length:Int)))))=some r:=h;clear h;by_cases c3:(wrap64 (a1-(l0.length:Int)))<0
 ·
  rw [if_pos c3] at H;have c3b0:decide ((wrap64 (a1-(l0.length:Int)))<0)=true:=decide_eq_true c3;clear c3;obtain rfl:=Option.some.inj H;go_enter Tryd.func63,Tryd.ntmps63;go_wp2;go_ret;exact⟨by first | rfl | (simp;done) | (simp [*];done),by repeat (first | exact Drawn0.refl _ | apply Drawn0.step)⟩
 ·
  rw [if_neg c3] at H;have c3b0:decide ((wrap64 (a1-(l0.length:Int)))<0)=false:=decide_eq_false c3;clear c3;obtain rfl:=Option.some.inj H;go_enter Tryd.func63,Tryd.ntmps63;go_wp2;go_ret;exact⟨by first | rfl | (simp;done) | (simp [*];done),by repeat (first | exact Drawn0.refl _ | apply Drawn0.step)⟩
def laws_szPtSS.l0:Nat→List (List (S45))→Int→Int→Option (Int)
 | 0,_,_,_=>none
 | k+1,x0,x1,x5=>if x5<(x0.length:Int) then (if 0≤x5 then ((laws_szPtS.f (rd_L10 x0 x5) x1).bind fun t440=>(if t440<0 then (some (-1)) else (laws_szPtSS.l0 k x0 t440 (wrap64 (x5+1))))) else (none)) else (some x1)
def laws_szPtSS.f (k:Nat)(l0:List (List (S45)))(a1:Int):Option (Int):=if (wrap64 (a1-(l0.length:Int)))<0 then (some (-1)) else (laws_szPtSS.l0 k l0 (wrap64 (a1-(l0.length:Int))) 0)
set_option maxHeartbeats 8000000 in
set_option maxRecDepth 100000 in
theorem laws_szPtSS.calls (k:Nat)(A0:Option Addr)(c0:Nat)(l0:List (List (S45)))(a1:Int)(r:Int)(w:World)(hr0:Kd.C (Kd.slice 45 k45) w A0 l0.length l0)(hc0:l0.length≤c0)(h:laws_szPtSS.f k l0 a1=some r):
  Calls Tryd.prog 64 #[.slice A0 l0.length c0,.int .i64 a1] w fun e w'=>e=.returned (.int .i64 r)∧Drawn0 w w':=by
 have HR0:=Aside0.mk hr0;have HC0:=Aside0.mk hc0;clear hr0 hc0;have H:(if (wrap64 (a1-(l0.length:Int)))<0 then (some (-1)) else (laws_szPtSS.l0 k l0 (wrap64 (a1-(l0.length:Int))) 0))=some r:=h;clear h;by_cases c3:(wrap64 (a1-(l0.length:Int)))<0
 ·
  rw [if_pos c3] at H;have c3b0:decide ((wrap64 (a1-(l0.length:Int)))<0)=true:=decide_eq_true c3;clear c3;obtain rfl:=Option.some.inj H;go_enter Tryd.func64,Tryd.ntmps64;go_wp2;go_ret;exact⟨by first | rfl | (simp;done) | (simp [*];done),by repeat (first | exact Drawn0.refl _ | apply Drawn0.step)⟩
 ·
  rw [if_neg c3] at H;have c3b0:decide ((wrap64 (a1-(l0.length:Int)))<0)=false:=decide_eq_false c3;clear c3;have H':=Aside0.mk H;clear H;go_enter Tryd.func64,Tryd.ntmps64;go_wp2;go_loopg [1,5] k (fun kq v1 v5 w'=>∃ (x1_1:Int) (x5_1:Int),v1=.int .i64 x1_1∧v5=.int .i64 x5_1∧Aside0 (laws_szPtSS.l0 kq l0 x1_1 x5_1=some r)∧Aside0 (kq≤k)∧Drawn0 w w')
  case atStart=>exact⟨(wrap64 (a1-(l0.length:Int))),(0),(by first | rfl | (simp;done) | (simp [*];done)),(by first | rfl | (simp;done) | (simp [*];done)),H',⟨Nat.le_refl _⟩,by repeat (first | exact Drawn0.refl _ | apply Drawn0.step)⟩
  case round =>
   clear H';obtain⟨x1_1,x5_1,rfl,rfl,HA,HK1,⟨m1,rfl⟩⟩:=hrel
   cases gk with
   | zero=>exact absurd HA.out (by simp [laws_szPtSS.l0])
   | succ k1 =>
    have H:=HA.out;clear HA;simp only [laws_szPtSS.l0] at H;by_cases c4:x5_1<(l0.length:Int)
    ·
     rw [if_pos c4] at H;have c4b0:decide (x5_1<(l0.length:Int))=true:=decide_eq_true c4;clear c4;by_cases c5:0≤x5_1
     ·
      rw [if_pos c5] at H;have c5b0:decide (0≤x5_1)=true:=decide_eq_true c5;clear c5;replace H:=Option.bind_eq_some_iff.mp H;obtain⟨t440,A60,H⟩:=H
      (try dsimp only at H)
      have A6:=Aside0.mk A60;clear A60;by_cases c7:t440<0
      ·
       rw [if_pos c7] at H;have c7b0:decide (t440<0)=true:=decide_eq_true c7;clear c7;obtain rfl:=Option.some.inj H;have p439:0≤(x5_1:Int):=od_;have q439:x5_1<(l0.length:Int):=od_;obtain⟨ad439,A439_0,c439_0,e439,hx439_0,hl439_0,hi439_0⟩:=at_L10 HR0.out x5_1 p439 q439;cases e439;have HR439_0:=Aside0.mk hi439_0;have HC439_0:=Aside0.mk hl439_0;clear hi439_0 hl439_0;replace p439:=eq_true p439;replace q439:=eq_true q439;go_wp2_with (first | ((with_reducible refine gate_callee (f:=63) rfl ?_);refine gL_ (some 23) Tryd.func63 #[.slice A439_0 (rd_L10 l0 x5_1).length c439_0,.int .i64 x1_1] (h:=?_);(with_reducible refine (laws_szPtS.calls _ _ (rd_L10 l0 x5_1) x1_1 t440 _ ?side1 ?side2 A6.out).mono ?_);(case side1=>repeat (first | exact HR439_0.out | (with_reducible refine Kd.C_alloc ?_ _) | (with_reducible refine Kd.C_drewN ?_ _) | (with_reducible refine Kd.C_drew ?_)));(case side2=>exact HC439_0.out);rintro e w' ⟨rfl,⟨nd,rfl⟩⟩;refine⟨_,rfl,?_⟩));go_ret;exact⟨by first | rfl | (simp;done) | (simp [*];done),by repeat (first | exact Drawn0.refl _ | apply Drawn0.step)⟩
      ·
       rw [if_neg c7] at H;have c7b0:decide (t440<0)=false:=decide_eq_false c7;clear c7;have H':=Aside0.mk H;clear H;have p439:0≤(x5_1:Int):=od_;have q439:x5_1<(l0.length:Int):=od_;obtain⟨ad439,A439_0,c439_0,e439,hx439_0,hl439_0,hi439_0⟩:=at_L10 HR0.out x5_1 p439 q439;cases e439;have HR439_0:=Aside0.mk hi439_0;have HC439_0:=Aside0.mk hl439_0;clear hi439_0 hl439_0;replace p439:=eq_true p439;replace q439:=eq_true q439;go_wp2_with (first | ((with_reducible refine gate_callee (f:=63) rfl ?_);refine gL_ (some 23) Tryd.func63 #[.slice A439_0 (rd_L10 l0 x5_1).length c439_0,.int .i64 x1_1] (h:=?_);(with_reducible refine (laws_szPtS.calls _ _ (rd_L10 l0 x5_1) x1_1 t440 _ ?side1 ?side2 A6.out).mono ?_);(case side1=>repeat (first | exact HR439_0.out | (with_reducible refine Kd.C_alloc ?_ _) | (with_reducible refine Kd.C_drewN ?_ _) | (with_reducible refine Kd.C_drew ?_)));(case side2=>exact HC439_0.out);rintro e w' ⟨rfl,⟨nd,rfl⟩⟩;refine⟨_,rfl,?_⟩));go_roundg k1
       case measure=>have:=HK1.out;omega
       case rel=>exact⟨(t440),(wrap64 (x5_1+1)),(by first | rfl | (simp;done) | (simp [*];done)),(by first | rfl | (simp;done) | (simp [*];done)),H',⟨by have:=HK1.out;omega⟩,by repeat (first | exact Drawn0.refl _ | apply Drawn0.step)⟩
     ·
      rw [if_neg c5] at H;exact absurd H (by simp)
    ·
     rw [if_neg c4] at H;have c4b0:decide (x5_1<(l0.length:Int))=false:=decide_eq_false c4;clear c4;obtain rfl:=Option.some.inj H;go_wp2;go_ret;exact⟨by first | rfl | (simp;done) | (simp [*];done),by repeat (first | exact Drawn0.refl _ | apply Drawn0.step)⟩
def laws_szPlate.f (k:Nat)(l0_0:List (S45))(l0_1:List (List (S45)))(a1:Int):Option (Int):=(laws_szPtS.f l0_0 a1).bind fun t442=>(if t442<0 then (some (-1)) else ((laws_szPtSS.f k l0_1 t442).bind fun t443=>(if t443<0 then (some (-1)) else (some t443))))
set_option maxHeartbeats 8000000 in
set_option maxRecDepth 100000 in
theorem laws_szPlate.calls (k:Nat)(A0_0:Option Addr)(c0_0:Nat)(l0_0:List (S45))(A0_1:Option Addr)(c0_1:Nat)(l0_1:List (List (S45)))(a1:Int)(r:Int)(w:World)(hr0_0:Kd.C k45 w A0_0 l0_0.length l0_0)(hc0_0:l0_0.length≤c0_0)(hr0_1:Kd.C (Kd.slice 45 k45) w A0_1 l0_1.length l0_1)(hc0_1:l0_1.length≤c0_1)(h:laws_szPlate.f k l0_0 l0_1 a1=some r):
  Calls Tryd.prog 24 #[.agg #[.slice A0_0 l0_0.length c0_0,.slice A0_1 l0_1.length c0_1],.int .i64 a1] w fun e w'=>e=.returned (.int .i64 r)∧Below w.heap.size w w':=by
 have hu44:=Tryd.underlying44;have HR0_0:=Aside0.mk hr0_0;have HC0_0:=Aside0.mk hc0_0;clear hr0_0 hc0_0;have HR0_1:=Aside0.mk hr0_1;have HC0_1:=Aside0.mk hc0_1;clear hr0_1 hc0_1;have HB:=a0_ (Below.refl w.heap.size w);have H:((laws_szPtS.f l0_0 a1).bind fun t442=>(if t442<0 then (some (-1)) else ((laws_szPtSS.f k l0_1 t442).bind fun t443=>(if t443<0 then (some (-1)) else (some t443)))))=some r:=h;clear h;replace H:=Option.bind_eq_some_iff.mp H;obtain⟨t442,A30,H⟩:=H
 (try dsimp only at H)
 have A3:=Aside0.mk A30;clear A30;by_cases c4:t442<0
 ·
  rw [if_pos c4] at H;have c4b0:decide (t442<0)=true:=decide_eq_true c4;clear c4;obtain rfl:=Option.some.inj H;go_enter Tryd.func24,Tryd.ntmps24;go_wp2_with (first | ((with_reducible refine gate_dst (N:=2) rfl ?_);refine bx_ (N:=2) (cs:=#[.slice A0_0 l0_0.length c0_0,.slice A0_1 l0_1.length c0_1]) (t:=44) (h:=?_);intro gb441 hg w5 hbox hb;have BK441:=a0_ (hbox);have GW441:=gh_ HB hg;have GE441:=gh_ HB hg;replace HB:=sb_ HB hb;clear hb hbox hg;have hcz6_0:=c20_ BK441;have hcz6_1:=c21_ BK441;have hfz6_0:=fz_ BK441 0;have hfz6_1:=fz_ BK441 1) | ((with_reducible refine gate_callee (f:=63) rfl ?_);refine gL_ (some 8) Tryd.func63 #[.slice A0_0 l0_0.length c0_0,.int .i64 a1] (h:=?_);(with_reducible refine (laws_szPtS.calls _ _ l0_0 a1 t442 _ ?side1 ?side2 A3.out).mono ?_);(case side1=>repeat (first | exact (Kd.C_below HR0_0.out HB.out) | (with_reducible refine Kd.C_alloc ?_ _) | (with_reducible refine Kd.C_drewN ?_ _) | (with_reducible refine Kd.C_drew ?_)));(case side2=>exact HC0_0.out);rintro e w' ⟨rfl,⟨nd,rfl⟩⟩;refine⟨_,rfl,?_⟩));go_ret;exact⟨rr_,hB_⟩
 ·
  rw [if_neg c4] at H;have c4b0:decide (t442<0)=false:=decide_eq_false c4;clear c4;replace H:=Option.bind_eq_some_iff.mp H;obtain⟨t443,A70,H⟩:=H
  (try dsimp only at H)
  have A7:=Aside0.mk A70;clear A70;by_cases c8:t443<0
  ·
   rw [if_pos c8] at H;have c8b0:decide (t443<0)=true:=decide_eq_true c8;clear c8;obtain rfl:=Option.some.inj H;go_enter Tryd.func24,Tryd.ntmps24;go_wp2_with (first | ((with_reducible refine gate_dst (N:=2) rfl ?_);refine bx_ (N:=2) (cs:=#[.slice A0_0 l0_0.length c0_0,.slice A0_1 l0_1.length c0_1]) (t:=44) (h:=?_);intro gb441 hg w9 hbox hb;have BK441:=a0_ (hbox);have GW441:=gh_ HB hg;have GE441:=gh_ HB hg;replace HB:=sb_ HB hb;clear hb hbox hg;have hcz10_0:=c20_ BK441;have hcz10_1:=c21_ BK441;have hfz10_0:=fz_ BK441 0;have hfz10_1:=fz_ BK441 1) | ((with_reducible refine gate_callee (f:=63) rfl ?_);refine gL_ (some 8) Tryd.func63 #[.slice A0_0 l0_0.length c0_0,.int .i64 a1] (h:=?_);(with_reducible refine (laws_szPtS.calls _ _ l0_0 a1 t442 _ ?side1 ?side2 A3.out).mono ?_);(case side1=>repeat (first | exact (Kd.C_below HR0_0.out HB.out) | (with_reducible refine Kd.C_alloc ?_ _) | (with_reducible refine Kd.C_drewN ?_ _) | (with_reducible refine Kd.C_drew ?_)));(case side2=>exact HC0_0.out);rintro e w' ⟨rfl,⟨nd,rfl⟩⟩;refine⟨_,rfl,?_⟩) | ((with_reducible refine gate_callee (f:=64) rfl ?_);refine gL_ (some 14) Tryd.func64 #[.slice A0_1 l0_1.length c0_1,.int .i64 t442] (h:=?_);(with_reducible refine (laws_szPtSS.calls k _ _ l0_1 t442 t443 _ ?side1 ?side2 A7.out).mono ?_);(case side1=>repeat (first | exact (Kd.C_below HR0_1.out hB_) | (with_reducible refine Kd.C_alloc ?_ _) | (with_reducible refine Kd.C_drewN ?_ _) | (with_reducible refine Kd.C_drew ?_)));(case side2=>exact HC0_1.out);rintro e w' ⟨rfl,⟨nd,rfl⟩⟩;refine⟨_,rfl,?_⟩));go_ret;exact⟨rr_,hB_⟩
  ·
   rw [if_neg c8] at H;have c8b0:decide (t443<0)=false:=decide_eq_false c8;clear c8;obtain rfl:=Option.some.inj H;go_enter Tryd.func24,Tryd.ntmps24;go_wp2_with (first | ((with_reducible refine gate_dst (N:=2) rfl ?_);refine bx_ (N:=2) (cs:=#[.slice A0_0 l0_0.length c0_0,.slice A0_1 l0_1.length c0_1]) (t:=44) (h:=?_);intro gb441 hg w11 hbox hb;have BK441:=a0_ (hbox);have GW441:=gh_ HB hg;have GE441:=gh_ HB hg;replace HB:=sb_ HB hb;clear hb hbox hg;have hcz12_0:=c20_ BK441;have hcz12_1:=c21_ BK441;have hfz12_0:=fz_ BK441 0;have hfz12_1:=fz_ BK441 1) | ((with_reducible refine gate_callee (f:=63) rfl ?_);refine gL_ (some 8) Tryd.func63 #[.slice A0_0 l0_0.length c0_0,.int .i64 a1] (h:=?_);(with_reducible refine (laws_szPtS.calls _ _ l0_0 a1 t442 _ ?side1 ?side2 A3.out).mono ?_);(case side1=>repeat (first | exact (Kd.C_below HR0_0.out HB.out) | (with_reducible refine Kd.C_alloc ?_ _) | (with_reducible refine Kd.C_drewN ?_ _) | (with_reducible refine Kd.C_drew ?_)));(case side2=>exact HC0_0.out);rintro e w' ⟨rfl,⟨nd,rfl⟩⟩;refine⟨_,rfl,?_⟩) | ((with_reducible refine gate_callee (f:=64) rfl ?_);refine gL_ (some 14) Tryd.func64 #[.slice A0_1 l0_1.length c0_1,.int .i64 t442] (h:=?_);(with_reducible refine (laws_szPtSS.calls k _ _ l0_1 t442 t443 _ ?side1 ?side2 A7.out).mono ?_);(case side1=>repeat (first | exact (Kd.C_below HR0_1.out hB_) | (with_reducible refine Kd.C_alloc ?_ _) | (with_reducible refine Kd.C_drewN ?_ _) | (with_reducible refine Kd.C_drew ?_)));(case side2=>exact HC0_1.out);rintro e w' ⟨rfl,⟨nd,rfl⟩⟩;refine⟨_,rfl,?_⟩));go_ret;exact⟨rr_,hB_⟩
def laws_toPt.f (a0_0:Int)(a0_1:Int):Option (Int × Int):=some (a0_0,a0_1)
set_option maxHeartbeats 8000000 in
set_option maxRecDepth 100000 in
theorem laws_toPt.calls (a0_0:Int)(a0_1:Int)(r1:Int)(r2:Int)(w:World)(h:laws_toPt.f a0_0 a0_1=some (r1,r2)):
  Calls Tryd.prog 27 #[.agg #[.int .i64 a0_0,.int .i64 a0_1]] w fun e w'=>e=.returned (.agg #[.int .i64 r1,.int .i64 r2])∧Below w.heap.size w w':=by
 have hu45:=Tryd.underlying45;have hu28:=Tryd.underlying28;have HB:=a0_ (Below.refl w.heap.size w);have H:(some (a0_0,a0_1))=some (r1,r2):=h;clear h;simp only [Option.some.injEq,Prod.mk.injEq] at H;obtain⟨rfl,rfl⟩:=H;go_enter Tryd.func27,Tryd.ntmps27;go_wp2_with (first | ((with_reducible refine gate_dst (N:=1) rfl ?_);refine bx_ (N:=1) (cs:=#[.int .i64 a0_0,.int .i64 a0_1]) (t:=45) (h:=?_);intro gb476 hg w2 hbox hb;have BK476:=a0_ (hbox);have GW476:=gh_ HB hg;have GE476:=gh_ HB hg;replace HB:=sb_ HB hb;clear hb hbox hg) | ((with_reducible refine gate_dst (N:=2) rfl ?_);refine bx_ (N:=2) (cs:=#[.int .i64 0,.int .i64 0]) (t:=28) (h:=?_);intro gb477 hg w3 hbox hb;have BK477:=a0_ (hbox);have GW477:=gh_ HB hg;have GE477:=gh_ HB hg;have NB476_477:=nl_ BK476 hg;have NB477_476:=nr_ BK476 hg;replace BK476:=vb_ BK476 hb;replace HB:=sb_ HB hb;clear hb hbox hg) | ((with_reducible refine gate_dst (N:=3) rfl ?_);refine bx_ (N:=3) (cs:=#[.int .i64 0,.int .i64 0]) (t:=28) (h:=?_);intro gb478 hg w4 hbox hb;have BK478:=a0_ (hbox);have GW478:=gh_ HB hg;have GE478:=gh_ HB hg;have NB476_478:=nl_ BK476 hg;have NB478_476:=nr_ BK476 hg;have NB477_478:=nl_ BK477 hg;have NB478_477:=nr_ BK477 hg;replace BK476:=vb_ BK476 hb;replace BK477:=vb_ BK477 hb;replace HB:=sb_ HB hb;clear hb hbox hg;have hnb5:=NB476_477.out;have hnc5:=NB477_476.out;have hnb6:=NB476_478.out;have hnc6:=NB478_476.out;have hcz7_0:=c20_ BK476;have hcz7_1:=c21_ BK476;have hfz7_0:=fz_ BK476 0;have hfz7_1:=fz_ BK476 1;have hnb8:=NB478_477.out;have hnc8:=NB477_478.out;have hcz9_0:=c20_ BK478;have hcz9_1:=c21_ BK478;have hfz9_0:=fz_ BK478 0;have hfz9_1:=fz_ BK478 1;have hcz10_0:=c20_ BK477;have hcz10_1:=c21_ BK477;have hfz10_0:=fz_ BK477 0;have hfz10_1:=fz_ BK477 1))
 refine bodyPost_ret (results_cell_row rfl _ _ gb477 28 #[.int .i64 a0_0,.int .i64 a0_1] (0,0) _ rfl (by (with_reducible repeat (first | refine blk_drewN ?_ _ | refine blk_drew ?_ | refine blk_alloc ?_ _));refine blk_put (cs:=#[.int .i64 a0_0,.int .i64 0]) ?_ 1 _ rfl;(with_reducible repeat (first | refine blk_drewN ?_ _ | refine blk_drew ?_ | refine blk_alloc ?_ _));refine blk_put (cs:=#[.int .i64 0,.int .i64 0]) ?_ 0 _ rfl;(with_reducible repeat (first | refine blk_drewN ?_ _ | refine blk_drew ?_ | refine blk_alloc ?_ _));refine blk_far ?_ NB477_478.out _;(with_reducible repeat (first | refine blk_drewN ?_ _ | refine blk_drew ?_ | refine blk_alloc ?_ _));refine blk_far ?_ NB477_478.out _;(with_reducible repeat (first | refine blk_drewN ?_ _ | refine blk_drew ?_ | refine blk_alloc ?_ _));exact BK477.out) Tryd.underlying28 rfl (by kernel_rfl)) rfl ?_;exact⟨rr_,hB_⟩
def laws_toPtS.l0:Nat→List (S45)→List (S28)→Int→Option ((List (S28)))
 | 0,_,_,_=>none
 | k+1,x0,x3,x4=>if x4<(x0.length:Int) then (if 0≤x4 then ((laws_toPt.f ((rd_T45 x0 x4).f0) ((rd_T45 x0 x4).f1)).bind fun bt483=>(if x4<(x3.length:Int) then (laws_toPtS.l0 k x0 (x3.set (x4:Int).toNat (⟨bt483.1,bt483.2⟩:S28)) (wrap64 (x4+1))) else (none))) else (none)) else (some x3)
def laws_toPtS.f (k:Nat)(l0:List (S45)):Option ((List (S28))):=if 0≤(l0.length:Int) then (if ((l0.length:Int):Int).toNat≤17592186044416 then (laws_toPtS.l0 k l0 (List.replicate ((l0.length:Int):Int).toNat z28) 0) else (none)) else (none)
set_option maxHeartbeats 8000000 in
set_option maxRecDepth 100000 in
theorem laws_toPtS.calls (k:Nat)(A0:Option Addr)(c0:Nat)(l0:List (S45))(r:List (S28))(w:World)(hr0:Kd.C k45 w A0 l0.length l0)(hc0:l0.length≤c0)(h:laws_toPtS.f k l0=some r):
  Calls Tryd.prog 67 #[.slice A0 l0.length c0] w fun e w'=>∃ v0_:Value,e=.returned (v0_)∧Kd.R k28 28 w' w.heap.size (fun _=>True) v0_ r∧Below w.heap.size w w':=by
 have hu45:=Tryd.underlying45;have hu28:=Tryd.underlying28;have HR0:=Aside0.mk hr0;have HC0:=Aside0.mk hc0;clear hr0 hc0;have HB:=a0_ (Below.refl w.heap.size w);have H:(if 0≤(l0.length:Int) then (if ((l0.length:Int):Int).toNat≤17592186044416 then (laws_toPtS.l0 k l0 (List.replicate ((l0.length:Int):Int).toNat z28) 0) else (none)) else (none))=some r:=h;clear h;by_cases c2:0≤(l0.length:Int)
 ·
  rw [if_pos c2] at H;have c2b0:=eq_true c2;have c2b1:decide (0≤(l0.length:Int))=true:=decide_eq_true c2;clear c2;by_cases c3:((l0.length:Int):Int).toNat≤17592186044416
  ·
   rw [if_pos c3] at H;have c3b0:=eq_true c3;have c3b1:decide (((l0.length:Int):Int).toNat≤17592186044416)=true:=decide_eq_true c3;clear c3;obtain⟨y479,hy479⟩:∃ y_:List (S28),y_=(List.replicate ((l0.length:Int):Int).toNat z28):=⟨_,rfl⟩;replace H:(laws_toPtS.l0 k l0 y479 0)=some r:=by first | (rw [hy479];with_reducible exact H) | (have H2_:=(Option.bind_some _ _).symm.trans H;rw [hy479];with_reducible exact H2_) | (have H2_:=(Option.bind_some _ _).symm.trans H;with_reducible exact H2_) | with_reducible exact H | (rw [hy479];exact H) | exact H
   have Ny479:=Aside0.mk hy479;clear hy479;have H':=Aside0.mk H;clear H;go_enter Tryd.func67,Tryd.ntmps67;go_wp2_with (first | ((with_reducible refine gate_dst (N:=7) rfl ?_);refine Kd.R_make k28 _ 28 rfl (N:=7) rfl 23 _ _ rfl (l0.length:Int) rfl rfl Tryd.underlying23 (.agg #[(.int .i64 0),(.int .i64 0)]) 16 info28 rfl (by decide) (by omega) z28 (ok:=fun _=>True) (okp:=fun _=>True) (k28_mkM _ _ _ z28 ) (fun _ hk=>hk) trivial (od_) (Nat.le_trans (Nat.mul_le_mul_right _ (od_:(l0.length:Int).toNat≤17592186044416)) (by omega)) (Below.refl _ _) (Nat.le_refl _) ?_;intro v480 w4 ho5 hb hg_ hnew_;clear hg_ hnew_;(first | rw [← Ny479.out] at ho5 | (simp only [Int.reduceToNat] at ho5;rw [← Ny479.out] at ho5));have HO481:=a0_ (Kd.R_lower ho5 (below_size hB_));replace HB:=sb_ HB hb;clear hb ho5));go_loopg [4] k (fun kq v4 w'=>∃ (x3_1:List (S28)) (x4_1:Int),v4=.int .i64 x4_1∧Aside0 (laws_toPtS.l0 kq l0 x3_1 x4_1=some r)∧Aside0 (kq≤k)∧Aside0 (Kd.R k28 28 w' w.heap.size (fun _=>True) v480 x3_1)∧Aside0 (Below w.heap.size w w'))
   case atStart=>exact⟨(y479),(0),(by first | rfl | (simp;done) | (simp [*];done)),H',⟨Nat.le_refl _⟩,⟨by (with_reducible repeat (first | apply Kd.R_alloc | apply Kd.R_drewN | apply Kd.R_drew));exact HO481.out⟩,⟨hB_⟩⟩
   case round =>
    clear H';obtain⟨x3_1,x4_1,rfl,HA,HK1,HO_3,HB⟩:=hrel
    cases gk with
    | zero=>exact absurd HA.out (by simp [laws_toPtS.l0])
    | succ k1 =>
     have H:=HA.out;clear HA;simp only [laws_toPtS.l0] at H;by_cases c6:x4_1<(l0.length:Int)
     ·
      rw [if_pos c6] at H;have c6b0:decide (x4_1<(l0.length:Int))=true:=decide_eq_true c6;clear c6;by_cases c7:0≤x4_1
      ·
       rw [if_pos c7] at H;have c7b0:decide (0≤x4_1)=true:=decide_eq_true c7;clear c7;replace H:=Option.bind_eq_some_iff.mp H;obtain⟨⟨t483,t484⟩,A80,H⟩:=H
       (try dsimp only at H)
       have A8:=Aside0.mk A80;clear A80;by_cases c9:x4_1<(x3_1.length:Int)
       ·
        rw [if_pos c9] at H;have c9b0:decide (x4_1<(x3_1.length:Int))=true:=decide_eq_true c9;clear c9;obtain⟨y485,hy485⟩:∃ y_:List (S28),y_=(x3_1.set (x4_1:Int).toNat (⟨t483,t484⟩:S28)):=⟨_,rfl⟩;replace H:(laws_toPtS.l0 k1 l0 y485 (wrap64 (x4_1+1)))=some r:=by first | (rw [hy485];with_reducible exact H) | (have H2_:=(Option.bind_some _ _).symm.trans H;rw [hy485];with_reducible exact H2_) | (have H2_:=(Option.bind_some _ _).symm.trans H;with_reducible exact H2_) | with_reducible exact H | (rw [hy485];exact H) | exact H
        have Ny485:=Aside0.mk hy485;clear hy485;have H':=Aside0.mk H;clear H;have p482:0≤(x4_1:Int):=od_;have q482:x4_1<(l0.length:Int):=od_;obtain⟨ad482,e482,hx482_0,hx482_1⟩:=at_T45 HR0.out x4_1 p482 q482;cases e482;replace hx482_0:=ce_ HB hx482_0;replace hx482_1:=ce_ HB hx482_1;replace p482:=eq_true p482;replace q482:=eq_true q482
        go_wp2_with (first | ((with_reducible refine gate_callee (f:=27) rfl ?_);refine gL_ (some 20) Tryd.func27 #[.agg #[.int .i64 ((rd_T45 l0 x4_1).f0),.int .i64 ((rd_T45 l0 x4_1).f1)]] (h:=?_);(with_reducible refine (laws_toPt.calls ((rd_T45 l0 x4_1).f0) ((rd_T45 l0 x4_1).f1) t483 t484 _ A8.out).mono ?_);rintro e w11 ⟨rfl,hb⟩;refine⟨_,rfl,?_⟩;replace HO_3:=rb_ HO_3 hb;replace HB:=sb_ HB hb;(try clear hb);have p10:0≤(x4_1:Int):=od_;have q10:(x4_1:Int)<((x3_1.length:Int):Int):=od_;obtain⟨go10,co10,eo10,gb10,gl10,cl10,HG10⟩:=Kd.R_form HO_3.out (by omega);(first | cases eo10 | (injection eo10 with ea_ en_ ec_;(first | subst ea_ | (injection ea_ with ea_;subst ea_));subst ec_;clear en_));have GB10:=Aside0.mk gb10;have GG10:=Aside0.mk HG10;clear gb10 gl10 HG10;obtain⟨ce10,hcl10,hM10,hcc10,hfr10⟩:=Kd.R_elem HO_3.out z28 (x4_1:Int) p10 q10;obtain rfl:=k28_openM hM10;have hx10_0:w11.cell? ⟨go10,(x4_1:Int).toNat*2,none⟩=some (.int .i64 ((rd_T28 x3_1 x4_1).f0)):=hcc10 0 _ rfl;have hx10_1:w11.cell? ⟨go10,(x4_1:Int).toNat*2+1,none⟩=some (.int .i64 ((rd_T28 x3_1 x4_1).f1)):=hcc10 1 _ rfl;have hf10_0:w11.frozen? ⟨go10,(x4_1:Int).toNat*2,none⟩=false:=hfr10 0;have hf10_1:w11.frozen? ⟨go10,(x4_1:Int).toNat*2+1,none⟩=false:=hfr10 1;clear hcl10 hcc10 hfr10;(try clear hM10);replace p10:=eq_true p10;replace q10:=eq_true q10;have HX12:=a0_ (show Kd.R k28 28 w11 w.heap.size (fun _=>True) (.slice (some ⟨go10,0,none⟩) x3_1.length co10) x3_1 from (uR_ HO_3));obtain⟨ce12,hcl12,hM12,hcc12,hfr12⟩:=Kd.R_elem HX12.out z28 (x4_1:Int) (od_) (by have h_:(x4_1:Int)<((x3_1.length:Int):Int):=od_;first | exact h_ | (have e_:=(Kd.R_reads' HO_3.out).1;omega) | simpa using h_);obtain rfl:=k28_openM hM12;have HP12:=Kd.R_seg HX12.out (x4_1:Int) (od_) (by have h_:(x4_1:Int)<((x3_1.length:Int):Int):=od_;first | exact h_ | (have e_:=(Kd.R_reads' HO_3.out).1;omega) | simpa using h_) (seg:=[.int .i64 t483,.int .i64 t484]) (j:=0) hcl12 hcc12 (show 2≤2 from by decide) (x':=(⟨t483,t484⟩:S28)) (k28_mkM _ _ _ (⟨t483,t484⟩:S28) ) (fun _ hk=>hk);have hx12_0:=hcc12 0 _ rfl;(try simp only [show (k28).sz=2 from rfl,Nat.mul_one,Nat.add_zero] at hx12_0);have hf12_0:=hfr12 0;(try simp only [show (k28).sz=2 from rfl,Nat.mul_one,Nat.add_zero] at hf12_0);have hx12_1:=hcc12 1 _ rfl;(try simp only [show (k28).sz=2 from rfl,Nat.mul_one,Nat.add_zero] at hx12_1);have hf12_1:=hfr12 1;(try simp only [show (k28).sz=2 from rfl,Nat.mul_one,Nat.add_zero] at hf12_1);clear hcl12 hcc12 hfr12;(try clear hM12)) | ((with_reducible refine gate_store (t:=28) (p:=21) rfl ?_);refine store_event (t:=28) (p:=21) (v:=?vo_w13) (w1:=((w11.setCell ⟨go10,(x4_1:Int).toNat*2,none⟩ (.int .i64 t483)).setCell ⟨go10,(x4_1:Int).toNat*2+1,none⟩ (.int .i64 t484))) ?hg ?ho ?hn ?hr ?_;(case ho=>rfl);(case hg=>rfl);(case hn=>rfl);(case hr=>first | (go_simp;done) | (go_simp;rfl));intro w13 hw;have hg:w11.grownBy w13 (some go10):=(by rw [hw];exact HP12.2);have hp_:Kd.R k28 28 w13 w.heap.size (fun _=>True) (.slice (some ⟨go10,0,none⟩) x3_1.length co10) y485:=(by rw [hw,Ny485.out];exact HP12.1);clear HP12;replace HO_3:=a0_ (hp_);replace HB:=a0_ ((by rw [hw];exact below_set (below_set (HB.out) GB10.out) GB10.out:Below w.heap.size w w13));clear hg hw hp_))
        go_roundg k1
        case measure=>have:=HK1.out;omega
        case rel=>exact⟨(y485),(wrap64 (x4_1+1)),(by first | rfl | (simp;done) | (simp [*];done)),H',⟨by have:=HK1.out;omega⟩,⟨by (with_reducible repeat (first | apply Kd.R_alloc | apply Kd.R_drewN | apply Kd.R_drew));exact HO_3.out⟩,⟨hB_⟩⟩
       ·
        rw [if_neg c9] at H;exact absurd H (by simp)
      ·
       rw [if_neg c7] at H;exact absurd H (by simp)
     ·
      rw [if_neg c6] at H;have c6b0:decide (x4_1<(l0.length:Int))=false:=decide_eq_false c6;clear c6;obtain rfl:=Option.some.inj H;go_wp2;go_ret;exact⟨_,rr_,by (with_reducible repeat (first | apply Kd.R_alloc | apply Kd.R_drewN | apply Kd.R_drew));exact HO_3.out,hB_⟩
  ·
   rw [if_neg c3] at H;exact absurd H (by simp)
 ·
  rw [if_neg c2] at H;exact absurd H (by simp)
def laws_toPtSS.l0:Nat→List (List (S45))→List (List (S28))→Int→Option ((List (List (S28))))
 | 0,_,_,_=>none
 | k+1,x0,x3,x4=>if x4<(x0.length:Int) then (if 0≤x4 then ((laws_toPtS.f k (rd_L10 x0 x4)).bind fun t490=>(if x4<(x3.length:Int) then (laws_toPtSS.l0 k x0 (x3.set (x4:Int).toNat t490) (wrap64 (x4+1))) else (none))) else (none)) else (some x3)
def laws_toPtSS.f (k:Nat)(l0:List (List (S45))):Option ((List (List (S28)))):=if 0≤(l0.length:Int) then (if ((l0.length:Int):Int).toNat≤11728124029610 then (laws_toPtSS.l0 k l0 (List.replicate ((l0.length:Int):Int).toNat []) 0) else (none)) else (none)
set_option maxHeartbeats 8000000 in
set_option maxRecDepth 100000 in
theorem laws_toPtSS.calls (k:Nat)(A0:Option Addr)(c0:Nat)(l0:List (List (S45)))(r:List (List (S28)))(w:World)(hr0:Kd.C (Kd.slice 45 k45) w A0 l0.length l0)(hc0:l0.length≤c0)(h:laws_toPtSS.f k l0=some r):
  Calls Tryd.prog 68 #[.slice A0 l0.length c0] w fun e w'=>∃ v0_:Value,e=.returned (v0_)∧Kd.S (Kd.slice 28 k28) 23 w' w.heap.size (fun _=>True) v0_ r∧Below w.heap.size w w':=by
 have HR0:=Aside0.mk hr0;have HC0:=Aside0.mk hc0;clear hr0 hc0;have HB:=a0_ (Below.refl w.heap.size w);have H:(if 0≤(l0.length:Int) then (if ((l0.length:Int):Int).toNat≤11728124029610 then (laws_toPtSS.l0 k l0 (List.replicate ((l0.length:Int):Int).toNat []) 0) else (none)) else (none))=some r:=h;clear h;by_cases c2:0≤(l0.length:Int)
 ·
  rw [if_pos c2] at H;have c2b0:=eq_true c2;have c2b1:decide (0≤(l0.length:Int))=true:=decide_eq_true c2;clear c2;by_cases c3:((l0.length:Int):Int).toNat≤11728124029610
  ·
   rw [if_pos c3] at H;have c3b0:=eq_true c3;have c3b1:decide (((l0.length:Int):Int).toNat≤11728124029610)=true:=decide_eq_true c3;clear c3;obtain⟨y486,hy486⟩:∃ y_:List (List (S28)),y_=(List.replicate ((l0.length:Int):Int).toNat []):=⟨_,rfl⟩;replace H:(laws_toPtSS.l0 k l0 y486 0)=some r:=by first | (rw [hy486];with_reducible exact H) | (have H2_:=(Option.bind_some _ _).symm.trans H;rw [hy486];with_reducible exact H2_) | (have H2_:=(Option.bind_some _ _).symm.trans H;with_reducible exact H2_) | with_reducible exact H | (rw [hy486];exact H) | exact H
   have Ny486:=Aside0.mk hy486;clear hy486;have H':=Aside0.mk H;clear H;go_enter Tryd.func68,Tryd.ntmps68;go_wp2_with (first | ((with_reducible refine gate_dst (N:=7) rfl ?_);refine Kd.S_make (Kd.slice 28 k28) _ 23 rfl (N:=7) rfl 24 _ _ rfl (l0.length:Int) rfl rfl Tryd.underlying24 (.slice none 0 0) 24 info23 rfl (by decide) (by omega) [] (ok:=fun _=>True) (okp:=fun _=>True) ⟨_,rfl,Kd.R_nil _ _ _ _ _⟩ (fun _ hk=>hk) trivial (od_) (Nat.le_trans (Nat.mul_le_mul_right _ (od_:(l0.length:Int).toNat≤11728124029610)) (by omega)) (Below.refl _ _) (Nat.le_refl _) ?_;intro v487 w4 ho5 hb hg_ hnew_;clear hg_ hnew_;(first | rw [← Ny486.out] at ho5 | (simp only [Int.reduceToNat] at ho5;rw [← Ny486.out] at ho5));have HO488:=a0_ (Kd.S_lower ho5 (below_size hB_));replace HB:=sb_ HB hb;clear hb ho5));go_loopg [4] k (fun kq v4 w'=>∃ (x3_1:List (List (S28))) (x4_1:Int),v4=.int .i64 x4_1∧Aside0 (laws_toPtSS.l0 kq l0 x3_1 x4_1=some r)∧Aside0 (kq≤k)∧Aside0 (Kd.S (Kd.slice 28 k28) 23 w' w.heap.size (fun _=>True) v487 x3_1)∧Aside0 (Below w.heap.size w w'))
   case atStart=>exact⟨(y486),(0),(by first | rfl | (simp;done) | (simp [*];done)),H',⟨Nat.le_refl _⟩,⟨by (with_reducible repeat (first | apply Kd.S_alloc | apply Kd.S_drewN | apply Kd.S_drew));exact HO488.out⟩,⟨hB_⟩⟩
   case round =>
    clear H';obtain⟨x3_1,x4_1,rfl,HA,HK1,HO_3,HB⟩:=hrel
    cases gk with
    | zero=>exact absurd HA.out (by simp [laws_toPtSS.l0])
    | succ k1 =>
     have H:=HA.out;clear HA;simp only [laws_toPtSS.l0] at H;by_cases c6:x4_1<(l0.length:Int)
     ·
      rw [if_pos c6] at H;have c6b0:decide (x4_1<(l0.length:Int))=true:=decide_eq_true c6;clear c6;by_cases c7:0≤x4_1
      ·
       rw [if_pos c7] at H;have c7b0:decide (0≤x4_1)=true:=decide_eq_true c7;clear c7;replace H:=Option.bind_eq_some_iff.mp H;obtain⟨t490,A80,H⟩:=H
       (try dsimp only at H)
       have A8:=Aside0.mk A80;clear A80;by_cases c9:x4_1<(x3_1.length:Int)
       ·
        rw [if_pos c9] at H;have c9b0:decide (x4_1<(x3_1.length:Int))=true:=decide_eq_true c9;clear c9;obtain⟨y493,hy493⟩:∃ y_:List (List (S28)),y_=(x3_1.set (x4_1:Int).toNat t490):=⟨_,rfl⟩;replace H:(laws_toPtSS.l0 k1 l0 y493 (wrap64 (x4_1+1)))=some r:=by first | (rw [hy493];with_reducible exact H) | (have H2_:=(Option.bind_some _ _).symm.trans H;rw [hy493];with_reducible exact H2_) | (have H2_:=(Option.bind_some _ _).symm.trans H;with_reducible exact H2_) | with_reducible exact H | (rw [hy493];exact H) | exact H
        have Ny493:=Aside0.mk hy493;clear hy493;have H':=Aside0.mk H;clear H;have p489:0≤(x4_1:Int):=od_;have q489:x4_1<(l0.length:Int):=od_;obtain⟨ad489,A489_0,c489_0,e489,hx489_0,hl489_0,hi489_0⟩:=at_L10 HR0.out x4_1 p489 q489;cases e489;replace hx489_0:=ce_ HB hx489_0;have HR489_0:=Aside0.mk hi489_0;have HC489_0:=Aside0.mk hl489_0;clear hi489_0 hl489_0;replace p489:=eq_true p489;replace q489:=eq_true q489
        go_wp2_with (first | ((with_reducible refine gate_callee (f:=67) rfl ?_);refine gL_ (some 20) Tryd.func67 #[.slice A489_0 (rd_L10 l0 x4_1).length c489_0] (h:=?_);(with_reducible refine (laws_toPtS.calls k1 _ _ (rd_L10 l0 x4_1) t490 _ ?side1 ?side2 A8.out).mono ?_);(case side1=>repeat (first | exact (Kd.C_below HR489_0.out HB.out) | (with_reducible refine Kd.C_alloc ?_ _) | (with_reducible refine Kd.C_drewN ?_ _) | (with_reducible refine Kd.C_drew ?_)));(case side2=>exact HC489_0.out);rintro e w11 ⟨v491,rfl,ho0,hb⟩;refine⟨_,rfl,?_⟩;have HO492:=a0_ (Kd.R_lower ho0 (below_size hB_));replace HO_3:=a0_ (Kd.S_elder' (by (with_reducible repeat (first | apply Kd.S_alloc | apply Kd.S_drewN | apply Kd.S_drew));exact HO_3.out) (Kd.R_base ho0) hb);replace HB:=sb_ HB hb;(try clear ho0 hb);have p10:0≤(x4_1:Int):=od_;have q10:(x4_1:Int)<((x3_1.length:Int):Int):=od_;obtain⟨go10,co10,eo10,gb10,gl10,cl10,HG10⟩:=Kd.S_form HO_3.out (by omega);(first | cases eo10 | (injection eo10 with ea_ en_ ec_;(first | subst ea_ | (injection ea_ with ea_;subst ea_));subst ec_;clear en_));have GB10:=Aside0.mk gb10;have GG10:=Aside0.mk HG10;clear gb10 gl10 HG10;obtain⟨_,ce10,hcl10,hM10,hcc10,hfr10,_,_⟩:=Kd.S_elem HO_3.out [] (x4_1:Int) p10 q10;obtain⟨ve10_0,rfl,ge10_0⟩:=hM10;have hx10_0:=hcc10 0 _ rfl;have hf10_0:=hfr10 0;(try simp only [show ((Kd.slice 28 k28)).sz=1 from rfl,Nat.mul_one,Nat.add_zero] at hx10_0);(try simp only [show ((Kd.slice 28 k28)).sz=1 from rfl,Nat.mul_one,Nat.add_zero] at hf10_0);clear hcl10 hcc10 hfr10;(try clear hM10);replace p10:=eq_true p10;replace q10:=eq_true q10;have n_:=a0_ (Kd.S_mono (ok':=(fun k_=>some k_≠(v491:Value).ownBlock)) HO_3.out (fun k_ hk=>hk.2));clear HO_3;have HO_3:=n_;clear n_;have HX12:=a0_ (show Kd.S (Kd.slice 28 k28) 23 w11 w.heap.size (fun k_=>((fun _=>True)) k_∧¬ ((fun k_=>some k_=(v491:Value).ownBlock)) k_) (.slice (some ⟨go10,0,none⟩) x3_1.length co10) x3_1 from (by (with_reducible repeat (first | apply Kd.S_alloc | apply Kd.S_drewN | apply Kd.S_drew));exact Kd.S_mono HO_3.out (fun k_ hk=>⟨trivial,fun e_=>hk e_⟩)));obtain⟨oki12,ce12,hcl12,hM12,hcc12,hfr12,hoki12,hH12⟩:=Kd.S_elem HX12.out [] (x4_1:Int) (od_) (by have h_:(x4_1:Int)<((x3_1.length:Int):Int):=od_;first | exact h_ | (have e_:=(Kd.S_reads' HO_3.out).1;omega) | simpa using h_);obtain⟨ve12_0,rfl,ge12_0⟩:=hM12;have HP12:=Kd.S_seg hH12 (od_) (by have h_:(x4_1:Int)<((x3_1.length:Int):Int):=od_;first | exact h_ | (have e_:=(Kd.S_reads' HO_3.out).1;omega) | simpa using h_) (seg:=[v491]) (j:=0) (show 1≤1 from by decide) (x':=t490) (Kd.M_row (Kd.R_mono (Kd.R_tight rfl (Kd.R_mono (ok':=fun k_=>((fun _=>True)) k_∧k_≠go10) (Kd.R_apart' (HO492.out) (Kd.S_typed HO_3.out) (by decide)) (fun k_ hk=>⟨trivial,fun e_=>(hk.2) (by rw [e_];rfl)⟩))) (fun _ h_=>Or.inr (h_)))) (fun _ hk=>hk) (fun k_ hk_=>((Kd.R_mono (ok':=fun k_=>((fun _=>True)) k_∧k_≠go10) (Kd.R_apart' (HO492.out) (Kd.S_typed HO_3.out) (by decide)) (fun k_ hk=>⟨trivial,fun e_=>(hk.2) (by rw [e_];rfl)⟩))).1 k_ hk_.symm);have hx12_0:=hcc12 0 _ rfl;(try simp only [show ((Kd.slice 28 k28)).sz=1 from rfl,Nat.mul_one,Nat.add_zero] at hx12_0);have hf12_0:=hfr12 0;(try simp only [show ((Kd.slice 28 k28)).sz=1 from rfl,Nat.mul_one,Nat.add_zero] at hf12_0);clear hcl12 hcc12 hfr12 hoki12 hH12;(try clear hM12);(try simp only [show ((Kd.slice 28 k28)).sz=1 from rfl,Nat.mul_one,Nat.add_zero] at HP12)) | ((with_reducible refine gate_store (t:=23) (p:=21) rfl ?_);refine store_event (t:=23) (p:=21) (v:=?vo_w13) (w1:=(w11.setCell ⟨go10,(x4_1:Int).toNat,none⟩ (v491))) ?hg ?ho ?hn ?hr ?_;(case ho=>rfl);(case hg=>rfl);(case hn=>rfl);(case hr=>first | (go_simp;done) | (go_simp;rfl) | (obtain⟨_,_,e_⟩:=Kd.R_slice HO492.out;subst e_;go_simp;done) | (obtain⟨_,_,e_⟩:=Kd.R_slice HO492.out;subst e_;go_simp;rfl));intro w13 hw;have hg:w11.grownBy w13 (some go10):=(by rw [hw];exact HP12.2);have hp_:Kd.S (Kd.slice 28 k28) 23 w13 w.heap.size (fun _=>True) (.slice (some ⟨go10,0,none⟩) x3_1.length co10) y493:=(by rw [hw,Ny493.out];exact HP12.1);clear HP12;replace HO_3:=a0_ (hp_);replace HB:=a0_ ((by rw [hw];exact below_set (HB.out) GB10.out:Below w.heap.size w w13));clear HO492;clear hg hw hp_))
        go_roundg k1
        case measure=>have:=HK1.out;omega
        case rel=>exact⟨(y493),(wrap64 (x4_1+1)),(by first | rfl | (simp;done) | (simp [*];done)),H',⟨by have:=HK1.out;omega⟩,⟨by (with_reducible repeat (first | apply Kd.S_alloc | apply Kd.S_drewN | apply Kd.S_drew));exact HO_3.out⟩,⟨hB_⟩⟩
       ·
        rw [if_neg c9] at H;exact absurd H (by simp)
      ·
       rw [if_neg c7] at H;exact absurd H (by simp)
     ·
      rw [if_neg c6] at H;have c6b0:decide (x4_1<(l0.length:Int))=false:=decide_eq_false c6;clear c6;obtain rfl:=Option.some.inj H;go_wp2;go_ret;exact⟨_,rr_,by (with_reducible repeat (first | apply Kd.S_alloc | apply Kd.S_drewN | apply Kd.S_drew));exact HO_3.out,hB_⟩
  ·
   rw [if_neg c3] at H;exact absurd H (by simp)
 ·
  rw [if_neg c2] at H;exact absurd H (by simp)
def laws_toPlate.f (k:Nat)(l0_0:List (S45))(l0_1:List (List (S45))):Option ((List (S28)) × (List (List (S28)))):=(laws_toPtS.f k l0_0).bind fun t497=>((laws_toPtSS.f k l0_1).bind fun t500=>(some (t497,t500)))
set_option maxHeartbeats 8000000 in
set_option maxRecDepth 100000 in
theorem laws_toPlate.calls (k:Nat)(A0_0:Option Addr)(c0_0:Nat)(l0_0:List (S45))(A0_1:Option Addr)(c0_1:Nat)(l0_1:List (List (S45)))(r1:List (S28))(r2:List (List (S28)))(w:World)(hr0_0:Kd.C k45 w A0_0 l0_0.length l0_0)(hc0_0:l0_0.length≤c0_0)(hr0_1:Kd.C (Kd.slice 45 k45) w A0_1 l0_1.length l0_1)(hc0_1:l0_1.length≤c0_1)(h:laws_toPlate.f k l0_0 l0_1=some (r1,r2)):
  Calls Tryd.prog 26 #[.agg #[.slice A0_0 l0_0.length c0_0,.slice A0_1 l0_1.length c0_1]] w fun e w'=>∃ v0_ v1_:Value,e=.returned (.agg #[v0_,v1_])∧Kd.R k28 28 w' w.heap.size (fun _=>True) v0_ r1∧Kd.S (Kd.slice 28 k28) 23 w' w.heap.size (fun k_=>some k_≠(v0_:Value).ownBlock) v1_ r2∧Below w.heap.size w w':=by
 have hu44:=Tryd.underlying44;have hu26:=Tryd.underlying26;have HR0_0:=Aside0.mk hr0_0;have HC0_0:=Aside0.mk hc0_0;clear hr0_0 hc0_0;have HR0_1:=Aside0.mk hr0_1;have HC0_1:=Aside0.mk hc0_1;clear hr0_1 hc0_1;have HB:=a0_ (Below.refl w.heap.size w);have H:((laws_toPtS.f k l0_0).bind fun t497=>((laws_toPtSS.f k l0_1).bind fun t500=>(some (t497,t500))))=some (r1,r2):=h;clear h;replace H:=Option.bind_eq_some_iff.mp H;obtain⟨t497,A20,H⟩:=H
 (try dsimp only at H)
 have A2:=Aside0.mk A20;clear A20;replace H:=Option.bind_eq_some_iff.mp H;obtain⟨t500,A30,H⟩:=H
 (try dsimp only at H)
 have A3:=Aside0.mk A30;clear A30;simp only [Option.some.injEq,Prod.mk.injEq] at H;obtain⟨rfl,rfl⟩:=H;go_enter Tryd.func26,Tryd.ntmps26
 go_wp2_with (first | ((with_reducible refine gate_dst (N:=1) rfl ?_);refine bx_ (N:=1) (cs:=#[.slice A0_0 l0_0.length c0_0,.slice A0_1 l0_1.length c0_1]) (t:=44) (h:=?_);intro gb494 hg w4 hbox hb;have BK494:=a0_ (hbox);have GW494:=gh_ HB hg;have GE494:=gh_ HB hg;replace HB:=sb_ HB hb;clear hb hbox hg) | ((with_reducible refine gate_dst (N:=2) rfl ?_);refine bx_ (N:=2) (cs:=#[.slice none 0 0,.slice none 0 0]) (t:=26) (h:=?_);intro gb495 hg w5 hbox hb;have BK495:=a0_ (hbox);have GW495:=gh_ HB hg;have GE495:=gh_ HB hg;have NB494_495:=nl_ BK494 hg;have NB495_494:=nr_ BK494 hg;replace BK494:=vb_ BK494 hb;replace HB:=sb_ HB hb;clear hb hbox hg) | ((with_reducible refine gate_dst (N:=3) rfl ?_);refine bx_ (N:=3) (cs:=#[.slice none 0 0,.slice none 0 0]) (t:=26) (h:=?_);intro gb496 hg w6 hbox hb;have BK496:=a0_ (hbox);have GW496:=gh_ HB hg;have GE496:=gh_ HB hg;have NB494_496:=nl_ BK494 hg;have NB496_494:=nr_ BK494 hg;have NB495_496:=nl_ BK495 hg;have NB496_495:=nr_ BK495 hg;replace BK494:=vb_ BK494 hb;replace BK495:=vb_ BK495 hb;replace HB:=sb_ HB hb;clear hb hbox hg;have hnb7:=NB494_495.out;have hnc7:=NB495_494.out;have hnb8:=NB494_496.out;have hnc8:=NB496_494.out;have hcz9_0:=c20_ BK494;have hcz9_1:=c21_ BK494;have hfz9_0:=fz_ BK494 0;have hfz9_1:=fz_ BK494 1) | ((with_reducible refine gate_callee (f:=67) rfl ?_);refine gL_ (some 6) Tryd.func67 #[.slice A0_0 l0_0.length c0_0] (h:=?_);(with_reducible refine (laws_toPtS.calls k _ _ l0_0 t497 _ ?side1 ?side2 A2.out).mono ?_);(case side1=>repeat (first | exact (Kd.C_below HR0_0.out HB.out) | (with_reducible refine Kd.C_alloc ?_ _) | (with_reducible refine Kd.C_drewN ?_ _) | (with_reducible refine Kd.C_drew ?_)));(case side2=>exact HC0_0.out);rintro e w10 ⟨v498,rfl,ho0,hb⟩;refine⟨_,rfl,?_⟩;have HO499:=a0_ (Kd.R_lower ho0 (below_size hB_));replace BK494:=vb_ BK494 hb;replace BK495:=vb_ BK495 hb;replace BK496:=vb_ BK496 hb;replace HB:=sb_ HB hb;(try clear ho0 hb);obtain⟨Ao11,co11,eo11⟩:=Kd.R_slice HO499.out;subst eo11;have hnb12:=NB496_495.out;have hnc12:=NB495_496.out;have hcz13_0:=c20_ BK496;have hcz13_1:=c21_ BK496;have hfz13_0:=fz_ BK496 0;have hfz13_1:=fz_ BK496 1;have hcz14_0:=c20_ BK494;have hcz14_1:=c21_ BK494;have hfz14_0:=fz_ BK494 0;have hfz14_1:=fz_ BK494 1) | ((with_reducible refine gate_callee (f:=68) rfl ?_);refine gL_ (some 10) Tryd.func68 #[.slice A0_1 l0_1.length c0_1] (h:=?_);(with_reducible refine (laws_toPtSS.calls k _ _ l0_1 t500 _ (Kd.C_below HR0_1.out hB_) HC0_1.out A3.out).mono ?_);rintro e w15 ⟨v501,rfl,ho0,hb⟩;refine⟨_,rfl,?_⟩;have HO502:=a0_ (Kd.S_lower (Kd.S_new' ho0 (Kd.R_lt (by (with_reducible repeat (first | apply Kd.R_alloc | apply Kd.R_drewN | apply Kd.R_drew));exact (Kd.R_mono (Kd.R_far (p:=⟨gb496,0,none⟩) (Kd.R_types HO499.out BK496.out (by decide)) (fun _ hk=>hk.2) (.slice Ao11 t497.length co11)) (fun _ h_=>h_.1))))) (below_size hB_));replace HO499:=a0_ (Kd.R_below (by (with_reducible repeat (first | apply Kd.R_alloc | apply Kd.R_drewN | apply Kd.R_drew));exact (Kd.R_mono (Kd.R_far (p:=⟨gb496,0,none⟩) (Kd.R_types HO499.out BK496.out (by decide)) (fun _ hk=>hk.2) (.slice Ao11 t497.length co11)) (fun _ h_=>h_.1))) hb);replace BK494:=a0_ (blk_below (g:=gb494) (o:=.cells #[.slice A0_0 l0_0.length c0_0,.slice A0_1 l0_1.length c0_1] 44 (0,0)) uf_ hb);replace BK495:=a0_ (blk_below (g:=gb495) (o:=.cells #[.slice none 0 0,.slice none 0 0] 26 (0,0)) uf_ hb);replace BK496:=a0_ (blk_below (g:=gb496) (o:=.cells #[.slice Ao11 t497.length co11,.slice none 0 0] 26 (0,0)) (by (with_reducible repeat (first | refine blk_drewN ?_ _ | refine blk_drew ?_ | refine blk_alloc ?_ _));refine blk_put (cs:=#[.slice none 0 0,.slice none 0 0]) ?_ 0 _ rfl;(with_reducible repeat (first | refine blk_drewN ?_ _ | refine blk_drew ?_ | refine blk_alloc ?_ _));exact BK496.out) hb);replace HB:=sb_ HB hb;(try clear ho0 hb);obtain⟨Ao16,co16,eo16⟩:=Kd.S_slice HO502.out;subst eo16;have hcz17_0:=c20_ BK496;have hcz17_1:=c21_ BK496;have hfz17_0:=fz_ BK496 0;have hfz17_1:=fz_ BK496 1;have hcz18_0:=c20_ BK495;have hcz18_1:=c21_ BK495;have hfz18_0:=fz_ BK495 0;have hfz18_1:=fz_ BK495 1))
 refine bodyPost_ret (results_cell_row rfl _ _ gb495 26 #[.slice Ao11 t497.length co11,.slice Ao16 t500.length co16] (0,0) _ rfl (by (with_reducible repeat (first | refine blk_drewN ?_ _ | refine blk_drew ?_ | refine blk_alloc ?_ _));refine blk_put (cs:=#[.slice Ao11 t497.length co11,.slice none 0 0]) ?_ 1 _ rfl;(with_reducible repeat (first | refine blk_drewN ?_ _ | refine blk_drew ?_ | refine blk_alloc ?_ _));refine blk_put (cs:=#[.slice none 0 0,.slice none 0 0]) ?_ 0 _ rfl;(with_reducible repeat (first | refine blk_drewN ?_ _ | refine blk_drew ?_ | refine blk_alloc ?_ _));refine blk_far ?_ NB495_496.out _;(with_reducible repeat (first | refine blk_drewN ?_ _ | refine blk_drew ?_ | refine blk_alloc ?_ _));exact BK495.out) Tryd.underlying26 rfl (by kernel_rfl)) rfl ?_;exact⟨_,_,rr_,by (with_reducible repeat (first | apply Kd.R_alloc | apply Kd.R_drewN | apply Kd.R_drew));exact Kd.R_mono (Kd.R_far (p:=⟨gb495,1,none⟩) (Kd.R_far (p:=⟨gb495,0,none⟩) (Kd.R_far (p:=⟨gb496,1,none⟩) (Kd.R_types (Kd.R_types HO499.out BK496.out (by decide)) BK495.out (by decide)) (fun _ hk=>hk.1.2) (.slice Ao16 t500.length co16)) (fun _ hk=>hk.2) (.slice Ao11 t497.length co11)) (fun _ hk=>hk.2) (.slice Ao16 t500.length co16)) (fun _ hk=>trivial),by (with_reducible repeat (first | apply Kd.S_alloc | apply Kd.S_drewN | apply Kd.S_drew));exact Kd.S_mono (Kd.S_far (p:=⟨gb495,1,none⟩) (Kd.S_far (p:=⟨gb495,0,none⟩) (Kd.S_far (p:=⟨gb496,1,none⟩) (Kd.S_types (Kd.S_types HO502.out BK496.out (by decide)) BK495.out (by decide)) (fun _ hk=>hk.1.2) (.slice Ao16 t500.length co16)) (fun _ hk=>hk.2) (.slice Ao11 t497.length co11)) (fun _ hk=>hk.2) (.slice Ao16 t500.length co16)) (fun _ hk=>hk.1.1.2),hB_⟩
def laws_eqPt.f (a0_0:Int)(a0_1:Int)(a1_0:Int)(a1_1:Int):Option (Bool):=if a0_0=a1_0 then (if a0_1=a1_1 then (some true) else (some false)) else (some false)
set_option maxHeartbeats 8000000 in
set_option maxRecDepth 100000 in
theorem laws_eqPt.calls (a0_0:Int)(a0_1:Int)(a1_0:Int)(a1_1:Int)(r:Bool)(w:World)(h:laws_eqPt.f a0_0 a0_1 a1_0 a1_1=some r):
  Calls Tryd.prog 106 #[.agg #[.int .i64 a0_0,.int .i64 a0_1],.agg #[.int .i64 a1_0,.int .i64 a1_1]] w fun e w'=>e=.returned (.bool r)∧Below w.heap.size w w':=by
 have hu28:=Tryd.underlying28;have HB:=a0_ (Below.refl w.heap.size w);have H:(if a0_0=a1_0 then (if a0_1=a1_1 then (some true) else (some false)) else (some false))=some r:=h;clear h;by_cases c3:a0_0=a1_0
 ·
  rw [if_pos c3] at H;have c3b0:(a0_0==a1_0)=true:=beq_iff_eq.mpr c3;have c3b1:(a0_0 != a1_0)=false:=bne_eq_false_iff_eq.mpr c3;clear c3;by_cases c4:a0_1=a1_1
  ·
   rw [if_pos c4] at H;have c4b0:(a0_1==a1_1)=true:=beq_iff_eq.mpr c4;have c4b1:(a0_1 != a1_1)=false:=bne_eq_false_iff_eq.mpr c4;clear c4;obtain rfl:=Option.some.inj H;go_enter Tryd.func106,Tryd.ntmps106;go_wp2_with (first | ((with_reducible refine gate_dst (N:=2) rfl ?_);refine bx_ (N:=2) (cs:=#[.int .i64 a0_0,.int .i64 a0_1]) (t:=28) (h:=?_);intro gb503 hg w5 hbox hb;have BK503:=a0_ (hbox);have GW503:=gh_ HB hg;have GE503:=gh_ HB hg;replace HB:=sb_ HB hb;clear hb hbox hg) | ((with_reducible refine gate_dst (N:=3) rfl ?_);refine bx_ (N:=3) (cs:=#[.int .i64 a1_0,.int .i64 a1_1]) (t:=28) (h:=?_);intro gb504 hg w6 hbox hb;have BK504:=a0_ (hbox);have GW504:=gh_ HB hg;have GE504:=gh_ HB hg;have NB503_504:=nl_ BK503 hg;have NB504_503:=nr_ BK503 hg;replace BK503:=vb_ BK503 hb;replace HB:=sb_ HB hb;clear hb hbox hg;have hnb7:=NB503_504.out;have hnc7:=NB504_503.out;have hcz8_0:=c20_ BK503;have hcz8_1:=c21_ BK503;have hfz8_0:=fz_ BK503 0;have hfz8_1:=fz_ BK503 1;have hcz9_0:=c20_ BK504;have hcz9_1:=c21_ BK504;have hfz9_0:=fz_ BK504 0;have hfz9_1:=fz_ BK504 1));go_ret;exact⟨rr_,hB_⟩
  ·
   rw [if_neg c4] at H;have c4b0:(a0_1==a1_1)=false:=beq_eq_false_iff_ne.mpr c4;have c4b1:(a0_1 != a1_1)=true:=bne_iff_ne.mpr c4;obtain rfl:=Option.some.inj H;go_enter Tryd.func106,Tryd.ntmps106;go_wp2_with (first | ((with_reducible refine gate_dst (N:=2) rfl ?_);refine bx_ (N:=2) (cs:=#[.int .i64 a0_0,.int .i64 a0_1]) (t:=28) (h:=?_);intro gb503 hg w10 hbox hb;have BK503:=a0_ (hbox);have GW503:=gh_ HB hg;have GE503:=gh_ HB hg;replace HB:=sb_ HB hb;clear hb hbox hg) | ((with_reducible refine gate_dst (N:=3) rfl ?_);refine bx_ (N:=3) (cs:=#[.int .i64 a1_0,.int .i64 a1_1]) (t:=28) (h:=?_);intro gb504 hg w11 hbox hb;have BK504:=a0_ (hbox);have GW504:=gh_ HB hg;have GE504:=gh_ HB hg;have NB503_504:=nl_ BK503 hg;have NB504_503:=nr_ BK503 hg;replace BK503:=vb_ BK503 hb;replace HB:=sb_ HB hb;clear hb hbox hg;have hnb12:=NB503_504.out;have hnc12:=NB504_503.out;have hcz13_0:=c20_ BK503;have hcz13_1:=c21_ BK503;have hfz13_0:=fz_ BK503 0;have hfz13_1:=fz_ BK503 1;have hcz14_0:=c20_ BK504;have hcz14_1:=c21_ BK504;have hfz14_0:=fz_ BK504 0;have hfz14_1:=fz_ BK504 1));go_ret;exact⟨rr_,hB_⟩
 ·
  rw [if_neg c3] at H;have c3b0:(a0_0==a1_0)=false:=beq_eq_false_iff_ne.mpr c3;have c3b1:(a0_0 != a1_0)=true:=bne_iff_ne.mpr c3;obtain rfl:=Option.some.inj H;go_enter Tryd.func106,Tryd.ntmps106;go_wp2_with (first | ((with_reducible refine gate_dst (N:=2) rfl ?_);refine bx_ (N:=2) (cs:=#[.int .i64 a0_0,.int .i64 a0_1]) (t:=28) (h:=?_);intro gb503 hg w15 hbox hb;have BK503:=a0_ (hbox);have GW503:=gh_ HB hg;have GE503:=gh_ HB hg;replace HB:=sb_ HB hb;clear hb hbox hg) | ((with_reducible refine gate_dst (N:=3) rfl ?_);refine bx_ (N:=3) (cs:=#[.int .i64 a1_0,.int .i64 a1_1]) (t:=28) (h:=?_);intro gb504 hg w16 hbox hb;have BK504:=a0_ (hbox);have GW504:=gh_ HB hg;have GE504:=gh_ HB hg;have NB503_504:=nl_ BK503 hg;have NB504_503:=nr_ BK503 hg;replace BK503:=vb_ BK503 hb;replace HB:=sb_ HB hb;clear hb hbox hg;have hnb17:=NB503_504.out;have hnc17:=NB504_503.out;have hcz18_0:=c20_ BK503;have hcz18_1:=c21_ BK503;have hfz18_0:=fz_ BK503 0;have hfz18_1:=fz_ BK503 1;have hcz19_0:=c20_ BK504;have hcz19_1:=c21_ BK504;have hfz19_0:=fz_ BK504 0;have hfz19_1:=fz_ BK504 1));go_ret;exact⟨rr_,hB_⟩
def laws_eqPtS.l0:Nat→List (S28)→List (S28)→Int→Option (Bool)
 | 0,_,_,_=>none
 | k+1,x0,x1,x5=>if x5<(x0.length:Int) then (if 0≤x5 then (if x5<(x1.length:Int) then ((laws_eqPt.f ((rd_T28 x0 x5).f0) ((rd_T28 x0 x5).f1) ((rd_T28 x1 x5).f0) ((rd_T28 x1 x5).f1)).bind fun t507=>(if t507=true then (laws_eqPtS.l0 k x0 x1 (wrap64 (x5+1))) else (some false))) else (none)) else (none)) else (some true)
def laws_eqPtS.f (k:Nat)(l0:List (S28))(l1:List (S28)):Option (Bool):=if (l0.length:Int)=(l1.length:Int) then (laws_eqPtS.l0 k l0 l1 0) else (some false)
def laws_eqPtS.T6:Bool × List (List Nat × List Nat):=(true,[([],[]),([],[]),([0,1],[0,1]),([2],[2]),([],[]),([],[]),([4,5],[4,5]),([6],[6]),([3,7],[3,7]),([8],[8])])
def laws_eqPtS.B6:List Nat:=[0,0,3,7,0,0,48,112,255,511]
theorem laws_eqPtS.tab6:rtab .any (opsOf Tryd.f71 6)=laws_eqPtS.T6:=by kernel_rfl
theorem laws_eqPtS.bits6:waitsOk laws_eqPtS.T6.2 laws_eqPtS.B6=true:=by kernel_rfl
set_option maxHeartbeats 8000000 in
set_option maxRecDepth 100000 in
theorem laws_eqPtS.calls (k:Nat)(A0:Option Addr)(c0:Nat)(l0:List (S28))(A1:Option Addr)(c1:Nat)(l1:List (S28))(r:Bool)(w:World)(hr0:Kd.C k28 w A0 l0.length l0)(hc0:l0.length≤c0)(hr1:Kd.C k28 w A1 l1.length l1)(hc1:l1.length≤c1)(h:laws_eqPtS.f k l0 l1=some r):
  Calls Tryd.prog 71 #[.slice A0 l0.length c0,.slice A1 l1.length c1] w fun e w'=>e=.returned (.bool r)∧Below w.heap.size w w':=by
 have hu28:=Tryd.underlying28;have HR0:=Aside0.mk hr0;have HC0:=Aside0.mk hc0;clear hr0 hc0;have HR1:=Aside0.mk hr1;have HC1:=Aside0.mk hc1;clear hr1 hc1;have HB:=a0_ (Below.refl w.heap.size w);have H:(if (l0.length:Int)=(l1.length:Int) then (laws_eqPtS.l0 k l0 l1 0) else (some false))=some r:=h;clear h;by_cases c3:(l0.length:Int)=(l1.length:Int)
 ·
  rw [if_pos c3] at H;have c3b0:((l0.length:Int)==(l1.length:Int))=true:=beq_iff_eq.mpr c3;have c3b1:((l0.length:Int) != (l1.length:Int))=false:=bne_eq_false_iff_eq.mpr c3;have c3b2:(l0.length==l1.length)=true:=by first | simpa using c3 | (simp at c3 ⊢;omega)
  clear c3;have H':=Aside0.mk H;clear H;go_enter Tryd.func71,Tryd.ntmps71;go_wp2;go_loopg [5] k (fun kq v5 w'=>∃ (x5_1:Int),v5=.int .i64 x5_1∧Aside0 (laws_eqPtS.l0 kq l0 l1 x5_1=some r)∧Aside0 (kq≤k)∧Aside0 (Below w.heap.size w w'))
  case atStart=>exact⟨(0),(by first | rfl | (simp;done) | (simp [*];done)),H',⟨Nat.le_refl _⟩,⟨hB_⟩⟩
  case round =>
   clear H';obtain⟨x5_1,rfl,HA,HK1,HB⟩:=hrel
   cases gk with
   | zero=>exact absurd HA.out (by simp [laws_eqPtS.l0])
   | succ k1 =>
    have H:=HA.out;clear HA;simp only [laws_eqPtS.l0] at H;by_cases c4:x5_1<(l0.length:Int)
    ·
     rw [if_pos c4] at H;have c4b0:decide (x5_1<(l0.length:Int))=true:=decide_eq_true c4;clear c4;by_cases c5:0≤x5_1
     ·
      rw [if_pos c5] at H;have c5b0:decide (0≤x5_1)=true:=decide_eq_true c5;clear c5;by_cases c6:x5_1<(l1.length:Int)
      ·
       rw [if_pos c6] at H;have c6b0:decide (x5_1<(l1.length:Int))=true:=decide_eq_true c6;clear c6;replace H:=Option.bind_eq_some_iff.mp H;obtain⟨t507,A70,H⟩:=H
       (try dsimp only at H)
       have A7:=Aside0.mk A70;clear A70;by_cases c8:t507=true
       ·
        subst c8;rw [if_pos rfl] at H
        (try dsimp only at H)
        have H':=Aside0.mk H;clear H
        try go_wp2
        replace HB:=a0_ (below_drew1 HB.out);have p505:0≤(x5_1:Int):=od_;have q505:x5_1<(l0.length:Int):=od_;obtain⟨ad505,e505,hx505_0,hx505_1⟩:=at_T28 HR0.out x5_1 p505 q505;have hw505_1:=hx505_1;have hw505_0:=hx505_0;cases e505;replace hx505_0:=ce_ HB hx505_0;replace hx505_1:=ce_ HB hx505_1;replace p505:=eq_true p505;replace q505:=eq_true q505;have p506:0≤(x5_1:Int):=od_;have q506:x5_1<(l1.length:Int):=od_;obtain⟨ad506,e506,hx506_0,hx506_1⟩:=at_T28 HR1.out x5_1 p506 q506;have hw506_1:=hx506_1;have hw506_0:=hx506_0;cases e506;replace hx506_0:=ce_ HB hx506_0;replace hx506_1:=ce_ HB hx506_1;replace p506:=eq_true p506;replace q506:=eq_true q506;refine start_ (n:=10) (S:=fun w'=>w'.cell? (ad505.add ((x5_1).toNat*2))=some (.int .i64 ((rd_T28 l0 x5_1).f0))∧w'.cell? ⟨(ad505.add ((x5_1).toNat*2)).block,(ad505.add ((x5_1).toNat*2)).off+1,none⟩=some (.int .i64 ((rd_T28 l0 x5_1).f1))∧w'.cell? (ad506.add ((x5_1).toNat*2))=some (.int .i64 ((rd_T28 l1 x5_1).f0))∧w'.cell? ⟨(ad506.add ((x5_1).toNat*2)).block,(ad506.add ((x5_1).toNat*2)).off+1,none⟩=some (.int .i64 ((rd_T28 l1 x5_1).f1))) (ds:=[]) (Array.replicate 10 false) (by kernel_rfl) rfl rfl ⟨(ce_ HB hw505_0),(ce_ HB hw505_1),(ce_ HB hw506_0),(ce_ HB hw506_1)⟩ (fun hHeld=>?_);refine with_tabW laws_eqPtS.tab6 laws_eqPtS.bits6 (fun HT_ HW_=>?_);generalize wr.drew=w9 at HB hx505_0 hx505_1 hx506_0 hx506_1 hHeld ⊢
        refine pu_ HT_ 0 17 (bm 10 1) ?_;refine pu_ HT_ 1 18 (bm 10 3) ?_;refine pu_ HT_ 2 19 (bm 10 7) ?_;refine pu_ HT_ 4 21 (bm 10 23) ?_;refine pu_ HT_ 5 22 (bm 10 55) ?_;refine pu_ HT_ 6 23 (bm 10 119) ?_;refine ta4_ HT_ HW_ 3 20 (bm 10 127) hHeld ?_;refine ta4_ HT_ HW_ 7 24 (bm 10 255) hHeld ?_;refine one_ (i:=8) (N:=some 25) (bm 10 511) rfl rfl (one_of HT_.out (by kernel_rfl)) (by decide) (fun K hK=>?_);refine goes_ Tryd.func106 (by kernel_rfl) rfl #[.agg #[.int .i64 ((rd_T28 l0 x5_1).f0),.int .i64 ((rd_T28 l0 x5_1).f1)],.agg #[.int .i64 ((rd_T28 l1 x5_1).f0),.int .i64 ((rd_T28 l1 x5_1).f1)]] (by rfl) rfl rfl ma_ ?_
        with_reducible refine (laws_eqPt.calls ((rd_T28 l0 x5_1).f0) ((rd_T28 l0 x5_1).f1) ((rd_T28 l1 x5_1).f0) ((rd_T28 l1 x5_1).f1) true _ A7.out).mono ?_
        rintro e w10 ⟨rfl,hb⟩;refine⟨_,rfl,?_⟩;replace HB:=sb_ HB hb
        (try clear hb)
        (try clear hb2)
        (try clear hk)
        (try clear hi)
        refine hK.out _ _ ⟨(ce_ HB hw505_0),(ce_ HB hw505_1),(ce_ HB hw506_0),(ce_ HB hw506_1)⟩ (fun hHeld=>?_);clear hK K;refine no_ (h:=?_);refine pu_ HT_ 9 26 (bm 10 1023) ?_;refine done_ (done_of HT_.out (by kernel_rfl)) ?_
        try go_wp2
        go_roundg k1
        case measure=>have:=HK1.out;omega
        case rel=>exact⟨(wrap64 (x5_1+1)),(by first | rfl | (simp;done) | (simp [*];done)),H',⟨by have:=HK1.out;omega⟩,⟨hB_⟩⟩
       ·
        replace c8:=Bool.eq_false_iff.mpr c8;subst c8;rw [if_neg (show ¬ (false=true) by decide)] at H
        (try dsimp only at H)
        obtain rfl:=Option.some.inj H
        try go_wp2
        replace HB:=a0_ (below_drew1 HB.out);have p505:0≤(x5_1:Int):=od_;have q505:x5_1<(l0.length:Int):=od_;obtain⟨ad505,e505,hx505_0,hx505_1⟩:=at_T28 HR0.out x5_1 p505 q505;have hw505_1:=hx505_1;have hw505_0:=hx505_0;cases e505;replace hx505_0:=ce_ HB hx505_0;replace hx505_1:=ce_ HB hx505_1;replace p505:=eq_true p505;replace q505:=eq_true q505;have p506:0≤(x5_1:Int):=od_;have q506:x5_1<(l1.length:Int):=od_;obtain⟨ad506,e506,hx506_0,hx506_1⟩:=at_T28 HR1.out x5_1 p506 q506;have hw506_1:=hx506_1;have hw506_0:=hx506_0;cases e506;replace hx506_0:=ce_ HB hx506_0;replace hx506_1:=ce_ HB hx506_1;replace p506:=eq_true p506;replace q506:=eq_true q506;refine start_ (n:=10) (S:=fun w'=>w'.cell? (ad505.add ((x5_1).toNat*2))=some (.int .i64 ((rd_T28 l0 x5_1).f0))∧w'.cell? ⟨(ad505.add ((x5_1).toNat*2)).block,(ad505.add ((x5_1).toNat*2)).off+1,none⟩=some (.int .i64 ((rd_T28 l0 x5_1).f1))∧w'.cell? (ad506.add ((x5_1).toNat*2))=some (.int .i64 ((rd_T28 l1 x5_1).f0))∧w'.cell? ⟨(ad506.add ((x5_1).toNat*2)).block,(ad506.add ((x5_1).toNat*2)).off+1,none⟩=some (.int .i64 ((rd_T28 l1 x5_1).f1))) (ds:=[]) (Array.replicate 10 false) (by kernel_rfl) rfl rfl ⟨(ce_ HB hw505_0),(ce_ HB hw505_1),(ce_ HB hw506_0),(ce_ HB hw506_1)⟩ (fun hHeld=>?_);refine with_tabW laws_eqPtS.tab6 laws_eqPtS.bits6 (fun HT_ HW_=>?_);generalize wr.drew=w11 at HB hx505_0 hx505_1 hx506_0 hx506_1 hHeld ⊢
        refine pu_ HT_ 0 17 (bm 10 1) ?_;refine pu_ HT_ 1 18 (bm 10 3) ?_;refine pu_ HT_ 2 19 (bm 10 7) ?_;refine pu_ HT_ 4 21 (bm 10 23) ?_;refine pu_ HT_ 5 22 (bm 10 55) ?_;refine pu_ HT_ 6 23 (bm 10 119) ?_;refine ta4_ HT_ HW_ 3 20 (bm 10 127) hHeld ?_;refine ta4_ HT_ HW_ 7 24 (bm 10 255) hHeld ?_;refine one_ (i:=8) (N:=some 25) (bm 10 511) rfl rfl (one_of HT_.out (by kernel_rfl)) (by decide) (fun K hK=>?_);refine goes_ Tryd.func106 (by kernel_rfl) rfl #[.agg #[.int .i64 ((rd_T28 l0 x5_1).f0),.int .i64 ((rd_T28 l0 x5_1).f1)],.agg #[.int .i64 ((rd_T28 l1 x5_1).f0),.int .i64 ((rd_T28 l1 x5_1).f1)]] (by rfl) rfl rfl ma_ ?_
        with_reducible refine (laws_eqPt.calls ((rd_T28 l0 x5_1).f0) ((rd_T28 l0 x5_1).f1) ((rd_T28 l1 x5_1).f0) ((rd_T28 l1 x5_1).f1) false _ A7.out).mono ?_
        rintro e w12 ⟨rfl,hb⟩;refine⟨_,rfl,?_⟩;replace HB:=sb_ HB hb
        (try clear hb)
        (try clear hb2)
        (try clear hk)
        (try clear hi)
        refine hK.out _ _ ⟨(ce_ HB hw505_0),(ce_ HB hw505_1),(ce_ HB hw506_0),(ce_ HB hw506_1)⟩ (fun hHeld=>?_);clear hK K;refine no_ (h:=?_);refine pu_ HT_ 9 26 (bm 10 1023) ?_;refine done_ (done_of HT_.out (by kernel_rfl)) ?_
        try go_wp2
        go_ret;exact⟨rr_,hB_⟩
      ·
       rw [if_neg c6] at H;exact absurd H (by simp)
     ·
      rw [if_neg c5] at H;exact absurd H (by simp)
    ·
     rw [if_neg c4] at H;have c4b0:decide (x5_1<(l0.length:Int))=false:=decide_eq_false c4;clear c4;obtain rfl:=Option.some.inj H;go_wp2;go_ret;exact⟨rr_,hB_⟩
 ·
  rw [if_neg c3] at H;have c3b0:((l0.length:Int)==(l1.length:Int))=false:=beq_eq_false_iff_ne.mpr c3;have c3b1:((l0.length:Int) != (l1.length:Int))=true:=bne_iff_ne.mpr c3;have c3b2:(l0.length==l1.length)=false:=by first | simpa using c3 | (simp at c3 ⊢;omega)
  obtain rfl:=Option.some.inj H;go_enter Tryd.func71,Tryd.ntmps71;go_wp2;go_ret;exact⟨rr_,hB_⟩
def laws_eqPtSS.l0:Nat→List (List (S28))→List (List (S28))→Int→Option (Bool)
 | 0,_,_,_=>none
 | k+1,x0,x1,x5=>if x5<(x0.length:Int) then (if 0≤x5 then (if x5<(x1.length:Int) then ((laws_eqPtS.f k (rd_L5 x0 x5) (rd_L5 x1 x5)).bind fun t510=>(if t510=true then (laws_eqPtSS.l0 k x0 x1 (wrap64 (x5+1))) else (some false))) else (none)) else (none)) else (some true)
def laws_eqPtSS.f (k:Nat)(l0:List (List (S28)))(l1:List (List (S28))):Option (Bool):=if (l0.length:Int)=(l1.length:Int) then (laws_eqPtSS.l0 k l0 l1 0) else (some false)
def laws_eqPtSS.T6:Bool × List (List Nat × List Nat):=(true,[([],[]),([],[]),([0,1],[0,1]),([2],[2]),([],[]),([],[]),([4,5],[4,5]),([6],[6]),([3,7],[3,7]),([8],[8])])
def laws_eqPtSS.B6:List Nat:=[0,0,3,7,0,0,48,112,255,511]
theorem laws_eqPtSS.tab6:rtab .any (opsOf Tryd.f72 6)=laws_eqPtSS.T6:=by kernel_rfl
theorem laws_eqPtSS.bits6:waitsOk laws_eqPtSS.T6.2 laws_eqPtSS.B6=true:=by kernel_rfl
set_option maxHeartbeats 8000000 in
set_option maxRecDepth 100000 in
theorem laws_eqPtSS.calls (k:Nat)(A0:Option Addr)(c0:Nat)(l0:List (List (S28)))(A1:Option Addr)(c1:Nat)(l1:List (List (S28)))(r:Bool)(w:World)(hr0:Kd.C (Kd.slice 28 k28) w A0 l0.length l0)(hc0:l0.length≤c0)(hr1:Kd.C (Kd.slice 28 k28) w A1 l1.length l1)(hc1:l1.length≤c1)(h:laws_eqPtSS.f k l0 l1=some r):
  Calls Tryd.prog 72 #[.slice A0 l0.length c0,.slice A1 l1.length c1] w fun e w'=>e=.returned (.bool r)∧Below w.heap.size w w':=by
 have HR0:=Aside0.mk hr0;have HC0:=Aside0.mk hc0;clear hr0 hc0;have HR1:=Aside0.mk hr1;have HC1:=Aside0.mk hc1;clear hr1 hc1;have HB:=a0_ (Below.refl w.heap.size w);have H:(if (l0.length:Int)=(l1.length:Int) then (laws_eqPtSS.l0 k l0 l1 0) else (some false))=some r:=h;clear h;by_cases c3:(l0.length:Int)=(l1.length:Int)
 ·
  rw [if_pos c3] at H;have c3b0:((l0.length:Int)==(l1.length:Int))=true:=beq_iff_eq.mpr c3;have c3b1:((l0.length:Int) != (l1.length:Int))=false:=bne_eq_false_iff_eq.mpr c3;have c3b2:(l0.length==l1.length)=true:=by first | simpa using c3 | (simp at c3 ⊢;omega)
  clear c3;have H':=Aside0.mk H;clear H;go_enter Tryd.func72,Tryd.ntmps72;go_wp2;go_loopg [5] k (fun kq v5 w'=>∃ (x5_1:Int),v5=.int .i64 x5_1∧Aside0 (laws_eqPtSS.l0 kq l0 l1 x5_1=some r)∧Aside0 (kq≤k)∧Aside0 (Below w.heap.size w w'))
  case atStart=>exact⟨(0),(by first | rfl | (simp;done) | (simp [*];done)),H',⟨Nat.le_refl _⟩,⟨hB_⟩⟩
  case round =>
   clear H';obtain⟨x5_1,rfl,HA,HK1,HB⟩:=hrel
   cases gk with
   | zero=>exact absurd HA.out (by simp [laws_eqPtSS.l0])
   | succ k1 =>
    have H:=HA.out;clear HA;simp only [laws_eqPtSS.l0] at H;by_cases c4:x5_1<(l0.length:Int)
    ·
     rw [if_pos c4] at H;have c4b0:decide (x5_1<(l0.length:Int))=true:=decide_eq_true c4;clear c4;by_cases c5:0≤x5_1
     ·
      rw [if_pos c5] at H;have c5b0:decide (0≤x5_1)=true:=decide_eq_true c5;clear c5;by_cases c6:x5_1<(l1.length:Int)
      ·
       rw [if_pos c6] at H;have c6b0:decide (x5_1<(l1.length:Int))=true:=decide_eq_true c6;clear c6;replace H:=Option.bind_eq_some_iff.mp H;obtain⟨t510,A70,H⟩:=H
       (try dsimp only at H)
       have A7:=Aside0.mk A70;clear A70;by_cases c8:t510=true
       ·
        subst c8;rw [if_pos rfl] at H
        (try dsimp only at H)
        have H':=Aside0.mk H;clear H
        try go_wp2
        replace HB:=a0_ (below_drew1 HB.out);have p508:0≤(x5_1:Int):=od_;have q508:x5_1<(l0.length:Int):=od_;obtain⟨ad508,A508_0,c508_0,e508,hx508_0,hl508_0,hi508_0⟩:=at_L5 HR0.out x5_1 p508 q508;have hw508_0:=hx508_0;cases e508;replace hx508_0:=ce_ HB hx508_0;have HR508_0:=Aside0.mk hi508_0;have HC508_0:=Aside0.mk hl508_0;clear hi508_0 hl508_0;replace p508:=eq_true p508;replace q508:=eq_true q508;have p509:0≤(x5_1:Int):=od_;have q509:x5_1<(l1.length:Int):=od_;obtain⟨ad509,A509_0,c509_0,e509,hx509_0,hl509_0,hi509_0⟩:=at_L5 HR1.out x5_1 p509 q509;have hw509_0:=hx509_0;cases e509;replace hx509_0:=ce_ HB hx509_0;have HR509_0:=Aside0.mk hi509_0;have HC509_0:=Aside0.mk hl509_0;clear hi509_0 hl509_0;replace p509:=eq_true p509;replace q509:=eq_true q509;refine start_ (n:=10) (S:=fun w'=>w'.cell? (ad508.add (x5_1).toNat)=some (.slice A508_0 (rd_L5 l0 x5_1).length c508_0)∧w'.cell? (ad509.add (x5_1).toNat)=some (.slice A509_0 (rd_L5 l1 x5_1).length c509_0)) (ds:=[]) (Array.replicate 10 false) (by kernel_rfl) rfl rfl ⟨(ce_ HB hw508_0),(ce_ HB hw509_0)⟩ (fun hHeld=>?_);refine with_tabW laws_eqPtSS.tab6 laws_eqPtSS.bits6 (fun HT_ HW_=>?_);generalize wr.drew=w9 at HB HR508_0 HR509_0 hx508_0 hx509_0 hHeld ⊢
        refine pu_ HT_ 0 17 (bm 10 1) ?_;refine pu_ HT_ 1 18 (bm 10 3) ?_;refine pu_ HT_ 2 19 (bm 10 7) ?_;refine pu_ HT_ 4 21 (bm 10 23) ?_;refine pu_ HT_ 5 22 (bm 10 55) ?_;refine pu_ HT_ 6 23 (bm 10 119) ?_;refine ta2_ HT_ HW_ 3 20 (bm 10 127) hHeld ?_;refine ta2_ HT_ HW_ 7 24 (bm 10 255) hHeld ?_;refine one_ (i:=8) (N:=some 25) (bm 10 511) rfl rfl (one_of HT_.out (by kernel_rfl)) (by decide) (fun K hK=>?_);refine goes_ Tryd.func71 (by kernel_rfl) rfl #[.slice A508_0 (rd_L5 l0 x5_1).length c508_0,.slice A509_0 (rd_L5 l1 x5_1).length c509_0] (by rfl) rfl rfl ma_ ?_
        with_reducible refine (laws_eqPtS.calls k1 _ _ (rd_L5 l0 x5_1) _ _ (rd_L5 l1 x5_1) true _ ?side1 ?side2 ?side3 ?side4 A7.out).mono ?_
        (case side1=>repeat (first | exact (Kd.C_below HR508_0.out HB.out) | (with_reducible refine Kd.C_alloc ?_ _) | (with_reducible refine Kd.C_drewN ?_ _) | (with_reducible refine Kd.C_drew ?_)))
        (case side2=>exact HC508_0.out)
        (case side3=>repeat (first | exact (Kd.C_below HR509_0.out HB.out) | (with_reducible refine Kd.C_alloc ?_ _) | (with_reducible refine Kd.C_drewN ?_ _) | (with_reducible refine Kd.C_drew ?_)))
        (case side4=>exact HC509_0.out)
        rintro e w10 ⟨rfl,hb⟩;refine⟨_,rfl,?_⟩;replace HB:=sb_ HB hb
        (try clear hb)
        (try clear hb2)
        (try clear hk)
        (try clear hi)
        refine hK.out _ _ ⟨(ce_ HB hw508_0),(ce_ HB hw509_0)⟩ (fun hHeld=>?_);clear hK K;refine no_ (h:=?_);refine pu_ HT_ 9 26 (bm 10 1023) ?_;refine done_ (done_of HT_.out (by kernel_rfl)) ?_
        try go_wp2
        go_roundg k1
        case measure=>have:=HK1.out;omega
        case rel=>exact⟨(wrap64 (x5_1+1)),(by first | rfl | (simp;done) | (simp [*];done)),H',⟨by have:=HK1.out;omega⟩,⟨hB_⟩⟩
       ·
        replace c8:=Bool.eq_false_iff.mpr c8;subst c8;rw [if_neg (show ¬ (false=true) by decide)] at H
        (try dsimp only at H)
        obtain rfl:=Option.some.inj H
        try go_wp2
        replace HB:=a0_ (below_drew1 HB.out);have p508:0≤(x5_1:Int):=od_;have q508:x5_1<(l0.length:Int):=od_;obtain⟨ad508,A508_0,c508_0,e508,hx508_0,hl508_0,hi508_0⟩:=at_L5 HR0.out x5_1 p508 q508;have hw508_0:=hx508_0;cases e508;replace hx508_0:=ce_ HB hx508_0;have HR508_0:=Aside0.mk hi508_0;have HC508_0:=Aside0.mk hl508_0;clear hi508_0 hl508_0;replace p508:=eq_true p508;replace q508:=eq_true q508;have p509:0≤(x5_1:Int):=od_;have q509:x5_1<(l1.length:Int):=od_;obtain⟨ad509,A509_0,c509_0,e509,hx509_0,hl509_0,hi509_0⟩:=at_L5 HR1.out x5_1 p509 q509;have hw509_0:=hx509_0;cases e509;replace hx509_0:=ce_ HB hx509_0;have HR509_0:=Aside0.mk hi509_0;have HC509_0:=Aside0.mk hl509_0;clear hi509_0 hl509_0;replace p509:=eq_true p509;replace q509:=eq_true q509;refine start_ (n:=10) (S:=fun w'=>w'.cell? (ad508.add (x5_1).toNat)=some (.slice A508_0 (rd_L5 l0 x5_1).length c508_0)∧w'.cell? (ad509.add (x5_1).toNat)=some (.slice A509_0 (rd_L5 l1 x5_1).length c509_0)) (ds:=[]) (Array.replicate 10 false) (by kernel_rfl) rfl rfl ⟨(ce_ HB hw508_0),(ce_ HB hw509_0)⟩ (fun hHeld=>?_);refine with_tabW laws_eqPtSS.tab6 laws_eqPtSS.bits6 (fun HT_ HW_=>?_);generalize wr.drew=w11 at HB HR508_0 HR509_0 hx508_0 hx509_0 hHeld ⊢
        refine pu_ HT_ 0 17 (bm 10 1) ?_;refine pu_ HT_ 1 18 (bm 10 3) ?_;refine pu_ HT_ 2 19 (bm 10 7) ?_;refine pu_ HT_ 4 21 (bm 10 23) ?_;refine pu_ HT_ 5 22 (bm 10 55) ?_;refine pu_ HT_ 6 23 (bm 10 119) ?_;refine ta2_ HT_ HW_ 3 20 (bm 10 127) hHeld ?_;refine ta2_ HT_ HW_ 7 24 (bm 10 255) hHeld ?_;refine one_ (i:=8) (N:=some 25) (bm 10 511) rfl rfl (one_of HT_.out (by kernel_rfl)) (by decide) (fun K hK=>?_);refine goes_ Tryd.func71 (by kernel_rfl) rfl #[.slice A508_0 (rd_L5 l0 x5_1).length c508_0,.slice A509_0 (rd_L5 l1 x5_1).length c509_0] (by rfl) rfl rfl ma_ ?_
        with_reducible refine (laws_eqPtS.calls k1 _ _ (rd_L5 l0 x5_1) _ _ (rd_L5 l1 x5_1) false _ ?side1 ?side2 ?side3 ?side4 A7.out).mono ?_
        (case side1=>repeat (first | exact (Kd.C_below HR508_0.out HB.out) | (with_reducible refine Kd.C_alloc ?_ _) | (with_reducible refine Kd.C_drewN ?_ _) | (with_reducible refine Kd.C_drew ?_)))
        (case side2=>exact HC508_0.out)
        (case side3=>repeat (first | exact (Kd.C_below HR509_0.out HB.out) | (with_reducible refine Kd.C_alloc ?_ _) | (with_reducible refine Kd.C_drewN ?_ _) | (with_reducible refine Kd.C_drew ?_)))
        (case side4=>exact HC509_0.out)
        rintro e w12 ⟨rfl,hb⟩;refine⟨_,rfl,?_⟩;replace HB:=sb_ HB hb
        (try clear hb)
        (try clear hb2)
        (try clear hk)
        (try clear hi)
        refine hK.out _ _ ⟨(ce_ HB hw508_0),(ce_ HB hw509_0)⟩ (fun hHeld=>?_);clear hK K;refine no_ (h:=?_);refine pu_ HT_ 9 26 (bm 10 1023) ?_;refine done_ (done_of HT_.out (by kernel_rfl)) ?_
        try go_wp2
        go_ret;exact⟨rr_,hB_⟩
      ·
       rw [if_neg c6] at H;exact absurd H (by simp)
     ·
      rw [if_neg c5] at H;exact absurd H (by simp)
    ·
     rw [if_neg c4] at H;have c4b0:decide (x5_1<(l0.length:Int))=false:=decide_eq_false c4;clear c4;obtain rfl:=Option.some.inj H;go_wp2;go_ret;exact⟨rr_,hB_⟩
 ·
  rw [if_neg c3] at H;have c3b0:((l0.length:Int)==(l1.length:Int))=false:=beq_eq_false_iff_ne.mpr c3;have c3b1:((l0.length:Int) != (l1.length:Int))=true:=bne_iff_ne.mpr c3;have c3b2:(l0.length==l1.length)=false:=by first | simpa using c3 | (simp at c3 ⊢;omega)
  obtain rfl:=Option.some.inj H;go_enter Tryd.func72,Tryd.ntmps72;go_wp2;go_ret;exact⟨rr_,hB_⟩
def laws_eqPlate.f (k:Nat)(l0_0:List (S28))(l0_1:List (List (S28)))(l1_0:List (S28))(l1_1:List (List (S28))):Option (Bool):=(laws_eqPtS.f k l0_0 l1_0).bind fun t513=>(if t513=true then ((laws_eqPtSS.f k l0_1 l1_1).bind fun t514=>(if t514=true then (some true) else (some false))) else (some false))
set_option maxHeartbeats 8000000 in
set_option maxRecDepth 100000 in
theorem laws_eqPlate.calls (k:Nat)(A0_0:Option Addr)(c0_0:Nat)(l0_0:List (S28))(A0_1:Option Addr)(c0_1:Nat)(l0_1:List (List (S28)))(A1_0:Option Addr)(c1_0:Nat)(l1_0:List (S28))(A1_1:Option Addr)(c1_1:Nat)(l1_1:List (List (S28)))(r:Bool)(w:World)(hr0_0:Kd.C k28 w A0_0 l0_0.length l0_0)(hc0_0:l0_0.length≤c0_0)(hr0_1:Kd.C (Kd.slice 28 k28) w A0_1 l0_1.length l0_1)(hc0_1:l0_1.length≤c0_1)(hr1_0:Kd.C k28 w A1_0 l1_0.length l1_0)(hc1_0:l1_0.length≤c1_0)(hr1_1:Kd.C (Kd.slice 28 k28) w A1_1 l1_1.length l1_1)(hc1_1:l1_1.length≤c1_1)(h:laws_eqPlate.f k l0_0 l0_1 l1_0 l1_1=some r):
  Calls Tryd.prog 29 #[.agg #[.slice A0_0 l0_0.length c0_0,.slice A0_1 l0_1.length c0_1],.agg #[.slice A1_0 l1_0.length c1_0,.slice A1_1 l1_1.length c1_1]] w fun e w'=>e=.returned (.bool r)∧Below w.heap.size w w':=by
 have hu26:=Tryd.underlying26;have HR0_0:=Aside0.mk hr0_0;have HC0_0:=Aside0.mk hc0_0;clear hr0_0 hc0_0;have HR0_1:=Aside0.mk hr0_1;have HC0_1:=Aside0.mk hc0_1;clear hr0_1 hc0_1;have HR1_0:=Aside0.mk hr1_0;have HC1_0:=Aside0.mk hc1_0;clear hr1_0 hc1_0;have HR1_1:=Aside0.mk hr1_1;have HC1_1:=Aside0.mk hc1_1;clear hr1_1 hc1_1;have HB:=a0_ (Below.refl w.heap.size w);have H:((laws_eqPtS.f k l0_0 l1_0).bind fun t513=>(if t513=true then ((laws_eqPtSS.f k l0_1 l1_1).bind fun t514=>(if t514=true then (some true) else (some false))) else (some false)))=some r:=h;clear h;replace H:=Option.bind_eq_some_iff.mp H;obtain⟨t513,A30,H⟩:=H
 (try dsimp only at H)
 have A3:=Aside0.mk A30;clear A30;by_cases c4:t513=true
 ·
  subst c4;rw [if_pos rfl] at H
  (try dsimp only at H)
  replace H:=Option.bind_eq_some_iff.mp H;obtain⟨t514,A50,H⟩:=H
  (try dsimp only at H)
  have A5:=Aside0.mk A50;clear A50;by_cases c6:t514=true
  ·
   subst c6;rw [if_pos rfl] at H
   (try dsimp only at H)
   obtain rfl:=Option.some.inj H;go_enter Tryd.func29,Tryd.ntmps29
   go_wp2_with (first | ((with_reducible refine gate_dst (N:=2) rfl ?_);refine bx_ (N:=2) (cs:=#[.slice A0_0 l0_0.length c0_0,.slice A0_1 l0_1.length c0_1]) (t:=26) (h:=?_);intro gb511 hg w7 hbox hb;have BK511:=a0_ (hbox);have GW511:=gh_ HB hg;have GE511:=gh_ HB hg;replace HB:=sb_ HB hb;clear hb hbox hg) | ((with_reducible refine gate_dst (N:=3) rfl ?_);refine bx_ (N:=3) (cs:=#[.slice A1_0 l1_0.length c1_0,.slice A1_1 l1_1.length c1_1]) (t:=26) (h:=?_);intro gb512 hg w8 hbox hb;have BK512:=a0_ (hbox);have GW512:=gh_ HB hg;have GE512:=gh_ HB hg;have NB511_512:=nl_ BK511 hg;have NB512_511:=nr_ BK511 hg;replace BK511:=vb_ BK511 hb;replace HB:=sb_ HB hb;clear hb hbox hg;have hnb9:=NB511_512.out;have hnc9:=NB512_511.out;have hcz10_0:=c20_ BK511;have hcz10_1:=c21_ BK511;have hfz10_0:=fz_ BK511 0;have hfz10_1:=fz_ BK511 1;have hcz11_0:=c20_ BK512;have hcz11_1:=c21_ BK512;have hfz11_0:=fz_ BK512 0;have hfz11_1:=fz_ BK512 1) | ((with_reducible refine gate_callee (f:=71) rfl ?_);refine gL_ (some 9) Tryd.func71 #[.slice A0_0 l0_0.length c0_0,.slice A1_0 l1_0.length c1_0] (h:=?_);(with_reducible refine (laws_eqPtS.calls k _ _ l0_0 _ _ l1_0 true _ ?side1 ?side2 ?side3 ?side4 A3.out).mono ?_);(case side1=>repeat (first | exact (Kd.C_below HR0_0.out HB.out) | (with_reducible refine Kd.C_alloc ?_ _) | (with_reducible refine Kd.C_drewN ?_ _) | (with_reducible refine Kd.C_drew ?_)));(case side2=>exact HC0_0.out);(case side3=>repeat (first | exact (Kd.C_below HR1_0.out HB.out) | (with_reducible refine Kd.C_alloc ?_ _) | (with_reducible refine Kd.C_drewN ?_ _) | (with_reducible refine Kd.C_drew ?_)));(case side4=>exact HC1_0.out);rintro e w12 ⟨rfl,hb⟩;refine⟨_,rfl,?_⟩;replace BK511:=vb_ BK511 hb;replace BK512:=vb_ BK512 hb;replace HB:=sb_ HB hb;(try clear hb);have hcz13_0:=c20_ BK511;have hcz13_1:=c21_ BK511;have hfz13_0:=fz_ BK511 0;have hfz13_1:=fz_ BK511 1;have hcz14_0:=c20_ BK512;have hcz14_1:=c21_ BK512;have hfz14_0:=fz_ BK512 0;have hfz14_1:=fz_ BK512 1) | ((with_reducible refine gate_callee (f:=72) rfl ?_);refine gL_ (some 15) Tryd.func72 #[.slice A0_1 l0_1.length c0_1,.slice A1_1 l1_1.length c1_1] (h:=?_);(with_reducible refine (laws_eqPtSS.calls k _ _ l0_1 _ _ l1_1 true _ ?side1 ?side2 ?side3 ?side4 A5.out).mono ?_);(case side1=>repeat (first | exact (Kd.C_below HR0_1.out HB.out) | (with_reducible refine Kd.C_alloc ?_ _) | (with_reducible refine Kd.C_drewN ?_ _) | (with_reducible refine Kd.C_drew ?_)));(case side2=>exact HC0_1.out);(case side3=>repeat (first | exact (Kd.C_below HR1_1.out HB.out) | (with_reducible refine Kd.C_alloc ?_ _) | (with_reducible refine Kd.C_drewN ?_ _) | (with_reducible refine Kd.C_drew ?_)));(case side4=>exact HC1_1.out);rintro e w15 ⟨rfl,hb⟩;refine⟨_,rfl,?_⟩;replace BK511:=vb_ BK511 hb;replace BK512:=vb_ BK512 hb;replace HB:=sb_ HB hb;(try clear hb)))
   go_ret;exact⟨rr_,hB_⟩
  ·
   replace c6:=Bool.eq_false_iff.mpr c6;subst c6;rw [if_neg (show ¬ (false=true) by decide)] at H
   (try dsimp only at H)
   obtain rfl:=Option.some.inj H;go_enter Tryd.func29,Tryd.ntmps29
   go_wp2_with (first | ((with_reducible refine gate_dst (N:=2) rfl ?_);refine bx_ (N:=2) (cs:=#[.slice A0_0 l0_0.length c0_0,.slice A0_1 l0_1.length c0_1]) (t:=26) (h:=?_);intro gb511 hg w16 hbox hb;have BK511:=a0_ (hbox);have GW511:=gh_ HB hg;have GE511:=gh_ HB hg;replace HB:=sb_ HB hb;clear hb hbox hg) | ((with_reducible refine gate_dst (N:=3) rfl ?_);refine bx_ (N:=3) (cs:=#[.slice A1_0 l1_0.length c1_0,.slice A1_1 l1_1.length c1_1]) (t:=26) (h:=?_);intro gb512 hg w17 hbox hb;have BK512:=a0_ (hbox);have GW512:=gh_ HB hg;have GE512:=gh_ HB hg;have NB511_512:=nl_ BK511 hg;have NB512_511:=nr_ BK511 hg;replace BK511:=vb_ BK511 hb;replace HB:=sb_ HB hb;clear hb hbox hg;have hnb18:=NB511_512.out;have hnc18:=NB512_511.out;have hcz19_0:=c20_ BK511;have hcz19_1:=c21_ BK511;have hfz19_0:=fz_ BK511 0;have hfz19_1:=fz_ BK511 1;have hcz20_0:=c20_ BK512;have hcz20_1:=c21_ BK512;have hfz20_0:=fz_ BK512 0;have hfz20_1:=fz_ BK512 1) | ((with_reducible refine gate_callee (f:=71) rfl ?_);refine gL_ (some 9) Tryd.func71 #[.slice A0_0 l0_0.length c0_0,.slice A1_0 l1_0.length c1_0] (h:=?_);(with_reducible refine (laws_eqPtS.calls k _ _ l0_0 _ _ l1_0 true _ ?side1 ?side2 ?side3 ?side4 A3.out).mono ?_);(case side1=>repeat (first | exact (Kd.C_below HR0_0.out HB.out) | (with_reducible refine Kd.C_alloc ?_ _) | (with_reducible refine Kd.C_drewN ?_ _) | (with_reducible refine Kd.C_drew ?_)));(case side2=>exact HC0_0.out);(case side3=>repeat (first | exact (Kd.C_below HR1_0.out HB.out) | (with_reducible refine Kd.C_alloc ?_ _) | (with_reducible refine Kd.C_drewN ?_ _) | (with_reducible refine Kd.C_drew ?_)));(case side4=>exact HC1_0.out);rintro e w21 ⟨rfl,hb⟩;refine⟨_,rfl,?_⟩;replace BK511:=vb_ BK511 hb;replace BK512:=vb_ BK512 hb;replace HB:=sb_ HB hb;(try clear hb);have hcz22_0:=c20_ BK511;have hcz22_1:=c21_ BK511;have hfz22_0:=fz_ BK511 0;have hfz22_1:=fz_ BK511 1;have hcz23_0:=c20_ BK512;have hcz23_1:=c21_ BK512;have hfz23_0:=fz_ BK512 0;have hfz23_1:=fz_ BK512 1) | ((with_reducible refine gate_callee (f:=72) rfl ?_);refine gL_ (some 15) Tryd.func72 #[.slice A0_1 l0_1.length c0_1,.slice A1_1 l1_1.length c1_1] (h:=?_);(with_reducible refine (laws_eqPtSS.calls k _ _ l0_1 _ _ l1_1 false _ ?side1 ?side2 ?side3 ?side4 A5.out).mono ?_);(case side1=>repeat (first | exact (Kd.C_below HR0_1.out HB.out) | (with_reducible refine Kd.C_alloc ?_ _) | (with_reducible refine Kd.C_drewN ?_ _) | (with_reducible refine Kd.C_drew ?_)));(case side2=>exact HC0_1.out);(case side3=>repeat (first | exact (Kd.C_below HR1_1.out HB.out) | (with_reducible refine Kd.C_alloc ?_ _) | (with_reducible refine Kd.C_drewN ?_ _) | (with_reducible refine Kd.C_drew ?_)));(case side4=>exact HC1_1.out);rintro e w24 ⟨rfl,hb⟩;refine⟨_,rfl,?_⟩;replace BK511:=vb_ BK511 hb;replace BK512:=vb_ BK512 hb;replace HB:=sb_ HB hb;(try clear hb)))
   go_ret;exact⟨rr_,hB_⟩
 ·
  replace c4:=Bool.eq_false_iff.mpr c4;subst c4;rw [if_neg (show ¬ (false=true) by decide)] at H
  (try dsimp only at H)
  obtain rfl:=Option.some.inj H;go_enter Tryd.func29,Tryd.ntmps29;go_wp2_with (first | ((with_reducible refine gate_dst (N:=2) rfl ?_);refine bx_ (N:=2) (cs:=#[.slice A0_0 l0_0.length c0_0,.slice A0_1 l0_1.length c0_1]) (t:=26) (h:=?_);intro gb511 hg w25 hbox hb;have BK511:=a0_ (hbox);have GW511:=gh_ HB hg;have GE511:=gh_ HB hg;replace HB:=sb_ HB hb;clear hb hbox hg) | ((with_reducible refine gate_dst (N:=3) rfl ?_);refine bx_ (N:=3) (cs:=#[.slice A1_0 l1_0.length c1_0,.slice A1_1 l1_1.length c1_1]) (t:=26) (h:=?_);intro gb512 hg w26 hbox hb;have BK512:=a0_ (hbox);have GW512:=gh_ HB hg;have GE512:=gh_ HB hg;have NB511_512:=nl_ BK511 hg;have NB512_511:=nr_ BK511 hg;replace BK511:=vb_ BK511 hb;replace HB:=sb_ HB hb;clear hb hbox hg;have hnb27:=NB511_512.out;have hnc27:=NB512_511.out;have hcz28_0:=c20_ BK511;have hcz28_1:=c21_ BK511;have hfz28_0:=fz_ BK511 0;have hfz28_1:=fz_ BK511 1;have hcz29_0:=c20_ BK512;have hcz29_1:=c21_ BK512;have hfz29_0:=fz_ BK512 0;have hfz29_1:=fz_ BK512 1) | ((with_reducible refine gate_callee (f:=71) rfl ?_);refine gL_ (some 9) Tryd.func71 #[.slice A0_0 l0_0.length c0_0,.slice A1_0 l1_0.length c1_0] (h:=?_);(with_reducible refine (laws_eqPtS.calls k _ _ l0_0 _ _ l1_0 false _ ?side1 ?side2 ?side3 ?side4 A3.out).mono ?_);(case side1=>repeat (first | exact (Kd.C_below HR0_0.out HB.out) | (with_reducible refine Kd.C_alloc ?_ _) | (with_reducible refine Kd.C_drewN ?_ _) | (with_reducible refine Kd.C_drew ?_)));(case side2=>exact HC0_0.out);(case side3=>repeat (first | exact (Kd.C_below HR1_0.out HB.out) | (with_reducible refine Kd.C_alloc ?_ _) | (with_reducible refine Kd.C_drewN ?_ _) | (with_reducible refine Kd.C_drew ?_)));(case side4=>exact HC1_0.out);rintro e w30 ⟨rfl,hb⟩;refine⟨_,rfl,?_⟩;replace BK511:=vb_ BK511 hb;replace BK512:=vb_ BK512 hb;replace HB:=sb_ HB hb;(try clear hb)));go_ret;exact⟨rr_,hB_⟩
end Go.Proofs.YtkefmnmoaomlhaaDoor.X
end
section
set_option linter.unusedVariables false
set_option linter.unusedSimpArgs false
namespace Go.Proofs.YtkefmnmoaomlhaaDoor.X
open Go.RowKit Go.Shelf Go.Proofs.YtkefmnmoaomlhaaDoorW.PrintWords Go.Proofs.YtkefmnmoaomlhaaDoorW.PrintLast Go.Proofs.YtkefmnmoaomlhaaDoorW.PrintMore
open Mort (ptOk plateOk fracCmp)
def cvP (p:S45):S28:=⟨p.f0,p.f1⟩
theorem len_max {α:Type}{d:Kd α}{w:World}{A:Option Addr}{n:Nat}{xs:List α}(h:d.C w A n xs):(xs.length:Int)≤9223372036854775807:=by have:=h.1;have:=h.2.1;omega
theorem w64s {a:Int}{n:Nat}(h:(n:Int)≤9223372036854775807)(ha : -1≤a)(hb:a≤2000000):wrap64 (a-n)=a-n:=w64i (by omega) (by omega)
theorem szPtS_f (zs:List S45)(hl:(zs.length:Int)≤9223372036854775807){a:Int}(h0:0≤a)(h1:a≤2000000):∃ r,laws_szPtS.f zs a=some r∧(r<0∨(r=a-zs.length∧0≤r)):=by
 unfold laws_szPtS.f;rw [w64s hl (by omega) h1];by_cases h:a-zs.length<0
 ·
  rw [if_pos h];exact⟨_,rfl,.inl (by decide)⟩
 ·
  rw [if_neg h];exact⟨_,rfl,.inr ⟨rfl,by omega⟩⟩
theorem szPtSS_l (Z:List (List S45))(hl:(Z.length:Int)≤1000000000)(hz:∀ z∈Z,(z.length:Int)≤9223372036854775807):∀ (m i k:Nat) (a:Int),Z.length-i=m→m<k→0≤a→a≤2000000→∃ r,laws_szPtSS.l0 k Z a (i:Int)=some r∧(r<0∨(0≤r∧r≤a∧∀ j,i≤j→(h:j<Z.length)→(Z[j].length:Int)≤a)):=by
 intro m
 induction m with
 | zero =>
  intro i k a hm hk h0 h1;obtain⟨k,rfl⟩:∃ q,k=q+1:=⟨k-1,by omega⟩;simp only [laws_szPtSS.l0];rw [if_neg (by omega)];exact⟨_,rfl,.inr ⟨h0,Int.le_refl _,fun j h h'=>by omega⟩⟩
 | succ m ih =>
  intro i k a hm hk h0 h1;obtain⟨k,rfl⟩:∃ q,k=q+1:=⟨k-1,by omega⟩;simp only [laws_szPtSS.l0];have hi:i<Z.length:=by omega
  have hrd:rd_L10 Z (i:Int)=Z[i]:=by
   show Z.getD (i:Int).toNat []=_
   rw [Int.toNat_natCast,List.getD_eq_getElem?_getD,List.getElem?_eq_getElem hi];rfl
  rw [if_pos (by omega),if_pos (by omega),hrd];obtain⟨r,e,hr⟩:=szPtS_f Z[i] (hz _ (List.getElem_mem hi)) h0 h1;rw [e,Option.bind_some];have hw:wrap64 ((i:Int)+1)=((i+1:Nat):Int):=by rw [w64i (by omega) (by omega)];rfl
  rcases hr with hr | ⟨hr,hr0⟩
  ·
   rw [if_pos hr];exact⟨_,rfl,.inl (by decide)⟩
  ·
   rw [if_neg (by omega),hw];obtain⟨r2,e2,h2⟩:=ih (i+1) k r (by omega) (by omega) hr0 (by omega);refine⟨r2,e2,?_⟩
   rcases h2 with h2 | ⟨h2,h3,h4⟩
   ·
    exact .inl h2
   ·
    refine .inr ⟨h2,by omega,fun j h h'=>?_⟩;by_cases hj:j=i
    ·
     subst hj;omega
    ·
     have:=h4 j (by omega) h';omega
theorem szPlate_f (zs:List S45)(Z:List (List S45))(hl:(zs.length:Int)≤9223372036854775807)(hL:(Z.length:Int)≤9223372036854775807)(hz:∀ z∈Z,(z.length:Int)≤9223372036854775807):
  ∃ r,laws_szPlate.f 3000000 zs Z 1048576=some r∧(r<0∨(zs.length≤1048576∧Z.length≤1048576∧∀ z∈Z,z.length≤1048576)):=by
 unfold laws_szPlate.f;obtain⟨r,e,hr⟩:=szPtS_f zs hl (a:=1048576) (by decide) (by decide);rw [e,Option.bind_some]
 rcases hr with hr | ⟨hr,hr0⟩
 ·
  rw [if_pos hr];exact⟨_,rfl,.inl (by decide)⟩
 ·
  rw [if_neg (by omega)];unfold laws_szPtSS.f;rw [w64s hL (by omega) (by omega)];by_cases h:r-Z.length<0
  ·
   rw [if_pos h,Option.bind_some,if_pos (by decide)];exact⟨_,rfl,.inl (by decide)⟩
  ·
   rw [if_neg h];obtain⟨r2,e2,h2⟩:=szPtSS_l Z (by omega) hz Z.length 0 3000000 (r-Z.length) (by omega) (by omega) (by omega) (by omega);have e2':laws_szPtSS.l0 3000000 Z (r-Z.length) 0=some r2:=e2;rw [e2',Option.bind_some]
   rcases h2 with h2 | ⟨h2,h3,h4⟩
   ·
    rw [if_pos h2];exact⟨_,rfl,.inl (by decide)⟩
   ·
    rw [if_neg (by omega)];refine⟨_,rfl,.inr ⟨by omega,by omega,fun z hm=>?_⟩⟩;obtain⟨j,hj,rfl⟩:=List.getElem_of_mem hm;have:=h4 j (Nat.zero_le _) hj;omega
theorem toPtS_l (zs:List S45)(hl:zs.length≤1048576):∀ (m i k:Nat) (acc:List S28),zs.length-i=m→m<k→i≤zs.length→acc.length=zs.length→acc.take i=(zs.take i).map cvP→laws_toPtS.l0 k zs acc (i:Int)=some (zs.map cvP):=by
 intro m
 induction m with
 | zero =>
  intro i k acc hm hk hi ha ht;obtain⟨k,rfl⟩:∃ q,k=q+1:=⟨k-1,by omega⟩;simp only [laws_toPtS.l0];obtain rfl:i=zs.length:=by omega
  rw [if_neg (by omega),List.take_length] at *;rw [← ha,List.take_length] at ht;rw [ht]
 | succ m ih =>
  intro i k acc hm hk hi ha ht;obtain⟨k,rfl⟩:∃ q,k=q+1:=⟨k-1,by omega⟩;simp only [laws_toPtS.l0];have hi:i<zs.length:=by omega
  have hw:wrap64 ((i:Int)+1)=((i+1:Nat):Int):=by rw [w64i (by omega) (by omega)];rfl
  rw [if_pos (by omega),if_pos (by omega)];unfold laws_toPt.f;rw [Option.bind_some,if_pos (by omega),hw,Int.toNat_natCast];refine ih (i+1) k _ (by omega) (by omega) (by omega) (by rw [List.length_set];exact ha) ?_;have hrd:rd_T45 zs (i:Int)=zs[i]:=by
   show zs.getD (i:Int).toNat _=_
   rw [Int.toNat_natCast,List.getD_eq_getElem?_getD,List.getElem?_eq_getElem hi];rfl
  rw [hrd,List.take_succ_eq_append_getElem hi,List.map_append,← ht,List.take_succ_eq_append_getElem (by rw [List.length_set];omega),List.getElem_set_self,List.take_set_of_le (Nat.le_refl _)];rfl
theorem toPtS_f (zs:List S45)(hl:zs.length≤1048576){k:Nat}(hk:1048576<k):laws_toPtS.f k zs=some (zs.map cvP):=by
 unfold laws_toPtS.f;rw [if_pos (by omega),if_pos (by omega)];exact toPtS_l zs hl zs.length 0 k _ (by omega) (by omega) (Nat.zero_le _) (by rw [List.length_replicate];omega) (by simp)
theorem toPtSS_l (Z:List (List S45))(hl:Z.length≤1048576)(hz:∀ z∈Z,z.length≤1048576):∀ (m i k:Nat) (acc:List (List S28)),Z.length-i=m→m+1048577<k→i≤Z.length→acc.length=Z.length→acc.take i=(Z.take i).map (List.map cvP)→laws_toPtSS.l0 k Z acc (i:Int)=some (Z.map (List.map cvP)):=by
 intro m
 induction m with
 | zero =>
  intro i k acc hm hk hi ha ht;obtain⟨k,rfl⟩:∃ q,k=q+1:=⟨k-1,by omega⟩;simp only [laws_toPtSS.l0];obtain rfl:i=Z.length:=by omega
  rw [if_neg (by omega),List.take_length] at *;rw [← ha,List.take_length] at ht;rw [ht]
 | succ m ih =>
  intro i k acc hm hk hi ha ht;obtain⟨k,rfl⟩:∃ q,k=q+1:=⟨k-1,by omega⟩;simp only [laws_toPtSS.l0];have hi:i<Z.length:=by omega
  have hw:wrap64 ((i:Int)+1)=((i+1:Nat):Int):=by rw [w64i (by omega) (by omega)];rfl
  have hrd:rd_L10 Z (i:Int)=Z[i]:=by
   show Z.getD (i:Int).toNat []=_
   rw [Int.toNat_natCast,List.getD_eq_getElem?_getD,List.getElem?_eq_getElem hi];rfl
  rw [if_pos (by omega),if_pos (by omega),hrd,toPtS_f Z[i] (hz _ (List.getElem_mem hi)) (by omega),Option.bind_some,if_pos (by omega),hw,Int.toNat_natCast];refine ih (i+1) k _ (by omega) (by omega) (by omega) (by rw [List.length_set];exact ha) ?_;rw [List.take_succ_eq_append_getElem hi,List.map_append,← ht,List.take_succ_eq_append_getElem (by rw [List.length_set];omega),List.getElem_set_self,List.take_set_of_le (Nat.le_refl _)];rfl
theorem toPlate_f (zs:List S45)(Z:List (List S45))(h1:zs.length≤1048576)(h2:Z.length≤1048576)(h3:∀ z∈Z,z.length≤1048576):laws_toPlate.f 3000000 zs Z=some (zs.map cvP,Z.map (List.map cvP)):=by
 unfold laws_toPlate.f;rw [toPtS_f zs h1 (by omega),Option.bind_some];unfold laws_toPtSS.f;rw [if_pos (by omega),if_pos (by omega)];have e:=toPtSS_l Z h2 h3 Z.length 0 3000000 (List.replicate Z.length []) (by omega) (by omega) (Nat.zero_le _) (by simp) (by simp);have e':laws_toPtSS.l0 3000000 Z (List.replicate (((Z.length:Int)).toNat) []) 0=some (Z.map (List.map cvP)):=by rw [Int.toNat_natCast];exact e
 rw [e',Option.bind_some]
theorem eqPtS_l (zs:List S28)(hl:zs.length≤1048576):∀ (m i k:Nat),zs.length-i=m→m<k→laws_eqPtS.l0 k zs zs (i:Int)=some true:=by
 intro m
 induction m with
 | zero =>
  intro i k hm hk;obtain⟨k,rfl⟩:∃ q,k=q+1:=⟨k-1,by omega⟩;simp only [laws_eqPtS.l0];rw [if_neg (by omega)]
 | succ m ih =>
  intro i k hm hk;obtain⟨k,rfl⟩:∃ q,k=q+1:=⟨k-1,by omega⟩;simp only [laws_eqPtS.l0];have hw:wrap64 ((i:Int)+1)=((i+1:Nat):Int):=by rw [w64i (by omega) (by omega)];rfl
  rw [if_pos (by omega),if_pos (by omega),if_pos (by omega)];unfold laws_eqPt.f;rw [if_pos rfl,if_pos rfl,Option.bind_some,if_pos rfl,hw];exact ih (i+1) k (by omega) (by omega)
theorem eqPtS_f (zs:List S28)(hl:zs.length≤1048576){k:Nat}(hk:1048576<k):laws_eqPtS.f k zs zs=some true:=by
 unfold laws_eqPtS.f;rw [if_pos rfl];exact eqPtS_l zs hl zs.length 0 k (by omega) (by omega)
theorem eqPtSS_l (Z:List (List S28))(hl:Z.length≤1048576)(hz:∀ z∈Z,z.length≤1048576):∀ (m i k:Nat),Z.length-i=m→m+1048577<k→laws_eqPtSS.l0 k Z Z (i:Int)=some true:=by
 intro m
 induction m with
 | zero =>
  intro i k hm hk;obtain⟨k,rfl⟩:∃ q,k=q+1:=⟨k-1,by omega⟩;simp only [laws_eqPtSS.l0];rw [if_neg (by omega)]
 | succ m ih =>
  intro i k hm hk;obtain⟨k,rfl⟩:∃ q,k=q+1:=⟨k-1,by omega⟩;simp only [laws_eqPtSS.l0];have hi:i<Z.length:=by omega
  have hw:wrap64 ((i:Int)+1)=((i+1:Nat):Int):=by rw [w64i (by omega) (by omega)];rfl
  have hrd:rd_L5 Z (i:Int)=Z[i]:=by
   show Z.getD (i:Int).toNat []=_
   rw [Int.toNat_natCast,List.getD_eq_getElem?_getD,List.getElem?_eq_getElem hi];rfl
  rw [if_pos (by omega),if_pos (by omega),if_pos (by omega),hrd,eqPtS_f Z[i] (hz _ (List.getElem_mem hi)) (by omega),Option.bind_some,if_pos rfl,hw];exact ih (i+1) k (by omega) (by omega)
theorem eqPlate_f (o:List S28)(H:List (List S28))(h1:o.length≤1048576)(h2:H.length≤1048576)(h3:∀ z∈H,z.length≤1048576):laws_eqPlate.f 3000000 o H o H=some true:=by
 unfold laws_eqPlate.f;rw [eqPtS_f o h1 (by omega),Option.bind_some,if_pos rfl];unfold laws_eqPtSS.f;rw [if_pos rfl];have e:laws_eqPtSS.l0 3000000 H H 0=some true:=eqPtSS_l H h2 h3 H.length 0 3000000 (by omega) (by omega);rw [e,Option.bind_some,if_pos rfl]
structure LPlateAt (w:World) (A:Option Addr) (c:Nat) (B:Option Addr) (d:Nat) (zs:List S45) (Z:List (List S45)):Prop where
 outer:Kd.C k45 w A zs.length zs
 capO:zs.length≤c
 holes:Kd.C (Kd.slice 45 k45) w B Z.length Z
 capH:Z.length≤d
theorem LPlateAt.later {w w':World}{A B:Option Addr}{c d:Nat}{o:List S45}{H:List (List S45)}(h:LPlateAt w A c B d o H)(hb:Below w.heap.size w w'):LPlateAt w' A c B d o H:=
 ⟨Kd.C_below h.outer hb,h.capO,Kd.C_below h.holes hb,h.capH⟩
def Small3 (zs:List S45)(Z:List (List S45)):Prop:=zs.length≤1048576∧Z.length≤1048576∧∀ z∈Z,z.length≤1048576
def cvO (zs:List S45):List S28:=zs.map cvP
def cvH (Z:List (List S45)):List (List S28):=Z.map (List.map cvP)
section
variable {A:Option Addr} {c:Nat} {B:Option Addr} {d:Nat} {zs:List S45} {Z:List (List S45)} {w:World} (h:LPlateAt w A c B d zs Z)
include h
theorem LPlateAt.rows (z:List S45)(hz:z∈Z):(z.length:Int)≤9223372036854775807:=by
 obtain⟨j,hj,rfl⟩:=List.getElem_of_mem hz;obtain⟨ad,A0,c0,_,_,_,hC⟩:=at_L10 h.holes (j:Int) (by omega) (by omega);have:=len_max hC;have hrd:rd_L10 Z (j:Int)=Z[j]:=by
  show Z.getD (j:Int).toNat []=_
  rw [Int.toNat_natCast,List.getD_eq_getElem?_getD,List.getElem?_eq_getElem hj];rfl
 rwa [hrd] at this
theorem LPlateAt.size:∃ r:Int,(Calls Tryd.prog 24 #[.agg #[.slice A zs.length c,.slice B Z.length d],.int .i64 1048576] w fun e w'=>e=.returned (.int .i64 r)∧Below w.heap.size w w')∧(r<0∨Small3 zs Z):=by
 obtain⟨r,e,hr⟩:=szPlate_f zs Z (len_max h.outer) (len_max h.holes) h.rows;exact⟨r,laws_szPlate.calls 3000000 A c zs B d Z 1048576 r w h.outer h.capO h.holes h.capH e,hr⟩
theorem LPlateAt.copy (hs:Small3 zs Z):Calls Tryd.prog 26 #[.agg #[.slice A zs.length c,.slice B Z.length d]] w fun e w'=>∃ A c B d,e=.returned (.agg #[.slice A (cvO zs).length c,.slice B (cvH Z).length d])∧PlateAt w' A c B d (cvO zs) (cvH Z)∧Below w.heap.size w w':=by
 refine (laws_toPlate.calls 3000000 A c zs B d Z _ _ w h.outer h.capO h.holes h.capH (toPlate_f zs Z hs.1 hs.2.1 hs.2.2)).mono ?_;rintro e w' ⟨v0,v1,rfl,h0,h1,hb⟩;obtain⟨A,c,rfl,hc,hC⟩:=Kd.R_reads h0;obtain⟨B,d,rfl,hd,hD⟩:=Kd.S_reads h1;exact⟨A,c,B,d,rfl,⟨hC,hc,hD,hd⟩,hb⟩
end
theorem same_told {A B A' B':Option Addr}{c d c' d':Nat}{zs:List S45}{Z:List (List S45)}{w:World}(h:PlateAt w A c B d (cvO zs) (cvH Z))(h':PlateAt w A' c' B' d' (cvO zs) (cvH Z))(hs:Small3 zs Z):
  Calls Tryd.prog 29 #[.agg #[.slice A (cvO zs).length c,.slice B (cvH Z).length d],.agg #[.slice A' (cvO zs).length c',.slice B' (cvH Z).length d']] w fun e w'=>e=.returned (.bool true)∧Below w.heap.size w w':=
 laws_eqPlate.calls 3000000 A c _ B d _ A' c' _ B' d' _ true w h.outer h.capO h.holes h.capH h'.outer h'.capO h'.holes h'.capH (eqPlate_f _ _ (by simpa [cvO] using hs.1) (by simpa [cvH] using hs.2.1) (by intro z hz;simp only [cvH,List.mem_map] at hz;obtain⟨y,hy,rfl⟩:=hz;simpa using hs.2.2 y hy))
theorem toPt_told (x y:Int)(w:World):Calls Tryd.prog 27 #[.agg #[.int .i64 x,.int .i64 y]] w fun e w'=>e=.returned (.agg #[.int .i64 x,.int .i64 y])∧Below w.heap.size w w':=
 laws_toPt.calls x y x y w rfl
end Go.Proofs.YtkefmnmoaomlhaaDoor.X
end
section
namespace Go.Proofs.YtkefmnmoaomlhaaDoor.X
open Go.RowKit Go.Proofs.YtkefmnmoaomlhaaDoorW.PrintWords Go.Proofs.YtkefmnmoaomlhaaDoorW.PrintLast Go.Proofs.YtkefmnmoaomlhaaDoorW.PrintMore
attribute [local go_sem] max2_int min2_int max_two min_two max_three min_three max_four min_four
set_option linter.unusedVariables false
set_option linter.unusedSimpArgs false
def laws_markPtS.l0:Nat→List (S28)→Int→Int→Option (Int × (List (S28)))
 | 0,_,_,_=>none
 | k+1,x0,x1,x5=>if x5<(x0.length:Int) then (if 0≤x5 then ((some (x0.set (x5:Int).toNat (⟨x1,(rd_T28 x0 x5).f1⟩:S28):List (S28))).bind fun y1023=>(laws_markPtS.l0 k (y1023.set (x5:Int).toNat (⟨(rd_T28 y1023 x5).f0,wrap64 (x1+1)⟩:S28)) (wrap64 ((wrap64 (x1+1))+1)) (wrap64 (x5+1)))) else (none)) else (some (x1,x0))
def laws_markPtS.f (k:Nat)(l0:List (S28))(a1:Int):Option (Int × (List (S28))):=laws_markPtS.l0 k l0 a1 0
set_option maxHeartbeats 8000000 in
set_option maxRecDepth 100000 in
theorem laws_markPtS.calls (k:Nat)(P0_:Nat→Prop)(u9000_:Value)(l0:List (S28))(a1:Int)(r1:Int)(r2:List (S28))(w0 w:World)(hB:Below w0.heap.size w0 w)(ho0:Kd.R k28 28 w w0.heap.size P0_ u9000_ l0)(h:laws_markPtS.f k l0 a1=some (r1,r2)):
  Calls Tryd.prog 89 #[u9000_,.int .i64 a1] w fun e w'=>e=.returned (.int .i64 r1)∧Kd.R k28 28 w' w0.heap.size (fun k_=>(P0_ k_∨w.heap.size≤k_)) u9000_ r2∧Below w0.heap.size w0 w'∧Kept w w' (fun k_=>P0_ k_):=by
 have HO0:=a0_ (show Kd.R k28 28 w w0.heap.size (fun k_=>(P0_ k_∨w.heap.size≤k_)) u9000_ l0 from Kd.R_mono ho0 (fun k_ hk=>(.inl hk)));have HK:=a0_ (Kept.refl w (fun k_=>P0_ k_));have HW0:=Aside0.mk hB.size;have HB:=Aside0.mk hB;clear hB;have H:(laws_markPtS.l0 k l0 a1 0)=some (r1,r2):=h;clear h;have H':=Aside0.mk H;clear H;go_enter Tryd.func89,Tryd.ntmps89;go_wp2;go_loopg [1,5] k (fun kq v1 v5 w'=>∃ (x0_1:List (S28)) (x1_1:Int) (x5_1:Int),v1=.int .i64 x1_1∧v5=.int .i64 x5_1∧Aside0 (laws_markPtS.l0 kq x0_1 x1_1 x5_1=some (r1,r2))∧Aside0 (kq≤k)∧Aside0 (Kd.R k28 28 w' w0.heap.size (fun k_=>(P0_ k_∨w.heap.size≤k_)) u9000_ x0_1)∧Aside0 (Kept w w' (fun k_=>P0_ k_))∧Aside0 (Below w0.heap.size w0 w'))
 case atStart=>exact⟨(l0),(a1),(0),(by first | rfl | (simp;done) | (simp [*];done)),(by first | rfl | (simp;done) | (simp [*];done)),H',⟨Nat.le_refl _⟩,⟨by (with_reducible repeat (first | apply Kd.R_alloc | apply Kd.R_drewN | apply Kd.R_drew));exact HO0.out⟩,⟨by repeat (first | (with_reducible first | exact HK.out | apply Kept.alloc | apply Kept.drewN | apply Kept.drew) | exact HK.out)⟩,⟨hB_⟩⟩
 case round =>
  clear H';obtain⟨x0_1,x1_1,x5_1,rfl,rfl,HA,HK1,HO_0,HK,HB⟩:=hrel
  cases gk with
  | zero=>exact absurd HA.out (by simp [laws_markPtS.l0])
  | succ k1 =>
   have H:=HA.out;clear HA;simp only [laws_markPtS.l0] at H;by_cases c3:x5_1<(x0_1.length:Int)
   ·
    rw [if_pos c3] at H;have c3b0:decide (x5_1<(x0_1.length:Int))=true:=decide_eq_true c3;clear c3;by_cases c4:0≤x5_1
    ·
     rw [if_pos c4] at H;have c4b0:decide (0≤x5_1)=true:=decide_eq_true c4;clear c4;obtain⟨y1023,hy1023⟩:∃ y_:List (S28),y_=(x0_1.set (x5_1:Int).toNat (⟨x1_1,(rd_T28 x0_1 x5_1).f1⟩:S28)):=⟨_,rfl⟩;replace H:(laws_markPtS.l0 k1 (y1023.set (x5_1:Int).toNat (⟨(rd_T28 y1023 x5_1).f0,wrap64 (x1_1+1)⟩:S28)) (wrap64 ((wrap64 (x1_1+1))+1)) (wrap64 (x5_1+1)))=some (r1,r2):=by first | (rw [hy1023];with_reducible exact H) | (have H2_:=(Option.bind_some _ _).symm.trans H;rw [hy1023];with_reducible exact H2_) | (have H2_:=(Option.bind_some _ _).symm.trans H;with_reducible exact H2_) | with_reducible exact H | (rw [hy1023];exact H) | exact H
     have Ny1023:=Aside0.mk hy1023;clear hy1023;obtain⟨y1024,hy1024⟩:∃ y_:List (S28),y_=(y1023.set (x5_1:Int).toNat (⟨(rd_T28 y1023 x5_1).f0,wrap64 (x1_1+1)⟩:S28)):=⟨_,rfl⟩;replace H:(laws_markPtS.l0 k1 y1024 (wrap64 ((wrap64 (x1_1+1))+1)) (wrap64 (x5_1+1)))=some (r1,r2):=by first | (rw [hy1024];with_reducible exact H) | (have H2_:=(Option.bind_some _ _).symm.trans H;rw [hy1024];with_reducible exact H2_) | (have H2_:=(Option.bind_some _ _).symm.trans H;with_reducible exact H2_) | with_reducible exact H | (rw [hy1024];exact H) | exact H
     have Ny1024:=Aside0.mk hy1024;clear hy1024;have H':=Aside0.mk H;clear H;obtain⟨Ao7,co7,eo7⟩:=Kd.R_slice HO_0.out;subst eo7;have p5:0≤(x5_1:Int):=od_;have q5:(x5_1:Int)<((x0_1.length:Int):Int):=od_;obtain⟨go5,co5,eo5,gb5,gl5,cl5,HG5⟩:=Kd.R_form HO_0.out (by omega)
     (first | cases eo5 | (injection eo5 with ea_ en_ ec_;(first | subst ea_ | (injection ea_ with ea_;subst ea_));subst ec_;clear en_))
     have GB5:=Aside0.mk gb5;have GG5:=Aside0.mk HG5;clear gb5 gl5 HG5;have HMgo5:=a0_ (show (P0_ go5∨w.heap.size≤go5) from (HO_0.out.1 _ rfl));obtain⟨ce5,hcl5,hM5,hcc5,hfr5⟩:=Kd.R_elem HO_0.out z28 (x5_1:Int) p5 q5;obtain rfl:=k28_openM hM5;have hx5_0:wr.cell? ⟨go5,(x5_1:Int).toNat*2,none⟩=some (.int .i64 ((rd_T28 x0_1 x5_1).f0)):=hcc5 0 _ rfl;have hx5_1:wr.cell? ⟨go5,(x5_1:Int).toNat*2+1,none⟩=some (.int .i64 ((rd_T28 x0_1 x5_1).f1)):=hcc5 1 _ rfl;have hf5_0:wr.frozen? ⟨go5,(x5_1:Int).toNat*2,none⟩=false:=hfr5 0;have hf5_1:wr.frozen? ⟨go5,(x5_1:Int).toNat*2+1,none⟩=false:=hfr5 1;clear hcl5 hcc5 hfr5;(try clear hM5);replace p5:=eq_true p5;replace q5:=eq_true q5;have HX8:=a0_ (show Kd.R k28 28 wr w0.heap.size (fun k_=>(P0_ k_∨w.heap.size≤k_)) (.slice (some ⟨go5,0,none⟩) x0_1.length co7) x0_1 from (uR_ HO_0));obtain⟨ce8,hcl8,hM8,hcc8,hfr8⟩:=Kd.R_elem HX8.out z28 (x5_1:Int) (od_) (by have h_:(x5_1:Int)<((x0_1.length:Int):Int):=od_;first | exact h_ | (have e_:=(Kd.R_reads' HO_0.out).1;omega) | simpa using h_);obtain rfl:=k28_openM hM8;have HP8:=Kd.R_seg HX8.out (x5_1:Int) (od_) (by have h_:(x5_1:Int)<((x0_1.length:Int):Int):=od_;first | exact h_ | (have e_:=(Kd.R_reads' HO_0.out).1;omega) | simpa using h_) (seg:=[.int .i64 x1_1]) (j:=0) hcl8 hcc8 (show 1≤2 from by decide) (x':=(⟨x1_1,(rd_T28 x0_1 x5_1).f1⟩:S28)) (k28_mkM _ _ _ (⟨x1_1,(rd_T28 x0_1 x5_1).f1⟩:S28) ) (fun _ hk=>hk);have hx8_0:=hcc8 0 _ rfl
     (try simp only [show (k28).sz=2 from rfl,Nat.mul_one,Nat.add_zero] at hx8_0)
     have hf8_0:=hfr8 0
     (try simp only [show (k28).sz=2 from rfl,Nat.mul_one,Nat.add_zero] at hf8_0)
     clear hcl8 hcc8 hfr8;(try clear hM8)
     go_wp2_with (first | ((with_reducible refine gate_store (t:=3) (p:=16) rfl ?_);refine store_event (t:=3) (p:=16) (v:=?vo_w9) (w1:=(wr.setCell ⟨go5,(x5_1:Int).toNat*2,none⟩ (.int .i64 x1_1))) ?hg ?ho ?hn ?hr ?_;(case ho=>rfl);(case hg=>rfl);(case hn=>rfl);(case hr=>first | (go_simp;done) | (go_simp;rfl));intro w9 hw;have hg:wr.grownBy w9 (some go5):=(by rw [hw];exact HP8.2);have hp_:Kd.R k28 28 w9 w0.heap.size (fun k_=>(P0_ k_∨w.heap.size≤k_)) (.slice (some ⟨go5,0,none⟩) x0_1.length co7) y1023:=(by rw [hw,Ny1023.out];exact HP8.1);clear HP8;replace HB:=a0_ ((by rw [hw];exact below_set (HB.out) GB5.out:Below w0.heap.size w0 w9));replace HK:=a0_ (Kept.of_grown (S:=(fun k_=>P0_ k_)) hg (by repeat (first | (with_reducible first | exact HK.out | apply Kept.alloc | apply Kept.drewN | apply Kept.drew) | exact HK.out)) (fun k_ e_=>(HO_0.out.1 k_ e_)));replace HO_0:=a0_ (hp_);clear hg hw hp_;have p6:0≤(x5_1:Int):=od_;have q6:(x5_1:Int)<((x0_1.length:Int):Int):=od_;obtain⟨ce6,hcl6,hM6,hcc6,hfr6⟩:=Kd.R_elem HO_0.out z28 (x5_1:Int) p6 q6;obtain rfl:=k28_openM hM6;have hx6_0:w9.cell? ⟨go5,(x5_1:Int).toNat*2,none⟩=some (.int .i64 ((rd_T28 y1023 x5_1).f0)):=hcc6 0 _ rfl;have hx6_1:w9.cell? ⟨go5,(x5_1:Int).toNat*2+1,none⟩=some (.int .i64 ((rd_T28 y1023 x5_1).f1)):=hcc6 1 _ rfl;have hf6_0:w9.frozen? ⟨go5,(x5_1:Int).toNat*2,none⟩=false:=hfr6 0;have hf6_1:w9.frozen? ⟨go5,(x5_1:Int).toNat*2+1,none⟩=false:=hfr6 1;clear hcl6 hcc6 hfr6;(try clear hM6);replace p6:=eq_true p6;replace q6:=eq_true q6;have HX10:=a0_ (show Kd.R k28 28 w9 w0.heap.size (fun k_=>(P0_ k_∨w.heap.size≤k_)) (.slice (some ⟨go5,0,none⟩) x0_1.length co7) y1023 from (uR_ HO_0));obtain⟨ce10,hcl10,hM10,hcc10,hfr10⟩:=Kd.R_elem HX10.out z28 (x5_1:Int) (od_) (by have h_:(x5_1:Int)<((x0_1.length:Int):Int):=od_;first | exact h_ | (have e_:=(Kd.R_reads' HO_0.out).1;omega) | simpa using h_);obtain rfl:=k28_openM hM10;have HP10:=Kd.R_seg HX10.out (x5_1:Int) (od_) (by have h_:(x5_1:Int)<((x0_1.length:Int):Int):=od_;first | exact h_ | (have e_:=(Kd.R_reads' HO_0.out).1;omega) | simpa using h_) (seg:=[.int .i64 (wrap64 (x1_1+1))]) (j:=1) hcl10 hcc10 (show 2≤2 from by decide) (x':=(⟨(rd_T28 y1023 x5_1).f0,wrap64 (x1_1+1)⟩:S28)) (k28_mkM _ _ _ (⟨(rd_T28 y1023 x5_1).f0,wrap64 (x1_1+1)⟩:S28) ) (fun _ hk=>hk);have hx10_1:=hcc10 1 _ rfl;(try simp only [show (k28).sz=2 from rfl,Nat.mul_one,Nat.add_zero] at hx10_1);have hf10_1:=hfr10 1;(try simp only [show (k28).sz=2 from rfl,Nat.mul_one,Nat.add_zero] at hf10_1);clear hcl10 hcc10 hfr10;(try clear hM10)) | ((with_reducible refine gate_store (t:=3) (p:=23) rfl ?_);refine store_event (t:=3) (p:=23) (v:=?vo_w11) (w1:=(w9.setCell ⟨go5,(x5_1:Int).toNat*2+1,none⟩ (.int .i64 (wrap64 (x1_1+1))))) ?hg ?ho ?hn ?hr ?_;(case ho=>rfl);(case hg=>rfl);(case hn=>rfl);(case hr=>first | (go_simp;done) | (go_simp;rfl));intro w11 hw;have hg:w9.grownBy w11 (some go5):=(by rw [hw];exact HP10.2);have hp_:Kd.R k28 28 w11 w0.heap.size (fun k_=>(P0_ k_∨w.heap.size≤k_)) (.slice (some ⟨go5,0,none⟩) x0_1.length co7) y1024:=(by rw [hw,Ny1024.out];exact HP10.1);clear HP10;replace HB:=a0_ ((by rw [hw];exact below_set (HB.out) GB5.out:Below w0.heap.size w0 w11));replace HK:=a0_ (Kept.of_grown (S:=(fun k_=>P0_ k_)) hg (by repeat (first | (with_reducible first | exact HK.out | apply Kept.alloc | apply Kept.drewN | apply Kept.drew) | exact HK.out)) (fun k_ e_=>(HO_0.out.1 k_ e_)));replace HO_0:=a0_ (hp_);clear hg hw hp_))
     go_roundg k1
     case measure=>have:=HK1.out;omega
     case rel=>exact⟨(y1024),(wrap64 ((wrap64 (x1_1+1))+1)),(wrap64 (x5_1+1)),(by first | rfl | (simp;done) | (simp [*];done)),(by first | rfl | (simp;done) | (simp [*];done)),H',⟨by have:=HK1.out;omega⟩,⟨by (with_reducible repeat (first | apply Kd.R_alloc | apply Kd.R_drewN | apply Kd.R_drew));exact HO_0.out⟩,⟨by repeat (first | (with_reducible first | exact HK.out | apply Kept.alloc | apply Kept.drewN | apply Kept.drew) | exact HK.out)⟩,⟨hB_⟩⟩
    ·
     rw [if_neg c4] at H;exact absurd H (by simp)
   ·
    rw [if_neg c3] at H;have c3b0:decide (x5_1<(x0_1.length:Int))=false:=decide_eq_false c3;clear c3;simp only [Option.some.injEq,Prod.mk.injEq] at H;obtain⟨rfl,rfl⟩:=H;obtain⟨Ao12,co12,eo12⟩:=Kd.R_slice HO_0.out;subst eo12;go_wp2;go_ret;exact⟨rr_,by (with_reducible repeat (first | apply Kd.R_alloc | apply Kd.R_drewN | apply Kd.R_drew));exact HO_0.out,by repeat (first | (with_reducible first | exact HB.out | apply below_alloc | apply pw_below_drewN | apply below_drew1) | exact HB.out),by repeat (first | (with_reducible first | exact HK.out | apply Kept.alloc | apply Kept.drewN | apply Kept.drew) | exact HK.out)⟩
def laws_markIntS.l0:Nat→List Int→Int→Int→Option (Int × List Int)
 | 0,_,_,_=>none
 | k+1,x0,x1,x5=>if x5<(x0.length:Int) then (if 0≤x5 then (laws_markIntS.l0 k (x0.set (x5:Int).toNat x1) (wrap64 (x1+1)) (wrap64 (x5+1))) else (none)) else (some (x1,x0))
def laws_markIntS.f (k:Nat)(l0:List Int)(a1:Int):Option (Int × List Int):=laws_markIntS.l0 k l0 a1 0
set_option maxHeartbeats 8000000 in
set_option maxRecDepth 100000 in
theorem laws_markIntS.calls (k:Nat)(P0_:Nat→Prop)(u9000_:Value)(l0:List Int)(a1:Int)(r1:Int)(r2:List Int)(w0 w:World)(hB:Below w0.heap.size w0 w)(ho0:Kd.R (Kd.int .i64) 3 w w0.heap.size P0_ u9000_ l0)(h:laws_markIntS.f k l0 a1=some (r1,r2)):
  Calls Tryd.prog 47 #[u9000_,.int .i64 a1] w fun e w'=>e=.returned (.int .i64 r1)∧Kd.R (Kd.int .i64) 3 w' w0.heap.size (fun k_=>(P0_ k_∨w.heap.size≤k_)) u9000_ r2∧Below w0.heap.size w0 w'∧Kept w w' (fun k_=>P0_ k_):=by
 have HO0:=a0_ (show Kd.R (Kd.int .i64) 3 w w0.heap.size (fun k_=>(P0_ k_∨w.heap.size≤k_)) u9000_ l0 from Kd.R_mono ho0 (fun k_ hk=>(.inl hk)));have HK:=a0_ (Kept.refl w (fun k_=>P0_ k_));have HW0:=Aside0.mk hB.size;have HB:=Aside0.mk hB;clear hB;have H:(laws_markIntS.l0 k l0 a1 0)=some (r1,r2):=h;clear h;have H':=Aside0.mk H;clear H;go_enter Tryd.func47,Tryd.ntmps47;go_wp2;go_loopg [1,5] k (fun kq v1 v5 w'=>∃ (x0_1:List Int) (x1_1:Int) (x5_1:Int),v1=.int .i64 x1_1∧v5=.int .i64 x5_1∧Aside0 (laws_markIntS.l0 kq x0_1 x1_1 x5_1=some (r1,r2))∧Aside0 (kq≤k)∧Aside0 (Kd.R (Kd.int .i64) 3 w' w0.heap.size (fun k_=>(P0_ k_∨w.heap.size≤k_)) u9000_ x0_1)∧Aside0 (Kept w w' (fun k_=>P0_ k_))∧Aside0 (Below w0.heap.size w0 w'))
 case atStart=>exact⟨(l0),(a1),(0),(by first | rfl | (simp;done) | (simp [*];done)),(by first | rfl | (simp;done) | (simp [*];done)),H',⟨Nat.le_refl _⟩,⟨by (with_reducible repeat (first | apply Kd.R_alloc | apply Kd.R_drewN | apply Kd.R_drew));exact HO0.out⟩,⟨by repeat (first | (with_reducible first | exact HK.out | apply Kept.alloc | apply Kept.drewN | apply Kept.drew) | exact HK.out)⟩,⟨hB_⟩⟩
 case round =>
  clear H';obtain⟨x0_1,x1_1,x5_1,rfl,rfl,HA,HK1,HO_0,HK,HB⟩:=hrel
  cases gk with
  | zero=>exact absurd HA.out (by simp [laws_markIntS.l0])
  | succ k1 =>
   have H:=HA.out;clear HA;simp only [laws_markIntS.l0] at H;by_cases c3:x5_1<(x0_1.length:Int)
   ·
    rw [if_pos c3] at H;have c3b0:decide (x5_1<(x0_1.length:Int))=true:=decide_eq_true c3;clear c3;by_cases c4:0≤x5_1
    ·
     rw [if_pos c4] at H;have c4b0:decide (0≤x5_1)=true:=decide_eq_true c4;clear c4;obtain⟨y1029,hy1029⟩:∃ y_:List Int,y_=(x0_1.set (x5_1:Int).toNat x1_1):=⟨_,rfl⟩;replace H:(laws_markIntS.l0 k1 y1029 (wrap64 (x1_1+1)) (wrap64 (x5_1+1)))=some (r1,r2):=by first | (rw [hy1029];with_reducible exact H) | (have H2_:=(Option.bind_some _ _).symm.trans H;rw [hy1029];with_reducible exact H2_) | (have H2_:=(Option.bind_some _ _).symm.trans H;with_reducible exact H2_) | with_reducible exact H | (rw [hy1029];exact H) | exact H
     have Ny1029:=Aside0.mk hy1029;clear hy1029;have H':=Aside0.mk H;clear H;obtain⟨Ao6,co6,eo6⟩:=Kd.R_slice HO_0.out;subst eo6;have p5:0≤(x5_1:Int):=od_;have q5:(x5_1:Int)<((x0_1.length:Int):Int):=od_;obtain⟨go5,co5,eo5,gb5,gl5,cl5,HG5⟩:=Kd.R_form HO_0.out (by omega)
     (first | cases eo5 | (injection eo5 with ea_ en_ ec_;(first | subst ea_ | (injection ea_ with ea_;subst ea_));subst ec_;clear en_))
     have GB5:=Aside0.mk gb5;have GG5:=Aside0.mk HG5;clear gb5 gl5 HG5;have HMgo5:=a0_ (show (P0_ go5∨w.heap.size≤go5) from (HO_0.out.1 _ rfl));obtain⟨hx5_0,hf5_0⟩:=Kd.R_celln 0 HO_0.out (x5_1:Int) p5 q5;replace p5:=eq_true p5;replace q5:=eq_true q5;have HP7:=Kd.R_putg HO_0.out (x5_1:Int) x1_1;go_wp2_with (first | ((with_reducible refine gate_store (t:=3) (p:=15) rfl ?_);refine store_event (t:=3) (p:=15) (v:=?vo_w8) (w1:=(wr.setCell ⟨go5,(x5_1:Int).toNat,none⟩ (.int .i64 x1_1))) ?hg ?ho ?hn ?hr ?_;(case ho=>rfl);(case hg=>rfl);(case hn=>rfl);(case hr=>first | (go_simp;done) | (go_simp;rfl));intro w8 hw;have hg:wr.grownBy w8 (some go5):=(by rw [hw];exact HP7.2);have hp_:Kd.R (Kd.int .i64) 3 w8 w0.heap.size (fun k_=>(P0_ k_∨w.heap.size≤k_)) (.slice (some ⟨go5,0,none⟩) x0_1.length co6) y1029:=(by rw [hw,Ny1029.out];exact HP7.1);clear HP7;replace HB:=a0_ ((by rw [hw];exact below_set (HB.out) GB5.out:Below w0.heap.size w0 w8));replace HK:=a0_ (Kept.of_grown (S:=(fun k_=>P0_ k_)) hg (by repeat (first | (with_reducible first | exact HK.out | apply Kept.alloc | apply Kept.drewN | apply Kept.drew) | exact HK.out)) (fun k_ e_=>(HO_0.out.1 k_ e_)));replace HO_0:=a0_ (hp_);clear hg hw hp_));go_roundg k1
     case measure=>have:=HK1.out;omega
     case rel=>exact⟨(y1029),(wrap64 (x1_1+1)),(wrap64 (x5_1+1)),(by first | rfl | (simp;done) | (simp [*];done)),(by first | rfl | (simp;done) | (simp [*];done)),H',⟨by have:=HK1.out;omega⟩,⟨by (with_reducible repeat (first | apply Kd.R_alloc | apply Kd.R_drewN | apply Kd.R_drew));exact HO_0.out⟩,⟨by repeat (first | (with_reducible first | exact HK.out | apply Kept.alloc | apply Kept.drewN | apply Kept.drew) | exact HK.out)⟩,⟨hB_⟩⟩
    ·
     rw [if_neg c4] at H;exact absurd H (by simp)
   ·
    rw [if_neg c3] at H;have c3b0:decide (x5_1<(x0_1.length:Int))=false:=decide_eq_false c3;clear c3;simp only [Option.some.injEq,Prod.mk.injEq] at H;obtain⟨rfl,rfl⟩:=H;obtain⟨Ao9,co9,eo9⟩:=Kd.R_slice HO_0.out;subst eo9;go_wp2;go_ret;exact⟨rr_,by (with_reducible repeat (first | apply Kd.R_alloc | apply Kd.R_drewN | apply Kd.R_drew));exact HO_0.out,by repeat (first | (with_reducible first | exact HB.out | apply below_alloc | apply pw_below_drewN | apply below_drew1) | exact HB.out),by repeat (first | (with_reducible first | exact HK.out | apply Kept.alloc | apply Kept.drewN | apply Kept.drew) | exact HK.out)⟩
def laws_heldIntS.l0:Nat→List Int→Int→Int→Option (Int)
 | 0,_,_,_=>none
 | k+1,x0,x1,x5=>if x5<(x0.length:Int) then (if 0≤x5 then (if (rd x0 x5)=x1 then (laws_heldIntS.l0 k x0 (wrap64 (x1+1)) (wrap64 (x5+1))) else (some (-1))) else (none)) else (some x1)
def laws_heldIntS.f (k:Nat)(l0:List Int)(a1:Int):Option (Int):=laws_heldIntS.l0 k l0 a1 0
set_option maxHeartbeats 8000000 in
set_option maxRecDepth 100000 in
theorem laws_heldIntS.calls (k:Nat)(A0:Option Addr)(c0:Nat)(l0:List Int)(a1:Int)(r:Int)(w:World)(hr0:Kd.C (Kd.int .i64) w A0 l0.length l0)(hc0:l0.length≤c0)(h:laws_heldIntS.f k l0 a1=some r):
  Calls Tryd.prog 48 #[.slice A0 l0.length c0,.int .i64 a1] w fun e w'=>e=.returned (.int .i64 r)∧Drawn0 w w':=by
 have HR0:=Aside0.mk hr0;have HC0:=Aside0.mk hc0;clear hr0 hc0;have H:(laws_heldIntS.l0 k l0 a1 0)=some r:=h;clear h;have H':=Aside0.mk H;clear H;go_enter Tryd.func48,Tryd.ntmps48;go_wp2;go_loopg [1,5] k (fun kq v1 v5 w'=>∃ (x1_1:Int) (x5_1:Int),v1=.int .i64 x1_1∧v5=.int .i64 x5_1∧Aside0 (laws_heldIntS.l0 kq l0 x1_1 x5_1=some r)∧Aside0 (kq≤k)∧Drawn0 w w')
 case atStart=>exact⟨(a1),(0),(by first | rfl | (simp;done) | (simp [*];done)),(by first | rfl | (simp;done) | (simp [*];done)),H',⟨Nat.le_refl _⟩,by repeat (first | exact Drawn0.refl _ | apply Drawn0.step)⟩
 case round =>
  clear H';obtain⟨x1_1,x5_1,rfl,rfl,HA,HK1,⟨m1,rfl⟩⟩:=hrel
  cases gk with
  | zero=>exact absurd HA.out (by simp [laws_heldIntS.l0])
  | succ k1 =>
   have H:=HA.out;clear HA;simp only [laws_heldIntS.l0] at H;by_cases c3:x5_1<(l0.length:Int)
   ·
    rw [if_pos c3] at H;have c3b0:decide (x5_1<(l0.length:Int))=true:=decide_eq_true c3;clear c3;by_cases c4:0≤x5_1
    ·
     rw [if_pos c4] at H;have c4b0:decide (0≤x5_1)=true:=decide_eq_true c4;clear c4;by_cases c5:(rd l0 x5_1)=x1_1
     ·
      rw [if_pos c5] at H;have c5b0:((rd l0 x5_1)==x1_1)=true:=beq_iff_eq.mpr c5;have c5b1:((rd l0 x5_1) != x1_1)=false:=bne_eq_false_iff_eq.mpr c5;clear c5;have H':=Aside0.mk H;clear H;have p1030:0≤(x5_1:Int):=od_;have q1030:x5_1<(l0.length:Int):=od_;obtain⟨ad1030,e1030,hx1030_0⟩:=Kd.at_int HR0.out x5_1 p1030 q1030;cases e1030;replace p1030:=eq_true p1030;replace q1030:=eq_true q1030;go_wp2;go_roundg k1
      case measure=>have:=HK1.out;omega
      case rel=>exact⟨(wrap64 (x1_1+1)),(wrap64 (x5_1+1)),(by first | rfl | (simp;done) | (simp [*];done)),(by first | rfl | (simp;done) | (simp [*];done)),H',⟨by have:=HK1.out;omega⟩,by repeat (first | exact Drawn0.refl _ | apply Drawn0.step)⟩
     ·
      rw [if_neg c5] at H;have c5b0:((rd l0 x5_1)==x1_1)=false:=beq_eq_false_iff_ne.mpr c5;have c5b1:((rd l0 x5_1) != x1_1)=true:=bne_iff_ne.mpr c5;obtain rfl:=Option.some.inj H;have p1030:0≤(x5_1:Int):=od_;have q1030:x5_1<(l0.length:Int):=od_;obtain⟨ad1030,e1030,hx1030_0⟩:=Kd.at_int HR0.out x5_1 p1030 q1030;cases e1030;replace p1030:=eq_true p1030;replace q1030:=eq_true q1030;go_wp2;go_ret;exact⟨by first | rfl | (simp;done) | (simp [*];done),by repeat (first | exact Drawn0.refl _ | apply Drawn0.step)⟩
    ·
     rw [if_neg c4] at H;exact absurd H (by simp)
   ·
    rw [if_neg c3] at H;have c3b0:decide (x5_1<(l0.length:Int))=false:=decide_eq_false c3;clear c3;obtain rfl:=Option.some.inj H;go_wp2;go_ret;exact⟨by first | rfl | (simp;done) | (simp [*];done),by repeat (first | exact Drawn0.refl _ | apply Drawn0.step)⟩
def laws_eqIntS.l0:Nat→List Int→List Int→Int→Option (Bool)
 | 0,_,_,_=>none
 | k+1,x0,x1,x5=>if x5<(x0.length:Int) then (if 0≤x5 then (if x5<(x1.length:Int) then (if (rd x0 x5)=(rd x1 x5) then (laws_eqIntS.l0 k x0 x1 (wrap64 (x5+1))) else (some false)) else (none)) else (none)) else (some true)
def laws_eqIntS.f (k:Nat)(l0:List Int)(l1:List Int):Option (Bool):=if (l0.length:Int)=(l1.length:Int) then (laws_eqIntS.l0 k l0 l1 0) else (some false)
set_option maxHeartbeats 8000000 in
set_option maxRecDepth 100000 in
theorem laws_eqIntS.calls (k:Nat)(A0:Option Addr)(c0:Nat)(l0:List Int)(A1:Option Addr)(c1:Nat)(l1:List Int)(r:Bool)(w:World)(hr0:Kd.C (Kd.int .i64) w A0 l0.length l0)(hc0:l0.length≤c0)(hr1:Kd.C (Kd.int .i64) w A1 l1.length l1)(hc1:l1.length≤c1)(h:laws_eqIntS.f k l0 l1=some r):
  Calls Tryd.prog 45 #[.slice A0 l0.length c0,.slice A1 l1.length c1] w fun e w'=>e=.returned (.bool r)∧Drawn0 w w':=by
 have HR0:=Aside0.mk hr0;have HC0:=Aside0.mk hc0;clear hr0 hc0;have HR1:=Aside0.mk hr1;have HC1:=Aside0.mk hc1;clear hr1 hc1;have H:(if (l0.length:Int)=(l1.length:Int) then (laws_eqIntS.l0 k l0 l1 0) else (some false))=some r:=h;clear h;by_cases c3:(l0.length:Int)=(l1.length:Int)
 ·
  rw [if_pos c3] at H;have c3b0:((l0.length:Int)==(l1.length:Int))=true:=beq_iff_eq.mpr c3;have c3b1:((l0.length:Int) != (l1.length:Int))=false:=bne_eq_false_iff_eq.mpr c3;have c3b2:(l0.length==l1.length)=true:=by first | simpa using c3 | (simp at c3 ⊢;omega)
  clear c3;have H':=Aside0.mk H;clear H;go_enter Tryd.func45,Tryd.ntmps45;go_wp2
  repeat (go_quiet (fail);try go_wp2)
  go_loopg [5] k (fun kq v5 w'=>∃ (x5_1:Int),v5=.int .i64 x5_1∧Aside0 (laws_eqIntS.l0 kq l0 l1 x5_1=some r)∧Aside0 (kq≤k)∧Drawn0 w w')
  case atStart=>exact⟨(0),(by first | rfl | (simp;done) | (simp [*];done)),H',⟨Nat.le_refl _⟩,by repeat (first | exact Drawn0.refl _ | apply Drawn0.step)⟩
  case round =>
   clear H';obtain⟨x5_1,rfl,HA,HK1,⟨m1,rfl⟩⟩:=hrel
   cases gk with
   | zero=>exact absurd HA.out (by simp [laws_eqIntS.l0])
   | succ k1 =>
    have H:=HA.out;clear HA;simp only [laws_eqIntS.l0] at H;by_cases c4:x5_1<(l0.length:Int)
    ·
     rw [if_pos c4] at H;have c4b0:decide (x5_1<(l0.length:Int))=true:=decide_eq_true c4;clear c4;by_cases c5:0≤x5_1
     ·
      rw [if_pos c5] at H;have c5b0:decide (0≤x5_1)=true:=decide_eq_true c5;clear c5;by_cases c6:x5_1<(l1.length:Int)
      ·
       rw [if_pos c6] at H;have c6b0:decide (x5_1<(l1.length:Int))=true:=decide_eq_true c6;clear c6;by_cases c7:(rd l0 x5_1)=(rd l1 x5_1)
       ·
        rw [if_pos c7] at H;have c7b0:((rd l0 x5_1)==(rd l1 x5_1))=true:=beq_iff_eq.mpr c7;have c7b1:((rd l0 x5_1) != (rd l1 x5_1))=false:=bne_eq_false_iff_eq.mpr c7;clear c7;have H':=Aside0.mk H;clear H;have p1021:0≤(x5_1:Int):=od_;have q1021:x5_1<(l0.length:Int):=od_;obtain⟨ad1021,e1021,hx1021_0⟩:=Kd.at_int HR0.out x5_1 p1021 q1021;cases e1021;replace p1021:=eq_true p1021;replace q1021:=eq_true q1021;have p1022:0≤(x5_1:Int):=od_;have q1022:x5_1<(l1.length:Int):=od_;obtain⟨ad1022,e1022,hx1022_0⟩:=Kd.at_int HR1.out x5_1 p1022 q1022;cases e1022;replace p1022:=eq_true p1022;replace q1022:=eq_true q1022;go_wp2
        repeat (go_quiet (fail);try go_wp2)
        go_roundg k1
        case measure=>have:=HK1.out;omega
        case rel=>exact⟨(wrap64 (x5_1+1)),(by first | rfl | (simp;done) | (simp [*];done)),H',⟨by have:=HK1.out;omega⟩,by repeat (first | exact Drawn0.refl _ | apply Drawn0.step)⟩
       ·
        rw [if_neg c7] at H;have c7b0:((rd l0 x5_1)==(rd l1 x5_1))=false:=beq_eq_false_iff_ne.mpr c7;have c7b1:((rd l0 x5_1) != (rd l1 x5_1))=true:=bne_iff_ne.mpr c7;obtain rfl:=Option.some.inj H;have p1021:0≤(x5_1:Int):=od_;have q1021:x5_1<(l0.length:Int):=od_;obtain⟨ad1021,e1021,hx1021_0⟩:=Kd.at_int HR0.out x5_1 p1021 q1021;cases e1021;replace p1021:=eq_true p1021;replace q1021:=eq_true q1021;have p1022:0≤(x5_1:Int):=od_;have q1022:x5_1<(l1.length:Int):=od_;obtain⟨ad1022,e1022,hx1022_0⟩:=Kd.at_int HR1.out x5_1 p1022 q1022;cases e1022;replace p1022:=eq_true p1022;replace q1022:=eq_true q1022;go_wp2
        repeat (go_quiet (fail);try go_wp2)
        go_ret;exact⟨by first | rfl | (simp;done) | (simp [*];done),by repeat (first | exact Drawn0.refl _ | apply Drawn0.step)⟩
      ·
       rw [if_neg c6] at H;exact absurd H (by simp)
     ·
      rw [if_neg c5] at H;exact absurd H (by simp)
    ·
     rw [if_neg c4] at H;have c4b0:decide (x5_1<(l0.length:Int))=false:=decide_eq_false c4;clear c4;obtain rfl:=Option.some.inj H;go_wp2
     repeat (go_quiet (fail);try go_wp2)
     go_ret;exact⟨by first | rfl | (simp;done) | (simp [*];done),by repeat (first | exact Drawn0.refl _ | apply Drawn0.step)⟩
 ·
  rw [if_neg c3] at H;have c3b0:((l0.length:Int)==(l1.length:Int))=false:=beq_eq_false_iff_ne.mpr c3;have c3b1:((l0.length:Int) != (l1.length:Int))=true:=bne_iff_ne.mpr c3;have c3b2:(l0.length==l1.length)=false:=by first | simpa using c3 | (simp at c3 ⊢;omega)
  obtain rfl:=Option.some.inj H;go_enter Tryd.func45,Tryd.ntmps45;go_wp2
  repeat (go_quiet (fail);try go_wp2)
  go_ret;exact⟨by first | rfl | (simp;done) | (simp [*];done),by repeat (first | exact Drawn0.refl _ | apply Drawn0.step)⟩
end Go.Proofs.YtkefmnmoaomlhaaDoor.X
end
section
set_option linter.unusedVariables false
set_option linter.unusedSimpArgs false
namespace Go.Proofs.YtkefmnmoaomlhaaDoor.X
open Go.RowKit Go.Shelf Go.Proofs.YtkefmnmoaomlhaaDoorW.PrintWords Go.Proofs.YtkefmnmoaomlhaaDoorW.PrintLast Go.Proofs.YtkefmnmoaomlhaaDoorW.PrintMore
open Mort (ptOk plateOk plateNear fracCmp)
theorem markPtS_l:∀ (m i k:Nat) (acc:List S28) (a:Int),acc.length-i=m→m<k→i≤acc.length→acc.length≤1048576→0≤a→a+2*m≤4000000000000000→∃ r2,laws_markPtS.l0 k acc a (i:Int)=some (a+2*m,r2):=by
 intro m
 induction m with
 | zero =>
  intro i k acc a hm hk hi hl h0 h1;obtain⟨k,rfl⟩:∃ q,k=q+1:=⟨k-1,by omega⟩;simp only [laws_markPtS.l0];rw [if_neg (by omega)];exact⟨acc,by simp⟩
 | succ m ih =>
  intro i k acc a hm hk hi hl h0 h1;obtain⟨k,rfl⟩:∃ q,k=q+1:=⟨k-1,by omega⟩;simp only [laws_markPtS.l0];rw [if_pos (by omega),if_pos (by omega),Option.bind_some];have hw:wrap64 ((i:Int)+1)=((i+1:Nat):Int):=by rw [w64i (by omega) (by omega)];rfl
  have hw1:wrap64 (a+1)=a+1:=w64i (by omega) (by omega);have hw2:wrap64 (a+1+1)=a+1+1:=w64i (by omega) (by omega);rw [hw,hw1,hw2];obtain⟨r2,e⟩:=ih (i+1) k (((acc.set (i:Int).toNat ⟨a,(rd_T28 acc (i:Int)).f1⟩).set (i:Int).toNat ⟨(rd_T28 (acc.set (i:Int).toNat ⟨a,(rd_T28 acc (i:Int)).f1⟩) (i:Int)).f0,a+1⟩)) (a+1+1) (by simp only [List.length_set];omega) (by omega) (by simp only [List.length_set];omega) (by simp only [List.length_set];omega) (by omega) (by omega);refine⟨r2,e.trans ?_⟩
  congr 2
  omega
theorem markPtS_f (l:List S28)(hl:l.length≤1048576){a:Int}(h0:0≤a)(h1:a+2*l.length≤4000000000000000):∃ r2,laws_markPtS.f 1048577 l a=some (a+2*l.length,r2):=
 markPtS_l l.length 0 1048577 l a (by omega) (by omega) (Nat.zero_le _) hl h0 h1
def MarkedI (a:Int)(l:List Int):Prop:=∀ j,j<l.length→l[j]?=some (a+j)
theorem markIntS_l (a:Int):∀ (m i k:Nat) (acc:List Int),acc.length-i=m→m<k→i≤acc.length→acc.length≤1000→0≤a→a≤1000→(∀ j,j<i→acc[j]?=some (a+j))→∃ r2,laws_markIntS.l0 k acc (a+i) (i:Int)=some (a+acc.length,r2)∧r2.length=acc.length∧MarkedI a r2:=by
 intro m
 induction m with
 | zero =>
  intro i k acc hm hk hi hl h0 h1 hj;obtain⟨k,rfl⟩:∃ q,k=q+1:=⟨k-1,by omega⟩;simp only [laws_markIntS.l0];rw [if_neg (by omega)];obtain rfl:i=acc.length:=by omega
  exact⟨acc,rfl,rfl,hj⟩
 | succ m ih =>
  intro i k acc hm hk hi hl h0 h1 hj;obtain⟨k,rfl⟩:∃ q,k=q+1:=⟨k-1,by omega⟩;simp only [laws_markIntS.l0];rw [if_pos (by omega),if_pos (by omega)];have hw:wrap64 ((i:Int)+1)=((i+1:Nat):Int):=by rw [w64i (by omega) (by omega)];rfl
  have hw1:wrap64 (a+i+1)=a+((i+1:Nat):Int):=by rw [w64i (by omega) (by omega)];omega
  rw [hw,hw1,Int.toNat_natCast]
  obtain⟨r2,e,e2,e3⟩:=ih (i+1) k (acc.set i (a+i)) (by simp only [List.length_set];omega) (by omega) (by simp only [List.length_set];omega) (by simp only [List.length_set];omega) h0 h1 (by
   intro j hji;by_cases h:j=i
   ·
    subst h;rw [List.getElem?_set_self (by omega)]
   ·
    rw [List.getElem?_set_ne (Ne.symm h)];exact hj j (by omega))
  rw [List.length_set] at e e2;exact⟨r2,e,e2,e3⟩
theorem markIntS_f (l:List Int)(hl:l.length≤1000):∃ r2,laws_markIntS.f 1001 l 1=some ((1:Int)+(l.length:Int),r2)∧r2.length=l.length∧MarkedI 1 r2:=
 markIntS_l 1 l.length 0 1001 l (by omega) (by omega) (Nat.zero_le _) hl (by decide) (by decide) (fun j h=>by omega)
theorem heldIntS_l (a:Int)(l:List Int)(hM:MarkedI a l)(hl:l.length≤1000)(h0:0≤a)(h1:a≤1000):∀ (m i k:Nat),l.length-i=m→m<k→i≤l.length→laws_heldIntS.l0 k l (a+i) (i:Int)=some (a+l.length):=by
 intro m
 induction m with
 | zero =>
  intro i k hm hk hi;obtain⟨k,rfl⟩:∃ q,k=q+1:=⟨k-1,by omega⟩;simp only [laws_heldIntS.l0];rw [if_neg (by omega)];obtain rfl:i=l.length:=by omega
  rfl
 | succ m ih =>
  intro i k hm hk hi;obtain⟨k,rfl⟩:∃ q,k=q+1:=⟨k-1,by omega⟩;simp only [laws_heldIntS.l0];have hw:wrap64 ((i:Int)+1)=((i+1:Nat):Int):=by rw [w64i (by omega) (by omega)];rfl
  have hw1:wrap64 (a+i+1)=a+((i+1:Nat):Int):=by rw [w64i (by omega) (by omega)];omega
  have hrd:rd l (i:Int)=a+i:=by
   show l.getD (i:Int).toNat _=_
   rw [Int.toNat_natCast,List.getD_eq_getElem?_getD,hM i (by omega)];rfl
  rw [if_pos (by omega),if_pos (by omega),if_pos hrd,hw,hw1];exact ih (i+1) k (by omega) (by omega) (by omega)
theorem heldIntS_f (l:List Int)(hM:MarkedI 1 l)(hl:l.length≤1000):laws_heldIntS.f 1001 l 1=some ((1:Int)+(l.length:Int)):=
 heldIntS_l 1 l hM hl (by decide) (by decide) l.length 0 1001 (by omega) (by omega) (Nat.zero_le _)
theorem eqIntS_l (l:List Int)(hl:l.length≤1000):∀ (m i k:Nat),l.length-i=m→m<k→laws_eqIntS.l0 k l l (i:Int)=some true:=by
 intro m
 induction m with
 | zero =>
  intro i k hm hk;obtain⟨k,rfl⟩:∃ q,k=q+1:=⟨k-1,by omega⟩;simp only [laws_eqIntS.l0];rw [if_neg (by omega)]
 | succ m ih =>
  intro i k hm hk;obtain⟨k,rfl⟩:∃ q,k=q+1:=⟨k-1,by omega⟩;simp only [laws_eqIntS.l0];have hw:wrap64 ((i:Int)+1)=((i+1:Nat):Int):=by rw [w64i (by omega) (by omega)];rfl
  rw [if_pos (by omega),if_pos (by omega),if_pos (by omega),if_pos trivial,hw];exact ih (i+1) k (by omega) (by omega)
theorem eqIntS_f (l:List Int)(hl:l.length≤1000):laws_eqIntS.f 1001 l l=some true:=by
 unfold laws_eqIntS.f;rw [if_pos rfl];exact eqIntS_l l hl l.length 0 1001 (by omega) (by omega)
theorem nearF_len (p:Mort.Pt)(f:Mort.Frac):∀ (es:List Mort.Seg) (i:Nat),(Mort.nearF p f i es).length≤es.length:=by
 intro es
 induction es with
 | nil=>intro i;exact Nat.le_refl _
 | cons s es ih =>
  intro i;unfold Mort.nearF;have:=ih (i+1)
  split <;> simp only [List.length_cons] <;> omega
theorem near_len (o:List S28)(H:List (List S28))(x y:Int):(plateNear (pl o H) (x,y)).length≤24:=by
 unfold plateNear;by_cases h:(plateOk (pl o H) && ptOk (x,y))=true
 ·
  rw [if_pos h];rw [Bool.and_eq_true] at h;refine Nat.le_trans (nearF_len _ _ _ _) ?_;rw [← allEdges_pl,List.length_map];exact (edges_facts h.1).2.2.1
 ·
  rw [if_neg h];simp
theorem S_rows {w:World}{base:Nat}{P:Nat→Prop}{ad:Addr}{n c:Nat}{H:List (List S28)}(h:Kd.S (Kd.slice 28 k28) 23 w base P (.slice (some ad) n c) H):
  ∃ (f:Nat→Nat) (g:Nat),ad=⟨g,0,none⟩∧∀ i:Nat,i<n→∃ v,w.cell? (ad.add i)=some v∧Kd.R k28 28 w base (fun k=>(P k∧k≠g)∧f k=i) v (H.getD i []):=by
 have hn:=(Kd.S_reads' h).1;obtain⟨f,hf⟩:=h;obtain⟨g,rfl⟩:=Kd.R_head hf;refine⟨f,g,rfl,fun i hi=>?_⟩;obtain⟨cs,hcl,hM,hc⟩:=Kd.R_getA hf (([]:List S28),0) (i:Int) (by omega) (by omega);rw [Int.toNat_natCast] at hM hc;have hz:H.zipIdx.getD i ([],0)=(H.getD i [],i):=by
  have hh:H[i]?=some (H.getD i []):=by rw [List.getD_eq_getElem?_getD,List.getElem?_eq_getElem (by omega)];rfl
  rw [List.getD_eq_getElem?_getD,Kd.zip_at hh];rfl
 rw [hz] at hM;obtain⟨v,rfl,hR⟩:=hM;refine⟨v,?_,?_⟩
 ·
  have:=hc 0 v rfl;have e:i*(Kd.tag f (Kd.slice 28 k28)).sz+0=i:=by show i*1+0=i;omega
  rwa [e] at this
 ·
  exact Kd.R_mono hR (fun k hk=>⟨⟨hk.1.1,fun e=>hk.1.2 (by subst e;rfl)⟩,hk.2⟩)
set_option maxHeartbeats 4000000 in
set_option maxRecDepth 100000 in
theorem markPtSS_calls (B:Option Addr)(d:Nat)(H:List (List S28))(P:Nat→Prop)(a:Int)(w0 w:World)(hB:Below w0.heap.size w0 w)(hS:Kd.S (Kd.slice 28 k28) 23 w w0.heap.size P (.slice B H.length d) H)(hl:H.length≤1048576)(hz:∀ z∈H,z.length≤1048576)(ha0:0≤a)(ha:a≤10000000):
  Calls Tryd.prog 90 #[.slice B H.length d,.int .i64 a] w fun e w'=>∃ r:Int,e=.returned (.int .i64 r)∧0≤r∧Below w0.heap.size w0 w'∧Kept w w' P:=by
 have hu23:=Tryd.underlying23;obtain⟨f,g,hfg⟩:∃ (f:Nat→Nat) (g:Nat),∀ i:Nat,i<H.length→B=some ⟨g,0,none⟩∧∃ v,(∀ w',Kept w w' (fun k=>(P k∧k≠g)∧f k<i)→w'.cell? ⟨g,i,none⟩=some v)∧Kd.R k28 28 w w0.heap.size (fun k=>(P k∧k≠g)∧f k=i) v (H.getD i []):=by
  cases B with
  | none =>
   refine⟨fun _=>0,0,fun i hi=>?_⟩;obtain⟨g,cap,e,_⟩:=Kd.S_form hS (by omega);cases e
  | some ad =>
   obtain⟨f,g,rfl,hr⟩:=S_rows hS;refine⟨f,g,fun i hi=>⟨rfl,?_⟩⟩;obtain⟨v,h1,h2⟩:=hr i hi;refine⟨v,?_,h2⟩;rw [add_at,Nat.zero_add] at h1;obtain⟨cells,hb⟩:=Kd.S_typed hS g (by simp [Value.ownBlock]);intro w' hk;rw [blk_cell (blk_kept hb hk (fun h=>h.1.2 rfl)) i,← h1];exact (blk_cell hb i).symm
 have HR:=Aside0.mk hfg;have HB:=Aside0.mk (And.intro hB (And.intro hl (And.intro ha0 ha)));have HZ:=Aside0.mk hz;clear hfg hB hS hl hz ha0 ha;go_enter Tryd.func90,Tryd.ntmps90;go_wp2;go_loopg [1,5] H.length (fun kq v1 v5 w'=>∃ (i:Nat) (b:Int),v1=.int .i64 b∧v5=.int .i64 (i:Int)∧Aside0 (kq=H.length-i∧i≤H.length∧0≤b∧b≤a+i*2097152∧Below w0.heap.size w0 w'∧Kept w w' (fun k=>(P k∧k≠g)∧f k<i)))
 case atStart=>exact⟨0,a,rfl,rfl,⟨rfl,Nat.zero_le _,HB.out.2.2.1,by omega,HB.out.1,Kept.refl _ _⟩⟩
 case round =>
  obtain⟨i,b,rfl,rfl,HI⟩:=hrel;have hi:=HI.out.2.1;by_cases hlt:i<H.length
  ·
   have hd:decide ((i:Int)<(H.length:Int))=true:=decide_eq_true (by omega);have hd2:(i:Int)<(H.length:Int):=by omega
   obtain⟨rfl,v,hc,hR⟩:=HR.out i hlt;obtain⟨h1,h2,h3,h4,h5,h6⟩:=HI.out;have hc2:wr.cell? ⟨g,i,none⟩=some v:=hc _ h6;have hR2:=Kd.R_kept hR h6 (fun k hk hS=>by have:=hk.2;have:=hS.2;omega);obtain⟨z,hz⟩:∃ z,H.getD i []=z:=⟨_,rfl⟩;have hzl:z.length≤1048576:=HZ.out z (by rw [← hz,List.getD_eq_getElem?_getD,List.getElem?_eq_getElem hlt];exact List.getElem_mem hlt);rw [hz] at hR2;have hb9:b+2*(z.length:Int)≤4000000000000000:=by
    have:=HB.out.2.1;have:=HB.out.2.2.2;omega
   obtain⟨r2,hf⟩:=markPtS_f z hzl h3 hb9;have HC:=Aside0.mk (And.intro hR2 (And.intro hf (And.intro h5 (And.intro h6 (And.intro h3 (And.intro h4 (And.intro h1 hzl)))))));clear hR hR2 hf h1 h2 h3 h4 h5 h6 hb9 hzl hz hc hlt hi;go_wp2_with (go_at_call 89;(with_reducible refine (laws_markPtS.calls 1048577 _ _ _ _ _ _ w0 _ HC.out.2.2.1 HC.out.1 HC.out.2.1).mono ?_);rintro e w1 ⟨rfl,_,hb1,hk1⟩;have HD:=Aside0.mk (And.intro hb1 hk1);clear hb1 hk1);obtain⟨_,_,_,h6,h3,h4,h1,h7⟩:=HC.out;have hw:wrap64 ((i:Int)+1)=(i:Int)+1:=by have:=HB.out.2.1;unfold wrap64;omega
   go_roundg (H.length-(i+1))
   case measure=>omega
   case rel =>
    refine⟨i+1,_,rfl,?_,⟨rfl,by omega,by omega,by push_cast;omega,HD.out.1,h6.mono (fun k hk=>⟨hk.1,by omega⟩) |>.then_ HD.out.2 (fun k hk=>.inl ⟨hk.1,by have:=hk.2;omega⟩)⟩⟩;rw [hw];rfl
  ·
   obtain rfl:i=H.length:=by omega
   have hd:decide ((H.length:Int)<(H.length:Int))=false:=decide_eq_false (by omega);clear hlt hi;go_wp2;go_ret;exact⟨_,rfl,HI.out.2.2.1,HI.out.2.2.2.2.1,HI.out.2.2.2.2.2.mono (fun _ hk=>hk.1.1)⟩
structure Fresh (base N:Nat) (w:World) (A:Option Addr) (c:Nat) (B:Option Addr) (d:Nat) (o:List S28) (H:List (List S28)):Prop where
 r0:Kd.R k28 28 w base (fun k=>(base≤k∧k<N)∧some k=(Value.slice A o.length c).ownBlock) (.slice A o.length c) o
 r1:Kd.S (Kd.slice 28 k28) 23 w base (fun k=>(base≤k∧k<N)∧some k≠(Value.slice A o.length c).ownBlock) (.slice B H.length d) H
section
variable {base N:Nat} {A:Option Addr} {c:Nat} {B:Option Addr} {d:Nat} {o:List S28} {H:List (List S28)} {w w':World} (h:Fresh base N w A c B d o H)
include h
theorem Fresh.later (hb:Below w.heap.size w w'):Fresh base N w' A c B d o H:=⟨Kd.R_below h.r0 hb,Kd.S_below h.r1 hb⟩
theorem Fresh.at_:PlateAt w A c B d o H:=⟨(Kd.R_reads' h.r0).2.2,(Kd.R_reads' h.r0).2.1,(Kd.S_reads' h.r1).2.2,(Kd.S_reads' h.r1).2.1⟩
set_option maxHeartbeats 4000000 in
set_option maxRecDepth 100000 in
theorem Fresh.mark {w0:World}(e0:w0.heap.size=base)(hB:Below w0.heap.size w0 w)(h1:o.length≤1048576)(h2:H.length≤1048576)(h3:∀ z∈H,z.length≤1048576):
  Calls Tryd.prog 46 #[.agg #[.slice A o.length c,.slice B H.length d],.int .i64 1] w fun e w'=>∃ r:Int,e=.returned (.int .i64 r)∧0≤r∧Below w0.heap.size w0 w'∧Kept w w' (fun k=>base≤k∧k<N):=by
 have hu26:=Tryd.underlying26;obtain⟨r2,hf⟩:=markPtS_f o h1 (a:=1) (by decide) (by omega);subst e0;have hal:=below_alloc (Below.refl w.heap.size w) (.cells #[.slice A o.length c,.slice B H.length d] 26);have hF:=h.later hal;have hbx:=blk_new w (.cells #[.slice A o.length c,.slice B H.length d] 26 (0,0));have hne:some w.heap.size≠(Value.slice A o.length c).ownBlock:=fun e=>by have:=Kd.R_lt h.r0 _ e.symm;omega
 have HK:=Aside0.mk (And.intro hF (And.intro (hB.trans (hal.mono hB.size)) (And.intro hf (And.intro hbx (And.intro hne (And.intro h1 (And.intro h2 h3)))))));clear h hf hal hF hbx hne hB h1 h2 h3;go_enter Tryd.func46,Tryd.ntmps46;go_wp2_with (first | (go_at_call 89;(with_reducible refine (laws_markPtS.calls 1048577 _ _ _ _ _ _ w0 _ HK.out.2.1 HK.out.1.r0 HK.out.2.2.1).mono ?_);rintro e w1 ⟨rfl,_,hb1,hk1⟩;have c2:w1.cell? ⟨w.heap.size,1,none⟩=some (.slice B H.length d):=(blk_cell (blk_kept HK.out.2.2.2.1 hk1 (fun hh=>HK.out.2.2.2.2.1 hh.2)) 1).trans rfl;have HD:=Aside0.mk (And.intro hb1 hk1);clear hb1 hk1) | (go_at_call 90;(with_reducible refine (markPtSS_calls _ _ _ _ _ w0 _ HD.out.1 (Kd.S_kept HK.out.1.r1 HD.out.2 (fun k hk hh=>absurd hh.2 hk.2)) HK.out.2.2.2.2.2.2.1 HK.out.2.2.2.2.2.2.2 (by omega) (by have:=HK.out.2.2.2.2.2.1;omega)).mono ?_);rintro e w2 ⟨r,rfl,hr,hb2,hk2⟩;have HE:=Aside0.mk (And.intro hr (And.intro hb2 hk2));clear hr hb2 hk2));go_ret;exact⟨_,rfl,HE.out.1,HE.out.2.1,(((Kept.refl w _).alloc _).then_ HD.out.2 (fun k hk=>.inl hk.1)).then_ HE.out.2.2 (fun k hk=>.inl hk.1)⟩
end
section
variable {A:Option Addr} {c:Nat} {B:Option Addr} {d:Nat} {zs:List S45} {Z:List (List S45)} {w:World} (h:LPlateAt w A c B d zs Z)
include h
theorem LPlateAt.copyR (hs:Small3 zs Z):Calls Tryd.prog 26 #[.agg #[.slice A zs.length c,.slice B Z.length d]] w fun e w'=>∃ A c B d,e=.returned (.agg #[.slice A (cvO zs).length c,.slice B (cvH Z).length d])∧Fresh w.heap.size w'.heap.size w' A c B d (cvO zs) (cvH Z)∧Below w.heap.size w w':=by
 refine (laws_toPlate.calls 3000000 A c zs B d Z _ _ w h.outer h.capO h.holes h.capH (toPlate_f zs Z hs.1 hs.2.1 hs.2.2)).mono ?_;rintro e w' ⟨v0,v1,rfl,h0,h1,hb⟩;obtain⟨A,c,rfl⟩:=Kd.R_slice h0;obtain⟨B,d,rfl⟩:=Kd.S_slice h1;exact⟨A,c,B,d,rfl,⟨Kd.R_mono (Kd.R_bound (Kd.R_tight rfl h0)) (fun k hk=>⟨⟨hk.2.1,hk.2.2.1⟩,hk.1⟩),Kd.S_mono (Kd.S_bound h1) (fun k hk=>⟨⟨hk.2.1,hk.2.2.1⟩,hk.1⟩)⟩,hb⟩
end
theorem cv_small {zs:List S45}{Z:List (List S45)}(hs:Small3 zs Z):(cvO zs).length≤1048576∧(cvH Z).length≤1048576∧∀ z∈cvH Z,z.length≤1048576:=
 ⟨by simpa [cvO] using hs.1,by simpa [cvH] using hs.2.1,by intro z hz;simp only [cvH,List.mem_map] at hz;obtain⟨y,hy,rfl⟩:=hz;simpa using hs.2.2 y hy⟩
section
variable {A:Option Addr} {c:Nat} {B:Option Addr} {d:Nat} {o:List S28} {H:List (List S28)} {w:World} (h:PlateAt w A c B d o H)
include h
theorem PlateAt.iNear (hE:ErrW w){x y:Int}{L:List Int}(e:plateNear (pl o H) (x,y)=L):
  Calls Tryd.prog 40 #[.agg #[.slice A o.length c,.slice B H.length d],.agg #[.int .i64 x,.int .i64 y]] w fun e w'=>∃ A c,e=.returned (.slice A L.length c)∧Kd.R (Kd.int .i64) 3 w' w.heap.size (fun _=>True) (.slice A L.length c) L∧Below w.heap.size w w':=by
 refine (impl_PlateNear.calls A c o B d H x y L w h.outer h.capO h.holes h.capH hE ((iPlateNear o H x y).trans (congrArg some e))).mono ?_;rintro e w' ⟨v0,rfl,h0,hb⟩;obtain⟨A,c,rfl⟩:=Kd.R_slice h0;exact⟨A,c,rfl,h0,hb⟩
theorem PlateAt.sNear {x y:Int}{L:List Int}(e:plateNear (pl o H) (x,y)=L):
  Calls Tryd.prog 42 #[.agg #[.slice A o.length c,.slice B H.length d],.agg #[.int .i64 x,.int .i64 y]] w fun e w'=>∃ A c,e=.returned (.slice A L.length c)∧Kd.R (Kd.int .i64) 3 w' w.heap.size (fun _=>True) (.slice A L.length c) L∧Below w.heap.size w w':=by
 refine (spec_PlateNear.calls 300000 A c o B d H x y L w h.outer h.capO h.holes h.capH ((sPlateNear (Nat.le_refl _) o H x y).trans (congrArg some e))).mono ?_;rintro e w' ⟨v0,rfl,h0,hb⟩;obtain⟨A,c,rfl⟩:=Kd.R_slice h0;exact⟨A,c,rfl,h0,hb⟩
end
structure InAt (w0 w:World) (A:Option Addr) (c:Nat) (B:Option Addr) (d:Nat) (zs:List S45) (Z:List (List S45)) (x y:Int):Prop where
 pl:LPlateAt w A c B d zs Z
 bw:Below w0.heap.size w0 w
 n1:w.heap[w0.heap.size]?=some (.cells #[.slice A zs.length c,.slice B Z.length d] 44 (0,0))
 n2:w.heap[w0.heap.size+1]?=some (.cells #[.int .i64 x,.int .i64 y] 45 (0,0))
 er:ErrW w
section
variable {A:Option Addr} {c:Nat} {B:Option Addr} {d:Nat} {zs:List S45} {Z:List (List S45)} {x y:Int} {w0 w w':World} (h:InAt w0 w A c B d zs Z x y)
include h
theorem InAt.later (hb:Below w.heap.size w w'):InAt w0 w' A c B d zs Z x y:=⟨h.pl.later hb,below_step h.bw hb,blk_later h.n1 hb,blk_later h.n2 hb,h.er.below hb⟩
theorem InAt.cells:w.cell? ⟨w0.heap.size,0,none⟩=some (.slice A zs.length c)∧w.cell? ⟨w0.heap.size,1,none⟩=some (.slice B Z.length d)∧w.cell? ⟨w0.heap.size+1,0,none⟩=some (.int .i64 x)∧w.cell? ⟨w0.heap.size+1,1,none⟩=some (.int .i64 y):=
 ⟨(blk_cell h.n1 0).trans rfl,(blk_cell h.n1 1).trans rfl,(blk_cell h.n2 0).trans rfl,(blk_cell h.n2 1).trans rfl⟩
end
structure IntsAt (w:World) (A:Option Addr) (c:Nat) (L:List Int):Prop where
 le:L.length≤c
 cs:Kd.C (Kd.int .i64) w A L.length L
theorem IntsAt.later {w w':World}{A:Option Addr}{c:Nat}{L:List Int}(h:IntsAt w A c L)(hb:Below w.heap.size w w'):IntsAt w' A c L:=⟨h.le,Kd.C_below h.cs hb⟩
theorem IntsAt.of {w:World}{A:Option Addr}{c base:Nat}{ok:Nat→Prop}{L:List Int}(h:Kd.R (Kd.int .i64) 3 w base ok (.slice A L.length c) L):IntsAt w A c L:=⟨(Kd.R_reads' h).2.1,(Kd.R_reads' h).2.2⟩
theorem IntsAt.same {w:World}{A B:Option Addr}{c d:Nat}{L:List Int}(h:IntsAt w A c L)(k:IntsAt w B d L)(hl:L.length≤1000):Calls Tryd.prog 45 #[.slice A L.length c,.slice B L.length d] w fun e w'=>e=.returned (.bool true)∧Below w.heap.size w w':=
 (laws_eqIntS.calls 1001 A c L B d L true w h.cs h.le k.cs k.le (eqIntS_f L hl)).mono fun _ _ h=>⟨h.1,h.2.below⟩
structure MarksAt (w:World) (base lo:Nat) (A:Option Addr) (c n:Nat):Prop where
 ex:∃ l:List Int,l.length=n∧MarkedI 1 l∧Kd.R (Kd.int .i64) 3 w base (fun k=>lo≤k) (.slice A n c) l
theorem MarksAt.later {w w':World}{A:Option Addr}{base lo c n:Nat}(h:MarksAt w base lo A c n)(hb:Below w.heap.size w w'):MarksAt w' base lo A c n:=by
 obtain⟨l,h1,h2,h3⟩:=h.ex;exact⟨l,h1,h2,Kd.R_below h3 hb⟩
theorem MarksAt.held {w:World}{A:Option Addr}{base lo c n:Nat}(h:MarksAt w base lo A c n)(hl:n≤1000){n1:Int}(hn:(1:Int)+n=n1):Calls Tryd.prog 48 #[.slice A n c,.int .i64 1] w fun e w'=>e=.returned (.int .i64 n1)∧Below w.heap.size w w':=by
 obtain⟨l,rfl,h2,h3⟩:=h.ex;subst hn;exact (laws_heldIntS.calls 1001 A c l 1 _ w (Kd.R_reads' h3).2.2 (Kd.R_reads' h3).2.1 (heldIntS_f l h2 hl)).mono fun _ _ h=>⟨h.1,h.2.below⟩
theorem mark_told {w0 w:World}{A:Option Addr}{lo c:Nat}{L:List Int}(hB:Below w0.heap.size w0 w)(h:Kd.R (Kd.int .i64) 3 w w0.heap.size (fun k=>lo≤k) (.slice A L.length c) L)(hlo:lo≤w.heap.size)(hl:L.length≤1000){n1:Int}(hn:(1:Int)+L.length=n1):
  Calls Tryd.prog 47 #[.slice A L.length c,.int .i64 1] w fun e w'=>e=.returned (.int .i64 n1)∧MarksAt w' w0.heap.size lo A c L.length∧Below w0.heap.size w0 w':=by
 obtain⟨r2,e,e2,e3⟩:=markIntS_f L hl;refine (laws_markIntS.calls 1001 _ _ L 1 _ r2 w0 w hB h e).mono ?_;rintro e w' ⟨rfl,hR,hb,_⟩;exact⟨by rw [hn],⟨r2,e2,e3,Kd.R_mono hR (fun k hk=>hk.elim id (fun h=>Nat.le_trans hlo h))⟩,hb⟩
end Go.Proofs.YtkefmnmoaomlhaaDoor.X
end
section
set_option linter.unusedVariables false
set_option linter.unusedSimpArgs false
namespace Go.Proofs.YtkefmnmoaomlhaaDoor.X
open Go.RowKit Go.Proofs.YtkefmnmoaomlhaaDoorW.PrintWords Go.Proofs.YtkefmnmoaomlhaaDoorW.PrintLast Go.Proofs.YtkefmnmoaomlhaaDoorW.PrintMore
def qmL:Nat→Nat→List Bool
 | 0,_=>[]
 | n+1,m=>(m % 2==1)::qmL n (m / 2)
def qm (n m:Nat):Array Bool:=⟨qmL n m⟩
theorem qp {P:Program}{ops:Array Oper}{Q:Exit→Act→World→Prop}{md:Region.Mode}{S:World→Prop}{ds:List Nat}{oi:Oper}{v:Value}{fuel:Nat}{l:Array Bool}{a a':Act}{w:World}(i N:Nat)(l':Array Bool)(h:wpAnyLast P md ops Q S ds fuel l' a' w)(hi:ops[i]?=some oi:=by rfl)(hN:oi.dst=some N:=by rfl)(hc:anyB md ops l l' i=true:=by kernel_rfl)(hw:Region.wanted oi (yielded ops a.tmps)=true:=by rfl)(hr:∀ w',(execOp a.eval oi).run P w'=.ok (.value v) w':=by (intro w';go_simp;with_reducible rfl))(ha:a.put (some N) v=a':=by (simp only [Act.put,List.setIfInBounds_toArray,List.set_cons_zero,List.set_cons_succ,i64_w,i32_w];rfl))(hQ:∀ c a w,Q (.panic c) (a.put oi.dst v) w→Q (.panic c) a w:=by exact fun _ _ _ h=>h):wpAnyLast P md ops Q S ds (fuel+1) l a w:=pure_ l' hi hN hc hQ (Or.inl ⟨hw,hr⟩) ha h
theorem qt4 {P:Program}{ops:Array Oper}{Q:Exit→Act→World→Prop}{md:Region.Mode}{S:World→Prop}{ds:List Nat}{oi:Oper}{v:Value}{fuel:Nat}{l:Array Bool}{a a':Act}{w:World}(i N:Nat)(l':Array Bool)(hS:S w)(h:wpAnyLast P md ops Q S ds fuel l' a' w)(hi:ops[i]?=some oi:=by rfl)(hN:oi.dst=some N:=by rfl)(hc:takeB md ops ds l l' i=true:=by kernel_rfl)(hw:Region.wanted oi (yielded ops a.tmps)=true:=by rfl)(hr:∀ w',S w'→(execOp a.eval oi).run P w'=.ok (.value v) w':=by (rintro w' ⟨s0,s1,s2,s3⟩;go_simp;with_reducible rfl))(ha:a.put (some N) v=a':=by (simp only [Act.put,List.setIfInBounds_toArray,List.set_cons_zero,List.set_cons_succ,i64_w,i32_w];rfl))(hQ:∀ c a w,Q (.panic c) (a.put oi.dst v) w→Q (.panic c) a w:=by exact fun _ _ _ h=>h):wpAnyLast P md ops Q S ds (fuel+1) l a w:=take_ l' hi hN hc hQ (Or.inl ⟨hw,hr⟩) hS ha h
theorem qc {P:Program}{ops:Array Oper}{Q:Exit→Act→World→Prop}{md:Region.Mode}{S:World→Prop}{fuel:Nat}{l:Array Bool}{a a':Act}{w:World}(i N:Nat)(l':Array Bool){oi:Oper}{f:FuncId}{fn:Func}{as0:Array Operand}{ts:Array TypeId}{args:Array Value}{v:Value}(hf:P.funcs[f]?=some fn)
  (hcall:Calls P f args w fun e W'=>e=.returned v∧Below w.heap.size w W') (hS:∀ w',Below w.heap.size w w'→S w')
  (h:∀ w',Below w.heap.size w w'→S w'→wpAnyLast P md ops Q S [] fuel l' a' w')
  (hi:ops[i]?=some oi:=by rfl) (hN:oi.dst=some N:=by rfl) (hc:readyB md ops l l' i=true:=by kernel_rfl)
  (hw:Region.wanted oi (yielded ops a.tmps)=true:=by rfl) (hname:(fn.name == "runtime.NumGoroutine")=false:=by kernel_rfl) (hb:fn.body.isSome=true:=by rfl)
  (hop:oi.op=.call { callee:=.value (.func f),args:=as0,argTypes:=ts }:=by rfl)
  (ha1:as0.map a.eval=args:=by (try simp only [List.map_toArray,List.map_cons,List.map_nil]);first | done | rfl)
  (ha:a.put (some N) v=a':=by (simp only [Act.put,List.setIfInBounds_toArray,List.set_cons_zero,List.set_cons_succ,i64_w,i32_w];rfl)):wpAnyLast P md ops Q S [] (fuel+1) l a w:=by
 refine one_ l' hi hN hc (by simp) (fun K hK=>?_);refine goes_ hf hname hb args hw hN hop ha1 ?_;refine hcall.mono ?_;rintro e w1 ⟨rfl,hb1⟩;refine⟨_,rfl,hK.out _ _ (hS _ hb1) (fun hs=>?_)⟩;rw [ha];exact h _ hb1 hs
theorem wanted_none {oi:Oper}(h:oi.guard=none)(y:Nat→Option Bool):Region.wanted oi y=true:=by simp [Region.wanted,h]
def Does (P:Program)(ops:Array Oper)(Q:Exit→Act→World→Prop)(o:Oper)(N:Tmp)(a:Act)(w:World)(Φ:Value→World→Prop):Prop:=
 ∀ K:Act→World→Prop,(∀ v w',Φ v w'→K (a.put (some N) v) w')→if Region.wanted o (yielded ops a.tmps)=true then Oper.wp P o a w K Q else K (a.put (some N) undef) w
theorem does_call {P:Program}{ops:Array Oper}{Q:Exit→Act→World→Prop}{o:Oper}{N:Tmp}{a:Act}{w:World}{Φ:Value→World→Prop}{f:FuncId}{fn:Func}{as0:Array Operand}{ts:Array TypeId}{args:Array Value}(hf:P.funcs[f]?=some fn)(hname:(fn.name == "runtime.NumGoroutine")=false) (hb:fn.body.isSome=true) (g:o.guard=none) (hN:o.dst=some N)
  (hop:o.op=.call { callee:=.value (.func f),args:=as0,argTypes:=ts }) (ha:as0.map a.eval=args) (h:Calls P f args w fun e w'=>∃ v,e=.returned v∧Φ v w'):Does P ops Q o N a w Φ:=by
 intro K hK;refine goes_ hf hname hb args (wanted_none g _) hN hop ha (h.mono ?_);rintro e w' ⟨v,rfl,hv⟩;exact⟨v,rfl,hK v w' hv⟩
theorem oneD {P:Program}{ops:Array Oper}{Q:Exit→Act→World→Prop}{md:Region.Mode}{S:World→Prop}{fuel:Nat}{l:Array Bool}{a:Act}{w:World}{i:Nat}{N:Tmp}{o:Oper}{Φ:Value→World→Prop}(l':Array Bool)(hi:ops[i]?=some o)(hN:o.dst=some N)(hc:readyB md ops l l' i=true)(hD:Does P ops Q o N a w Φ)
  (h:∀ v w',Φ v w'→S w'∧wpAnyLast P md ops Q S [] fuel l' (a.put (some N) v) w'):wpAnyLast P md ops Q S [] (fuel+1) l a w:=
 one_ l' hi hN hc (by simp) fun K hK=>hD K fun v w' hv=>hK.out _ _ (h v w' hv).1 fun _=>(h v w' hv).2
theorem qe {P:Program}{ops:Array Oper}{Q:Exit→Act→World→Prop}{md:Region.Mode}{S:World→Prop}{fuel:Nat}{l:Array Bool}{a:Act}{w:World}{N:Tmp}(i:Nat)(l':Array Bool){oi:Oper}{f:FuncId}{fn:Func}{as0:Array Operand}{ts:Array TypeId}{args:Array Value}{Φ:Value→World→Prop}(hf:P.funcs[f]?=some fn)
  (hcall:Calls P f args w fun e W'=>∃ z,e=.returned z∧Φ z W'∧Below w.heap.size w W') (hS:∀ w',Below w.heap.size w w'→S w')
  (h:∀ z w',Φ z w'→Below w.heap.size w w'→S w'→wpAnyLast P md ops Q S [] fuel l' (a.put (some N) z) w')
  (hi:ops[i]?=some oi:=by rfl) (hN:oi.dst=some N:=by rfl) (hc:readyB md ops l l' i=true:=by kernel_rfl)
  (g:oi.guard=none:=by rfl) (hname:(fn.name == "runtime.NumGoroutine")=false:=by kernel_rfl) (hb:fn.body.isSome=true:=by rfl)
  (hop:oi.op=.call { callee:=.value (.func f),args:=as0,argTypes:=ts }:=by rfl)
  (ha1:as0.map a.eval=args:=by (try simp only [List.map_toArray,List.map_cons,List.map_nil]);first | done | rfl):wpAnyLast P md ops Q S [] (fuel+1) l a w:=
 oneD l' hi hN hc (does_call hf hname hb g hN hop ha1 hcall) fun z w' hz=>⟨hS _ hz.2,h z w' hz.1 hz.2 (hS _ hz.2)⟩
end Go.Proofs.YtkefmnmoaomlhaaDoor.X
end
section
set_option linter.unusedVariables false
set_option linter.unusedSimpArgs false
namespace Go.Proofs.YtkefmnmoaomlhaaDoor.X
open Go.RowKit Go.Shelf Go.Proofs.YtkefmnmoaomlhaaDoorW.PrintWords Go.Proofs.YtkefmnmoaomlhaaDoorW.PrintLast Go.Proofs.YtkefmnmoaomlhaaDoorW.PrintMore
open Mort (ptOk plateOk plateNear fracCmp)
set_option maxHeartbeats 4000000 in
set_option maxRecDepth 100000 in
theorem exactNear_calls (A:Option Addr)(c:Nat)(B:Option Addr)(d:Nat)(zs:List S45)(Z:List (List S45))(x y:Int)(w:World)(hP:LPlateAt w A c B d zs Z)(hE:ErrW w):
  Calls Tryd.prog 14 #[.agg #[.slice A zs.length c,.slice B Z.length d],.agg #[.int .i64 x,.int .i64 y]] w fun e w'=>e=.returned (.bool true)∧Below w.heap.size w w':=by
 have hu26:=Tryd.underlying26;have hu28:=Tryd.underlying28;have hu44:=Tryd.underlying44;have hu45:=Tryd.underlying45;have hal:=below_alloc (below_alloc (Below.refl w.heap.size w) (.cells #[.slice A zs.length c,.slice B Z.length d] 44)) (.cells #[.int .i64 x,.int .i64 y] 45);obtain⟨r,hsz,hr⟩:=(hP.later hal).size;have HP:=a0_ (And.intro hP (And.intro hE (And.intro hal hsz)));clear hP hE hal hsz;by_cases h0:r<0
 ·
  have h0b:decide (r<0)=true:=decide_eq_true h0;clear h0 hr;go_enter Tryd.func14,Tryd.ntmps14;go_wp2_with (go_at_call 24;(with_reducible refine HP.out.2.2.2.mono ?_);rintro e w1 ⟨rfl,hb1⟩);go_ret;exact⟨rfl,below_step HP.out.2.2.1 hb1⟩
 have h0b:decide (r<0)=false:=decide_eq_false h0;have HS:=a0_ (hr.resolve_left h0);clear h0 hr;obtain⟨L,hL⟩:∃ L,plateNear (pl (cvO zs) (cvH Z)) (x,y)=L:=⟨_,rfl⟩;have HM:=a0_ (show L.length≤1000 by rw [← hL];exact Nat.le_trans (near_len _ _ x y) (by decide));have HL:=Aside0.mk hL;clear hL;obtain⟨n1,hn1⟩:∃ n,(1:Int)+(L.length:Int)=n:=⟨_,rfl⟩;have HN1:=Aside0.mk hn1;have hq:decide (n1<0)=false:=decide_eq_false (by omega);clear hn1;go_enter Tryd.func14,Tryd.ntmps14;go_wp2_with (go_at_call 24;(with_reducible refine HP.out.2.2.2.mono ?_);rintro e w1 ⟨rfl,hb1⟩);have N1:=blk_later (blk_alloc (blk_new w (.cells #[.slice A zs.length c,.slice B Z.length d] 44 (0,0))) (.cells #[.int .i64 x,.int .i64 y] 45)) hb1;have N2:=blk_new (w.alloc (.cells #[.slice A zs.length c,.slice B Z.length d] 44)) (.cells #[.int .i64 x,.int .i64 y] 45 (0,0));rw [World.size_alloc] at N2;replace N2:=blk_later N2 hb1;have hBw:=below_step HP.out.2.2.1 hb1;have HI:=a0_ (InAt.mk (HP.out.1.later hBw) hBw N1 N2 (HP.out.2.1.below hBw):InAt w w1 A c B d zs Z x y);clear N1 N2 hBw hb1 HP;have KS:∀ w',Below w1.heap.size w1 w'→(fun w'=>w'.cell? ⟨w.heap.size,0,none⟩=some (.slice A zs.length c)∧w'.cell? ⟨w.heap.size,1,none⟩=some (.slice B Z.length d)∧w'.cell? ⟨w.heap.size+1,0,none⟩=some (.int .i64 x)∧w'.cell? ⟨w.heap.size+1,1,none⟩=some (.int .i64 y)) w':=fun w' hb=>(HI.out.later hb).cells
 have hdr:Below w1.heap.size w1 w1.drew:=below_drew1 (Below.refl _ _);refine start_ (n:=6) (S:=fun w'=>w'.cell? ⟨w.heap.size,0,none⟩=some (.slice A zs.length c)∧w'.cell? ⟨w.heap.size,1,none⟩=some (.slice B Z.length d)∧w'.cell? ⟨w.heap.size+1,0,none⟩=some (.int .i64 x)∧w'.cell? ⟨w.heap.size+1,1,none⟩=some (.int .i64 y)) (ds:=[]) (qm 6 0) (by kernel_rfl) rfl rfl (KS _ hdr) (fun hH=>?_);refine qt4 0 18 (qm 6 1) hH ?_;refine qt4 2 20 (qm 6 5) hH ?_;refine qe 1 (qm 6 7) (Φ:=fun z W=>∃ A5 c5 B5 d5,z=.agg #[.slice A5 (cvO zs).length c5,.slice B5 (cvH Z).length d5]∧PlateAt W A5 c5 B5 d5 (cvO zs) (cvH Z)) Tryd.func26 (((HI.out.later hdr).pl.copy HS.out).mono ?_) (fun _ h=>KS _ (below_step hdr h)) ?_
 ·
  rintro e w' ⟨A5,c5,B5,d5,rfl,h5,h6⟩;exact⟨_,rfl,⟨A5,c5,B5,d5,rfl,h5⟩,h6⟩
 rintro z2 wA ⟨A5,c5,B5,d5,rfl,h5⟩ h6 hHA;have hbA:=below_step hdr h6;simp only [Act.put,List.setIfInBounds_toArray,List.set_cons_zero,List.set_cons_succ];refine qc 3 21 (qm 6 15) Tryd.func27 (toPt_told x y wA) (fun _ h=>KS _ (below_step hbA h)) ?_;intro wB h7 hHB;have hbB:=below_step hbA h7;refine qe 4 (qm 6 31) (Φ:=fun z W=>∃ A5 c5,z=.slice A5 L.length c5∧IntsAt W A5 c5 L) Tryd.func42 (((h5.later h7).sNear HL.out).mono ?_) (fun _ h=>KS _ (below_step hbB h)) ?_
 ·
  rintro e w' ⟨A6,c6,rfl,hR,hb⟩;exact⟨_,rfl,⟨A6,c6,rfl,IntsAt.of hR⟩,hb⟩
 rintro z3 wC ⟨As,cs,rfl,hIs⟩ h8 hHC;have hbC:=below_step hbB h8;simp only [Act.put,List.setIfInBounds_toArray,List.set_cons_zero,List.set_cons_succ];refine qp 5 6 (qm 6 63) ?_;refine done_ (by kernel_rfl) ?_;have HC:=a0_ (And.intro (HI.out.later hbC) hIs);clear hbC h8 hHC hbB h7 hHB hbA h6 h5 hHA hdr KS hH HI hIs;obtain⟨c1,c2',c3,c4⟩:=HC.out.1.cells;go_wp2_with (go_at_call 26;(with_reducible refine (HC.out.1.pl.copyR HS.out).mono ?_);rintro e w2 ⟨A2,c2,B2,d2,rfl,hF2,hb2⟩;have HX:=a0_ (And.intro hF2 hb2);clear hF2 hb2);clear c1 c2' c3 c4;have hal:=below_alloc (Below.refl w2.heap.size w2) (.cells #[.slice A2 (cvO zs).length c2,.slice B2 (cvH Z).length d2] 26);have hV:=below_step HX.out.2 hal;have N3:=blk_new w2 (.cells #[.slice A2 (cvO zs).length c2,.slice B2 (cvH Z).length d2] 26 (0,0));have HV:=a0_ (And.intro (HC.out.1.later hV) (And.intro hV (And.intro N3 (And.intro (HX.out.1.later hal) (And.intro hal.size (HC.out.2.later hV))))));clear N3 hV hal HX;generalize w2.alloc (.cells #[.slice A2 (cvO zs).length c2,.slice B2 (cvH Z).length d2] 26)=V at *;generalize w2.heap.size=g2 at *;have HV0:=Aside0.mk HV.out.2.1.size;have KS:∀ w',Below V.heap.size V w'→(fun w'=>w'.cell? ⟨g2,0,none⟩=some (.slice A2 (cvO zs).length c2)∧w'.cell? ⟨g2,1,none⟩=some (.slice B2 (cvH Z).length d2)∧w'.cell? ⟨w.heap.size+1,0,none⟩=some (.int .i64 x)∧w'.cell? ⟨w.heap.size+1,1,none⟩=some (.int .i64 y)) w':=fun w' hb=>⟨(blk_cell (blk_later HV.out.2.2.1 hb) 0).trans rfl,(blk_cell (blk_later HV.out.2.2.1 hb) 1).trans rfl,((HV.out.1.later hb).cells).2.2⟩
 have hdr:Below V.heap.size V V.drew:=below_drew1 (Below.refl _ _);refine start_ (n:=5) (S:=fun w'=>w'.cell? ⟨g2,0,none⟩=some (.slice A2 (cvO zs).length c2)∧w'.cell? ⟨g2,1,none⟩=some (.slice B2 (cvH Z).length d2)∧w'.cell? ⟨w.heap.size+1,0,none⟩=some (.int .i64 x)∧w'.cell? ⟨w.heap.size+1,1,none⟩=some (.int .i64 y)) (ds:=[]) (qm 5 0) (by kernel_rfl) rfl rfl (KS _ hdr) (fun hH=>?_);refine qt4 0 25 (qm 5 1) hH ?_;refine qt4 1 26 (qm 5 3) hH ?_;refine qc 2 27 (qm 5 7) Tryd.func27 (toPt_told x y _) (fun _ h=>KS _ (below_step hdr h)) ?_;intro wB h7 hHB;have hbB:=below_step hdr h7;refine qe 3 (qm 5 15) (Φ:=fun z W=>∃ A5 c5,z=.slice A5 L.length c5∧Kd.R (Kd.int .i64) 3 W V.heap.size (fun k=>V.heap.size≤k) (.slice A5 L.length c5) L) Tryd.func40 (((HV.out.2.2.2.1.later hbB).at_.iNear (HV.out.1.later hbB).er HL.out).mono ?_) (fun _ h=>KS _ (below_step hbB h)) ?_
 ·
  rintro e w' ⟨A6,c6,rfl,hR,hb⟩;exact⟨_,rfl,⟨A6,c6,rfl,Kd.R_lower (Kd.R_mono (Kd.R_bound hR) (fun k hk=>Nat.le_trans hbB.size hk.2.1)) hbB.size⟩,hb⟩
 rintro z3 wD ⟨Ag,cg,rfl,hRg⟩ h8 hHD;have hbD:=below_step hbB h8;simp only [Act.put,List.setIfInBounds_toArray,List.set_cons_zero,List.set_cons_succ];refine qp 4 8 (qm 5 31) ?_;refine done_ (by kernel_rfl) ?_;have HD:=a0_ (And.intro (HV.out.1.later hbD) (And.intro (below_step HV.out.2.1 hbD) (And.intro (blk_later HV.out.2.2.1 hbD) (And.intro (HV.out.2.2.2.1.later hbD) (And.intro (HV.out.2.2.2.2.2.later hbD) (And.intro hRg (And.intro HV.out.2.2.2.2.1 hbD.size)))))));clear hbD h8 hHD hbB h7 hHB hdr KS hH hRg HV;go_wp2_with (go_at_call 45;(with_reducible refine ((IntsAt.of HD.out.2.2.2.2.2.1).same HD.out.2.2.2.2.1 HM.out).mono ?_);rintro e w3 ⟨rfl,hb3⟩;have H3:=Aside0.mk hb3;clear hb3);have KS:∀ w',Below w3.heap.size w3 w'→(fun w'=>w'.cell? ⟨g2,0,none⟩=some (.slice A2 (cvO zs).length c2)∧w'.cell? ⟨g2,1,none⟩=some (.slice B2 (cvH Z).length d2)∧w'.cell? ⟨w.heap.size,0,none⟩=some (.slice A zs.length c)∧w'.cell? ⟨w.heap.size,1,none⟩=some (.slice B Z.length d)) w':=fun w' hb=>⟨(blk_cell (blk_later HD.out.2.2.1 (below_step H3.out hb)) 0).trans rfl,(blk_cell (blk_later HD.out.2.2.1 (below_step H3.out hb)) 1).trans rfl,((HD.out.1.later (below_step H3.out hb)).cells).1,((HD.out.1.later (below_step H3.out hb)).cells).2.1⟩
 have hdr:Below w3.heap.size w3 w3.drew:=below_drew1 (Below.refl _ _);refine start_ (n:=5) (S:=fun w'=>w'.cell? ⟨g2,0,none⟩=some (.slice A2 (cvO zs).length c2)∧w'.cell? ⟨g2,1,none⟩=some (.slice B2 (cvH Z).length d2)∧w'.cell? ⟨w.heap.size,0,none⟩=some (.slice A zs.length c)∧w'.cell? ⟨w.heap.size,1,none⟩=some (.slice B Z.length d)) (ds:=[]) (qm 5 0) (by kernel_rfl) rfl rfl (KS _ hdr) (fun hH=>?_);refine qt4 0 33 (qm 5 1) hH ?_;refine qt4 1 34 (qm 5 3) hH ?_;refine qe 2 (qm 5 7) (Φ:=fun z W=>∃ A5 c5 B5 d5,z=.agg #[.slice A5 (cvO zs).length c5,.slice B5 (cvH Z).length d5]∧PlateAt W A5 c5 B5 d5 (cvO zs) (cvH Z)) Tryd.func26 (((HD.out.1.later (below_step H3.out hdr)).pl.copy HS.out).mono ?_) (fun _ h=>KS _ (below_step hdr h)) ?_
 ·
  rintro e w' ⟨A5,c5,B5,d5,rfl,h5,h6⟩;exact⟨_,rfl,⟨A5,c5,B5,d5,rfl,h5⟩,h6⟩
 rintro z2 w4 ⟨A5,c5,B5,d5,rfl,h5⟩ h6 hH4;have hb4:=below_step hdr h6;simp only [Act.put,List.setIfInBounds_toArray,List.set_cons_zero,List.set_cons_succ];refine qc 3 36 (qm 5 15) Tryd.func29 (same_told (HD.out.2.2.2.1.later (below_step H3.out hb4)).at_ h5 HS.out) (fun _ h=>KS _ (below_step hb4 h)) ?_;intro w5 hb5 hH5;refine qp 4 37 (qm 5 31) ?_;refine done_ (by kernel_rfl) ?_;have hb:=below_step H3.out (below_step hb4 hb5);have HG:=a0_ (And.intro (below_step HD.out.2.1 hb) (And.intro (HD.out.2.2.2.1.later hb) (And.intro (Kd.R_below HD.out.2.2.2.2.2.1 hb) (And.intro HD.out.2.2.2.2.2.2.1 (Nat.le_trans HD.out.2.2.2.2.2.2.2 hb.size)))));have c1:w5.cell? ⟨g2,0,none⟩=some (.slice A2 (cvO zs).length c2):=(blk_cell (blk_later HD.out.2.2.1 hb) 0).trans rfl;have c2':w5.cell? ⟨g2,1,none⟩=some (.slice B2 (cvH Z).length d2):=(blk_cell (blk_later HD.out.2.2.1 hb) 1).trans rfl;clear hb hb5 hH5 hb4 h6 h5 hH4 hdr KS hH HD H3
 go_wp2_with (first
  | (go_at_call 46;(with_reducible refine (HG.out.2.1.mark rfl HG.out.1 (cv_small HS.out).1 (cv_small HS.out).2.1 (cv_small HS.out).2.2).mono ?_);rintro e w6 ⟨r6,rfl,hr6,hb6,hk6⟩;have hr9:decide (r6<0)=false:=decide_eq_false (by omega);have H6:=a0_ (And.intro hb6 (And.intro (Kd.R_kept HG.out.2.2.1 hk6 (fun k hk hh=>by have:=hh.2;have:=HG.out.2.2.2.1;omega)) (Nat.le_trans HG.out.2.2.2.2 hk6.1)));clear hb6 hk6 hr6)
  | (go_at_call 47;(with_reducible refine (mark_told (below_step H6.out.1 H7.out) (Kd.R_lower (Kd.R_below H6.out.2.1 H7.out) HV0.out) (Nat.le_trans H6.out.2.2 H7.out.size) HM.out HN1.out).mono ?_);rintro e w8 ⟨rfl,hm8,hb8⟩;have H8:=a0_ (And.intro hm8 hb8);clear hm8 hb8)
  | (go_at_call 48;(with_reducible refine (H8.out.1.held HM.out HN1.out).mono ?_);rintro e w9 ⟨rfl,hb9⟩;have H9:=Aside0.mk hb9;clear hb9)
  | (go_at_call 45;(with_reducible refine ((IntsAt.of H6.out.2.1).same (HC.out.2.later H6.out.1) HM.out).mono ?_);rintro e w7 ⟨rfl,hb7⟩;have H7:=Aside0.mk hb7;clear hb7))
 have hb10:Below wC.heap.size wC w9:=below_step H8.out.2 H9.out;have HJ:=a0_ (And.intro (HC.out.1.later hb10) (And.intro (HC.out.2.later hb10) (H8.out.1.later H9.out)));clear hb10 H9 H8 H7 H6 HG HC HV0 c1 c2' hr9;have KS:∀ w',Below w9.heap.size w9 w'→(fun w'=>w'.cell? ⟨w.heap.size,0,none⟩=some (.slice A zs.length c)∧w'.cell? ⟨w.heap.size,1,none⟩=some (.slice B Z.length d)∧w'.cell? ⟨w.heap.size+1,0,none⟩=some (.int .i64 x)∧w'.cell? ⟨w.heap.size+1,1,none⟩=some (.int .i64 y)) w':=fun w' hb=>(HJ.out.1.later hb).cells
 have hdr:Below w9.heap.size w9 w9.drew:=below_drew1 (Below.refl _ _);refine start_ (n:=6) (S:=fun w'=>w'.cell? ⟨w.heap.size,0,none⟩=some (.slice A zs.length c)∧w'.cell? ⟨w.heap.size,1,none⟩=some (.slice B Z.length d)∧w'.cell? ⟨w.heap.size+1,0,none⟩=some (.int .i64 x)∧w'.cell? ⟨w.heap.size+1,1,none⟩=some (.int .i64 y)) (ds:=[]) (qm 6 0) (by kernel_rfl) rfl rfl (KS _ hdr) (fun hH=>?_);refine qt4 0 60 (qm 6 1) hH ?_;refine qt4 2 62 (qm 6 5) hH ?_;refine qe 1 (qm 6 7) (Φ:=fun z W=>∃ A5 c5 B5 d5,z=.agg #[.slice A5 (cvO zs).length c5,.slice B5 (cvH Z).length d5]∧PlateAt W A5 c5 B5 d5 (cvO zs) (cvH Z)) Tryd.func26 (((HJ.out.1.later hdr).pl.copy HS.out).mono ?_) (fun _ h=>KS _ (below_step hdr h)) ?_
 ·
  rintro e w' ⟨A5,c5,B5,d5,rfl,h5,h6⟩;exact⟨_,rfl,⟨A5,c5,B5,d5,rfl,h5⟩,h6⟩
 rintro z2 wA ⟨A5,c5,B5,d5,rfl,h5⟩ h6 hHA;have hbA:=below_step hdr h6;simp only [Act.put,List.setIfInBounds_toArray,List.set_cons_zero,List.set_cons_succ];refine qc 3 63 (qm 6 15) Tryd.func27 (toPt_told x y wA) (fun _ h=>KS _ (below_step hbA h)) ?_;intro wB h7 hHB;have hbB:=below_step hbA h7;refine qe 4 (qm 6 31) (Φ:=fun z W=>∃ A5 c5,z=.slice A5 L.length c5∧IntsAt W A5 c5 L) Tryd.func40 (((h5.later h7).iNear (HJ.out.1.later hbB).er HL.out).mono ?_) (fun _ h=>KS _ (below_step hbB h)) ?_
 ·
  rintro e w' ⟨A6,c6,rfl,hR,hb⟩;exact⟨_,rfl,⟨A6,c6,rfl,IntsAt.of hR⟩,hb⟩
 rintro z3 wC ⟨As,cs,rfl,hIs⟩ h8 hHC;have hbC:=below_step hbB h8;simp only [Act.put,List.setIfInBounds_toArray,List.set_cons_zero,List.set_cons_succ];refine qp 5 12 (qm 6 63) ?_;refine done_ (by kernel_rfl) ?_;have HT:=a0_ (And.intro (HJ.out.1.later hbC) (And.intro (HJ.out.2.1.later hbC) (And.intro (HJ.out.2.2.later hbC) hIs)));clear hbC h8 hHC hbB h7 hHB hbA h6 h5 hHA hdr KS hH hIs HJ
 go_wp2_with (first
  | (go_at_call 45;(with_reducible refine (HT.out.2.2.2.same HT.out.2.1 HM.out).mono ?_);rintro e w10 ⟨rfl,hb10⟩;have H10:=Aside0.mk hb10;clear hb10)
  | (go_at_call 48;(with_reducible refine ((HT.out.2.2.1.later H10.out).held HM.out HN1.out).mono ?_);rintro e w11 ⟨rfl,hb11⟩;have H11:=Aside0.mk hb11;clear hb11))
 go_ret;exact⟨rfl,below_step (below_step HT.out.1.bw H10.out) H11.out⟩
end Go.Proofs.YtkefmnmoaomlhaaDoor.X
end
section
set_option linter.unusedVariables false
set_option linter.unusedSimpArgs false
namespace Go.Proofs.YtkefmnmoaomlhaaDoor.X
open Go Go.Deep Go.ChangeShapes Go.WideShapes Go.ChangeAt Go.RowKit Go.Joins Go.Proofs.YtkefmnmoaomlhaaDoorW.PrintWords Go.Proofs.YtkefmnmoaomlhaaDoorW.PrintLast
theorem cellsLPt:Tryd.prog.cellsOf 45=2:=by kernel_rfl
theorem cellsInt:Tryd.prog.cellsOf 3=1:=by kernel_rfl
theorem cellsLPts:Tryd.prog.cellsOf 41=1:=by kernel_rfl
theorem cellsLPtss:Tryd.prog.cellsOf 42=1:=by kernel_rfl
theorem cellsLPlate:Tryd.prog.cellsOf 44=2:=by kernel_rfl
section
variable {H:Type} {enc:TypeId × Value→H} {w:World} {base:Nat} {spare:Nat→Bool} {held:Bool}
theorem one_int {fuel:Nat}{v:Value}{d:DataW H}{p:List MemPlace}(h:DataW.trod enc Tryd.prog w base spare held fuel 3 [v]=some (d,p)):∃ z:Int,v=.int .i64 z:=by
 obtain⟨z,e,_⟩:=DataW.trod_int Tryd.underlying3 h;exact⟨z,by simpa using e⟩
theorem open_ptsC {fuel:Nat}{v:Value}{x:DataW H × List MemPlace}(h:DataW.trod enc Tryd.prog w base spare held fuel 41 [v]=some x):∃ A c zs,v=.slice A (List.length zs) c∧List.length zs≤c∧Kd.C k45 w A (List.length zs) zs:=by
 rcases open_slice_pairs Tryd.underlying41 Tryd.underlying45 cellsLPt rfl rfl cellsInt cellsInt h with ⟨hcs,_⟩ | ⟨a,len,cap,m,n,V0,V1,D0,D1,P0,P1,hcs,_,hl,hm,hmm,_,hx⟩
 ·
  simp only [List.cons.injEq,and_true] at hcs;subst hcs;exact⟨none,0,[],rfl,Nat.le_refl _,Kd.C_nil _ _⟩
 ·
  simp only [List.cons.injEq,and_true] at hcs;subst hcs;have hlm:len≤m:=by rw [hmm];split <;> omega
  obtain⟨q,hq⟩:=choose_lt (α:=Int × Int) (p:=fun i z=>V0 i=.int .i64 z.1∧V1 i=.int .i64 z.2) (n:=m) (fun i hi=>by
   obtain⟨_,_,h3,h4⟩:=hx i hi;obtain⟨z0,e0⟩:=one_int h3;obtain⟨z1,e1⟩:=one_int h4
   exact⟨(z0,z1),e0,e1⟩)
  refine⟨some a,cap,(List.range len).map fun i=>(⟨(q i).1,(q i).2⟩:S45),by simp,by simpa using hl,by simp,by simp;unfold maxLen at hm;omega,fun _=>⟨a,rfl,fun j p hj=>?_⟩⟩;rw [List.getElem?_map] at hj;obtain⟨i,hi,rfl⟩:=Option.map_eq_some_iff.1 hj;obtain⟨hlt,he⟩:=List.getElem?_eq_some_iff.1 hi;simp at hlt he;subst he;obtain⟨h1,h2,_,_⟩:=hx j (by omega);obtain⟨e0,e1⟩:=hq j (by omega);rw [e0] at h1;rw [e1] at h2;refine⟨_,rfl,k45_mk _ _,fun i u hu=>?_⟩
  match i,hu with
  | 0,hu=>simp at hu;subst hu;exact h1
  | 1,hu=>simp at hu;subst hu;exact h2
theorem open_rowsC {fuel:Nat}{v:Value}{x:DataW H × List MemPlace}(h:DataW.trod enc Tryd.prog w base spare held fuel 42 [v]=some x):∃ B d Z,v=.slice B (List.length Z) d∧List.length Z≤d∧Kd.C (Kd.slice 45 k45) w B (List.length Z) Z:=by
 rcases open_slice1 Tryd.underlying42 cellsLPts h with ⟨hcs,_⟩ | ⟨a,len,cap,m,n,V,D,Pl,hcs,_,hl,hm,hmm,_,hx⟩
 ·
  simp only [List.cons.injEq,and_true] at hcs;subst hcs;exact⟨none,0,[],rfl,Nat.le_refl _,Kd.C_nil _ _⟩
 ·
  simp only [List.cons.injEq,and_true] at hcs;subst hcs;have hlm:len≤m:=by rw [hmm];split <;> omega
  obtain⟨q,hq⟩:=choose_lt (α:=List S45) (p:=fun i zs=>∃ A c,V i=.slice A zs.length c∧zs.length≤c∧Kd.C k45 w A zs.length zs) (n:=m) (fun i hi=>by
   obtain⟨_,h2⟩:=hx i hi;obtain⟨A,c,zs,e1,e2,e3⟩:=open_ptsC h2
   exact⟨zs,A,c,e1,e2,e3⟩)
  refine⟨some a,cap,(List.range len).map q,by simp,by simpa using hl,by simp,by simp;unfold maxLen at hm;omega,fun _=>⟨a,rfl,fun j p hj=>?_⟩⟩;rw [List.getElem?_map] at hj;obtain⟨i,hi,rfl⟩:=Option.map_eq_some_iff.1 hj;obtain⟨hlt,he⟩:=List.getElem?_eq_some_iff.1 hi;simp at hlt he;subst he;obtain⟨h1,_⟩:=hx j (by omega);obtain⟨A,c,e1,e2,e3⟩:=hq j (by omega);refine⟨[V j],rfl,⟨A,c,by rw [e1],e2,e3⟩,fun i u hu=>?_⟩
  match i,hu with
  | 0,hu=>simp at hu;subst hu;rw [show j*(Kd.slice 45 k45).sz+0=j from by show j*1+0=j;omega];exact h1
set_option maxRecDepth 100000 in
theorem open_plate {b0:Nat}{r:Reach}{v:Value}{dd:DataW H}{p:List MemPlace}(hv:Value.okWide Tryd.prog w r b0 44 v)(h:DataW.Trod enc Tryd.prog w base spare held 44 v dd p):
  ∃ A c B d zs Z,v=.agg #[.slice A (List.length zs) c,.slice B (List.length Z) d]∧LPlateAt w A c B d zs Z:=by
 obtain⟨cs,rfl,hsz⟩:=okWide_struct Tryd.underlying44 hv;obtain⟨c0,c1,rfl⟩:=array2 (hsz.trans cellsLPlate);obtain⟨fuel,hf⟩:=h;obtain⟨y0,y1,n,hx,_,h0,h1⟩:=trod_struct2 Tryd.underlying44 hf;simp [cellsLPts,cellsLPtss,Value.cells] at h0 h1;obtain⟨A,c,zs,rfl,hc,hC⟩:=open_ptsC h0;obtain⟨B,d,Z,rfl,hd,hD⟩:=open_rowsC h1;exact⟨A,c,B,d,zs,Z,rfl,hC,hc,hD,hd⟩
set_option maxRecDepth 100000 in
theorem open_lpt {b0:Nat}{r:Reach}{v:Value}{dd:DataW H}{p:List MemPlace}(hv:Value.okWide Tryd.prog w r b0 45 v)(h:DataW.Trod enc Tryd.prog w base spare held 45 v dd p):
  ∃ x y:Int,v=.agg #[.int .i64 x,.int .i64 y]:=by
 obtain⟨cs,rfl,hsz⟩:=okWide_struct Tryd.underlying45 hv;obtain⟨c0,c1,rfl⟩:=array2 (hsz.trans cellsLPt);obtain⟨fuel,hf⟩:=h;obtain⟨y0,y1,n,hx,_,h0,h1⟩:=trod_struct2 Tryd.underlying45 hf;simp [cellsInt,Value.cells] at h0 h1;obtain⟨x,rfl⟩:=one_int (d:=y0.1) (p:=y0.2) h0;obtain⟨y,rfl⟩:=one_int (d:=y1.1) (p:=y1.2) h1;exact⟨x,y,rfl⟩
end
end Go.Proofs.YtkefmnmoaomlhaaDoor.X
end
section
set_option linter.unusedVariables false
namespace Go.Proofs.YtkefmnmoaomlhaaDoor.fnExactPlateNear
open Go Go.ChangeShapes Go.WideShapes Go.ChangeAt Go.RowKit Go.Joins Go.Proofs.YtkefmnmoaomlhaaDoorW
set_option maxRecDepth 100000 in
theorem lifted (os:Os)(started:os.Started)(H:Type)(enc:TypeId × Value→H):
  ReturnsInHanded {} Tryd.checked os 14 .any (fun w args=>(Rows.fnExactPlateNearSpec.pre enc Tryd.prog Tryd.f14 [] false w args∧laidMet Tryd.prog laidErr w)∧sizedMet enc Tryd.prog Tryd.f14 (OpenSpec.ofChange Rows.fnExactPlateNearSpec) false w args) (Rows.fnExactPlateNearSpec.post enc Tryd.prog Tryd.f14 false true false false):=by
 refine returnsInHanded_of_change_and (C:=Tryd.checked) (X:=fun w _=>laidMet Tryd.prog laidErr w) (fun _ _ _ hh h=>h.of_heap hh) own started (by kernel_rfl) Tryd.func14
  (ChangeSpec.witness_at (enc:=enc) (C:=Tryd.checked) (os:=os) (X:=fun w _=>laidMet Tryd.prog laidErr w) false (laidWorld os) #[.agg #[.slice none 0 0,.slice none 0 0],.agg #[.int .i64 0,.int .i64 0]] 8 rfl (by kernel_rfl) (by kernel_rfl) (by kernel_rfl) (by kernel_rfl) (by kernel_rfl) (laidWorld_met os _)) ?_
 intro W base args ds gs before hval0 hW hcnd hsz0 hL _;have hval:∀ (j:Nat) t v,Tryd.f14.params[j]?=some t→args[j]?=some v→Value.okWide Tryd.prog W .any base t v:=hval0;have hW':=hW;obtain⟨p,q,hA0,hV0,rfl,hfz,hnd⟩:=hW;have hA:DataW.TrodAll enc Tryd.prog W 0 (fun _=>true) true Tryd.f14.params.toList args.toList ds p:=hA0;have hV:DataW.TrodVars enc Tryd.prog W (fun _=>true) ["loop.example/mortiser/impl.errNoFrac"] gs q:=hV0;rw [Tryd.params14] at hA hval;obtain⟨v0,vs0,d0,ds0,p0,q0,hargs,rfl,rfl,h0,r0⟩:=trodAll_cons hA;obtain⟨v1,vs1,d1,ds1,p1,q1,rfl,rfl,rfl,h1,r1⟩:=trodAll_cons r0;obtain⟨rfl,rfl,rfl⟩:=trodAll_nil r1;obtain rfl:args=#[v0,v1]:=by cases args;simp_all
 obtain⟨a,st,hv,hcs,hs0,hz0⟩:=err_of_laid hL;obtain⟨rfl,rfl⟩:=hV.unique (errVars enc hv trivial _);have hE:ErrW W:=ErrW.of_var hv;have k0:=h0;have lt0:∀ x∈p0,x.block<W.heap.size:=by obtain⟨m,hm⟩:=k0;exact DataW.trod_lt m _ _ _ hm
 obtain⟨A0,c0,B0,e0,zs0,Z0,rfl,hPl0⟩:=X.open_plate (hval 0 44 v0 rfl rfl) h0;have k1:=h1;have lt1:∀ x∈p1,x.block<W.heap.size:=by obtain⟨m,hm⟩:=k1;exact DataW.trod_lt m _ _ _ hm
 obtain⟨x1,y1,rfl⟩:=X.open_lpt (hval 1 45 v1 rfl rfl) h1;clear hA0 hval0 hsz0;refine (X.exactNear_calls A0 c0 B0 e0 zs0 Z0 x1 y1 W hPl0 hE).mono fun e W' ⟨he,bel⟩=>?_
 subst he;exact⟨_,rfl,_,_,_,[],_,[.cell 0 0],hW',trodAll_mk1 (shut_bool Tryd.underlying4 _),(trodAll_cons_mk (Below.trod laidOut (by kernel_rfl) (of_decide_eq_true (by kernel_rfl)) k0 bel lt0) (trodAll_cons_mk (Below.trod laidOut (by kernel_rfl) (of_decide_eq_true (by kernel_rfl)) k1 bel lt1) trodAll_mk0)),errVars enc (errBelow bel hv) trivial _,bel.frame _,fun h=>by cases h⟩
theorem over:Rows.fnExactPlateNearRow.holds Tryd.pinned (OpenSpec.ofChange Rows.fnExactPlateNearSpec):=
 OpenClaim.holds_of_wide 14 Tryd.f14 rfl rfl rfl rfl rfl rfl rfl ⟨rfl,rfl,rfl,rfl,rfl⟩ rfl rfl rfl rfl rfl (by kernel_rfl) Tryd.func14 (by kernel_rfl)
  (of_decide_eq_true (by kernel_rfl)) (by unfold Func.isWrapper;first | (rw [if_pos (by decide +kernel)];kernel_rfl) | (rw [if_neg (by decide +kernel)];exact⟨rfl,rfl⟩))
  (fun os started H enc _=>lifted os started H enc)
theorem proved:Rows.FnExactPlateNearCardSaid:=
 Claim7.holds_tied_plain_at .later [] [.sentinel] true (true,"81de65706e8f648528cfb316c2c65b1eb27649638b9ac8b9a8b267c9286ff7f7") true
  over (fun _ h=>by cases h) (by kernel_rfl) (fun _ h=>by cases h) fnExactPlateNear_row_tie rfl ⟨rfl,rfl⟩ (by kernel_rfl) rfl
  (fun f fn hf hfn=>by
   obtain rfl:f=14:=Option.some.inj ((show Tryd.prog.funcNamed "loop.example/mortiser/laws.FnExactPlateNear" = some 14 by kernel_rfl).symm.trans hf) |>.symm
   obtain rfl:fn=Tryd.f14:=(Option.some.inj (Tryd.func14.symm.trans hfn)).symm
   exact⟨by kernel_rfl,fun j t ht=>by
    rw [Tryd.params14] at ht
    rcases j with _ | _ | j
    ·
     obtain rfl:t=44:=by simpa using ht.symm
     exact (show Tryd.prog.wantsStandIn 44=false by kernel_rfl)
    ·
     obtain rfl:t=45:=by simpa using ht.symm
     exact (show Tryd.prog.wantsStandIn 45=false by kernel_rfl)
    ·
     simp at ht⟩)
  (by kernel_rfl)
end Go.Proofs.YtkefmnmoaomlhaaDoor.fnExactPlateNear
namespace Go.Proofs.YtkefmnmoaomlhaaDoor
theorem fnExactPlateNear_holds:Rows.FnExactPlateNearCardSaid:=fnExactPlateNear.proved
end Go.Proofs.YtkefmnmoaomlhaaDoor
end
