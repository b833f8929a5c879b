/- FnPlateShift: the law returns true for every input, and each input reads behind the call as before; part 3 of 6. No condition. Merged by program out of: FSpecL2Cross, EvSeg, FImplJoined, HLoop, Cross, EvEdges, FSpecL2Meet, HMeet, FSpecLoopOk, EvLoop. -/
import Derived.Test.YtkefmnmoaomlhaaDoorMFnPlateShift2
set_option linter.all false
section
namespace Go.Proofs.YtkefmnmoaomlhaaDoor.X
open Go.RowKit Go.Proofs.YtkefmnmoaomlhaaDoorW.PrintWords Go.Proofs.YtkefmnmoaomlhaaDoorW.PrintLast Go.Proofs.YtkefmnmoaomlhaaDoorW.PrintMore
attribute [local go_sem] max2_int min2_int max_two min_two max_three min_three max_four min_four
set_option linter.unusedVariables false
set_option linter.unusedSimpArgs false
def spec_l2Cross.f (a0_0:Int)(a0_1:Int)(a1_0:Int)(a1_1:Int)(a2_0:Int)(a2_1:Int):Option (Int):=some (wrap64 ((wrap64 ((wrap64 (a1_0-a0_0))*(wrap64 (a2_1-a0_1))))-(wrap64 ((wrap64 (a1_1-a0_1))*(wrap64 (a2_0-a0_0))))))
set_option maxHeartbeats 8000000 in
set_option maxRecDepth 100000 in
theorem spec_l2Cross.calls (a0_0:Int)(a0_1:Int)(a1_0:Int)(a1_1:Int)(a2_0:Int)(a2_1:Int)(r:Int)(w:World)(h:spec_l2Cross.f a0_0 a0_1 a1_0 a1_1 a2_0 a2_1=some r):
  Calls Tryd.prog 102 #[.agg #[.int .i64 a0_0,.int .i64 a0_1],.agg #[.int .i64 a1_0,.int .i64 a1_1],.agg #[.int .i64 a2_0,.int .i64 a2_1]] w fun e w'=>e=.returned (.int .i64 r)∧Below w.heap.size w w':=by
 have hu28:=Tryd.underlying28;have HB:=a0_ (Below.refl w.heap.size w);have H:(some (wrap64 ((wrap64 ((wrap64 (a1_0-a0_0))*(wrap64 (a2_1-a0_1))))-(wrap64 ((wrap64 (a1_1-a0_1))*(wrap64 (a2_0-a0_0)))))))=some r:=h;clear h;obtain rfl:=Option.some.inj H;go_enter Tryd.func102,Tryd.ntmps102;go_wp2_with (first | ((with_reducible refine gate_dst (N:=3) rfl ?_);refine bx_ (N:=3) (cs:=#[.int .i64 a0_0,.int .i64 a0_1]) (t:=28) (h:=?_);intro gb141 hg w4 hbox hb;have BK141:=a0_ (hbox);have GW141:=gh_ HB hg;have GE141:=gh_ HB hg;replace HB:=sb_ HB hb;clear hb hbox hg) | ((with_reducible refine gate_dst (N:=4) rfl ?_);refine bx_ (N:=4) (cs:=#[.int .i64 a1_0,.int .i64 a1_1]) (t:=28) (h:=?_);intro gb142 hg w5 hbox hb;have BK142:=a0_ (hbox);have GW142:=gh_ HB hg;have GE142:=gh_ HB hg;have NB141_142:=nl_ BK141 hg;have NB142_141:=nr_ BK141 hg;replace BK141:=vb_ BK141 hb;replace HB:=sb_ HB hb;clear hb hbox hg) | ((with_reducible refine gate_dst (N:=5) rfl ?_);refine bx_ (N:=5) (cs:=#[.int .i64 a2_0,.int .i64 a2_1]) (t:=28) (h:=?_);intro gb143 hg w6 hbox hb;have BK143:=a0_ (hbox);have GW143:=gh_ HB hg;have GE143:=gh_ HB hg;have NB141_143:=nl_ BK141 hg;have NB143_141:=nr_ BK141 hg;have NB142_143:=nl_ BK142 hg;have NB143_142:=nr_ BK142 hg;replace BK141:=vb_ BK141 hb;replace BK142:=vb_ BK142 hb;replace HB:=sb_ HB hb;clear hb hbox hg;have hnb7:=NB142_141.out;have hnc7:=NB141_142.out;have hnb8:=NB142_143.out;have hnc8:=NB143_142.out;have hcz9_0:=c20_ BK142;have hcz9_1:=c21_ BK142;have hfz9_0:=fz_ BK142 0;have hfz9_1:=fz_ BK142 1;have hnb10:=NB141_143.out;have hnc10:=NB143_141.out;have hcz11_0:=c20_ BK141;have hcz11_1:=c21_ BK141;have hfz11_0:=fz_ BK141 0;have hfz11_1:=fz_ BK141 1;have hcz12_0:=c20_ BK143;have hcz12_1:=c21_ BK143;have hfz12_0:=fz_ BK143 0;have hfz12_1:=fz_ BK143 1));go_ret;exact⟨rr_,hB_⟩
def spec_l2Dot.f (a0_0:Int)(a0_1:Int)(a1_0:Int)(a1_1:Int)(a2_0:Int)(a2_1:Int):Option (Int):=some (wrap64 ((wrap64 ((wrap64 (a1_0-a0_0))*(wrap64 (a2_0-a0_0))))+(wrap64 ((wrap64 (a1_1-a0_1))*(wrap64 (a2_1-a0_1))))))
set_option maxHeartbeats 8000000 in
set_option maxRecDepth 100000 in
theorem spec_l2Dot.calls (a0_0:Int)(a0_1:Int)(a1_0:Int)(a1_1:Int)(a2_0:Int)(a2_1:Int)(r:Int)(w:World)(h:spec_l2Dot.f a0_0 a0_1 a1_0 a1_1 a2_0 a2_1=some r):
  Calls Tryd.prog 117 #[.agg #[.int .i64 a0_0,.int .i64 a0_1],.agg #[.int .i64 a1_0,.int .i64 a1_1],.agg #[.int .i64 a2_0,.int .i64 a2_1]] w fun e w'=>e=.returned (.int .i64 r)∧Below w.heap.size w w':=by
 have hu28:=Tryd.underlying28;have HB:=a0_ (Below.refl w.heap.size w);have H:(some (wrap64 ((wrap64 ((wrap64 (a1_0-a0_0))*(wrap64 (a2_0-a0_0))))+(wrap64 ((wrap64 (a1_1-a0_1))*(wrap64 (a2_1-a0_1)))))))=some r:=h;clear h;obtain rfl:=Option.some.inj H;go_enter Tryd.func117,Tryd.ntmps117;go_wp2_with (first | ((with_reducible refine gate_dst (N:=3) rfl ?_);refine bx_ (N:=3) (cs:=#[.int .i64 a0_0,.int .i64 a0_1]) (t:=28) (h:=?_);intro gb144 hg w4 hbox hb;have BK144:=a0_ (hbox);have GW144:=gh_ HB hg;have GE144:=gh_ HB hg;replace HB:=sb_ HB hb;clear hb hbox hg) | ((with_reducible refine gate_dst (N:=4) rfl ?_);refine bx_ (N:=4) (cs:=#[.int .i64 a1_0,.int .i64 a1_1]) (t:=28) (h:=?_);intro gb145 hg w5 hbox hb;have BK145:=a0_ (hbox);have GW145:=gh_ HB hg;have GE145:=gh_ HB hg;have NB144_145:=nl_ BK144 hg;have NB145_144:=nr_ BK144 hg;replace BK144:=vb_ BK144 hb;replace HB:=sb_ HB hb;clear hb hbox hg) | ((with_reducible refine gate_dst (N:=5) rfl ?_);refine bx_ (N:=5) (cs:=#[.int .i64 a2_0,.int .i64 a2_1]) (t:=28) (h:=?_);intro gb146 hg w6 hbox hb;have BK146:=a0_ (hbox);have GW146:=gh_ HB hg;have GE146:=gh_ HB hg;have NB144_146:=nl_ BK144 hg;have NB146_144:=nr_ BK144 hg;have NB145_146:=nl_ BK145 hg;have NB146_145:=nr_ BK145 hg;replace BK144:=vb_ BK144 hb;replace BK145:=vb_ BK145 hb;replace HB:=sb_ HB hb;clear hb hbox hg;have hnb7:=NB145_144.out;have hnc7:=NB144_145.out;have hnb8:=NB145_146.out;have hnc8:=NB146_145.out;have hcz9_0:=c20_ BK145;have hcz9_1:=c21_ BK145;have hfz9_0:=fz_ BK145 0;have hfz9_1:=fz_ BK145 1;have hnb10:=NB144_146.out;have hnc10:=NB146_144.out;have hcz11_0:=c20_ BK144;have hcz11_1:=c21_ BK144;have hfz11_0:=fz_ BK144 0;have hfz11_1:=fz_ BK144 1;have hcz12_0:=c20_ BK146;have hcz12_1:=c21_ BK146;have hfz12_0:=fz_ BK146 0;have hfz12_1:=fz_ BK146 1));go_ret;exact⟨rr_,hB_⟩
def spec_l2Far.f (k:Nat)(a0_0:Int)(a0_1:Int)(a0_2:Int)(a0_3:Int)(a1_0:Int)(a1_1:Int):Option (Int × Int):=(spec_l2Dot.f a0_0 a0_1 a0_2 a0_3 a1_0 a1_1).bind fun t564=>((spec_l2Dot.f a0_0 a0_1 a0_2 a0_3 a0_2 a0_3).bind fun t565=>(if t564≤0 then ((spec_l2Dot.f a0_0 a0_1 a1_0 a1_1 a1_0 a1_1).bind fun t566=>(some (t566,1))) else (if t564≥t565 then ((spec_l2Dot.f a0_2 a0_3 a1_0 a1_1 a1_0 a1_1).bind fun t567=>(some (t567,1))) else ((spec_l2Cross.f a0_0 a0_1 a0_2 a0_3 a1_0 a1_1).bind fun t568=>((spec_l1Of.f k (wrap64 (t568*t568)) t565).bind fun bt569=>(some (bt569.1,bt569.2)))))))
set_option maxHeartbeats 8000000 in
set_option maxRecDepth 100000 in
theorem spec_l2Far.calls (k:Nat)(a0_0:Int)(a0_1:Int)(a0_2:Int)(a0_3:Int)(a1_0:Int)(a1_1:Int)(r1:Int)(r2:Int)(w:World)(h:spec_l2Far.f k a0_0 a0_1 a0_2 a0_3 a1_0 a1_1=some (r1,r2)):
  Calls Tryd.prog 107 #[.agg #[.int .i64 a0_0,.int .i64 a0_1,.int .i64 a0_2,.int .i64 a0_3],.agg #[.int .i64 a1_0,.int .i64 a1_1]] w fun e w'=>e=.returned (.agg #[.int .i64 r1,.int .i64 r2])∧Below w.heap.size w w':=by
 have hu61:=Tryd.underlying61;have hu28:=Tryd.underlying28;have hu35:=Tryd.underlying35;have HB:=a0_ (Below.refl w.heap.size w);have H:((spec_l2Dot.f a0_0 a0_1 a0_2 a0_3 a1_0 a1_1).bind fun t564=>((spec_l2Dot.f a0_0 a0_1 a0_2 a0_3 a0_2 a0_3).bind fun t565=>(if t564≤0 then ((spec_l2Dot.f a0_0 a0_1 a1_0 a1_1 a1_0 a1_1).bind fun t566=>(some (t566,1))) else (if t564≥t565 then ((spec_l2Dot.f a0_2 a0_3 a1_0 a1_1 a1_0 a1_1).bind fun t567=>(some (t567,1))) else ((spec_l2Cross.f a0_0 a0_1 a0_2 a0_3 a1_0 a1_1).bind fun t568=>((spec_l1Of.f k (wrap64 (t568*t568)) t565).bind fun bt569=>(some (bt569.1,bt569.2))))))))=some (r1,r2):=h;clear h;replace H:=Option.bind_eq_some_iff.mp H;obtain⟨t564,A30,H⟩:=H
 (try dsimp only at H)
 have A3:=Aside0.mk A30;clear A30;replace H:=Option.bind_eq_some_iff.mp H;obtain⟨t565,A40,H⟩:=H
 (try dsimp only at H)
 have A4:=Aside0.mk A40;clear A40;by_cases c5:t564≤0
 ·
  rw [if_pos c5] at H;have c5b0:decide (t564≤0)=true:=decide_eq_true c5;clear c5;replace H:=Option.bind_eq_some_iff.mp H;obtain⟨t566,A60,H⟩:=H
  (try dsimp only at H)
  have A6:=Aside0.mk A60;clear A60;simp only [Option.some.injEq,Prod.mk.injEq] at H;obtain⟨rfl,rfl⟩:=H;go_enter Tryd.func107,Tryd.ntmps107
  go_wp2_with (first | ((with_reducible refine gate_dst (N:=2) rfl ?_);refine bx_ (N:=2) (cs:=#[.int .i64 a0_0,.int .i64 a0_1,.int .i64 a0_2,.int .i64 a0_3]) (t:=61) (h:=?_);intro gb561 hg w7 hbox hb;have BK561:=a0_ (hbox);have GW561:=gh_ HB hg;have GE561:=gh_ HB hg;replace HB:=sb_ HB hb;clear hb hbox hg) | ((with_reducible refine gate_dst (N:=3) rfl ?_);refine bx_ (N:=3) (cs:=#[.int .i64 a1_0,.int .i64 a1_1]) (t:=28) (h:=?_);intro gb562 hg w8 hbox hb;have BK562:=a0_ (hbox);have GW562:=gh_ HB hg;have GE562:=gh_ HB hg;have NB561_562:=nl_ BK561 hg;have NB562_561:=nr_ BK561 hg;replace BK561:=vb_ BK561 hb;replace HB:=sb_ HB hb;clear hb hbox hg) | ((with_reducible refine gate_dst (N:=4) rfl ?_);refine bx_ (N:=4) (cs:=#[.int .i64 0,.int .i64 0]) (t:=35) (h:=?_);intro gb563 hg w9 hbox hb;have BK563:=a0_ (hbox);have GW563:=gh_ HB hg;have GE563:=gh_ HB hg;have NB561_563:=nl_ BK561 hg;have NB563_561:=nr_ BK561 hg;have NB562_563:=nl_ BK562 hg;have NB563_562:=nr_ BK562 hg;replace BK561:=vb_ BK561 hb;replace BK562:=vb_ BK562 hb;replace HB:=sb_ HB hb;clear hb hbox hg;have hnb10:=NB561_562.out;have hnc10:=NB562_561.out;have hnb11:=NB561_563.out;have hnc11:=NB563_561.out;have hcz12_0:=c40_ BK561;have hcz12_1:=c41_ BK561;have hcz12_2:=c42_ BK561;have hcz12_3:=c43_ BK561;have hfz12_0:=fz_ BK561 0;have hfz12_1:=fz_ BK561 1;have hfz12_2:=fz_ BK561 2;have hfz12_3:=fz_ BK561 3;have hnb13:=NB562_563.out;have hnc13:=NB563_562.out;have hcz14_0:=c20_ BK562;have hcz14_1:=c21_ BK562;have hfz14_0:=fz_ BK562 0;have hfz14_1:=fz_ BK562 1) | ((with_reducible refine gate_callee (f:=117) rfl ?_);refine gL_ (some 13) Tryd.func117 #[.agg #[.int .i64 a0_0,.int .i64 a0_1],.agg #[.int .i64 a0_2,.int .i64 a0_3],.agg #[.int .i64 a1_0,.int .i64 a1_1]] (h:=?_);(with_reducible refine (spec_l2Dot.calls a0_0 a0_1 a0_2 a0_3 a1_0 a1_1 t564 _ A3.out).mono ?_);rintro e w15 ⟨rfl,hb⟩;refine⟨_,rfl,?_⟩;replace BK561:=vb_ BK561 hb;replace BK562:=vb_ BK562 hb;replace BK563:=vb_ BK563 hb;replace HB:=sb_ HB hb;(try clear hb);have hcz16_0:=c40_ BK561;have hcz16_1:=c41_ BK561;have hcz16_2:=c42_ BK561;have hcz16_3:=c43_ BK561;have hfz16_0:=fz_ BK561 0;have hfz16_1:=fz_ BK561 1;have hfz16_2:=fz_ BK561 2;have hfz16_3:=fz_ BK561 3) | ((with_reducible refine gate_callee (f:=117) rfl ?_);refine gL_ (some 20) Tryd.func117 #[.agg #[.int .i64 a0_0,.int .i64 a0_1],.agg #[.int .i64 a0_2,.int .i64 a0_3],.agg #[.int .i64 a0_2,.int .i64 a0_3]] (h:=?_);(with_reducible refine (spec_l2Dot.calls a0_0 a0_1 a0_2 a0_3 a0_2 a0_3 t565 _ A4.out).mono ?_);rintro e w17 ⟨rfl,hb⟩;refine⟨_,rfl,?_⟩;replace BK561:=vb_ BK561 hb;replace BK562:=vb_ BK562 hb;replace BK563:=vb_ BK563 hb;replace HB:=sb_ HB hb;(try clear hb);have hcz18_0:=c40_ BK561;have hcz18_1:=c41_ BK561;have hcz18_2:=c42_ BK561;have hcz18_3:=c43_ BK561;have hfz18_0:=fz_ BK561 0;have hfz18_1:=fz_ BK561 1;have hfz18_2:=fz_ BK561 2;have hfz18_3:=fz_ BK561 3;have hcz19_0:=c20_ BK562;have hcz19_1:=c21_ BK562;have hfz19_0:=fz_ BK562 0;have hfz19_1:=fz_ BK562 1) | ((with_reducible refine gate_callee (f:=117) rfl ?_);refine gL_ (some 28) Tryd.func117 #[.agg #[.int .i64 a0_0,.int .i64 a0_1],.agg #[.int .i64 a1_0,.int .i64 a1_1],.agg #[.int .i64 a1_0,.int .i64 a1_1]] (h:=?_);(with_reducible refine (spec_l2Dot.calls a0_0 a0_1 a1_0 a1_1 a1_0 a1_1 t566 _ A6.out).mono ?_);rintro e w20 ⟨rfl,hb⟩;refine⟨_,rfl,?_⟩;replace BK561:=vb_ BK561 hb;replace BK562:=vb_ BK562 hb;replace BK563:=vb_ BK563 hb;replace HB:=sb_ HB hb;(try clear hb);have hcz21_0:=c20_ BK563;have hcz21_1:=c21_ BK563;have hfz21_0:=fz_ BK563 0;have hfz21_1:=fz_ BK563 1))
  refine bodyPost_ret (results_cell_row rfl _ _ gb563 35 #[.int .i64 t566,.int .i64 1] (0,0) _ rfl (by (with_reducible repeat (first | refine blk_drewN ?_ _ | refine blk_drew ?_ | refine blk_alloc ?_ _));refine blk_put (cs:=#[.int .i64 t566,.int .i64 0]) ?_ 1 _ rfl;(with_reducible repeat (first | refine blk_drewN ?_ _ | refine blk_drew ?_ | refine blk_alloc ?_ _));refine blk_put (cs:=#[.int .i64 0,.int .i64 0]) ?_ 0 _ rfl;(with_reducible repeat (first | refine blk_drewN ?_ _ | refine blk_drew ?_ | refine blk_alloc ?_ _));exact BK563.out) Tryd.underlying35 rfl (by kernel_rfl)) rfl ?_;exact⟨rr_,hB_⟩
 ·
  rw [if_neg c5] at H;have c5b0:decide (t564≤0)=false:=decide_eq_false c5;clear c5;by_cases c22:t564≥t565
  ·
   rw [if_pos c22] at H;have c22b0:decide (t565≤t564)=true:=decide_eq_true c22;clear c22;replace H:=Option.bind_eq_some_iff.mp H;obtain⟨t567,A230,H⟩:=H
   (try dsimp only at H)
   have A23:=Aside0.mk A230;clear A230;simp only [Option.some.injEq,Prod.mk.injEq] at H;obtain⟨rfl,rfl⟩:=H;go_enter Tryd.func107,Tryd.ntmps107
   go_wp2_with (first | ((with_reducible refine gate_dst (N:=2) rfl ?_);refine bx_ (N:=2) (cs:=#[.int .i64 a0_0,.int .i64 a0_1,.int .i64 a0_2,.int .i64 a0_3]) (t:=61) (h:=?_);intro gb561 hg w24 hbox hb;have BK561:=a0_ (hbox);have GW561:=gh_ HB hg;have GE561:=gh_ HB hg;replace HB:=sb_ HB hb;clear hb hbox hg) | ((with_reducible refine gate_dst (N:=3) rfl ?_);refine bx_ (N:=3) (cs:=#[.int .i64 a1_0,.int .i64 a1_1]) (t:=28) (h:=?_);intro gb562 hg w25 hbox hb;have BK562:=a0_ (hbox);have GW562:=gh_ HB hg;have GE562:=gh_ HB hg;have NB561_562:=nl_ BK561 hg;have NB562_561:=nr_ BK561 hg;replace BK561:=vb_ BK561 hb;replace HB:=sb_ HB hb;clear hb hbox hg) | ((with_reducible refine gate_dst (N:=4) rfl ?_);refine bx_ (N:=4) (cs:=#[.int .i64 0,.int .i64 0]) (t:=35) (h:=?_);intro gb563 hg w26 hbox hb;have BK563:=a0_ (hbox);have GW563:=gh_ HB hg;have GE563:=gh_ HB hg;have NB561_563:=nl_ BK561 hg;have NB563_561:=nr_ BK561 hg;have NB562_563:=nl_ BK562 hg;have NB563_562:=nr_ BK562 hg;replace BK561:=vb_ BK561 hb;replace BK562:=vb_ BK562 hb;replace HB:=sb_ HB hb;clear hb hbox hg;have hnb27:=NB561_562.out;have hnc27:=NB562_561.out;have hnb28:=NB561_563.out;have hnc28:=NB563_561.out;have hcz29_0:=c40_ BK561;have hcz29_1:=c41_ BK561;have hcz29_2:=c42_ BK561;have hcz29_3:=c43_ BK561;have hfz29_0:=fz_ BK561 0;have hfz29_1:=fz_ BK561 1;have hfz29_2:=fz_ BK561 2;have hfz29_3:=fz_ BK561 3;have hnb30:=NB562_563.out;have hnc30:=NB563_562.out;have hcz31_0:=c20_ BK562;have hcz31_1:=c21_ BK562;have hfz31_0:=fz_ BK562 0;have hfz31_1:=fz_ BK562 1) | ((with_reducible refine gate_callee (f:=117) rfl ?_);refine gL_ (some 13) Tryd.func117 #[.agg #[.int .i64 a0_0,.int .i64 a0_1],.agg #[.int .i64 a0_2,.int .i64 a0_3],.agg #[.int .i64 a1_0,.int .i64 a1_1]] (h:=?_);(with_reducible refine (spec_l2Dot.calls a0_0 a0_1 a0_2 a0_3 a1_0 a1_1 t564 _ A3.out).mono ?_);rintro e w32 ⟨rfl,hb⟩;refine⟨_,rfl,?_⟩;replace BK561:=vb_ BK561 hb;replace BK562:=vb_ BK562 hb;replace BK563:=vb_ BK563 hb;replace HB:=sb_ HB hb;(try clear hb);have hcz33_0:=c40_ BK561;have hcz33_1:=c41_ BK561;have hcz33_2:=c42_ BK561;have hcz33_3:=c43_ BK561;have hfz33_0:=fz_ BK561 0;have hfz33_1:=fz_ BK561 1;have hfz33_2:=fz_ BK561 2;have hfz33_3:=fz_ BK561 3) | ((with_reducible refine gate_callee (f:=117) rfl ?_);refine gL_ (some 20) Tryd.func117 #[.agg #[.int .i64 a0_0,.int .i64 a0_1],.agg #[.int .i64 a0_2,.int .i64 a0_3],.agg #[.int .i64 a0_2,.int .i64 a0_3]] (h:=?_);(with_reducible refine (spec_l2Dot.calls a0_0 a0_1 a0_2 a0_3 a0_2 a0_3 t565 _ A4.out).mono ?_);rintro e w34 ⟨rfl,hb⟩;refine⟨_,rfl,?_⟩;replace BK561:=vb_ BK561 hb;replace BK562:=vb_ BK562 hb;replace BK563:=vb_ BK563 hb;replace HB:=sb_ HB hb;(try clear hb);have hcz35_0:=c40_ BK561;have hcz35_1:=c41_ BK561;have hcz35_2:=c42_ BK561;have hcz35_3:=c43_ BK561;have hfz35_0:=fz_ BK561 0;have hfz35_1:=fz_ BK561 1;have hfz35_2:=fz_ BK561 2;have hfz35_3:=fz_ BK561 3;have hcz36_0:=c20_ BK562;have hcz36_1:=c21_ BK562;have hfz36_0:=fz_ BK562 0;have hfz36_1:=fz_ BK562 1) | ((with_reducible refine gate_callee (f:=117) rfl ?_);refine gL_ (some 38) Tryd.func117 #[.agg #[.int .i64 a0_2,.int .i64 a0_3],.agg #[.int .i64 a1_0,.int .i64 a1_1],.agg #[.int .i64 a1_0,.int .i64 a1_1]] (h:=?_);(with_reducible refine (spec_l2Dot.calls a0_2 a0_3 a1_0 a1_1 a1_0 a1_1 t567 _ A23.out).mono ?_);rintro e w37 ⟨rfl,hb⟩;refine⟨_,rfl,?_⟩;replace BK561:=vb_ BK561 hb;replace BK562:=vb_ BK562 hb;replace BK563:=vb_ BK563 hb;replace HB:=sb_ HB hb;(try clear hb);have hcz38_0:=c20_ BK563;have hcz38_1:=c21_ BK563;have hfz38_0:=fz_ BK563 0;have hfz38_1:=fz_ BK563 1))
   refine bodyPost_ret (results_cell_row rfl _ _ gb563 35 #[.int .i64 t567,.int .i64 1] (0,0) _ rfl (by (with_reducible repeat (first | refine blk_drewN ?_ _ | refine blk_drew ?_ | refine blk_alloc ?_ _));refine blk_put (cs:=#[.int .i64 t567,.int .i64 0]) ?_ 1 _ rfl;(with_reducible repeat (first | refine blk_drewN ?_ _ | refine blk_drew ?_ | refine blk_alloc ?_ _));refine blk_put (cs:=#[.int .i64 0,.int .i64 0]) ?_ 0 _ rfl;(with_reducible repeat (first | refine blk_drewN ?_ _ | refine blk_drew ?_ | refine blk_alloc ?_ _));exact BK563.out) Tryd.underlying35 rfl (by kernel_rfl)) rfl ?_;exact⟨rr_,hB_⟩
  ·
   rw [if_neg c22] at H;have c22b0:decide (t565≤t564)=false:=decide_eq_false c22;clear c22;replace H:=Option.bind_eq_some_iff.mp H;obtain⟨t568,A390,H⟩:=H
   (try dsimp only at H)
   have A39:=Aside0.mk A390;clear A390;replace H:=Option.bind_eq_some_iff.mp H;obtain⟨⟨t569,t570⟩,A400,H⟩:=H
   (try dsimp only at H)
   have A40:=Aside0.mk A400;clear A400;simp only [Option.some.injEq,Prod.mk.injEq] at H;obtain⟨rfl,rfl⟩:=H;go_enter Tryd.func107,Tryd.ntmps107
   go_wp2_with (first | ((with_reducible refine gate_dst (N:=2) rfl ?_);refine bx_ (N:=2) (cs:=#[.int .i64 a0_0,.int .i64 a0_1,.int .i64 a0_2,.int .i64 a0_3]) (t:=61) (h:=?_);intro gb561 hg w41 hbox hb;have BK561:=a0_ (hbox);have GW561:=gh_ HB hg;have GE561:=gh_ HB hg;replace HB:=sb_ HB hb;clear hb hbox hg) | ((with_reducible refine gate_dst (N:=3) rfl ?_);refine bx_ (N:=3) (cs:=#[.int .i64 a1_0,.int .i64 a1_1]) (t:=28) (h:=?_);intro gb562 hg w42 hbox hb;have BK562:=a0_ (hbox);have GW562:=gh_ HB hg;have GE562:=gh_ HB hg;have NB561_562:=nl_ BK561 hg;have NB562_561:=nr_ BK561 hg;replace BK561:=vb_ BK561 hb;replace HB:=sb_ HB hb;clear hb hbox hg) | ((with_reducible refine gate_dst (N:=4) rfl ?_);refine bx_ (N:=4) (cs:=#[.int .i64 0,.int .i64 0]) (t:=35) (h:=?_);intro gb563 hg w43 hbox hb;have BK563:=a0_ (hbox);have GW563:=gh_ HB hg;have GE563:=gh_ HB hg;have NB561_563:=nl_ BK561 hg;have NB563_561:=nr_ BK561 hg;have NB562_563:=nl_ BK562 hg;have NB563_562:=nr_ BK562 hg;replace BK561:=vb_ BK561 hb;replace BK562:=vb_ BK562 hb;replace HB:=sb_ HB hb;clear hb hbox hg;have hnb44:=NB561_562.out;have hnc44:=NB562_561.out;have hnb45:=NB561_563.out;have hnc45:=NB563_561.out;have hcz46_0:=c40_ BK561;have hcz46_1:=c41_ BK561;have hcz46_2:=c42_ BK561;have hcz46_3:=c43_ BK561;have hfz46_0:=fz_ BK561 0;have hfz46_1:=fz_ BK561 1;have hfz46_2:=fz_ BK561 2;have hfz46_3:=fz_ BK561 3;have hnb47:=NB562_563.out;have hnc47:=NB563_562.out;have hcz48_0:=c20_ BK562;have hcz48_1:=c21_ BK562;have hfz48_0:=fz_ BK562 0;have hfz48_1:=fz_ BK562 1) | ((with_reducible refine gate_callee (f:=117) rfl ?_);refine gL_ (some 13) Tryd.func117 #[.agg #[.int .i64 a0_0,.int .i64 a0_1],.agg #[.int .i64 a0_2,.int .i64 a0_3],.agg #[.int .i64 a1_0,.int .i64 a1_1]] (h:=?_);(with_reducible refine (spec_l2Dot.calls a0_0 a0_1 a0_2 a0_3 a1_0 a1_1 t564 _ A3.out).mono ?_);rintro e w49 ⟨rfl,hb⟩;refine⟨_,rfl,?_⟩;replace BK561:=vb_ BK561 hb;replace BK562:=vb_ BK562 hb;replace BK563:=vb_ BK563 hb;replace HB:=sb_ HB hb;(try clear hb);have hcz50_0:=c40_ BK561;have hcz50_1:=c41_ BK561;have hcz50_2:=c42_ BK561;have hcz50_3:=c43_ BK561;have hfz50_0:=fz_ BK561 0;have hfz50_1:=fz_ BK561 1;have hfz50_2:=fz_ BK561 2;have hfz50_3:=fz_ BK561 3) | ((with_reducible refine gate_callee (f:=117) rfl ?_);refine gL_ (some 20) Tryd.func117 #[.agg #[.int .i64 a0_0,.int .i64 a0_1],.agg #[.int .i64 a0_2,.int .i64 a0_3],.agg #[.int .i64 a0_2,.int .i64 a0_3]] (h:=?_);(with_reducible refine (spec_l2Dot.calls a0_0 a0_1 a0_2 a0_3 a0_2 a0_3 t565 _ A4.out).mono ?_);rintro e w51 ⟨rfl,hb⟩;refine⟨_,rfl,?_⟩;replace BK561:=vb_ BK561 hb;replace BK562:=vb_ BK562 hb;replace BK563:=vb_ BK563 hb;replace HB:=sb_ HB hb;(try clear hb);have hcz52_0:=c40_ BK561;have hcz52_1:=c41_ BK561;have hcz52_2:=c42_ BK561;have hcz52_3:=c43_ BK561;have hfz52_0:=fz_ BK561 0;have hfz52_1:=fz_ BK561 1;have hfz52_2:=fz_ BK561 2;have hfz52_3:=fz_ BK561 3;have hcz53_0:=c20_ BK562;have hcz53_1:=c21_ BK562;have hfz53_0:=fz_ BK562 0;have hfz53_1:=fz_ BK562 1) | ((with_reducible refine gate_callee (f:=102) rfl ?_);refine gL_ (some 45) Tryd.func102 #[.agg #[.int .i64 a0_0,.int .i64 a0_1],.agg #[.int .i64 a0_2,.int .i64 a0_3],.agg #[.int .i64 a1_0,.int .i64 a1_1]] (h:=?_);(with_reducible refine (spec_l2Cross.calls a0_0 a0_1 a0_2 a0_3 a1_0 a1_1 t568 _ A39.out).mono ?_);rintro e w54 ⟨rfl,hb⟩;refine⟨_,rfl,?_⟩;replace BK561:=vb_ BK561 hb;replace BK562:=vb_ BK562 hb;replace BK563:=vb_ BK563 hb;replace HB:=sb_ HB hb;(try clear hb)) | ((with_reducible refine gate_callee (f:=119) rfl ?_);refine gL_ (some 50) Tryd.func119 #[.int .i64 (wrap64 (t568*t568)),.int .i64 t565] (h:=?_);(with_reducible refine (spec_l1Of.calls k (wrap64 (t568*t568)) t565 t569 t570 _ A40.out).mono ?_);rintro e w55 ⟨rfl,hb⟩;refine⟨_,rfl,?_⟩;replace BK561:=vb_ BK561 hb;replace BK562:=vb_ BK562 hb;replace BK563:=vb_ BK563 hb;replace HB:=sb_ HB hb;(try clear hb);have hcz56_0:=c20_ BK563;have hcz56_1:=c21_ BK563;have hfz56_0:=fz_ BK563 0;have hfz56_1:=fz_ BK563 1))
   refine bodyPost_ret (results_cell_row rfl _ _ gb563 35 #[.int .i64 t569,.int .i64 t570] (0,0) _ rfl (by (with_reducible repeat (first | refine blk_drewN ?_ _ | refine blk_drew ?_ | refine blk_alloc ?_ _));refine blk_put (cs:=#[.int .i64 t569,.int .i64 0]) ?_ 1 _ rfl;(with_reducible repeat (first | refine blk_drewN ?_ _ | refine blk_drew ?_ | refine blk_alloc ?_ _));refine blk_put (cs:=#[.int .i64 0,.int .i64 0]) ?_ 0 _ rfl;(with_reducible repeat (first | refine blk_drewN ?_ _ | refine blk_drew ?_ | refine blk_alloc ?_ _));exact BK563.out) Tryd.underlying35 rfl (by kernel_rfl)) rfl ?_;exact⟨rr_,hB_⟩
theorem eqA28 (d:Nat)(w:World)(x0 y0:Int)(x1 y1:Int):
  (Op.equalIn (d+2) 28 (.agg #[.int .i64 x0,.int .i64 x1]) (.agg #[.int .i64 y0,.int .i64 y1])).run Tryd.prog w=.ok (x0==y0 && (x1==y1)) w:=by
 refine eqA_of Tryd.underlying28 (by kernel_rfl) ?_;refine eqf_cons (by rfl) (by go_simp;rfl) (by go_simp;rfl) (by go_simp) ?_;exact eqf_last (by rfl) (by go_simp;rfl) (by go_simp;rfl) (by go_simp)
theorem eqA35 (d:Nat)(w:World)(x0 y0:Int)(x1 y1:Int):
  (Op.equalIn (d+2) 35 (.agg #[.int .i64 x0,.int .i64 x1]) (.agg #[.int .i64 y0,.int .i64 y1])).run Tryd.prog w=.ok (x0==y0 && (x1==y1)) w:=by
 refine eqA_of Tryd.underlying35 (by kernel_rfl) ?_;refine eqf_cons (by rfl) (by go_simp;rfl) (by go_simp;rfl) (by go_simp) ?_;exact eqf_last (by rfl) (by go_simp;rfl) (by go_simp;rfl) (by go_simp)
def spec_PtOk.f (a0_0:Int)(a0_1:Int):Option (Bool):=(spec_l6In.f a0_0 0 9).bind fun t136=>(if t136=true then ((spec_l6In.f a0_1 0 9).bind fun t137=>(some t137)) else (some false))
set_option maxHeartbeats 8000000 in
set_option maxRecDepth 100000 in
theorem spec_PtOk.calls (a0_0:Int)(a0_1:Int)(r:Bool)(w:World)(h:spec_PtOk.f a0_0 a0_1=some r):
  Calls Tryd.prog 19 #[.agg #[.int .i64 a0_0,.int .i64 a0_1]] w fun e w'=>e=.returned (.bool r)∧Below w.heap.size w w':=by
 have hu28:=Tryd.underlying28;have HB:=a0_ (Below.refl w.heap.size w);have H:((spec_l6In.f a0_0 0 9).bind fun t136=>(if t136=true then ((spec_l6In.f a0_1 0 9).bind fun t137=>(some t137)) else (some false)))=some r:=h;clear h;replace H:=Option.bind_eq_some_iff.mp H;obtain⟨t136,A20,H⟩:=H
 (try dsimp only at H)
 have A2:=Aside0.mk A20;clear A20;by_cases c3:t136=true
 ·
  subst c3;rw [if_pos rfl] at H
  (try dsimp only at H)
  replace H:=Option.bind_eq_some_iff.mp H;obtain⟨t137,A40,H⟩:=H
  (try dsimp only at H)
  have A4:=Aside0.mk A40;clear A40;obtain rfl:=Option.some.inj H;go_enter Tryd.func19,Tryd.ntmps19;go_wp2_with (first | ((with_reducible refine gate_dst (N:=1) rfl ?_);refine bx_ (N:=1) (cs:=#[.int .i64 a0_0,.int .i64 a0_1]) (t:=28) (h:=?_);intro gb135 hg w5 hbox hb;have BK135:=a0_ (hbox);have GW135:=gh_ HB hg;have GE135:=gh_ HB hg;replace HB:=sb_ HB hb;clear hb hbox hg;have hcz6_0:=c20_ BK135;have hcz6_1:=c21_ BK135;have hfz6_0:=fz_ BK135 0;have hfz6_1:=fz_ BK135 1) | ((with_reducible refine gate_callee (f:=58) rfl ?_);refine gL_ (some 5) Tryd.func58 #[.int .i64 a0_0,.int .i64 0,.int .i64 9] (h:=?_);(with_reducible refine (spec_l6In.calls a0_0 0 9 true _ A2.out).mono ?_);rintro e w' ⟨rfl,⟨nd,rfl⟩⟩;refine⟨_,rfl,?_⟩) | (go_at_call 58;(with_reducible refine (spec_l6In.calls a0_1 0 9 t137 _ A4.out).mono ?_);rintro e w' ⟨rfl,⟨nd,rfl⟩⟩));go_ret;exact⟨rr_,hB_⟩
 ·
  replace c3:=Bool.eq_false_iff.mpr c3;subst c3;rw [if_neg (show ¬ (false=true) by decide)] at H
  (try dsimp only at H)
  obtain rfl:=Option.some.inj H;go_enter Tryd.func19,Tryd.ntmps19;go_wp2_with (first | ((with_reducible refine gate_dst (N:=1) rfl ?_);refine bx_ (N:=1) (cs:=#[.int .i64 a0_0,.int .i64 a0_1]) (t:=28) (h:=?_);intro gb135 hg w7 hbox hb;have BK135:=a0_ (hbox);have GW135:=gh_ HB hg;have GE135:=gh_ HB hg;replace HB:=sb_ HB hb;clear hb hbox hg;have hcz8_0:=c20_ BK135;have hcz8_1:=c21_ BK135;have hfz8_0:=fz_ BK135 0;have hfz8_1:=fz_ BK135 1) | ((with_reducible refine gate_callee (f:=58) rfl ?_);refine gL_ (some 5) Tryd.func58 #[.int .i64 a0_0,.int .i64 0,.int .i64 9] (h:=?_);(with_reducible refine (spec_l6In.calls a0_0 0 9 false _ A2.out).mono ?_);rintro e w' ⟨rfl,⟨nd,rfl⟩⟩;refine⟨_,rfl,?_⟩));go_ret;exact⟨rr_,hB_⟩
attribute [local go_sem high] eqA28
def spec_SegOk.f (a0_0:Int)(a0_1:Int)(a0_2:Int)(a0_3:Int):Option (Bool):=(spec_PtOk.f a0_0 a0_1).bind fun t139=>(if t139=true then ((spec_PtOk.f a0_2 a0_3).bind fun t140=>(if t140=true then (some (!(a0_0==a0_2) || (!(a0_1==a0_3)))) else (some false))) else (some false))
set_option maxHeartbeats 8000000 in
set_option maxRecDepth 100000 in
theorem spec_SegOk.calls (a0_0:Int)(a0_1:Int)(a0_2:Int)(a0_3:Int)(r:Bool)(w:World)(h:spec_SegOk.f a0_0 a0_1 a0_2 a0_3=some r):
  Calls Tryd.prog 99 #[.agg #[.int .i64 a0_0,.int .i64 a0_1,.int .i64 a0_2,.int .i64 a0_3]] w fun e w'=>e=.returned (.bool r)∧Below w.heap.size w w':=by
 have hu61:=Tryd.underlying61;have hu28:=Tryd.underlying28;have HB:=a0_ (Below.refl w.heap.size w);have H:((spec_PtOk.f a0_0 a0_1).bind fun t139=>(if t139=true then ((spec_PtOk.f a0_2 a0_3).bind fun t140=>(if t140=true then (some (!(a0_0==a0_2) || (!(a0_1==a0_3)))) else (some false))) else (some false)))=some r:=h;clear h;replace H:=Option.bind_eq_some_iff.mp H;obtain⟨t139,A20,H⟩:=H
 (try dsimp only at H)
 have A2:=Aside0.mk A20;clear A20;by_cases c3:t139=true
 ·
  subst c3;rw [if_pos rfl] at H
  (try dsimp only at H)
  replace H:=Option.bind_eq_some_iff.mp H;obtain⟨t140,A40,H⟩:=H
  (try dsimp only at H)
  have A4:=Aside0.mk A40;clear A40;by_cases c5:t140=true
  ·
   subst c5;rw [if_pos rfl] at H
   (try dsimp only at H)
   obtain rfl:=Option.some.inj H;go_enter Tryd.func99,Tryd.ntmps99;go_wp2_with (first | ((with_reducible refine gate_dst (N:=1) rfl ?_);refine bx_ (N:=1) (cs:=#[.int .i64 a0_0,.int .i64 a0_1,.int .i64 a0_2,.int .i64 a0_3]) (t:=61) (h:=?_);intro gb138 hg w6 hbox hb;have BK138:=a0_ (hbox);have GW138:=gh_ HB hg;have GE138:=gh_ HB hg;replace HB:=sb_ HB hb;clear hb hbox hg;have hcz7_0:=c40_ BK138;have hcz7_1:=c41_ BK138;have hcz7_2:=c42_ BK138;have hcz7_3:=c43_ BK138;have hfz7_0:=fz_ BK138 0;have hfz7_1:=fz_ BK138 1;have hfz7_2:=fz_ BK138 2;have hfz7_3:=fz_ BK138 3) | ((with_reducible refine gate_callee (f:=19) rfl ?_);refine gL_ (some 5) Tryd.func19 #[.agg #[.int .i64 a0_0,.int .i64 a0_1]] (h:=?_);(with_reducible refine (spec_PtOk.calls a0_0 a0_1 true _ A2.out).mono ?_);rintro e w8 ⟨rfl,hb⟩;refine⟨_,rfl,?_⟩;replace BK138:=vb_ BK138 hb;replace HB:=sb_ HB hb;(try clear hb);have hcz9_0:=c40_ BK138;have hcz9_1:=c41_ BK138;have hcz9_2:=c42_ BK138;have hcz9_3:=c43_ BK138;have hfz9_0:=fz_ BK138 0;have hfz9_1:=fz_ BK138 1;have hfz9_2:=fz_ BK138 2;have hfz9_3:=fz_ BK138 3) | (go_at_call 19;(with_reducible refine (spec_PtOk.calls a0_2 a0_3 true _ A4.out).mono ?_);rintro e w10 ⟨rfl,hb⟩;replace BK138:=vb_ BK138 hb;replace HB:=sb_ HB hb;(try clear hb);have hcz11_0:=c40_ BK138;have hcz11_1:=c41_ BK138;have hcz11_2:=c42_ BK138;have hcz11_3:=c43_ BK138;have hfz11_0:=fz_ BK138 0;have hfz11_1:=fz_ BK138 1;have hfz11_2:=fz_ BK138 2;have hfz11_3:=fz_ BK138 3));go_ret;exact⟨rr_,hB_⟩
  ·
   replace c5:=Bool.eq_false_iff.mpr c5;subst c5;rw [if_neg (show ¬ (false=true) by decide)] at H
   (try dsimp only at H)
   obtain rfl:=Option.some.inj H;go_enter Tryd.func99,Tryd.ntmps99;go_wp2_with (first | ((with_reducible refine gate_dst (N:=1) rfl ?_);refine bx_ (N:=1) (cs:=#[.int .i64 a0_0,.int .i64 a0_1,.int .i64 a0_2,.int .i64 a0_3]) (t:=61) (h:=?_);intro gb138 hg w12 hbox hb;have BK138:=a0_ (hbox);have GW138:=gh_ HB hg;have GE138:=gh_ HB hg;replace HB:=sb_ HB hb;clear hb hbox hg;have hcz13_0:=c40_ BK138;have hcz13_1:=c41_ BK138;have hcz13_2:=c42_ BK138;have hcz13_3:=c43_ BK138;have hfz13_0:=fz_ BK138 0;have hfz13_1:=fz_ BK138 1;have hfz13_2:=fz_ BK138 2;have hfz13_3:=fz_ BK138 3) | ((with_reducible refine gate_callee (f:=19) rfl ?_);refine gL_ (some 5) Tryd.func19 #[.agg #[.int .i64 a0_0,.int .i64 a0_1]] (h:=?_);(with_reducible refine (spec_PtOk.calls a0_0 a0_1 true _ A2.out).mono ?_);rintro e w14 ⟨rfl,hb⟩;refine⟨_,rfl,?_⟩;replace BK138:=vb_ BK138 hb;replace HB:=sb_ HB hb;(try clear hb);have hcz15_0:=c40_ BK138;have hcz15_1:=c41_ BK138;have hcz15_2:=c42_ BK138;have hcz15_3:=c43_ BK138;have hfz15_0:=fz_ BK138 0;have hfz15_1:=fz_ BK138 1;have hfz15_2:=fz_ BK138 2;have hfz15_3:=fz_ BK138 3) | (go_at_call 19;(with_reducible refine (spec_PtOk.calls a0_2 a0_3 false _ A4.out).mono ?_);rintro e w16 ⟨rfl,hb⟩;replace BK138:=vb_ BK138 hb;replace HB:=sb_ HB hb;(try clear hb)));go_ret;exact⟨rr_,hB_⟩
 ·
  replace c3:=Bool.eq_false_iff.mpr c3;subst c3;rw [if_neg (show ¬ (false=true) by decide)] at H
  (try dsimp only at H)
  obtain rfl:=Option.some.inj H;go_enter Tryd.func99,Tryd.ntmps99;go_wp2_with (first | ((with_reducible refine gate_dst (N:=1) rfl ?_);refine bx_ (N:=1) (cs:=#[.int .i64 a0_0,.int .i64 a0_1,.int .i64 a0_2,.int .i64 a0_3]) (t:=61) (h:=?_);intro gb138 hg w17 hbox hb;have BK138:=a0_ (hbox);have GW138:=gh_ HB hg;have GE138:=gh_ HB hg;replace HB:=sb_ HB hb;clear hb hbox hg;have hcz18_0:=c40_ BK138;have hcz18_1:=c41_ BK138;have hcz18_2:=c42_ BK138;have hcz18_3:=c43_ BK138;have hfz18_0:=fz_ BK138 0;have hfz18_1:=fz_ BK138 1;have hfz18_2:=fz_ BK138 2;have hfz18_3:=fz_ BK138 3) | ((with_reducible refine gate_callee (f:=19) rfl ?_);refine gL_ (some 5) Tryd.func19 #[.agg #[.int .i64 a0_0,.int .i64 a0_1]] (h:=?_);(with_reducible refine (spec_PtOk.calls a0_0 a0_1 false _ A2.out).mono ?_);rintro e w19 ⟨rfl,hb⟩;refine⟨_,rfl,?_⟩;replace BK138:=vb_ BK138 hb;replace HB:=sb_ HB hb;(try clear hb)));go_ret;exact⟨rr_,hB_⟩
def impl_along.f (a0_0:Int)(a0_1:Int)(a1_0:Int)(a1_1:Int)(a2_0:Int)(a2_1:Int):Option (Int):=some (wrap64 ((wrap64 ((wrap64 (a1_0-a0_0))*(wrap64 (a2_0-a0_0))))+(wrap64 ((wrap64 (a1_1-a0_1))*(wrap64 (a2_1-a0_1))))))
set_option maxHeartbeats 8000000 in
set_option maxRecDepth 100000 in
theorem impl_along.calls (a0_0:Int)(a0_1:Int)(a1_0:Int)(a1_1:Int)(a2_0:Int)(a2_1:Int)(r:Int)(w:World)(h:impl_along.f a0_0 a0_1 a1_0 a1_1 a2_0 a2_1=some r):
  Calls Tryd.prog 109 #[.agg #[.int .i64 a0_0,.int .i64 a0_1],.agg #[.int .i64 a1_0,.int .i64 a1_1],.agg #[.int .i64 a2_0,.int .i64 a2_1]] w fun e w'=>e=.returned (.int .i64 r)∧Below w.heap.size w w':=by
 have hu28:=Tryd.underlying28;have HB:=a0_ (Below.refl w.heap.size w);have H:(some (wrap64 ((wrap64 ((wrap64 (a1_0-a0_0))*(wrap64 (a2_0-a0_0))))+(wrap64 ((wrap64 (a1_1-a0_1))*(wrap64 (a2_1-a0_1)))))))=some r:=h;clear h;obtain rfl:=Option.some.inj H;go_enter Tryd.func109,Tryd.ntmps109;go_wp2_with (first | ((with_reducible refine gate_dst (N:=3) rfl ?_);refine bx_ (N:=3) (cs:=#[.int .i64 a0_0,.int .i64 a0_1]) (t:=28) (h:=?_);intro gb353 hg w4 hbox hb;have BK353:=a0_ (hbox);have GW353:=gh_ HB hg;have GE353:=gh_ HB hg;replace HB:=sb_ HB hb;clear hb hbox hg) | ((with_reducible refine gate_dst (N:=4) rfl ?_);refine bx_ (N:=4) (cs:=#[.int .i64 a1_0,.int .i64 a1_1]) (t:=28) (h:=?_);intro gb354 hg w5 hbox hb;have BK354:=a0_ (hbox);have GW354:=gh_ HB hg;have GE354:=gh_ HB hg;have NB353_354:=nl_ BK353 hg;have NB354_353:=nr_ BK353 hg;replace BK353:=vb_ BK353 hb;replace HB:=sb_ HB hb;clear hb hbox hg) | ((with_reducible refine gate_dst (N:=5) rfl ?_);refine bx_ (N:=5) (cs:=#[.int .i64 a2_0,.int .i64 a2_1]) (t:=28) (h:=?_);intro gb355 hg w6 hbox hb;have BK355:=a0_ (hbox);have GW355:=gh_ HB hg;have GE355:=gh_ HB hg;have NB353_355:=nl_ BK353 hg;have NB355_353:=nr_ BK353 hg;have NB354_355:=nl_ BK354 hg;have NB355_354:=nr_ BK354 hg;replace BK353:=vb_ BK353 hb;replace BK354:=vb_ BK354 hb;replace HB:=sb_ HB hb;clear hb hbox hg;have hnb7:=NB354_353.out;have hnc7:=NB353_354.out;have hnb8:=NB354_355.out;have hnc8:=NB355_354.out;have hcz9_0:=c20_ BK354;have hcz9_1:=c21_ BK354;have hfz9_0:=fz_ BK354 0;have hfz9_1:=fz_ BK354 1;have hnb10:=NB353_355.out;have hnc10:=NB355_353.out;have hcz11_0:=c20_ BK353;have hcz11_1:=c21_ BK353;have hfz11_0:=fz_ BK353 0;have hfz11_1:=fz_ BK353 1;have hcz12_0:=c20_ BK355;have hcz12_1:=c21_ BK355;have hfz12_0:=fz_ BK355 0;have hfz12_1:=fz_ BK355 1));go_ret;exact⟨rr_,hB_⟩
def impl_between.f (a0_0:Int)(a0_1:Int)(a1_0:Int)(a1_1:Int):Option (Int):=(impl_along.f a0_0 a0_1 a1_0 a1_1 a1_0 a1_1).bind fun t358=>(some t358)
set_option maxHeartbeats 8000000 in
set_option maxRecDepth 100000 in
theorem impl_between.calls (a0_0:Int)(a0_1:Int)(a1_0:Int)(a1_1:Int)(r:Int)(w:World)(h:impl_between.f a0_0 a0_1 a1_0 a1_1=some r):
  Calls Tryd.prog 79 #[.agg #[.int .i64 a0_0,.int .i64 a0_1],.agg #[.int .i64 a1_0,.int .i64 a1_1]] w fun e w'=>e=.returned (.int .i64 r)∧Below w.heap.size w w':=by
 have hu28:=Tryd.underlying28;have HB:=a0_ (Below.refl w.heap.size w);have H:((impl_along.f a0_0 a0_1 a1_0 a1_1 a1_0 a1_1).bind fun t358=>(some t358))=some r:=h;clear h;replace H:=Option.bind_eq_some_iff.mp H;obtain⟨t358,A30,H⟩:=H
 (try dsimp only at H)
 have A3:=Aside0.mk A30;clear A30;obtain rfl:=Option.some.inj H;go_enter Tryd.func79,Tryd.ntmps79;go_wp2_with (first | ((with_reducible refine gate_dst (N:=2) rfl ?_);refine bx_ (N:=2) (cs:=#[.int .i64 a0_0,.int .i64 a0_1]) (t:=28) (h:=?_);intro gb356 hg w4 hbox hb;have BK356:=a0_ (hbox);have GW356:=gh_ HB hg;have GE356:=gh_ HB hg;replace HB:=sb_ HB hb;clear hb hbox hg) | ((with_reducible refine gate_dst (N:=3) rfl ?_);refine bx_ (N:=3) (cs:=#[.int .i64 a1_0,.int .i64 a1_1]) (t:=28) (h:=?_);intro gb357 hg w5 hbox hb;have BK357:=a0_ (hbox);have GW357:=gh_ HB hg;have GE357:=gh_ HB hg;have NB356_357:=nl_ BK356 hg;have NB357_356:=nr_ BK356 hg;replace BK356:=vb_ BK356 hb;replace HB:=sb_ HB hb;clear hb hbox hg;have hnb6:=NB356_357.out;have hnc6:=NB357_356.out;have hcz7_0:=c20_ BK356;have hcz7_1:=c21_ BK356;have hfz7_0:=fz_ BK356 0;have hfz7_1:=fz_ BK356 1;have hcz8_0:=c20_ BK357;have hcz8_1:=c21_ BK357;have hfz8_0:=fz_ BK357 0;have hfz8_1:=fz_ BK357 1) | ((with_reducible refine gate_callee (f:=109) rfl ?_);refine gL_ (some 8) Tryd.func109 #[.agg #[.int .i64 a0_0,.int .i64 a0_1],.agg #[.int .i64 a1_0,.int .i64 a1_1],.agg #[.int .i64 a1_0,.int .i64 a1_1]] (h:=?_);(with_reducible refine (impl_along.calls a0_0 a0_1 a1_0 a1_1 a1_0 a1_1 t358 _ A3.out).mono ?_);rintro e w9 ⟨rfl,hb⟩;refine⟨_,rfl,?_⟩;replace BK356:=vb_ BK356 hb;replace BK357:=vb_ BK357 hb;replace HB:=sb_ HB hb;(try clear hb)));go_ret;exact⟨rr_,hB_⟩
def impl_cross.f (a0_0:Int)(a0_1:Int)(a1_0:Int)(a1_1:Int)(a2_0:Int)(a2_1:Int):Option (Int):=some (wrap64 ((wrap64 ((wrap64 (a1_0-a0_0))*(wrap64 (a2_1-a0_1))))-(wrap64 ((wrap64 (a1_1-a0_1))*(wrap64 (a2_0-a0_0))))))
set_option maxHeartbeats 8000000 in
set_option maxRecDepth 100000 in
theorem impl_cross.calls (a0_0:Int)(a0_1:Int)(a1_0:Int)(a1_1:Int)(a2_0:Int)(a2_1:Int)(r:Int)(w:World)(h:impl_cross.f a0_0 a0_1 a1_0 a1_1 a2_0 a2_1=some r):
  Calls Tryd.prog 81 #[.agg #[.int .i64 a0_0,.int .i64 a0_1],.agg #[.int .i64 a1_0,.int .i64 a1_1],.agg #[.int .i64 a2_0,.int .i64 a2_1]] w fun e w'=>e=.returned (.int .i64 r)∧Below w.heap.size w w':=by
 have hu28:=Tryd.underlying28;have HB:=a0_ (Below.refl w.heap.size w);have H:(some (wrap64 ((wrap64 ((wrap64 (a1_0-a0_0))*(wrap64 (a2_1-a0_1))))-(wrap64 ((wrap64 (a1_1-a0_1))*(wrap64 (a2_0-a0_0)))))))=some r:=h;clear h;obtain rfl:=Option.some.inj H;go_enter Tryd.func81,Tryd.ntmps81;go_wp2_with (first | ((with_reducible refine gate_dst (N:=3) rfl ?_);refine bx_ (N:=3) (cs:=#[.int .i64 a0_0,.int .i64 a0_1]) (t:=28) (h:=?_);intro gb359 hg w4 hbox hb;have BK359:=a0_ (hbox);have GW359:=gh_ HB hg;have GE359:=gh_ HB hg;replace HB:=sb_ HB hb;clear hb hbox hg) | ((with_reducible refine gate_dst (N:=4) rfl ?_);refine bx_ (N:=4) (cs:=#[.int .i64 a1_0,.int .i64 a1_1]) (t:=28) (h:=?_);intro gb360 hg w5 hbox hb;have BK360:=a0_ (hbox);have GW360:=gh_ HB hg;have GE360:=gh_ HB hg;have NB359_360:=nl_ BK359 hg;have NB360_359:=nr_ BK359 hg;replace BK359:=vb_ BK359 hb;replace HB:=sb_ HB hb;clear hb hbox hg) | ((with_reducible refine gate_dst (N:=5) rfl ?_);refine bx_ (N:=5) (cs:=#[.int .i64 a2_0,.int .i64 a2_1]) (t:=28) (h:=?_);intro gb361 hg w6 hbox hb;have BK361:=a0_ (hbox);have GW361:=gh_ HB hg;have GE361:=gh_ HB hg;have NB359_361:=nl_ BK359 hg;have NB361_359:=nr_ BK359 hg;have NB360_361:=nl_ BK360 hg;have NB361_360:=nr_ BK360 hg;replace BK359:=vb_ BK359 hb;replace BK360:=vb_ BK360 hb;replace HB:=sb_ HB hb;clear hb hbox hg;have hnb7:=NB360_359.out;have hnc7:=NB359_360.out;have hnb8:=NB360_361.out;have hnc8:=NB361_360.out;have hcz9_0:=c20_ BK360;have hcz9_1:=c21_ BK360;have hfz9_0:=fz_ BK360 0;have hfz9_1:=fz_ BK360 1;have hnb10:=NB359_361.out;have hnc10:=NB361_359.out;have hcz11_0:=c20_ BK359;have hcz11_1:=c21_ BK359;have hfz11_0:=fz_ BK359 0;have hfz11_1:=fz_ BK359 1;have hcz12_0:=c20_ BK361;have hcz12_1:=c21_ BK361;have hfz12_0:=fz_ BK361 0;have hfz12_1:=fz_ BK361 1));go_ret;exact⟨rr_,hB_⟩
def impl_PtOk.f (a0_0:Int)(a0_1:Int):Option (Bool):=if a0_0≥0 then (if a0_0≤9 then (if a0_1≥0 then (some (decide (a0_1≤9))) else (some false)) else (some false)) else (some false)
set_option maxHeartbeats 8000000 in
set_option maxRecDepth 100000 in
theorem impl_PtOk.calls (a0_0:Int)(a0_1:Int)(r:Bool)(w:World)(h:impl_PtOk.f a0_0 a0_1=some r):
  Calls Tryd.prog 23 #[.agg #[.int .i64 a0_0,.int .i64 a0_1]] w fun e w'=>e=.returned (.bool r)∧Below w.heap.size w w':=by
 have hu28:=Tryd.underlying28;have HB:=a0_ (Below.refl w.heap.size w);have H:(if a0_0≥0 then (if a0_0≤9 then (if a0_1≥0 then (some (decide (a0_1≤9))) else (some false)) else (some false)) else (some false))=some r:=h;clear h;by_cases c2:a0_0≥0
 ·
  rw [if_pos c2] at H;have c2b0:decide (0≤a0_0)=true:=decide_eq_true c2;clear c2;by_cases c3:a0_0≤9
  ·
   rw [if_pos c3] at H;have c3b0:decide (a0_0≤9)=true:=decide_eq_true c3;clear c3;by_cases c4:a0_1≥0
   ·
    rw [if_pos c4] at H;have c4b0:decide (0≤a0_1)=true:=decide_eq_true c4;clear c4;obtain rfl:=Option.some.inj H;go_enter Tryd.func23,Tryd.ntmps23;go_wp2_with (first | ((with_reducible refine gate_dst (N:=1) rfl ?_);refine bx_ (N:=1) (cs:=#[.int .i64 a0_0,.int .i64 a0_1]) (t:=28) (h:=?_);intro gb349 hg w5 hbox hb;have BK349:=a0_ (hbox);have GW349:=gh_ HB hg;have GE349:=gh_ HB hg;replace HB:=sb_ HB hb;clear hb hbox hg;have hcz6_0:=c20_ BK349;have hcz6_1:=c21_ BK349;have hfz6_0:=fz_ BK349 0;have hfz6_1:=fz_ BK349 1));go_ret;exact⟨rr_,hB_⟩
   ·
    rw [if_neg c4] at H;have c4b0:decide (0≤a0_1)=false:=decide_eq_false c4;clear c4;obtain rfl:=Option.some.inj H;go_enter Tryd.func23,Tryd.ntmps23;go_wp2_with (first | ((with_reducible refine gate_dst (N:=1) rfl ?_);refine bx_ (N:=1) (cs:=#[.int .i64 a0_0,.int .i64 a0_1]) (t:=28) (h:=?_);intro gb349 hg w7 hbox hb;have BK349:=a0_ (hbox);have GW349:=gh_ HB hg;have GE349:=gh_ HB hg;replace HB:=sb_ HB hb;clear hb hbox hg;have hcz8_0:=c20_ BK349;have hcz8_1:=c21_ BK349;have hfz8_0:=fz_ BK349 0;have hfz8_1:=fz_ BK349 1));go_ret;exact⟨rr_,hB_⟩
  ·
   rw [if_neg c3] at H;have c3b0:decide (a0_0≤9)=false:=decide_eq_false c3;clear c3;obtain rfl:=Option.some.inj H;go_enter Tryd.func23,Tryd.ntmps23;go_wp2_with (first | ((with_reducible refine gate_dst (N:=1) rfl ?_);refine bx_ (N:=1) (cs:=#[.int .i64 a0_0,.int .i64 a0_1]) (t:=28) (h:=?_);intro gb349 hg w9 hbox hb;have BK349:=a0_ (hbox);have GW349:=gh_ HB hg;have GE349:=gh_ HB hg;replace HB:=sb_ HB hb;clear hb hbox hg;have hcz10_0:=c20_ BK349;have hcz10_1:=c21_ BK349;have hfz10_0:=fz_ BK349 0;have hfz10_1:=fz_ BK349 1));go_ret;exact⟨rr_,hB_⟩
 ·
  rw [if_neg c2] at H;have c2b0:decide (0≤a0_0)=false:=decide_eq_false c2;clear c2;obtain rfl:=Option.some.inj H;go_enter Tryd.func23,Tryd.ntmps23;go_wp2_with (first | ((with_reducible refine gate_dst (N:=1) rfl ?_);refine bx_ (N:=1) (cs:=#[.int .i64 a0_0,.int .i64 a0_1]) (t:=28) (h:=?_);intro gb349 hg w11 hbox hb;have BK349:=a0_ (hbox);have GW349:=gh_ HB hg;have GE349:=gh_ HB hg;replace HB:=sb_ HB hb;clear hb hbox hg;have hcz12_0:=c20_ BK349;have hcz12_1:=c21_ BK349;have hfz12_0:=fz_ BK349 0;have hfz12_1:=fz_ BK349 1));go_ret;exact⟨rr_,hB_⟩
attribute [local go_sem high] eqA28
def impl_SegOk.f (a0_0:Int)(a0_1:Int)(a0_2:Int)(a0_3:Int):Option (Bool):=(impl_PtOk.f a0_0 a0_1).bind fun t351=>(if t351=true then ((impl_PtOk.f a0_2 a0_3).bind fun t352=>(if t352=true then (some (!(a0_0==a0_2) || (!(a0_1==a0_3)))) else (some false))) else (some false))
set_option maxHeartbeats 8000000 in
set_option maxRecDepth 100000 in
theorem impl_SegOk.calls (a0_0:Int)(a0_1:Int)(a0_2:Int)(a0_3:Int)(r:Bool)(w:World)(h:impl_SegOk.f a0_0 a0_1 a0_2 a0_3=some r):
  Calls Tryd.prog 77 #[.agg #[.int .i64 a0_0,.int .i64 a0_1,.int .i64 a0_2,.int .i64 a0_3]] w fun e w'=>e=.returned (.bool r)∧Below w.heap.size w w':=by
 have hu61:=Tryd.underlying61;have hu28:=Tryd.underlying28;have HB:=a0_ (Below.refl w.heap.size w);have H:((impl_PtOk.f a0_0 a0_1).bind fun t351=>(if t351=true then ((impl_PtOk.f a0_2 a0_3).bind fun t352=>(if t352=true then (some (!(a0_0==a0_2) || (!(a0_1==a0_3)))) else (some false))) else (some false)))=some r:=h;clear h;replace H:=Option.bind_eq_some_iff.mp H;obtain⟨t351,A20,H⟩:=H
 (try dsimp only at H)
 have A2:=Aside0.mk A20;clear A20;by_cases c3:t351=true
 ·
  subst c3;rw [if_pos rfl] at H
  (try dsimp only at H)
  replace H:=Option.bind_eq_some_iff.mp H;obtain⟨t352,A40,H⟩:=H
  (try dsimp only at H)
  have A4:=Aside0.mk A40;clear A40;by_cases c5:t352=true
  ·
   subst c5;rw [if_pos rfl] at H
   (try dsimp only at H)
   obtain rfl:=Option.some.inj H;go_enter Tryd.func77,Tryd.ntmps77;go_wp2_with (first | ((with_reducible refine gate_dst (N:=1) rfl ?_);refine bx_ (N:=1) (cs:=#[.int .i64 a0_0,.int .i64 a0_1,.int .i64 a0_2,.int .i64 a0_3]) (t:=61) (h:=?_);intro gb350 hg w6 hbox hb;have BK350:=a0_ (hbox);have GW350:=gh_ HB hg;have GE350:=gh_ HB hg;replace HB:=sb_ HB hb;clear hb hbox hg;have hcz7_0:=c40_ BK350;have hcz7_1:=c41_ BK350;have hcz7_2:=c42_ BK350;have hcz7_3:=c43_ BK350;have hfz7_0:=fz_ BK350 0;have hfz7_1:=fz_ BK350 1;have hfz7_2:=fz_ BK350 2;have hfz7_3:=fz_ BK350 3) | ((with_reducible refine gate_callee (f:=23) rfl ?_);refine gL_ (some 5) Tryd.func23 #[.agg #[.int .i64 a0_0,.int .i64 a0_1]] (h:=?_);(with_reducible refine (impl_PtOk.calls a0_0 a0_1 true _ A2.out).mono ?_);rintro e w8 ⟨rfl,hb⟩;refine⟨_,rfl,?_⟩;replace BK350:=vb_ BK350 hb;replace HB:=sb_ HB hb;(try clear hb);have hcz9_0:=c40_ BK350;have hcz9_1:=c41_ BK350;have hcz9_2:=c42_ BK350;have hcz9_3:=c43_ BK350;have hfz9_0:=fz_ BK350 0;have hfz9_1:=fz_ BK350 1;have hfz9_2:=fz_ BK350 2;have hfz9_3:=fz_ BK350 3) | (go_at_call 23;(with_reducible refine (impl_PtOk.calls a0_2 a0_3 true _ A4.out).mono ?_);rintro e w10 ⟨rfl,hb⟩;replace BK350:=vb_ BK350 hb;replace HB:=sb_ HB hb;(try clear hb);have hcz11_0:=c40_ BK350;have hcz11_1:=c41_ BK350;have hcz11_2:=c42_ BK350;have hcz11_3:=c43_ BK350;have hfz11_0:=fz_ BK350 0;have hfz11_1:=fz_ BK350 1;have hfz11_2:=fz_ BK350 2;have hfz11_3:=fz_ BK350 3));go_ret;exact⟨rr_,hB_⟩
  ·
   replace c5:=Bool.eq_false_iff.mpr c5;subst c5;rw [if_neg (show ¬ (false=true) by decide)] at H
   (try dsimp only at H)
   obtain rfl:=Option.some.inj H;go_enter Tryd.func77,Tryd.ntmps77;go_wp2_with (first | ((with_reducible refine gate_dst (N:=1) rfl ?_);refine bx_ (N:=1) (cs:=#[.int .i64 a0_0,.int .i64 a0_1,.int .i64 a0_2,.int .i64 a0_3]) (t:=61) (h:=?_);intro gb350 hg w12 hbox hb;have BK350:=a0_ (hbox);have GW350:=gh_ HB hg;have GE350:=gh_ HB hg;replace HB:=sb_ HB hb;clear hb hbox hg;have hcz13_0:=c40_ BK350;have hcz13_1:=c41_ BK350;have hcz13_2:=c42_ BK350;have hcz13_3:=c43_ BK350;have hfz13_0:=fz_ BK350 0;have hfz13_1:=fz_ BK350 1;have hfz13_2:=fz_ BK350 2;have hfz13_3:=fz_ BK350 3) | ((with_reducible refine gate_callee (f:=23) rfl ?_);refine gL_ (some 5) Tryd.func23 #[.agg #[.int .i64 a0_0,.int .i64 a0_1]] (h:=?_);(with_reducible refine (impl_PtOk.calls a0_0 a0_1 true _ A2.out).mono ?_);rintro e w14 ⟨rfl,hb⟩;refine⟨_,rfl,?_⟩;replace BK350:=vb_ BK350 hb;replace HB:=sb_ HB hb;(try clear hb);have hcz15_0:=c40_ BK350;have hcz15_1:=c41_ BK350;have hcz15_2:=c42_ BK350;have hcz15_3:=c43_ BK350;have hfz15_0:=fz_ BK350 0;have hfz15_1:=fz_ BK350 1;have hfz15_2:=fz_ BK350 2;have hfz15_3:=fz_ BK350 3) | (go_at_call 23;(with_reducible refine (impl_PtOk.calls a0_2 a0_3 false _ A4.out).mono ?_);rintro e w16 ⟨rfl,hb⟩;replace BK350:=vb_ BK350 hb;replace HB:=sb_ HB hb;(try clear hb)));go_ret;exact⟨rr_,hB_⟩
 ·
  replace c3:=Bool.eq_false_iff.mpr c3;subst c3;rw [if_neg (show ¬ (false=true) by decide)] at H
  (try dsimp only at H)
  obtain rfl:=Option.some.inj H;go_enter Tryd.func77,Tryd.ntmps77;go_wp2_with (first | ((with_reducible refine gate_dst (N:=1) rfl ?_);refine bx_ (N:=1) (cs:=#[.int .i64 a0_0,.int .i64 a0_1,.int .i64 a0_2,.int .i64 a0_3]) (t:=61) (h:=?_);intro gb350 hg w17 hbox hb;have BK350:=a0_ (hbox);have GW350:=gh_ HB hg;have GE350:=gh_ HB hg;replace HB:=sb_ HB hb;clear hb hbox hg;have hcz18_0:=c40_ BK350;have hcz18_1:=c41_ BK350;have hcz18_2:=c42_ BK350;have hcz18_3:=c43_ BK350;have hfz18_0:=fz_ BK350 0;have hfz18_1:=fz_ BK350 1;have hfz18_2:=fz_ BK350 2;have hfz18_3:=fz_ BK350 3) | ((with_reducible refine gate_callee (f:=23) rfl ?_);refine gL_ (some 5) Tryd.func23 #[.agg #[.int .i64 a0_0,.int .i64 a0_1]] (h:=?_);(with_reducible refine (impl_PtOk.calls a0_0 a0_1 false _ A2.out).mono ?_);rintro e w19 ⟨rfl,hb⟩;refine⟨_,rfl,?_⟩;replace BK350:=vb_ BK350 hb;replace HB:=sb_ HB hb;(try clear hb)));go_ret;exact⟨rr_,hB_⟩
def impl_SegHas.j0:Nat→Bool→Int→Int→Int→Int→Int→Int→Option (Bool)
 | 0,_,_,_,_,_,_,_=>none
 | k+1,x22,x363000,x363001,x363002,x363003,x364000,x364001=>if x22=true then (some false) else ((impl_along.f x363000 x363001 x363002 x363003 x364000 x364001).bind fun t367=>(if t367≥0 then ((impl_between.f x363000 x363001 x363002 x363003).bind fun t368=>(some (decide (t367≤t368)))) else (some false)))
def impl_SegHas.f (k:Nat)(a0_0:Int)(a0_1:Int)(a0_2:Int)(a0_3:Int)(a1_0:Int)(a1_1:Int):Option (Bool):=(impl_SegOk.f a0_0 a0_1 a0_2 a0_3).bind fun t364=>(if t364=true then ((impl_PtOk.f a1_0 a1_1).bind fun t365=>(if t365=true then ((impl_cross.f a0_0 a0_1 a0_2 a0_3 a1_0 a1_1).bind fun t366=>(impl_SegHas.j0 k (t366 != 0) a0_0 a0_1 a0_2 a0_3 a1_0 a1_1)) else (impl_SegHas.j0 k true a0_0 a0_1 a0_2 a0_3 a1_0 a1_1))) else (impl_SegHas.j0 k true a0_0 a0_1 a0_2 a0_3 a1_0 a1_1))
set_option maxHeartbeats 8000000 in
set_option maxRecDepth 100000 in
theorem impl_SegHas.calls (k:Nat)(a0_0:Int)(a0_1:Int)(a0_2:Int)(a0_3:Int)(a1_0:Int)(a1_1:Int)(r:Bool)(w:World)(h:impl_SegHas.f k a0_0 a0_1 a0_2 a0_3 a1_0 a1_1=some r):
  Calls Tryd.prog 115 #[.agg #[.int .i64 a0_0,.int .i64 a0_1,.int .i64 a0_2,.int .i64 a0_3],.agg #[.int .i64 a1_0,.int .i64 a1_1]] w fun e w'=>e=.returned (.bool r)∧Below w.heap.size w w':=by
 have hu61:=Tryd.underlying61;have hu28:=Tryd.underlying28;have HB:=a0_ (Below.refl w.heap.size w);have H:((impl_SegOk.f a0_0 a0_1 a0_2 a0_3).bind fun t364=>(if t364=true then ((impl_PtOk.f a1_0 a1_1).bind fun t365=>(if t365=true then ((impl_cross.f a0_0 a0_1 a0_2 a0_3 a1_0 a1_1).bind fun t366=>(impl_SegHas.j0 k (t366 != 0) a0_0 a0_1 a0_2 a0_3 a1_0 a1_1)) else (impl_SegHas.j0 k true a0_0 a0_1 a0_2 a0_3 a1_0 a1_1))) else (impl_SegHas.j0 k true a0_0 a0_1 a0_2 a0_3 a1_0 a1_1)))=some r:=h;clear h;have HC3:=Aside0.mk H;clear H;go_enter Tryd.func115,Tryd.ntmps115;go_upto_region 1 with (first | ((with_reducible refine gate_dst (N:=2) rfl ?_);refine bx_ (N:=2) (cs:=#[.int .i64 a0_0,.int .i64 a0_1,.int .i64 a0_2,.int .i64 a0_3]) (t:=61) (h:=?_);intro gb362 hg w4 hbox hb;have BK362:=a0_ (hbox);have GW362:=gh_ HB hg;have GE362:=gh_ HB hg;replace HB:=sb_ HB hb;clear hb hbox hg) | ((with_reducible refine gate_dst (N:=3) rfl ?_);refine bx_ (N:=3) (cs:=#[.int .i64 a1_0,.int .i64 a1_1]) (t:=28) (h:=?_);intro gb363 hg w5 hbox hb;have BK363:=a0_ (hbox);have GW363:=gh_ HB hg;have GE363:=gh_ HB hg;have NB362_363:=nl_ BK362 hg;have NB363_362:=nr_ BK362 hg;replace BK362:=vb_ BK362 hb;replace HB:=sb_ HB hb;clear hb hbox hg))
 (try simp only [Act.put,List.setIfInBounds_toArray,List.set_cons_zero,List.set_cons_succ])
 go_cut [22] (fun v22 wc=>∃ (kq:Nat) (x22_2:Bool),v22=.bool x22_2∧Aside0 (impl_SegHas.j0 kq x22_2 a0_0 a0_1 a0_2 a0_3 a1_0 a1_1=some r)∧Aside0 (kq≤k)∧Aside0 (wc.heap[gb362]?=some (.cells #[.int .i64 a0_0,.int .i64 a0_1,.int .i64 a0_2,.int .i64 a0_3] 61 (0,0)))∧Aside0 (wc.heap[gb363]?=some (.cells #[.int .i64 a1_0,.int .i64 a1_1] 28 (0,0)))∧Aside0 (Below w.heap.size w wc))
 case first =>
  have H:=HC3.out;clear HC3;replace H:=Option.bind_eq_some_iff.mp H;obtain⟨t364,A60,H⟩:=H
  (try dsimp only at H)
  have A6:=Aside0.mk A60;clear A60;by_cases c7:t364=true
  ·
   subst c7;rw [if_pos rfl] at H
   (try dsimp only at H)
   replace H:=Option.bind_eq_some_iff.mp H;obtain⟨t365,A80,H⟩:=H
   (try dsimp only at H)
   have A8:=Aside0.mk A80;clear A80;by_cases c9:t365=true
   ·
    subst c9;rw [if_pos rfl] at H
    (try dsimp only at H)
    replace H:=Option.bind_eq_some_iff.mp H;obtain⟨t366,A100,H⟩:=H
    (try dsimp only at H)
    have A10:=Aside0.mk A100;clear A100;have H':=Aside0.mk H;clear H;have hnb11:=NB362_363.out;have hnc11:=NB363_362.out;have hcz12_0:=c40_ BK362;have hcz12_1:=c41_ BK362;have hcz12_2:=c42_ BK362;have hcz12_3:=c43_ BK362;have hfz12_0:=fz_ BK362 0;have hfz12_1:=fz_ BK362 1;have hfz12_2:=fz_ BK362 2;have hfz12_3:=fz_ BK362 3;go_wp2_with (first | ((with_reducible refine gate_callee (f:=77) rfl ?_);refine gL_ (some 7) Tryd.func77 #[.agg #[.int .i64 a0_0,.int .i64 a0_1,.int .i64 a0_2,.int .i64 a0_3]] (h:=?_);(with_reducible refine (impl_SegOk.calls a0_0 a0_1 a0_2 a0_3 true _ A6.out).mono ?_);rintro e w13 ⟨rfl,hb⟩;refine⟨_,rfl,?_⟩;replace BK362:=vb_ BK362 hb;replace BK363:=vb_ BK363 hb;replace HB:=sb_ HB hb;(try clear hb);have hcz14_0:=c20_ BK363;have hcz14_1:=c21_ BK363;have hfz14_0:=fz_ BK363 0;have hfz14_1:=fz_ BK363 1) | (go_at_call 23;(with_reducible refine (impl_PtOk.calls a1_0 a1_1 true _ A8.out).mono ?_);rintro e w15 ⟨rfl,hb⟩;replace BK362:=vb_ BK362 hb;replace BK363:=vb_ BK363 hb;replace HB:=sb_ HB hb;(try clear hb);have hcz16_0:=c40_ BK362;have hcz16_1:=c41_ BK362;have hcz16_2:=c42_ BK362;have hcz16_3:=c43_ BK362;have hfz16_0:=fz_ BK362 0;have hfz16_1:=fz_ BK362 1;have hfz16_2:=fz_ BK362 2;have hfz16_3:=fz_ BK362 3;have hcz17_0:=c20_ BK363;have hcz17_1:=c21_ BK363;have hfz17_0:=fz_ BK363 0;have hfz17_1:=fz_ BK363 1) | (go_at_call 81;(with_reducible refine (impl_cross.calls a0_0 a0_1 a0_2 a0_3 a1_0 a1_1 t366 _ A10.out).mono ?_);rintro e w18 ⟨rfl,hb⟩;replace BK362:=vb_ BK362 hb;replace BK363:=vb_ BK363 hb;replace HB:=sb_ HB hb;(try clear hb)));go_meet
    case rel=>exact⟨_,((t366 != 0)),(by first | rfl | (simp;done) | (simp [*];done)),H',⟨by first | omega | exact Nat.le_refl _⟩,⟨uq_⟩,⟨uq_⟩,⟨hB_⟩⟩
   ·
    replace c9:=Bool.eq_false_iff.mpr c9;subst c9;rw [if_neg (show ¬ (false=true) by decide)] at H
    (try dsimp only at H)
    have H':=Aside0.mk H;clear H;have hnb19:=NB362_363.out;have hnc19:=NB363_362.out;have hcz20_0:=c40_ BK362;have hcz20_1:=c41_ BK362;have hcz20_2:=c42_ BK362;have hcz20_3:=c43_ BK362;have hfz20_0:=fz_ BK362 0;have hfz20_1:=fz_ BK362 1;have hfz20_2:=fz_ BK362 2;have hfz20_3:=fz_ BK362 3;go_wp2_with (first | ((with_reducible refine gate_callee (f:=77) rfl ?_);refine gL_ (some 7) Tryd.func77 #[.agg #[.int .i64 a0_0,.int .i64 a0_1,.int .i64 a0_2,.int .i64 a0_3]] (h:=?_);(with_reducible refine (impl_SegOk.calls a0_0 a0_1 a0_2 a0_3 true _ A6.out).mono ?_);rintro e w21 ⟨rfl,hb⟩;refine⟨_,rfl,?_⟩;replace BK362:=vb_ BK362 hb;replace BK363:=vb_ BK363 hb;replace HB:=sb_ HB hb;(try clear hb);have hcz22_0:=c20_ BK363;have hcz22_1:=c21_ BK363;have hfz22_0:=fz_ BK363 0;have hfz22_1:=fz_ BK363 1) | (go_at_call 23;(with_reducible refine (impl_PtOk.calls a1_0 a1_1 false _ A8.out).mono ?_);rintro e w23 ⟨rfl,hb⟩;replace BK362:=vb_ BK362 hb;replace BK363:=vb_ BK363 hb;replace HB:=sb_ HB hb;(try clear hb)));go_meet
    case rel=>exact⟨_,(true),(by first | rfl | (simp;done) | (simp [*];done)),H',⟨by first | omega | exact Nat.le_refl _⟩,⟨uq_⟩,⟨uq_⟩,⟨hB_⟩⟩
  ·
   replace c7:=Bool.eq_false_iff.mpr c7;subst c7;rw [if_neg (show ¬ (false=true) by decide)] at H
   (try dsimp only at H)
   have H':=Aside0.mk H;clear H;have hnb24:=NB362_363.out;have hnc24:=NB363_362.out;have hcz25_0:=c40_ BK362;have hcz25_1:=c41_ BK362;have hcz25_2:=c42_ BK362;have hcz25_3:=c43_ BK362;have hfz25_0:=fz_ BK362 0;have hfz25_1:=fz_ BK362 1;have hfz25_2:=fz_ BK362 2;have hfz25_3:=fz_ BK362 3;go_wp2_with (first | ((with_reducible refine gate_callee (f:=77) rfl ?_);refine gL_ (some 7) Tryd.func77 #[.agg #[.int .i64 a0_0,.int .i64 a0_1,.int .i64 a0_2,.int .i64 a0_3]] (h:=?_);(with_reducible refine (impl_SegOk.calls a0_0 a0_1 a0_2 a0_3 false _ A6.out).mono ?_);rintro e w26 ⟨rfl,hb⟩;refine⟨_,rfl,?_⟩;replace BK362:=vb_ BK362 hb;replace BK363:=vb_ BK363 hb;replace HB:=sb_ HB hb;(try clear hb)));go_meet
   case rel=>exact⟨_,(true),(by first | rfl | (simp;done) | (simp [*];done)),H',⟨by first | omega | exact Nat.le_refl _⟩,⟨uq_⟩,⟨uq_⟩,⟨hB_⟩⟩
 case rest =>
  clear HC3;obtain⟨kq,x22_2,rfl,HA,HJ2,BK362,BK363,HB⟩:=hcut
  cases kq with
  | zero=>exact absurd HA.out (by simp [impl_SegHas.j0])
  | succ kj2 =>
   have H:=HA.out;clear HA;simp only [impl_SegHas.j0] at H;by_cases c27:x22_2=true
   ·
    subst c27;rw [if_pos rfl] at H
    (try dsimp only at H)
    obtain rfl:=Option.some.inj H;go_wp2;go_ret;exact⟨rr_,hB_⟩
   ·
    replace c27:=Bool.eq_false_iff.mpr c27;subst c27;rw [if_neg (show ¬ (false=true) by decide)] at H
    (try dsimp only at H)
    replace H:=Option.bind_eq_some_iff.mp H;obtain⟨t367,A280,H⟩:=H
    (try dsimp only at H)
    have A28:=Aside0.mk A280;clear A280;by_cases c29:t367≥0
    ·
     rw [if_pos c29] at H;have c29b0:decide (0≤t367)=true:=decide_eq_true c29;clear c29;replace H:=Option.bind_eq_some_iff.mp H;obtain⟨t368,A300,H⟩:=H
     (try dsimp only at H)
     have A30:=Aside0.mk A300;clear A300;obtain rfl:=Option.some.inj H;have hnb31:=NB362_363.out;have hnc31:=NB363_362.out;have hcz32_0:=c40_ BK362;have hcz32_1:=c41_ BK362;have hcz32_2:=c42_ BK362;have hcz32_3:=c43_ BK362;have hfz32_0:=fz_ BK362 0;have hfz32_1:=fz_ BK362 1;have hfz32_2:=fz_ BK362 2;have hfz32_3:=fz_ BK362 3;have hcz33_0:=c20_ BK363;have hcz33_1:=c21_ BK363;have hfz33_0:=fz_ BK363 0;have hfz33_1:=fz_ BK363 1;go_wp2_with (first | ((with_reducible refine gate_callee (f:=109) rfl ?_);refine gL_ (some 28) Tryd.func109 #[.agg #[.int .i64 a0_0,.int .i64 a0_1],.agg #[.int .i64 a0_2,.int .i64 a0_3],.agg #[.int .i64 a1_0,.int .i64 a1_1]] (h:=?_);(with_reducible refine (impl_along.calls a0_0 a0_1 a0_2 a0_3 a1_0 a1_1 t367 _ A28.out).mono ?_);rintro e w34 ⟨rfl,hb⟩;refine⟨_,rfl,?_⟩;replace BK362:=vb_ BK362 hb;replace BK363:=vb_ BK363 hb;replace HB:=sb_ HB hb;(try clear hb);have hcz35_0:=c40_ BK362;have hcz35_1:=c41_ BK362;have hcz35_2:=c42_ BK362;have hcz35_3:=c43_ BK362;have hfz35_0:=fz_ BK362 0;have hfz35_1:=fz_ BK362 1;have hfz35_2:=fz_ BK362 2;have hfz35_3:=fz_ BK362 3) | (go_at_call 79;(with_reducible refine (impl_between.calls a0_0 a0_1 a0_2 a0_3 t368 _ A30.out).mono ?_);rintro e w36 ⟨rfl,hb⟩;replace BK362:=vb_ BK362 hb;replace BK363:=vb_ BK363 hb;replace HB:=sb_ HB hb;(try clear hb)));go_ret;exact⟨rr_,hB_⟩
    ·
     rw [if_neg c29] at H;have c29b0:decide (0≤t367)=false:=decide_eq_false c29;clear c29;obtain rfl:=Option.some.inj H;have hnb37:=NB362_363.out;have hnc37:=NB363_362.out;have hcz38_0:=c40_ BK362;have hcz38_1:=c41_ BK362;have hcz38_2:=c42_ BK362;have hcz38_3:=c43_ BK362;have hfz38_0:=fz_ BK362 0;have hfz38_1:=fz_ BK362 1;have hfz38_2:=fz_ BK362 2;have hfz38_3:=fz_ BK362 3;have hcz39_0:=c20_ BK363;have hcz39_1:=c21_ BK363;have hfz39_0:=fz_ BK363 0;have hfz39_1:=fz_ BK363 1;go_wp2_with (first | ((with_reducible refine gate_callee (f:=109) rfl ?_);refine gL_ (some 28) Tryd.func109 #[.agg #[.int .i64 a0_0,.int .i64 a0_1],.agg #[.int .i64 a0_2,.int .i64 a0_3],.agg #[.int .i64 a1_0,.int .i64 a1_1]] (h:=?_);(with_reducible refine (impl_along.calls a0_0 a0_1 a0_2 a0_3 a1_0 a1_1 t367 _ A28.out).mono ?_);rintro e w40 ⟨rfl,hb⟩;refine⟨_,rfl,?_⟩;replace BK362:=vb_ BK362 hb;replace BK363:=vb_ BK363 hb;replace HB:=sb_ HB hb;(try clear hb)));go_ret;exact⟨rr_,hB_⟩
def impl_SegTurn.j0:Nat→Bool→Int→Int→Int→Int→Int→Int→Option (Int)
 | 0,_,_,_,_,_,_,_=>none
 | k+1,x20,x374000,x374001,x375000,x375001,x376000,x376001=>if x20=true then (some 0) else ((impl_cross.f x374000 x374001 x375000 x375001 x376000 x376001).bind fun t379=>(if t379>0 then (some 1) else (if t379<0 then (some (-1)) else (some 0))))
def impl_SegTurn.f (k:Nat)(a0_0:Int)(a0_1:Int)(a1_0:Int)(a1_1:Int)(a2_0:Int)(a2_1:Int):Option (Int):=(impl_PtOk.f a0_0 a0_1).bind fun t376=>(if t376=true then ((impl_PtOk.f a1_0 a1_1).bind fun t377=>(if t377=true then ((impl_PtOk.f a2_0 a2_1).bind fun t378=>(impl_SegTurn.j0 k (!t378) a0_0 a0_1 a1_0 a1_1 a2_0 a2_1)) else (impl_SegTurn.j0 k true a0_0 a0_1 a1_0 a1_1 a2_0 a2_1))) else (impl_SegTurn.j0 k true a0_0 a0_1 a1_0 a1_1 a2_0 a2_1))
set_option maxHeartbeats 8000000 in
set_option maxRecDepth 100000 in
theorem impl_SegTurn.calls (k:Nat)(a0_0:Int)(a0_1:Int)(a1_0:Int)(a1_1:Int)(a2_0:Int)(a2_1:Int)(r:Int)(w:World)(h:impl_SegTurn.f k a0_0 a0_1 a1_0 a1_1 a2_0 a2_1=some r):
  Calls Tryd.prog 116 #[.agg #[.int .i64 a0_0,.int .i64 a0_1],.agg #[.int .i64 a1_0,.int .i64 a1_1],.agg #[.int .i64 a2_0,.int .i64 a2_1]] w fun e w'=>e=.returned (.int .i64 r)∧Below w.heap.size w w':=by
 have hu28:=Tryd.underlying28;have HB:=a0_ (Below.refl w.heap.size w);have H:((impl_PtOk.f a0_0 a0_1).bind fun t376=>(if t376=true then ((impl_PtOk.f a1_0 a1_1).bind fun t377=>(if t377=true then ((impl_PtOk.f a2_0 a2_1).bind fun t378=>(impl_SegTurn.j0 k (!t378) a0_0 a0_1 a1_0 a1_1 a2_0 a2_1)) else (impl_SegTurn.j0 k true a0_0 a0_1 a1_0 a1_1 a2_0 a2_1))) else (impl_SegTurn.j0 k true a0_0 a0_1 a1_0 a1_1 a2_0 a2_1)))=some r:=h;clear h;have HC4:=Aside0.mk H;clear H;go_enter Tryd.func116,Tryd.ntmps116;go_upto_region 1 with (first | ((with_reducible refine gate_dst (N:=3) rfl ?_);refine bx_ (N:=3) (cs:=#[.int .i64 a0_0,.int .i64 a0_1]) (t:=28) (h:=?_);intro gb373 hg w5 hbox hb;have BK373:=a0_ (hbox);have GW373:=gh_ HB hg;have GE373:=gh_ HB hg;replace HB:=sb_ HB hb;clear hb hbox hg) | ((with_reducible refine gate_dst (N:=4) rfl ?_);refine bx_ (N:=4) (cs:=#[.int .i64 a1_0,.int .i64 a1_1]) (t:=28) (h:=?_);intro gb374 hg w6 hbox hb;have BK374:=a0_ (hbox);have GW374:=gh_ HB hg;have GE374:=gh_ HB hg;have NB373_374:=nl_ BK373 hg;have NB374_373:=nr_ BK373 hg;replace BK373:=vb_ BK373 hb;replace HB:=sb_ HB hb;clear hb hbox hg) | ((with_reducible refine gate_dst (N:=5) rfl ?_);refine bx_ (N:=5) (cs:=#[.int .i64 a2_0,.int .i64 a2_1]) (t:=28) (h:=?_);intro gb375 hg w7 hbox hb;have BK375:=a0_ (hbox);have GW375:=gh_ HB hg;have GE375:=gh_ HB hg;have NB373_375:=nl_ BK373 hg;have NB375_373:=nr_ BK373 hg;have NB374_375:=nl_ BK374 hg;have NB375_374:=nr_ BK374 hg;replace BK373:=vb_ BK373 hb;replace BK374:=vb_ BK374 hb;replace HB:=sb_ HB hb;clear hb hbox hg))
 (try simp only [Act.put,List.setIfInBounds_toArray,List.set_cons_zero,List.set_cons_succ])
 go_cut [20] (fun v20 wc=>∃ (kq:Nat) (x20_3:Bool),v20=.bool x20_3∧Aside0 (impl_SegTurn.j0 kq x20_3 a0_0 a0_1 a1_0 a1_1 a2_0 a2_1=some r)∧Aside0 (kq≤k)∧Aside0 (wc.heap[gb373]?=some (.cells #[.int .i64 a0_0,.int .i64 a0_1] 28 (0,0)))∧Aside0 (wc.heap[gb374]?=some (.cells #[.int .i64 a1_0,.int .i64 a1_1] 28 (0,0)))∧Aside0 (wc.heap[gb375]?=some (.cells #[.int .i64 a2_0,.int .i64 a2_1] 28 (0,0)))∧Aside0 (Below w.heap.size w wc))
 case first =>
  have H:=HC4.out;clear HC4;replace H:=Option.bind_eq_some_iff.mp H;obtain⟨t376,A80,H⟩:=H
  (try dsimp only at H)
  have A8:=Aside0.mk A80;clear A80;by_cases c9:t376=true
  ·
   subst c9;rw [if_pos rfl] at H
   (try dsimp only at H)
   replace H:=Option.bind_eq_some_iff.mp H;obtain⟨t377,A100,H⟩:=H
   (try dsimp only at H)
   have A10:=Aside0.mk A100;clear A100;by_cases c11:t377=true
   ·
    subst c11;rw [if_pos rfl] at H
    (try dsimp only at H)
    replace H:=Option.bind_eq_some_iff.mp H;obtain⟨t378,A120,H⟩:=H
    (try dsimp only at H)
    have A12:=Aside0.mk A120;clear A120;have H':=Aside0.mk H;clear H;have hnb13:=NB373_374.out;have hnc13:=NB374_373.out;have hnb14:=NB373_375.out;have hnc14:=NB375_373.out;have hcz15_0:=c20_ BK373;have hcz15_1:=c21_ BK373;have hfz15_0:=fz_ BK373 0;have hfz15_1:=fz_ BK373 1;go_wp2_with (first | ((with_reducible refine gate_callee (f:=23) rfl ?_);refine gL_ (some 9) Tryd.func23 #[.agg #[.int .i64 a0_0,.int .i64 a0_1]] (h:=?_);(with_reducible refine (impl_PtOk.calls a0_0 a0_1 true _ A8.out).mono ?_);rintro e w16 ⟨rfl,hb⟩;refine⟨_,rfl,?_⟩;replace BK373:=vb_ BK373 hb;replace BK374:=vb_ BK374 hb;replace BK375:=vb_ BK375 hb;replace HB:=sb_ HB hb;(try clear hb);have hnb17:=NB374_375.out;have hnc17:=NB375_374.out;have hcz18_0:=c20_ BK374;have hcz18_1:=c21_ BK374;have hfz18_0:=fz_ BK374 0;have hfz18_1:=fz_ BK374 1) | (go_at_call 23;(with_reducible refine (impl_PtOk.calls a1_0 a1_1 true _ A10.out).mono ?_);rintro e w19 ⟨rfl,hb⟩;replace BK373:=vb_ BK373 hb;replace BK374:=vb_ BK374 hb;replace BK375:=vb_ BK375 hb;replace HB:=sb_ HB hb;(try clear hb);have hcz20_0:=c20_ BK375;have hcz20_1:=c21_ BK375;have hfz20_0:=fz_ BK375 0;have hfz20_1:=fz_ BK375 1) | (go_at_call 23;(with_reducible refine (impl_PtOk.calls a2_0 a2_1 t378 _ A12.out).mono ?_);rintro e w21 ⟨rfl,hb⟩;replace BK373:=vb_ BK373 hb;replace BK374:=vb_ BK374 hb;replace BK375:=vb_ BK375 hb;replace HB:=sb_ HB hb;(try clear hb)));go_meet
    case rel=>exact⟨_,(!t378),(by first | rfl | (simp;done) | (simp [*];done)),H',⟨by first | omega | exact Nat.le_refl _⟩,⟨uq_⟩,⟨uq_⟩,⟨uq_⟩,⟨hB_⟩⟩
   ·
    replace c11:=Bool.eq_false_iff.mpr c11;subst c11;rw [if_neg (show ¬ (false=true) by decide)] at H
    (try dsimp only at H)
    have H':=Aside0.mk H;clear H;have hnb22:=NB373_374.out;have hnc22:=NB374_373.out;have hnb23:=NB373_375.out;have hnc23:=NB375_373.out;have hcz24_0:=c20_ BK373;have hcz24_1:=c21_ BK373;have hfz24_0:=fz_ BK373 0;have hfz24_1:=fz_ BK373 1;go_wp2_with (first | ((with_reducible refine gate_callee (f:=23) rfl ?_);refine gL_ (some 9) Tryd.func23 #[.agg #[.int .i64 a0_0,.int .i64 a0_1]] (h:=?_);(with_reducible refine (impl_PtOk.calls a0_0 a0_1 true _ A8.out).mono ?_);rintro e w25 ⟨rfl,hb⟩;refine⟨_,rfl,?_⟩;replace BK373:=vb_ BK373 hb;replace BK374:=vb_ BK374 hb;replace BK375:=vb_ BK375 hb;replace HB:=sb_ HB hb;(try clear hb);have hnb26:=NB374_375.out;have hnc26:=NB375_374.out;have hcz27_0:=c20_ BK374;have hcz27_1:=c21_ BK374;have hfz27_0:=fz_ BK374 0;have hfz27_1:=fz_ BK374 1) | (go_at_call 23;(with_reducible refine (impl_PtOk.calls a1_0 a1_1 false _ A10.out).mono ?_);rintro e w28 ⟨rfl,hb⟩;replace BK373:=vb_ BK373 hb;replace BK374:=vb_ BK374 hb;replace BK375:=vb_ BK375 hb;replace HB:=sb_ HB hb;(try clear hb)));go_meet
    case rel=>exact⟨_,(true),(by first | rfl | (simp;done) | (simp [*];done)),H',⟨by first | omega | exact Nat.le_refl _⟩,⟨uq_⟩,⟨uq_⟩,⟨uq_⟩,⟨hB_⟩⟩
  ·
   replace c9:=Bool.eq_false_iff.mpr c9;subst c9;rw [if_neg (show ¬ (false=true) by decide)] at H
   (try dsimp only at H)
   have H':=Aside0.mk H;clear H;have hnb29:=NB373_374.out;have hnc29:=NB374_373.out;have hnb30:=NB373_375.out;have hnc30:=NB375_373.out;have hcz31_0:=c20_ BK373;have hcz31_1:=c21_ BK373;have hfz31_0:=fz_ BK373 0;have hfz31_1:=fz_ BK373 1;go_wp2_with (first | ((with_reducible refine gate_callee (f:=23) rfl ?_);refine gL_ (some 9) Tryd.func23 #[.agg #[.int .i64 a0_0,.int .i64 a0_1]] (h:=?_);(with_reducible refine (impl_PtOk.calls a0_0 a0_1 false _ A8.out).mono ?_);rintro e w32 ⟨rfl,hb⟩;refine⟨_,rfl,?_⟩;replace BK373:=vb_ BK373 hb;replace BK374:=vb_ BK374 hb;replace BK375:=vb_ BK375 hb;replace HB:=sb_ HB hb;(try clear hb)));go_meet
   case rel=>exact⟨_,(true),(by first | rfl | (simp;done) | (simp [*];done)),H',⟨by first | omega | exact Nat.le_refl _⟩,⟨uq_⟩,⟨uq_⟩,⟨uq_⟩,⟨hB_⟩⟩
 case rest =>
  clear HC4;obtain⟨kq,x20_3,rfl,HA,HJ3,BK373,BK374,BK375,HB⟩:=hcut
  cases kq with
  | zero=>exact absurd HA.out (by simp [impl_SegTurn.j0])
  | succ kj3 =>
   have H:=HA.out;clear HA;simp only [impl_SegTurn.j0] at H;by_cases c33:x20_3=true
   ·
    subst c33;rw [if_pos rfl] at H
    (try dsimp only at H)
    obtain rfl:=Option.some.inj H;go_wp2;go_ret;exact⟨rr_,hB_⟩
   ·
    replace c33:=Bool.eq_false_iff.mpr c33;subst c33;rw [if_neg (show ¬ (false=true) by decide)] at H
    (try dsimp only at H)
    replace H:=Option.bind_eq_some_iff.mp H;obtain⟨t379,A340,H⟩:=H
    (try dsimp only at H)
    have A34:=Aside0.mk A340;clear A340;by_cases c35:t379>0
    ·
     rw [if_pos c35] at H;have c35b0:decide (0<t379)=true:=decide_eq_true c35;clear c35;obtain rfl:=Option.some.inj H;have hnb36:=NB373_374.out;have hnc36:=NB374_373.out;have hnb37:=NB373_375.out;have hnc37:=NB375_373.out;have hcz38_0:=c20_ BK373;have hcz38_1:=c21_ BK373;have hfz38_0:=fz_ BK373 0;have hfz38_1:=fz_ BK373 1;have hnb39:=NB374_375.out;have hnc39:=NB375_374.out;have hcz40_0:=c20_ BK374;have hcz40_1:=c21_ BK374;have hfz40_0:=fz_ BK374 0;have hfz40_1:=fz_ BK374 1;have hcz41_0:=c20_ BK375;have hcz41_1:=c21_ BK375;have hfz41_0:=fz_ BK375 0;have hfz41_1:=fz_ BK375 1;go_wp2_with (first | ((with_reducible refine gate_callee (f:=81) rfl ?_);refine gL_ (some 24) Tryd.func81 #[.agg #[.int .i64 a0_0,.int .i64 a0_1],.agg #[.int .i64 a1_0,.int .i64 a1_1],.agg #[.int .i64 a2_0,.int .i64 a2_1]] (h:=?_);(with_reducible refine (impl_cross.calls a0_0 a0_1 a1_0 a1_1 a2_0 a2_1 t379 _ A34.out).mono ?_);rintro e w42 ⟨rfl,hb⟩;refine⟨_,rfl,?_⟩;replace BK373:=vb_ BK373 hb;replace BK374:=vb_ BK374 hb;replace BK375:=vb_ BK375 hb;replace HB:=sb_ HB hb;(try clear hb)));go_ret;exact⟨rr_,hB_⟩
    ·
     rw [if_neg c35] at H;have c35b0:decide (0<t379)=false:=decide_eq_false c35;clear c35;by_cases c43:t379<0
     ·
      rw [if_pos c43] at H;have c43b0:decide (t379<0)=true:=decide_eq_true c43;clear c43;obtain rfl:=Option.some.inj H;have hnb44:=NB373_374.out;have hnc44:=NB374_373.out;have hnb45:=NB373_375.out;have hnc45:=NB375_373.out;have hcz46_0:=c20_ BK373;have hcz46_1:=c21_ BK373;have hfz46_0:=fz_ BK373 0;have hfz46_1:=fz_ BK373 1;have hnb47:=NB374_375.out;have hnc47:=NB375_374.out;have hcz48_0:=c20_ BK374;have hcz48_1:=c21_ BK374;have hfz48_0:=fz_ BK374 0;have hfz48_1:=fz_ BK374 1;have hcz49_0:=c20_ BK375;have hcz49_1:=c21_ BK375;have hfz49_0:=fz_ BK375 0;have hfz49_1:=fz_ BK375 1;go_wp2_with (first | ((with_reducible refine gate_callee (f:=81) rfl ?_);refine gL_ (some 24) Tryd.func81 #[.agg #[.int .i64 a0_0,.int .i64 a0_1],.agg #[.int .i64 a1_0,.int .i64 a1_1],.agg #[.int .i64 a2_0,.int .i64 a2_1]] (h:=?_);(with_reducible refine (impl_cross.calls a0_0 a0_1 a1_0 a1_1 a2_0 a2_1 t379 _ A34.out).mono ?_);rintro e w50 ⟨rfl,hb⟩;refine⟨_,rfl,?_⟩;replace BK373:=vb_ BK373 hb;replace BK374:=vb_ BK374 hb;replace BK375:=vb_ BK375 hb;replace HB:=sb_ HB hb;(try clear hb)));go_ret;exact⟨rr_,hB_⟩
     ·
      rw [if_neg c43] at H;have c43b0:decide (t379<0)=false:=decide_eq_false c43;clear c43;obtain rfl:=Option.some.inj H;have hnb51:=NB373_374.out;have hnc51:=NB374_373.out;have hnb52:=NB373_375.out;have hnc52:=NB375_373.out;have hcz53_0:=c20_ BK373;have hcz53_1:=c21_ BK373;have hfz53_0:=fz_ BK373 0;have hfz53_1:=fz_ BK373 1;have hnb54:=NB374_375.out;have hnc54:=NB375_374.out;have hcz55_0:=c20_ BK374;have hcz55_1:=c21_ BK374;have hfz55_0:=fz_ BK374 0;have hfz55_1:=fz_ BK374 1;have hcz56_0:=c20_ BK375;have hcz56_1:=c21_ BK375;have hfz56_0:=fz_ BK375 0;have hfz56_1:=fz_ BK375 1;go_wp2_with (first | ((with_reducible refine gate_callee (f:=81) rfl ?_);refine gL_ (some 24) Tryd.func81 #[.agg #[.int .i64 a0_0,.int .i64 a0_1],.agg #[.int .i64 a1_0,.int .i64 a1_1],.agg #[.int .i64 a2_0,.int .i64 a2_1]] (h:=?_);(with_reducible refine (impl_cross.calls a0_0 a0_1 a1_0 a1_1 a2_0 a2_1 t379 _ A34.out).mono ?_);rintro e w57 ⟨rfl,hb⟩;refine⟨_,rfl,?_⟩;replace BK373:=vb_ BK373 hb;replace BK374:=vb_ BK374 hb;replace BK375:=vb_ BK375 hb;replace HB:=sb_ HB hb;(try clear hb)));go_ret;exact⟨rr_,hB_⟩
mutual
def impl_SegMeet.j0:Nat→Bool→Int→Int→Int→Int→Int→Int→Int→Int→Option (Bool)
 | 0,_,_,_,_,_,_,_,_,_=>none
 | k+1,x12,x381000,x381001,x381002,x381003,x382000,x382001,x382002,x382003=>if x12=true then (some false) else ((impl_SegHas.f k x381000 x381001 x381002 x381003 x382000 x382001).bind fun t384=>(if t384=true then (impl_SegMeet.j1 k true x381000 x381001 x381002 x381003 x382000 x382001 x382002 x382003) else ((impl_SegHas.f k x381000 x381001 x381002 x381003 x382002 x382003).bind fun t385=>(if t385=true then (impl_SegMeet.j1 k true x381000 x381001 x381002 x381003 x382000 x382001 x382002 x382003) else ((impl_SegHas.f k x382000 x382001 x382002 x382003 x381000 x381001).bind fun t386=>(if t386=true then (impl_SegMeet.j1 k true x381000 x381001 x381002 x381003 x382000 x382001 x382002 x382003) else ((impl_SegHas.f k x382000 x382001 x382002 x382003 x381002 x381003).bind fun t387=>(impl_SegMeet.j1 k t387 x381000 x381001 x381002 x381003 x382000 x382001 x382002 x382003))))))))
def impl_SegMeet.j1:Nat→Bool→Int→Int→Int→Int→Int→Int→Int→Int→Option (Bool)
 | 0,_,_,_,_,_,_,_,_,_=>none
 | k+1,x34,x381000,x381001,x381002,x381003,x382000,x382001,x382002,x382003=>if x34=true then (some true) else ((impl_SegTurn.f k x381000 x381001 x381002 x381003 x382000 x382001).bind fun t388=>((impl_SegTurn.f k x381000 x381001 x381002 x381003 x382002 x382003).bind fun t389=>(if (wrap64 (t388*t389))<0 then ((impl_SegTurn.f k x382000 x382001 x382002 x382003 x381000 x381001).bind fun t390=>((impl_SegTurn.f k x382000 x382001 x382002 x382003 x381002 x381003).bind fun t391=>(some (decide ((wrap64 (t390*t391))<0))))) else (some false))))
end
def impl_SegMeet.f (k:Nat)(a0_0:Int)(a0_1:Int)(a0_2:Int)(a0_3:Int)(a1_0:Int)(a1_1:Int)(a1_2:Int)(a1_3:Int):Option (Bool):=(impl_SegOk.f a0_0 a0_1 a0_2 a0_3).bind fun t382=>(if t382=true then ((impl_SegOk.f a1_0 a1_1 a1_2 a1_3).bind fun t383=>(impl_SegMeet.j0 k (!t383) a0_0 a0_1 a0_2 a0_3 a1_0 a1_1 a1_2 a1_3)) else (impl_SegMeet.j0 k true a0_0 a0_1 a0_2 a0_3 a1_0 a1_1 a1_2 a1_3))
def impl_SegMeet.T5:Bool × List (List Nat × List Nat):=(true,[([],[]),([0],[0]),([],[]),([2],[2]),([],[]),([4],[4]),([1,3,5],[1,3,5]),([],[]),([7],[7]),([],[]),([9],[9]),([],[]),([11],[11]),([8,10,12,6],[8,10,12]),([6,13],[6,13]),([14],[14]),([15,13],[15]),([16],[16]),([17,16],[16,17]),([16],[16]),([19,16],[16,19]),([16],[16]),([21,16],[16,21]),([18,20,22,16,16],[16,18,20,22]),([16],[16]),([24,16],[16,24]),([16],[16]),([26,16],[16,26]),([16],[16]),([28,16],[16,28]),([25,27,29,23,16],[16,25,27,29]),([23,30,16],[16,23,30]),([31,16],[16,31]),([16,32],[16,32]),([33,30,0,1,2,3,4,5,6,7,8,9,10,11,12,13,14,15,16,17,18,19,20,21,22,23,24,25,26,27,28,29,30,31,32,33],[33])])
def impl_SegMeet.B5:List Nat:=[0,1,0,4,0,16,63,0,128,0,512,0,2048,8191,16383,32767,65535,131071,262143,131071,655359,131071,2228223,8388607,131071,16908287,131071,67239935,131071,268566527,1073741823,2147483647,4294967295,8589934591,17179869183]
theorem impl_SegMeet.tab5:rtab .any (opsOf Tryd.f112 5)=impl_SegMeet.T5:=by kernel_rfl
theorem impl_SegMeet.bits5:waitsOk impl_SegMeet.T5.2 impl_SegMeet.B5=true:=by kernel_rfl
set_option maxHeartbeats 8000000 in
set_option maxRecDepth 100000 in
theorem impl_SegMeet.calls (k:Nat)(a0_0:Int)(a0_1:Int)(a0_2:Int)(a0_3:Int)(a1_0:Int)(a1_1:Int)(a1_2:Int)(a1_3:Int)(r:Bool)(w:World)(h:impl_SegMeet.f k a0_0 a0_1 a0_2 a0_3 a1_0 a1_1 a1_2 a1_3=some r):
  Calls Tryd.prog 112 #[.agg #[.int .i64 a0_0,.int .i64 a0_1,.int .i64 a0_2,.int .i64 a0_3],.agg #[.int .i64 a1_0,.int .i64 a1_1,.int .i64 a1_2,.int .i64 a1_3]] w fun e w'=>e=.returned (.bool r)∧Below w.heap.size w w':=by
 have hu61:=Tryd.underlying61;have hu28:=Tryd.underlying28;have HB:=a0_ (Below.refl w.heap.size w);have H:((impl_SegOk.f a0_0 a0_1 a0_2 a0_3).bind fun t382=>(if t382=true then ((impl_SegOk.f a1_0 a1_1 a1_2 a1_3).bind fun t383=>(impl_SegMeet.j0 k (!t383) a0_0 a0_1 a0_2 a0_3 a1_0 a1_1 a1_2 a1_3)) else (impl_SegMeet.j0 k true a0_0 a0_1 a0_2 a0_3 a1_0 a1_1 a1_2 a1_3)))=some r:=h;clear h;have HC3:=Aside0.mk H;clear H;go_enter Tryd.func112,Tryd.ntmps112;go_upto_region 1 with (first | ((with_reducible refine gate_dst (N:=2) rfl ?_);refine bx_ (N:=2) (cs:=#[.int .i64 a0_0,.int .i64 a0_1,.int .i64 a0_2,.int .i64 a0_3]) (t:=61) (h:=?_);intro gb380 hg w4 hbox hb;have BK380:=a0_ (hbox);have GW380:=gh_ HB hg;have GE380:=gh_ HB hg;replace HB:=sb_ HB hb;clear hb hbox hg) | ((with_reducible refine gate_dst (N:=3) rfl ?_);refine bx_ (N:=3) (cs:=#[.int .i64 a1_0,.int .i64 a1_1,.int .i64 a1_2,.int .i64 a1_3]) (t:=61) (h:=?_);intro gb381 hg w5 hbox hb;have BK381:=a0_ (hbox);have GW381:=gh_ HB hg;have GE381:=gh_ HB hg;have NB380_381:=nl_ BK380 hg;have NB381_380:=nr_ BK380 hg;replace BK380:=vb_ BK380 hb;replace HB:=sb_ HB hb;clear hb hbox hg))
 (try simp only [Act.put,List.setIfInBounds_toArray,List.set_cons_zero,List.set_cons_succ])
 go_cut [12] (fun v12 wc=>∃ (kq:Nat) (x12_2:Bool),v12=.bool x12_2∧Aside0 (impl_SegMeet.j0 kq x12_2 a0_0 a0_1 a0_2 a0_3 a1_0 a1_1 a1_2 a1_3=some r)∧Aside0 (kq≤k)∧Aside0 (wc.heap[gb380]?=some (.cells #[.int .i64 a0_0,.int .i64 a0_1,.int .i64 a0_2,.int .i64 a0_3] 61 (0,0)))∧Aside0 (wc.heap[gb381]?=some (.cells #[.int .i64 a1_0,.int .i64 a1_1,.int .i64 a1_2,.int .i64 a1_3] 61 (0,0)))∧Aside0 (Below w.heap.size w wc))
 case first =>
  have H:=HC3.out;clear HC3;replace H:=Option.bind_eq_some_iff.mp H;obtain⟨t382,A60,H⟩:=H
  (try dsimp only at H)
  have A6:=Aside0.mk A60;clear A60;by_cases c7:t382=true
  ·
   subst c7;rw [if_pos rfl] at H
   (try dsimp only at H)
   replace H:=Option.bind_eq_some_iff.mp H;obtain⟨t383,A80,H⟩:=H
   (try dsimp only at H)
   have A8:=Aside0.mk A80;clear A80;have H':=Aside0.mk H;clear H;have hnb9:=NB380_381.out;have hnc9:=NB381_380.out;have hcz10_0:=c40_ BK380;have hcz10_1:=c41_ BK380;have hcz10_2:=c42_ BK380;have hcz10_3:=c43_ BK380;have hfz10_0:=fz_ BK380 0;have hfz10_1:=fz_ BK380 1;have hfz10_2:=fz_ BK380 2;have hfz10_3:=fz_ BK380 3;go_wp2_with (first | ((with_reducible refine gate_callee (f:=77) rfl ?_);refine gL_ (some 6) Tryd.func77 #[.agg #[.int .i64 a0_0,.int .i64 a0_1,.int .i64 a0_2,.int .i64 a0_3]] (h:=?_);(with_reducible refine (impl_SegOk.calls a0_0 a0_1 a0_2 a0_3 true _ A6.out).mono ?_);rintro e w11 ⟨rfl,hb⟩;refine⟨_,rfl,?_⟩;replace BK380:=vb_ BK380 hb;replace BK381:=vb_ BK381 hb;replace HB:=sb_ HB hb;(try clear hb);have hcz12_0:=c40_ BK381;have hcz12_1:=c41_ BK381;have hcz12_2:=c42_ BK381;have hcz12_3:=c43_ BK381;have hfz12_0:=fz_ BK381 0;have hfz12_1:=fz_ BK381 1;have hfz12_2:=fz_ BK381 2;have hfz12_3:=fz_ BK381 3) | (go_at_call 77;(with_reducible refine (impl_SegOk.calls a1_0 a1_1 a1_2 a1_3 t383 _ A8.out).mono ?_);rintro e w13 ⟨rfl,hb⟩;replace BK380:=vb_ BK380 hb;replace BK381:=vb_ BK381 hb;replace HB:=sb_ HB hb;(try clear hb)));go_meet
   case rel=>exact⟨_,(!t383),(by first | rfl | (simp;done) | (simp [*];done)),H',⟨by first | omega | exact Nat.le_refl _⟩,⟨uq_⟩,⟨uq_⟩,⟨hB_⟩⟩
  ·
   replace c7:=Bool.eq_false_iff.mpr c7;subst c7;rw [if_neg (show ¬ (false=true) by decide)] at H
   (try dsimp only at H)
   have H':=Aside0.mk H;clear H;have hnb14:=NB380_381.out;have hnc14:=NB381_380.out;have hcz15_0:=c40_ BK380;have hcz15_1:=c41_ BK380;have hcz15_2:=c42_ BK380;have hcz15_3:=c43_ BK380;have hfz15_0:=fz_ BK380 0;have hfz15_1:=fz_ BK380 1;have hfz15_2:=fz_ BK380 2;have hfz15_3:=fz_ BK380 3;go_wp2_with (first | ((with_reducible refine gate_callee (f:=77) rfl ?_);refine gL_ (some 6) Tryd.func77 #[.agg #[.int .i64 a0_0,.int .i64 a0_1,.int .i64 a0_2,.int .i64 a0_3]] (h:=?_);(with_reducible refine (impl_SegOk.calls a0_0 a0_1 a0_2 a0_3 false _ A6.out).mono ?_);rintro e w16 ⟨rfl,hb⟩;refine⟨_,rfl,?_⟩;replace BK380:=vb_ BK380 hb;replace BK381:=vb_ BK381 hb;replace HB:=sb_ HB hb;(try clear hb)));go_meet
   case rel=>exact⟨_,(true),(by first | rfl | (simp;done) | (simp [*];done)),H',⟨by first | omega | exact Nat.le_refl _⟩,⟨uq_⟩,⟨uq_⟩,⟨hB_⟩⟩
 case rest =>
  clear HC3;obtain⟨kq,x12_2,rfl,HA,HJ2,BK380,BK381,HB⟩:=hcut
  cases kq with
  | zero=>exact absurd HA.out (by simp [impl_SegMeet.j0])
  | succ kj2 =>
   have H:=HA.out;clear HA;simp only [impl_SegMeet.j0] at H;by_cases c17:x12_2=true
   ·
    subst c17;rw [if_pos rfl] at H
    (try dsimp only at H)
    obtain rfl:=Option.some.inj H;go_wp2;go_ret;exact⟨rr_,hB_⟩
   ·
    replace c17:=Bool.eq_false_iff.mpr c17;subst c17;rw [if_neg (show ¬ (false=true) by decide)] at H
    (try dsimp only at H)
    have HC18:=Aside0.mk H;clear H;go_upto_region 3 with (fail)
    go_cut [34] (fun v34 wc=>∃ (kq:Nat) (x34_17:Bool),v34=.bool x34_17∧Aside0 (impl_SegMeet.j1 kq x34_17 a0_0 a0_1 a0_2 a0_3 a1_0 a1_1 a1_2 a1_3=some r)∧Aside0 (kq≤kj2)∧Aside0 (wc.heap[gb380]?=some (.cells #[.int .i64 a0_0,.int .i64 a0_1,.int .i64 a0_2,.int .i64 a0_3] 61 (0,0)))∧Aside0 (wc.heap[gb381]?=some (.cells #[.int .i64 a1_0,.int .i64 a1_1,.int .i64 a1_2,.int .i64 a1_3] 61 (0,0)))∧Aside0 (Below w.heap.size w wc))
    case first =>
     have H:=HC18.out;clear HC18;replace H:=Option.bind_eq_some_iff.mp H;obtain⟨t384,A190,H⟩:=H
     (try dsimp only at H)
     have A19:=Aside0.mk A190;clear A190;by_cases c20:t384=true
     ·
      subst c20;rw [if_pos rfl] at H
      (try dsimp only at H)
      have H':=Aside0.mk H;clear H;have hnb21:=NB380_381.out;have hnc21:=NB381_380.out;have hcz22_0:=c40_ BK380;have hcz22_1:=c41_ BK380;have hcz22_2:=c42_ BK380;have hcz22_3:=c43_ BK380;have hfz22_0:=fz_ BK380 0;have hfz22_1:=fz_ BK380 1;have hfz22_2:=fz_ BK380 2;have hfz22_3:=fz_ BK380 3;have hcz23_0:=c40_ BK381;have hcz23_1:=c41_ BK381;have hcz23_2:=c42_ BK381;have hcz23_3:=c43_ BK381;have hfz23_0:=fz_ BK381 0;have hfz23_1:=fz_ BK381 1;have hfz23_2:=fz_ BK381 2;have hfz23_3:=fz_ BK381 3;go_wp2_with (first | ((with_reducible refine gate_callee (f:=115) rfl ?_);refine gL_ (some 16) Tryd.func115 #[.agg #[.int .i64 a0_0,.int .i64 a0_1,.int .i64 a0_2,.int .i64 a0_3],.agg #[.int .i64 a1_0,.int .i64 a1_1]] (h:=?_);(with_reducible refine (impl_SegHas.calls kj2 a0_0 a0_1 a0_2 a0_3 a1_0 a1_1 true _ A19.out).mono ?_);rintro e w24 ⟨rfl,hb⟩;refine⟨_,rfl,?_⟩;replace BK380:=vb_ BK380 hb;replace BK381:=vb_ BK381 hb;replace HB:=sb_ HB hb;(try clear hb)));go_meet
      case rel=>exact⟨_,(true),(by first | rfl | (simp;done) | (simp [*];done)),H',⟨by have:=HJ2.out;first | omega | exact Nat.le_refl _⟩,⟨uq_⟩,⟨uq_⟩,⟨hB_⟩⟩
     ·
      replace c20:=Bool.eq_false_iff.mpr c20;subst c20;rw [if_neg (show ¬ (false=true) by decide)] at H
      (try dsimp only at H)
      replace H:=Option.bind_eq_some_iff.mp H;obtain⟨t385,A250,H⟩:=H
      (try dsimp only at H)
      have A25:=Aside0.mk A250;clear A250;by_cases c26:t385=true
      ·
       subst c26;rw [if_pos rfl] at H
       (try dsimp only at H)
       have H':=Aside0.mk H;clear H;have hnb27:=NB380_381.out;have hnc27:=NB381_380.out;have hcz28_0:=c40_ BK380;have hcz28_1:=c41_ BK380;have hcz28_2:=c42_ BK380;have hcz28_3:=c43_ BK380;have hfz28_0:=fz_ BK380 0;have hfz28_1:=fz_ BK380 1;have hfz28_2:=fz_ BK380 2;have hfz28_3:=fz_ BK380 3;have hcz29_0:=c40_ BK381;have hcz29_1:=c41_ BK381;have hcz29_2:=c42_ BK381;have hcz29_3:=c43_ BK381;have hfz29_0:=fz_ BK381 0;have hfz29_1:=fz_ BK381 1;have hfz29_2:=fz_ BK381 2;have hfz29_3:=fz_ BK381 3;go_wp2_with (first | ((with_reducible refine gate_callee (f:=115) rfl ?_);refine gL_ (some 16) Tryd.func115 #[.agg #[.int .i64 a0_0,.int .i64 a0_1,.int .i64 a0_2,.int .i64 a0_3],.agg #[.int .i64 a1_0,.int .i64 a1_1]] (h:=?_);(with_reducible refine (impl_SegHas.calls kj2 a0_0 a0_1 a0_2 a0_3 a1_0 a1_1 false _ A19.out).mono ?_);rintro e w30 ⟨rfl,hb⟩;refine⟨_,rfl,?_⟩;replace BK380:=vb_ BK380 hb;replace BK381:=vb_ BK381 hb;replace HB:=sb_ HB hb;(try clear hb);have hcz31_0:=c40_ BK380;have hcz31_1:=c41_ BK380;have hcz31_2:=c42_ BK380;have hcz31_3:=c43_ BK380;have hfz31_0:=fz_ BK380 0;have hfz31_1:=fz_ BK380 1;have hfz31_2:=fz_ BK380 2;have hfz31_3:=fz_ BK380 3;have hcz32_0:=c40_ BK381;have hcz32_1:=c41_ BK381;have hcz32_2:=c42_ BK381;have hcz32_3:=c43_ BK381;have hfz32_0:=fz_ BK381 0;have hfz32_1:=fz_ BK381 1;have hfz32_2:=fz_ BK381 2;have hfz32_3:=fz_ BK381 3) | (go_at_call 115;(with_reducible refine (impl_SegHas.calls kj2 a0_0 a0_1 a0_2 a0_3 a1_2 a1_3 true _ A25.out).mono ?_);rintro e w33 ⟨rfl,hb⟩;replace BK380:=vb_ BK380 hb;replace BK381:=vb_ BK381 hb;replace HB:=sb_ HB hb;(try clear hb)));go_meet
       case rel=>exact⟨_,(true),(by first | rfl | (simp;done) | (simp [*];done)),H',⟨by have:=HJ2.out;first | omega | exact Nat.le_refl _⟩,⟨uq_⟩,⟨uq_⟩,⟨hB_⟩⟩
      ·
       replace c26:=Bool.eq_false_iff.mpr c26;subst c26;rw [if_neg (show ¬ (false=true) by decide)] at H
       (try dsimp only at H)
       replace H:=Option.bind_eq_some_iff.mp H;obtain⟨t386,A340,H⟩:=H
       (try dsimp only at H)
       have A34:=Aside0.mk A340;clear A340;by_cases c35:t386=true
       ·
        subst c35;rw [if_pos rfl] at H
        (try dsimp only at H)
        have H':=Aside0.mk H;clear H;have hnb36:=NB380_381.out;have hnc36:=NB381_380.out;have hcz37_0:=c40_ BK380;have hcz37_1:=c41_ BK380;have hcz37_2:=c42_ BK380;have hcz37_3:=c43_ BK380;have hfz37_0:=fz_ BK380 0;have hfz37_1:=fz_ BK380 1;have hfz37_2:=fz_ BK380 2;have hfz37_3:=fz_ BK380 3;have hcz38_0:=c40_ BK381;have hcz38_1:=c41_ BK381;have hcz38_2:=c42_ BK381;have hcz38_3:=c43_ BK381;have hfz38_0:=fz_ BK381 0;have hfz38_1:=fz_ BK381 1;have hfz38_2:=fz_ BK381 2;have hfz38_3:=fz_ BK381 3
        go_wp2_with (first | ((with_reducible refine gate_callee (f:=115) rfl ?_);refine gL_ (some 16) Tryd.func115 #[.agg #[.int .i64 a0_0,.int .i64 a0_1,.int .i64 a0_2,.int .i64 a0_3],.agg #[.int .i64 a1_0,.int .i64 a1_1]] (h:=?_);(with_reducible refine (impl_SegHas.calls kj2 a0_0 a0_1 a0_2 a0_3 a1_0 a1_1 false _ A19.out).mono ?_);rintro e w39 ⟨rfl,hb⟩;refine⟨_,rfl,?_⟩;replace BK380:=vb_ BK380 hb;replace BK381:=vb_ BK381 hb;replace HB:=sb_ HB hb;(try clear hb);have hcz40_0:=c40_ BK380;have hcz40_1:=c41_ BK380;have hcz40_2:=c42_ BK380;have hcz40_3:=c43_ BK380;have hfz40_0:=fz_ BK380 0;have hfz40_1:=fz_ BK380 1;have hfz40_2:=fz_ BK380 2;have hfz40_3:=fz_ BK380 3;have hcz41_0:=c40_ BK381;have hcz41_1:=c41_ BK381;have hcz41_2:=c42_ BK381;have hcz41_3:=c43_ BK381;have hfz41_0:=fz_ BK381 0;have hfz41_1:=fz_ BK381 1;have hfz41_2:=fz_ BK381 2;have hfz41_3:=fz_ BK381 3) | (go_at_call 115;(with_reducible refine (impl_SegHas.calls kj2 a0_0 a0_1 a0_2 a0_3 a1_2 a1_3 false _ A25.out).mono ?_);rintro e w42 ⟨rfl,hb⟩;replace BK380:=vb_ BK380 hb;replace BK381:=vb_ BK381 hb;replace HB:=sb_ HB hb;(try clear hb);have hcz43_0:=c40_ BK381;have hcz43_1:=c41_ BK381;have hcz43_2:=c42_ BK381;have hcz43_3:=c43_ BK381;have hfz43_0:=fz_ BK381 0;have hfz43_1:=fz_ BK381 1;have hfz43_2:=fz_ BK381 2;have hfz43_3:=fz_ BK381 3;have hcz44_0:=c40_ BK380;have hcz44_1:=c41_ BK380;have hcz44_2:=c42_ BK380;have hcz44_3:=c43_ BK380;have hfz44_0:=fz_ BK380 0;have hfz44_1:=fz_ BK380 1;have hfz44_2:=fz_ BK380 2;have hfz44_3:=fz_ BK380 3) | (go_at_call 115;(with_reducible refine (impl_SegHas.calls kj2 a1_0 a1_1 a1_2 a1_3 a0_0 a0_1 true _ A34.out).mono ?_);rintro e w45 ⟨rfl,hb⟩;replace BK380:=vb_ BK380 hb;replace BK381:=vb_ BK381 hb;replace HB:=sb_ HB hb;(try clear hb)));go_meet
        case rel=>exact⟨_,(true),(by first | rfl | (simp;done) | (simp [*];done)),H',⟨by have:=HJ2.out;first | omega | exact Nat.le_refl _⟩,⟨uq_⟩,⟨uq_⟩,⟨hB_⟩⟩
       ·
        replace c35:=Bool.eq_false_iff.mpr c35;subst c35;rw [if_neg (show ¬ (false=true) by decide)] at H
        (try dsimp only at H)
        replace H:=Option.bind_eq_some_iff.mp H;obtain⟨t387,A460,H⟩:=H
        (try dsimp only at H)
        have A46:=Aside0.mk A460;clear A460;have H':=Aside0.mk H;clear H;have hnb47:=NB380_381.out;have hnc47:=NB381_380.out;have hcz48_0:=c40_ BK380;have hcz48_1:=c41_ BK380;have hcz48_2:=c42_ BK380;have hcz48_3:=c43_ BK380;have hfz48_0:=fz_ BK380 0;have hfz48_1:=fz_ BK380 1;have hfz48_2:=fz_ BK380 2;have hfz48_3:=fz_ BK380 3;have hcz49_0:=c40_ BK381;have hcz49_1:=c41_ BK381;have hcz49_2:=c42_ BK381;have hcz49_3:=c43_ BK381;have hfz49_0:=fz_ BK381 0;have hfz49_1:=fz_ BK381 1;have hfz49_2:=fz_ BK381 2;have hfz49_3:=fz_ BK381 3
        go_wp2_with (first | ((with_reducible refine gate_callee (f:=115) rfl ?_);refine gL_ (some 16) Tryd.func115 #[.agg #[.int .i64 a0_0,.int .i64 a0_1,.int .i64 a0_2,.int .i64 a0_3],.agg #[.int .i64 a1_0,.int .i64 a1_1]] (h:=?_);(with_reducible refine (impl_SegHas.calls kj2 a0_0 a0_1 a0_2 a0_3 a1_0 a1_1 false _ A19.out).mono ?_);rintro e w50 ⟨rfl,hb⟩;refine⟨_,rfl,?_⟩;replace BK380:=vb_ BK380 hb;replace BK381:=vb_ BK381 hb;replace HB:=sb_ HB hb;(try clear hb);have hcz51_0:=c40_ BK380;have hcz51_1:=c41_ BK380;have hcz51_2:=c42_ BK380;have hcz51_3:=c43_ BK380;have hfz51_0:=fz_ BK380 0;have hfz51_1:=fz_ BK380 1;have hfz51_2:=fz_ BK380 2;have hfz51_3:=fz_ BK380 3;have hcz52_0:=c40_ BK381;have hcz52_1:=c41_ BK381;have hcz52_2:=c42_ BK381;have hcz52_3:=c43_ BK381;have hfz52_0:=fz_ BK381 0;have hfz52_1:=fz_ BK381 1;have hfz52_2:=fz_ BK381 2;have hfz52_3:=fz_ BK381 3) | (go_at_call 115;(with_reducible refine (impl_SegHas.calls kj2 a0_0 a0_1 a0_2 a0_3 a1_2 a1_3 false _ A25.out).mono ?_);rintro e w53 ⟨rfl,hb⟩;replace BK380:=vb_ BK380 hb;replace BK381:=vb_ BK381 hb;replace HB:=sb_ HB hb;(try clear hb);have hcz54_0:=c40_ BK381;have hcz54_1:=c41_ BK381;have hcz54_2:=c42_ BK381;have hcz54_3:=c43_ BK381;have hfz54_0:=fz_ BK381 0;have hfz54_1:=fz_ BK381 1;have hfz54_2:=fz_ BK381 2;have hfz54_3:=fz_ BK381 3;have hcz55_0:=c40_ BK380;have hcz55_1:=c41_ BK380;have hcz55_2:=c42_ BK380;have hcz55_3:=c43_ BK380;have hfz55_0:=fz_ BK380 0;have hfz55_1:=fz_ BK380 1;have hfz55_2:=fz_ BK380 2;have hfz55_3:=fz_ BK380 3) | (go_at_call 115;(with_reducible refine (impl_SegHas.calls kj2 a1_0 a1_1 a1_2 a1_3 a0_0 a0_1 false _ A34.out).mono ?_);rintro e w56 ⟨rfl,hb⟩;replace BK380:=vb_ BK380 hb;replace BK381:=vb_ BK381 hb;replace HB:=sb_ HB hb;(try clear hb);have hcz57_0:=c40_ BK381;have hcz57_1:=c41_ BK381;have hcz57_2:=c42_ BK381;have hcz57_3:=c43_ BK381;have hfz57_0:=fz_ BK381 0;have hfz57_1:=fz_ BK381 1;have hfz57_2:=fz_ BK381 2;have hfz57_3:=fz_ BK381 3;have hcz58_0:=c40_ BK380;have hcz58_1:=c41_ BK380;have hcz58_2:=c42_ BK380;have hcz58_3:=c43_ BK380;have hfz58_0:=fz_ BK380 0;have hfz58_1:=fz_ BK380 1;have hfz58_2:=fz_ BK380 2;have hfz58_3:=fz_ BK380 3) | (go_at_call 115;(with_reducible refine (impl_SegHas.calls kj2 a1_0 a1_1 a1_2 a1_3 a0_2 a0_3 t387 _ A46.out).mono ?_);rintro e w59 ⟨rfl,hb⟩;replace BK380:=vb_ BK380 hb;replace BK381:=vb_ BK381 hb;replace HB:=sb_ HB hb;(try clear hb)))
        go_meet
        case rel=>exact⟨_,(t387),(by first | rfl | (simp;done) | (simp [*];done)),H',⟨by have:=HJ2.out;first | omega | exact Nat.le_refl _⟩,⟨uq_⟩,⟨uq_⟩,⟨hB_⟩⟩
    case rest =>
     clear HC18;obtain⟨kq,x34_17,rfl,HA,HJ17,BK380,BK381,HB⟩:=hcut
     cases kq with
     | zero=>exact absurd HA.out (by simp [impl_SegMeet.j1])
     | succ kj17 =>
      have H:=HA.out;clear HA;simp only [impl_SegMeet.j1] at H;by_cases c60:x34_17=true
      ·
       subst c60;rw [if_pos rfl] at H
       (try dsimp only at H)
       obtain rfl:=Option.some.inj H;go_wp2;go_ret;exact⟨rr_,hB_⟩
      ·
       replace c60:=Bool.eq_false_iff.mpr c60;subst c60;rw [if_neg (show ¬ (false=true) by decide)] at H
       (try dsimp only at H)
       replace H:=Option.bind_eq_some_iff.mp H;obtain⟨t388,A610,H⟩:=H
       (try dsimp only at H)
       have A61:=Aside0.mk A610;clear A610;replace H:=Option.bind_eq_some_iff.mp H;obtain⟨t389,A620,H⟩:=H
       (try dsimp only at H)
       have A62:=Aside0.mk A620;clear A620;by_cases c63:(wrap64 (t388*t389))<0
       ·
        rw [if_pos c63] at H;have c63b0:decide ((wrap64 (t388*t389))<0)=true:=decide_eq_true c63;clear c63;replace H:=Option.bind_eq_some_iff.mp H;obtain⟨t390,A640,H⟩:=H
        (try dsimp only at H)
        have A64:=Aside0.mk A640;clear A640;replace H:=Option.bind_eq_some_iff.mp H;obtain⟨t391,A650,H⟩:=H
        (try dsimp only at H)
        have A65:=Aside0.mk A650;clear A650;obtain rfl:=Option.some.inj H
        try go_wp2
        replace BK380:=a0_ (blk_drew BK380.out);replace BK381:=a0_ (blk_drew BK381.out);replace HB:=a0_ (below_drew1 HB.out);refine start_ (n:=35) (S:=fun w'=>w'.cell? ⟨gb380,0,none⟩=some (.int .i64 a0_0)∧w'.cell? ⟨gb380,1,none⟩=some (.int .i64 a0_1)∧w'.cell? ⟨gb380,2,none⟩=some (.int .i64 a0_2)∧w'.cell? ⟨gb380,3,none⟩=some (.int .i64 a0_3)∧w'.cell? ⟨gb381,0,none⟩=some (.int .i64 a1_0)∧w'.cell? ⟨gb381,1,none⟩=some (.int .i64 a1_1)∧w'.cell? ⟨gb381,2,none⟩=some (.int .i64 a1_2)∧w'.cell? ⟨gb381,3,none⟩=some (.int .i64 a1_3)) (ds:=[]) (Array.replicate 35 false) (by kernel_rfl) rfl rfl ⟨bc_,bc_,bc_,bc_,bc_,bc_,bc_,bc_⟩ (fun hHeld=>?_);refine with_tabW impl_SegMeet.tab5 impl_SegMeet.bits5 (fun HT_ HW_=>?_);generalize wc.drew=w66 at BK380 BK381 HB hHeld ⊢
        refine pu_ HT_ 0 35 (bm 35 1) ?_;refine pu_ HT_ 2 37 (bm 35 5) ?_;refine pu_ HT_ 4 39 (bm 35 21) ?_;refine pu_ HT_ 7 42 (bm 35 149) ?_;refine pu_ HT_ 9 44 (bm 35 661) ?_;refine pu_ HT_ 11 46 (bm 35 2709) ?_;refine ta8_ HT_ HW_ 1 36 (bm 35 2711) hHeld ?_;refine ta8_ HT_ HW_ 3 38 (bm 35 2719) hHeld ?_;refine ta8_ HT_ HW_ 5 40 (bm 35 2751) hHeld ?_;refine ta8_ HT_ HW_ 8 43 (bm 35 3007) hHeld ?_;refine ta8_ HT_ HW_ 10 45 (bm 35 4031) hHeld ?_;refine ta8_ HT_ HW_ 12 47 (bm 35 8127) hHeld ?_;refine one_ (i:=6) (N:=some 41) (bm 35 8191) rfl rfl (one_of HT_.out (by kernel_rfl)) (by decide) (fun K hK=>?_);refine goes_ Tryd.func116 (by kernel_rfl) rfl #[.agg #[.int .i64 a0_0,.int .i64 a0_1],.agg #[.int .i64 a0_2,.int .i64 a0_3],.agg #[.int .i64 a1_0,.int .i64 a1_1]] (by rfl) rfl rfl ma_ ?_
        with_reducible refine (impl_SegTurn.calls kj17 a0_0 a0_1 a0_2 a0_3 a1_0 a1_1 t388 _ A61.out).mono ?_
        rintro e w67 ⟨rfl,hb⟩;refine⟨_,rfl,?_⟩;replace BK380:=vb_ BK380 hb;replace BK381:=vb_ BK381 hb;replace HB:=sb_ HB hb
        (try clear hb)
        (try clear hb2)
        (try clear hk)
        (try clear hi)
        refine hK.out _ _ ⟨bc_,bc_,bc_,bc_,bc_,bc_,bc_,bc_⟩ (fun hHeld=>?_);clear hK K;refine no_ (h:=?_);refine one_ (i:=13) (N:=some 48) (bm 35 16383) rfl rfl (one_of HT_.out (by kernel_rfl)) (by decide) (fun K hK=>?_);refine goes_ Tryd.func116 (by kernel_rfl) rfl #[.agg #[.int .i64 a0_0,.int .i64 a0_1],.agg #[.int .i64 a0_2,.int .i64 a0_3],.agg #[.int .i64 a1_2,.int .i64 a1_3]] (by rfl) rfl rfl ma_ ?_
        with_reducible refine (impl_SegTurn.calls kj17 a0_0 a0_1 a0_2 a0_3 a1_2 a1_3 t389 _ A62.out).mono ?_
        rintro e w68 ⟨rfl,hb⟩;refine⟨_,rfl,?_⟩;replace BK380:=vb_ BK380 hb;replace BK381:=vb_ BK381 hb;replace HB:=sb_ HB hb
        (try clear hb)
        (try clear hb2)
        (try clear hk)
        (try clear hi)
        refine hK.out _ _ ⟨bc_,bc_,bc_,bc_,bc_,bc_,bc_,bc_⟩ (fun hHeld=>?_);clear hK K;refine no_ (h:=?_);refine pu_ HT_ 14 49 (bm 35 32767) ?_;refine pu_ HT_ 15 50 (bm 35 65535) ?_;refine pu_ HT_ 16 51 (bm 35 131071) ?_;refine pu_ HT_ 17 52 (bm 35 262143) ?_;refine pu_ HT_ 19 54 (bm 35 786431) ?_;refine pu_ HT_ 21 56 (bm 35 2883583) ?_;refine pu_ HT_ 24 59 (bm 35 19660799) ?_;refine pu_ HT_ 26 61 (bm 35 86769663) ?_;refine pu_ HT_ 28 63 (bm 35 355205119) ?_;refine ta8_ HT_ HW_ 18 53 (bm 35 355467263) hHeld ?_;refine ta8_ HT_ HW_ 20 55 (bm 35 356515839) hHeld ?_;refine ta8_ HT_ HW_ 22 57 (bm 35 360710143) hHeld ?_;refine ta8_ HT_ HW_ 25 60 (bm 35 394264575) hHeld ?_;refine ta8_ HT_ HW_ 27 62 (bm 35 528482303) hHeld ?_;refine ta8_ HT_ HW_ 29 64 (bm 35 1065353215) hHeld ?_;refine one_ (i:=23) (N:=some 58) (bm 35 1073741823) rfl rfl (one_of HT_.out (by kernel_rfl)) (by decide) (fun K hK=>?_);refine goes_ Tryd.func116 (by kernel_rfl) rfl #[.agg #[.int .i64 a1_0,.int .i64 a1_1],.agg #[.int .i64 a1_2,.int .i64 a1_3],.agg #[.int .i64 a0_0,.int .i64 a0_1]] (by rfl) rfl rfl ma_ ?_
        with_reducible refine (impl_SegTurn.calls kj17 a1_0 a1_1 a1_2 a1_3 a0_0 a0_1 t390 _ A64.out).mono ?_
        rintro e w69 ⟨rfl,hb⟩;refine⟨_,rfl,?_⟩;replace BK380:=vb_ BK380 hb;replace BK381:=vb_ BK381 hb;replace HB:=sb_ HB hb
        (try clear hb)
        (try clear hb2)
        (try clear hk)
        (try clear hi)
        refine hK.out _ _ ⟨bc_,bc_,bc_,bc_,bc_,bc_,bc_,bc_⟩ (fun hHeld=>?_);clear hK K;refine no_ (h:=?_);refine one_ (i:=30) (N:=some 65) (bm 35 2147483647) rfl rfl (one_of HT_.out (by kernel_rfl)) (by decide) (fun K hK=>?_);refine goes_ Tryd.func116 (by kernel_rfl) rfl #[.agg #[.int .i64 a1_0,.int .i64 a1_1],.agg #[.int .i64 a1_2,.int .i64 a1_3],.agg #[.int .i64 a0_2,.int .i64 a0_3]] (by rfl) rfl rfl ma_ ?_
        with_reducible refine (impl_SegTurn.calls kj17 a1_0 a1_1 a1_2 a1_3 a0_2 a0_3 t391 _ A65.out).mono ?_
        rintro e w70 ⟨rfl,hb⟩;refine⟨_,rfl,?_⟩;replace BK380:=vb_ BK380 hb;replace BK381:=vb_ BK381 hb;replace HB:=sb_ HB hb
        (try clear hb)
        (try clear hb2)
        (try clear hk)
        (try clear hi)
        refine hK.out _ _ ⟨bc_,bc_,bc_,bc_,bc_,bc_,bc_,bc_⟩ (fun hHeld=>?_);clear hK K;refine no_ (h:=?_);refine pu_ HT_ 31 66 (bm 35 4294967295) ?_;refine pu_ HT_ 32 67 (bm 35 8589934591) ?_;refine pu_ HT_ 33 68 (bm 35 17179869183) ?_;refine pu_ HT_ 34 4 (bm 35 34359738367) ?_;refine done_ (done_of HT_.out (by kernel_rfl)) ?_
        try go_wp2
        go_ret;exact⟨rr_,hB_⟩
       ·
        rw [if_neg c63] at H;have c63b0:decide ((wrap64 (t388*t389))<0)=false:=decide_eq_false c63;clear c63;obtain rfl:=Option.some.inj H
        try go_wp2
        replace BK380:=a0_ (blk_drew BK380.out);replace BK381:=a0_ (blk_drew BK381.out);replace HB:=a0_ (below_drew1 HB.out);refine start_ (n:=35) (S:=fun w'=>w'.cell? ⟨gb380,0,none⟩=some (.int .i64 a0_0)∧w'.cell? ⟨gb380,1,none⟩=some (.int .i64 a0_1)∧w'.cell? ⟨gb380,2,none⟩=some (.int .i64 a0_2)∧w'.cell? ⟨gb380,3,none⟩=some (.int .i64 a0_3)∧w'.cell? ⟨gb381,0,none⟩=some (.int .i64 a1_0)∧w'.cell? ⟨gb381,1,none⟩=some (.int .i64 a1_1)∧w'.cell? ⟨gb381,2,none⟩=some (.int .i64 a1_2)∧w'.cell? ⟨gb381,3,none⟩=some (.int .i64 a1_3)) (ds:=[]) (Array.replicate 35 false) (by kernel_rfl) rfl rfl ⟨bc_,bc_,bc_,bc_,bc_,bc_,bc_,bc_⟩ (fun hHeld=>?_);refine with_tabW impl_SegMeet.tab5 impl_SegMeet.bits5 (fun HT_ HW_=>?_);generalize wc.drew=w71 at BK380 BK381 HB hHeld ⊢
        refine pu_ HT_ 0 35 (bm 35 1) ?_;refine pu_ HT_ 2 37 (bm 35 5) ?_;refine pu_ HT_ 4 39 (bm 35 21) ?_;refine pu_ HT_ 7 42 (bm 35 149) ?_;refine pu_ HT_ 9 44 (bm 35 661) ?_;refine pu_ HT_ 11 46 (bm 35 2709) ?_;refine ta8_ HT_ HW_ 1 36 (bm 35 2711) hHeld ?_;refine ta8_ HT_ HW_ 3 38 (bm 35 2719) hHeld ?_;refine ta8_ HT_ HW_ 5 40 (bm 35 2751) hHeld ?_;refine ta8_ HT_ HW_ 8 43 (bm 35 3007) hHeld ?_;refine ta8_ HT_ HW_ 10 45 (bm 35 4031) hHeld ?_;refine ta8_ HT_ HW_ 12 47 (bm 35 8127) hHeld ?_;refine one_ (i:=6) (N:=some 41) (bm 35 8191) rfl rfl (one_of HT_.out (by kernel_rfl)) (by decide) (fun K hK=>?_);refine goes_ Tryd.func116 (by kernel_rfl) rfl #[.agg #[.int .i64 a0_0,.int .i64 a0_1],.agg #[.int .i64 a0_2,.int .i64 a0_3],.agg #[.int .i64 a1_0,.int .i64 a1_1]] (by rfl) rfl rfl ma_ ?_
        with_reducible refine (impl_SegTurn.calls kj17 a0_0 a0_1 a0_2 a0_3 a1_0 a1_1 t388 _ A61.out).mono ?_
        rintro e w72 ⟨rfl,hb⟩;refine⟨_,rfl,?_⟩;replace BK380:=vb_ BK380 hb;replace BK381:=vb_ BK381 hb;replace HB:=sb_ HB hb
        (try clear hb)
        (try clear hb2)
        (try clear hk)
        (try clear hi)
        refine hK.out _ _ ⟨bc_,bc_,bc_,bc_,bc_,bc_,bc_,bc_⟩ (fun hHeld=>?_);clear hK K;refine no_ (h:=?_);refine one_ (i:=13) (N:=some 48) (bm 35 16383) rfl rfl (one_of HT_.out (by kernel_rfl)) (by decide) (fun K hK=>?_);refine goes_ Tryd.func116 (by kernel_rfl) rfl #[.agg #[.int .i64 a0_0,.int .i64 a0_1],.agg #[.int .i64 a0_2,.int .i64 a0_3],.agg #[.int .i64 a1_2,.int .i64 a1_3]] (by rfl) rfl rfl ma_ ?_
        with_reducible refine (impl_SegTurn.calls kj17 a0_0 a0_1 a0_2 a0_3 a1_2 a1_3 t389 _ A62.out).mono ?_
        rintro e w73 ⟨rfl,hb⟩;refine⟨_,rfl,?_⟩;replace BK380:=vb_ BK380 hb;replace BK381:=vb_ BK381 hb;replace HB:=sb_ HB hb
        (try clear hb)
        (try clear hb2)
        (try clear hk)
        (try clear hi)
        refine hK.out _ _ ⟨bc_,bc_,bc_,bc_,bc_,bc_,bc_,bc_⟩ (fun hHeld=>?_);clear hK K;refine no_ (h:=?_);refine pu_ HT_ 14 49 (bm 35 32767) ?_;refine pu_ HT_ 15 50 (bm 35 65535) ?_;refine pu_ HT_ 16 51 (bm 35 131071) ?_;refine pz_ HT_ 17 52 (bm 35 262143) ?_;refine pz_ HT_ 18 53 (bm 35 524287) ?_;refine pz_ HT_ 19 54 (bm 35 1048575) ?_;refine pz_ HT_ 20 55 (bm 35 2097151) ?_;refine pz_ HT_ 21 56 (bm 35 4194303) ?_;refine pz_ HT_ 22 57 (bm 35 8388607) ?_;refine pz_ HT_ 23 58 (bm 35 16777215) ?_;refine pz_ HT_ 24 59 (bm 35 33554431) ?_;refine pz_ HT_ 25 60 (bm 35 67108863) ?_;refine pz_ HT_ 26 61 (bm 35 134217727) ?_;refine pz_ HT_ 27 62 (bm 35 268435455) ?_;refine pz_ HT_ 28 63 (bm 35 536870911) ?_;refine pz_ HT_ 29 64 (bm 35 1073741823) ?_;refine pz_ HT_ 30 65 (bm 35 2147483647) ?_;refine pz_ HT_ 31 66 (bm 35 4294967295) ?_;refine pz_ HT_ 32 67 (bm 35 8589934591) ?_;refine pu_ HT_ 33 68 (bm 35 17179869183) ?_;refine pu_ HT_ 34 4 (bm 35 34359738367) ?_;refine done_ (done_of HT_.out (by kernel_rfl)) ?_
        try go_wp2
        go_ret;exact⟨rr_,hB_⟩
def impl_standOf.f (a0_0:Int)(a0_1:Int)(a0_2:Int)(a0_3:Int)(a1_0:Int)(a1_1:Int):Option (Int):=(impl_along.f a0_0 a0_1 a0_2 a0_3 a1_0 a1_1).bind fun t408=>(if t408≤0 then (some 0) else ((impl_between.f a0_0 a0_1 a0_2 a0_3).bind fun t409=>(if t408≥t409 then (some 2) else (some 1))))
set_option maxHeartbeats 8000000 in
set_option maxRecDepth 100000 in
theorem impl_standOf.calls (a0_0:Int)(a0_1:Int)(a0_2:Int)(a0_3:Int)(a1_0:Int)(a1_1:Int)(r:Int)(w:World)(h:impl_standOf.f a0_0 a0_1 a0_2 a0_3 a1_0 a1_1=some r):
  Calls Tryd.prog 83 #[.agg #[.int .i64 a0_0,.int .i64 a0_1,.int .i64 a0_2,.int .i64 a0_3],.agg #[.int .i64 a1_0,.int .i64 a1_1]] w fun e w'=>e=.returned (.int .i64 r)∧Below w.heap.size w w':=by
 have hu61:=Tryd.underlying61;have hu28:=Tryd.underlying28;have HB:=a0_ (Below.refl w.heap.size w);have H:((impl_along.f a0_0 a0_1 a0_2 a0_3 a1_0 a1_1).bind fun t408=>(if t408≤0 then (some 0) else ((impl_between.f a0_0 a0_1 a0_2 a0_3).bind fun t409=>(if t408≥t409 then (some 2) else (some 1)))))=some r:=h;clear h;replace H:=Option.bind_eq_some_iff.mp H;obtain⟨t408,A30,H⟩:=H
 (try dsimp only at H)
 have A3:=Aside0.mk A30;clear A30;by_cases c4:t408≤0
 ·
  rw [if_pos c4] at H;have c4b0:decide (t408≤0)=true:=decide_eq_true c4;clear c4;obtain rfl:=Option.some.inj H;go_enter Tryd.func83,Tryd.ntmps83;go_wp2_with (first | ((with_reducible refine gate_dst (N:=2) rfl ?_);refine bx_ (N:=2) (cs:=#[.int .i64 a0_0,.int .i64 a0_1,.int .i64 a0_2,.int .i64 a0_3]) (t:=61) (h:=?_);intro gb406 hg w5 hbox hb;have BK406:=a0_ (hbox);have GW406:=gh_ HB hg;have GE406:=gh_ HB hg;replace HB:=sb_ HB hb;clear hb hbox hg) | ((with_reducible refine gate_dst (N:=3) rfl ?_);refine bx_ (N:=3) (cs:=#[.int .i64 a1_0,.int .i64 a1_1]) (t:=28) (h:=?_);intro gb407 hg w6 hbox hb;have BK407:=a0_ (hbox);have GW407:=gh_ HB hg;have GE407:=gh_ HB hg;have NB406_407:=nl_ BK406 hg;have NB407_406:=nr_ BK406 hg;replace BK406:=vb_ BK406 hb;replace HB:=sb_ HB hb;clear hb hbox hg;have hnb7:=NB406_407.out;have hnc7:=NB407_406.out;have hcz8_0:=c40_ BK406;have hcz8_1:=c41_ BK406;have hcz8_2:=c42_ BK406;have hcz8_3:=c43_ BK406;have hfz8_0:=fz_ BK406 0;have hfz8_1:=fz_ BK406 1;have hfz8_2:=fz_ BK406 2;have hfz8_3:=fz_ BK406 3;have hcz9_0:=c20_ BK407;have hcz9_1:=c21_ BK407;have hfz9_0:=fz_ BK407 0;have hfz9_1:=fz_ BK407 1) | ((with_reducible refine gate_callee (f:=109) rfl ?_);refine gL_ (some 11) Tryd.func109 #[.agg #[.int .i64 a0_0,.int .i64 a0_1],.agg #[.int .i64 a0_2,.int .i64 a0_3],.agg #[.int .i64 a1_0,.int .i64 a1_1]] (h:=?_);(with_reducible refine (impl_along.calls a0_0 a0_1 a0_2 a0_3 a1_0 a1_1 t408 _ A3.out).mono ?_);rintro e w10 ⟨rfl,hb⟩;refine⟨_,rfl,?_⟩;replace BK406:=vb_ BK406 hb;replace BK407:=vb_ BK407 hb;replace HB:=sb_ HB hb;(try clear hb)));go_ret;exact⟨rr_,hB_⟩
 ·
  rw [if_neg c4] at H;have c4b0:decide (t408≤0)=false:=decide_eq_false c4;clear c4;replace H:=Option.bind_eq_some_iff.mp H;obtain⟨t409,A110,H⟩:=H
  (try dsimp only at H)
  have A11:=Aside0.mk A110;clear A110;by_cases c12:t408≥t409
  ·
   rw [if_pos c12] at H;have c12b0:decide (t409≤t408)=true:=decide_eq_true c12;clear c12;obtain rfl:=Option.some.inj H;go_enter Tryd.func83,Tryd.ntmps83
   go_wp2_with (first | ((with_reducible refine gate_dst (N:=2) rfl ?_);refine bx_ (N:=2) (cs:=#[.int .i64 a0_0,.int .i64 a0_1,.int .i64 a0_2,.int .i64 a0_3]) (t:=61) (h:=?_);intro gb406 hg w13 hbox hb;have BK406:=a0_ (hbox);have GW406:=gh_ HB hg;have GE406:=gh_ HB hg;replace HB:=sb_ HB hb;clear hb hbox hg) | ((with_reducible refine gate_dst (N:=3) rfl ?_);refine bx_ (N:=3) (cs:=#[.int .i64 a1_0,.int .i64 a1_1]) (t:=28) (h:=?_);intro gb407 hg w14 hbox hb;have BK407:=a0_ (hbox);have GW407:=gh_ HB hg;have GE407:=gh_ HB hg;have NB406_407:=nl_ BK406 hg;have NB407_406:=nr_ BK406 hg;replace BK406:=vb_ BK406 hb;replace HB:=sb_ HB hb;clear hb hbox hg;have hnb15:=NB406_407.out;have hnc15:=NB407_406.out;have hcz16_0:=c40_ BK406;have hcz16_1:=c41_ BK406;have hcz16_2:=c42_ BK406;have hcz16_3:=c43_ BK406;have hfz16_0:=fz_ BK406 0;have hfz16_1:=fz_ BK406 1;have hfz16_2:=fz_ BK406 2;have hfz16_3:=fz_ BK406 3;have hcz17_0:=c20_ BK407;have hcz17_1:=c21_ BK407;have hfz17_0:=fz_ BK407 0;have hfz17_1:=fz_ BK407 1) | ((with_reducible refine gate_callee (f:=109) rfl ?_);refine gL_ (some 11) Tryd.func109 #[.agg #[.int .i64 a0_0,.int .i64 a0_1],.agg #[.int .i64 a0_2,.int .i64 a0_3],.agg #[.int .i64 a1_0,.int .i64 a1_1]] (h:=?_);(with_reducible refine (impl_along.calls a0_0 a0_1 a0_2 a0_3 a1_0 a1_1 t408 _ A3.out).mono ?_);rintro e w18 ⟨rfl,hb⟩;refine⟨_,rfl,?_⟩;replace BK406:=vb_ BK406 hb;replace BK407:=vb_ BK407 hb;replace HB:=sb_ HB hb;(try clear hb);have hcz19_0:=c40_ BK406;have hcz19_1:=c41_ BK406;have hcz19_2:=c42_ BK406;have hcz19_3:=c43_ BK406;have hfz19_0:=fz_ BK406 0;have hfz19_1:=fz_ BK406 1;have hfz19_2:=fz_ BK406 2;have hfz19_3:=fz_ BK406 3) | ((with_reducible refine gate_callee (f:=79) rfl ?_);refine gL_ (some 21) Tryd.func79 #[.agg #[.int .i64 a0_0,.int .i64 a0_1],.agg #[.int .i64 a0_2,.int .i64 a0_3]] (h:=?_);(with_reducible refine (impl_between.calls a0_0 a0_1 a0_2 a0_3 t409 _ A11.out).mono ?_);rintro e w20 ⟨rfl,hb⟩;refine⟨_,rfl,?_⟩;replace BK406:=vb_ BK406 hb;replace BK407:=vb_ BK407 hb;replace HB:=sb_ HB hb;(try clear hb)))
   go_ret;exact⟨rr_,hB_⟩
  ·
   rw [if_neg c12] at H;have c12b0:decide (t409≤t408)=false:=decide_eq_false c12;clear c12;obtain rfl:=Option.some.inj H;go_enter Tryd.func83,Tryd.ntmps83
   go_wp2_with (first | ((with_reducible refine gate_dst (N:=2) rfl ?_);refine bx_ (N:=2) (cs:=#[.int .i64 a0_0,.int .i64 a0_1,.int .i64 a0_2,.int .i64 a0_3]) (t:=61) (h:=?_);intro gb406 hg w21 hbox hb;have BK406:=a0_ (hbox);have GW406:=gh_ HB hg;have GE406:=gh_ HB hg;replace HB:=sb_ HB hb;clear hb hbox hg) | ((with_reducible refine gate_dst (N:=3) rfl ?_);refine bx_ (N:=3) (cs:=#[.int .i64 a1_0,.int .i64 a1_1]) (t:=28) (h:=?_);intro gb407 hg w22 hbox hb;have BK407:=a0_ (hbox);have GW407:=gh_ HB hg;have GE407:=gh_ HB hg;have NB406_407:=nl_ BK406 hg;have NB407_406:=nr_ BK406 hg;replace BK406:=vb_ BK406 hb;replace HB:=sb_ HB hb;clear hb hbox hg;have hnb23:=NB406_407.out;have hnc23:=NB407_406.out;have hcz24_0:=c40_ BK406;have hcz24_1:=c41_ BK406;have hcz24_2:=c42_ BK406;have hcz24_3:=c43_ BK406;have hfz24_0:=fz_ BK406 0;have hfz24_1:=fz_ BK406 1;have hfz24_2:=fz_ BK406 2;have hfz24_3:=fz_ BK406 3;have hcz25_0:=c20_ BK407;have hcz25_1:=c21_ BK407;have hfz25_0:=fz_ BK407 0;have hfz25_1:=fz_ BK407 1) | ((with_reducible refine gate_callee (f:=109) rfl ?_);refine gL_ (some 11) Tryd.func109 #[.agg #[.int .i64 a0_0,.int .i64 a0_1],.agg #[.int .i64 a0_2,.int .i64 a0_3],.agg #[.int .i64 a1_0,.int .i64 a1_1]] (h:=?_);(with_reducible refine (impl_along.calls a0_0 a0_1 a0_2 a0_3 a1_0 a1_1 t408 _ A3.out).mono ?_);rintro e w26 ⟨rfl,hb⟩;refine⟨_,rfl,?_⟩;replace BK406:=vb_ BK406 hb;replace BK407:=vb_ BK407 hb;replace HB:=sb_ HB hb;(try clear hb);have hcz27_0:=c40_ BK406;have hcz27_1:=c41_ BK406;have hcz27_2:=c42_ BK406;have hcz27_3:=c43_ BK406;have hfz27_0:=fz_ BK406 0;have hfz27_1:=fz_ BK406 1;have hfz27_2:=fz_ BK406 2;have hfz27_3:=fz_ BK406 3) | ((with_reducible refine gate_callee (f:=79) rfl ?_);refine gL_ (some 21) Tryd.func79 #[.agg #[.int .i64 a0_0,.int .i64 a0_1],.agg #[.int .i64 a0_2,.int .i64 a0_3]] (h:=?_);(with_reducible refine (impl_between.calls a0_0 a0_1 a0_2 a0_3 t409 _ A11.out).mono ?_);rintro e w28 ⟨rfl,hb⟩;refine⟨_,rfl,?_⟩;replace BK406:=vb_ BK406 hb;replace BK407:=vb_ BK407 hb;replace HB:=sb_ HB hb;(try clear hb)))
   go_ret;exact⟨rr_,hB_⟩
def impl_FracOf.f (k:Nat)(a0:Int)(a1:Int):Option (Int × Int × Bool):=if a0<0 then (some (0,0,false)) else (if a0>99999 then (some (0,0,false)) else (if a1<1 then (some (0,0,false)) else (if a1>99999 then (some (0,0,false)) else ((impl_commonDivisor.f k a0 a1).bind fun t403=>(if t403=0 then (none) else (some (wrap64 (Int.tdiv a0 t403),wrap64 (Int.tdiv a1 t403),true)))))))
def impl_FracOf.T4:Bool × List (List Nat × List Nat):=(true,[([],[]),([],[]),([0,1],[0,1]),([],[]),([],[]),([3,4],[3,4]),([2,5],[2,5]),([6,0,1,2,3,4,5,6],[6]),([7,0,1,2,3,4,5,6,7],[])])
def impl_FracOf.B4:List Nat:=[0,0,3,0,0,24,63,127,255]
theorem impl_FracOf.tab4:rtab .any (opsOf Tryd.f20 4)=impl_FracOf.T4:=by kernel_rfl
theorem impl_FracOf.bits4:waitsOk impl_FracOf.T4.2 impl_FracOf.B4=true:=by kernel_rfl
set_option maxHeartbeats 8000000 in
set_option maxRecDepth 100000 in
theorem impl_FracOf.calls (k:Nat)(a0:Int)(a1:Int)(r1:Int)(r2:Int)(r3:Bool)(w:World)(h:impl_FracOf.f k a0 a1=some (r1,r2,r3)):
  Calls Tryd.prog 20 #[.int .i64 a0,.int .i64 a1] w fun e w'=>e=.returned (.tuple #[.agg #[.int .i64 r1,.int .i64 r2],.bool r3])∧Below w.heap.size w w':=by
 have hu35:=Tryd.underlying35;have HB:=a0_ (Below.refl w.heap.size w);have H:(if a0<0 then (some (0,0,false)) else (if a0>99999 then (some (0,0,false)) else (if a1<1 then (some (0,0,false)) else (if a1>99999 then (some (0,0,false)) else ((impl_commonDivisor.f k a0 a1).bind fun t403=>(if t403=0 then (none) else (some (wrap64 (Int.tdiv a0 t403),wrap64 (Int.tdiv a1 t403),true))))))))=some (r1,r2,r3):=h;clear h;by_cases c3:a0<0
 ·
  rw [if_pos c3] at H;have c3b0:decide (a0<0)=true:=decide_eq_true c3;clear c3;simp only [Option.some.injEq,Prod.mk.injEq] at H;obtain⟨rfl,rfl,rfl⟩:=H;go_enter Tryd.func20,Tryd.ntmps20;go_wp2_with (first | ((with_reducible refine gate_dst (N:=4) rfl ?_);refine bx_ (N:=4) (cs:=#[.int .i64 0,.int .i64 0]) (t:=35) (h:=?_);intro gb402 hg w4 hbox hb;have BK402:=a0_ (hbox);have GW402:=gh_ HB hg;have GE402:=gh_ HB hg;replace HB:=sb_ HB hb;clear hb hbox hg;have hcz5_0:=c20_ BK402;have hcz5_1:=c21_ BK402;have hfz5_0:=fz_ BK402 0;have hfz5_1:=fz_ BK402 1));refine bodyPost_ret (results_ct rfl _ _ gb402 35 #[.int .i64 0,.int .i64 0] (0,0) _ rfl (by (with_reducible repeat (first | refine blk_drewN ?_ _ | refine blk_drew ?_ | refine blk_alloc ?_ _));refine blk_put (cs:=#[.int .i64 0,.int .i64 0]) ?_ 1 _ rfl;(with_reducible repeat (first | refine blk_drewN ?_ _ | refine blk_drew ?_ | refine blk_alloc ?_ _));refine blk_put (cs:=#[.int .i64 0,.int .i64 0]) ?_ 0 _ rfl;(with_reducible repeat (first | refine blk_drewN ?_ _ | refine blk_drew ?_ | refine blk_alloc ?_ _));exact BK402.out) Tryd.underlying35 rfl (by kernel_rfl)) rfl ?_;exact⟨rr_,hB_⟩
 ·
  rw [if_neg c3] at H;have c3b0:decide (a0<0)=false:=decide_eq_false c3;clear c3;by_cases c6:a0>99999
  ·
   rw [if_pos c6] at H;have c6b0:decide (99999<a0)=true:=decide_eq_true c6;clear c6;simp only [Option.some.injEq,Prod.mk.injEq] at H;obtain⟨rfl,rfl,rfl⟩:=H;go_enter Tryd.func20,Tryd.ntmps20;go_wp2_with (first | ((with_reducible refine gate_dst (N:=4) rfl ?_);refine bx_ (N:=4) (cs:=#[.int .i64 0,.int .i64 0]) (t:=35) (h:=?_);intro gb402 hg w7 hbox hb;have BK402:=a0_ (hbox);have GW402:=gh_ HB hg;have GE402:=gh_ HB hg;replace HB:=sb_ HB hb;clear hb hbox hg;have hcz8_0:=c20_ BK402;have hcz8_1:=c21_ BK402;have hfz8_0:=fz_ BK402 0;have hfz8_1:=fz_ BK402 1));refine bodyPost_ret (results_ct rfl _ _ gb402 35 #[.int .i64 0,.int .i64 0] (0,0) _ rfl (by (with_reducible repeat (first | refine blk_drewN ?_ _ | refine blk_drew ?_ | refine blk_alloc ?_ _));refine blk_put (cs:=#[.int .i64 0,.int .i64 0]) ?_ 1 _ rfl;(with_reducible repeat (first | refine blk_drewN ?_ _ | refine blk_drew ?_ | refine blk_alloc ?_ _));refine blk_put (cs:=#[.int .i64 0,.int .i64 0]) ?_ 0 _ rfl;(with_reducible repeat (first | refine blk_drewN ?_ _ | refine blk_drew ?_ | refine blk_alloc ?_ _));exact BK402.out) Tryd.underlying35 rfl (by kernel_rfl)) rfl ?_;exact⟨rr_,hB_⟩
  ·
   rw [if_neg c6] at H;have c6b0:decide (99999<a0)=false:=decide_eq_false c6;clear c6;by_cases c9:a1<1
   ·
    rw [if_pos c9] at H;have c9b0:decide (a1<1)=true:=decide_eq_true c9;clear c9;simp only [Option.some.injEq,Prod.mk.injEq] at H;obtain⟨rfl,rfl,rfl⟩:=H;go_enter Tryd.func20,Tryd.ntmps20;go_wp2_with (first | ((with_reducible refine gate_dst (N:=4) rfl ?_);refine bx_ (N:=4) (cs:=#[.int .i64 0,.int .i64 0]) (t:=35) (h:=?_);intro gb402 hg w10 hbox hb;have BK402:=a0_ (hbox);have GW402:=gh_ HB hg;have GE402:=gh_ HB hg;replace HB:=sb_ HB hb;clear hb hbox hg;have hcz11_0:=c20_ BK402;have hcz11_1:=c21_ BK402;have hfz11_0:=fz_ BK402 0;have hfz11_1:=fz_ BK402 1));refine bodyPost_ret (results_ct rfl _ _ gb402 35 #[.int .i64 0,.int .i64 0] (0,0) _ rfl (by (with_reducible repeat (first | refine blk_drewN ?_ _ | refine blk_drew ?_ | refine blk_alloc ?_ _));refine blk_put (cs:=#[.int .i64 0,.int .i64 0]) ?_ 1 _ rfl;(with_reducible repeat (first | refine blk_drewN ?_ _ | refine blk_drew ?_ | refine blk_alloc ?_ _));refine blk_put (cs:=#[.int .i64 0,.int .i64 0]) ?_ 0 _ rfl;(with_reducible repeat (first | refine blk_drewN ?_ _ | refine blk_drew ?_ | refine blk_alloc ?_ _));exact BK402.out) Tryd.underlying35 rfl (by kernel_rfl)) rfl ?_;exact⟨rr_,hB_⟩
   ·
    rw [if_neg c9] at H;have c9b0:decide (a1<1)=false:=decide_eq_false c9;clear c9;by_cases c12:a1>99999
    ·
     rw [if_pos c12] at H;have c12b0:decide (99999<a1)=true:=decide_eq_true c12;clear c12;simp only [Option.some.injEq,Prod.mk.injEq] at H;obtain⟨rfl,rfl,rfl⟩:=H;go_enter Tryd.func20,Tryd.ntmps20;go_wp2_with (first | ((with_reducible refine gate_dst (N:=4) rfl ?_);refine bx_ (N:=4) (cs:=#[.int .i64 0,.int .i64 0]) (t:=35) (h:=?_);intro gb402 hg w13 hbox hb;have BK402:=a0_ (hbox);have GW402:=gh_ HB hg;have GE402:=gh_ HB hg;replace HB:=sb_ HB hb;clear hb hbox hg;have hcz14_0:=c20_ BK402;have hcz14_1:=c21_ BK402;have hfz14_0:=fz_ BK402 0;have hfz14_1:=fz_ BK402 1));refine bodyPost_ret (results_ct rfl _ _ gb402 35 #[.int .i64 0,.int .i64 0] (0,0) _ rfl (by (with_reducible repeat (first | refine blk_drewN ?_ _ | refine blk_drew ?_ | refine blk_alloc ?_ _));refine blk_put (cs:=#[.int .i64 0,.int .i64 0]) ?_ 1 _ rfl;(with_reducible repeat (first | refine blk_drewN ?_ _ | refine blk_drew ?_ | refine blk_alloc ?_ _));refine blk_put (cs:=#[.int .i64 0,.int .i64 0]) ?_ 0 _ rfl;(with_reducible repeat (first | refine blk_drewN ?_ _ | refine blk_drew ?_ | refine blk_alloc ?_ _));exact BK402.out) Tryd.underlying35 rfl (by kernel_rfl)) rfl ?_;exact⟨rr_,hB_⟩
    ·
     rw [if_neg c12] at H;have c12b0:decide (99999<a1)=false:=decide_eq_false c12;clear c12;replace H:=Option.bind_eq_some_iff.mp H;obtain⟨t403,A150,H⟩:=H
     (try dsimp only at H)
     have A15:=Aside0.mk A150;clear A150;by_cases c16:t403=0
     ·
      rw [if_pos c16] at H;exact absurd H (by simp)
     ·
      rw [if_neg c16] at H;have c16b0:(t403==0)=false:=beq_eq_false_iff_ne.mpr c16;have c16b1:(t403 != 0)=true:=bne_iff_ne.mpr c16;simp only [Option.some.injEq,Prod.mk.injEq] at H;obtain⟨rfl,rfl,rfl⟩:=H;go_enter Tryd.func20,Tryd.ntmps20
      try go_wp2_with (first | ((with_reducible refine gate_dst (N:=4) rfl ?_);refine bx_ (N:=4) (cs:=#[.int .i64 0,.int .i64 0]) (t:=35) (h:=?_);intro gb402 hg w17 hbox hb;have BK402:=a0_ (hbox);have GW402:=gh_ HB hg;have GE402:=gh_ HB hg;replace HB:=sb_ HB hb;clear hb hbox hg) | ((with_reducible refine gate_callee (f:=59) rfl ?_);refine gL_ (some 24) Tryd.func59 #[.int .i64 a0,.int .i64 a1] (h:=?_);(with_reducible refine (impl_commonDivisor.calls k a0 a1 t403 _ A15.out).mono ?_);rintro e w' ⟨rfl,⟨nd,rfl⟩⟩;refine⟨_,rfl,?_⟩;(try (rw [drewN_self w17];generalize hq_:World.drewN w17 _=w17;have n0_:Aside0 (w17.heap[gb402]?=some (.cells #[.int .i64 0,.int .i64 0] 35 (0,0))):=⟨by rw [← hq_];exact uq_⟩;have n1_:Aside0 (Below w.heap.size w w17):=⟨by rw [← hq_];exact hB_⟩;clear BK402 HB hq_;have BK402:=n0_;have HB:=n1_;clear n0_ n1_))))
      replace BK402:=a0_ (blk_drew BK402.out);replace HB:=a0_ (below_drew1 HB.out);refine start_ (n:=9) (S:=fun w'=>True) (ds:=[]) (Array.replicate 9 false) (by kernel_rfl) rfl rfl trivial (fun hHeld=>?_);refine with_tabW impl_FracOf.tab4 impl_FracOf.bits4 (fun HT_ HW_=>?_);generalize w17.drew=w18 at BK402 HB hHeld ⊢
      refine pu_ HT_ 0 25 (bm 9 1) ?_;refine pu_ HT_ 1 26 (bm 9 3) ?_;refine pu_ HT_ 2 27 (bm 9 7) ?_;refine pu_ HT_ 3 28 (bm 9 15) ?_;refine pu_ HT_ 4 29 (bm 9 31) ?_;refine pu_ HT_ 5 30 (bm 9 63) ?_;refine pu_ HT_ 6 31 (bm 9 127) ?_;refine one_ (i:=7) (N:=none) (bm 9 255) rfl rfl (one_of HT_.out (by kernel_rfl)) (by decide) (fun K hK=>?_);have hs19:w18.cell? ⟨gb402,0,none⟩=some (.int .i64 0):=bc_;have hfs19:=blk_frozen BK402.out 0;have hs20:w18.cell? ⟨gb402,1,none⟩=some (.int .i64 0):=bc_;have hfs20:=blk_frozen BK402.out 1;refine skip_ (w1:=?_) (by rfl) rfl ?_ ?_;rotate_left
      ·
       go_simp;rfl
      refine hK.out _ _ trivial (fun hHeld=>?_);clear hK K;refine pu_ HT_ 8 5 (bm 9 511) ?_;refine done_ (done_of HT_.out (by kernel_rfl)) ?_
      try go_wp2
      refine bodyPost_ret (results_ct rfl _ _ gb402 35 #[.int .i64 (wrap64 (Int.tdiv a0 t403)),.int .i64 (wrap64 (Int.tdiv a1 t403))] (0,0) _ rfl (by (with_reducible repeat (first | refine blk_drewN ?_ _ | refine blk_drew ?_ | refine blk_alloc ?_ _));refine blk_put (cs:=#[.int .i64 (wrap64 (Int.tdiv a0 t403)),.int .i64 0]) ?_ 1 _ rfl;(with_reducible repeat (first | refine blk_drewN ?_ _ | refine blk_drew ?_ | refine blk_alloc ?_ _));refine blk_put (cs:=#[.int .i64 0,.int .i64 0]) ?_ 0 _ rfl;(with_reducible repeat (first | refine blk_drewN ?_ _ | refine blk_drew ?_ | refine blk_alloc ?_ _));exact BK402.out) Tryd.underlying35 rfl (by kernel_rfl)) rfl ?_;exact⟨rr_,hB_⟩
def spec_l2Has.f (a0_0:Int)(a0_1:Int)(a0_2:Int)(a0_3:Int)(a1_0:Int)(a1_1:Int):Option (Bool):=(spec_l2Cross.f a0_0 a0_1 a0_2 a0_3 a1_0 a1_1).bind fun t149=>(if t149=0 then ((spec_l2Dot.f a0_0 a0_1 a0_2 a0_3 a1_0 a1_1).bind fun t150=>((spec_l2Dot.f a0_0 a0_1 a0_2 a0_3 a0_2 a0_3).bind fun t151=>((spec_l6In.f t150 0 t151).bind fun t152=>(some t152)))) else (some false))
def spec_l2Has.T1:Bool × List (List Nat × List Nat):=(true,[([],[]),([0],[0]),([],[]),([2],[2]),([],[]),([1,3,4],[1,3,4]),([5],[5]),([6,5],[6]),([7],[7]),([8,7],[7,8]),([7],[7]),([10,7],[7,10]),([7],[7]),([9,11,12,7,7],[7,9,11,12]),([7],[7]),([14,7],[7,14]),([7],[7]),([16,7],[7,16]),([7],[7]),([18,7],[7,18]),([15,17,19,13,7],[7,15,17,19]),([13,20,20,7],[7,13,20]),([7,21],[7,21]),([22,21,0,1,2,3,4,5,6,7,8,9,10,11,12,13,14,15,16,17,18,19,20,21,22],[22])])
def spec_l2Has.B1:List Nat:=[0,1,0,4,0,31,63,127,255,511,255,1279,255,8191,255,16639,255,65791,255,262399,1048575,2097151,4194303,8388607]
theorem spec_l2Has.tab1:rtab .any (opsOf Tryd.f100 1)=spec_l2Has.T1:=by kernel_rfl
theorem spec_l2Has.bits1:waitsOk spec_l2Has.T1.2 spec_l2Has.B1=true:=by kernel_rfl
set_option maxHeartbeats 8000000 in
set_option maxRecDepth 100000 in
theorem spec_l2Has.calls (a0_0:Int)(a0_1:Int)(a0_2:Int)(a0_3:Int)(a1_0:Int)(a1_1:Int)(r:Bool)(w:World)(h:spec_l2Has.f a0_0 a0_1 a0_2 a0_3 a1_0 a1_1=some r):
  Calls Tryd.prog 100 #[.agg #[.int .i64 a0_0,.int .i64 a0_1,.int .i64 a0_2,.int .i64 a0_3],.agg #[.int .i64 a1_0,.int .i64 a1_1]] w fun e w'=>e=.returned (.bool r)∧Below w.heap.size w w':=by
 have hu61:=Tryd.underlying61;have hu28:=Tryd.underlying28;have HB:=a0_ (Below.refl w.heap.size w);have H:((spec_l2Cross.f a0_0 a0_1 a0_2 a0_3 a1_0 a1_1).bind fun t149=>(if t149=0 then ((spec_l2Dot.f a0_0 a0_1 a0_2 a0_3 a1_0 a1_1).bind fun t150=>((spec_l2Dot.f a0_0 a0_1 a0_2 a0_3 a0_2 a0_3).bind fun t151=>((spec_l6In.f t150 0 t151).bind fun t152=>(some t152)))) else (some false)))=some r:=h;clear h;replace H:=Option.bind_eq_some_iff.mp H;obtain⟨t149,A30,H⟩:=H
 (try dsimp only at H)
 have A3:=Aside0.mk A30;clear A30;by_cases c4:t149=0
 ·
  rw [if_pos c4] at H;have c4b0:(t149==0)=true:=beq_iff_eq.mpr c4;have c4b1:(t149 != 0)=false:=bne_eq_false_iff_eq.mpr c4;clear c4;replace H:=Option.bind_eq_some_iff.mp H;obtain⟨t150,A50,H⟩:=H
  (try dsimp only at H)
  have A5:=Aside0.mk A50;clear A50;replace H:=Option.bind_eq_some_iff.mp H;obtain⟨t151,A60,H⟩:=H
  (try dsimp only at H)
  have A6:=Aside0.mk A60;clear A60;replace H:=Option.bind_eq_some_iff.mp H;obtain⟨t152,A70,H⟩:=H
  (try dsimp only at H)
  have A7:=Aside0.mk A70;clear A70;obtain rfl:=Option.some.inj H;go_enter Tryd.func100,Tryd.ntmps100
  try go_wp2_with (first | ((with_reducible refine gate_dst (N:=2) rfl ?_);refine bx_ (N:=2) (cs:=#[.int .i64 a0_0,.int .i64 a0_1,.int .i64 a0_2,.int .i64 a0_3]) (t:=61) (h:=?_);intro gb147 hg w8 hbox hb;have BK147:=a0_ (hbox);have GW147:=gh_ HB hg;have GE147:=gh_ HB hg;replace HB:=sb_ HB hb;clear hb hbox hg) | ((with_reducible refine gate_dst (N:=3) rfl ?_);refine bx_ (N:=3) (cs:=#[.int .i64 a1_0,.int .i64 a1_1]) (t:=28) (h:=?_);intro gb148 hg w9 hbox hb;have BK148:=a0_ (hbox);have GW148:=gh_ HB hg;have GE148:=gh_ HB hg;have NB147_148:=nl_ BK147 hg;have NB148_147:=nr_ BK147 hg;replace BK147:=vb_ BK147 hb;replace HB:=sb_ HB hb;clear hb hbox hg))
  replace BK147:=a0_ (blk_drew BK147.out);replace BK148:=a0_ (blk_drew BK148.out);replace HB:=a0_ (below_drew1 HB.out);refine start_ (n:=24) (S:=fun w'=>w'.cell? ⟨gb147,0,none⟩=some (.int .i64 a0_0)∧w'.cell? ⟨gb147,1,none⟩=some (.int .i64 a0_1)∧w'.cell? ⟨gb147,2,none⟩=some (.int .i64 a0_2)∧w'.cell? ⟨gb147,3,none⟩=some (.int .i64 a0_3)∧w'.cell? ⟨gb148,0,none⟩=some (.int .i64 a1_0)∧w'.cell? ⟨gb148,1,none⟩=some (.int .i64 a1_1)) (ds:=[]) (Array.replicate 24 false) (by kernel_rfl) rfl rfl ⟨bc_,bc_,bc_,bc_,bc_,bc_⟩ (fun hHeld=>?_);refine with_tabW spec_l2Has.tab1 spec_l2Has.bits1 (fun HT_ HW_=>?_);generalize w9.drew=w10 at BK147 BK148 HB hHeld ⊢
  refine pu_ HT_ 0 5 (bm 24 1) ?_;refine pu_ HT_ 2 7 (bm 24 5) ?_;refine ta6_ HT_ HW_ 1 6 (bm 24 7) hHeld ?_;refine ta6_ HT_ HW_ 3 8 (bm 24 15) hHeld ?_;refine ta6_ HT_ HW_ 4 9 (bm 24 31) hHeld ?_;refine one_ (i:=5) (N:=some 10) (bm 24 63) rfl rfl (one_of HT_.out (by kernel_rfl)) (by decide) (fun K hK=>?_);refine goes_ Tryd.func102 (by kernel_rfl) rfl #[.agg #[.int .i64 a0_0,.int .i64 a0_1],.agg #[.int .i64 a0_2,.int .i64 a0_3],.agg #[.int .i64 a1_0,.int .i64 a1_1]] (by rfl) rfl rfl ma_ ?_
  with_reducible refine (spec_l2Cross.calls a0_0 a0_1 a0_2 a0_3 a1_0 a1_1 t149 _ A3.out).mono ?_
  rintro e w11 ⟨rfl,hb⟩;refine⟨_,rfl,?_⟩;replace BK147:=vb_ BK147 hb;replace BK148:=vb_ BK148 hb;replace HB:=sb_ HB hb
  (try clear hb)
  (try clear hb2)
  (try clear hk)
  (try clear hi)
  refine hK.out _ _ ⟨bc_,bc_,bc_,bc_,bc_,bc_⟩ (fun hHeld=>?_);clear hK K;refine no_ (h:=?_);refine pu_ HT_ 6 11 (bm 24 127) ?_;refine pu_ HT_ 7 12 (bm 24 255) ?_;refine pu_ HT_ 8 13 (bm 24 511) ?_;refine pu_ HT_ 10 15 (bm 24 1535) ?_;refine pu_ HT_ 14 19 (bm 24 17919) ?_;refine pu_ HT_ 16 21 (bm 24 83455) ?_;refine pu_ HT_ 18 23 (bm 24 345599) ?_;refine ta6_ HT_ HW_ 9 14 (bm 24 346111) hHeld ?_;refine ta6_ HT_ HW_ 11 16 (bm 24 348159) hHeld ?_;refine ta6_ HT_ HW_ 12 17 (bm 24 352255) hHeld ?_;refine ta6_ HT_ HW_ 15 20 (bm 24 385023) hHeld ?_;refine ta6_ HT_ HW_ 17 22 (bm 24 516095) hHeld ?_;refine ta6_ HT_ HW_ 19 24 (bm 24 1040383) hHeld ?_;refine one_ (i:=13) (N:=some 18) (bm 24 1048575) rfl rfl (one_of HT_.out (by kernel_rfl)) (by decide) (fun K hK=>?_);refine goes_ Tryd.func117 (by kernel_rfl) rfl #[.agg #[.int .i64 a0_0,.int .i64 a0_1],.agg #[.int .i64 a0_2,.int .i64 a0_3],.agg #[.int .i64 a1_0,.int .i64 a1_1]] (by rfl) rfl rfl ma_ ?_
  with_reducible refine (spec_l2Dot.calls a0_0 a0_1 a0_2 a0_3 a1_0 a1_1 t150 _ A5.out).mono ?_
  rintro e w12 ⟨rfl,hb⟩;refine⟨_,rfl,?_⟩;replace BK147:=vb_ BK147 hb;replace BK148:=vb_ BK148 hb;replace HB:=sb_ HB hb
  (try clear hb)
  (try clear hb2)
  (try clear hk)
  (try clear hi)
  refine hK.out _ _ ⟨bc_,bc_,bc_,bc_,bc_,bc_⟩ (fun hHeld=>?_);clear hK K;refine no_ (h:=?_);refine one_ (i:=20) (N:=some 25) (bm 24 2097151) rfl rfl (one_of HT_.out (by kernel_rfl)) (by decide) (fun K hK=>?_);refine goes_ Tryd.func117 (by kernel_rfl) rfl #[.agg #[.int .i64 a0_0,.int .i64 a0_1],.agg #[.int .i64 a0_2,.int .i64 a0_3],.agg #[.int .i64 a0_2,.int .i64 a0_3]] (by rfl) rfl rfl ma_ ?_
  with_reducible refine (spec_l2Dot.calls a0_0 a0_1 a0_2 a0_3 a0_2 a0_3 t151 _ A6.out).mono ?_
  rintro e w13 ⟨rfl,hb⟩;refine⟨_,rfl,?_⟩;replace BK147:=vb_ BK147 hb;replace BK148:=vb_ BK148 hb;replace HB:=sb_ HB hb
  (try clear hb)
  (try clear hb2)
  (try clear hk)
  (try clear hi)
  refine hK.out _ _ ⟨bc_,bc_,bc_,bc_,bc_,bc_⟩ (fun hHeld=>?_);clear hK K;refine no_ (h:=?_);refine one_ (i:=21) (N:=some 26) (bm 24 4194303) rfl rfl (one_of HT_.out (by kernel_rfl)) (by decide) (fun K hK=>?_);refine goes_ Tryd.func58 (by kernel_rfl) rfl #[.int .i64 t150,.int .i64 0,.int .i64 t151] (by rfl) rfl rfl ma_ ?_
  with_reducible refine (spec_l6In.calls t150 0 t151 t152 _ A7.out).mono ?_
  rintro e w' ⟨rfl,⟨nd,rfl⟩⟩;refine⟨_,rfl,?_⟩;refine hK.out _ _ ⟨bc_,bc_,bc_,bc_,bc_,bc_⟩ (fun hHeld=>?_);clear hK K;refine no_ (h:=?_);refine pu_ HT_ 22 27 (bm 24 8388607) ?_;refine pu_ HT_ 23 4 (bm 24 16777215) ?_;refine done_ (done_of HT_.out (by kernel_rfl)) ?_
  try go_wp2
  go_ret;exact⟨rr_,hB_⟩
 ·
  rw [if_neg c4] at H;have c4b0:(t149==0)=false:=beq_eq_false_iff_ne.mpr c4;have c4b1:(t149 != 0)=true:=bne_iff_ne.mpr c4;obtain rfl:=Option.some.inj H;go_enter Tryd.func100,Tryd.ntmps100
  try go_wp2_with (first | ((with_reducible refine gate_dst (N:=2) rfl ?_);refine bx_ (N:=2) (cs:=#[.int .i64 a0_0,.int .i64 a0_1,.int .i64 a0_2,.int .i64 a0_3]) (t:=61) (h:=?_);intro gb147 hg w14 hbox hb;have BK147:=a0_ (hbox);have GW147:=gh_ HB hg;have GE147:=gh_ HB hg;replace HB:=sb_ HB hb;clear hb hbox hg) | ((with_reducible refine gate_dst (N:=3) rfl ?_);refine bx_ (N:=3) (cs:=#[.int .i64 a1_0,.int .i64 a1_1]) (t:=28) (h:=?_);intro gb148 hg w15 hbox hb;have BK148:=a0_ (hbox);have GW148:=gh_ HB hg;have GE148:=gh_ HB hg;have NB147_148:=nl_ BK147 hg;have NB148_147:=nr_ BK147 hg;replace BK147:=vb_ BK147 hb;replace HB:=sb_ HB hb;clear hb hbox hg))
  replace BK147:=a0_ (blk_drew BK147.out);replace BK148:=a0_ (blk_drew BK148.out);replace HB:=a0_ (below_drew1 HB.out);refine start_ (n:=24) (S:=fun w'=>w'.cell? ⟨gb147,0,none⟩=some (.int .i64 a0_0)∧w'.cell? ⟨gb147,1,none⟩=some (.int .i64 a0_1)∧w'.cell? ⟨gb147,2,none⟩=some (.int .i64 a0_2)∧w'.cell? ⟨gb147,3,none⟩=some (.int .i64 a0_3)∧w'.cell? ⟨gb148,0,none⟩=some (.int .i64 a1_0)∧w'.cell? ⟨gb148,1,none⟩=some (.int .i64 a1_1)) (ds:=[]) (Array.replicate 24 false) (by kernel_rfl) rfl rfl ⟨bc_,bc_,bc_,bc_,bc_,bc_⟩ (fun hHeld=>?_);refine with_tabW spec_l2Has.tab1 spec_l2Has.bits1 (fun HT_ HW_=>?_);generalize w15.drew=w16 at BK147 BK148 HB hHeld ⊢
  refine pu_ HT_ 0 5 (bm 24 1) ?_;refine pu_ HT_ 2 7 (bm 24 5) ?_;refine ta6_ HT_ HW_ 1 6 (bm 24 7) hHeld ?_;refine ta6_ HT_ HW_ 3 8 (bm 24 15) hHeld ?_;refine ta6_ HT_ HW_ 4 9 (bm 24 31) hHeld ?_;refine one_ (i:=5) (N:=some 10) (bm 24 63) rfl rfl (one_of HT_.out (by kernel_rfl)) (by decide) (fun K hK=>?_);refine goes_ Tryd.func102 (by kernel_rfl) rfl #[.agg #[.int .i64 a0_0,.int .i64 a0_1],.agg #[.int .i64 a0_2,.int .i64 a0_3],.agg #[.int .i64 a1_0,.int .i64 a1_1]] (by rfl) rfl rfl ma_ ?_
  with_reducible refine (spec_l2Cross.calls a0_0 a0_1 a0_2 a0_3 a1_0 a1_1 t149 _ A3.out).mono ?_
  rintro e w17 ⟨rfl,hb⟩;refine⟨_,rfl,?_⟩;replace BK147:=vb_ BK147 hb;replace BK148:=vb_ BK148 hb;replace HB:=sb_ HB hb
  (try clear hb)
  (try clear hb2)
  (try clear hk)
  (try clear hi)
  refine hK.out _ _ ⟨bc_,bc_,bc_,bc_,bc_,bc_⟩ (fun hHeld=>?_);clear hK K;refine no_ (h:=?_);refine pu_ HT_ 6 11 (bm 24 127) ?_;refine pu_ HT_ 7 12 (bm 24 255) ?_;refine pz_ HT_ 8 13 (bm 24 511) ?_;refine pz_ HT_ 9 14 (bm 24 1023) ?_;refine pz_ HT_ 10 15 (bm 24 2047) ?_;refine pz_ HT_ 11 16 (bm 24 4095) ?_;refine pz_ HT_ 12 17 (bm 24 8191) ?_;refine pz_ HT_ 13 18 (bm 24 16383) ?_;refine pz_ HT_ 14 19 (bm 24 32767) ?_;refine pz_ HT_ 15 20 (bm 24 65535) ?_;refine pz_ HT_ 16 21 (bm 24 131071) ?_;refine pz_ HT_ 17 22 (bm 24 262143) ?_;refine pz_ HT_ 18 23 (bm 24 524287) ?_;refine pz_ HT_ 19 24 (bm 24 1048575) ?_;refine pz_ HT_ 20 25 (bm 24 2097151) ?_;refine pz_ HT_ 21 26 (bm 24 4194303) ?_;refine pu_ HT_ 22 27 (bm 24 8388607) ?_;refine pu_ HT_ 23 4 (bm 24 16777215) ?_;refine done_ (done_of HT_.out (by kernel_rfl)) ?_
  try go_wp2
  go_ret;exact⟨rr_,hB_⟩
def spec_l2Sign.f (a0:Int):Option (Int):=if a0<0 then (some (-1)) else (if a0>0 then (some 1) else (some 0))
set_option maxHeartbeats 8000000 in
set_option maxRecDepth 100000 in
theorem spec_l2Sign.calls (a0:Int)(r:Int)(w:World)(h:spec_l2Sign.f a0=some r):
  Calls Tryd.prog 118 #[.int .i64 a0] w fun e w'=>e=.returned (.int .i64 r)∧Drawn0 w w':=by
 have H:(if a0<0 then (some (-1)) else (if a0>0 then (some 1) else (some 0)))=some r:=h;clear h;by_cases c2:a0<0
 ·
  rw [if_pos c2] at H;have c2b0:decide (a0<0)=true:=decide_eq_true c2;clear c2;obtain rfl:=Option.some.inj H;go_enter Tryd.func118,Tryd.ntmps118;go_wp2;go_ret;exact⟨by first | rfl | (simp;done) | (simp [*];done),by repeat (first | exact Drawn0.refl _ | apply Drawn0.step)⟩
 ·
  rw [if_neg c2] at H;have c2b0:decide (a0<0)=false:=decide_eq_false c2;clear c2;by_cases c3:a0>0
  ·
   rw [if_pos c3] at H;have c3b0:decide (0<a0)=true:=decide_eq_true c3;clear c3;obtain rfl:=Option.some.inj H;go_enter Tryd.func118,Tryd.ntmps118;go_wp2;go_ret;exact⟨by first | rfl | (simp;done) | (simp [*];done),by repeat (first | exact Drawn0.refl _ | apply Drawn0.step)⟩
  ·
   rw [if_neg c3] at H;have c3b0:decide (0<a0)=false:=decide_eq_false c3;clear c3;obtain rfl:=Option.some.inj H;go_enter Tryd.func118,Tryd.ntmps118;go_wp2;go_ret;exact⟨by first | rfl | (simp;done) | (simp [*];done),by repeat (first | exact Drawn0.refl _ | apply Drawn0.step)⟩
def spec_l1Cmp.f (a0_0:Int)(a0_1:Int)(a1_0:Int)(a1_1:Int):Option (Int):=if (wrap64 (a0_0*a1_1))<(wrap64 (a1_0*a0_1)) then (some (-1)) else (if (wrap64 (a0_0*a1_1))>(wrap64 (a1_0*a0_1)) then (some 1) else (some 0))
set_option maxHeartbeats 8000000 in
set_option maxRecDepth 100000 in
theorem spec_l1Cmp.calls (a0_0:Int)(a0_1:Int)(a1_0:Int)(a1_1:Int)(r:Int)(w:World)(h:spec_l1Cmp.f a0_0 a0_1 a1_0 a1_1=some r):
  Calls Tryd.prog 120 #[.agg #[.int .i64 a0_0,.int .i64 a0_1],.agg #[.int .i64 a1_0,.int .i64 a1_1]] w fun e w'=>e=.returned (.int .i64 r)∧Below w.heap.size w w':=by
 have hu35:=Tryd.underlying35;have HB:=a0_ (Below.refl w.heap.size w);have H:(if (wrap64 (a0_0*a1_1))<(wrap64 (a1_0*a0_1)) then (some (-1)) else (if (wrap64 (a0_0*a1_1))>(wrap64 (a1_0*a0_1)) then (some 1) else (some 0)))=some r:=h;clear h;by_cases c3:(wrap64 (a0_0*a1_1))<(wrap64 (a1_0*a0_1))
 ·
  rw [if_pos c3] at H;have c3b0:decide ((wrap64 (a0_0*a1_1))<(wrap64 (a1_0*a0_1)))=true:=decide_eq_true c3;clear c3;obtain rfl:=Option.some.inj H;go_enter Tryd.func120,Tryd.ntmps120;go_wp2_with (first | ((with_reducible refine gate_dst (N:=2) rfl ?_);refine bx_ (N:=2) (cs:=#[.int .i64 a0_0,.int .i64 a0_1]) (t:=35) (h:=?_);intro gb571 hg w4 hbox hb;have BK571:=a0_ (hbox);have GW571:=gh_ HB hg;have GE571:=gh_ HB hg;replace HB:=sb_ HB hb;clear hb hbox hg) | ((with_reducible refine gate_dst (N:=3) rfl ?_);refine bx_ (N:=3) (cs:=#[.int .i64 a1_0,.int .i64 a1_1]) (t:=35) (h:=?_);intro gb572 hg w5 hbox hb;have BK572:=a0_ (hbox);have GW572:=gh_ HB hg;have GE572:=gh_ HB hg;have NB571_572:=nl_ BK571 hg;have NB572_571:=nr_ BK571 hg;replace BK571:=vb_ BK571 hb;replace HB:=sb_ HB hb;clear hb hbox hg;have hnb6:=NB571_572.out;have hnc6:=NB572_571.out;have hcz7_0:=c20_ BK571;have hcz7_1:=c21_ BK571;have hfz7_0:=fz_ BK571 0;have hfz7_1:=fz_ BK571 1;have hcz8_0:=c20_ BK572;have hcz8_1:=c21_ BK572;have hfz8_0:=fz_ BK572 0;have hfz8_1:=fz_ BK572 1));go_ret;exact⟨rr_,hB_⟩
 ·
  rw [if_neg c3] at H;have c3b0:decide ((wrap64 (a0_0*a1_1))<(wrap64 (a1_0*a0_1)))=false:=decide_eq_false c3;clear c3;by_cases c9:(wrap64 (a0_0*a1_1))>(wrap64 (a1_0*a0_1))
  ·
   rw [if_pos c9] at H;have c9b0:decide ((wrap64 (a1_0*a0_1))<(wrap64 (a0_0*a1_1)))=true:=decide_eq_true c9;clear c9;obtain rfl:=Option.some.inj H;go_enter Tryd.func120,Tryd.ntmps120;go_wp2_with (first | ((with_reducible refine gate_dst (N:=2) rfl ?_);refine bx_ (N:=2) (cs:=#[.int .i64 a0_0,.int .i64 a0_1]) (t:=35) (h:=?_);intro gb571 hg w10 hbox hb;have BK571:=a0_ (hbox);have GW571:=gh_ HB hg;have GE571:=gh_ HB hg;replace HB:=sb_ HB hb;clear hb hbox hg) | ((with_reducible refine gate_dst (N:=3) rfl ?_);refine bx_ (N:=3) (cs:=#[.int .i64 a1_0,.int .i64 a1_1]) (t:=35) (h:=?_);intro gb572 hg w11 hbox hb;have BK572:=a0_ (hbox);have GW572:=gh_ HB hg;have GE572:=gh_ HB hg;have NB571_572:=nl_ BK571 hg;have NB572_571:=nr_ BK571 hg;replace BK571:=vb_ BK571 hb;replace HB:=sb_ HB hb;clear hb hbox hg;have hnb12:=NB571_572.out;have hnc12:=NB572_571.out;have hcz13_0:=c20_ BK571;have hcz13_1:=c21_ BK571;have hfz13_0:=fz_ BK571 0;have hfz13_1:=fz_ BK571 1;have hcz14_0:=c20_ BK572;have hcz14_1:=c21_ BK572;have hfz14_0:=fz_ BK572 0;have hfz14_1:=fz_ BK572 1));go_ret;exact⟨rr_,hB_⟩
  ·
   rw [if_neg c9] at H;have c9b0:decide ((wrap64 (a1_0*a0_1))<(wrap64 (a0_0*a1_1)))=false:=decide_eq_false c9;clear c9;obtain rfl:=Option.some.inj H;go_enter Tryd.func120,Tryd.ntmps120;go_wp2_with (first | ((with_reducible refine gate_dst (N:=2) rfl ?_);refine bx_ (N:=2) (cs:=#[.int .i64 a0_0,.int .i64 a0_1]) (t:=35) (h:=?_);intro gb571 hg w15 hbox hb;have BK571:=a0_ (hbox);have GW571:=gh_ HB hg;have GE571:=gh_ HB hg;replace HB:=sb_ HB hb;clear hb hbox hg) | ((with_reducible refine gate_dst (N:=3) rfl ?_);refine bx_ (N:=3) (cs:=#[.int .i64 a1_0,.int .i64 a1_1]) (t:=35) (h:=?_);intro gb572 hg w16 hbox hb;have BK572:=a0_ (hbox);have GW572:=gh_ HB hg;have GE572:=gh_ HB hg;have NB571_572:=nl_ BK571 hg;have NB572_571:=nr_ BK571 hg;replace BK571:=vb_ BK571 hb;replace HB:=sb_ HB hb;clear hb hbox hg;have hnb17:=NB571_572.out;have hnc17:=NB572_571.out;have hcz18_0:=c20_ BK571;have hcz18_1:=c21_ BK571;have hfz18_0:=fz_ BK571 0;have hfz18_1:=fz_ BK571 1;have hcz19_0:=c20_ BK572;have hcz19_1:=c21_ BK572;have hfz19_0:=fz_ BK572 0;have hfz19_1:=fz_ BK572 1));go_ret;exact⟨rr_,hB_⟩
def spec_l2Least.f (a0_0:Int)(a0_1:Int)(a1_0:Int)(a1_1:Int):Option (Int × Int):=(spec_l1Cmp.f a1_0 a1_1 a0_0 a0_1).bind fun t576=>(if t576<0 then (some (a1_0,a1_1)) else (some (a0_0,a0_1)))
set_option maxHeartbeats 8000000 in
set_option maxRecDepth 100000 in
theorem spec_l2Least.calls (a0_0:Int)(a0_1:Int)(a1_0:Int)(a1_1:Int)(r1:Int)(r2:Int)(w:World)(h:spec_l2Least.f a0_0 a0_1 a1_0 a1_1=some (r1,r2)):
  Calls Tryd.prog 108 #[.agg #[.int .i64 a0_0,.int .i64 a0_1],.agg #[.int .i64 a1_0,.int .i64 a1_1]] w fun e w'=>e=.returned (.agg #[.int .i64 r1,.int .i64 r2])∧Below w.heap.size w w':=by
 have hu35:=Tryd.underlying35;have HB:=a0_ (Below.refl w.heap.size w);have H:((spec_l1Cmp.f a1_0 a1_1 a0_0 a0_1).bind fun t576=>(if t576<0 then (some (a1_0,a1_1)) else (some (a0_0,a0_1))))=some (r1,r2):=h;clear h;replace H:=Option.bind_eq_some_iff.mp H;obtain⟨t576,A30,H⟩:=H
 (try dsimp only at H)
 have A3:=Aside0.mk A30;clear A30;by_cases c4:t576<0
 ·
  rw [if_pos c4] at H;have c4b0:decide (t576<0)=true:=decide_eq_true c4;clear c4;simp only [Option.some.injEq,Prod.mk.injEq] at H;obtain⟨rfl,rfl⟩:=H;go_enter Tryd.func108,Tryd.ntmps108
  go_wp2_with (first | ((with_reducible refine gate_dst (N:=2) rfl ?_);refine bx_ (N:=2) (cs:=#[.int .i64 a0_0,.int .i64 a0_1]) (t:=35) (h:=?_);intro gb573 hg w5 hbox hb;have BK573:=a0_ (hbox);have GW573:=gh_ HB hg;have GE573:=gh_ HB hg;replace HB:=sb_ HB hb;clear hb hbox hg) | ((with_reducible refine gate_dst (N:=3) rfl ?_);refine bx_ (N:=3) (cs:=#[.int .i64 a1_0,.int .i64 a1_1]) (t:=35) (h:=?_);intro gb574 hg w6 hbox hb;have BK574:=a0_ (hbox);have GW574:=gh_ HB hg;have GE574:=gh_ HB hg;have NB573_574:=nl_ BK573 hg;have NB574_573:=nr_ BK573 hg;replace BK573:=vb_ BK573 hb;replace HB:=sb_ HB hb;clear hb hbox hg) | ((with_reducible refine gate_dst (N:=4) rfl ?_);refine bx_ (N:=4) (cs:=#[.int .i64 0,.int .i64 0]) (t:=35) (h:=?_);intro gb575 hg w7 hbox hb;have BK575:=a0_ (hbox);have GW575:=gh_ HB hg;have GE575:=gh_ HB hg;have NB573_575:=nl_ BK573 hg;have NB575_573:=nr_ BK573 hg;have NB574_575:=nl_ BK574 hg;have NB575_574:=nr_ BK574 hg;replace BK573:=vb_ BK573 hb;replace BK574:=vb_ BK574 hb;replace HB:=sb_ HB hb;clear hb hbox hg;have hnb8:=NB574_573.out;have hnc8:=NB573_574.out;have hnb9:=NB574_575.out;have hnc9:=NB575_574.out;have hcz10_0:=c20_ BK574;have hcz10_1:=c21_ BK574;have hfz10_0:=fz_ BK574 0;have hfz10_1:=fz_ BK574 1;have hnb11:=NB573_575.out;have hnc11:=NB575_573.out;have hcz12_0:=c20_ BK573;have hcz12_1:=c21_ BK573;have hfz12_0:=fz_ BK573 0;have hfz12_1:=fz_ BK573 1) | ((with_reducible refine gate_callee (f:=120) rfl ?_);refine gL_ (some 7) Tryd.func120 #[.agg #[.int .i64 a1_0,.int .i64 a1_1],.agg #[.int .i64 a0_0,.int .i64 a0_1]] (h:=?_);(with_reducible refine (spec_l1Cmp.calls a1_0 a1_1 a0_0 a0_1 t576 _ A3.out).mono ?_);rintro e w13 ⟨rfl,hb⟩;refine⟨_,rfl,?_⟩;replace BK573:=vb_ BK573 hb;replace BK574:=vb_ BK574 hb;replace BK575:=vb_ BK575 hb;replace HB:=sb_ HB hb;(try clear hb);have hcz14_0:=c20_ BK574;have hcz14_1:=c21_ BK574;have hfz14_0:=fz_ BK574 0;have hfz14_1:=fz_ BK574 1;have hcz15_0:=c20_ BK575;have hcz15_1:=c21_ BK575;have hfz15_0:=fz_ BK575 0;have hfz15_1:=fz_ BK575 1))
  refine bodyPost_ret (results_cell_row rfl _ _ gb575 35 #[.int .i64 a1_0,.int .i64 a1_1] (0,0) _ rfl (by (with_reducible repeat (first | refine blk_drewN ?_ _ | refine blk_drew ?_ | refine blk_alloc ?_ _));refine blk_put (cs:=#[.int .i64 a1_0,.int .i64 0]) ?_ 1 _ rfl;(with_reducible repeat (first | refine blk_drewN ?_ _ | refine blk_drew ?_ | refine blk_alloc ?_ _));refine blk_put (cs:=#[.int .i64 0,.int .i64 0]) ?_ 0 _ rfl;(with_reducible repeat (first | refine blk_drewN ?_ _ | refine blk_drew ?_ | refine blk_alloc ?_ _));exact BK575.out) Tryd.underlying35 rfl (by kernel_rfl)) rfl ?_;exact⟨rr_,hB_⟩
 ·
  rw [if_neg c4] at H;have c4b0:decide (t576<0)=false:=decide_eq_false c4;clear c4;simp only [Option.some.injEq,Prod.mk.injEq] at H;obtain⟨rfl,rfl⟩:=H;go_enter Tryd.func108,Tryd.ntmps108
  go_wp2_with (first | ((with_reducible refine gate_dst (N:=2) rfl ?_);refine bx_ (N:=2) (cs:=#[.int .i64 a0_0,.int .i64 a0_1]) (t:=35) (h:=?_);intro gb573 hg w16 hbox hb;have BK573:=a0_ (hbox);have GW573:=gh_ HB hg;have GE573:=gh_ HB hg;replace HB:=sb_ HB hb;clear hb hbox hg) | ((with_reducible refine gate_dst (N:=3) rfl ?_);refine bx_ (N:=3) (cs:=#[.int .i64 a1_0,.int .i64 a1_1]) (t:=35) (h:=?_);intro gb574 hg w17 hbox hb;have BK574:=a0_ (hbox);have GW574:=gh_ HB hg;have GE574:=gh_ HB hg;have NB573_574:=nl_ BK573 hg;have NB574_573:=nr_ BK573 hg;replace BK573:=vb_ BK573 hb;replace HB:=sb_ HB hb;clear hb hbox hg) | ((with_reducible refine gate_dst (N:=4) rfl ?_);refine bx_ (N:=4) (cs:=#[.int .i64 0,.int .i64 0]) (t:=35) (h:=?_);intro gb575 hg w18 hbox hb;have BK575:=a0_ (hbox);have GW575:=gh_ HB hg;have GE575:=gh_ HB hg;have NB573_575:=nl_ BK573 hg;have NB575_573:=nr_ BK573 hg;have NB574_575:=nl_ BK574 hg;have NB575_574:=nr_ BK574 hg;replace BK573:=vb_ BK573 hb;replace BK574:=vb_ BK574 hb;replace HB:=sb_ HB hb;clear hb hbox hg;have hnb19:=NB574_573.out;have hnc19:=NB573_574.out;have hnb20:=NB574_575.out;have hnc20:=NB575_574.out;have hcz21_0:=c20_ BK574;have hcz21_1:=c21_ BK574;have hfz21_0:=fz_ BK574 0;have hfz21_1:=fz_ BK574 1;have hnb22:=NB573_575.out;have hnc22:=NB575_573.out;have hcz23_0:=c20_ BK573;have hcz23_1:=c21_ BK573;have hfz23_0:=fz_ BK573 0;have hfz23_1:=fz_ BK573 1) | ((with_reducible refine gate_callee (f:=120) rfl ?_);refine gL_ (some 7) Tryd.func120 #[.agg #[.int .i64 a1_0,.int .i64 a1_1],.agg #[.int .i64 a0_0,.int .i64 a0_1]] (h:=?_);(with_reducible refine (spec_l1Cmp.calls a1_0 a1_1 a0_0 a0_1 t576 _ A3.out).mono ?_);rintro e w24 ⟨rfl,hb⟩;refine⟨_,rfl,?_⟩;replace BK573:=vb_ BK573 hb;replace BK574:=vb_ BK574 hb;replace BK575:=vb_ BK575 hb;replace HB:=sb_ HB hb;(try clear hb);have hcz25_0:=c20_ BK573;have hcz25_1:=c21_ BK573;have hfz25_0:=fz_ BK573 0;have hfz25_1:=fz_ BK573 1;have hcz26_0:=c20_ BK575;have hcz26_1:=c21_ BK575;have hfz26_0:=fz_ BK575 0;have hfz26_1:=fz_ BK575 1))
  refine bodyPost_ret (results_cell_row rfl _ _ gb575 35 #[.int .i64 a0_0,.int .i64 a0_1] (0,0) _ rfl (by (with_reducible repeat (first | refine blk_drewN ?_ _ | refine blk_drew ?_ | refine blk_alloc ?_ _));refine blk_put (cs:=#[.int .i64 a0_0,.int .i64 0]) ?_ 1 _ rfl;(with_reducible repeat (first | refine blk_drewN ?_ _ | refine blk_drew ?_ | refine blk_alloc ?_ _));refine blk_put (cs:=#[.int .i64 0,.int .i64 0]) ?_ 0 _ rfl;(with_reducible repeat (first | refine blk_drewN ?_ _ | refine blk_drew ?_ | refine blk_alloc ?_ _));exact BK575.out) Tryd.underlying35 rfl (by kernel_rfl)) rfl ?_;exact⟨rr_,hB_⟩
end Go.Proofs.YtkefmnmoaomlhaaDoor.X
end
section
set_option linter.unusedVariables false
set_option linter.unusedSimpArgs false
namespace Go.Proofs.YtkefmnmoaomlhaaDoor.X
open Go.RowKit Go.Proofs.YtkefmnmoaomlhaaDoorW.PrintWords Go.Proofs.YtkefmnmoaomlhaaDoorW.PrintLast Go.Proofs.YtkefmnmoaomlhaaDoorW.PrintMore
open Mort
theorem iPtOk (x y:Int):impl_PtOk.f x y=some (ptOk (x,y)):=by
 unfold impl_PtOk.f ptOk;by_cases h1:0≤x <;> by_cases h2:x≤9 <;> by_cases h3:0≤y <;> by_cases h4:y≤9 <;> simp [h1,h2,h3,h4]
theorem sPtOk (x y:Int):spec_PtOk.f x y=some (ptOk (x,y)):=by
 unfold spec_PtOk.f ptOk;simp only [l6In_told,Option.bind_some];by_cases h1:0≤x <;> by_cases h2:x≤9 <;> by_cases h3:0≤y <;> by_cases h4:y≤9 <;> simp [h1,h2,h3,h4]
theorem iSegOk (a b c d:Int):impl_SegOk.f a b c d=some (segOk ((a,b),(c,d))):=by
 unfold impl_SegOk.f segOk;simp only [iPtOk,Option.bind_some];cases ptOk (a,b) <;> cases ptOk (c,d) <;> simp [Bool.not_and]
theorem sSegOk (a b c d:Int):spec_SegOk.f a b c d=some (segOk ((a,b),(c,d))):=by
 unfold spec_SegOk.f segOk;simp only [sPtOk,Option.bind_some];cases ptOk (a,b) <;> cases ptOk (c,d) <;> simp [Bool.not_and]
section
variable {a b c d e f:Int} (h1:ptOk (a,b)=true) (h2:ptOk (c,d)=true) (h3:ptOk (e,f)=true)
include h1 h2 h3
theorem cross_nowrap:wrap64 ((wrap64 ((wrap64 (c-a))*(wrap64 (f-b))))-(wrap64 ((wrap64 (d-b))*(wrap64 (e-a)))))=cross (a,b) (c,d) (e,f):=by
 rw [ptOk_iff] at h1 h2 h3;simp only at h1 h2 h3;rw [w64 (x:=c-a) (by omega) (by omega),w64 (x:=f-b) (by omega) (by omega),w64 (x:=d-b) (by omega) (by omega),w64 (x:=e-a) (by omega) (by omega)];have b1:=mul_bound (x:=c-a) (y:=f-b) (by omega) (by omega) (by omega) (by omega);have b2:=mul_bound (x:=d-b) (y:=e-a) (by omega) (by omega) (by omega) (by omega);rw [w64 (x:=(c-a)*(f-b)) (by omega) (by omega),w64 (x:=(d-b)*(e-a)) (by omega) (by omega),w64 (by omega) (by omega)];rfl
theorem dot_nowrap:wrap64 ((wrap64 ((wrap64 (c-a))*(wrap64 (e-a))))+(wrap64 ((wrap64 (d-b))*(wrap64 (f-b)))))=dot (a,b) (c,d) (e,f):=by
 rw [ptOk_iff] at h1 h2 h3;simp only at h1 h2 h3;rw [w64 (x:=c-a) (by omega) (by omega),w64 (x:=f-b) (by omega) (by omega),w64 (x:=d-b) (by omega) (by omega),w64 (x:=e-a) (by omega) (by omega)];have b1:=mul_bound (x:=c-a) (y:=e-a) (by omega) (by omega) (by omega) (by omega);have b2:=mul_bound (x:=d-b) (y:=f-b) (by omega) (by omega) (by omega) (by omega);rw [w64 (x:=(c-a)*(e-a)) (by omega) (by omega),w64 (x:=(d-b)*(f-b)) (by omega) (by omega),w64 (by omega) (by omega)];rfl
theorem iCross:impl_cross.f a b c d e f=some (cross (a,b) (c,d) (e,f)):=congrArg some (cross_nowrap h1 h2 h3)
theorem iAlong:impl_along.f a b c d e f=some (dot (a,b) (c,d) (e,f)):=congrArg some (dot_nowrap h1 h2 h3)
theorem sCross:spec_l2Cross.f a b c d e f=some (cross (a,b) (c,d) (e,f)):=congrArg some (cross_nowrap h1 h2 h3)
theorem sDot:spec_l2Dot.f a b c d e f=some (dot (a,b) (c,d) (e,f)):=congrArg some (dot_nowrap h1 h2 h3)
end
theorem iBetween {a b c d:Int}(h1:ptOk (a,b)=true)(h2:ptOk (c,d)=true):impl_between.f a b c d=some (dot (a,b) (c,d) (c,d)):=by
 unfold impl_between.f;rw [iAlong h1 h2 h2];rfl
theorem segOk_ends {a b c d:Int}(h:segOk ((a,b),(c,d))=true):ptOk (a,b)=true∧ptOk (c,d)=true:=⟨((segOk_iff _).1 h).1,((segOk_iff _).1 h).2.1⟩
theorem iSegHas {k:Nat}(hk:1≤k)(a b c d e f:Int):impl_SegHas.f k a b c d e f=some (segHas ((a,b),(c,d)) (e,f)):=by
 obtain⟨k,rfl⟩:∃ m,k=m+1:=⟨k-1,by omega⟩;unfold impl_SegHas.f segHas has;simp only [impl_SegHas.j0,iSegOk,iPtOk,Option.bind_some]
 cases hs:segOk ((a,b),(c,d)) with
 | false=>simp
 | true =>
  cases hp:ptOk (e,f) with
  | false=>simp
  | true =>
   obtain⟨o1,o2⟩:=segOk_ends hs;simp only [if_true,iCross o1 o2 hp,iAlong o1 o2 hp,iBetween o1 o2,Option.bind_some];by_cases z:cross (a,b) (c,d) (e,f)=0
   ·
    simp only [z,bne_self_eq_false,Bool.false_eq_true,if_false,beq_self_eq_true,Bool.true_and];by_cases z1:0≤dot (a,b) (c,d) (e,f)
    ·
     rw [if_pos z1,decide_eq_true z1];rfl
    ·
     rw [if_neg z1,decide_eq_false z1];rfl
   ·
    rw [bne_iff_ne.mpr z,beq_eq_false_iff_ne.mpr z];rfl
theorem iSegTurn {k:Nat}(hk:1≤k)(a b c d e f:Int):impl_SegTurn.f k a b c d e f=some (segTurn (a,b) (c,d) (e,f)):=by
 obtain⟨k,rfl⟩:∃ m,k=m+1:=⟨k-1,by omega⟩;unfold impl_SegTurn.f segTurn;simp only [impl_SegTurn.j0,iPtOk,Option.bind_some]
 cases h1:ptOk (a,b) with
 | false=>simp
 | true =>
  cases h2:ptOk (c,d) with
  | false=>simp
  | true =>
   cases h3:ptOk (e,f) with
   | false=>simp
   | true =>
    simp only [if_true,Bool.not_true,Bool.false_eq_true,if_false,iCross h1 h2 h3,Option.bind_some,Bool.and_self];unfold sgn;by_cases z:cross (a,b) (c,d) (e,f)>0
    ·
     rw [if_pos z,if_neg (by omega),if_pos z]
    ·
     rw [if_neg z];by_cases z':cross (a,b) (c,d) (e,f)<0
     ·
      rw [if_pos z',if_pos z']
     ·
      rw [if_neg z',if_neg z',if_neg z]
theorem sgn_in (n:Int): -1≤sgn n∧sgn n≤1:=by unfold sgn;split <;> (try split) <;> omega
theorem turn_mul (x y:Int):wrap64 (sgn x*sgn y)=sgn x*sgn y:=by
 have h1:=sgn_in x;have h2:=sgn_in y;have h3:=mul_bound (x:=sgn x) (y:=sgn y) (by omega) (by omega) (by omega) (by omega);exact w64 (by omega) (by omega)
theorem iSegMeet {k:Nat}(hk:3≤k)(a b c d e f g h:Int):impl_SegMeet.f k a b c d e f g h=some (segMeet ((a,b),(c,d)) ((e,f),(g,h))):=by
 obtain⟨k,rfl⟩:∃ m,k=m+1+1:=⟨k-2,by omega⟩;unfold impl_SegMeet.f segMeet;simp only [impl_SegMeet.j0,iSegOk,Option.bind_some]
 cases hs:segOk ((a,b),(c,d)) with
 | false=>simp
 | true =>
  cases ht:segOk ((e,f),(g,h)) with
  | false=>simp
  | true =>
   obtain⟨o1,o2⟩:=segOk_ends hs;obtain⟨o3,o4⟩:=segOk_ends ht;simp only [if_true,Bool.not_true,Bool.false_eq_true,if_false,Bool.true_and];simp only [iSegHas (show 1≤k+1 by omega),iSegTurn (show 1≤k by omega),impl_SegMeet.j1,Option.bind_some,if_true];unfold segHas segTurn meet;simp only [hs,ht,o1,o2,o3,o4,Bool.true_and,Bool.and_self,if_true,turn_mul];cases has ((a,b),(c,d)) (e,f) <;> simp
   cases has ((a,b),(c,d)) (g,h) <;> simp
   cases has ((e,f),(g,h)) (a,b) <;> simp
   cases has ((e,f),(g,h)) (c,d) <;> simp
   by_cases z:sgn (cross (a,b) (c,d) (e,f))*sgn (cross (a,b) (c,d) (g,h))<0
   ·
    simp [z]
   ·
    simp [z]
theorem red_whole {n:Int}(h0:0≤n)(h1:n≤99999):red (n,1)=(n,1):=red_of_ok (fracOk_whole h0 h1)
theorem sL2Far {k:Nat}(hk:100000≤k){a b c d e f:Int}(hs:segOk ((a,b),(c,d))=true)(hp:ptOk (e,f)=true):
  spec_l2Far.f k a b c d e f=some ((red (far ((a,b),(c,d)) (e,f))).1,(red (far ((a,b),(c,d)) (e,f))).2):=by
 obtain⟨o1,o2⟩:=segOk_ends hs;have hin:=far_inR hs hp;unfold spec_l2Far.f far at *;simp only [sDot o1 o2 hp,sDot o1 o2 o2,sDot o1 hp hp,sDot o2 hp hp,sCross o1 o2 hp,Option.bind_some];by_cases z:dot (a,b) (c,d) (e,f)≤0
 ·
  rw [if_pos z,if_pos z,red_whole (dot_self_nn _ _) (by have:=(dot_bound o1 hp hp).2;omega)]
 ·
  rw [if_neg z,if_neg z];rw [if_neg z] at hin;by_cases z':dot (a,b) (c,d) (c,d)≤dot (a,b) (c,d) (e,f)
  ·
   rw [if_pos z',if_pos z',red_whole (dot_self_nn _ _) (by have:=(dot_bound o2 hp hp).2;omega)]
  ·
   rw [if_neg z',if_neg z'];rw [if_neg z'] at hin;have hc:=cross_bound o1 o2 hp;have hq:=sq_bound hc.1 hc.2;have hq':=isq_nn (cross (a,b) (c,d) (e,f));rw [w64 (by omega) (by omega),l1Of_told hk hin];rfl
theorem iFracOf {k:Nat}(hk:100000≤k){n d:Int}(h:inR (n,d)):impl_FracOf.f k n d=some ((red (n,d)).1,(red (n,d)).2,true):=by
 obtain⟨a1,a2,a3,a4⟩:=h;simp only at a1 a2 a3 a4;have hg:=gcd_pos (f:=(n,d)) ⟨a1,a2,a3,a4⟩;unfold impl_FracOf.f;rw [if_neg (by omega),if_neg (by omega),if_neg (by omega),if_neg (by omega),gcd_told' a1 (by omega) (by omega)];simp only [Option.bind_some];simp only at hg;rw [if_neg (by omega)];have e1:Int.tdiv n (Int.gcd n d:Int)=n / (Int.gcd n d:Int):=Int.tdiv_eq_ediv_of_nonneg a1;have e2:Int.tdiv d (Int.gcd n d:Int)=d / (Int.gcd n d:Int):=Int.tdiv_eq_ediv_of_nonneg (by omega);have r:=red_inR (f:=(n,d)) ⟨a1,a2,a3,a4⟩;obtain⟨r1,r2,r3,r4⟩:=r;unfold red at r1 r2 r3 r4 ⊢
 simp only at r1 r2 r3 r4 ⊢
 rw [e1,e2,w64 (by omega) (by omega),w64 (by omega) (by omega)]
theorem iFracOf1 {k:Nat}(hk:100000≤k){n:Int}(h0:0≤n)(h1:n≤99999):impl_FracOf.f k n 1=some (n,1,true):=by
 rw [iFracOf hk (d:=1) ⟨h0,h1,Int.le_refl 1,by show (1:Int)≤99999;omega⟩,red_whole h0 h1]
theorem iStandOf {a b c d e f:Int}(hs:segOk ((a,b),(c,d))=true)(hp:ptOk (e,f)=true):
  impl_standOf.f a b c d e f=some (if dot (a,b) (c,d) (e,f)≤0 then 0 else if dot (a,b) (c,d) (c,d)≤dot (a,b) (c,d) (e,f) then 2 else 1):=by
 obtain⟨o1,o2⟩:=segOk_ends hs;unfold impl_standOf.f;simp only [iAlong o1 o2 hp,iBetween o1 o2,Option.bind_some]
 split
 ·
  rfl
 ·
  simp only [ge_iff_le];split <;> rfl
theorem sSign (n:Int):spec_l2Sign.f n=some (sgn n):=by
 unfold spec_l2Sign.f sgn
 split
 ·
  rfl
 ·
  split <;> rfl
theorem sHas {a b c d e f:Int}(h1:ptOk (a,b)=true)(h2:ptOk (c,d)=true)(h3:ptOk (e,f)=true):spec_l2Has.f a b c d e f=some (has ((a,b),(c,d)) (e,f)):=by
 unfold spec_l2Has.f has;simp only [sCross h1 h2 h3,sDot h1 h2 h3,sDot h1 h2 h2,l6In_told,Option.bind_some];by_cases z:cross (a,b) (c,d) (e,f)=0
 ·
  simp [z]
 ·
  rw [if_neg z,beq_eq_false_iff_ne.mpr z];rfl
theorem sLeast {n d m q:Int}(h1:fracOk (n,d)=true)(h2:fracOk (m,q)=true):spec_l2Least.f n d m q=some ((least (n,d) (m,q)).1,(least (n,d) (m,q)).2):=by
 obtain⟨⟨a1,a2,a3,a4⟩,_⟩:=(fracOk_iff _).1 h1;obtain⟨⟨b1,b2,b3,b4⟩,_⟩:=(fracOk_iff _).1 h2;simp only at a1 a2 a3 a4 b1 b2 b3 b4;unfold spec_l2Least.f spec_l1Cmp.f least cmp0;rw [prod_wrap a1 a2 (by omega) b4,prod_wrap b1 b2 (by omega) a4];simp only;by_cases z:m*d<n*q
 ·
  rw [if_pos z,if_pos z];rfl
 ·
  rw [if_neg z,if_neg z];by_cases z':m*d>n*q
  ·
   rw [if_pos z',if_pos z'];rfl
  ·
   rw [if_neg z',if_neg z'];rfl
end Go.Proofs.YtkefmnmoaomlhaaDoor.X
end
section
namespace Go.Proofs.YtkefmnmoaomlhaaDoor.X
open Go.RowKit Go.Proofs.YtkefmnmoaomlhaaDoorW.PrintWords Go.Proofs.YtkefmnmoaomlhaaDoorW.PrintLast Go.Proofs.YtkefmnmoaomlhaaDoorW.PrintMore
attribute [local go_sem] max2_int min2_int max_two min_two max_three min_three max_four min_four
set_option linter.unusedVariables false
set_option linter.unusedSimpArgs false
def impl_joined.f (k:Nat)(a0_0:Int)(a0_1:Int)(a0_2:Int)(a0_3:Int)(a1_0:Int)(a1_1:Int)(a1_2:Int)(a1_3:Int):Option (Bool):=(impl_SegHas.f k a0_0 a0_1 a0_2 a0_3 a1_2 a1_3).bind fun t371=>(if t371=true then (some false) else ((impl_SegHas.f k a1_0 a1_1 a1_2 a1_3 a0_0 a0_1).bind fun t372=>(some (!t372))))
set_option maxHeartbeats 8000000 in
set_option maxRecDepth 100000 in
theorem impl_joined.calls (k:Nat)(a0_0:Int)(a0_1:Int)(a0_2:Int)(a0_3:Int)(a1_0:Int)(a1_1:Int)(a1_2:Int)(a1_3:Int)(r:Bool)(w:World)(h:impl_joined.f k a0_0 a0_1 a0_2 a0_3 a1_0 a1_1 a1_2 a1_3=some r):
  Calls Tryd.prog 111 #[.agg #[.int .i64 a0_0,.int .i64 a0_1,.int .i64 a0_2,.int .i64 a0_3],.agg #[.int .i64 a1_0,.int .i64 a1_1,.int .i64 a1_2,.int .i64 a1_3]] w fun e w'=>e=.returned (.bool r)∧Below w.heap.size w w':=by
 have hu61:=Tryd.underlying61;have hu28:=Tryd.underlying28;have HB:=a0_ (Below.refl w.heap.size w);have H:((impl_SegHas.f k a0_0 a0_1 a0_2 a0_3 a1_2 a1_3).bind fun t371=>(if t371=true then (some false) else ((impl_SegHas.f k a1_0 a1_1 a1_2 a1_3 a0_0 a0_1).bind fun t372=>(some (!t372)))))=some r:=h;clear h;replace H:=Option.bind_eq_some_iff.mp H;obtain⟨t371,A30,H⟩:=H
 (try dsimp only at H)
 have A3:=Aside0.mk A30;clear A30;by_cases c4:t371=true
 ·
  subst c4;rw [if_pos rfl] at H
  (try dsimp only at H)
  obtain rfl:=Option.some.inj H;go_enter Tryd.func111,Tryd.ntmps111;go_wp2_with (first | ((with_reducible refine gate_dst (N:=2) rfl ?_);refine bx_ (N:=2) (cs:=#[.int .i64 a0_0,.int .i64 a0_1,.int .i64 a0_2,.int .i64 a0_3]) (t:=61) (h:=?_);intro gb369 hg w5 hbox hb;have BK369:=a0_ (hbox);have GW369:=gh_ HB hg;have GE369:=gh_ HB hg;replace HB:=sb_ HB hb;clear hb hbox hg) | ((with_reducible refine gate_dst (N:=3) rfl ?_);refine bx_ (N:=3) (cs:=#[.int .i64 a1_0,.int .i64 a1_1,.int .i64 a1_2,.int .i64 a1_3]) (t:=61) (h:=?_);intro gb370 hg w6 hbox hb;have BK370:=a0_ (hbox);have GW370:=gh_ HB hg;have GE370:=gh_ HB hg;have NB369_370:=nl_ BK369 hg;have NB370_369:=nr_ BK369 hg;replace BK369:=vb_ BK369 hb;replace HB:=sb_ HB hb;clear hb hbox hg;have hnb7:=NB369_370.out;have hnc7:=NB370_369.out;have hcz8_0:=c40_ BK369;have hcz8_1:=c41_ BK369;have hcz8_2:=c42_ BK369;have hcz8_3:=c43_ BK369;have hfz8_0:=fz_ BK369 0;have hfz8_1:=fz_ BK369 1;have hfz8_2:=fz_ BK369 2;have hfz8_3:=fz_ BK369 3;have hcz9_0:=c40_ BK370;have hcz9_1:=c41_ BK370;have hcz9_2:=c42_ BK370;have hcz9_3:=c43_ BK370;have hfz9_0:=fz_ BK370 0;have hfz9_1:=fz_ BK370 1;have hfz9_2:=fz_ BK370 2;have hfz9_3:=fz_ BK370 3) | ((with_reducible refine gate_callee (f:=115) rfl ?_);refine gL_ (some 8) Tryd.func115 #[.agg #[.int .i64 a0_0,.int .i64 a0_1,.int .i64 a0_2,.int .i64 a0_3],.agg #[.int .i64 a1_2,.int .i64 a1_3]] (h:=?_);(with_reducible refine (impl_SegHas.calls k a0_0 a0_1 a0_2 a0_3 a1_2 a1_3 true _ A3.out).mono ?_);rintro e w10 ⟨rfl,hb⟩;refine⟨_,rfl,?_⟩;replace BK369:=vb_ BK369 hb;replace BK370:=vb_ BK370 hb;replace HB:=sb_ HB hb;(try clear hb)));go_ret;exact⟨rr_,hB_⟩
 ·
  replace c4:=Bool.eq_false_iff.mpr c4;subst c4;rw [if_neg (show ¬ (false=true) by decide)] at H
  (try dsimp only at H)
  replace H:=Option.bind_eq_some_iff.mp H;obtain⟨t372,A110,H⟩:=H
  (try dsimp only at H)
  have A11:=Aside0.mk A110;clear A110;obtain rfl:=Option.some.inj H;go_enter Tryd.func111,Tryd.ntmps111
  go_wp2_with (first | ((with_reducible refine gate_dst (N:=2) rfl ?_);refine bx_ (N:=2) (cs:=#[.int .i64 a0_0,.int .i64 a0_1,.int .i64 a0_2,.int .i64 a0_3]) (t:=61) (h:=?_);intro gb369 hg w12 hbox hb;have BK369:=a0_ (hbox);have GW369:=gh_ HB hg;have GE369:=gh_ HB hg;replace HB:=sb_ HB hb;clear hb hbox hg) | ((with_reducible refine gate_dst (N:=3) rfl ?_);refine bx_ (N:=3) (cs:=#[.int .i64 a1_0,.int .i64 a1_1,.int .i64 a1_2,.int .i64 a1_3]) (t:=61) (h:=?_);intro gb370 hg w13 hbox hb;have BK370:=a0_ (hbox);have GW370:=gh_ HB hg;have GE370:=gh_ HB hg;have NB369_370:=nl_ BK369 hg;have NB370_369:=nr_ BK369 hg;replace BK369:=vb_ BK369 hb;replace HB:=sb_ HB hb;clear hb hbox hg;have hnb14:=NB369_370.out;have hnc14:=NB370_369.out;have hcz15_0:=c40_ BK369;have hcz15_1:=c41_ BK369;have hcz15_2:=c42_ BK369;have hcz15_3:=c43_ BK369;have hfz15_0:=fz_ BK369 0;have hfz15_1:=fz_ BK369 1;have hfz15_2:=fz_ BK369 2;have hfz15_3:=fz_ BK369 3;have hcz16_0:=c40_ BK370;have hcz16_1:=c41_ BK370;have hcz16_2:=c42_ BK370;have hcz16_3:=c43_ BK370;have hfz16_0:=fz_ BK370 0;have hfz16_1:=fz_ BK370 1;have hfz16_2:=fz_ BK370 2;have hfz16_3:=fz_ BK370 3) | ((with_reducible refine gate_callee (f:=115) rfl ?_);refine gL_ (some 8) Tryd.func115 #[.agg #[.int .i64 a0_0,.int .i64 a0_1,.int .i64 a0_2,.int .i64 a0_3],.agg #[.int .i64 a1_2,.int .i64 a1_3]] (h:=?_);(with_reducible refine (impl_SegHas.calls k a0_0 a0_1 a0_2 a0_3 a1_2 a1_3 false _ A3.out).mono ?_);rintro e w17 ⟨rfl,hb⟩;refine⟨_,rfl,?_⟩;replace BK369:=vb_ BK369 hb;replace BK370:=vb_ BK370 hb;replace HB:=sb_ HB hb;(try clear hb);have hcz18_0:=c40_ BK370;have hcz18_1:=c41_ BK370;have hcz18_2:=c42_ BK370;have hcz18_3:=c43_ BK370;have hfz18_0:=fz_ BK370 0;have hfz18_1:=fz_ BK370 1;have hfz18_2:=fz_ BK370 2;have hfz18_3:=fz_ BK370 3;have hcz19_0:=c40_ BK369;have hcz19_1:=c41_ BK369;have hcz19_2:=c42_ BK369;have hcz19_3:=c43_ BK369;have hfz19_0:=fz_ BK369 0;have hfz19_1:=fz_ BK369 1;have hfz19_2:=fz_ BK369 2;have hfz19_3:=fz_ BK369 3) | (go_at_call 115;(with_reducible refine (impl_SegHas.calls k a1_0 a1_1 a1_2 a1_3 a0_0 a0_1 t372 _ A11.out).mono ?_);rintro e w20 ⟨rfl,hb⟩;replace BK369:=vb_ BK369 hb;replace BK370:=vb_ BK370 hb;replace HB:=sb_ HB hb;(try clear hb)))
  go_ret;exact⟨rr_,hB_⟩
end Go.Proofs.YtkefmnmoaomlhaaDoor.X
end
section
set_option linter.unusedVariables false
set_option linter.unusedSimpArgs false
namespace Go.Proofs.YtkefmnmoaomlhaaDoor.X
open Go.RowKit Go.Shelf Go.Proofs.YtkefmnmoaomlhaaDoorW.PrintWords Go.Proofs.YtkefmnmoaomlhaaDoorW.PrintLast Go.Proofs.YtkefmnmoaomlhaaDoorW.PrintMore
open Mort (edges loopOk pairOk ed segOk meet joined ptOk)
attribute [local go_sem] Oper.semAt_some
def mark (D:Nat):Deferred:={ target:=.collected D,args:=#[] }
theorem leavesM_marks {n:Nat}{fn:Func}{tmps:Array Value}{R:Ending→World→Prop}:∀ (Ds:List Nat) (w:World),Ds.Nodup→(∀ D∈Ds,w.heap[D]?=some (.deferred (some []))) →
  (∀ w',(∀ k,k ∉ Ds→w'.heap[k]?=w.heap[k]?)→w'.heap.size=w.heap.size→w'.os=w.os→w'.tape=w.tape→w'.output=w.output→LeavesIn Fence.wide n Tryd.prog fn tmps R [] .returning w') →
  LeavesInM Fence.wide n Tryd.prog fn tmps R (Ds.map mark) .returning w
 | [],w,_,_,h=>h w (fun _ _=>rfl) rfl rfl rfl rfl
 | D::Ds,w,hn,hD,h=>by
  have hK:=hD D List.mem_cons_self;have hlt:D<w.heap.size:=(Array.getElem?_eq_some_iff.1 hK).1;refine⟨by simp,.inl ⟨D,_,rfl,run_takeDeferred hK,?_⟩⟩;rw [List.nodup_cons] at hn;refine leavesM_marks Ds _ hn.2 (fun E hE=>?_) (fun w' h1 h2 h3 h4 h5=>h w' (fun k hk=>?_) ?_ h3 h4 h5)
  ·
   rw [World.putObj_heap_other (by rintro rfl;exact hn.1 hE)];exact hD E (List.mem_cons_of_mem _ hE)
  ·
   rw [h1 k (fun e=>hk (List.mem_cons_of_mem _ e)),World.putObj_heap_other (by rintro rfl;exact hk List.mem_cons_self)]
  ·
   rw [h2];simp [World.putObj]
theorem edges_in (n:Nat)(A:Option Addr)(len c:Nat)(w:World):
  CallsIn Fence.wide n Tryd.prog 96 #[.slice A len c] w fun e w'=>e=.returned (.func (.func 114) #[] #[.pointer (some ⟨w.heap.size,0,none⟩)])∧w'=w.alloc (.cells #[.slice A len c] 23):=by
 refine callsIn_of_wp Tryd.func96 rfl trivial ?_ rfl;simp only [Tryd.ntmps96,List.size_toArray,List.length_cons,List.length_nil,Nat.reduceAdd,Nat.reduceSub,Array.replicate_succ,Array.replicate_zero,List.push_toArray,List.append_toArray,List.nil_append,List.cons_append];gi_wp2;go_ret;exact⟨rfl,rfl⟩
theorem grown_none {A B:World}(h:Below A.heap.size A B):A.grownBy B none:=⟨h.os,h.tape,h.output,h.size,fun k hk _=>h.block k hk⟩
abbrev encE (zs:List S28) (i:Fin zs.length):Array Value:=#[.int .i64 ((i:Nat):Int),edV (edS zs i)]
theorem edges_stops (n:Nat)(hn:1≤n)(Bs n₀:Nat)(A:Option Addr)(c:Nat)(zs:List S28)(hreach:zs.length≤1000000)(hAb:∀ ad,A=some ad→ad.block<n₀)
  (w:World) (hBs:Bs<w.heap.size) (hn₀:n₀≤w.heap.size) (hc:w.cell? ⟨Bs,0,none⟩=some (.slice A zs.length c)) (hC:Kd.C k28 w A zs.length zs) :
  SeqStopsK Fence.wide n Tryd.prog 114 #[.pointer (some ⟨Bs,0,none⟩)] (encE zs) (KpE n₀ Bs) (fun ys=>ys=List.finRange zs.length)
   (fun pre=>∃ k,k≤zs.length∧pre=(List.finRange zs.length).take k) zs.length w:=fun l J Jx W hW hJ _ hY h0=>by
 have take_succ:∀ k (hk:k<zs.length),(List.finRange zs.length).take (k+1)=(List.finRange zs.length).take k++[⟨k,hk⟩]:=fun k hk=>by
  rw [List.take_succ_eq_append_getElem (by simpa using hk)];simp
 refine (edges1_in n hn l Bs n₀ A c zs hreach hAb (fun k W=>J ((List.finRange zs.length).take k) W) (fun k W=>Jx ((List.finRange zs.length).take k) W)
  (fun k X Y hj hb=>hJ _ X Y none hj (grown_none hb) (fun r e=>by cases e)) (fun k X hk hj=>?_) W (Nat.lt_of_lt_of_le hBs hW.size) (Nat.le_trans hn₀ hW.size)
  ((hW.cell (p:=⟨Bs,0,none⟩) hBs).trans hc) (Kd.C_below hC hW) (by simpa using h0)).mono ?_
 ·
  rw [take_succ k hk];exact hY _ ⟨k,hk⟩ X hj (by simp;omega)
 ·
  rintro e W' ⟨he,hj | ⟨k,hk,hj⟩⟩
  ·
   exact⟨he,.inl ⟨_,rfl,by rwa [List.take_of_length_le (by simp)] at hj⟩⟩
  ·
   exact⟨he,.inr ⟨_,⟨k,hk,rfl⟩,hj⟩⟩
theorem blk_own {β:Type}(B:Nat)(o:β→Obj)(hc:∀ s,(o s).isCells=true):Own (fun s W=>W.heap[B]?=some (o s)):=fun s X Y row hs hg hrow =>
 (hg.block B (Array.getElem?_eq_some_iff.1 hs).1 (fun e=>by obtain⟨o',ho,h'⟩:=hrow B e.symm;rw [hs] at ho;cases ho;rw [hc] at h';cases h')).trans hs
def ptP (x:S28):Mort.Pt:=(x.f0,x.f1)
def sgP (x:S61):Mort.Seg:=(ptP x.f0,ptP x.f1)
theorem ptP_getD (zs:List S28)(j:Nat):(zs.map ptP).getD j (0,0)=ptP (zs.getD j z28):=by
 rw [List.getD_eq_getElem?_getD,List.getD_eq_getElem?_getD,List.getElem?_map];cases zs[j]? <;> rfl
theorem ed_edS (zs:List S28)(j:Nat):ed (zs.map ptP) j=sgP (edS zs j):=by
 unfold ed edS sgP;rw [ptP_getD,ptP_getD,List.length_map]
theorem keeps_below {B:Nat}{W W':World}(h:Below W.heap.size W W'):KeepsFrom B W W':=
 ⟨h.size,fun k o _ hk _=>(h.block k (Array.getElem?_eq_some_iff.1 hk).1).trans hk⟩
theorem box_later {W W':World}{B:Nat}{t:TypeId}{v:Value}(h:Boxed W B t v)(hb:Below W.heap.size W W'):Boxed W' B t v:=(hb.block B h.lt).trans h
theorem below_row {n₀:Nat}{w W W':World}(h:Below n₀ w W)(hn:n₀≤w.heap.size)(hb:Below W.heap.size W W'):Below n₀ w W':=h.trans (hb.mono (Nat.le_trans hn h.size))
theorem row_lt {w:World}{A:Option Addr}{zs:List S28}(hC:Kd.C k28 w A zs.length zs)(hz:0<zs.length):∀ ad,A=some ad→ad.block<w.heap.size:=fun ad e=>by
 obtain⟨ad',e',h0,_⟩:=at_pt hC 0 hz;rw [e] at e';cases e';have:=World.block_lt_of_cell? w _ h0
 rwa [blk_add] at this
def segObj (x:S61):Obj:=.cells #[.int .i64 x.f0.f0,.int .i64 x.f0.f1,.int .i64 x.f1.f0,.int .i64 x.f1.f1] 61 (0,0)
theorem segObj_own (B:Nat)(x:S61):Own (fun (_:Unit) W=>W.heap[B]?=some (segObj x)):=blk_own B (fun _=>segObj x) (fun _=>rfl)
theorem blk_later {W w1:World}{D:Nat}{o:Obj}(h:W.heap[D]?=some o)(hb:Below W.heap.size W w1):w1.heap[D]?=some o:=(hb.block D (Array.getElem?_eq_some_iff.1 h).1).trans h
theorem blk_alloc' {W:World}{D:Nat}{o:Obj}(h:W.heap[D]?=some o)(o':Obj):(W.alloc o').heap[D]?=some o:=(Below.heap_alloc W o' D (Array.getElem?_eq_some_iff.1 h).1).trans h
theorem blk_set {W:World}{D:Nat}{o:Obj}(h:W.heap[D]?=some o)(hc:o.isCells=false){B:Nat}{t:TypeId}{v:Value}(hb:Boxed W B t v)(u:Value):(W.setCell ⟨B,0,none⟩ u).heap[D]?=some o:=
 (Below.heap_setCell W ⟨B,0,none⟩ u D (by rintro rfl;have e:=h.symm.trans hb;cases e;cases hc)).trans h
theorem ownFrom_blk {β:Type}{B D:Nat}{o:Obj}(hD:D<B):OwnFrom B (fun (_:β) W=>W.heap[D]?=some o):=fun _ X Y row hs hg hr =>
 (hg.block D (Array.getElem?_eq_some_iff.1 hs).1 (fun e=>by have:=(hr D e.symm).1;omega)).trans hs
theorem ownFrom_kpE {β:Type}{n₀ Bs B:Nat}{w₀:World}(hB:w₀.heap.size≤B):OwnFrom B (fun (_:β) W=>KpE n₀ Bs w₀ W):=fun _ X Y row hs hg hr =>
 ⟨Nat.le_trans hs.1 hg.size,fun k hk hl=>(hg.block k (Nat.lt_of_lt_of_le hl hs.1) (fun e=>by have:=(hr k e.symm).1;omega)).trans (hs.2 k hk hl)⟩
theorem marks_boxed {W w':World}{Ds:List Nat}{B:Nat}{t:TypeId}{v:Value}(h:Boxed W B t v)(hD:∀ D∈Ds,W.heap[D]?=some (.deferred (some [])))(h1:∀ k,k ∉ Ds→w'.heap[k]?=W.heap[k]?):Boxed w' B t v:=
 (h1 B (fun e=>by have:=(hD B e).symm.trans h;cases this)).trans h
theorem marks_below {n₀:Nat}{w W w':World}{Ds:List Nat}(hB:Below n₀ w W)(hD:∀ D∈Ds,n₀≤D)(h1:∀ k,k ∉ Ds→w'.heap[k]?=W.heap[k]?)(h2:w'.heap.size=W.heap.size)(h3:w'.os=W.os)(h4:w'.tape=W.tape)(h5:w'.output=W.output):Below n₀ w w':=
 hB.trans ⟨h3,h4,h5,by omega,fun k hk=>h1 k (fun e=>by have:=hD k e;omega)⟩
theorem below_step_ {W w1 w2:World}(h:Below W.heap.size W w1)(k:Below w1.heap.size w1 w2):Below W.heap.size W w2:=h.trans (k.mono h.size)
theorem box_other {W:World}{B B':Nat}{t:TypeId}{v:Value}(h:Boxed W B t v)(hne:B≠B')(u:Value):Boxed (W.setCell ⟨B',0,none⟩ u) B t v:=Boxed.other h hne u
theorem blk_other {W:World}{D B':Nat}{o:Obj}(h:W.heap[D]?=some o)(hne:D≠B')(u:Value):(W.setCell ⟨B',0,none⟩ u).heap[D]?=some o:=(Below.heap_setCell W ⟨B',0,none⟩ u D hne).trans h
end Go.Proofs.YtkefmnmoaomlhaaDoor.X
end
section
set_option linter.unusedVariables false
namespace Mort
def crsI (e:Seg)(p:Pt):Bool:=
 (decide (e.1.2≤p.2) && (decide (p.2<e.2.2) && decide (0<cross e.1 e.2 p))) || (decide (e.2.2≤p.2) && (decide (p.2<e.1.2) && decide (cross e.1 e.2 p<0)))
theorem rc_cast (a b p:Pt):rc a.1 a.2 b.1 b.2 p.1 p.2=((cross a b p:Int):Rat):=by
 rw [cast_cross];rfl
theorem crsI_eq (e:Seg)(p:Pt):crsQ e.1.1 e.1.2 e.2.1 e.2.2 p.1 p.2=crsI e p:=by
 unfold crsQ crsI;rw [rc_cast e.1 e.2 p];have h1:decide ((e.1.2:Rat)≤(p.2:Rat))=decide (e.1.2≤p.2):=by rw [decide_eq_decide];exact cast_le
 have h2:decide ((p.2:Rat)<(e.2.2:Rat))=decide (p.2<e.2.2):=by rw [decide_eq_decide];exact cast_lt
 have h3:decide ((e.2.2:Rat)≤(p.2:Rat))=decide (e.2.2≤p.2):=by rw [decide_eq_decide];exact cast_le
 have h4:decide ((p.2:Rat)<(e.1.2:Rat))=decide (p.2<e.1.2):=by rw [decide_eq_decide];exact cast_lt
 have h5:decide (0<((cross e.1 e.2 p:Int):Rat))=decide (0<cross e.1 e.2 p):=by
  rw [decide_eq_decide];have:=@cast_lt 0 (cross e.1 e.2 p);simpa using this
 have h6:decide (((cross e.1 e.2 p:Int):Rat)<0)=decide (cross e.1 e.2 p<0):=by
  rw [decide_eq_decide];have:=@cast_lt (cross e.1 e.2 p) 0;simpa using this
 rw [h1,h2,h3,h4,h5,h6]
def sideOf (b:Bool):Int:=if b then 1 else -1
def inRun (es:List Seg)(p:Pt):Int:=sideOf (xorAll (es.map fun e=>crsI e p))
theorem inRun_snoc (es:List Seg)(e:Seg)(p:Pt):inRun (es++[e]) p=if crsI e p then-inRun es p else inRun es p:=by
 unfold inRun sideOf;rw [List.map_append,xorAll_append];cases xorAll (es.map fun e=>crsI e p) <;> cases h:crsI e p <;> simp [xorAll,h]
theorem inRun_end {l:List Pt}{p:Pt}(h:∀ e∈edges l,has e p=false):inRun (edges l) p=inOf l p:=by
 unfold inOf inRun sideOf par;rw [(onB_false l p).2 h];have:((edges l).map fun e=>crsQ e.1.1 e.1.2 e.2.1 e.2.2 p.1 p.2)=(edges l).map fun e=>crsI e p:=List.map_congr_left fun e _=>crsI_eq e p
 rw [this];cases xorAll ((edges l).map fun e=>crsI e p) <;> rfl
theorem inOf_on {l:List Pt}{p:Pt}{e:Seg}(he:e∈edges l)(h:has e p=true):inOf l p=0:=(inOf_zero l p).2 ((onB_iff l p).2 ⟨e,he,h⟩)
theorem edges_eq (l:List Pt):edges l=(List.range l.length).map (ed l):=by
 apply List.ext_getElem?;intro i;by_cases h:i<l.length
 ·
  rw [edges_getElem? l i h];simp [h]
 ·
  rw [List.getElem?_eq_none (by rw [edges_length];omega),List.getElem?_eq_none (by simp;omega)]
end Mort
end
section
set_option linter.unusedVariables false
set_option linter.unusedSimpArgs false
namespace Go.Proofs.YtkefmnmoaomlhaaDoor.X
open Go.RowKit Go.Proofs.YtkefmnmoaomlhaaDoorW.PrintWords Go.Proofs.YtkefmnmoaomlhaaDoorW.PrintLast Go.Proofs.YtkefmnmoaomlhaaDoorW.PrintMore
def esOf (z:List S28):List S61:=(List.range z.length).map (edS z)
theorem w64i {x:Int}(h : -9223372036854775808≤x)(h':x≤9223372036854775807):wrap64 x=x:=by unfold wrap64;omega
theorem sEdges_l0 (z:List S28)(hz:z.length≤1000000):∀ (m i k:Nat) (acc:List S61),z.length-i=m→i≤z.length→m<k→acc.length≤i→spec_l3Edges.l0 k z acc (i:Int)=some (acc++(List.range' i m).map (edS z)):=by
 intro m
 induction m with
 | zero =>
  intro i k acc hm hi hk ha;obtain⟨k,rfl⟩:∃ j,k=j+1:=⟨k-1,by omega⟩;simp only [spec_l3Edges.l0];rw [if_neg (by omega)];simp
 | succ m ih =>
  intro i k acc hm hi hk ha;obtain⟨k,rfl⟩:∃ j,k=j+1:=⟨k-1,by omega⟩;simp only [spec_l3Edges.l0];have hw:wrap64 ((i:Int)+1)=((i+1:Nat):Int):=by rw [w64i (by omega) (by omega)];rfl
  have ht:Int.tmod ((i+1:Nat):Int) (z.length:Int)=(((i+1) % z.length:Nat):Int):=rfl;have hlt:=Nat.mod_lt (i+1) (show 0<z.length by omega);rw [if_pos (by omega),if_pos (by omega),if_neg (by omega),hw,ht,if_pos (by omega),if_pos (by omega),if_pos (by omega)];rw [ih (i+1) k _ (by omega) (by omega) (by omega) (by simp;omega),List.range'_succ,List.map_cons,List.append_assoc];rfl
theorem sEdges {z:List S28}(hz:z.length≤1000000){k:Nat}(hk:z.length<k):spec_l3Edges.f k z=some (esOf z):=by
 unfold spec_l3Edges.f esOf;rw [show (0:Int)=((0:Nat):Int) from rfl,sEdges_l0 z hz z.length 0 k [] (by omega) (by omega) hk (by simp),List.range_eq_range'];simp
theorem esOf_len (z:List S28):(esOf z).length=z.length:=by simp [esOf]
theorem esOf_getD (z:List S28){i:Nat}(h:i<z.length):(esOf z).getD i z61=edS z i:=by
 rw [List.getD_eq_getElem?_getD,List.getElem?_eq_getElem (by rw [esOf_len];exact h)];simp [esOf]
theorem esOf_edges (z:List S28):(esOf z).map sgP=Mort.edges (z.map ptP):=by
 rw [Mort.edges_eq,List.length_map];unfold esOf;rw [List.map_map];refine List.map_congr_left fun i _=>?_
 rw [ed_edS];rfl
end Go.Proofs.YtkefmnmoaomlhaaDoor.X
end
section
namespace Go.Proofs.YtkefmnmoaomlhaaDoor.X
open Go.RowKit Go.Proofs.YtkefmnmoaomlhaaDoorW.PrintWords Go.Proofs.YtkefmnmoaomlhaaDoorW.PrintLast Go.Proofs.YtkefmnmoaomlhaaDoorW.PrintMore
attribute [local go_sem] max2_int min2_int max_two min_two max_three min_three max_four min_four
set_option linter.unusedVariables false
set_option linter.unusedSimpArgs false
def spec_l2Meet.f (a0_0:Int)(a0_1:Int)(a0_2:Int)(a0_3:Int)(a1_0:Int)(a1_1:Int)(a1_2:Int)(a1_3:Int):Option (Bool):=(spec_l2Cross.f a0_0 a0_1 a0_2 a0_3 a1_0 a1_1).bind fun t226=>((spec_l2Sign.f t226).bind fun t227=>((spec_l2Cross.f a0_0 a0_1 a0_2 a0_3 a1_2 a1_3).bind fun t228=>((spec_l2Sign.f t228).bind fun t229=>((spec_l2Cross.f a1_0 a1_1 a1_2 a1_3 a0_0 a0_1).bind fun t230=>((spec_l2Sign.f t230).bind fun t231=>((spec_l2Cross.f a1_0 a1_1 a1_2 a1_3 a0_2 a0_3).bind fun t232=>((spec_l2Sign.f t232).bind fun t233=>(if (wrap64 (t227*t229))<0 then (if (wrap64 (t231*t233))<0 then (some true) else ((spec_l2Has.f a0_0 a0_1 a0_2 a0_3 a1_0 a1_1).bind fun t234=>(if t234=true then (some true) else ((spec_l2Has.f a0_0 a0_1 a0_2 a0_3 a1_2 a1_3).bind fun t235=>(if t235=true then (some true) else ((spec_l2Has.f a1_0 a1_1 a1_2 a1_3 a0_0 a0_1).bind fun t236=>(if t236=true then (some true) else ((spec_l2Has.f a1_0 a1_1 a1_2 a1_3 a0_2 a0_3).bind fun t237=>(some t237))))))))) else ((spec_l2Has.f a0_0 a0_1 a0_2 a0_3 a1_0 a1_1).bind fun t238=>(if t238=true then (some true) else ((spec_l2Has.f a0_0 a0_1 a0_2 a0_3 a1_2 a1_3).bind fun t239=>(if t239=true then (some true) else ((spec_l2Has.f a1_0 a1_1 a1_2 a1_3 a0_0 a0_1).bind fun t240=>(if t240=true then (some true) else ((spec_l2Has.f a1_0 a1_1 a1_2 a1_3 a0_2 a0_3).bind fun t241=>(some t241))))))))))))))))
def spec_l2Meet.T1:Bool × List (List Nat × List Nat):=(true,[([],[]),([0],[0]),([],[]),([2],[2]),([],[]),([4],[4]),([1,3,5],[1,3,5]),([6,6],[6]),([],[]),([8],[8]),([],[]),([10],[10]),([],[]),([12],[12]),([9,11,13,7],[9,11,13]),([14,14],[14]),([7,15],[7,15]),([16,15,0,1,2,3,4,5,6,7,8,9,10,11,12,13,14,15,16],[16])])
def spec_l2Meet.B1:List Nat:=[0,1,0,4,0,16,63,127,0,256,0,1024,0,4096,16383,32767,65535,131071]
theorem spec_l2Meet.tab1:rtab .any (opsOf Tryd.f101 1)=spec_l2Meet.T1:=by kernel_rfl
theorem spec_l2Meet.bits1:waitsOk spec_l2Meet.T1.2 spec_l2Meet.B1=true:=by kernel_rfl
def spec_l2Meet.T2:Bool × List (List Nat × List Nat):=(true,[([],[]),([0],[0]),([],[]),([2],[2]),([],[]),([4],[4]),([1,3,5],[1,3,5]),([6,6],[6]),([],[]),([8],[8]),([],[]),([10],[10]),([],[]),([12],[12]),([9,11,13,7],[9,11,13]),([14,14],[14]),([7,15],[7,15]),([16,15,0,1,2,3,4,5,6,7,8,9,10,11,12,13,14,15,16],[16])])
def spec_l2Meet.B2:List Nat:=[0,1,0,4,0,16,63,127,0,256,0,1024,0,4096,16383,32767,65535,131071]
theorem spec_l2Meet.tab2:rtab .any (opsOf Tryd.f101 2)=spec_l2Meet.T2:=by kernel_rfl
theorem spec_l2Meet.bits2:waitsOk spec_l2Meet.T2.2 spec_l2Meet.B2=true:=by kernel_rfl
set_option maxHeartbeats 8000000 in
set_option maxRecDepth 100000 in
theorem spec_l2Meet.calls (a0_0:Int)(a0_1:Int)(a0_2:Int)(a0_3:Int)(a1_0:Int)(a1_1:Int)(a1_2:Int)(a1_3:Int)(r:Bool)(w:World)(h:spec_l2Meet.f a0_0 a0_1 a0_2 a0_3 a1_0 a1_1 a1_2 a1_3=some r):
  Calls Tryd.prog 101 #[.agg #[.int .i64 a0_0,.int .i64 a0_1,.int .i64 a0_2,.int .i64 a0_3],.agg #[.int .i64 a1_0,.int .i64 a1_1,.int .i64 a1_2,.int .i64 a1_3]] w fun e w'=>e=.returned (.bool r)∧Below w.heap.size w w':=by
 have hu61:=Tryd.underlying61;have hu28:=Tryd.underlying28;have HB:=a0_ (Below.refl w.heap.size w);have H:((spec_l2Cross.f a0_0 a0_1 a0_2 a0_3 a1_0 a1_1).bind fun t226=>((spec_l2Sign.f t226).bind fun t227=>((spec_l2Cross.f a0_0 a0_1 a0_2 a0_3 a1_2 a1_3).bind fun t228=>((spec_l2Sign.f t228).bind fun t229=>((spec_l2Cross.f a1_0 a1_1 a1_2 a1_3 a0_0 a0_1).bind fun t230=>((spec_l2Sign.f t230).bind fun t231=>((spec_l2Cross.f a1_0 a1_1 a1_2 a1_3 a0_2 a0_3).bind fun t232=>((spec_l2Sign.f t232).bind fun t233=>(if (wrap64 (t227*t229))<0 then (if (wrap64 (t231*t233))<0 then (some true) else ((spec_l2Has.f a0_0 a0_1 a0_2 a0_3 a1_0 a1_1).bind fun t234=>(if t234=true then (some true) else ((spec_l2Has.f a0_0 a0_1 a0_2 a0_3 a1_2 a1_3).bind fun t235=>(if t235=true then (some true) else ((spec_l2Has.f a1_0 a1_1 a1_2 a1_3 a0_0 a0_1).bind fun t236=>(if t236=true then (some true) else ((spec_l2Has.f a1_0 a1_1 a1_2 a1_3 a0_2 a0_3).bind fun t237=>(some t237))))))))) else ((spec_l2Has.f a0_0 a0_1 a0_2 a0_3 a1_0 a1_1).bind fun t238=>(if t238=true then (some true) else ((spec_l2Has.f a0_0 a0_1 a0_2 a0_3 a1_2 a1_3).bind fun t239=>(if t239=true then (some true) else ((spec_l2Has.f a1_0 a1_1 a1_2 a1_3 a0_0 a0_1).bind fun t240=>(if t240=true then (some true) else ((spec_l2Has.f a1_0 a1_1 a1_2 a1_3 a0_2 a0_3).bind fun t241=>(some t241)))))))))))))))))=some r:=h;clear h;replace H:=Option.bind_eq_some_iff.mp H;obtain⟨t226,A30,H⟩:=H
 (try dsimp only at H)
 have A3:=Aside0.mk A30;clear A30;replace H:=Option.bind_eq_some_iff.mp H;obtain⟨t227,A40,H⟩:=H
 (try dsimp only at H)
 have A4:=Aside0.mk A40;clear A40;replace H:=Option.bind_eq_some_iff.mp H;obtain⟨t228,A50,H⟩:=H
 (try dsimp only at H)
 have A5:=Aside0.mk A50;clear A50;replace H:=Option.bind_eq_some_iff.mp H;obtain⟨t229,A60,H⟩:=H
 (try dsimp only at H)
 have A6:=Aside0.mk A60;clear A60;replace H:=Option.bind_eq_some_iff.mp H;obtain⟨t230,A70,H⟩:=H
 (try dsimp only at H)
 have A7:=Aside0.mk A70;clear A70;replace H:=Option.bind_eq_some_iff.mp H;obtain⟨t231,A80,H⟩:=H
 (try dsimp only at H)
 have A8:=Aside0.mk A80;clear A80;replace H:=Option.bind_eq_some_iff.mp H;obtain⟨t232,A90,H⟩:=H
 (try dsimp only at H)
 have A9:=Aside0.mk A90;clear A90;replace H:=Option.bind_eq_some_iff.mp H;obtain⟨t233,A100,H⟩:=H
 (try dsimp only at H)
 have A10:=Aside0.mk A100;clear A100;go_enter Tryd.func101,Tryd.ntmps101
 try go_wp2_with (first | ((with_reducible refine gate_dst (N:=2) rfl ?_);refine bx_ (N:=2) (cs:=#[.int .i64 a0_0,.int .i64 a0_1,.int .i64 a0_2,.int .i64 a0_3]) (t:=61) (h:=?_);intro gb224 hg w13 hbox hb;have BK224:=a0_ (hbox);have GW224:=gh_ HB hg;have GE224:=gh_ HB hg;replace HB:=sb_ HB hb;clear hb hbox hg) | ((with_reducible refine gate_dst (N:=3) rfl ?_);refine bx_ (N:=3) (cs:=#[.int .i64 a1_0,.int .i64 a1_1,.int .i64 a1_2,.int .i64 a1_3]) (t:=61) (h:=?_);intro gb225 hg w14 hbox hb;have BK225:=a0_ (hbox);have GW225:=gh_ HB hg;have GE225:=gh_ HB hg;have NB224_225:=nl_ BK224 hg;have NB225_224:=nr_ BK224 hg;replace BK224:=vb_ BK224 hb;replace HB:=sb_ HB hb;clear hb hbox hg))
 replace BK224:=a0_ (blk_drew BK224.out);replace BK225:=a0_ (blk_drew BK225.out);replace HB:=a0_ (below_drew1 HB.out);refine start_ (n:=18) (S:=fun w'=>w'.cell? ⟨gb224,0,none⟩=some (.int .i64 a0_0)∧w'.cell? ⟨gb224,1,none⟩=some (.int .i64 a0_1)∧w'.cell? ⟨gb224,2,none⟩=some (.int .i64 a0_2)∧w'.cell? ⟨gb224,3,none⟩=some (.int .i64 a0_3)∧w'.cell? ⟨gb225,0,none⟩=some (.int .i64 a1_0)∧w'.cell? ⟨gb225,1,none⟩=some (.int .i64 a1_1)∧w'.cell? ⟨gb225,2,none⟩=some (.int .i64 a1_2)∧w'.cell? ⟨gb225,3,none⟩=some (.int .i64 a1_3)) (ds:=[]) (Array.replicate 18 false) (by kernel_rfl) rfl rfl ⟨bc_,bc_,bc_,bc_,bc_,bc_,bc_,bc_⟩ (fun hHeld=>?_);refine with_tabW spec_l2Meet.tab1 spec_l2Meet.bits1 (fun HT_ HW_=>?_);generalize w14.drew=w15 at BK224 BK225 HB hHeld ⊢
 refine pu_ HT_ 0 7 (bm 18 1) ?_;refine pu_ HT_ 2 9 (bm 18 5) ?_;refine pu_ HT_ 4 11 (bm 18 21) ?_;refine pu_ HT_ 8 15 (bm 18 277) ?_;refine pu_ HT_ 10 17 (bm 18 1301) ?_;refine pu_ HT_ 12 19 (bm 18 5397) ?_;refine ta8_ HT_ HW_ 1 8 (bm 18 5399) hHeld ?_;refine ta8_ HT_ HW_ 3 10 (bm 18 5407) hHeld ?_;refine ta8_ HT_ HW_ 5 12 (bm 18 5439) hHeld ?_;refine ta8_ HT_ HW_ 9 16 (bm 18 5951) hHeld ?_;refine ta8_ HT_ HW_ 11 18 (bm 18 7999) hHeld ?_;refine ta8_ HT_ HW_ 13 20 (bm 18 16191) hHeld ?_;refine one_ (i:=6) (N:=some 13) (bm 18 16255) rfl rfl (one_of HT_.out (by kernel_rfl)) (by decide) (fun K hK=>?_);refine goes_ Tryd.func102 (by kernel_rfl) rfl #[.agg #[.int .i64 a0_0,.int .i64 a0_1],.agg #[.int .i64 a0_2,.int .i64 a0_3],.agg #[.int .i64 a1_0,.int .i64 a1_1]] (by rfl) rfl rfl ma_ ?_
 with_reducible refine (spec_l2Cross.calls a0_0 a0_1 a0_2 a0_3 a1_0 a1_1 t226 _ A3.out).mono ?_
 rintro e w16 ⟨rfl,hb⟩;refine⟨_,rfl,?_⟩;replace BK224:=vb_ BK224 hb;replace BK225:=vb_ BK225 hb;replace HB:=sb_ HB hb
 (try clear hb)
 (try clear hb2)
 (try clear hk)
 (try clear hi)
 refine hK.out _ _ ⟨bc_,bc_,bc_,bc_,bc_,bc_,bc_,bc_⟩ (fun hHeld=>?_);clear hK K;refine no_ (h:=?_);refine one_ (i:=7) (N:=some 14) (bm 18 16383) rfl rfl (one_of HT_.out (by kernel_rfl)) (by decide) (fun K hK=>?_);refine goes_ Tryd.func118 (by kernel_rfl) rfl #[.int .i64 t226] (by rfl) rfl rfl ma_ ?_
 with_reducible refine (spec_l2Sign.calls t226 t227 _ A4.out).mono ?_
 rintro e w' ⟨rfl,⟨nd,rfl⟩⟩;refine⟨_,rfl,?_⟩;refine hK.out _ _ ⟨bc_,bc_,bc_,bc_,bc_,bc_,bc_,bc_⟩ (fun hHeld=>?_);clear hK K;refine no_ (h:=?_);refine one_ (i:=14) (N:=some 21) (bm 18 32767) rfl rfl (one_of HT_.out (by kernel_rfl)) (by decide) (fun K hK=>?_);refine goes_ Tryd.func102 (by kernel_rfl) rfl #[.agg #[.int .i64 a0_0,.int .i64 a0_1],.agg #[.int .i64 a0_2,.int .i64 a0_3],.agg #[.int .i64 a1_2,.int .i64 a1_3]] (by rfl) rfl rfl ma_ ?_
 with_reducible refine (spec_l2Cross.calls a0_0 a0_1 a0_2 a0_3 a1_2 a1_3 t228 _ A5.out).mono ?_
 rintro e w17 ⟨rfl,hb⟩;refine⟨_,rfl,?_⟩;replace BK224:=vb_ BK224 hb;replace BK225:=vb_ BK225 hb;replace HB:=sb_ HB hb
 (try clear hb)
 (try clear hb2)
 (try clear hk)
 (try clear hi)
 refine hK.out _ _ ⟨bc_,bc_,bc_,bc_,bc_,bc_,bc_,bc_⟩ (fun hHeld=>?_);clear hK K;refine no_ (h:=?_);refine one_ (i:=15) (N:=some 22) (bm 18 65535) rfl rfl (one_of HT_.out (by kernel_rfl)) (by decide) (fun K hK=>?_);refine goes_ Tryd.func118 (by kernel_rfl) rfl #[.int .i64 t228] (by rfl) rfl rfl ma_ ?_
 with_reducible refine (spec_l2Sign.calls t228 t229 _ A6.out).mono ?_
 rintro e w' ⟨rfl,⟨nd,rfl⟩⟩;refine⟨_,rfl,?_⟩;refine hK.out _ _ ⟨bc_,bc_,bc_,bc_,bc_,bc_,bc_,bc_⟩ (fun hHeld=>?_);clear hK K;refine no_ (h:=?_);refine pu_ HT_ 16 23 (bm 18 131071) ?_;refine pu_ HT_ 17 5 (bm 18 262143) ?_;refine done_ (done_of HT_.out (by kernel_rfl)) ?_
 try go_wp2
 (try (rw [drewN_self w17];generalize hq_:World.drewN w17 _=w17;have n0_:Aside0 (w17.heap[gb224]?=some (.cells #[.int .i64 a0_0,.int .i64 a0_1,.int .i64 a0_2,.int .i64 a0_3] 61 (0,0))):=⟨by rw [← hq_];exact uq_⟩;have n1_:Aside0 (w17.heap[gb225]?=some (.cells #[.int .i64 a1_0,.int .i64 a1_1,.int .i64 a1_2,.int .i64 a1_3] 61 (0,0))):=⟨by rw [← hq_];exact uq_⟩;have n2_:Aside0 (Below w.heap.size w w17):=⟨by rw [← hq_];exact hB_⟩;clear BK224 BK225 HB hq_;have BK224:=n0_;have BK225:=n1_;have HB:=n2_;clear n0_ n1_ n2_))
 replace BK224:=a0_ (blk_drew BK224.out);replace BK225:=a0_ (blk_drew BK225.out);replace HB:=a0_ (below_drew1 HB.out);refine start_ (n:=18) (S:=fun w'=>w'.cell? ⟨gb225,0,none⟩=some (.int .i64 a1_0)∧w'.cell? ⟨gb225,1,none⟩=some (.int .i64 a1_1)∧w'.cell? ⟨gb225,2,none⟩=some (.int .i64 a1_2)∧w'.cell? ⟨gb225,3,none⟩=some (.int .i64 a1_3)∧w'.cell? ⟨gb224,0,none⟩=some (.int .i64 a0_0)∧w'.cell? ⟨gb224,1,none⟩=some (.int .i64 a0_1)∧w'.cell? ⟨gb224,2,none⟩=some (.int .i64 a0_2)∧w'.cell? ⟨gb224,3,none⟩=some (.int .i64 a0_3)) (ds:=[]) (Array.replicate 18 false) (by kernel_rfl) rfl rfl ⟨bc_,bc_,bc_,bc_,bc_,bc_,bc_,bc_⟩ (fun hHeld=>?_);refine with_tabW spec_l2Meet.tab2 spec_l2Meet.bits2 (fun HT_ HW_=>?_);generalize w17.drew=w18 at BK224 BK225 HB hHeld ⊢
 refine pu_ HT_ 0 24 (bm 18 1) ?_;refine pu_ HT_ 2 26 (bm 18 5) ?_;refine pu_ HT_ 4 28 (bm 18 21) ?_;refine pu_ HT_ 8 32 (bm 18 277) ?_;refine pu_ HT_ 10 34 (bm 18 1301) ?_;refine pu_ HT_ 12 36 (bm 18 5397) ?_;refine ta8_ HT_ HW_ 1 25 (bm 18 5399) hHeld ?_;refine ta8_ HT_ HW_ 3 27 (bm 18 5407) hHeld ?_;refine ta8_ HT_ HW_ 5 29 (bm 18 5439) hHeld ?_;refine ta8_ HT_ HW_ 9 33 (bm 18 5951) hHeld ?_;refine ta8_ HT_ HW_ 11 35 (bm 18 7999) hHeld ?_;refine ta8_ HT_ HW_ 13 37 (bm 18 16191) hHeld ?_;refine one_ (i:=6) (N:=some 30) (bm 18 16255) rfl rfl (one_of HT_.out (by kernel_rfl)) (by decide) (fun K hK=>?_);refine goes_ Tryd.func102 (by kernel_rfl) rfl #[.agg #[.int .i64 a1_0,.int .i64 a1_1],.agg #[.int .i64 a1_2,.int .i64 a1_3],.agg #[.int .i64 a0_0,.int .i64 a0_1]] (by rfl) rfl rfl ma_ ?_
 with_reducible refine (spec_l2Cross.calls a1_0 a1_1 a1_2 a1_3 a0_0 a0_1 t230 _ A7.out).mono ?_
 rintro e w19 ⟨rfl,hb⟩;refine⟨_,rfl,?_⟩;replace BK224:=vb_ BK224 hb;replace BK225:=vb_ BK225 hb;replace HB:=sb_ HB hb
 (try clear hb)
 (try clear hb2)
 (try clear hk)
 (try clear hi)
 refine hK.out _ _ ⟨bc_,bc_,bc_,bc_,bc_,bc_,bc_,bc_⟩ (fun hHeld=>?_);clear hK K;refine no_ (h:=?_);refine one_ (i:=7) (N:=some 31) (bm 18 16383) rfl rfl (one_of HT_.out (by kernel_rfl)) (by decide) (fun K hK=>?_);refine goes_ Tryd.func118 (by kernel_rfl) rfl #[.int .i64 t230] (by rfl) rfl rfl ma_ ?_
 with_reducible refine (spec_l2Sign.calls t230 t231 _ A8.out).mono ?_
 rintro e w' ⟨rfl,⟨nd,rfl⟩⟩;refine⟨_,rfl,?_⟩;refine hK.out _ _ ⟨bc_,bc_,bc_,bc_,bc_,bc_,bc_,bc_⟩ (fun hHeld=>?_);clear hK K;refine no_ (h:=?_);refine one_ (i:=14) (N:=some 38) (bm 18 32767) rfl rfl (one_of HT_.out (by kernel_rfl)) (by decide) (fun K hK=>?_);refine goes_ Tryd.func102 (by kernel_rfl) rfl #[.agg #[.int .i64 a1_0,.int .i64 a1_1],.agg #[.int .i64 a1_2,.int .i64 a1_3],.agg #[.int .i64 a0_2,.int .i64 a0_3]] (by rfl) rfl rfl ma_ ?_
 with_reducible refine (spec_l2Cross.calls a1_0 a1_1 a1_2 a1_3 a0_2 a0_3 t232 _ A9.out).mono ?_
 rintro e w20 ⟨rfl,hb⟩;refine⟨_,rfl,?_⟩;replace BK224:=vb_ BK224 hb;replace BK225:=vb_ BK225 hb;replace HB:=sb_ HB hb
 (try clear hb)
 (try clear hb2)
 (try clear hk)
 (try clear hi)
 refine hK.out _ _ ⟨bc_,bc_,bc_,bc_,bc_,bc_,bc_,bc_⟩ (fun hHeld=>?_);clear hK K;refine no_ (h:=?_);refine one_ (i:=15) (N:=some 39) (bm 18 65535) rfl rfl (one_of HT_.out (by kernel_rfl)) (by decide) (fun K hK=>?_);refine goes_ Tryd.func118 (by kernel_rfl) rfl #[.int .i64 t232] (by rfl) rfl rfl ma_ ?_
 with_reducible refine (spec_l2Sign.calls t232 t233 _ A10.out).mono ?_
 rintro e w' ⟨rfl,⟨nd,rfl⟩⟩;refine⟨_,rfl,?_⟩;refine hK.out _ _ ⟨bc_,bc_,bc_,bc_,bc_,bc_,bc_,bc_⟩ (fun hHeld=>?_);clear hK K;refine no_ (h:=?_);refine pu_ HT_ 16 40 (bm 18 131071) ?_;refine pu_ HT_ 17 6 (bm 18 262143) ?_;refine done_ (done_of HT_.out (by kernel_rfl)) ?_;by_cases c11:(wrap64 (t227*t229))<0
 ·
  rw [if_pos c11] at H;have c11b0:decide ((wrap64 (t227*t229))<0)=true:=decide_eq_true c11;clear c11;by_cases c12:(wrap64 (t231*t233))<0
  ·
   rw [if_pos c12] at H;have c12b0:decide ((wrap64 (t231*t233))<0)=true:=decide_eq_true c12;clear c12;obtain rfl:=Option.some.inj H
   try go_wp2
   go_ret;exact⟨rr_,hB_⟩
  ·
   rw [if_neg c12] at H;have c12b0:decide ((wrap64 (t231*t233))<0)=false:=decide_eq_false c12;clear c12;replace H:=Option.bind_eq_some_iff.mp H;obtain⟨t234,A210,H⟩:=H
   (try dsimp only at H)
   have A21:=Aside0.mk A210;clear A210;by_cases c22:t234=true
   ·
    subst c22;rw [if_pos rfl] at H
    (try dsimp only at H)
    obtain rfl:=Option.some.inj H;have hnb31:=NB224_225.out;have hnc31:=NB225_224.out;have hcz32_0:=c40_ BK224;have hcz32_1:=c41_ BK224;have hcz32_2:=c42_ BK224;have hcz32_3:=c43_ BK224;have hfz32_0:=fz_ BK224 0;have hfz32_1:=fz_ BK224 1;have hfz32_2:=fz_ BK224 2;have hfz32_3:=fz_ BK224 3;have hcz33_0:=c40_ BK225;have hcz33_1:=c41_ BK225;have hcz33_2:=c42_ BK225;have hcz33_3:=c43_ BK225;have hfz33_0:=fz_ BK225 0;have hfz33_1:=fz_ BK225 1;have hfz33_2:=fz_ BK225 2;have hfz33_3:=fz_ BK225 3
    try go_wp2_with (first | (go_at_call 100;(with_reducible refine (spec_l2Has.calls a0_0 a0_1 a0_2 a0_3 a1_0 a1_1 true _ A21.out).mono ?_);rintro e w34 ⟨rfl,hb⟩;replace BK224:=vb_ BK224 hb;replace BK225:=vb_ BK225 hb;replace HB:=sb_ HB hb;(try clear hb)))
    go_ret;exact⟨rr_,hB_⟩
   ·
    replace c22:=Bool.eq_false_iff.mpr c22;subst c22;rw [if_neg (show ¬ (false=true) by decide)] at H
    (try dsimp only at H)
    replace H:=Option.bind_eq_some_iff.mp H;obtain⟨t235,A350,H⟩:=H
    (try dsimp only at H)
    have A35:=Aside0.mk A350;clear A350;by_cases c36:t235=true
    ·
     subst c36;rw [if_pos rfl] at H
     (try dsimp only at H)
     obtain rfl:=Option.some.inj H;have hnb45:=NB224_225.out;have hnc45:=NB225_224.out;have hcz46_0:=c40_ BK224;have hcz46_1:=c41_ BK224;have hcz46_2:=c42_ BK224;have hcz46_3:=c43_ BK224;have hfz46_0:=fz_ BK224 0;have hfz46_1:=fz_ BK224 1;have hfz46_2:=fz_ BK224 2;have hfz46_3:=fz_ BK224 3;have hcz47_0:=c40_ BK225;have hcz47_1:=c41_ BK225;have hcz47_2:=c42_ BK225;have hcz47_3:=c43_ BK225;have hfz47_0:=fz_ BK225 0;have hfz47_1:=fz_ BK225 1;have hfz47_2:=fz_ BK225 2;have hfz47_3:=fz_ BK225 3
     try go_wp2_with (first | (go_at_call 100;(with_reducible refine (spec_l2Has.calls a0_0 a0_1 a0_2 a0_3 a1_0 a1_1 false _ A21.out).mono ?_);rintro e w48 ⟨rfl,hb⟩;replace BK224:=vb_ BK224 hb;replace BK225:=vb_ BK225 hb;replace HB:=sb_ HB hb;(try clear hb);have hcz49_0:=c40_ BK224;have hcz49_1:=c41_ BK224;have hcz49_2:=c42_ BK224;have hcz49_3:=c43_ BK224;have hfz49_0:=fz_ BK224 0;have hfz49_1:=fz_ BK224 1;have hfz49_2:=fz_ BK224 2;have hfz49_3:=fz_ BK224 3;have hcz50_0:=c40_ BK225;have hcz50_1:=c41_ BK225;have hcz50_2:=c42_ BK225;have hcz50_3:=c43_ BK225;have hfz50_0:=fz_ BK225 0;have hfz50_1:=fz_ BK225 1;have hfz50_2:=fz_ BK225 2;have hfz50_3:=fz_ BK225 3) | (go_at_call 100;(with_reducible refine (spec_l2Has.calls a0_0 a0_1 a0_2 a0_3 a1_2 a1_3 true _ A35.out).mono ?_);rintro e w51 ⟨rfl,hb⟩;replace BK224:=vb_ BK224 hb;replace BK225:=vb_ BK225 hb;replace HB:=sb_ HB hb;(try clear hb)))
     go_ret;exact⟨rr_,hB_⟩
    ·
     replace c36:=Bool.eq_false_iff.mpr c36;subst c36;rw [if_neg (show ¬ (false=true) by decide)] at H
     (try dsimp only at H)
     replace H:=Option.bind_eq_some_iff.mp H;obtain⟨t236,A520,H⟩:=H
     (try dsimp only at H)
     have A52:=Aside0.mk A520;clear A520;by_cases c53:t236=true
     ·
      subst c53;rw [if_pos rfl] at H
      (try dsimp only at H)
      obtain rfl:=Option.some.inj H;have hnb62:=NB224_225.out;have hnc62:=NB225_224.out;have hcz63_0:=c40_ BK224;have hcz63_1:=c41_ BK224;have hcz63_2:=c42_ BK224;have hcz63_3:=c43_ BK224;have hfz63_0:=fz_ BK224 0;have hfz63_1:=fz_ BK224 1;have hfz63_2:=fz_ BK224 2;have hfz63_3:=fz_ BK224 3;have hcz64_0:=c40_ BK225;have hcz64_1:=c41_ BK225;have hcz64_2:=c42_ BK225;have hcz64_3:=c43_ BK225;have hfz64_0:=fz_ BK225 0;have hfz64_1:=fz_ BK225 1;have hfz64_2:=fz_ BK225 2;have hfz64_3:=fz_ BK225 3
      try go_wp2_with (first | (go_at_call 100;(with_reducible refine (spec_l2Has.calls a0_0 a0_1 a0_2 a0_3 a1_0 a1_1 false _ A21.out).mono ?_);rintro e w65 ⟨rfl,hb⟩;replace BK224:=vb_ BK224 hb;replace BK225:=vb_ BK225 hb;replace HB:=sb_ HB hb;(try clear hb);have hcz66_0:=c40_ BK224;have hcz66_1:=c41_ BK224;have hcz66_2:=c42_ BK224;have hcz66_3:=c43_ BK224;have hfz66_0:=fz_ BK224 0;have hfz66_1:=fz_ BK224 1;have hfz66_2:=fz_ BK224 2;have hfz66_3:=fz_ BK224 3;have hcz67_0:=c40_ BK225;have hcz67_1:=c41_ BK225;have hcz67_2:=c42_ BK225;have hcz67_3:=c43_ BK225;have hfz67_0:=fz_ BK225 0;have hfz67_1:=fz_ BK225 1;have hfz67_2:=fz_ BK225 2;have hfz67_3:=fz_ BK225 3) | (go_at_call 100;(with_reducible refine (spec_l2Has.calls a0_0 a0_1 a0_2 a0_3 a1_2 a1_3 false _ A35.out).mono ?_);rintro e w68 ⟨rfl,hb⟩;replace BK224:=vb_ BK224 hb;replace BK225:=vb_ BK225 hb;replace HB:=sb_ HB hb;(try clear hb);have hcz69_0:=c40_ BK225;have hcz69_1:=c41_ BK225;have hcz69_2:=c42_ BK225;have hcz69_3:=c43_ BK225;have hfz69_0:=fz_ BK225 0;have hfz69_1:=fz_ BK225 1;have hfz69_2:=fz_ BK225 2;have hfz69_3:=fz_ BK225 3;have hcz70_0:=c40_ BK224;have hcz70_1:=c41_ BK224;have hcz70_2:=c42_ BK224;have hcz70_3:=c43_ BK224;have hfz70_0:=fz_ BK224 0;have hfz70_1:=fz_ BK224 1;have hfz70_2:=fz_ BK224 2;have hfz70_3:=fz_ BK224 3) | (go_at_call 100;(with_reducible refine (spec_l2Has.calls a1_0 a1_1 a1_2 a1_3 a0_0 a0_1 true _ A52.out).mono ?_);rintro e w71 ⟨rfl,hb⟩;replace BK224:=vb_ BK224 hb;replace BK225:=vb_ BK225 hb;replace HB:=sb_ HB hb;(try clear hb)))
      go_ret;exact⟨rr_,hB_⟩
     ·
      replace c53:=Bool.eq_false_iff.mpr c53;subst c53;rw [if_neg (show ¬ (false=true) by decide)] at H
      (try dsimp only at H)
      replace H:=Option.bind_eq_some_iff.mp H;obtain⟨t237,A720,H⟩:=H
      (try dsimp only at H)
      have A72:=Aside0.mk A720;clear A720;obtain rfl:=Option.some.inj H;have hnb81:=NB224_225.out;have hnc81:=NB225_224.out;have hcz82_0:=c40_ BK224;have hcz82_1:=c41_ BK224;have hcz82_2:=c42_ BK224;have hcz82_3:=c43_ BK224;have hfz82_0:=fz_ BK224 0;have hfz82_1:=fz_ BK224 1;have hfz82_2:=fz_ BK224 2;have hfz82_3:=fz_ BK224 3;have hcz83_0:=c40_ BK225;have hcz83_1:=c41_ BK225;have hcz83_2:=c42_ BK225;have hcz83_3:=c43_ BK225;have hfz83_0:=fz_ BK225 0;have hfz83_1:=fz_ BK225 1;have hfz83_2:=fz_ BK225 2;have hfz83_3:=fz_ BK225 3
      try go_wp2_with (first | (go_at_call 100;(with_reducible refine (spec_l2Has.calls a0_0 a0_1 a0_2 a0_3 a1_0 a1_1 false _ A21.out).mono ?_);rintro e w84 ⟨rfl,hb⟩;replace BK224:=vb_ BK224 hb;replace BK225:=vb_ BK225 hb;replace HB:=sb_ HB hb;(try clear hb);have hcz85_0:=c40_ BK224;have hcz85_1:=c41_ BK224;have hcz85_2:=c42_ BK224;have hcz85_3:=c43_ BK224;have hfz85_0:=fz_ BK224 0;have hfz85_1:=fz_ BK224 1;have hfz85_2:=fz_ BK224 2;have hfz85_3:=fz_ BK224 3;have hcz86_0:=c40_ BK225;have hcz86_1:=c41_ BK225;have hcz86_2:=c42_ BK225;have hcz86_3:=c43_ BK225;have hfz86_0:=fz_ BK225 0;have hfz86_1:=fz_ BK225 1;have hfz86_2:=fz_ BK225 2;have hfz86_3:=fz_ BK225 3) | (go_at_call 100;(with_reducible refine (spec_l2Has.calls a0_0 a0_1 a0_2 a0_3 a1_2 a1_3 false _ A35.out).mono ?_);rintro e w87 ⟨rfl,hb⟩;replace BK224:=vb_ BK224 hb;replace BK225:=vb_ BK225 hb;replace HB:=sb_ HB hb;(try clear hb);have hcz88_0:=c40_ BK225;have hcz88_1:=c41_ BK225;have hcz88_2:=c42_ BK225;have hcz88_3:=c43_ BK225;have hfz88_0:=fz_ BK225 0;have hfz88_1:=fz_ BK225 1;have hfz88_2:=fz_ BK225 2;have hfz88_3:=fz_ BK225 3;have hcz89_0:=c40_ BK224;have hcz89_1:=c41_ BK224;have hcz89_2:=c42_ BK224;have hcz89_3:=c43_ BK224;have hfz89_0:=fz_ BK224 0;have hfz89_1:=fz_ BK224 1;have hfz89_2:=fz_ BK224 2;have hfz89_3:=fz_ BK224 3) | (go_at_call 100;(with_reducible refine (spec_l2Has.calls a1_0 a1_1 a1_2 a1_3 a0_0 a0_1 false _ A52.out).mono ?_);rintro e w90 ⟨rfl,hb⟩;replace BK224:=vb_ BK224 hb;replace BK225:=vb_ BK225 hb;replace HB:=sb_ HB hb;(try clear hb);have hcz91_0:=c40_ BK225;have hcz91_1:=c41_ BK225;have hcz91_2:=c42_ BK225;have hcz91_3:=c43_ BK225;have hfz91_0:=fz_ BK225 0;have hfz91_1:=fz_ BK225 1;have hfz91_2:=fz_ BK225 2;have hfz91_3:=fz_ BK225 3;have hcz92_0:=c40_ BK224;have hcz92_1:=c41_ BK224;have hcz92_2:=c42_ BK224;have hcz92_3:=c43_ BK224;have hfz92_0:=fz_ BK224 0;have hfz92_1:=fz_ BK224 1;have hfz92_2:=fz_ BK224 2;have hfz92_3:=fz_ BK224 3) | (go_at_call 100;(with_reducible refine (spec_l2Has.calls a1_0 a1_1 a1_2 a1_3 a0_2 a0_3 t237 _ A72.out).mono ?_);rintro e w93 ⟨rfl,hb⟩;replace BK224:=vb_ BK224 hb;replace BK225:=vb_ BK225 hb;replace HB:=sb_ HB hb;(try clear hb)))
      go_ret;exact⟨rr_,hB_⟩
 ·
  rw [if_neg c11] at H;have c11b0:decide ((wrap64 (t227*t229))<0)=false:=decide_eq_false c11;clear c11;replace H:=Option.bind_eq_some_iff.mp H;obtain⟨t238,A940,H⟩:=H
  (try dsimp only at H)
  have A94:=Aside0.mk A940;clear A940;by_cases c95:t238=true
  ·
   subst c95;rw [if_pos rfl] at H
   (try dsimp only at H)
   obtain rfl:=Option.some.inj H;have hnb104:=NB224_225.out;have hnc104:=NB225_224.out;have hcz105_0:=c40_ BK224;have hcz105_1:=c41_ BK224;have hcz105_2:=c42_ BK224;have hcz105_3:=c43_ BK224;have hfz105_0:=fz_ BK224 0;have hfz105_1:=fz_ BK224 1;have hfz105_2:=fz_ BK224 2;have hfz105_3:=fz_ BK224 3;have hcz106_0:=c40_ BK225;have hcz106_1:=c41_ BK225;have hcz106_2:=c42_ BK225;have hcz106_3:=c43_ BK225;have hfz106_0:=fz_ BK225 0;have hfz106_1:=fz_ BK225 1;have hfz106_2:=fz_ BK225 2;have hfz106_3:=fz_ BK225 3
   try go_wp2_with (first | (go_at_call 100;(with_reducible refine (spec_l2Has.calls a0_0 a0_1 a0_2 a0_3 a1_0 a1_1 true _ A94.out).mono ?_);rintro e w107 ⟨rfl,hb⟩;replace BK224:=vb_ BK224 hb;replace BK225:=vb_ BK225 hb;replace HB:=sb_ HB hb;(try clear hb)))
   go_ret;exact⟨rr_,hB_⟩
  ·
   replace c95:=Bool.eq_false_iff.mpr c95;subst c95;rw [if_neg (show ¬ (false=true) by decide)] at H
   (try dsimp only at H)
   replace H:=Option.bind_eq_some_iff.mp H;obtain⟨t239,A1080,H⟩:=H
   (try dsimp only at H)
   have A108:=Aside0.mk A1080;clear A1080;by_cases c109:t239=true
   ·
    subst c109;rw [if_pos rfl] at H
    (try dsimp only at H)
    obtain rfl:=Option.some.inj H;have hnb118:=NB224_225.out;have hnc118:=NB225_224.out;have hcz119_0:=c40_ BK224;have hcz119_1:=c41_ BK224;have hcz119_2:=c42_ BK224;have hcz119_3:=c43_ BK224;have hfz119_0:=fz_ BK224 0;have hfz119_1:=fz_ BK224 1;have hfz119_2:=fz_ BK224 2;have hfz119_3:=fz_ BK224 3;have hcz120_0:=c40_ BK225;have hcz120_1:=c41_ BK225;have hcz120_2:=c42_ BK225;have hcz120_3:=c43_ BK225;have hfz120_0:=fz_ BK225 0;have hfz120_1:=fz_ BK225 1;have hfz120_2:=fz_ BK225 2;have hfz120_3:=fz_ BK225 3
    try go_wp2_with (first | (go_at_call 100;(with_reducible refine (spec_l2Has.calls a0_0 a0_1 a0_2 a0_3 a1_0 a1_1 false _ A94.out).mono ?_);rintro e w121 ⟨rfl,hb⟩;replace BK224:=vb_ BK224 hb;replace BK225:=vb_ BK225 hb;replace HB:=sb_ HB hb;(try clear hb);have hcz122_0:=c40_ BK224;have hcz122_1:=c41_ BK224;have hcz122_2:=c42_ BK224;have hcz122_3:=c43_ BK224;have hfz122_0:=fz_ BK224 0;have hfz122_1:=fz_ BK224 1;have hfz122_2:=fz_ BK224 2;have hfz122_3:=fz_ BK224 3;have hcz123_0:=c40_ BK225;have hcz123_1:=c41_ BK225;have hcz123_2:=c42_ BK225;have hcz123_3:=c43_ BK225;have hfz123_0:=fz_ BK225 0;have hfz123_1:=fz_ BK225 1;have hfz123_2:=fz_ BK225 2;have hfz123_3:=fz_ BK225 3) | (go_at_call 100;(with_reducible refine (spec_l2Has.calls a0_0 a0_1 a0_2 a0_3 a1_2 a1_3 true _ A108.out).mono ?_);rintro e w124 ⟨rfl,hb⟩;replace BK224:=vb_ BK224 hb;replace BK225:=vb_ BK225 hb;replace HB:=sb_ HB hb;(try clear hb)))
    go_ret;exact⟨rr_,hB_⟩
   ·
    replace c109:=Bool.eq_false_iff.mpr c109;subst c109;rw [if_neg (show ¬ (false=true) by decide)] at H
    (try dsimp only at H)
    replace H:=Option.bind_eq_some_iff.mp H;obtain⟨t240,A1250,H⟩:=H
    (try dsimp only at H)
    have A125:=Aside0.mk A1250;clear A1250;by_cases c126:t240=true
    ·
     subst c126;rw [if_pos rfl] at H
     (try dsimp only at H)
     obtain rfl:=Option.some.inj H;have hnb135:=NB224_225.out;have hnc135:=NB225_224.out;have hcz136_0:=c40_ BK224;have hcz136_1:=c41_ BK224;have hcz136_2:=c42_ BK224;have hcz136_3:=c43_ BK224;have hfz136_0:=fz_ BK224 0;have hfz136_1:=fz_ BK224 1;have hfz136_2:=fz_ BK224 2;have hfz136_3:=fz_ BK224 3;have hcz137_0:=c40_ BK225;have hcz137_1:=c41_ BK225;have hcz137_2:=c42_ BK225;have hcz137_3:=c43_ BK225;have hfz137_0:=fz_ BK225 0;have hfz137_1:=fz_ BK225 1;have hfz137_2:=fz_ BK225 2;have hfz137_3:=fz_ BK225 3
     try go_wp2_with (first | (go_at_call 100;(with_reducible refine (spec_l2Has.calls a0_0 a0_1 a0_2 a0_3 a1_0 a1_1 false _ A94.out).mono ?_);rintro e w138 ⟨rfl,hb⟩;replace BK224:=vb_ BK224 hb;replace BK225:=vb_ BK225 hb;replace HB:=sb_ HB hb;(try clear hb);have hcz139_0:=c40_ BK224;have hcz139_1:=c41_ BK224;have hcz139_2:=c42_ BK224;have hcz139_3:=c43_ BK224;have hfz139_0:=fz_ BK224 0;have hfz139_1:=fz_ BK224 1;have hfz139_2:=fz_ BK224 2;have hfz139_3:=fz_ BK224 3;have hcz140_0:=c40_ BK225;have hcz140_1:=c41_ BK225;have hcz140_2:=c42_ BK225;have hcz140_3:=c43_ BK225;have hfz140_0:=fz_ BK225 0;have hfz140_1:=fz_ BK225 1;have hfz140_2:=fz_ BK225 2;have hfz140_3:=fz_ BK225 3) | (go_at_call 100;(with_reducible refine (spec_l2Has.calls a0_0 a0_1 a0_2 a0_3 a1_2 a1_3 false _ A108.out).mono ?_);rintro e w141 ⟨rfl,hb⟩;replace BK224:=vb_ BK224 hb;replace BK225:=vb_ BK225 hb;replace HB:=sb_ HB hb;(try clear hb);have hcz142_0:=c40_ BK225;have hcz142_1:=c41_ BK225;have hcz142_2:=c42_ BK225;have hcz142_3:=c43_ BK225;have hfz142_0:=fz_ BK225 0;have hfz142_1:=fz_ BK225 1;have hfz142_2:=fz_ BK225 2;have hfz142_3:=fz_ BK225 3;have hcz143_0:=c40_ BK224;have hcz143_1:=c41_ BK224;have hcz143_2:=c42_ BK224;have hcz143_3:=c43_ BK224;have hfz143_0:=fz_ BK224 0;have hfz143_1:=fz_ BK224 1;have hfz143_2:=fz_ BK224 2;have hfz143_3:=fz_ BK224 3) | (go_at_call 100;(with_reducible refine (spec_l2Has.calls a1_0 a1_1 a1_2 a1_3 a0_0 a0_1 true _ A125.out).mono ?_);rintro e w144 ⟨rfl,hb⟩;replace BK224:=vb_ BK224 hb;replace BK225:=vb_ BK225 hb;replace HB:=sb_ HB hb;(try clear hb)))
     go_ret;exact⟨rr_,hB_⟩
    ·
     replace c126:=Bool.eq_false_iff.mpr c126;subst c126;rw [if_neg (show ¬ (false=true) by decide)] at H
     (try dsimp only at H)
     replace H:=Option.bind_eq_some_iff.mp H;obtain⟨t241,A1450,H⟩:=H
     (try dsimp only at H)
     have A145:=Aside0.mk A1450;clear A1450;obtain rfl:=Option.some.inj H;have hnb154:=NB224_225.out;have hnc154:=NB225_224.out;have hcz155_0:=c40_ BK224;have hcz155_1:=c41_ BK224;have hcz155_2:=c42_ BK224;have hcz155_3:=c43_ BK224;have hfz155_0:=fz_ BK224 0;have hfz155_1:=fz_ BK224 1;have hfz155_2:=fz_ BK224 2;have hfz155_3:=fz_ BK224 3;have hcz156_0:=c40_ BK225;have hcz156_1:=c41_ BK225;have hcz156_2:=c42_ BK225;have hcz156_3:=c43_ BK225;have hfz156_0:=fz_ BK225 0;have hfz156_1:=fz_ BK225 1;have hfz156_2:=fz_ BK225 2;have hfz156_3:=fz_ BK225 3
     try go_wp2_with (first | (go_at_call 100;(with_reducible refine (spec_l2Has.calls a0_0 a0_1 a0_2 a0_3 a1_0 a1_1 false _ A94.out).mono ?_);rintro e w157 ⟨rfl,hb⟩;replace BK224:=vb_ BK224 hb;replace BK225:=vb_ BK225 hb;replace HB:=sb_ HB hb;(try clear hb);have hcz158_0:=c40_ BK224;have hcz158_1:=c41_ BK224;have hcz158_2:=c42_ BK224;have hcz158_3:=c43_ BK224;have hfz158_0:=fz_ BK224 0;have hfz158_1:=fz_ BK224 1;have hfz158_2:=fz_ BK224 2;have hfz158_3:=fz_ BK224 3;have hcz159_0:=c40_ BK225;have hcz159_1:=c41_ BK225;have hcz159_2:=c42_ BK225;have hcz159_3:=c43_ BK225;have hfz159_0:=fz_ BK225 0;have hfz159_1:=fz_ BK225 1;have hfz159_2:=fz_ BK225 2;have hfz159_3:=fz_ BK225 3) | (go_at_call 100;(with_reducible refine (spec_l2Has.calls a0_0 a0_1 a0_2 a0_3 a1_2 a1_3 false _ A108.out).mono ?_);rintro e w160 ⟨rfl,hb⟩;replace BK224:=vb_ BK224 hb;replace BK225:=vb_ BK225 hb;replace HB:=sb_ HB hb;(try clear hb);have hcz161_0:=c40_ BK225;have hcz161_1:=c41_ BK225;have hcz161_2:=c42_ BK225;have hcz161_3:=c43_ BK225;have hfz161_0:=fz_ BK225 0;have hfz161_1:=fz_ BK225 1;have hfz161_2:=fz_ BK225 2;have hfz161_3:=fz_ BK225 3;have hcz162_0:=c40_ BK224;have hcz162_1:=c41_ BK224;have hcz162_2:=c42_ BK224;have hcz162_3:=c43_ BK224;have hfz162_0:=fz_ BK224 0;have hfz162_1:=fz_ BK224 1;have hfz162_2:=fz_ BK224 2;have hfz162_3:=fz_ BK224 3) | (go_at_call 100;(with_reducible refine (spec_l2Has.calls a1_0 a1_1 a1_2 a1_3 a0_0 a0_1 false _ A125.out).mono ?_);rintro e w163 ⟨rfl,hb⟩;replace BK224:=vb_ BK224 hb;replace BK225:=vb_ BK225 hb;replace HB:=sb_ HB hb;(try clear hb);have hcz164_0:=c40_ BK225;have hcz164_1:=c41_ BK225;have hcz164_2:=c42_ BK225;have hcz164_3:=c43_ BK225;have hfz164_0:=fz_ BK225 0;have hfz164_1:=fz_ BK225 1;have hfz164_2:=fz_ BK225 2;have hfz164_3:=fz_ BK225 3;have hcz165_0:=c40_ BK224;have hcz165_1:=c41_ BK224;have hcz165_2:=c42_ BK224;have hcz165_3:=c43_ BK224;have hfz165_0:=fz_ BK224 0;have hfz165_1:=fz_ BK224 1;have hfz165_2:=fz_ BK224 2;have hfz165_3:=fz_ BK224 3) | (go_at_call 100;(with_reducible refine (spec_l2Has.calls a1_0 a1_1 a1_2 a1_3 a0_2 a0_3 t241 _ A145.out).mono ?_);rintro e w166 ⟨rfl,hb⟩;replace BK224:=vb_ BK224 hb;replace BK225:=vb_ BK225 hb;replace HB:=sb_ HB hb;(try clear hb)))
     go_ret;exact⟨rr_,hB_⟩
end Go.Proofs.YtkefmnmoaomlhaaDoor.X
end
section
set_option linter.unusedVariables false
set_option linter.unusedSimpArgs false
namespace Go.Proofs.YtkefmnmoaomlhaaDoor.X
open Go.RowKit Go.Proofs.YtkefmnmoaomlhaaDoorW.PrintWords Go.Proofs.YtkefmnmoaomlhaaDoorW.PrintLast Go.Proofs.YtkefmnmoaomlhaaDoorW.PrintMore
open Mort
theorem sMeet {a b c d e f g h:Int}(o1:ptOk (a,b)=true)(o2:ptOk (c,d)=true)(o3:ptOk (e,f)=true)(o4:ptOk (g,h)=true):
  spec_l2Meet.f a b c d e f g h=some (meet ((a,b),(c,d)) ((e,f),(g,h))):=by
 unfold spec_l2Meet.f meet;simp only [sCross o1 o2 o3,sCross o1 o2 o4,sCross o3 o4 o1,sCross o3 o4 o2,sSign,sHas o1 o2 o3,sHas o1 o2 o4,sHas o3 o4 o1,sHas o3 o4 o2,Option.bind_some,turn_mul];by_cases z1:sgn (cross (a,b) (c,d) (e,f))*sgn (cross (a,b) (c,d) (g,h))<0 <;>
 by_cases z2:sgn (cross (e,f) (g,h) (a,b))*sgn (cross (e,f) (g,h) (c,d))<0 <;>
 cases has ((a,b),(c,d)) (e,f) <;> cases has ((a,b),(c,d)) (g,h) <;> cases has ((e,f),(g,h)) (a,b) <;> cases has ((e,f),(g,h)) (c,d) <;> simp [z1,z2]
end Go.Proofs.YtkefmnmoaomlhaaDoor.X
end
section
namespace Go.Proofs.YtkefmnmoaomlhaaDoor.X
open Go.RowKit Go.Proofs.YtkefmnmoaomlhaaDoorW.PrintWords Go.Proofs.YtkefmnmoaomlhaaDoorW.PrintLast Go.Proofs.YtkefmnmoaomlhaaDoorW.PrintMore
attribute [local go_sem] max2_int min2_int max_two min_two max_three min_three max_four min_four
set_option linter.unusedVariables false
set_option linter.unusedSimpArgs false
mutual
def spec_LoopOk.l0:Nat→Int→List (S61)→Int→Option (Bool)
 | 0,_,_,_=>none
 | k+1,x3,x4,x5=>if x5<x3 then (if 0≤x5 then (if x5<(x4.length:Int) then ((spec_SegOk.f ((rd_T61 x4 x5).f0.f0) ((rd_T61 x4 x5).f0.f1) ((rd_T61 x4 x5).f1.f0) ((rd_T61 x4 x5).f1.f1)).bind fun t158=>(if t158=true then (spec_LoopOk.l0 k x3 x4 (wrap64 (x5+1))) else (some false))) else (none)) else (none)) else (spec_LoopOk.l1 k x3 x4 0)
def spec_LoopOk.l1:Nat→Int→List (S61)→Int→Option (Bool)
 | 0,_,_,_=>none
 | k+1,x3,x4,x6=>if x6<x3 then (if 0≤x6 then (if x6<(x4.length:Int) then (if x3=0 then (none) else (if 0≤(Int.tmod (wrap64 (x6+1)) x3) then (if (Int.tmod (wrap64 (x6+1)) x3)<(x4.length:Int) then ((spec_l2Has.f ((rd_T61 x4 x6).f0.f0) ((rd_T61 x4 x6).f0.f1) ((rd_T61 x4 x6).f1.f0) ((rd_T61 x4 x6).f1.f1) ((rd_T61 x4 (Int.tmod (wrap64 (x6+1)) x3)).f1.f0) ((rd_T61 x4 (Int.tmod (wrap64 (x6+1)) x3)).f1.f1)).bind fun t161=>(if t161=true then (spec_LoopOk.j2 k x3 x4 x6 true) else ((spec_l2Has.f ((rd_T61 x4 (Int.tmod (wrap64 (x6+1)) x3)).f0.f0) ((rd_T61 x4 (Int.tmod (wrap64 (x6+1)) x3)).f0.f1) ((rd_T61 x4 (Int.tmod (wrap64 (x6+1)) x3)).f1.f0) ((rd_T61 x4 (Int.tmod (wrap64 (x6+1)) x3)).f1.f1) ((rd_T61 x4 x6).f0.f0) ((rd_T61 x4 x6).f0.f1)).bind fun t164=>(spec_LoopOk.j2 k x3 x4 x6 t164)))) else (none)) else (none))) else (none)) else (none)) else (some true)
def spec_LoopOk.j2:Nat→Int→List (S61)→Int→Bool→Option (Bool)
 | 0,_,_,_,_=>none
 | k+1,x3,x4,x6,x58=>if x58=true then (some false) else (spec_LoopOk.l2 k x3 x4 x6 (wrap64 (x6+2)))
def spec_LoopOk.l2:Nat→Int→List (S61)→Int→Int→Option (Bool)
 | 0,_,_,_,_=>none
 | k+1,x3,x4,x6,x7=>if x7<x3 then (if x3=0 then (none) else (if (Int.tmod (wrap64 (x7+1)) x3)=x6 then (spec_LoopOk.l2 k x3 x4 x6 (wrap64 (x7+1))) else (if 0≤x6 then (if x6<(x4.length:Int) then (if 0≤x7 then (if x7<(x4.length:Int) then ((spec_l2Meet.f ((rd_T61 x4 x6).f0.f0) ((rd_T61 x4 x6).f0.f1) ((rd_T61 x4 x6).f1.f0) ((rd_T61 x4 x6).f1.f1) ((rd_T61 x4 x7).f0.f0) ((rd_T61 x4 x7).f0.f1) ((rd_T61 x4 x7).f1.f0) ((rd_T61 x4 x7).f1.f1)).bind fun t167=>(if t167=true then (some false) else (spec_LoopOk.l2 k x3 x4 x6 (wrap64 (x7+1))))) else (none)) else (none)) else (none)) else (none)))) else (spec_LoopOk.l1 k x3 x4 (wrap64 (x6+1)))
end
def spec_LoopOk.f (k:Nat)(l0:List (S28)):Option (Bool):=(spec_l6In.f (l0.length:Int) 3 8).bind fun t153=>(if t153=true then ((spec_l3Edges.f k l0).bind fun t154=>(spec_LoopOk.l0 k (l0.length:Int) t154 0)) else (some false))
def spec_LoopOk.T13:Bool × List (List Nat × List Nat):=(true,[([],[]),([],[]),([0,1],[0,1]),([2],[2]),([],[]),([],[]),([5],[5]),([],[]),([6,7],[6,7]),([4,8],[4,8]),([9],[9]),([10],[10]),([3,11],[3,11]),([12,12],[12]),([13],[13]),([13],[13]),([15,13],[13,15]),([13],[13]),([16,17,13],[13,16,17]),([14,18,13],[13,14,18]),([19,13],[13,19]),([13],[13]),([13],[13]),([21,22,13],[13,21,22]),([23,13],[13,23]),([24,13],[13,24]),([20,25,13,13],[13,20,25]),([13,26],[13,26])])
def spec_LoopOk.B13:List Nat:=[0,0,3,7,0,0,32,0,224,496,1008,2032,4095,8191,16383,16383,49151,16383,245759,524287,1048575,16383,16383,6307839,14696447,31473663,67108863,134217727]
theorem spec_LoopOk.tab13:rtab .any (opsOf Tryd.f55 13)=spec_LoopOk.T13:=by kernel_rfl
theorem spec_LoopOk.bits13:waitsOk spec_LoopOk.T13.2 spec_LoopOk.B13=true:=by kernel_rfl
def spec_LoopOk.T18:Bool × List (List Nat × List Nat):=(true,[([],[]),([0],[0]),([],[]),([1,2],[1,2]),([],[]),([3,4],[3,4]),([5],[5]),([6],[6]),([6],[6]),([7,8,6],[6,7,8]),([9,6],[6,9]),([6],[6]),([6],[6]),([11,12,6],[6,11,12]),([13,6],[6,13]),([10,14,6,6],[6,10,14]),([6,15],[6,15])])
def spec_LoopOk.B18:List Nat:=[0,1,0,7,0,31,63,127,127,511,1023,127,127,6271,14463,32767,65535]
theorem spec_LoopOk.tab18:rtab .any (opsOf Tryd.f55 18)=spec_LoopOk.T18:=by kernel_rfl
theorem spec_LoopOk.bits18:waitsOk spec_LoopOk.T18.2 spec_LoopOk.B18=true:=by kernel_rfl
set_option maxHeartbeats 8000000 in
set_option maxRecDepth 100000 in
theorem spec_LoopOk.calls (k:Nat)(A0:Option Addr)(c0:Nat)(l0:List (S28))(r:Bool)(w:World)(hr0:Kd.C k28 w A0 l0.length l0)(hc0:l0.length≤c0)(h:spec_LoopOk.f k l0=some r):
  Calls Tryd.prog 55 #[.slice A0 l0.length c0] w fun e w'=>e=.returned (.bool r)∧Below w.heap.size w w':=by
 have hu61:=Tryd.underlying61;have hu28:=Tryd.underlying28;have HR0:=Aside0.mk hr0;have HC0:=Aside0.mk hc0;clear hr0 hc0;have HB:=a0_ (Below.refl w.heap.size w);have H:((spec_l6In.f (l0.length:Int) 3 8).bind fun t153=>(if t153=true then ((spec_l3Edges.f k l0).bind fun t154=>(spec_LoopOk.l0 k (l0.length:Int) t154 0)) else (some false)))=some r:=h;clear h;replace H:=Option.bind_eq_some_iff.mp H;obtain⟨t153,A20,H⟩:=H
 (try dsimp only at H)
 have A2:=Aside0.mk A20;clear A20;by_cases c3:t153=true
 ·
  subst c3;rw [if_pos rfl] at H
  (try dsimp only at H)
  replace H:=Option.bind_eq_some_iff.mp H;obtain⟨t154,A40,H⟩:=H
  (try dsimp only at H)
  have A4:=Aside0.mk A40;clear A40;have H':=Aside0.mk H;clear H;go_enter Tryd.func55,Tryd.ntmps55;go_wp2_with (first | ((with_reducible refine gate_callee (f:=58) rfl ?_);refine gL_ (some 11) Tryd.func58 #[.int .i64 (l0.length:Int),.int .i64 3,.int .i64 8] (h:=?_);(with_reducible refine (spec_l6In.calls (l0.length:Int) 3 8 true _ A2.out).mono ?_);rintro e w' ⟨rfl,⟨nd,rfl⟩⟩;refine⟨_,rfl,?_⟩) | ((with_reducible refine gate_callee (f:=98) rfl ?_);refine gL_ (some 14) Tryd.func98 #[.slice A0 l0.length c0] (h:=?_);(with_reducible refine (spec_l3Edges.calls k _ _ l0 t154 _ ?side1 ?side2 A4.out).mono ?_);(case side1=>repeat (first | exact HR0.out | (with_reducible refine Kd.C_alloc ?_ _) | (with_reducible refine Kd.C_drewN ?_ _) | (with_reducible refine Kd.C_drew ?_)));(case side2=>exact HC0.out);rintro e w5 ⟨v155,rfl,ho0,hb⟩;refine⟨_,rfl,?_⟩;have HO156:=a0_ (Kd.R_lower ho0 (below_size hB_));replace HB:=sb_ HB hb;(try clear ho0 hb)));go_loopg [5] k (fun kq v5 w'=>∃ (x5_1:Int),v5=.int .i64 x5_1∧Aside0 (spec_LoopOk.l0 kq (l0.length:Int) t154 x5_1=some r)∧Aside0 (kq≤k)∧Aside0 (Kd.R k61 61 w' w.heap.size (fun _=>True) v155 t154)∧Aside0 (Below w.heap.size w w'))
  case atStart=>exact⟨(0),(by first | rfl | (simp;done) | (simp [*];done)),H',⟨Nat.le_refl _⟩,⟨by (with_reducible repeat (first | apply Kd.R_alloc | apply Kd.R_drewN | apply Kd.R_drew));exact HO156.out⟩,⟨hB_⟩⟩
  case round =>
   clear H';obtain⟨x5_1,rfl,HA,HK1,HO_4,HB⟩:=hrel
   cases gk with
   | zero=>exact absurd HA.out (by simp [spec_LoopOk.l0])
   | succ k1 =>
    have H:=HA.out;clear HA;simp only [spec_LoopOk.l0] at H;by_cases c6:x5_1<(l0.length:Int)
    ·
     rw [if_pos c6] at H;have c6b0:decide (x5_1<(l0.length:Int))=true:=decide_eq_true c6;clear c6;by_cases c7:0≤x5_1
     ·
      rw [if_pos c7] at H;have c7b0:decide (0≤x5_1)=true:=decide_eq_true c7;clear c7;by_cases c8:x5_1<(t154.length:Int)
      ·
       rw [if_pos c8] at H;have c8b0:decide (x5_1<(t154.length:Int))=true:=decide_eq_true c8;clear c8;replace H:=Option.bind_eq_some_iff.mp H;obtain⟨t158,A90,H⟩:=H
       (try dsimp only at H)
       have A9:=Aside0.mk A90;clear A90;by_cases c10:t158=true
       ·
        subst c10;rw [if_pos rfl] at H
        (try dsimp only at H)
        have H':=Aside0.mk H;clear H;obtain⟨Ao11,co11,eo11⟩:=Kd.R_slice HO_4.out;subst eo11;have p157:0≤(x5_1:Int):=od_;have q157:x5_1<(t154.length:Int):=od_;obtain⟨ad157,e157,hx157_0,hx157_1,hx157_2,hx157_3⟩:=at_T61 (Kd.R_reads' HO_4.out).2.2 x5_1 p157 q157;cases e157;replace p157:=eq_true p157;replace q157:=eq_true q157;go_wp2_with (first | ((with_reducible refine gate_callee (f:=99) rfl ?_);refine gL_ (some 24) Tryd.func99 #[.agg #[.int .i64 ((rd_T61 t154 x5_1).f0.f0),.int .i64 ((rd_T61 t154 x5_1).f0.f1),.int .i64 ((rd_T61 t154 x5_1).f1.f0),.int .i64 ((rd_T61 t154 x5_1).f1.f1)]] (h:=?_);(with_reducible refine (spec_SegOk.calls ((rd_T61 t154 x5_1).f0.f0) ((rd_T61 t154 x5_1).f0.f1) ((rd_T61 t154 x5_1).f1.f0) ((rd_T61 t154 x5_1).f1.f1) true _ A9.out).mono ?_);rintro e w12 ⟨rfl,hb⟩;refine⟨_,rfl,?_⟩;replace HO_4:=rb_ HO_4 hb;replace HB:=sb_ HB hb;(try clear hb)));go_roundg k1
        case measure=>have:=HK1.out;omega
        case rel=>exact⟨(wrap64 (x5_1+1)),(by first | rfl | (simp;done) | (simp [*];done)),H',⟨by have:=HK1.out;omega⟩,⟨by (with_reducible repeat (first | apply Kd.R_alloc | apply Kd.R_drewN | apply Kd.R_drew));exact HO_4.out⟩,⟨hB_⟩⟩
       ·
        replace c10:=Bool.eq_false_iff.mpr c10;subst c10;rw [if_neg (show ¬ (false=true) by decide)] at H
        (try dsimp only at H)
        obtain rfl:=Option.some.inj H;obtain⟨Ao13,co13,eo13⟩:=Kd.R_slice HO_4.out;subst eo13;have p157:0≤(x5_1:Int):=od_;have q157:x5_1<(t154.length:Int):=od_;obtain⟨ad157,e157,hx157_0,hx157_1,hx157_2,hx157_3⟩:=at_T61 (Kd.R_reads' HO_4.out).2.2 x5_1 p157 q157;cases e157;replace p157:=eq_true p157;replace q157:=eq_true q157;go_wp2_with (first | ((with_reducible refine gate_callee (f:=99) rfl ?_);refine gL_ (some 24) Tryd.func99 #[.agg #[.int .i64 ((rd_T61 t154 x5_1).f0.f0),.int .i64 ((rd_T61 t154 x5_1).f0.f1),.int .i64 ((rd_T61 t154 x5_1).f1.f0),.int .i64 ((rd_T61 t154 x5_1).f1.f1)]] (h:=?_);(with_reducible refine (spec_SegOk.calls ((rd_T61 t154 x5_1).f0.f0) ((rd_T61 t154 x5_1).f0.f1) ((rd_T61 t154 x5_1).f1.f0) ((rd_T61 t154 x5_1).f1.f1) false _ A9.out).mono ?_);rintro e w14 ⟨rfl,hb⟩;refine⟨_,rfl,?_⟩;replace HO_4:=rb_ HO_4 hb;replace HB:=sb_ HB hb;(try clear hb)));go_ret;exact⟨rr_,hB_⟩
      ·
       rw [if_neg c8] at H;exact absurd H (by simp)
     ·
      rw [if_neg c7] at H;exact absurd H (by simp)
    ·
     rw [if_neg c6] at H;have c6b0:decide (x5_1<(l0.length:Int))=false:=decide_eq_false c6;clear c6;have H':=Aside0.mk H;clear H;go_wp2;go_loopg [6] k1 (fun kq v6 w'=>∃ (x6_2:Int),v6=.int .i64 x6_2∧Aside0 (spec_LoopOk.l1 kq (l0.length:Int) t154 x6_2=some r)∧Aside0 (kq≤k1)∧Aside0 (Kd.R k61 61 w' w.heap.size (fun _=>True) v155 t154)∧Aside0 (Below w.heap.size w w'))
     case atStart=>exact⟨(0),(by first | rfl | (simp;done) | (simp [*];done)),H',⟨Nat.le_refl _⟩,⟨by (with_reducible repeat (first | apply Kd.R_alloc | apply Kd.R_drewN | apply Kd.R_drew));exact HO_4.out⟩,⟨hB_⟩⟩
     case round =>
      clear H';obtain⟨x6_2,rfl,HA,HK2,HO_4,HB⟩:=hrel
      cases gk with
      | zero=>exact absurd HA.out (by simp [spec_LoopOk.l1])
      | succ k2 =>
       have H:=HA.out;clear HA;simp only [spec_LoopOk.l1] at H;by_cases c15:x6_2<(l0.length:Int)
       ·
        rw [if_pos c15] at H;have c15b0:decide (x6_2<(l0.length:Int))=true:=decide_eq_true c15;clear c15;have HC16:=Aside0.mk H;clear H;go_upto_region 13 with (fail)
        go_cut [58] (fun v58 wc=>∃ (kq:Nat) (x58_15:Bool),v58=.bool x58_15∧Aside0 (spec_LoopOk.j2 kq (l0.length:Int) t154 x6_2 x58_15=some r)∧Aside0 (kq≤k2)∧Aside0 (Kd.R k61 61 wc w.heap.size (fun _=>True) v155 t154)∧Aside0 (Below w.heap.size w wc))
        case first =>
         have H:=HC16.out;clear HC16;by_cases c17:0≤x6_2
         ·
          rw [if_pos c17] at H;have c17b0:decide (0≤x6_2)=true:=decide_eq_true c17;clear c17
          (first | rw [c17b0] | (simp only [i64_w,i32_w];rw [c17b0]) | skip)
          by_cases c18:x6_2<(t154.length:Int)
          ·
           rw [if_pos c18] at H;have c18b0:decide (x6_2<(t154.length:Int))=true:=decide_eq_true c18;clear c18;by_cases c19:(l0.length:Int)=0
           ·
            rw [if_pos c19] at H;exact absurd H (by simp)
           ·
            rw [if_neg c19] at H;have c19b0:((l0.length:Int)==0)=false:=beq_eq_false_iff_ne.mpr c19;have c19b1:((l0.length:Int) != 0)=true:=bne_iff_ne.mpr c19;have c19b2:¬ (l0=[]):=fun h_=>c19 (by rw [h_];rfl)
            obtain⟨ji20,hji20⟩:∃ j_:Int,(Int.tmod (wrap64 (x6_2+1)) (l0.length:Int))=j_:=⟨_,rfl⟩;replace H:(if 0≤(ji20) then (if (ji20)<(t154.length:Int) then ((spec_l2Has.f ((rd_T61 t154 x6_2).f0.f0) ((rd_T61 t154 x6_2).f0.f1) ((rd_T61 t154 x6_2).f1.f0) ((rd_T61 t154 x6_2).f1.f1) ((rd_T61 t154 (ji20)).f1.f0) ((rd_T61 t154 (ji20)).f1.f1)).bind fun t161=>(if t161=true then (spec_LoopOk.j2 k2 (l0.length:Int) t154 x6_2 true) else ((spec_l2Has.f ((rd_T61 t154 (ji20)).f0.f0) ((rd_T61 t154 (ji20)).f0.f1) ((rd_T61 t154 (ji20)).f1.f0) ((rd_T61 t154 (ji20)).f1.f1) ((rd_T61 t154 x6_2).f0.f0) ((rd_T61 t154 x6_2).f0.f1)).bind fun t164=>(spec_LoopOk.j2 k2 (l0.length:Int) t154 x6_2 t164)))) else (none)) else (none))=some r:=by first | (rw [hji20] at H;exact H) | (simp only [hji20] at H ⊢;exact H)
            by_cases c21:0≤(ji20)
            ·
             rw [if_pos c21] at H;have c21b0:decide (0≤(ji20))=true:=decide_eq_true c21;clear c21;by_cases c22:(ji20)<(t154.length:Int)
             ·
              rw [if_pos c22] at H;have c22b0:decide ((ji20)<(t154.length:Int))=true:=decide_eq_true c22;clear c22;replace H:=Option.bind_eq_some_iff.mp H;obtain⟨t161,A230,H⟩:=H
              (try dsimp only at H)
              have A23:=Aside0.mk A230;clear A230;by_cases c24:t161=true
              ·
               subst c24;rw [if_pos rfl] at H
               (try dsimp only at H)
               have H':=Aside0.mk H;clear H
               try go_wp2
               replace HO_4:=a0_ (Kd.R_drew HO_4.out);replace HB:=a0_ (below_drew1 HB.out);obtain⟨Ao26,co26,eo26⟩:=Kd.R_slice HO_4.out
               (first | subst eo26 | (injection eo26 with f1_ f2_ f3_;have f4_:=f1_.symm;have f5_:=f3_.symm;clear f1_ f2_ f3_;subst f4_;subst f5_))
               have p159:0≤(x6_2:Int):=od_;have q159:x6_2<(t154.length:Int):=od_;obtain⟨ad159,e159,hx159_0,hx159_1,hx159_2,hx159_3⟩:=at_T61 (Kd.R_reads' HO_4.out).2.2 x6_2 p159 q159;cases e159;replace p159:=eq_true p159;replace q159:=eq_true q159;have p160:0≤((ji20):Int):=od_;have q160:(ji20)<(t154.length:Int):=od_;obtain⟨ad160,e160,hx160_0,hx160_1,hx160_2,hx160_3⟩:=at_T61 (Kd.R_reads' HO_4.out).2.2 (ji20) p160 q160;obtain rfl:ad159=ad160:=(by injection e160);replace p160:=eq_true p160;replace q160:=eq_true q160;refine start_ (n:=28) (S:=fun w'=>w'.cell? (ad159.add ((x6_2).toNat*4))=some (.int .i64 ((rd_T61 t154 x6_2).f0.f0))∧w'.cell? ⟨(ad159.add ((x6_2).toNat*4)).block,(ad159.add ((x6_2).toNat*4)).off+1,none⟩=some (.int .i64 ((rd_T61 t154 x6_2).f0.f1))∧w'.cell? ⟨(ad159.add ((x6_2).toNat*4)).block,(ad159.add ((x6_2).toNat*4)).off+2,none⟩=some (.int .i64 ((rd_T61 t154 x6_2).f1.f0))∧w'.cell? ⟨(ad159.add ((x6_2).toNat*4)).block,(ad159.add ((x6_2).toNat*4)).off+3,none⟩=some (.int .i64 ((rd_T61 t154 x6_2).f1.f1))∧w'.cell? (ad159.add (((ji20)).toNat*4))=some (.int .i64 ((rd_T61 t154 (ji20)).f0.f0))∧w'.cell? ⟨(ad159.add (((ji20)).toNat*4)).block,(ad159.add (((ji20)).toNat*4)).off+1,none⟩=some (.int .i64 ((rd_T61 t154 (ji20)).f0.f1))∧w'.cell? ⟨(ad159.add (((ji20)).toNat*4)).block,(ad159.add (((ji20)).toNat*4)).off+2,none⟩=some (.int .i64 ((rd_T61 t154 (ji20)).f1.f0))∧w'.cell? ⟨(ad159.add (((ji20)).toNat*4)).block,(ad159.add (((ji20)).toNat*4)).off+3,none⟩=some (.int .i64 ((rd_T61 t154 (ji20)).f1.f1))) (ds:=[]) (Array.replicate 28 false) (by kernel_rfl) rfl rfl ⟨hx159_0,hx159_1,hx159_2,hx159_3,hx160_0,hx160_1,hx160_2,hx160_3⟩ (fun hHeld=>?_);refine with_tabW spec_LoopOk.tab13 spec_LoopOk.bits13 (fun HT_ HW_=>?_)
               generalize wr.drew=w25 at HO_4 HB hx159_0 hx159_1 hx159_2 hx159_3 hx160_0 hx160_1 hx160_2 hx160_3 hHeld ⊢
               refine pu_ HT_ 0 31 (bm 28 1) ?_;refine pu_ HT_ 1 32 (bm 28 3) ?_;refine pu_ HT_ 2 33 (bm 28 7) ?_;refine pu_ HT_ 4 35 (bm 28 23) ?_;refine pu_ HT_ 5 36 (bm 28 55) ?_;refine pu_ HT_ 6 37 (bm 28 119) ?_;refine pu_ HT_ 7 38 (bm 28 247) ?_;refine pu_ HT_ 8 39 (bm 28 503) ?_;refine pu_ HT_ 9 40 (bm 28 1015) ?_;refine pu_ HT_ 10 41 (bm 28 2039) ?_;refine ta8_ HT_ HW_ 3 34 (bm 28 2047) hHeld ?_;refine ta8_ HT_ HW_ 11 42 (bm 28 4095) hHeld ?_;refine one_ (i:=12) (N:=some 43) (bm 28 8191) rfl rfl (one_of HT_.out (by kernel_rfl)) (by decide) (fun K hK=>?_);refine goes_ Tryd.func100 (by kernel_rfl) rfl #[.agg #[.int .i64 ((rd_T61 t154 x6_2).f0.f0),.int .i64 ((rd_T61 t154 x6_2).f0.f1),.int .i64 ((rd_T61 t154 x6_2).f1.f0),.int .i64 ((rd_T61 t154 x6_2).f1.f1)],.agg #[.int .i64 ((rd_T61 t154 (ji20)).f1.f0),.int .i64 ((rd_T61 t154 (ji20)).f1.f1)]] (by rfl) rfl rfl (by (try simp only [List.map_toArray,List.map_cons,List.map_nil]);first | done | (simp only [hji20];rfl) | rfl | (simp only [List.length_drop,List.length_take];rfl)) ?_
               with_reducible refine (spec_l2Has.calls ((rd_T61 t154 x6_2).f0.f0) ((rd_T61 t154 x6_2).f0.f1) ((rd_T61 t154 x6_2).f1.f0) ((rd_T61 t154 x6_2).f1.f1) ((rd_T61 t154 (ji20)).f1.f0) ((rd_T61 t154 (ji20)).f1.f1) true _ A23.out).mono ?_
               rintro e w27 ⟨rfl,hb⟩;have HS0_:=pw_cell_below hb hHeld.1;have HS1_:=pw_cell_below hb hHeld.2.1;have HS2_:=pw_cell_below hb hHeld.2.2.1;have HS3_:=pw_cell_below hb hHeld.2.2.2.1;have HS4_:=pw_cell_below hb hHeld.2.2.2.2.1;have HS5_:=pw_cell_below hb hHeld.2.2.2.2.2.1;have HS6_:=pw_cell_below hb hHeld.2.2.2.2.2.2.1;have HS7_:=pw_cell_below hb hHeld.2.2.2.2.2.2.2;refine⟨_,rfl,?_⟩;replace HO_4:=rb_ HO_4 hb;replace HB:=sb_ HB hb
               (try clear hb)
               (try clear hb2)
               (try clear hk)
               (try clear hi)
               refine hK.out _ _ ⟨HS0_,HS1_,HS2_,HS3_,HS4_,HS5_,HS6_,HS7_⟩ (fun hHeld=>?_);clear hK K;refine no_ (h:=?_);refine pu_ HT_ 13 44 (bm 28 16383) ?_;refine pz_ HT_ 14 45 (bm 28 32767) ?_;refine pz_ HT_ 15 46 (bm 28 65535) ?_;refine pz_ HT_ 16 47 (bm 28 131071) ?_;refine pz_ HT_ 17 48 (bm 28 262143) ?_;refine pz_ HT_ 18 49 (bm 28 524287) ?_;refine pz_ HT_ 19 50 (bm 28 1048575) ?_;refine pz_ HT_ 20 51 (bm 28 2097151) ?_;refine pz_ HT_ 21 52 (bm 28 4194303) ?_;refine pz_ HT_ 22 53 (bm 28 8388607) ?_;refine pz_ HT_ 23 54 (bm 28 16777215) ?_;refine pz_ HT_ 24 55 (bm 28 33554431) ?_;refine pz_ HT_ 25 56 (bm 28 67108863) ?_;refine pz_ HT_ 26 57 (bm 28 134217727) ?_;refine pu_ HT_ 27 58 (bm 28 268435455) ?_;refine done_ (done_of HT_.out (by kernel_rfl)) ?_
               try go_wp2
               go_meet
               case rel=>exact⟨_,(true),(by first | rfl | (simp;done) | (simp [*];done)),H',⟨by have:=HK1.out;have:=HK2.out;first | omega | exact Nat.le_refl _⟩,⟨by (with_reducible repeat (first | apply Kd.R_alloc | apply Kd.R_drewN | apply Kd.R_drew));exact HO_4.out⟩,⟨hB_⟩⟩
              ·
               replace c24:=Bool.eq_false_iff.mpr c24;subst c24;rw [if_neg (show ¬ (false=true) by decide)] at H
               (try dsimp only at H)
               replace H:=Option.bind_eq_some_iff.mp H;obtain⟨t164,A280,H⟩:=H
               (try dsimp only at H)
               have A28:=Aside0.mk A280;clear A280;have H':=Aside0.mk H;clear H
               try go_wp2
               replace HO_4:=a0_ (Kd.R_drew HO_4.out);replace HB:=a0_ (below_drew1 HB.out);obtain⟨Ao30,co30,eo30⟩:=Kd.R_slice HO_4.out
               (first | subst eo30 | (injection eo30 with f1_ f2_ f3_;have f4_:=f1_.symm;have f5_:=f3_.symm;clear f1_ f2_ f3_;subst f4_;subst f5_))
               have p159:0≤(x6_2:Int):=od_;have q159:x6_2<(t154.length:Int):=od_;obtain⟨ad159,e159,hx159_0,hx159_1,hx159_2,hx159_3⟩:=at_T61 (Kd.R_reads' HO_4.out).2.2 x6_2 p159 q159;cases e159;replace p159:=eq_true p159;replace q159:=eq_true q159;have p160:0≤((ji20):Int):=od_;have q160:(ji20)<(t154.length:Int):=od_;obtain⟨ad160,e160,hx160_0,hx160_1,hx160_2,hx160_3⟩:=at_T61 (Kd.R_reads' HO_4.out).2.2 (ji20) p160 q160;obtain rfl:ad159=ad160:=(by injection e160);replace p160:=eq_true p160;replace q160:=eq_true q160;have p162:0≤((ji20):Int):=od_;have q162:(ji20)<(t154.length:Int):=od_;obtain⟨ad162,e162,hx162_0,hx162_1,hx162_2,hx162_3⟩:=at_T61 (Kd.R_reads' HO_4.out).2.2 (ji20) p162 q162;obtain rfl:ad159=ad162:=(by injection e162);replace p162:=eq_true p162;replace q162:=eq_true q162;have p163:0≤(x6_2:Int):=od_;have q163:x6_2<(t154.length:Int):=od_;obtain⟨ad163,e163,hx163_0,hx163_1,hx163_2,hx163_3⟩:=at_T61 (Kd.R_reads' HO_4.out).2.2 x6_2 p163 q163;obtain rfl:ad159=ad163:=(by injection e163);replace p163:=eq_true p163;replace q163:=eq_true q163
               refine start_ (n:=28) (S:=fun w'=>w'.cell? (ad159.add ((x6_2).toNat*4))=some (.int .i64 ((rd_T61 t154 x6_2).f0.f0))∧w'.cell? ⟨(ad159.add ((x6_2).toNat*4)).block,(ad159.add ((x6_2).toNat*4)).off+1,none⟩=some (.int .i64 ((rd_T61 t154 x6_2).f0.f1))∧w'.cell? ⟨(ad159.add ((x6_2).toNat*4)).block,(ad159.add ((x6_2).toNat*4)).off+2,none⟩=some (.int .i64 ((rd_T61 t154 x6_2).f1.f0))∧w'.cell? ⟨(ad159.add ((x6_2).toNat*4)).block,(ad159.add ((x6_2).toNat*4)).off+3,none⟩=some (.int .i64 ((rd_T61 t154 x6_2).f1.f1))∧w'.cell? (ad159.add (((ji20)).toNat*4))=some (.int .i64 ((rd_T61 t154 (ji20)).f0.f0))∧w'.cell? ⟨(ad159.add (((ji20)).toNat*4)).block,(ad159.add (((ji20)).toNat*4)).off+1,none⟩=some (.int .i64 ((rd_T61 t154 (ji20)).f0.f1))∧w'.cell? ⟨(ad159.add (((ji20)).toNat*4)).block,(ad159.add (((ji20)).toNat*4)).off+2,none⟩=some (.int .i64 ((rd_T61 t154 (ji20)).f1.f0))∧w'.cell? ⟨(ad159.add (((ji20)).toNat*4)).block,(ad159.add (((ji20)).toNat*4)).off+3,none⟩=some (.int .i64 ((rd_T61 t154 (ji20)).f1.f1))∧w'.cell? (ad159.add (((ji20)).toNat*4))=some (.int .i64 ((rd_T61 t154 (ji20)).f0.f0))∧w'.cell? ⟨(ad159.add (((ji20)).toNat*4)).block,(ad159.add (((ji20)).toNat*4)).off+1,none⟩=some (.int .i64 ((rd_T61 t154 (ji20)).f0.f1))∧w'.cell? ⟨(ad159.add (((ji20)).toNat*4)).block,(ad159.add (((ji20)).toNat*4)).off+2,none⟩=some (.int .i64 ((rd_T61 t154 (ji20)).f1.f0))∧w'.cell? ⟨(ad159.add (((ji20)).toNat*4)).block,(ad159.add (((ji20)).toNat*4)).off+3,none⟩=some (.int .i64 ((rd_T61 t154 (ji20)).f1.f1))∧w'.cell? (ad159.add ((x6_2).toNat*4))=some (.int .i64 ((rd_T61 t154 x6_2).f0.f0))∧w'.cell? ⟨(ad159.add ((x6_2).toNat*4)).block,(ad159.add ((x6_2).toNat*4)).off+1,none⟩=some (.int .i64 ((rd_T61 t154 x6_2).f0.f1))∧w'.cell? ⟨(ad159.add ((x6_2).toNat*4)).block,(ad159.add ((x6_2).toNat*4)).off+2,none⟩=some (.int .i64 ((rd_T61 t154 x6_2).f1.f0))∧w'.cell? ⟨(ad159.add ((x6_2).toNat*4)).block,(ad159.add ((x6_2).toNat*4)).off+3,none⟩=some (.int .i64 ((rd_T61 t154 x6_2).f1.f1))) (ds:=[]) (Array.replicate 28 false) (by kernel_rfl) rfl rfl ⟨hx159_0,hx159_1,hx159_2,hx159_3,hx160_0,hx160_1,hx160_2,hx160_3,hx162_0,hx162_1,hx162_2,hx162_3,hx163_0,hx163_1,hx163_2,hx163_3⟩ (fun hHeld=>?_);refine with_tabW spec_LoopOk.tab13 spec_LoopOk.bits13 (fun HT_ HW_=>?_)
               generalize wr.drew=w29 at HO_4 HB hx159_0 hx159_1 hx159_2 hx159_3 hx160_0 hx160_1 hx160_2 hx160_3 hx162_0 hx162_1 hx162_2 hx162_3 hx163_0 hx163_1 hx163_2 hx163_3 hHeld ⊢
               refine pu_ HT_ 0 31 (bm 28 1) ?_;refine pu_ HT_ 1 32 (bm 28 3) ?_;refine pu_ HT_ 2 33 (bm 28 7) ?_;refine pu_ HT_ 4 35 (bm 28 23) ?_;refine pu_ HT_ 5 36 (bm 28 55) ?_;refine pu_ HT_ 6 37 (bm 28 119) ?_;refine pu_ HT_ 7 38 (bm 28 247) ?_;refine pu_ HT_ 8 39 (bm 28 503) ?_;refine pu_ HT_ 9 40 (bm 28 1015) ?_;refine pu_ HT_ 10 41 (bm 28 2039) ?_;refine ta16_ HT_ HW_ 3 34 (bm 28 2047) hHeld ?_;refine ta16_ HT_ HW_ 11 42 (bm 28 4095) hHeld ?_;refine one_ (i:=12) (N:=some 43) (bm 28 8191) rfl rfl (one_of HT_.out (by kernel_rfl)) (by decide) (fun K hK=>?_);refine goes_ Tryd.func100 (by kernel_rfl) rfl #[.agg #[.int .i64 ((rd_T61 t154 x6_2).f0.f0),.int .i64 ((rd_T61 t154 x6_2).f0.f1),.int .i64 ((rd_T61 t154 x6_2).f1.f0),.int .i64 ((rd_T61 t154 x6_2).f1.f1)],.agg #[.int .i64 ((rd_T61 t154 (ji20)).f1.f0),.int .i64 ((rd_T61 t154 (ji20)).f1.f1)]] (by rfl) rfl rfl (by (try simp only [List.map_toArray,List.map_cons,List.map_nil]);first | done | (simp only [hji20];rfl) | rfl | (simp only [List.length_drop,List.length_take];rfl)) ?_
               with_reducible refine (spec_l2Has.calls ((rd_T61 t154 x6_2).f0.f0) ((rd_T61 t154 x6_2).f0.f1) ((rd_T61 t154 x6_2).f1.f0) ((rd_T61 t154 x6_2).f1.f1) ((rd_T61 t154 (ji20)).f1.f0) ((rd_T61 t154 (ji20)).f1.f1) false _ A23.out).mono ?_
               rintro e w31 ⟨rfl,hb⟩;have HS0_:=pw_cell_below hb hHeld.1;have HS1_:=pw_cell_below hb hHeld.2.1;have HS2_:=pw_cell_below hb hHeld.2.2.1;have HS3_:=pw_cell_below hb hHeld.2.2.2.1;have HS4_:=pw_cell_below hb hHeld.2.2.2.2.1;have HS5_:=pw_cell_below hb hHeld.2.2.2.2.2.1;have HS6_:=pw_cell_below hb hHeld.2.2.2.2.2.2.1;have HS7_:=pw_cell_below hb hHeld.2.2.2.2.2.2.2.1;have HS8_:=pw_cell_below hb hHeld.2.2.2.2.2.2.2.2.1;have HS9_:=pw_cell_below hb hHeld.2.2.2.2.2.2.2.2.2.1;have HS10_:=pw_cell_below hb hHeld.2.2.2.2.2.2.2.2.2.2.1;have HS11_:=pw_cell_below hb hHeld.2.2.2.2.2.2.2.2.2.2.2.1;have HS12_:=pw_cell_below hb hHeld.2.2.2.2.2.2.2.2.2.2.2.2.1;have HS13_:=pw_cell_below hb hHeld.2.2.2.2.2.2.2.2.2.2.2.2.2.1;have HS14_:=pw_cell_below hb hHeld.2.2.2.2.2.2.2.2.2.2.2.2.2.2.1;have HS15_:=pw_cell_below hb hHeld.2.2.2.2.2.2.2.2.2.2.2.2.2.2.2;refine⟨_,rfl,?_⟩;replace HO_4:=rb_ HO_4 hb;replace HB:=sb_ HB hb
               (try clear hb)
               (try clear hb2)
               (try clear hk)
               (try clear hi)
               refine hK.out _ _ ⟨HS0_,HS1_,HS2_,HS3_,HS4_,HS5_,HS6_,HS7_,HS8_,HS9_,HS10_,HS11_,HS12_,HS13_,HS14_,HS15_⟩ (fun hHeld=>?_);clear hK K;refine no_ (h:=?_);refine pu_ HT_ 13 44 (bm 28 16383) ?_;refine pu_ HT_ 14 45 (bm 28 32767) ?_;refine pu_ HT_ 15 46 (bm 28 65535) ?_;refine pu_ HT_ 16 47 (bm 28 131071) ?_;refine pu_ HT_ 17 48 (bm 28 262143) ?_;refine pu_ HT_ 18 49 (bm 28 524287) ?_;refine pu_ HT_ 19 50 (bm 28 1048575) ?_;refine pu_ HT_ 21 52 (bm 28 3145727) ?_;refine pu_ HT_ 22 53 (bm 28 7340031) ?_;refine pu_ HT_ 23 54 (bm 28 15728639) ?_;refine pu_ HT_ 24 55 (bm 28 32505855) ?_;refine ta16_ HT_ HW_ 20 51 (bm 28 33554431) hHeld ?_;refine ta16_ HT_ HW_ 25 56 (bm 28 67108863) hHeld ?_;refine one_ (i:=26) (N:=some 57) (bm 28 134217727) rfl rfl (one_of HT_.out (by kernel_rfl)) (by decide) (fun K hK=>?_);refine goes_ Tryd.func100 (by kernel_rfl) rfl #[.agg #[.int .i64 ((rd_T61 t154 (ji20)).f0.f0),.int .i64 ((rd_T61 t154 (ji20)).f0.f1),.int .i64 ((rd_T61 t154 (ji20)).f1.f0),.int .i64 ((rd_T61 t154 (ji20)).f1.f1)],.agg #[.int .i64 ((rd_T61 t154 x6_2).f0.f0),.int .i64 ((rd_T61 t154 x6_2).f0.f1)]] (by rfl) rfl rfl (by (try simp only [List.map_toArray,List.map_cons,List.map_nil]);first | done | (simp only [hji20];rfl) | rfl | (simp only [List.length_drop,List.length_take];rfl)) ?_
               with_reducible refine (spec_l2Has.calls ((rd_T61 t154 (ji20)).f0.f0) ((rd_T61 t154 (ji20)).f0.f1) ((rd_T61 t154 (ji20)).f1.f0) ((rd_T61 t154 (ji20)).f1.f1) ((rd_T61 t154 x6_2).f0.f0) ((rd_T61 t154 x6_2).f0.f1) t164 _ A28.out).mono ?_
               rintro e w32 ⟨rfl,hb⟩;have HS0_:=pw_cell_below hb hHeld.1;have HS1_:=pw_cell_below hb hHeld.2.1;have HS2_:=pw_cell_below hb hHeld.2.2.1;have HS3_:=pw_cell_below hb hHeld.2.2.2.1;have HS4_:=pw_cell_below hb hHeld.2.2.2.2.1;have HS5_:=pw_cell_below hb hHeld.2.2.2.2.2.1;have HS6_:=pw_cell_below hb hHeld.2.2.2.2.2.2.1;have HS7_:=pw_cell_below hb hHeld.2.2.2.2.2.2.2.1;have HS8_:=pw_cell_below hb hHeld.2.2.2.2.2.2.2.2.1;have HS9_:=pw_cell_below hb hHeld.2.2.2.2.2.2.2.2.2.1;have HS10_:=pw_cell_below hb hHeld.2.2.2.2.2.2.2.2.2.2.1;have HS11_:=pw_cell_below hb hHeld.2.2.2.2.2.2.2.2.2.2.2.1;have HS12_:=pw_cell_below hb hHeld.2.2.2.2.2.2.2.2.2.2.2.2.1;have HS13_:=pw_cell_below hb hHeld.2.2.2.2.2.2.2.2.2.2.2.2.2.1;have HS14_:=pw_cell_below hb hHeld.2.2.2.2.2.2.2.2.2.2.2.2.2.2.1;have HS15_:=pw_cell_below hb hHeld.2.2.2.2.2.2.2.2.2.2.2.2.2.2.2;refine⟨_,rfl,?_⟩;replace HO_4:=rb_ HO_4 hb;replace HB:=sb_ HB hb
               (try clear hb)
               (try clear hb2)
               (try clear hk)
               (try clear hi)
               refine hK.out _ _ ⟨HS0_,HS1_,HS2_,HS3_,HS4_,HS5_,HS6_,HS7_,HS8_,HS9_,HS10_,HS11_,HS12_,HS13_,HS14_,HS15_⟩ (fun hHeld=>?_);clear hK K;refine no_ (h:=?_);refine pu_ HT_ 27 58 (bm 28 268435455) ?_;refine done_ (done_of HT_.out (by kernel_rfl)) ?_
               try go_wp2
               go_meet
               case rel=>exact⟨_,(t164),(by first | rfl | (simp;done) | (simp [*];done)),H',⟨by have:=HK1.out;have:=HK2.out;first | omega | exact Nat.le_refl _⟩,⟨by (with_reducible repeat (first | apply Kd.R_alloc | apply Kd.R_drewN | apply Kd.R_drew));exact HO_4.out⟩,⟨hB_⟩⟩
             ·
              rw [if_neg c22] at H;exact absurd H (by simp)
            ·
             rw [if_neg c21] at H;exact absurd H (by simp)
          ·
           rw [if_neg c18] at H;exact absurd H (by simp)
         ·
          rw [if_neg c17] at H;exact absurd H (by simp)
        case rest =>
         clear HC16;obtain⟨kq,x58_15,rfl,HA,HJ15,HO_4,HB⟩:=hcut
         cases kq with
         | zero=>exact absurd HA.out (by simp [spec_LoopOk.j2])
         | succ kj15 =>
          have H:=HA.out;clear HA;simp only [spec_LoopOk.j2] at H;by_cases c33:x58_15=true
          ·
           subst c33;rw [if_pos rfl] at H
           (try dsimp only at H)
           obtain rfl:=Option.some.inj H;go_wp2;go_ret;exact⟨rr_,hB_⟩
          ·
           replace c33:=Bool.eq_false_iff.mpr c33;subst c33;rw [if_neg (show ¬ (false=true) by decide)] at H
           (try dsimp only at H)
           have H':=Aside0.mk H;clear H;go_wp2;go_loopg [7] kj15 (fun kq v7 w'=>∃ (x7_4:Int),v7=.int .i64 x7_4∧Aside0 (spec_LoopOk.l2 kq (l0.length:Int) t154 x6_2 x7_4=some r)∧Aside0 (kq≤kj15)∧Aside0 (Kd.R k61 61 w' w.heap.size (fun _=>True) v155 t154)∧Aside0 (Below w.heap.size w w'))
           case atStart=>exact⟨(wrap64 (x6_2+2)),(by first | rfl | (simp;done) | (simp [*];done)),H',⟨Nat.le_refl _⟩,⟨by (with_reducible repeat (first | apply Kd.R_alloc | apply Kd.R_drewN | apply Kd.R_drew));exact HO_4.out⟩,⟨hB_⟩⟩
           case round =>
            clear H';obtain⟨x7_4,rfl,HA,HK4,HO_4,HB⟩:=hrel
            cases gk with
            | zero=>exact absurd HA.out (by simp [spec_LoopOk.l2])
            | succ k4 =>
             have H:=HA.out;clear HA;simp only [spec_LoopOk.l2] at H;by_cases c34:x7_4<(l0.length:Int)
             ·
              rw [if_pos c34] at H;have c34b0:decide (x7_4<(l0.length:Int))=true:=decide_eq_true c34;clear c34;by_cases c35:(l0.length:Int)=0
              ·
               rw [if_pos c35] at H;exact absurd H (by simp)
              ·
               rw [if_neg c35] at H;have c35b0:((l0.length:Int)==0)=false:=beq_eq_false_iff_ne.mpr c35;have c35b1:((l0.length:Int) != 0)=true:=bne_iff_ne.mpr c35;have c35b2:¬ (l0=[]):=fun h_=>c35 (by rw [h_];rfl)
               by_cases c36:(Int.tmod (wrap64 (x7_4+1)) (l0.length:Int))=x6_2
               ·
                rw [if_pos c36] at H;have c36b0:((Int.tmod (wrap64 (x7_4+1)) (l0.length:Int))==x6_2)=true:=beq_iff_eq.mpr c36;have c36b1:((Int.tmod (wrap64 (x7_4+1)) (l0.length:Int)) != x6_2)=false:=bne_eq_false_iff_eq.mpr c36;clear c36;have H':=Aside0.mk H;clear H
                try go_wp2
                replace HO_4:=a0_ (Kd.R_drew HO_4.out);replace HB:=a0_ (below_drew1 HB.out);refine start_ (n:=17) (S:=fun w'=>True) (ds:=[]) (Array.replicate 17 false) (by kernel_rfl) rfl rfl trivial (fun hHeld=>?_);refine with_tabW spec_LoopOk.tab18 spec_LoopOk.bits18 (fun HT_ HW_=>?_);generalize wr.drew=w37 at HO_4 HB hHeld ⊢
                refine pu_ HT_ 0 66 (bm 17 1) ?_;refine pu_ HT_ 1 67 (bm 17 3) ?_;refine pu_ HT_ 2 68 (bm 17 7) ?_;refine pu_ HT_ 3 69 (bm 17 15) ?_;refine pu_ HT_ 4 70 (bm 17 31) ?_;refine pu_ HT_ 5 71 (bm 17 63) ?_;refine pu_ HT_ 6 72 (bm 17 127) ?_;refine pz_ HT_ 7 73 (bm 17 255) ?_;refine pz_ HT_ 8 74 (bm 17 511) ?_;refine pz_ HT_ 9 75 (bm 17 1023) ?_;refine pz_ HT_ 10 76 (bm 17 2047) ?_;refine pz_ HT_ 11 77 (bm 17 4095) ?_;refine pz_ HT_ 12 78 (bm 17 8191) ?_;refine pz_ HT_ 13 79 (bm 17 16383) ?_;refine pz_ HT_ 14 80 (bm 17 32767) ?_;refine pz_ HT_ 15 81 (bm 17 65535) ?_;refine pu_ HT_ 16 82 (bm 17 131071) ?_;refine done_ (done_of HT_.out (by kernel_rfl)) ?_
                try go_wp2
                go_roundg k4
                case measure=>have:=HK1.out;have:=HK2.out;have:=HJ15.out;have:=HK4.out;omega
                case rel=>exact⟨(wrap64 (x7_4+1)),(by first | rfl | (simp;done) | (simp [*];done)),H',⟨by have:=HK1.out;have:=HK2.out;have:=HJ15.out;have:=HK4.out;omega⟩,⟨by (with_reducible repeat (first | apply Kd.R_alloc | apply Kd.R_drewN | apply Kd.R_drew));exact HO_4.out⟩,⟨hB_⟩⟩
               ·
                rw [if_neg c36] at H;have c36b0:((Int.tmod (wrap64 (x7_4+1)) (l0.length:Int))==x6_2)=false:=beq_eq_false_iff_ne.mpr c36;have c36b1:((Int.tmod (wrap64 (x7_4+1)) (l0.length:Int)) != x6_2)=true:=bne_iff_ne.mpr c36;by_cases c38:0≤x6_2
                ·
                 rw [if_pos c38] at H;have c38b0:decide (0≤x6_2)=true:=decide_eq_true c38;clear c38;by_cases c39:x6_2<(t154.length:Int)
                 ·
                  rw [if_pos c39] at H;have c39b0:decide (x6_2<(t154.length:Int))=true:=decide_eq_true c39;clear c39;by_cases c40:0≤x7_4
                  ·
                   rw [if_pos c40] at H;have c40b0:decide (0≤x7_4)=true:=decide_eq_true c40;clear c40;by_cases c41:x7_4<(t154.length:Int)
                   ·
                    rw [if_pos c41] at H;have c41b0:decide (x7_4<(t154.length:Int))=true:=decide_eq_true c41;clear c41;replace H:=Option.bind_eq_some_iff.mp H;obtain⟨t167,A420,H⟩:=H
                    (try dsimp only at H)
                    have A42:=Aside0.mk A420;clear A420;by_cases c43:t167=true
                    ·
                     subst c43;rw [if_pos rfl] at H
                     (try dsimp only at H)
                     obtain rfl:=Option.some.inj H
                     try go_wp2
                     replace HO_4:=a0_ (Kd.R_drew HO_4.out);replace HB:=a0_ (below_drew1 HB.out);obtain⟨Ao45,co45,eo45⟩:=Kd.R_slice HO_4.out
                     (first | subst eo45 | (injection eo45 with f1_ f2_ f3_;have f4_:=f1_.symm;have f5_:=f3_.symm;clear f1_ f2_ f3_;subst f4_;subst f5_))
                     have p165:0≤(x6_2:Int):=od_;have q165:x6_2<(t154.length:Int):=od_;obtain⟨ad165,e165,hx165_0,hx165_1,hx165_2,hx165_3⟩:=at_T61 (Kd.R_reads' HO_4.out).2.2 x6_2 p165 q165;cases e165;replace p165:=eq_true p165;replace q165:=eq_true q165;have p166:0≤(x7_4:Int):=od_;have q166:x7_4<(t154.length:Int):=od_;obtain⟨ad166,e166,hx166_0,hx166_1,hx166_2,hx166_3⟩:=at_T61 (Kd.R_reads' HO_4.out).2.2 x7_4 p166 q166;obtain rfl:ad165=ad166:=(by injection e166);replace p166:=eq_true p166;replace q166:=eq_true q166;refine start_ (n:=17) (S:=fun w'=>w'.cell? (ad165.add ((x6_2).toNat*4))=some (.int .i64 ((rd_T61 t154 x6_2).f0.f0))∧w'.cell? ⟨(ad165.add ((x6_2).toNat*4)).block,(ad165.add ((x6_2).toNat*4)).off+1,none⟩=some (.int .i64 ((rd_T61 t154 x6_2).f0.f1))∧w'.cell? ⟨(ad165.add ((x6_2).toNat*4)).block,(ad165.add ((x6_2).toNat*4)).off+2,none⟩=some (.int .i64 ((rd_T61 t154 x6_2).f1.f0))∧w'.cell? ⟨(ad165.add ((x6_2).toNat*4)).block,(ad165.add ((x6_2).toNat*4)).off+3,none⟩=some (.int .i64 ((rd_T61 t154 x6_2).f1.f1))∧w'.cell? (ad165.add ((x7_4).toNat*4))=some (.int .i64 ((rd_T61 t154 x7_4).f0.f0))∧w'.cell? ⟨(ad165.add ((x7_4).toNat*4)).block,(ad165.add ((x7_4).toNat*4)).off+1,none⟩=some (.int .i64 ((rd_T61 t154 x7_4).f0.f1))∧w'.cell? ⟨(ad165.add ((x7_4).toNat*4)).block,(ad165.add ((x7_4).toNat*4)).off+2,none⟩=some (.int .i64 ((rd_T61 t154 x7_4).f1.f0))∧w'.cell? ⟨(ad165.add ((x7_4).toNat*4)).block,(ad165.add ((x7_4).toNat*4)).off+3,none⟩=some (.int .i64 ((rd_T61 t154 x7_4).f1.f1))) (ds:=[]) (Array.replicate 17 false) (by kernel_rfl) rfl rfl ⟨hx165_0,hx165_1,hx165_2,hx165_3,hx166_0,hx166_1,hx166_2,hx166_3⟩ (fun hHeld=>?_);refine with_tabW spec_LoopOk.tab18 spec_LoopOk.bits18 (fun HT_ HW_=>?_)
                     generalize wr.drew=w44 at HO_4 HB hx165_0 hx165_1 hx165_2 hx165_3 hx166_0 hx166_1 hx166_2 hx166_3 hHeld ⊢
                     refine pu_ HT_ 0 66 (bm 17 1) ?_;refine pu_ HT_ 1 67 (bm 17 3) ?_;refine pu_ HT_ 2 68 (bm 17 7) ?_;refine pu_ HT_ 3 69 (bm 17 15) ?_;refine pu_ HT_ 4 70 (bm 17 31) ?_;refine pu_ HT_ 5 71 (bm 17 63) ?_;refine pu_ HT_ 6 72 (bm 17 127) ?_;refine pu_ HT_ 7 73 (bm 17 255) ?_;refine pu_ HT_ 8 74 (bm 17 511) ?_;refine pu_ HT_ 9 75 (bm 17 1023) ?_;refine pu_ HT_ 11 77 (bm 17 3071) ?_;refine pu_ HT_ 12 78 (bm 17 7167) ?_;refine pu_ HT_ 13 79 (bm 17 15359) ?_;refine ta8_ HT_ HW_ 10 76 (bm 17 16383) hHeld ?_;refine ta8_ HT_ HW_ 14 80 (bm 17 32767) hHeld ?_;refine one_ (i:=15) (N:=some 81) (bm 17 65535) rfl rfl (one_of HT_.out (by kernel_rfl)) (by decide) (fun K hK=>?_);refine goes_ Tryd.func101 (by kernel_rfl) rfl #[.agg #[.int .i64 ((rd_T61 t154 x6_2).f0.f0),.int .i64 ((rd_T61 t154 x6_2).f0.f1),.int .i64 ((rd_T61 t154 x6_2).f1.f0),.int .i64 ((rd_T61 t154 x6_2).f1.f1)],.agg #[.int .i64 ((rd_T61 t154 x7_4).f0.f0),.int .i64 ((rd_T61 t154 x7_4).f0.f1),.int .i64 ((rd_T61 t154 x7_4).f1.f0),.int .i64 ((rd_T61 t154 x7_4).f1.f1)]] (by rfl) rfl rfl ma_ ?_
                     with_reducible refine (spec_l2Meet.calls ((rd_T61 t154 x6_2).f0.f0) ((rd_T61 t154 x6_2).f0.f1) ((rd_T61 t154 x6_2).f1.f0) ((rd_T61 t154 x6_2).f1.f1) ((rd_T61 t154 x7_4).f0.f0) ((rd_T61 t154 x7_4).f0.f1) ((rd_T61 t154 x7_4).f1.f0) ((rd_T61 t154 x7_4).f1.f1) true _ A42.out).mono ?_
                     rintro e w46 ⟨rfl,hb⟩;have HS0_:=pw_cell_below hb hHeld.1;have HS1_:=pw_cell_below hb hHeld.2.1;have HS2_:=pw_cell_below hb hHeld.2.2.1;have HS3_:=pw_cell_below hb hHeld.2.2.2.1;have HS4_:=pw_cell_below hb hHeld.2.2.2.2.1;have HS5_:=pw_cell_below hb hHeld.2.2.2.2.2.1;have HS6_:=pw_cell_below hb hHeld.2.2.2.2.2.2.1;have HS7_:=pw_cell_below hb hHeld.2.2.2.2.2.2.2;refine⟨_,rfl,?_⟩;replace HO_4:=rb_ HO_4 hb;replace HB:=sb_ HB hb
                     (try clear hb)
                     (try clear hb2)
                     (try clear hk)
                     (try clear hi)
                     refine hK.out _ _ ⟨HS0_,HS1_,HS2_,HS3_,HS4_,HS5_,HS6_,HS7_⟩ (fun hHeld=>?_);clear hK K;refine no_ (h:=?_);refine pu_ HT_ 16 82 (bm 17 131071) ?_;refine done_ (done_of HT_.out (by kernel_rfl)) ?_
                     try go_wp2
                     go_ret;exact⟨rr_,hB_⟩
                    ·
                     replace c43:=Bool.eq_false_iff.mpr c43;subst c43;rw [if_neg (show ¬ (false=true) by decide)] at H
                     (try dsimp only at H)
                     have H':=Aside0.mk H;clear H
                     try go_wp2
                     replace HO_4:=a0_ (Kd.R_drew HO_4.out);replace HB:=a0_ (below_drew1 HB.out);obtain⟨Ao48,co48,eo48⟩:=Kd.R_slice HO_4.out
                     (first | subst eo48 | (injection eo48 with f1_ f2_ f3_;have f4_:=f1_.symm;have f5_:=f3_.symm;clear f1_ f2_ f3_;subst f4_;subst f5_))
                     have p165:0≤(x6_2:Int):=od_;have q165:x6_2<(t154.length:Int):=od_;obtain⟨ad165,e165,hx165_0,hx165_1,hx165_2,hx165_3⟩:=at_T61 (Kd.R_reads' HO_4.out).2.2 x6_2 p165 q165;cases e165;replace p165:=eq_true p165;replace q165:=eq_true q165;have p166:0≤(x7_4:Int):=od_;have q166:x7_4<(t154.length:Int):=od_;obtain⟨ad166,e166,hx166_0,hx166_1,hx166_2,hx166_3⟩:=at_T61 (Kd.R_reads' HO_4.out).2.2 x7_4 p166 q166;obtain rfl:ad165=ad166:=(by injection e166);replace p166:=eq_true p166;replace q166:=eq_true q166;refine start_ (n:=17) (S:=fun w'=>w'.cell? (ad165.add ((x6_2).toNat*4))=some (.int .i64 ((rd_T61 t154 x6_2).f0.f0))∧w'.cell? ⟨(ad165.add ((x6_2).toNat*4)).block,(ad165.add ((x6_2).toNat*4)).off+1,none⟩=some (.int .i64 ((rd_T61 t154 x6_2).f0.f1))∧w'.cell? ⟨(ad165.add ((x6_2).toNat*4)).block,(ad165.add ((x6_2).toNat*4)).off+2,none⟩=some (.int .i64 ((rd_T61 t154 x6_2).f1.f0))∧w'.cell? ⟨(ad165.add ((x6_2).toNat*4)).block,(ad165.add ((x6_2).toNat*4)).off+3,none⟩=some (.int .i64 ((rd_T61 t154 x6_2).f1.f1))∧w'.cell? (ad165.add ((x7_4).toNat*4))=some (.int .i64 ((rd_T61 t154 x7_4).f0.f0))∧w'.cell? ⟨(ad165.add ((x7_4).toNat*4)).block,(ad165.add ((x7_4).toNat*4)).off+1,none⟩=some (.int .i64 ((rd_T61 t154 x7_4).f0.f1))∧w'.cell? ⟨(ad165.add ((x7_4).toNat*4)).block,(ad165.add ((x7_4).toNat*4)).off+2,none⟩=some (.int .i64 ((rd_T61 t154 x7_4).f1.f0))∧w'.cell? ⟨(ad165.add ((x7_4).toNat*4)).block,(ad165.add ((x7_4).toNat*4)).off+3,none⟩=some (.int .i64 ((rd_T61 t154 x7_4).f1.f1))) (ds:=[]) (Array.replicate 17 false) (by kernel_rfl) rfl rfl ⟨hx165_0,hx165_1,hx165_2,hx165_3,hx166_0,hx166_1,hx166_2,hx166_3⟩ (fun hHeld=>?_);refine with_tabW spec_LoopOk.tab18 spec_LoopOk.bits18 (fun HT_ HW_=>?_)
                     generalize wr.drew=w47 at HO_4 HB hx165_0 hx165_1 hx165_2 hx165_3 hx166_0 hx166_1 hx166_2 hx166_3 hHeld ⊢
                     refine pu_ HT_ 0 66 (bm 17 1) ?_;refine pu_ HT_ 1 67 (bm 17 3) ?_;refine pu_ HT_ 2 68 (bm 17 7) ?_;refine pu_ HT_ 3 69 (bm 17 15) ?_;refine pu_ HT_ 4 70 (bm 17 31) ?_;refine pu_ HT_ 5 71 (bm 17 63) ?_;refine pu_ HT_ 6 72 (bm 17 127) ?_;refine pu_ HT_ 7 73 (bm 17 255) ?_;refine pu_ HT_ 8 74 (bm 17 511) ?_;refine pu_ HT_ 9 75 (bm 17 1023) ?_;refine pu_ HT_ 11 77 (bm 17 3071) ?_;refine pu_ HT_ 12 78 (bm 17 7167) ?_;refine pu_ HT_ 13 79 (bm 17 15359) ?_;refine ta8_ HT_ HW_ 10 76 (bm 17 16383) hHeld ?_;refine ta8_ HT_ HW_ 14 80 (bm 17 32767) hHeld ?_;refine one_ (i:=15) (N:=some 81) (bm 17 65535) rfl rfl (one_of HT_.out (by kernel_rfl)) (by decide) (fun K hK=>?_);refine goes_ Tryd.func101 (by kernel_rfl) rfl #[.agg #[.int .i64 ((rd_T61 t154 x6_2).f0.f0),.int .i64 ((rd_T61 t154 x6_2).f0.f1),.int .i64 ((rd_T61 t154 x6_2).f1.f0),.int .i64 ((rd_T61 t154 x6_2).f1.f1)],.agg #[.int .i64 ((rd_T61 t154 x7_4).f0.f0),.int .i64 ((rd_T61 t154 x7_4).f0.f1),.int .i64 ((rd_T61 t154 x7_4).f1.f0),.int .i64 ((rd_T61 t154 x7_4).f1.f1)]] (by rfl) rfl rfl ma_ ?_
                     with_reducible refine (spec_l2Meet.calls ((rd_T61 t154 x6_2).f0.f0) ((rd_T61 t154 x6_2).f0.f1) ((rd_T61 t154 x6_2).f1.f0) ((rd_T61 t154 x6_2).f1.f1) ((rd_T61 t154 x7_4).f0.f0) ((rd_T61 t154 x7_4).f0.f1) ((rd_T61 t154 x7_4).f1.f0) ((rd_T61 t154 x7_4).f1.f1) false _ A42.out).mono ?_
                     rintro e w49 ⟨rfl,hb⟩;have HS0_:=pw_cell_below hb hHeld.1;have HS1_:=pw_cell_below hb hHeld.2.1;have HS2_:=pw_cell_below hb hHeld.2.2.1;have HS3_:=pw_cell_below hb hHeld.2.2.2.1;have HS4_:=pw_cell_below hb hHeld.2.2.2.2.1;have HS5_:=pw_cell_below hb hHeld.2.2.2.2.2.1;have HS6_:=pw_cell_below hb hHeld.2.2.2.2.2.2.1;have HS7_:=pw_cell_below hb hHeld.2.2.2.2.2.2.2;refine⟨_,rfl,?_⟩;replace HO_4:=rb_ HO_4 hb;replace HB:=sb_ HB hb
                     (try clear hb)
                     (try clear hb2)
                     (try clear hk)
                     (try clear hi)
                     refine hK.out _ _ ⟨HS0_,HS1_,HS2_,HS3_,HS4_,HS5_,HS6_,HS7_⟩ (fun hHeld=>?_);clear hK K;refine no_ (h:=?_);refine pu_ HT_ 16 82 (bm 17 131071) ?_;refine done_ (done_of HT_.out (by kernel_rfl)) ?_
                     try go_wp2
                     go_roundg k4
                     case measure=>have:=HK1.out;have:=HK2.out;have:=HJ15.out;have:=HK4.out;omega
                     case rel=>exact⟨(wrap64 (x7_4+1)),(by first | rfl | (simp;done) | (simp [*];done)),H',⟨by have:=HK1.out;have:=HK2.out;have:=HJ15.out;have:=HK4.out;omega⟩,⟨by (with_reducible repeat (first | apply Kd.R_alloc | apply Kd.R_drewN | apply Kd.R_drew));exact HO_4.out⟩,⟨hB_⟩⟩
                   ·
                    rw [if_neg c41] at H;exact absurd H (by simp)
                  ·
                   rw [if_neg c40] at H;exact absurd H (by simp)
                 ·
                  rw [if_neg c39] at H;exact absurd H (by simp)
                ·
                 rw [if_neg c38] at H;exact absurd H (by simp)
             ·
              rw [if_neg c34] at H;have c34b0:decide (x7_4<(l0.length:Int))=false:=decide_eq_false c34;clear c34;have H':=Aside0.mk H;clear H;go_wp2;go_roundg k4
              case measure=>have:=HK1.out;have:=HK2.out;have:=HJ15.out;have:=HK4.out;omega
              case rel=>exact⟨(wrap64 (x6_2+1)),(by first | rfl | (simp;done) | (simp [*];done)),H',⟨by have:=HK1.out;have:=HK2.out;have:=HJ15.out;have:=HK4.out;omega⟩,⟨by (with_reducible repeat (first | apply Kd.R_alloc | apply Kd.R_drewN | apply Kd.R_drew));exact HO_4.out⟩,⟨hB_⟩⟩
       ·
        rw [if_neg c15] at H;have c15b0:decide (x6_2<(l0.length:Int))=false:=decide_eq_false c15;clear c15;obtain rfl:=Option.some.inj H;go_wp2;go_ret;exact⟨rr_,hB_⟩
 ·
  replace c3:=Bool.eq_false_iff.mpr c3;subst c3;rw [if_neg (show ¬ (false=true) by decide)] at H
  (try dsimp only at H)
  obtain rfl:=Option.some.inj H;go_enter Tryd.func55,Tryd.ntmps55;go_wp2_with (first | ((with_reducible refine gate_callee (f:=58) rfl ?_);refine gL_ (some 11) Tryd.func58 #[.int .i64 (l0.length:Int),.int .i64 3,.int .i64 8] (h:=?_);(with_reducible refine (spec_l6In.calls (l0.length:Int) 3 8 false _ A2.out).mono ?_);rintro e w' ⟨rfl,⟨nd,rfl⟩⟩;refine⟨_,rfl,?_⟩));go_ret;exact⟨rr_,hB_⟩
mutual
def spec_l11Apart.l0:Nat→List (S61)→List (S61)→Int→Option (Bool)
 | 0,_,_,_=>none
 | k+1,x5,x6,x7=>if x7<(x5.length:Int) then (spec_l11Apart.l1 k x5 x6 x7 0) else (some true)
def spec_l11Apart.l1:Nat→List (S61)→List (S61)→Int→Int→Option (Bool)
 | 0,_,_,_,_=>none
 | k+1,x5,x6,x7,x8=>if x8<(x6.length:Int) then (if 0≤x7 then (if x7<(x5.length:Int) then (if 0≤x8 then ((spec_l2Meet.f ((rd_T61 x5 x7).f0.f0) ((rd_T61 x5 x7).f0.f1) ((rd_T61 x5 x7).f1.f0) ((rd_T61 x5 x7).f1.f1) ((rd_T61 x6 x8).f0.f0) ((rd_T61 x6 x8).f0.f1) ((rd_T61 x6 x8).f1.f0) ((rd_T61 x6 x8).f1.f1)).bind fun t176=>(if t176=true then (some false) else (spec_l11Apart.l1 k x5 x6 x7 (wrap64 (x8+1))))) else (none)) else (none)) else (none)) else (spec_l11Apart.l0 k x5 x6 (wrap64 (x7+1)))
end
def spec_l11Apart.f (k:Nat)(l0:List (S28))(l1:List (S28)):Option (Bool):=(spec_l3Edges.f k l0).bind fun t168=>((spec_l3Edges.f k l1).bind fun t171=>(spec_l11Apart.l0 k t168 t171 0))
def spec_l11Apart.T9:Bool × List (List Nat × List Nat):=(true,[([],[]),([],[]),([0,1],[0,1]),([2],[2]),([],[]),([],[]),([4,5],[4,5]),([6],[6]),([3,7],[3,7])])
def spec_l11Apart.B9:List Nat:=[0,0,3,7,0,0,48,112,255]
theorem spec_l11Apart.tab9:rtab .any (opsOf Tryd.f57 9)=spec_l11Apart.T9:=by kernel_rfl
theorem spec_l11Apart.bits9:waitsOk spec_l11Apart.T9.2 spec_l11Apart.B9=true:=by kernel_rfl
set_option maxHeartbeats 8000000 in
set_option maxRecDepth 100000 in
theorem spec_l11Apart.calls (k:Nat)(A0:Option Addr)(c0:Nat)(l0:List (S28))(A1:Option Addr)(c1:Nat)(l1:List (S28))(r:Bool)(w:World)(hr0:Kd.C k28 w A0 l0.length l0)(hc0:l0.length≤c0)(hr1:Kd.C k28 w A1 l1.length l1)(hc1:l1.length≤c1)(h:spec_l11Apart.f k l0 l1=some r):
  Calls Tryd.prog 57 #[.slice A0 l0.length c0,.slice A1 l1.length c1] w fun e w'=>e=.returned (.bool r)∧Below w.heap.size w w':=by
 have hu61:=Tryd.underlying61;have HR0:=Aside0.mk hr0;have HC0:=Aside0.mk hc0;clear hr0 hc0;have HR1:=Aside0.mk hr1;have HC1:=Aside0.mk hc1;clear hr1 hc1;have HB:=a0_ (Below.refl w.heap.size w);have H:((spec_l3Edges.f k l0).bind fun t168=>((spec_l3Edges.f k l1).bind fun t171=>(spec_l11Apart.l0 k t168 t171 0)))=some r:=h;clear h;replace H:=Option.bind_eq_some_iff.mp H;obtain⟨t168,A30,H⟩:=H
 (try dsimp only at H)
 have A3:=Aside0.mk A30;clear A30;replace H:=Option.bind_eq_some_iff.mp H;obtain⟨t171,A40,H⟩:=H
 (try dsimp only at H)
 have A4:=Aside0.mk A40;clear A40;have H':=Aside0.mk H;clear H;go_enter Tryd.func57,Tryd.ntmps57;go_wp2_with (first | ((with_reducible refine gate_callee (f:=98) rfl ?_);refine gL_ (some 10) Tryd.func98 #[.slice A0 l0.length c0] (h:=?_);(with_reducible refine (spec_l3Edges.calls k _ _ l0 t168 _ ?side1 ?side2 A3.out).mono ?_);(case side1=>repeat (first | exact HR0.out | (with_reducible refine Kd.C_alloc ?_ _) | (with_reducible refine Kd.C_drewN ?_ _) | (with_reducible refine Kd.C_drew ?_)));(case side2=>exact HC0.out);rintro e w5 ⟨v169,rfl,ho0,hb⟩;refine⟨_,rfl,?_⟩;have HO170:=a0_ (Kd.R_lower ho0 (below_size hB_));replace HB:=sb_ HB hb;(try clear ho0 hb)) | ((with_reducible refine gate_callee (f:=98) rfl ?_);refine gL_ (some 12) Tryd.func98 #[.slice A1 l1.length c1] (h:=?_);(with_reducible refine (spec_l3Edges.calls k _ _ l1 t171 _ ?side1 ?side2 A4.out).mono ?_);(case side1=>repeat (first | exact (Kd.C_below HR1.out HB.out) | (with_reducible refine Kd.C_alloc ?_ _) | (with_reducible refine Kd.C_drewN ?_ _) | (with_reducible refine Kd.C_drew ?_)));(case side2=>exact HC1.out);rintro e w6 ⟨v172,rfl,ho0,hb⟩;refine⟨_,rfl,?_⟩;have HO173:=a0_ (Kd.R_lower (Kd.R_new' ho0 (Kd.R_lt (uR_ HO170))) (below_size hB_));replace HO170:=a0_ (Kd.R_elder' (uR_ HO170) (Kd.R_base ho0) hb);replace HB:=sb_ HB hb;(try clear ho0 hb)));go_loopg [7] k (fun kq v7 w'=>∃ (x7_1:Int),v7=.int .i64 x7_1∧Aside0 (spec_l11Apart.l0 kq t168 t171 x7_1=some r)∧Aside0 (kq≤k)∧Aside0 (Kd.R k61 61 w' w.heap.size (fun k_=>some k_≠(v172:Value).ownBlock) v169 t168)∧Aside0 (Kd.R k61 61 w' w.heap.size (fun k_=>some k_≠(v169:Value).ownBlock) v172 t171)∧Aside0 (Below w.heap.size w w'))
 case atStart=>exact⟨(0),(by first | rfl | (simp;done) | (simp [*];done)),H',⟨Nat.le_refl _⟩,⟨by (with_reducible repeat (first | apply Kd.R_alloc | apply Kd.R_drewN | apply Kd.R_drew));exact Kd.R_mono HO170.out (fun _ hk=>hk.2)⟩,⟨by (with_reducible repeat (first | apply Kd.R_alloc | apply Kd.R_drewN | apply Kd.R_drew));exact Kd.R_mono HO173.out (fun _ hk=>hk.2)⟩,⟨hB_⟩⟩
 case round =>
  clear H';obtain⟨x7_1,rfl,HA,HK1,HO_5,HO_6,HB⟩:=hrel
  cases gk with
  | zero=>exact absurd HA.out (by simp [spec_l11Apart.l0])
  | succ k1 =>
   have H:=HA.out;clear HA;simp only [spec_l11Apart.l0] at H;by_cases c7:x7_1<(t168.length:Int)
   ·
    rw [if_pos c7] at H;have c7b0:decide (x7_1<(t168.length:Int))=true:=decide_eq_true c7;clear c7;have H':=Aside0.mk H;clear H;obtain⟨Ao8,co8,eo8⟩:=Kd.R_slice HO_5.out;subst eo8;go_wp2;go_loopg [8] k1 (fun kq v8 w'=>∃ (x8_2:Int),v8=.int .i64 x8_2∧Aside0 (spec_l11Apart.l1 kq t168 t171 x7_1 x8_2=some r)∧Aside0 (kq≤k1)∧Aside0 (Kd.R k61 61 w' w.heap.size (fun k_=>some k_≠(v172:Value).ownBlock) (.slice Ao8 t168.length co8) t168)∧Aside0 (Kd.R k61 61 w' w.heap.size (fun k_=>some k_≠((.slice Ao8 t168.length co8):Value).ownBlock) v172 t171)∧Aside0 (Below w.heap.size w w'))
    case atStart=>exact⟨(0),(by first | rfl | (simp;done) | (simp [*];done)),H',⟨Nat.le_refl _⟩,⟨by (with_reducible repeat (first | apply Kd.R_alloc | apply Kd.R_drewN | apply Kd.R_drew));exact HO_5.out⟩,⟨by (with_reducible repeat (first | apply Kd.R_alloc | apply Kd.R_drewN | apply Kd.R_drew));exact HO_6.out⟩,⟨hB_⟩⟩
    case round =>
     clear H';obtain⟨x8_2,rfl,HA,HK2,HO_5,HO_6,HB⟩:=hrel
     cases gk with
     | zero=>exact absurd HA.out (by simp [spec_l11Apart.l1])
     | succ k2 =>
      have H:=HA.out;clear HA;simp only [spec_l11Apart.l1] at H;by_cases c9:x8_2<(t171.length:Int)
      ·
       rw [if_pos c9] at H;have c9b0:decide (x8_2<(t171.length:Int))=true:=decide_eq_true c9;clear c9;by_cases c10:0≤x7_1
       ·
        rw [if_pos c10] at H;have c10b0:decide (0≤x7_1)=true:=decide_eq_true c10;clear c10;by_cases c11:x7_1<(t168.length:Int)
        ·
         rw [if_pos c11] at H;have c11b0:decide (x7_1<(t168.length:Int))=true:=decide_eq_true c11;clear c11;by_cases c12:0≤x8_2
         ·
          rw [if_pos c12] at H;have c12b0:decide (0≤x8_2)=true:=decide_eq_true c12;clear c12;replace H:=Option.bind_eq_some_iff.mp H;obtain⟨t176,A130,H⟩:=H
          (try dsimp only at H)
          have A13:=Aside0.mk A130;clear A130;by_cases c14:t176=true
          ·
           subst c14;rw [if_pos rfl] at H
           (try dsimp only at H)
           obtain rfl:=Option.some.inj H;obtain⟨Ao15,co15,eo15⟩:=Kd.R_slice HO_6.out;subst eo15
           try go_wp2
           replace HO_5:=a0_ (Kd.R_drew HO_5.out);replace HO_6:=a0_ (Kd.R_drew HO_6.out);replace HB:=a0_ (below_drew1 HB.out);have p174:0≤(x7_1:Int):=od_;have q174:x7_1<(t168.length:Int):=od_;obtain⟨ad174,e174,hx174_0,hx174_1,hx174_2,hx174_3⟩:=at_T61 (Kd.R_reads' HO_5.out).2.2 x7_1 p174 q174;cases e174;replace p174:=eq_true p174;replace q174:=eq_true q174;have p175:0≤(x8_2:Int):=od_;have q175:x8_2<(t171.length:Int):=od_;obtain⟨ad175,e175,hx175_0,hx175_1,hx175_2,hx175_3⟩:=at_T61 (Kd.R_reads' HO_6.out).2.2 x8_2 p175 q175;cases e175;replace p175:=eq_true p175;replace q175:=eq_true q175;refine start_ (n:=9) (S:=fun w'=>w'.cell? (ad174.add ((x7_1).toNat*4))=some (.int .i64 ((rd_T61 t168 x7_1).f0.f0))∧w'.cell? ⟨(ad174.add ((x7_1).toNat*4)).block,(ad174.add ((x7_1).toNat*4)).off+1,none⟩=some (.int .i64 ((rd_T61 t168 x7_1).f0.f1))∧w'.cell? ⟨(ad174.add ((x7_1).toNat*4)).block,(ad174.add ((x7_1).toNat*4)).off+2,none⟩=some (.int .i64 ((rd_T61 t168 x7_1).f1.f0))∧w'.cell? ⟨(ad174.add ((x7_1).toNat*4)).block,(ad174.add ((x7_1).toNat*4)).off+3,none⟩=some (.int .i64 ((rd_T61 t168 x7_1).f1.f1))∧w'.cell? (ad175.add ((x8_2).toNat*4))=some (.int .i64 ((rd_T61 t171 x8_2).f0.f0))∧w'.cell? ⟨(ad175.add ((x8_2).toNat*4)).block,(ad175.add ((x8_2).toNat*4)).off+1,none⟩=some (.int .i64 ((rd_T61 t171 x8_2).f0.f1))∧w'.cell? ⟨(ad175.add ((x8_2).toNat*4)).block,(ad175.add ((x8_2).toNat*4)).off+2,none⟩=some (.int .i64 ((rd_T61 t171 x8_2).f1.f0))∧w'.cell? ⟨(ad175.add ((x8_2).toNat*4)).block,(ad175.add ((x8_2).toNat*4)).off+3,none⟩=some (.int .i64 ((rd_T61 t171 x8_2).f1.f1))) (ds:=[]) (Array.replicate 9 false) (by kernel_rfl) rfl rfl ⟨hx174_0,hx174_1,hx174_2,hx174_3,hx175_0,hx175_1,hx175_2,hx175_3⟩ (fun hHeld=>?_);refine with_tabW spec_l11Apart.tab9 spec_l11Apart.bits9 (fun HT_ HW_=>?_)
           generalize wr.drew=w16 at HO_5 HO_6 HB hx174_0 hx174_1 hx174_2 hx174_3 hx175_0 hx175_1 hx175_2 hx175_3 hHeld ⊢
           refine pu_ HT_ 0 25 (bm 9 1) ?_;refine pu_ HT_ 1 26 (bm 9 3) ?_;refine pu_ HT_ 2 27 (bm 9 7) ?_;refine pu_ HT_ 4 29 (bm 9 23) ?_;refine pu_ HT_ 5 30 (bm 9 55) ?_;refine pu_ HT_ 6 31 (bm 9 119) ?_;refine ta8_ HT_ HW_ 3 28 (bm 9 127) hHeld ?_;refine ta8_ HT_ HW_ 7 32 (bm 9 255) hHeld ?_;refine one_ (i:=8) (N:=some 33) (bm 9 511) rfl rfl (one_of HT_.out (by kernel_rfl)) (by decide) (fun K hK=>?_);refine goes_ Tryd.func101 (by kernel_rfl) rfl #[.agg #[.int .i64 ((rd_T61 t168 x7_1).f0.f0),.int .i64 ((rd_T61 t168 x7_1).f0.f1),.int .i64 ((rd_T61 t168 x7_1).f1.f0),.int .i64 ((rd_T61 t168 x7_1).f1.f1)],.agg #[.int .i64 ((rd_T61 t171 x8_2).f0.f0),.int .i64 ((rd_T61 t171 x8_2).f0.f1),.int .i64 ((rd_T61 t171 x8_2).f1.f0),.int .i64 ((rd_T61 t171 x8_2).f1.f1)]] (by rfl) rfl rfl ma_ ?_
           with_reducible refine (spec_l2Meet.calls ((rd_T61 t168 x7_1).f0.f0) ((rd_T61 t168 x7_1).f0.f1) ((rd_T61 t168 x7_1).f1.f0) ((rd_T61 t168 x7_1).f1.f1) ((rd_T61 t171 x8_2).f0.f0) ((rd_T61 t171 x8_2).f0.f1) ((rd_T61 t171 x8_2).f1.f0) ((rd_T61 t171 x8_2).f1.f1) true _ A13.out).mono ?_
           rintro e w17 ⟨rfl,hb⟩;have HS0_:=pw_cell_below hb hHeld.1;have HS1_:=pw_cell_below hb hHeld.2.1;have HS2_:=pw_cell_below hb hHeld.2.2.1;have HS3_:=pw_cell_below hb hHeld.2.2.2.1;have HS4_:=pw_cell_below hb hHeld.2.2.2.2.1;have HS5_:=pw_cell_below hb hHeld.2.2.2.2.2.1;have HS6_:=pw_cell_below hb hHeld.2.2.2.2.2.2.1;have HS7_:=pw_cell_below hb hHeld.2.2.2.2.2.2.2;refine⟨_,rfl,?_⟩;replace HO_5:=rb_ HO_5 hb;replace HO_6:=rb_ HO_6 hb;replace HB:=sb_ HB hb
           (try clear hb)
           (try clear hb2)
           (try clear hk)
           (try clear hi)
           refine hK.out _ _ ⟨HS0_,HS1_,HS2_,HS3_,HS4_,HS5_,HS6_,HS7_⟩ (fun hHeld=>?_);clear hK K;refine no_ (h:=?_);refine done_ (done_of HT_.out (by kernel_rfl)) ?_
           try go_wp2
           go_ret;exact⟨rr_,hB_⟩
          ·
           replace c14:=Bool.eq_false_iff.mpr c14;subst c14;rw [if_neg (show ¬ (false=true) by decide)] at H
           (try dsimp only at H)
           have H':=Aside0.mk H;clear H;obtain⟨Ao18,co18,eo18⟩:=Kd.R_slice HO_6.out;subst eo18
           try go_wp2
           replace HO_5:=a0_ (Kd.R_drew HO_5.out);replace HO_6:=a0_ (Kd.R_drew HO_6.out);replace HB:=a0_ (below_drew1 HB.out);have p174:0≤(x7_1:Int):=od_;have q174:x7_1<(t168.length:Int):=od_;obtain⟨ad174,e174,hx174_0,hx174_1,hx174_2,hx174_3⟩:=at_T61 (Kd.R_reads' HO_5.out).2.2 x7_1 p174 q174;cases e174;replace p174:=eq_true p174;replace q174:=eq_true q174;have p175:0≤(x8_2:Int):=od_;have q175:x8_2<(t171.length:Int):=od_;obtain⟨ad175,e175,hx175_0,hx175_1,hx175_2,hx175_3⟩:=at_T61 (Kd.R_reads' HO_6.out).2.2 x8_2 p175 q175;cases e175;replace p175:=eq_true p175;replace q175:=eq_true q175;refine start_ (n:=9) (S:=fun w'=>w'.cell? (ad174.add ((x7_1).toNat*4))=some (.int .i64 ((rd_T61 t168 x7_1).f0.f0))∧w'.cell? ⟨(ad174.add ((x7_1).toNat*4)).block,(ad174.add ((x7_1).toNat*4)).off+1,none⟩=some (.int .i64 ((rd_T61 t168 x7_1).f0.f1))∧w'.cell? ⟨(ad174.add ((x7_1).toNat*4)).block,(ad174.add ((x7_1).toNat*4)).off+2,none⟩=some (.int .i64 ((rd_T61 t168 x7_1).f1.f0))∧w'.cell? ⟨(ad174.add ((x7_1).toNat*4)).block,(ad174.add ((x7_1).toNat*4)).off+3,none⟩=some (.int .i64 ((rd_T61 t168 x7_1).f1.f1))∧w'.cell? (ad175.add ((x8_2).toNat*4))=some (.int .i64 ((rd_T61 t171 x8_2).f0.f0))∧w'.cell? ⟨(ad175.add ((x8_2).toNat*4)).block,(ad175.add ((x8_2).toNat*4)).off+1,none⟩=some (.int .i64 ((rd_T61 t171 x8_2).f0.f1))∧w'.cell? ⟨(ad175.add ((x8_2).toNat*4)).block,(ad175.add ((x8_2).toNat*4)).off+2,none⟩=some (.int .i64 ((rd_T61 t171 x8_2).f1.f0))∧w'.cell? ⟨(ad175.add ((x8_2).toNat*4)).block,(ad175.add ((x8_2).toNat*4)).off+3,none⟩=some (.int .i64 ((rd_T61 t171 x8_2).f1.f1))) (ds:=[]) (Array.replicate 9 false) (by kernel_rfl) rfl rfl ⟨hx174_0,hx174_1,hx174_2,hx174_3,hx175_0,hx175_1,hx175_2,hx175_3⟩ (fun hHeld=>?_);refine with_tabW spec_l11Apart.tab9 spec_l11Apart.bits9 (fun HT_ HW_=>?_)
           generalize wr.drew=w19 at HO_5 HO_6 HB hx174_0 hx174_1 hx174_2 hx174_3 hx175_0 hx175_1 hx175_2 hx175_3 hHeld ⊢
           refine pu_ HT_ 0 25 (bm 9 1) ?_;refine pu_ HT_ 1 26 (bm 9 3) ?_;refine pu_ HT_ 2 27 (bm 9 7) ?_;refine pu_ HT_ 4 29 (bm 9 23) ?_;refine pu_ HT_ 5 30 (bm 9 55) ?_;refine pu_ HT_ 6 31 (bm 9 119) ?_;refine ta8_ HT_ HW_ 3 28 (bm 9 127) hHeld ?_;refine ta8_ HT_ HW_ 7 32 (bm 9 255) hHeld ?_;refine one_ (i:=8) (N:=some 33) (bm 9 511) rfl rfl (one_of HT_.out (by kernel_rfl)) (by decide) (fun K hK=>?_);refine goes_ Tryd.func101 (by kernel_rfl) rfl #[.agg #[.int .i64 ((rd_T61 t168 x7_1).f0.f0),.int .i64 ((rd_T61 t168 x7_1).f0.f1),.int .i64 ((rd_T61 t168 x7_1).f1.f0),.int .i64 ((rd_T61 t168 x7_1).f1.f1)],.agg #[.int .i64 ((rd_T61 t171 x8_2).f0.f0),.int .i64 ((rd_T61 t171 x8_2).f0.f1),.int .i64 ((rd_T61 t171 x8_2).f1.f0),.int .i64 ((rd_T61 t171 x8_2).f1.f1)]] (by rfl) rfl rfl ma_ ?_
           with_reducible refine (spec_l2Meet.calls ((rd_T61 t168 x7_1).f0.f0) ((rd_T61 t168 x7_1).f0.f1) ((rd_T61 t168 x7_1).f1.f0) ((rd_T61 t168 x7_1).f1.f1) ((rd_T61 t171 x8_2).f0.f0) ((rd_T61 t171 x8_2).f0.f1) ((rd_T61 t171 x8_2).f1.f0) ((rd_T61 t171 x8_2).f1.f1) false _ A13.out).mono ?_
           rintro e w20 ⟨rfl,hb⟩;have HS0_:=pw_cell_below hb hHeld.1;have HS1_:=pw_cell_below hb hHeld.2.1;have HS2_:=pw_cell_below hb hHeld.2.2.1;have HS3_:=pw_cell_below hb hHeld.2.2.2.1;have HS4_:=pw_cell_below hb hHeld.2.2.2.2.1;have HS5_:=pw_cell_below hb hHeld.2.2.2.2.2.1;have HS6_:=pw_cell_below hb hHeld.2.2.2.2.2.2.1;have HS7_:=pw_cell_below hb hHeld.2.2.2.2.2.2.2;refine⟨_,rfl,?_⟩;replace HO_5:=rb_ HO_5 hb;replace HO_6:=rb_ HO_6 hb;replace HB:=sb_ HB hb
           (try clear hb)
           (try clear hb2)
           (try clear hk)
           (try clear hi)
           refine hK.out _ _ ⟨HS0_,HS1_,HS2_,HS3_,HS4_,HS5_,HS6_,HS7_⟩ (fun hHeld=>?_);clear hK K;refine no_ (h:=?_);refine done_ (done_of HT_.out (by kernel_rfl)) ?_
           try go_wp2
           go_roundg k2
           case measure=>have:=HK1.out;have:=HK2.out;omega
           case rel=>exact⟨(wrap64 (x8_2+1)),(by first | rfl | (simp;done) | (simp [*];done)),H',⟨by have:=HK1.out;have:=HK2.out;omega⟩,⟨by (with_reducible repeat (first | apply Kd.R_alloc | apply Kd.R_drewN | apply Kd.R_drew));exact HO_5.out⟩,⟨by (with_reducible repeat (first | apply Kd.R_alloc | apply Kd.R_drewN | apply Kd.R_drew));exact HO_6.out⟩,⟨hB_⟩⟩
         ·
          rw [if_neg c12] at H;exact absurd H (by simp)
        ·
         rw [if_neg c11] at H;exact absurd H (by simp)
       ·
        rw [if_neg c10] at H;exact absurd H (by simp)
      ·
       rw [if_neg c9] at H;have c9b0:decide (x8_2<(t171.length:Int))=false:=decide_eq_false c9;clear c9;have H':=Aside0.mk H;clear H;obtain⟨Ao21,co21,eo21⟩:=Kd.R_slice HO_6.out;subst eo21;go_wp2;go_roundg k2
       case measure=>have:=HK1.out;have:=HK2.out;omega
       case rel=>exact⟨(wrap64 (x7_1+1)),(by first | rfl | (simp;done) | (simp [*];done)),H',⟨by have:=HK1.out;have:=HK2.out;omega⟩,⟨by (with_reducible repeat (first | apply Kd.R_alloc | apply Kd.R_drewN | apply Kd.R_drew));exact HO_5.out⟩,⟨by (with_reducible repeat (first | apply Kd.R_alloc | apply Kd.R_drewN | apply Kd.R_drew));exact HO_6.out⟩,⟨hB_⟩⟩
   ·
    rw [if_neg c7] at H;have c7b0:decide (x7_1<(t168.length:Int))=false:=decide_eq_false c7;clear c7;obtain rfl:=Option.some.inj H;obtain⟨Ao22,co22,eo22⟩:=Kd.R_slice HO_5.out;subst eo22;go_wp2;go_ret;exact⟨rr_,hB_⟩
end Go.Proofs.YtkefmnmoaomlhaaDoor.X
end
section
set_option linter.unusedVariables false
set_option linter.unusedSimpArgs false
namespace Go.Proofs.YtkefmnmoaomlhaaDoor.X
open Go.RowKit Go.Proofs.YtkefmnmoaomlhaaDoorW.PrintWords Go.Proofs.YtkefmnmoaomlhaaDoorW.PrintLast Go.Proofs.YtkefmnmoaomlhaaDoorW.PrintMore
open Mort (edges loopOk ptOk segOk has meet ed pairOk joined apartB)
theorem rd_es (z:List S28){i:Nat}(h:i<z.length):rd_T61 (esOf z) (i:Int)=edS z i:=esOf_getD z h
theorem seg_ends {s:S61}(h:segOk (sgP s)=true):ptOk (s.f0.f0,s.f0.f1)=true∧ptOk (s.f1.f0,s.f1.f1)=true:=⟨((Mort.segOk_iff _).1 h).1,((Mort.segOk_iff _).1 h).2.1⟩
theorem sHasS {s:S61}{x y:Int}(h:segOk (sgP s)=true)(hp:ptOk (x,y)=true):spec_l2Has.f s.f0.f0 s.f0.f1 s.f1.f0 s.f1.f1 x y=some (has (sgP s) (x,y)):=sHas (seg_ends h).1 (seg_ends h).2 hp
theorem sMeetS {s t:S61}(h:segOk (sgP s)=true)(h':segOk (sgP t)=true):spec_l2Meet.f s.f0.f0 s.f0.f1 s.f1.f0 s.f1.f1 t.f0.f0 t.f0.f1 t.f1.f0 t.f1.f1=some (meet (sgP s) (sgP t)):=sMeet (seg_ends h).1 (seg_ends h).2 (seg_ends h').1 (seg_ends h').2
theorem succ64 {i:Nat}(h:i≤100000):wrap64 ((i:Int)+1)=((i+1:Nat):Int):=by rw [w64i (by omega) (by omega)];rfl
def rowJ (l:List Mort.Pt)(i j:Nat):Bool:=decide ((j+1) % l.length=i) || !meet (ed l i) (ed l j)
def rowI (l:List Mort.Pt)(i:Nat):Bool:=joined (ed l i) (ed l ((i+1) % l.length)) && (List.range' (i+2) (l.length-(i+2))).all (rowJ l i)
section
variable (z:List S28) (h8:z.length≤8) (hall:∀ i,i<z.length→segOk (sgP (edS z i))=true)
include h8 hall
theorem loop_l2 (i:Nat)(hi:i<z.length)(R:Bool)(K:Nat)(hR:∀ k,K≤k→spec_LoopOk.l1 k (z.length:Int) (esOf z) ((i+1:Nat):Int)=some R):
  ∀ (m j k:Nat),z.length-j=m→j≤10→K+m+1≤k→spec_LoopOk.l2 k (z.length:Int) (esOf z) (i:Int) (j:Int)=some ((List.range' j m).all (rowJ (z.map ptP) i) && R):=by
 intro m
 induction m with
 | zero =>
  intro j k hm hj hk;obtain⟨k,rfl⟩:∃ q,k=q+1:=⟨k-1,by omega⟩;simp only [spec_LoopOk.l2];rw [if_neg (by omega),succ64 (by omega),hR k (by omega)];simp
 | succ m ih =>
  intro j k hm hj hk;obtain⟨k,rfl⟩:∃ q,k=q+1:=⟨k-1,by omega⟩;simp only [spec_LoopOk.l2];rw [if_pos (by omega),if_neg (by omega),succ64 (by omega)];have ht:Int.tmod ((j+1:Nat):Int) (z.length:Int)=(((j+1) % z.length:Nat):Int):=rfl;rw [ht,List.range'_succ,List.all_cons];by_cases hq:(j+1) % z.length=i
  ·
   rw [if_pos (by omega),ih (j+1) k (by omega) (by omega) (by omega)];have:rowJ (z.map ptP) i j=true:=by unfold rowJ;rw [List.length_map,decide_eq_true hq];rfl
   rw [this,Bool.true_and]
  ·
   rw [if_neg (by omega),if_pos (by omega),if_pos (by rw [esOf_len];omega),if_pos (by omega),if_pos (by rw [esOf_len];omega)];rw [rd_es z hi,rd_es z (by omega),sMeetS (hall i hi) (hall j (by omega)),Option.bind_some];have hrow:rowJ (z.map ptP) i j = !meet (sgP (edS z i)) (sgP (edS z j)):=by unfold rowJ;rw [List.length_map,decide_eq_false hq,ed_edS,ed_edS];rfl
   rw [hrow]
   cases hm2:meet (sgP (edS z i)) (sgP (edS z j)) with
   | true=>rw [if_pos rfl];simp
   | false=>rw [if_neg (by decide),ih (j+1) k (by omega) (by omega) (by omega)];simp
theorem loop_l1:∀ (m i k:Nat),z.length-i=m→i≤z.length→m*20+1≤k→spec_LoopOk.l1 k (z.length:Int) (esOf z) (i:Int)=some ((List.range' i m).all (rowI (z.map ptP))):=by
 intro m
 induction m with
 | zero =>
  intro i k hm hi hk;obtain⟨k,rfl⟩:∃ q,k=q+1:=⟨k-1,by omega⟩;simp only [spec_LoopOk.l1];rw [if_neg (by omega)];simp
 | succ m ih =>
  intro i k hm hi hk;obtain⟨k,rfl⟩:∃ q,k=q+2:=⟨k-2,by omega⟩;simp only [spec_LoopOk.l1];have hlt:=Nat.mod_lt (i+1) (show 0<z.length by omega);have ht:Int.tmod ((i+1:Nat):Int) (z.length:Int)=(((i+1) % z.length:Nat):Int):=rfl;rw [if_pos (by omega),if_pos (by omega),if_pos (by rw [esOf_len];omega),if_neg (by omega),succ64 (by omega),ht,if_pos (by omega),if_pos (by rw [esOf_len];omega)];rw [rd_es z (by omega:i<z.length),rd_es z hlt];generalize hq:(i+1) % z.length=q at hlt;have o1:=hall i (by omega);have o2:=hall q hlt;rw [sHasS o1 (seg_ends o2).2,Option.bind_some,sHasS o2 (seg_ends o1).1,Option.bind_some];have hrow:rowI (z.map ptP) i=((!has (sgP (edS z i)) (sgP (edS z q)).2 && !has (sgP (edS z q)) (sgP (edS z i)).1) && (List.range' (i+2) (z.length-(i+2))).all (rowJ (z.map ptP) i)):=by
   unfold rowI joined;rw [List.length_map,hq,ed_edS,ed_edS]
  have e2:(ptP (edS z q).f1)=((edS z q).f1.f0,(edS z q).f1.f1):=rfl;rw [List.range'_succ,List.all_cons,hrow]
  show (if has (sgP (edS z i)) (sgP (edS z q)).2=true then _ else spec_LoopOk.j2 (k+1) _ _ _ (has (sgP (edS z q)) (sgP (edS z i)).1))=_
  cases has (sgP (edS z i)) (sgP (edS z q)).2 with
  | true=>rw [if_pos rfl];simp only [spec_LoopOk.j2];simp
  | false =>
   rw [if_neg (by decide)];simp only [spec_LoopOk.j2]
   cases has (sgP (edS z q)) (sgP (edS z i)).1 with
   | true=>rw [if_pos rfl];simp
   | false =>
    rw [if_neg (by decide)];have hw:wrap64 ((i:Int)+2)=((i+2:Nat):Int):=by rw [w64i (by omega) (by omega)];rfl
    rw [hw,loop_l2 z h8 hall i (by omega) _ (m*20+1) (fun k hk=>ih (i+1) k (by omega) (by omega) hk) (z.length-(i+2)) (i+2) k rfl (by omega) (by omega)];simp
end
theorem loop_l0 (z:List S28)(h8:z.length≤8):∀ (m i k:Nat),z.length-i=m→i≤z.length→m+200≤k→(∀ j,j<i→segOk (sgP (edS z j))=true) →
  spec_LoopOk.l0 k (z.length:Int) (esOf z) (i:Int)=some ((List.range' i m).all (fun j=>segOk (sgP (edS z j))) && (List.range' 0 z.length).all (rowI (z.map ptP))):=by
 intro m
 induction m with
 | zero =>
  intro i k hm hi hk hp;obtain⟨k,rfl⟩:∃ q,k=q+1:=⟨k-1,by omega⟩;simp only [spec_LoopOk.l0];rw [if_neg (by omega),show (0:Int)=((0:Nat):Int) from rfl,loop_l1 z h8 (fun j hj=>hp j (by omega)) z.length 0 k (by omega) (by omega) (by omega)];simp
 | succ m ih =>
  intro i k hm hi hk hp;obtain⟨k,rfl⟩:∃ q,k=q+1:=⟨k-1,by omega⟩;simp only [spec_LoopOk.l0];rw [if_pos (by omega),if_pos (by omega),if_pos (by rw [esOf_len];omega),rd_es z (by omega:i<z.length),sSegOk,Option.bind_some,List.range'_succ,List.all_cons]
  show (if segOk (sgP (edS z i))=true then _ else _)=_
  cases ho:segOk (sgP (edS z i)) with
  | true =>
   rw [if_pos rfl,succ64 (by omega),ih (i+1) k (by omega) (by omega) (by omega) (fun j hj=>by
    by_cases hji:j=i
    ·
     rw [hji];exact ho
    ·
     exact hp j (by omega))]
   simp
  | false=>rw [if_neg (by decide)];simp
theorem rows_pairs (l:List Mort.Pt)(h3:3≤l.length):(List.range' 0 l.length).all (rowI l)=(List.range l.length).all fun i=>(List.range l.length).all fun j=>pairOk l i j:=by
 rw [Bool.eq_iff_iff];simp only [List.all_eq_true,List.mem_range'_1,List.mem_range];constructor
 ·
  intro h i hi j hj;have row:∀ i,i<l.length→joined (ed l i) (ed l ((i+1) % l.length))=true∧∀ j,i+2≤j→j<l.length→rowJ l i j=true:=fun i hi=>by
   have:=h i ⟨by omega,by omega⟩;unfold rowI at this;simp only [Bool.and_eq_true,List.all_eq_true,List.mem_range'_1] at this;exact⟨this.1,fun j h1 h2=>this.2 j ⟨h1,by omega⟩⟩
  unfold pairOk;by_cases h1:j≤i
  ·
   rw [if_pos h1]
  ·
   rw [if_neg h1];by_cases h2:j=i+1
   ·
    rw [if_pos h2];have:=(row i hi).1
    rwa [Nat.mod_eq_of_lt (by omega),← h2] at this
   ·
    rw [if_neg h2];by_cases h4:i=0∧j+1=l.length
    ·
     rw [if_pos h4];have:=(row j hj).1
     rwa [h4.2,Nat.mod_self,← h4.1] at this
    ·
     rw [if_neg h4];have:=(row i hi).2 j (by omega) hj;unfold rowJ at this;have hne:(j+1) % l.length≠i:=by
      intro e;by_cases hj2:j+1<l.length
      ·
       rw [Nat.mod_eq_of_lt hj2] at e;omega
      ·
       have e2:j+1=l.length:=by omega
       rw [e2,Nat.mod_self] at e;exact h4 ⟨e.symm,e2⟩
     rwa [decide_eq_false hne,Bool.false_or] at this
 ·
  intro h i hi;have hi2:i<l.length:=by omega
  unfold rowI;simp only [Bool.and_eq_true,List.all_eq_true,List.mem_range'_1];refine⟨?_,fun j hj=>?_⟩
  ·
   by_cases h1:i+1<l.length
   ·
    have:=h i hi2 (i+1) h1;unfold pairOk at this;rw [if_neg (by omega),if_pos rfl] at this
    rwa [Nat.mod_eq_of_lt h1]
   ·
    have e2:i+1=l.length:=by omega
    have:=h 0 (by omega) i hi2;unfold pairOk at this;rw [if_neg (by omega),if_neg (by omega),if_pos ⟨rfl,e2⟩] at this
    rwa [e2,Nat.mod_self]
  ·
   unfold rowJ;by_cases hq:(j+1) % l.length=i
   ·
    rw [decide_eq_true hq];rfl
   ·
    rw [decide_eq_false hq,Bool.false_or];have:=h i hi2 j (by omega);unfold pairOk at this;rw [if_neg (by omega),if_neg (by omega),if_neg (fun e=>hq (by rw [e.2,Nat.mod_self];exact e.1.symm))] at this;exact this
theorem sLoopOk {k:Nat}(hk:300≤k)(z:List S28):spec_LoopOk.f k z=some (loopOk (z.map ptP)):=by
 unfold spec_LoopOk.f loopOk;rw [l6In_told,Option.bind_some,List.length_map];have e0:(decide (3≤(z.length:Int)) && decide ((z.length:Int)≤8))=(decide (3≤z.length) && decide (z.length≤8)):=by
  congr 1
  ·
   rw [decide_eq_decide];omega
  ·
   rw [decide_eq_decide];omega
 rw [e0];by_cases hn:3≤z.length∧z.length≤8
 ·
  rw [decide_eq_true hn.1,decide_eq_true hn.2,Bool.and_self,if_pos rfl,sEdges (by omega) (by omega),Option.bind_some,Bool.true_and,show (0:Int)=((0:Nat):Int) from rfl,loop_l0 z hn.2 z.length 0 k (by omega) (by omega) (by omega) (fun j hj=>by omega)];have h3:=rows_pairs (z.map ptP) (by rw [List.length_map];exact hn.1);rw [List.length_map] at h3;rw [h3,Mort.edges_eq,List.length_map,List.all_map,List.range_eq_range']
  congr 3
  funext i
  show _=segOk (ed (z.map ptP) i)
  rw [ed_edS]
 ·
  have:(decide (3≤z.length) && decide (z.length≤8))=false:=by
   by_cases h1:3≤z.length
   ·
    rw [decide_eq_false (show ¬ z.length≤8 from fun h2=>hn ⟨h1,h2⟩),Bool.and_false]
   ·
    rw [decide_eq_false h1,Bool.false_and]
  rw [this,if_neg (by decide),Bool.false_and]
theorem ok_facts {z:List S28}(h:loopOk (z.map ptP)=true):3≤z.length∧z.length≤8∧∀ i,i<z.length→segOk (sgP (edS z i))=true:=by
 obtain⟨h1,h2,h3,_⟩:=(Mort.loopOk_iff _).1 h;rw [List.length_map] at h1 h2;refine⟨h1,h2,fun i hi=>?_⟩;have:=h3 _ (Mort.mem_edges.2 ⟨i,by simpa using hi,rfl⟩)
 rwa [ed_edS] at this
theorem apart_l1 (a b:List S28)(ha:loopOk (a.map ptP)=true)(hb:loopOk (b.map ptP)=true)(i:Nat)(hi:i<a.length)(R:Bool)(K:Nat)(hR:∀ k,K≤k→spec_l11Apart.l0 k (esOf a) (esOf b) ((i+1:Nat):Int)=some R):
  ∀ (m j k:Nat),b.length-j=m→j≤b.length→K+m+1≤k→spec_l11Apart.l1 k (esOf a) (esOf b) (i:Int) (j:Int)=some ((List.range' j m).all (fun j => !meet (sgP (edS a i)) (sgP (edS b j))) && R):=by
 obtain⟨a3,a8,aok⟩:=ok_facts ha;obtain⟨b3,b8,bok⟩:=ok_facts hb;intro m
 induction m with
 | zero =>
  intro j k hm hj hk;obtain⟨k,rfl⟩:∃ q,k=q+1:=⟨k-1,by omega⟩;simp only [spec_l11Apart.l1];rw [if_neg (by rw [esOf_len];omega),succ64 (by omega),hR k (by omega)];simp
 | succ m ih =>
  intro j k hm hj hk;obtain⟨k,rfl⟩:∃ q,k=q+1:=⟨k-1,by omega⟩;simp only [spec_l11Apart.l1];rw [if_pos (by rw [esOf_len];omega),if_pos (by omega),if_pos (by rw [esOf_len];omega),if_pos (by omega),rd_es a hi,rd_es b (by omega),sMeetS (aok i hi) (bok j (by omega)),Option.bind_some,List.range'_succ,List.all_cons]
  cases meet (sgP (edS a i)) (sgP (edS b j)) with
  | true=>rw [if_pos rfl];simp
  | false=>rw [if_neg (by decide),succ64 (by omega),ih (j+1) k (by omega) (by omega) (by omega)];simp
theorem apart_l0 (a b:List S28)(ha:loopOk (a.map ptP)=true)(hb:loopOk (b.map ptP)=true):
  ∀ (m i k:Nat),a.length-i=m→i≤a.length→m*20+1≤k→spec_l11Apart.l0 k (esOf a) (esOf b) (i:Int)=some ((List.range' i m).all (fun i=>(List.range' 0 b.length).all (fun j => !meet (sgP (edS a i)) (sgP (edS b j))))):=by
 obtain⟨a3,a8,aok⟩:=ok_facts ha;obtain⟨b3,b8,bok⟩:=ok_facts hb;intro m
 induction m with
 | zero =>
  intro i k hm hi hk;obtain⟨k,rfl⟩:∃ q,k=q+1:=⟨k-1,by omega⟩;simp only [spec_l11Apart.l0];rw [if_neg (by rw [esOf_len];omega)];simp
 | succ m ih =>
  intro i k hm hi hk;obtain⟨k,rfl⟩:∃ q,k=q+1:=⟨k-1,by omega⟩;simp only [spec_l11Apart.l0]
  rw [if_pos (by rw [esOf_len];omega),List.range'_succ,List.all_cons,show (0:Int)=((0:Nat):Int) from rfl,
   apart_l1 a b ha hb i (by omega) _ (m*20+1) (fun k hk=>ih (i+1) k (by omega) (by omega) hk) b.length 0 k (by omega) (by omega) (by omega)]
theorem sApart {k:Nat}(hk:300≤k){a b:List S28}(ha:loopOk (a.map ptP)=true)(hb:loopOk (b.map ptP)=true):spec_l11Apart.f k a b=some (apartB (a.map ptP) (b.map ptP)):=by
 obtain⟨a3,a8,aok⟩:=ok_facts ha;obtain⟨b3,b8,bok⟩:=ok_facts hb;unfold spec_l11Apart.f apartB;rw [sEdges (by omega) (by omega),sEdges (by omega) (by omega),Option.bind_some,Option.bind_some,show (0:Int)=((0:Nat):Int) from rfl,apart_l0 a b ha hb a.length 0 k (by omega) (by omega) (by omega)];rw [Mort.edges_eq (a.map ptP),Mort.edges_eq (b.map ptP),List.length_map,List.length_map,List.all_map,List.range_eq_range']
 congr 2
 funext i
 show _=((List.range b.length).map (ed (b.map ptP))).all _
 rw [List.all_map,List.range_eq_range']
 congr 1
 funext j
 show _ = !meet (ed (a.map ptP) i) (ed (b.map ptP) j)
 rw [ed_edS,ed_edS]
end Go.Proofs.YtkefmnmoaomlhaaDoor.X
end
