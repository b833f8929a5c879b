/- FnFitsMost: the law returns true for every input, and each input reads behind the call as before; part 4 of 6. No condition. Merged by program out of: FLawsLuMost, HMeet, FSpecL11Apart, EvEdges, HL3In. -/
import Derived.Test.YtkefmnmoaomlhaaDoorMFnFitsMost3
import Derived.Deep.LoopGhost
import Derived.Deep.RegionHeld3
import Derived.RegionTactic
set_option linter.all false
section
namespace Go.Proofs.YtkefmnmoaomlhaaDoor.X
open Go.RowKit Go.Proofs.YtkefmnmoaomlhaaDoorW.PrintWords Go.Proofs.YtkefmnmoaomlhaaDoorW.PrintLast Go.Proofs.YtkefmnmoaomlhaaDoorW.PrintMore
attribute [local go_sem] max2_int min2_int max_two min_two max_three min_three max_four min_four
set_option linter.unusedVariables false
set_option linter.unusedSimpArgs false
def laws_luMost.l0:Nat→Int→Int→List (S28)→List (List (S28))→Int→Int→Option (Int)
 | 0,_,_,_,_,_,_=>none
 | k+1,x5,x6,x733000,x733001,x734000,x734001=>if x6≤9 then ((impl_ToolFits.f x733000 x733001 x6 x734000 x734001).bind fun t734=>(if t734=true then (laws_luMost.l0 k x6 (wrap64 (x6+1)) x733000 x733001 x734000 x734001) else (laws_luMost.l0 k x5 (wrap64 (x6+1)) x733000 x733001 x734000 x734001))) else (some x5)
def laws_luMost.f (k:Nat)(l0_0:List (S28))(l0_1:List (List (S28)))(a1_0:Int)(a1_1:Int):Option (Int):=laws_luMost.l0 k 0 1 l0_0 l0_1 a1_0 a1_1
set_option maxHeartbeats 8000000 in
set_option maxRecDepth 100000 in
theorem laws_luMost.calls (k:Nat)(A0_0:Option Addr)(c0_0:Nat)(l0_0:List (S28))(A0_1:Option Addr)(c0_1:Nat)(l0_1:List (List (S28)))(a1_0:Int)(a1_1:Int)(r:Int)(w:World)(hr0_0:Kd.C k28 w A0_0 l0_0.length l0_0)(hc0_0:l0_0.length≤c0_0)(hr0_1:Kd.C (Kd.slice 28 k28) w A0_1 l0_1.length l0_1)(hc0_1:l0_1.length≤c0_1)(hE:ErrW w)(h:laws_luMost.f k l0_0 l0_1 a1_0 a1_1=some r):
  Calls Tryd.prog 34 #[.agg #[.slice A0_0 l0_0.length c0_0,.slice A0_1 l0_1.length c0_1],.agg #[.int .i64 a1_0,.int .i64 a1_1]] w fun e w'=>e=.returned (.int .i64 r)∧Below w.heap.size w w':=by
 have hu26:=Tryd.underlying26;have hu28:=Tryd.underlying28;have HR0_0:=Aside0.mk hr0_0;have HC0_0:=Aside0.mk hc0_0;clear hr0_0 hc0_0;have HR0_1:=Aside0.mk hr0_1;have HC0_1:=Aside0.mk hc0_1;clear hr0_1 hc0_1;have HB:=a0_ (Below.refl w.heap.size w);have HE:=Aside0.mk hE;clear hE;have H:(laws_luMost.l0 k 0 1 l0_0 l0_1 a1_0 a1_1)=some r:=h;clear h;have H':=Aside0.mk H;clear H;go_enter Tryd.func34,Tryd.ntmps34;go_wp2_with (first | ((with_reducible refine gate_dst (N:=2) rfl ?_);refine bx_ (N:=2) (cs:=#[.slice A0_0 l0_0.length c0_0,.slice A0_1 l0_1.length c0_1]) (t:=26) (h:=?_);intro gb732 hg w3 hbox hb;have BK732:=a0_ (hbox);have GW732:=gh_ HB hg;have GE732:=gh_ HB hg;replace HB:=sb_ HB hb;clear hb hbox hg) | ((with_reducible refine gate_dst (N:=3) rfl ?_);refine bx_ (N:=3) (cs:=#[.int .i64 a1_0,.int .i64 a1_1]) (t:=28) (h:=?_);intro gb733 hg w4 hbox hb;have BK733:=a0_ (hbox);have GW733:=gh_ HB hg;have GE733:=gh_ HB hg;have NB732_733:=nl_ BK732 hg;have NB733_732:=nr_ BK732 hg;replace BK732:=vb_ BK732 hb;replace HB:=sb_ HB hb;clear hb hbox hg));go_loopg [5,6] k (fun kq v5 v6 w'=>∃ (x5_1:Int) (x6_1:Int),v5=.int .i64 x5_1∧v6=.int .i64 x6_1∧Aside0 (laws_luMost.l0 kq x5_1 x6_1 l0_0 l0_1 a1_0 a1_1=some r)∧Aside0 (kq≤k)∧Aside0 (w'.heap[gb732]?=some (.cells #[(.slice A0_0 l0_0.length c0_0),(.slice A0_1 l0_1.length c0_1)] 26 (0,0)))∧Aside0 (w'.heap[gb733]?=some (.cells #[.int .i64 a1_0,.int .i64 a1_1] 28 (0,0)))∧Aside0 (Below w.heap.size w w'))
 case atStart=>exact⟨(0),(1),(by first | rfl | (simp;done) | (simp [*];done)),(by first | rfl | (simp;done) | (simp [*];done)),H',⟨Nat.le_refl _⟩,⟨uq_⟩,⟨uq_⟩,⟨hB_⟩⟩
 case round =>
  clear H';obtain⟨x5_1,x6_1,rfl,rfl,HA,HK1,BK732,BK733,HB⟩:=hrel
  cases gk with
  | zero=>exact absurd HA.out (by simp [laws_luMost.l0])
  | succ k1 =>
   have H:=HA.out;clear HA;simp only [laws_luMost.l0] at H;by_cases c5:x6_1≤9
   ·
    rw [if_pos c5] at H;have c5b0:decide (x6_1≤9)=true:=decide_eq_true c5;clear c5;replace H:=Option.bind_eq_some_iff.mp H;obtain⟨t734,A60,H⟩:=H
    (try dsimp only at H)
    have A6:=Aside0.mk A60;clear A60;by_cases c7:t734=true
    ·
     subst c7;rw [if_pos rfl] at H
     (try dsimp only at H)
     have H':=Aside0.mk H;clear H;have hnb8:=NB732_733.out;have hnc8:=NB733_732.out;have hcz9_0:=c20_ BK732;have hcz9_1:=c21_ BK732;have hfz9_0:=fz_ BK732 0;have hfz9_1:=fz_ BK732 1;have hcz10_0:=c20_ BK733;have hcz10_1:=c21_ BK733;have hfz10_0:=fz_ BK733 0;have hfz10_1:=fz_ BK733 1;go_wp2_with (first | ((with_reducible refine gate_callee (f:=28) rfl ?_);refine gL_ (some 14) Tryd.func28 #[.agg #[.slice A0_0 l0_0.length c0_0,.slice A0_1 l0_1.length c0_1],.int .i64 x6_1,.agg #[.int .i64 a1_0,.int .i64 a1_1]] (h:=?_);(with_reducible refine (impl_ToolFits.calls _ _ l0_0 _ _ l0_1 x6_1 a1_0 a1_1 true _ ?side1 ?side2 ?side3 ?side4 ?side5 A6.out).mono ?_);(case side1=>repeat (first | exact (Kd.C_below HR0_0.out HB.out) | (with_reducible refine Kd.C_alloc ?_ _) | (with_reducible refine Kd.C_drewN ?_ _) | (with_reducible refine Kd.C_drew ?_)));(case side2=>exact HC0_0.out);(case side3=>repeat (first | exact (Kd.C_below HR0_1.out HB.out) | (with_reducible refine Kd.C_alloc ?_ _) | (with_reducible refine Kd.C_drewN ?_ _) | (with_reducible refine Kd.C_drew ?_)));(case side4=>exact HC0_1.out);(case side5=>exact ErrW.below HE.out hB_);rintro e w11 ⟨rfl,hb⟩;refine⟨_,rfl,?_⟩;replace BK732:=vb_ BK732 hb;replace BK733:=vb_ BK733 hb;replace HB:=sb_ HB hb;(try clear hb)));go_roundg k1
     case measure=>have:=HK1.out;omega
     case rel=>exact⟨(x6_1),(wrap64 (x6_1+1)),(by first | rfl | (simp;done) | (simp [*];done)),(by first | rfl | (simp;done) | (simp [*];done)),H',⟨by have:=HK1.out;omega⟩,⟨uq_⟩,⟨uq_⟩,⟨hB_⟩⟩
    ·
     replace c7:=Bool.eq_false_iff.mpr c7;subst c7;rw [if_neg (show ¬ (false=true) by decide)] at H
     (try dsimp only at H)
     have H':=Aside0.mk H;clear H;have hnb12:=NB732_733.out;have hnc12:=NB733_732.out;have hcz13_0:=c20_ BK732;have hcz13_1:=c21_ BK732;have hfz13_0:=fz_ BK732 0;have hfz13_1:=fz_ BK732 1;have hcz14_0:=c20_ BK733;have hcz14_1:=c21_ BK733;have hfz14_0:=fz_ BK733 0;have hfz14_1:=fz_ BK733 1;go_wp2_with (first | ((with_reducible refine gate_callee (f:=28) rfl ?_);refine gL_ (some 14) Tryd.func28 #[.agg #[.slice A0_0 l0_0.length c0_0,.slice A0_1 l0_1.length c0_1],.int .i64 x6_1,.agg #[.int .i64 a1_0,.int .i64 a1_1]] (h:=?_);(with_reducible refine (impl_ToolFits.calls _ _ l0_0 _ _ l0_1 x6_1 a1_0 a1_1 false _ ?side1 ?side2 ?side3 ?side4 ?side5 A6.out).mono ?_);(case side1=>repeat (first | exact (Kd.C_below HR0_0.out HB.out) | (with_reducible refine Kd.C_alloc ?_ _) | (with_reducible refine Kd.C_drewN ?_ _) | (with_reducible refine Kd.C_drew ?_)));(case side2=>exact HC0_0.out);(case side3=>repeat (first | exact (Kd.C_below HR0_1.out HB.out) | (with_reducible refine Kd.C_alloc ?_ _) | (with_reducible refine Kd.C_drewN ?_ _) | (with_reducible refine Kd.C_drew ?_)));(case side4=>exact HC0_1.out);(case side5=>exact ErrW.below HE.out hB_);rintro e w15 ⟨rfl,hb⟩;refine⟨_,rfl,?_⟩;replace BK732:=vb_ BK732 hb;replace BK733:=vb_ BK733 hb;replace HB:=sb_ HB hb;(try clear hb)));go_roundg k1
     case measure=>have:=HK1.out;omega
     case rel=>exact⟨(x5_1),(wrap64 (x6_1+1)),(by first | rfl | (simp;done) | (simp [*];done)),(by first | rfl | (simp;done) | (simp [*];done)),H',⟨by have:=HK1.out;omega⟩,⟨uq_⟩,⟨uq_⟩,⟨hB_⟩⟩
   ·
    rw [if_neg c5] at H;have c5b0:decide (x6_1≤9)=false:=decide_eq_false c5;clear c5;obtain rfl:=Option.some.inj H;go_wp2;go_ret;exact⟨rr_,hB_⟩
def spec_l71Box.f (k:Nat)(s0_0:List Int)(s0_1:Int)(a1:Int)(a2:Int)(a3:Int)(a4:Int):Option ((List (S28)) × Int):=(some (([(⟨a1,a2⟩:S28),(⟨wrap64 (a1+a3),a2⟩:S28),(⟨wrap64 (a1+a3),wrap64 (a2+a4)⟩:S28),(⟨a1,wrap64 (a2+a4)⟩:S28)]:List (S28)):List (S28))).bind fun y192=>((spec_l6Rd_pick.f k s0_0 s0_1 7).bind fun bt195=>(if bt195.1=0 then (if 3≤(y192.length:Int) then (some ((y192.take (3:Int).toNat),bt195.2)) else (none)) else (if bt195.1=1 then (if a3>1 then (if a4>1 then (if 0<(y192.length:Int) then (if 1<(y192.length:Int) then (if 3<(y192.length:Int) then (some ((([(⟨(rd_T28 y192 0).f0,(rd_T28 y192 0).f1⟩:S28),(⟨(rd_T28 y192 1).f0,(rd_T28 y192 1).f1⟩:S28),(⟨wrap64 (a1+a3),wrap64 (a2+(wrap64 (Int.tdiv a4 2)))⟩:S28),(⟨wrap64 (a1+(wrap64 (Int.tdiv a3 2))),wrap64 (a2+(wrap64 (Int.tdiv a4 2)))⟩:S28),(⟨wrap64 (a1+(wrap64 (Int.tdiv a3 2))),wrap64 (a2+a4)⟩:S28),(⟨(rd_T28 y192 3).f0,(rd_T28 y192 3).f1⟩:S28)]:List (S28))),bt195.2)) else (none)) else (none)) else (none)) else (some (y192,bt195.2))) else (some (y192,bt195.2))) else (if bt195.1=2 then (if a4>1 then (if 0<(y192.length:Int) then (if 1<(y192.length:Int) then (if 3<(y192.length:Int) then (some ((([(⟨(rd_T28 y192 0).f0,(rd_T28 y192 0).f1⟩:S28),(⟨(rd_T28 y192 1).f0,(rd_T28 y192 1).f1⟩:S28),(⟨wrap64 (a1+a3),wrap64 (a2+(wrap64 (Int.tdiv a4 2)))⟩:S28),(⟨wrap64 (a1+(wrap64 (Int.tdiv a3 2))),wrap64 (a2+a4)⟩:S28),(⟨(rd_T28 y192 3).f0,(rd_T28 y192 3).f1⟩:S28)]:List (S28))),bt195.2)) else (none)) else (none)) else (none)) else (some (y192,bt195.2))) else (if bt195.1=3 then (if 3<(y192.length:Int) then (if 2<(y192.length:Int) then (if 1<(y192.length:Int) then (if 0<(y192.length:Int) then (some ((([(⟨(rd_T28 y192 3).f0,(rd_T28 y192 3).f1⟩:S28),(⟨(rd_T28 y192 2).f0,(rd_T28 y192 2).f1⟩:S28),(⟨(rd_T28 y192 1).f0,(rd_T28 y192 1).f1⟩:S28),(⟨(rd_T28 y192 0).f0,(rd_T28 y192 0).f1⟩:S28)]:List (S28))),bt195.2)) else (none)) else (none)) else (none)) else (none)) else (if bt195.1=4 then (if a3>2 then (if a4>2 then (if 0<(y192.length:Int) then (if 1<(y192.length:Int) then (if 2<(y192.length:Int) then (if 3<(y192.length:Int) then (some ((([(⟨(rd_T28 y192 0).f0,(rd_T28 y192 0).f1⟩:S28),(⟨wrap64 (a1+(wrap64 (Int.tdiv a3 2))),wrap64 (a2+1)⟩:S28),(⟨(rd_T28 y192 1).f0,(rd_T28 y192 1).f1⟩:S28),(⟨(rd_T28 y192 2).f0,(rd_T28 y192 2).f1⟩:S28),(⟨wrap64 (a1+(wrap64 (Int.tdiv a3 2))),wrap64 ((wrap64 (a2+a4))-1)⟩:S28),(⟨(rd_T28 y192 3).f0,(rd_T28 y192 3).f1⟩:S28)]:List (S28))),bt195.2)) else (none)) else (none)) else (none)) else (none)) else (some (y192,bt195.2))) else (some (y192,bt195.2))) else (some (y192,bt195.2))))))))
def spec_l71Box.T7:Bool × List (List Nat × List Nat):=(true,[([],[]),([0],[0]),([1],[1]),([],[]),([3],[3]),([4],[4]),([],[]),([],[]),([6,7],[6,7]),([],[]),([],[]),([10],[10]),([9,11],[9,11]),([8,12],[8,12]),([],[]),([],[]),([15],[15]),([14,16],[14,16]),([],[]),([],[]),([19],[19]),([18,20],[18,20]),([17,21],[17,21]),([],[]),([],[]),([24],[24]),([23,25],[23,25]),([],[]),([],[]),([27,28],[27,28]),([26,29],[26,29]),([],[]),([31],[31]),([32],[32]),([2,5,13,22,30,33],[2,5,13,22,30,33]),([34,0,1,2,3,4,5,6,7,8,9,10,11,12,13,14,15,16,17,18,19,20,21,22,23,24,25,26,27,28,29,30,31,32,33,34],[34])])
def spec_l71Box.B7:List Nat:=[0,1,3,0,8,24,0,0,192,0,0,1024,3584,8128,0,0,32768,114688,0,0,524288,1835008,4177920,0,0,16777216,58720256,0,0,402653184,1065353216,0,2147483648,6442450944,17179869183,34359738367]
theorem spec_l71Box.tab7:rtab .any (opsOf Tryd.f110 7)=spec_l71Box.T7:=by kernel_rfl
theorem spec_l71Box.bits7:waitsOk spec_l71Box.T7.2 spec_l71Box.B7=true:=by kernel_rfl
def spec_l71Box.T10:Bool × List (List Nat × List Nat):=(true,[([],[]),([0],[0]),([1],[1]),([],[]),([3],[3]),([4],[4]),([],[]),([],[]),([6,7],[6,7]),([],[]),([],[]),([10],[10]),([9,11],[9,11]),([8,12],[8,12]),([],[]),([],[]),([15],[15]),([14,16],[14,16]),([],[]),([],[]),([18,19],[18,19]),([17,20],[17,20]),([],[]),([22],[22]),([23],[23]),([2,5,13,21,24],[2,5,13,21,24]),([25,0,1,2,3,4,5,6,7,8,9,10,11,12,13,14,15,16,17,18,19,20,21,22,23,24,25],[25])])
def spec_l71Box.B10:List Nat:=[0,1,3,0,8,24,0,0,192,0,0,1024,3584,8128,0,0,32768,114688,0,0,786432,2080768,0,4194304,12582912,33554431,67108863]
theorem spec_l71Box.tab10:rtab .any (opsOf Tryd.f110 10)=spec_l71Box.T10:=by kernel_rfl
theorem spec_l71Box.bits10:waitsOk spec_l71Box.T10.2 spec_l71Box.B10=true:=by kernel_rfl
def spec_l71Box.T12:Bool × List (List Nat × List Nat):=(true,[([],[]),([0],[0]),([1],[1]),([],[]),([3],[3]),([4],[4]),([],[]),([6],[6]),([7],[7]),([],[]),([9],[9]),([10],[10]),([2,5,8,11],[2,5,8,11]),([12,0,1,2,3,4,5,6,7,8,9,10,11,12],[12])])
def spec_l71Box.B12:List Nat:=[0,1,3,0,8,24,0,64,192,0,512,1536,4095,8191]
theorem spec_l71Box.tab12:rtab .any (opsOf Tryd.f110 12)=spec_l71Box.T12:=by kernel_rfl
theorem spec_l71Box.bits12:waitsOk spec_l71Box.T12.2 spec_l71Box.B12=true:=by kernel_rfl
def spec_l71Box.T15:Bool × List (List Nat × List Nat):=(true,[([],[]),([0],[0]),([1],[1]),([],[]),([],[]),([4],[4]),([3,5],[3,5]),([],[]),([7],[7]),([6,8],[6,8]),([],[]),([10],[10]),([11],[11]),([],[]),([13],[13]),([14],[14]),([],[]),([],[]),([17],[17]),([16,18],[16,18]),([],[]),([],[]),([20,21],[20,21]),([22],[22]),([19,23],[19,23]),([],[]),([25],[25]),([26],[26]),([2,9,12,15,24,27],[2,9,12,15,24,27]),([28,0,1,2,3,4,5,6,7,8,9,10,11,12,13,14,15,16,17,18,19,20,21,22,23,24,25,26,27,28],[28])])
def spec_l71Box.B15:List Nat:=[0,1,3,0,0,16,56,0,128,504,0,1024,3072,0,8192,24576,0,0,131072,458752,0,0,3145728,7340032,16711680,0,33554432,100663296,268435455,536870911]
theorem spec_l71Box.tab15:rtab .any (opsOf Tryd.f110 15)=spec_l71Box.T15:=by kernel_rfl
theorem spec_l71Box.bits15:waitsOk spec_l71Box.T15.2 spec_l71Box.B15=true:=by kernel_rfl
set_option maxHeartbeats 8000000 in
set_option maxRecDepth 100000 in
theorem spec_l71Box.calls (k:Nat)(g:Nat)(s0_0:List Int)(s0_1:Int)(a1:Int)(a2:Int)(a3:Int)(a4:Int)(r1:List (S28))(r2:Int)(w0 w:World)(hI:IsS123 w0 w g s0_0 s0_1)(hB:Below w0.heap.size w0 w)(h:spec_l71Box.f k s0_0 s0_1 a1 a2 a3 a4=some (r1,r2)):
  Calls Tryd.prog 110 #[.pointer (some ⟨g,0,none⟩),.int .i64 a1,.int .i64 a2,.int .i64 a3,.int .i64 a4] w fun e w'=>∃ v0_:Value,e=.returned (v0_)∧Kd.R k28 28 w' w.heap.size (fun _=>True) v0_ r1∧IsS123 w0 w' g s0_0 r2∧Below w0.heap.size w0 w'∧KeepBut w w' g none:=by
 have hu28:=Tryd.underlying28;have HI0:=Aside0.mk hI;have HK:=a0_ (KeepBut.refl w g none);have HL:=Aside0.mk hB.size;clear hI;have HW0:=Aside0.mk hB.size;have HB:=Aside0.mk hB;clear hB
 have H:((some (([(⟨a1,a2⟩:S28),(⟨wrap64 (a1+a3),a2⟩:S28),(⟨wrap64 (a1+a3),wrap64 (a2+a4)⟩:S28),(⟨a1,wrap64 (a2+a4)⟩:S28)]:List (S28)):List (S28))).bind fun y192=>((spec_l6Rd_pick.f k s0_0 s0_1 7).bind fun bt195=>(if bt195.1=0 then (if 3≤(y192.length:Int) then (some ((y192.take (3:Int).toNat),bt195.2)) else (none)) else (if bt195.1=1 then (if a3>1 then (if a4>1 then (if 0<(y192.length:Int) then (if 1<(y192.length:Int) then (if 3<(y192.length:Int) then (some ((([(⟨(rd_T28 y192 0).f0,(rd_T28 y192 0).f1⟩:S28),(⟨(rd_T28 y192 1).f0,(rd_T28 y192 1).f1⟩:S28),(⟨wrap64 (a1+a3),wrap64 (a2+(wrap64 (Int.tdiv a4 2)))⟩:S28),(⟨wrap64 (a1+(wrap64 (Int.tdiv a3 2))),wrap64 (a2+(wrap64 (Int.tdiv a4 2)))⟩:S28),(⟨wrap64 (a1+(wrap64 (Int.tdiv a3 2))),wrap64 (a2+a4)⟩:S28),(⟨(rd_T28 y192 3).f0,(rd_T28 y192 3).f1⟩:S28)]:List (S28))),bt195.2)) else (none)) else (none)) else (none)) else (some (y192,bt195.2))) else (some (y192,bt195.2))) else (if bt195.1=2 then (if a4>1 then (if 0<(y192.length:Int) then (if 1<(y192.length:Int) then (if 3<(y192.length:Int) then (some ((([(⟨(rd_T28 y192 0).f0,(rd_T28 y192 0).f1⟩:S28),(⟨(rd_T28 y192 1).f0,(rd_T28 y192 1).f1⟩:S28),(⟨wrap64 (a1+a3),wrap64 (a2+(wrap64 (Int.tdiv a4 2)))⟩:S28),(⟨wrap64 (a1+(wrap64 (Int.tdiv a3 2))),wrap64 (a2+a4)⟩:S28),(⟨(rd_T28 y192 3).f0,(rd_T28 y192 3).f1⟩:S28)]:List (S28))),bt195.2)) else (none)) else (none)) else (none)) else (some (y192,bt195.2))) else (if bt195.1=3 then (if 3<(y192.length:Int) then (if 2<(y192.length:Int) then (if 1<(y192.length:Int) then (if 0<(y192.length:Int) then (some ((([(⟨(rd_T28 y192 3).f0,(rd_T28 y192 3).f1⟩:S28),(⟨(rd_T28 y192 2).f0,(rd_T28 y192 2).f1⟩:S28),(⟨(rd_T28 y192 1).f0,(rd_T28 y192 1).f1⟩:S28),(⟨(rd_T28 y192 0).f0,(rd_T28 y192 0).f1⟩:S28)]:List (S28))),bt195.2)) else (none)) else (none)) else (none)) else (none)) else (if bt195.1=4 then (if a3>2 then (if a4>2 then (if 0<(y192.length:Int) then (if 1<(y192.length:Int) then (if 2<(y192.length:Int) then (if 3<(y192.length:Int) then (some ((([(⟨(rd_T28 y192 0).f0,(rd_T28 y192 0).f1⟩:S28),(⟨wrap64 (a1+(wrap64 (Int.tdiv a3 2))),wrap64 (a2+1)⟩:S28),(⟨(rd_T28 y192 1).f0,(rd_T28 y192 1).f1⟩:S28),(⟨(rd_T28 y192 2).f0,(rd_T28 y192 2).f1⟩:S28),(⟨wrap64 (a1+(wrap64 (Int.tdiv a3 2))),wrap64 ((wrap64 (a2+a4))-1)⟩:S28),(⟨(rd_T28 y192 3).f0,(rd_T28 y192 3).f1⟩:S28)]:List (S28))),bt195.2)) else (none)) else (none)) else (none)) else (none)) else (some (y192,bt195.2))) else (some (y192,bt195.2))) else (some (y192,bt195.2)))))))))=some (r1,r2):=h
 clear h;obtain⟨y192,hy192⟩:∃ y_:List (S28),y_=(([(⟨a1,a2⟩:S28),(⟨wrap64 (a1+a3),a2⟩:S28),(⟨wrap64 (a1+a3),wrap64 (a2+a4)⟩:S28),(⟨a1,wrap64 (a2+a4)⟩:S28)]:List (S28))):=⟨_,rfl⟩
 replace H:((spec_l6Rd_pick.f k s0_0 s0_1 7).bind fun bt195=>(if bt195.1=0 then (if 3≤(y192.length:Int) then (some ((y192.take (3:Int).toNat),bt195.2)) else (none)) else (if bt195.1=1 then (if a3>1 then (if a4>1 then (if 0<(y192.length:Int) then (if 1<(y192.length:Int) then (if 3<(y192.length:Int) then (some ((([(⟨(rd_T28 y192 0).f0,(rd_T28 y192 0).f1⟩:S28),(⟨(rd_T28 y192 1).f0,(rd_T28 y192 1).f1⟩:S28),(⟨wrap64 (a1+a3),wrap64 (a2+(wrap64 (Int.tdiv a4 2)))⟩:S28),(⟨wrap64 (a1+(wrap64 (Int.tdiv a3 2))),wrap64 (a2+(wrap64 (Int.tdiv a4 2)))⟩:S28),(⟨wrap64 (a1+(wrap64 (Int.tdiv a3 2))),wrap64 (a2+a4)⟩:S28),(⟨(rd_T28 y192 3).f0,(rd_T28 y192 3).f1⟩:S28)]:List (S28))),bt195.2)) else (none)) else (none)) else (none)) else (some (y192,bt195.2))) else (some (y192,bt195.2))) else (if bt195.1=2 then (if a4>1 then (if 0<(y192.length:Int) then (if 1<(y192.length:Int) then (if 3<(y192.length:Int) then (some ((([(⟨(rd_T28 y192 0).f0,(rd_T28 y192 0).f1⟩:S28),(⟨(rd_T28 y192 1).f0,(rd_T28 y192 1).f1⟩:S28),(⟨wrap64 (a1+a3),wrap64 (a2+(wrap64 (Int.tdiv a4 2)))⟩:S28),(⟨wrap64 (a1+(wrap64 (Int.tdiv a3 2))),wrap64 (a2+a4)⟩:S28),(⟨(rd_T28 y192 3).f0,(rd_T28 y192 3).f1⟩:S28)]:List (S28))),bt195.2)) else (none)) else (none)) else (none)) else (some (y192,bt195.2))) else (if bt195.1=3 then (if 3<(y192.length:Int) then (if 2<(y192.length:Int) then (if 1<(y192.length:Int) then (if 0<(y192.length:Int) then (some ((([(⟨(rd_T28 y192 3).f0,(rd_T28 y192 3).f1⟩:S28),(⟨(rd_T28 y192 2).f0,(rd_T28 y192 2).f1⟩:S28),(⟨(rd_T28 y192 1).f0,(rd_T28 y192 1).f1⟩:S28),(⟨(rd_T28 y192 0).f0,(rd_T28 y192 0).f1⟩:S28)]:List (S28))),bt195.2)) else (none)) else (none)) else (none)) else (none)) else (if bt195.1=4 then (if a3>2 then (if a4>2 then (if 0<(y192.length:Int) then (if 1<(y192.length:Int) then (if 2<(y192.length:Int) then (if 3<(y192.length:Int) then (some ((([(⟨(rd_T28 y192 0).f0,(rd_T28 y192 0).f1⟩:S28),(⟨wrap64 (a1+(wrap64 (Int.tdiv a3 2))),wrap64 (a2+1)⟩:S28),(⟨(rd_T28 y192 1).f0,(rd_T28 y192 1).f1⟩:S28),(⟨(rd_T28 y192 2).f0,(rd_T28 y192 2).f1⟩:S28),(⟨wrap64 (a1+(wrap64 (Int.tdiv a3 2))),wrap64 ((wrap64 (a2+a4))-1)⟩:S28),(⟨(rd_T28 y192 3).f0,(rd_T28 y192 3).f1⟩:S28)]:List (S28))),bt195.2)) else (none)) else (none)) else (none)) else (none)) else (some (y192,bt195.2))) else (some (y192,bt195.2))) else (some (y192,bt195.2))))))))=some (r1,r2):=by first | (rw [hy192];with_reducible exact H) | (have H2_:=(Option.bind_some _ _).symm.trans H;rw [hy192];with_reducible exact H2_) | (have H2_:=(Option.bind_some _ _).symm.trans H;with_reducible exact H2_) | with_reducible exact H | (rw [hy192];exact H) | exact H
 have Ny192:=Aside0.mk hy192;clear hy192;replace H:=Option.bind_eq_some_iff.mp H;obtain⟨⟨t195,t196⟩,A60,H⟩:=H
 (try dsimp only at H)
 have A6:=Aside0.mk A60;clear A60;by_cases c7:t195=0
 ·
  rw [if_pos c7] at H;have c7b0:(t195==0)=true:=beq_iff_eq.mpr c7;have c7b1:(t195 != 0)=false:=bne_eq_false_iff_eq.mpr c7;clear c7;by_cases c8:3≤(y192.length:Int)
  ·
   rw [if_pos c8] at H;have c8b0:=eq_true c8;have c8b1:decide (3≤(y192.length:Int))=true:=decide_eq_true c8;clear c8;obtain⟨y197,hy197⟩:∃ y_:List (S28),y_=(y192.take (3:Int).toNat):=⟨_,rfl⟩;replace H:(some (y197,t196))=some (r1,r2):=by first | (rw [hy197];with_reducible exact H) | (have H2_:=(Option.bind_some _ _).symm.trans H;rw [hy197];with_reducible exact H2_) | (have H2_:=(Option.bind_some _ _).symm.trans H;with_reducible exact H2_) | with_reducible exact H | (rw [hy197];exact H) | exact H
   have Ny197:=Aside0.mk hy197;clear hy197;simp only [Option.some.injEq,Prod.mk.injEq] at H;obtain⟨rfl,rfl⟩:=H;go_enter Tryd.func110,Tryd.ntmps110
   go_wp2_with (first | ((with_reducible refine gate_dst (N:=32) rfl ?_);refine Kd.R_lit k28 _ 28 ?hg (N:=32) ?hd (xs:=([(⟨a1,a2⟩:S28),(⟨wrap64 (a1+a3),a2⟩:S28),(⟨wrap64 (a1+a3),wrap64 (a2+a4)⟩:S28),(⟨a1,wrap64 (a2+a4)⟩:S28)]:List (S28))) (inner:=[.int .i64 a1,.int .i64 a2,.int .i64 (wrap64 (a1+a3)),.int .i64 a2,.int .i64 (wrap64 (a1+a3)),.int .i64 (wrap64 (a2+a4)),.int .i64 a1,.int .i64 (wrap64 (a2+a4))]) (ok:=fun _=>True) (okp:=fun _=>True) ?hr ?hp (fun _ hk=>hk) trivial (Below.refl _ _) (Nat.le_refl _) (by simp) ?_;(case hd=>rfl);(case hg=>rfl);(case hr=>first | (go_simp;done) | (go_simp;rfl));(case hp=>exact (Reps.c2 (show Kd.M k28 _ _ _ (⟨a1,a2⟩:S28) [.int .i64 a1,.int .i64 a2] from (k28_mkM _ _ _ (⟨a1,a2⟩:S28) )) (Reps.c2 (show Kd.M k28 _ _ _ (⟨wrap64 (a1+a3),a2⟩:S28) [.int .i64 (wrap64 (a1+a3)),.int .i64 a2] from (k28_mkM _ _ _ (⟨wrap64 (a1+a3),a2⟩:S28) )) (Reps.c2 (show Kd.M k28 _ _ _ (⟨wrap64 (a1+a3),wrap64 (a2+a4)⟩:S28) [.int .i64 (wrap64 (a1+a3)),.int .i64 (wrap64 (a2+a4))] from (k28_mkM _ _ _ (⟨wrap64 (a1+a3),wrap64 (a2+a4)⟩:S28) )) (Reps.c2 (show Kd.M k28 _ _ _ (⟨a1,wrap64 (a2+a4)⟩:S28) [.int .i64 a1,.int .i64 (wrap64 (a2+a4))] from (k28_mkM _ _ _ (⟨a1,wrap64 (a2+a4)⟩:S28) )) (Reps.none _ _))))));intro v193 w9 ho10 hb hg_ hnew_;clear hg_ hnew_;(first | rw [← Ny192.out] at ho10 | (simp only [Int.reduceToNat] at ho10;rw [← Ny192.out] at ho10));have HO194:=a0_ (Kd.R_lower ho10 (keep_size (w:=w) (g:=g) (row:=none) (hK_ HK)));replace HK:=kb_ HK hb;replace HB:=a0_ (below_step hBs_ hb);replace HI0:=a0_ (IsS123.below hI_ hb);clear hb ho10) | ((with_reducible refine gate_callee (f:=74) rfl ?_);refine gL_ (some 34) Tryd.func74 #[.pointer (some ⟨g,0,none⟩),.int .i64 7] (h:=?_);(with_reducible refine (spec_l6Rd_pick.calls k g s0_0 s0_1 7 t195 t196 w0 _ hI_ hBs_ A6.out).mono ?_);rintro e w11 ⟨rfl,hi,hb,hk⟩;refine⟨_,rfl,?_⟩;replace HO194:=a0_ (Kd.R_mono (Kd.R_keep (IsS123.apart (show IsS123 w0 _ g s0_0 s0_1 from hI_) (uR_ HO194) (by decide)) hk (fun _ h=>h.2)) (fun _ h=>h.1));replace HK:=kk_ HK hk;replace HB:=a0_ (hb);replace HI0:=a0_ (hi);(try clear hi hb hk);obtain⟨Ao12,co12,eo12⟩:=Kd.R_slice HO194.out;subst eo12;have q13:(3:Int)≤((y192.length:Int):Int):=od_;obtain⟨i013,hi013,_,hsz13,_⟩:=info_parts info28;have hcut13:=cut_to (P:=Tryd.prog) 23 28 .i64 Tryd.underlying23 hi013 Ao12 y192.length co12 3 (by omega) q13 (Kd.R_reads' HO194.out).2.1;have hr13:=Kd.R_take (m:=(3:Int).toNat) HO194.out (by omega);have hy13:y197.length=(3:Int).toNat:=(by rw [Ny197.out,List.length_take];omega);rw [← Ny197.out] at hr13;rw [← hy13] at hr13 hcut13;clear hy13 hi013 hsz13 HO194;have HO199:=Aside0.mk hr13;clear hr13;replace q13:=eq_true q13))
   go_ret;exact⟨_,rr_,by (with_reducible repeat (first | apply Kd.R_alloc | apply Kd.R_drewN | apply Kd.R_drew));exact HO199.out,by repeat (first | (with_reducible first | exact HI0.out | apply IsS123.alloc | apply IsS123.drewN | apply IsS123.drew | apply IsS123.set_1) | exact HI0.out),by repeat (first | (with_reducible first | exact HB.out | apply below_alloc | apply pw_below_drewN | apply below_drew1 | refine below_set ?_ (IsS123.ge HI0.out)) | exact HB.out),by repeat (first | (with_reducible first | exact HK.out | apply KeepBut.set_ | apply keep_drewN | apply keep_drew | apply keep_alloc) | exact HK.out)⟩
  ·
   rw [if_neg c8] at H;exact absurd H (by simp)
 ·
  rw [if_neg c7] at H;have c7b0:(t195==0)=false:=beq_eq_false_iff_ne.mpr c7;have c7b1:(t195 != 0)=true:=bne_iff_ne.mpr c7;by_cases c14:t195=1
  ·
   rw [if_pos c14] at H;have c14b0:(t195==1)=true:=beq_iff_eq.mpr c14;have c14b1:(t195 != 1)=false:=bne_eq_false_iff_eq.mpr c14;clear c14;by_cases c15:a3>1
   ·
    rw [if_pos c15] at H;have c15b0:decide (1<a3)=true:=decide_eq_true c15;clear c15;by_cases c16:a4>1
    ·
     rw [if_pos c16] at H;have c16b0:decide (1<a4)=true:=decide_eq_true c16;clear c16;by_cases c17:0<(y192.length:Int)
     ·
      rw [if_pos c17] at H;have c17b0:decide (0<(y192.length:Int))=true:=decide_eq_true c17;have c17b1:decide (0<y192.length)=true:=decide_eq_true (by omega);clear c17;by_cases c18:1<(y192.length:Int)
      ·
       rw [if_pos c18] at H;have c18b0:decide (1<(y192.length:Int))=true:=decide_eq_true c18;have c18b1:decide (1<y192.length)=true:=decide_eq_true (by omega);clear c18;by_cases c19:3<(y192.length:Int)
       ·
        rw [if_pos c19] at H;have c19b0:decide (3<(y192.length:Int))=true:=decide_eq_true c19;have c19b1:decide (3<y192.length)=true:=decide_eq_true (by omega);clear c19;obtain⟨y203,hy203⟩:∃ y_:List (S28),y_=(([(⟨(rd_T28 y192 0).f0,(rd_T28 y192 0).f1⟩:S28),(⟨(rd_T28 y192 1).f0,(rd_T28 y192 1).f1⟩:S28),(⟨wrap64 (a1+a3),wrap64 (a2+(wrap64 (Int.tdiv a4 2)))⟩:S28),(⟨wrap64 (a1+(wrap64 (Int.tdiv a3 2))),wrap64 (a2+(wrap64 (Int.tdiv a4 2)))⟩:S28),(⟨wrap64 (a1+(wrap64 (Int.tdiv a3 2))),wrap64 (a2+a4)⟩:S28),(⟨(rd_T28 y192 3).f0,(rd_T28 y192 3).f1⟩:S28)]:List (S28))):=⟨_,rfl⟩;replace H:(some (y203,t196))=some (r1,r2):=by first | (rw [hy203];with_reducible exact H) | (have H2_:=(Option.bind_some _ _).symm.trans H;rw [hy203];with_reducible exact H2_) | (have H2_:=(Option.bind_some _ _).symm.trans H;with_reducible exact H2_) | with_reducible exact H | (rw [hy203];exact H) | exact H
        have Ny203:=Aside0.mk hy203;clear hy203;simp only [Option.some.injEq,Prod.mk.injEq] at H;obtain⟨rfl,rfl⟩:=H;go_enter Tryd.func110,Tryd.ntmps110
        try go_wp2_with (first | ((with_reducible refine gate_dst (N:=32) rfl ?_);refine Kd.R_lit k28 _ 28 ?hg (N:=32) ?hd (xs:=([(⟨a1,a2⟩:S28),(⟨wrap64 (a1+a3),a2⟩:S28),(⟨wrap64 (a1+a3),wrap64 (a2+a4)⟩:S28),(⟨a1,wrap64 (a2+a4)⟩:S28)]:List (S28))) (inner:=[.int .i64 a1,.int .i64 a2,.int .i64 (wrap64 (a1+a3)),.int .i64 a2,.int .i64 (wrap64 (a1+a3)),.int .i64 (wrap64 (a2+a4)),.int .i64 a1,.int .i64 (wrap64 (a2+a4))]) (ok:=fun _=>True) (okp:=fun _=>True) ?hr ?hp (fun _ hk=>hk) trivial (Below.refl _ _) (Nat.le_refl _) (by simp) ?_;(case hd=>rfl);(case hg=>rfl);(case hr=>first | (go_simp;done) | (go_simp;rfl));(case hp=>exact (Reps.c2 (show Kd.M k28 _ _ _ (⟨a1,a2⟩:S28) [.int .i64 a1,.int .i64 a2] from (k28_mkM _ _ _ (⟨a1,a2⟩:S28) )) (Reps.c2 (show Kd.M k28 _ _ _ (⟨wrap64 (a1+a3),a2⟩:S28) [.int .i64 (wrap64 (a1+a3)),.int .i64 a2] from (k28_mkM _ _ _ (⟨wrap64 (a1+a3),a2⟩:S28) )) (Reps.c2 (show Kd.M k28 _ _ _ (⟨wrap64 (a1+a3),wrap64 (a2+a4)⟩:S28) [.int .i64 (wrap64 (a1+a3)),.int .i64 (wrap64 (a2+a4))] from (k28_mkM _ _ _ (⟨wrap64 (a1+a3),wrap64 (a2+a4)⟩:S28) )) (Reps.c2 (show Kd.M k28 _ _ _ (⟨a1,wrap64 (a2+a4)⟩:S28) [.int .i64 a1,.int .i64 (wrap64 (a2+a4))] from (k28_mkM _ _ _ (⟨a1,wrap64 (a2+a4)⟩:S28) )) (Reps.none _ _))))));intro v193 w20 ho21 hb hg_ hnew_;clear hg_ hnew_;(first | rw [← Ny192.out] at ho21 | (simp only [Int.reduceToNat] at ho21;rw [← Ny192.out] at ho21));have HO194:=a0_ (Kd.R_lower ho21 (keep_size (w:=w) (g:=g) (row:=none) (hK_ HK)));replace HK:=kb_ HK hb;replace HB:=a0_ (below_step hBs_ hb);replace HI0:=a0_ (IsS123.below hI_ hb);clear hb ho21) | ((with_reducible refine gate_callee (f:=74) rfl ?_);refine gL_ (some 34) Tryd.func74 #[.pointer (some ⟨g,0,none⟩),.int .i64 7] (h:=?_);(with_reducible refine (spec_l6Rd_pick.calls k g s0_0 s0_1 7 t195 t196 w0 _ hI_ hBs_ A6.out).mono ?_);rintro e w22 ⟨rfl,hi,hb,hk⟩;refine⟨_,rfl,?_⟩;replace HO194:=a0_ (Kd.R_mono (Kd.R_keep (IsS123.apart (show IsS123 w0 _ g s0_0 s0_1 from hI_) (uR_ HO194) (by decide)) hk (fun _ h=>h.2)) (fun _ h=>h.1));replace HK:=kk_ HK hk;replace HB:=a0_ (hb);replace HI0:=a0_ (hi);(try clear hi hb hk)))
        replace HO194:=a0_ (Kd.R_drew HO194.out);replace HI0:=a0_ (IsS123.drew HI0.out);replace HK:=a0_ (keep_drew HK.out);replace HB:=a0_ (below_drew1 HB.out);obtain⟨Ao24,co24,eo24⟩:=Kd.R_slice HO194.out
        (first | subst eo24 | (injection eo24 with f1_ f2_ f3_;have f4_:=f1_.symm;have f5_:=f3_.symm;clear f1_ f2_ f3_;subst f4_;subst f5_))
        have p200:0≤(0:Int):=(by omega);have q200:0<(y192.length:Int):=od_;obtain⟨ad200,e200,hx200_0,hx200_1⟩:=at_T28 (Kd.R_reads' HO194.out).2.2 0 p200 q200;cases e200;have qi200:(0<y192.length)=True:=eq_true (by omega)
        (try simp only [Int.toNat_zero,Nat.zero_mul,Addr.add_zero'] at hx200_0)
        (try simp only [Int.toNat_zero,Nat.zero_mul,Addr.add_zero'] at hx200_1)
        replace p200:=eq_true p200;replace q200:=eq_true q200;have p201:0≤(1:Int):=(by omega);have q201:1<(y192.length:Int):=od_;obtain⟨ad201,e201,hx201_0,hx201_1⟩:=at_T28 (Kd.R_reads' HO194.out).2.2 1 p201 q201;obtain rfl:ad200=ad201:=(by injection e201)
        (try simp only [show (1:Int).toNat=1 from rfl,Nat.reduceMul,Nat.reduceEqDiff,Go.Addr.add,↓reduceIte] at hx201_0)
        (try simp only [show (1:Int).toNat=1 from rfl,Nat.reduceMul,Nat.reduceEqDiff,Go.Addr.add,↓reduceIte] at hx201_1)
        have qi201:(1<y192.length)=True:=eq_true (by omega)
        (try rw [show ((1:Int)).toNat=1 from rfl] at hx201_0)
        (try rw [show 1*2=2 from rfl] at hx201_0)
        (try rw [show ((1:Int)).toNat=1 from rfl] at hx201_1)
        (try rw [show 1*2=2 from rfl] at hx201_1)
        replace p201:=eq_true p201;replace q201:=eq_true q201;have p202:0≤(3:Int):=(by omega);have q202:3<(y192.length:Int):=od_;obtain⟨ad202,e202,hx202_0,hx202_1⟩:=at_T28 (Kd.R_reads' HO194.out).2.2 3 p202 q202;obtain rfl:ad200=ad202:=(by injection e202)
        (try simp only [show (3:Int).toNat=3 from rfl,Nat.reduceMul,Nat.reduceEqDiff,Go.Addr.add,↓reduceIte] at hx202_0)
        (try simp only [show (3:Int).toNat=3 from rfl,Nat.reduceMul,Nat.reduceEqDiff,Go.Addr.add,↓reduceIte] at hx202_1)
        have qi202:(3<y192.length)=True:=eq_true (by omega)
        (try rw [show ((3:Int)).toNat=3 from rfl] at hx202_0)
        (try rw [show 3*2=6 from rfl] at hx202_0)
        (try rw [show ((3:Int)).toNat=3 from rfl] at hx202_1)
        (try rw [show 3*2=6 from rfl] at hx202_1)
        replace p202:=eq_true p202;replace q202:=eq_true q202;refine start_ (n:=36) (S:=fun w'=>w'.cell? ad200=some (.int .i64 ((rd_T28 y192 0).f0))∧w'.cell? ⟨ad200.block,ad200.off+1,none⟩=some (.int .i64 ((rd_T28 y192 0).f1))∧w'.cell? ⟨ad200.block,ad200.off+2,none⟩=some (.int .i64 ((rd_T28 y192 1).f0))∧w'.cell? ⟨ad200.block,ad200.off+2+1,none⟩=some (.int .i64 ((rd_T28 y192 1).f1))∧w'.cell? ⟨ad200.block,ad200.off+6,none⟩=some (.int .i64 ((rd_T28 y192 3).f0))∧w'.cell? ⟨ad200.block,ad200.off+6+1,none⟩=some (.int .i64 ((rd_T28 y192 3).f1))) (ds:=[]) (Array.replicate 36 false) (by kernel_rfl) rfl rfl ⟨hx200_0,hx200_1,hx201_0,hx201_1,hx202_0,hx202_1⟩ (fun hHeld=>?_);refine with_tabW spec_l71Box.tab7 spec_l71Box.bits7 (fun HT_ HW_=>?_);generalize w22.drew=w23 at HO194 HI0 HK HB hx200_0 hx200_1 hx201_0 hx201_1 hx202_0 hx202_1 hHeld ⊢
        refine pu_ HT_ 0 47 (bm 36 1) ?_;refine pu_ HT_ 1 48 (bm 36 3) ?_;refine pu_ HT_ 3 50 (bm 36 11) ?_;refine pu_ HT_ 4 51 (bm 36 27) ?_;refine pu_ HT_ 6 53 (bm 36 91) ?_;refine pu_ HT_ 7 54 (bm 36 219) ?_;refine pu_ HT_ 8 55 (bm 36 475) ?_;refine pu_ HT_ 9 56 (bm 36 987) ?_;refine pu_ HT_ 10 57 (bm 36 2011) ?_;refine pu_ HT_ 11 58 (bm 36 4059) ?_;refine pu_ HT_ 12 59 (bm 36 8155) ?_;refine pu_ HT_ 13 60 (bm 36 16347) ?_;refine pu_ HT_ 14 61 (bm 36 32731) ?_;refine pu_ HT_ 15 62 (bm 36 65499) ?_;refine pu_ HT_ 16 63 (bm 36 131035) ?_;refine pu_ HT_ 17 64 (bm 36 262107) ?_;refine pu_ HT_ 18 65 (bm 36 524251) ?_;refine pu_ HT_ 19 66 (bm 36 1048539) ?_;refine pu_ HT_ 20 67 (bm 36 2097115) ?_;refine pu_ HT_ 21 68 (bm 36 4194267) ?_;refine pu_ HT_ 22 69 (bm 36 8388571) ?_;refine pu_ HT_ 23 70 (bm 36 16777179) ?_;refine pu_ HT_ 24 71 (bm 36 33554395) ?_;refine pu_ HT_ 25 72 (bm 36 67108827) ?_;refine pu_ HT_ 26 73 (bm 36 134217691) ?_;refine pu_ HT_ 27 74 (bm 36 268435419) ?_;refine pu_ HT_ 28 75 (bm 36 536870875) ?_;refine pu_ HT_ 29 76 (bm 36 1073741787) ?_;refine pu_ HT_ 30 77 (bm 36 2147483611) ?_;refine pu_ HT_ 31 78 (bm 36 4294967259) ?_;refine pu_ HT_ 32 79 (bm 36 8589934555) ?_;refine ta6_ HT_ HW_ 2 49 (bm 36 8589934559) hHeld ?_;refine ta6_ HT_ HW_ 5 52 (bm 36 8589934591) hHeld ?_;refine ta6_ HT_ HW_ 33 80 (bm 36 17179869183) hHeld ?_;refine one_ (i:=34) (N:=some 81) (bm 36 34359738367) rfl rfl (one_of HT_.out (by kernel_rfl)) (by decide) (fun K hK=>?_)
        refine Kd.R_lit_step k28 _ 28 ?hg (N:=81) ?hd (xs:=([(⟨(rd_T28 y192 0).f0,(rd_T28 y192 0).f1⟩:S28),(⟨(rd_T28 y192 1).f0,(rd_T28 y192 1).f1⟩:S28),(⟨wrap64 (a1+a3),wrap64 (a2+(wrap64 (Int.tdiv a4 2)))⟩:S28),(⟨wrap64 (a1+(wrap64 (Int.tdiv a3 2))),wrap64 (a2+(wrap64 (Int.tdiv a4 2)))⟩:S28),(⟨wrap64 (a1+(wrap64 (Int.tdiv a3 2))),wrap64 (a2+a4)⟩:S28),(⟨(rd_T28 y192 3).f0,(rd_T28 y192 3).f1⟩:S28)]:List (S28))) (inner:=[.int .i64 ((rd_T28 y192 0).f0),.int .i64 ((rd_T28 y192 0).f1),.int .i64 ((rd_T28 y192 1).f0),.int .i64 ((rd_T28 y192 1).f1),.int .i64 (wrap64 (a1+a3)),.int .i64 (wrap64 (a2+(wrap64 (Int.tdiv a4 2)))),.int .i64 (wrap64 (a1+(wrap64 (Int.tdiv a3 2)))),.int .i64 (wrap64 (a2+(wrap64 (Int.tdiv a4 2)))),.int .i64 (wrap64 (a1+(wrap64 (Int.tdiv a3 2)))),.int .i64 (wrap64 (a2+a4)),.int .i64 ((rd_T28 y192 3).f0),.int .i64 ((rd_T28 y192 3).f1)]) (ok:=fun _=>True) (okp:=fun _=>True) ?hr ?hp (fun _ hk=>hk) trivial (Below.refl _ _) (Nat.le_refl _) (by simp) ?_;(case hd=>rfl);(case hg=>rfl);(case hr=>first | (go_simp;done) | (go_simp;rfl));(case hp=>exact (Reps.c2 (show Kd.M k28 _ _ _ (⟨(rd_T28 y192 0).f0,(rd_T28 y192 0).f1⟩:S28) [.int .i64 ((rd_T28 y192 0).f0),.int .i64 ((rd_T28 y192 0).f1)] from (k28_mkM _ _ _ (⟨(rd_T28 y192 0).f0,(rd_T28 y192 0).f1⟩:S28) )) (Reps.c2 (show Kd.M k28 _ _ _ (⟨(rd_T28 y192 1).f0,(rd_T28 y192 1).f1⟩:S28) [.int .i64 ((rd_T28 y192 1).f0),.int .i64 ((rd_T28 y192 1).f1)] from (k28_mkM _ _ _ (⟨(rd_T28 y192 1).f0,(rd_T28 y192 1).f1⟩:S28) )) (Reps.c2 (show Kd.M k28 _ _ _ (⟨wrap64 (a1+a3),wrap64 (a2+(wrap64 (Int.tdiv a4 2)))⟩:S28) [.int .i64 (wrap64 (a1+a3)),.int .i64 (wrap64 (a2+(wrap64 (Int.tdiv a4 2))))] from (k28_mkM _ _ _ (⟨wrap64 (a1+a3),wrap64 (a2+(wrap64 (Int.tdiv a4 2)))⟩:S28) )) (Reps.c2 (show Kd.M k28 _ _ _ (⟨wrap64 (a1+(wrap64 (Int.tdiv a3 2))),wrap64 (a2+(wrap64 (Int.tdiv a4 2)))⟩:S28) [.int .i64 (wrap64 (a1+(wrap64 (Int.tdiv a3 2)))),.int .i64 (wrap64 (a2+(wrap64 (Int.tdiv a4 2))))] from (k28_mkM _ _ _ (⟨wrap64 (a1+(wrap64 (Int.tdiv a3 2))),wrap64 (a2+(wrap64 (Int.tdiv a4 2)))⟩:S28) )) (Reps.c2 (show Kd.M k28 _ _ _ (⟨wrap64 (a1+(wrap64 (Int.tdiv a3 2))),wrap64 (a2+a4)⟩:S28) [.int .i64 (wrap64 (a1+(wrap64 (Int.tdiv a3 2)))),.int .i64 (wrap64 (a2+a4))] from (k28_mkM _ _ _ (⟨wrap64 (a1+(wrap64 (Int.tdiv a3 2))),wrap64 (a2+a4)⟩:S28) )) (Reps.c2 (show Kd.M k28 _ _ _ (⟨(rd_T28 y192 3).f0,(rd_T28 y192 3).f1⟩:S28) [.int .i64 ((rd_T28 y192 3).f0),.int .i64 ((rd_T28 y192 3).f1)] from (k28_mkM _ _ _ (⟨(rd_T28 y192 3).f0,(rd_T28 y192 3).f1⟩:S28) )) (Reps.none _ _))))))))
        intro v204 w25 ho26 hb hg_ hnew_;have HS0_:=pw_cell_below hb hHeld.1;have HS1_:=pw_cell_below hb hHeld.2.1;have HS2_:=pw_cell_below hb hHeld.2.2.1;have HS3_:=pw_cell_below hb hHeld.2.2.2.1;have HS4_:=pw_cell_below hb hHeld.2.2.2.2.1;have HS5_:=pw_cell_below hb hHeld.2.2.2.2.2;clear hg_ hnew_
        (first | rw [← Ny203.out] at ho26 | (simp only [Int.reduceToNat] at ho26;rw [← Ny203.out] at ho26))
        have HO205:=a0_ (Kd.R_lower (Kd.R_new' ho26 (Kd.R_lt (uR_ HO194))) (keep_size (w:=w) (g:=g) (row:=none) (hK_ HK)));replace HO194:=a0_ (Kd.R_elder' (uR_ HO194) (Kd.R_base ho26) hb);replace HK:=kb_ HK hb;replace HB:=a0_ (below_step hBs_ hb);replace HI0:=a0_ (IsS123.below hI_ hb);clear hb ho26;refine hK.out _ _ ⟨HS0_,HS1_,HS2_,HS3_,HS4_,HS5_⟩ (fun hHeld=>?_);clear hK K;refine no_ (h:=?_);refine pu_ HT_ 35 10 (bm 36 68719476735) ?_;refine done_ (done_of HT_.out (by kernel_rfl)) ?_
        try go_wp2
        go_ret;exact⟨_,rr_,by (with_reducible repeat (first | apply Kd.R_alloc | apply Kd.R_drewN | apply Kd.R_drew));exact Kd.R_mono HO205.out (fun _ hk=>trivial),by repeat (first | (with_reducible first | exact HI0.out | apply IsS123.alloc | apply IsS123.drewN | apply IsS123.drew | apply IsS123.set_1) | exact HI0.out),by repeat (first | (with_reducible first | exact HB.out | apply below_alloc | apply pw_below_drewN | apply below_drew1 | refine below_set ?_ (IsS123.ge HI0.out)) | exact HB.out),by repeat (first | (with_reducible first | exact HK.out | apply KeepBut.set_ | apply keep_drewN | apply keep_drew | apply keep_alloc) | exact HK.out)⟩
       ·
        rw [if_neg c19] at H;exact absurd H (by simp)
      ·
       rw [if_neg c18] at H;exact absurd H (by simp)
     ·
      rw [if_neg c17] at H;exact absurd H (by simp)
    ·
     rw [if_neg c16] at H;have c16b0:decide (1<a4)=false:=decide_eq_false c16;clear c16;simp only [Option.some.injEq,Prod.mk.injEq] at H;obtain⟨rfl,rfl⟩:=H;go_enter Tryd.func110,Tryd.ntmps110
     go_wp2_with (first | ((with_reducible refine gate_dst (N:=32) rfl ?_);refine Kd.R_lit k28 _ 28 ?hg (N:=32) ?hd (xs:=([(⟨a1,a2⟩:S28),(⟨wrap64 (a1+a3),a2⟩:S28),(⟨wrap64 (a1+a3),wrap64 (a2+a4)⟩:S28),(⟨a1,wrap64 (a2+a4)⟩:S28)]:List (S28))) (inner:=[.int .i64 a1,.int .i64 a2,.int .i64 (wrap64 (a1+a3)),.int .i64 a2,.int .i64 (wrap64 (a1+a3)),.int .i64 (wrap64 (a2+a4)),.int .i64 a1,.int .i64 (wrap64 (a2+a4))]) (ok:=fun _=>True) (okp:=fun _=>True) ?hr ?hp (fun _ hk=>hk) trivial (Below.refl _ _) (Nat.le_refl _) (by simp) ?_;(case hd=>rfl);(case hg=>rfl);(case hr=>first | (go_simp;done) | (go_simp;rfl));(case hp=>exact (Reps.c2 (show Kd.M k28 _ _ _ (⟨a1,a2⟩:S28) [.int .i64 a1,.int .i64 a2] from (k28_mkM _ _ _ (⟨a1,a2⟩:S28) )) (Reps.c2 (show Kd.M k28 _ _ _ (⟨wrap64 (a1+a3),a2⟩:S28) [.int .i64 (wrap64 (a1+a3)),.int .i64 a2] from (k28_mkM _ _ _ (⟨wrap64 (a1+a3),a2⟩:S28) )) (Reps.c2 (show Kd.M k28 _ _ _ (⟨wrap64 (a1+a3),wrap64 (a2+a4)⟩:S28) [.int .i64 (wrap64 (a1+a3)),.int .i64 (wrap64 (a2+a4))] from (k28_mkM _ _ _ (⟨wrap64 (a1+a3),wrap64 (a2+a4)⟩:S28) )) (Reps.c2 (show Kd.M k28 _ _ _ (⟨a1,wrap64 (a2+a4)⟩:S28) [.int .i64 a1,.int .i64 (wrap64 (a2+a4))] from (k28_mkM _ _ _ (⟨a1,wrap64 (a2+a4)⟩:S28) )) (Reps.none _ _))))));intro v193 w27 ho28 hb hg_ hnew_;clear hg_ hnew_;(first | rw [← Ny192.out] at ho28 | (simp only [Int.reduceToNat] at ho28;rw [← Ny192.out] at ho28));have HO194:=a0_ (Kd.R_lower ho28 (keep_size (w:=w) (g:=g) (row:=none) (hK_ HK)));replace HK:=kb_ HK hb;replace HB:=a0_ (below_step hBs_ hb);replace HI0:=a0_ (IsS123.below hI_ hb);clear hb ho28) | ((with_reducible refine gate_callee (f:=74) rfl ?_);refine gL_ (some 34) Tryd.func74 #[.pointer (some ⟨g,0,none⟩),.int .i64 7] (h:=?_);(with_reducible refine (spec_l6Rd_pick.calls k g s0_0 s0_1 7 t195 t196 w0 _ hI_ hBs_ A6.out).mono ?_);rintro e w29 ⟨rfl,hi,hb,hk⟩;refine⟨_,rfl,?_⟩;replace HO194:=a0_ (Kd.R_mono (Kd.R_keep (IsS123.apart (show IsS123 w0 _ g s0_0 s0_1 from hI_) (uR_ HO194) (by decide)) hk (fun _ h=>h.2)) (fun _ h=>h.1));replace HK:=kk_ HK hk;replace HB:=a0_ (hb);replace HI0:=a0_ (hi);(try clear hi hb hk)))
     go_ret;exact⟨_,rr_,by (with_reducible repeat (first | apply Kd.R_alloc | apply Kd.R_drewN | apply Kd.R_drew));exact HO194.out,by repeat (first | (with_reducible first | exact HI0.out | apply IsS123.alloc | apply IsS123.drewN | apply IsS123.drew | apply IsS123.set_1) | exact HI0.out),by repeat (first | (with_reducible first | exact HB.out | apply below_alloc | apply pw_below_drewN | apply below_drew1 | refine below_set ?_ (IsS123.ge HI0.out)) | exact HB.out),by repeat (first | (with_reducible first | exact HK.out | apply KeepBut.set_ | apply keep_drewN | apply keep_drew | apply keep_alloc) | exact HK.out)⟩
   ·
    rw [if_neg c15] at H;have c15b0:decide (1<a3)=false:=decide_eq_false c15;clear c15;simp only [Option.some.injEq,Prod.mk.injEq] at H;obtain⟨rfl,rfl⟩:=H;go_enter Tryd.func110,Tryd.ntmps110
    go_wp2_with (first | ((with_reducible refine gate_dst (N:=32) rfl ?_);refine Kd.R_lit k28 _ 28 ?hg (N:=32) ?hd (xs:=([(⟨a1,a2⟩:S28),(⟨wrap64 (a1+a3),a2⟩:S28),(⟨wrap64 (a1+a3),wrap64 (a2+a4)⟩:S28),(⟨a1,wrap64 (a2+a4)⟩:S28)]:List (S28))) (inner:=[.int .i64 a1,.int .i64 a2,.int .i64 (wrap64 (a1+a3)),.int .i64 a2,.int .i64 (wrap64 (a1+a3)),.int .i64 (wrap64 (a2+a4)),.int .i64 a1,.int .i64 (wrap64 (a2+a4))]) (ok:=fun _=>True) (okp:=fun _=>True) ?hr ?hp (fun _ hk=>hk) trivial (Below.refl _ _) (Nat.le_refl _) (by simp) ?_;(case hd=>rfl);(case hg=>rfl);(case hr=>first | (go_simp;done) | (go_simp;rfl));(case hp=>exact (Reps.c2 (show Kd.M k28 _ _ _ (⟨a1,a2⟩:S28) [.int .i64 a1,.int .i64 a2] from (k28_mkM _ _ _ (⟨a1,a2⟩:S28) )) (Reps.c2 (show Kd.M k28 _ _ _ (⟨wrap64 (a1+a3),a2⟩:S28) [.int .i64 (wrap64 (a1+a3)),.int .i64 a2] from (k28_mkM _ _ _ (⟨wrap64 (a1+a3),a2⟩:S28) )) (Reps.c2 (show Kd.M k28 _ _ _ (⟨wrap64 (a1+a3),wrap64 (a2+a4)⟩:S28) [.int .i64 (wrap64 (a1+a3)),.int .i64 (wrap64 (a2+a4))] from (k28_mkM _ _ _ (⟨wrap64 (a1+a3),wrap64 (a2+a4)⟩:S28) )) (Reps.c2 (show Kd.M k28 _ _ _ (⟨a1,wrap64 (a2+a4)⟩:S28) [.int .i64 a1,.int .i64 (wrap64 (a2+a4))] from (k28_mkM _ _ _ (⟨a1,wrap64 (a2+a4)⟩:S28) )) (Reps.none _ _))))));intro v193 w30 ho31 hb hg_ hnew_;clear hg_ hnew_;(first | rw [← Ny192.out] at ho31 | (simp only [Int.reduceToNat] at ho31;rw [← Ny192.out] at ho31));have HO194:=a0_ (Kd.R_lower ho31 (keep_size (w:=w) (g:=g) (row:=none) (hK_ HK)));replace HK:=kb_ HK hb;replace HB:=a0_ (below_step hBs_ hb);replace HI0:=a0_ (IsS123.below hI_ hb);clear hb ho31) | ((with_reducible refine gate_callee (f:=74) rfl ?_);refine gL_ (some 34) Tryd.func74 #[.pointer (some ⟨g,0,none⟩),.int .i64 7] (h:=?_);(with_reducible refine (spec_l6Rd_pick.calls k g s0_0 s0_1 7 t195 t196 w0 _ hI_ hBs_ A6.out).mono ?_);rintro e w32 ⟨rfl,hi,hb,hk⟩;refine⟨_,rfl,?_⟩;replace HO194:=a0_ (Kd.R_mono (Kd.R_keep (IsS123.apart (show IsS123 w0 _ g s0_0 s0_1 from hI_) (uR_ HO194) (by decide)) hk (fun _ h=>h.2)) (fun _ h=>h.1));replace HK:=kk_ HK hk;replace HB:=a0_ (hb);replace HI0:=a0_ (hi);(try clear hi hb hk)))
    go_ret;exact⟨_,rr_,by (with_reducible repeat (first | apply Kd.R_alloc | apply Kd.R_drewN | apply Kd.R_drew));exact HO194.out,by repeat (first | (with_reducible first | exact HI0.out | apply IsS123.alloc | apply IsS123.drewN | apply IsS123.drew | apply IsS123.set_1) | exact HI0.out),by repeat (first | (with_reducible first | exact HB.out | apply below_alloc | apply pw_below_drewN | apply below_drew1 | refine below_set ?_ (IsS123.ge HI0.out)) | exact HB.out),by repeat (first | (with_reducible first | exact HK.out | apply KeepBut.set_ | apply keep_drewN | apply keep_drew | apply keep_alloc) | exact HK.out)⟩
  ·
   rw [if_neg c14] at H;have c14b0:(t195==1)=false:=beq_eq_false_iff_ne.mpr c14;have c14b1:(t195 != 1)=true:=bne_iff_ne.mpr c14;by_cases c33:t195=2
   ·
    rw [if_pos c33] at H;have c33b0:(t195==2)=true:=beq_iff_eq.mpr c33;have c33b1:(t195 != 2)=false:=bne_eq_false_iff_eq.mpr c33;clear c33;by_cases c34:a4>1
    ·
     rw [if_pos c34] at H;have c34b0:decide (1<a4)=true:=decide_eq_true c34;clear c34;by_cases c35:0<(y192.length:Int)
     ·
      rw [if_pos c35] at H;have c35b0:decide (0<(y192.length:Int))=true:=decide_eq_true c35;have c35b1:decide (0<y192.length)=true:=decide_eq_true (by omega);clear c35;by_cases c36:1<(y192.length:Int)
      ·
       rw [if_pos c36] at H;have c36b0:decide (1<(y192.length:Int))=true:=decide_eq_true c36;have c36b1:decide (1<y192.length)=true:=decide_eq_true (by omega);clear c36;by_cases c37:3<(y192.length:Int)
       ·
        rw [if_pos c37] at H;have c37b0:decide (3<(y192.length:Int))=true:=decide_eq_true c37;have c37b1:decide (3<y192.length)=true:=decide_eq_true (by omega);clear c37;obtain⟨y209,hy209⟩:∃ y_:List (S28),y_=(([(⟨(rd_T28 y192 0).f0,(rd_T28 y192 0).f1⟩:S28),(⟨(rd_T28 y192 1).f0,(rd_T28 y192 1).f1⟩:S28),(⟨wrap64 (a1+a3),wrap64 (a2+(wrap64 (Int.tdiv a4 2)))⟩:S28),(⟨wrap64 (a1+(wrap64 (Int.tdiv a3 2))),wrap64 (a2+a4)⟩:S28),(⟨(rd_T28 y192 3).f0,(rd_T28 y192 3).f1⟩:S28)]:List (S28))):=⟨_,rfl⟩;replace H:(some (y209,t196))=some (r1,r2):=by first | (rw [hy209];with_reducible exact H) | (have H2_:=(Option.bind_some _ _).symm.trans H;rw [hy209];with_reducible exact H2_) | (have H2_:=(Option.bind_some _ _).symm.trans H;with_reducible exact H2_) | with_reducible exact H | (rw [hy209];exact H) | exact H
        have Ny209:=Aside0.mk hy209;clear hy209;simp only [Option.some.injEq,Prod.mk.injEq] at H;obtain⟨rfl,rfl⟩:=H;go_enter Tryd.func110,Tryd.ntmps110
        try go_wp2_with (first | ((with_reducible refine gate_dst (N:=32) rfl ?_);refine Kd.R_lit k28 _ 28 ?hg (N:=32) ?hd (xs:=([(⟨a1,a2⟩:S28),(⟨wrap64 (a1+a3),a2⟩:S28),(⟨wrap64 (a1+a3),wrap64 (a2+a4)⟩:S28),(⟨a1,wrap64 (a2+a4)⟩:S28)]:List (S28))) (inner:=[.int .i64 a1,.int .i64 a2,.int .i64 (wrap64 (a1+a3)),.int .i64 a2,.int .i64 (wrap64 (a1+a3)),.int .i64 (wrap64 (a2+a4)),.int .i64 a1,.int .i64 (wrap64 (a2+a4))]) (ok:=fun _=>True) (okp:=fun _=>True) ?hr ?hp (fun _ hk=>hk) trivial (Below.refl _ _) (Nat.le_refl _) (by simp) ?_;(case hd=>rfl);(case hg=>rfl);(case hr=>first | (go_simp;done) | (go_simp;rfl));(case hp=>exact (Reps.c2 (show Kd.M k28 _ _ _ (⟨a1,a2⟩:S28) [.int .i64 a1,.int .i64 a2] from (k28_mkM _ _ _ (⟨a1,a2⟩:S28) )) (Reps.c2 (show Kd.M k28 _ _ _ (⟨wrap64 (a1+a3),a2⟩:S28) [.int .i64 (wrap64 (a1+a3)),.int .i64 a2] from (k28_mkM _ _ _ (⟨wrap64 (a1+a3),a2⟩:S28) )) (Reps.c2 (show Kd.M k28 _ _ _ (⟨wrap64 (a1+a3),wrap64 (a2+a4)⟩:S28) [.int .i64 (wrap64 (a1+a3)),.int .i64 (wrap64 (a2+a4))] from (k28_mkM _ _ _ (⟨wrap64 (a1+a3),wrap64 (a2+a4)⟩:S28) )) (Reps.c2 (show Kd.M k28 _ _ _ (⟨a1,wrap64 (a2+a4)⟩:S28) [.int .i64 a1,.int .i64 (wrap64 (a2+a4))] from (k28_mkM _ _ _ (⟨a1,wrap64 (a2+a4)⟩:S28) )) (Reps.none _ _))))));intro v193 w38 ho39 hb hg_ hnew_;clear hg_ hnew_;(first | rw [← Ny192.out] at ho39 | (simp only [Int.reduceToNat] at ho39;rw [← Ny192.out] at ho39));have HO194:=a0_ (Kd.R_lower ho39 (keep_size (w:=w) (g:=g) (row:=none) (hK_ HK)));replace HK:=kb_ HK hb;replace HB:=a0_ (below_step hBs_ hb);replace HI0:=a0_ (IsS123.below hI_ hb);clear hb ho39) | ((with_reducible refine gate_callee (f:=74) rfl ?_);refine gL_ (some 34) Tryd.func74 #[.pointer (some ⟨g,0,none⟩),.int .i64 7] (h:=?_);(with_reducible refine (spec_l6Rd_pick.calls k g s0_0 s0_1 7 t195 t196 w0 _ hI_ hBs_ A6.out).mono ?_);rintro e w40 ⟨rfl,hi,hb,hk⟩;refine⟨_,rfl,?_⟩;replace HO194:=a0_ (Kd.R_mono (Kd.R_keep (IsS123.apart (show IsS123 w0 _ g s0_0 s0_1 from hI_) (uR_ HO194) (by decide)) hk (fun _ h=>h.2)) (fun _ h=>h.1));replace HK:=kk_ HK hk;replace HB:=a0_ (hb);replace HI0:=a0_ (hi);(try clear hi hb hk)))
        replace HO194:=a0_ (Kd.R_drew HO194.out);replace HI0:=a0_ (IsS123.drew HI0.out);replace HK:=a0_ (keep_drew HK.out);replace HB:=a0_ (below_drew1 HB.out);obtain⟨Ao42,co42,eo42⟩:=Kd.R_slice HO194.out
        (first | subst eo42 | (injection eo42 with f1_ f2_ f3_;have f4_:=f1_.symm;have f5_:=f3_.symm;clear f1_ f2_ f3_;subst f4_;subst f5_))
        have p206:0≤(0:Int):=(by omega);have q206:0<(y192.length:Int):=od_;obtain⟨ad206,e206,hx206_0,hx206_1⟩:=at_T28 (Kd.R_reads' HO194.out).2.2 0 p206 q206;cases e206;have qi206:(0<y192.length)=True:=eq_true (by omega)
        (try simp only [Int.toNat_zero,Nat.zero_mul,Addr.add_zero'] at hx206_0)
        (try simp only [Int.toNat_zero,Nat.zero_mul,Addr.add_zero'] at hx206_1)
        replace p206:=eq_true p206;replace q206:=eq_true q206;have p207:0≤(1:Int):=(by omega);have q207:1<(y192.length:Int):=od_;obtain⟨ad207,e207,hx207_0,hx207_1⟩:=at_T28 (Kd.R_reads' HO194.out).2.2 1 p207 q207;obtain rfl:ad206=ad207:=(by injection e207)
        (try simp only [show (1:Int).toNat=1 from rfl,Nat.reduceMul,Nat.reduceEqDiff,Go.Addr.add,↓reduceIte] at hx207_0)
        (try simp only [show (1:Int).toNat=1 from rfl,Nat.reduceMul,Nat.reduceEqDiff,Go.Addr.add,↓reduceIte] at hx207_1)
        have qi207:(1<y192.length)=True:=eq_true (by omega)
        (try rw [show ((1:Int)).toNat=1 from rfl] at hx207_0)
        (try rw [show 1*2=2 from rfl] at hx207_0)
        (try rw [show ((1:Int)).toNat=1 from rfl] at hx207_1)
        (try rw [show 1*2=2 from rfl] at hx207_1)
        replace p207:=eq_true p207;replace q207:=eq_true q207;have p208:0≤(3:Int):=(by omega);have q208:3<(y192.length:Int):=od_;obtain⟨ad208,e208,hx208_0,hx208_1⟩:=at_T28 (Kd.R_reads' HO194.out).2.2 3 p208 q208;obtain rfl:ad206=ad208:=(by injection e208)
        (try simp only [show (3:Int).toNat=3 from rfl,Nat.reduceMul,Nat.reduceEqDiff,Go.Addr.add,↓reduceIte] at hx208_0)
        (try simp only [show (3:Int).toNat=3 from rfl,Nat.reduceMul,Nat.reduceEqDiff,Go.Addr.add,↓reduceIte] at hx208_1)
        have qi208:(3<y192.length)=True:=eq_true (by omega)
        (try rw [show ((3:Int)).toNat=3 from rfl] at hx208_0)
        (try rw [show 3*2=6 from rfl] at hx208_0)
        (try rw [show ((3:Int)).toNat=3 from rfl] at hx208_1)
        (try rw [show 3*2=6 from rfl] at hx208_1)
        replace p208:=eq_true p208;replace q208:=eq_true q208;refine start_ (n:=27) (S:=fun w'=>w'.cell? ad206=some (.int .i64 ((rd_T28 y192 0).f0))∧w'.cell? ⟨ad206.block,ad206.off+1,none⟩=some (.int .i64 ((rd_T28 y192 0).f1))∧w'.cell? ⟨ad206.block,ad206.off+2,none⟩=some (.int .i64 ((rd_T28 y192 1).f0))∧w'.cell? ⟨ad206.block,ad206.off+2+1,none⟩=some (.int .i64 ((rd_T28 y192 1).f1))∧w'.cell? ⟨ad206.block,ad206.off+6,none⟩=some (.int .i64 ((rd_T28 y192 3).f0))∧w'.cell? ⟨ad206.block,ad206.off+6+1,none⟩=some (.int .i64 ((rd_T28 y192 3).f1))) (ds:=[]) (Array.replicate 27 false) (by kernel_rfl) rfl rfl ⟨hx206_0,hx206_1,hx207_0,hx207_1,hx208_0,hx208_1⟩ (fun hHeld=>?_);refine with_tabW spec_l71Box.tab10 spec_l71Box.bits10 (fun HT_ HW_=>?_);generalize w40.drew=w41 at HO194 HI0 HK HB hx206_0 hx206_1 hx207_0 hx207_1 hx208_0 hx208_1 hHeld ⊢
        refine pu_ HT_ 0 86 (bm 27 1) ?_;refine pu_ HT_ 1 87 (bm 27 3) ?_;refine pu_ HT_ 3 89 (bm 27 11) ?_;refine pu_ HT_ 4 90 (bm 27 27) ?_;refine pu_ HT_ 6 92 (bm 27 91) ?_;refine pu_ HT_ 7 93 (bm 27 219) ?_;refine pu_ HT_ 8 94 (bm 27 475) ?_;refine pu_ HT_ 9 95 (bm 27 987) ?_;refine pu_ HT_ 10 96 (bm 27 2011) ?_;refine pu_ HT_ 11 97 (bm 27 4059) ?_;refine pu_ HT_ 12 98 (bm 27 8155) ?_;refine pu_ HT_ 13 99 (bm 27 16347) ?_;refine pu_ HT_ 14 100 (bm 27 32731) ?_;refine pu_ HT_ 15 101 (bm 27 65499) ?_;refine pu_ HT_ 16 102 (bm 27 131035) ?_;refine pu_ HT_ 17 103 (bm 27 262107) ?_;refine pu_ HT_ 18 104 (bm 27 524251) ?_;refine pu_ HT_ 19 105 (bm 27 1048539) ?_;refine pu_ HT_ 20 106 (bm 27 2097115) ?_;refine pu_ HT_ 21 107 (bm 27 4194267) ?_;refine pu_ HT_ 22 108 (bm 27 8388571) ?_;refine pu_ HT_ 23 109 (bm 27 16777179) ?_;refine ta6_ HT_ HW_ 2 88 (bm 27 16777183) hHeld ?_;refine ta6_ HT_ HW_ 5 91 (bm 27 16777215) hHeld ?_;refine ta6_ HT_ HW_ 24 110 (bm 27 33554431) hHeld ?_;refine one_ (i:=25) (N:=some 111) (bm 27 67108863) rfl rfl (one_of HT_.out (by kernel_rfl)) (by decide) (fun K hK=>?_)
        refine Kd.R_lit_step k28 _ 28 ?hg (N:=111) ?hd (xs:=([(⟨(rd_T28 y192 0).f0,(rd_T28 y192 0).f1⟩:S28),(⟨(rd_T28 y192 1).f0,(rd_T28 y192 1).f1⟩:S28),(⟨wrap64 (a1+a3),wrap64 (a2+(wrap64 (Int.tdiv a4 2)))⟩:S28),(⟨wrap64 (a1+(wrap64 (Int.tdiv a3 2))),wrap64 (a2+a4)⟩:S28),(⟨(rd_T28 y192 3).f0,(rd_T28 y192 3).f1⟩:S28)]:List (S28))) (inner:=[.int .i64 ((rd_T28 y192 0).f0),.int .i64 ((rd_T28 y192 0).f1),.int .i64 ((rd_T28 y192 1).f0),.int .i64 ((rd_T28 y192 1).f1),.int .i64 (wrap64 (a1+a3)),.int .i64 (wrap64 (a2+(wrap64 (Int.tdiv a4 2)))),.int .i64 (wrap64 (a1+(wrap64 (Int.tdiv a3 2)))),.int .i64 (wrap64 (a2+a4)),.int .i64 ((rd_T28 y192 3).f0),.int .i64 ((rd_T28 y192 3).f1)]) (ok:=fun _=>True) (okp:=fun _=>True) ?hr ?hp (fun _ hk=>hk) trivial (Below.refl _ _) (Nat.le_refl _) (by simp) ?_;(case hd=>rfl);(case hg=>rfl);(case hr=>first | (go_simp;done) | (go_simp;rfl));(case hp=>exact (Reps.c2 (show Kd.M k28 _ _ _ (⟨(rd_T28 y192 0).f0,(rd_T28 y192 0).f1⟩:S28) [.int .i64 ((rd_T28 y192 0).f0),.int .i64 ((rd_T28 y192 0).f1)] from (k28_mkM _ _ _ (⟨(rd_T28 y192 0).f0,(rd_T28 y192 0).f1⟩:S28) )) (Reps.c2 (show Kd.M k28 _ _ _ (⟨(rd_T28 y192 1).f0,(rd_T28 y192 1).f1⟩:S28) [.int .i64 ((rd_T28 y192 1).f0),.int .i64 ((rd_T28 y192 1).f1)] from (k28_mkM _ _ _ (⟨(rd_T28 y192 1).f0,(rd_T28 y192 1).f1⟩:S28) )) (Reps.c2 (show Kd.M k28 _ _ _ (⟨wrap64 (a1+a3),wrap64 (a2+(wrap64 (Int.tdiv a4 2)))⟩:S28) [.int .i64 (wrap64 (a1+a3)),.int .i64 (wrap64 (a2+(wrap64 (Int.tdiv a4 2))))] from (k28_mkM _ _ _ (⟨wrap64 (a1+a3),wrap64 (a2+(wrap64 (Int.tdiv a4 2)))⟩:S28) )) (Reps.c2 (show Kd.M k28 _ _ _ (⟨wrap64 (a1+(wrap64 (Int.tdiv a3 2))),wrap64 (a2+a4)⟩:S28) [.int .i64 (wrap64 (a1+(wrap64 (Int.tdiv a3 2)))),.int .i64 (wrap64 (a2+a4))] from (k28_mkM _ _ _ (⟨wrap64 (a1+(wrap64 (Int.tdiv a3 2))),wrap64 (a2+a4)⟩:S28) )) (Reps.c2 (show Kd.M k28 _ _ _ (⟨(rd_T28 y192 3).f0,(rd_T28 y192 3).f1⟩:S28) [.int .i64 ((rd_T28 y192 3).f0),.int .i64 ((rd_T28 y192 3).f1)] from (k28_mkM _ _ _ (⟨(rd_T28 y192 3).f0,(rd_T28 y192 3).f1⟩:S28) )) (Reps.none _ _)))))))
        intro v210 w43 ho44 hb hg_ hnew_;have HS0_:=pw_cell_below hb hHeld.1;have HS1_:=pw_cell_below hb hHeld.2.1;have HS2_:=pw_cell_below hb hHeld.2.2.1;have HS3_:=pw_cell_below hb hHeld.2.2.2.1;have HS4_:=pw_cell_below hb hHeld.2.2.2.2.1;have HS5_:=pw_cell_below hb hHeld.2.2.2.2.2;clear hg_ hnew_
        (first | rw [← Ny209.out] at ho44 | (simp only [Int.reduceToNat] at ho44;rw [← Ny209.out] at ho44))
        have HO211:=a0_ (Kd.R_lower (Kd.R_new' ho44 (Kd.R_lt (uR_ HO194))) (keep_size (w:=w) (g:=g) (row:=none) (hK_ HK)));replace HO194:=a0_ (Kd.R_elder' (uR_ HO194) (Kd.R_base ho44) hb);replace HK:=kb_ HK hb;replace HB:=a0_ (below_step hBs_ hb);replace HI0:=a0_ (IsS123.below hI_ hb);clear hb ho44;refine hK.out _ _ ⟨HS0_,HS1_,HS2_,HS3_,HS4_,HS5_⟩ (fun hHeld=>?_);clear hK K;refine no_ (h:=?_);refine pu_ HT_ 26 10 (bm 27 134217727) ?_;refine done_ (done_of HT_.out (by kernel_rfl)) ?_
        try go_wp2
        go_ret;exact⟨_,rr_,by (with_reducible repeat (first | apply Kd.R_alloc | apply Kd.R_drewN | apply Kd.R_drew));exact Kd.R_mono HO211.out (fun _ hk=>trivial),by repeat (first | (with_reducible first | exact HI0.out | apply IsS123.alloc | apply IsS123.drewN | apply IsS123.drew | apply IsS123.set_1) | exact HI0.out),by repeat (first | (with_reducible first | exact HB.out | apply below_alloc | apply pw_below_drewN | apply below_drew1 | refine below_set ?_ (IsS123.ge HI0.out)) | exact HB.out),by repeat (first | (with_reducible first | exact HK.out | apply KeepBut.set_ | apply keep_drewN | apply keep_drew | apply keep_alloc) | exact HK.out)⟩
       ·
        rw [if_neg c37] at H;exact absurd H (by simp)
      ·
       rw [if_neg c36] at H;exact absurd H (by simp)
     ·
      rw [if_neg c35] at H;exact absurd H (by simp)
    ·
     rw [if_neg c34] at H;have c34b0:decide (1<a4)=false:=decide_eq_false c34;clear c34;simp only [Option.some.injEq,Prod.mk.injEq] at H;obtain⟨rfl,rfl⟩:=H;go_enter Tryd.func110,Tryd.ntmps110
     go_wp2_with (first | ((with_reducible refine gate_dst (N:=32) rfl ?_);refine Kd.R_lit k28 _ 28 ?hg (N:=32) ?hd (xs:=([(⟨a1,a2⟩:S28),(⟨wrap64 (a1+a3),a2⟩:S28),(⟨wrap64 (a1+a3),wrap64 (a2+a4)⟩:S28),(⟨a1,wrap64 (a2+a4)⟩:S28)]:List (S28))) (inner:=[.int .i64 a1,.int .i64 a2,.int .i64 (wrap64 (a1+a3)),.int .i64 a2,.int .i64 (wrap64 (a1+a3)),.int .i64 (wrap64 (a2+a4)),.int .i64 a1,.int .i64 (wrap64 (a2+a4))]) (ok:=fun _=>True) (okp:=fun _=>True) ?hr ?hp (fun _ hk=>hk) trivial (Below.refl _ _) (Nat.le_refl _) (by simp) ?_;(case hd=>rfl);(case hg=>rfl);(case hr=>first | (go_simp;done) | (go_simp;rfl));(case hp=>exact (Reps.c2 (show Kd.M k28 _ _ _ (⟨a1,a2⟩:S28) [.int .i64 a1,.int .i64 a2] from (k28_mkM _ _ _ (⟨a1,a2⟩:S28) )) (Reps.c2 (show Kd.M k28 _ _ _ (⟨wrap64 (a1+a3),a2⟩:S28) [.int .i64 (wrap64 (a1+a3)),.int .i64 a2] from (k28_mkM _ _ _ (⟨wrap64 (a1+a3),a2⟩:S28) )) (Reps.c2 (show Kd.M k28 _ _ _ (⟨wrap64 (a1+a3),wrap64 (a2+a4)⟩:S28) [.int .i64 (wrap64 (a1+a3)),.int .i64 (wrap64 (a2+a4))] from (k28_mkM _ _ _ (⟨wrap64 (a1+a3),wrap64 (a2+a4)⟩:S28) )) (Reps.c2 (show Kd.M k28 _ _ _ (⟨a1,wrap64 (a2+a4)⟩:S28) [.int .i64 a1,.int .i64 (wrap64 (a2+a4))] from (k28_mkM _ _ _ (⟨a1,wrap64 (a2+a4)⟩:S28) )) (Reps.none _ _))))));intro v193 w45 ho46 hb hg_ hnew_;clear hg_ hnew_;(first | rw [← Ny192.out] at ho46 | (simp only [Int.reduceToNat] at ho46;rw [← Ny192.out] at ho46));have HO194:=a0_ (Kd.R_lower ho46 (keep_size (w:=w) (g:=g) (row:=none) (hK_ HK)));replace HK:=kb_ HK hb;replace HB:=a0_ (below_step hBs_ hb);replace HI0:=a0_ (IsS123.below hI_ hb);clear hb ho46) | ((with_reducible refine gate_callee (f:=74) rfl ?_);refine gL_ (some 34) Tryd.func74 #[.pointer (some ⟨g,0,none⟩),.int .i64 7] (h:=?_);(with_reducible refine (spec_l6Rd_pick.calls k g s0_0 s0_1 7 t195 t196 w0 _ hI_ hBs_ A6.out).mono ?_);rintro e w47 ⟨rfl,hi,hb,hk⟩;refine⟨_,rfl,?_⟩;replace HO194:=a0_ (Kd.R_mono (Kd.R_keep (IsS123.apart (show IsS123 w0 _ g s0_0 s0_1 from hI_) (uR_ HO194) (by decide)) hk (fun _ h=>h.2)) (fun _ h=>h.1));replace HK:=kk_ HK hk;replace HB:=a0_ (hb);replace HI0:=a0_ (hi);(try clear hi hb hk)))
     go_ret;exact⟨_,rr_,by (with_reducible repeat (first | apply Kd.R_alloc | apply Kd.R_drewN | apply Kd.R_drew));exact HO194.out,by repeat (first | (with_reducible first | exact HI0.out | apply IsS123.alloc | apply IsS123.drewN | apply IsS123.drew | apply IsS123.set_1) | exact HI0.out),by repeat (first | (with_reducible first | exact HB.out | apply below_alloc | apply pw_below_drewN | apply below_drew1 | refine below_set ?_ (IsS123.ge HI0.out)) | exact HB.out),by repeat (first | (with_reducible first | exact HK.out | apply KeepBut.set_ | apply keep_drewN | apply keep_drew | apply keep_alloc) | exact HK.out)⟩
   ·
    rw [if_neg c33] at H;have c33b0:(t195==2)=false:=beq_eq_false_iff_ne.mpr c33;have c33b1:(t195 != 2)=true:=bne_iff_ne.mpr c33;by_cases c48:t195=3
    ·
     rw [if_pos c48] at H;have c48b0:(t195==3)=true:=beq_iff_eq.mpr c48;have c48b1:(t195 != 3)=false:=bne_eq_false_iff_eq.mpr c48;clear c48;by_cases c49:3<(y192.length:Int)
     ·
      rw [if_pos c49] at H;have c49b0:decide (3<(y192.length:Int))=true:=decide_eq_true c49;have c49b1:decide (3<y192.length)=true:=decide_eq_true (by omega);clear c49;by_cases c50:2<(y192.length:Int)
      ·
       rw [if_pos c50] at H;have c50b0:decide (2<(y192.length:Int))=true:=decide_eq_true c50;have c50b1:decide (2<y192.length)=true:=decide_eq_true (by omega);clear c50;by_cases c51:1<(y192.length:Int)
       ·
        rw [if_pos c51] at H;have c51b0:decide (1<(y192.length:Int))=true:=decide_eq_true c51;have c51b1:decide (1<y192.length)=true:=decide_eq_true (by omega);clear c51;by_cases c52:0<(y192.length:Int)
        ·
         rw [if_pos c52] at H;have c52b0:decide (0<(y192.length:Int))=true:=decide_eq_true c52;have c52b1:decide (0<y192.length)=true:=decide_eq_true (by omega);clear c52;obtain⟨y216,hy216⟩:∃ y_:List (S28),y_=(([(⟨(rd_T28 y192 3).f0,(rd_T28 y192 3).f1⟩:S28),(⟨(rd_T28 y192 2).f0,(rd_T28 y192 2).f1⟩:S28),(⟨(rd_T28 y192 1).f0,(rd_T28 y192 1).f1⟩:S28),(⟨(rd_T28 y192 0).f0,(rd_T28 y192 0).f1⟩:S28)]:List (S28))):=⟨_,rfl⟩;replace H:(some (y216,t196))=some (r1,r2):=by first | (rw [hy216];with_reducible exact H) | (have H2_:=(Option.bind_some _ _).symm.trans H;rw [hy216];with_reducible exact H2_) | (have H2_:=(Option.bind_some _ _).symm.trans H;with_reducible exact H2_) | with_reducible exact H | (rw [hy216];exact H) | exact H
         have Ny216:=Aside0.mk hy216;clear hy216;simp only [Option.some.injEq,Prod.mk.injEq] at H;obtain⟨rfl,rfl⟩:=H;go_enter Tryd.func110,Tryd.ntmps110
         try go_wp2_with (first | ((with_reducible refine gate_dst (N:=32) rfl ?_);refine Kd.R_lit k28 _ 28 ?hg (N:=32) ?hd (xs:=([(⟨a1,a2⟩:S28),(⟨wrap64 (a1+a3),a2⟩:S28),(⟨wrap64 (a1+a3),wrap64 (a2+a4)⟩:S28),(⟨a1,wrap64 (a2+a4)⟩:S28)]:List (S28))) (inner:=[.int .i64 a1,.int .i64 a2,.int .i64 (wrap64 (a1+a3)),.int .i64 a2,.int .i64 (wrap64 (a1+a3)),.int .i64 (wrap64 (a2+a4)),.int .i64 a1,.int .i64 (wrap64 (a2+a4))]) (ok:=fun _=>True) (okp:=fun _=>True) ?hr ?hp (fun _ hk=>hk) trivial (Below.refl _ _) (Nat.le_refl _) (by simp) ?_;(case hd=>rfl);(case hg=>rfl);(case hr=>first | (go_simp;done) | (go_simp;rfl));(case hp=>exact (Reps.c2 (show Kd.M k28 _ _ _ (⟨a1,a2⟩:S28) [.int .i64 a1,.int .i64 a2] from (k28_mkM _ _ _ (⟨a1,a2⟩:S28) )) (Reps.c2 (show Kd.M k28 _ _ _ (⟨wrap64 (a1+a3),a2⟩:S28) [.int .i64 (wrap64 (a1+a3)),.int .i64 a2] from (k28_mkM _ _ _ (⟨wrap64 (a1+a3),a2⟩:S28) )) (Reps.c2 (show Kd.M k28 _ _ _ (⟨wrap64 (a1+a3),wrap64 (a2+a4)⟩:S28) [.int .i64 (wrap64 (a1+a3)),.int .i64 (wrap64 (a2+a4))] from (k28_mkM _ _ _ (⟨wrap64 (a1+a3),wrap64 (a2+a4)⟩:S28) )) (Reps.c2 (show Kd.M k28 _ _ _ (⟨a1,wrap64 (a2+a4)⟩:S28) [.int .i64 a1,.int .i64 (wrap64 (a2+a4))] from (k28_mkM _ _ _ (⟨a1,wrap64 (a2+a4)⟩:S28) )) (Reps.none _ _))))));intro v193 w53 ho54 hb hg_ hnew_;clear hg_ hnew_;(first | rw [← Ny192.out] at ho54 | (simp only [Int.reduceToNat] at ho54;rw [← Ny192.out] at ho54));have HO194:=a0_ (Kd.R_lower ho54 (keep_size (w:=w) (g:=g) (row:=none) (hK_ HK)));replace HK:=kb_ HK hb;replace HB:=a0_ (below_step hBs_ hb);replace HI0:=a0_ (IsS123.below hI_ hb);clear hb ho54) | ((with_reducible refine gate_callee (f:=74) rfl ?_);refine gL_ (some 34) Tryd.func74 #[.pointer (some ⟨g,0,none⟩),.int .i64 7] (h:=?_);(with_reducible refine (spec_l6Rd_pick.calls k g s0_0 s0_1 7 t195 t196 w0 _ hI_ hBs_ A6.out).mono ?_);rintro e w55 ⟨rfl,hi,hb,hk⟩;refine⟨_,rfl,?_⟩;replace HO194:=a0_ (Kd.R_mono (Kd.R_keep (IsS123.apart (show IsS123 w0 _ g s0_0 s0_1 from hI_) (uR_ HO194) (by decide)) hk (fun _ h=>h.2)) (fun _ h=>h.1));replace HK:=kk_ HK hk;replace HB:=a0_ (hb);replace HI0:=a0_ (hi);(try clear hi hb hk)))
         replace HO194:=a0_ (Kd.R_drew HO194.out);replace HI0:=a0_ (IsS123.drew HI0.out);replace HK:=a0_ (keep_drew HK.out);replace HB:=a0_ (below_drew1 HB.out);obtain⟨Ao57,co57,eo57⟩:=Kd.R_slice HO194.out
         (first | subst eo57 | (injection eo57 with f1_ f2_ f3_;have f4_:=f1_.symm;have f5_:=f3_.symm;clear f1_ f2_ f3_;subst f4_;subst f5_))
         have p212:0≤(3:Int):=(by omega);have q212:3<(y192.length:Int):=od_;obtain⟨ad212,e212,hx212_0,hx212_1⟩:=at_T28 (Kd.R_reads' HO194.out).2.2 3 p212 q212;cases e212
         (try simp only [show (3:Int).toNat=3 from rfl,Nat.reduceMul,Nat.reduceEqDiff,Go.Addr.add,↓reduceIte] at hx212_0)
         (try simp only [show (3:Int).toNat=3 from rfl,Nat.reduceMul,Nat.reduceEqDiff,Go.Addr.add,↓reduceIte] at hx212_1)
         have qi212:(3<y192.length)=True:=eq_true (by omega)
         (try rw [show ((3:Int)).toNat=3 from rfl] at hx212_0)
         (try rw [show 3*2=6 from rfl] at hx212_0)
         (try rw [show ((3:Int)).toNat=3 from rfl] at hx212_1)
         (try rw [show 3*2=6 from rfl] at hx212_1)
         replace p212:=eq_true p212;replace q212:=eq_true q212;have p213:0≤(2:Int):=(by omega);have q213:2<(y192.length:Int):=od_;obtain⟨ad213,e213,hx213_0,hx213_1⟩:=at_T28 (Kd.R_reads' HO194.out).2.2 2 p213 q213;obtain rfl:ad212=ad213:=(by injection e213)
         (try simp only [show (2:Int).toNat=2 from rfl,Nat.reduceMul,Nat.reduceEqDiff,Go.Addr.add,↓reduceIte] at hx213_0)
         (try simp only [show (2:Int).toNat=2 from rfl,Nat.reduceMul,Nat.reduceEqDiff,Go.Addr.add,↓reduceIte] at hx213_1)
         have qi213:(2<y192.length)=True:=eq_true (by omega)
         (try rw [show ((2:Int)).toNat=2 from rfl] at hx213_0)
         (try rw [show 2*2=4 from rfl] at hx213_0)
         (try rw [show ((2:Int)).toNat=2 from rfl] at hx213_1)
         (try rw [show 2*2=4 from rfl] at hx213_1)
         replace p213:=eq_true p213;replace q213:=eq_true q213;have p214:0≤(1:Int):=(by omega);have q214:1<(y192.length:Int):=od_;obtain⟨ad214,e214,hx214_0,hx214_1⟩:=at_T28 (Kd.R_reads' HO194.out).2.2 1 p214 q214;obtain rfl:ad212=ad214:=(by injection e214)
         (try simp only [show (1:Int).toNat=1 from rfl,Nat.reduceMul,Nat.reduceEqDiff,Go.Addr.add,↓reduceIte] at hx214_0)
         (try simp only [show (1:Int).toNat=1 from rfl,Nat.reduceMul,Nat.reduceEqDiff,Go.Addr.add,↓reduceIte] at hx214_1)
         have qi214:(1<y192.length)=True:=eq_true (by omega)
         (try rw [show ((1:Int)).toNat=1 from rfl] at hx214_0)
         (try rw [show 1*2=2 from rfl] at hx214_0)
         (try rw [show ((1:Int)).toNat=1 from rfl] at hx214_1)
         (try rw [show 1*2=2 from rfl] at hx214_1)
         replace p214:=eq_true p214;replace q214:=eq_true q214;have p215:0≤(0:Int):=(by omega);have q215:0<(y192.length:Int):=od_;obtain⟨ad215,e215,hx215_0,hx215_1⟩:=at_T28 (Kd.R_reads' HO194.out).2.2 0 p215 q215;obtain rfl:ad212=ad215:=(by injection e215);have qi215:(0<y192.length)=True:=eq_true (by omega)
         (try simp only [Int.toNat_zero,Nat.zero_mul,Addr.add_zero'] at hx215_0)
         (try simp only [Int.toNat_zero,Nat.zero_mul,Addr.add_zero'] at hx215_1)
         replace p215:=eq_true p215;replace q215:=eq_true q215;refine start_ (n:=14) (S:=fun w'=>w'.cell? ⟨ad212.block,ad212.off+6,none⟩=some (.int .i64 ((rd_T28 y192 3).f0))∧w'.cell? ⟨ad212.block,ad212.off+6+1,none⟩=some (.int .i64 ((rd_T28 y192 3).f1))∧w'.cell? ⟨ad212.block,ad212.off+4,none⟩=some (.int .i64 ((rd_T28 y192 2).f0))∧w'.cell? ⟨ad212.block,ad212.off+4+1,none⟩=some (.int .i64 ((rd_T28 y192 2).f1))∧w'.cell? ⟨ad212.block,ad212.off+2,none⟩=some (.int .i64 ((rd_T28 y192 1).f0))∧w'.cell? ⟨ad212.block,ad212.off+2+1,none⟩=some (.int .i64 ((rd_T28 y192 1).f1))∧w'.cell? ad212=some (.int .i64 ((rd_T28 y192 0).f0))∧w'.cell? ⟨ad212.block,ad212.off+1,none⟩=some (.int .i64 ((rd_T28 y192 0).f1))) (ds:=[]) (Array.replicate 14 false) (by kernel_rfl) rfl rfl ⟨hx212_0,hx212_1,hx213_0,hx213_1,hx214_0,hx214_1,hx215_0,hx215_1⟩ (fun hHeld=>?_);refine with_tabW spec_l71Box.tab12 spec_l71Box.bits12 (fun HT_ HW_=>?_);generalize w55.drew=w56 at HO194 HI0 HK HB hx212_0 hx212_1 hx213_0 hx213_1 hx214_0 hx214_1 hx215_0 hx215_1 hHeld ⊢
         refine pu_ HT_ 0 114 (bm 14 1) ?_;refine pu_ HT_ 1 115 (bm 14 3) ?_;refine pu_ HT_ 3 117 (bm 14 11) ?_;refine pu_ HT_ 4 118 (bm 14 27) ?_;refine pu_ HT_ 6 120 (bm 14 91) ?_;refine pu_ HT_ 7 121 (bm 14 219) ?_;refine pu_ HT_ 9 123 (bm 14 731) ?_;refine pu_ HT_ 10 124 (bm 14 1755) ?_;refine ta8_ HT_ HW_ 2 116 (bm 14 1759) hHeld ?_;refine ta8_ HT_ HW_ 5 119 (bm 14 1791) hHeld ?_;refine ta8_ HT_ HW_ 8 122 (bm 14 2047) hHeld ?_;refine ta8_ HT_ HW_ 11 125 (bm 14 4095) hHeld ?_;refine one_ (i:=12) (N:=some 126) (bm 14 8191) rfl rfl (one_of HT_.out (by kernel_rfl)) (by decide) (fun K hK=>?_)
         refine Kd.R_lit_step k28 _ 28 ?hg (N:=126) ?hd (xs:=([(⟨(rd_T28 y192 3).f0,(rd_T28 y192 3).f1⟩:S28),(⟨(rd_T28 y192 2).f0,(rd_T28 y192 2).f1⟩:S28),(⟨(rd_T28 y192 1).f0,(rd_T28 y192 1).f1⟩:S28),(⟨(rd_T28 y192 0).f0,(rd_T28 y192 0).f1⟩:S28)]:List (S28))) (inner:=[.int .i64 ((rd_T28 y192 3).f0),.int .i64 ((rd_T28 y192 3).f1),.int .i64 ((rd_T28 y192 2).f0),.int .i64 ((rd_T28 y192 2).f1),.int .i64 ((rd_T28 y192 1).f0),.int .i64 ((rd_T28 y192 1).f1),.int .i64 ((rd_T28 y192 0).f0),.int .i64 ((rd_T28 y192 0).f1)]) (ok:=fun _=>True) (okp:=fun _=>True) ?hr ?hp (fun _ hk=>hk) trivial (Below.refl _ _) (Nat.le_refl _) (by simp) ?_;(case hd=>rfl);(case hg=>rfl);(case hr=>first | (go_simp;done) | (go_simp;rfl));(case hp=>exact (Reps.c2 (show Kd.M k28 _ _ _ (⟨(rd_T28 y192 3).f0,(rd_T28 y192 3).f1⟩:S28) [.int .i64 ((rd_T28 y192 3).f0),.int .i64 ((rd_T28 y192 3).f1)] from (k28_mkM _ _ _ (⟨(rd_T28 y192 3).f0,(rd_T28 y192 3).f1⟩:S28) )) (Reps.c2 (show Kd.M k28 _ _ _ (⟨(rd_T28 y192 2).f0,(rd_T28 y192 2).f1⟩:S28) [.int .i64 ((rd_T28 y192 2).f0),.int .i64 ((rd_T28 y192 2).f1)] from (k28_mkM _ _ _ (⟨(rd_T28 y192 2).f0,(rd_T28 y192 2).f1⟩:S28) )) (Reps.c2 (show Kd.M k28 _ _ _ (⟨(rd_T28 y192 1).f0,(rd_T28 y192 1).f1⟩:S28) [.int .i64 ((rd_T28 y192 1).f0),.int .i64 ((rd_T28 y192 1).f1)] from (k28_mkM _ _ _ (⟨(rd_T28 y192 1).f0,(rd_T28 y192 1).f1⟩:S28) )) (Reps.c2 (show Kd.M k28 _ _ _ (⟨(rd_T28 y192 0).f0,(rd_T28 y192 0).f1⟩:S28) [.int .i64 ((rd_T28 y192 0).f0),.int .i64 ((rd_T28 y192 0).f1)] from (k28_mkM _ _ _ (⟨(rd_T28 y192 0).f0,(rd_T28 y192 0).f1⟩:S28) )) (Reps.none _ _))))));intro v217 w58 ho59 hb hg_ hnew_;have HS0_:=pw_cell_below hb hHeld.1;have HS1_:=pw_cell_below hb hHeld.2.1;have HS2_:=pw_cell_below hb hHeld.2.2.1;have HS3_:=pw_cell_below hb hHeld.2.2.2.1;have HS4_:=pw_cell_below hb hHeld.2.2.2.2.1;have HS5_:=pw_cell_below hb hHeld.2.2.2.2.2.1
         have HS6_:=pw_cell_below hb hHeld.2.2.2.2.2.2.1;have HS7_:=pw_cell_below hb hHeld.2.2.2.2.2.2.2;clear hg_ hnew_
         (first | rw [← Ny216.out] at ho59 | (simp only [Int.reduceToNat] at ho59;rw [← Ny216.out] at ho59))
         have HO218:=a0_ (Kd.R_lower (Kd.R_new' ho59 (Kd.R_lt (uR_ HO194))) (keep_size (w:=w) (g:=g) (row:=none) (hK_ HK)));replace HO194:=a0_ (Kd.R_elder' (uR_ HO194) (Kd.R_base ho59) hb);replace HK:=kb_ HK hb;replace HB:=a0_ (below_step hBs_ hb);replace HI0:=a0_ (IsS123.below hI_ hb);clear hb ho59;refine hK.out _ _ ⟨HS0_,HS1_,HS2_,HS3_,HS4_,HS5_,HS6_,HS7_⟩ (fun hHeld=>?_);clear hK K;refine no_ (h:=?_);refine pu_ HT_ 13 10 (bm 14 16383) ?_;refine done_ (done_of HT_.out (by kernel_rfl)) ?_
         try go_wp2
         go_ret;exact⟨_,rr_,by (with_reducible repeat (first | apply Kd.R_alloc | apply Kd.R_drewN | apply Kd.R_drew));exact Kd.R_mono HO218.out (fun _ hk=>trivial),by repeat (first | (with_reducible first | exact HI0.out | apply IsS123.alloc | apply IsS123.drewN | apply IsS123.drew | apply IsS123.set_1) | exact HI0.out),by repeat (first | (with_reducible first | exact HB.out | apply below_alloc | apply pw_below_drewN | apply below_drew1 | refine below_set ?_ (IsS123.ge HI0.out)) | exact HB.out),by repeat (first | (with_reducible first | exact HK.out | apply KeepBut.set_ | apply keep_drewN | apply keep_drew | apply keep_alloc) | exact HK.out)⟩
        ·
         rw [if_neg c52] at H;exact absurd H (by simp)
       ·
        rw [if_neg c51] at H;exact absurd H (by simp)
      ·
       rw [if_neg c50] at H;exact absurd H (by simp)
     ·
      rw [if_neg c49] at H;exact absurd H (by simp)
    ·
     rw [if_neg c48] at H;have c48b0:(t195==3)=false:=beq_eq_false_iff_ne.mpr c48;have c48b1:(t195 != 3)=true:=bne_iff_ne.mpr c48;by_cases c60:t195=4
     ·
      rw [if_pos c60] at H;have c60b0:(t195==4)=true:=beq_iff_eq.mpr c60;have c60b1:(t195 != 4)=false:=bne_eq_false_iff_eq.mpr c60;clear c60;by_cases c61:a3>2
      ·
       rw [if_pos c61] at H;have c61b0:decide (2<a3)=true:=decide_eq_true c61;clear c61;by_cases c62:a4>2
       ·
        rw [if_pos c62] at H;have c62b0:decide (2<a4)=true:=decide_eq_true c62;clear c62;by_cases c63:0<(y192.length:Int)
        ·
         rw [if_pos c63] at H;have c63b0:decide (0<(y192.length:Int))=true:=decide_eq_true c63;have c63b1:decide (0<y192.length)=true:=decide_eq_true (by omega);clear c63;by_cases c64:1<(y192.length:Int)
         ·
          rw [if_pos c64] at H;have c64b0:decide (1<(y192.length:Int))=true:=decide_eq_true c64;have c64b1:decide (1<y192.length)=true:=decide_eq_true (by omega);clear c64;by_cases c65:2<(y192.length:Int)
          ·
           rw [if_pos c65] at H;have c65b0:decide (2<(y192.length:Int))=true:=decide_eq_true c65;have c65b1:decide (2<y192.length)=true:=decide_eq_true (by omega);clear c65;by_cases c66:3<(y192.length:Int)
           ·
            rw [if_pos c66] at H;have c66b0:decide (3<(y192.length:Int))=true:=decide_eq_true c66;have c66b1:decide (3<y192.length)=true:=decide_eq_true (by omega);clear c66;obtain⟨y223,hy223⟩:∃ y_:List (S28),y_=(([(⟨(rd_T28 y192 0).f0,(rd_T28 y192 0).f1⟩:S28),(⟨wrap64 (a1+(wrap64 (Int.tdiv a3 2))),wrap64 (a2+1)⟩:S28),(⟨(rd_T28 y192 1).f0,(rd_T28 y192 1).f1⟩:S28),(⟨(rd_T28 y192 2).f0,(rd_T28 y192 2).f1⟩:S28),(⟨wrap64 (a1+(wrap64 (Int.tdiv a3 2))),wrap64 ((wrap64 (a2+a4))-1)⟩:S28),(⟨(rd_T28 y192 3).f0,(rd_T28 y192 3).f1⟩:S28)]:List (S28))):=⟨_,rfl⟩;replace H:(some (y223,t196))=some (r1,r2):=by first | (rw [hy223];with_reducible exact H) | (have H2_:=(Option.bind_some _ _).symm.trans H;rw [hy223];with_reducible exact H2_) | (have H2_:=(Option.bind_some _ _).symm.trans H;with_reducible exact H2_) | with_reducible exact H | (rw [hy223];exact H) | exact H
            have Ny223:=Aside0.mk hy223;clear hy223;simp only [Option.some.injEq,Prod.mk.injEq] at H;obtain⟨rfl,rfl⟩:=H;go_enter Tryd.func110,Tryd.ntmps110
            try go_wp2_with (first | ((with_reducible refine gate_dst (N:=32) rfl ?_);refine Kd.R_lit k28 _ 28 ?hg (N:=32) ?hd (xs:=([(⟨a1,a2⟩:S28),(⟨wrap64 (a1+a3),a2⟩:S28),(⟨wrap64 (a1+a3),wrap64 (a2+a4)⟩:S28),(⟨a1,wrap64 (a2+a4)⟩:S28)]:List (S28))) (inner:=[.int .i64 a1,.int .i64 a2,.int .i64 (wrap64 (a1+a3)),.int .i64 a2,.int .i64 (wrap64 (a1+a3)),.int .i64 (wrap64 (a2+a4)),.int .i64 a1,.int .i64 (wrap64 (a2+a4))]) (ok:=fun _=>True) (okp:=fun _=>True) ?hr ?hp (fun _ hk=>hk) trivial (Below.refl _ _) (Nat.le_refl _) (by simp) ?_;(case hd=>rfl);(case hg=>rfl);(case hr=>first | (go_simp;done) | (go_simp;rfl));(case hp=>exact (Reps.c2 (show Kd.M k28 _ _ _ (⟨a1,a2⟩:S28) [.int .i64 a1,.int .i64 a2] from (k28_mkM _ _ _ (⟨a1,a2⟩:S28) )) (Reps.c2 (show Kd.M k28 _ _ _ (⟨wrap64 (a1+a3),a2⟩:S28) [.int .i64 (wrap64 (a1+a3)),.int .i64 a2] from (k28_mkM _ _ _ (⟨wrap64 (a1+a3),a2⟩:S28) )) (Reps.c2 (show Kd.M k28 _ _ _ (⟨wrap64 (a1+a3),wrap64 (a2+a4)⟩:S28) [.int .i64 (wrap64 (a1+a3)),.int .i64 (wrap64 (a2+a4))] from (k28_mkM _ _ _ (⟨wrap64 (a1+a3),wrap64 (a2+a4)⟩:S28) )) (Reps.c2 (show Kd.M k28 _ _ _ (⟨a1,wrap64 (a2+a4)⟩:S28) [.int .i64 a1,.int .i64 (wrap64 (a2+a4))] from (k28_mkM _ _ _ (⟨a1,wrap64 (a2+a4)⟩:S28) )) (Reps.none _ _))))));intro v193 w67 ho68 hb hg_ hnew_;clear hg_ hnew_;(first | rw [← Ny192.out] at ho68 | (simp only [Int.reduceToNat] at ho68;rw [← Ny192.out] at ho68));have HO194:=a0_ (Kd.R_lower ho68 (keep_size (w:=w) (g:=g) (row:=none) (hK_ HK)));replace HK:=kb_ HK hb;replace HB:=a0_ (below_step hBs_ hb);replace HI0:=a0_ (IsS123.below hI_ hb);clear hb ho68) | ((with_reducible refine gate_callee (f:=74) rfl ?_);refine gL_ (some 34) Tryd.func74 #[.pointer (some ⟨g,0,none⟩),.int .i64 7] (h:=?_);(with_reducible refine (spec_l6Rd_pick.calls k g s0_0 s0_1 7 t195 t196 w0 _ hI_ hBs_ A6.out).mono ?_);rintro e w69 ⟨rfl,hi,hb,hk⟩;refine⟨_,rfl,?_⟩;replace HO194:=a0_ (Kd.R_mono (Kd.R_keep (IsS123.apart (show IsS123 w0 _ g s0_0 s0_1 from hI_) (uR_ HO194) (by decide)) hk (fun _ h=>h.2)) (fun _ h=>h.1));replace HK:=kk_ HK hk;replace HB:=a0_ (hb);replace HI0:=a0_ (hi);(try clear hi hb hk)))
            replace HO194:=a0_ (Kd.R_drew HO194.out);replace HI0:=a0_ (IsS123.drew HI0.out);replace HK:=a0_ (keep_drew HK.out);replace HB:=a0_ (below_drew1 HB.out);obtain⟨Ao71,co71,eo71⟩:=Kd.R_slice HO194.out
            (first | subst eo71 | (injection eo71 with f1_ f2_ f3_;have f4_:=f1_.symm;have f5_:=f3_.symm;clear f1_ f2_ f3_;subst f4_;subst f5_))
            have p219:0≤(0:Int):=(by omega);have q219:0<(y192.length:Int):=od_;obtain⟨ad219,e219,hx219_0,hx219_1⟩:=at_T28 (Kd.R_reads' HO194.out).2.2 0 p219 q219;cases e219;have qi219:(0<y192.length)=True:=eq_true (by omega)
            (try simp only [Int.toNat_zero,Nat.zero_mul,Addr.add_zero'] at hx219_0)
            (try simp only [Int.toNat_zero,Nat.zero_mul,Addr.add_zero'] at hx219_1)
            replace p219:=eq_true p219;replace q219:=eq_true q219;have p220:0≤(1:Int):=(by omega);have q220:1<(y192.length:Int):=od_;obtain⟨ad220,e220,hx220_0,hx220_1⟩:=at_T28 (Kd.R_reads' HO194.out).2.2 1 p220 q220;obtain rfl:ad219=ad220:=(by injection e220)
            (try simp only [show (1:Int).toNat=1 from rfl,Nat.reduceMul,Nat.reduceEqDiff,Go.Addr.add,↓reduceIte] at hx220_0)
            (try simp only [show (1:Int).toNat=1 from rfl,Nat.reduceMul,Nat.reduceEqDiff,Go.Addr.add,↓reduceIte] at hx220_1)
            have qi220:(1<y192.length)=True:=eq_true (by omega)
            (try rw [show ((1:Int)).toNat=1 from rfl] at hx220_0)
            (try rw [show 1*2=2 from rfl] at hx220_0)
            (try rw [show ((1:Int)).toNat=1 from rfl] at hx220_1)
            (try rw [show 1*2=2 from rfl] at hx220_1)
            replace p220:=eq_true p220;replace q220:=eq_true q220;have p221:0≤(2:Int):=(by omega);have q221:2<(y192.length:Int):=od_;obtain⟨ad221,e221,hx221_0,hx221_1⟩:=at_T28 (Kd.R_reads' HO194.out).2.2 2 p221 q221;obtain rfl:ad219=ad221:=(by injection e221)
            (try simp only [show (2:Int).toNat=2 from rfl,Nat.reduceMul,Nat.reduceEqDiff,Go.Addr.add,↓reduceIte] at hx221_0)
            (try simp only [show (2:Int).toNat=2 from rfl,Nat.reduceMul,Nat.reduceEqDiff,Go.Addr.add,↓reduceIte] at hx221_1)
            have qi221:(2<y192.length)=True:=eq_true (by omega)
            (try rw [show ((2:Int)).toNat=2 from rfl] at hx221_0)
            (try rw [show 2*2=4 from rfl] at hx221_0)
            (try rw [show ((2:Int)).toNat=2 from rfl] at hx221_1)
            (try rw [show 2*2=4 from rfl] at hx221_1)
            replace p221:=eq_true p221;replace q221:=eq_true q221;have p222:0≤(3:Int):=(by omega);have q222:3<(y192.length:Int):=od_;obtain⟨ad222,e222,hx222_0,hx222_1⟩:=at_T28 (Kd.R_reads' HO194.out).2.2 3 p222 q222;obtain rfl:ad219=ad222:=(by injection e222)
            (try simp only [show (3:Int).toNat=3 from rfl,Nat.reduceMul,Nat.reduceEqDiff,Go.Addr.add,↓reduceIte] at hx222_0)
            (try simp only [show (3:Int).toNat=3 from rfl,Nat.reduceMul,Nat.reduceEqDiff,Go.Addr.add,↓reduceIte] at hx222_1)
            have qi222:(3<y192.length)=True:=eq_true (by omega)
            (try rw [show ((3:Int)).toNat=3 from rfl] at hx222_0)
            (try rw [show 3*2=6 from rfl] at hx222_0)
            (try rw [show ((3:Int)).toNat=3 from rfl] at hx222_1)
            (try rw [show 3*2=6 from rfl] at hx222_1)
            replace p222:=eq_true p222;replace q222:=eq_true q222;refine start_ (n:=30) (S:=fun w'=>w'.cell? ad219=some (.int .i64 ((rd_T28 y192 0).f0))∧w'.cell? ⟨ad219.block,ad219.off+1,none⟩=some (.int .i64 ((rd_T28 y192 0).f1))∧w'.cell? ⟨ad219.block,ad219.off+2,none⟩=some (.int .i64 ((rd_T28 y192 1).f0))∧w'.cell? ⟨ad219.block,ad219.off+2+1,none⟩=some (.int .i64 ((rd_T28 y192 1).f1))∧w'.cell? ⟨ad219.block,ad219.off+4,none⟩=some (.int .i64 ((rd_T28 y192 2).f0))∧w'.cell? ⟨ad219.block,ad219.off+4+1,none⟩=some (.int .i64 ((rd_T28 y192 2).f1))∧w'.cell? ⟨ad219.block,ad219.off+6,none⟩=some (.int .i64 ((rd_T28 y192 3).f0))∧w'.cell? ⟨ad219.block,ad219.off+6+1,none⟩=some (.int .i64 ((rd_T28 y192 3).f1))) (ds:=[]) (Array.replicate 30 false) (by kernel_rfl) rfl rfl ⟨hx219_0,hx219_1,hx220_0,hx220_1,hx221_0,hx221_1,hx222_0,hx222_1⟩ (fun hHeld=>?_);refine with_tabW spec_l71Box.tab15 spec_l71Box.bits15 (fun HT_ HW_=>?_);generalize w69.drew=w70 at HO194 HI0 HK HB hx219_0 hx219_1 hx220_0 hx220_1 hx221_0 hx221_1 hx222_0 hx222_1 hHeld ⊢
            refine pu_ HT_ 0 135 (bm 30 1) ?_;refine pu_ HT_ 1 136 (bm 30 3) ?_;refine pu_ HT_ 3 138 (bm 30 11) ?_;refine pu_ HT_ 4 139 (bm 30 27) ?_;refine pu_ HT_ 5 140 (bm 30 59) ?_;refine pu_ HT_ 6 141 (bm 30 123) ?_;refine pu_ HT_ 7 142 (bm 30 251) ?_;refine pu_ HT_ 8 143 (bm 30 507) ?_;refine pu_ HT_ 9 144 (bm 30 1019) ?_;refine pu_ HT_ 10 145 (bm 30 2043) ?_;refine pu_ HT_ 11 146 (bm 30 4091) ?_;refine pu_ HT_ 13 148 (bm 30 12283) ?_;refine pu_ HT_ 14 149 (bm 30 28667) ?_;refine pu_ HT_ 16 151 (bm 30 94203) ?_;refine pu_ HT_ 17 152 (bm 30 225275) ?_;refine pu_ HT_ 18 153 (bm 30 487419) ?_;refine pu_ HT_ 19 154 (bm 30 1011707) ?_;refine pu_ HT_ 20 155 (bm 30 2060283) ?_;refine pu_ HT_ 21 156 (bm 30 4157435) ?_;refine pu_ HT_ 22 157 (bm 30 8351739) ?_;refine pu_ HT_ 23 158 (bm 30 16740347) ?_;refine pu_ HT_ 24 159 (bm 30 33517563) ?_;refine pu_ HT_ 25 160 (bm 30 67071995) ?_;refine pu_ HT_ 26 161 (bm 30 134180859) ?_;refine ta8_ HT_ HW_ 2 137 (bm 30 134180863) hHeld ?_;refine ta8_ HT_ HW_ 12 147 (bm 30 134184959) hHeld ?_;refine ta8_ HT_ HW_ 15 150 (bm 30 134217727) hHeld ?_;refine ta8_ HT_ HW_ 27 162 (bm 30 268435455) hHeld ?_;refine one_ (i:=28) (N:=some 163) (bm 30 536870911) rfl rfl (one_of HT_.out (by kernel_rfl)) (by decide) (fun K hK=>?_)
            refine Kd.R_lit_step k28 _ 28 ?hg (N:=163) ?hd (xs:=([(⟨(rd_T28 y192 0).f0,(rd_T28 y192 0).f1⟩:S28),(⟨wrap64 (a1+(wrap64 (Int.tdiv a3 2))),wrap64 (a2+1)⟩:S28),(⟨(rd_T28 y192 1).f0,(rd_T28 y192 1).f1⟩:S28),(⟨(rd_T28 y192 2).f0,(rd_T28 y192 2).f1⟩:S28),(⟨wrap64 (a1+(wrap64 (Int.tdiv a3 2))),wrap64 ((wrap64 (a2+a4))-1)⟩:S28),(⟨(rd_T28 y192 3).f0,(rd_T28 y192 3).f1⟩:S28)]:List (S28))) (inner:=[.int .i64 ((rd_T28 y192 0).f0),.int .i64 ((rd_T28 y192 0).f1),.int .i64 (wrap64 (a1+(wrap64 (Int.tdiv a3 2)))),.int .i64 (wrap64 (a2+1)),.int .i64 ((rd_T28 y192 1).f0),.int .i64 ((rd_T28 y192 1).f1),.int .i64 ((rd_T28 y192 2).f0),.int .i64 ((rd_T28 y192 2).f1),.int .i64 (wrap64 (a1+(wrap64 (Int.tdiv a3 2)))),.int .i64 (wrap64 ((wrap64 (a2+a4))-1)),.int .i64 ((rd_T28 y192 3).f0),.int .i64 ((rd_T28 y192 3).f1)]) (ok:=fun _=>True) (okp:=fun _=>True) ?hr ?hp (fun _ hk=>hk) trivial (Below.refl _ _) (Nat.le_refl _) (by simp) ?_;(case hd=>rfl);(case hg=>rfl);(case hr=>first | (go_simp;done) | (go_simp;rfl));(case hp=>exact (Reps.c2 (show Kd.M k28 _ _ _ (⟨(rd_T28 y192 0).f0,(rd_T28 y192 0).f1⟩:S28) [.int .i64 ((rd_T28 y192 0).f0),.int .i64 ((rd_T28 y192 0).f1)] from (k28_mkM _ _ _ (⟨(rd_T28 y192 0).f0,(rd_T28 y192 0).f1⟩:S28) )) (Reps.c2 (show Kd.M k28 _ _ _ (⟨wrap64 (a1+(wrap64 (Int.tdiv a3 2))),wrap64 (a2+1)⟩:S28) [.int .i64 (wrap64 (a1+(wrap64 (Int.tdiv a3 2)))),.int .i64 (wrap64 (a2+1))] from (k28_mkM _ _ _ (⟨wrap64 (a1+(wrap64 (Int.tdiv a3 2))),wrap64 (a2+1)⟩:S28) )) (Reps.c2 (show Kd.M k28 _ _ _ (⟨(rd_T28 y192 1).f0,(rd_T28 y192 1).f1⟩:S28) [.int .i64 ((rd_T28 y192 1).f0),.int .i64 ((rd_T28 y192 1).f1)] from (k28_mkM _ _ _ (⟨(rd_T28 y192 1).f0,(rd_T28 y192 1).f1⟩:S28) )) (Reps.c2 (show Kd.M k28 _ _ _ (⟨(rd_T28 y192 2).f0,(rd_T28 y192 2).f1⟩:S28) [.int .i64 ((rd_T28 y192 2).f0),.int .i64 ((rd_T28 y192 2).f1)] from (k28_mkM _ _ _ (⟨(rd_T28 y192 2).f0,(rd_T28 y192 2).f1⟩:S28) )) (Reps.c2 (show Kd.M k28 _ _ _ (⟨wrap64 (a1+(wrap64 (Int.tdiv a3 2))),wrap64 ((wrap64 (a2+a4))-1)⟩:S28) [.int .i64 (wrap64 (a1+(wrap64 (Int.tdiv a3 2)))),.int .i64 (wrap64 ((wrap64 (a2+a4))-1))] from (k28_mkM _ _ _ (⟨wrap64 (a1+(wrap64 (Int.tdiv a3 2))),wrap64 ((wrap64 (a2+a4))-1)⟩:S28) )) (Reps.c2 (show Kd.M k28 _ _ _ (⟨(rd_T28 y192 3).f0,(rd_T28 y192 3).f1⟩:S28) [.int .i64 ((rd_T28 y192 3).f0),.int .i64 ((rd_T28 y192 3).f1)] from (k28_mkM _ _ _ (⟨(rd_T28 y192 3).f0,(rd_T28 y192 3).f1⟩:S28) )) (Reps.none _ _))))))))
            intro v224 w72 ho73 hb hg_ hnew_;have HS0_:=pw_cell_below hb hHeld.1;have HS1_:=pw_cell_below hb hHeld.2.1;have HS2_:=pw_cell_below hb hHeld.2.2.1;have HS3_:=pw_cell_below hb hHeld.2.2.2.1;have HS4_:=pw_cell_below hb hHeld.2.2.2.2.1;have HS5_:=pw_cell_below hb hHeld.2.2.2.2.2.1;have HS6_:=pw_cell_below hb hHeld.2.2.2.2.2.2.1;have HS7_:=pw_cell_below hb hHeld.2.2.2.2.2.2.2;clear hg_ hnew_
            (first | rw [← Ny223.out] at ho73 | (simp only [Int.reduceToNat] at ho73;rw [← Ny223.out] at ho73))
            have HO225:=a0_ (Kd.R_lower (Kd.R_new' ho73 (Kd.R_lt (uR_ HO194))) (keep_size (w:=w) (g:=g) (row:=none) (hK_ HK)));replace HO194:=a0_ (Kd.R_elder' (uR_ HO194) (Kd.R_base ho73) hb);replace HK:=kb_ HK hb;replace HB:=a0_ (below_step hBs_ hb);replace HI0:=a0_ (IsS123.below hI_ hb);clear hb ho73;refine hK.out _ _ ⟨HS0_,HS1_,HS2_,HS3_,HS4_,HS5_,HS6_,HS7_⟩ (fun hHeld=>?_);clear hK K;refine no_ (h:=?_);refine pu_ HT_ 29 10 (bm 30 1073741823) ?_;refine done_ (done_of HT_.out (by kernel_rfl)) ?_
            try go_wp2
            go_ret;exact⟨_,rr_,by (with_reducible repeat (first | apply Kd.R_alloc | apply Kd.R_drewN | apply Kd.R_drew));exact Kd.R_mono HO225.out (fun _ hk=>trivial),by repeat (first | (with_reducible first | exact HI0.out | apply IsS123.alloc | apply IsS123.drewN | apply IsS123.drew | apply IsS123.set_1) | exact HI0.out),by repeat (first | (with_reducible first | exact HB.out | apply below_alloc | apply pw_below_drewN | apply below_drew1 | refine below_set ?_ (IsS123.ge HI0.out)) | exact HB.out),by repeat (first | (with_reducible first | exact HK.out | apply KeepBut.set_ | apply keep_drewN | apply keep_drew | apply keep_alloc) | exact HK.out)⟩
           ·
            rw [if_neg c66] at H;exact absurd H (by simp)
          ·
           rw [if_neg c65] at H;exact absurd H (by simp)
         ·
          rw [if_neg c64] at H;exact absurd H (by simp)
        ·
         rw [if_neg c63] at H;exact absurd H (by simp)
       ·
        rw [if_neg c62] at H;have c62b0:decide (2<a4)=false:=decide_eq_false c62;clear c62;simp only [Option.some.injEq,Prod.mk.injEq] at H;obtain⟨rfl,rfl⟩:=H;go_enter Tryd.func110,Tryd.ntmps110
        go_wp2_with (first | ((with_reducible refine gate_dst (N:=32) rfl ?_);refine Kd.R_lit k28 _ 28 ?hg (N:=32) ?hd (xs:=([(⟨a1,a2⟩:S28),(⟨wrap64 (a1+a3),a2⟩:S28),(⟨wrap64 (a1+a3),wrap64 (a2+a4)⟩:S28),(⟨a1,wrap64 (a2+a4)⟩:S28)]:List (S28))) (inner:=[.int .i64 a1,.int .i64 a2,.int .i64 (wrap64 (a1+a3)),.int .i64 a2,.int .i64 (wrap64 (a1+a3)),.int .i64 (wrap64 (a2+a4)),.int .i64 a1,.int .i64 (wrap64 (a2+a4))]) (ok:=fun _=>True) (okp:=fun _=>True) ?hr ?hp (fun _ hk=>hk) trivial (Below.refl _ _) (Nat.le_refl _) (by simp) ?_;(case hd=>rfl);(case hg=>rfl);(case hr=>first | (go_simp;done) | (go_simp;rfl));(case hp=>exact (Reps.c2 (show Kd.M k28 _ _ _ (⟨a1,a2⟩:S28) [.int .i64 a1,.int .i64 a2] from (k28_mkM _ _ _ (⟨a1,a2⟩:S28) )) (Reps.c2 (show Kd.M k28 _ _ _ (⟨wrap64 (a1+a3),a2⟩:S28) [.int .i64 (wrap64 (a1+a3)),.int .i64 a2] from (k28_mkM _ _ _ (⟨wrap64 (a1+a3),a2⟩:S28) )) (Reps.c2 (show Kd.M k28 _ _ _ (⟨wrap64 (a1+a3),wrap64 (a2+a4)⟩:S28) [.int .i64 (wrap64 (a1+a3)),.int .i64 (wrap64 (a2+a4))] from (k28_mkM _ _ _ (⟨wrap64 (a1+a3),wrap64 (a2+a4)⟩:S28) )) (Reps.c2 (show Kd.M k28 _ _ _ (⟨a1,wrap64 (a2+a4)⟩:S28) [.int .i64 a1,.int .i64 (wrap64 (a2+a4))] from (k28_mkM _ _ _ (⟨a1,wrap64 (a2+a4)⟩:S28) )) (Reps.none _ _))))));intro v193 w74 ho75 hb hg_ hnew_;clear hg_ hnew_;(first | rw [← Ny192.out] at ho75 | (simp only [Int.reduceToNat] at ho75;rw [← Ny192.out] at ho75));have HO194:=a0_ (Kd.R_lower ho75 (keep_size (w:=w) (g:=g) (row:=none) (hK_ HK)));replace HK:=kb_ HK hb;replace HB:=a0_ (below_step hBs_ hb);replace HI0:=a0_ (IsS123.below hI_ hb);clear hb ho75) | ((with_reducible refine gate_callee (f:=74) rfl ?_);refine gL_ (some 34) Tryd.func74 #[.pointer (some ⟨g,0,none⟩),.int .i64 7] (h:=?_);(with_reducible refine (spec_l6Rd_pick.calls k g s0_0 s0_1 7 t195 t196 w0 _ hI_ hBs_ A6.out).mono ?_);rintro e w76 ⟨rfl,hi,hb,hk⟩;refine⟨_,rfl,?_⟩;replace HO194:=a0_ (Kd.R_mono (Kd.R_keep (IsS123.apart (show IsS123 w0 _ g s0_0 s0_1 from hI_) (uR_ HO194) (by decide)) hk (fun _ h=>h.2)) (fun _ h=>h.1));replace HK:=kk_ HK hk;replace HB:=a0_ (hb);replace HI0:=a0_ (hi);(try clear hi hb hk)))
        go_ret;exact⟨_,rr_,by (with_reducible repeat (first | apply Kd.R_alloc | apply Kd.R_drewN | apply Kd.R_drew));exact HO194.out,by repeat (first | (with_reducible first | exact HI0.out | apply IsS123.alloc | apply IsS123.drewN | apply IsS123.drew | apply IsS123.set_1) | exact HI0.out),by repeat (first | (with_reducible first | exact HB.out | apply below_alloc | apply pw_below_drewN | apply below_drew1 | refine below_set ?_ (IsS123.ge HI0.out)) | exact HB.out),by repeat (first | (with_reducible first | exact HK.out | apply KeepBut.set_ | apply keep_drewN | apply keep_drew | apply keep_alloc) | exact HK.out)⟩
      ·
       rw [if_neg c61] at H;have c61b0:decide (2<a3)=false:=decide_eq_false c61;clear c61;simp only [Option.some.injEq,Prod.mk.injEq] at H;obtain⟨rfl,rfl⟩:=H;go_enter Tryd.func110,Tryd.ntmps110
       go_wp2_with (first | ((with_reducible refine gate_dst (N:=32) rfl ?_);refine Kd.R_lit k28 _ 28 ?hg (N:=32) ?hd (xs:=([(⟨a1,a2⟩:S28),(⟨wrap64 (a1+a3),a2⟩:S28),(⟨wrap64 (a1+a3),wrap64 (a2+a4)⟩:S28),(⟨a1,wrap64 (a2+a4)⟩:S28)]:List (S28))) (inner:=[.int .i64 a1,.int .i64 a2,.int .i64 (wrap64 (a1+a3)),.int .i64 a2,.int .i64 (wrap64 (a1+a3)),.int .i64 (wrap64 (a2+a4)),.int .i64 a1,.int .i64 (wrap64 (a2+a4))]) (ok:=fun _=>True) (okp:=fun _=>True) ?hr ?hp (fun _ hk=>hk) trivial (Below.refl _ _) (Nat.le_refl _) (by simp) ?_;(case hd=>rfl);(case hg=>rfl);(case hr=>first | (go_simp;done) | (go_simp;rfl));(case hp=>exact (Reps.c2 (show Kd.M k28 _ _ _ (⟨a1,a2⟩:S28) [.int .i64 a1,.int .i64 a2] from (k28_mkM _ _ _ (⟨a1,a2⟩:S28) )) (Reps.c2 (show Kd.M k28 _ _ _ (⟨wrap64 (a1+a3),a2⟩:S28) [.int .i64 (wrap64 (a1+a3)),.int .i64 a2] from (k28_mkM _ _ _ (⟨wrap64 (a1+a3),a2⟩:S28) )) (Reps.c2 (show Kd.M k28 _ _ _ (⟨wrap64 (a1+a3),wrap64 (a2+a4)⟩:S28) [.int .i64 (wrap64 (a1+a3)),.int .i64 (wrap64 (a2+a4))] from (k28_mkM _ _ _ (⟨wrap64 (a1+a3),wrap64 (a2+a4)⟩:S28) )) (Reps.c2 (show Kd.M k28 _ _ _ (⟨a1,wrap64 (a2+a4)⟩:S28) [.int .i64 a1,.int .i64 (wrap64 (a2+a4))] from (k28_mkM _ _ _ (⟨a1,wrap64 (a2+a4)⟩:S28) )) (Reps.none _ _))))));intro v193 w77 ho78 hb hg_ hnew_;clear hg_ hnew_;(first | rw [← Ny192.out] at ho78 | (simp only [Int.reduceToNat] at ho78;rw [← Ny192.out] at ho78));have HO194:=a0_ (Kd.R_lower ho78 (keep_size (w:=w) (g:=g) (row:=none) (hK_ HK)));replace HK:=kb_ HK hb;replace HB:=a0_ (below_step hBs_ hb);replace HI0:=a0_ (IsS123.below hI_ hb);clear hb ho78) | ((with_reducible refine gate_callee (f:=74) rfl ?_);refine gL_ (some 34) Tryd.func74 #[.pointer (some ⟨g,0,none⟩),.int .i64 7] (h:=?_);(with_reducible refine (spec_l6Rd_pick.calls k g s0_0 s0_1 7 t195 t196 w0 _ hI_ hBs_ A6.out).mono ?_);rintro e w79 ⟨rfl,hi,hb,hk⟩;refine⟨_,rfl,?_⟩;replace HO194:=a0_ (Kd.R_mono (Kd.R_keep (IsS123.apart (show IsS123 w0 _ g s0_0 s0_1 from hI_) (uR_ HO194) (by decide)) hk (fun _ h=>h.2)) (fun _ h=>h.1));replace HK:=kk_ HK hk;replace HB:=a0_ (hb);replace HI0:=a0_ (hi);(try clear hi hb hk)))
       go_ret;exact⟨_,rr_,by (with_reducible repeat (first | apply Kd.R_alloc | apply Kd.R_drewN | apply Kd.R_drew));exact HO194.out,by repeat (first | (with_reducible first | exact HI0.out | apply IsS123.alloc | apply IsS123.drewN | apply IsS123.drew | apply IsS123.set_1) | exact HI0.out),by repeat (first | (with_reducible first | exact HB.out | apply below_alloc | apply pw_below_drewN | apply below_drew1 | refine below_set ?_ (IsS123.ge HI0.out)) | exact HB.out),by repeat (first | (with_reducible first | exact HK.out | apply KeepBut.set_ | apply keep_drewN | apply keep_drew | apply keep_alloc) | exact HK.out)⟩
     ·
      rw [if_neg c60] at H;have c60b0:(t195==4)=false:=beq_eq_false_iff_ne.mpr c60;have c60b1:(t195 != 4)=true:=bne_iff_ne.mpr c60;simp only [Option.some.injEq,Prod.mk.injEq] at H;obtain⟨rfl,rfl⟩:=H;go_enter Tryd.func110,Tryd.ntmps110
      go_wp2_with (first | ((with_reducible refine gate_dst (N:=32) rfl ?_);refine Kd.R_lit k28 _ 28 ?hg (N:=32) ?hd (xs:=([(⟨a1,a2⟩:S28),(⟨wrap64 (a1+a3),a2⟩:S28),(⟨wrap64 (a1+a3),wrap64 (a2+a4)⟩:S28),(⟨a1,wrap64 (a2+a4)⟩:S28)]:List (S28))) (inner:=[.int .i64 a1,.int .i64 a2,.int .i64 (wrap64 (a1+a3)),.int .i64 a2,.int .i64 (wrap64 (a1+a3)),.int .i64 (wrap64 (a2+a4)),.int .i64 a1,.int .i64 (wrap64 (a2+a4))]) (ok:=fun _=>True) (okp:=fun _=>True) ?hr ?hp (fun _ hk=>hk) trivial (Below.refl _ _) (Nat.le_refl _) (by simp) ?_;(case hd=>rfl);(case hg=>rfl);(case hr=>first | (go_simp;done) | (go_simp;rfl));(case hp=>exact (Reps.c2 (show Kd.M k28 _ _ _ (⟨a1,a2⟩:S28) [.int .i64 a1,.int .i64 a2] from (k28_mkM _ _ _ (⟨a1,a2⟩:S28) )) (Reps.c2 (show Kd.M k28 _ _ _ (⟨wrap64 (a1+a3),a2⟩:S28) [.int .i64 (wrap64 (a1+a3)),.int .i64 a2] from (k28_mkM _ _ _ (⟨wrap64 (a1+a3),a2⟩:S28) )) (Reps.c2 (show Kd.M k28 _ _ _ (⟨wrap64 (a1+a3),wrap64 (a2+a4)⟩:S28) [.int .i64 (wrap64 (a1+a3)),.int .i64 (wrap64 (a2+a4))] from (k28_mkM _ _ _ (⟨wrap64 (a1+a3),wrap64 (a2+a4)⟩:S28) )) (Reps.c2 (show Kd.M k28 _ _ _ (⟨a1,wrap64 (a2+a4)⟩:S28) [.int .i64 a1,.int .i64 (wrap64 (a2+a4))] from (k28_mkM _ _ _ (⟨a1,wrap64 (a2+a4)⟩:S28) )) (Reps.none _ _))))));intro v193 w80 ho81 hb hg_ hnew_;clear hg_ hnew_;(first | rw [← Ny192.out] at ho81 | (simp only [Int.reduceToNat] at ho81;rw [← Ny192.out] at ho81));have HO194:=a0_ (Kd.R_lower ho81 (keep_size (w:=w) (g:=g) (row:=none) (hK_ HK)));replace HK:=kb_ HK hb;replace HB:=a0_ (below_step hBs_ hb);replace HI0:=a0_ (IsS123.below hI_ hb);clear hb ho81) | ((with_reducible refine gate_callee (f:=74) rfl ?_);refine gL_ (some 34) Tryd.func74 #[.pointer (some ⟨g,0,none⟩),.int .i64 7] (h:=?_);(with_reducible refine (spec_l6Rd_pick.calls k g s0_0 s0_1 7 t195 t196 w0 _ hI_ hBs_ A6.out).mono ?_);rintro e w82 ⟨rfl,hi,hb,hk⟩;refine⟨_,rfl,?_⟩;replace HO194:=a0_ (Kd.R_mono (Kd.R_keep (IsS123.apart (show IsS123 w0 _ g s0_0 s0_1 from hI_) (uR_ HO194) (by decide)) hk (fun _ h=>h.2)) (fun _ h=>h.1));replace HK:=kk_ HK hk;replace HB:=a0_ (hb);replace HI0:=a0_ (hi);(try clear hi hb hk)))
      go_ret;exact⟨_,rr_,by (with_reducible repeat (first | apply Kd.R_alloc | apply Kd.R_drewN | apply Kd.R_drew));exact HO194.out,by repeat (first | (with_reducible first | exact HI0.out | apply IsS123.alloc | apply IsS123.drewN | apply IsS123.drew | apply IsS123.set_1) | exact HI0.out),by repeat (first | (with_reducible first | exact HB.out | apply below_alloc | apply pw_below_drewN | apply below_drew1 | refine below_set ?_ (IsS123.ge HI0.out)) | exact HB.out),by repeat (first | (with_reducible first | exact HK.out | apply KeepBut.set_ | apply keep_drewN | apply keep_drew | apply keep_alloc) | exact HK.out)⟩
def spec_l3Edges.l0:Nat→List (S28)→List (S61)→Int→Option ((List (S61)))
 | 0,_,_,_=>none
 | k+1,x0,x3,x4=>if x4<(x0.length:Int) then (if 0≤x4 then (if (x0.length:Int)=0 then (none) else (if 0≤(Int.tmod (wrap64 (x4+1)) (x0.length:Int)) then (if (Int.tmod (wrap64 (x4+1)) (x0.length:Int))<(x0.length:Int) then (if x3.length<4398046511104 then (spec_l3Edges.l0 k x0 (x3++[(⟨(⟨(rd_T28 x0 x4).f0,(rd_T28 x0 x4).f1⟩:S28),(⟨(rd_T28 x0 (Int.tmod (wrap64 (x4+1)) (x0.length:Int))).f0,(rd_T28 x0 (Int.tmod (wrap64 (x4+1)) (x0.length:Int))).f1⟩:S28)⟩:S61)]) (wrap64 (x4+1))) else (none)) else (none)) else (none))) else (none)) else (some x3)
def spec_l3Edges.f (k:Nat)(l0:List (S28)):Option ((List (S61))):=spec_l3Edges.l0 k l0 (([]:List (S61))) 0
def spec_l3Edges.T5:Bool × List (List Nat × List Nat):=(true,[([],[]),([],[]),([],[]),([1,2],[1,2]),([3],[3]),([],[]),([],[]),([6],[6]),([],[]),([8],[8]),([7,9],[7,9]),([5,10],[5,10]),([11],[11]),([4,12],[4,12]),([13],[13]),([0,14],[0,14]),([15,15,0,1,2,3,4,5,6,7,8,9,10,11,12,13,14,15],[0,15])])
def spec_l3Edges.B5:List Nat:=[0,0,0,6,14,0,0,64,0,256,960,2016,4064,8190,16382,32767,65535]
theorem spec_l3Edges.tab5:rtab .any (opsOf Tryd.f98 5)=spec_l3Edges.T5:=by kernel_rfl
theorem spec_l3Edges.bits5:waitsOk spec_l3Edges.T5.2 spec_l3Edges.B5=true:=by kernel_rfl
set_option maxHeartbeats 8000000 in
set_option maxRecDepth 100000 in
theorem spec_l3Edges.calls (k:Nat)(A0:Option Addr)(c0:Nat)(l0:List (S28))(r:List (S61))(w:World)(hr0:Kd.C k28 w A0 l0.length l0)(hc0:l0.length≤c0)(h:spec_l3Edges.f k l0=some r):
  Calls Tryd.prog 98 #[.slice A0 l0.length c0] w fun e w'=>∃ v0_:Value,e=.returned (v0_)∧Kd.R k61 61 w' w.heap.size (fun _=>True) v0_ r∧Below w.heap.size w w':=by
 have hu28:=Tryd.underlying28;have hu61:=Tryd.underlying61;have HR0:=Aside0.mk hr0;have HC0:=Aside0.mk hc0;clear hr0 hc0;have HB:=a0_ (Below.refl w.heap.size w);have H:(spec_l3Edges.l0 k l0 (([]:List (S61))) 0)=some r:=h;clear h;obtain⟨y127,hy127⟩:∃ y_:List (S61),y_=(([]:List (S61))):=⟨_,rfl⟩;replace H:(spec_l3Edges.l0 k l0 y127 0)=some r:=by first | (rw [hy127];with_reducible exact H) | (have H2_:=(Option.bind_some _ _).symm.trans H;rw [hy127];with_reducible exact H2_) | (have H2_:=(Option.bind_some _ _).symm.trans H;with_reducible exact H2_) | with_reducible exact H | (rw [hy127];exact H) | exact H
 have Ny127:=Aside0.mk hy127;clear hy127;have H':=Aside0.mk H;clear H;go_enter Tryd.func98,Tryd.ntmps98;go_wp2_with (first | ((with_reducible refine gate_dst (N:=5) rfl ?_);refine Kd.R_lit k61 _ 61 ?hg (N:=5) ?hd (xs:=([]:List (S61))) (inner:=[]) (ok:=fun _=>True) (okp:=fun _=>True) ?hr ?hp (fun _ hk=>hk) trivial (Below.refl _ _) (Nat.le_refl _) (by simp) ?_;(case hd=>rfl);(case hg=>rfl);(case hr=>first | (go_simp;done) | (go_simp;rfl));(case hp=>exact (Reps.none _ _));intro v128 w2 ho3 hb hg_ hnew_;clear hg_ hnew_;(first | rw [← Ny127.out] at ho3 | (simp only [Int.reduceToNat] at ho3;rw [← Ny127.out] at ho3));have HO129:=a0_ (Kd.R_lower ho3 (below_size hB_));replace HB:=sb_ HB hb;clear hb ho3));go_loopg [3,4] k (fun kq v3 v4 w'=>∃ (x3_1:List (S61)) (x4_1:Int),v4=.int .i64 x4_1∧Aside0 (spec_l3Edges.l0 kq l0 x3_1 x4_1=some r)∧Aside0 (kq≤k)∧Aside0 (Kd.R k61 61 w' w.heap.size (fun _=>True) v3 x3_1)∧Aside0 (Below w.heap.size w w'))
 case atStart=>exact⟨(y127),(0),(by first | rfl | (simp;done) | (simp [*];done)),H',⟨Nat.le_refl _⟩,⟨by (with_reducible repeat (first | apply Kd.R_alloc | apply Kd.R_drewN | apply Kd.R_drew));exact HO129.out⟩,⟨hB_⟩⟩
 case round =>
  clear H';obtain⟨x3_1,x4_1,rfl,HA,HK1,HO_3,HB⟩:=hrel
  cases gk with
  | zero=>exact absurd HA.out (by simp [spec_l3Edges.l0])
  | succ k1 =>
   have H:=HA.out;clear HA;simp only [spec_l3Edges.l0] at H;by_cases c4:x4_1<(l0.length:Int)
   ·
    rw [if_pos c4] at H;have c4b0:decide (x4_1<(l0.length:Int))=true:=decide_eq_true c4;clear c4;by_cases c5:0≤x4_1
    ·
     rw [if_pos c5] at H;have c5b0:decide (0≤x4_1)=true:=decide_eq_true c5;clear c5;by_cases c6:(l0.length:Int)=0
     ·
      rw [if_pos c6] at H;exact absurd H (by simp)
     ·
      rw [if_neg c6] at H;have c6b0:((l0.length:Int)==0)=false:=beq_eq_false_iff_ne.mpr c6;have c6b1:((l0.length:Int) != 0)=true:=bne_iff_ne.mpr c6;have c6b2:¬ (l0=[]):=fun h_=>c6 (by rw [h_];rfl)
      obtain⟨ji7,hji7⟩:∃ j_:Int,(Int.tmod (wrap64 (x4_1+1)) (l0.length:Int))=j_:=⟨_,rfl⟩;replace H:(if 0≤(ji7) then (if (ji7)<(l0.length:Int) then (if x3_1.length<4398046511104 then (spec_l3Edges.l0 k1 l0 (x3_1++[(⟨(⟨(rd_T28 l0 x4_1).f0,(rd_T28 l0 x4_1).f1⟩:S28),(⟨(rd_T28 l0 (ji7)).f0,(rd_T28 l0 (ji7)).f1⟩:S28)⟩:S61)]) (wrap64 (x4_1+1))) else (none)) else (none)) else (none))=some r:=by first | (rw [hji7] at H;exact H) | (simp only [hji7] at H ⊢;exact H)
      by_cases c8:0≤(ji7)
      ·
       rw [if_pos c8] at H;have c8b0:decide (0≤(ji7))=true:=decide_eq_true c8;clear c8;by_cases c9:(ji7)<(l0.length:Int)
       ·
        rw [if_pos c9] at H;have c9b0:decide ((ji7)<(l0.length:Int))=true:=decide_eq_true c9;clear c9;by_cases c10:x3_1.length<4398046511104
        ·
         rw [if_pos c10] at H;have LMc10:=Aside0.mk c10;clear c10;obtain⟨y132,hy132⟩:∃ y_:List (S61),y_=(x3_1++[(⟨(⟨(rd_T28 l0 x4_1).f0,(rd_T28 l0 x4_1).f1⟩:S28),(⟨(rd_T28 l0 (ji7)).f0,(rd_T28 l0 (ji7)).f1⟩:S28)⟩:S61)]):=⟨_,rfl⟩;replace H:(spec_l3Edges.l0 k1 l0 y132 (wrap64 (x4_1+1)))=some r:=by first | (rw [hy132];with_reducible exact H) | (have H2_:=(Option.bind_some _ _).symm.trans H;rw [hy132];with_reducible exact H2_) | (have H2_:=(Option.bind_some _ _).symm.trans H;with_reducible exact H2_) | with_reducible exact H | (rw [hy132];exact H) | exact H
         have Ny132:=Aside0.mk hy132;clear hy132;have H':=Aside0.mk H;clear H
         try go_wp2
         replace HO_3:=a0_ (Kd.R_drew HO_3.out);replace HB:=a0_ (below_drew1 HB.out);have p130:0≤(x4_1:Int):=od_;have q130:x4_1<(l0.length:Int):=od_;obtain⟨ad130,e130,hx130_0,hx130_1⟩:=at_T28 HR0.out x4_1 p130 q130;have hw130_1:=hx130_1;have hw130_0:=hx130_0;cases e130;replace hx130_0:=ce_ HB hx130_0;replace hx130_1:=ce_ HB hx130_1;replace p130:=eq_true p130;replace q130:=eq_true q130;have p131:0≤((ji7):Int):=od_;have q131:(ji7)<(l0.length:Int):=od_;obtain⟨ad131,e131,hx131_0,hx131_1⟩:=at_T28 HR0.out (ji7) p131 q131;have hw131_1:=hx131_1;have hw131_0:=hx131_0;obtain rfl:ad130=ad131:=(by injection e131);replace hx131_0:=ce_ HB hx131_0;replace hx131_1:=ce_ HB hx131_1;replace p131:=eq_true p131;replace q131:=eq_true q131;refine start_ (n:=17) (S:=fun w'=>w'.cell? (ad130.add ((x4_1).toNat*2))=some (.int .i64 ((rd_T28 l0 x4_1).f0))∧w'.cell? ⟨(ad130.add ((x4_1).toNat*2)).block,(ad130.add ((x4_1).toNat*2)).off+1,none⟩=some (.int .i64 ((rd_T28 l0 x4_1).f1))∧w'.cell? (ad130.add (((ji7)).toNat*2))=some (.int .i64 ((rd_T28 l0 (ji7)).f0))∧w'.cell? ⟨(ad130.add (((ji7)).toNat*2)).block,(ad130.add (((ji7)).toNat*2)).off+1,none⟩=some (.int .i64 ((rd_T28 l0 (ji7)).f1))) (ds:=[]) (Array.replicate 17 false) (by kernel_rfl) rfl rfl ⟨(ce_ HB hw130_0),(ce_ HB hw130_1),(ce_ HB hw131_0),(ce_ HB hw131_1)⟩ (fun hHeld=>?_);refine with_tabW spec_l3Edges.tab5 spec_l3Edges.bits5 (fun HT_ HW_=>?_);generalize wr.drew=w11 at HO_3 HB hx130_0 hx130_1 hx131_0 hx131_1 hHeld ⊢
         refine pu_ HT_ 0 12 (bm 17 1) ?_;refine pu_ HT_ 1 13 (bm 17 3) ?_;refine pu_ HT_ 2 14 (bm 17 7) ?_;refine pu_ HT_ 3 15 (bm 17 15) ?_;refine pu_ HT_ 5 17 (bm 17 47) ?_;refine pu_ HT_ 6 18 (bm 17 111) ?_;refine pu_ HT_ 7 19 (bm 17 239) ?_;refine pu_ HT_ 8 20 (bm 17 495) ?_;refine pu_ HT_ 9 21 (bm 17 1007) ?_;refine pu_ HT_ 10 22 (bm 17 2031) ?_;refine pu_ HT_ 11 23 (bm 17 4079) ?_;refine ta4_ HT_ HW_ 4 16 (bm 17 4095) hHeld ?_;refine ta4_ HT_ HW_ 12 24 (bm 17 8191) hHeld ?_;refine pu_ HT_ 13 25 (bm 17 16383) ?_;refine one_ (i:=14) (N:=some 26) (bm 17 32767) rfl rfl (one_of HT_.out (by kernel_rfl)) (by decide) (fun K hK=>?_);refine value_ (w1:=?_) (v:=?_) (by rfl) rfl ?_ ?_;rotate_left 2
         ·
          go_simp;constructor
          ·
           rfl
          ·
           rfl
         refine hK.out _ _ ⟨(World.cell?_alloc_lt _ _ _ (World.block_lt_of_cell? _ _ ((ce_ HB hw130_0)))).trans ((ce_ HB hw130_0)),(World.cell?_alloc_lt _ _ _ (World.block_lt_of_cell? _ _ ((ce_ HB hw130_1)))).trans ((ce_ HB hw130_1)),(World.cell?_alloc_lt _ _ _ (World.block_lt_of_cell? _ _ ((ce_ HB hw131_0)))).trans ((ce_ HB hw131_0)),(World.cell?_alloc_lt _ _ _ (World.block_lt_of_cell? _ _ ((ce_ HB hw131_1)))).trans ((ce_ HB hw131_1))⟩ (fun hHeld=>?_);clear hK K;refine no_ (h:=?_);refine one_ (i:=15) (N:=some 27) (bm 17 65535) rfl rfl (one_of HT_.out (by kernel_rfl)) (by decide) (fun K hK=>?_);refine Kd.R_append_step k61 (w0:=w) w.heap.size (by rfl) (.tmp 12) (.tmp 26) 57 61 (.agg #[(.int .i64 0),(.int .i64 0),(.int .i64 0),(.int .i64 0)]) 32 rfl Tryd.underlying57 info61 rfl (by decide) (by omega) u3 x3_1 (⟨(⟨(rd_T28 l0 x4_1).f0,(rd_T28 l0 x4_1).f1⟩:S28),(⟨(rd_T28 l0 (ji7)).f0,(rd_T28 l0 (ji7)).f1⟩:S28)⟩:S61) [.int .i64 ((rd_T28 l0 x4_1).f0),.int .i64 ((rd_T28 l0 x4_1).f1),.int .i64 ((rd_T28 l0 (ji7)).f0),.int .i64 ((rd_T28 l0 (ji7)).f1)] (fun _=>True) (fun _=>False) rfl rfl ?aP (fun _ hk=>hk.elim) ?aF ?aO ?aB ?aS ?aL ?_
         (case aP=>exact k61_mkM _ _ _ (⟨(⟨(rd_T28 l0 x4_1).f0,(rd_T28 l0 x4_1).f1⟩:S28),(⟨(rd_T28 l0 (ji7)).f0,(rd_T28 l0 (ji7)).f1⟩:S28)⟩:S61))
         (case aB=>exact hB_)
         (case aF=>exact (fun _ _=>trivial))
         (case aO=>exact (uR_ HO_3))
         (case aS=>exact (below_size hB_))
         (case aL=>have:=LMc10.out;omega)
         intro v133 w12 ho hb hg hat;rw [← Ny132.out] at ho;have HO134:=a0_ (ho);replace HB:=a0_ (hb);clear HO_3;clear ho hb hg hat;refine hK.out _ _ ⟨(ce_ HB hw130_0),(ce_ HB hw130_1),(ce_ HB hw131_0),(ce_ HB hw131_1)⟩ (fun hHeld=>?_);clear hK K;refine no_ (h:=?_);refine pu_ HT_ 16 3 (bm 17 131071) ?_;refine done_ (done_of HT_.out (by kernel_rfl)) ?_
         try go_wp2
         go_roundg k1
         case measure=>have:=HK1.out;omega
         case rel=>exact⟨(y132),(wrap64 (x4_1+1)),(by first | rfl | (simp;done) | (simp [*];done)),H',⟨by have:=HK1.out;omega⟩,⟨by (with_reducible repeat (first | apply Kd.R_alloc | apply Kd.R_drewN | apply Kd.R_drew));exact HO134.out⟩,⟨hB_⟩⟩
        ·
         rw [if_neg c10] at H;exact absurd H (by simp)
       ·
        rw [if_neg c9] at H;exact absurd H (by simp)
      ·
       rw [if_neg c8] at H;exact absurd H (by simp)
    ·
     rw [if_neg c5] at H;exact absurd H (by simp)
   ·
    rw [if_neg c4] at H;have c4b0:decide (x4_1<(l0.length:Int))=false:=decide_eq_false c4;clear c4;obtain rfl:=Option.some.inj H;go_wp2;go_ret;exact⟨_,rr_,by (with_reducible repeat (first | apply Kd.R_alloc | apply Kd.R_drewN | apply Kd.R_drew));exact HO_3.out,hB_⟩
def spec_l2Meet.f (a0_0:Int)(a0_1:Int)(a0_2:Int)(a0_3:Int)(a1_0:Int)(a1_1:Int)(a1_2:Int)(a1_3:Int):Option (Bool):=(spec_l2Cross.f a0_0 a0_1 a0_2 a0_3 a1_0 a1_1).bind fun t226=>((spec_l2Sign.f t226).bind fun t227=>((spec_l2Cross.f a0_0 a0_1 a0_2 a0_3 a1_2 a1_3).bind fun t228=>((spec_l2Sign.f t228).bind fun t229=>((spec_l2Cross.f a1_0 a1_1 a1_2 a1_3 a0_0 a0_1).bind fun t230=>((spec_l2Sign.f t230).bind fun t231=>((spec_l2Cross.f a1_0 a1_1 a1_2 a1_3 a0_2 a0_3).bind fun t232=>((spec_l2Sign.f t232).bind fun t233=>(if (wrap64 (t227*t229))<0 then (if (wrap64 (t231*t233))<0 then (some true) else ((spec_l2Has.f a0_0 a0_1 a0_2 a0_3 a1_0 a1_1).bind fun t234=>(if t234=true then (some true) else ((spec_l2Has.f a0_0 a0_1 a0_2 a0_3 a1_2 a1_3).bind fun t235=>(if t235=true then (some true) else ((spec_l2Has.f a1_0 a1_1 a1_2 a1_3 a0_0 a0_1).bind fun t236=>(if t236=true then (some true) else ((spec_l2Has.f a1_0 a1_1 a1_2 a1_3 a0_2 a0_3).bind fun t237=>(some t237))))))))) else ((spec_l2Has.f a0_0 a0_1 a0_2 a0_3 a1_0 a1_1).bind fun t238=>(if t238=true then (some true) else ((spec_l2Has.f a0_0 a0_1 a0_2 a0_3 a1_2 a1_3).bind fun t239=>(if t239=true then (some true) else ((spec_l2Has.f a1_0 a1_1 a1_2 a1_3 a0_0 a0_1).bind fun t240=>(if t240=true then (some true) else ((spec_l2Has.f a1_0 a1_1 a1_2 a1_3 a0_2 a0_3).bind fun t241=>(some t241))))))))))))))))
def spec_l2Meet.T1:Bool × List (List Nat × List Nat):=(true,[([],[]),([0],[0]),([],[]),([2],[2]),([],[]),([4],[4]),([1,3,5],[1,3,5]),([6,6],[6]),([],[]),([8],[8]),([],[]),([10],[10]),([],[]),([12],[12]),([9,11,13,7],[9,11,13]),([14,14],[14]),([7,15],[7,15]),([16,15,0,1,2,3,4,5,6,7,8,9,10,11,12,13,14,15,16],[16])])
def spec_l2Meet.B1:List Nat:=[0,1,0,4,0,16,63,127,0,256,0,1024,0,4096,16383,32767,65535,131071]
theorem spec_l2Meet.tab1:rtab .any (opsOf Tryd.f101 1)=spec_l2Meet.T1:=by kernel_rfl
theorem spec_l2Meet.bits1:waitsOk spec_l2Meet.T1.2 spec_l2Meet.B1=true:=by kernel_rfl
def spec_l2Meet.T2:Bool × List (List Nat × List Nat):=(true,[([],[]),([0],[0]),([],[]),([2],[2]),([],[]),([4],[4]),([1,3,5],[1,3,5]),([6,6],[6]),([],[]),([8],[8]),([],[]),([10],[10]),([],[]),([12],[12]),([9,11,13,7],[9,11,13]),([14,14],[14]),([7,15],[7,15]),([16,15,0,1,2,3,4,5,6,7,8,9,10,11,12,13,14,15,16],[16])])
def spec_l2Meet.B2:List Nat:=[0,1,0,4,0,16,63,127,0,256,0,1024,0,4096,16383,32767,65535,131071]
theorem spec_l2Meet.tab2:rtab .any (opsOf Tryd.f101 2)=spec_l2Meet.T2:=by kernel_rfl
theorem spec_l2Meet.bits2:waitsOk spec_l2Meet.T2.2 spec_l2Meet.B2=true:=by kernel_rfl
set_option maxHeartbeats 8000000 in
set_option maxRecDepth 100000 in
theorem spec_l2Meet.calls (a0_0:Int)(a0_1:Int)(a0_2:Int)(a0_3:Int)(a1_0:Int)(a1_1:Int)(a1_2:Int)(a1_3:Int)(r:Bool)(w:World)(h:spec_l2Meet.f a0_0 a0_1 a0_2 a0_3 a1_0 a1_1 a1_2 a1_3=some r):
  Calls Tryd.prog 101 #[.agg #[.int .i64 a0_0,.int .i64 a0_1,.int .i64 a0_2,.int .i64 a0_3],.agg #[.int .i64 a1_0,.int .i64 a1_1,.int .i64 a1_2,.int .i64 a1_3]] w fun e w'=>e=.returned (.bool r)∧Below w.heap.size w w':=by
 have hu61:=Tryd.underlying61;have hu28:=Tryd.underlying28;have HB:=a0_ (Below.refl w.heap.size w);have H:((spec_l2Cross.f a0_0 a0_1 a0_2 a0_3 a1_0 a1_1).bind fun t226=>((spec_l2Sign.f t226).bind fun t227=>((spec_l2Cross.f a0_0 a0_1 a0_2 a0_3 a1_2 a1_3).bind fun t228=>((spec_l2Sign.f t228).bind fun t229=>((spec_l2Cross.f a1_0 a1_1 a1_2 a1_3 a0_0 a0_1).bind fun t230=>((spec_l2Sign.f t230).bind fun t231=>((spec_l2Cross.f a1_0 a1_1 a1_2 a1_3 a0_2 a0_3).bind fun t232=>((spec_l2Sign.f t232).bind fun t233=>(if (wrap64 (t227*t229))<0 then (if (wrap64 (t231*t233))<0 then (some true) else ((spec_l2Has.f a0_0 a0_1 a0_2 a0_3 a1_0 a1_1).bind fun t234=>(if t234=true then (some true) else ((spec_l2Has.f a0_0 a0_1 a0_2 a0_3 a1_2 a1_3).bind fun t235=>(if t235=true then (some true) else ((spec_l2Has.f a1_0 a1_1 a1_2 a1_3 a0_0 a0_1).bind fun t236=>(if t236=true then (some true) else ((spec_l2Has.f a1_0 a1_1 a1_2 a1_3 a0_2 a0_3).bind fun t237=>(some t237))))))))) else ((spec_l2Has.f a0_0 a0_1 a0_2 a0_3 a1_0 a1_1).bind fun t238=>(if t238=true then (some true) else ((spec_l2Has.f a0_0 a0_1 a0_2 a0_3 a1_2 a1_3).bind fun t239=>(if t239=true then (some true) else ((spec_l2Has.f a1_0 a1_1 a1_2 a1_3 a0_0 a0_1).bind fun t240=>(if t240=true then (some true) else ((spec_l2Has.f a1_0 a1_1 a1_2 a1_3 a0_2 a0_3).bind fun t241=>(some t241)))))))))))))))))=some r:=h;clear h;replace H:=Option.bind_eq_some_iff.mp H;obtain⟨t226,A30,H⟩:=H
 (try dsimp only at H)
 have A3:=Aside0.mk A30;clear A30;replace H:=Option.bind_eq_some_iff.mp H;obtain⟨t227,A40,H⟩:=H
 (try dsimp only at H)
 have A4:=Aside0.mk A40;clear A40;replace H:=Option.bind_eq_some_iff.mp H;obtain⟨t228,A50,H⟩:=H
 (try dsimp only at H)
 have A5:=Aside0.mk A50;clear A50;replace H:=Option.bind_eq_some_iff.mp H;obtain⟨t229,A60,H⟩:=H
 (try dsimp only at H)
 have A6:=Aside0.mk A60;clear A60;replace H:=Option.bind_eq_some_iff.mp H;obtain⟨t230,A70,H⟩:=H
 (try dsimp only at H)
 have A7:=Aside0.mk A70;clear A70;replace H:=Option.bind_eq_some_iff.mp H;obtain⟨t231,A80,H⟩:=H
 (try dsimp only at H)
 have A8:=Aside0.mk A80;clear A80;replace H:=Option.bind_eq_some_iff.mp H;obtain⟨t232,A90,H⟩:=H
 (try dsimp only at H)
 have A9:=Aside0.mk A90;clear A90;replace H:=Option.bind_eq_some_iff.mp H;obtain⟨t233,A100,H⟩:=H
 (try dsimp only at H)
 have A10:=Aside0.mk A100;clear A100;go_enter Tryd.func101,Tryd.ntmps101
 try go_wp2_with (first | ((with_reducible refine gate_dst (N:=2) rfl ?_);refine bx_ (N:=2) (cs:=#[.int .i64 a0_0,.int .i64 a0_1,.int .i64 a0_2,.int .i64 a0_3]) (t:=61) (h:=?_);intro gb224 hg w13 hbox hb;have BK224:=a0_ (hbox);have GW224:=gh_ HB hg;have GE224:=gh_ HB hg;replace HB:=sb_ HB hb;clear hb hbox hg) | ((with_reducible refine gate_dst (N:=3) rfl ?_);refine bx_ (N:=3) (cs:=#[.int .i64 a1_0,.int .i64 a1_1,.int .i64 a1_2,.int .i64 a1_3]) (t:=61) (h:=?_);intro gb225 hg w14 hbox hb;have BK225:=a0_ (hbox);have GW225:=gh_ HB hg;have GE225:=gh_ HB hg;have NB224_225:=nl_ BK224 hg;have NB225_224:=nr_ BK224 hg;replace BK224:=vb_ BK224 hb;replace HB:=sb_ HB hb;clear hb hbox hg))
 replace BK224:=a0_ (blk_drew BK224.out);replace BK225:=a0_ (blk_drew BK225.out);replace HB:=a0_ (below_drew1 HB.out);refine start_ (n:=18) (S:=fun w'=>w'.cell? ⟨gb224,0,none⟩=some (.int .i64 a0_0)∧w'.cell? ⟨gb224,1,none⟩=some (.int .i64 a0_1)∧w'.cell? ⟨gb224,2,none⟩=some (.int .i64 a0_2)∧w'.cell? ⟨gb224,3,none⟩=some (.int .i64 a0_3)∧w'.cell? ⟨gb225,0,none⟩=some (.int .i64 a1_0)∧w'.cell? ⟨gb225,1,none⟩=some (.int .i64 a1_1)∧w'.cell? ⟨gb225,2,none⟩=some (.int .i64 a1_2)∧w'.cell? ⟨gb225,3,none⟩=some (.int .i64 a1_3)) (ds:=[]) (Array.replicate 18 false) (by kernel_rfl) rfl rfl ⟨bc_,bc_,bc_,bc_,bc_,bc_,bc_,bc_⟩ (fun hHeld=>?_);refine with_tabW spec_l2Meet.tab1 spec_l2Meet.bits1 (fun HT_ HW_=>?_);generalize w14.drew=w15 at BK224 BK225 HB hHeld ⊢
 refine pu_ HT_ 0 7 (bm 18 1) ?_;refine pu_ HT_ 2 9 (bm 18 5) ?_;refine pu_ HT_ 4 11 (bm 18 21) ?_;refine pu_ HT_ 8 15 (bm 18 277) ?_;refine pu_ HT_ 10 17 (bm 18 1301) ?_;refine pu_ HT_ 12 19 (bm 18 5397) ?_;refine ta8_ HT_ HW_ 1 8 (bm 18 5399) hHeld ?_;refine ta8_ HT_ HW_ 3 10 (bm 18 5407) hHeld ?_;refine ta8_ HT_ HW_ 5 12 (bm 18 5439) hHeld ?_;refine ta8_ HT_ HW_ 9 16 (bm 18 5951) hHeld ?_;refine ta8_ HT_ HW_ 11 18 (bm 18 7999) hHeld ?_;refine ta8_ HT_ HW_ 13 20 (bm 18 16191) hHeld ?_;refine one_ (i:=6) (N:=some 13) (bm 18 16255) rfl rfl (one_of HT_.out (by kernel_rfl)) (by decide) (fun K hK=>?_);refine goes_ Tryd.func102 (by kernel_rfl) rfl #[.agg #[.int .i64 a0_0,.int .i64 a0_1],.agg #[.int .i64 a0_2,.int .i64 a0_3],.agg #[.int .i64 a1_0,.int .i64 a1_1]] (by rfl) rfl rfl ma_ ?_
 with_reducible refine (spec_l2Cross.calls a0_0 a0_1 a0_2 a0_3 a1_0 a1_1 t226 _ A3.out).mono ?_
 rintro e w16 ⟨rfl,hb⟩;refine⟨_,rfl,?_⟩;replace BK224:=vb_ BK224 hb;replace BK225:=vb_ BK225 hb;replace HB:=sb_ HB hb
 (try clear hb)
 (try clear hb2)
 (try clear hk)
 (try clear hi)
 refine hK.out _ _ ⟨bc_,bc_,bc_,bc_,bc_,bc_,bc_,bc_⟩ (fun hHeld=>?_);clear hK K;refine no_ (h:=?_);refine one_ (i:=7) (N:=some 14) (bm 18 16383) rfl rfl (one_of HT_.out (by kernel_rfl)) (by decide) (fun K hK=>?_);refine goes_ Tryd.func118 (by kernel_rfl) rfl #[.int .i64 t226] (by rfl) rfl rfl ma_ ?_
 with_reducible refine (spec_l2Sign.calls t226 t227 _ A4.out).mono ?_
 rintro e w' ⟨rfl,⟨nd,rfl⟩⟩;refine⟨_,rfl,?_⟩;refine hK.out _ _ ⟨bc_,bc_,bc_,bc_,bc_,bc_,bc_,bc_⟩ (fun hHeld=>?_);clear hK K;refine no_ (h:=?_);refine one_ (i:=14) (N:=some 21) (bm 18 32767) rfl rfl (one_of HT_.out (by kernel_rfl)) (by decide) (fun K hK=>?_);refine goes_ Tryd.func102 (by kernel_rfl) rfl #[.agg #[.int .i64 a0_0,.int .i64 a0_1],.agg #[.int .i64 a0_2,.int .i64 a0_3],.agg #[.int .i64 a1_2,.int .i64 a1_3]] (by rfl) rfl rfl ma_ ?_
 with_reducible refine (spec_l2Cross.calls a0_0 a0_1 a0_2 a0_3 a1_2 a1_3 t228 _ A5.out).mono ?_
 rintro e w17 ⟨rfl,hb⟩;refine⟨_,rfl,?_⟩;replace BK224:=vb_ BK224 hb;replace BK225:=vb_ BK225 hb;replace HB:=sb_ HB hb
 (try clear hb)
 (try clear hb2)
 (try clear hk)
 (try clear hi)
 refine hK.out _ _ ⟨bc_,bc_,bc_,bc_,bc_,bc_,bc_,bc_⟩ (fun hHeld=>?_);clear hK K;refine no_ (h:=?_);refine one_ (i:=15) (N:=some 22) (bm 18 65535) rfl rfl (one_of HT_.out (by kernel_rfl)) (by decide) (fun K hK=>?_);refine goes_ Tryd.func118 (by kernel_rfl) rfl #[.int .i64 t228] (by rfl) rfl rfl ma_ ?_
 with_reducible refine (spec_l2Sign.calls t228 t229 _ A6.out).mono ?_
 rintro e w' ⟨rfl,⟨nd,rfl⟩⟩;refine⟨_,rfl,?_⟩;refine hK.out _ _ ⟨bc_,bc_,bc_,bc_,bc_,bc_,bc_,bc_⟩ (fun hHeld=>?_);clear hK K;refine no_ (h:=?_);refine pu_ HT_ 16 23 (bm 18 131071) ?_;refine pu_ HT_ 17 5 (bm 18 262143) ?_;refine done_ (done_of HT_.out (by kernel_rfl)) ?_
 try go_wp2
 (try (rw [drewN_self w17];generalize hq_:World.drewN w17 _=w17;have n0_:Aside0 (w17.heap[gb224]?=some (.cells #[.int .i64 a0_0,.int .i64 a0_1,.int .i64 a0_2,.int .i64 a0_3] 61 (0,0))):=⟨by rw [← hq_];exact uq_⟩;have n1_:Aside0 (w17.heap[gb225]?=some (.cells #[.int .i64 a1_0,.int .i64 a1_1,.int .i64 a1_2,.int .i64 a1_3] 61 (0,0))):=⟨by rw [← hq_];exact uq_⟩;have n2_:Aside0 (Below w.heap.size w w17):=⟨by rw [← hq_];exact hB_⟩;clear BK224 BK225 HB hq_;have BK224:=n0_;have BK225:=n1_;have HB:=n2_;clear n0_ n1_ n2_))
 replace BK224:=a0_ (blk_drew BK224.out);replace BK225:=a0_ (blk_drew BK225.out);replace HB:=a0_ (below_drew1 HB.out);refine start_ (n:=18) (S:=fun w'=>w'.cell? ⟨gb225,0,none⟩=some (.int .i64 a1_0)∧w'.cell? ⟨gb225,1,none⟩=some (.int .i64 a1_1)∧w'.cell? ⟨gb225,2,none⟩=some (.int .i64 a1_2)∧w'.cell? ⟨gb225,3,none⟩=some (.int .i64 a1_3)∧w'.cell? ⟨gb224,0,none⟩=some (.int .i64 a0_0)∧w'.cell? ⟨gb224,1,none⟩=some (.int .i64 a0_1)∧w'.cell? ⟨gb224,2,none⟩=some (.int .i64 a0_2)∧w'.cell? ⟨gb224,3,none⟩=some (.int .i64 a0_3)) (ds:=[]) (Array.replicate 18 false) (by kernel_rfl) rfl rfl ⟨bc_,bc_,bc_,bc_,bc_,bc_,bc_,bc_⟩ (fun hHeld=>?_);refine with_tabW spec_l2Meet.tab2 spec_l2Meet.bits2 (fun HT_ HW_=>?_);generalize w17.drew=w18 at BK224 BK225 HB hHeld ⊢
 refine pu_ HT_ 0 24 (bm 18 1) ?_;refine pu_ HT_ 2 26 (bm 18 5) ?_;refine pu_ HT_ 4 28 (bm 18 21) ?_;refine pu_ HT_ 8 32 (bm 18 277) ?_;refine pu_ HT_ 10 34 (bm 18 1301) ?_;refine pu_ HT_ 12 36 (bm 18 5397) ?_;refine ta8_ HT_ HW_ 1 25 (bm 18 5399) hHeld ?_;refine ta8_ HT_ HW_ 3 27 (bm 18 5407) hHeld ?_;refine ta8_ HT_ HW_ 5 29 (bm 18 5439) hHeld ?_;refine ta8_ HT_ HW_ 9 33 (bm 18 5951) hHeld ?_;refine ta8_ HT_ HW_ 11 35 (bm 18 7999) hHeld ?_;refine ta8_ HT_ HW_ 13 37 (bm 18 16191) hHeld ?_;refine one_ (i:=6) (N:=some 30) (bm 18 16255) rfl rfl (one_of HT_.out (by kernel_rfl)) (by decide) (fun K hK=>?_);refine goes_ Tryd.func102 (by kernel_rfl) rfl #[.agg #[.int .i64 a1_0,.int .i64 a1_1],.agg #[.int .i64 a1_2,.int .i64 a1_3],.agg #[.int .i64 a0_0,.int .i64 a0_1]] (by rfl) rfl rfl ma_ ?_
 with_reducible refine (spec_l2Cross.calls a1_0 a1_1 a1_2 a1_3 a0_0 a0_1 t230 _ A7.out).mono ?_
 rintro e w19 ⟨rfl,hb⟩;refine⟨_,rfl,?_⟩;replace BK224:=vb_ BK224 hb;replace BK225:=vb_ BK225 hb;replace HB:=sb_ HB hb
 (try clear hb)
 (try clear hb2)
 (try clear hk)
 (try clear hi)
 refine hK.out _ _ ⟨bc_,bc_,bc_,bc_,bc_,bc_,bc_,bc_⟩ (fun hHeld=>?_);clear hK K;refine no_ (h:=?_);refine one_ (i:=7) (N:=some 31) (bm 18 16383) rfl rfl (one_of HT_.out (by kernel_rfl)) (by decide) (fun K hK=>?_);refine goes_ Tryd.func118 (by kernel_rfl) rfl #[.int .i64 t230] (by rfl) rfl rfl ma_ ?_
 with_reducible refine (spec_l2Sign.calls t230 t231 _ A8.out).mono ?_
 rintro e w' ⟨rfl,⟨nd,rfl⟩⟩;refine⟨_,rfl,?_⟩;refine hK.out _ _ ⟨bc_,bc_,bc_,bc_,bc_,bc_,bc_,bc_⟩ (fun hHeld=>?_);clear hK K;refine no_ (h:=?_);refine one_ (i:=14) (N:=some 38) (bm 18 32767) rfl rfl (one_of HT_.out (by kernel_rfl)) (by decide) (fun K hK=>?_);refine goes_ Tryd.func102 (by kernel_rfl) rfl #[.agg #[.int .i64 a1_0,.int .i64 a1_1],.agg #[.int .i64 a1_2,.int .i64 a1_3],.agg #[.int .i64 a0_2,.int .i64 a0_3]] (by rfl) rfl rfl ma_ ?_
 with_reducible refine (spec_l2Cross.calls a1_0 a1_1 a1_2 a1_3 a0_2 a0_3 t232 _ A9.out).mono ?_
 rintro e w20 ⟨rfl,hb⟩;refine⟨_,rfl,?_⟩;replace BK224:=vb_ BK224 hb;replace BK225:=vb_ BK225 hb;replace HB:=sb_ HB hb
 (try clear hb)
 (try clear hb2)
 (try clear hk)
 (try clear hi)
 refine hK.out _ _ ⟨bc_,bc_,bc_,bc_,bc_,bc_,bc_,bc_⟩ (fun hHeld=>?_);clear hK K;refine no_ (h:=?_);refine one_ (i:=15) (N:=some 39) (bm 18 65535) rfl rfl (one_of HT_.out (by kernel_rfl)) (by decide) (fun K hK=>?_);refine goes_ Tryd.func118 (by kernel_rfl) rfl #[.int .i64 t232] (by rfl) rfl rfl ma_ ?_
 with_reducible refine (spec_l2Sign.calls t232 t233 _ A10.out).mono ?_
 rintro e w' ⟨rfl,⟨nd,rfl⟩⟩;refine⟨_,rfl,?_⟩;refine hK.out _ _ ⟨bc_,bc_,bc_,bc_,bc_,bc_,bc_,bc_⟩ (fun hHeld=>?_);clear hK K;refine no_ (h:=?_);refine pu_ HT_ 16 40 (bm 18 131071) ?_;refine pu_ HT_ 17 6 (bm 18 262143) ?_;refine done_ (done_of HT_.out (by kernel_rfl)) ?_;by_cases c11:(wrap64 (t227*t229))<0
 ·
  rw [if_pos c11] at H;have c11b0:decide ((wrap64 (t227*t229))<0)=true:=decide_eq_true c11;clear c11;by_cases c12:(wrap64 (t231*t233))<0
  ·
   rw [if_pos c12] at H;have c12b0:decide ((wrap64 (t231*t233))<0)=true:=decide_eq_true c12;clear c12;obtain rfl:=Option.some.inj H
   try go_wp2
   go_ret;exact⟨rr_,hB_⟩
  ·
   rw [if_neg c12] at H;have c12b0:decide ((wrap64 (t231*t233))<0)=false:=decide_eq_false c12;clear c12;replace H:=Option.bind_eq_some_iff.mp H;obtain⟨t234,A210,H⟩:=H
   (try dsimp only at H)
   have A21:=Aside0.mk A210;clear A210;by_cases c22:t234=true
   ·
    subst c22;rw [if_pos rfl] at H
    (try dsimp only at H)
    obtain rfl:=Option.some.inj H;have hnb31:=NB224_225.out;have hnc31:=NB225_224.out;have hcz32_0:=c40_ BK224;have hcz32_1:=c41_ BK224;have hcz32_2:=c42_ BK224;have hcz32_3:=c43_ BK224;have hfz32_0:=fz_ BK224 0;have hfz32_1:=fz_ BK224 1;have hfz32_2:=fz_ BK224 2;have hfz32_3:=fz_ BK224 3;have hcz33_0:=c40_ BK225;have hcz33_1:=c41_ BK225;have hcz33_2:=c42_ BK225;have hcz33_3:=c43_ BK225;have hfz33_0:=fz_ BK225 0;have hfz33_1:=fz_ BK225 1;have hfz33_2:=fz_ BK225 2;have hfz33_3:=fz_ BK225 3
    try go_wp2_with (first | (go_at_call 100;(with_reducible refine (spec_l2Has.calls a0_0 a0_1 a0_2 a0_3 a1_0 a1_1 true _ A21.out).mono ?_);rintro e w34 ⟨rfl,hb⟩;replace BK224:=vb_ BK224 hb;replace BK225:=vb_ BK225 hb;replace HB:=sb_ HB hb;(try clear hb)))
    go_ret;exact⟨rr_,hB_⟩
   ·
    replace c22:=Bool.eq_false_iff.mpr c22;subst c22;rw [if_neg (show ¬ (false=true) by decide)] at H
    (try dsimp only at H)
    replace H:=Option.bind_eq_some_iff.mp H;obtain⟨t235,A350,H⟩:=H
    (try dsimp only at H)
    have A35:=Aside0.mk A350;clear A350;by_cases c36:t235=true
    ·
     subst c36;rw [if_pos rfl] at H
     (try dsimp only at H)
     obtain rfl:=Option.some.inj H;have hnb45:=NB224_225.out;have hnc45:=NB225_224.out;have hcz46_0:=c40_ BK224;have hcz46_1:=c41_ BK224;have hcz46_2:=c42_ BK224;have hcz46_3:=c43_ BK224;have hfz46_0:=fz_ BK224 0;have hfz46_1:=fz_ BK224 1;have hfz46_2:=fz_ BK224 2;have hfz46_3:=fz_ BK224 3;have hcz47_0:=c40_ BK225;have hcz47_1:=c41_ BK225;have hcz47_2:=c42_ BK225;have hcz47_3:=c43_ BK225;have hfz47_0:=fz_ BK225 0;have hfz47_1:=fz_ BK225 1;have hfz47_2:=fz_ BK225 2;have hfz47_3:=fz_ BK225 3
     try go_wp2_with (first | (go_at_call 100;(with_reducible refine (spec_l2Has.calls a0_0 a0_1 a0_2 a0_3 a1_0 a1_1 false _ A21.out).mono ?_);rintro e w48 ⟨rfl,hb⟩;replace BK224:=vb_ BK224 hb;replace BK225:=vb_ BK225 hb;replace HB:=sb_ HB hb;(try clear hb);have hcz49_0:=c40_ BK224;have hcz49_1:=c41_ BK224;have hcz49_2:=c42_ BK224;have hcz49_3:=c43_ BK224;have hfz49_0:=fz_ BK224 0;have hfz49_1:=fz_ BK224 1;have hfz49_2:=fz_ BK224 2;have hfz49_3:=fz_ BK224 3;have hcz50_0:=c40_ BK225;have hcz50_1:=c41_ BK225;have hcz50_2:=c42_ BK225;have hcz50_3:=c43_ BK225;have hfz50_0:=fz_ BK225 0;have hfz50_1:=fz_ BK225 1;have hfz50_2:=fz_ BK225 2;have hfz50_3:=fz_ BK225 3) | (go_at_call 100;(with_reducible refine (spec_l2Has.calls a0_0 a0_1 a0_2 a0_3 a1_2 a1_3 true _ A35.out).mono ?_);rintro e w51 ⟨rfl,hb⟩;replace BK224:=vb_ BK224 hb;replace BK225:=vb_ BK225 hb;replace HB:=sb_ HB hb;(try clear hb)))
     go_ret;exact⟨rr_,hB_⟩
    ·
     replace c36:=Bool.eq_false_iff.mpr c36;subst c36;rw [if_neg (show ¬ (false=true) by decide)] at H
     (try dsimp only at H)
     replace H:=Option.bind_eq_some_iff.mp H;obtain⟨t236,A520,H⟩:=H
     (try dsimp only at H)
     have A52:=Aside0.mk A520;clear A520;by_cases c53:t236=true
     ·
      subst c53;rw [if_pos rfl] at H
      (try dsimp only at H)
      obtain rfl:=Option.some.inj H;have hnb62:=NB224_225.out;have hnc62:=NB225_224.out;have hcz63_0:=c40_ BK224;have hcz63_1:=c41_ BK224;have hcz63_2:=c42_ BK224;have hcz63_3:=c43_ BK224;have hfz63_0:=fz_ BK224 0;have hfz63_1:=fz_ BK224 1;have hfz63_2:=fz_ BK224 2;have hfz63_3:=fz_ BK224 3;have hcz64_0:=c40_ BK225;have hcz64_1:=c41_ BK225;have hcz64_2:=c42_ BK225;have hcz64_3:=c43_ BK225;have hfz64_0:=fz_ BK225 0;have hfz64_1:=fz_ BK225 1;have hfz64_2:=fz_ BK225 2;have hfz64_3:=fz_ BK225 3
      try go_wp2_with (first | (go_at_call 100;(with_reducible refine (spec_l2Has.calls a0_0 a0_1 a0_2 a0_3 a1_0 a1_1 false _ A21.out).mono ?_);rintro e w65 ⟨rfl,hb⟩;replace BK224:=vb_ BK224 hb;replace BK225:=vb_ BK225 hb;replace HB:=sb_ HB hb;(try clear hb);have hcz66_0:=c40_ BK224;have hcz66_1:=c41_ BK224;have hcz66_2:=c42_ BK224;have hcz66_3:=c43_ BK224;have hfz66_0:=fz_ BK224 0;have hfz66_1:=fz_ BK224 1;have hfz66_2:=fz_ BK224 2;have hfz66_3:=fz_ BK224 3;have hcz67_0:=c40_ BK225;have hcz67_1:=c41_ BK225;have hcz67_2:=c42_ BK225;have hcz67_3:=c43_ BK225;have hfz67_0:=fz_ BK225 0;have hfz67_1:=fz_ BK225 1;have hfz67_2:=fz_ BK225 2;have hfz67_3:=fz_ BK225 3) | (go_at_call 100;(with_reducible refine (spec_l2Has.calls a0_0 a0_1 a0_2 a0_3 a1_2 a1_3 false _ A35.out).mono ?_);rintro e w68 ⟨rfl,hb⟩;replace BK224:=vb_ BK224 hb;replace BK225:=vb_ BK225 hb;replace HB:=sb_ HB hb;(try clear hb);have hcz69_0:=c40_ BK225;have hcz69_1:=c41_ BK225;have hcz69_2:=c42_ BK225;have hcz69_3:=c43_ BK225;have hfz69_0:=fz_ BK225 0;have hfz69_1:=fz_ BK225 1;have hfz69_2:=fz_ BK225 2;have hfz69_3:=fz_ BK225 3;have hcz70_0:=c40_ BK224;have hcz70_1:=c41_ BK224;have hcz70_2:=c42_ BK224;have hcz70_3:=c43_ BK224;have hfz70_0:=fz_ BK224 0;have hfz70_1:=fz_ BK224 1;have hfz70_2:=fz_ BK224 2;have hfz70_3:=fz_ BK224 3) | (go_at_call 100;(with_reducible refine (spec_l2Has.calls a1_0 a1_1 a1_2 a1_3 a0_0 a0_1 true _ A52.out).mono ?_);rintro e w71 ⟨rfl,hb⟩;replace BK224:=vb_ BK224 hb;replace BK225:=vb_ BK225 hb;replace HB:=sb_ HB hb;(try clear hb)))
      go_ret;exact⟨rr_,hB_⟩
     ·
      replace c53:=Bool.eq_false_iff.mpr c53;subst c53;rw [if_neg (show ¬ (false=true) by decide)] at H
      (try dsimp only at H)
      replace H:=Option.bind_eq_some_iff.mp H;obtain⟨t237,A720,H⟩:=H
      (try dsimp only at H)
      have A72:=Aside0.mk A720;clear A720;obtain rfl:=Option.some.inj H;have hnb81:=NB224_225.out;have hnc81:=NB225_224.out;have hcz82_0:=c40_ BK224;have hcz82_1:=c41_ BK224;have hcz82_2:=c42_ BK224;have hcz82_3:=c43_ BK224;have hfz82_0:=fz_ BK224 0;have hfz82_1:=fz_ BK224 1;have hfz82_2:=fz_ BK224 2;have hfz82_3:=fz_ BK224 3;have hcz83_0:=c40_ BK225;have hcz83_1:=c41_ BK225;have hcz83_2:=c42_ BK225;have hcz83_3:=c43_ BK225;have hfz83_0:=fz_ BK225 0;have hfz83_1:=fz_ BK225 1;have hfz83_2:=fz_ BK225 2;have hfz83_3:=fz_ BK225 3
      try go_wp2_with (first | (go_at_call 100;(with_reducible refine (spec_l2Has.calls a0_0 a0_1 a0_2 a0_3 a1_0 a1_1 false _ A21.out).mono ?_);rintro e w84 ⟨rfl,hb⟩;replace BK224:=vb_ BK224 hb;replace BK225:=vb_ BK225 hb;replace HB:=sb_ HB hb;(try clear hb);have hcz85_0:=c40_ BK224;have hcz85_1:=c41_ BK224;have hcz85_2:=c42_ BK224;have hcz85_3:=c43_ BK224;have hfz85_0:=fz_ BK224 0;have hfz85_1:=fz_ BK224 1;have hfz85_2:=fz_ BK224 2;have hfz85_3:=fz_ BK224 3;have hcz86_0:=c40_ BK225;have hcz86_1:=c41_ BK225;have hcz86_2:=c42_ BK225;have hcz86_3:=c43_ BK225;have hfz86_0:=fz_ BK225 0;have hfz86_1:=fz_ BK225 1;have hfz86_2:=fz_ BK225 2;have hfz86_3:=fz_ BK225 3) | (go_at_call 100;(with_reducible refine (spec_l2Has.calls a0_0 a0_1 a0_2 a0_3 a1_2 a1_3 false _ A35.out).mono ?_);rintro e w87 ⟨rfl,hb⟩;replace BK224:=vb_ BK224 hb;replace BK225:=vb_ BK225 hb;replace HB:=sb_ HB hb;(try clear hb);have hcz88_0:=c40_ BK225;have hcz88_1:=c41_ BK225;have hcz88_2:=c42_ BK225;have hcz88_3:=c43_ BK225;have hfz88_0:=fz_ BK225 0;have hfz88_1:=fz_ BK225 1;have hfz88_2:=fz_ BK225 2;have hfz88_3:=fz_ BK225 3;have hcz89_0:=c40_ BK224;have hcz89_1:=c41_ BK224;have hcz89_2:=c42_ BK224;have hcz89_3:=c43_ BK224;have hfz89_0:=fz_ BK224 0;have hfz89_1:=fz_ BK224 1;have hfz89_2:=fz_ BK224 2;have hfz89_3:=fz_ BK224 3) | (go_at_call 100;(with_reducible refine (spec_l2Has.calls a1_0 a1_1 a1_2 a1_3 a0_0 a0_1 false _ A52.out).mono ?_);rintro e w90 ⟨rfl,hb⟩;replace BK224:=vb_ BK224 hb;replace BK225:=vb_ BK225 hb;replace HB:=sb_ HB hb;(try clear hb);have hcz91_0:=c40_ BK225;have hcz91_1:=c41_ BK225;have hcz91_2:=c42_ BK225;have hcz91_3:=c43_ BK225;have hfz91_0:=fz_ BK225 0;have hfz91_1:=fz_ BK225 1;have hfz91_2:=fz_ BK225 2;have hfz91_3:=fz_ BK225 3;have hcz92_0:=c40_ BK224;have hcz92_1:=c41_ BK224;have hcz92_2:=c42_ BK224;have hcz92_3:=c43_ BK224;have hfz92_0:=fz_ BK224 0;have hfz92_1:=fz_ BK224 1;have hfz92_2:=fz_ BK224 2;have hfz92_3:=fz_ BK224 3) | (go_at_call 100;(with_reducible refine (spec_l2Has.calls a1_0 a1_1 a1_2 a1_3 a0_2 a0_3 t237 _ A72.out).mono ?_);rintro e w93 ⟨rfl,hb⟩;replace BK224:=vb_ BK224 hb;replace BK225:=vb_ BK225 hb;replace HB:=sb_ HB hb;(try clear hb)))
      go_ret;exact⟨rr_,hB_⟩
 ·
  rw [if_neg c11] at H;have c11b0:decide ((wrap64 (t227*t229))<0)=false:=decide_eq_false c11;clear c11;replace H:=Option.bind_eq_some_iff.mp H;obtain⟨t238,A940,H⟩:=H
  (try dsimp only at H)
  have A94:=Aside0.mk A940;clear A940;by_cases c95:t238=true
  ·
   subst c95;rw [if_pos rfl] at H
   (try dsimp only at H)
   obtain rfl:=Option.some.inj H;have hnb104:=NB224_225.out;have hnc104:=NB225_224.out;have hcz105_0:=c40_ BK224;have hcz105_1:=c41_ BK224;have hcz105_2:=c42_ BK224;have hcz105_3:=c43_ BK224;have hfz105_0:=fz_ BK224 0;have hfz105_1:=fz_ BK224 1;have hfz105_2:=fz_ BK224 2;have hfz105_3:=fz_ BK224 3;have hcz106_0:=c40_ BK225;have hcz106_1:=c41_ BK225;have hcz106_2:=c42_ BK225;have hcz106_3:=c43_ BK225;have hfz106_0:=fz_ BK225 0;have hfz106_1:=fz_ BK225 1;have hfz106_2:=fz_ BK225 2;have hfz106_3:=fz_ BK225 3
   try go_wp2_with (first | (go_at_call 100;(with_reducible refine (spec_l2Has.calls a0_0 a0_1 a0_2 a0_3 a1_0 a1_1 true _ A94.out).mono ?_);rintro e w107 ⟨rfl,hb⟩;replace BK224:=vb_ BK224 hb;replace BK225:=vb_ BK225 hb;replace HB:=sb_ HB hb;(try clear hb)))
   go_ret;exact⟨rr_,hB_⟩
  ·
   replace c95:=Bool.eq_false_iff.mpr c95;subst c95;rw [if_neg (show ¬ (false=true) by decide)] at H
   (try dsimp only at H)
   replace H:=Option.bind_eq_some_iff.mp H;obtain⟨t239,A1080,H⟩:=H
   (try dsimp only at H)
   have A108:=Aside0.mk A1080;clear A1080;by_cases c109:t239=true
   ·
    subst c109;rw [if_pos rfl] at H
    (try dsimp only at H)
    obtain rfl:=Option.some.inj H;have hnb118:=NB224_225.out;have hnc118:=NB225_224.out;have hcz119_0:=c40_ BK224;have hcz119_1:=c41_ BK224;have hcz119_2:=c42_ BK224;have hcz119_3:=c43_ BK224;have hfz119_0:=fz_ BK224 0;have hfz119_1:=fz_ BK224 1;have hfz119_2:=fz_ BK224 2;have hfz119_3:=fz_ BK224 3;have hcz120_0:=c40_ BK225;have hcz120_1:=c41_ BK225;have hcz120_2:=c42_ BK225;have hcz120_3:=c43_ BK225;have hfz120_0:=fz_ BK225 0;have hfz120_1:=fz_ BK225 1;have hfz120_2:=fz_ BK225 2;have hfz120_3:=fz_ BK225 3
    try go_wp2_with (first | (go_at_call 100;(with_reducible refine (spec_l2Has.calls a0_0 a0_1 a0_2 a0_3 a1_0 a1_1 false _ A94.out).mono ?_);rintro e w121 ⟨rfl,hb⟩;replace BK224:=vb_ BK224 hb;replace BK225:=vb_ BK225 hb;replace HB:=sb_ HB hb;(try clear hb);have hcz122_0:=c40_ BK224;have hcz122_1:=c41_ BK224;have hcz122_2:=c42_ BK224;have hcz122_3:=c43_ BK224;have hfz122_0:=fz_ BK224 0;have hfz122_1:=fz_ BK224 1;have hfz122_2:=fz_ BK224 2;have hfz122_3:=fz_ BK224 3;have hcz123_0:=c40_ BK225;have hcz123_1:=c41_ BK225;have hcz123_2:=c42_ BK225;have hcz123_3:=c43_ BK225;have hfz123_0:=fz_ BK225 0;have hfz123_1:=fz_ BK225 1;have hfz123_2:=fz_ BK225 2;have hfz123_3:=fz_ BK225 3) | (go_at_call 100;(with_reducible refine (spec_l2Has.calls a0_0 a0_1 a0_2 a0_3 a1_2 a1_3 true _ A108.out).mono ?_);rintro e w124 ⟨rfl,hb⟩;replace BK224:=vb_ BK224 hb;replace BK225:=vb_ BK225 hb;replace HB:=sb_ HB hb;(try clear hb)))
    go_ret;exact⟨rr_,hB_⟩
   ·
    replace c109:=Bool.eq_false_iff.mpr c109;subst c109;rw [if_neg (show ¬ (false=true) by decide)] at H
    (try dsimp only at H)
    replace H:=Option.bind_eq_some_iff.mp H;obtain⟨t240,A1250,H⟩:=H
    (try dsimp only at H)
    have A125:=Aside0.mk A1250;clear A1250;by_cases c126:t240=true
    ·
     subst c126;rw [if_pos rfl] at H
     (try dsimp only at H)
     obtain rfl:=Option.some.inj H;have hnb135:=NB224_225.out;have hnc135:=NB225_224.out;have hcz136_0:=c40_ BK224;have hcz136_1:=c41_ BK224;have hcz136_2:=c42_ BK224;have hcz136_3:=c43_ BK224;have hfz136_0:=fz_ BK224 0;have hfz136_1:=fz_ BK224 1;have hfz136_2:=fz_ BK224 2;have hfz136_3:=fz_ BK224 3;have hcz137_0:=c40_ BK225;have hcz137_1:=c41_ BK225;have hcz137_2:=c42_ BK225;have hcz137_3:=c43_ BK225;have hfz137_0:=fz_ BK225 0;have hfz137_1:=fz_ BK225 1;have hfz137_2:=fz_ BK225 2;have hfz137_3:=fz_ BK225 3
     try go_wp2_with (first | (go_at_call 100;(with_reducible refine (spec_l2Has.calls a0_0 a0_1 a0_2 a0_3 a1_0 a1_1 false _ A94.out).mono ?_);rintro e w138 ⟨rfl,hb⟩;replace BK224:=vb_ BK224 hb;replace BK225:=vb_ BK225 hb;replace HB:=sb_ HB hb;(try clear hb);have hcz139_0:=c40_ BK224;have hcz139_1:=c41_ BK224;have hcz139_2:=c42_ BK224;have hcz139_3:=c43_ BK224;have hfz139_0:=fz_ BK224 0;have hfz139_1:=fz_ BK224 1;have hfz139_2:=fz_ BK224 2;have hfz139_3:=fz_ BK224 3;have hcz140_0:=c40_ BK225;have hcz140_1:=c41_ BK225;have hcz140_2:=c42_ BK225;have hcz140_3:=c43_ BK225;have hfz140_0:=fz_ BK225 0;have hfz140_1:=fz_ BK225 1;have hfz140_2:=fz_ BK225 2;have hfz140_3:=fz_ BK225 3) | (go_at_call 100;(with_reducible refine (spec_l2Has.calls a0_0 a0_1 a0_2 a0_3 a1_2 a1_3 false _ A108.out).mono ?_);rintro e w141 ⟨rfl,hb⟩;replace BK224:=vb_ BK224 hb;replace BK225:=vb_ BK225 hb;replace HB:=sb_ HB hb;(try clear hb);have hcz142_0:=c40_ BK225;have hcz142_1:=c41_ BK225;have hcz142_2:=c42_ BK225;have hcz142_3:=c43_ BK225;have hfz142_0:=fz_ BK225 0;have hfz142_1:=fz_ BK225 1;have hfz142_2:=fz_ BK225 2;have hfz142_3:=fz_ BK225 3;have hcz143_0:=c40_ BK224;have hcz143_1:=c41_ BK224;have hcz143_2:=c42_ BK224;have hcz143_3:=c43_ BK224;have hfz143_0:=fz_ BK224 0;have hfz143_1:=fz_ BK224 1;have hfz143_2:=fz_ BK224 2;have hfz143_3:=fz_ BK224 3) | (go_at_call 100;(with_reducible refine (spec_l2Has.calls a1_0 a1_1 a1_2 a1_3 a0_0 a0_1 true _ A125.out).mono ?_);rintro e w144 ⟨rfl,hb⟩;replace BK224:=vb_ BK224 hb;replace BK225:=vb_ BK225 hb;replace HB:=sb_ HB hb;(try clear hb)))
     go_ret;exact⟨rr_,hB_⟩
    ·
     replace c126:=Bool.eq_false_iff.mpr c126;subst c126;rw [if_neg (show ¬ (false=true) by decide)] at H
     (try dsimp only at H)
     replace H:=Option.bind_eq_some_iff.mp H;obtain⟨t241,A1450,H⟩:=H
     (try dsimp only at H)
     have A145:=Aside0.mk A1450;clear A1450;obtain rfl:=Option.some.inj H;have hnb154:=NB224_225.out;have hnc154:=NB225_224.out;have hcz155_0:=c40_ BK224;have hcz155_1:=c41_ BK224;have hcz155_2:=c42_ BK224;have hcz155_3:=c43_ BK224;have hfz155_0:=fz_ BK224 0;have hfz155_1:=fz_ BK224 1;have hfz155_2:=fz_ BK224 2;have hfz155_3:=fz_ BK224 3;have hcz156_0:=c40_ BK225;have hcz156_1:=c41_ BK225;have hcz156_2:=c42_ BK225;have hcz156_3:=c43_ BK225;have hfz156_0:=fz_ BK225 0;have hfz156_1:=fz_ BK225 1;have hfz156_2:=fz_ BK225 2;have hfz156_3:=fz_ BK225 3
     try go_wp2_with (first | (go_at_call 100;(with_reducible refine (spec_l2Has.calls a0_0 a0_1 a0_2 a0_3 a1_0 a1_1 false _ A94.out).mono ?_);rintro e w157 ⟨rfl,hb⟩;replace BK224:=vb_ BK224 hb;replace BK225:=vb_ BK225 hb;replace HB:=sb_ HB hb;(try clear hb);have hcz158_0:=c40_ BK224;have hcz158_1:=c41_ BK224;have hcz158_2:=c42_ BK224;have hcz158_3:=c43_ BK224;have hfz158_0:=fz_ BK224 0;have hfz158_1:=fz_ BK224 1;have hfz158_2:=fz_ BK224 2;have hfz158_3:=fz_ BK224 3;have hcz159_0:=c40_ BK225;have hcz159_1:=c41_ BK225;have hcz159_2:=c42_ BK225;have hcz159_3:=c43_ BK225;have hfz159_0:=fz_ BK225 0;have hfz159_1:=fz_ BK225 1;have hfz159_2:=fz_ BK225 2;have hfz159_3:=fz_ BK225 3) | (go_at_call 100;(with_reducible refine (spec_l2Has.calls a0_0 a0_1 a0_2 a0_3 a1_2 a1_3 false _ A108.out).mono ?_);rintro e w160 ⟨rfl,hb⟩;replace BK224:=vb_ BK224 hb;replace BK225:=vb_ BK225 hb;replace HB:=sb_ HB hb;(try clear hb);have hcz161_0:=c40_ BK225;have hcz161_1:=c41_ BK225;have hcz161_2:=c42_ BK225;have hcz161_3:=c43_ BK225;have hfz161_0:=fz_ BK225 0;have hfz161_1:=fz_ BK225 1;have hfz161_2:=fz_ BK225 2;have hfz161_3:=fz_ BK225 3;have hcz162_0:=c40_ BK224;have hcz162_1:=c41_ BK224;have hcz162_2:=c42_ BK224;have hcz162_3:=c43_ BK224;have hfz162_0:=fz_ BK224 0;have hfz162_1:=fz_ BK224 1;have hfz162_2:=fz_ BK224 2;have hfz162_3:=fz_ BK224 3) | (go_at_call 100;(with_reducible refine (spec_l2Has.calls a1_0 a1_1 a1_2 a1_3 a0_0 a0_1 false _ A125.out).mono ?_);rintro e w163 ⟨rfl,hb⟩;replace BK224:=vb_ BK224 hb;replace BK225:=vb_ BK225 hb;replace HB:=sb_ HB hb;(try clear hb);have hcz164_0:=c40_ BK225;have hcz164_1:=c41_ BK225;have hcz164_2:=c42_ BK225;have hcz164_3:=c43_ BK225;have hfz164_0:=fz_ BK225 0;have hfz164_1:=fz_ BK225 1;have hfz164_2:=fz_ BK225 2;have hfz164_3:=fz_ BK225 3;have hcz165_0:=c40_ BK224;have hcz165_1:=c41_ BK224;have hcz165_2:=c42_ BK224;have hcz165_3:=c43_ BK224;have hfz165_0:=fz_ BK224 0;have hfz165_1:=fz_ BK224 1;have hfz165_2:=fz_ BK224 2;have hfz165_3:=fz_ BK224 3) | (go_at_call 100;(with_reducible refine (spec_l2Has.calls a1_0 a1_1 a1_2 a1_3 a0_2 a0_3 t241 _ A145.out).mono ?_);rintro e w166 ⟨rfl,hb⟩;replace BK224:=vb_ BK224 hb;replace BK225:=vb_ BK225 hb;replace HB:=sb_ HB hb;(try clear hb)))
     go_ret;exact⟨rr_,hB_⟩
end Go.Proofs.YtkefmnmoaomlhaaDoor.X
end
section
set_option linter.unusedVariables false
set_option linter.unusedSimpArgs false
namespace Go.Proofs.YtkefmnmoaomlhaaDoor.X
open Go.RowKit Go.Proofs.YtkefmnmoaomlhaaDoorW.PrintWords Go.Proofs.YtkefmnmoaomlhaaDoorW.PrintLast Go.Proofs.YtkefmnmoaomlhaaDoorW.PrintMore
open Mort
theorem sMeet {a b c d e f g h:Int}(o1:ptOk (a,b)=true)(o2:ptOk (c,d)=true)(o3:ptOk (e,f)=true)(o4:ptOk (g,h)=true):
  spec_l2Meet.f a b c d e f g h=some (meet ((a,b),(c,d)) ((e,f),(g,h))):=by
 unfold spec_l2Meet.f meet;simp only [sCross o1 o2 o3,sCross o1 o2 o4,sCross o3 o4 o1,sCross o3 o4 o2,sSign,sHas o1 o2 o3,sHas o1 o2 o4,sHas o3 o4 o1,sHas o3 o4 o2,Option.bind_some,turn_mul];by_cases z1:sgn (cross (a,b) (c,d) (e,f))*sgn (cross (a,b) (c,d) (g,h))<0 <;>
 by_cases z2:sgn (cross (e,f) (g,h) (a,b))*sgn (cross (e,f) (g,h) (c,d))<0 <;>
 cases has ((a,b),(c,d)) (e,f) <;> cases has ((a,b),(c,d)) (g,h) <;> cases has ((e,f),(g,h)) (a,b) <;> cases has ((e,f),(g,h)) (c,d) <;> simp [z1,z2]
end Go.Proofs.YtkefmnmoaomlhaaDoor.X
end
section
namespace Go.Proofs.YtkefmnmoaomlhaaDoor.X
open Go.RowKit Go.Proofs.YtkefmnmoaomlhaaDoorW.PrintWords Go.Proofs.YtkefmnmoaomlhaaDoorW.PrintLast Go.Proofs.YtkefmnmoaomlhaaDoorW.PrintMore
attribute [local go_sem] max2_int min2_int max_two min_two max_three min_three max_four min_four
set_option linter.unusedVariables false
set_option linter.unusedSimpArgs false
mutual
def spec_l11Apart.l0:Nat→List (S61)→List (S61)→Int→Option (Bool)
 | 0,_,_,_=>none
 | k+1,x5,x6,x7=>if x7<(x5.length:Int) then (spec_l11Apart.l1 k x5 x6 x7 0) else (some true)
def spec_l11Apart.l1:Nat→List (S61)→List (S61)→Int→Int→Option (Bool)
 | 0,_,_,_,_=>none
 | k+1,x5,x6,x7,x8=>if x8<(x6.length:Int) then (if 0≤x7 then (if x7<(x5.length:Int) then (if 0≤x8 then ((spec_l2Meet.f ((rd_T61 x5 x7).f0.f0) ((rd_T61 x5 x7).f0.f1) ((rd_T61 x5 x7).f1.f0) ((rd_T61 x5 x7).f1.f1) ((rd_T61 x6 x8).f0.f0) ((rd_T61 x6 x8).f0.f1) ((rd_T61 x6 x8).f1.f0) ((rd_T61 x6 x8).f1.f1)).bind fun t176=>(if t176=true then (some false) else (spec_l11Apart.l1 k x5 x6 x7 (wrap64 (x8+1))))) else (none)) else (none)) else (none)) else (spec_l11Apart.l0 k x5 x6 (wrap64 (x7+1)))
end
def spec_l11Apart.f (k:Nat)(l0:List (S28))(l1:List (S28)):Option (Bool):=(spec_l3Edges.f k l0).bind fun t168=>((spec_l3Edges.f k l1).bind fun t171=>(spec_l11Apart.l0 k t168 t171 0))
def spec_l11Apart.T9:Bool × List (List Nat × List Nat):=(true,[([],[]),([],[]),([0,1],[0,1]),([2],[2]),([],[]),([],[]),([4,5],[4,5]),([6],[6]),([3,7],[3,7])])
def spec_l11Apart.B9:List Nat:=[0,0,3,7,0,0,48,112,255]
theorem spec_l11Apart.tab9:rtab .any (opsOf Tryd.f57 9)=spec_l11Apart.T9:=by kernel_rfl
theorem spec_l11Apart.bits9:waitsOk spec_l11Apart.T9.2 spec_l11Apart.B9=true:=by kernel_rfl
set_option maxHeartbeats 8000000 in
set_option maxRecDepth 100000 in
theorem spec_l11Apart.calls (k:Nat)(A0:Option Addr)(c0:Nat)(l0:List (S28))(A1:Option Addr)(c1:Nat)(l1:List (S28))(r:Bool)(w:World)(hr0:Kd.C k28 w A0 l0.length l0)(hc0:l0.length≤c0)(hr1:Kd.C k28 w A1 l1.length l1)(hc1:l1.length≤c1)(h:spec_l11Apart.f k l0 l1=some r):
  Calls Tryd.prog 57 #[.slice A0 l0.length c0,.slice A1 l1.length c1] w fun e w'=>e=.returned (.bool r)∧Below w.heap.size w w':=by
 have hu61:=Tryd.underlying61;have HR0:=Aside0.mk hr0;have HC0:=Aside0.mk hc0;clear hr0 hc0;have HR1:=Aside0.mk hr1;have HC1:=Aside0.mk hc1;clear hr1 hc1;have HB:=a0_ (Below.refl w.heap.size w);have H:((spec_l3Edges.f k l0).bind fun t168=>((spec_l3Edges.f k l1).bind fun t171=>(spec_l11Apart.l0 k t168 t171 0)))=some r:=h;clear h;replace H:=Option.bind_eq_some_iff.mp H;obtain⟨t168,A30,H⟩:=H
 (try dsimp only at H)
 have A3:=Aside0.mk A30;clear A30;replace H:=Option.bind_eq_some_iff.mp H;obtain⟨t171,A40,H⟩:=H
 (try dsimp only at H)
 have A4:=Aside0.mk A40;clear A40;have H':=Aside0.mk H;clear H;go_enter Tryd.func57,Tryd.ntmps57;go_wp2_with (first | ((with_reducible refine gate_callee (f:=98) rfl ?_);refine gL_ (some 10) Tryd.func98 #[.slice A0 l0.length c0] (h:=?_);(with_reducible refine (spec_l3Edges.calls k _ _ l0 t168 _ ?side1 ?side2 A3.out).mono ?_);(case side1=>repeat (first | exact HR0.out | (with_reducible refine Kd.C_alloc ?_ _) | (with_reducible refine Kd.C_drewN ?_ _) | (with_reducible refine Kd.C_drew ?_)));(case side2=>exact HC0.out);rintro e w5 ⟨v169,rfl,ho0,hb⟩;refine⟨_,rfl,?_⟩;have HO170:=a0_ (Kd.R_lower ho0 (below_size hB_));replace HB:=sb_ HB hb;(try clear ho0 hb)) | ((with_reducible refine gate_callee (f:=98) rfl ?_);refine gL_ (some 12) Tryd.func98 #[.slice A1 l1.length c1] (h:=?_);(with_reducible refine (spec_l3Edges.calls k _ _ l1 t171 _ ?side1 ?side2 A4.out).mono ?_);(case side1=>repeat (first | exact (Kd.C_below HR1.out HB.out) | (with_reducible refine Kd.C_alloc ?_ _) | (with_reducible refine Kd.C_drewN ?_ _) | (with_reducible refine Kd.C_drew ?_)));(case side2=>exact HC1.out);rintro e w6 ⟨v172,rfl,ho0,hb⟩;refine⟨_,rfl,?_⟩;have HO173:=a0_ (Kd.R_lower (Kd.R_new' ho0 (Kd.R_lt (uR_ HO170))) (below_size hB_));replace HO170:=a0_ (Kd.R_elder' (uR_ HO170) (Kd.R_base ho0) hb);replace HB:=sb_ HB hb;(try clear ho0 hb)));go_loopg [7] k (fun kq v7 w'=>∃ (x7_1:Int),v7=.int .i64 x7_1∧Aside0 (spec_l11Apart.l0 kq t168 t171 x7_1=some r)∧Aside0 (kq≤k)∧Aside0 (Kd.R k61 61 w' w.heap.size (fun k_=>some k_≠(v172:Value).ownBlock) v169 t168)∧Aside0 (Kd.R k61 61 w' w.heap.size (fun k_=>some k_≠(v169:Value).ownBlock) v172 t171)∧Aside0 (Below w.heap.size w w'))
 case atStart=>exact⟨(0),(by first | rfl | (simp;done) | (simp [*];done)),H',⟨Nat.le_refl _⟩,⟨by (with_reducible repeat (first | apply Kd.R_alloc | apply Kd.R_drewN | apply Kd.R_drew));exact Kd.R_mono HO170.out (fun _ hk=>hk.2)⟩,⟨by (with_reducible repeat (first | apply Kd.R_alloc | apply Kd.R_drewN | apply Kd.R_drew));exact Kd.R_mono HO173.out (fun _ hk=>hk.2)⟩,⟨hB_⟩⟩
 case round =>
  clear H';obtain⟨x7_1,rfl,HA,HK1,HO_5,HO_6,HB⟩:=hrel
  cases gk with
  | zero=>exact absurd HA.out (by simp [spec_l11Apart.l0])
  | succ k1 =>
   have H:=HA.out;clear HA;simp only [spec_l11Apart.l0] at H;by_cases c7:x7_1<(t168.length:Int)
   ·
    rw [if_pos c7] at H;have c7b0:decide (x7_1<(t168.length:Int))=true:=decide_eq_true c7;clear c7;have H':=Aside0.mk H;clear H;obtain⟨Ao8,co8,eo8⟩:=Kd.R_slice HO_5.out;subst eo8;go_wp2;go_loopg [8] k1 (fun kq v8 w'=>∃ (x8_2:Int),v8=.int .i64 x8_2∧Aside0 (spec_l11Apart.l1 kq t168 t171 x7_1 x8_2=some r)∧Aside0 (kq≤k1)∧Aside0 (Kd.R k61 61 w' w.heap.size (fun k_=>some k_≠(v172:Value).ownBlock) (.slice Ao8 t168.length co8) t168)∧Aside0 (Kd.R k61 61 w' w.heap.size (fun k_=>some k_≠((.slice Ao8 t168.length co8):Value).ownBlock) v172 t171)∧Aside0 (Below w.heap.size w w'))
    case atStart=>exact⟨(0),(by first | rfl | (simp;done) | (simp [*];done)),H',⟨Nat.le_refl _⟩,⟨by (with_reducible repeat (first | apply Kd.R_alloc | apply Kd.R_drewN | apply Kd.R_drew));exact HO_5.out⟩,⟨by (with_reducible repeat (first | apply Kd.R_alloc | apply Kd.R_drewN | apply Kd.R_drew));exact HO_6.out⟩,⟨hB_⟩⟩
    case round =>
     clear H';obtain⟨x8_2,rfl,HA,HK2,HO_5,HO_6,HB⟩:=hrel
     cases gk with
     | zero=>exact absurd HA.out (by simp [spec_l11Apart.l1])
     | succ k2 =>
      have H:=HA.out;clear HA;simp only [spec_l11Apart.l1] at H;by_cases c9:x8_2<(t171.length:Int)
      ·
       rw [if_pos c9] at H;have c9b0:decide (x8_2<(t171.length:Int))=true:=decide_eq_true c9;clear c9;by_cases c10:0≤x7_1
       ·
        rw [if_pos c10] at H;have c10b0:decide (0≤x7_1)=true:=decide_eq_true c10;clear c10;by_cases c11:x7_1<(t168.length:Int)
        ·
         rw [if_pos c11] at H;have c11b0:decide (x7_1<(t168.length:Int))=true:=decide_eq_true c11;clear c11;by_cases c12:0≤x8_2
         ·
          rw [if_pos c12] at H;have c12b0:decide (0≤x8_2)=true:=decide_eq_true c12;clear c12;replace H:=Option.bind_eq_some_iff.mp H;obtain⟨t176,A130,H⟩:=H
          (try dsimp only at H)
          have A13:=Aside0.mk A130;clear A130;by_cases c14:t176=true
          ·
           subst c14;rw [if_pos rfl] at H
           (try dsimp only at H)
           obtain rfl:=Option.some.inj H;obtain⟨Ao15,co15,eo15⟩:=Kd.R_slice HO_6.out;subst eo15
           try go_wp2
           replace HO_5:=a0_ (Kd.R_drew HO_5.out);replace HO_6:=a0_ (Kd.R_drew HO_6.out);replace HB:=a0_ (below_drew1 HB.out);have p174:0≤(x7_1:Int):=od_;have q174:x7_1<(t168.length:Int):=od_;obtain⟨ad174,e174,hx174_0,hx174_1,hx174_2,hx174_3⟩:=at_T61 (Kd.R_reads' HO_5.out).2.2 x7_1 p174 q174;cases e174;replace p174:=eq_true p174;replace q174:=eq_true q174;have p175:0≤(x8_2:Int):=od_;have q175:x8_2<(t171.length:Int):=od_;obtain⟨ad175,e175,hx175_0,hx175_1,hx175_2,hx175_3⟩:=at_T61 (Kd.R_reads' HO_6.out).2.2 x8_2 p175 q175;cases e175;replace p175:=eq_true p175;replace q175:=eq_true q175;refine start_ (n:=9) (S:=fun w'=>w'.cell? (ad174.add ((x7_1).toNat*4))=some (.int .i64 ((rd_T61 t168 x7_1).f0.f0))∧w'.cell? ⟨(ad174.add ((x7_1).toNat*4)).block,(ad174.add ((x7_1).toNat*4)).off+1,none⟩=some (.int .i64 ((rd_T61 t168 x7_1).f0.f1))∧w'.cell? ⟨(ad174.add ((x7_1).toNat*4)).block,(ad174.add ((x7_1).toNat*4)).off+2,none⟩=some (.int .i64 ((rd_T61 t168 x7_1).f1.f0))∧w'.cell? ⟨(ad174.add ((x7_1).toNat*4)).block,(ad174.add ((x7_1).toNat*4)).off+3,none⟩=some (.int .i64 ((rd_T61 t168 x7_1).f1.f1))∧w'.cell? (ad175.add ((x8_2).toNat*4))=some (.int .i64 ((rd_T61 t171 x8_2).f0.f0))∧w'.cell? ⟨(ad175.add ((x8_2).toNat*4)).block,(ad175.add ((x8_2).toNat*4)).off+1,none⟩=some (.int .i64 ((rd_T61 t171 x8_2).f0.f1))∧w'.cell? ⟨(ad175.add ((x8_2).toNat*4)).block,(ad175.add ((x8_2).toNat*4)).off+2,none⟩=some (.int .i64 ((rd_T61 t171 x8_2).f1.f0))∧w'.cell? ⟨(ad175.add ((x8_2).toNat*4)).block,(ad175.add ((x8_2).toNat*4)).off+3,none⟩=some (.int .i64 ((rd_T61 t171 x8_2).f1.f1))) (ds:=[]) (Array.replicate 9 false) (by kernel_rfl) rfl rfl ⟨hx174_0,hx174_1,hx174_2,hx174_3,hx175_0,hx175_1,hx175_2,hx175_3⟩ (fun hHeld=>?_);refine with_tabW spec_l11Apart.tab9 spec_l11Apart.bits9 (fun HT_ HW_=>?_)
           generalize wr.drew=w16 at HO_5 HO_6 HB hx174_0 hx174_1 hx174_2 hx174_3 hx175_0 hx175_1 hx175_2 hx175_3 hHeld ⊢
           refine pu_ HT_ 0 25 (bm 9 1) ?_;refine pu_ HT_ 1 26 (bm 9 3) ?_;refine pu_ HT_ 2 27 (bm 9 7) ?_;refine pu_ HT_ 4 29 (bm 9 23) ?_;refine pu_ HT_ 5 30 (bm 9 55) ?_;refine pu_ HT_ 6 31 (bm 9 119) ?_;refine ta8_ HT_ HW_ 3 28 (bm 9 127) hHeld ?_;refine ta8_ HT_ HW_ 7 32 (bm 9 255) hHeld ?_;refine one_ (i:=8) (N:=some 33) (bm 9 511) rfl rfl (one_of HT_.out (by kernel_rfl)) (by decide) (fun K hK=>?_);refine goes_ Tryd.func101 (by kernel_rfl) rfl #[.agg #[.int .i64 ((rd_T61 t168 x7_1).f0.f0),.int .i64 ((rd_T61 t168 x7_1).f0.f1),.int .i64 ((rd_T61 t168 x7_1).f1.f0),.int .i64 ((rd_T61 t168 x7_1).f1.f1)],.agg #[.int .i64 ((rd_T61 t171 x8_2).f0.f0),.int .i64 ((rd_T61 t171 x8_2).f0.f1),.int .i64 ((rd_T61 t171 x8_2).f1.f0),.int .i64 ((rd_T61 t171 x8_2).f1.f1)]] (by rfl) rfl rfl ma_ ?_
           with_reducible refine (spec_l2Meet.calls ((rd_T61 t168 x7_1).f0.f0) ((rd_T61 t168 x7_1).f0.f1) ((rd_T61 t168 x7_1).f1.f0) ((rd_T61 t168 x7_1).f1.f1) ((rd_T61 t171 x8_2).f0.f0) ((rd_T61 t171 x8_2).f0.f1) ((rd_T61 t171 x8_2).f1.f0) ((rd_T61 t171 x8_2).f1.f1) true _ A13.out).mono ?_
           rintro e w17 ⟨rfl,hb⟩;have HS0_:=pw_cell_below hb hHeld.1;have HS1_:=pw_cell_below hb hHeld.2.1;have HS2_:=pw_cell_below hb hHeld.2.2.1;have HS3_:=pw_cell_below hb hHeld.2.2.2.1;have HS4_:=pw_cell_below hb hHeld.2.2.2.2.1;have HS5_:=pw_cell_below hb hHeld.2.2.2.2.2.1;have HS6_:=pw_cell_below hb hHeld.2.2.2.2.2.2.1;have HS7_:=pw_cell_below hb hHeld.2.2.2.2.2.2.2;refine⟨_,rfl,?_⟩;replace HO_5:=rb_ HO_5 hb;replace HO_6:=rb_ HO_6 hb;replace HB:=sb_ HB hb
           (try clear hb)
           (try clear hb2)
           (try clear hk)
           (try clear hi)
           refine hK.out _ _ ⟨HS0_,HS1_,HS2_,HS3_,HS4_,HS5_,HS6_,HS7_⟩ (fun hHeld=>?_);clear hK K;refine no_ (h:=?_);refine done_ (done_of HT_.out (by kernel_rfl)) ?_
           try go_wp2
           go_ret;exact⟨rr_,hB_⟩
          ·
           replace c14:=Bool.eq_false_iff.mpr c14;subst c14;rw [if_neg (show ¬ (false=true) by decide)] at H
           (try dsimp only at H)
           have H':=Aside0.mk H;clear H;obtain⟨Ao18,co18,eo18⟩:=Kd.R_slice HO_6.out;subst eo18
           try go_wp2
           replace HO_5:=a0_ (Kd.R_drew HO_5.out);replace HO_6:=a0_ (Kd.R_drew HO_6.out);replace HB:=a0_ (below_drew1 HB.out);have p174:0≤(x7_1:Int):=od_;have q174:x7_1<(t168.length:Int):=od_;obtain⟨ad174,e174,hx174_0,hx174_1,hx174_2,hx174_3⟩:=at_T61 (Kd.R_reads' HO_5.out).2.2 x7_1 p174 q174;cases e174;replace p174:=eq_true p174;replace q174:=eq_true q174;have p175:0≤(x8_2:Int):=od_;have q175:x8_2<(t171.length:Int):=od_;obtain⟨ad175,e175,hx175_0,hx175_1,hx175_2,hx175_3⟩:=at_T61 (Kd.R_reads' HO_6.out).2.2 x8_2 p175 q175;cases e175;replace p175:=eq_true p175;replace q175:=eq_true q175;refine start_ (n:=9) (S:=fun w'=>w'.cell? (ad174.add ((x7_1).toNat*4))=some (.int .i64 ((rd_T61 t168 x7_1).f0.f0))∧w'.cell? ⟨(ad174.add ((x7_1).toNat*4)).block,(ad174.add ((x7_1).toNat*4)).off+1,none⟩=some (.int .i64 ((rd_T61 t168 x7_1).f0.f1))∧w'.cell? ⟨(ad174.add ((x7_1).toNat*4)).block,(ad174.add ((x7_1).toNat*4)).off+2,none⟩=some (.int .i64 ((rd_T61 t168 x7_1).f1.f0))∧w'.cell? ⟨(ad174.add ((x7_1).toNat*4)).block,(ad174.add ((x7_1).toNat*4)).off+3,none⟩=some (.int .i64 ((rd_T61 t168 x7_1).f1.f1))∧w'.cell? (ad175.add ((x8_2).toNat*4))=some (.int .i64 ((rd_T61 t171 x8_2).f0.f0))∧w'.cell? ⟨(ad175.add ((x8_2).toNat*4)).block,(ad175.add ((x8_2).toNat*4)).off+1,none⟩=some (.int .i64 ((rd_T61 t171 x8_2).f0.f1))∧w'.cell? ⟨(ad175.add ((x8_2).toNat*4)).block,(ad175.add ((x8_2).toNat*4)).off+2,none⟩=some (.int .i64 ((rd_T61 t171 x8_2).f1.f0))∧w'.cell? ⟨(ad175.add ((x8_2).toNat*4)).block,(ad175.add ((x8_2).toNat*4)).off+3,none⟩=some (.int .i64 ((rd_T61 t171 x8_2).f1.f1))) (ds:=[]) (Array.replicate 9 false) (by kernel_rfl) rfl rfl ⟨hx174_0,hx174_1,hx174_2,hx174_3,hx175_0,hx175_1,hx175_2,hx175_3⟩ (fun hHeld=>?_);refine with_tabW spec_l11Apart.tab9 spec_l11Apart.bits9 (fun HT_ HW_=>?_)
           generalize wr.drew=w19 at HO_5 HO_6 HB hx174_0 hx174_1 hx174_2 hx174_3 hx175_0 hx175_1 hx175_2 hx175_3 hHeld ⊢
           refine pu_ HT_ 0 25 (bm 9 1) ?_;refine pu_ HT_ 1 26 (bm 9 3) ?_;refine pu_ HT_ 2 27 (bm 9 7) ?_;refine pu_ HT_ 4 29 (bm 9 23) ?_;refine pu_ HT_ 5 30 (bm 9 55) ?_;refine pu_ HT_ 6 31 (bm 9 119) ?_;refine ta8_ HT_ HW_ 3 28 (bm 9 127) hHeld ?_;refine ta8_ HT_ HW_ 7 32 (bm 9 255) hHeld ?_;refine one_ (i:=8) (N:=some 33) (bm 9 511) rfl rfl (one_of HT_.out (by kernel_rfl)) (by decide) (fun K hK=>?_);refine goes_ Tryd.func101 (by kernel_rfl) rfl #[.agg #[.int .i64 ((rd_T61 t168 x7_1).f0.f0),.int .i64 ((rd_T61 t168 x7_1).f0.f1),.int .i64 ((rd_T61 t168 x7_1).f1.f0),.int .i64 ((rd_T61 t168 x7_1).f1.f1)],.agg #[.int .i64 ((rd_T61 t171 x8_2).f0.f0),.int .i64 ((rd_T61 t171 x8_2).f0.f1),.int .i64 ((rd_T61 t171 x8_2).f1.f0),.int .i64 ((rd_T61 t171 x8_2).f1.f1)]] (by rfl) rfl rfl ma_ ?_
           with_reducible refine (spec_l2Meet.calls ((rd_T61 t168 x7_1).f0.f0) ((rd_T61 t168 x7_1).f0.f1) ((rd_T61 t168 x7_1).f1.f0) ((rd_T61 t168 x7_1).f1.f1) ((rd_T61 t171 x8_2).f0.f0) ((rd_T61 t171 x8_2).f0.f1) ((rd_T61 t171 x8_2).f1.f0) ((rd_T61 t171 x8_2).f1.f1) false _ A13.out).mono ?_
           rintro e w20 ⟨rfl,hb⟩;have HS0_:=pw_cell_below hb hHeld.1;have HS1_:=pw_cell_below hb hHeld.2.1;have HS2_:=pw_cell_below hb hHeld.2.2.1;have HS3_:=pw_cell_below hb hHeld.2.2.2.1;have HS4_:=pw_cell_below hb hHeld.2.2.2.2.1;have HS5_:=pw_cell_below hb hHeld.2.2.2.2.2.1;have HS6_:=pw_cell_below hb hHeld.2.2.2.2.2.2.1;have HS7_:=pw_cell_below hb hHeld.2.2.2.2.2.2.2;refine⟨_,rfl,?_⟩;replace HO_5:=rb_ HO_5 hb;replace HO_6:=rb_ HO_6 hb;replace HB:=sb_ HB hb
           (try clear hb)
           (try clear hb2)
           (try clear hk)
           (try clear hi)
           refine hK.out _ _ ⟨HS0_,HS1_,HS2_,HS3_,HS4_,HS5_,HS6_,HS7_⟩ (fun hHeld=>?_);clear hK K;refine no_ (h:=?_);refine done_ (done_of HT_.out (by kernel_rfl)) ?_
           try go_wp2
           go_roundg k2
           case measure=>have:=HK1.out;have:=HK2.out;omega
           case rel=>exact⟨(wrap64 (x8_2+1)),(by first | rfl | (simp;done) | (simp [*];done)),H',⟨by have:=HK1.out;have:=HK2.out;omega⟩,⟨by (with_reducible repeat (first | apply Kd.R_alloc | apply Kd.R_drewN | apply Kd.R_drew));exact HO_5.out⟩,⟨by (with_reducible repeat (first | apply Kd.R_alloc | apply Kd.R_drewN | apply Kd.R_drew));exact HO_6.out⟩,⟨hB_⟩⟩
         ·
          rw [if_neg c12] at H;exact absurd H (by simp)
        ·
         rw [if_neg c11] at H;exact absurd H (by simp)
       ·
        rw [if_neg c10] at H;exact absurd H (by simp)
      ·
       rw [if_neg c9] at H;have c9b0:decide (x8_2<(t171.length:Int))=false:=decide_eq_false c9;clear c9;have H':=Aside0.mk H;clear H;obtain⟨Ao21,co21,eo21⟩:=Kd.R_slice HO_6.out;subst eo21;go_wp2;go_roundg k2
       case measure=>have:=HK1.out;have:=HK2.out;omega
       case rel=>exact⟨(wrap64 (x7_1+1)),(by first | rfl | (simp;done) | (simp [*];done)),H',⟨by have:=HK1.out;have:=HK2.out;omega⟩,⟨by (with_reducible repeat (first | apply Kd.R_alloc | apply Kd.R_drewN | apply Kd.R_drew));exact HO_5.out⟩,⟨by (with_reducible repeat (first | apply Kd.R_alloc | apply Kd.R_drewN | apply Kd.R_drew));exact HO_6.out⟩,⟨hB_⟩⟩
   ·
    rw [if_neg c7] at H;have c7b0:decide (x7_1<(t168.length:Int))=false:=decide_eq_false c7;clear c7;obtain rfl:=Option.some.inj H;obtain⟨Ao22,co22,eo22⟩:=Kd.R_slice HO_5.out;subst eo22;go_wp2;go_ret;exact⟨rr_,hB_⟩
mutual
def spec_LoopOk.l0:Nat→Int→List (S61)→Int→Option (Bool)
 | 0,_,_,_=>none
 | k+1,x3,x4,x5=>if x5<x3 then (if 0≤x5 then (if x5<(x4.length:Int) then ((spec_SegOk.f ((rd_T61 x4 x5).f0.f0) ((rd_T61 x4 x5).f0.f1) ((rd_T61 x4 x5).f1.f0) ((rd_T61 x4 x5).f1.f1)).bind fun t158=>(if t158=true then (spec_LoopOk.l0 k x3 x4 (wrap64 (x5+1))) else (some false))) else (none)) else (none)) else (spec_LoopOk.l1 k x3 x4 0)
def spec_LoopOk.l1:Nat→Int→List (S61)→Int→Option (Bool)
 | 0,_,_,_=>none
 | k+1,x3,x4,x6=>if x6<x3 then (if 0≤x6 then (if x6<(x4.length:Int) then (if x3=0 then (none) else (if 0≤(Int.tmod (wrap64 (x6+1)) x3) then (if (Int.tmod (wrap64 (x6+1)) x3)<(x4.length:Int) then ((spec_l2Has.f ((rd_T61 x4 x6).f0.f0) ((rd_T61 x4 x6).f0.f1) ((rd_T61 x4 x6).f1.f0) ((rd_T61 x4 x6).f1.f1) ((rd_T61 x4 (Int.tmod (wrap64 (x6+1)) x3)).f1.f0) ((rd_T61 x4 (Int.tmod (wrap64 (x6+1)) x3)).f1.f1)).bind fun t161=>(if t161=true then (spec_LoopOk.j2 k x3 x4 x6 true) else ((spec_l2Has.f ((rd_T61 x4 (Int.tmod (wrap64 (x6+1)) x3)).f0.f0) ((rd_T61 x4 (Int.tmod (wrap64 (x6+1)) x3)).f0.f1) ((rd_T61 x4 (Int.tmod (wrap64 (x6+1)) x3)).f1.f0) ((rd_T61 x4 (Int.tmod (wrap64 (x6+1)) x3)).f1.f1) ((rd_T61 x4 x6).f0.f0) ((rd_T61 x4 x6).f0.f1)).bind fun t164=>(spec_LoopOk.j2 k x3 x4 x6 t164)))) else (none)) else (none))) else (none)) else (none)) else (some true)
def spec_LoopOk.j2:Nat→Int→List (S61)→Int→Bool→Option (Bool)
 | 0,_,_,_,_=>none
 | k+1,x3,x4,x6,x58=>if x58=true then (some false) else (spec_LoopOk.l2 k x3 x4 x6 (wrap64 (x6+2)))
def spec_LoopOk.l2:Nat→Int→List (S61)→Int→Int→Option (Bool)
 | 0,_,_,_,_=>none
 | k+1,x3,x4,x6,x7=>if x7<x3 then (if x3=0 then (none) else (if (Int.tmod (wrap64 (x7+1)) x3)=x6 then (spec_LoopOk.l2 k x3 x4 x6 (wrap64 (x7+1))) else (if 0≤x6 then (if x6<(x4.length:Int) then (if 0≤x7 then (if x7<(x4.length:Int) then ((spec_l2Meet.f ((rd_T61 x4 x6).f0.f0) ((rd_T61 x4 x6).f0.f1) ((rd_T61 x4 x6).f1.f0) ((rd_T61 x4 x6).f1.f1) ((rd_T61 x4 x7).f0.f0) ((rd_T61 x4 x7).f0.f1) ((rd_T61 x4 x7).f1.f0) ((rd_T61 x4 x7).f1.f1)).bind fun t167=>(if t167=true then (some false) else (spec_LoopOk.l2 k x3 x4 x6 (wrap64 (x7+1))))) else (none)) else (none)) else (none)) else (none)))) else (spec_LoopOk.l1 k x3 x4 (wrap64 (x6+1)))
end
def spec_LoopOk.f (k:Nat)(l0:List (S28)):Option (Bool):=(spec_l6In.f (l0.length:Int) 3 8).bind fun t153=>(if t153=true then ((spec_l3Edges.f k l0).bind fun t154=>(spec_LoopOk.l0 k (l0.length:Int) t154 0)) else (some false))
def spec_LoopOk.T13:Bool × List (List Nat × List Nat):=(true,[([],[]),([],[]),([0,1],[0,1]),([2],[2]),([],[]),([],[]),([5],[5]),([],[]),([6,7],[6,7]),([4,8],[4,8]),([9],[9]),([10],[10]),([3,11],[3,11]),([12,12],[12]),([13],[13]),([13],[13]),([15,13],[13,15]),([13],[13]),([16,17,13],[13,16,17]),([14,18,13],[13,14,18]),([19,13],[13,19]),([13],[13]),([13],[13]),([21,22,13],[13,21,22]),([23,13],[13,23]),([24,13],[13,24]),([20,25,13,13],[13,20,25]),([13,26],[13,26])])
def spec_LoopOk.B13:List Nat:=[0,0,3,7,0,0,32,0,224,496,1008,2032,4095,8191,16383,16383,49151,16383,245759,524287,1048575,16383,16383,6307839,14696447,31473663,67108863,134217727]
theorem spec_LoopOk.tab13:rtab .any (opsOf Tryd.f55 13)=spec_LoopOk.T13:=by kernel_rfl
theorem spec_LoopOk.bits13:waitsOk spec_LoopOk.T13.2 spec_LoopOk.B13=true:=by kernel_rfl
def spec_LoopOk.T18:Bool × List (List Nat × List Nat):=(true,[([],[]),([0],[0]),([],[]),([1,2],[1,2]),([],[]),([3,4],[3,4]),([5],[5]),([6],[6]),([6],[6]),([7,8,6],[6,7,8]),([9,6],[6,9]),([6],[6]),([6],[6]),([11,12,6],[6,11,12]),([13,6],[6,13]),([10,14,6,6],[6,10,14]),([6,15],[6,15])])
def spec_LoopOk.B18:List Nat:=[0,1,0,7,0,31,63,127,127,511,1023,127,127,6271,14463,32767,65535]
theorem spec_LoopOk.tab18:rtab .any (opsOf Tryd.f55 18)=spec_LoopOk.T18:=by kernel_rfl
theorem spec_LoopOk.bits18:waitsOk spec_LoopOk.T18.2 spec_LoopOk.B18=true:=by kernel_rfl
set_option maxHeartbeats 8000000 in
set_option maxRecDepth 100000 in
theorem spec_LoopOk.calls (k:Nat)(A0:Option Addr)(c0:Nat)(l0:List (S28))(r:Bool)(w:World)(hr0:Kd.C k28 w A0 l0.length l0)(hc0:l0.length≤c0)(h:spec_LoopOk.f k l0=some r):
  Calls Tryd.prog 55 #[.slice A0 l0.length c0] w fun e w'=>e=.returned (.bool r)∧Below w.heap.size w w':=by
 have hu61:=Tryd.underlying61;have hu28:=Tryd.underlying28;have HR0:=Aside0.mk hr0;have HC0:=Aside0.mk hc0;clear hr0 hc0;have HB:=a0_ (Below.refl w.heap.size w);have H:((spec_l6In.f (l0.length:Int) 3 8).bind fun t153=>(if t153=true then ((spec_l3Edges.f k l0).bind fun t154=>(spec_LoopOk.l0 k (l0.length:Int) t154 0)) else (some false)))=some r:=h;clear h;replace H:=Option.bind_eq_some_iff.mp H;obtain⟨t153,A20,H⟩:=H
 (try dsimp only at H)
 have A2:=Aside0.mk A20;clear A20;by_cases c3:t153=true
 ·
  subst c3;rw [if_pos rfl] at H
  (try dsimp only at H)
  replace H:=Option.bind_eq_some_iff.mp H;obtain⟨t154,A40,H⟩:=H
  (try dsimp only at H)
  have A4:=Aside0.mk A40;clear A40;have H':=Aside0.mk H;clear H;go_enter Tryd.func55,Tryd.ntmps55;go_wp2_with (first | ((with_reducible refine gate_callee (f:=58) rfl ?_);refine gL_ (some 11) Tryd.func58 #[.int .i64 (l0.length:Int),.int .i64 3,.int .i64 8] (h:=?_);(with_reducible refine (spec_l6In.calls (l0.length:Int) 3 8 true _ A2.out).mono ?_);rintro e w' ⟨rfl,⟨nd,rfl⟩⟩;refine⟨_,rfl,?_⟩) | ((with_reducible refine gate_callee (f:=98) rfl ?_);refine gL_ (some 14) Tryd.func98 #[.slice A0 l0.length c0] (h:=?_);(with_reducible refine (spec_l3Edges.calls k _ _ l0 t154 _ ?side1 ?side2 A4.out).mono ?_);(case side1=>repeat (first | exact HR0.out | (with_reducible refine Kd.C_alloc ?_ _) | (with_reducible refine Kd.C_drewN ?_ _) | (with_reducible refine Kd.C_drew ?_)));(case side2=>exact HC0.out);rintro e w5 ⟨v155,rfl,ho0,hb⟩;refine⟨_,rfl,?_⟩;have HO156:=a0_ (Kd.R_lower ho0 (below_size hB_));replace HB:=sb_ HB hb;(try clear ho0 hb)));go_loopg [5] k (fun kq v5 w'=>∃ (x5_1:Int),v5=.int .i64 x5_1∧Aside0 (spec_LoopOk.l0 kq (l0.length:Int) t154 x5_1=some r)∧Aside0 (kq≤k)∧Aside0 (Kd.R k61 61 w' w.heap.size (fun _=>True) v155 t154)∧Aside0 (Below w.heap.size w w'))
  case atStart=>exact⟨(0),(by first | rfl | (simp;done) | (simp [*];done)),H',⟨Nat.le_refl _⟩,⟨by (with_reducible repeat (first | apply Kd.R_alloc | apply Kd.R_drewN | apply Kd.R_drew));exact HO156.out⟩,⟨hB_⟩⟩
  case round =>
   clear H';obtain⟨x5_1,rfl,HA,HK1,HO_4,HB⟩:=hrel
   cases gk with
   | zero=>exact absurd HA.out (by simp [spec_LoopOk.l0])
   | succ k1 =>
    have H:=HA.out;clear HA;simp only [spec_LoopOk.l0] at H;by_cases c6:x5_1<(l0.length:Int)
    ·
     rw [if_pos c6] at H;have c6b0:decide (x5_1<(l0.length:Int))=true:=decide_eq_true c6;clear c6;by_cases c7:0≤x5_1
     ·
      rw [if_pos c7] at H;have c7b0:decide (0≤x5_1)=true:=decide_eq_true c7;clear c7;by_cases c8:x5_1<(t154.length:Int)
      ·
       rw [if_pos c8] at H;have c8b0:decide (x5_1<(t154.length:Int))=true:=decide_eq_true c8;clear c8;replace H:=Option.bind_eq_some_iff.mp H;obtain⟨t158,A90,H⟩:=H
       (try dsimp only at H)
       have A9:=Aside0.mk A90;clear A90;by_cases c10:t158=true
       ·
        subst c10;rw [if_pos rfl] at H
        (try dsimp only at H)
        have H':=Aside0.mk H;clear H;obtain⟨Ao11,co11,eo11⟩:=Kd.R_slice HO_4.out;subst eo11;have p157:0≤(x5_1:Int):=od_;have q157:x5_1<(t154.length:Int):=od_;obtain⟨ad157,e157,hx157_0,hx157_1,hx157_2,hx157_3⟩:=at_T61 (Kd.R_reads' HO_4.out).2.2 x5_1 p157 q157;cases e157;replace p157:=eq_true p157;replace q157:=eq_true q157;go_wp2_with (first | ((with_reducible refine gate_callee (f:=99) rfl ?_);refine gL_ (some 24) Tryd.func99 #[.agg #[.int .i64 ((rd_T61 t154 x5_1).f0.f0),.int .i64 ((rd_T61 t154 x5_1).f0.f1),.int .i64 ((rd_T61 t154 x5_1).f1.f0),.int .i64 ((rd_T61 t154 x5_1).f1.f1)]] (h:=?_);(with_reducible refine (spec_SegOk.calls ((rd_T61 t154 x5_1).f0.f0) ((rd_T61 t154 x5_1).f0.f1) ((rd_T61 t154 x5_1).f1.f0) ((rd_T61 t154 x5_1).f1.f1) true _ A9.out).mono ?_);rintro e w12 ⟨rfl,hb⟩;refine⟨_,rfl,?_⟩;replace HO_4:=rb_ HO_4 hb;replace HB:=sb_ HB hb;(try clear hb)));go_roundg k1
        case measure=>have:=HK1.out;omega
        case rel=>exact⟨(wrap64 (x5_1+1)),(by first | rfl | (simp;done) | (simp [*];done)),H',⟨by have:=HK1.out;omega⟩,⟨by (with_reducible repeat (first | apply Kd.R_alloc | apply Kd.R_drewN | apply Kd.R_drew));exact HO_4.out⟩,⟨hB_⟩⟩
       ·
        replace c10:=Bool.eq_false_iff.mpr c10;subst c10;rw [if_neg (show ¬ (false=true) by decide)] at H
        (try dsimp only at H)
        obtain rfl:=Option.some.inj H;obtain⟨Ao13,co13,eo13⟩:=Kd.R_slice HO_4.out;subst eo13;have p157:0≤(x5_1:Int):=od_;have q157:x5_1<(t154.length:Int):=od_;obtain⟨ad157,e157,hx157_0,hx157_1,hx157_2,hx157_3⟩:=at_T61 (Kd.R_reads' HO_4.out).2.2 x5_1 p157 q157;cases e157;replace p157:=eq_true p157;replace q157:=eq_true q157;go_wp2_with (first | ((with_reducible refine gate_callee (f:=99) rfl ?_);refine gL_ (some 24) Tryd.func99 #[.agg #[.int .i64 ((rd_T61 t154 x5_1).f0.f0),.int .i64 ((rd_T61 t154 x5_1).f0.f1),.int .i64 ((rd_T61 t154 x5_1).f1.f0),.int .i64 ((rd_T61 t154 x5_1).f1.f1)]] (h:=?_);(with_reducible refine (spec_SegOk.calls ((rd_T61 t154 x5_1).f0.f0) ((rd_T61 t154 x5_1).f0.f1) ((rd_T61 t154 x5_1).f1.f0) ((rd_T61 t154 x5_1).f1.f1) false _ A9.out).mono ?_);rintro e w14 ⟨rfl,hb⟩;refine⟨_,rfl,?_⟩;replace HO_4:=rb_ HO_4 hb;replace HB:=sb_ HB hb;(try clear hb)));go_ret;exact⟨rr_,hB_⟩
      ·
       rw [if_neg c8] at H;exact absurd H (by simp)
     ·
      rw [if_neg c7] at H;exact absurd H (by simp)
    ·
     rw [if_neg c6] at H;have c6b0:decide (x5_1<(l0.length:Int))=false:=decide_eq_false c6;clear c6;have H':=Aside0.mk H;clear H;go_wp2;go_loopg [6] k1 (fun kq v6 w'=>∃ (x6_2:Int),v6=.int .i64 x6_2∧Aside0 (spec_LoopOk.l1 kq (l0.length:Int) t154 x6_2=some r)∧Aside0 (kq≤k1)∧Aside0 (Kd.R k61 61 w' w.heap.size (fun _=>True) v155 t154)∧Aside0 (Below w.heap.size w w'))
     case atStart=>exact⟨(0),(by first | rfl | (simp;done) | (simp [*];done)),H',⟨Nat.le_refl _⟩,⟨by (with_reducible repeat (first | apply Kd.R_alloc | apply Kd.R_drewN | apply Kd.R_drew));exact HO_4.out⟩,⟨hB_⟩⟩
     case round =>
      clear H';obtain⟨x6_2,rfl,HA,HK2,HO_4,HB⟩:=hrel
      cases gk with
      | zero=>exact absurd HA.out (by simp [spec_LoopOk.l1])
      | succ k2 =>
       have H:=HA.out;clear HA;simp only [spec_LoopOk.l1] at H;by_cases c15:x6_2<(l0.length:Int)
       ·
        rw [if_pos c15] at H;have c15b0:decide (x6_2<(l0.length:Int))=true:=decide_eq_true c15;clear c15;have HC16:=Aside0.mk H;clear H;go_upto_region 13 with (fail)
        go_cut [58] (fun v58 wc=>∃ (kq:Nat) (x58_15:Bool),v58=.bool x58_15∧Aside0 (spec_LoopOk.j2 kq (l0.length:Int) t154 x6_2 x58_15=some r)∧Aside0 (kq≤k2)∧Aside0 (Kd.R k61 61 wc w.heap.size (fun _=>True) v155 t154)∧Aside0 (Below w.heap.size w wc))
        case first =>
         have H:=HC16.out;clear HC16;by_cases c17:0≤x6_2
         ·
          rw [if_pos c17] at H;have c17b0:decide (0≤x6_2)=true:=decide_eq_true c17;clear c17
          (first | rw [c17b0] | (simp only [i64_w,i32_w];rw [c17b0]) | skip)
          by_cases c18:x6_2<(t154.length:Int)
          ·
           rw [if_pos c18] at H;have c18b0:decide (x6_2<(t154.length:Int))=true:=decide_eq_true c18;clear c18;by_cases c19:(l0.length:Int)=0
           ·
            rw [if_pos c19] at H;exact absurd H (by simp)
           ·
            rw [if_neg c19] at H;have c19b0:((l0.length:Int)==0)=false:=beq_eq_false_iff_ne.mpr c19;have c19b1:((l0.length:Int) != 0)=true:=bne_iff_ne.mpr c19;have c19b2:¬ (l0=[]):=fun h_=>c19 (by rw [h_];rfl)
            obtain⟨ji20,hji20⟩:∃ j_:Int,(Int.tmod (wrap64 (x6_2+1)) (l0.length:Int))=j_:=⟨_,rfl⟩;replace H:(if 0≤(ji20) then (if (ji20)<(t154.length:Int) then ((spec_l2Has.f ((rd_T61 t154 x6_2).f0.f0) ((rd_T61 t154 x6_2).f0.f1) ((rd_T61 t154 x6_2).f1.f0) ((rd_T61 t154 x6_2).f1.f1) ((rd_T61 t154 (ji20)).f1.f0) ((rd_T61 t154 (ji20)).f1.f1)).bind fun t161=>(if t161=true then (spec_LoopOk.j2 k2 (l0.length:Int) t154 x6_2 true) else ((spec_l2Has.f ((rd_T61 t154 (ji20)).f0.f0) ((rd_T61 t154 (ji20)).f0.f1) ((rd_T61 t154 (ji20)).f1.f0) ((rd_T61 t154 (ji20)).f1.f1) ((rd_T61 t154 x6_2).f0.f0) ((rd_T61 t154 x6_2).f0.f1)).bind fun t164=>(spec_LoopOk.j2 k2 (l0.length:Int) t154 x6_2 t164)))) else (none)) else (none))=some r:=by first | (rw [hji20] at H;exact H) | (simp only [hji20] at H ⊢;exact H)
            by_cases c21:0≤(ji20)
            ·
             rw [if_pos c21] at H;have c21b0:decide (0≤(ji20))=true:=decide_eq_true c21;clear c21;by_cases c22:(ji20)<(t154.length:Int)
             ·
              rw [if_pos c22] at H;have c22b0:decide ((ji20)<(t154.length:Int))=true:=decide_eq_true c22;clear c22;replace H:=Option.bind_eq_some_iff.mp H;obtain⟨t161,A230,H⟩:=H
              (try dsimp only at H)
              have A23:=Aside0.mk A230;clear A230;by_cases c24:t161=true
              ·
               subst c24;rw [if_pos rfl] at H
               (try dsimp only at H)
               have H':=Aside0.mk H;clear H
               try go_wp2
               replace HO_4:=a0_ (Kd.R_drew HO_4.out);replace HB:=a0_ (below_drew1 HB.out);obtain⟨Ao26,co26,eo26⟩:=Kd.R_slice HO_4.out
               (first | subst eo26 | (injection eo26 with f1_ f2_ f3_;have f4_:=f1_.symm;have f5_:=f3_.symm;clear f1_ f2_ f3_;subst f4_;subst f5_))
               have p159:0≤(x6_2:Int):=od_;have q159:x6_2<(t154.length:Int):=od_;obtain⟨ad159,e159,hx159_0,hx159_1,hx159_2,hx159_3⟩:=at_T61 (Kd.R_reads' HO_4.out).2.2 x6_2 p159 q159;cases e159;replace p159:=eq_true p159;replace q159:=eq_true q159;have p160:0≤((ji20):Int):=od_;have q160:(ji20)<(t154.length:Int):=od_;obtain⟨ad160,e160,hx160_0,hx160_1,hx160_2,hx160_3⟩:=at_T61 (Kd.R_reads' HO_4.out).2.2 (ji20) p160 q160;obtain rfl:ad159=ad160:=(by injection e160);replace p160:=eq_true p160;replace q160:=eq_true q160;refine start_ (n:=28) (S:=fun w'=>w'.cell? (ad159.add ((x6_2).toNat*4))=some (.int .i64 ((rd_T61 t154 x6_2).f0.f0))∧w'.cell? ⟨(ad159.add ((x6_2).toNat*4)).block,(ad159.add ((x6_2).toNat*4)).off+1,none⟩=some (.int .i64 ((rd_T61 t154 x6_2).f0.f1))∧w'.cell? ⟨(ad159.add ((x6_2).toNat*4)).block,(ad159.add ((x6_2).toNat*4)).off+2,none⟩=some (.int .i64 ((rd_T61 t154 x6_2).f1.f0))∧w'.cell? ⟨(ad159.add ((x6_2).toNat*4)).block,(ad159.add ((x6_2).toNat*4)).off+3,none⟩=some (.int .i64 ((rd_T61 t154 x6_2).f1.f1))∧w'.cell? (ad159.add (((ji20)).toNat*4))=some (.int .i64 ((rd_T61 t154 (ji20)).f0.f0))∧w'.cell? ⟨(ad159.add (((ji20)).toNat*4)).block,(ad159.add (((ji20)).toNat*4)).off+1,none⟩=some (.int .i64 ((rd_T61 t154 (ji20)).f0.f1))∧w'.cell? ⟨(ad159.add (((ji20)).toNat*4)).block,(ad159.add (((ji20)).toNat*4)).off+2,none⟩=some (.int .i64 ((rd_T61 t154 (ji20)).f1.f0))∧w'.cell? ⟨(ad159.add (((ji20)).toNat*4)).block,(ad159.add (((ji20)).toNat*4)).off+3,none⟩=some (.int .i64 ((rd_T61 t154 (ji20)).f1.f1))) (ds:=[]) (Array.replicate 28 false) (by kernel_rfl) rfl rfl ⟨hx159_0,hx159_1,hx159_2,hx159_3,hx160_0,hx160_1,hx160_2,hx160_3⟩ (fun hHeld=>?_);refine with_tabW spec_LoopOk.tab13 spec_LoopOk.bits13 (fun HT_ HW_=>?_)
               generalize wr.drew=w25 at HO_4 HB hx159_0 hx159_1 hx159_2 hx159_3 hx160_0 hx160_1 hx160_2 hx160_3 hHeld ⊢
               refine pu_ HT_ 0 31 (bm 28 1) ?_;refine pu_ HT_ 1 32 (bm 28 3) ?_;refine pu_ HT_ 2 33 (bm 28 7) ?_;refine pu_ HT_ 4 35 (bm 28 23) ?_;refine pu_ HT_ 5 36 (bm 28 55) ?_;refine pu_ HT_ 6 37 (bm 28 119) ?_;refine pu_ HT_ 7 38 (bm 28 247) ?_;refine pu_ HT_ 8 39 (bm 28 503) ?_;refine pu_ HT_ 9 40 (bm 28 1015) ?_;refine pu_ HT_ 10 41 (bm 28 2039) ?_;refine ta8_ HT_ HW_ 3 34 (bm 28 2047) hHeld ?_;refine ta8_ HT_ HW_ 11 42 (bm 28 4095) hHeld ?_;refine one_ (i:=12) (N:=some 43) (bm 28 8191) rfl rfl (one_of HT_.out (by kernel_rfl)) (by decide) (fun K hK=>?_);refine goes_ Tryd.func100 (by kernel_rfl) rfl #[.agg #[.int .i64 ((rd_T61 t154 x6_2).f0.f0),.int .i64 ((rd_T61 t154 x6_2).f0.f1),.int .i64 ((rd_T61 t154 x6_2).f1.f0),.int .i64 ((rd_T61 t154 x6_2).f1.f1)],.agg #[.int .i64 ((rd_T61 t154 (ji20)).f1.f0),.int .i64 ((rd_T61 t154 (ji20)).f1.f1)]] (by rfl) rfl rfl (by (try simp only [List.map_toArray,List.map_cons,List.map_nil]);first | done | (simp only [hji20];rfl) | rfl | (simp only [List.length_drop,List.length_take];rfl)) ?_
               with_reducible refine (spec_l2Has.calls ((rd_T61 t154 x6_2).f0.f0) ((rd_T61 t154 x6_2).f0.f1) ((rd_T61 t154 x6_2).f1.f0) ((rd_T61 t154 x6_2).f1.f1) ((rd_T61 t154 (ji20)).f1.f0) ((rd_T61 t154 (ji20)).f1.f1) true _ A23.out).mono ?_
               rintro e w27 ⟨rfl,hb⟩;have HS0_:=pw_cell_below hb hHeld.1;have HS1_:=pw_cell_below hb hHeld.2.1;have HS2_:=pw_cell_below hb hHeld.2.2.1;have HS3_:=pw_cell_below hb hHeld.2.2.2.1;have HS4_:=pw_cell_below hb hHeld.2.2.2.2.1;have HS5_:=pw_cell_below hb hHeld.2.2.2.2.2.1;have HS6_:=pw_cell_below hb hHeld.2.2.2.2.2.2.1;have HS7_:=pw_cell_below hb hHeld.2.2.2.2.2.2.2;refine⟨_,rfl,?_⟩;replace HO_4:=rb_ HO_4 hb;replace HB:=sb_ HB hb
               (try clear hb)
               (try clear hb2)
               (try clear hk)
               (try clear hi)
               refine hK.out _ _ ⟨HS0_,HS1_,HS2_,HS3_,HS4_,HS5_,HS6_,HS7_⟩ (fun hHeld=>?_);clear hK K;refine no_ (h:=?_);refine pu_ HT_ 13 44 (bm 28 16383) ?_;refine pz_ HT_ 14 45 (bm 28 32767) ?_;refine pz_ HT_ 15 46 (bm 28 65535) ?_;refine pz_ HT_ 16 47 (bm 28 131071) ?_;refine pz_ HT_ 17 48 (bm 28 262143) ?_;refine pz_ HT_ 18 49 (bm 28 524287) ?_;refine pz_ HT_ 19 50 (bm 28 1048575) ?_;refine pz_ HT_ 20 51 (bm 28 2097151) ?_;refine pz_ HT_ 21 52 (bm 28 4194303) ?_;refine pz_ HT_ 22 53 (bm 28 8388607) ?_;refine pz_ HT_ 23 54 (bm 28 16777215) ?_;refine pz_ HT_ 24 55 (bm 28 33554431) ?_;refine pz_ HT_ 25 56 (bm 28 67108863) ?_;refine pz_ HT_ 26 57 (bm 28 134217727) ?_;refine pu_ HT_ 27 58 (bm 28 268435455) ?_;refine done_ (done_of HT_.out (by kernel_rfl)) ?_
               try go_wp2
               go_meet
               case rel=>exact⟨_,(true),(by first | rfl | (simp;done) | (simp [*];done)),H',⟨by have:=HK1.out;have:=HK2.out;first | omega | exact Nat.le_refl _⟩,⟨by (with_reducible repeat (first | apply Kd.R_alloc | apply Kd.R_drewN | apply Kd.R_drew));exact HO_4.out⟩,⟨hB_⟩⟩
              ·
               replace c24:=Bool.eq_false_iff.mpr c24;subst c24;rw [if_neg (show ¬ (false=true) by decide)] at H
               (try dsimp only at H)
               replace H:=Option.bind_eq_some_iff.mp H;obtain⟨t164,A280,H⟩:=H
               (try dsimp only at H)
               have A28:=Aside0.mk A280;clear A280;have H':=Aside0.mk H;clear H
               try go_wp2
               replace HO_4:=a0_ (Kd.R_drew HO_4.out);replace HB:=a0_ (below_drew1 HB.out);obtain⟨Ao30,co30,eo30⟩:=Kd.R_slice HO_4.out
               (first | subst eo30 | (injection eo30 with f1_ f2_ f3_;have f4_:=f1_.symm;have f5_:=f3_.symm;clear f1_ f2_ f3_;subst f4_;subst f5_))
               have p159:0≤(x6_2:Int):=od_;have q159:x6_2<(t154.length:Int):=od_;obtain⟨ad159,e159,hx159_0,hx159_1,hx159_2,hx159_3⟩:=at_T61 (Kd.R_reads' HO_4.out).2.2 x6_2 p159 q159;cases e159;replace p159:=eq_true p159;replace q159:=eq_true q159;have p160:0≤((ji20):Int):=od_;have q160:(ji20)<(t154.length:Int):=od_;obtain⟨ad160,e160,hx160_0,hx160_1,hx160_2,hx160_3⟩:=at_T61 (Kd.R_reads' HO_4.out).2.2 (ji20) p160 q160;obtain rfl:ad159=ad160:=(by injection e160);replace p160:=eq_true p160;replace q160:=eq_true q160;have p162:0≤((ji20):Int):=od_;have q162:(ji20)<(t154.length:Int):=od_;obtain⟨ad162,e162,hx162_0,hx162_1,hx162_2,hx162_3⟩:=at_T61 (Kd.R_reads' HO_4.out).2.2 (ji20) p162 q162;obtain rfl:ad159=ad162:=(by injection e162);replace p162:=eq_true p162;replace q162:=eq_true q162;have p163:0≤(x6_2:Int):=od_;have q163:x6_2<(t154.length:Int):=od_;obtain⟨ad163,e163,hx163_0,hx163_1,hx163_2,hx163_3⟩:=at_T61 (Kd.R_reads' HO_4.out).2.2 x6_2 p163 q163;obtain rfl:ad159=ad163:=(by injection e163);replace p163:=eq_true p163;replace q163:=eq_true q163
               refine start_ (n:=28) (S:=fun w'=>w'.cell? (ad159.add ((x6_2).toNat*4))=some (.int .i64 ((rd_T61 t154 x6_2).f0.f0))∧w'.cell? ⟨(ad159.add ((x6_2).toNat*4)).block,(ad159.add ((x6_2).toNat*4)).off+1,none⟩=some (.int .i64 ((rd_T61 t154 x6_2).f0.f1))∧w'.cell? ⟨(ad159.add ((x6_2).toNat*4)).block,(ad159.add ((x6_2).toNat*4)).off+2,none⟩=some (.int .i64 ((rd_T61 t154 x6_2).f1.f0))∧w'.cell? ⟨(ad159.add ((x6_2).toNat*4)).block,(ad159.add ((x6_2).toNat*4)).off+3,none⟩=some (.int .i64 ((rd_T61 t154 x6_2).f1.f1))∧w'.cell? (ad159.add (((ji20)).toNat*4))=some (.int .i64 ((rd_T61 t154 (ji20)).f0.f0))∧w'.cell? ⟨(ad159.add (((ji20)).toNat*4)).block,(ad159.add (((ji20)).toNat*4)).off+1,none⟩=some (.int .i64 ((rd_T61 t154 (ji20)).f0.f1))∧w'.cell? ⟨(ad159.add (((ji20)).toNat*4)).block,(ad159.add (((ji20)).toNat*4)).off+2,none⟩=some (.int .i64 ((rd_T61 t154 (ji20)).f1.f0))∧w'.cell? ⟨(ad159.add (((ji20)).toNat*4)).block,(ad159.add (((ji20)).toNat*4)).off+3,none⟩=some (.int .i64 ((rd_T61 t154 (ji20)).f1.f1))∧w'.cell? (ad159.add (((ji20)).toNat*4))=some (.int .i64 ((rd_T61 t154 (ji20)).f0.f0))∧w'.cell? ⟨(ad159.add (((ji20)).toNat*4)).block,(ad159.add (((ji20)).toNat*4)).off+1,none⟩=some (.int .i64 ((rd_T61 t154 (ji20)).f0.f1))∧w'.cell? ⟨(ad159.add (((ji20)).toNat*4)).block,(ad159.add (((ji20)).toNat*4)).off+2,none⟩=some (.int .i64 ((rd_T61 t154 (ji20)).f1.f0))∧w'.cell? ⟨(ad159.add (((ji20)).toNat*4)).block,(ad159.add (((ji20)).toNat*4)).off+3,none⟩=some (.int .i64 ((rd_T61 t154 (ji20)).f1.f1))∧w'.cell? (ad159.add ((x6_2).toNat*4))=some (.int .i64 ((rd_T61 t154 x6_2).f0.f0))∧w'.cell? ⟨(ad159.add ((x6_2).toNat*4)).block,(ad159.add ((x6_2).toNat*4)).off+1,none⟩=some (.int .i64 ((rd_T61 t154 x6_2).f0.f1))∧w'.cell? ⟨(ad159.add ((x6_2).toNat*4)).block,(ad159.add ((x6_2).toNat*4)).off+2,none⟩=some (.int .i64 ((rd_T61 t154 x6_2).f1.f0))∧w'.cell? ⟨(ad159.add ((x6_2).toNat*4)).block,(ad159.add ((x6_2).toNat*4)).off+3,none⟩=some (.int .i64 ((rd_T61 t154 x6_2).f1.f1))) (ds:=[]) (Array.replicate 28 false) (by kernel_rfl) rfl rfl ⟨hx159_0,hx159_1,hx159_2,hx159_3,hx160_0,hx160_1,hx160_2,hx160_3,hx162_0,hx162_1,hx162_2,hx162_3,hx163_0,hx163_1,hx163_2,hx163_3⟩ (fun hHeld=>?_);refine with_tabW spec_LoopOk.tab13 spec_LoopOk.bits13 (fun HT_ HW_=>?_)
               generalize wr.drew=w29 at HO_4 HB hx159_0 hx159_1 hx159_2 hx159_3 hx160_0 hx160_1 hx160_2 hx160_3 hx162_0 hx162_1 hx162_2 hx162_3 hx163_0 hx163_1 hx163_2 hx163_3 hHeld ⊢
               refine pu_ HT_ 0 31 (bm 28 1) ?_;refine pu_ HT_ 1 32 (bm 28 3) ?_;refine pu_ HT_ 2 33 (bm 28 7) ?_;refine pu_ HT_ 4 35 (bm 28 23) ?_;refine pu_ HT_ 5 36 (bm 28 55) ?_;refine pu_ HT_ 6 37 (bm 28 119) ?_;refine pu_ HT_ 7 38 (bm 28 247) ?_;refine pu_ HT_ 8 39 (bm 28 503) ?_;refine pu_ HT_ 9 40 (bm 28 1015) ?_;refine pu_ HT_ 10 41 (bm 28 2039) ?_;refine ta16_ HT_ HW_ 3 34 (bm 28 2047) hHeld ?_;refine ta16_ HT_ HW_ 11 42 (bm 28 4095) hHeld ?_;refine one_ (i:=12) (N:=some 43) (bm 28 8191) rfl rfl (one_of HT_.out (by kernel_rfl)) (by decide) (fun K hK=>?_);refine goes_ Tryd.func100 (by kernel_rfl) rfl #[.agg #[.int .i64 ((rd_T61 t154 x6_2).f0.f0),.int .i64 ((rd_T61 t154 x6_2).f0.f1),.int .i64 ((rd_T61 t154 x6_2).f1.f0),.int .i64 ((rd_T61 t154 x6_2).f1.f1)],.agg #[.int .i64 ((rd_T61 t154 (ji20)).f1.f0),.int .i64 ((rd_T61 t154 (ji20)).f1.f1)]] (by rfl) rfl rfl (by (try simp only [List.map_toArray,List.map_cons,List.map_nil]);first | done | (simp only [hji20];rfl) | rfl | (simp only [List.length_drop,List.length_take];rfl)) ?_
               with_reducible refine (spec_l2Has.calls ((rd_T61 t154 x6_2).f0.f0) ((rd_T61 t154 x6_2).f0.f1) ((rd_T61 t154 x6_2).f1.f0) ((rd_T61 t154 x6_2).f1.f1) ((rd_T61 t154 (ji20)).f1.f0) ((rd_T61 t154 (ji20)).f1.f1) false _ A23.out).mono ?_
               rintro e w31 ⟨rfl,hb⟩;have HS0_:=pw_cell_below hb hHeld.1;have HS1_:=pw_cell_below hb hHeld.2.1;have HS2_:=pw_cell_below hb hHeld.2.2.1;have HS3_:=pw_cell_below hb hHeld.2.2.2.1;have HS4_:=pw_cell_below hb hHeld.2.2.2.2.1;have HS5_:=pw_cell_below hb hHeld.2.2.2.2.2.1;have HS6_:=pw_cell_below hb hHeld.2.2.2.2.2.2.1;have HS7_:=pw_cell_below hb hHeld.2.2.2.2.2.2.2.1;have HS8_:=pw_cell_below hb hHeld.2.2.2.2.2.2.2.2.1;have HS9_:=pw_cell_below hb hHeld.2.2.2.2.2.2.2.2.2.1;have HS10_:=pw_cell_below hb hHeld.2.2.2.2.2.2.2.2.2.2.1;have HS11_:=pw_cell_below hb hHeld.2.2.2.2.2.2.2.2.2.2.2.1;have HS12_:=pw_cell_below hb hHeld.2.2.2.2.2.2.2.2.2.2.2.2.1;have HS13_:=pw_cell_below hb hHeld.2.2.2.2.2.2.2.2.2.2.2.2.2.1;have HS14_:=pw_cell_below hb hHeld.2.2.2.2.2.2.2.2.2.2.2.2.2.2.1;have HS15_:=pw_cell_below hb hHeld.2.2.2.2.2.2.2.2.2.2.2.2.2.2.2;refine⟨_,rfl,?_⟩;replace HO_4:=rb_ HO_4 hb;replace HB:=sb_ HB hb
               (try clear hb)
               (try clear hb2)
               (try clear hk)
               (try clear hi)
               refine hK.out _ _ ⟨HS0_,HS1_,HS2_,HS3_,HS4_,HS5_,HS6_,HS7_,HS8_,HS9_,HS10_,HS11_,HS12_,HS13_,HS14_,HS15_⟩ (fun hHeld=>?_);clear hK K;refine no_ (h:=?_);refine pu_ HT_ 13 44 (bm 28 16383) ?_;refine pu_ HT_ 14 45 (bm 28 32767) ?_;refine pu_ HT_ 15 46 (bm 28 65535) ?_;refine pu_ HT_ 16 47 (bm 28 131071) ?_;refine pu_ HT_ 17 48 (bm 28 262143) ?_;refine pu_ HT_ 18 49 (bm 28 524287) ?_;refine pu_ HT_ 19 50 (bm 28 1048575) ?_;refine pu_ HT_ 21 52 (bm 28 3145727) ?_;refine pu_ HT_ 22 53 (bm 28 7340031) ?_;refine pu_ HT_ 23 54 (bm 28 15728639) ?_;refine pu_ HT_ 24 55 (bm 28 32505855) ?_;refine ta16_ HT_ HW_ 20 51 (bm 28 33554431) hHeld ?_;refine ta16_ HT_ HW_ 25 56 (bm 28 67108863) hHeld ?_;refine one_ (i:=26) (N:=some 57) (bm 28 134217727) rfl rfl (one_of HT_.out (by kernel_rfl)) (by decide) (fun K hK=>?_);refine goes_ Tryd.func100 (by kernel_rfl) rfl #[.agg #[.int .i64 ((rd_T61 t154 (ji20)).f0.f0),.int .i64 ((rd_T61 t154 (ji20)).f0.f1),.int .i64 ((rd_T61 t154 (ji20)).f1.f0),.int .i64 ((rd_T61 t154 (ji20)).f1.f1)],.agg #[.int .i64 ((rd_T61 t154 x6_2).f0.f0),.int .i64 ((rd_T61 t154 x6_2).f0.f1)]] (by rfl) rfl rfl (by (try simp only [List.map_toArray,List.map_cons,List.map_nil]);first | done | (simp only [hji20];rfl) | rfl | (simp only [List.length_drop,List.length_take];rfl)) ?_
               with_reducible refine (spec_l2Has.calls ((rd_T61 t154 (ji20)).f0.f0) ((rd_T61 t154 (ji20)).f0.f1) ((rd_T61 t154 (ji20)).f1.f0) ((rd_T61 t154 (ji20)).f1.f1) ((rd_T61 t154 x6_2).f0.f0) ((rd_T61 t154 x6_2).f0.f1) t164 _ A28.out).mono ?_
               rintro e w32 ⟨rfl,hb⟩;have HS0_:=pw_cell_below hb hHeld.1;have HS1_:=pw_cell_below hb hHeld.2.1;have HS2_:=pw_cell_below hb hHeld.2.2.1;have HS3_:=pw_cell_below hb hHeld.2.2.2.1;have HS4_:=pw_cell_below hb hHeld.2.2.2.2.1;have HS5_:=pw_cell_below hb hHeld.2.2.2.2.2.1;have HS6_:=pw_cell_below hb hHeld.2.2.2.2.2.2.1;have HS7_:=pw_cell_below hb hHeld.2.2.2.2.2.2.2.1;have HS8_:=pw_cell_below hb hHeld.2.2.2.2.2.2.2.2.1;have HS9_:=pw_cell_below hb hHeld.2.2.2.2.2.2.2.2.2.1;have HS10_:=pw_cell_below hb hHeld.2.2.2.2.2.2.2.2.2.2.1;have HS11_:=pw_cell_below hb hHeld.2.2.2.2.2.2.2.2.2.2.2.1;have HS12_:=pw_cell_below hb hHeld.2.2.2.2.2.2.2.2.2.2.2.2.1;have HS13_:=pw_cell_below hb hHeld.2.2.2.2.2.2.2.2.2.2.2.2.2.1;have HS14_:=pw_cell_below hb hHeld.2.2.2.2.2.2.2.2.2.2.2.2.2.2.1;have HS15_:=pw_cell_below hb hHeld.2.2.2.2.2.2.2.2.2.2.2.2.2.2.2;refine⟨_,rfl,?_⟩;replace HO_4:=rb_ HO_4 hb;replace HB:=sb_ HB hb
               (try clear hb)
               (try clear hb2)
               (try clear hk)
               (try clear hi)
               refine hK.out _ _ ⟨HS0_,HS1_,HS2_,HS3_,HS4_,HS5_,HS6_,HS7_,HS8_,HS9_,HS10_,HS11_,HS12_,HS13_,HS14_,HS15_⟩ (fun hHeld=>?_);clear hK K;refine no_ (h:=?_);refine pu_ HT_ 27 58 (bm 28 268435455) ?_;refine done_ (done_of HT_.out (by kernel_rfl)) ?_
               try go_wp2
               go_meet
               case rel=>exact⟨_,(t164),(by first | rfl | (simp;done) | (simp [*];done)),H',⟨by have:=HK1.out;have:=HK2.out;first | omega | exact Nat.le_refl _⟩,⟨by (with_reducible repeat (first | apply Kd.R_alloc | apply Kd.R_drewN | apply Kd.R_drew));exact HO_4.out⟩,⟨hB_⟩⟩
             ·
              rw [if_neg c22] at H;exact absurd H (by simp)
            ·
             rw [if_neg c21] at H;exact absurd H (by simp)
          ·
           rw [if_neg c18] at H;exact absurd H (by simp)
         ·
          rw [if_neg c17] at H;exact absurd H (by simp)
        case rest =>
         clear HC16;obtain⟨kq,x58_15,rfl,HA,HJ15,HO_4,HB⟩:=hcut
         cases kq with
         | zero=>exact absurd HA.out (by simp [spec_LoopOk.j2])
         | succ kj15 =>
          have H:=HA.out;clear HA;simp only [spec_LoopOk.j2] at H;by_cases c33:x58_15=true
          ·
           subst c33;rw [if_pos rfl] at H
           (try dsimp only at H)
           obtain rfl:=Option.some.inj H;go_wp2;go_ret;exact⟨rr_,hB_⟩
          ·
           replace c33:=Bool.eq_false_iff.mpr c33;subst c33;rw [if_neg (show ¬ (false=true) by decide)] at H
           (try dsimp only at H)
           have H':=Aside0.mk H;clear H;go_wp2;go_loopg [7] kj15 (fun kq v7 w'=>∃ (x7_4:Int),v7=.int .i64 x7_4∧Aside0 (spec_LoopOk.l2 kq (l0.length:Int) t154 x6_2 x7_4=some r)∧Aside0 (kq≤kj15)∧Aside0 (Kd.R k61 61 w' w.heap.size (fun _=>True) v155 t154)∧Aside0 (Below w.heap.size w w'))
           case atStart=>exact⟨(wrap64 (x6_2+2)),(by first | rfl | (simp;done) | (simp [*];done)),H',⟨Nat.le_refl _⟩,⟨by (with_reducible repeat (first | apply Kd.R_alloc | apply Kd.R_drewN | apply Kd.R_drew));exact HO_4.out⟩,⟨hB_⟩⟩
           case round =>
            clear H';obtain⟨x7_4,rfl,HA,HK4,HO_4,HB⟩:=hrel
            cases gk with
            | zero=>exact absurd HA.out (by simp [spec_LoopOk.l2])
            | succ k4 =>
             have H:=HA.out;clear HA;simp only [spec_LoopOk.l2] at H;by_cases c34:x7_4<(l0.length:Int)
             ·
              rw [if_pos c34] at H;have c34b0:decide (x7_4<(l0.length:Int))=true:=decide_eq_true c34;clear c34;by_cases c35:(l0.length:Int)=0
              ·
               rw [if_pos c35] at H;exact absurd H (by simp)
              ·
               rw [if_neg c35] at H;have c35b0:((l0.length:Int)==0)=false:=beq_eq_false_iff_ne.mpr c35;have c35b1:((l0.length:Int) != 0)=true:=bne_iff_ne.mpr c35;have c35b2:¬ (l0=[]):=fun h_=>c35 (by rw [h_];rfl)
               by_cases c36:(Int.tmod (wrap64 (x7_4+1)) (l0.length:Int))=x6_2
               ·
                rw [if_pos c36] at H;have c36b0:((Int.tmod (wrap64 (x7_4+1)) (l0.length:Int))==x6_2)=true:=beq_iff_eq.mpr c36;have c36b1:((Int.tmod (wrap64 (x7_4+1)) (l0.length:Int)) != x6_2)=false:=bne_eq_false_iff_eq.mpr c36;clear c36;have H':=Aside0.mk H;clear H
                try go_wp2
                replace HO_4:=a0_ (Kd.R_drew HO_4.out);replace HB:=a0_ (below_drew1 HB.out);refine start_ (n:=17) (S:=fun w'=>True) (ds:=[]) (Array.replicate 17 false) (by kernel_rfl) rfl rfl trivial (fun hHeld=>?_);refine with_tabW spec_LoopOk.tab18 spec_LoopOk.bits18 (fun HT_ HW_=>?_);generalize wr.drew=w37 at HO_4 HB hHeld ⊢
                refine pu_ HT_ 0 66 (bm 17 1) ?_;refine pu_ HT_ 1 67 (bm 17 3) ?_;refine pu_ HT_ 2 68 (bm 17 7) ?_;refine pu_ HT_ 3 69 (bm 17 15) ?_;refine pu_ HT_ 4 70 (bm 17 31) ?_;refine pu_ HT_ 5 71 (bm 17 63) ?_;refine pu_ HT_ 6 72 (bm 17 127) ?_;refine pz_ HT_ 7 73 (bm 17 255) ?_;refine pz_ HT_ 8 74 (bm 17 511) ?_;refine pz_ HT_ 9 75 (bm 17 1023) ?_;refine pz_ HT_ 10 76 (bm 17 2047) ?_;refine pz_ HT_ 11 77 (bm 17 4095) ?_;refine pz_ HT_ 12 78 (bm 17 8191) ?_;refine pz_ HT_ 13 79 (bm 17 16383) ?_;refine pz_ HT_ 14 80 (bm 17 32767) ?_;refine pz_ HT_ 15 81 (bm 17 65535) ?_;refine pu_ HT_ 16 82 (bm 17 131071) ?_;refine done_ (done_of HT_.out (by kernel_rfl)) ?_
                try go_wp2
                go_roundg k4
                case measure=>have:=HK1.out;have:=HK2.out;have:=HJ15.out;have:=HK4.out;omega
                case rel=>exact⟨(wrap64 (x7_4+1)),(by first | rfl | (simp;done) | (simp [*];done)),H',⟨by have:=HK1.out;have:=HK2.out;have:=HJ15.out;have:=HK4.out;omega⟩,⟨by (with_reducible repeat (first | apply Kd.R_alloc | apply Kd.R_drewN | apply Kd.R_drew));exact HO_4.out⟩,⟨hB_⟩⟩
               ·
                rw [if_neg c36] at H;have c36b0:((Int.tmod (wrap64 (x7_4+1)) (l0.length:Int))==x6_2)=false:=beq_eq_false_iff_ne.mpr c36;have c36b1:((Int.tmod (wrap64 (x7_4+1)) (l0.length:Int)) != x6_2)=true:=bne_iff_ne.mpr c36;by_cases c38:0≤x6_2
                ·
                 rw [if_pos c38] at H;have c38b0:decide (0≤x6_2)=true:=decide_eq_true c38;clear c38;by_cases c39:x6_2<(t154.length:Int)
                 ·
                  rw [if_pos c39] at H;have c39b0:decide (x6_2<(t154.length:Int))=true:=decide_eq_true c39;clear c39;by_cases c40:0≤x7_4
                  ·
                   rw [if_pos c40] at H;have c40b0:decide (0≤x7_4)=true:=decide_eq_true c40;clear c40;by_cases c41:x7_4<(t154.length:Int)
                   ·
                    rw [if_pos c41] at H;have c41b0:decide (x7_4<(t154.length:Int))=true:=decide_eq_true c41;clear c41;replace H:=Option.bind_eq_some_iff.mp H;obtain⟨t167,A420,H⟩:=H
                    (try dsimp only at H)
                    have A42:=Aside0.mk A420;clear A420;by_cases c43:t167=true
                    ·
                     subst c43;rw [if_pos rfl] at H
                     (try dsimp only at H)
                     obtain rfl:=Option.some.inj H
                     try go_wp2
                     replace HO_4:=a0_ (Kd.R_drew HO_4.out);replace HB:=a0_ (below_drew1 HB.out);obtain⟨Ao45,co45,eo45⟩:=Kd.R_slice HO_4.out
                     (first | subst eo45 | (injection eo45 with f1_ f2_ f3_;have f4_:=f1_.symm;have f5_:=f3_.symm;clear f1_ f2_ f3_;subst f4_;subst f5_))
                     have p165:0≤(x6_2:Int):=od_;have q165:x6_2<(t154.length:Int):=od_;obtain⟨ad165,e165,hx165_0,hx165_1,hx165_2,hx165_3⟩:=at_T61 (Kd.R_reads' HO_4.out).2.2 x6_2 p165 q165;cases e165;replace p165:=eq_true p165;replace q165:=eq_true q165;have p166:0≤(x7_4:Int):=od_;have q166:x7_4<(t154.length:Int):=od_;obtain⟨ad166,e166,hx166_0,hx166_1,hx166_2,hx166_3⟩:=at_T61 (Kd.R_reads' HO_4.out).2.2 x7_4 p166 q166;obtain rfl:ad165=ad166:=(by injection e166);replace p166:=eq_true p166;replace q166:=eq_true q166;refine start_ (n:=17) (S:=fun w'=>w'.cell? (ad165.add ((x6_2).toNat*4))=some (.int .i64 ((rd_T61 t154 x6_2).f0.f0))∧w'.cell? ⟨(ad165.add ((x6_2).toNat*4)).block,(ad165.add ((x6_2).toNat*4)).off+1,none⟩=some (.int .i64 ((rd_T61 t154 x6_2).f0.f1))∧w'.cell? ⟨(ad165.add ((x6_2).toNat*4)).block,(ad165.add ((x6_2).toNat*4)).off+2,none⟩=some (.int .i64 ((rd_T61 t154 x6_2).f1.f0))∧w'.cell? ⟨(ad165.add ((x6_2).toNat*4)).block,(ad165.add ((x6_2).toNat*4)).off+3,none⟩=some (.int .i64 ((rd_T61 t154 x6_2).f1.f1))∧w'.cell? (ad165.add ((x7_4).toNat*4))=some (.int .i64 ((rd_T61 t154 x7_4).f0.f0))∧w'.cell? ⟨(ad165.add ((x7_4).toNat*4)).block,(ad165.add ((x7_4).toNat*4)).off+1,none⟩=some (.int .i64 ((rd_T61 t154 x7_4).f0.f1))∧w'.cell? ⟨(ad165.add ((x7_4).toNat*4)).block,(ad165.add ((x7_4).toNat*4)).off+2,none⟩=some (.int .i64 ((rd_T61 t154 x7_4).f1.f0))∧w'.cell? ⟨(ad165.add ((x7_4).toNat*4)).block,(ad165.add ((x7_4).toNat*4)).off+3,none⟩=some (.int .i64 ((rd_T61 t154 x7_4).f1.f1))) (ds:=[]) (Array.replicate 17 false) (by kernel_rfl) rfl rfl ⟨hx165_0,hx165_1,hx165_2,hx165_3,hx166_0,hx166_1,hx166_2,hx166_3⟩ (fun hHeld=>?_);refine with_tabW spec_LoopOk.tab18 spec_LoopOk.bits18 (fun HT_ HW_=>?_)
                     generalize wr.drew=w44 at HO_4 HB hx165_0 hx165_1 hx165_2 hx165_3 hx166_0 hx166_1 hx166_2 hx166_3 hHeld ⊢
                     refine pu_ HT_ 0 66 (bm 17 1) ?_;refine pu_ HT_ 1 67 (bm 17 3) ?_;refine pu_ HT_ 2 68 (bm 17 7) ?_;refine pu_ HT_ 3 69 (bm 17 15) ?_;refine pu_ HT_ 4 70 (bm 17 31) ?_;refine pu_ HT_ 5 71 (bm 17 63) ?_;refine pu_ HT_ 6 72 (bm 17 127) ?_;refine pu_ HT_ 7 73 (bm 17 255) ?_;refine pu_ HT_ 8 74 (bm 17 511) ?_;refine pu_ HT_ 9 75 (bm 17 1023) ?_;refine pu_ HT_ 11 77 (bm 17 3071) ?_;refine pu_ HT_ 12 78 (bm 17 7167) ?_;refine pu_ HT_ 13 79 (bm 17 15359) ?_;refine ta8_ HT_ HW_ 10 76 (bm 17 16383) hHeld ?_;refine ta8_ HT_ HW_ 14 80 (bm 17 32767) hHeld ?_;refine one_ (i:=15) (N:=some 81) (bm 17 65535) rfl rfl (one_of HT_.out (by kernel_rfl)) (by decide) (fun K hK=>?_);refine goes_ Tryd.func101 (by kernel_rfl) rfl #[.agg #[.int .i64 ((rd_T61 t154 x6_2).f0.f0),.int .i64 ((rd_T61 t154 x6_2).f0.f1),.int .i64 ((rd_T61 t154 x6_2).f1.f0),.int .i64 ((rd_T61 t154 x6_2).f1.f1)],.agg #[.int .i64 ((rd_T61 t154 x7_4).f0.f0),.int .i64 ((rd_T61 t154 x7_4).f0.f1),.int .i64 ((rd_T61 t154 x7_4).f1.f0),.int .i64 ((rd_T61 t154 x7_4).f1.f1)]] (by rfl) rfl rfl ma_ ?_
                     with_reducible refine (spec_l2Meet.calls ((rd_T61 t154 x6_2).f0.f0) ((rd_T61 t154 x6_2).f0.f1) ((rd_T61 t154 x6_2).f1.f0) ((rd_T61 t154 x6_2).f1.f1) ((rd_T61 t154 x7_4).f0.f0) ((rd_T61 t154 x7_4).f0.f1) ((rd_T61 t154 x7_4).f1.f0) ((rd_T61 t154 x7_4).f1.f1) true _ A42.out).mono ?_
                     rintro e w46 ⟨rfl,hb⟩;have HS0_:=pw_cell_below hb hHeld.1;have HS1_:=pw_cell_below hb hHeld.2.1;have HS2_:=pw_cell_below hb hHeld.2.2.1;have HS3_:=pw_cell_below hb hHeld.2.2.2.1;have HS4_:=pw_cell_below hb hHeld.2.2.2.2.1;have HS5_:=pw_cell_below hb hHeld.2.2.2.2.2.1;have HS6_:=pw_cell_below hb hHeld.2.2.2.2.2.2.1;have HS7_:=pw_cell_below hb hHeld.2.2.2.2.2.2.2;refine⟨_,rfl,?_⟩;replace HO_4:=rb_ HO_4 hb;replace HB:=sb_ HB hb
                     (try clear hb)
                     (try clear hb2)
                     (try clear hk)
                     (try clear hi)
                     refine hK.out _ _ ⟨HS0_,HS1_,HS2_,HS3_,HS4_,HS5_,HS6_,HS7_⟩ (fun hHeld=>?_);clear hK K;refine no_ (h:=?_);refine pu_ HT_ 16 82 (bm 17 131071) ?_;refine done_ (done_of HT_.out (by kernel_rfl)) ?_
                     try go_wp2
                     go_ret;exact⟨rr_,hB_⟩
                    ·
                     replace c43:=Bool.eq_false_iff.mpr c43;subst c43;rw [if_neg (show ¬ (false=true) by decide)] at H
                     (try dsimp only at H)
                     have H':=Aside0.mk H;clear H
                     try go_wp2
                     replace HO_4:=a0_ (Kd.R_drew HO_4.out);replace HB:=a0_ (below_drew1 HB.out);obtain⟨Ao48,co48,eo48⟩:=Kd.R_slice HO_4.out
                     (first | subst eo48 | (injection eo48 with f1_ f2_ f3_;have f4_:=f1_.symm;have f5_:=f3_.symm;clear f1_ f2_ f3_;subst f4_;subst f5_))
                     have p165:0≤(x6_2:Int):=od_;have q165:x6_2<(t154.length:Int):=od_;obtain⟨ad165,e165,hx165_0,hx165_1,hx165_2,hx165_3⟩:=at_T61 (Kd.R_reads' HO_4.out).2.2 x6_2 p165 q165;cases e165;replace p165:=eq_true p165;replace q165:=eq_true q165;have p166:0≤(x7_4:Int):=od_;have q166:x7_4<(t154.length:Int):=od_;obtain⟨ad166,e166,hx166_0,hx166_1,hx166_2,hx166_3⟩:=at_T61 (Kd.R_reads' HO_4.out).2.2 x7_4 p166 q166;obtain rfl:ad165=ad166:=(by injection e166);replace p166:=eq_true p166;replace q166:=eq_true q166;refine start_ (n:=17) (S:=fun w'=>w'.cell? (ad165.add ((x6_2).toNat*4))=some (.int .i64 ((rd_T61 t154 x6_2).f0.f0))∧w'.cell? ⟨(ad165.add ((x6_2).toNat*4)).block,(ad165.add ((x6_2).toNat*4)).off+1,none⟩=some (.int .i64 ((rd_T61 t154 x6_2).f0.f1))∧w'.cell? ⟨(ad165.add ((x6_2).toNat*4)).block,(ad165.add ((x6_2).toNat*4)).off+2,none⟩=some (.int .i64 ((rd_T61 t154 x6_2).f1.f0))∧w'.cell? ⟨(ad165.add ((x6_2).toNat*4)).block,(ad165.add ((x6_2).toNat*4)).off+3,none⟩=some (.int .i64 ((rd_T61 t154 x6_2).f1.f1))∧w'.cell? (ad165.add ((x7_4).toNat*4))=some (.int .i64 ((rd_T61 t154 x7_4).f0.f0))∧w'.cell? ⟨(ad165.add ((x7_4).toNat*4)).block,(ad165.add ((x7_4).toNat*4)).off+1,none⟩=some (.int .i64 ((rd_T61 t154 x7_4).f0.f1))∧w'.cell? ⟨(ad165.add ((x7_4).toNat*4)).block,(ad165.add ((x7_4).toNat*4)).off+2,none⟩=some (.int .i64 ((rd_T61 t154 x7_4).f1.f0))∧w'.cell? ⟨(ad165.add ((x7_4).toNat*4)).block,(ad165.add ((x7_4).toNat*4)).off+3,none⟩=some (.int .i64 ((rd_T61 t154 x7_4).f1.f1))) (ds:=[]) (Array.replicate 17 false) (by kernel_rfl) rfl rfl ⟨hx165_0,hx165_1,hx165_2,hx165_3,hx166_0,hx166_1,hx166_2,hx166_3⟩ (fun hHeld=>?_);refine with_tabW spec_LoopOk.tab18 spec_LoopOk.bits18 (fun HT_ HW_=>?_)
                     generalize wr.drew=w47 at HO_4 HB hx165_0 hx165_1 hx165_2 hx165_3 hx166_0 hx166_1 hx166_2 hx166_3 hHeld ⊢
                     refine pu_ HT_ 0 66 (bm 17 1) ?_;refine pu_ HT_ 1 67 (bm 17 3) ?_;refine pu_ HT_ 2 68 (bm 17 7) ?_;refine pu_ HT_ 3 69 (bm 17 15) ?_;refine pu_ HT_ 4 70 (bm 17 31) ?_;refine pu_ HT_ 5 71 (bm 17 63) ?_;refine pu_ HT_ 6 72 (bm 17 127) ?_;refine pu_ HT_ 7 73 (bm 17 255) ?_;refine pu_ HT_ 8 74 (bm 17 511) ?_;refine pu_ HT_ 9 75 (bm 17 1023) ?_;refine pu_ HT_ 11 77 (bm 17 3071) ?_;refine pu_ HT_ 12 78 (bm 17 7167) ?_;refine pu_ HT_ 13 79 (bm 17 15359) ?_;refine ta8_ HT_ HW_ 10 76 (bm 17 16383) hHeld ?_;refine ta8_ HT_ HW_ 14 80 (bm 17 32767) hHeld ?_;refine one_ (i:=15) (N:=some 81) (bm 17 65535) rfl rfl (one_of HT_.out (by kernel_rfl)) (by decide) (fun K hK=>?_);refine goes_ Tryd.func101 (by kernel_rfl) rfl #[.agg #[.int .i64 ((rd_T61 t154 x6_2).f0.f0),.int .i64 ((rd_T61 t154 x6_2).f0.f1),.int .i64 ((rd_T61 t154 x6_2).f1.f0),.int .i64 ((rd_T61 t154 x6_2).f1.f1)],.agg #[.int .i64 ((rd_T61 t154 x7_4).f0.f0),.int .i64 ((rd_T61 t154 x7_4).f0.f1),.int .i64 ((rd_T61 t154 x7_4).f1.f0),.int .i64 ((rd_T61 t154 x7_4).f1.f1)]] (by rfl) rfl rfl ma_ ?_
                     with_reducible refine (spec_l2Meet.calls ((rd_T61 t154 x6_2).f0.f0) ((rd_T61 t154 x6_2).f0.f1) ((rd_T61 t154 x6_2).f1.f0) ((rd_T61 t154 x6_2).f1.f1) ((rd_T61 t154 x7_4).f0.f0) ((rd_T61 t154 x7_4).f0.f1) ((rd_T61 t154 x7_4).f1.f0) ((rd_T61 t154 x7_4).f1.f1) false _ A42.out).mono ?_
                     rintro e w49 ⟨rfl,hb⟩;have HS0_:=pw_cell_below hb hHeld.1;have HS1_:=pw_cell_below hb hHeld.2.1;have HS2_:=pw_cell_below hb hHeld.2.2.1;have HS3_:=pw_cell_below hb hHeld.2.2.2.1;have HS4_:=pw_cell_below hb hHeld.2.2.2.2.1;have HS5_:=pw_cell_below hb hHeld.2.2.2.2.2.1;have HS6_:=pw_cell_below hb hHeld.2.2.2.2.2.2.1;have HS7_:=pw_cell_below hb hHeld.2.2.2.2.2.2.2;refine⟨_,rfl,?_⟩;replace HO_4:=rb_ HO_4 hb;replace HB:=sb_ HB hb
                     (try clear hb)
                     (try clear hb2)
                     (try clear hk)
                     (try clear hi)
                     refine hK.out _ _ ⟨HS0_,HS1_,HS2_,HS3_,HS4_,HS5_,HS6_,HS7_⟩ (fun hHeld=>?_);clear hK K;refine no_ (h:=?_);refine pu_ HT_ 16 82 (bm 17 131071) ?_;refine done_ (done_of HT_.out (by kernel_rfl)) ?_
                     try go_wp2
                     go_roundg k4
                     case measure=>have:=HK1.out;have:=HK2.out;have:=HJ15.out;have:=HK4.out;omega
                     case rel=>exact⟨(wrap64 (x7_4+1)),(by first | rfl | (simp;done) | (simp [*];done)),H',⟨by have:=HK1.out;have:=HK2.out;have:=HJ15.out;have:=HK4.out;omega⟩,⟨by (with_reducible repeat (first | apply Kd.R_alloc | apply Kd.R_drewN | apply Kd.R_drew));exact HO_4.out⟩,⟨hB_⟩⟩
                   ·
                    rw [if_neg c41] at H;exact absurd H (by simp)
                  ·
                   rw [if_neg c40] at H;exact absurd H (by simp)
                 ·
                  rw [if_neg c39] at H;exact absurd H (by simp)
                ·
                 rw [if_neg c38] at H;exact absurd H (by simp)
             ·
              rw [if_neg c34] at H;have c34b0:decide (x7_4<(l0.length:Int))=false:=decide_eq_false c34;clear c34;have H':=Aside0.mk H;clear H;go_wp2;go_roundg k4
              case measure=>have:=HK1.out;have:=HK2.out;have:=HJ15.out;have:=HK4.out;omega
              case rel=>exact⟨(wrap64 (x6_2+1)),(by first | rfl | (simp;done) | (simp [*];done)),H',⟨by have:=HK1.out;have:=HK2.out;have:=HJ15.out;have:=HK4.out;omega⟩,⟨by (with_reducible repeat (first | apply Kd.R_alloc | apply Kd.R_drewN | apply Kd.R_drew));exact HO_4.out⟩,⟨hB_⟩⟩
       ·
        rw [if_neg c15] at H;have c15b0:decide (x6_2<(l0.length:Int))=false:=decide_eq_false c15;clear c15;obtain rfl:=Option.some.inj H;go_wp2;go_ret;exact⟨rr_,hB_⟩
 ·
  replace c3:=Bool.eq_false_iff.mpr c3;subst c3;rw [if_neg (show ¬ (false=true) by decide)] at H
  (try dsimp only at H)
  obtain rfl:=Option.some.inj H;go_enter Tryd.func55,Tryd.ntmps55;go_wp2_with (first | ((with_reducible refine gate_callee (f:=58) rfl ?_);refine gL_ (some 11) Tryd.func58 #[.int .i64 (l0.length:Int),.int .i64 3,.int .i64 8] (h:=?_);(with_reducible refine (spec_l6In.calls (l0.length:Int) 3 8 false _ A2.out).mono ?_);rintro e w' ⟨rfl,⟨nd,rfl⟩⟩;refine⟨_,rfl,?_⟩));go_ret;exact⟨rr_,hB_⟩
end Go.Proofs.YtkefmnmoaomlhaaDoor.X
end
section
set_option linter.unusedVariables false
set_option linter.unusedSimpArgs false
namespace Go.Proofs.YtkefmnmoaomlhaaDoor.X
open Go.RowKit Go.Proofs.YtkefmnmoaomlhaaDoorW.PrintWords Go.Proofs.YtkefmnmoaomlhaaDoorW.PrintLast Go.Proofs.YtkefmnmoaomlhaaDoorW.PrintMore
def esOf (z:List S28):List S61:=(List.range z.length).map (edS z)
theorem w64i {x:Int}(h : -9223372036854775808≤x)(h':x≤9223372036854775807):wrap64 x=x:=by unfold wrap64;omega
theorem sEdges_l0 (z:List S28)(hz:z.length≤1000000):∀ (m i k:Nat) (acc:List S61),z.length-i=m→i≤z.length→m<k→acc.length≤i→spec_l3Edges.l0 k z acc (i:Int)=some (acc++(List.range' i m).map (edS z)):=by
 intro m
 induction m with
 | zero =>
  intro i k acc hm hi hk ha;obtain⟨k,rfl⟩:∃ j,k=j+1:=⟨k-1,by omega⟩;simp only [spec_l3Edges.l0];rw [if_neg (by omega)];simp
 | succ m ih =>
  intro i k acc hm hi hk ha;obtain⟨k,rfl⟩:∃ j,k=j+1:=⟨k-1,by omega⟩;simp only [spec_l3Edges.l0];have hw:wrap64 ((i:Int)+1)=((i+1:Nat):Int):=by rw [w64i (by omega) (by omega)];rfl
  have ht:Int.tmod ((i+1:Nat):Int) (z.length:Int)=(((i+1) % z.length:Nat):Int):=rfl;have hlt:=Nat.mod_lt (i+1) (show 0<z.length by omega);rw [if_pos (by omega),if_pos (by omega),if_neg (by omega),hw,ht,if_pos (by omega),if_pos (by omega),if_pos (by omega)];rw [ih (i+1) k _ (by omega) (by omega) (by omega) (by simp;omega),List.range'_succ,List.map_cons,List.append_assoc];rfl
theorem sEdges {z:List S28}(hz:z.length≤1000000){k:Nat}(hk:z.length<k):spec_l3Edges.f k z=some (esOf z):=by
 unfold spec_l3Edges.f esOf;rw [show (0:Int)=((0:Nat):Int) from rfl,sEdges_l0 z hz z.length 0 k [] (by omega) (by omega) hk (by simp),List.range_eq_range'];simp
theorem esOf_len (z:List S28):(esOf z).length=z.length:=by simp [esOf]
theorem esOf_getD (z:List S28){i:Nat}(h:i<z.length):(esOf z).getD i z61=edS z i:=by
 rw [List.getD_eq_getElem?_getD,List.getElem?_eq_getElem (by rw [esOf_len];exact h)];simp [esOf]
theorem esOf_edges (z:List S28):(esOf z).map sgP=Mort.edges (z.map ptP):=by
 rw [Mort.edges_eq,List.length_map];unfold esOf;rw [List.map_map];refine List.map_congr_left fun i _=>?_
 rw [ed_edS];rfl
end Go.Proofs.YtkefmnmoaomlhaaDoor.X
end
section
set_option linter.unusedVariables false
set_option linter.unusedSimpArgs false
namespace Go.Proofs.YtkefmnmoaomlhaaDoor.X
open Go.RowKit Go.Shelf Go.Proofs.YtkefmnmoaomlhaaDoorW.PrintWords Go.Proofs.YtkefmnmoaomlhaaDoorW.PrintLast Go.Proofs.YtkefmnmoaomlhaaDoorW.PrintMore
open Mort (edges loopOk ptOk inOf inRun crsI cross has)
def spec_l3In.f (l0:List S28)(a1_0 a1_1:Int):Option Int:=if loopOk (l0.map ptP)=true∧ptOk (a1_0,a1_1)=true then some (inOf (l0.map ptP) (a1_0,a1_1)) else none
theorem at_sg3 {W:World}{A:Option Addr}{n:Nat}{zs:List S61}(hC:Kd.C k61 W A n zs)(k:Nat)(h:k<n):
  ∃ ad,A=some ad∧W.cell? (ad.add (k*4))=some (.int .i64 (zs.getD k z61).f0.f0)∧W.cell? ⟨(ad.add (k*4)).block,(ad.add (k*4)).off+1,none⟩=some (.int .i64 (zs.getD k z61).f0.f1) ∧
   W.cell? ⟨(ad.add (k*4)).block,(ad.add (k*4)).off+2,none⟩=some (.int .i64 (zs.getD k z61).f1.f0)∧W.cell? ⟨(ad.add (k*4)).block,(ad.add (k*4)).off+3,none⟩=some (.int .i64 (zs.getD k z61).f1.f1):=
 at_T61 hC (k:Int) (by omega) (by omega)
def upC (lo hi p:Mort.Pt):Bool:=decide (lo.2≤p.2) && (decide (p.2<hi.2) && decide (0<cross lo hi p))
theorem crs_up (a b p:Mort.Pt):crsI (a,b) p=if b.2<a.2 then upC b a p else upC a b p:=by
 unfold crsI upC;simp only;have hr:=Mort.cross_rev a b p;by_cases h:b.2<a.2
 ·
  rw [if_pos h];have e1:(decide (a.2≤p.2) && (decide (p.2<b.2) && decide (0<cross a b p)))=false:=by
   by_cases h1:a.2≤p.2
   ·
    rw [decide_eq_false (show ¬ p.2<b.2 by omega)];simp
   ·
    rw [decide_eq_false h1];rfl
  rw [e1,Bool.false_or,hr]
  congr 2
  rw [decide_eq_decide];omega
 ·
  rw [if_neg h];have e1:(decide (b.2≤p.2) && (decide (p.2<a.2) && decide (cross a b p<0)))=false:=by
   by_cases h1:b.2≤p.2
   ·
    rw [decide_eq_false (show ¬ p.2<a.2 by omega)];simp
   ·
    rw [decide_eq_false h1];rfl
  rw [e1,Bool.or_false]
set_option maxHeartbeats 4000000 in
set_option maxRecDepth 100000 in
theorem spec_l3In.calls (A0:Option Addr)(c0:Nat)(l0:List S28)(a1_0 a1_1:Int)(r:Int)(w:World)(hr0:Kd.C k28 w A0 l0.length l0)(hc0:l0.length≤c0)(h:spec_l3In.f l0 a1_0 a1_1=some r):
  Calls Tryd.prog 56 #[.slice A0 l0.length c0,.agg #[.int .i64 a1_0,.int .i64 a1_1]] w fun e w'=>e=.returned (.int .i64 r)∧Below w.heap.size w w':=by
 have hu28:=Tryd.underlying28;have hu61:=Tryd.underlying61;unfold spec_l3In.f at h
 split at h
 case isFalse=>cases h
 rename_i hh
 obtain⟨hok,hp⟩:=hh;have h:=Option.some.inj h;have hlen:l0.length≤8:=by have:=((Mort.loopOk_iff _).1 hok).2.1;simpa using this
 have hal:=below_alloc (Below.refl w.heap.size w) (.cells #[.int .i64 a1_0,.int .i64 a1_1] 28);have np:=blk_new w (.cells #[.int .i64 a1_0,.int .i64 a1_1] 28 (0,0));have hes:spec_l3Edges.f 10 l0=some (esOf l0):=sEdges (by omega) (by omega);have hsg:∀ i,i<l0.length→Mort.segOk (sgP (edS l0 i))=true:=fun i hi=>by
  have:=((Mort.loopOk_iff _).1 hok).2.2.1 _ (Mort.mem_edges.2 ⟨i,by simpa using hi,rfl⟩)
  rwa [ed_edS] at this
 have hmem:∀ i,i<l0.length→sgP (edS l0 i)∈edges (l0.map ptP):=fun i hi=>by
  rw [← ed_edS];exact Mort.mem_edges.2 ⟨i,by simpa using hi,rfl⟩
 have HK:=a0_ (And.intro (Kd.C_below hr0 hal) (And.intro hc0 (And.intro hes (And.intro hsg (And.intro hmem (And.intro hp (And.intro h (And.intro hlen (And.intro hal np)))))))));clear hr0 hc0 hes hsg hmem hp h hlen hal np hok;go_enter Tryd.func56,Tryd.ntmps56;go_wp2_with (go_at_call 98;refine (spec_l3Edges.calls 10 A0 c0 l0 (esOf l0) _ HK.out.1 HK.out.2.1 HK.out.2.2.1).mono ?_;rintro e w1 ⟨v,rfl,hR,hb1⟩;obtain⟨Ae,ce,hv,hce,hCe⟩:=Kd.R_reads hR;subst hv;have HE:=a0_ (And.intro hCe (And.intro hce hb1));clear hR hCe hce hb1);generalize hg:w.heap.size=g at *;have hG:=Aside0.mk hg;clear hg;have hL:(esOf l0).length=l0.length:=esOf_len l0;rw [hL];have HLn:=Aside0.mk hL;clear hL
 go_loopg [5,7] l0.length (fun kq v5 v7 wr=>∃ (i:Nat),v5=.int .i64 (inRun (((esOf l0).take i).map sgP) (a1_0,a1_1))∧v7=.int .i64 (i:Int)∧Aside0 (kq=l0.length-i∧i≤l0.length∧wr.heap[g]?=some (.cells #[.int .i64 a1_0,.int .i64 a1_1] 28 (0,0)) ∧
   (∀ e∈((esOf l0).take i).map sgP,has e (a1_0,a1_1)=false)∧Below g w wr∧Below w1.heap.size w1 wr))
 case atStart =>
  have hG':=hG.out;subst hG';refine⟨0,rfl,rfl,⟨rfl,Nat.zero_le _,blk_later HK.out.2.2.2.2.2.2.2.2.2 HE.out.2.2,?_,below_step HK.out.2.2.2.2.2.2.2.2.1 HE.out.2.2,Below.refl _ _⟩⟩;intro e he;simp at he
 case round =>
  obtain⟨i,rfl,rfl,H1⟩:=hrel;obtain⟨hk,hi,hpb,hno,hBw,hB1⟩:=H1.out;clear H1;by_cases hlt:i<l0.length
  ·
   have hd:decide ((i:Int)<(l0.length:Int))=true:=decide_eq_true (by omega);obtain⟨adr,hadr,z0,z1,z2,z3⟩:=at_sg3 HE.out.1 i (by rw [HLn.out];exact hlt);subst hadr;have t0:=pw_cell_below (below_drew1 hB1) z0;have t1:=pw_cell_below (below_drew1 hB1) z1;have t2:=pw_cell_below (below_drew1 hB1) z2;have t3:=pw_cell_below (below_drew1 hB1) z3;have p0:wr.drew.cell? ⟨g,0,none⟩=some (.int .i64 a1_0):=(blk_cell hpb 0).trans rfl;have p1:wr.drew.cell? ⟨g,1,none⟩=some (.int .i64 a1_1):=(blk_cell hpb 1).trans rfl;have hes:(esOf l0).getD i z61=edS l0 i:=esOf_getD l0 hlt;have htk:((esOf l0).take (i+1)).map sgP=((esOf l0).take i).map sgP++[sgP (edS l0 i)]:=by
    rw [List.take_succ_eq_append_getElem (by rw [HLn.out];exact hlt),List.map_append];rw [List.getD_eq_getElem?_getD,List.getElem?_eq_getElem (by rw [HLn.out];exact hlt)] at hes;rw [show (esOf l0)[i]'(by rw [HLn.out];exact hlt)=edS l0 i from hes];rfl
   rw [hes] at t0 t1 t2 t3;have hseg:=HK.out.2.2.2.1 i hlt;have hmem:=HK.out.2.2.2.2.1 i hlt;generalize edS l0 i=s0 at *;obtain⟨⟨ax,ay⟩,⟨bx,by'⟩⟩:=s0;obtain⟨⟨hpa,hpb'⟩,_⟩:(ptOk (ax,ay)=true∧ptOk (bx,by')=true)∧True:=⟨⟨((Mort.segOk_iff _).1 hseg).1,((Mort.segOk_iff _).1 hseg).2.1⟩,trivial⟩;have hhas:=sHas hpa hpb' HK.out.2.2.2.2.2.1;have hc1:=sCross hpa hpb' HK.out.2.2.2.2.2.1;have hc2:=sCross hpb' hpa HK.out.2.2.2.2.2.1;have HL:=a0_ (And.intro hk (And.intro hpb (And.intro hno (And.intro hBw (And.intro hB1 (And.intro hhas (And.intro hc1 (And.intro hc2 (And.intro htk hmem)))))))));clear hk hi hpb hno hBw hB1 hhas hc1 hc2 htk hmem hes z0 z1 z2 z3 hseg hpa hpb'
   cases hh:has ((ax,ay),(bx,by')) (a1_0,a1_1) with
   | true =>
    obtain⟨k1,k2,k3,k4,k5,k6,k7,k8,k9,k10⟩:=HL.out;have hr:0=r:=by rw [← HK.out.2.2.2.2.2.2.1,Mort.inOf_on k10 hh]
    subst hr;have HV:=a0_ (k6.trans (congrArg some hh));clear k1 k2 k3 k4 k5 k6 k7 k8 k9 k10 hh;go_wp2;go_region_held3 (fun W=>W.cell? (adr.add (i*4))=some (.int .i64 ax)∧W.cell? ⟨(adr.add (i*4)).block,(adr.add (i*4)).off+1,none⟩=some (.int .i64 ay)∧W.cell? ⟨(adr.add (i*4)).block,(adr.add (i*4)).off+2,none⟩=some (.int .i64 bx)∧W.cell? ⟨(adr.add (i*4)).block,(adr.add (i*4)).off+3,none⟩=some (.int .i64 by')∧W.cell? ⟨g,0,none⟩=some (.int .i64 a1_0)∧W.cell? ⟨g,1,none⟩=some (.int .i64 a1_1))
     (first | exact⟨pw_cell_below hb t0,pw_cell_below hb t1,pw_cell_below hb t2,pw_cell_below hb t3,pw_cell_below hb p0,pw_cell_below hb p1⟩ | go_keep)
     (first | (go_at_call 100;refine (spec_l2Has.calls ax ay bx by' a1_0 a1_1 true _ HV.out).mono ?_;rintro e w2 ⟨rfl,hb⟩))
    go_wp2;go_ret;have hG':=hG.out;subst hG';exact⟨rfl,below_row (below_drew1 HL.out.2.2.2.1) (Nat.le_refl _) hb⟩
   | false =>
    obtain⟨k1,k2,k3,k4,k5,k6,k7,k8,k9,k10⟩:=HL.out;have hin:inRun (((esOf l0).take (i+1)).map sgP) (a1_0,a1_1)=if crsI ((ax,ay),(bx,by')) (a1_0,a1_1) then-inRun (((esOf l0).take i).map sgP) (a1_0,a1_1) else inRun (((esOf l0).take i).map sgP) (a1_0,a1_1):=by rw [k9,Mort.inRun_snoc];rfl
    have hno2:∀ e∈((esOf l0).take (i+1)).map sgP,has e (a1_0,a1_1)=false:=by
     rw [k9];intro e he
     rcases List.mem_append.1 he with he | he
     ·
      exact k3 e he
     ·
      rw [List.mem_singleton] at he;subst he;exact hh
    rw [crs_up] at hin;have hvals:inRun (((esOf l0).take i).map sgP) (a1_0,a1_1)=1∨inRun (((esOf l0).take i).map sgP) (a1_0,a1_1) = -1:=by
     unfold inRun Mort.sideOf;cases Mort.xorAll _ <;> simp
    generalize inRun (((esOf l0).take i).map sgP) (a1_0,a1_1)=u at *;have HV:=a0_ (k6.trans (congrArg some hh));have HN:=a0_ (And.intro hin (And.intro hno2 hvals));clear k1 k2 k3 k4 k5 k6 k7 k8 k9 k10 hh hin hno2 hvals;go_wp2;go_region_held3 (fun W=>W.cell? (adr.add (i*4))=some (.int .i64 ax)∧W.cell? ⟨(adr.add (i*4)).block,(adr.add (i*4)).off+1,none⟩=some (.int .i64 ay)∧W.cell? ⟨(adr.add (i*4)).block,(adr.add (i*4)).off+2,none⟩=some (.int .i64 bx)∧W.cell? ⟨(adr.add (i*4)).block,(adr.add (i*4)).off+3,none⟩=some (.int .i64 by')∧W.cell? ⟨g,0,none⟩=some (.int .i64 a1_0)∧W.cell? ⟨g,1,none⟩=some (.int .i64 a1_1))
     (first | exact⟨pw_cell_below hb t0,pw_cell_below hb t1,pw_cell_below hb t2,pw_cell_below hb t3,pw_cell_below hb p0,pw_cell_below hb p1⟩ | go_keep)
     (first | (go_at_call 100;refine (spec_l2Has.calls ax ay bx by' a1_0 a1_1 false _ HV.out).mono ?_;rintro e w2 ⟨rfl,hb⟩))
    have t0':=pw_cell_below hb t0;have t1':=pw_cell_below hb t1;have t2':=pw_cell_below hb t2;have t3':=pw_cell_below hb t3;have hxa:=below_alloc (Below.refl w2.heap.size w2) (.cells #[.int .i64 ax,.int .i64 ay] 28);have x0:=pw_cell_below hxa t2';have x1:=pw_cell_below hxa t3';have hu28:=Tryd.underlying28;have hu61:=Tryd.underlying61;obtain⟨_,_,_,_,_,_,k7_,k8_,_,_⟩:=HL.out;by_cases hsw:by'<ay
    ·
     have b1:decide (by'<ay)=true:=decide_eq_true hsw;have HSW:=Aside0.mk hsw;clear hsw k7_;have hW3:=below_alloc (below_alloc (Below.refl w2.heap.size w2) (.cells #[.int .i64 bx,.int .i64 by'] 28)) (.cells #[.int .i64 ax,.int .i64 ay] 28);have q0:=pw_cell_below hW3 (pw_cell_below hb p0);have q1:=pw_cell_below hW3 (pw_cell_below hb p1);have HB3:=a0_ (And.intro hb hW3);clear hb hW3 p0 p1 t0 t1 t2 t3 hxa;have HCR:=Aside0.mk k8_;clear k8_;by_cases g1:by'≤a1_1
     ·
      have b2:decide (by'≤a1_1)=true:=decide_eq_true g1;have G1:=Aside0.mk g1;clear g1;by_cases g2:a1_1<ay
      ·
       have b3:decide (a1_1<ay)=true:=decide_eq_true g2;have G2:=Aside0.mk g2;clear g2;by_cases g3:0<cross (bx,by') (ax,ay) (a1_0,a1_1)
       ·
        have G3:=Aside0.mk g3;generalize cross (bx,by') (ax,ay) (a1_0,a1_1)=cv at g3 HCR;have b4:decide (0<cv)=true:=decide_eq_true g3;have hvals2:=HN.out.2.2;clear g3
        rcases hvals2 with rfl | rfl
        all_goals
         go_wp2_with (go_at_call 102;refine (spec_l2Cross.calls bx by' ax ay a1_0 a1_1 cv _ HCR.out).mono ?_;rintro e w4 ⟨rfl,hb4⟩);obtain⟨k1,k2,k3,k4,k5,k6,k7,k8,k9,k10⟩:=HL.out;have hbb:Below wr.heap.size wr _:=below_step (below_step (below_step (below_drew1 (Below.refl wr.heap.size wr)) HB3.out.1) HB3.out.2) hb4;go_roundg (l0.length-(i+1))
         case measure=>omega
         case rel =>
          refine⟨i+1,?_,?_,⟨rfl,by omega,blk_later k2 hbb,HN.out.2.1,?_,k5.trans (hbb.mono k5.size)⟩⟩
          ·
           have hin:=HN.out.1;have hvals:=HN.out.2.2;rw [hin];have hu:upC (bx,by') (ax,ay) (a1_0,a1_1)=true:=by unfold upC;simp only [G1.out,G2.out,G3.out,decide_true,Bool.and_true]
           rw [if_pos HSW.out,hu]
           first | rfl | decide
          ·
           have hw:wrap64 ((i:Int)+1)=(i:Int)+1:=by have:=HK.out.2.2.2.2.2.2.2.1;unfold wrap64;omega
           first | rfl | (rw [hw];rfl)
          ·
           have hG':=hG.out;subst hG';exact below_row k4 (Nat.le_refl _) hbb
       ·
        have G3:=Aside0.mk g3;generalize cross (bx,by') (ax,ay) (a1_0,a1_1)=cv at g3 HCR;have b4:decide (0<cv)=false:=decide_eq_false g3;clear g3;go_wp2_with (go_at_call 102;refine (spec_l2Cross.calls bx by' ax ay a1_0 a1_1 cv _ HCR.out).mono ?_;rintro e w4 ⟨rfl,hb4⟩);obtain⟨k1,k2,k3,k4,k5,k6,k7,k8,k9,k10⟩:=HL.out;have hbb:Below wr.heap.size wr _:=below_step (below_step (below_step (below_drew1 (Below.refl wr.heap.size wr)) HB3.out.1) HB3.out.2) hb4;go_roundg (l0.length-(i+1))
        case measure=>omega
        case rel =>
         refine⟨i+1,?_,?_,⟨rfl,by omega,blk_later k2 hbb,HN.out.2.1,?_,k5.trans (hbb.mono k5.size)⟩⟩
         ·
          have hin:=HN.out.1;have hvals:=HN.out.2.2;rw [hin];have hu:upC (bx,by') (ax,ay) (a1_0,a1_1)=false:=by unfold upC;simp only [decide_eq_false (show ¬ 0<cross (bx,by') (ax,ay) (a1_0,a1_1) by have:=G3.out;omega),Bool.and_false]
          rw [if_pos HSW.out,hu];rfl
         ·
          have hw:wrap64 ((i:Int)+1)=(i:Int)+1:=by have:=HK.out.2.2.2.2.2.2.2.1;unfold wrap64;omega
          first | rfl | (rw [hw];rfl)
         ·
          have hG':=hG.out;subst hG';exact below_row k4 (Nat.le_refl _) hbb
      ·
       have b3:decide (a1_1<ay)=false:=decide_eq_false g2;have G2:=Aside0.mk g2;clear g2;go_wp2;obtain⟨k1,k2,k3,k4,k5,k6,k7,k8,k9,k10⟩:=HL.out;have hbb:Below wr.heap.size wr _:=below_step (below_step (below_drew1 (Below.refl wr.heap.size wr)) HB3.out.1) HB3.out.2;go_roundg (l0.length-(i+1))
       case measure=>omega
       case rel =>
        refine⟨i+1,?_,?_,⟨rfl,by omega,blk_later k2 hbb,HN.out.2.1,?_,k5.trans (hbb.mono k5.size)⟩⟩
        ·
         have hin:=HN.out.1;have hvals:=HN.out.2.2;rw [hin];have hu:upC (bx,by') (ax,ay) (a1_0,a1_1)=false:=by unfold upC;simp only [decide_eq_false (show ¬ a1_1<ay from by have:=G2.out;omega),Bool.false_and,Bool.and_false]
         rw [if_pos HSW.out,hu];rfl
        ·
         have hw:wrap64 ((i:Int)+1)=(i:Int)+1:=by have:=HK.out.2.2.2.2.2.2.2.1;unfold wrap64;omega
         first | rfl | (rw [hw];rfl)
        ·
         have hG':=hG.out;subst hG';exact below_row k4 (Nat.le_refl _) hbb
     ·
      have b2:decide (by'≤a1_1)=false:=decide_eq_false g1;have G1:=Aside0.mk g1;clear g1;go_wp2;obtain⟨k1,k2,k3,k4,k5,k6,k7,k8,k9,k10⟩:=HL.out;have hbb:Below wr.heap.size wr _:=below_step (below_step (below_drew1 (Below.refl wr.heap.size wr)) HB3.out.1) HB3.out.2;go_roundg (l0.length-(i+1))
      case measure=>omega
      case rel =>
       refine⟨i+1,?_,?_,⟨rfl,by omega,blk_later k2 hbb,HN.out.2.1,?_,k5.trans (hbb.mono k5.size)⟩⟩
       ·
        have hin:=HN.out.1;have hvals:=HN.out.2.2;rw [hin];have hu:upC (bx,by') (ax,ay) (a1_0,a1_1)=false:=by unfold upC;simp only [decide_eq_false (show ¬ by'≤a1_1 from by have:=G1.out;omega),Bool.false_and]
        rw [if_pos HSW.out,hu];rfl
       ·
        have hw:wrap64 ((i:Int)+1)=(i:Int)+1:=by have:=HK.out.2.2.2.2.2.2.2.1;unfold wrap64;omega
        first | rfl | (rw [hw];rfl)
       ·
        have hG':=hG.out;subst hG';exact below_row k4 (Nat.le_refl _) hbb
    ·
     have b1:decide (by'<ay)=false:=decide_eq_false hsw;have HSW:=Aside0.mk hsw;clear hsw k8_;have hW3:=below_alloc (below_alloc (Below.refl w2.heap.size w2) (.cells #[.int .i64 ax,.int .i64 ay] 28)) (.cells #[.int .i64 bx,.int .i64 by'] 28);have q0:=pw_cell_below hW3 (pw_cell_below hb p0);have q1:=pw_cell_below hW3 (pw_cell_below hb p1);have HB3:=a0_ (And.intro hb hW3);clear hb hW3 p0 p1 t0 t1 t2 t3 hxa;have HCR:=Aside0.mk k7_;clear k7_;by_cases g1:ay≤a1_1
     ·
      have b2:decide (ay≤a1_1)=true:=decide_eq_true g1;have G1:=Aside0.mk g1;clear g1;by_cases g2:a1_1<by'
      ·
       have b3:decide (a1_1<by')=true:=decide_eq_true g2;have G2:=Aside0.mk g2;clear g2;by_cases g3:0<cross (ax,ay) (bx,by') (a1_0,a1_1)
       ·
        have G3:=Aside0.mk g3;generalize cross (ax,ay) (bx,by') (a1_0,a1_1)=cv at g3 HCR;have b4:decide (0<cv)=true:=decide_eq_true g3;have hvals2:=HN.out.2.2;clear g3
        rcases hvals2 with rfl | rfl
        all_goals
         go_wp2_with (go_at_call 102;refine (spec_l2Cross.calls ax ay bx by' a1_0 a1_1 cv _ HCR.out).mono ?_;rintro e w4 ⟨rfl,hb4⟩);obtain⟨k1,k2,k3,k4,k5,k6,k7,k8,k9,k10⟩:=HL.out;have hbb:Below wr.heap.size wr _:=below_step (below_step (below_step (below_drew1 (Below.refl wr.heap.size wr)) HB3.out.1) HB3.out.2) hb4;go_roundg (l0.length-(i+1))
         case measure=>omega
         case rel =>
          refine⟨i+1,?_,?_,⟨rfl,by omega,blk_later k2 hbb,HN.out.2.1,?_,k5.trans (hbb.mono k5.size)⟩⟩
          ·
           have hin:=HN.out.1;have hvals:=HN.out.2.2;rw [hin];have hu:upC (ax,ay) (bx,by') (a1_0,a1_1)=true:=by unfold upC;simp only [G1.out,G2.out,G3.out,decide_true,Bool.and_true]
           rw [if_neg (show ¬ by'<ay by have:=HSW.out;omega),hu]
           first | rfl | decide
          ·
           have hw:wrap64 ((i:Int)+1)=(i:Int)+1:=by have:=HK.out.2.2.2.2.2.2.2.1;unfold wrap64;omega
           first | rfl | (rw [hw];rfl)
          ·
           have hG':=hG.out;subst hG';exact below_row k4 (Nat.le_refl _) hbb
       ·
        have G3:=Aside0.mk g3;generalize cross (ax,ay) (bx,by') (a1_0,a1_1)=cv at g3 HCR;have b4:decide (0<cv)=false:=decide_eq_false g3;clear g3;go_wp2_with (go_at_call 102;refine (spec_l2Cross.calls ax ay bx by' a1_0 a1_1 cv _ HCR.out).mono ?_;rintro e w4 ⟨rfl,hb4⟩);obtain⟨k1,k2,k3,k4,k5,k6,k7,k8,k9,k10⟩:=HL.out;have hbb:Below wr.heap.size wr _:=below_step (below_step (below_step (below_drew1 (Below.refl wr.heap.size wr)) HB3.out.1) HB3.out.2) hb4;go_roundg (l0.length-(i+1))
        case measure=>omega
        case rel =>
         refine⟨i+1,?_,?_,⟨rfl,by omega,blk_later k2 hbb,HN.out.2.1,?_,k5.trans (hbb.mono k5.size)⟩⟩
         ·
          have hin:=HN.out.1;have hvals:=HN.out.2.2;rw [hin];have hu:upC (ax,ay) (bx,by') (a1_0,a1_1)=false:=by unfold upC;simp only [decide_eq_false (show ¬ 0<cross (ax,ay) (bx,by') (a1_0,a1_1) by have:=G3.out;omega),Bool.and_false]
          rw [if_neg (show ¬ by'<ay by have:=HSW.out;omega),hu];rfl
         ·
          have hw:wrap64 ((i:Int)+1)=(i:Int)+1:=by have:=HK.out.2.2.2.2.2.2.2.1;unfold wrap64;omega
          first | rfl | (rw [hw];rfl)
         ·
          have hG':=hG.out;subst hG';exact below_row k4 (Nat.le_refl _) hbb
      ·
       have b3:decide (a1_1<by')=false:=decide_eq_false g2;have G2:=Aside0.mk g2;clear g2;go_wp2;obtain⟨k1,k2,k3,k4,k5,k6,k7,k8,k9,k10⟩:=HL.out;have hbb:Below wr.heap.size wr _:=below_step (below_step (below_drew1 (Below.refl wr.heap.size wr)) HB3.out.1) HB3.out.2;go_roundg (l0.length-(i+1))
       case measure=>omega
       case rel =>
        refine⟨i+1,?_,?_,⟨rfl,by omega,blk_later k2 hbb,HN.out.2.1,?_,k5.trans (hbb.mono k5.size)⟩⟩
        ·
         have hin:=HN.out.1;have hvals:=HN.out.2.2;rw [hin];have hu:upC (ax,ay) (bx,by') (a1_0,a1_1)=false:=by unfold upC;simp only [decide_eq_false (show ¬ a1_1<by' from by have:=G2.out;omega),Bool.false_and,Bool.and_false]
         rw [if_neg (show ¬ by'<ay by have:=HSW.out;omega),hu];rfl
        ·
         have hw:wrap64 ((i:Int)+1)=(i:Int)+1:=by have:=HK.out.2.2.2.2.2.2.2.1;unfold wrap64;omega
         first | rfl | (rw [hw];rfl)
        ·
         have hG':=hG.out;subst hG';exact below_row k4 (Nat.le_refl _) hbb
     ·
      have b2:decide (ay≤a1_1)=false:=decide_eq_false g1;have G1:=Aside0.mk g1;clear g1;go_wp2;obtain⟨k1,k2,k3,k4,k5,k6,k7,k8,k9,k10⟩:=HL.out;have hbb:Below wr.heap.size wr _:=below_step (below_step (below_drew1 (Below.refl wr.heap.size wr)) HB3.out.1) HB3.out.2;go_roundg (l0.length-(i+1))
      case measure=>omega
      case rel =>
       refine⟨i+1,?_,?_,⟨rfl,by omega,blk_later k2 hbb,HN.out.2.1,?_,k5.trans (hbb.mono k5.size)⟩⟩
       ·
        have hin:=HN.out.1;have hvals:=HN.out.2.2;rw [hin];have hu:upC (ax,ay) (bx,by') (a1_0,a1_1)=false:=by unfold upC;simp only [decide_eq_false (show ¬ ay≤a1_1 from by have:=G1.out;omega),Bool.false_and]
        rw [if_neg (show ¬ by'<ay by have:=HSW.out;omega),hu];rfl
       ·
        have hw:wrap64 ((i:Int)+1)=(i:Int)+1:=by have:=HK.out.2.2.2.2.2.2.2.1;unfold wrap64;omega
        first | rfl | (rw [hw];rfl)
       ·
        have hG':=hG.out;subst hG';exact below_row k4 (Nat.le_refl _) hbb
  ·
   obtain rfl:i=l0.length:=by omega
   have hd:decide ((l0.length:Int)<(l0.length:Int))=false:=decide_eq_false (by omega);have hr:inRun (((esOf l0).take l0.length).map sgP) (a1_0,a1_1)=r:=by
    rw [← HK.out.2.2.2.2.2.2.1];have e1:((esOf l0).take l0.length).map sgP=edges (l0.map ptP):=by rw [List.take_of_length_le (by rw [HLn.out];exact Nat.le_refl _),esOf_edges]
    rw [e1] at hno ⊢
    exact Mort.inRun_end hno
   rw [hr];have HB:=Aside0.mk hBw;clear hk hi hpb hno hBw hB1 hr hlt;go_wp2;go_ret;have hG':=hG.out;subst hG';exact⟨rfl,HB.out⟩
end Go.Proofs.YtkefmnmoaomlhaaDoor.X
end
