/- FnPlateFar: the law returns true for every input, and each input reads behind the call as before; part 6 of 6. No condition. Merged by program out of: FLawsFnPlateFar, EvLoop, EvPlate, EvPlateS, EvPlateF, EvDraws, PureFnPlateFar, WSized, LawFnPlateFar. -/
import Derived.Test.YtkefmnmoaomlhaaDoorMFnPlateFar5
import Derived.SizedLaws
import Derived.ChangeSlices
import Derived.WalkKit
import Derived.ProofKit
import Derived.OpenShut
import Derived.ShutString
import Derived.ChangeOld
import Derived.Below
import Derived.SevenTiedAt
set_option linter.all false
section
namespace Go.Proofs.YtkefmnmoaomlhaaDoor.X
open Go.RowKit Go.Proofs.YtkefmnmoaomlhaaDoorW.PrintWords Go.Proofs.YtkefmnmoaomlhaaDoorW.PrintLast Go.Proofs.YtkefmnmoaomlhaaDoorW.PrintMore
attribute [local go_sem] max2_int min2_int max_two min_two max_three min_three max_four min_four
set_option linter.unusedVariables false
set_option linter.unusedSimpArgs false
attribute [local go_sem high] eqA35
mutual
def laws_FnPlateFar.j0:Nat→Bool→List (S28)→List (List (S28))→Int→Int→Int→Int→Option (Bool)
 | 0,_,_,_,_,_,_,_=>none
 | k+1,x35,x834000,x834001,x835000,x835001,x838000,x838001=>if x35=true then ((spec_PlateFar.f k x834000 x834001 x835000 x835001).bind fun bt842=>(some (x838000==bt842.1 && (x838001==bt842.2)))) else ((impl_PlateEdges.f x834000 x834001).bind fun t844=>(laws_FnPlateFar.l0 k false t844 0 x834000 x834001 x835000 x835001 x838000 x838001))
def laws_FnPlateFar.l0:Nat→Bool→List (S61)→Int→List (S28)→List (List (S28))→Int→Int→Int→Int→Option (Bool)
 | 0,_,_,_,_,_,_,_,_,_=>none
 | k+1,x6,x7,x8,x834000,x834001,x835000,x835001,x838000,x838001=>if x8<(x7.length:Int) then (if 0≤x8 then ((impl_SegFar.f ((rd_T61 x7 x8).f0.f0) ((rd_T61 x7 x8).f0.f1) ((rd_T61 x7 x8).f1.f0) ((rd_T61 x7 x8).f1.f1) x835000 x835001).bind fun bt850=>(if x6=true then ((impl_FracCmp.f x838000 x838001 bt850.1 bt850.2).bind fun t853=>(if t853>0 then (some false) else (laws_FnPlateFar.l0 k true x7 (wrap64 (x8+1)) x834000 x834001 x835000 x835001 x838000 x838001))) else ((impl_FracCmp.f x838000 x838001 bt850.1 bt850.2).bind fun t854=>(if t854>0 then (some false) else (laws_FnPlateFar.l0 k (bt850.1==x838000 && (bt850.2==x838001)) x7 (wrap64 (x8+1)) x834000 x834001 x835000 x835001 x838000 x838001))))) else (none)) else (if x6=true then ((laws_luZero.f x838000 x838001).bind fun t847=>((impl_PlateIn.f x834000 x834001 x835000 x835001).bind fun t848=>(some (t847==(t848==0))))) else (some false))
end
def laws_FnPlateFar.f (k:Nat)(l0:List Int):Option (Bool):=if (l0.length:Int)>1048576 then (some true) else ((spec_DrawPlateFar.f k l0).bind fun bt825=>((impl_PlateFar.f bt825.1 bt825.2.1 bt825.2.2.1 bt825.2.2.2).bind fun bt835=>((spec_PlateFar.f k bt825.1 bt825.2.1 bt825.2.2.1 bt825.2.2.2).bind fun bt838=>(if (!(bt835.1==bt838.1) || (!(bt835.2==bt838.2)))=true then (laws_FnPlateFar.j0 k true bt825.1 bt825.2.1 bt825.2.2.1 bt825.2.2.2 bt835.1 bt835.2) else ((spec_PlateOk.f k bt825.1 bt825.2.1).bind fun t840=>(if t840=true then ((spec_PtOk.f bt825.2.2.1 bt825.2.2.2).bind fun t841=>(laws_FnPlateFar.j0 k (!t841) bt825.1 bt825.2.1 bt825.2.2.1 bt825.2.2.2 bt835.1 bt835.2)) else (laws_FnPlateFar.j0 k true bt825.1 bt825.2.1 bt825.2.2.1 bt825.2.2.2 bt835.1 bt835.2)))))))
def laws_FnPlateFar.T5:Bool × List (List Nat × List Nat):=(true,[([],[]),([],[]),([],[]),([1,2],[1,2]),([0,3],[0,3]),([4,3],[4]),([5],[5]),([6,5,5],[5,6]),([7,5],[5,7]),([5,8],[5,8]),([9,7],[9]),([10],[10]),([11,10,10],[10,11]),([12,10],[10,12]),([10,13],[10,13])])
def laws_FnPlateFar.B5:List Nat:=[0,0,0,6,15,31,63,127,255,511,1023,2047,4095,8191,16383]
theorem laws_FnPlateFar.tab5:rtab .any (opsOf Tryd.f10 5)=laws_FnPlateFar.T5:=by kernel_rfl
theorem laws_FnPlateFar.bits5:waitsOk laws_FnPlateFar.T5.2 laws_FnPlateFar.B5=true:=by kernel_rfl
def laws_FnPlateFar.T12:Bool × List (List Nat × List Nat):=(true,[([],[]),([],[]),([0,1],[0,1]),([2],[2]),([],[]),([3,4],[3,4]),([],[]),([6,5,5,0,1,2,3,4,5,6],[5,6])])
def laws_FnPlateFar.B12:List Nat:=[0,0,3,7,0,31,0,127]
theorem laws_FnPlateFar.tab12:rtab .any (opsOf Tryd.f10 12)=laws_FnPlateFar.T12:=by kernel_rfl
theorem laws_FnPlateFar.bits12:waitsOk laws_FnPlateFar.T12.2 laws_FnPlateFar.B12=true:=by kernel_rfl
def laws_FnPlateFar.T16:Bool × List (List Nat × List Nat):=(true,[([],[]),([0],[0]),([1],[1]),([2,1,1],[1,2]),([1],[1]),([1],[1]),([4,5,3,1],[1,4,5]),([6,1],[1,6]),([3,7,1],[1,3,7]),([1,8],[1,8]),([9,6,0,1,2,3,4,5,6,7,8,9],[9])])
def laws_FnPlateFar.B16:List Nat:=[0,1,3,7,3,3,63,127,255,511,1023]
theorem laws_FnPlateFar.tab16:rtab .any (opsOf Tryd.f10 16)=laws_FnPlateFar.T16:=by kernel_rfl
theorem laws_FnPlateFar.bits16:waitsOk laws_FnPlateFar.T16.2 laws_FnPlateFar.B16=true:=by kernel_rfl
set_option maxHeartbeats 8000000 in
set_option maxRecDepth 100000 in
theorem laws_FnPlateFar.calls (k:Nat)(A0:Option Addr)(c0:Nat)(l0:List Int)(r:Bool)(w:World)(hr0:Kd.C (Kd.int .u8) w A0 l0.length l0)(hc0:l0.length≤c0)(hE:ErrW w)(h:laws_FnPlateFar.f k l0=some r):
  Calls Tryd.prog 10 #[.slice A0 l0.length c0] w fun e w'=>e=.returned (.bool r)∧Below w.heap.size w w':=by
 have hu26:=Tryd.underlying26;have hu28:=Tryd.underlying28;have hu35:=Tryd.underlying35;have hu61:=Tryd.underlying61;have HR0:=Aside0.mk hr0;have HC0:=Aside0.mk hc0;clear hr0 hc0;have HB:=a0_ (Below.refl w.heap.size w);have HE:=Aside0.mk hE;clear hE;have H:(if (l0.length:Int)>1048576 then (some true) else ((spec_DrawPlateFar.f k l0).bind fun bt825=>((impl_PlateFar.f bt825.1 bt825.2.1 bt825.2.2.1 bt825.2.2.2).bind fun bt835=>((spec_PlateFar.f k bt825.1 bt825.2.1 bt825.2.2.1 bt825.2.2.2).bind fun bt838=>(if (!(bt835.1==bt838.1) || (!(bt835.2==bt838.2)))=true then (laws_FnPlateFar.j0 k true bt825.1 bt825.2.1 bt825.2.2.1 bt825.2.2.2 bt835.1 bt835.2) else ((spec_PlateOk.f k bt825.1 bt825.2.1).bind fun t840=>(if t840=true then ((spec_PtOk.f bt825.2.2.1 bt825.2.2.2).bind fun t841=>(laws_FnPlateFar.j0 k (!t841) bt825.1 bt825.2.1 bt825.2.2.1 bt825.2.2.2 bt835.1 bt835.2)) else (laws_FnPlateFar.j0 k true bt825.1 bt825.2.1 bt825.2.2.1 bt825.2.2.2 bt835.1 bt835.2))))))))=some r:=h;clear h;by_cases c2:(l0.length:Int)>1048576
 ·
  rw [if_pos c2] at H;have c2b0:decide (1048576<(l0.length:Int))=true:=decide_eq_true c2;have c2b1:decide (1048576<l0.length)=true:=decide_eq_true (by omega);clear c2;obtain rfl:=Option.some.inj H;go_enter Tryd.func10,Tryd.ntmps10;go_wp2;go_ret;exact⟨rr_,hB_⟩
 ·
  rw [if_neg c2] at H;have c2b0:decide (1048576<(l0.length:Int))=false:=decide_eq_false c2;have c2b1:decide (1048576<l0.length)=false:=decide_eq_false (by omega);clear c2;replace H:=Option.bind_eq_some_iff.mp H;obtain⟨⟨t825,t828,t831,t832⟩,A30,H⟩:=H
  (try dsimp only at H)
  have A3:=Aside0.mk A30;clear A30;replace H:=Option.bind_eq_some_iff.mp H;obtain⟨⟨t835,t836⟩,A40,H⟩:=H
  (try dsimp only at H)
  have A4:=Aside0.mk A40;clear A40;have HC5:=Aside0.mk H;clear H;go_enter Tryd.func10,Tryd.ntmps10
  go_upto_region 5 with (first | ((with_reducible refine gate_callee (f:=30) rfl ?_);refine gL_ (some 15) Tryd.func30 #[.slice A0 l0.length c0] (h:=?_);(with_reducible refine (spec_DrawPlateFar.calls k _ _ l0 t825 t828 t831 t832 _ ?side1 ?side2 A3.out).mono ?_);(case side1=>repeat (first | exact HR0.out | (with_reducible refine Kd.C_alloc ?_ _) | (with_reducible refine Kd.C_drewN ?_ _) | (with_reducible refine Kd.C_drew ?_)));(case side2=>exact HC0.out);rintro e w6 ⟨v826,v829,rfl,ho0,ho1,hb⟩;refine⟨_,rfl,?_⟩;have HO827:=a0_ (Kd.R_lower (Kd.R_mono (ok':=fun k_=>True) ho0 (fun _ hk_=>trivial)) (below_size hB_));have HO830:=a0_ (Kd.N_lower (Kd.N_mono (ok':=fun k_=>some k_≠(v826:Value).ownBlock) ho1 (fun k_ hk_=>hk_.2)) (below_size hB_));replace HB:=sb_ HB hb;(try clear ho0 ho1 hb)) | ((with_reducible refine gate_dst (N:=3) rfl ?_);refine bx_ (N:=3) (cs:=#[.slice none 0 0,.slice none 0 0]) (t:=26) (h:=?_);intro gb833 hg w7 hbox hb;have BK833:=a0_ (hbox);have GW833:=gh_ HB hg;have GE833:=gh_ HB hg;replace HO827:=rb_ HO827 hb;replace HO830:=a0_ (Kd.N_below (Kd.N_elderB (uN_ HO830) gb833 (Nat.le_of_eq hg.symm)) hb);replace HB:=sb_ HB hb;clear hb hbox hg) | ((with_reducible refine gate_dst (N:=4) rfl ?_);refine bx_ (N:=4) (cs:=#[.int .i64 0,.int .i64 0]) (t:=28) (h:=?_);intro gb834 hg w8 hbox hb;have BK834:=a0_ (hbox);have GW834:=gh_ HB hg;have GE834:=gh_ HB hg;have NB833_834:=nl_ BK833 hg;have NB834_833:=nr_ BK833 hg;replace HO827:=a0_ (Kd.R_below (Kd.R_elderB (uR_ HO827) gb834 (Nat.le_of_eq hg.symm)) hb);replace HO830:=a0_ (Kd.N_below (Kd.N_elderB (uN_ HO830) gb834 (Nat.le_of_eq hg.symm)) hb);replace BK833:=vb_ BK833 hb;replace HB:=sb_ HB hb;clear hb hbox hg;obtain⟨Ao9,co9,eo9⟩:=Kd.R_slice HO827.out;subst eo9;have hnb10:=NB833_834.out;have hnc10:=NB834_833.out;have hcz11_0:=c20_ BK833;have hcz11_1:=c21_ BK833;have hfz11_0:=fz_ BK833 0;have hfz11_1:=fz_ BK833 1;obtain⟨Ao12,co12,eo12⟩:=Kd.N_slice HO830.out;subst eo12;have hcz13_0:=c20_ BK834;have hcz13_1:=c21_ BK834;have hfz13_0:=fz_ BK834 0;have hfz13_1:=fz_ BK834 1) | ((with_reducible refine gate_callee (f:=22) rfl ?_);refine gL_ (some 20) Tryd.func22 #[.agg #[.slice Ao9 t825.length co9,.slice Ao12 t828.length co12],.agg #[.int .i64 t831,.int .i64 t832]] (h:=?_);(with_reducible refine (impl_PlateFar.calls _ _ t825 _ _ t828 t831 t832 t835 t836 _ ?side1 ?side2 ?side3 ?side4 ?side5 A4.out).mono ?_);(case side1=>refine (Kd.R_reads' (e:=28) (base:=w.heap.size) (ok:=fun k_=>(True∧k_≠gb834)) (n:=t825.length) (c:=co9) ?_).2.2;exact (by (with_reducible repeat (first | apply Kd.R_alloc | apply Kd.R_drewN | apply Kd.R_drew));exact (Kd.R_mono (Kd.R_mono (Kd.R_far (p:=⟨gb834,1,none⟩) (Kd.R_far (p:=⟨gb834,0,none⟩) (Kd.R_far (p:=⟨gb833,1,none⟩) (Kd.R_far (p:=⟨gb833,0,none⟩) (Kd.R_mono (Kd.R_types HO827.out BK833.out (by decide)) (fun k_ hk=>(⟨hk,hk.1.2⟩:_∧k_≠gb834))) (fun _ hk=>hk.1.2) (.slice Ao9 t825.length co9)) (fun _ hk=>hk.1.2) (.slice Ao12 t828.length co12)) (fun _ hk=>hk.2) (.int .i64 t831)) (fun _ hk=>hk.2) (.int .i64 t832)) (fun _ h_=>h_.1)) (fun _ h_=>h_.1))));(case side2=>exact (Kd.R_reads' HO827.out).2.1);(case side3=>refine (Kd.N_reads' (e:=23) (base:=w.heap.size) (ok:=fun k_=>((some k_≠(.slice Ao9 t825.length co9:Value).ownBlock∧k_≠gb833)∧k_≠gb834)) (n:=t828.length) (c:=co12) ?_).2.2;exact (by (with_reducible repeat (first | apply Kd.N_alloc | apply Kd.N_drewN | apply Kd.N_drew));exact (Kd.N_mono (Kd.N_mono (Kd.N_far (p:=⟨gb834,1,none⟩) (Kd.N_far (p:=⟨gb834,0,none⟩) (Kd.N_far (p:=⟨gb833,1,none⟩) (Kd.N_far (p:=⟨gb833,0,none⟩) (Kd.N_mono (Kd.N_mono HO830.out (fun k_ hk=>(⟨hk,hk.1.2⟩:_∧k_≠gb833))) (fun k_ hk=>(⟨hk,hk.1.2⟩:_∧k_≠gb834))) (fun _ hk=>hk.1.2) (.slice Ao9 t825.length co9)) (fun _ hk=>hk.1.2) (.slice Ao12 t828.length co12)) (fun _ hk=>hk.2) (.int .i64 t831)) (fun _ hk=>hk.2) (.int .i64 t832)) (fun _ h_=>h_.1)) (fun _ h_=>h_.1))));(case side4=>exact (Kd.N_reads' HO830.out).2.1);(case side5=>exact ErrW.below HE.out hB_);rintro e w14 ⟨rfl,hb⟩;refine⟨_,rfl,?_⟩;replace HO827:=a0_ (Kd.R_below (by (with_reducible repeat (first | apply Kd.R_alloc | apply Kd.R_drewN | apply Kd.R_drew));exact (Kd.R_mono (Kd.R_mono (Kd.R_far (p:=⟨gb834,1,none⟩) (Kd.R_far (p:=⟨gb834,0,none⟩) (Kd.R_far (p:=⟨gb833,1,none⟩) (Kd.R_far (p:=⟨gb833,0,none⟩) (Kd.R_mono (Kd.R_types HO827.out BK833.out (by decide)) (fun k_ hk=>(⟨hk,hk.1.2⟩:_∧k_≠gb834))) (fun _ hk=>hk.1.2) (.slice Ao9 t825.length co9)) (fun _ hk=>hk.1.2) (.slice Ao12 t828.length co12)) (fun _ hk=>hk.2) (.int .i64 t831)) (fun _ hk=>hk.2) (.int .i64 t832)) (fun _ h_=>h_.1)) (fun _ h_=>h_.1))) hb);replace HO830:=a0_ (Kd.N_below (by (with_reducible repeat (first | apply Kd.N_alloc | apply Kd.N_drewN | apply Kd.N_drew));exact (Kd.N_mono (Kd.N_mono (Kd.N_far (p:=⟨gb834,1,none⟩) (Kd.N_far (p:=⟨gb834,0,none⟩) (Kd.N_far (p:=⟨gb833,1,none⟩) (Kd.N_far (p:=⟨gb833,0,none⟩) (Kd.N_mono (Kd.N_mono HO830.out (fun k_ hk=>(⟨hk,hk.1.2⟩:_∧k_≠gb833))) (fun k_ hk=>(⟨hk,hk.1.2⟩:_∧k_≠gb834))) (fun _ hk=>hk.1.2) (.slice Ao9 t825.length co9)) (fun _ hk=>hk.1.2) (.slice Ao12 t828.length co12)) (fun _ hk=>hk.2) (.int .i64 t831)) (fun _ hk=>hk.2) (.int .i64 t832)) (fun _ h_=>h_.1)) (fun _ h_=>h_.1))) hb);replace BK833:=a0_ (blk_below (g:=gb833) (o:=.cells #[.slice Ao9 t825.length co9,.slice Ao12 t828.length co12] 26 (0,0)) (by (with_reducible repeat (first | refine blk_drewN ?_ _ | refine blk_drew ?_ | refine blk_alloc ?_ _));refine blk_far ?_ NB833_834.out _;(with_reducible repeat (first | refine blk_drewN ?_ _ | refine blk_drew ?_ | refine blk_alloc ?_ _));refine blk_far ?_ NB833_834.out _;(with_reducible repeat (first | refine blk_drewN ?_ _ | refine blk_drew ?_ | refine blk_alloc ?_ _));refine blk_put (cs:=#[.slice Ao9 t825.length co9,.slice none 0 0]) ?_ 1 _ rfl;(with_reducible repeat (first | refine blk_drewN ?_ _ | refine blk_drew ?_ | refine blk_alloc ?_ _));refine blk_put (cs:=#[.slice none 0 0,.slice none 0 0]) ?_ 0 _ rfl;(with_reducible repeat (first | refine blk_drewN ?_ _ | refine blk_drew ?_ | refine blk_alloc ?_ _));exact BK833.out) hb);replace BK834:=a0_ (blk_below (g:=gb834) (o:=.cells #[.int .i64 t831,.int .i64 t832] 28 (0,0)) (by (with_reducible repeat (first | refine blk_drewN ?_ _ | refine blk_drew ?_ | refine blk_alloc ?_ _));refine blk_put (cs:=#[.int .i64 t831,.int .i64 0]) ?_ 1 _ rfl;(with_reducible repeat (first | refine blk_drewN ?_ _ | refine blk_drew ?_ | refine blk_alloc ?_ _));refine blk_put (cs:=#[.int .i64 0,.int .i64 0]) ?_ 0 _ rfl;(with_reducible repeat (first | refine blk_drewN ?_ _ | refine blk_drew ?_ | refine blk_alloc ?_ _));refine blk_far ?_ NB834_833.out _;(with_reducible repeat (first | refine blk_drewN ?_ _ | refine blk_drew ?_ | refine blk_alloc ?_ _));refine blk_far ?_ NB834_833.out _;(with_reducible repeat (first | refine blk_drewN ?_ _ | refine blk_drew ?_ | refine blk_alloc ?_ _));exact BK834.out) hb);replace HB:=sb_ HB hb;(try clear hb)) | ((with_reducible refine gate_dst (N:=5) rfl ?_);refine bx_ (N:=5) (cs:=#[.int .i64 0,.int .i64 0]) (t:=35) (h:=?_);intro gb837 hg w15 hbox hb;have BK837:=a0_ (hbox);have GW837:=gh_ HB hg;have GE837:=gh_ HB hg;have NB833_837:=nl_ BK833 hg;have NB837_833:=nr_ BK833 hg;have NB834_837:=nl_ BK834 hg;have NB837_834:=nr_ BK834 hg;replace HO827:=rb_ HO827 hb;replace HO830:=a0_ (Kd.N_below (Kd.N_elderB (uN_ HO830) gb837 (Nat.le_of_eq hg.symm)) hb);replace BK833:=vb_ BK833 hb;replace BK834:=vb_ BK834 hb;replace HB:=sb_ HB hb;clear hb hbox hg;have hnb16:=NB837_833.out;have hnc16:=NB833_837.out;have hnb17:=NB837_834.out;have hnc17:=NB834_837.out;have hcz18_0:=c20_ BK837;have hcz18_1:=c21_ BK837;have hfz18_0:=fz_ BK837 0;have hfz18_1:=fz_ BK837 1))
  (try simp only [Act.put,List.setIfInBounds_toArray,List.set_cons_zero,List.set_cons_succ])
  go_cut [35] (fun v35 wc=>∃ (kq:Nat) (x35_4:Bool),v35=.bool x35_4∧Aside0 (laws_FnPlateFar.j0 kq x35_4 t825 t828 t831 t832 t835 t836=some r)∧Aside0 (kq≤k)∧Aside0 (Kd.R k28 28 wc w.heap.size (fun k_=>k_≠gb834) (.slice Ao9 t825.length co9) t825)∧Aside0 (Kd.N (Kd.slice 28 k28) 23 wc w.heap.size (fun k_=>some k_≠((.slice Ao9 t825.length co9):Value).ownBlock∧k_≠gb833∧k_≠gb834∧k_≠gb837) (.slice Ao12 t828.length co12) t828)∧Aside0 (wc.heap[gb833]?=some (.cells #[(.slice Ao9 t825.length co9),(.slice Ao12 t828.length co12)] 26 (0,0)))∧Aside0 (wc.heap[gb834]?=some (.cells #[.int .i64 t831,.int .i64 t832] 28 (0,0)))∧Aside0 (wc.heap[gb837]?=some (.cells #[.int .i64 t835,.int .i64 t836] 35 (0,0)))∧Aside0 (Below w.heap.size w wc))
  case first =>
   have H:=HC5.out;clear HC5;replace H:=Option.bind_eq_some_iff.mp H;obtain⟨⟨t838,t839⟩,A190,H⟩:=H
   (try dsimp only at H)
   have A19:=Aside0.mk A190;clear A190;by_cases c20:(!(t835==t838) || (!(t836==t839)))=true
   ·
    rw [if_pos c20] at H;have c20b0:(!(t835==t838) || (!(t836==t839)))=true:=c20;clear c20
    (first | rw [c20b0] | (simp only [i64_w,i32_w];rw [c20b0]) | skip)
    have H':=Aside0.mk H;clear H
    try go_wp2
    have n0_:Aside0 (Kd.R k28 28 ((w15.setCell ⟨gb837,0,none⟩ (.int .i64 t835)).setCell ⟨gb837,1,none⟩ (.int .i64 t836)) w.heap.size (fun k_=>k_≠gb834) (.slice Ao9 t825.length co9) t825):=⟨by (with_reducible repeat (first | apply Kd.R_alloc | apply Kd.R_drewN | apply Kd.R_drew));exact Kd.R_mono (Kd.R_far (p:=⟨gb837,1,none⟩) (Kd.R_far (p:=⟨gb837,0,none⟩) (Kd.R_types HO827.out BK837.out (by decide)) (fun _ hk=>hk.2) (.int .i64 t835)) (fun _ hk=>hk.2) (.int .i64 t836)) (fun _ hk=>hk.1.2)⟩;have n1_:Aside0 (Kd.N (Kd.slice 28 k28) 23 ((w15.setCell ⟨gb837,0,none⟩ (.int .i64 t835)).setCell ⟨gb837,1,none⟩ (.int .i64 t836)) w.heap.size (fun k_=>some k_≠(.slice Ao9 t825.length co9:Value).ownBlock∧k_≠gb833∧k_≠gb834∧k_≠gb837) (.slice Ao12 t828.length co12) t828):=⟨by (with_reducible repeat (first | apply Kd.N_alloc | apply Kd.N_drewN | apply Kd.N_drew));exact Kd.N_mono (Kd.N_far (p:=⟨gb837,1,none⟩) (Kd.N_far (p:=⟨gb837,0,none⟩) (Kd.N_mono HO830.out (fun k_ hk=>(⟨hk,hk.2⟩:_∧k_≠gb837))) (fun _ hk=>hk.2) (.int .i64 t835)) (fun _ hk=>hk.2) (.int .i64 t836)) (fun _ hk=>⟨hk.1.1.1.1,⟨hk.1.1.1.2,⟨hk.1.1.2,hk.1.2⟩⟩⟩)⟩;have n2_:Aside0 (((w15.setCell ⟨gb837,0,none⟩ (.int .i64 t835)).setCell ⟨gb837,1,none⟩ (.int .i64 t836)).heap[gb833]?=some (.cells #[.slice Ao9 t825.length co9,.slice Ao12 t828.length co12] 26 (0,0))):=⟨by (with_reducible repeat (first | refine blk_drewN ?_ _ | refine blk_drew ?_ | refine blk_alloc ?_ _));refine blk_far ?_ NB833_837.out _;(with_reducible repeat (first | refine blk_drewN ?_ _ | refine blk_drew ?_ | refine blk_alloc ?_ _));refine blk_far ?_ NB833_837.out _;(with_reducible repeat (first | refine blk_drewN ?_ _ | refine blk_drew ?_ | refine blk_alloc ?_ _));exact BK833.out⟩
    have n3_:Aside0 (((w15.setCell ⟨gb837,0,none⟩ (.int .i64 t835)).setCell ⟨gb837,1,none⟩ (.int .i64 t836)).heap[gb834]?=some (.cells #[.int .i64 t831,.int .i64 t832] 28 (0,0))):=⟨by (with_reducible repeat (first | refine blk_drewN ?_ _ | refine blk_drew ?_ | refine blk_alloc ?_ _));refine blk_far ?_ NB834_837.out _;(with_reducible repeat (first | refine blk_drewN ?_ _ | refine blk_drew ?_ | refine blk_alloc ?_ _));refine blk_far ?_ NB834_837.out _;(with_reducible repeat (first | refine blk_drewN ?_ _ | refine blk_drew ?_ | refine blk_alloc ?_ _));exact BK834.out⟩;have n4_:Aside0 (((w15.setCell ⟨gb837,0,none⟩ (.int .i64 t835)).setCell ⟨gb837,1,none⟩ (.int .i64 t836)).heap[gb837]?=some (.cells #[.int .i64 t835,.int .i64 t836] 35 (0,0))):=⟨by (with_reducible repeat (first | refine blk_drewN ?_ _ | refine blk_drew ?_ | refine blk_alloc ?_ _));refine blk_put (cs:=#[.int .i64 t835,.int .i64 0]) ?_ 1 _ rfl;(with_reducible repeat (first | refine blk_drewN ?_ _ | refine blk_drew ?_ | refine blk_alloc ?_ _));refine blk_put (cs:=#[.int .i64 0,.int .i64 0]) ?_ 0 _ rfl;(with_reducible repeat (first | refine blk_drewN ?_ _ | refine blk_drew ?_ | refine blk_alloc ?_ _));exact BK837.out⟩;have n5_:Aside0 (Below w.heap.size w ((w15.setCell ⟨gb837,0,none⟩ (.int .i64 t835)).setCell ⟨gb837,1,none⟩ (.int .i64 t836))):=⟨hB_⟩
    (try clear HO827)
    (try clear HO830)
    (try clear BK833)
    (try clear BK834)
    (try clear BK837)
    (try clear HB)
    generalize ((w15.setCell ⟨gb837,0,none⟩ (.int .i64 t835)).setCell ⟨gb837,1,none⟩ (.int .i64 t836))=w21 at n0_ n1_ n2_ n3_ n4_ n5_ ⊢
    have HO827:=n0_;have HO830:=n1_;have BK833:=n2_;have BK834:=n3_;have BK837:=n4_;have HB:=n5_;clear n0_ n1_ n2_ n3_ n4_ n5_;replace HO827:=a0_ (Kd.R_drew HO827.out);replace HO830:=a0_ (Kd.N_drew HO830.out);replace BK833:=a0_ (blk_drew BK833.out);replace BK834:=a0_ (blk_drew BK834.out);replace BK837:=a0_ (blk_drew BK837.out);replace HB:=a0_ (below_drew1 HB.out);refine start_ (n:=15) (S:=fun w'=>w'.cell? ⟨gb837,0,none⟩=some (.int .i64 t835)∧w'.cell? ⟨gb837,1,none⟩=some (.int .i64 t836)∧w'.cell? ⟨gb833,0,none⟩=some (.slice Ao9 t825.length co9)∧w'.cell? ⟨gb833,1,none⟩=some (.slice Ao12 t828.length co12)∧w'.cell? ⟨gb834,0,none⟩=some (.int .i64 t831)∧w'.cell? ⟨gb834,1,none⟩=some (.int .i64 t832)) (ds:=[]) (Array.replicate 15 false) (by kernel_rfl) rfl rfl ⟨bc_,bc_,bc_,bc_,bc_,bc_⟩ (fun hHeld=>?_);refine with_tabW laws_FnPlateFar.tab5 laws_FnPlateFar.bits5 (fun HT_ HW_=>?_);generalize w21.drew=w22 at HO827 HO830 BK833 BK834 BK837 HB hHeld ⊢
    refine ta6_ HT_ HW_ 0 21 (bm 15 1) hHeld ?_;refine ta6_ HT_ HW_ 1 22 (bm 15 3) hHeld ?_;refine ta6_ HT_ HW_ 2 23 (bm 15 7) hHeld ?_;refine one_ (i:=3) (N:=some 24) (bm 15 15) rfl rfl (one_of HT_.out (by kernel_rfl)) (by decide) (fun K hK=>?_);refine goes_ Tryd.func31 (by kernel_rfl) rfl #[.agg #[.slice Ao9 t825.length co9,.slice Ao12 t828.length co12],.agg #[.int .i64 t831,.int .i64 t832]] (by rfl) rfl rfl ma_ ?_
    with_reducible refine (spec_PlateFar.calls k _ _ t825 _ _ t828 t831 t832 t838 t839 _ ?side1 ?side2 ?side3 ?side4 A19.out).mono ?_
    (case side1=>repeat (first | exact (Kd.R_reads' HO827.out).2.2 | (with_reducible refine Kd.C_alloc ?_ _) | (with_reducible refine Kd.C_drewN ?_ _) | (with_reducible refine Kd.C_drew ?_)))
    (case side2=>exact (Kd.R_reads' HO827.out).2.1)
    (case side3=>repeat (first | exact (Kd.N_reads' HO830.out).2.2 | (with_reducible refine Kd.C_alloc ?_ _) | (with_reducible refine Kd.C_drewN ?_ _) | (with_reducible refine Kd.C_drew ?_)))
    (case side4=>exact (Kd.N_reads' HO830.out).2.1)
    rintro e w23 ⟨rfl,hb⟩;refine⟨_,rfl,?_⟩;replace HO827:=rb_ HO827 hb;replace HO830:=nb_ HO830 hb;replace BK833:=vb_ BK833 hb;replace BK834:=vb_ BK834 hb;replace BK837:=vb_ BK837 hb;replace HB:=sb_ HB hb
    (try clear hb)
    (try clear hb2)
    (try clear hk)
    (try clear hi)
    refine hK.out _ _ ⟨bc_,bc_,bc_,bc_,bc_,bc_⟩ (fun hHeld=>?_);clear hK K;refine no_ (h:=?_);refine pu_ HT_ 4 25 (bm 15 31) ?_;refine pu_ HT_ 5 26 (bm 15 63) ?_;refine pz_ HT_ 6 27 (bm 15 127) ?_;refine pz_ HT_ 7 28 (bm 15 255) ?_;refine pz_ HT_ 8 29 (bm 15 511) ?_;refine pu_ HT_ 9 30 (bm 15 1023) ?_;refine pu_ HT_ 10 31 (bm 15 2047) ?_;refine pz_ HT_ 11 32 (bm 15 4095) ?_;refine pz_ HT_ 12 33 (bm 15 8191) ?_;refine pz_ HT_ 13 34 (bm 15 16383) ?_;refine pu_ HT_ 14 35 (bm 15 32767) ?_;refine done_ (done_of HT_.out (by kernel_rfl)) ?_
    try go_wp2
    go_meet
    case rel=>exact⟨_,(true),(by first | rfl | (simp;done) | (simp [*];done)),H',⟨by first | omega | exact Nat.le_refl _⟩,⟨by (with_reducible repeat (first | apply Kd.R_alloc | apply Kd.R_drewN | apply Kd.R_drew));exact HO827.out⟩,⟨by (with_reducible repeat (first | apply Kd.N_alloc | apply Kd.N_drewN | apply Kd.N_drew));exact HO830.out⟩,⟨uq_⟩,⟨uq_⟩,⟨uq_⟩,⟨hB_⟩⟩
   ·
    rw [if_neg c20] at H;have c20b0:(!(t835==t838) || (!(t836==t839)))=false:=by simpa using c20
    clear c20
    (first | rw [c20b0] | (simp only [i64_w,i32_w];rw [c20b0]) | skip)
    replace H:=Option.bind_eq_some_iff.mp H;obtain⟨t840,A240,H⟩:=H
    (try dsimp only at H)
    have A24:=Aside0.mk A240;clear A240;by_cases c25:t840=true
    ·
     subst c25;rw [if_pos rfl] at H
     (try dsimp only at H)
     replace H:=Option.bind_eq_some_iff.mp H;obtain⟨t841,A260,H⟩:=H
     (try dsimp only at H)
     have A26:=Aside0.mk A260;clear A260;have H':=Aside0.mk H;clear H
     try go_wp2
     have n0_:Aside0 (Kd.R k28 28 ((w15.setCell ⟨gb837,0,none⟩ (.int .i64 t835)).setCell ⟨gb837,1,none⟩ (.int .i64 t836)) w.heap.size (fun k_=>k_≠gb834) (.slice Ao9 t825.length co9) t825):=⟨by (with_reducible repeat (first | apply Kd.R_alloc | apply Kd.R_drewN | apply Kd.R_drew));exact Kd.R_mono (Kd.R_far (p:=⟨gb837,1,none⟩) (Kd.R_far (p:=⟨gb837,0,none⟩) (Kd.R_types HO827.out BK837.out (by decide)) (fun _ hk=>hk.2) (.int .i64 t835)) (fun _ hk=>hk.2) (.int .i64 t836)) (fun _ hk=>hk.1.2)⟩;have n1_:Aside0 (Kd.N (Kd.slice 28 k28) 23 ((w15.setCell ⟨gb837,0,none⟩ (.int .i64 t835)).setCell ⟨gb837,1,none⟩ (.int .i64 t836)) w.heap.size (fun k_=>some k_≠(.slice Ao9 t825.length co9:Value).ownBlock∧k_≠gb833∧k_≠gb834∧k_≠gb837) (.slice Ao12 t828.length co12) t828):=⟨by (with_reducible repeat (first | apply Kd.N_alloc | apply Kd.N_drewN | apply Kd.N_drew));exact Kd.N_mono (Kd.N_far (p:=⟨gb837,1,none⟩) (Kd.N_far (p:=⟨gb837,0,none⟩) (Kd.N_mono HO830.out (fun k_ hk=>(⟨hk,hk.2⟩:_∧k_≠gb837))) (fun _ hk=>hk.2) (.int .i64 t835)) (fun _ hk=>hk.2) (.int .i64 t836)) (fun _ hk=>⟨hk.1.1.1.1,⟨hk.1.1.1.2,⟨hk.1.1.2,hk.1.2⟩⟩⟩)⟩;have n2_:Aside0 (((w15.setCell ⟨gb837,0,none⟩ (.int .i64 t835)).setCell ⟨gb837,1,none⟩ (.int .i64 t836)).heap[gb833]?=some (.cells #[.slice Ao9 t825.length co9,.slice Ao12 t828.length co12] 26 (0,0))):=⟨by (with_reducible repeat (first | refine blk_drewN ?_ _ | refine blk_drew ?_ | refine blk_alloc ?_ _));refine blk_far ?_ NB833_837.out _;(with_reducible repeat (first | refine blk_drewN ?_ _ | refine blk_drew ?_ | refine blk_alloc ?_ _));refine blk_far ?_ NB833_837.out _;(with_reducible repeat (first | refine blk_drewN ?_ _ | refine blk_drew ?_ | refine blk_alloc ?_ _));exact BK833.out⟩
     have n3_:Aside0 (((w15.setCell ⟨gb837,0,none⟩ (.int .i64 t835)).setCell ⟨gb837,1,none⟩ (.int .i64 t836)).heap[gb834]?=some (.cells #[.int .i64 t831,.int .i64 t832] 28 (0,0))):=⟨by (with_reducible repeat (first | refine blk_drewN ?_ _ | refine blk_drew ?_ | refine blk_alloc ?_ _));refine blk_far ?_ NB834_837.out _;(with_reducible repeat (first | refine blk_drewN ?_ _ | refine blk_drew ?_ | refine blk_alloc ?_ _));refine blk_far ?_ NB834_837.out _;(with_reducible repeat (first | refine blk_drewN ?_ _ | refine blk_drew ?_ | refine blk_alloc ?_ _));exact BK834.out⟩;have n4_:Aside0 (((w15.setCell ⟨gb837,0,none⟩ (.int .i64 t835)).setCell ⟨gb837,1,none⟩ (.int .i64 t836)).heap[gb837]?=some (.cells #[.int .i64 t835,.int .i64 t836] 35 (0,0))):=⟨by (with_reducible repeat (first | refine blk_drewN ?_ _ | refine blk_drew ?_ | refine blk_alloc ?_ _));refine blk_put (cs:=#[.int .i64 t835,.int .i64 0]) ?_ 1 _ rfl;(with_reducible repeat (first | refine blk_drewN ?_ _ | refine blk_drew ?_ | refine blk_alloc ?_ _));refine blk_put (cs:=#[.int .i64 0,.int .i64 0]) ?_ 0 _ rfl;(with_reducible repeat (first | refine blk_drewN ?_ _ | refine blk_drew ?_ | refine blk_alloc ?_ _));exact BK837.out⟩;have n5_:Aside0 (Below w.heap.size w ((w15.setCell ⟨gb837,0,none⟩ (.int .i64 t835)).setCell ⟨gb837,1,none⟩ (.int .i64 t836))):=⟨hB_⟩
     (try clear HO827)
     (try clear HO830)
     (try clear BK833)
     (try clear BK834)
     (try clear BK837)
     (try clear HB)
     generalize ((w15.setCell ⟨gb837,0,none⟩ (.int .i64 t835)).setCell ⟨gb837,1,none⟩ (.int .i64 t836))=w27 at n0_ n1_ n2_ n3_ n4_ n5_ ⊢
     have HO827:=n0_;have HO830:=n1_;have BK833:=n2_;have BK834:=n3_;have BK837:=n4_;have HB:=n5_;clear n0_ n1_ n2_ n3_ n4_ n5_;replace HO827:=a0_ (Kd.R_drew HO827.out);replace HO830:=a0_ (Kd.N_drew HO830.out);replace BK833:=a0_ (blk_drew BK833.out);replace BK834:=a0_ (blk_drew BK834.out);replace BK837:=a0_ (blk_drew BK837.out);replace HB:=a0_ (below_drew1 HB.out);refine start_ (n:=15) (S:=fun w'=>w'.cell? ⟨gb837,0,none⟩=some (.int .i64 t835)∧w'.cell? ⟨gb837,1,none⟩=some (.int .i64 t836)∧w'.cell? ⟨gb833,0,none⟩=some (.slice Ao9 t825.length co9)∧w'.cell? ⟨gb833,1,none⟩=some (.slice Ao12 t828.length co12)∧w'.cell? ⟨gb834,0,none⟩=some (.int .i64 t831)∧w'.cell? ⟨gb834,1,none⟩=some (.int .i64 t832)) (ds:=[]) (Array.replicate 15 false) (by kernel_rfl) rfl rfl ⟨bc_,bc_,bc_,bc_,bc_,bc_⟩ (fun hHeld=>?_);refine with_tabW laws_FnPlateFar.tab5 laws_FnPlateFar.bits5 (fun HT_ HW_=>?_);generalize w27.drew=w28 at HO827 HO830 BK833 BK834 BK837 HB hHeld ⊢
     refine ta6_ HT_ HW_ 0 21 (bm 15 1) hHeld ?_;refine ta6_ HT_ HW_ 1 22 (bm 15 3) hHeld ?_;refine ta6_ HT_ HW_ 2 23 (bm 15 7) hHeld ?_;refine one_ (i:=3) (N:=some 24) (bm 15 15) rfl rfl (one_of HT_.out (by kernel_rfl)) (by decide) (fun K hK=>?_);refine goes_ Tryd.func31 (by kernel_rfl) rfl #[.agg #[.slice Ao9 t825.length co9,.slice Ao12 t828.length co12],.agg #[.int .i64 t831,.int .i64 t832]] (by rfl) rfl rfl ma_ ?_
     with_reducible refine (spec_PlateFar.calls k _ _ t825 _ _ t828 t831 t832 t838 t839 _ ?side1 ?side2 ?side3 ?side4 A19.out).mono ?_
     (case side1=>repeat (first | exact (Kd.R_reads' HO827.out).2.2 | (with_reducible refine Kd.C_alloc ?_ _) | (with_reducible refine Kd.C_drewN ?_ _) | (with_reducible refine Kd.C_drew ?_)))
     (case side2=>exact (Kd.R_reads' HO827.out).2.1)
     (case side3=>repeat (first | exact (Kd.N_reads' HO830.out).2.2 | (with_reducible refine Kd.C_alloc ?_ _) | (with_reducible refine Kd.C_drewN ?_ _) | (with_reducible refine Kd.C_drew ?_)))
     (case side4=>exact (Kd.N_reads' HO830.out).2.1)
     rintro e w29 ⟨rfl,hb⟩;refine⟨_,rfl,?_⟩;replace HO827:=rb_ HO827 hb;replace HO830:=nb_ HO830 hb;replace BK833:=vb_ BK833 hb;replace BK834:=vb_ BK834 hb;replace BK837:=vb_ BK837 hb;replace HB:=sb_ HB hb
     (try clear hb)
     (try clear hb2)
     (try clear hk)
     (try clear hi)
     refine hK.out _ _ ⟨bc_,bc_,bc_,bc_,bc_,bc_⟩ (fun hHeld=>?_);clear hK K;refine no_ (h:=?_);refine pu_ HT_ 4 25 (bm 15 31) ?_;refine pu_ HT_ 5 26 (bm 15 63) ?_;refine ta6_ HT_ HW_ 6 27 (bm 15 127) hHeld ?_;refine one_ (i:=7) (N:=some 28) (bm 15 255) rfl rfl (one_of HT_.out (by kernel_rfl)) (by decide) (fun K hK=>?_);refine goes_ Tryd.func18 (by kernel_rfl) rfl #[.agg #[.slice Ao9 t825.length co9,.slice Ao12 t828.length co12]] (by rfl) rfl rfl ma_ ?_
     with_reducible refine (spec_PlateOk.calls k _ _ t825 _ _ t828 true _ ?side1 ?side2 ?side3 ?side4 A24.out).mono ?_
     (case side1=>repeat (first | exact (Kd.R_reads' HO827.out).2.2 | (with_reducible refine Kd.C_alloc ?_ _) | (with_reducible refine Kd.C_drewN ?_ _) | (with_reducible refine Kd.C_drew ?_)))
     (case side2=>exact (Kd.R_reads' HO827.out).2.1)
     (case side3=>repeat (first | exact (Kd.N_reads' HO830.out).2.2 | (with_reducible refine Kd.C_alloc ?_ _) | (with_reducible refine Kd.C_drewN ?_ _) | (with_reducible refine Kd.C_drew ?_)))
     (case side4=>exact (Kd.N_reads' HO830.out).2.1)
     rintro e w30 ⟨rfl,hb⟩;refine⟨_,rfl,?_⟩;replace HO827:=rb_ HO827 hb;replace HO830:=nb_ HO830 hb;replace BK833:=vb_ BK833 hb;replace BK834:=vb_ BK834 hb;replace BK837:=vb_ BK837 hb;replace HB:=sb_ HB hb
     (try clear hb)
     (try clear hb2)
     (try clear hk)
     (try clear hi)
     refine hK.out _ _ ⟨bc_,bc_,bc_,bc_,bc_,bc_⟩ (fun hHeld=>?_);clear hK K;refine no_ (h:=?_);refine pu_ HT_ 8 29 (bm 15 511) ?_;refine pu_ HT_ 9 30 (bm 15 1023) ?_;refine pu_ HT_ 10 31 (bm 15 2047) ?_;refine ta6_ HT_ HW_ 11 32 (bm 15 4095) hHeld ?_;refine one_ (i:=12) (N:=some 33) (bm 15 8191) rfl rfl (one_of HT_.out (by kernel_rfl)) (by decide) (fun K hK=>?_);refine goes_ Tryd.func19 (by kernel_rfl) rfl #[.agg #[.int .i64 t831,.int .i64 t832]] (by rfl) rfl rfl ma_ ?_
     with_reducible refine (spec_PtOk.calls t831 t832 t841 _ A26.out).mono ?_
     rintro e w31 ⟨rfl,hb⟩;refine⟨_,rfl,?_⟩;replace HO827:=rb_ HO827 hb;replace HO830:=nb_ HO830 hb;replace BK833:=vb_ BK833 hb;replace BK834:=vb_ BK834 hb;replace BK837:=vb_ BK837 hb;replace HB:=sb_ HB hb
     (try clear hb)
     (try clear hb2)
     (try clear hk)
     (try clear hi)
     refine hK.out _ _ ⟨bc_,bc_,bc_,bc_,bc_,bc_⟩ (fun hHeld=>?_);clear hK K;refine no_ (h:=?_);refine pu_ HT_ 13 34 (bm 15 16383) ?_;refine pu_ HT_ 14 35 (bm 15 32767) ?_;refine done_ (done_of HT_.out (by kernel_rfl)) ?_
     try go_wp2
     go_meet
     case rel=>exact⟨_,(!t841),(by first | rfl | (simp;done) | (simp [*];done)),H',⟨by first | omega | exact Nat.le_refl _⟩,⟨by (with_reducible repeat (first | apply Kd.R_alloc | apply Kd.R_drewN | apply Kd.R_drew));exact HO827.out⟩,⟨by (with_reducible repeat (first | apply Kd.N_alloc | apply Kd.N_drewN | apply Kd.N_drew));exact HO830.out⟩,⟨uq_⟩,⟨uq_⟩,⟨uq_⟩,⟨hB_⟩⟩
    ·
     replace c25:=Bool.eq_false_iff.mpr c25;subst c25;rw [if_neg (show ¬ (false=true) by decide)] at H
     (try dsimp only at H)
     have H':=Aside0.mk H;clear H
     try go_wp2
     have n0_:Aside0 (Kd.R k28 28 ((w15.setCell ⟨gb837,0,none⟩ (.int .i64 t835)).setCell ⟨gb837,1,none⟩ (.int .i64 t836)) w.heap.size (fun k_=>k_≠gb834) (.slice Ao9 t825.length co9) t825):=⟨by (with_reducible repeat (first | apply Kd.R_alloc | apply Kd.R_drewN | apply Kd.R_drew));exact Kd.R_mono (Kd.R_far (p:=⟨gb837,1,none⟩) (Kd.R_far (p:=⟨gb837,0,none⟩) (Kd.R_types HO827.out BK837.out (by decide)) (fun _ hk=>hk.2) (.int .i64 t835)) (fun _ hk=>hk.2) (.int .i64 t836)) (fun _ hk=>hk.1.2)⟩;have n1_:Aside0 (Kd.N (Kd.slice 28 k28) 23 ((w15.setCell ⟨gb837,0,none⟩ (.int .i64 t835)).setCell ⟨gb837,1,none⟩ (.int .i64 t836)) w.heap.size (fun k_=>some k_≠(.slice Ao9 t825.length co9:Value).ownBlock∧k_≠gb833∧k_≠gb834∧k_≠gb837) (.slice Ao12 t828.length co12) t828):=⟨by (with_reducible repeat (first | apply Kd.N_alloc | apply Kd.N_drewN | apply Kd.N_drew));exact Kd.N_mono (Kd.N_far (p:=⟨gb837,1,none⟩) (Kd.N_far (p:=⟨gb837,0,none⟩) (Kd.N_mono HO830.out (fun k_ hk=>(⟨hk,hk.2⟩:_∧k_≠gb837))) (fun _ hk=>hk.2) (.int .i64 t835)) (fun _ hk=>hk.2) (.int .i64 t836)) (fun _ hk=>⟨hk.1.1.1.1,⟨hk.1.1.1.2,⟨hk.1.1.2,hk.1.2⟩⟩⟩)⟩;have n2_:Aside0 (((w15.setCell ⟨gb837,0,none⟩ (.int .i64 t835)).setCell ⟨gb837,1,none⟩ (.int .i64 t836)).heap[gb833]?=some (.cells #[.slice Ao9 t825.length co9,.slice Ao12 t828.length co12] 26 (0,0))):=⟨by (with_reducible repeat (first | refine blk_drewN ?_ _ | refine blk_drew ?_ | refine blk_alloc ?_ _));refine blk_far ?_ NB833_837.out _;(with_reducible repeat (first | refine blk_drewN ?_ _ | refine blk_drew ?_ | refine blk_alloc ?_ _));refine blk_far ?_ NB833_837.out _;(with_reducible repeat (first | refine blk_drewN ?_ _ | refine blk_drew ?_ | refine blk_alloc ?_ _));exact BK833.out⟩
     have n3_:Aside0 (((w15.setCell ⟨gb837,0,none⟩ (.int .i64 t835)).setCell ⟨gb837,1,none⟩ (.int .i64 t836)).heap[gb834]?=some (.cells #[.int .i64 t831,.int .i64 t832] 28 (0,0))):=⟨by (with_reducible repeat (first | refine blk_drewN ?_ _ | refine blk_drew ?_ | refine blk_alloc ?_ _));refine blk_far ?_ NB834_837.out _;(with_reducible repeat (first | refine blk_drewN ?_ _ | refine blk_drew ?_ | refine blk_alloc ?_ _));refine blk_far ?_ NB834_837.out _;(with_reducible repeat (first | refine blk_drewN ?_ _ | refine blk_drew ?_ | refine blk_alloc ?_ _));exact BK834.out⟩;have n4_:Aside0 (((w15.setCell ⟨gb837,0,none⟩ (.int .i64 t835)).setCell ⟨gb837,1,none⟩ (.int .i64 t836)).heap[gb837]?=some (.cells #[.int .i64 t835,.int .i64 t836] 35 (0,0))):=⟨by (with_reducible repeat (first | refine blk_drewN ?_ _ | refine blk_drew ?_ | refine blk_alloc ?_ _));refine blk_put (cs:=#[.int .i64 t835,.int .i64 0]) ?_ 1 _ rfl;(with_reducible repeat (first | refine blk_drewN ?_ _ | refine blk_drew ?_ | refine blk_alloc ?_ _));refine blk_put (cs:=#[.int .i64 0,.int .i64 0]) ?_ 0 _ rfl;(with_reducible repeat (first | refine blk_drewN ?_ _ | refine blk_drew ?_ | refine blk_alloc ?_ _));exact BK837.out⟩;have n5_:Aside0 (Below w.heap.size w ((w15.setCell ⟨gb837,0,none⟩ (.int .i64 t835)).setCell ⟨gb837,1,none⟩ (.int .i64 t836))):=⟨hB_⟩
     (try clear HO827)
     (try clear HO830)
     (try clear BK833)
     (try clear BK834)
     (try clear BK837)
     (try clear HB)
     generalize ((w15.setCell ⟨gb837,0,none⟩ (.int .i64 t835)).setCell ⟨gb837,1,none⟩ (.int .i64 t836))=w32 at n0_ n1_ n2_ n3_ n4_ n5_ ⊢
     have HO827:=n0_;have HO830:=n1_;have BK833:=n2_;have BK834:=n3_;have BK837:=n4_;have HB:=n5_;clear n0_ n1_ n2_ n3_ n4_ n5_;replace HO827:=a0_ (Kd.R_drew HO827.out);replace HO830:=a0_ (Kd.N_drew HO830.out);replace BK833:=a0_ (blk_drew BK833.out);replace BK834:=a0_ (blk_drew BK834.out);replace BK837:=a0_ (blk_drew BK837.out);replace HB:=a0_ (below_drew1 HB.out);refine start_ (n:=15) (S:=fun w'=>w'.cell? ⟨gb837,0,none⟩=some (.int .i64 t835)∧w'.cell? ⟨gb837,1,none⟩=some (.int .i64 t836)∧w'.cell? ⟨gb833,0,none⟩=some (.slice Ao9 t825.length co9)∧w'.cell? ⟨gb833,1,none⟩=some (.slice Ao12 t828.length co12)∧w'.cell? ⟨gb834,0,none⟩=some (.int .i64 t831)∧w'.cell? ⟨gb834,1,none⟩=some (.int .i64 t832)) (ds:=[]) (Array.replicate 15 false) (by kernel_rfl) rfl rfl ⟨bc_,bc_,bc_,bc_,bc_,bc_⟩ (fun hHeld=>?_);refine with_tabW laws_FnPlateFar.tab5 laws_FnPlateFar.bits5 (fun HT_ HW_=>?_);generalize w32.drew=w33 at HO827 HO830 BK833 BK834 BK837 HB hHeld ⊢
     refine ta6_ HT_ HW_ 0 21 (bm 15 1) hHeld ?_;refine ta6_ HT_ HW_ 1 22 (bm 15 3) hHeld ?_;refine ta6_ HT_ HW_ 2 23 (bm 15 7) hHeld ?_;refine one_ (i:=3) (N:=some 24) (bm 15 15) rfl rfl (one_of HT_.out (by kernel_rfl)) (by decide) (fun K hK=>?_);refine goes_ Tryd.func31 (by kernel_rfl) rfl #[.agg #[.slice Ao9 t825.length co9,.slice Ao12 t828.length co12],.agg #[.int .i64 t831,.int .i64 t832]] (by rfl) rfl rfl ma_ ?_
     with_reducible refine (spec_PlateFar.calls k _ _ t825 _ _ t828 t831 t832 t838 t839 _ ?side1 ?side2 ?side3 ?side4 A19.out).mono ?_
     (case side1=>repeat (first | exact (Kd.R_reads' HO827.out).2.2 | (with_reducible refine Kd.C_alloc ?_ _) | (with_reducible refine Kd.C_drewN ?_ _) | (with_reducible refine Kd.C_drew ?_)))
     (case side2=>exact (Kd.R_reads' HO827.out).2.1)
     (case side3=>repeat (first | exact (Kd.N_reads' HO830.out).2.2 | (with_reducible refine Kd.C_alloc ?_ _) | (with_reducible refine Kd.C_drewN ?_ _) | (with_reducible refine Kd.C_drew ?_)))
     (case side4=>exact (Kd.N_reads' HO830.out).2.1)
     rintro e w34 ⟨rfl,hb⟩;refine⟨_,rfl,?_⟩;replace HO827:=rb_ HO827 hb;replace HO830:=nb_ HO830 hb;replace BK833:=vb_ BK833 hb;replace BK834:=vb_ BK834 hb;replace BK837:=vb_ BK837 hb;replace HB:=sb_ HB hb
     (try clear hb)
     (try clear hb2)
     (try clear hk)
     (try clear hi)
     refine hK.out _ _ ⟨bc_,bc_,bc_,bc_,bc_,bc_⟩ (fun hHeld=>?_);clear hK K;refine no_ (h:=?_);refine pu_ HT_ 4 25 (bm 15 31) ?_;refine pu_ HT_ 5 26 (bm 15 63) ?_;refine ta6_ HT_ HW_ 6 27 (bm 15 127) hHeld ?_;refine one_ (i:=7) (N:=some 28) (bm 15 255) rfl rfl (one_of HT_.out (by kernel_rfl)) (by decide) (fun K hK=>?_);refine goes_ Tryd.func18 (by kernel_rfl) rfl #[.agg #[.slice Ao9 t825.length co9,.slice Ao12 t828.length co12]] (by rfl) rfl rfl ma_ ?_
     with_reducible refine (spec_PlateOk.calls k _ _ t825 _ _ t828 false _ ?side1 ?side2 ?side3 ?side4 A24.out).mono ?_
     (case side1=>repeat (first | exact (Kd.R_reads' HO827.out).2.2 | (with_reducible refine Kd.C_alloc ?_ _) | (with_reducible refine Kd.C_drewN ?_ _) | (with_reducible refine Kd.C_drew ?_)))
     (case side2=>exact (Kd.R_reads' HO827.out).2.1)
     (case side3=>repeat (first | exact (Kd.N_reads' HO830.out).2.2 | (with_reducible refine Kd.C_alloc ?_ _) | (with_reducible refine Kd.C_drewN ?_ _) | (with_reducible refine Kd.C_drew ?_)))
     (case side4=>exact (Kd.N_reads' HO830.out).2.1)
     rintro e w35 ⟨rfl,hb⟩;refine⟨_,rfl,?_⟩;replace HO827:=rb_ HO827 hb;replace HO830:=nb_ HO830 hb;replace BK833:=vb_ BK833 hb;replace BK834:=vb_ BK834 hb;replace BK837:=vb_ BK837 hb;replace HB:=sb_ HB hb
     (try clear hb)
     (try clear hb2)
     (try clear hk)
     (try clear hi)
     refine hK.out _ _ ⟨bc_,bc_,bc_,bc_,bc_,bc_⟩ (fun hHeld=>?_);clear hK K;refine no_ (h:=?_);refine pu_ HT_ 8 29 (bm 15 511) ?_;refine pu_ HT_ 9 30 (bm 15 1023) ?_;refine pu_ HT_ 10 31 (bm 15 2047) ?_;refine pz_ HT_ 11 32 (bm 15 4095) ?_;refine pz_ HT_ 12 33 (bm 15 8191) ?_;refine pz_ HT_ 13 34 (bm 15 16383) ?_;refine pu_ HT_ 14 35 (bm 15 32767) ?_;refine done_ (done_of HT_.out (by kernel_rfl)) ?_
     try go_wp2
     go_meet
     case rel=>exact⟨_,(true),(by first | rfl | (simp;done) | (simp [*];done)),H',⟨by first | omega | exact Nat.le_refl _⟩,⟨by (with_reducible repeat (first | apply Kd.R_alloc | apply Kd.R_drewN | apply Kd.R_drew));exact HO827.out⟩,⟨by (with_reducible repeat (first | apply Kd.N_alloc | apply Kd.N_drewN | apply Kd.N_drew));exact HO830.out⟩,⟨uq_⟩,⟨uq_⟩,⟨uq_⟩,⟨hB_⟩⟩
  case rest =>
   clear HC5;obtain⟨kq,x35_4,rfl,HA,HJ4,HO_834000,HO_834001,BK833,BK834,BK837,HB⟩:=hcut
   cases kq with
   | zero=>exact absurd HA.out (by simp [laws_FnPlateFar.j0])
   | succ kj4 =>
    have H:=HA.out;clear HA;simp only [laws_FnPlateFar.j0] at H;by_cases c36:x35_4=true
    ·
     subst c36;rw [if_pos rfl] at H
     (try dsimp only at H)
     replace H:=Option.bind_eq_some_iff.mp H;obtain⟨⟨t842,t843⟩,A370,H⟩:=H
     (try dsimp only at H)
     have A37:=Aside0.mk A370;clear A370;obtain rfl:=Option.some.inj H
     try go_wp2
     replace HO_834000:=a0_ (Kd.R_drew HO_834000.out);replace HO_834001:=a0_ (Kd.N_drew HO_834001.out);replace BK833:=a0_ (blk_drew BK833.out);replace BK834:=a0_ (blk_drew BK834.out);replace BK837:=a0_ (blk_drew BK837.out);replace HB:=a0_ (below_drew1 HB.out);refine start_ (n:=6) (S:=fun w'=>w'.cell? ⟨gb837,0,none⟩=some (.int .i64 t835)∧w'.cell? ⟨gb837,1,none⟩=some (.int .i64 t836)∧w'.cell? ⟨gb833,0,none⟩=some (.slice Ao9 t825.length co9)∧w'.cell? ⟨gb833,1,none⟩=some (.slice Ao12 t828.length co12)∧w'.cell? ⟨gb834,0,none⟩=some (.int .i64 t831)∧w'.cell? ⟨gb834,1,none⟩=some (.int .i64 t832)) (ds:=[]) (Array.replicate 6 false) (by kernel_rfl) rfl rfl ⟨bc_,bc_,bc_,bc_,bc_,bc_⟩ (fun hHeld=>?_);generalize wc.drew=w38 at HO_834000 HO_834001 BK833 BK834 BK837 HB hHeld ⊢
     refine tb6_ 0 36 (bm 6 1) hHeld ?_;refine tb6_ 1 37 (bm 6 3) hHeld ?_;refine tb6_ 2 38 (bm 6 7) hHeld ?_;refine one_ (i:=3) (N:=some 39) (bm 6 15) rfl rfl (by kernel_rfl) (by decide) (fun K hK=>?_);refine goes_ Tryd.func31 (by kernel_rfl) rfl #[.agg #[.slice Ao9 t825.length co9,.slice Ao12 t828.length co12],.agg #[.int .i64 t831,.int .i64 t832]] (by rfl) rfl rfl ma_ ?_
     with_reducible refine (spec_PlateFar.calls kj4 _ _ t825 _ _ t828 t831 t832 t842 t843 _ ?side1 ?side2 ?side3 ?side4 A37.out).mono ?_
     (case side1=>repeat (first | exact (Kd.R_reads' HO_834000.out).2.2 | (with_reducible refine Kd.C_alloc ?_ _) | (with_reducible refine Kd.C_drewN ?_ _) | (with_reducible refine Kd.C_drew ?_)))
     (case side2=>exact (Kd.R_reads' HO_834000.out).2.1)
     (case side3=>repeat (first | exact (Kd.N_reads' HO_834001.out).2.2 | (with_reducible refine Kd.C_alloc ?_ _) | (with_reducible refine Kd.C_drewN ?_ _) | (with_reducible refine Kd.C_drew ?_)))
     (case side4=>exact (Kd.N_reads' HO_834001.out).2.1)
     rintro e w39 ⟨rfl,hb⟩;refine⟨_,rfl,?_⟩;replace HO_834000:=rb_ HO_834000 hb;replace HO_834001:=nb_ HO_834001 hb;replace BK833:=vb_ BK833 hb;replace BK834:=vb_ BK834 hb;replace BK837:=vb_ BK837 hb;replace HB:=sb_ HB hb
     (try clear hb)
     (try clear hb2)
     (try clear hk)
     (try clear hi)
     refine hK.out _ _ ⟨bc_,bc_,bc_,bc_,bc_,bc_⟩ (fun hHeld=>?_);clear hK K;refine no_ (h:=?_);refine pv_ 4 40 (bm 6 31) ?_;refine pv_ 5 2 (bm 6 63) ?_;refine done_ (by kernel_rfl) ?_
     try go_wp2
     go_ret;exact⟨rr_,hB_⟩
    ·
     replace c36:=Bool.eq_false_iff.mpr c36;subst c36;rw [if_neg (show ¬ (false=true) by decide)] at H
     (try dsimp only at H)
     replace H:=Option.bind_eq_some_iff.mp H;obtain⟨t844,A400,H⟩:=H
     (try dsimp only at H)
     have A40:=Aside0.mk A400;clear A400;have H':=Aside0.mk H;clear H;have hnb41:=NB833_834.out;have hnc41:=NB834_833.out;have hnb42:=NB833_837.out;have hnc42:=NB837_833.out;have hcz43_0:=c20_ BK833;have hcz43_1:=c21_ BK833;have hfz43_0:=fz_ BK833 0;have hfz43_1:=fz_ BK833 1;go_wp2_with (first | ((with_reducible refine gate_callee (f:=36) rfl ?_);refine gL_ (some 42) Tryd.func36 #[.agg #[.slice Ao9 t825.length co9,.slice Ao12 t828.length co12]] (h:=?_);(with_reducible refine (impl_PlateEdges.calls _ _ t825 _ _ t828 t844 _ ?side1 ?side2 ?side3 ?side4 A40.out).mono ?_);(case side1=>repeat (first | exact (Kd.R_reads' HO_834000.out).2.2 | (with_reducible refine Kd.C_alloc ?_ _) | (with_reducible refine Kd.C_drewN ?_ _) | (with_reducible refine Kd.C_drew ?_)));(case side2=>exact (Kd.R_reads' HO_834000.out).2.1);(case side3=>repeat (first | exact (Kd.N_reads' HO_834001.out).2.2 | (with_reducible refine Kd.C_alloc ?_ _) | (with_reducible refine Kd.C_drewN ?_ _) | (with_reducible refine Kd.C_drew ?_)));(case side4=>exact (Kd.N_reads' HO_834001.out).2.1);rintro e w44 ⟨v845,rfl,ho0,hb⟩;refine⟨_,rfl,?_⟩;have HO846:=a0_ (Kd.R_lower ho0 (below_size hB_));replace HO_834000:=rb_ HO_834000 hb;replace HO_834001:=a0_ (Kd.N_elder' (uN_ HO_834001) (Kd.R_base ho0) hb);replace BK833:=vb_ BK833 hb;replace BK834:=vb_ BK834 hb;replace BK837:=vb_ BK837 hb;replace HB:=sb_ HB hb;(try clear ho0 hb)))
     go_loopg [6,8] kj4 (fun kq v6 v8 w'=>∃ (x6_2:Bool) (x8_2:Int),v6=.bool x6_2∧v8=.int .i64 x8_2∧Aside0 (laws_FnPlateFar.l0 kq x6_2 t844 x8_2 t825 t828 t831 t832 t835 t836=some r)∧Aside0 (kq≤kj4)∧Aside0 (Kd.R k61 61 w' w.heap.size (fun _=>True) v845 t844)∧Aside0 (Kd.R k28 28 w' w.heap.size (fun k_=>k_≠gb834) (.slice Ao9 t825.length co9) t825)∧Aside0 (Kd.N (Kd.slice 28 k28) 23 w' w.heap.size (fun k_=>some k_≠(v845:Value).ownBlock∧some k_≠((.slice Ao9 t825.length co9):Value).ownBlock∧k_≠gb833∧k_≠gb834∧k_≠gb837) (.slice Ao12 t828.length co12) t828)∧Aside0 (w'.heap[gb833]?=some (.cells #[(.slice Ao9 t825.length co9),(.slice Ao12 t828.length co12)] 26 (0,0)))∧Aside0 (w'.heap[gb834]?=some (.cells #[.int .i64 t831,.int .i64 t832] 28 (0,0)))∧Aside0 (w'.heap[gb837]?=some (.cells #[.int .i64 t835,.int .i64 t836] 35 (0,0)))∧Aside0 (Below w.heap.size w w'))
     case atStart=>exact⟨(false),(0),(by first | rfl | (simp;done) | (simp [*];done)),(by first | rfl | (simp;done) | (simp [*];done)),H',⟨Nat.le_refl _⟩,⟨by (with_reducible repeat (first | apply Kd.R_alloc | apply Kd.R_drewN | apply Kd.R_drew));exact HO846.out⟩,⟨by (with_reducible repeat (first | apply Kd.R_alloc | apply Kd.R_drewN | apply Kd.R_drew));exact HO_834000.out⟩,⟨by (with_reducible repeat (first | apply Kd.N_alloc | apply Kd.N_drewN | apply Kd.N_drew));exact Kd.N_mono HO_834001.out (fun _ hk=>⟨hk.2,⟨hk.1.1,⟨hk.1.2.1,⟨hk.1.2.2.1,hk.1.2.2.2⟩⟩⟩⟩)⟩,⟨uq_⟩,⟨uq_⟩,⟨uq_⟩,⟨hB_⟩⟩
     case round =>
      clear H';obtain⟨x6_2,x8_2,rfl,rfl,HA,HK2,HO_7,HO_834000,HO_834001,BK833,BK834,BK837,HB⟩:=hrel
      cases gk with
      | zero=>exact absurd HA.out (by simp [laws_FnPlateFar.l0])
      | succ k2 =>
       have H:=HA.out;clear HA;simp only [laws_FnPlateFar.l0] at H;by_cases c45:x8_2<(t844.length:Int)
       ·
        rw [if_pos c45] at H;have c45b0:decide (x8_2<(t844.length:Int))=true:=decide_eq_true c45;clear c45;by_cases c46:0≤x8_2
        ·
         rw [if_pos c46] at H;have c46b0:decide (0≤x8_2)=true:=decide_eq_true c46;clear c46;replace H:=Option.bind_eq_some_iff.mp H;obtain⟨⟨t850,t851⟩,A470,H⟩:=H
         (try dsimp only at H)
         have A47:=Aside0.mk A470;clear A470;by_cases c48:x6_2=true
         ·
          subst c48;rw [if_pos rfl] at H
          (try dsimp only at H)
          replace H:=Option.bind_eq_some_iff.mp H;obtain⟨t853,A490,H⟩:=H
          (try dsimp only at H)
          have A49:=Aside0.mk A490;clear A490;by_cases c50:t853>0
          ·
           rw [if_pos c50] at H;have c50b0:decide (0<t853)=true:=decide_eq_true c50;clear c50;obtain rfl:=Option.some.inj H;obtain⟨Ao51,co51,eo51⟩:=Kd.R_slice HO_7.out;subst eo51
           try go_wp2
           replace HO_7:=a0_ (Kd.R_drew HO_7.out);replace HO_834000:=a0_ (Kd.R_drew HO_834000.out);replace HO_834001:=a0_ (Kd.N_drew HO_834001.out);replace BK833:=a0_ (blk_drew BK833.out);replace BK834:=a0_ (blk_drew BK834.out);replace BK837:=a0_ (blk_drew BK837.out);replace HB:=a0_ (below_drew1 HB.out);have p849:0≤(x8_2:Int):=od_;have q849:x8_2<(t844.length:Int):=od_;obtain⟨ad849,e849,hx849_0,hx849_1,hx849_2,hx849_3⟩:=at_T61 (Kd.R_reads' HO_7.out).2.2 x8_2 p849 q849;cases e849;replace p849:=eq_true p849;replace q849:=eq_true q849;refine start_ (n:=8) (S:=fun w'=>w'.cell? ⟨gb834,0,none⟩=some (.int .i64 t831)∧w'.cell? ⟨gb834,1,none⟩=some (.int .i64 t832)∧w'.cell? (ad849.add ((x8_2).toNat*4))=some (.int .i64 ((rd_T61 t844 x8_2).f0.f0))∧w'.cell? ⟨(ad849.add ((x8_2).toNat*4)).block,(ad849.add ((x8_2).toNat*4)).off+1,none⟩=some (.int .i64 ((rd_T61 t844 x8_2).f0.f1))∧w'.cell? ⟨(ad849.add ((x8_2).toNat*4)).block,(ad849.add ((x8_2).toNat*4)).off+2,none⟩=some (.int .i64 ((rd_T61 t844 x8_2).f1.f0))∧w'.cell? ⟨(ad849.add ((x8_2).toNat*4)).block,(ad849.add ((x8_2).toNat*4)).off+3,none⟩=some (.int .i64 ((rd_T61 t844 x8_2).f1.f1))) (ds:=[]) (Array.replicate 8 false) (by kernel_rfl) rfl rfl ⟨bc_,bc_,hx849_0,hx849_1,hx849_2,hx849_3⟩ (fun hHeld=>?_);refine with_tabW laws_FnPlateFar.tab12 laws_FnPlateFar.bits12 (fun HT_ HW_=>?_);generalize wr.drew=w52 at HO_7 HO_834000 HO_834001 BK833 BK834 BK837 HB hx849_0 hx849_1 hx849_2 hx849_3 hHeld ⊢
           refine pu_ HT_ 0 49 (bm 8 1) ?_;refine pu_ HT_ 1 50 (bm 8 3) ?_;refine pu_ HT_ 2 51 (bm 8 7) ?_;refine ta6_ HT_ HW_ 3 52 (bm 8 15) hHeld ?_;refine ta6_ HT_ HW_ 4 53 (bm 8 31) hHeld ?_;refine join_ (σ:=Nat) 1 (bm 8 127) (fun s_=>[(54,.agg #[.int .i64 t850,.int .i64 t851]),(9,.pointer (some ⟨s_,0,none⟩))]) (fun s_ w'=>(w'.cell? ⟨gb834,0,none⟩=some (.int .i64 t831)∧w'.cell? ⟨gb834,1,none⟩=some (.int .i64 t832)∧w'.cell? (ad849.add ((x8_2).toNat*4))=some (.int .i64 ((rd_T61 t844 x8_2).f0.f0))∧w'.cell? ⟨(ad849.add ((x8_2).toNat*4)).block,(ad849.add ((x8_2).toNat*4)).off+1,none⟩=some (.int .i64 ((rd_T61 t844 x8_2).f0.f1))∧w'.cell? ⟨(ad849.add ((x8_2).toNat*4)).block,(ad849.add ((x8_2).toNat*4)).off+2,none⟩=some (.int .i64 ((rd_T61 t844 x8_2).f1.f0))∧w'.cell? ⟨(ad849.add ((x8_2).toNat*4)).block,(ad849.add ((x8_2).toNat*4)).off+3,none⟩=some (.int .i64 ((rd_T61 t844 x8_2).f1.f1)))∧(Kd.R k61 61 w' w.heap.size (fun _=>True) (.slice (some ad849) t844.length co51) t844)∧(Kd.R k28 28 w' w.heap.size (fun k_=>k_≠gb834) (.slice Ao9 t825.length co9) t825)∧(Kd.N (Kd.slice 28 k28) 23 w' w.heap.size (fun k_=>some k_≠(.slice (some ad849) t844.length co51:Value).ownBlock∧some k_≠(.slice Ao9 t825.length co9:Value).ownBlock∧k_≠gb833∧k_≠gb834∧k_≠gb837∧k_≠s_) (.slice Ao12 t828.length co12) t828)∧(w'.heap[gb833]?=some (.cells #[.slice Ao9 t825.length co9,.slice Ao12 t828.length co12] 26 (0,0)))∧(w'.heap[gb834]?=some (.cells #[.int .i64 t831,.int .i64 t832] 28 (0,0)))∧(w'.heap[gb837]?=some (.cells #[.int .i64 t835,.int .i64 t836] 35 (0,0)))∧(w'.heap[s_]?=some (.cells #[.int .i64 0,.int .i64 0] 35 (0,0)))∧(w.heap.size≤s_)∧(w.heap.size≤s_)∧(gb833≠s_)∧(s_≠gb833)∧(gb834≠s_)∧(s_≠gb834)∧(gb837≠s_)∧(s_≠gb837)∧(Below w.heap.size w w')) ?_ ?_;rotate_left
           ·
            intro hCont;refine two_ (i:=5) (j:=6) (Ni:=some 54) (Nj:=some 9) (bm 8 63) (bm 8 95) rfl rfl rfl rfl (two_of HT_.out (by kernel_rfl)) (by decide) (by decide) (fun K hK=>?_) (fun K hK=>?_)
            ·
             skip;refine goes_ Tryd.func37 (by kernel_rfl) rfl #[.agg #[.int .i64 ((rd_T61 t844 x8_2).f0.f0),.int .i64 ((rd_T61 t844 x8_2).f0.f1),.int .i64 ((rd_T61 t844 x8_2).f1.f0),.int .i64 ((rd_T61 t844 x8_2).f1.f1)],.agg #[.int .i64 t831,.int .i64 t832]] (by rfl) rfl rfl ma_ ?_
             with_reducible refine (impl_SegFar.calls ((rd_T61 t844 x8_2).f0.f0) ((rd_T61 t844 x8_2).f0.f1) ((rd_T61 t844 x8_2).f1.f0) ((rd_T61 t844 x8_2).f1.f1) t831 t832 t850 t851 _ A47.out).mono ?_
             rintro e w53 ⟨rfl,hb⟩;have HS2_:=pw_cell_below hb hHeld.2.2.1;have HS3_:=pw_cell_below hb hHeld.2.2.2.1;have HS4_:=pw_cell_below hb hHeld.2.2.2.2.1;have HS5_:=pw_cell_below hb hHeld.2.2.2.2.2;refine⟨_,rfl,?_⟩;replace HO_7:=rb_ HO_7 hb;replace HO_834000:=rb_ HO_834000 hb;replace HO_834001:=nb_ HO_834001 hb;replace BK833:=vb_ BK833 hb;replace BK834:=vb_ BK834 hb;replace BK837:=vb_ BK837 hb;replace HB:=sb_ HB hb
             (try clear hb)
             (try clear hb2)
             (try clear hk)
             (try clear hi)
             refine hK.out _ _ ⟨bc_,bc_,HS2_,HS3_,HS4_,HS5_⟩ (fun hHeld=>?_);clear hK K;refine no_ (h:=?_);refine one_ (i:=6) (N:=some 9) (bm 8 127) rfl rfl (one_of HT_.out (by kernel_rfl)) (by decide) (fun K hK=>?_);refine box_step ?hg (N:=9) ?hd (cs:=#[.int .i64 0,.int .i64 0]) (t:=35) ?hr ?_;(case hd=>rfl);(case hg=>rfl);(case hr=>first | (go_simp;done) | (go_simp;rfl));intro gb852 hg w54 hbox hb;have HS2_:=pw_cell_below hb hHeld.2.2.1;have HS3_:=pw_cell_below hb hHeld.2.2.2.1;have HS4_:=pw_cell_below hb hHeld.2.2.2.2.1;have HS5_:=pw_cell_below hb hHeld.2.2.2.2.2;have BK852:=a0_ (hbox);have GW852:=gh_ HB hg;have GE852:=gh_ HB hg;have NB833_852:=nl_ BK833 hg;have NB852_833:=nr_ BK833 hg;have NB834_852:=nl_ BK834 hg;have NB852_834:=nr_ BK834 hg;have NB837_852:=nl_ BK837 hg;have NB852_837:=nr_ BK837 hg;replace HO_7:=rb_ HO_7 hb;replace HO_834000:=rb_ HO_834000 hb;replace HO_834001:=a0_ (Kd.N_below (Kd.N_elderB (uN_ HO_834001) gb852 (Nat.le_of_eq hg.symm)) hb);replace BK833:=vb_ BK833 hb;replace BK834:=vb_ BK834 hb;replace BK837:=vb_ BK837 hb;replace HB:=sb_ HB hb;clear hb hbox hg;refine hK.out _ _ ⟨bc_,bc_,HS2_,HS3_,HS4_,HS5_⟩ (fun hHeld=>?_);clear hK K;refine no_ (h:=?_);exact norm_ (by simp only [putAll,Act.put,List.setIfInBounds_toArray,List.set_cons_zero,List.set_cons_succ]) (hCont (gb852) _ ⟨hHeld,(uR_ HO_7),(uR_ HO_834000),(by (with_reducible repeat (first | apply Kd.N_alloc | apply Kd.N_drewN | apply Kd.N_drew));exact Kd.N_mono HO_834001.out (fun _ hk=>⟨hk.1.1,⟨hk.1.2.1,⟨hk.1.2.2.1,⟨hk.1.2.2.2.1,⟨hk.1.2.2.2.2,hk.2⟩⟩⟩⟩⟩)),uq_,uq_,uq_,uq_,GW852.out,GE852.out,NB833_852.out,NB852_833.out,NB834_852.out,NB852_834.out,NB837_852.out,NB852_837.out,hB_⟩)
            ·
             skip;refine box_step ?hg (N:=9) ?hd (cs:=#[.int .i64 0,.int .i64 0]) (t:=35) ?hr ?_;(case hd=>rfl);(case hg=>rfl);(case hr=>first | (go_simp;done) | (go_simp;rfl));intro gb852 hg w53 hbox hb;have HS2_:=pw_cell_below hb hHeld.2.2.1;have HS3_:=pw_cell_below hb hHeld.2.2.2.1;have HS4_:=pw_cell_below hb hHeld.2.2.2.2.1;have HS5_:=pw_cell_below hb hHeld.2.2.2.2.2;have BK852:=a0_ (hbox);have GW852:=gh_ HB hg;have GE852:=gh_ HB hg;have NB833_852:=nl_ BK833 hg;have NB852_833:=nr_ BK833 hg;have NB834_852:=nl_ BK834 hg;have NB852_834:=nr_ BK834 hg;have NB837_852:=nl_ BK837 hg;have NB852_837:=nr_ BK837 hg;replace HO_7:=rb_ HO_7 hb;replace HO_834000:=rb_ HO_834000 hb;replace HO_834001:=a0_ (Kd.N_below (Kd.N_elderB (uN_ HO_834001) gb852 (Nat.le_of_eq hg.symm)) hb);replace BK833:=vb_ BK833 hb;replace BK834:=vb_ BK834 hb;replace BK837:=vb_ BK837 hb;replace HB:=sb_ HB hb;clear hb hbox hg;refine hK.out _ _ ⟨bc_,bc_,HS2_,HS3_,HS4_,HS5_⟩ (fun hHeld=>?_);clear hK K;refine no_ (h:=?_);refine one_ (i:=5) (N:=some 54) (bm 8 127) rfl rfl (one_of HT_.out (by kernel_rfl)) (by decide) (fun K hK=>?_);refine goes_ Tryd.func37 (by kernel_rfl) rfl #[.agg #[.int .i64 ((rd_T61 t844 x8_2).f0.f0),.int .i64 ((rd_T61 t844 x8_2).f0.f1),.int .i64 ((rd_T61 t844 x8_2).f1.f0),.int .i64 ((rd_T61 t844 x8_2).f1.f1)],.agg #[.int .i64 t831,.int .i64 t832]] (by rfl) rfl rfl ma_ ?_
             with_reducible refine (impl_SegFar.calls ((rd_T61 t844 x8_2).f0.f0) ((rd_T61 t844 x8_2).f0.f1) ((rd_T61 t844 x8_2).f1.f0) ((rd_T61 t844 x8_2).f1.f1) t831 t832 t850 t851 _ A47.out).mono ?_
             rintro e w54 ⟨rfl,hb⟩;have HS2_:=pw_cell_below hb hHeld.2.2.1;have HS3_:=pw_cell_below hb hHeld.2.2.2.1;have HS4_:=pw_cell_below hb hHeld.2.2.2.2.1;have HS5_:=pw_cell_below hb hHeld.2.2.2.2.2;refine⟨_,rfl,?_⟩;replace HO_7:=rb_ HO_7 hb;replace HO_834000:=rb_ HO_834000 hb;replace HO_834001:=nb_ HO_834001 hb;replace BK833:=vb_ BK833 hb;replace BK834:=vb_ BK834 hb;replace BK837:=vb_ BK837 hb;replace BK852:=vb_ BK852 hb;replace HB:=sb_ HB hb
             (try clear hb)
             (try clear hb2)
             (try clear hk)
             (try clear hi)
             refine hK.out _ _ ⟨bc_,bc_,HS2_,HS3_,HS4_,HS5_⟩ (fun hHeld=>?_);clear hK K;refine no_ (h:=?_);exact norm_ (by simp only [putAll,Act.put,List.setIfInBounds_toArray,List.set_cons_zero,List.set_cons_succ]) (hCont (gb852) _ ⟨hHeld,(uR_ HO_7),(uR_ HO_834000),(by (with_reducible repeat (first | apply Kd.N_alloc | apply Kd.N_drewN | apply Kd.N_drew));exact Kd.N_mono HO_834001.out (fun _ hk=>⟨hk.1.1,⟨hk.1.2.1,⟨hk.1.2.2.1,⟨hk.1.2.2.2.1,⟨hk.1.2.2.2.2,hk.2⟩⟩⟩⟩⟩)),uq_,uq_,uq_,uq_,GW852.out,GE852.out,NB833_852.out,NB852_833.out,NB834_852.out,NB852_834.out,NB837_852.out,NB852_837.out,hB_⟩)
           rintro gb852 w55 ⟨hS_,h0_,h1_,h2_,h3_,h4_,h5_,h6_,h7_,h8_,h9_,h10_,h11_,h12_,h13_,h14_,h15_⟩;have n0_:Aside0 (Kd.R k61 61 w55 w.heap.size (fun _=>True) (.slice (some ad849) t844.length co51) t844):=⟨h0_⟩;have n1_:Aside0 (Kd.R k28 28 w55 w.heap.size (fun k_=>k_≠gb834) (.slice Ao9 t825.length co9) t825):=⟨h1_⟩;have n2_:Aside0 (Kd.N (Kd.slice 28 k28) 23 w55 w.heap.size (fun k_=>some k_≠(.slice (some ad849) t844.length co51:Value).ownBlock∧some k_≠(.slice Ao9 t825.length co9:Value).ownBlock∧k_≠gb833∧k_≠gb834∧k_≠gb837∧k_≠gb852) (.slice Ao12 t828.length co12) t828):=⟨h2_⟩;have n3_:Aside0 (w55.heap[gb833]?=some (.cells #[.slice Ao9 t825.length co9,.slice Ao12 t828.length co12] 26 (0,0))):=⟨h3_⟩;have n4_:Aside0 (w55.heap[gb834]?=some (.cells #[.int .i64 t831,.int .i64 t832] 28 (0,0))):=⟨h4_⟩;have n5_:Aside0 (w55.heap[gb837]?=some (.cells #[.int .i64 t835,.int .i64 t836] 35 (0,0))):=⟨h5_⟩;have n6_:Aside0 (w55.heap[gb852]?=some (.cells #[.int .i64 0,.int .i64 0] 35 (0,0))):=⟨h6_⟩;have n7_:Aside0 (w.heap.size≤gb852):=⟨h7_⟩;have n8_:Aside0 (w.heap.size≤gb852):=⟨h8_⟩;have n9_:Aside0 (gb833≠gb852):=⟨h9_⟩;have n10_:Aside0 (gb852≠gb833):=⟨h10_⟩;have n11_:Aside0 (gb834≠gb852):=⟨h11_⟩;have n12_:Aside0 (gb852≠gb834):=⟨h12_⟩;have n13_:Aside0 (gb837≠gb852):=⟨h13_⟩;have n14_:Aside0 (gb852≠gb837):=⟨h14_⟩;have n15_:Aside0 (Below w.heap.size w w55):=⟨h15_⟩;clear HO_7 HO_834000 HO_834001 BK833 BK834 BK837 HB;clear h0_ h1_ h2_ h3_ h4_ h5_ h6_ h7_ h8_ h9_ h10_ h11_ h12_ h13_ h14_ h15_;have HO_7:=n0_;have HO_834000:=n1_;have HO_834001:=n2_;have BK833:=n3_;have BK834:=n4_;have BK837:=n5_;have BK852:=n6_;have GW852:=n7_;have GE852:=n8_;have NB833_852:=n9_;have NB852_833:=n10_;have NB834_852:=n11_;have NB852_834:=n12_;have NB837_852:=n13_;have NB852_837:=n14_;have HB:=n15_
           clear n0_ n1_ n2_ n3_ n4_ n5_ n6_ n7_ n8_ n9_ n10_ n11_ n12_ n13_ n14_ n15_;have hHeld:w55.cell? ⟨gb834,0,none⟩=some (.int .i64 t831)∧w55.cell? ⟨gb834,1,none⟩=some (.int .i64 t832)∧w55.cell? (ad849.add ((x8_2).toNat*4))=some (.int .i64 ((rd_T61 t844 x8_2).f0.f0))∧w55.cell? ⟨(ad849.add ((x8_2).toNat*4)).block,(ad849.add ((x8_2).toNat*4)).off+1,none⟩=some (.int .i64 ((rd_T61 t844 x8_2).f0.f1))∧w55.cell? ⟨(ad849.add ((x8_2).toNat*4)).block,(ad849.add ((x8_2).toNat*4)).off+2,none⟩=some (.int .i64 ((rd_T61 t844 x8_2).f1.f0))∧w55.cell? ⟨(ad849.add ((x8_2).toNat*4)).block,(ad849.add ((x8_2).toNat*4)).off+3,none⟩=some (.int .i64 ((rd_T61 t844 x8_2).f1.f1)):=hS_;refine norm_ (a':=?_) ?_ ?_;rotate_left
           ·
            simp only [putAll,Act.put,List.setIfInBounds_toArray,List.set_cons_zero,List.set_cons_succ];rfl
           refine one_ (i:=7) (N:=none) (bm 8 255) rfl rfl (one_of HT_.out (by kernel_rfl)) (by decide) (fun K hK=>?_);have hs56:w55.cell? ⟨gb852,0,none⟩=some (.int .i64 0):=bc_;have hfs56:=blk_frozen BK852.out 0;have hns56_0:=NB833_852.out;have hns56_1:=NB834_852.out;have hns56_2:=NB837_852.out;have hms56_0:=NB852_833.out;have hms56_1:=NB852_834.out;have hms56_2:=NB852_837.out;have hs57:w55.cell? ⟨gb852,1,none⟩=some (.int .i64 0):=bc_;have hfs57:=blk_frozen BK852.out 1;have hns57_0:=NB833_852.out;have hns57_1:=NB834_852.out;have hns57_2:=NB837_852.out;have hms57_0:=NB852_833.out;have hms57_1:=NB852_834.out;have hms57_2:=NB852_837.out;refine skip_ (w1:=?_) (by rfl) rfl ?_ ?_;rotate_left
           ·
            go_simp;rfl
           refine hK.out _ _ ⟨((cell_far (p:=⟨gb852,_,none⟩) NB834_852.out _).trans (((cell_far (p:=⟨gb852,_,none⟩) NB834_852.out _).trans (hHeld.1)))),((cell_far (p:=⟨gb852,_,none⟩) NB834_852.out _).trans (((cell_far (p:=⟨gb852,_,none⟩) NB834_852.out _).trans (hHeld.2.1)))),((cell_far (p:=⟨gb852,_,none⟩) (by first | exact Kd.own_blk (Kd.R_ne HO_7.out BK852.out (by decide)) | (rw [add_block];exact Kd.own_blk (Kd.R_ne HO_7.out BK852.out (by decide))) | (show (Addr.add _ _).block≠_;rw [add_block];exact Kd.own_blk (Kd.R_ne HO_7.out BK852.out (by decide))) | (dsimp only;exact Kd.own_blk (Kd.R_ne HO_7.out BK852.out (by decide)))) _).trans (((cell_far (p:=⟨gb852,_,none⟩) (by first | exact Kd.own_blk (Kd.R_ne HO_7.out BK852.out (by decide)) | (rw [add_block];exact Kd.own_blk (Kd.R_ne HO_7.out BK852.out (by decide))) | (show (Addr.add _ _).block≠_;rw [add_block];exact Kd.own_blk (Kd.R_ne HO_7.out BK852.out (by decide))) | (dsimp only;exact Kd.own_blk (Kd.R_ne HO_7.out BK852.out (by decide)))) _).trans (hHeld.2.2.1)))),((cell_far (p:=⟨gb852,_,none⟩) (by first | exact Kd.own_blk (Kd.R_ne HO_7.out BK852.out (by decide)) | (rw [add_block];exact Kd.own_blk (Kd.R_ne HO_7.out BK852.out (by decide))) | (show (Addr.add _ _).block≠_;rw [add_block];exact Kd.own_blk (Kd.R_ne HO_7.out BK852.out (by decide))) | (dsimp only;exact Kd.own_blk (Kd.R_ne HO_7.out BK852.out (by decide)))) _).trans (((cell_far (p:=⟨gb852,_,none⟩) (by first | exact Kd.own_blk (Kd.R_ne HO_7.out BK852.out (by decide)) | (rw [add_block];exact Kd.own_blk (Kd.R_ne HO_7.out BK852.out (by decide))) | (show (Addr.add _ _).block≠_;rw [add_block];exact Kd.own_blk (Kd.R_ne HO_7.out BK852.out (by decide))) | (dsimp only;exact Kd.own_blk (Kd.R_ne HO_7.out BK852.out (by decide)))) _).trans (hHeld.2.2.2.1)))),((cell_far (p:=⟨gb852,_,none⟩) (by first | exact Kd.own_blk (Kd.R_ne HO_7.out BK852.out (by decide)) | (rw [add_block];exact Kd.own_blk (Kd.R_ne HO_7.out BK852.out (by decide))) | (show (Addr.add _ _).block≠_;rw [add_block];exact Kd.own_blk (Kd.R_ne HO_7.out BK852.out (by decide))) | (dsimp only;exact Kd.own_blk (Kd.R_ne HO_7.out BK852.out (by decide)))) _).trans (((cell_far (p:=⟨gb852,_,none⟩) (by first | exact Kd.own_blk (Kd.R_ne HO_7.out BK852.out (by decide)) | (rw [add_block];exact Kd.own_blk (Kd.R_ne HO_7.out BK852.out (by decide))) | (show (Addr.add _ _).block≠_;rw [add_block];exact Kd.own_blk (Kd.R_ne HO_7.out BK852.out (by decide))) | (dsimp only;exact Kd.own_blk (Kd.R_ne HO_7.out BK852.out (by decide)))) _).trans (hHeld.2.2.2.2.1)))),((cell_far (p:=⟨gb852,_,none⟩) (by first | exact Kd.own_blk (Kd.R_ne HO_7.out BK852.out (by decide)) | (rw [add_block];exact Kd.own_blk (Kd.R_ne HO_7.out BK852.out (by decide))) | (show (Addr.add _ _).block≠_;rw [add_block];exact Kd.own_blk (Kd.R_ne HO_7.out BK852.out (by decide))) | (dsimp only;exact Kd.own_blk (Kd.R_ne HO_7.out BK852.out (by decide)))) _).trans (((cell_far (p:=⟨gb852,_,none⟩) (by first | exact Kd.own_blk (Kd.R_ne HO_7.out BK852.out (by decide)) | (rw [add_block];exact Kd.own_blk (Kd.R_ne HO_7.out BK852.out (by decide))) | (show (Addr.add _ _).block≠_;rw [add_block];exact Kd.own_blk (Kd.R_ne HO_7.out BK852.out (by decide))) | (dsimp only;exact Kd.own_blk (Kd.R_ne HO_7.out BK852.out (by decide)))) _).trans (hHeld.2.2.2.2.2))))⟩ (fun hHeld=>?_)
           clear hK K;refine done_ (done_of HT_.out (by kernel_rfl)) ?_;have hnb58:=NB837_833.out;have hnc58:=NB833_837.out;have hnb59:=NB837_834.out;have hnc59:=NB834_837.out;have hnb60:=NB837_852.out;have hnc60:=NB852_837.out;have hcz61_0:=c20_ BK837;have hcz61_1:=c21_ BK837;have hfz61_0:=fz_ BK837 0;have hfz61_1:=fz_ BK837 1;have hnb62:=NB852_833.out;have hnc62:=NB833_852.out;have hnb63:=NB852_834.out;have hnc63:=NB834_852.out;have hcz64_0:=c20_ BK852;have hcz64_1:=c21_ BK852;have hfz64_0:=fz_ BK852 0;have hfz64_1:=fz_ BK852 1
           try go_wp2_with (first | ((with_reducible refine gate_callee (f:=21) rfl ?_);refine gL_ (some 63) Tryd.func21 #[.agg #[.int .i64 t835,.int .i64 t836],.agg #[.int .i64 t850,.int .i64 t851]] (h:=?_);(with_reducible refine (impl_FracCmp.calls t835 t836 t850 t851 t853 _ (ErrW.below HE.out hB_) A49.out).mono ?_);rintro e w65 ⟨rfl,hb⟩;refine⟨_,rfl,?_⟩;replace HO_7:=a0_ (Kd.R_below (by (with_reducible repeat (first | apply Kd.R_alloc | apply Kd.R_drewN | apply Kd.R_drew));exact (Kd.R_mono (Kd.R_far (p:=⟨gb852,1,none⟩) (Kd.R_far (p:=⟨gb852,0,none⟩) (Kd.R_types HO_7.out BK852.out (by decide)) (fun _ hk=>hk.2) (.int .i64 t850)) (fun _ hk=>hk.2) (.int .i64 t851)) (fun _ h_=>h_.1))) hb);replace HO_834000:=a0_ (Kd.R_below (by (with_reducible repeat (first | apply Kd.R_alloc | apply Kd.R_drewN | apply Kd.R_drew));exact (Kd.R_mono (Kd.R_far (p:=⟨gb852,1,none⟩) (Kd.R_far (p:=⟨gb852,0,none⟩) (Kd.R_types HO_834000.out BK852.out (by decide)) (fun _ hk=>hk.2) (.int .i64 t850)) (fun _ hk=>hk.2) (.int .i64 t851)) (fun _ h_=>h_.1))) hb);replace HO_834001:=a0_ (Kd.N_below (by (with_reducible repeat (first | apply Kd.N_alloc | apply Kd.N_drewN | apply Kd.N_drew));exact (Kd.N_mono (Kd.N_far (p:=⟨gb852,1,none⟩) (Kd.N_far (p:=⟨gb852,0,none⟩) (Kd.N_mono HO_834001.out (fun k_ hk=>(⟨hk,hk.2.2.2.2.2⟩:_∧k_≠gb852))) (fun _ hk=>hk.2) (.int .i64 t850)) (fun _ hk=>hk.2) (.int .i64 t851)) (fun _ h_=>h_.1))) hb);replace BK833:=a0_ (blk_below (g:=gb833) (o:=.cells #[.slice Ao9 t825.length co9,.slice Ao12 t828.length co12] 26 (0,0)) uf_ hb);replace BK834:=a0_ (blk_below (g:=gb834) (o:=.cells #[.int .i64 t831,.int .i64 t832] 28 (0,0)) uf_ hb);replace BK837:=a0_ (blk_below (g:=gb837) (o:=.cells #[.int .i64 t835,.int .i64 t836] 35 (0,0)) uf_ hb);replace BK852:=a0_ (blk_below (g:=gb852) (o:=.cells #[.int .i64 t850,.int .i64 t851] 35 (0,0)) (by (with_reducible repeat (first | refine blk_drewN ?_ _ | refine blk_drew ?_ | refine blk_alloc ?_ _));refine blk_put (cs:=#[.int .i64 t850,.int .i64 0]) ?_ 1 _ rfl;(with_reducible repeat (first | refine blk_drewN ?_ _ | refine blk_drew ?_ | refine blk_alloc ?_ _));refine blk_put (cs:=#[.int .i64 0,.int .i64 0]) ?_ 0 _ rfl;(with_reducible repeat (first | refine blk_drewN ?_ _ | refine blk_drew ?_ | refine blk_alloc ?_ _));exact BK852.out) hb);replace HB:=sb_ HB hb;(try clear hb)))
           go_ret;exact⟨rr_,hB_⟩
          ·
           rw [if_neg c50] at H;have c50b0:decide (0<t853)=false:=decide_eq_false c50;clear c50;have H':=Aside0.mk H;clear H;obtain⟨Ao66,co66,eo66⟩:=Kd.R_slice HO_7.out;subst eo66
           try go_wp2
           replace HO_7:=a0_ (Kd.R_drew HO_7.out);replace HO_834000:=a0_ (Kd.R_drew HO_834000.out);replace HO_834001:=a0_ (Kd.N_drew HO_834001.out);replace BK833:=a0_ (blk_drew BK833.out);replace BK834:=a0_ (blk_drew BK834.out);replace BK837:=a0_ (blk_drew BK837.out);replace HB:=a0_ (below_drew1 HB.out);have p849:0≤(x8_2:Int):=od_;have q849:x8_2<(t844.length:Int):=od_;obtain⟨ad849,e849,hx849_0,hx849_1,hx849_2,hx849_3⟩:=at_T61 (Kd.R_reads' HO_7.out).2.2 x8_2 p849 q849;cases e849;replace p849:=eq_true p849;replace q849:=eq_true q849;refine start_ (n:=8) (S:=fun w'=>w'.cell? ⟨gb834,0,none⟩=some (.int .i64 t831)∧w'.cell? ⟨gb834,1,none⟩=some (.int .i64 t832)∧w'.cell? (ad849.add ((x8_2).toNat*4))=some (.int .i64 ((rd_T61 t844 x8_2).f0.f0))∧w'.cell? ⟨(ad849.add ((x8_2).toNat*4)).block,(ad849.add ((x8_2).toNat*4)).off+1,none⟩=some (.int .i64 ((rd_T61 t844 x8_2).f0.f1))∧w'.cell? ⟨(ad849.add ((x8_2).toNat*4)).block,(ad849.add ((x8_2).toNat*4)).off+2,none⟩=some (.int .i64 ((rd_T61 t844 x8_2).f1.f0))∧w'.cell? ⟨(ad849.add ((x8_2).toNat*4)).block,(ad849.add ((x8_2).toNat*4)).off+3,none⟩=some (.int .i64 ((rd_T61 t844 x8_2).f1.f1))) (ds:=[]) (Array.replicate 8 false) (by kernel_rfl) rfl rfl ⟨bc_,bc_,hx849_0,hx849_1,hx849_2,hx849_3⟩ (fun hHeld=>?_);refine with_tabW laws_FnPlateFar.tab12 laws_FnPlateFar.bits12 (fun HT_ HW_=>?_);generalize wr.drew=w67 at HO_7 HO_834000 HO_834001 BK833 BK834 BK837 HB hx849_0 hx849_1 hx849_2 hx849_3 hHeld ⊢
           refine pu_ HT_ 0 49 (bm 8 1) ?_;refine pu_ HT_ 1 50 (bm 8 3) ?_;refine pu_ HT_ 2 51 (bm 8 7) ?_;refine ta6_ HT_ HW_ 3 52 (bm 8 15) hHeld ?_;refine ta6_ HT_ HW_ 4 53 (bm 8 31) hHeld ?_;refine join_ (σ:=Nat) 1 (bm 8 127) (fun s_=>[(54,.agg #[.int .i64 t850,.int .i64 t851]),(9,.pointer (some ⟨s_,0,none⟩))]) (fun s_ w'=>(w'.cell? ⟨gb834,0,none⟩=some (.int .i64 t831)∧w'.cell? ⟨gb834,1,none⟩=some (.int .i64 t832)∧w'.cell? (ad849.add ((x8_2).toNat*4))=some (.int .i64 ((rd_T61 t844 x8_2).f0.f0))∧w'.cell? ⟨(ad849.add ((x8_2).toNat*4)).block,(ad849.add ((x8_2).toNat*4)).off+1,none⟩=some (.int .i64 ((rd_T61 t844 x8_2).f0.f1))∧w'.cell? ⟨(ad849.add ((x8_2).toNat*4)).block,(ad849.add ((x8_2).toNat*4)).off+2,none⟩=some (.int .i64 ((rd_T61 t844 x8_2).f1.f0))∧w'.cell? ⟨(ad849.add ((x8_2).toNat*4)).block,(ad849.add ((x8_2).toNat*4)).off+3,none⟩=some (.int .i64 ((rd_T61 t844 x8_2).f1.f1)))∧(Kd.R k61 61 w' w.heap.size (fun _=>True) (.slice (some ad849) t844.length co66) t844)∧(Kd.R k28 28 w' w.heap.size (fun k_=>k_≠gb834) (.slice Ao9 t825.length co9) t825)∧(Kd.N (Kd.slice 28 k28) 23 w' w.heap.size (fun k_=>some k_≠(.slice (some ad849) t844.length co66:Value).ownBlock∧some k_≠(.slice Ao9 t825.length co9:Value).ownBlock∧k_≠gb833∧k_≠gb834∧k_≠gb837∧k_≠s_) (.slice Ao12 t828.length co12) t828)∧(w'.heap[gb833]?=some (.cells #[.slice Ao9 t825.length co9,.slice Ao12 t828.length co12] 26 (0,0)))∧(w'.heap[gb834]?=some (.cells #[.int .i64 t831,.int .i64 t832] 28 (0,0)))∧(w'.heap[gb837]?=some (.cells #[.int .i64 t835,.int .i64 t836] 35 (0,0)))∧(w'.heap[s_]?=some (.cells #[.int .i64 0,.int .i64 0] 35 (0,0)))∧(w.heap.size≤s_)∧(w.heap.size≤s_)∧(gb833≠s_)∧(s_≠gb833)∧(gb834≠s_)∧(s_≠gb834)∧(gb837≠s_)∧(s_≠gb837)∧(Below w.heap.size w w')) ?_ ?_;rotate_left
           ·
            intro hCont;refine two_ (i:=5) (j:=6) (Ni:=some 54) (Nj:=some 9) (bm 8 63) (bm 8 95) rfl rfl rfl rfl (two_of HT_.out (by kernel_rfl)) (by decide) (by decide) (fun K hK=>?_) (fun K hK=>?_)
            ·
             skip;refine goes_ Tryd.func37 (by kernel_rfl) rfl #[.agg #[.int .i64 ((rd_T61 t844 x8_2).f0.f0),.int .i64 ((rd_T61 t844 x8_2).f0.f1),.int .i64 ((rd_T61 t844 x8_2).f1.f0),.int .i64 ((rd_T61 t844 x8_2).f1.f1)],.agg #[.int .i64 t831,.int .i64 t832]] (by rfl) rfl rfl ma_ ?_
             with_reducible refine (impl_SegFar.calls ((rd_T61 t844 x8_2).f0.f0) ((rd_T61 t844 x8_2).f0.f1) ((rd_T61 t844 x8_2).f1.f0) ((rd_T61 t844 x8_2).f1.f1) t831 t832 t850 t851 _ A47.out).mono ?_
             rintro e w68 ⟨rfl,hb⟩;have HS2_:=pw_cell_below hb hHeld.2.2.1;have HS3_:=pw_cell_below hb hHeld.2.2.2.1;have HS4_:=pw_cell_below hb hHeld.2.2.2.2.1;have HS5_:=pw_cell_below hb hHeld.2.2.2.2.2;refine⟨_,rfl,?_⟩;replace HO_7:=rb_ HO_7 hb;replace HO_834000:=rb_ HO_834000 hb;replace HO_834001:=nb_ HO_834001 hb;replace BK833:=vb_ BK833 hb;replace BK834:=vb_ BK834 hb;replace BK837:=vb_ BK837 hb;replace HB:=sb_ HB hb
             (try clear hb)
             (try clear hb2)
             (try clear hk)
             (try clear hi)
             refine hK.out _ _ ⟨bc_,bc_,HS2_,HS3_,HS4_,HS5_⟩ (fun hHeld=>?_);clear hK K;refine no_ (h:=?_);refine one_ (i:=6) (N:=some 9) (bm 8 127) rfl rfl (one_of HT_.out (by kernel_rfl)) (by decide) (fun K hK=>?_);refine box_step ?hg (N:=9) ?hd (cs:=#[.int .i64 0,.int .i64 0]) (t:=35) ?hr ?_;(case hd=>rfl);(case hg=>rfl);(case hr=>first | (go_simp;done) | (go_simp;rfl));intro gb852 hg w69 hbox hb;have HS2_:=pw_cell_below hb hHeld.2.2.1;have HS3_:=pw_cell_below hb hHeld.2.2.2.1;have HS4_:=pw_cell_below hb hHeld.2.2.2.2.1;have HS5_:=pw_cell_below hb hHeld.2.2.2.2.2;have BK852:=a0_ (hbox);have GW852:=gh_ HB hg;have GE852:=gh_ HB hg;have NB833_852:=nl_ BK833 hg;have NB852_833:=nr_ BK833 hg;have NB834_852:=nl_ BK834 hg;have NB852_834:=nr_ BK834 hg;have NB837_852:=nl_ BK837 hg;have NB852_837:=nr_ BK837 hg;replace HO_7:=rb_ HO_7 hb;replace HO_834000:=rb_ HO_834000 hb;replace HO_834001:=a0_ (Kd.N_below (Kd.N_elderB (uN_ HO_834001) gb852 (Nat.le_of_eq hg.symm)) hb);replace BK833:=vb_ BK833 hb;replace BK834:=vb_ BK834 hb;replace BK837:=vb_ BK837 hb;replace HB:=sb_ HB hb;clear hb hbox hg;refine hK.out _ _ ⟨bc_,bc_,HS2_,HS3_,HS4_,HS5_⟩ (fun hHeld=>?_);clear hK K;refine no_ (h:=?_);exact norm_ (by simp only [putAll,Act.put,List.setIfInBounds_toArray,List.set_cons_zero,List.set_cons_succ]) (hCont (gb852) _ ⟨hHeld,(uR_ HO_7),(uR_ HO_834000),(by (with_reducible repeat (first | apply Kd.N_alloc | apply Kd.N_drewN | apply Kd.N_drew));exact Kd.N_mono HO_834001.out (fun _ hk=>⟨hk.1.1,⟨hk.1.2.1,⟨hk.1.2.2.1,⟨hk.1.2.2.2.1,⟨hk.1.2.2.2.2,hk.2⟩⟩⟩⟩⟩)),uq_,uq_,uq_,uq_,GW852.out,GE852.out,NB833_852.out,NB852_833.out,NB834_852.out,NB852_834.out,NB837_852.out,NB852_837.out,hB_⟩)
            ·
             skip;refine box_step ?hg (N:=9) ?hd (cs:=#[.int .i64 0,.int .i64 0]) (t:=35) ?hr ?_;(case hd=>rfl);(case hg=>rfl);(case hr=>first | (go_simp;done) | (go_simp;rfl));intro gb852 hg w68 hbox hb;have HS2_:=pw_cell_below hb hHeld.2.2.1;have HS3_:=pw_cell_below hb hHeld.2.2.2.1;have HS4_:=pw_cell_below hb hHeld.2.2.2.2.1;have HS5_:=pw_cell_below hb hHeld.2.2.2.2.2;have BK852:=a0_ (hbox);have GW852:=gh_ HB hg;have GE852:=gh_ HB hg;have NB833_852:=nl_ BK833 hg;have NB852_833:=nr_ BK833 hg;have NB834_852:=nl_ BK834 hg;have NB852_834:=nr_ BK834 hg;have NB837_852:=nl_ BK837 hg;have NB852_837:=nr_ BK837 hg;replace HO_7:=rb_ HO_7 hb;replace HO_834000:=rb_ HO_834000 hb;replace HO_834001:=a0_ (Kd.N_below (Kd.N_elderB (uN_ HO_834001) gb852 (Nat.le_of_eq hg.symm)) hb);replace BK833:=vb_ BK833 hb;replace BK834:=vb_ BK834 hb;replace BK837:=vb_ BK837 hb;replace HB:=sb_ HB hb;clear hb hbox hg;refine hK.out _ _ ⟨bc_,bc_,HS2_,HS3_,HS4_,HS5_⟩ (fun hHeld=>?_);clear hK K;refine no_ (h:=?_);refine one_ (i:=5) (N:=some 54) (bm 8 127) rfl rfl (one_of HT_.out (by kernel_rfl)) (by decide) (fun K hK=>?_);refine goes_ Tryd.func37 (by kernel_rfl) rfl #[.agg #[.int .i64 ((rd_T61 t844 x8_2).f0.f0),.int .i64 ((rd_T61 t844 x8_2).f0.f1),.int .i64 ((rd_T61 t844 x8_2).f1.f0),.int .i64 ((rd_T61 t844 x8_2).f1.f1)],.agg #[.int .i64 t831,.int .i64 t832]] (by rfl) rfl rfl ma_ ?_
             with_reducible refine (impl_SegFar.calls ((rd_T61 t844 x8_2).f0.f0) ((rd_T61 t844 x8_2).f0.f1) ((rd_T61 t844 x8_2).f1.f0) ((rd_T61 t844 x8_2).f1.f1) t831 t832 t850 t851 _ A47.out).mono ?_
             rintro e w69 ⟨rfl,hb⟩;have HS2_:=pw_cell_below hb hHeld.2.2.1;have HS3_:=pw_cell_below hb hHeld.2.2.2.1;have HS4_:=pw_cell_below hb hHeld.2.2.2.2.1;have HS5_:=pw_cell_below hb hHeld.2.2.2.2.2;refine⟨_,rfl,?_⟩;replace HO_7:=rb_ HO_7 hb;replace HO_834000:=rb_ HO_834000 hb;replace HO_834001:=nb_ HO_834001 hb;replace BK833:=vb_ BK833 hb;replace BK834:=vb_ BK834 hb;replace BK837:=vb_ BK837 hb;replace BK852:=vb_ BK852 hb;replace HB:=sb_ HB hb
             (try clear hb)
             (try clear hb2)
             (try clear hk)
             (try clear hi)
             refine hK.out _ _ ⟨bc_,bc_,HS2_,HS3_,HS4_,HS5_⟩ (fun hHeld=>?_);clear hK K;refine no_ (h:=?_);exact norm_ (by simp only [putAll,Act.put,List.setIfInBounds_toArray,List.set_cons_zero,List.set_cons_succ]) (hCont (gb852) _ ⟨hHeld,(uR_ HO_7),(uR_ HO_834000),(by (with_reducible repeat (first | apply Kd.N_alloc | apply Kd.N_drewN | apply Kd.N_drew));exact Kd.N_mono HO_834001.out (fun _ hk=>⟨hk.1.1,⟨hk.1.2.1,⟨hk.1.2.2.1,⟨hk.1.2.2.2.1,⟨hk.1.2.2.2.2,hk.2⟩⟩⟩⟩⟩)),uq_,uq_,uq_,uq_,GW852.out,GE852.out,NB833_852.out,NB852_833.out,NB834_852.out,NB852_834.out,NB837_852.out,NB852_837.out,hB_⟩)
           rintro gb852 w70 ⟨hS_,h0_,h1_,h2_,h3_,h4_,h5_,h6_,h7_,h8_,h9_,h10_,h11_,h12_,h13_,h14_,h15_⟩;have n0_:Aside0 (Kd.R k61 61 w70 w.heap.size (fun _=>True) (.slice (some ad849) t844.length co66) t844):=⟨h0_⟩;have n1_:Aside0 (Kd.R k28 28 w70 w.heap.size (fun k_=>k_≠gb834) (.slice Ao9 t825.length co9) t825):=⟨h1_⟩;have n2_:Aside0 (Kd.N (Kd.slice 28 k28) 23 w70 w.heap.size (fun k_=>some k_≠(.slice (some ad849) t844.length co66:Value).ownBlock∧some k_≠(.slice Ao9 t825.length co9:Value).ownBlock∧k_≠gb833∧k_≠gb834∧k_≠gb837∧k_≠gb852) (.slice Ao12 t828.length co12) t828):=⟨h2_⟩;have n3_:Aside0 (w70.heap[gb833]?=some (.cells #[.slice Ao9 t825.length co9,.slice Ao12 t828.length co12] 26 (0,0))):=⟨h3_⟩;have n4_:Aside0 (w70.heap[gb834]?=some (.cells #[.int .i64 t831,.int .i64 t832] 28 (0,0))):=⟨h4_⟩;have n5_:Aside0 (w70.heap[gb837]?=some (.cells #[.int .i64 t835,.int .i64 t836] 35 (0,0))):=⟨h5_⟩;have n6_:Aside0 (w70.heap[gb852]?=some (.cells #[.int .i64 0,.int .i64 0] 35 (0,0))):=⟨h6_⟩;have n7_:Aside0 (w.heap.size≤gb852):=⟨h7_⟩;have n8_:Aside0 (w.heap.size≤gb852):=⟨h8_⟩;have n9_:Aside0 (gb833≠gb852):=⟨h9_⟩;have n10_:Aside0 (gb852≠gb833):=⟨h10_⟩;have n11_:Aside0 (gb834≠gb852):=⟨h11_⟩;have n12_:Aside0 (gb852≠gb834):=⟨h12_⟩;have n13_:Aside0 (gb837≠gb852):=⟨h13_⟩;have n14_:Aside0 (gb852≠gb837):=⟨h14_⟩;have n15_:Aside0 (Below w.heap.size w w70):=⟨h15_⟩;clear HO_7 HO_834000 HO_834001 BK833 BK834 BK837 HB;clear h0_ h1_ h2_ h3_ h4_ h5_ h6_ h7_ h8_ h9_ h10_ h11_ h12_ h13_ h14_ h15_;have HO_7:=n0_;have HO_834000:=n1_;have HO_834001:=n2_;have BK833:=n3_;have BK834:=n4_;have BK837:=n5_;have BK852:=n6_;have GW852:=n7_;have GE852:=n8_;have NB833_852:=n9_;have NB852_833:=n10_;have NB834_852:=n11_;have NB852_834:=n12_;have NB837_852:=n13_;have NB852_837:=n14_;have HB:=n15_
           clear n0_ n1_ n2_ n3_ n4_ n5_ n6_ n7_ n8_ n9_ n10_ n11_ n12_ n13_ n14_ n15_;have hHeld:w70.cell? ⟨gb834,0,none⟩=some (.int .i64 t831)∧w70.cell? ⟨gb834,1,none⟩=some (.int .i64 t832)∧w70.cell? (ad849.add ((x8_2).toNat*4))=some (.int .i64 ((rd_T61 t844 x8_2).f0.f0))∧w70.cell? ⟨(ad849.add ((x8_2).toNat*4)).block,(ad849.add ((x8_2).toNat*4)).off+1,none⟩=some (.int .i64 ((rd_T61 t844 x8_2).f0.f1))∧w70.cell? ⟨(ad849.add ((x8_2).toNat*4)).block,(ad849.add ((x8_2).toNat*4)).off+2,none⟩=some (.int .i64 ((rd_T61 t844 x8_2).f1.f0))∧w70.cell? ⟨(ad849.add ((x8_2).toNat*4)).block,(ad849.add ((x8_2).toNat*4)).off+3,none⟩=some (.int .i64 ((rd_T61 t844 x8_2).f1.f1)):=hS_;refine norm_ (a':=?_) ?_ ?_;rotate_left
           ·
            simp only [putAll,Act.put,List.setIfInBounds_toArray,List.set_cons_zero,List.set_cons_succ];rfl
           refine one_ (i:=7) (N:=none) (bm 8 255) rfl rfl (one_of HT_.out (by kernel_rfl)) (by decide) (fun K hK=>?_);have hs71:w70.cell? ⟨gb852,0,none⟩=some (.int .i64 0):=bc_;have hfs71:=blk_frozen BK852.out 0;have hns71_0:=NB833_852.out;have hns71_1:=NB834_852.out;have hns71_2:=NB837_852.out;have hms71_0:=NB852_833.out;have hms71_1:=NB852_834.out;have hms71_2:=NB852_837.out;have hs72:w70.cell? ⟨gb852,1,none⟩=some (.int .i64 0):=bc_;have hfs72:=blk_frozen BK852.out 1;have hns72_0:=NB833_852.out;have hns72_1:=NB834_852.out;have hns72_2:=NB837_852.out;have hms72_0:=NB852_833.out;have hms72_1:=NB852_834.out;have hms72_2:=NB852_837.out;refine skip_ (w1:=?_) (by rfl) rfl ?_ ?_;rotate_left
           ·
            go_simp;rfl
           refine hK.out _ _ ⟨((cell_far (p:=⟨gb852,_,none⟩) NB834_852.out _).trans (((cell_far (p:=⟨gb852,_,none⟩) NB834_852.out _).trans (hHeld.1)))),((cell_far (p:=⟨gb852,_,none⟩) NB834_852.out _).trans (((cell_far (p:=⟨gb852,_,none⟩) NB834_852.out _).trans (hHeld.2.1)))),((cell_far (p:=⟨gb852,_,none⟩) (by first | exact Kd.own_blk (Kd.R_ne HO_7.out BK852.out (by decide)) | (rw [add_block];exact Kd.own_blk (Kd.R_ne HO_7.out BK852.out (by decide))) | (show (Addr.add _ _).block≠_;rw [add_block];exact Kd.own_blk (Kd.R_ne HO_7.out BK852.out (by decide))) | (dsimp only;exact Kd.own_blk (Kd.R_ne HO_7.out BK852.out (by decide)))) _).trans (((cell_far (p:=⟨gb852,_,none⟩) (by first | exact Kd.own_blk (Kd.R_ne HO_7.out BK852.out (by decide)) | (rw [add_block];exact Kd.own_blk (Kd.R_ne HO_7.out BK852.out (by decide))) | (show (Addr.add _ _).block≠_;rw [add_block];exact Kd.own_blk (Kd.R_ne HO_7.out BK852.out (by decide))) | (dsimp only;exact Kd.own_blk (Kd.R_ne HO_7.out BK852.out (by decide)))) _).trans (hHeld.2.2.1)))),((cell_far (p:=⟨gb852,_,none⟩) (by first | exact Kd.own_blk (Kd.R_ne HO_7.out BK852.out (by decide)) | (rw [add_block];exact Kd.own_blk (Kd.R_ne HO_7.out BK852.out (by decide))) | (show (Addr.add _ _).block≠_;rw [add_block];exact Kd.own_blk (Kd.R_ne HO_7.out BK852.out (by decide))) | (dsimp only;exact Kd.own_blk (Kd.R_ne HO_7.out BK852.out (by decide)))) _).trans (((cell_far (p:=⟨gb852,_,none⟩) (by first | exact Kd.own_blk (Kd.R_ne HO_7.out BK852.out (by decide)) | (rw [add_block];exact Kd.own_blk (Kd.R_ne HO_7.out BK852.out (by decide))) | (show (Addr.add _ _).block≠_;rw [add_block];exact Kd.own_blk (Kd.R_ne HO_7.out BK852.out (by decide))) | (dsimp only;exact Kd.own_blk (Kd.R_ne HO_7.out BK852.out (by decide)))) _).trans (hHeld.2.2.2.1)))),((cell_far (p:=⟨gb852,_,none⟩) (by first | exact Kd.own_blk (Kd.R_ne HO_7.out BK852.out (by decide)) | (rw [add_block];exact Kd.own_blk (Kd.R_ne HO_7.out BK852.out (by decide))) | (show (Addr.add _ _).block≠_;rw [add_block];exact Kd.own_blk (Kd.R_ne HO_7.out BK852.out (by decide))) | (dsimp only;exact Kd.own_blk (Kd.R_ne HO_7.out BK852.out (by decide)))) _).trans (((cell_far (p:=⟨gb852,_,none⟩) (by first | exact Kd.own_blk (Kd.R_ne HO_7.out BK852.out (by decide)) | (rw [add_block];exact Kd.own_blk (Kd.R_ne HO_7.out BK852.out (by decide))) | (show (Addr.add _ _).block≠_;rw [add_block];exact Kd.own_blk (Kd.R_ne HO_7.out BK852.out (by decide))) | (dsimp only;exact Kd.own_blk (Kd.R_ne HO_7.out BK852.out (by decide)))) _).trans (hHeld.2.2.2.2.1)))),((cell_far (p:=⟨gb852,_,none⟩) (by first | exact Kd.own_blk (Kd.R_ne HO_7.out BK852.out (by decide)) | (rw [add_block];exact Kd.own_blk (Kd.R_ne HO_7.out BK852.out (by decide))) | (show (Addr.add _ _).block≠_;rw [add_block];exact Kd.own_blk (Kd.R_ne HO_7.out BK852.out (by decide))) | (dsimp only;exact Kd.own_blk (Kd.R_ne HO_7.out BK852.out (by decide)))) _).trans (((cell_far (p:=⟨gb852,_,none⟩) (by first | exact Kd.own_blk (Kd.R_ne HO_7.out BK852.out (by decide)) | (rw [add_block];exact Kd.own_blk (Kd.R_ne HO_7.out BK852.out (by decide))) | (show (Addr.add _ _).block≠_;rw [add_block];exact Kd.own_blk (Kd.R_ne HO_7.out BK852.out (by decide))) | (dsimp only;exact Kd.own_blk (Kd.R_ne HO_7.out BK852.out (by decide)))) _).trans (hHeld.2.2.2.2.2))))⟩ (fun hHeld=>?_)
           clear hK K;refine done_ (done_of HT_.out (by kernel_rfl)) ?_;have hnb73:=NB837_833.out;have hnc73:=NB833_837.out;have hnb74:=NB837_834.out;have hnc74:=NB834_837.out;have hnb75:=NB837_852.out;have hnc75:=NB852_837.out;have hcz76_0:=c20_ BK837;have hcz76_1:=c21_ BK837;have hfz76_0:=fz_ BK837 0;have hfz76_1:=fz_ BK837 1;have hnb77:=NB852_833.out;have hnc77:=NB833_852.out;have hnb78:=NB852_834.out;have hnc78:=NB834_852.out;have hcz79_0:=c20_ BK852;have hcz79_1:=c21_ BK852;have hfz79_0:=fz_ BK852 0;have hfz79_1:=fz_ BK852 1
           try go_wp2_with (first | ((with_reducible refine gate_callee (f:=21) rfl ?_);refine gL_ (some 63) Tryd.func21 #[.agg #[.int .i64 t835,.int .i64 t836],.agg #[.int .i64 t850,.int .i64 t851]] (h:=?_);(with_reducible refine (impl_FracCmp.calls t835 t836 t850 t851 t853 _ (ErrW.below HE.out hB_) A49.out).mono ?_);rintro e w80 ⟨rfl,hb⟩;refine⟨_,rfl,?_⟩;replace HO_7:=a0_ (Kd.R_below (by (with_reducible repeat (first | apply Kd.R_alloc | apply Kd.R_drewN | apply Kd.R_drew));exact (Kd.R_mono (Kd.R_far (p:=⟨gb852,1,none⟩) (Kd.R_far (p:=⟨gb852,0,none⟩) (Kd.R_types HO_7.out BK852.out (by decide)) (fun _ hk=>hk.2) (.int .i64 t850)) (fun _ hk=>hk.2) (.int .i64 t851)) (fun _ h_=>h_.1))) hb);replace HO_834000:=a0_ (Kd.R_below (by (with_reducible repeat (first | apply Kd.R_alloc | apply Kd.R_drewN | apply Kd.R_drew));exact (Kd.R_mono (Kd.R_far (p:=⟨gb852,1,none⟩) (Kd.R_far (p:=⟨gb852,0,none⟩) (Kd.R_types HO_834000.out BK852.out (by decide)) (fun _ hk=>hk.2) (.int .i64 t850)) (fun _ hk=>hk.2) (.int .i64 t851)) (fun _ h_=>h_.1))) hb);replace HO_834001:=a0_ (Kd.N_below (by (with_reducible repeat (first | apply Kd.N_alloc | apply Kd.N_drewN | apply Kd.N_drew));exact (Kd.N_mono (Kd.N_far (p:=⟨gb852,1,none⟩) (Kd.N_far (p:=⟨gb852,0,none⟩) (Kd.N_mono HO_834001.out (fun k_ hk=>(⟨hk,hk.2.2.2.2.2⟩:_∧k_≠gb852))) (fun _ hk=>hk.2) (.int .i64 t850)) (fun _ hk=>hk.2) (.int .i64 t851)) (fun _ h_=>h_.1))) hb);replace BK833:=a0_ (blk_below (g:=gb833) (o:=.cells #[.slice Ao9 t825.length co9,.slice Ao12 t828.length co12] 26 (0,0)) uf_ hb);replace BK834:=a0_ (blk_below (g:=gb834) (o:=.cells #[.int .i64 t831,.int .i64 t832] 28 (0,0)) uf_ hb);replace BK837:=a0_ (blk_below (g:=gb837) (o:=.cells #[.int .i64 t835,.int .i64 t836] 35 (0,0)) uf_ hb);replace BK852:=a0_ (blk_below (g:=gb852) (o:=.cells #[.int .i64 t850,.int .i64 t851] 35 (0,0)) (by (with_reducible repeat (first | refine blk_drewN ?_ _ | refine blk_drew ?_ | refine blk_alloc ?_ _));refine blk_put (cs:=#[.int .i64 t850,.int .i64 0]) ?_ 1 _ rfl;(with_reducible repeat (first | refine blk_drewN ?_ _ | refine blk_drew ?_ | refine blk_alloc ?_ _));refine blk_put (cs:=#[.int .i64 0,.int .i64 0]) ?_ 0 _ rfl;(with_reducible repeat (first | refine blk_drewN ?_ _ | refine blk_drew ?_ | refine blk_alloc ?_ _));exact BK852.out) hb);replace HB:=sb_ HB hb;(try clear hb)))
           go_roundg k2
           case measure=>have:=HJ4.out;have:=HK2.out;omega
           case rel=>exact⟨(true),(wrap64 (x8_2+1)),(by first | rfl | (simp;done) | (simp [*];done)),(by first | rfl | (simp;done) | (simp [*];done)),H',⟨by have:=HJ4.out;have:=HK2.out;omega⟩,⟨by (with_reducible repeat (first | apply Kd.R_alloc | apply Kd.R_drewN | apply Kd.R_drew));exact HO_7.out⟩,⟨by (with_reducible repeat (first | apply Kd.R_alloc | apply Kd.R_drewN | apply Kd.R_drew));exact HO_834000.out⟩,⟨by (with_reducible repeat (first | apply Kd.N_alloc | apply Kd.N_drewN | apply Kd.N_drew));exact Kd.N_mono HO_834001.out (fun _ hk=>⟨hk.1,⟨hk.2.1,⟨hk.2.2.1,⟨hk.2.2.2.1,hk.2.2.2.2.1⟩⟩⟩⟩)⟩,⟨uq_⟩,⟨uq_⟩,⟨uq_⟩,⟨hB_⟩⟩
         ·
          replace c48:=Bool.eq_false_iff.mpr c48;subst c48;rw [if_neg (show ¬ (false=true) by decide)] at H
          (try dsimp only at H)
          replace H:=Option.bind_eq_some_iff.mp H;obtain⟨t854,A810,H⟩:=H
          (try dsimp only at H)
          have A81:=Aside0.mk A810;clear A810;by_cases c82:t854>0
          ·
           rw [if_pos c82] at H;have c82b0:decide (0<t854)=true:=decide_eq_true c82;clear c82;obtain rfl:=Option.some.inj H;obtain⟨Ao83,co83,eo83⟩:=Kd.R_slice HO_7.out;subst eo83
           try go_wp2
           replace HO_7:=a0_ (Kd.R_drew HO_7.out);replace HO_834000:=a0_ (Kd.R_drew HO_834000.out);replace HO_834001:=a0_ (Kd.N_drew HO_834001.out);replace BK833:=a0_ (blk_drew BK833.out);replace BK834:=a0_ (blk_drew BK834.out);replace BK837:=a0_ (blk_drew BK837.out);replace HB:=a0_ (below_drew1 HB.out);have p849:0≤(x8_2:Int):=od_;have q849:x8_2<(t844.length:Int):=od_;obtain⟨ad849,e849,hx849_0,hx849_1,hx849_2,hx849_3⟩:=at_T61 (Kd.R_reads' HO_7.out).2.2 x8_2 p849 q849;cases e849;replace p849:=eq_true p849;replace q849:=eq_true q849;refine start_ (n:=8) (S:=fun w'=>w'.cell? ⟨gb834,0,none⟩=some (.int .i64 t831)∧w'.cell? ⟨gb834,1,none⟩=some (.int .i64 t832)∧w'.cell? (ad849.add ((x8_2).toNat*4))=some (.int .i64 ((rd_T61 t844 x8_2).f0.f0))∧w'.cell? ⟨(ad849.add ((x8_2).toNat*4)).block,(ad849.add ((x8_2).toNat*4)).off+1,none⟩=some (.int .i64 ((rd_T61 t844 x8_2).f0.f1))∧w'.cell? ⟨(ad849.add ((x8_2).toNat*4)).block,(ad849.add ((x8_2).toNat*4)).off+2,none⟩=some (.int .i64 ((rd_T61 t844 x8_2).f1.f0))∧w'.cell? ⟨(ad849.add ((x8_2).toNat*4)).block,(ad849.add ((x8_2).toNat*4)).off+3,none⟩=some (.int .i64 ((rd_T61 t844 x8_2).f1.f1))) (ds:=[]) (Array.replicate 8 false) (by kernel_rfl) rfl rfl ⟨bc_,bc_,hx849_0,hx849_1,hx849_2,hx849_3⟩ (fun hHeld=>?_);refine with_tabW laws_FnPlateFar.tab12 laws_FnPlateFar.bits12 (fun HT_ HW_=>?_);generalize wr.drew=w84 at HO_7 HO_834000 HO_834001 BK833 BK834 BK837 HB hx849_0 hx849_1 hx849_2 hx849_3 hHeld ⊢
           refine pu_ HT_ 0 49 (bm 8 1) ?_;refine pu_ HT_ 1 50 (bm 8 3) ?_;refine pu_ HT_ 2 51 (bm 8 7) ?_;refine ta6_ HT_ HW_ 3 52 (bm 8 15) hHeld ?_;refine ta6_ HT_ HW_ 4 53 (bm 8 31) hHeld ?_;refine join_ (σ:=Nat) 1 (bm 8 127) (fun s_=>[(54,.agg #[.int .i64 t850,.int .i64 t851]),(9,.pointer (some ⟨s_,0,none⟩))]) (fun s_ w'=>(w'.cell? ⟨gb834,0,none⟩=some (.int .i64 t831)∧w'.cell? ⟨gb834,1,none⟩=some (.int .i64 t832)∧w'.cell? (ad849.add ((x8_2).toNat*4))=some (.int .i64 ((rd_T61 t844 x8_2).f0.f0))∧w'.cell? ⟨(ad849.add ((x8_2).toNat*4)).block,(ad849.add ((x8_2).toNat*4)).off+1,none⟩=some (.int .i64 ((rd_T61 t844 x8_2).f0.f1))∧w'.cell? ⟨(ad849.add ((x8_2).toNat*4)).block,(ad849.add ((x8_2).toNat*4)).off+2,none⟩=some (.int .i64 ((rd_T61 t844 x8_2).f1.f0))∧w'.cell? ⟨(ad849.add ((x8_2).toNat*4)).block,(ad849.add ((x8_2).toNat*4)).off+3,none⟩=some (.int .i64 ((rd_T61 t844 x8_2).f1.f1)))∧(Kd.R k61 61 w' w.heap.size (fun _=>True) (.slice (some ad849) t844.length co83) t844)∧(Kd.R k28 28 w' w.heap.size (fun k_=>k_≠gb834) (.slice Ao9 t825.length co9) t825)∧(Kd.N (Kd.slice 28 k28) 23 w' w.heap.size (fun k_=>some k_≠(.slice (some ad849) t844.length co83:Value).ownBlock∧some k_≠(.slice Ao9 t825.length co9:Value).ownBlock∧k_≠gb833∧k_≠gb834∧k_≠gb837∧k_≠s_) (.slice Ao12 t828.length co12) t828)∧(w'.heap[gb833]?=some (.cells #[.slice Ao9 t825.length co9,.slice Ao12 t828.length co12] 26 (0,0)))∧(w'.heap[gb834]?=some (.cells #[.int .i64 t831,.int .i64 t832] 28 (0,0)))∧(w'.heap[gb837]?=some (.cells #[.int .i64 t835,.int .i64 t836] 35 (0,0)))∧(w'.heap[s_]?=some (.cells #[.int .i64 0,.int .i64 0] 35 (0,0)))∧(w.heap.size≤s_)∧(w.heap.size≤s_)∧(gb833≠s_)∧(s_≠gb833)∧(gb834≠s_)∧(s_≠gb834)∧(gb837≠s_)∧(s_≠gb837)∧(Below w.heap.size w w')) ?_ ?_;rotate_left
           ·
            intro hCont;refine two_ (i:=5) (j:=6) (Ni:=some 54) (Nj:=some 9) (bm 8 63) (bm 8 95) rfl rfl rfl rfl (two_of HT_.out (by kernel_rfl)) (by decide) (by decide) (fun K hK=>?_) (fun K hK=>?_)
            ·
             skip;refine goes_ Tryd.func37 (by kernel_rfl) rfl #[.agg #[.int .i64 ((rd_T61 t844 x8_2).f0.f0),.int .i64 ((rd_T61 t844 x8_2).f0.f1),.int .i64 ((rd_T61 t844 x8_2).f1.f0),.int .i64 ((rd_T61 t844 x8_2).f1.f1)],.agg #[.int .i64 t831,.int .i64 t832]] (by rfl) rfl rfl ma_ ?_
             with_reducible refine (impl_SegFar.calls ((rd_T61 t844 x8_2).f0.f0) ((rd_T61 t844 x8_2).f0.f1) ((rd_T61 t844 x8_2).f1.f0) ((rd_T61 t844 x8_2).f1.f1) t831 t832 t850 t851 _ A47.out).mono ?_
             rintro e w85 ⟨rfl,hb⟩;have HS2_:=pw_cell_below hb hHeld.2.2.1;have HS3_:=pw_cell_below hb hHeld.2.2.2.1;have HS4_:=pw_cell_below hb hHeld.2.2.2.2.1;have HS5_:=pw_cell_below hb hHeld.2.2.2.2.2;refine⟨_,rfl,?_⟩;replace HO_7:=rb_ HO_7 hb;replace HO_834000:=rb_ HO_834000 hb;replace HO_834001:=nb_ HO_834001 hb;replace BK833:=vb_ BK833 hb;replace BK834:=vb_ BK834 hb;replace BK837:=vb_ BK837 hb;replace HB:=sb_ HB hb
             (try clear hb)
             (try clear hb2)
             (try clear hk)
             (try clear hi)
             refine hK.out _ _ ⟨bc_,bc_,HS2_,HS3_,HS4_,HS5_⟩ (fun hHeld=>?_);clear hK K;refine no_ (h:=?_);refine one_ (i:=6) (N:=some 9) (bm 8 127) rfl rfl (one_of HT_.out (by kernel_rfl)) (by decide) (fun K hK=>?_);refine box_step ?hg (N:=9) ?hd (cs:=#[.int .i64 0,.int .i64 0]) (t:=35) ?hr ?_;(case hd=>rfl);(case hg=>rfl);(case hr=>first | (go_simp;done) | (go_simp;rfl));intro gb852 hg w86 hbox hb;have HS2_:=pw_cell_below hb hHeld.2.2.1;have HS3_:=pw_cell_below hb hHeld.2.2.2.1;have HS4_:=pw_cell_below hb hHeld.2.2.2.2.1;have HS5_:=pw_cell_below hb hHeld.2.2.2.2.2;have BK852:=a0_ (hbox);have GW852:=gh_ HB hg;have GE852:=gh_ HB hg;have NB833_852:=nl_ BK833 hg;have NB852_833:=nr_ BK833 hg;have NB834_852:=nl_ BK834 hg;have NB852_834:=nr_ BK834 hg;have NB837_852:=nl_ BK837 hg;have NB852_837:=nr_ BK837 hg;replace HO_7:=rb_ HO_7 hb;replace HO_834000:=rb_ HO_834000 hb;replace HO_834001:=a0_ (Kd.N_below (Kd.N_elderB (uN_ HO_834001) gb852 (Nat.le_of_eq hg.symm)) hb);replace BK833:=vb_ BK833 hb;replace BK834:=vb_ BK834 hb;replace BK837:=vb_ BK837 hb;replace HB:=sb_ HB hb;clear hb hbox hg;refine hK.out _ _ ⟨bc_,bc_,HS2_,HS3_,HS4_,HS5_⟩ (fun hHeld=>?_);clear hK K;refine no_ (h:=?_);exact norm_ (by simp only [putAll,Act.put,List.setIfInBounds_toArray,List.set_cons_zero,List.set_cons_succ]) (hCont (gb852) _ ⟨hHeld,(uR_ HO_7),(uR_ HO_834000),(by (with_reducible repeat (first | apply Kd.N_alloc | apply Kd.N_drewN | apply Kd.N_drew));exact Kd.N_mono HO_834001.out (fun _ hk=>⟨hk.1.1,⟨hk.1.2.1,⟨hk.1.2.2.1,⟨hk.1.2.2.2.1,⟨hk.1.2.2.2.2,hk.2⟩⟩⟩⟩⟩)),uq_,uq_,uq_,uq_,GW852.out,GE852.out,NB833_852.out,NB852_833.out,NB834_852.out,NB852_834.out,NB837_852.out,NB852_837.out,hB_⟩)
            ·
             skip;refine box_step ?hg (N:=9) ?hd (cs:=#[.int .i64 0,.int .i64 0]) (t:=35) ?hr ?_;(case hd=>rfl);(case hg=>rfl);(case hr=>first | (go_simp;done) | (go_simp;rfl));intro gb852 hg w85 hbox hb;have HS2_:=pw_cell_below hb hHeld.2.2.1;have HS3_:=pw_cell_below hb hHeld.2.2.2.1;have HS4_:=pw_cell_below hb hHeld.2.2.2.2.1;have HS5_:=pw_cell_below hb hHeld.2.2.2.2.2;have BK852:=a0_ (hbox);have GW852:=gh_ HB hg;have GE852:=gh_ HB hg;have NB833_852:=nl_ BK833 hg;have NB852_833:=nr_ BK833 hg;have NB834_852:=nl_ BK834 hg;have NB852_834:=nr_ BK834 hg;have NB837_852:=nl_ BK837 hg;have NB852_837:=nr_ BK837 hg;replace HO_7:=rb_ HO_7 hb;replace HO_834000:=rb_ HO_834000 hb;replace HO_834001:=a0_ (Kd.N_below (Kd.N_elderB (uN_ HO_834001) gb852 (Nat.le_of_eq hg.symm)) hb);replace BK833:=vb_ BK833 hb;replace BK834:=vb_ BK834 hb;replace BK837:=vb_ BK837 hb;replace HB:=sb_ HB hb;clear hb hbox hg;refine hK.out _ _ ⟨bc_,bc_,HS2_,HS3_,HS4_,HS5_⟩ (fun hHeld=>?_);clear hK K;refine no_ (h:=?_);refine one_ (i:=5) (N:=some 54) (bm 8 127) rfl rfl (one_of HT_.out (by kernel_rfl)) (by decide) (fun K hK=>?_);refine goes_ Tryd.func37 (by kernel_rfl) rfl #[.agg #[.int .i64 ((rd_T61 t844 x8_2).f0.f0),.int .i64 ((rd_T61 t844 x8_2).f0.f1),.int .i64 ((rd_T61 t844 x8_2).f1.f0),.int .i64 ((rd_T61 t844 x8_2).f1.f1)],.agg #[.int .i64 t831,.int .i64 t832]] (by rfl) rfl rfl ma_ ?_
             with_reducible refine (impl_SegFar.calls ((rd_T61 t844 x8_2).f0.f0) ((rd_T61 t844 x8_2).f0.f1) ((rd_T61 t844 x8_2).f1.f0) ((rd_T61 t844 x8_2).f1.f1) t831 t832 t850 t851 _ A47.out).mono ?_
             rintro e w86 ⟨rfl,hb⟩;have HS2_:=pw_cell_below hb hHeld.2.2.1;have HS3_:=pw_cell_below hb hHeld.2.2.2.1;have HS4_:=pw_cell_below hb hHeld.2.2.2.2.1;have HS5_:=pw_cell_below hb hHeld.2.2.2.2.2;refine⟨_,rfl,?_⟩;replace HO_7:=rb_ HO_7 hb;replace HO_834000:=rb_ HO_834000 hb;replace HO_834001:=nb_ HO_834001 hb;replace BK833:=vb_ BK833 hb;replace BK834:=vb_ BK834 hb;replace BK837:=vb_ BK837 hb;replace BK852:=vb_ BK852 hb;replace HB:=sb_ HB hb
             (try clear hb)
             (try clear hb2)
             (try clear hk)
             (try clear hi)
             refine hK.out _ _ ⟨bc_,bc_,HS2_,HS3_,HS4_,HS5_⟩ (fun hHeld=>?_);clear hK K;refine no_ (h:=?_);exact norm_ (by simp only [putAll,Act.put,List.setIfInBounds_toArray,List.set_cons_zero,List.set_cons_succ]) (hCont (gb852) _ ⟨hHeld,(uR_ HO_7),(uR_ HO_834000),(by (with_reducible repeat (first | apply Kd.N_alloc | apply Kd.N_drewN | apply Kd.N_drew));exact Kd.N_mono HO_834001.out (fun _ hk=>⟨hk.1.1,⟨hk.1.2.1,⟨hk.1.2.2.1,⟨hk.1.2.2.2.1,⟨hk.1.2.2.2.2,hk.2⟩⟩⟩⟩⟩)),uq_,uq_,uq_,uq_,GW852.out,GE852.out,NB833_852.out,NB852_833.out,NB834_852.out,NB852_834.out,NB837_852.out,NB852_837.out,hB_⟩)
           rintro gb852 w87 ⟨hS_,h0_,h1_,h2_,h3_,h4_,h5_,h6_,h7_,h8_,h9_,h10_,h11_,h12_,h13_,h14_,h15_⟩;have n0_:Aside0 (Kd.R k61 61 w87 w.heap.size (fun _=>True) (.slice (some ad849) t844.length co83) t844):=⟨h0_⟩;have n1_:Aside0 (Kd.R k28 28 w87 w.heap.size (fun k_=>k_≠gb834) (.slice Ao9 t825.length co9) t825):=⟨h1_⟩;have n2_:Aside0 (Kd.N (Kd.slice 28 k28) 23 w87 w.heap.size (fun k_=>some k_≠(.slice (some ad849) t844.length co83:Value).ownBlock∧some k_≠(.slice Ao9 t825.length co9:Value).ownBlock∧k_≠gb833∧k_≠gb834∧k_≠gb837∧k_≠gb852) (.slice Ao12 t828.length co12) t828):=⟨h2_⟩;have n3_:Aside0 (w87.heap[gb833]?=some (.cells #[.slice Ao9 t825.length co9,.slice Ao12 t828.length co12] 26 (0,0))):=⟨h3_⟩;have n4_:Aside0 (w87.heap[gb834]?=some (.cells #[.int .i64 t831,.int .i64 t832] 28 (0,0))):=⟨h4_⟩;have n5_:Aside0 (w87.heap[gb837]?=some (.cells #[.int .i64 t835,.int .i64 t836] 35 (0,0))):=⟨h5_⟩;have n6_:Aside0 (w87.heap[gb852]?=some (.cells #[.int .i64 0,.int .i64 0] 35 (0,0))):=⟨h6_⟩;have n7_:Aside0 (w.heap.size≤gb852):=⟨h7_⟩;have n8_:Aside0 (w.heap.size≤gb852):=⟨h8_⟩;have n9_:Aside0 (gb833≠gb852):=⟨h9_⟩;have n10_:Aside0 (gb852≠gb833):=⟨h10_⟩;have n11_:Aside0 (gb834≠gb852):=⟨h11_⟩;have n12_:Aside0 (gb852≠gb834):=⟨h12_⟩;have n13_:Aside0 (gb837≠gb852):=⟨h13_⟩;have n14_:Aside0 (gb852≠gb837):=⟨h14_⟩;have n15_:Aside0 (Below w.heap.size w w87):=⟨h15_⟩;clear HO_7 HO_834000 HO_834001 BK833 BK834 BK837 HB;clear h0_ h1_ h2_ h3_ h4_ h5_ h6_ h7_ h8_ h9_ h10_ h11_ h12_ h13_ h14_ h15_;have HO_7:=n0_;have HO_834000:=n1_;have HO_834001:=n2_;have BK833:=n3_;have BK834:=n4_;have BK837:=n5_;have BK852:=n6_;have GW852:=n7_;have GE852:=n8_;have NB833_852:=n9_;have NB852_833:=n10_;have NB834_852:=n11_;have NB852_834:=n12_;have NB837_852:=n13_;have NB852_837:=n14_;have HB:=n15_
           clear n0_ n1_ n2_ n3_ n4_ n5_ n6_ n7_ n8_ n9_ n10_ n11_ n12_ n13_ n14_ n15_;have hHeld:w87.cell? ⟨gb834,0,none⟩=some (.int .i64 t831)∧w87.cell? ⟨gb834,1,none⟩=some (.int .i64 t832)∧w87.cell? (ad849.add ((x8_2).toNat*4))=some (.int .i64 ((rd_T61 t844 x8_2).f0.f0))∧w87.cell? ⟨(ad849.add ((x8_2).toNat*4)).block,(ad849.add ((x8_2).toNat*4)).off+1,none⟩=some (.int .i64 ((rd_T61 t844 x8_2).f0.f1))∧w87.cell? ⟨(ad849.add ((x8_2).toNat*4)).block,(ad849.add ((x8_2).toNat*4)).off+2,none⟩=some (.int .i64 ((rd_T61 t844 x8_2).f1.f0))∧w87.cell? ⟨(ad849.add ((x8_2).toNat*4)).block,(ad849.add ((x8_2).toNat*4)).off+3,none⟩=some (.int .i64 ((rd_T61 t844 x8_2).f1.f1)):=hS_;refine norm_ (a':=?_) ?_ ?_;rotate_left
           ·
            simp only [putAll,Act.put,List.setIfInBounds_toArray,List.set_cons_zero,List.set_cons_succ];rfl
           refine one_ (i:=7) (N:=none) (bm 8 255) rfl rfl (one_of HT_.out (by kernel_rfl)) (by decide) (fun K hK=>?_);have hs88:w87.cell? ⟨gb852,0,none⟩=some (.int .i64 0):=bc_;have hfs88:=blk_frozen BK852.out 0;have hns88_0:=NB833_852.out;have hns88_1:=NB834_852.out;have hns88_2:=NB837_852.out;have hms88_0:=NB852_833.out;have hms88_1:=NB852_834.out;have hms88_2:=NB852_837.out;have hs89:w87.cell? ⟨gb852,1,none⟩=some (.int .i64 0):=bc_;have hfs89:=blk_frozen BK852.out 1;have hns89_0:=NB833_852.out;have hns89_1:=NB834_852.out;have hns89_2:=NB837_852.out;have hms89_0:=NB852_833.out;have hms89_1:=NB852_834.out;have hms89_2:=NB852_837.out;refine skip_ (w1:=?_) (by rfl) rfl ?_ ?_;rotate_left
           ·
            go_simp;rfl
           refine hK.out _ _ ⟨((cell_far (p:=⟨gb852,_,none⟩) NB834_852.out _).trans (((cell_far (p:=⟨gb852,_,none⟩) NB834_852.out _).trans (hHeld.1)))),((cell_far (p:=⟨gb852,_,none⟩) NB834_852.out _).trans (((cell_far (p:=⟨gb852,_,none⟩) NB834_852.out _).trans (hHeld.2.1)))),((cell_far (p:=⟨gb852,_,none⟩) (by first | exact Kd.own_blk (Kd.R_ne HO_7.out BK852.out (by decide)) | (rw [add_block];exact Kd.own_blk (Kd.R_ne HO_7.out BK852.out (by decide))) | (show (Addr.add _ _).block≠_;rw [add_block];exact Kd.own_blk (Kd.R_ne HO_7.out BK852.out (by decide))) | (dsimp only;exact Kd.own_blk (Kd.R_ne HO_7.out BK852.out (by decide)))) _).trans (((cell_far (p:=⟨gb852,_,none⟩) (by first | exact Kd.own_blk (Kd.R_ne HO_7.out BK852.out (by decide)) | (rw [add_block];exact Kd.own_blk (Kd.R_ne HO_7.out BK852.out (by decide))) | (show (Addr.add _ _).block≠_;rw [add_block];exact Kd.own_blk (Kd.R_ne HO_7.out BK852.out (by decide))) | (dsimp only;exact Kd.own_blk (Kd.R_ne HO_7.out BK852.out (by decide)))) _).trans (hHeld.2.2.1)))),((cell_far (p:=⟨gb852,_,none⟩) (by first | exact Kd.own_blk (Kd.R_ne HO_7.out BK852.out (by decide)) | (rw [add_block];exact Kd.own_blk (Kd.R_ne HO_7.out BK852.out (by decide))) | (show (Addr.add _ _).block≠_;rw [add_block];exact Kd.own_blk (Kd.R_ne HO_7.out BK852.out (by decide))) | (dsimp only;exact Kd.own_blk (Kd.R_ne HO_7.out BK852.out (by decide)))) _).trans (((cell_far (p:=⟨gb852,_,none⟩) (by first | exact Kd.own_blk (Kd.R_ne HO_7.out BK852.out (by decide)) | (rw [add_block];exact Kd.own_blk (Kd.R_ne HO_7.out BK852.out (by decide))) | (show (Addr.add _ _).block≠_;rw [add_block];exact Kd.own_blk (Kd.R_ne HO_7.out BK852.out (by decide))) | (dsimp only;exact Kd.own_blk (Kd.R_ne HO_7.out BK852.out (by decide)))) _).trans (hHeld.2.2.2.1)))),((cell_far (p:=⟨gb852,_,none⟩) (by first | exact Kd.own_blk (Kd.R_ne HO_7.out BK852.out (by decide)) | (rw [add_block];exact Kd.own_blk (Kd.R_ne HO_7.out BK852.out (by decide))) | (show (Addr.add _ _).block≠_;rw [add_block];exact Kd.own_blk (Kd.R_ne HO_7.out BK852.out (by decide))) | (dsimp only;exact Kd.own_blk (Kd.R_ne HO_7.out BK852.out (by decide)))) _).trans (((cell_far (p:=⟨gb852,_,none⟩) (by first | exact Kd.own_blk (Kd.R_ne HO_7.out BK852.out (by decide)) | (rw [add_block];exact Kd.own_blk (Kd.R_ne HO_7.out BK852.out (by decide))) | (show (Addr.add _ _).block≠_;rw [add_block];exact Kd.own_blk (Kd.R_ne HO_7.out BK852.out (by decide))) | (dsimp only;exact Kd.own_blk (Kd.R_ne HO_7.out BK852.out (by decide)))) _).trans (hHeld.2.2.2.2.1)))),((cell_far (p:=⟨gb852,_,none⟩) (by first | exact Kd.own_blk (Kd.R_ne HO_7.out BK852.out (by decide)) | (rw [add_block];exact Kd.own_blk (Kd.R_ne HO_7.out BK852.out (by decide))) | (show (Addr.add _ _).block≠_;rw [add_block];exact Kd.own_blk (Kd.R_ne HO_7.out BK852.out (by decide))) | (dsimp only;exact Kd.own_blk (Kd.R_ne HO_7.out BK852.out (by decide)))) _).trans (((cell_far (p:=⟨gb852,_,none⟩) (by first | exact Kd.own_blk (Kd.R_ne HO_7.out BK852.out (by decide)) | (rw [add_block];exact Kd.own_blk (Kd.R_ne HO_7.out BK852.out (by decide))) | (show (Addr.add _ _).block≠_;rw [add_block];exact Kd.own_blk (Kd.R_ne HO_7.out BK852.out (by decide))) | (dsimp only;exact Kd.own_blk (Kd.R_ne HO_7.out BK852.out (by decide)))) _).trans (hHeld.2.2.2.2.2))))⟩ (fun hHeld=>?_)
           clear hK K;refine done_ (done_of HT_.out (by kernel_rfl)) ?_;have hnb90:=NB852_833.out;have hnc90:=NB833_852.out;have hnb91:=NB852_834.out;have hnc91:=NB834_852.out;have hnb92:=NB852_837.out;have hnc92:=NB837_852.out;have hcz93_0:=c20_ BK852;have hcz93_1:=c21_ BK852;have hfz93_0:=fz_ BK852 0;have hfz93_1:=fz_ BK852 1;have hnb94:=NB837_833.out;have hnc94:=NB833_837.out;have hnb95:=NB837_834.out;have hnc95:=NB834_837.out;have hcz96_0:=c20_ BK837;have hcz96_1:=c21_ BK837;have hfz96_0:=fz_ BK837 0;have hfz96_1:=fz_ BK837 1
           try go_wp2_with (first | ((with_reducible refine gate_callee (f:=21) rfl ?_);refine gL_ (some 63) Tryd.func21 #[.agg #[.int .i64 t835,.int .i64 t836],.agg #[.int .i64 t850,.int .i64 t851]] (h:=?_);(with_reducible refine (impl_FracCmp.calls t835 t836 t850 t851 t854 _ (ErrW.below HE.out hB_) A81.out).mono ?_);rintro e w97 ⟨rfl,hb⟩;refine⟨_,rfl,?_⟩;replace HO_7:=a0_ (Kd.R_below (by (with_reducible repeat (first | apply Kd.R_alloc | apply Kd.R_drewN | apply Kd.R_drew));exact (Kd.R_mono (Kd.R_far (p:=⟨gb852,1,none⟩) (Kd.R_far (p:=⟨gb852,0,none⟩) (Kd.R_types HO_7.out BK852.out (by decide)) (fun _ hk=>hk.2) (.int .i64 t850)) (fun _ hk=>hk.2) (.int .i64 t851)) (fun _ h_=>h_.1))) hb);replace HO_834000:=a0_ (Kd.R_below (by (with_reducible repeat (first | apply Kd.R_alloc | apply Kd.R_drewN | apply Kd.R_drew));exact (Kd.R_mono (Kd.R_far (p:=⟨gb852,1,none⟩) (Kd.R_far (p:=⟨gb852,0,none⟩) (Kd.R_types HO_834000.out BK852.out (by decide)) (fun _ hk=>hk.2) (.int .i64 t850)) (fun _ hk=>hk.2) (.int .i64 t851)) (fun _ h_=>h_.1))) hb);replace HO_834001:=a0_ (Kd.N_below (by (with_reducible repeat (first | apply Kd.N_alloc | apply Kd.N_drewN | apply Kd.N_drew));exact (Kd.N_mono (Kd.N_far (p:=⟨gb852,1,none⟩) (Kd.N_far (p:=⟨gb852,0,none⟩) (Kd.N_mono HO_834001.out (fun k_ hk=>(⟨hk,hk.2.2.2.2.2⟩:_∧k_≠gb852))) (fun _ hk=>hk.2) (.int .i64 t850)) (fun _ hk=>hk.2) (.int .i64 t851)) (fun _ h_=>h_.1))) hb);replace BK833:=a0_ (blk_below (g:=gb833) (o:=.cells #[.slice Ao9 t825.length co9,.slice Ao12 t828.length co12] 26 (0,0)) uf_ hb);replace BK834:=a0_ (blk_below (g:=gb834) (o:=.cells #[.int .i64 t831,.int .i64 t832] 28 (0,0)) uf_ hb);replace BK837:=a0_ (blk_below (g:=gb837) (o:=.cells #[.int .i64 t835,.int .i64 t836] 35 (0,0)) uf_ hb);replace BK852:=a0_ (blk_below (g:=gb852) (o:=.cells #[.int .i64 t850,.int .i64 t851] 35 (0,0)) (by (with_reducible repeat (first | refine blk_drewN ?_ _ | refine blk_drew ?_ | refine blk_alloc ?_ _));refine blk_put (cs:=#[.int .i64 t850,.int .i64 0]) ?_ 1 _ rfl;(with_reducible repeat (first | refine blk_drewN ?_ _ | refine blk_drew ?_ | refine blk_alloc ?_ _));refine blk_put (cs:=#[.int .i64 0,.int .i64 0]) ?_ 0 _ rfl;(with_reducible repeat (first | refine blk_drewN ?_ _ | refine blk_drew ?_ | refine blk_alloc ?_ _));exact BK852.out) hb);replace HB:=sb_ HB hb;(try clear hb)))
           go_ret;exact⟨rr_,hB_⟩
          ·
           rw [if_neg c82] at H;have c82b0:decide (0<t854)=false:=decide_eq_false c82;clear c82;have H':=Aside0.mk H;clear H;obtain⟨Ao98,co98,eo98⟩:=Kd.R_slice HO_7.out;subst eo98
           try go_wp2
           replace HO_7:=a0_ (Kd.R_drew HO_7.out);replace HO_834000:=a0_ (Kd.R_drew HO_834000.out);replace HO_834001:=a0_ (Kd.N_drew HO_834001.out);replace BK833:=a0_ (blk_drew BK833.out);replace BK834:=a0_ (blk_drew BK834.out);replace BK837:=a0_ (blk_drew BK837.out);replace HB:=a0_ (below_drew1 HB.out);have p849:0≤(x8_2:Int):=od_;have q849:x8_2<(t844.length:Int):=od_;obtain⟨ad849,e849,hx849_0,hx849_1,hx849_2,hx849_3⟩:=at_T61 (Kd.R_reads' HO_7.out).2.2 x8_2 p849 q849;cases e849;replace p849:=eq_true p849;replace q849:=eq_true q849;refine start_ (n:=8) (S:=fun w'=>w'.cell? ⟨gb834,0,none⟩=some (.int .i64 t831)∧w'.cell? ⟨gb834,1,none⟩=some (.int .i64 t832)∧w'.cell? (ad849.add ((x8_2).toNat*4))=some (.int .i64 ((rd_T61 t844 x8_2).f0.f0))∧w'.cell? ⟨(ad849.add ((x8_2).toNat*4)).block,(ad849.add ((x8_2).toNat*4)).off+1,none⟩=some (.int .i64 ((rd_T61 t844 x8_2).f0.f1))∧w'.cell? ⟨(ad849.add ((x8_2).toNat*4)).block,(ad849.add ((x8_2).toNat*4)).off+2,none⟩=some (.int .i64 ((rd_T61 t844 x8_2).f1.f0))∧w'.cell? ⟨(ad849.add ((x8_2).toNat*4)).block,(ad849.add ((x8_2).toNat*4)).off+3,none⟩=some (.int .i64 ((rd_T61 t844 x8_2).f1.f1))) (ds:=[]) (Array.replicate 8 false) (by kernel_rfl) rfl rfl ⟨bc_,bc_,hx849_0,hx849_1,hx849_2,hx849_3⟩ (fun hHeld=>?_);refine with_tabW laws_FnPlateFar.tab12 laws_FnPlateFar.bits12 (fun HT_ HW_=>?_);generalize wr.drew=w99 at HO_7 HO_834000 HO_834001 BK833 BK834 BK837 HB hx849_0 hx849_1 hx849_2 hx849_3 hHeld ⊢
           refine pu_ HT_ 0 49 (bm 8 1) ?_;refine pu_ HT_ 1 50 (bm 8 3) ?_;refine pu_ HT_ 2 51 (bm 8 7) ?_;refine ta6_ HT_ HW_ 3 52 (bm 8 15) hHeld ?_;refine ta6_ HT_ HW_ 4 53 (bm 8 31) hHeld ?_;refine join_ (σ:=Nat) 1 (bm 8 127) (fun s_=>[(54,.agg #[.int .i64 t850,.int .i64 t851]),(9,.pointer (some ⟨s_,0,none⟩))]) (fun s_ w'=>(w'.cell? ⟨gb834,0,none⟩=some (.int .i64 t831)∧w'.cell? ⟨gb834,1,none⟩=some (.int .i64 t832)∧w'.cell? (ad849.add ((x8_2).toNat*4))=some (.int .i64 ((rd_T61 t844 x8_2).f0.f0))∧w'.cell? ⟨(ad849.add ((x8_2).toNat*4)).block,(ad849.add ((x8_2).toNat*4)).off+1,none⟩=some (.int .i64 ((rd_T61 t844 x8_2).f0.f1))∧w'.cell? ⟨(ad849.add ((x8_2).toNat*4)).block,(ad849.add ((x8_2).toNat*4)).off+2,none⟩=some (.int .i64 ((rd_T61 t844 x8_2).f1.f0))∧w'.cell? ⟨(ad849.add ((x8_2).toNat*4)).block,(ad849.add ((x8_2).toNat*4)).off+3,none⟩=some (.int .i64 ((rd_T61 t844 x8_2).f1.f1)))∧(Kd.R k61 61 w' w.heap.size (fun _=>True) (.slice (some ad849) t844.length co98) t844)∧(Kd.R k28 28 w' w.heap.size (fun k_=>k_≠gb834) (.slice Ao9 t825.length co9) t825)∧(Kd.N (Kd.slice 28 k28) 23 w' w.heap.size (fun k_=>some k_≠(.slice (some ad849) t844.length co98:Value).ownBlock∧some k_≠(.slice Ao9 t825.length co9:Value).ownBlock∧k_≠gb833∧k_≠gb834∧k_≠gb837∧k_≠s_) (.slice Ao12 t828.length co12) t828)∧(w'.heap[gb833]?=some (.cells #[.slice Ao9 t825.length co9,.slice Ao12 t828.length co12] 26 (0,0)))∧(w'.heap[gb834]?=some (.cells #[.int .i64 t831,.int .i64 t832] 28 (0,0)))∧(w'.heap[gb837]?=some (.cells #[.int .i64 t835,.int .i64 t836] 35 (0,0)))∧(w'.heap[s_]?=some (.cells #[.int .i64 0,.int .i64 0] 35 (0,0)))∧(w.heap.size≤s_)∧(w.heap.size≤s_)∧(gb833≠s_)∧(s_≠gb833)∧(gb834≠s_)∧(s_≠gb834)∧(gb837≠s_)∧(s_≠gb837)∧(Below w.heap.size w w')) ?_ ?_;rotate_left
           ·
            intro hCont;refine two_ (i:=5) (j:=6) (Ni:=some 54) (Nj:=some 9) (bm 8 63) (bm 8 95) rfl rfl rfl rfl (two_of HT_.out (by kernel_rfl)) (by decide) (by decide) (fun K hK=>?_) (fun K hK=>?_)
            ·
             skip;refine goes_ Tryd.func37 (by kernel_rfl) rfl #[.agg #[.int .i64 ((rd_T61 t844 x8_2).f0.f0),.int .i64 ((rd_T61 t844 x8_2).f0.f1),.int .i64 ((rd_T61 t844 x8_2).f1.f0),.int .i64 ((rd_T61 t844 x8_2).f1.f1)],.agg #[.int .i64 t831,.int .i64 t832]] (by rfl) rfl rfl ma_ ?_
             with_reducible refine (impl_SegFar.calls ((rd_T61 t844 x8_2).f0.f0) ((rd_T61 t844 x8_2).f0.f1) ((rd_T61 t844 x8_2).f1.f0) ((rd_T61 t844 x8_2).f1.f1) t831 t832 t850 t851 _ A47.out).mono ?_
             rintro e w100 ⟨rfl,hb⟩;have HS2_:=pw_cell_below hb hHeld.2.2.1;have HS3_:=pw_cell_below hb hHeld.2.2.2.1;have HS4_:=pw_cell_below hb hHeld.2.2.2.2.1;have HS5_:=pw_cell_below hb hHeld.2.2.2.2.2;refine⟨_,rfl,?_⟩;replace HO_7:=rb_ HO_7 hb;replace HO_834000:=rb_ HO_834000 hb;replace HO_834001:=nb_ HO_834001 hb;replace BK833:=vb_ BK833 hb;replace BK834:=vb_ BK834 hb;replace BK837:=vb_ BK837 hb;replace HB:=sb_ HB hb
             (try clear hb)
             (try clear hb2)
             (try clear hk)
             (try clear hi)
             refine hK.out _ _ ⟨bc_,bc_,HS2_,HS3_,HS4_,HS5_⟩ (fun hHeld=>?_);clear hK K;refine no_ (h:=?_);refine one_ (i:=6) (N:=some 9) (bm 8 127) rfl rfl (one_of HT_.out (by kernel_rfl)) (by decide) (fun K hK=>?_);refine box_step ?hg (N:=9) ?hd (cs:=#[.int .i64 0,.int .i64 0]) (t:=35) ?hr ?_;(case hd=>rfl);(case hg=>rfl);(case hr=>first | (go_simp;done) | (go_simp;rfl));intro gb852 hg w101 hbox hb;have HS2_:=pw_cell_below hb hHeld.2.2.1;have HS3_:=pw_cell_below hb hHeld.2.2.2.1;have HS4_:=pw_cell_below hb hHeld.2.2.2.2.1;have HS5_:=pw_cell_below hb hHeld.2.2.2.2.2;have BK852:=a0_ (hbox);have GW852:=gh_ HB hg;have GE852:=gh_ HB hg;have NB833_852:=nl_ BK833 hg;have NB852_833:=nr_ BK833 hg;have NB834_852:=nl_ BK834 hg;have NB852_834:=nr_ BK834 hg;have NB837_852:=nl_ BK837 hg;have NB852_837:=nr_ BK837 hg;replace HO_7:=rb_ HO_7 hb;replace HO_834000:=rb_ HO_834000 hb;replace HO_834001:=a0_ (Kd.N_below (Kd.N_elderB (uN_ HO_834001) gb852 (Nat.le_of_eq hg.symm)) hb);replace BK833:=vb_ BK833 hb;replace BK834:=vb_ BK834 hb;replace BK837:=vb_ BK837 hb;replace HB:=sb_ HB hb;clear hb hbox hg;refine hK.out _ _ ⟨bc_,bc_,HS2_,HS3_,HS4_,HS5_⟩ (fun hHeld=>?_);clear hK K;refine no_ (h:=?_);exact norm_ (by simp only [putAll,Act.put,List.setIfInBounds_toArray,List.set_cons_zero,List.set_cons_succ]) (hCont (gb852) _ ⟨hHeld,(uR_ HO_7),(uR_ HO_834000),(by (with_reducible repeat (first | apply Kd.N_alloc | apply Kd.N_drewN | apply Kd.N_drew));exact Kd.N_mono HO_834001.out (fun _ hk=>⟨hk.1.1,⟨hk.1.2.1,⟨hk.1.2.2.1,⟨hk.1.2.2.2.1,⟨hk.1.2.2.2.2,hk.2⟩⟩⟩⟩⟩)),uq_,uq_,uq_,uq_,GW852.out,GE852.out,NB833_852.out,NB852_833.out,NB834_852.out,NB852_834.out,NB837_852.out,NB852_837.out,hB_⟩)
            ·
             skip;refine box_step ?hg (N:=9) ?hd (cs:=#[.int .i64 0,.int .i64 0]) (t:=35) ?hr ?_;(case hd=>rfl);(case hg=>rfl);(case hr=>first | (go_simp;done) | (go_simp;rfl));intro gb852 hg w100 hbox hb;have HS2_:=pw_cell_below hb hHeld.2.2.1;have HS3_:=pw_cell_below hb hHeld.2.2.2.1;have HS4_:=pw_cell_below hb hHeld.2.2.2.2.1;have HS5_:=pw_cell_below hb hHeld.2.2.2.2.2;have BK852:=a0_ (hbox);have GW852:=gh_ HB hg;have GE852:=gh_ HB hg;have NB833_852:=nl_ BK833 hg;have NB852_833:=nr_ BK833 hg;have NB834_852:=nl_ BK834 hg;have NB852_834:=nr_ BK834 hg;have NB837_852:=nl_ BK837 hg;have NB852_837:=nr_ BK837 hg;replace HO_7:=rb_ HO_7 hb;replace HO_834000:=rb_ HO_834000 hb;replace HO_834001:=a0_ (Kd.N_below (Kd.N_elderB (uN_ HO_834001) gb852 (Nat.le_of_eq hg.symm)) hb);replace BK833:=vb_ BK833 hb;replace BK834:=vb_ BK834 hb;replace BK837:=vb_ BK837 hb;replace HB:=sb_ HB hb;clear hb hbox hg;refine hK.out _ _ ⟨bc_,bc_,HS2_,HS3_,HS4_,HS5_⟩ (fun hHeld=>?_);clear hK K;refine no_ (h:=?_);refine one_ (i:=5) (N:=some 54) (bm 8 127) rfl rfl (one_of HT_.out (by kernel_rfl)) (by decide) (fun K hK=>?_);refine goes_ Tryd.func37 (by kernel_rfl) rfl #[.agg #[.int .i64 ((rd_T61 t844 x8_2).f0.f0),.int .i64 ((rd_T61 t844 x8_2).f0.f1),.int .i64 ((rd_T61 t844 x8_2).f1.f0),.int .i64 ((rd_T61 t844 x8_2).f1.f1)],.agg #[.int .i64 t831,.int .i64 t832]] (by rfl) rfl rfl ma_ ?_
             with_reducible refine (impl_SegFar.calls ((rd_T61 t844 x8_2).f0.f0) ((rd_T61 t844 x8_2).f0.f1) ((rd_T61 t844 x8_2).f1.f0) ((rd_T61 t844 x8_2).f1.f1) t831 t832 t850 t851 _ A47.out).mono ?_
             rintro e w101 ⟨rfl,hb⟩;have HS2_:=pw_cell_below hb hHeld.2.2.1;have HS3_:=pw_cell_below hb hHeld.2.2.2.1;have HS4_:=pw_cell_below hb hHeld.2.2.2.2.1;have HS5_:=pw_cell_below hb hHeld.2.2.2.2.2;refine⟨_,rfl,?_⟩;replace HO_7:=rb_ HO_7 hb;replace HO_834000:=rb_ HO_834000 hb;replace HO_834001:=nb_ HO_834001 hb;replace BK833:=vb_ BK833 hb;replace BK834:=vb_ BK834 hb;replace BK837:=vb_ BK837 hb;replace BK852:=vb_ BK852 hb;replace HB:=sb_ HB hb
             (try clear hb)
             (try clear hb2)
             (try clear hk)
             (try clear hi)
             refine hK.out _ _ ⟨bc_,bc_,HS2_,HS3_,HS4_,HS5_⟩ (fun hHeld=>?_);clear hK K;refine no_ (h:=?_);exact norm_ (by simp only [putAll,Act.put,List.setIfInBounds_toArray,List.set_cons_zero,List.set_cons_succ]) (hCont (gb852) _ ⟨hHeld,(uR_ HO_7),(uR_ HO_834000),(by (with_reducible repeat (first | apply Kd.N_alloc | apply Kd.N_drewN | apply Kd.N_drew));exact Kd.N_mono HO_834001.out (fun _ hk=>⟨hk.1.1,⟨hk.1.2.1,⟨hk.1.2.2.1,⟨hk.1.2.2.2.1,⟨hk.1.2.2.2.2,hk.2⟩⟩⟩⟩⟩)),uq_,uq_,uq_,uq_,GW852.out,GE852.out,NB833_852.out,NB852_833.out,NB834_852.out,NB852_834.out,NB837_852.out,NB852_837.out,hB_⟩)
           rintro gb852 w102 ⟨hS_,h0_,h1_,h2_,h3_,h4_,h5_,h6_,h7_,h8_,h9_,h10_,h11_,h12_,h13_,h14_,h15_⟩;have n0_:Aside0 (Kd.R k61 61 w102 w.heap.size (fun _=>True) (.slice (some ad849) t844.length co98) t844):=⟨h0_⟩;have n1_:Aside0 (Kd.R k28 28 w102 w.heap.size (fun k_=>k_≠gb834) (.slice Ao9 t825.length co9) t825):=⟨h1_⟩;have n2_:Aside0 (Kd.N (Kd.slice 28 k28) 23 w102 w.heap.size (fun k_=>some k_≠(.slice (some ad849) t844.length co98:Value).ownBlock∧some k_≠(.slice Ao9 t825.length co9:Value).ownBlock∧k_≠gb833∧k_≠gb834∧k_≠gb837∧k_≠gb852) (.slice Ao12 t828.length co12) t828):=⟨h2_⟩;have n3_:Aside0 (w102.heap[gb833]?=some (.cells #[.slice Ao9 t825.length co9,.slice Ao12 t828.length co12] 26 (0,0))):=⟨h3_⟩;have n4_:Aside0 (w102.heap[gb834]?=some (.cells #[.int .i64 t831,.int .i64 t832] 28 (0,0))):=⟨h4_⟩;have n5_:Aside0 (w102.heap[gb837]?=some (.cells #[.int .i64 t835,.int .i64 t836] 35 (0,0))):=⟨h5_⟩;have n6_:Aside0 (w102.heap[gb852]?=some (.cells #[.int .i64 0,.int .i64 0] 35 (0,0))):=⟨h6_⟩;have n7_:Aside0 (w.heap.size≤gb852):=⟨h7_⟩;have n8_:Aside0 (w.heap.size≤gb852):=⟨h8_⟩;have n9_:Aside0 (gb833≠gb852):=⟨h9_⟩;have n10_:Aside0 (gb852≠gb833):=⟨h10_⟩;have n11_:Aside0 (gb834≠gb852):=⟨h11_⟩;have n12_:Aside0 (gb852≠gb834):=⟨h12_⟩;have n13_:Aside0 (gb837≠gb852):=⟨h13_⟩;have n14_:Aside0 (gb852≠gb837):=⟨h14_⟩;have n15_:Aside0 (Below w.heap.size w w102):=⟨h15_⟩;clear HO_7 HO_834000 HO_834001 BK833 BK834 BK837 HB;clear h0_ h1_ h2_ h3_ h4_ h5_ h6_ h7_ h8_ h9_ h10_ h11_ h12_ h13_ h14_ h15_;have HO_7:=n0_;have HO_834000:=n1_;have HO_834001:=n2_;have BK833:=n3_;have BK834:=n4_;have BK837:=n5_;have BK852:=n6_;have GW852:=n7_;have GE852:=n8_;have NB833_852:=n9_;have NB852_833:=n10_;have NB834_852:=n11_;have NB852_834:=n12_;have NB837_852:=n13_;have NB852_837:=n14_;have HB:=n15_
           clear n0_ n1_ n2_ n3_ n4_ n5_ n6_ n7_ n8_ n9_ n10_ n11_ n12_ n13_ n14_ n15_;have hHeld:w102.cell? ⟨gb834,0,none⟩=some (.int .i64 t831)∧w102.cell? ⟨gb834,1,none⟩=some (.int .i64 t832)∧w102.cell? (ad849.add ((x8_2).toNat*4))=some (.int .i64 ((rd_T61 t844 x8_2).f0.f0))∧w102.cell? ⟨(ad849.add ((x8_2).toNat*4)).block,(ad849.add ((x8_2).toNat*4)).off+1,none⟩=some (.int .i64 ((rd_T61 t844 x8_2).f0.f1))∧w102.cell? ⟨(ad849.add ((x8_2).toNat*4)).block,(ad849.add ((x8_2).toNat*4)).off+2,none⟩=some (.int .i64 ((rd_T61 t844 x8_2).f1.f0))∧w102.cell? ⟨(ad849.add ((x8_2).toNat*4)).block,(ad849.add ((x8_2).toNat*4)).off+3,none⟩=some (.int .i64 ((rd_T61 t844 x8_2).f1.f1)):=hS_;refine norm_ (a':=?_) ?_ ?_;rotate_left
           ·
            simp only [putAll,Act.put,List.setIfInBounds_toArray,List.set_cons_zero,List.set_cons_succ];rfl
           refine one_ (i:=7) (N:=none) (bm 8 255) rfl rfl (one_of HT_.out (by kernel_rfl)) (by decide) (fun K hK=>?_);have hs103:w102.cell? ⟨gb852,0,none⟩=some (.int .i64 0):=bc_;have hfs103:=blk_frozen BK852.out 0;have hns103_0:=NB833_852.out;have hns103_1:=NB834_852.out;have hns103_2:=NB837_852.out;have hms103_0:=NB852_833.out;have hms103_1:=NB852_834.out;have hms103_2:=NB852_837.out;have hs104:w102.cell? ⟨gb852,1,none⟩=some (.int .i64 0):=bc_;have hfs104:=blk_frozen BK852.out 1;have hns104_0:=NB833_852.out;have hns104_1:=NB834_852.out;have hns104_2:=NB837_852.out;have hms104_0:=NB852_833.out;have hms104_1:=NB852_834.out;have hms104_2:=NB852_837.out;refine skip_ (w1:=?_) (by rfl) rfl ?_ ?_;rotate_left
           ·
            go_simp;rfl
           refine hK.out _ _ ⟨((cell_far (p:=⟨gb852,_,none⟩) NB834_852.out _).trans (((cell_far (p:=⟨gb852,_,none⟩) NB834_852.out _).trans (hHeld.1)))),((cell_far (p:=⟨gb852,_,none⟩) NB834_852.out _).trans (((cell_far (p:=⟨gb852,_,none⟩) NB834_852.out _).trans (hHeld.2.1)))),((cell_far (p:=⟨gb852,_,none⟩) (by first | exact Kd.own_blk (Kd.R_ne HO_7.out BK852.out (by decide)) | (rw [add_block];exact Kd.own_blk (Kd.R_ne HO_7.out BK852.out (by decide))) | (show (Addr.add _ _).block≠_;rw [add_block];exact Kd.own_blk (Kd.R_ne HO_7.out BK852.out (by decide))) | (dsimp only;exact Kd.own_blk (Kd.R_ne HO_7.out BK852.out (by decide)))) _).trans (((cell_far (p:=⟨gb852,_,none⟩) (by first | exact Kd.own_blk (Kd.R_ne HO_7.out BK852.out (by decide)) | (rw [add_block];exact Kd.own_blk (Kd.R_ne HO_7.out BK852.out (by decide))) | (show (Addr.add _ _).block≠_;rw [add_block];exact Kd.own_blk (Kd.R_ne HO_7.out BK852.out (by decide))) | (dsimp only;exact Kd.own_blk (Kd.R_ne HO_7.out BK852.out (by decide)))) _).trans (hHeld.2.2.1)))),((cell_far (p:=⟨gb852,_,none⟩) (by first | exact Kd.own_blk (Kd.R_ne HO_7.out BK852.out (by decide)) | (rw [add_block];exact Kd.own_blk (Kd.R_ne HO_7.out BK852.out (by decide))) | (show (Addr.add _ _).block≠_;rw [add_block];exact Kd.own_blk (Kd.R_ne HO_7.out BK852.out (by decide))) | (dsimp only;exact Kd.own_blk (Kd.R_ne HO_7.out BK852.out (by decide)))) _).trans (((cell_far (p:=⟨gb852,_,none⟩) (by first | exact Kd.own_blk (Kd.R_ne HO_7.out BK852.out (by decide)) | (rw [add_block];exact Kd.own_blk (Kd.R_ne HO_7.out BK852.out (by decide))) | (show (Addr.add _ _).block≠_;rw [add_block];exact Kd.own_blk (Kd.R_ne HO_7.out BK852.out (by decide))) | (dsimp only;exact Kd.own_blk (Kd.R_ne HO_7.out BK852.out (by decide)))) _).trans (hHeld.2.2.2.1)))),((cell_far (p:=⟨gb852,_,none⟩) (by first | exact Kd.own_blk (Kd.R_ne HO_7.out BK852.out (by decide)) | (rw [add_block];exact Kd.own_blk (Kd.R_ne HO_7.out BK852.out (by decide))) | (show (Addr.add _ _).block≠_;rw [add_block];exact Kd.own_blk (Kd.R_ne HO_7.out BK852.out (by decide))) | (dsimp only;exact Kd.own_blk (Kd.R_ne HO_7.out BK852.out (by decide)))) _).trans (((cell_far (p:=⟨gb852,_,none⟩) (by first | exact Kd.own_blk (Kd.R_ne HO_7.out BK852.out (by decide)) | (rw [add_block];exact Kd.own_blk (Kd.R_ne HO_7.out BK852.out (by decide))) | (show (Addr.add _ _).block≠_;rw [add_block];exact Kd.own_blk (Kd.R_ne HO_7.out BK852.out (by decide))) | (dsimp only;exact Kd.own_blk (Kd.R_ne HO_7.out BK852.out (by decide)))) _).trans (hHeld.2.2.2.2.1)))),((cell_far (p:=⟨gb852,_,none⟩) (by first | exact Kd.own_blk (Kd.R_ne HO_7.out BK852.out (by decide)) | (rw [add_block];exact Kd.own_blk (Kd.R_ne HO_7.out BK852.out (by decide))) | (show (Addr.add _ _).block≠_;rw [add_block];exact Kd.own_blk (Kd.R_ne HO_7.out BK852.out (by decide))) | (dsimp only;exact Kd.own_blk (Kd.R_ne HO_7.out BK852.out (by decide)))) _).trans (((cell_far (p:=⟨gb852,_,none⟩) (by first | exact Kd.own_blk (Kd.R_ne HO_7.out BK852.out (by decide)) | (rw [add_block];exact Kd.own_blk (Kd.R_ne HO_7.out BK852.out (by decide))) | (show (Addr.add _ _).block≠_;rw [add_block];exact Kd.own_blk (Kd.R_ne HO_7.out BK852.out (by decide))) | (dsimp only;exact Kd.own_blk (Kd.R_ne HO_7.out BK852.out (by decide)))) _).trans (hHeld.2.2.2.2.2))))⟩ (fun hHeld=>?_)
           clear hK K;refine done_ (done_of HT_.out (by kernel_rfl)) ?_;have hnb105:=NB852_833.out;have hnc105:=NB833_852.out;have hnb106:=NB852_834.out;have hnc106:=NB834_852.out;have hnb107:=NB852_837.out;have hnc107:=NB837_852.out;have hcz108_0:=c20_ BK852;have hcz108_1:=c21_ BK852;have hfz108_0:=fz_ BK852 0;have hfz108_1:=fz_ BK852 1;have hnb109:=NB837_833.out;have hnc109:=NB833_837.out;have hnb110:=NB837_834.out;have hnc110:=NB834_837.out;have hcz111_0:=c20_ BK837;have hcz111_1:=c21_ BK837;have hfz111_0:=fz_ BK837 0;have hfz111_1:=fz_ BK837 1
           try go_wp2_with (first | ((with_reducible refine gate_callee (f:=21) rfl ?_);refine gL_ (some 63) Tryd.func21 #[.agg #[.int .i64 t835,.int .i64 t836],.agg #[.int .i64 t850,.int .i64 t851]] (h:=?_);(with_reducible refine (impl_FracCmp.calls t835 t836 t850 t851 t854 _ (ErrW.below HE.out hB_) A81.out).mono ?_);rintro e w112 ⟨rfl,hb⟩;refine⟨_,rfl,?_⟩;replace HO_7:=a0_ (Kd.R_below (by (with_reducible repeat (first | apply Kd.R_alloc | apply Kd.R_drewN | apply Kd.R_drew));exact (Kd.R_mono (Kd.R_far (p:=⟨gb852,1,none⟩) (Kd.R_far (p:=⟨gb852,0,none⟩) (Kd.R_types HO_7.out BK852.out (by decide)) (fun _ hk=>hk.2) (.int .i64 t850)) (fun _ hk=>hk.2) (.int .i64 t851)) (fun _ h_=>h_.1))) hb);replace HO_834000:=a0_ (Kd.R_below (by (with_reducible repeat (first | apply Kd.R_alloc | apply Kd.R_drewN | apply Kd.R_drew));exact (Kd.R_mono (Kd.R_far (p:=⟨gb852,1,none⟩) (Kd.R_far (p:=⟨gb852,0,none⟩) (Kd.R_types HO_834000.out BK852.out (by decide)) (fun _ hk=>hk.2) (.int .i64 t850)) (fun _ hk=>hk.2) (.int .i64 t851)) (fun _ h_=>h_.1))) hb);replace HO_834001:=a0_ (Kd.N_below (by (with_reducible repeat (first | apply Kd.N_alloc | apply Kd.N_drewN | apply Kd.N_drew));exact (Kd.N_mono (Kd.N_far (p:=⟨gb852,1,none⟩) (Kd.N_far (p:=⟨gb852,0,none⟩) (Kd.N_mono HO_834001.out (fun k_ hk=>(⟨hk,hk.2.2.2.2.2⟩:_∧k_≠gb852))) (fun _ hk=>hk.2) (.int .i64 t850)) (fun _ hk=>hk.2) (.int .i64 t851)) (fun _ h_=>h_.1))) hb);replace BK833:=a0_ (blk_below (g:=gb833) (o:=.cells #[.slice Ao9 t825.length co9,.slice Ao12 t828.length co12] 26 (0,0)) uf_ hb);replace BK834:=a0_ (blk_below (g:=gb834) (o:=.cells #[.int .i64 t831,.int .i64 t832] 28 (0,0)) uf_ hb);replace BK837:=a0_ (blk_below (g:=gb837) (o:=.cells #[.int .i64 t835,.int .i64 t836] 35 (0,0)) uf_ hb);replace BK852:=a0_ (blk_below (g:=gb852) (o:=.cells #[.int .i64 t850,.int .i64 t851] 35 (0,0)) (by (with_reducible repeat (first | refine blk_drewN ?_ _ | refine blk_drew ?_ | refine blk_alloc ?_ _));refine blk_put (cs:=#[.int .i64 t850,.int .i64 0]) ?_ 1 _ rfl;(with_reducible repeat (first | refine blk_drewN ?_ _ | refine blk_drew ?_ | refine blk_alloc ?_ _));refine blk_put (cs:=#[.int .i64 0,.int .i64 0]) ?_ 0 _ rfl;(with_reducible repeat (first | refine blk_drewN ?_ _ | refine blk_drew ?_ | refine blk_alloc ?_ _));exact BK852.out) hb);replace HB:=sb_ HB hb;(try clear hb)))
           go_roundg k2
           case measure=>have:=HJ4.out;have:=HK2.out;omega
           case rel=>exact⟨((t850==t835 && (t851==t836))),(wrap64 (x8_2+1)),(by first | rfl | (simp;done) | (simp [*];done)),(by first | rfl | (simp;done) | (simp [*];done)),H',⟨by have:=HJ4.out;have:=HK2.out;omega⟩,⟨by (with_reducible repeat (first | apply Kd.R_alloc | apply Kd.R_drewN | apply Kd.R_drew));exact HO_7.out⟩,⟨by (with_reducible repeat (first | apply Kd.R_alloc | apply Kd.R_drewN | apply Kd.R_drew));exact HO_834000.out⟩,⟨by (with_reducible repeat (first | apply Kd.N_alloc | apply Kd.N_drewN | apply Kd.N_drew));exact Kd.N_mono HO_834001.out (fun _ hk=>⟨hk.1,⟨hk.2.1,⟨hk.2.2.1,⟨hk.2.2.2.1,hk.2.2.2.2.1⟩⟩⟩⟩)⟩,⟨uq_⟩,⟨uq_⟩,⟨uq_⟩,⟨hB_⟩⟩
        ·
         rw [if_neg c46] at H;exact absurd H (by simp)
       ·
        rw [if_neg c45] at H;have c45b0:decide (x8_2<(t844.length:Int))=false:=decide_eq_false c45;clear c45;by_cases c113:x6_2=true
        ·
         subst c113;rw [if_pos rfl] at H
         (try dsimp only at H)
         replace H:=Option.bind_eq_some_iff.mp H;obtain⟨t847,A1140,H⟩:=H
         (try dsimp only at H)
         have A114:=Aside0.mk A1140;clear A1140;replace H:=Option.bind_eq_some_iff.mp H;obtain⟨t848,A1150,H⟩:=H
         (try dsimp only at H)
         have A115:=Aside0.mk A1150;clear A1150;obtain rfl:=Option.some.inj H;obtain⟨Ao116,co116,eo116⟩:=Kd.R_slice HO_7.out;subst eo116
         try go_wp2
         replace HO_7:=a0_ (Kd.R_drew HO_7.out);replace HO_834000:=a0_ (Kd.R_drew HO_834000.out);replace HO_834001:=a0_ (Kd.N_drew HO_834001.out);replace BK833:=a0_ (blk_drew BK833.out);replace BK834:=a0_ (blk_drew BK834.out);replace BK837:=a0_ (blk_drew BK837.out);replace HB:=a0_ (below_drew1 HB.out);refine start_ (n:=11) (S:=fun w'=>w'.cell? ⟨gb837,0,none⟩=some (.int .i64 t835)∧w'.cell? ⟨gb837,1,none⟩=some (.int .i64 t836)∧w'.cell? ⟨gb833,0,none⟩=some (.slice Ao9 t825.length co9)∧w'.cell? ⟨gb833,1,none⟩=some (.slice Ao12 t828.length co12)∧w'.cell? ⟨gb834,0,none⟩=some (.int .i64 t831)∧w'.cell? ⟨gb834,1,none⟩=some (.int .i64 t832)) (ds:=[]) (Array.replicate 11 false) (by kernel_rfl) rfl rfl ⟨bc_,bc_,bc_,bc_,bc_,bc_⟩ (fun hHeld=>?_);refine with_tabW laws_FnPlateFar.tab16 laws_FnPlateFar.bits16 (fun HT_ HW_=>?_);generalize wr.drew=w117 at HO_7 HO_834000 HO_834001 BK833 BK834 BK837 HB hHeld ⊢
         refine pu_ HT_ 0 65 (bm 11 1) ?_;refine pu_ HT_ 1 66 (bm 11 3) ?_;refine ta6_ HT_ HW_ 2 67 (bm 11 7) hHeld ?_;refine ta6_ HT_ HW_ 4 69 (bm 11 23) hHeld ?_;refine ta6_ HT_ HW_ 5 70 (bm 11 55) hHeld ?_;refine one_ (i:=3) (N:=some 68) (bm 11 63) rfl rfl (one_of HT_.out (by kernel_rfl)) (by decide) (fun K hK=>?_);refine goes_ Tryd.func38 (by kernel_rfl) rfl #[.agg #[.int .i64 t835,.int .i64 t836]] (by rfl) rfl rfl ma_ ?_
         with_reducible refine (laws_luZero.calls t835 t836 t847 _ A114.out).mono ?_
         rintro e w118 ⟨rfl,hb⟩;refine⟨_,rfl,?_⟩;replace HO_7:=rb_ HO_7 hb;replace HO_834000:=rb_ HO_834000 hb;replace HO_834001:=nb_ HO_834001 hb;replace BK833:=vb_ BK833 hb;replace BK834:=vb_ BK834 hb;replace BK837:=vb_ BK837 hb;replace HB:=sb_ HB hb
         (try clear hb)
         (try clear hb2)
         (try clear hk)
         (try clear hi)
         refine hK.out _ _ ⟨bc_,bc_,bc_,bc_,bc_,bc_⟩ (fun hHeld=>?_);clear hK K;refine no_ (h:=?_);refine one_ (i:=6) (N:=some 71) (bm 11 127) rfl rfl (one_of HT_.out (by kernel_rfl)) (by decide) (fun K hK=>?_);refine goes_ Tryd.func16 (by kernel_rfl) rfl #[.agg #[.slice Ao9 t825.length co9,.slice Ao12 t828.length co12],.agg #[.int .i64 t831,.int .i64 t832]] (by rfl) rfl rfl ma_ ?_
         with_reducible refine (impl_PlateIn.calls _ _ t825 _ _ t828 t831 t832 t848 _ ?side1 ?side2 ?side3 ?side4 A115.out).mono ?_
         (case side1=>repeat (first | exact (Kd.R_reads' HO_834000.out).2.2 | (with_reducible refine Kd.C_alloc ?_ _) | (with_reducible refine Kd.C_drewN ?_ _) | (with_reducible refine Kd.C_drew ?_)))
         (case side2=>exact (Kd.R_reads' HO_834000.out).2.1)
         (case side3=>repeat (first | exact (Kd.N_reads' HO_834001.out).2.2 | (with_reducible refine Kd.C_alloc ?_ _) | (with_reducible refine Kd.C_drewN ?_ _) | (with_reducible refine Kd.C_drew ?_)))
         (case side4=>exact (Kd.N_reads' HO_834001.out).2.1)
         rintro e w119 ⟨rfl,hb⟩;refine⟨_,rfl,?_⟩;replace HO_7:=rb_ HO_7 hb;replace HO_834000:=rb_ HO_834000 hb;replace HO_834001:=nb_ HO_834001 hb;replace BK833:=vb_ BK833 hb;replace BK834:=vb_ BK834 hb;replace BK837:=vb_ BK837 hb;replace HB:=sb_ HB hb
         (try clear hb)
         (try clear hb2)
         (try clear hk)
         (try clear hi)
         refine hK.out _ _ ⟨bc_,bc_,bc_,bc_,bc_,bc_⟩ (fun hHeld=>?_);clear hK K;refine no_ (h:=?_);refine pu_ HT_ 7 72 (bm 11 255) ?_;refine pu_ HT_ 8 73 (bm 11 511) ?_;refine pu_ HT_ 9 74 (bm 11 1023) ?_;refine pu_ HT_ 10 2 (bm 11 2047) ?_;refine done_ (done_of HT_.out (by kernel_rfl)) ?_
         try go_wp2
         go_ret;exact⟨rr_,hB_⟩
        ·
         replace c113:=Bool.eq_false_iff.mpr c113;subst c113;rw [if_neg (show ¬ (false=true) by decide)] at H
         (try dsimp only at H)
         obtain rfl:=Option.some.inj H;obtain⟨Ao120,co120,eo120⟩:=Kd.R_slice HO_7.out;subst eo120
         try go_wp2
         replace HO_7:=a0_ (Kd.R_drew HO_7.out);replace HO_834000:=a0_ (Kd.R_drew HO_834000.out);replace HO_834001:=a0_ (Kd.N_drew HO_834001.out);replace BK833:=a0_ (blk_drew BK833.out);replace BK834:=a0_ (blk_drew BK834.out);replace BK837:=a0_ (blk_drew BK837.out);replace HB:=a0_ (below_drew1 HB.out);refine start_ (n:=11) (S:=fun w'=>True) (ds:=[]) (Array.replicate 11 false) (by kernel_rfl) rfl rfl trivial (fun hHeld=>?_);refine with_tabW laws_FnPlateFar.tab16 laws_FnPlateFar.bits16 (fun HT_ HW_=>?_);generalize wr.drew=w121 at HO_7 HO_834000 HO_834001 BK833 BK834 BK837 HB hHeld ⊢
         refine pu_ HT_ 0 65 (bm 11 1) ?_;refine pu_ HT_ 1 66 (bm 11 3) ?_;refine pz_ HT_ 2 67 (bm 11 7) ?_;refine pz_ HT_ 3 68 (bm 11 15) ?_;refine pz_ HT_ 4 69 (bm 11 31) ?_;refine pz_ HT_ 5 70 (bm 11 63) ?_;refine pz_ HT_ 6 71 (bm 11 127) ?_;refine pz_ HT_ 7 72 (bm 11 255) ?_;refine pz_ HT_ 8 73 (bm 11 511) ?_;refine pu_ HT_ 9 74 (bm 11 1023) ?_;refine pu_ HT_ 10 2 (bm 11 2047) ?_;refine done_ (done_of HT_.out (by kernel_rfl)) ?_
         try go_wp2
         go_ret;exact⟨rr_,hB_⟩
def laws_FnPlateFar.Pure:Prop:=∀ (l0:List Int),l0.length≤maxLen→l0.length*1≤140737488351232→(∀ x∈l0,(Lit.int .u8 x).wf=true)→∃ k,laws_FnPlateFar.f k l0=some true
theorem laws_FnPlateFar.walk (P:laws_FnPlateFar.Pure)(a0:Option Addr)(len0 cap0:Nat)(z0:List Int)(w:World)(hE:ErrW w)(w0:(a0=none∧len0=0∧cap0=0∧z0=[])∨∃ x,a0=some x∧len0≤cap0∧cap0≤maxLen∧z0.length=cap0∧(∀ i,i<z0.length→w.cell? (x.add i)=some (.int .u8 (z0.getD i 0)))∧∀ n∈z0,(Lit.int .u8 n).wf=true)(y0:len0*1≤140737488351232):
  Calls Tryd.prog 10 #[.slice a0 len0 cap0] w fun e w'=>e=.returned (.bool true)∧Below w.heap.size w w':=by
 obtain⟨l0,rfl,hr0,hm0,hw0,hc0⟩:=ReadsInt.ofRowC w0;obtain⟨k,h⟩:=P l0 hm0 y0 hw0;refine (laws_FnPlateFar.calls k _ _ l0 true w (Kd.C_of_reads (d:=(0:Int)) (h1:=fun _=>rfl) hr0) hc0 hE h).mono ?_;rintro e w' ⟨rfl,hd⟩;exact⟨rfl,hd⟩
end Go.Proofs.YtkefmnmoaomlhaaDoor.X
end
section
set_option linter.unusedVariables false
set_option linter.unusedSimpArgs false
namespace Go.Proofs.YtkefmnmoaomlhaaDoor.X
open Go.RowKit Go.Proofs.YtkefmnmoaomlhaaDoorW.PrintWords Go.Proofs.YtkefmnmoaomlhaaDoorW.PrintLast Go.Proofs.YtkefmnmoaomlhaaDoorW.PrintMore
open Mort (edges loopOk ptOk segOk has meet ed pairOk joined apartB)
theorem rd_es (z:List S28){i:Nat}(h:i<z.length):rd_T61 (esOf z) (i:Int)=edS z i:=esOf_getD z h
theorem seg_ends {s:S61}(h:segOk (sgP s)=true):ptOk (s.f0.f0,s.f0.f1)=true∧ptOk (s.f1.f0,s.f1.f1)=true:=⟨((Mort.segOk_iff _).1 h).1,((Mort.segOk_iff _).1 h).2.1⟩
theorem sHasS {s:S61}{x y:Int}(h:segOk (sgP s)=true)(hp:ptOk (x,y)=true):spec_l2Has.f s.f0.f0 s.f0.f1 s.f1.f0 s.f1.f1 x y=some (has (sgP s) (x,y)):=sHas (seg_ends h).1 (seg_ends h).2 hp
theorem sMeetS {s t:S61}(h:segOk (sgP s)=true)(h':segOk (sgP t)=true):spec_l2Meet.f s.f0.f0 s.f0.f1 s.f1.f0 s.f1.f1 t.f0.f0 t.f0.f1 t.f1.f0 t.f1.f1=some (meet (sgP s) (sgP t)):=sMeet (seg_ends h).1 (seg_ends h).2 (seg_ends h').1 (seg_ends h').2
theorem succ64 {i:Nat}(h:i≤100000):wrap64 ((i:Int)+1)=((i+1:Nat):Int):=by rw [w64i (by omega) (by omega)];rfl
def rowJ (l:List Mort.Pt)(i j:Nat):Bool:=decide ((j+1) % l.length=i) || !meet (ed l i) (ed l j)
def rowI (l:List Mort.Pt)(i:Nat):Bool:=joined (ed l i) (ed l ((i+1) % l.length)) && (List.range' (i+2) (l.length-(i+2))).all (rowJ l i)
section
variable (z:List S28) (h8:z.length≤8) (hall:∀ i,i<z.length→segOk (sgP (edS z i))=true)
include h8 hall
theorem loop_l2 (i:Nat)(hi:i<z.length)(R:Bool)(K:Nat)(hR:∀ k,K≤k→spec_LoopOk.l1 k (z.length:Int) (esOf z) ((i+1:Nat):Int)=some R):
  ∀ (m j k:Nat),z.length-j=m→j≤10→K+m+1≤k→spec_LoopOk.l2 k (z.length:Int) (esOf z) (i:Int) (j:Int)=some ((List.range' j m).all (rowJ (z.map ptP) i) && R):=by
 intro m
 induction m with
 | zero =>
  intro j k hm hj hk;obtain⟨k,rfl⟩:∃ q,k=q+1:=⟨k-1,by omega⟩;simp only [spec_LoopOk.l2];rw [if_neg (by omega),succ64 (by omega),hR k (by omega)];simp
 | succ m ih =>
  intro j k hm hj hk;obtain⟨k,rfl⟩:∃ q,k=q+1:=⟨k-1,by omega⟩;simp only [spec_LoopOk.l2];rw [if_pos (by omega),if_neg (by omega),succ64 (by omega)];have ht:Int.tmod ((j+1:Nat):Int) (z.length:Int)=(((j+1) % z.length:Nat):Int):=rfl;rw [ht,List.range'_succ,List.all_cons];by_cases hq:(j+1) % z.length=i
  ·
   rw [if_pos (by omega),ih (j+1) k (by omega) (by omega) (by omega)];have:rowJ (z.map ptP) i j=true:=by unfold rowJ;rw [List.length_map,decide_eq_true hq];rfl
   rw [this,Bool.true_and]
  ·
   rw [if_neg (by omega),if_pos (by omega),if_pos (by rw [esOf_len];omega),if_pos (by omega),if_pos (by rw [esOf_len];omega)];rw [rd_es z hi,rd_es z (by omega),sMeetS (hall i hi) (hall j (by omega)),Option.bind_some];have hrow:rowJ (z.map ptP) i j = !meet (sgP (edS z i)) (sgP (edS z j)):=by unfold rowJ;rw [List.length_map,decide_eq_false hq,ed_edS,ed_edS];rfl
   rw [hrow]
   cases hm2:meet (sgP (edS z i)) (sgP (edS z j)) with
   | true=>rw [if_pos rfl];simp
   | false=>rw [if_neg (by decide),ih (j+1) k (by omega) (by omega) (by omega)];simp
theorem loop_l1:∀ (m i k:Nat),z.length-i=m→i≤z.length→m*20+1≤k→spec_LoopOk.l1 k (z.length:Int) (esOf z) (i:Int)=some ((List.range' i m).all (rowI (z.map ptP))):=by
 intro m
 induction m with
 | zero =>
  intro i k hm hi hk;obtain⟨k,rfl⟩:∃ q,k=q+1:=⟨k-1,by omega⟩;simp only [spec_LoopOk.l1];rw [if_neg (by omega)];simp
 | succ m ih =>
  intro i k hm hi hk;obtain⟨k,rfl⟩:∃ q,k=q+2:=⟨k-2,by omega⟩;simp only [spec_LoopOk.l1];have hlt:=Nat.mod_lt (i+1) (show 0<z.length by omega);have ht:Int.tmod ((i+1:Nat):Int) (z.length:Int)=(((i+1) % z.length:Nat):Int):=rfl;rw [if_pos (by omega),if_pos (by omega),if_pos (by rw [esOf_len];omega),if_neg (by omega),succ64 (by omega),ht,if_pos (by omega),if_pos (by rw [esOf_len];omega)];rw [rd_es z (by omega:i<z.length),rd_es z hlt];generalize hq:(i+1) % z.length=q at hlt;have o1:=hall i (by omega);have o2:=hall q hlt;rw [sHasS o1 (seg_ends o2).2,Option.bind_some,sHasS o2 (seg_ends o1).1,Option.bind_some];have hrow:rowI (z.map ptP) i=((!has (sgP (edS z i)) (sgP (edS z q)).2 && !has (sgP (edS z q)) (sgP (edS z i)).1) && (List.range' (i+2) (z.length-(i+2))).all (rowJ (z.map ptP) i)):=by
   unfold rowI joined;rw [List.length_map,hq,ed_edS,ed_edS]
  have e2:(ptP (edS z q).f1)=((edS z q).f1.f0,(edS z q).f1.f1):=rfl;rw [List.range'_succ,List.all_cons,hrow]
  show (if has (sgP (edS z i)) (sgP (edS z q)).2=true then _ else spec_LoopOk.j2 (k+1) _ _ _ (has (sgP (edS z q)) (sgP (edS z i)).1))=_
  cases has (sgP (edS z i)) (sgP (edS z q)).2 with
  | true=>rw [if_pos rfl];simp only [spec_LoopOk.j2];simp
  | false =>
   rw [if_neg (by decide)];simp only [spec_LoopOk.j2]
   cases has (sgP (edS z q)) (sgP (edS z i)).1 with
   | true=>rw [if_pos rfl];simp
   | false =>
    rw [if_neg (by decide)];have hw:wrap64 ((i:Int)+2)=((i+2:Nat):Int):=by rw [w64i (by omega) (by omega)];rfl
    rw [hw,loop_l2 z h8 hall i (by omega) _ (m*20+1) (fun k hk=>ih (i+1) k (by omega) (by omega) hk) (z.length-(i+2)) (i+2) k rfl (by omega) (by omega)];simp
end
theorem loop_l0 (z:List S28)(h8:z.length≤8):∀ (m i k:Nat),z.length-i=m→i≤z.length→m+200≤k→(∀ j,j<i→segOk (sgP (edS z j))=true) →
  spec_LoopOk.l0 k (z.length:Int) (esOf z) (i:Int)=some ((List.range' i m).all (fun j=>segOk (sgP (edS z j))) && (List.range' 0 z.length).all (rowI (z.map ptP))):=by
 intro m
 induction m with
 | zero =>
  intro i k hm hi hk hp;obtain⟨k,rfl⟩:∃ q,k=q+1:=⟨k-1,by omega⟩;simp only [spec_LoopOk.l0];rw [if_neg (by omega),show (0:Int)=((0:Nat):Int) from rfl,loop_l1 z h8 (fun j hj=>hp j (by omega)) z.length 0 k (by omega) (by omega) (by omega)];simp
 | succ m ih =>
  intro i k hm hi hk hp;obtain⟨k,rfl⟩:∃ q,k=q+1:=⟨k-1,by omega⟩;simp only [spec_LoopOk.l0];rw [if_pos (by omega),if_pos (by omega),if_pos (by rw [esOf_len];omega),rd_es z (by omega:i<z.length),sSegOk,Option.bind_some,List.range'_succ,List.all_cons]
  show (if segOk (sgP (edS z i))=true then _ else _)=_
  cases ho:segOk (sgP (edS z i)) with
  | true =>
   rw [if_pos rfl,succ64 (by omega),ih (i+1) k (by omega) (by omega) (by omega) (fun j hj=>by
    by_cases hji:j=i
    ·
     rw [hji];exact ho
    ·
     exact hp j (by omega))]
   simp
  | false=>rw [if_neg (by decide)];simp
theorem rows_pairs (l:List Mort.Pt)(h3:3≤l.length):(List.range' 0 l.length).all (rowI l)=(List.range l.length).all fun i=>(List.range l.length).all fun j=>pairOk l i j:=by
 rw [Bool.eq_iff_iff];simp only [List.all_eq_true,List.mem_range'_1,List.mem_range];constructor
 ·
  intro h i hi j hj;have row:∀ i,i<l.length→joined (ed l i) (ed l ((i+1) % l.length))=true∧∀ j,i+2≤j→j<l.length→rowJ l i j=true:=fun i hi=>by
   have:=h i ⟨by omega,by omega⟩;unfold rowI at this;simp only [Bool.and_eq_true,List.all_eq_true,List.mem_range'_1] at this;exact⟨this.1,fun j h1 h2=>this.2 j ⟨h1,by omega⟩⟩
  unfold pairOk;by_cases h1:j≤i
  ·
   rw [if_pos h1]
  ·
   rw [if_neg h1];by_cases h2:j=i+1
   ·
    rw [if_pos h2];have:=(row i hi).1
    rwa [Nat.mod_eq_of_lt (by omega),← h2] at this
   ·
    rw [if_neg h2];by_cases h4:i=0∧j+1=l.length
    ·
     rw [if_pos h4];have:=(row j hj).1
     rwa [h4.2,Nat.mod_self,← h4.1] at this
    ·
     rw [if_neg h4];have:=(row i hi).2 j (by omega) hj;unfold rowJ at this;have hne:(j+1) % l.length≠i:=by
      intro e;by_cases hj2:j+1<l.length
      ·
       rw [Nat.mod_eq_of_lt hj2] at e;omega
      ·
       have e2:j+1=l.length:=by omega
       rw [e2,Nat.mod_self] at e;exact h4 ⟨e.symm,e2⟩
     rwa [decide_eq_false hne,Bool.false_or] at this
 ·
  intro h i hi;have hi2:i<l.length:=by omega
  unfold rowI;simp only [Bool.and_eq_true,List.all_eq_true,List.mem_range'_1];refine⟨?_,fun j hj=>?_⟩
  ·
   by_cases h1:i+1<l.length
   ·
    have:=h i hi2 (i+1) h1;unfold pairOk at this;rw [if_neg (by omega),if_pos rfl] at this
    rwa [Nat.mod_eq_of_lt h1]
   ·
    have e2:i+1=l.length:=by omega
    have:=h 0 (by omega) i hi2;unfold pairOk at this;rw [if_neg (by omega),if_neg (by omega),if_pos ⟨rfl,e2⟩] at this
    rwa [e2,Nat.mod_self]
  ·
   unfold rowJ;by_cases hq:(j+1) % l.length=i
   ·
    rw [decide_eq_true hq];rfl
   ·
    rw [decide_eq_false hq,Bool.false_or];have:=h i hi2 j (by omega);unfold pairOk at this;rw [if_neg (by omega),if_neg (by omega),if_neg (fun e=>hq (by rw [e.2,Nat.mod_self];exact e.1.symm))] at this;exact this
theorem sLoopOk {k:Nat}(hk:300≤k)(z:List S28):spec_LoopOk.f k z=some (loopOk (z.map ptP)):=by
 unfold spec_LoopOk.f loopOk;rw [l6In_told,Option.bind_some,List.length_map];have e0:(decide (3≤(z.length:Int)) && decide ((z.length:Int)≤8))=(decide (3≤z.length) && decide (z.length≤8)):=by
  congr 1
  ·
   rw [decide_eq_decide];omega
  ·
   rw [decide_eq_decide];omega
 rw [e0];by_cases hn:3≤z.length∧z.length≤8
 ·
  rw [decide_eq_true hn.1,decide_eq_true hn.2,Bool.and_self,if_pos rfl,sEdges (by omega) (by omega),Option.bind_some,Bool.true_and,show (0:Int)=((0:Nat):Int) from rfl,loop_l0 z hn.2 z.length 0 k (by omega) (by omega) (by omega) (fun j hj=>by omega)];have h3:=rows_pairs (z.map ptP) (by rw [List.length_map];exact hn.1);rw [List.length_map] at h3;rw [h3,Mort.edges_eq,List.length_map,List.all_map,List.range_eq_range']
  congr 3
  funext i
  show _=segOk (ed (z.map ptP) i)
  rw [ed_edS]
 ·
  have:(decide (3≤z.length) && decide (z.length≤8))=false:=by
   by_cases h1:3≤z.length
   ·
    rw [decide_eq_false (show ¬ z.length≤8 from fun h2=>hn ⟨h1,h2⟩),Bool.and_false]
   ·
    rw [decide_eq_false h1,Bool.false_and]
  rw [this,if_neg (by decide),Bool.false_and]
theorem ok_facts {z:List S28}(h:loopOk (z.map ptP)=true):3≤z.length∧z.length≤8∧∀ i,i<z.length→segOk (sgP (edS z i))=true:=by
 obtain⟨h1,h2,h3,_⟩:=(Mort.loopOk_iff _).1 h;rw [List.length_map] at h1 h2;refine⟨h1,h2,fun i hi=>?_⟩;have:=h3 _ (Mort.mem_edges.2 ⟨i,by simpa using hi,rfl⟩)
 rwa [ed_edS] at this
theorem apart_l1 (a b:List S28)(ha:loopOk (a.map ptP)=true)(hb:loopOk (b.map ptP)=true)(i:Nat)(hi:i<a.length)(R:Bool)(K:Nat)(hR:∀ k,K≤k→spec_l11Apart.l0 k (esOf a) (esOf b) ((i+1:Nat):Int)=some R):
  ∀ (m j k:Nat),b.length-j=m→j≤b.length→K+m+1≤k→spec_l11Apart.l1 k (esOf a) (esOf b) (i:Int) (j:Int)=some ((List.range' j m).all (fun j => !meet (sgP (edS a i)) (sgP (edS b j))) && R):=by
 obtain⟨a3,a8,aok⟩:=ok_facts ha;obtain⟨b3,b8,bok⟩:=ok_facts hb;intro m
 induction m with
 | zero =>
  intro j k hm hj hk;obtain⟨k,rfl⟩:∃ q,k=q+1:=⟨k-1,by omega⟩;simp only [spec_l11Apart.l1];rw [if_neg (by rw [esOf_len];omega),succ64 (by omega),hR k (by omega)];simp
 | succ m ih =>
  intro j k hm hj hk;obtain⟨k,rfl⟩:∃ q,k=q+1:=⟨k-1,by omega⟩;simp only [spec_l11Apart.l1];rw [if_pos (by rw [esOf_len];omega),if_pos (by omega),if_pos (by rw [esOf_len];omega),if_pos (by omega),rd_es a hi,rd_es b (by omega),sMeetS (aok i hi) (bok j (by omega)),Option.bind_some,List.range'_succ,List.all_cons]
  cases meet (sgP (edS a i)) (sgP (edS b j)) with
  | true=>rw [if_pos rfl];simp
  | false=>rw [if_neg (by decide),succ64 (by omega),ih (j+1) k (by omega) (by omega) (by omega)];simp
theorem apart_l0 (a b:List S28)(ha:loopOk (a.map ptP)=true)(hb:loopOk (b.map ptP)=true):
  ∀ (m i k:Nat),a.length-i=m→i≤a.length→m*20+1≤k→spec_l11Apart.l0 k (esOf a) (esOf b) (i:Int)=some ((List.range' i m).all (fun i=>(List.range' 0 b.length).all (fun j => !meet (sgP (edS a i)) (sgP (edS b j))))):=by
 obtain⟨a3,a8,aok⟩:=ok_facts ha;obtain⟨b3,b8,bok⟩:=ok_facts hb;intro m
 induction m with
 | zero =>
  intro i k hm hi hk;obtain⟨k,rfl⟩:∃ q,k=q+1:=⟨k-1,by omega⟩;simp only [spec_l11Apart.l0];rw [if_neg (by rw [esOf_len];omega)];simp
 | succ m ih =>
  intro i k hm hi hk;obtain⟨k,rfl⟩:∃ q,k=q+1:=⟨k-1,by omega⟩;simp only [spec_l11Apart.l0]
  rw [if_pos (by rw [esOf_len];omega),List.range'_succ,List.all_cons,show (0:Int)=((0:Nat):Int) from rfl,
   apart_l1 a b ha hb i (by omega) _ (m*20+1) (fun k hk=>ih (i+1) k (by omega) (by omega) hk) b.length 0 k (by omega) (by omega) (by omega)]
theorem sApart {k:Nat}(hk:300≤k){a b:List S28}(ha:loopOk (a.map ptP)=true)(hb:loopOk (b.map ptP)=true):spec_l11Apart.f k a b=some (apartB (a.map ptP) (b.map ptP)):=by
 obtain⟨a3,a8,aok⟩:=ok_facts ha;obtain⟨b3,b8,bok⟩:=ok_facts hb;unfold spec_l11Apart.f apartB;rw [sEdges (by omega) (by omega),sEdges (by omega) (by omega),Option.bind_some,Option.bind_some,show (0:Int)=((0:Nat):Int) from rfl,apart_l0 a b ha hb a.length 0 k (by omega) (by omega) (by omega)];rw [Mort.edges_eq (a.map ptP),Mort.edges_eq (b.map ptP),List.length_map,List.length_map,List.all_map,List.range_eq_range']
 congr 2
 funext i
 show _=((List.range b.length).map (ed (b.map ptP))).all _
 rw [List.all_map,List.range_eq_range']
 congr 1
 funext j
 show _ = !meet (ed (a.map ptP) i) (ed (b.map ptP) j)
 rw [ed_edS,ed_edS]
end Go.Proofs.YtkefmnmoaomlhaaDoor.X
end
section
set_option linter.unusedVariables false
set_option linter.unusedSimpArgs false
namespace Mort
theorem par_below {l:List Pt}{x y:Rat}(h:par l x y=true):∃ v∈l,y<(v.2:Rat):=by
 have h1:∃ e∈edges l,crsQ e.1.1 e.1.2 e.2.1 e.2.2 x y=true:=by
  refine Classical.byContradiction fun hn=>?_
  have:par l x y=xorAll ((edges l).map fun _=>false):=xorAll_congr fun e he=>by
   cases hc:crsQ e.1.1 e.1.2 e.2.1 e.2.2 x y with
   | true=>exact absurd ⟨e,he,hc⟩ hn
   | false=>rfl
  rw [this] at h;have:∀ (m:List Seg),xorAll (m.map fun _=>false)=false:=fun m=>by
   induction m with
   | nil=>rfl
   | cons a m ih=>rw [List.map_cons];unfold xorAll;rw [ih];rfl
  rw [this] at h;cases h
 obtain⟨e,he,hc⟩:=h1;obtain⟨i,hi,rfl⟩:=mem_edges.1 he;have m1:(ed l i).1∈l:=by
  unfold ed;simp only;rw [List.getD_eq_getElem?_getD,List.getElem?_eq_getElem hi];exact List.getElem_mem hi
 have hq:=Nat.mod_lt (i+1) (show 0<l.length by omega);have m2:(ed l i).2∈l:=by
  unfold ed;simp only;rw [List.getD_eq_getElem?_getD,List.getElem?_eq_getElem hq];exact List.getElem_mem hq
 unfold crsQ at hc;simp only [Bool.or_eq_true,Bool.and_eq_true,decide_eq_true_eq] at hc
 rcases hc with hc | hc
 ·
  exact⟨_,m2,hc.2.1⟩
 ·
  exact⟨_,m1,hc.2.1⟩
theorem inOf_below {l:List Pt}{p:Pt}(h:inOf l p=1):∃ v∈l,p.2<v.2:=by
 have hp:par l p.1 p.2=true:=by
  unfold inOf at h
  split at h
  ·
   omega
  ·
   split at h
   ·
    assumption
   ·
    omega
 obtain⟨v,hv,hlt⟩:=par_below hp;exact⟨v,hv,by exact_mod_cast hlt⟩
theorem vertex_on {l:List Pt}{v:Pt}(h:v∈l):onB l v=true:=by
 obtain⟨i,hi,rfl⟩:=List.getElem_of_mem h;refine (onB_iff l _).2 ⟨ed l i,mem_edges.2 ⟨i,hi,rfl⟩,?_⟩;have:(ed l i).1=l[i]:=by unfold ed;simp only;rw [List.getD_eq_getElem?_getD,List.getElem?_eq_getElem hi];rfl
 rw [← this];exact (has_ends _).1
theorem has_max {l:List Pt}(h:0<l.length):∃ v∈l,∀ u∈l,u.2≤v.2:=by
 induction l with
 | nil=>simp at h
 | cons a m ih =>
  by_cases hm:0<m.length
  ·
   obtain⟨v,hv,hx⟩:=ih hm;by_cases hc:v.2≤a.2
   ·
    refine⟨a,List.mem_cons_self,fun u hu=>?_⟩
    rcases List.mem_cons.1 hu with rfl | hu
    ·
     omega
    ·
     have:=hx u hu;omega
   ·
    refine⟨v,List.mem_cons_of_mem _ hv,fun u hu=>?_⟩
    rcases List.mem_cons.1 hu with rfl | hu
    ·
     omega
    ·
     exact hx u hu
  ·
   obtain rfl:m=[]:=List.eq_nil_of_length_eq_zero (by omega);exact⟨a,List.mem_cons_self,fun u hu=>by rw [List.mem_singleton] at hu;rw [hu];omega⟩
theorem PlateGood.on_outer {P:Plate}(g:PlateGood P){h:List Pt}(hh:h∈P.2){p:Pt}(hp:onB P.1 p=true):inOf h p = -1:=by
 have hl:=g.holes h hh;have same:∀ q,onB P.1 q=true→inOf h q=inOf h (P.1.getD 0 (0,0)):=fun q hq=>on_inOf (ndl_of_ok hl) (ndl_of_ok g.outer) (by rw [apartB_comm];exact g.away h hh) (loop_pos g.outer) hq
 rw [same p hp]
 rcases inOf_vals h (P.1.getD 0 (0,0)) with e | e | e
 ·
  exfalso
  have h1:=(inOf_zero h _).1 e;have h2:=g.on_hole hh h1;have h3:=(inOf_zero P.1 (P.1.getD 0 (0,0))).2 (first_on (loop_pos g.outer));omega
 ·
  exfalso
  obtain⟨v,hv,hmax⟩:=has_max (loop_pos g.outer);have h1:inOf h v=1:=(same v (vertex_on hv)).trans e;obtain⟨u,hu,hlt⟩:=inOf_below h1;have h2:=g.on_hole hh (vertex_on hu);obtain⟨t,ht,hlt2⟩:=inOf_below h2;have:=hmax t ht;omega
 ·
  exact e
theorem plateInOf_spec {P:Plate}(g:PlateGood P)(p:Pt):
  (inOf P.1 p=0→plateInOf P p=0∧∀ h∈P.2,inOf h p = -1)∧((∃ h∈P.2,inOf h p=0)→plateInOf P p=0∧inOf P.1 p=1) ∧
  (inOf P.1 p≠0→(∀ h∈P.2,inOf h p≠0)→plateInOf P p=if inOf P.1 p=1∧∀ h∈P.2,inOf h p = -1 then 1 else -1):=by
 refine⟨fun h0=>?_,fun⟨h,hh,h0⟩=>?_,fun h0 h1=>?_⟩
 ·
  have hon:=(inOf_zero _ _).1 h0;refine⟨?_,fun h hh=>g.on_outer hh hon⟩;unfold plateInOf plateOn;rw [hon,Bool.true_or,if_pos rfl]
 ·
  have hon:=(inOf_zero _ _).1 h0;refine⟨?_,g.on_hole hh hon⟩;have:plateOn P p=true:=by unfold plateOn;rw [Bool.or_eq_true,List.any_eq_true];exact .inr ⟨h,hh,hon⟩
  unfold plateInOf;rw [this,if_pos rfl]
 ·
  have:plateOn P p=false:=by
   unfold plateOn;rw [Bool.or_eq_false_iff];refine⟨?_,?_⟩
   ·
    cases hc:onB P.1 p with
    | true=>exact absurd ((inOf_zero _ _).2 hc) h0
    | false=>rfl
   ·
    rw [List.any_eq_false];intro h hh hc;exact h1 h hh ((inOf_zero _ _).2 hc)
  unfold plateInOf;rw [this,if_neg (by decide)];unfold plateInB;by_cases hq:inOf P.1 p=1∧∀ h∈P.2,inOf h p = -1
  ·
   rw [if_pos hq,if_pos];rw [Bool.and_eq_true,List.all_eq_true];exact⟨beq_iff_eq.2 hq.1,fun h hh=>beq_iff_eq.2 (hq.2 h hh)⟩
  ·
   rw [if_neg hq,if_neg];rw [Bool.and_eq_true,List.all_eq_true];exact fun e=>hq ⟨beq_iff_eq.1 e.1,fun h hh=>beq_iff_eq.1 (e.2 h hh)⟩
end Mort
namespace Go.Proofs.YtkefmnmoaomlhaaDoor.X
open Go.RowKit Go.Proofs.YtkefmnmoaomlhaaDoorW.PrintWords Go.Proofs.YtkefmnmoaomlhaaDoorW.PrintLast Go.Proofs.YtkefmnmoaomlhaaDoorW.PrintMore
open Mort (edges loopOk ptOk segOk has meet ed pairOk joined apartB plateOk plateInOf plateIn PlateGood inOf segMeet)
def pl (o:List S28)(H:List (List S28)):Mort.Plate:=(o.map ptP,H.map (List.map ptP))
theorem fst_pt (z:List S28):(z.map ptP).getD 0 (0,0)=fstP z:=ptP_getD z 0
theorem apart_ix (a b:List S28):apartB (a.map ptP) (b.map ptP)=true ↔ ∀ i,i<a.length→∀ j,j<b.length→meet (sgP (edS a i)) (sgP (edS b j))=false:=by
 rw [Mort.apartB_iff];constructor
 ·
  intro h i hi j hj;rw [← ed_edS,← ed_edS];exact h _ (Mort.mem_edges.2 ⟨i,by simpa using hi,rfl⟩) _ (Mort.mem_edges.2 ⟨j,by simpa using hj,rfl⟩)
 ·
  intro h e he f hf;obtain⟨i,hi,rfl⟩:=Mort.mem_edges.1 he;obtain⟨j,hj,rfl⟩:=Mort.mem_edges.1 hf;rw [ed_edS,ed_edS];exact h i (by simpa using hi) j (by simpa using hj)
theorem meetsB_eq {a b:List S28}(ha:loopOk (a.map ptP)=true)(hb:loopOk (b.map ptP)=true):(!meetsB a b)=apartB (a.map ptP) (b.map ptP):=by
 obtain⟨_,_,aok⟩:=ok_facts ha;obtain⟨_,_,bok⟩:=ok_facts hb;rw [Bool.eq_iff_iff,apart_ix];unfold meetsB;rw [Bool.not_eq_true',List.any_eq_false];constructor
 ·
  intro h i hi j hj;have h1:=h ⟨i,hi⟩ (List.mem_finRange _);rw [Bool.not_eq_true,List.any_eq_false] at h1;have h2:=h1 ⟨j,hj⟩ (List.mem_finRange _)
  cases hm:meet (sgP (edS a i)) (sgP (edS b j)) with
  | false=>rfl
  | true=>exact absurd ((Mort.segMeet_iff _ _).2 ⟨aok i hi,bok j hj,hm⟩) h2
 ·
  intro h i _ h1;rw [List.any_eq_true] at h1;obtain⟨j,_,h2⟩:=h1;have:=h i i.2 j j.2;rw [((Mort.segMeet_iff _ _).1 h2).2.2] at this;cases this
theorem iBodyOk (o:List S28)(H:List (List S28)):bodyOkB o H=plateOk (pl o H):=by
 unfold bodyOkB plateOk pl Mort.nested;simp only [List.length_map]
 match H with
 | [] =>
  simp only [List.length_nil,List.all_nil,List.map_nil,apartAll,nestedAll,List.range'_zero,Bool.and_true,Bool.true_and]
 | [a] =>
  simp only [List.length_cons,List.length_nil,List.all_cons,List.all_nil,List.map_cons,List.map_nil,apartAll,nestedAll,List.range'_succ,List.range'_zero,rowN,okN,Bool.and_true,Bool.true_and,fst_pt,inS,List.getD_cons_zero,beq_self_eq_true,Bool.true_or];cases ho:loopOk (o.map ptP) <;> cases ha:loopOk (a.map ptP) <;> try rfl
  rw [meetsB_eq ho ha];simp [Nat.zero_le]
 | [a,b] =>
  simp only [List.length_cons,List.length_nil,List.all_cons,List.all_nil,List.map_cons,List.map_nil,apartAll,nestedAll,List.range'_succ,List.range'_zero,rowN,okN,Bool.and_true,Bool.true_and,fst_pt,inS,List.getD_cons_zero,List.getD_cons_succ,beq_self_eq_true,Bool.true_or];cases ho:loopOk (o.map ptP) <;> cases ha:loopOk (a.map ptP) <;> cases hb:loopOk (b.map ptP) <;> try rfl
  rw [meetsB_eq ho ha,meetsB_eq ho hb,meetsB_eq ha hb];generalize apartB (o.map ptP) (a.map ptP)=t1;generalize apartB (o.map ptP) (b.map ptP)=t2;generalize apartB (a.map ptP) (b.map ptP)=t3;generalize (inOf (o.map ptP) (fstP a)==1)=t4;generalize (inOf (o.map ptP) (fstP b)==1)=t5;generalize (inOf (b.map ptP) (fstP a) == -1)=t6;generalize (inOf (a.map ptP) (fstP b) == -1)=t7;cases t1 <;> cases t2 <;> cases t3 <;> cases t4 <;> cases t5 <;> cases t6 <;> cases t7 <;> rfl
 | a::b::c::r =>
  rw [decide_eq_false (by simp only [List.length_cons];omega)];rfl
theorem good_of {o:List S28}{H:List (List S28)}(h:plateOk (pl o H)=true):PlateGood (pl o H):=(Mort.plateOk_iff _).1 h
theorem runIn_eq {o:List S28}{H:List (List S28)}(h:plateOk (pl o H)=true)(p:Mort.Pt):runIn p (inS o p) H=plateInOf (pl o H) p:=by
 obtain⟨s1,s2,s3⟩:=Mort.plateInOf_spec (good_of h) p;have gen:∀ (R:List (List S28)) (x:Int),runIn p x R=if (∃ z∈R,inS z p=0) then 0 else if (∃ z∈R,inS z p=1) then -1 else x:=by
  intro R
  induction R with
  | nil=>intro x;simp [runIn]
  | cons z R ih =>
   intro x;rw [runIn_cons,ih];by_cases h0:inS z p=0
   ·
    rw [if_pos h0,if_pos ⟨z,List.mem_cons_self,h0⟩]
   ·
    rw [if_neg h0];have e0:(∃ y∈z::R,inS y p=0) ↔ ∃ y∈R,inS y p=0:=by simp [h0]
    by_cases hR0:∃ y∈R,inS y p=0
    ·
     rw [if_pos hR0,if_pos (e0.2 hR0)]
    ·
     rw [if_neg hR0,if_neg (fun q=>hR0 (e0.1 q))];by_cases h1:inS z p=1
     ·
      rw [if_pos h1,if_pos (show ∃ y∈z::R,inS y p=1 from ⟨z,List.mem_cons_self,h1⟩)]
      split <;> rfl
     ·
      have e1:(∃ y∈z::R,inS y p=1) ↔ ∃ y∈R,inS y p=1:=by simp [h1]
      rw [if_neg h1];by_cases hR1:∃ y∈R,inS y p=1
      ·
       rw [if_pos hR1,if_pos (e1.2 hR1)]
      ·
       rw [if_neg hR1,if_neg (fun q=>hR1 (e1.1 q))]
 have mem:∀ z∈H,z.map ptP∈(pl o H).2:=fun z hz=>List.mem_map_of_mem hz
 rw [gen];by_cases h0:∃ z∈H,inS z p=0
 ·
  rw [if_pos h0];obtain⟨z,hz,e⟩:=h0;exact (s2 ⟨_,mem z hz,e⟩).1.symm
 ·
  rw [if_neg h0];have all0:∀ y∈(pl o H).2,inOf y p≠0:=by
   intro y hy e;obtain⟨z,hz,rfl⟩:=List.mem_map.1 hy;exact h0 ⟨z,hz,e⟩
  have ho:(pl o H).1=o.map ptP:=rfl;by_cases h1:∃ z∈H,inS z p=1
  ·
   rw [if_pos h1];obtain⟨z,hz,e⟩:=h1;have e':inOf (z.map ptP) p=1:=e;by_cases hq:inOf (pl o H).1 p=0
   ·
    have:=(s1 hq).2 _ (mem z hz);omega
   ·
    rw [s3 hq all0,if_neg];intro hh;have:=hh.2 _ (mem z hz);omega
  ·
   rw [if_neg h1];have allm:∀ y∈(pl o H).2,inOf y p = -1:=by
    intro y hy;have h2:=all0 y hy;obtain⟨z,hz,rfl⟩:=List.mem_map.1 hy
    rcases Mort.inOf_vals (z.map ptP) p with e | e | e
    ·
     exact absurd e h2
    ·
     exact absurd ⟨z,hz,e⟩ h1
    ·
     exact e
   show inOf (pl o H).1 p=_
   by_cases hq:inOf (pl o H).1 p=0
   ·
    rw [(s1 hq).1,hq]
   ·
    rw [s3 hq all0]
    rcases Mort.inOf_vals (pl o H).1 p with e | e | e
    ·
     exact absurd e hq
    ·
     rw [if_pos ⟨e,allm⟩,e]
    ·
     rw [if_neg (by omega),e]
theorem iPlateIn (o:List S28)(H:List (List S28))(x y:Int):impl_PlateIn.f o H x y=some (plateIn (pl o H) (x,y)):=by
 unfold impl_PlateIn.f plateIn;rw [iBodyOk]
 cases h:plateOk (pl o H) with
 | false=>rfl
 | true =>
  cases hp:ptOk (x,y) with
  | false=>rfl
  | true=>rw [runIn_eq h]
end Go.Proofs.YtkefmnmoaomlhaaDoor.X
end
section
set_option linter.unusedVariables false
set_option linter.unusedSimpArgs false
namespace Go.Proofs.YtkefmnmoaomlhaaDoor.X
open Go.RowKit Go.Proofs.YtkefmnmoaomlhaaDoorW.PrintWords Go.Proofs.YtkefmnmoaomlhaaDoorW.PrintLast Go.Proofs.YtkefmnmoaomlhaaDoorW.PrintMore
open Mort (edges loopOk ptOk segOk has meet ed pairOk joined apartB plateOk plateInOf plateIn PlateGood inOf segMeet)
theorem fst_ok {z:List S28}(h:loopOk (z.map ptP)=true):ptOk ((rd_T28 z 0).f0,(rd_T28 z 0).f1)=true:=by
 obtain⟨h3,_,hok⟩:=ok_facts h;exact (seg_ends (hok 0 (by omega))).1
theorem sL3In {z:List S28}{x y:Int}(h:loopOk (z.map ptP)=true)(hp:ptOk (x,y)=true):spec_l3In.f z x y=some (inOf (z.map ptP) (x,y)):=by
 unfold spec_l3In.f;rw [if_pos ⟨h,hp⟩]
theorem sL3Fst {z a:List S28}(h:loopOk (z.map ptP)=true)(ha:loopOk (a.map ptP)=true):spec_l3In.f z (rd_T28 a 0).f0 (rd_T28 a 0).f1=some (inOf (z.map ptP) (fstP a)):=sL3In h (fst_ok ha)
def holeOk (o a:List S28):Bool:=loopOk (a.map ptP) && (inOf (o.map ptP) (fstP a)==1 && apartB (o.map ptP) (a.map ptP))
def pairH (a b:List S28):Bool:=apartB (a.map ptP) (b.map ptP) && (inOf (b.map ptP) (fstP a) == -1 && inOf (a.map ptP) (fstP b) == -1)
theorem plate_hole {o:List S28}{H:List (List S28)}(ho:loopOk (o.map ptP)=true)(i:Nat)(hi:i<H.length){k:Nat}(hk:300≤k):
  spec_PlateOk.l0 (k+2) (i:Int) o H=if holeOk o (rd_L5 H (i:Int)) then spec_PlateOk.l1 k (i:Int) (rd_L5 H (i:Int)) 0 o H else some false:=by
 simp only [spec_PlateOk.l0];rw [if_pos (by omega),if_pos (by omega),sLoopOk (by omega),Option.bind_some];generalize rd_L5 H (i:Int)=a;unfold holeOk
 cases ha:loopOk (a.map ptP) with
 | false=>rw [if_neg (by decide)];simp only [spec_PlateOk.j2];simp
 | true =>
  obtain⟨h3,_,_⟩:=ok_facts ha;rw [if_pos rfl,if_pos (by omega),sL3Fst ho ha,Option.bind_some];by_cases h1:inOf (o.map ptP) (fstP a)=1
  ·
   rw [if_pos h1,sApart (by omega) ho ha,Option.bind_some];simp only [spec_PlateOk.j2];rw [h1];cases apartB (o.map ptP) (a.map ptP) <;> simp
  ·
   rw [if_neg h1,beq_eq_false_iff_ne.2 h1];simp only [spec_PlateOk.j2];simp
theorem sPlateOk {k:Nat}(hk:1000≤k)(o:List S28)(H:List (List S28)):spec_PlateOk.f k o H=some (plateOk (pl o H)):=by
 unfold spec_PlateOk.f;rw [sLoopOk (by omega),Option.bind_some];obtain⟨k,rfl⟩:∃ q,k=q+10:=⟨k-10,by omega⟩
 cases ho:loopOk (o.map ptP) with
 | false =>
  rw [if_neg (by decide)];simp only [spec_PlateOk.j0];unfold plateOk pl;simp only;rw [ho];simp
 | true =>
  rw [if_pos rfl];by_cases h2:H.length≤2
  ·
   rw [decide_eq_false (by omega)];simp only [spec_PlateOk.j0];rw [if_neg (by decide)];unfold plateOk pl Mort.nested;simp only [List.length_map];rw [ho,decide_eq_true h2]
   match H,h2 with
   | [],_=>simp only [spec_PlateOk.l0];simp
   | [a],_ =>
    refine Eq.trans (show spec_PlateOk.l0 (k+9) 0 o [a]=_ from plate_hole (k:=k+7) ho 0 (by simp) (by omega)) ?_;have e1:spec_PlateOk.l1 (k+7) ((0:Nat):Int) a 0 o [a]=some true:=by
     simp only [spec_PlateOk.l1];rw [if_neg (by omega),show wrap64 (((0:Nat):Int)+1)=1 by unfold wrap64;omega];simp only [spec_PlateOk.l0];rw [if_neg (by simp)]
    show (if holeOk o a then spec_PlateOk.l1 (k+7) ((0:Nat):Int) a 0 o [a] else _)=_
    rw [e1];unfold holeOk;simp only [List.map_cons,List.map_nil,List.all_cons,List.all_nil,Bool.and_true,Bool.true_and,fst_pt];generalize loopOk (a.map ptP)=t1;generalize (inOf (o.map ptP) (fstP a)==1)=t2;generalize apartB (o.map ptP) (a.map ptP)=t3;cases t1 <;> cases t2 <;> cases t3 <;> rfl
   | [a,b],_ =>
    refine Eq.trans (show spec_PlateOk.l0 (k+9) 0 o [a,b]=_ from plate_hole (k:=k+7) ho 0 (by simp) (by omega)) ?_;have e1:spec_PlateOk.l1 (k+7) ((0:Nat):Int) a 0 o [a,b]=if holeOk o b then spec_PlateOk.l1 (k+4) ((1:Nat):Int) b 0 o [a,b] else some false:=by
     simp only [spec_PlateOk.l1];rw [if_neg (by omega),show wrap64 (((0:Nat):Int)+1)=((1:Nat):Int) by unfold wrap64;omega,plate_hole (k:=k+4) ho 1 (by simp) (by omega)];rfl
    show (if holeOk o a then spec_PlateOk.l1 (k+7) ((0:Nat):Int) a 0 o [a,b] else _)=_
    rw [e1];have hp:holeOk o a=true→holeOk o b=true→spec_PlateOk.l1 (k+4) ((1:Nat):Int) b 0 o [a,b]=some (pairH b a):=by
     intro h1 h2;have ha:loopOk (a.map ptP)=true:=by unfold holeOk at h1;cases h:loopOk (a.map ptP) with | true=>rfl | false=>rw [h] at h1;cases h1
     have hb:loopOk (b.map ptP)=true:=by unfold holeOk at h2;cases h:loopOk (b.map ptP) with | true=>rfl | false=>rw [h] at h2;cases h2
     obtain⟨a3,_,_⟩:=ok_facts ha;obtain⟨b3,_,_⟩:=ok_facts hb;simp only [spec_PlateOk.l1];rw [if_pos (by omega),if_pos (by omega),if_pos (by simp)];rw [show rd_L5 [a,b] 0=a from rfl,sApart (by omega) hb ha,Option.bind_some];unfold pairH
     cases apartB (b.map ptP) (a.map ptP) with
     | false=>rw [if_neg (by decide)];rfl
     | true =>
      rw [if_pos rfl,if_pos (by omega),sL3Fst ha hb,Option.bind_some];by_cases e1:inOf (a.map ptP) (fstP b) = -1
      ·
       rw [if_pos e1,if_pos (by omega),sL3Fst hb ha,Option.bind_some,e1];by_cases e2:inOf (b.map ptP) (fstP a) = -1
       ·
        rw [if_pos e2,e2];have hw0:wrap64 (0+1)=1:=by unfold wrap64;omega
        rw [hw0,if_neg (by omega)];have hw2:wrap64 (((1:Nat):Int)+1)=2:=by unfold wrap64;omega
        rw [hw2];simp only [spec_PlateOk.l0];rw [if_neg (by simp)];rfl
       ·
        rw [if_neg e2,beq_eq_false_iff_ne.2 e2];rfl
      ·
       rw [if_neg e1,beq_eq_false_iff_ne.2 e1];rfl
    have hc:=Mort.apartB_comm (a.map ptP) (b.map ptP);simp only [List.map_cons,List.map_nil,List.all_cons,List.all_nil,Bool.and_true,Bool.true_and,fst_pt]
    cases h1:holeOk o a with
    | false =>
     rw [if_neg (by decide)];unfold holeOk at h1;revert h1;generalize loopOk (a.map ptP)=t1;generalize (inOf (o.map ptP) (fstP a)==1)=t2;generalize apartB (o.map ptP) (a.map ptP)=t3;intro h1;cases t1 <;> cases t2 <;> cases t3 <;> simp at h1 ⊢
    | true =>
     rw [if_pos rfl]
     cases h2:holeOk o b with
     | false =>
      rw [if_neg (by decide)];unfold holeOk at h2;revert h2;generalize loopOk (b.map ptP)=t1;generalize (inOf (o.map ptP) (fstP b)==1)=t2;generalize apartB (o.map ptP) (b.map ptP)=t3;intro h2;cases t1 <;> cases t2 <;> cases t3 <;> simp at h2 ⊢
     | true =>
      rw [if_pos rfl,hp h1 h2];unfold holeOk at h1 h2;unfold pairH;rw [hc];simp only [Bool.and_eq_true] at h1 h2;rw [h1.1,h1.2.1,h1.2.2,h2.1,h2.2.1,h2.2.2];generalize apartB (b.map ptP) (a.map ptP)=t1;generalize (inOf (b.map ptP) (fstP a) == -1)=t2;generalize (inOf (a.map ptP) (fstP b) == -1)=t3;cases t1 <;> cases t2 <;> cases t3 <;> rfl
  ·
   rw [decide_eq_true (by omega)];simp only [spec_PlateOk.j0];unfold plateOk pl;simp only [List.length_map];rw [decide_eq_false h2];simp
end Go.Proofs.YtkefmnmoaomlhaaDoor.X
end
section
set_option linter.unusedVariables false
set_option linter.unusedSimpArgs false
namespace Mort
def farL (es:List Seg)(p:Pt):Frac:=match es with
 | []=>(0,0)
 | e::r=>r.foldl (fun a s=>least a (segFar s p)) (segFar e p)
def plateFar (P:Plate)(p:Pt):Frac:=if plateOk P && ptOk p then farL (plateEdges P) p else (0,0)
theorem fold_least {p:Pt}(hp:ptOk p=true):∀ (r:List Seg) (a:Frac),fracOk a=true→(∀ e∈r,segOk e=true) →
  fracOk (r.foldl (fun a s=>least a (segFar s p)) a)=true∧val (r.foldl (fun a s=>least a (segFar s p)) a)≤val a∧(∀ e∈r,val (r.foldl (fun a s=>least a (segFar s p)) a)≤val (segFar e p)) ∧
  (r.foldl (fun a s=>least a (segFar s p)) a=a∨∃ e∈r,r.foldl (fun a s=>least a (segFar s p)) a=segFar e p):=by
 intro r
 induction r with
 | nil=>intro a ha _;exact⟨ha,Rat.le_refl,fun e he=>by simp at he,.inl rfl⟩
 | cons s r ih =>
  intro a ha hr;have hs:=(segFar_ok (hr s List.mem_cons_self) hp).1;obtain⟨⟨l1,l2⟩,l3⟩:=val_least ha hs;obtain⟨i1,i2,i3,i4⟩:=ih (least a (segFar s p)) (least_ok ha hs) (fun e he=>hr e (List.mem_cons_of_mem _ he));rw [List.foldl_cons];refine⟨i1,Rat.le_trans i2 l1,fun e he=>?_,?_⟩
  ·
   rcases List.mem_cons.1 he with rfl | he
   ·
    exact Rat.le_trans i2 l2
   ·
    exact i3 e he
  ·
   rcases i4 with h | ⟨e,he,h⟩
   ·
    rw [h]
    rcases l3 with h3 | h3
    ·
     exact .inl h3
    ·
     exact .inr ⟨s,List.mem_cons_self,h3⟩
   ·
    exact .inr ⟨e,List.mem_cons_of_mem _ he,h⟩
theorem farL_spec {es:List Seg}{p:Pt}(hp:ptOk p=true)(hne:0<es.length)(hok:∀ e∈es,segOk e=true):
  fracOk (farL es p)=true∧(∀ e∈es,val (farL es p)≤val (segFar e p))∧∃ e∈es,farL es p=segFar e p:=by
 cases es with
 | nil=>simp at hne
 | cons e r =>
  obtain⟨i1,i2,i3,i4⟩:=fold_least hp r (segFar e p) (segFar_ok (hok e List.mem_cons_self) hp).1 (fun s hs=>hok s (List.mem_cons_of_mem _ hs));refine⟨i1,fun s hs=>?_,?_⟩
  ·
   rcases List.mem_cons.1 hs with rfl | hs
   ·
    exact i2
   ·
    exact i3 s hs
  ·
   rcases i4 with h | ⟨s,hs,h⟩
   ·
    exact⟨e,List.mem_cons_self,h⟩
   ·
    exact⟨s,List.mem_cons_of_mem _ hs,h⟩
theorem plateEdges_ok {P:Plate}(g:PlateGood P):(∀ e∈plateEdges P,segOk e=true)∧0<(plateEdges P).length:=by
 refine⟨fun e he=>?_,?_⟩
 ·
  unfold plateEdges at he
  rcases List.mem_append.1 he with he | he
  ·
   exact ((loopOk_iff _).1 g.outer).2.2.1 e he
  ·
   obtain⟨h,hh,he⟩:=List.mem_flatMap.1 he;exact ((loopOk_iff _).1 (g.holes h hh)).2.2.1 e he
 ·
  unfold plateEdges;rw [List.length_append,edges_length];have:=loop_pos g.outer;omega
end Mort
namespace Go.Proofs.YtkefmnmoaomlhaaDoor.X
open Go.RowKit Go.Proofs.YtkefmnmoaomlhaaDoorW.PrintWords Go.Proofs.YtkefmnmoaomlhaaDoorW.PrintLast Go.Proofs.YtkefmnmoaomlhaaDoorW.PrintMore
open Mort (edges loopOk ptOk segOk has meet ed pairOk joined apartB plateOk plateInOf plateIn PlateGood inOf segMeet segFar least fracOk fracCmp cmp0 farL plateFar plateEdges)
theorem edgesS_eq (z:List S28):edgesS z=esOf z:=by
 unfold edgesS esOf;apply List.ext_getElem
 ·
  simp
 ·
  intro i h1 h2;simp
theorem allEdges_pl (o:List S28)(H:List (List S28)):(allEdges (o::H)).map sgP=plateEdges (pl o H):=by
 unfold allEdges plateEdges pl;rw [List.flatMap_cons,List.map_append,edgesS_eq,esOf_edges]
 congr 1
 induction H with
 | nil=>rfl
 | cons z H ih=>rw [List.flatMap_cons,List.map_append,edgesS_eq,esOf_edges,List.map_cons,List.flatMap_cons,ih]
theorem farE_L (E:List S61)(p:Mort.Pt):farE E p=farL (E.map sgP) p:=by
 cases E with
 | nil=>rfl
 | cons e r =>
  show r.foldl _ _=(r.map sgP).foldl _ _
  rw [List.foldl_map]
theorem iPlateFar (o:List S28)(H:List (List S28))(x y:Int):impl_PlateFar.f o H x y=some ((plateFar (pl o H) (x,y)).1,(plateFar (pl o H) (x,y)).2):=by
 unfold impl_PlateFar.f plateFar;rw [iBodyOk,farE_L,allEdges_pl]
theorem edges_facts {o:List S28}{H:List (List S28)}(h:plateOk (pl o H)=true):(∀ s∈allEdges (o::H),segOk (sgP s)=true)∧0<(allEdges (o::H)).length∧(allEdges (o::H)).length≤24∧H.length≤2:=by
 rw [← iBodyOk] at h;obtain⟨e0,es,hEe,hle⟩:=allEdges_cons h;refine⟨allEdges_ok h,by rw [hEe];simp,by rw [hEe];simp only [List.length_cons];omega,((bodyOkB_iff o H).1 h).1⟩
theorem sL11Edges {k:Nat}(hk:1000≤k){o:List S28}{H:List (List S28)}(h:plateOk (pl o H)=true):spec_l11Edges.f k o H=some (allEdges (o::H)):=by
 have g:=good_of h;obtain⟨o3,o8,_⟩:=ok_facts (z:=o) g.outer;have hH:∀ z∈H,z.length≤8:=fun z hz=>(ok_facts (g.holes _ (List.mem_map_of_mem hz))).2.1
 have h2:H.length≤2:=(edges_facts h).2.2.2;have loop:∀ (m i k:Nat) (acc:List S61),H.length-i=m→i≤H.length→m+20≤k→acc.length≤100*(i+1)→spec_l11Edges.l0 k acc (i:Int) o H=some (acc++(H.drop i).flatMap esOf):=by
  intro m
  induction m with
  | zero =>
   intro i k acc hm hi hk ha;obtain⟨k,rfl⟩:∃ q,k=q+1:=⟨k-1,by omega⟩;simp only [spec_l11Edges.l0];rw [if_neg (by omega),List.drop_of_length_le (by omega)];simp
  | succ m ih =>
   intro i k acc hm hi hk ha;obtain⟨k,rfl⟩:∃ q,k=q+1:=⟨k-1,by omega⟩;simp only [spec_l11Edges.l0];have hlt:i<H.length:=by omega
   have hg:rd_L5 H (i:Int)=H[i]:=by show H.getD i []=_;rw [List.getD_eq_getElem?_getD,List.getElem?_eq_getElem hlt];rfl
   have hl:=hH _ (List.getElem_mem hlt);rw [if_pos (by omega),if_pos (by omega),hg,sEdges (by omega) (by omega),Option.bind_some,if_pos (by rw [esOf_len];omega),succ64 (by omega),ih (i+1) k _ (by omega) (by omega) (by omega) (by rw [List.length_append,esOf_len];omega),List.drop_eq_getElem_cons hlt,List.flatMap_cons,List.append_assoc]
 unfold spec_l11Edges.f;rw [sEdges (by omega) (by omega),Option.bind_some];refine (loop H.length 0 k _ (by omega) (by omega) (by omega) (by rw [esOf_len];omega)).trans ?_;rw [List.drop_zero];unfold allEdges;rw [List.flatMap_cons,edgesS_eq]
 congr 2
 have:edgesS=esOf:=funext edgesS_eq;rw [this]
theorem rd_seg {E:List S61}{i:Nat}(h:i<E.length):rd_T61 E (i:Int)=E[i]:=by
 show E.getD i _=_
 rw [List.getD_eq_getElem?_getD,List.getElem?_eq_getElem h];rfl
theorem sFarS {k:Nat}(hk:100000≤k){s:S61}{x y:Int}(hs:segOk (sgP s)=true)(hp:ptOk (x,y)=true):spec_l2Far.f k s.f0.f0 s.f0.f1 s.f1.f0 s.f1.f1 x y=some ((segFar (sgP s) (x,y)).1,(segFar (sgP s) (x,y)).2):=by
 have hs':segOk ((s.f0.f0,s.f0.f1),(s.f1.f0,s.f1.f1))=true:=hs;rw [sL2Far hk hs' hp];have:segFar (sgP s) (x,y)=Mort.red (Mort.far ((s.f0.f0,s.f0.f1),(s.f1.f0,s.f1.f1)) (x,y)):=by
  show segFar ((s.f0.f0,s.f0.f1),(s.f1.f0,s.f1.f1)) (x,y)=_
  unfold segFar;rw [hs',hp];rfl
 rw [this]
theorem sL11Far {k:Nat}(hk:200000≤k){E:List S61}{x y:Int}(hok:∀ s∈E,segOk (sgP s)=true)(hp:ptOk (x,y)=true)(hne:0<E.length)(hle:E.length≤24):
  spec_l11Far.f k E x y=some ((farE E (x,y)).1,(farE E (x,y)).2):=by
 have loop:∀ (m i k:Nat) (a:Mort.Frac),E.length-i=m→i≤E.length→m+100001≤k→fracOk a=true →
   spec_l11Far.l0 k E (i:Int) x y a.1 a.2=some ((runFar (x,y) a (E.drop i)).1,(runFar (x,y) a (E.drop i)).2):=by
  intro m
  induction m with
  | zero =>
   intro i k a hm hi hk ha;obtain⟨k,rfl⟩:∃ q,k=q+1:=⟨k-1,by omega⟩;simp only [spec_l11Far.l0];rw [if_neg (by omega),List.drop_of_length_le (by omega)];rfl
  | succ m ih =>
   intro i k a hm hi hk ha;obtain⟨k,rfl⟩:∃ q,k=q+1:=⟨k-1,by omega⟩;simp only [spec_l11Far.l0];have hlt:i<E.length:=by omega
   have hs:=hok _ (List.getElem_mem hlt);have hf:=(Mort.segFar_ok hs hp).1;rw [if_pos (by omega),if_pos (by omega),rd_seg hlt,sFarS (by omega) hs hp,Option.bind_some];have hl:=sLeast (n:=a.1) (d:=a.2) (m:=(segFar (sgP E[i]) (x,y)).1) (q:=(segFar (sgP E[i]) (x,y)).2) ha hf;simp only;rw [hl,Option.bind_some,succ64 (by omega)];simp only;rw [ih (i+1) k (least a (segFar (sgP E[i]) (x,y))) (by omega) (by omega) (by omega) (Mort.least_ok ha hf),List.drop_eq_getElem_cons hlt];rfl
 unfold spec_l11Far.f;rw [if_pos (by omega)]
 cases E with
 | nil=>simp at hne
 | cons e es =>
  have hs:=hok e List.mem_cons_self;have e0:rd_T61 (e::es) 0=e:=rfl;rw [e0,sFarS (by omega) hs hp,Option.bind_some];exact loop es.length 1 k (segFar (sgP e) (x,y)) (by simp) (by simp) (by simp only [List.length_cons] at hle;omega) (Mort.segFar_ok hs hp).1
theorem sPlateFar {k:Nat}(hk:300000≤k)(o:List S28)(H:List (List S28))(x y:Int):spec_PlateFar.f k o H x y=some ((plateFar (pl o H) (x,y)).1,(plateFar (pl o H) (x,y)).2):=by
 unfold spec_PlateFar.f plateFar;rw [sPlateOk (by omega),Option.bind_some];obtain⟨k,rfl⟩:∃ q,k=q+1:=⟨k-1,by omega⟩
 cases h:plateOk (pl o H) with
 | false=>rw [if_neg (by decide)];rfl
 | true =>
  rw [if_pos rfl,sPtOk,Option.bind_some]
  cases hp:ptOk (x,y) with
  | false=>rfl
  | true =>
   simp only [spec_PlateFar.j0];obtain⟨h1,h2,h3,_⟩:=edges_facts h;rw [if_neg (by decide),sL11Edges (by omega) h,Option.bind_some,sL11Far (by omega) h1 hp h2 h3,Option.bind_some,Bool.and_self,if_pos rfl,farE_L,allEdges_pl]
end Go.Proofs.YtkefmnmoaomlhaaDoor.X
end
section
set_option linter.unusedVariables false
set_option linter.unusedSimpArgs false
namespace Go.Proofs.YtkefmnmoaomlhaaDoor.X
open Go.RowKit Go.Proofs.YtkefmnmoaomlhaaDoorW.PrintWords Go.Proofs.YtkefmnmoaomlhaaDoorW.PrintLast Go.Proofs.YtkefmnmoaomlhaaDoorW.PrintMore
def Tells {α:Type}(K:Nat)(f:Nat→Option α)(P:α→Prop):Prop:=∃ a,(∀ k,K≤k→f k=some a)∧P a
namespace Tells
variable {α β:Type} {K:Nat} {P:α→Prop} {Q:β→Prop}
theorem bind {f:Nat→Option α}{g:α→Nat→Option β}(h:Tells K f P)(hg:∀ a,P a→Tells K (g a) Q):Tells K (fun k=>(f k).bind fun a=>g a k) Q:=by
 obtain⟨a,h1,h2⟩:=h;obtain⟨b,h3,h4⟩:=hg a h2;exact⟨b,fun k hk=>by show (f k).bind _=_;rw [h1 k hk,Option.bind_some,h3 k hk],h4⟩
theorem ret (a:α)(h:P a):Tells K (fun _=>some a) P:=⟨a,fun _ _=>rfl,h⟩
theorem ite {c:Prop}[Decidable c]{f g:Nat→Option α}(h1:c→Tells K f P)(h2:¬ c→Tells K g P):Tells K (fun k=>if c then f k else g k) P:=by
 by_cases h:c
 ·
  obtain⟨a,e,p⟩:=h1 h;exact⟨a,fun k hk=>by show (if c then _ else _)=_;rw [if_pos h,e k hk],p⟩
 ·
  obtain⟨a,e,p⟩:=h2 h;exact⟨a,fun k hk=>by show (if c then _ else _)=_;rw [if_neg h,e k hk],p⟩
theorem guard {c:Prop}[Decidable c]{f:Nat→Option α}(h:c)(h1:Tells K f P):Tells K (fun k=>if c then f k else none) P:=ite (fun _=>h1) (fun n=>absurd h n)
theorem nay {c:Prop}[Decidable c]{f:Nat→Option α}(h:¬ c)(h1:Tells K f P):Tells K (fun k=>if c then none else f k) P:=ite (fun n=>absurd n h) (fun _=>h1)
theorem up {K':Nat}{f:Nat→Option α}(hk:K≤K')(h:Tells K f P):Tells K' f P:=by
 obtain⟨a,e,p⟩:=h;exact⟨a,fun k hk'=>e k (by omega),p⟩
theorem mono {P':α→Prop}{f:Nat→Option α}(h:Tells K f P)(hp:∀ a,P a→P' a):Tells K f P':=by
 obtain⟨a,e,p⟩:=h;exact⟨a,e,hp a p⟩
theorem succ {f g:Nat→Option α}(hf:∀ k,f (k+1)=g k)(h:Tells K g P):Tells (K+1) f P:=by
 obtain⟨a,e,p⟩:=h;refine⟨a,fun k hk=>?_,p⟩;obtain⟨k,rfl⟩:∃ q,k=q+1:=⟨k-1,by omega⟩;rw [hf,e k (by omega)]
theorem same {f g:Nat→Option α}(hf:∀ k,f k=g k)(h:Tells K g P):Tells K f P:=by
 obtain⟨a,e,p⟩:=h;exact⟨a,fun k hk=>by rw [hf,e k hk],p⟩
end Tells
section
variable {l:List Int} (hl:Bytes l)
include hl
theorem tPick {K:Nat}(hK:1≤K){p n:Int}(hp:0≤p)(hp':p≤1000000)(hn:1≤n)(hn':n≤1000000):Tells K (fun k=>spec_l6Rd_pick.f k l p n) fun a=>0≤a.1∧a.1<n∧a.2=p+1:=by
 obtain⟨r,h1,h2,h3⟩:=pick_told hl hp hp' hn hn';exact⟨(r,p+1),fun k hk=>h1 k (by omega),h2,h3,rfl⟩
theorem tPt {K:Nat}(hK:1≤K){p:Int}(hp:0≤p)(hp':p≤900000):Tells K (fun k=>spec_l71Pt.f k l p) fun a=>p≤a.2.2∧a.2.2≤p+10:=by
 unfold spec_l71Pt.f;refine Tells.bind (tPick hl hK hp (by omega) (by omega) (by omega)) ?_;rintro⟨r1,q1⟩ ⟨a1,b1,c1⟩;simp only at a1 b1 c1 ⊢
 refine Tells.bind (tPick hl hK (by omega) (by omega) (by omega) (by omega)) ?_;rintro⟨r2,q2⟩ ⟨a2,b2,c2⟩;simp only at a2 b2 c2 ⊢
 refine Tells.bind (tPick hl hK (by omega) (by omega) (by omega) (by omega)) ?_;rintro⟨r3,q3⟩ ⟨a3,b3,c3⟩;simp only at a3 b3 c3 ⊢
 refine Tells.ite (fun h=>?_) (fun h=>Tells.ite (fun h'=>?_) (fun h'=>?_))
 ·
  refine Tells.bind (Tells.ret (P:=fun a=>a=[(-1),10]) _ rfl) ?_;rintro y rfl;refine Tells.bind (tPick hl hK (by omega) (by omega) (by omega) (by omega)) ?_;rintro⟨r4,q4⟩ ⟨a4,b4,c4⟩;simp only at a4 b4 c4 ⊢
  exact Tells.guard (by omega) (Tells.guard (by simpa using b4) (Tells.ret _ (by simp only;omega)))
 ·
  refine Tells.bind (Tells.ret (P:=fun a=>a=[(-1),10]) _ rfl) ?_;rintro y rfl;refine Tells.bind (tPick hl hK (by omega) (by omega) (by omega) (by omega)) ?_;rintro⟨r4,q4⟩ ⟨a4,b4,c4⟩;simp only at a4 b4 c4 ⊢
  exact Tells.guard (by omega) (Tells.guard (by simpa using b4) (Tells.ret _ (by simp only;omega)))
 ·
  exact Tells.ret _ (by simp only;omega)
theorem tBox {K:Nat}(hK:1≤K){p a1 a2 a3 a4:Int}(hp:0≤p)(hp':p≤900000):Tells K (fun k=>spec_l71Box.f k l p a1 a2 a3 a4) fun a=>(3≤a.1.length∧a.1.length≤6)∧p≤a.2∧a.2≤p+10:=by
 unfold spec_l71Box.f;refine Tells.bind (Tells.ret (P:=fun a=>a.length=4) _ rfl) ?_;intro y hy;have hy':(y.length:Int)=4:=by omega
 refine Tells.bind (tPick hl hK hp (by omega) (by omega) (by omega)) ?_;rintro⟨r1,q1⟩ ⟨a1,b1,c1⟩;simp only at a1 b1 c1 ⊢
 rw [hy']
 repeat' first
  | (refine Tells.ret _ ⟨⟨?_,?_⟩,?_,?_⟩ <;> first | omega | (simp;done) | (simp [hy];done) | (simp only [List.length_take];omega))
  | (refine Tells.guard (by omega) ?_)
  | (refine Tells.ite (fun _=>?_) (fun _=>?_))
theorem tLoopL {K:Nat}(hK:1≤K):∀ (m:Nat) (z:List S28) (i p:Int),i<m → -1≤i→i≤100→3≤z.length→z.length≤1000→0≤p→p+10*m≤900000→Tells (K+m+1) (fun k=>spec_l71Loop.l0 k z i l p) fun a=>a.1.length=z.length∧p≤a.2∧a.2≤p+10*m:=by
 intro m
 induction m with
 | zero =>
  intro z i p hm hi hi' hz hz' hp hp';refine Tells.succ (fun k=>by simp only [spec_l71Loop.l0];exact rfl) ?_;exact Tells.ite (fun h=>by omega) (fun _=>Tells.ret _ ⟨rfl,Int.le_refl _,by show p≤p+10*_;omega⟩)
 | succ m ih =>
  intro z i p hm hi hi' hz hz' hp hp';refine Tells.succ (K:=K+(m+1)) (fun k=>by simp only [spec_l71Loop.l0];exact rfl) ?_;refine Tells.ite (fun h=>?_) (fun _=>Tells.ret _ ⟨rfl,Int.le_refl _,by show p≤p+10*_;omega⟩);refine Tells.nay (by omega) ?_;refine Tells.bind (tPt hl (by omega) hp (by omega)) ?_;rintro⟨x,y,q⟩ ⟨h1,h2⟩;simp only at h1 h2 ⊢
  have t1:0≤Int.tmod i z.length:=Int.tmod_nonneg _ (by omega);have t2:Int.tmod i z.length<z.length:=Int.tmod_lt_of_pos _ (by omega);refine Tells.guard t1 (Tells.guard t2 ?_);refine Tells.mono (ih _ (wrap64 (i-1)) q (by unfold wrap64;omega) (by unfold wrap64;omega) (by unfold wrap64;omega) (by rw [List.length_set];omega) (by rw [List.length_set];omega) (by omega) (by omega)) ?_;rintro⟨b,u⟩ ⟨g1,g2,g3⟩;rw [List.length_set] at g1;simp only at g1 g2 g3 ⊢
  omega
theorem tLoop {K:Nat}(hK:20≤K){p:Int}(hp:0≤p)(hp':p≤800000):Tells K (fun k=>spec_l71Loop.f k l p) fun a=>a.1.length≤100∧p≤a.2∧a.2≤p+200:=by
 unfold spec_l71Loop.f;refine Tells.bind (tPick hl (by omega) hp (by omega) (by omega) (by omega)) ?_;rintro⟨r1,q1⟩ ⟨a1,b1,c1⟩;simp only at a1 b1 c1 ⊢
 refine Tells.bind (tPick hl (by omega) (by omega) (by omega) (by omega) (by omega)) ?_;rintro⟨r2,q2⟩ ⟨a2,b2,c2⟩;simp only at a2 b2 c2 ⊢
 refine Tells.bind (tPick hl (by omega) (by omega) (by omega) (by unfold wrap64;omega) (by unfold wrap64;omega)) ?_;rintro⟨r3,q3⟩ ⟨a3,b3,c3⟩;simp only at a3 b3 c3 ⊢
 refine Tells.bind (tPick hl (by omega) (by omega) (by omega) (by unfold wrap64;omega) (by unfold wrap64;omega)) ?_;rintro⟨r4,q4⟩ ⟨a4,b4,c4⟩;simp only at a4 b4 c4 ⊢
 refine Tells.bind (tBox hl (by omega) (by omega) (by omega)) ?_;rintro⟨z,q5⟩ ⟨⟨a5,b5⟩,c5,d5⟩;simp only at a5 b5 c5 d5 ⊢
 refine Tells.bind (tPick hl (by omega) (by omega) (by omega) (by omega) (by omega)) ?_;rintro⟨r6,q6⟩ ⟨a6,b6,c6⟩;simp only at a6 b6 c6 ⊢
 refine Tells.ite (fun _=>?_) (fun _=>Tells.ite (fun _=>?_) (fun _=>Tells.ite (fun _=>?_) (fun _=>?_)))
 ·
  refine Tells.bind (tPt hl (by omega) (by omega) (by omega)) ?_;rintro⟨x,y,q⟩ ⟨h1,h2⟩;simp only at h1 h2 ⊢
  exact Tells.guard (by omega) (Tells.ret _ (by simp only [List.length_append,List.length_cons,List.length_nil];omega))
 ·
  refine Tells.bind (tPick hl (by omega) (by omega) (by omega) (by omega) (by omega)) ?_;rintro⟨r7,q7⟩ ⟨a7,b7,c7⟩;simp only at a7 b7 c7 ⊢
  refine Tells.bind (tPt hl (by omega) (by omega) (by omega)) ?_;rintro⟨x,y,q⟩ ⟨h1,h2⟩;simp only at h1 h2 ⊢
  exact Tells.guard (by omega) (Tells.guard (by omega) (Tells.ret _ (by simp only [List.length_set];omega)))
 ·
  refine Tells.bind (tPick hl (by omega) (by omega) (by omega) (by omega) (by omega)) ?_;rintro⟨r7,q7⟩ ⟨a7,b7,c7⟩;simp only at a7 b7 c7 ⊢
  refine Tells.up (K:=1+7+1) (by omega) (Tells.mono (tLoopL hl (K:=1) (by omega) 7 z r7 q7 (by omega) (by omega) (by omega) (by omega) (by omega) (by omega) (by omega)) ?_);rintro⟨b,u⟩ ⟨g1,g2,g3⟩;simp only at g1 g2 g3 ⊢
  omega
 ·
  exact Tells.ret _ (by simp only;omega)
end
section
variable {l:List Int} (hl:Bytes l)
include hl
theorem tGoodL {K:Nat}(hK:1000≤K):∀ (m:Nat) (x3 x4 x5 x6 i p:Int) (o:List S28) (H:List (List S28)),i≤m→i≤100→(0≤x3∧x3≤20)→(0≤x4∧x4≤20)→(3≤x5∧x5≤20)→(3≤x6∧x6≤20)→H.length+m≤100→o.length≤100→0≤p→p+20*m≤900000 →
  Tells (K+m+1) (fun k=>spec_l71Good.l0 k x3 x4 x5 x6 i l p o H) fun a=>a.1.length≤100∧a.2.1.length≤100∧p≤a.2.2∧a.2.2≤p+20*m:=by
 intro m
 induction m with
 | zero =>
  intro x3 x4 x5 x6 i p o H hm hi h3 h4 h5 h6 hH ho hp hp';refine Tells.succ (fun k=>by simp only [spec_l71Good.l0];exact rfl) ?_;exact Tells.ite (fun h=>by omega) (fun _=>Tells.ret _ ⟨ho,by show H.length≤100;omega,Int.le_refl _,by show p≤p+20*_;omega⟩)
 | succ m ih =>
  intro x3 x4 x5 x6 i p o H hm hi h3 h4 h5 h6 hH ho hp hp';refine Tells.succ (K:=K+(m+1)) (fun k=>by simp only [spec_l71Good.l0];exact rfl) ?_;refine Tells.ite (fun h=>?_) (fun _=>Tells.ret _ ⟨ho,by show H.length≤100;omega,Int.le_refl _,by show p≤p+20*_;omega⟩);refine Tells.bind (tPick hl (by omega) hp (by omega) (by unfold wrap64;omega) (by unfold wrap64;omega)) ?_;rintro⟨r1,q1⟩ ⟨a1,b1,c1⟩;simp only at a1 b1 c1 ⊢
  refine Tells.bind (tPick hl (by omega) (by omega) (by omega) (by unfold wrap64;omega) (by unfold wrap64;omega)) ?_;rintro⟨r2,q2⟩ ⟨a2,b2,c2⟩;simp only at a2 b2 c2 ⊢
  refine Tells.bind (tPick hl (by omega) (by omega) (by omega) (by omega) (by omega)) ?_;rintro⟨r3,q3⟩ ⟨a3,b3,c3⟩;simp only at a3 b3 c3 ⊢
  refine Tells.bind (tPick hl (by omega) (by omega) (by omega) (by omega) (by omega)) ?_;rintro⟨r4,q4⟩ ⟨a4,b4,c4⟩;simp only at a4 b4 c4 ⊢
  refine Tells.bind (tBox hl (by omega) (by omega) (by omega)) ?_;rintro⟨z,q5⟩ ⟨_,c5,d5⟩;simp only at c5 d5 ⊢
  refine Tells.bind (Tells.ret (P:=fun a=>a=[]) _ rfl) ?_;rintro y rfl;refine Tells.guard (by simp;omega) ?_;refine Tells.bind (Tells.ret (P:=fun a=>a=H) _ rfl) ?_;rintro y rfl;refine Tells.guard (by omega) ?_;refine Tells.bind (Tells.ret (P:=fun a=>a.length=y.length+1) _ (by simp)) ?_;intro y2 hy2;refine Tells.bind (P:=fun _=>True) ⟨_,fun k hk=>sPlateOk (by omega) o y2,trivial⟩ ?_;intro t _;have hw:wrap64 (i-1)=i-1:=w64i (by omega) (by omega);by_cases hneg:0≤i
  ·
   rw [hw];refine Tells.ite (fun _=>?_) (fun _=>?_)
   ·
    refine Tells.mono (ih x3 x4 x5 x6 (i-1) q5 o y2 (by omega) (by omega) h3 h4 h5 h6 (by omega) ho (by omega) (by omega)) ?_;rintro⟨u1,u2,u3⟩ ⟨g1,g2,g3,g4⟩;simp only at g1 g2 g3 g4 ⊢
    omega
   ·
    refine Tells.mono (ih x3 x4 x5 x6 (i-1) q5 o y (by omega) (by omega) h3 h4 h5 h6 (by omega) ho (by omega) (by omega)) ?_;rintro⟨u1,u2,u3⟩ ⟨g1,g2,g3,g4⟩;simp only at g1 g2 g3 g4 ⊢
    omega
  ·
   omega
theorem tGood {K:Nat}(hK:1010≤K){p:Int}(hp:0≤p)(hp':p≤800000):Tells K (fun k=>spec_l71Good.f k l p) fun a=>a.1.length≤100∧a.2.1.length≤100∧p≤a.2.2∧a.2.2≤p+100:=by
 unfold spec_l71Good.f;refine Tells.bind (tPick hl (by omega) hp (by omega) (by omega) (by omega)) ?_;rintro⟨r1,q1⟩ ⟨a1,b1,c1⟩;simp only at a1 b1 c1 ⊢
 refine Tells.bind (tPick hl (by omega) (by omega) (by omega) (by omega) (by omega)) ?_;rintro⟨r2,q2⟩ ⟨a2,b2,c2⟩;simp only at a2 b2 c2 ⊢
 refine Tells.bind (tPick hl (by omega) (by omega) (by omega) (by unfold wrap64;omega) (by unfold wrap64;omega)) ?_;rintro⟨r3,q3⟩ ⟨a3,b3,c3⟩;have b3':r3<9-r1-3:=by
  have e:wrap64 (wrap64 (9-r1)-3)=9-r1-3:=by unfold wrap64;omega
  simp only at b3;omega
 simp only at a3 c3 ⊢
 refine Tells.bind (tPick hl (by omega) (by omega) (by omega) (by unfold wrap64;omega) (by unfold wrap64;omega)) ?_;rintro⟨r4,q4⟩ ⟨a4,b4,c4⟩;have b4':r4<9-r2-3:=by
  have e:wrap64 (wrap64 (9-r2)-3)=9-r2-3:=by unfold wrap64;omega
  simp only at b4;omega
 simp only at a4 c4 ⊢
 have e1:wrap64 (4+r3)=4+r3:=w64i (by omega) (by omega);have e2:wrap64 (4+r4)=4+r4:=w64i (by omega) (by omega);rw [e1,e2];refine Tells.bind (tBox hl (by omega) (by omega) (by omega)) ?_;rintro⟨z,q5⟩ ⟨⟨_,z5⟩,c5,d5⟩;simp only at z5 c5 d5 ⊢
 refine Tells.bind (tPick hl (by omega) (by omega) (by omega) (by omega) (by omega)) ?_;rintro⟨r6,q6⟩ ⟨a6,b6,c6⟩;simp only at a6 b6 c6 ⊢
 refine Tells.up (K:=1000+2+1) (by omega) (Tells.mono (tGoodL hl (K:=1000) (by omega) 2 r1 r2 (4+r3) (4+r4) r6 q6 z [] (by omega) (by omega) (by omega) (by omega) (by omega) (by omega) (by simp) (by omega) (by omega) (by omega)) ?_);rintro⟨u1,u2,u3⟩ ⟨g1,g2,g3,g4⟩;simp only at g1 g2 g3 g4 ⊢
 omega
theorem tPlate {K:Nat}(hK:1010≤K){p:Int}(hp:0≤p)(hp':p≤700000):Tells K (fun k=>spec_l71Plate.f k l p) fun a=>p≤a.2.2∧a.2.2≤p+1000:=by
 unfold spec_l71Plate.f;refine Tells.bind (tGood hl hK hp (by omega)) ?_;rintro⟨o,H,q⟩ ⟨g1,g2,g3,g4⟩;simp only at g1 g2 g3 g4 ⊢
 refine Tells.bind (tPick hl (by omega) (by omega) (by omega) (by omega) (by omega)) ?_;rintro⟨r1,q1⟩ ⟨a1,b1,c1⟩;simp only at a1 b1 c1 ⊢
 refine Tells.ite (fun _=>?_) (fun _=>Tells.ite (fun _=>?_) (fun _=>Tells.ite (fun _=>?_) (fun _=>?_)))
 ·
  refine Tells.bind (tLoop hl (by omega) (by omega) (by omega)) ?_;rintro⟨z,q2⟩ ⟨h1,h2,h3⟩;simp only at h1 h2 h3 ⊢
  exact Tells.ret _ (by simp only;omega)
 ·
  refine Tells.bind (tLoop hl (by omega) (by omega) (by omega)) ?_;rintro⟨z,q2⟩ ⟨h1,h2,h3⟩;simp only at h1 h2 h3 ⊢
  exact Tells.guard (by omega) (Tells.ret _ (by simp only;omega))
 ·
  refine Tells.bind (Tells.ret (P:=fun a=>a=[]) _ rfl) ?_;rintro y rfl;refine Tells.guard (by simp;omega) ?_;refine Tells.bind (Tells.ret (P:=fun a=>a=o) _ rfl) ?_;rintro y rfl;refine Tells.bind (tPt hl (by omega) (by omega) (by omega)) ?_;rintro⟨x,y',q2⟩ ⟨h1,h2⟩;simp only at h1 h2 ⊢
  exact Tells.guard (by omega) (Tells.ret _ (by simp only;omega))
 ·
  exact Tells.ret _ (by simp only;omega)
end
theorem tPlatePt {m:List Int}(hm:Bytes m):Tells 400000 (fun k=>(spec_l71Plate.f k m 0).bind fun bt=>((spec_l71Pt.f k m bt.2.2).bind fun bp=>(some (bt.1,bt.2.1,bp.1,bp.2.1)))) fun _=>True:=by
 refine Tells.bind (tPlate hm (by omega) (by omega) (by omega)) ?_;rintro⟨o,H,q⟩ ⟨g3,g4⟩;simp only at g3 g4 ⊢
 refine Tells.bind (tPt hm (by omega) (by omega) (by omega)) ?_;rintro⟨x,y,q2⟩ _;exact Tells.ret _ trivial
theorem drawPlateFar (l:List Int)(h:∀ x∈l,(Lit.int .u8 x).wf=true):∃ o H x y,∀ k,400000≤k→spec_DrawPlateFar.f k l=some (o,H,x,y):=by
 obtain⟨m,hm,hb⟩:=open_told l h;obtain⟨⟨o,H,x,y⟩,ht,_⟩:=tPlatePt hb;exact⟨o,H,x,y,fun k hk=>by unfold spec_DrawPlateFar.f;rw [hm,Option.bind_some];exact ht k hk⟩
end Go.Proofs.YtkefmnmoaomlhaaDoor.X
end
section
set_option linter.unusedVariables false
set_option linter.unusedSimpArgs false
namespace Go.Proofs.YtkefmnmoaomlhaaDoor.Pure
open Go.RowKit Go.Proofs.YtkefmnmoaomlhaaDoor.X Go.Proofs.YtkefmnmoaomlhaaDoorW.PrintWords Go.Proofs.YtkefmnmoaomlhaaDoorW.PrintLast
open Mort (ptOk plateOk plateIn plateInOf plateFar fracCmp farL plateEdges segFar segOk val fracOk)
theorem iPlateEdges (o:List S28)(H:List (List S28)):impl_PlateEdges.f o H=some (if plateOk (pl o H) then allEdges (o::H) else []):=by
 unfold impl_PlateEdges.f;rw [iBodyOk]
theorem plate_zero {P:Mort.Plate}{p:Mort.Pt}(hP:plateOk P=true)(hp:ptOk p=true):(plateFar P p=(0,1)) ↔ plateIn P p=0:=by
 have g:=(Mort.plateOk_iff P).1 hP;obtain⟨e1,e2⟩:=Mort.plateEdges_ok g;obtain⟨f1,f2,e,he,f3⟩:=Mort.farL_spec hp e2 e1;unfold plateFar plateIn;rw [hP,hp,Bool.and_self,if_pos rfl,if_pos rfl,Mort.val_zero f1];have hon:Mort.plateOn P p=true ↔ ∃ s∈plateEdges P,Mort.has s p=true:=by
  unfold Mort.plateOn plateEdges;rw [Bool.or_eq_true,Mort.onB_iff,List.any_eq_true];constructor
  ·
   rintro (⟨s,hs,h⟩ | ⟨z,hz,h⟩)
   ·
    exact⟨s,List.mem_append_left _ hs,h⟩
   ·
    obtain⟨s,hs,h⟩:=(Mort.onB_iff _ _).1 h;exact⟨s,List.mem_append_right _ (List.mem_flatMap.2 ⟨z,hz,hs⟩),h⟩
  ·
   rintro⟨s,hs,h⟩
   rcases List.mem_append.1 hs with hs | hs
   ·
    exact .inl ⟨s,hs,h⟩
   ·
    obtain⟨z,hz,hs⟩:=List.mem_flatMap.1 hs;exact .inr ⟨z,hz,(Mort.onB_iff _ _).2 ⟨s,hs,h⟩⟩
 have hz:Mort.plateInOf P p=0 ↔ Mort.plateOn P p=true:=by
  unfold Mort.plateInOf
  cases Mort.plateOn P p with
  | true=>simp
  | false=>simp;split <;> omega
 rw [hz,hon];constructor
 ·
  intro h0;refine⟨e,he,(Mort.far_zero (Mort.nd_of_ok (e1 e he))).1 ?_⟩;rw [← (Mort.segFar_ok (e1 e he) hp).2,← f3];exact h0
 ·
  rintro⟨s,hs,h⟩;have h0:=(Mort.far_zero (p:=p) (Mort.nd_of_ok (e1 s hs))).2 h;have h1:=f2 s hs;rw [(Mort.segFar_ok (e1 s hs) hp).2,h0] at h1;have h2:=Mort.val_nn f1;exact Rat.le_antisymm h1 h2
theorem far_loop {o:List S28}{H:List (List S28)}{x y:Int}(hP:plateOk (pl o H)=true)(hp:ptOk (x,y)=true):∀ (m i k:Nat) (b:Bool),(allEdges (o::H)).length-i=m→i≤(allEdges (o::H)).length→m+10≤k →
  (b=true∨∃ s∈(allEdges (o::H)).drop i,segFar (sgP s) (x,y)=plateFar (pl o H) (x,y)) →
  laws_FnPlateFar.l0 k b (allEdges (o::H)) (i:Int) o H x y (plateFar (pl o H) (x,y)).1 (plateFar (pl o H) (x,y)).2=some true:=by
 have hF:plateFar (pl o H) (x,y)=farL (plateEdges (pl o H)) (x,y):=by unfold plateFar;rw [hP,hp];rfl
 have g:=good_of hP;obtain⟨f1,f2,_⟩:=Mort.farL_spec hp (Mort.plateEdges_ok g).2 (Mort.plateEdges_ok g).1;obtain⟨e1,e2,e3,_⟩:=edges_facts hP;intro m
 induction m with
 | zero =>
  intro i k b hm hi hk hb;obtain⟨k,rfl⟩:∃ q,k=q+1:=⟨k-1,by omega⟩;simp only [laws_FnPlateFar.l0];rw [if_neg (by omega)]
  rcases hb with rfl | ⟨s,hs,_⟩
  ·
   rw [if_pos rfl];unfold laws_luZero.f;rw [Option.bind_some,iPlateIn,Option.bind_some];have hz:=plate_zero hP hp
   congr 1
   rw [beq_iff_eq,Bool.eq_iff_iff];simp only [Bool.and_eq_true,beq_iff_eq];rw [← hz];constructor
   ·
    rintro⟨h1,h2⟩;exact Prod.ext h1 h2
   ·
    intro h;rw [h];exact⟨rfl,rfl⟩
  ·
   rw [List.drop_of_length_le (by omega)] at hs;simp at hs
 | succ m ih =>
  intro i k b hm hi hk hb;obtain⟨k,rfl⟩:∃ q,k=q+1:=⟨k-1,by omega⟩;simp only [laws_FnPlateFar.l0];have hlt:i<(allEdges (o::H)).length:=by omega
  have hs:=e1 _ (List.getElem_mem hlt);have hf:=(Mort.segFar_ok hs hp).1;have hle:val (plateFar (pl o H) (x,y))≤val (segFar (sgP (allEdges (o::H))[i]) (x,y)):=by
   rw [hF];exact f2 _ (by rw [← allEdges_pl];exact List.mem_map_of_mem (List.getElem_mem hlt))
  have hc:¬ fracCmp (plateFar (pl o H) (x,y)) (segFar (sgP (allEdges (o::H))[i]) (x,y))>0:=by
   have:=(Mort.cmp_le (hF▸f1) hf).2 hle;omega
  rw [if_pos (by omega),if_pos (by omega),rd_seg hlt];have e0:impl_SegFar.f (allEdges (o::H))[i].f0.f0 (allEdges (o::H))[i].f0.f1 (allEdges (o::H))[i].f1.f0 (allEdges (o::H))[i].f1.f1 x y=some ((segFar (sgP (allEdges (o::H))[i]) (x,y)).1,(segFar (sgP (allEdges (o::H))[i]) (x,y)).2):=segFar_f _ _ _ _ _ _;rw [e0,Option.bind_some];simp only [fracCmp_f,Option.bind_some];rw [succ64 (by omega)]
  cases b with
  | true =>
   rw [if_pos rfl,if_neg hc];exact ih (i+1) k true (by omega) (by omega) (by omega) (.inl rfl)
  | false =>
   rw [if_neg (by decide),if_neg hc];refine ih (i+1) k _ (by omega) (by omega) (by omega) ?_
   rcases hb with hb | ⟨s,hs,hse⟩
   ·
    cases hb
   ·
    rw [List.drop_eq_getElem_cons hlt] at hs
    rcases List.mem_cons.1 hs with rfl | hs
    ·
     refine .inl ?_;rw [hse];simp
    ·
     exact .inr ⟨s,hs,hse⟩
theorem FnPlateFar:laws_FnPlateFar.Pure:=by
 intro l _ _ hw;obtain⟨o,H,x,y,hd⟩:=drawPlateFar l hw;refine⟨400000+1,?_⟩;unfold laws_FnPlateFar.f
 split
 ·
  rfl
 rw [hd _ (by omega)];simp only [Option.bind_some];rw [iPlateFar,Option.bind_some,sPlateFar (by omega),Option.bind_some];simp only [beq_self_eq_true,Bool.not_true,Bool.or_self,Bool.false_eq_true,if_false];rw [sPlateOk (by omega),Option.bind_some];have bad:laws_FnPlateFar.j0 (400000+1) true o H x y (plateFar (pl o H) (x,y)).1 (plateFar (pl o H) (x,y)).2=some true:=by
  simp only [laws_FnPlateFar.j0,if_true,sPlateFar (show 300000≤400000 by omega),Option.bind_some,beq_self_eq_true,Bool.and_self]
 cases hP:plateOk (pl o H) with
 | false=>rw [if_neg (by decide)];exact bad
 | true =>
  rw [if_pos rfl,sPtOk,Option.bind_some]
  cases hp:ptOk (x,y) with
  | false=>exact bad
  | true =>
   simp only [laws_FnPlateFar.j0,Bool.not_true,Bool.false_eq_true,if_false];rw [iPlateEdges,Option.bind_some,hP,if_pos rfl];refine far_loop hP hp _ 0 400000 false rfl (by omega) (by have:=(edges_facts hP).2.2.1;omega) (.inr ?_);have g:=good_of hP;obtain⟨_,_,e,he,f3⟩:=Mort.farL_spec hp (Mort.plateEdges_ok g).2 (Mort.plateEdges_ok g).1;rw [← allEdges_pl] at he;obtain⟨s,hs,rfl⟩:=List.mem_map.1 he;refine⟨s,by rw [List.drop_zero];exact hs,?_⟩;unfold plateFar;rw [hP,hp,Bool.and_self,if_pos rfl,f3]
end Go.Proofs.YtkefmnmoaomlhaaDoor.Pure
end
section
namespace Go.Proofs.YtkefmnmoaomlhaaDoorW.PrintWords
open Go.ChangeShapes Go.WideShapes
theorem sized_ints {H:Type}{enc:TypeId × Value→H}{P:Program}{W:World}{base:Nat}{spare:Nat→Bool}{held:Bool}{t e:TypeId}{k:IntKind}{a:Option Addr}{len cap:Nat}{d:DataW H}{ps:List MemPlace}{ts:List TypeId}{ds:List (DataW H)}{j:Nat}
  (hsz:(DataW.weightsEach P ts ds).all (· ≤ reachBytes)=true) (ht:ts[j]?=some t) (hd:ds[j]?=some d) (hu:P.underlying t=some (.slice e)) (he:P.underlying e=some (.int k)) (hc:P.cellsOf e=1) {B:Nat} (hB:P.bytesOf e=B)
  (h:DataW.Trod enc P W base spare held t (.slice a len cap) d ps):len*B≤140737488351232:=by
 obtain⟨fuel,hf⟩:=h
 rcases open_ints hu he hc hf with ⟨hcs,_⟩ | ⟨x,l,c,zs,hcs,_,hl,_,hz,hx,_,_⟩
 ·
  simp [Value.cells] at hcs;obtain⟨rfl,rfl,rfl⟩:=hcs;simp
 ·
  simp [Value.cells] at hcs;obtain⟨rfl,rfl,rfl⟩:=hcs;obtain⟨hx,_⟩:=Prod.mk.inj hx;subst hx;have z:=sized_slice hsz ht hd hu;rw [hB] at z;have hl2:len≤zs.length:=by
   rw [hz]
   split
   ·
    exact hl
   ·
    exact Nat.le_refl _
  have h1:(lits (H:=H) k (zs.take len)).length+(lits (H:=H) k (zs.drop len)).length=zs.length:=by
   simp [lits];omega
  rw [h1] at z;exact Nat.le_trans (Nat.mul_le_mul_right _ hl2) z
end Go.Proofs.YtkefmnmoaomlhaaDoorW.PrintWords
end
section
set_option linter.unusedVariables false
namespace Go.Proofs.YtkefmnmoaomlhaaDoor.fnPlateFar
open Go Go.ChangeShapes Go.WideShapes Go.ChangeAt Go.RowKit Go.Proofs.YtkefmnmoaomlhaaDoorW
open Go.ChangeMaps (open_string shut_string)
def IsRow (k:IntKind)(w:World)(a:Option Addr)(len cap:Nat)(zs:List Int):Prop:=
 (a=none∧len=0∧cap=0∧zs=[]) ∨
 ∃ x,a=some x∧len≤cap∧cap≤maxLen∧zs.length=cap∧(∀ i,i<zs.length→w.cell? (x.add i)=some (.int k (zs.getD i 0)))∧∀ n∈zs,(Lit.int k n).wf=true
set_option maxRecDepth 100000 in
theorem lifted (os:Os)(started:os.Started)(H:Type)(enc:TypeId × Value→H):
  ReturnsInHanded {} Tryd.checked os 10 .any (fun w args=>(Rows.fnPlateFarSpec.pre enc Tryd.prog Tryd.f10 [] false w args∧laidMet Tryd.prog laidErr w)∧sizedMet enc Tryd.prog Tryd.f10 (OpenSpec.ofChange Rows.fnPlateFarSpec) false w args) (Rows.fnPlateFarSpec.post enc Tryd.prog Tryd.f10 false true false false):=by
 refine returnsInHanded_of_change_and (C:=Tryd.checked) (X:=fun w _=>laidMet Tryd.prog laidErr w) (fun _ _ _ hh h=>h.of_heap hh) own started (by kernel_rfl) Tryd.func10
  (ChangeSpec.witness_at (enc:=enc) (C:=Tryd.checked) (os:=os) (X:=fun w _=>laidMet Tryd.prog laidErr w) false (laidWorld os) #[.slice none 0 0] 8 rfl (by kernel_rfl) (by kernel_rfl) (by kernel_rfl) (by kernel_rfl) (by kernel_rfl) (laidWorld_met os _)) ?_
 intro W base args ds gs before hval0 hW hcnd hsz0 hL _;have hsz:(DataW.weightsEach Tryd.prog (Tryd.f10.params.toList++Rows.fnPlateFarSpec.plain.varTypes Tryd.prog) (ds++gs)).all (· ≤ reachBytes)=true:=hsz0;have hval:∀ (j:Nat) t v,Tryd.f10.params[j]?=some t→args[j]?=some v→Value.okWide Tryd.prog W .any base t v:=hval0;have hW':=hW;obtain⟨p,q,hA0,hV0,rfl,hfz,hnd⟩:=hW;have hA:DataW.TrodAll enc Tryd.prog W 0 (fun _=>true) true Tryd.f10.params.toList args.toList ds p:=hA0;have hV:DataW.TrodVars enc Tryd.prog W (fun _=>true) ["loop.example/mortiser/impl.errNoFrac"] gs q:=hV0;rw [Tryd.params10] at hA hval hsz;obtain⟨v0,vs0,d0,ds0,p0,q0,hargs,rfl,rfl,h0,r0⟩:=trodAll_cons hA;obtain⟨rfl,rfl,rfl⟩:=trodAll_nil r0;obtain rfl:args=#[v0]:=by cases args;simp_all
 obtain⟨a,st,hv,hcs,hs0,hz0⟩:=err_of_laid hL;obtain⟨rfl,rfl⟩:=hV.unique (errVars enc hv trivial _);have hE:ErrW W:=ErrW.of_var hv;obtain⟨a0,len0,cap0,rfl⟩:=okWide_slice Tryd.underlying22 (hval 0 22 v0 rfl rfl);have k0:=h0;have lt0:∀ x∈p0,x.block<W.heap.size:=by obtain⟨m,hm⟩:=k0;exact DataW.trod_lt m _ _ _ hm
 obtain⟨z0,w0⟩:∃ zs,IsRow .u8 W a0 len0 cap0 zs:=by
  obtain⟨fuel,hf⟩:=h0
  rcases open_ints Tryd.underlying22 Tryd.underlying5 (by kernel_rfl) hf with ⟨hcs,_⟩ | ⟨x,l,c,zs,hcs,_,hl,hm,hz,_,hcell,hwz⟩
  ·
   simp [Value.cells] at hcs;obtain⟨rfl,rfl,rfl⟩:=hcs;exact⟨[],.inl ⟨rfl,rfl,rfl,rfl⟩⟩
  ·
   simp [Value.cells] at hcs;obtain⟨rfl,rfl,rfl⟩:=hcs;exact⟨zs,.inr ⟨_,rfl,hl,hm,by simpa using hz,hcell,hwz⟩⟩
 have y0:len0*1≤140737488351232:=PrintWords.sized_ints hsz (j:=0) (t:=22) rfl rfl Tryd.underlying22 Tryd.underlying5 (by kernel_rfl) (by kernel_rfl) h0;clear hA0 hval0 hsz0 hsz;refine (X.laws_FnPlateFar.walk Pure.FnPlateFar a0 len0 cap0 z0 W hE w0 y0).mono fun e W' ⟨he,bel⟩=>?_
 subst he;exact⟨_,rfl,_,_,_,[],_,[.cell 0 0],hW',trodAll_mk1 (shut_bool Tryd.underlying4 _),(trodAll_cons_mk (Below.trod laidOut (by kernel_rfl) (of_decide_eq_true (by kernel_rfl)) k0 bel lt0) trodAll_mk0),errVars enc (errBelow bel hv) trivial _,bel.frame _,fun h=>by cases h⟩
theorem over:Rows.fnPlateFarRow.holds Tryd.pinned (OpenSpec.ofChange Rows.fnPlateFarSpec):=
 OpenClaim.holds_of_wide 10 Tryd.f10 rfl rfl rfl rfl rfl rfl rfl ⟨rfl,rfl,rfl,rfl,rfl⟩ rfl rfl rfl rfl rfl (by kernel_rfl) Tryd.func10 (by kernel_rfl)
  (of_decide_eq_true (by kernel_rfl)) (by unfold Func.isWrapper;first | (rw [if_pos (by decide +kernel)];kernel_rfl) | (rw [if_neg (by decide +kernel)];exact⟨rfl,rfl⟩))
  (fun os started H enc _=>lifted os started H enc)
theorem proved:Rows.FnPlateFarCardSaid:=
 Claim7.holds_tied_plain_at .later [] [.sentinel] true (true,"81de65706e8f648528cfb316c2c65b1eb27649638b9ac8b9a8b267c9286ff7f7") true
  over (fun _ h=>by cases h) (by kernel_rfl) (fun _ h=>by cases h) fnPlateFar_row_tie rfl ⟨rfl,rfl⟩ (by kernel_rfl) rfl
  (fun f fn hf hfn=>by
   obtain rfl:f=10:=Option.some.inj ((show Tryd.prog.funcNamed "loop.example/mortiser/laws.FnPlateFar" = some 10 by kernel_rfl).symm.trans hf) |>.symm
   obtain rfl:fn=Tryd.f10:=(Option.some.inj (Tryd.func10.symm.trans hfn)).symm
   exact⟨by kernel_rfl,fun j t ht=>by
    rw [Tryd.params10] at ht;have h3:t=22:=by
     rcases j with _ | j
     ·
      simpa using ht.symm
     ·
      simp at ht
    subst h3
    exact (show Tryd.prog.wantsStandIn 22=false by kernel_rfl)⟩)
  (by kernel_rfl)
end Go.Proofs.YtkefmnmoaomlhaaDoor.fnPlateFar
namespace Go.Proofs.YtkefmnmoaomlhaaDoor
theorem fnPlateFar_holds:Rows.FnPlateFarCardSaid:=fnPlateFar.proved
end Go.Proofs.YtkefmnmoaomlhaaDoor
end
