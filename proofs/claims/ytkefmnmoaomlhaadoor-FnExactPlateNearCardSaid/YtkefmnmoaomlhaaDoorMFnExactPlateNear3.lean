/- FnExactPlateNear: the law returns true for every input, and each input reads behind the call as before; part 3 of 5. No condition. Merged by program out of: FSpecL2Meet, HMeet, FSpecLoopOk, EvLoop, HMeets, HInside, HRings, HRound, HLoopA, HKept, HBody, HSeg. -/
import Derived.Test.YtkefmnmoaomlhaaDoorMFnExactPlateNear2
import Derived.Deep.LoopGhost
import Derived.Deep.RegionHeld3
import Derived.LaidEqlPtr
import Derived.RegionTactic
import Derived.BigRegion
import Derived.BigGuard
import Derived.ChangeAlike
import Derived.OwnWalk
import Derived.Outline
import Derived.WalkLawsBesides
set_option linter.all false
section
namespace Go.Proofs.YtkefmnmoaomlhaaDoor.X
open Go.RowKit Go.Proofs.YtkefmnmoaomlhaaDoorW.PrintWords Go.Proofs.YtkefmnmoaomlhaaDoorW.PrintLast Go.Proofs.YtkefmnmoaomlhaaDoorW.PrintMore
attribute [local go_sem] max2_int min2_int max_two min_two max_three min_three max_four min_four
set_option linter.unusedVariables false
set_option linter.unusedSimpArgs false
def spec_l2Meet.f (a0_0:Int)(a0_1:Int)(a0_2:Int)(a0_3:Int)(a1_0:Int)(a1_1:Int)(a1_2:Int)(a1_3:Int):Option (Bool):=(spec_l2Cross.f a0_0 a0_1 a0_2 a0_3 a1_0 a1_1).bind fun t226=>((spec_l2Sign.f t226).bind fun t227=>((spec_l2Cross.f a0_0 a0_1 a0_2 a0_3 a1_2 a1_3).bind fun t228=>((spec_l2Sign.f t228).bind fun t229=>((spec_l2Cross.f a1_0 a1_1 a1_2 a1_3 a0_0 a0_1).bind fun t230=>((spec_l2Sign.f t230).bind fun t231=>((spec_l2Cross.f a1_0 a1_1 a1_2 a1_3 a0_2 a0_3).bind fun t232=>((spec_l2Sign.f t232).bind fun t233=>(if (wrap64 (t227*t229))<0 then (if (wrap64 (t231*t233))<0 then (some true) else ((spec_l2Has.f a0_0 a0_1 a0_2 a0_3 a1_0 a1_1).bind fun t234=>(if t234=true then (some true) else ((spec_l2Has.f a0_0 a0_1 a0_2 a0_3 a1_2 a1_3).bind fun t235=>(if t235=true then (some true) else ((spec_l2Has.f a1_0 a1_1 a1_2 a1_3 a0_0 a0_1).bind fun t236=>(if t236=true then (some true) else ((spec_l2Has.f a1_0 a1_1 a1_2 a1_3 a0_2 a0_3).bind fun t237=>(some t237))))))))) else ((spec_l2Has.f a0_0 a0_1 a0_2 a0_3 a1_0 a1_1).bind fun t238=>(if t238=true then (some true) else ((spec_l2Has.f a0_0 a0_1 a0_2 a0_3 a1_2 a1_3).bind fun t239=>(if t239=true then (some true) else ((spec_l2Has.f a1_0 a1_1 a1_2 a1_3 a0_0 a0_1).bind fun t240=>(if t240=true then (some true) else ((spec_l2Has.f a1_0 a1_1 a1_2 a1_3 a0_2 a0_3).bind fun t241=>(some t241))))))))))))))))
def spec_l2Meet.T1:Bool × List (List Nat × List Nat):=(true,[([],[]),([0],[0]),([],[]),([2],[2]),([],[]),([4],[4]),([1,3,5],[1,3,5]),([6,6],[6]),([],[]),([8],[8]),([],[]),([10],[10]),([],[]),([12],[12]),([9,11,13,7],[9,11,13]),([14,14],[14]),([7,15],[7,15]),([16,15,0,1,2,3,4,5,6,7,8,9,10,11,12,13,14,15,16],[16])])
def spec_l2Meet.B1:List Nat:=[0,1,0,4,0,16,63,127,0,256,0,1024,0,4096,16383,32767,65535,131071]
theorem spec_l2Meet.tab1:rtab .any (opsOf Tryd.f101 1)=spec_l2Meet.T1:=by kernel_rfl
theorem spec_l2Meet.bits1:waitsOk spec_l2Meet.T1.2 spec_l2Meet.B1=true:=by kernel_rfl
def spec_l2Meet.T2:Bool × List (List Nat × List Nat):=(true,[([],[]),([0],[0]),([],[]),([2],[2]),([],[]),([4],[4]),([1,3,5],[1,3,5]),([6,6],[6]),([],[]),([8],[8]),([],[]),([10],[10]),([],[]),([12],[12]),([9,11,13,7],[9,11,13]),([14,14],[14]),([7,15],[7,15]),([16,15,0,1,2,3,4,5,6,7,8,9,10,11,12,13,14,15,16],[16])])
def spec_l2Meet.B2:List Nat:=[0,1,0,4,0,16,63,127,0,256,0,1024,0,4096,16383,32767,65535,131071]
theorem spec_l2Meet.tab2:rtab .any (opsOf Tryd.f101 2)=spec_l2Meet.T2:=by kernel_rfl
theorem spec_l2Meet.bits2:waitsOk spec_l2Meet.T2.2 spec_l2Meet.B2=true:=by kernel_rfl
set_option maxHeartbeats 8000000 in
set_option maxRecDepth 100000 in
theorem spec_l2Meet.calls (a0_0:Int)(a0_1:Int)(a0_2:Int)(a0_3:Int)(a1_0:Int)(a1_1:Int)(a1_2:Int)(a1_3:Int)(r:Bool)(w:World)(h:spec_l2Meet.f a0_0 a0_1 a0_2 a0_3 a1_0 a1_1 a1_2 a1_3=some r):
  Calls Tryd.prog 101 #[.agg #[.int .i64 a0_0,.int .i64 a0_1,.int .i64 a0_2,.int .i64 a0_3],.agg #[.int .i64 a1_0,.int .i64 a1_1,.int .i64 a1_2,.int .i64 a1_3]] w fun e w'=>e=.returned (.bool r)∧Below w.heap.size w w':=by
 have hu61:=Tryd.underlying61;have hu28:=Tryd.underlying28;have HB:=a0_ (Below.refl w.heap.size w);have H:((spec_l2Cross.f a0_0 a0_1 a0_2 a0_3 a1_0 a1_1).bind fun t226=>((spec_l2Sign.f t226).bind fun t227=>((spec_l2Cross.f a0_0 a0_1 a0_2 a0_3 a1_2 a1_3).bind fun t228=>((spec_l2Sign.f t228).bind fun t229=>((spec_l2Cross.f a1_0 a1_1 a1_2 a1_3 a0_0 a0_1).bind fun t230=>((spec_l2Sign.f t230).bind fun t231=>((spec_l2Cross.f a1_0 a1_1 a1_2 a1_3 a0_2 a0_3).bind fun t232=>((spec_l2Sign.f t232).bind fun t233=>(if (wrap64 (t227*t229))<0 then (if (wrap64 (t231*t233))<0 then (some true) else ((spec_l2Has.f a0_0 a0_1 a0_2 a0_3 a1_0 a1_1).bind fun t234=>(if t234=true then (some true) else ((spec_l2Has.f a0_0 a0_1 a0_2 a0_3 a1_2 a1_3).bind fun t235=>(if t235=true then (some true) else ((spec_l2Has.f a1_0 a1_1 a1_2 a1_3 a0_0 a0_1).bind fun t236=>(if t236=true then (some true) else ((spec_l2Has.f a1_0 a1_1 a1_2 a1_3 a0_2 a0_3).bind fun t237=>(some t237))))))))) else ((spec_l2Has.f a0_0 a0_1 a0_2 a0_3 a1_0 a1_1).bind fun t238=>(if t238=true then (some true) else ((spec_l2Has.f a0_0 a0_1 a0_2 a0_3 a1_2 a1_3).bind fun t239=>(if t239=true then (some true) else ((spec_l2Has.f a1_0 a1_1 a1_2 a1_3 a0_0 a0_1).bind fun t240=>(if t240=true then (some true) else ((spec_l2Has.f a1_0 a1_1 a1_2 a1_3 a0_2 a0_3).bind fun t241=>(some t241)))))))))))))))))=some r:=h;clear h;replace H:=Option.bind_eq_some_iff.mp H;obtain⟨t226,A30,H⟩:=H
 (try dsimp only at H)
 have A3:=Aside0.mk A30;clear A30;replace H:=Option.bind_eq_some_iff.mp H;obtain⟨t227,A40,H⟩:=H
 (try dsimp only at H)
 have A4:=Aside0.mk A40;clear A40;replace H:=Option.bind_eq_some_iff.mp H;obtain⟨t228,A50,H⟩:=H
 (try dsimp only at H)
 have A5:=Aside0.mk A50;clear A50;replace H:=Option.bind_eq_some_iff.mp H;obtain⟨t229,A60,H⟩:=H
 (try dsimp only at H)
 have A6:=Aside0.mk A60;clear A60;replace H:=Option.bind_eq_some_iff.mp H;obtain⟨t230,A70,H⟩:=H
 (try dsimp only at H)
 have A7:=Aside0.mk A70;clear A70;replace H:=Option.bind_eq_some_iff.mp H;obtain⟨t231,A80,H⟩:=H
 (try dsimp only at H)
 have A8:=Aside0.mk A80;clear A80;replace H:=Option.bind_eq_some_iff.mp H;obtain⟨t232,A90,H⟩:=H
 (try dsimp only at H)
 have A9:=Aside0.mk A90;clear A90;replace H:=Option.bind_eq_some_iff.mp H;obtain⟨t233,A100,H⟩:=H
 (try dsimp only at H)
 have A10:=Aside0.mk A100;clear A100;go_enter Tryd.func101,Tryd.ntmps101
 try go_wp2_with (first | ((with_reducible refine gate_dst (N:=2) rfl ?_);refine bx_ (N:=2) (cs:=#[.int .i64 a0_0,.int .i64 a0_1,.int .i64 a0_2,.int .i64 a0_3]) (t:=61) (h:=?_);intro gb224 hg w13 hbox hb;have BK224:=a0_ (hbox);have GW224:=gh_ HB hg;have GE224:=gh_ HB hg;replace HB:=sb_ HB hb;clear hb hbox hg) | ((with_reducible refine gate_dst (N:=3) rfl ?_);refine bx_ (N:=3) (cs:=#[.int .i64 a1_0,.int .i64 a1_1,.int .i64 a1_2,.int .i64 a1_3]) (t:=61) (h:=?_);intro gb225 hg w14 hbox hb;have BK225:=a0_ (hbox);have GW225:=gh_ HB hg;have GE225:=gh_ HB hg;have NB224_225:=nl_ BK224 hg;have NB225_224:=nr_ BK224 hg;replace BK224:=vb_ BK224 hb;replace HB:=sb_ HB hb;clear hb hbox hg))
 replace BK224:=a0_ (blk_drew BK224.out);replace BK225:=a0_ (blk_drew BK225.out);replace HB:=a0_ (below_drew1 HB.out);refine start_ (n:=18) (S:=fun w'=>w'.cell? ⟨gb224,0,none⟩=some (.int .i64 a0_0)∧w'.cell? ⟨gb224,1,none⟩=some (.int .i64 a0_1)∧w'.cell? ⟨gb224,2,none⟩=some (.int .i64 a0_2)∧w'.cell? ⟨gb224,3,none⟩=some (.int .i64 a0_3)∧w'.cell? ⟨gb225,0,none⟩=some (.int .i64 a1_0)∧w'.cell? ⟨gb225,1,none⟩=some (.int .i64 a1_1)∧w'.cell? ⟨gb225,2,none⟩=some (.int .i64 a1_2)∧w'.cell? ⟨gb225,3,none⟩=some (.int .i64 a1_3)) (ds:=[]) (Array.replicate 18 false) (by kernel_rfl) rfl rfl ⟨bc_,bc_,bc_,bc_,bc_,bc_,bc_,bc_⟩ (fun hHeld=>?_);refine with_tabW spec_l2Meet.tab1 spec_l2Meet.bits1 (fun HT_ HW_=>?_);generalize w14.drew=w15 at BK224 BK225 HB hHeld ⊢
 refine pu_ HT_ 0 7 (bm 18 1) ?_;refine pu_ HT_ 2 9 (bm 18 5) ?_;refine pu_ HT_ 4 11 (bm 18 21) ?_;refine pu_ HT_ 8 15 (bm 18 277) ?_;refine pu_ HT_ 10 17 (bm 18 1301) ?_;refine pu_ HT_ 12 19 (bm 18 5397) ?_;refine ta8_ HT_ HW_ 1 8 (bm 18 5399) hHeld ?_;refine ta8_ HT_ HW_ 3 10 (bm 18 5407) hHeld ?_;refine ta8_ HT_ HW_ 5 12 (bm 18 5439) hHeld ?_;refine ta8_ HT_ HW_ 9 16 (bm 18 5951) hHeld ?_;refine ta8_ HT_ HW_ 11 18 (bm 18 7999) hHeld ?_;refine ta8_ HT_ HW_ 13 20 (bm 18 16191) hHeld ?_;refine one_ (i:=6) (N:=some 13) (bm 18 16255) rfl rfl (one_of HT_.out (by kernel_rfl)) (by decide) (fun K hK=>?_);refine goes_ Tryd.func102 (by kernel_rfl) rfl #[.agg #[.int .i64 a0_0,.int .i64 a0_1],.agg #[.int .i64 a0_2,.int .i64 a0_3],.agg #[.int .i64 a1_0,.int .i64 a1_1]] (by rfl) rfl rfl ma_ ?_
 with_reducible refine (spec_l2Cross.calls a0_0 a0_1 a0_2 a0_3 a1_0 a1_1 t226 _ A3.out).mono ?_
 rintro e w16 ⟨rfl,hb⟩;refine⟨_,rfl,?_⟩;replace BK224:=vb_ BK224 hb;replace BK225:=vb_ BK225 hb;replace HB:=sb_ HB hb
 (try clear hb)
 (try clear hb2)
 (try clear hk)
 (try clear hi)
 refine hK.out _ _ ⟨bc_,bc_,bc_,bc_,bc_,bc_,bc_,bc_⟩ (fun hHeld=>?_);clear hK K;refine no_ (h:=?_);refine one_ (i:=7) (N:=some 14) (bm 18 16383) rfl rfl (one_of HT_.out (by kernel_rfl)) (by decide) (fun K hK=>?_);refine goes_ Tryd.func118 (by kernel_rfl) rfl #[.int .i64 t226] (by rfl) rfl rfl ma_ ?_
 with_reducible refine (spec_l2Sign.calls t226 t227 _ A4.out).mono ?_
 rintro e w' ⟨rfl,⟨nd,rfl⟩⟩;refine⟨_,rfl,?_⟩;refine hK.out _ _ ⟨bc_,bc_,bc_,bc_,bc_,bc_,bc_,bc_⟩ (fun hHeld=>?_);clear hK K;refine no_ (h:=?_);refine one_ (i:=14) (N:=some 21) (bm 18 32767) rfl rfl (one_of HT_.out (by kernel_rfl)) (by decide) (fun K hK=>?_);refine goes_ Tryd.func102 (by kernel_rfl) rfl #[.agg #[.int .i64 a0_0,.int .i64 a0_1],.agg #[.int .i64 a0_2,.int .i64 a0_3],.agg #[.int .i64 a1_2,.int .i64 a1_3]] (by rfl) rfl rfl ma_ ?_
 with_reducible refine (spec_l2Cross.calls a0_0 a0_1 a0_2 a0_3 a1_2 a1_3 t228 _ A5.out).mono ?_
 rintro e w17 ⟨rfl,hb⟩;refine⟨_,rfl,?_⟩;replace BK224:=vb_ BK224 hb;replace BK225:=vb_ BK225 hb;replace HB:=sb_ HB hb
 (try clear hb)
 (try clear hb2)
 (try clear hk)
 (try clear hi)
 refine hK.out _ _ ⟨bc_,bc_,bc_,bc_,bc_,bc_,bc_,bc_⟩ (fun hHeld=>?_);clear hK K;refine no_ (h:=?_);refine one_ (i:=15) (N:=some 22) (bm 18 65535) rfl rfl (one_of HT_.out (by kernel_rfl)) (by decide) (fun K hK=>?_);refine goes_ Tryd.func118 (by kernel_rfl) rfl #[.int .i64 t228] (by rfl) rfl rfl ma_ ?_
 with_reducible refine (spec_l2Sign.calls t228 t229 _ A6.out).mono ?_
 rintro e w' ⟨rfl,⟨nd,rfl⟩⟩;refine⟨_,rfl,?_⟩;refine hK.out _ _ ⟨bc_,bc_,bc_,bc_,bc_,bc_,bc_,bc_⟩ (fun hHeld=>?_);clear hK K;refine no_ (h:=?_);refine pu_ HT_ 16 23 (bm 18 131071) ?_;refine pu_ HT_ 17 5 (bm 18 262143) ?_;refine done_ (done_of HT_.out (by kernel_rfl)) ?_
 try go_wp2
 (try (rw [drewN_self w17];generalize hq_:World.drewN w17 _=w17;have n0_:Aside0 (w17.heap[gb224]?=some (.cells #[.int .i64 a0_0,.int .i64 a0_1,.int .i64 a0_2,.int .i64 a0_3] 61 (0,0))):=⟨by rw [← hq_];exact uq_⟩;have n1_:Aside0 (w17.heap[gb225]?=some (.cells #[.int .i64 a1_0,.int .i64 a1_1,.int .i64 a1_2,.int .i64 a1_3] 61 (0,0))):=⟨by rw [← hq_];exact uq_⟩;have n2_:Aside0 (Below w.heap.size w w17):=⟨by rw [← hq_];exact hB_⟩;clear BK224 BK225 HB hq_;have BK224:=n0_;have BK225:=n1_;have HB:=n2_;clear n0_ n1_ n2_))
 replace BK224:=a0_ (blk_drew BK224.out);replace BK225:=a0_ (blk_drew BK225.out);replace HB:=a0_ (below_drew1 HB.out);refine start_ (n:=18) (S:=fun w'=>w'.cell? ⟨gb225,0,none⟩=some (.int .i64 a1_0)∧w'.cell? ⟨gb225,1,none⟩=some (.int .i64 a1_1)∧w'.cell? ⟨gb225,2,none⟩=some (.int .i64 a1_2)∧w'.cell? ⟨gb225,3,none⟩=some (.int .i64 a1_3)∧w'.cell? ⟨gb224,0,none⟩=some (.int .i64 a0_0)∧w'.cell? ⟨gb224,1,none⟩=some (.int .i64 a0_1)∧w'.cell? ⟨gb224,2,none⟩=some (.int .i64 a0_2)∧w'.cell? ⟨gb224,3,none⟩=some (.int .i64 a0_3)) (ds:=[]) (Array.replicate 18 false) (by kernel_rfl) rfl rfl ⟨bc_,bc_,bc_,bc_,bc_,bc_,bc_,bc_⟩ (fun hHeld=>?_);refine with_tabW spec_l2Meet.tab2 spec_l2Meet.bits2 (fun HT_ HW_=>?_);generalize w17.drew=w18 at BK224 BK225 HB hHeld ⊢
 refine pu_ HT_ 0 24 (bm 18 1) ?_;refine pu_ HT_ 2 26 (bm 18 5) ?_;refine pu_ HT_ 4 28 (bm 18 21) ?_;refine pu_ HT_ 8 32 (bm 18 277) ?_;refine pu_ HT_ 10 34 (bm 18 1301) ?_;refine pu_ HT_ 12 36 (bm 18 5397) ?_;refine ta8_ HT_ HW_ 1 25 (bm 18 5399) hHeld ?_;refine ta8_ HT_ HW_ 3 27 (bm 18 5407) hHeld ?_;refine ta8_ HT_ HW_ 5 29 (bm 18 5439) hHeld ?_;refine ta8_ HT_ HW_ 9 33 (bm 18 5951) hHeld ?_;refine ta8_ HT_ HW_ 11 35 (bm 18 7999) hHeld ?_;refine ta8_ HT_ HW_ 13 37 (bm 18 16191) hHeld ?_;refine one_ (i:=6) (N:=some 30) (bm 18 16255) rfl rfl (one_of HT_.out (by kernel_rfl)) (by decide) (fun K hK=>?_);refine goes_ Tryd.func102 (by kernel_rfl) rfl #[.agg #[.int .i64 a1_0,.int .i64 a1_1],.agg #[.int .i64 a1_2,.int .i64 a1_3],.agg #[.int .i64 a0_0,.int .i64 a0_1]] (by rfl) rfl rfl ma_ ?_
 with_reducible refine (spec_l2Cross.calls a1_0 a1_1 a1_2 a1_3 a0_0 a0_1 t230 _ A7.out).mono ?_
 rintro e w19 ⟨rfl,hb⟩;refine⟨_,rfl,?_⟩;replace BK224:=vb_ BK224 hb;replace BK225:=vb_ BK225 hb;replace HB:=sb_ HB hb
 (try clear hb)
 (try clear hb2)
 (try clear hk)
 (try clear hi)
 refine hK.out _ _ ⟨bc_,bc_,bc_,bc_,bc_,bc_,bc_,bc_⟩ (fun hHeld=>?_);clear hK K;refine no_ (h:=?_);refine one_ (i:=7) (N:=some 31) (bm 18 16383) rfl rfl (one_of HT_.out (by kernel_rfl)) (by decide) (fun K hK=>?_);refine goes_ Tryd.func118 (by kernel_rfl) rfl #[.int .i64 t230] (by rfl) rfl rfl ma_ ?_
 with_reducible refine (spec_l2Sign.calls t230 t231 _ A8.out).mono ?_
 rintro e w' ⟨rfl,⟨nd,rfl⟩⟩;refine⟨_,rfl,?_⟩;refine hK.out _ _ ⟨bc_,bc_,bc_,bc_,bc_,bc_,bc_,bc_⟩ (fun hHeld=>?_);clear hK K;refine no_ (h:=?_);refine one_ (i:=14) (N:=some 38) (bm 18 32767) rfl rfl (one_of HT_.out (by kernel_rfl)) (by decide) (fun K hK=>?_);refine goes_ Tryd.func102 (by kernel_rfl) rfl #[.agg #[.int .i64 a1_0,.int .i64 a1_1],.agg #[.int .i64 a1_2,.int .i64 a1_3],.agg #[.int .i64 a0_2,.int .i64 a0_3]] (by rfl) rfl rfl ma_ ?_
 with_reducible refine (spec_l2Cross.calls a1_0 a1_1 a1_2 a1_3 a0_2 a0_3 t232 _ A9.out).mono ?_
 rintro e w20 ⟨rfl,hb⟩;refine⟨_,rfl,?_⟩;replace BK224:=vb_ BK224 hb;replace BK225:=vb_ BK225 hb;replace HB:=sb_ HB hb
 (try clear hb)
 (try clear hb2)
 (try clear hk)
 (try clear hi)
 refine hK.out _ _ ⟨bc_,bc_,bc_,bc_,bc_,bc_,bc_,bc_⟩ (fun hHeld=>?_);clear hK K;refine no_ (h:=?_);refine one_ (i:=15) (N:=some 39) (bm 18 65535) rfl rfl (one_of HT_.out (by kernel_rfl)) (by decide) (fun K hK=>?_);refine goes_ Tryd.func118 (by kernel_rfl) rfl #[.int .i64 t232] (by rfl) rfl rfl ma_ ?_
 with_reducible refine (spec_l2Sign.calls t232 t233 _ A10.out).mono ?_
 rintro e w' ⟨rfl,⟨nd,rfl⟩⟩;refine⟨_,rfl,?_⟩;refine hK.out _ _ ⟨bc_,bc_,bc_,bc_,bc_,bc_,bc_,bc_⟩ (fun hHeld=>?_);clear hK K;refine no_ (h:=?_);refine pu_ HT_ 16 40 (bm 18 131071) ?_;refine pu_ HT_ 17 6 (bm 18 262143) ?_;refine done_ (done_of HT_.out (by kernel_rfl)) ?_;by_cases c11:(wrap64 (t227*t229))<0
 ·
  rw [if_pos c11] at H;have c11b0:decide ((wrap64 (t227*t229))<0)=true:=decide_eq_true c11;clear c11;by_cases c12:(wrap64 (t231*t233))<0
  ·
   rw [if_pos c12] at H;have c12b0:decide ((wrap64 (t231*t233))<0)=true:=decide_eq_true c12;clear c12;obtain rfl:=Option.some.inj H
   try go_wp2
   go_ret;exact⟨rr_,hB_⟩
  ·
   rw [if_neg c12] at H;have c12b0:decide ((wrap64 (t231*t233))<0)=false:=decide_eq_false c12;clear c12;replace H:=Option.bind_eq_some_iff.mp H;obtain⟨t234,A210,H⟩:=H
   (try dsimp only at H)
   have A21:=Aside0.mk A210;clear A210;by_cases c22:t234=true
   ·
    subst c22;rw [if_pos rfl] at H
    (try dsimp only at H)
    obtain rfl:=Option.some.inj H;have hnb31:=NB224_225.out;have hnc31:=NB225_224.out;have hcz32_0:=c40_ BK224;have hcz32_1:=c41_ BK224;have hcz32_2:=c42_ BK224;have hcz32_3:=c43_ BK224;have hfz32_0:=fz_ BK224 0;have hfz32_1:=fz_ BK224 1;have hfz32_2:=fz_ BK224 2;have hfz32_3:=fz_ BK224 3;have hcz33_0:=c40_ BK225;have hcz33_1:=c41_ BK225;have hcz33_2:=c42_ BK225;have hcz33_3:=c43_ BK225;have hfz33_0:=fz_ BK225 0;have hfz33_1:=fz_ BK225 1;have hfz33_2:=fz_ BK225 2;have hfz33_3:=fz_ BK225 3
    try go_wp2_with (first | (go_at_call 100;(with_reducible refine (spec_l2Has.calls a0_0 a0_1 a0_2 a0_3 a1_0 a1_1 true _ A21.out).mono ?_);rintro e w34 ⟨rfl,hb⟩;replace BK224:=vb_ BK224 hb;replace BK225:=vb_ BK225 hb;replace HB:=sb_ HB hb;(try clear hb)))
    go_ret;exact⟨rr_,hB_⟩
   ·
    replace c22:=Bool.eq_false_iff.mpr c22;subst c22;rw [if_neg (show ¬ (false=true) by decide)] at H
    (try dsimp only at H)
    replace H:=Option.bind_eq_some_iff.mp H;obtain⟨t235,A350,H⟩:=H
    (try dsimp only at H)
    have A35:=Aside0.mk A350;clear A350;by_cases c36:t235=true
    ·
     subst c36;rw [if_pos rfl] at H
     (try dsimp only at H)
     obtain rfl:=Option.some.inj H;have hnb45:=NB224_225.out;have hnc45:=NB225_224.out;have hcz46_0:=c40_ BK224;have hcz46_1:=c41_ BK224;have hcz46_2:=c42_ BK224;have hcz46_3:=c43_ BK224;have hfz46_0:=fz_ BK224 0;have hfz46_1:=fz_ BK224 1;have hfz46_2:=fz_ BK224 2;have hfz46_3:=fz_ BK224 3;have hcz47_0:=c40_ BK225;have hcz47_1:=c41_ BK225;have hcz47_2:=c42_ BK225;have hcz47_3:=c43_ BK225;have hfz47_0:=fz_ BK225 0;have hfz47_1:=fz_ BK225 1;have hfz47_2:=fz_ BK225 2;have hfz47_3:=fz_ BK225 3
     try go_wp2_with (first | (go_at_call 100;(with_reducible refine (spec_l2Has.calls a0_0 a0_1 a0_2 a0_3 a1_0 a1_1 false _ A21.out).mono ?_);rintro e w48 ⟨rfl,hb⟩;replace BK224:=vb_ BK224 hb;replace BK225:=vb_ BK225 hb;replace HB:=sb_ HB hb;(try clear hb);have hcz49_0:=c40_ BK224;have hcz49_1:=c41_ BK224;have hcz49_2:=c42_ BK224;have hcz49_3:=c43_ BK224;have hfz49_0:=fz_ BK224 0;have hfz49_1:=fz_ BK224 1;have hfz49_2:=fz_ BK224 2;have hfz49_3:=fz_ BK224 3;have hcz50_0:=c40_ BK225;have hcz50_1:=c41_ BK225;have hcz50_2:=c42_ BK225;have hcz50_3:=c43_ BK225;have hfz50_0:=fz_ BK225 0;have hfz50_1:=fz_ BK225 1;have hfz50_2:=fz_ BK225 2;have hfz50_3:=fz_ BK225 3) | (go_at_call 100;(with_reducible refine (spec_l2Has.calls a0_0 a0_1 a0_2 a0_3 a1_2 a1_3 true _ A35.out).mono ?_);rintro e w51 ⟨rfl,hb⟩;replace BK224:=vb_ BK224 hb;replace BK225:=vb_ BK225 hb;replace HB:=sb_ HB hb;(try clear hb)))
     go_ret;exact⟨rr_,hB_⟩
    ·
     replace c36:=Bool.eq_false_iff.mpr c36;subst c36;rw [if_neg (show ¬ (false=true) by decide)] at H
     (try dsimp only at H)
     replace H:=Option.bind_eq_some_iff.mp H;obtain⟨t236,A520,H⟩:=H
     (try dsimp only at H)
     have A52:=Aside0.mk A520;clear A520;by_cases c53:t236=true
     ·
      subst c53;rw [if_pos rfl] at H
      (try dsimp only at H)
      obtain rfl:=Option.some.inj H;have hnb62:=NB224_225.out;have hnc62:=NB225_224.out;have hcz63_0:=c40_ BK224;have hcz63_1:=c41_ BK224;have hcz63_2:=c42_ BK224;have hcz63_3:=c43_ BK224;have hfz63_0:=fz_ BK224 0;have hfz63_1:=fz_ BK224 1;have hfz63_2:=fz_ BK224 2;have hfz63_3:=fz_ BK224 3;have hcz64_0:=c40_ BK225;have hcz64_1:=c41_ BK225;have hcz64_2:=c42_ BK225;have hcz64_3:=c43_ BK225;have hfz64_0:=fz_ BK225 0;have hfz64_1:=fz_ BK225 1;have hfz64_2:=fz_ BK225 2;have hfz64_3:=fz_ BK225 3
      try go_wp2_with (first | (go_at_call 100;(with_reducible refine (spec_l2Has.calls a0_0 a0_1 a0_2 a0_3 a1_0 a1_1 false _ A21.out).mono ?_);rintro e w65 ⟨rfl,hb⟩;replace BK224:=vb_ BK224 hb;replace BK225:=vb_ BK225 hb;replace HB:=sb_ HB hb;(try clear hb);have hcz66_0:=c40_ BK224;have hcz66_1:=c41_ BK224;have hcz66_2:=c42_ BK224;have hcz66_3:=c43_ BK224;have hfz66_0:=fz_ BK224 0;have hfz66_1:=fz_ BK224 1;have hfz66_2:=fz_ BK224 2;have hfz66_3:=fz_ BK224 3;have hcz67_0:=c40_ BK225;have hcz67_1:=c41_ BK225;have hcz67_2:=c42_ BK225;have hcz67_3:=c43_ BK225;have hfz67_0:=fz_ BK225 0;have hfz67_1:=fz_ BK225 1;have hfz67_2:=fz_ BK225 2;have hfz67_3:=fz_ BK225 3) | (go_at_call 100;(with_reducible refine (spec_l2Has.calls a0_0 a0_1 a0_2 a0_3 a1_2 a1_3 false _ A35.out).mono ?_);rintro e w68 ⟨rfl,hb⟩;replace BK224:=vb_ BK224 hb;replace BK225:=vb_ BK225 hb;replace HB:=sb_ HB hb;(try clear hb);have hcz69_0:=c40_ BK225;have hcz69_1:=c41_ BK225;have hcz69_2:=c42_ BK225;have hcz69_3:=c43_ BK225;have hfz69_0:=fz_ BK225 0;have hfz69_1:=fz_ BK225 1;have hfz69_2:=fz_ BK225 2;have hfz69_3:=fz_ BK225 3;have hcz70_0:=c40_ BK224;have hcz70_1:=c41_ BK224;have hcz70_2:=c42_ BK224;have hcz70_3:=c43_ BK224;have hfz70_0:=fz_ BK224 0;have hfz70_1:=fz_ BK224 1;have hfz70_2:=fz_ BK224 2;have hfz70_3:=fz_ BK224 3) | (go_at_call 100;(with_reducible refine (spec_l2Has.calls a1_0 a1_1 a1_2 a1_3 a0_0 a0_1 true _ A52.out).mono ?_);rintro e w71 ⟨rfl,hb⟩;replace BK224:=vb_ BK224 hb;replace BK225:=vb_ BK225 hb;replace HB:=sb_ HB hb;(try clear hb)))
      go_ret;exact⟨rr_,hB_⟩
     ·
      replace c53:=Bool.eq_false_iff.mpr c53;subst c53;rw [if_neg (show ¬ (false=true) by decide)] at H
      (try dsimp only at H)
      replace H:=Option.bind_eq_some_iff.mp H;obtain⟨t237,A720,H⟩:=H
      (try dsimp only at H)
      have A72:=Aside0.mk A720;clear A720;obtain rfl:=Option.some.inj H;have hnb81:=NB224_225.out;have hnc81:=NB225_224.out;have hcz82_0:=c40_ BK224;have hcz82_1:=c41_ BK224;have hcz82_2:=c42_ BK224;have hcz82_3:=c43_ BK224;have hfz82_0:=fz_ BK224 0;have hfz82_1:=fz_ BK224 1;have hfz82_2:=fz_ BK224 2;have hfz82_3:=fz_ BK224 3;have hcz83_0:=c40_ BK225;have hcz83_1:=c41_ BK225;have hcz83_2:=c42_ BK225;have hcz83_3:=c43_ BK225;have hfz83_0:=fz_ BK225 0;have hfz83_1:=fz_ BK225 1;have hfz83_2:=fz_ BK225 2;have hfz83_3:=fz_ BK225 3
      try go_wp2_with (first | (go_at_call 100;(with_reducible refine (spec_l2Has.calls a0_0 a0_1 a0_2 a0_3 a1_0 a1_1 false _ A21.out).mono ?_);rintro e w84 ⟨rfl,hb⟩;replace BK224:=vb_ BK224 hb;replace BK225:=vb_ BK225 hb;replace HB:=sb_ HB hb;(try clear hb);have hcz85_0:=c40_ BK224;have hcz85_1:=c41_ BK224;have hcz85_2:=c42_ BK224;have hcz85_3:=c43_ BK224;have hfz85_0:=fz_ BK224 0;have hfz85_1:=fz_ BK224 1;have hfz85_2:=fz_ BK224 2;have hfz85_3:=fz_ BK224 3;have hcz86_0:=c40_ BK225;have hcz86_1:=c41_ BK225;have hcz86_2:=c42_ BK225;have hcz86_3:=c43_ BK225;have hfz86_0:=fz_ BK225 0;have hfz86_1:=fz_ BK225 1;have hfz86_2:=fz_ BK225 2;have hfz86_3:=fz_ BK225 3) | (go_at_call 100;(with_reducible refine (spec_l2Has.calls a0_0 a0_1 a0_2 a0_3 a1_2 a1_3 false _ A35.out).mono ?_);rintro e w87 ⟨rfl,hb⟩;replace BK224:=vb_ BK224 hb;replace BK225:=vb_ BK225 hb;replace HB:=sb_ HB hb;(try clear hb);have hcz88_0:=c40_ BK225;have hcz88_1:=c41_ BK225;have hcz88_2:=c42_ BK225;have hcz88_3:=c43_ BK225;have hfz88_0:=fz_ BK225 0;have hfz88_1:=fz_ BK225 1;have hfz88_2:=fz_ BK225 2;have hfz88_3:=fz_ BK225 3;have hcz89_0:=c40_ BK224;have hcz89_1:=c41_ BK224;have hcz89_2:=c42_ BK224;have hcz89_3:=c43_ BK224;have hfz89_0:=fz_ BK224 0;have hfz89_1:=fz_ BK224 1;have hfz89_2:=fz_ BK224 2;have hfz89_3:=fz_ BK224 3) | (go_at_call 100;(with_reducible refine (spec_l2Has.calls a1_0 a1_1 a1_2 a1_3 a0_0 a0_1 false _ A52.out).mono ?_);rintro e w90 ⟨rfl,hb⟩;replace BK224:=vb_ BK224 hb;replace BK225:=vb_ BK225 hb;replace HB:=sb_ HB hb;(try clear hb);have hcz91_0:=c40_ BK225;have hcz91_1:=c41_ BK225;have hcz91_2:=c42_ BK225;have hcz91_3:=c43_ BK225;have hfz91_0:=fz_ BK225 0;have hfz91_1:=fz_ BK225 1;have hfz91_2:=fz_ BK225 2;have hfz91_3:=fz_ BK225 3;have hcz92_0:=c40_ BK224;have hcz92_1:=c41_ BK224;have hcz92_2:=c42_ BK224;have hcz92_3:=c43_ BK224;have hfz92_0:=fz_ BK224 0;have hfz92_1:=fz_ BK224 1;have hfz92_2:=fz_ BK224 2;have hfz92_3:=fz_ BK224 3) | (go_at_call 100;(with_reducible refine (spec_l2Has.calls a1_0 a1_1 a1_2 a1_3 a0_2 a0_3 t237 _ A72.out).mono ?_);rintro e w93 ⟨rfl,hb⟩;replace BK224:=vb_ BK224 hb;replace BK225:=vb_ BK225 hb;replace HB:=sb_ HB hb;(try clear hb)))
      go_ret;exact⟨rr_,hB_⟩
 ·
  rw [if_neg c11] at H;have c11b0:decide ((wrap64 (t227*t229))<0)=false:=decide_eq_false c11;clear c11;replace H:=Option.bind_eq_some_iff.mp H;obtain⟨t238,A940,H⟩:=H
  (try dsimp only at H)
  have A94:=Aside0.mk A940;clear A940;by_cases c95:t238=true
  ·
   subst c95;rw [if_pos rfl] at H
   (try dsimp only at H)
   obtain rfl:=Option.some.inj H;have hnb104:=NB224_225.out;have hnc104:=NB225_224.out;have hcz105_0:=c40_ BK224;have hcz105_1:=c41_ BK224;have hcz105_2:=c42_ BK224;have hcz105_3:=c43_ BK224;have hfz105_0:=fz_ BK224 0;have hfz105_1:=fz_ BK224 1;have hfz105_2:=fz_ BK224 2;have hfz105_3:=fz_ BK224 3;have hcz106_0:=c40_ BK225;have hcz106_1:=c41_ BK225;have hcz106_2:=c42_ BK225;have hcz106_3:=c43_ BK225;have hfz106_0:=fz_ BK225 0;have hfz106_1:=fz_ BK225 1;have hfz106_2:=fz_ BK225 2;have hfz106_3:=fz_ BK225 3
   try go_wp2_with (first | (go_at_call 100;(with_reducible refine (spec_l2Has.calls a0_0 a0_1 a0_2 a0_3 a1_0 a1_1 true _ A94.out).mono ?_);rintro e w107 ⟨rfl,hb⟩;replace BK224:=vb_ BK224 hb;replace BK225:=vb_ BK225 hb;replace HB:=sb_ HB hb;(try clear hb)))
   go_ret;exact⟨rr_,hB_⟩
  ·
   replace c95:=Bool.eq_false_iff.mpr c95;subst c95;rw [if_neg (show ¬ (false=true) by decide)] at H
   (try dsimp only at H)
   replace H:=Option.bind_eq_some_iff.mp H;obtain⟨t239,A1080,H⟩:=H
   (try dsimp only at H)
   have A108:=Aside0.mk A1080;clear A1080;by_cases c109:t239=true
   ·
    subst c109;rw [if_pos rfl] at H
    (try dsimp only at H)
    obtain rfl:=Option.some.inj H;have hnb118:=NB224_225.out;have hnc118:=NB225_224.out;have hcz119_0:=c40_ BK224;have hcz119_1:=c41_ BK224;have hcz119_2:=c42_ BK224;have hcz119_3:=c43_ BK224;have hfz119_0:=fz_ BK224 0;have hfz119_1:=fz_ BK224 1;have hfz119_2:=fz_ BK224 2;have hfz119_3:=fz_ BK224 3;have hcz120_0:=c40_ BK225;have hcz120_1:=c41_ BK225;have hcz120_2:=c42_ BK225;have hcz120_3:=c43_ BK225;have hfz120_0:=fz_ BK225 0;have hfz120_1:=fz_ BK225 1;have hfz120_2:=fz_ BK225 2;have hfz120_3:=fz_ BK225 3
    try go_wp2_with (first | (go_at_call 100;(with_reducible refine (spec_l2Has.calls a0_0 a0_1 a0_2 a0_3 a1_0 a1_1 false _ A94.out).mono ?_);rintro e w121 ⟨rfl,hb⟩;replace BK224:=vb_ BK224 hb;replace BK225:=vb_ BK225 hb;replace HB:=sb_ HB hb;(try clear hb);have hcz122_0:=c40_ BK224;have hcz122_1:=c41_ BK224;have hcz122_2:=c42_ BK224;have hcz122_3:=c43_ BK224;have hfz122_0:=fz_ BK224 0;have hfz122_1:=fz_ BK224 1;have hfz122_2:=fz_ BK224 2;have hfz122_3:=fz_ BK224 3;have hcz123_0:=c40_ BK225;have hcz123_1:=c41_ BK225;have hcz123_2:=c42_ BK225;have hcz123_3:=c43_ BK225;have hfz123_0:=fz_ BK225 0;have hfz123_1:=fz_ BK225 1;have hfz123_2:=fz_ BK225 2;have hfz123_3:=fz_ BK225 3) | (go_at_call 100;(with_reducible refine (spec_l2Has.calls a0_0 a0_1 a0_2 a0_3 a1_2 a1_3 true _ A108.out).mono ?_);rintro e w124 ⟨rfl,hb⟩;replace BK224:=vb_ BK224 hb;replace BK225:=vb_ BK225 hb;replace HB:=sb_ HB hb;(try clear hb)))
    go_ret;exact⟨rr_,hB_⟩
   ·
    replace c109:=Bool.eq_false_iff.mpr c109;subst c109;rw [if_neg (show ¬ (false=true) by decide)] at H
    (try dsimp only at H)
    replace H:=Option.bind_eq_some_iff.mp H;obtain⟨t240,A1250,H⟩:=H
    (try dsimp only at H)
    have A125:=Aside0.mk A1250;clear A1250;by_cases c126:t240=true
    ·
     subst c126;rw [if_pos rfl] at H
     (try dsimp only at H)
     obtain rfl:=Option.some.inj H;have hnb135:=NB224_225.out;have hnc135:=NB225_224.out;have hcz136_0:=c40_ BK224;have hcz136_1:=c41_ BK224;have hcz136_2:=c42_ BK224;have hcz136_3:=c43_ BK224;have hfz136_0:=fz_ BK224 0;have hfz136_1:=fz_ BK224 1;have hfz136_2:=fz_ BK224 2;have hfz136_3:=fz_ BK224 3;have hcz137_0:=c40_ BK225;have hcz137_1:=c41_ BK225;have hcz137_2:=c42_ BK225;have hcz137_3:=c43_ BK225;have hfz137_0:=fz_ BK225 0;have hfz137_1:=fz_ BK225 1;have hfz137_2:=fz_ BK225 2;have hfz137_3:=fz_ BK225 3
     try go_wp2_with (first | (go_at_call 100;(with_reducible refine (spec_l2Has.calls a0_0 a0_1 a0_2 a0_3 a1_0 a1_1 false _ A94.out).mono ?_);rintro e w138 ⟨rfl,hb⟩;replace BK224:=vb_ BK224 hb;replace BK225:=vb_ BK225 hb;replace HB:=sb_ HB hb;(try clear hb);have hcz139_0:=c40_ BK224;have hcz139_1:=c41_ BK224;have hcz139_2:=c42_ BK224;have hcz139_3:=c43_ BK224;have hfz139_0:=fz_ BK224 0;have hfz139_1:=fz_ BK224 1;have hfz139_2:=fz_ BK224 2;have hfz139_3:=fz_ BK224 3;have hcz140_0:=c40_ BK225;have hcz140_1:=c41_ BK225;have hcz140_2:=c42_ BK225;have hcz140_3:=c43_ BK225;have hfz140_0:=fz_ BK225 0;have hfz140_1:=fz_ BK225 1;have hfz140_2:=fz_ BK225 2;have hfz140_3:=fz_ BK225 3) | (go_at_call 100;(with_reducible refine (spec_l2Has.calls a0_0 a0_1 a0_2 a0_3 a1_2 a1_3 false _ A108.out).mono ?_);rintro e w141 ⟨rfl,hb⟩;replace BK224:=vb_ BK224 hb;replace BK225:=vb_ BK225 hb;replace HB:=sb_ HB hb;(try clear hb);have hcz142_0:=c40_ BK225;have hcz142_1:=c41_ BK225;have hcz142_2:=c42_ BK225;have hcz142_3:=c43_ BK225;have hfz142_0:=fz_ BK225 0;have hfz142_1:=fz_ BK225 1;have hfz142_2:=fz_ BK225 2;have hfz142_3:=fz_ BK225 3;have hcz143_0:=c40_ BK224;have hcz143_1:=c41_ BK224;have hcz143_2:=c42_ BK224;have hcz143_3:=c43_ BK224;have hfz143_0:=fz_ BK224 0;have hfz143_1:=fz_ BK224 1;have hfz143_2:=fz_ BK224 2;have hfz143_3:=fz_ BK224 3) | (go_at_call 100;(with_reducible refine (spec_l2Has.calls a1_0 a1_1 a1_2 a1_3 a0_0 a0_1 true _ A125.out).mono ?_);rintro e w144 ⟨rfl,hb⟩;replace BK224:=vb_ BK224 hb;replace BK225:=vb_ BK225 hb;replace HB:=sb_ HB hb;(try clear hb)))
     go_ret;exact⟨rr_,hB_⟩
    ·
     replace c126:=Bool.eq_false_iff.mpr c126;subst c126;rw [if_neg (show ¬ (false=true) by decide)] at H
     (try dsimp only at H)
     replace H:=Option.bind_eq_some_iff.mp H;obtain⟨t241,A1450,H⟩:=H
     (try dsimp only at H)
     have A145:=Aside0.mk A1450;clear A1450;obtain rfl:=Option.some.inj H;have hnb154:=NB224_225.out;have hnc154:=NB225_224.out;have hcz155_0:=c40_ BK224;have hcz155_1:=c41_ BK224;have hcz155_2:=c42_ BK224;have hcz155_3:=c43_ BK224;have hfz155_0:=fz_ BK224 0;have hfz155_1:=fz_ BK224 1;have hfz155_2:=fz_ BK224 2;have hfz155_3:=fz_ BK224 3;have hcz156_0:=c40_ BK225;have hcz156_1:=c41_ BK225;have hcz156_2:=c42_ BK225;have hcz156_3:=c43_ BK225;have hfz156_0:=fz_ BK225 0;have hfz156_1:=fz_ BK225 1;have hfz156_2:=fz_ BK225 2;have hfz156_3:=fz_ BK225 3
     try go_wp2_with (first | (go_at_call 100;(with_reducible refine (spec_l2Has.calls a0_0 a0_1 a0_2 a0_3 a1_0 a1_1 false _ A94.out).mono ?_);rintro e w157 ⟨rfl,hb⟩;replace BK224:=vb_ BK224 hb;replace BK225:=vb_ BK225 hb;replace HB:=sb_ HB hb;(try clear hb);have hcz158_0:=c40_ BK224;have hcz158_1:=c41_ BK224;have hcz158_2:=c42_ BK224;have hcz158_3:=c43_ BK224;have hfz158_0:=fz_ BK224 0;have hfz158_1:=fz_ BK224 1;have hfz158_2:=fz_ BK224 2;have hfz158_3:=fz_ BK224 3;have hcz159_0:=c40_ BK225;have hcz159_1:=c41_ BK225;have hcz159_2:=c42_ BK225;have hcz159_3:=c43_ BK225;have hfz159_0:=fz_ BK225 0;have hfz159_1:=fz_ BK225 1;have hfz159_2:=fz_ BK225 2;have hfz159_3:=fz_ BK225 3) | (go_at_call 100;(with_reducible refine (spec_l2Has.calls a0_0 a0_1 a0_2 a0_3 a1_2 a1_3 false _ A108.out).mono ?_);rintro e w160 ⟨rfl,hb⟩;replace BK224:=vb_ BK224 hb;replace BK225:=vb_ BK225 hb;replace HB:=sb_ HB hb;(try clear hb);have hcz161_0:=c40_ BK225;have hcz161_1:=c41_ BK225;have hcz161_2:=c42_ BK225;have hcz161_3:=c43_ BK225;have hfz161_0:=fz_ BK225 0;have hfz161_1:=fz_ BK225 1;have hfz161_2:=fz_ BK225 2;have hfz161_3:=fz_ BK225 3;have hcz162_0:=c40_ BK224;have hcz162_1:=c41_ BK224;have hcz162_2:=c42_ BK224;have hcz162_3:=c43_ BK224;have hfz162_0:=fz_ BK224 0;have hfz162_1:=fz_ BK224 1;have hfz162_2:=fz_ BK224 2;have hfz162_3:=fz_ BK224 3) | (go_at_call 100;(with_reducible refine (spec_l2Has.calls a1_0 a1_1 a1_2 a1_3 a0_0 a0_1 false _ A125.out).mono ?_);rintro e w163 ⟨rfl,hb⟩;replace BK224:=vb_ BK224 hb;replace BK225:=vb_ BK225 hb;replace HB:=sb_ HB hb;(try clear hb);have hcz164_0:=c40_ BK225;have hcz164_1:=c41_ BK225;have hcz164_2:=c42_ BK225;have hcz164_3:=c43_ BK225;have hfz164_0:=fz_ BK225 0;have hfz164_1:=fz_ BK225 1;have hfz164_2:=fz_ BK225 2;have hfz164_3:=fz_ BK225 3;have hcz165_0:=c40_ BK224;have hcz165_1:=c41_ BK224;have hcz165_2:=c42_ BK224;have hcz165_3:=c43_ BK224;have hfz165_0:=fz_ BK224 0;have hfz165_1:=fz_ BK224 1;have hfz165_2:=fz_ BK224 2;have hfz165_3:=fz_ BK224 3) | (go_at_call 100;(with_reducible refine (spec_l2Has.calls a1_0 a1_1 a1_2 a1_3 a0_2 a0_3 t241 _ A145.out).mono ?_);rintro e w166 ⟨rfl,hb⟩;replace BK224:=vb_ BK224 hb;replace BK225:=vb_ BK225 hb;replace HB:=sb_ HB hb;(try clear hb)))
     go_ret;exact⟨rr_,hB_⟩
end Go.Proofs.YtkefmnmoaomlhaaDoor.X
end
section
set_option linter.unusedVariables false
set_option linter.unusedSimpArgs false
namespace Go.Proofs.YtkefmnmoaomlhaaDoor.X
open Go.RowKit Go.Proofs.YtkefmnmoaomlhaaDoorW.PrintWords Go.Proofs.YtkefmnmoaomlhaaDoorW.PrintLast Go.Proofs.YtkefmnmoaomlhaaDoorW.PrintMore
open Mort
theorem sMeet {a b c d e f g h:Int}(o1:ptOk (a,b)=true)(o2:ptOk (c,d)=true)(o3:ptOk (e,f)=true)(o4:ptOk (g,h)=true):
  spec_l2Meet.f a b c d e f g h=some (meet ((a,b),(c,d)) ((e,f),(g,h))):=by
 unfold spec_l2Meet.f meet;simp only [sCross o1 o2 o3,sCross o1 o2 o4,sCross o3 o4 o1,sCross o3 o4 o2,sSign,sHas o1 o2 o3,sHas o1 o2 o4,sHas o3 o4 o1,sHas o3 o4 o2,Option.bind_some,turn_mul];by_cases z1:sgn (cross (a,b) (c,d) (e,f))*sgn (cross (a,b) (c,d) (g,h))<0 <;>
 by_cases z2:sgn (cross (e,f) (g,h) (a,b))*sgn (cross (e,f) (g,h) (c,d))<0 <;>
 cases has ((a,b),(c,d)) (e,f) <;> cases has ((a,b),(c,d)) (g,h) <;> cases has ((e,f),(g,h)) (a,b) <;> cases has ((e,f),(g,h)) (c,d) <;> simp [z1,z2]
end Go.Proofs.YtkefmnmoaomlhaaDoor.X
end
section
namespace Go.Proofs.YtkefmnmoaomlhaaDoor.X
open Go.RowKit Go.Proofs.YtkefmnmoaomlhaaDoorW.PrintWords Go.Proofs.YtkefmnmoaomlhaaDoorW.PrintLast Go.Proofs.YtkefmnmoaomlhaaDoorW.PrintMore
attribute [local go_sem] max2_int min2_int max_two min_two max_three min_three max_four min_four
set_option linter.unusedVariables false
set_option linter.unusedSimpArgs false
mutual
def spec_LoopOk.l0:Nat→Int→List (S61)→Int→Option (Bool)
 | 0,_,_,_=>none
 | k+1,x3,x4,x5=>if x5<x3 then (if 0≤x5 then (if x5<(x4.length:Int) then ((spec_SegOk.f ((rd_T61 x4 x5).f0.f0) ((rd_T61 x4 x5).f0.f1) ((rd_T61 x4 x5).f1.f0) ((rd_T61 x4 x5).f1.f1)).bind fun t158=>(if t158=true then (spec_LoopOk.l0 k x3 x4 (wrap64 (x5+1))) else (some false))) else (none)) else (none)) else (spec_LoopOk.l1 k x3 x4 0)
def spec_LoopOk.l1:Nat→Int→List (S61)→Int→Option (Bool)
 | 0,_,_,_=>none
 | k+1,x3,x4,x6=>if x6<x3 then (if 0≤x6 then (if x6<(x4.length:Int) then (if x3=0 then (none) else (if 0≤(Int.tmod (wrap64 (x6+1)) x3) then (if (Int.tmod (wrap64 (x6+1)) x3)<(x4.length:Int) then ((spec_l2Has.f ((rd_T61 x4 x6).f0.f0) ((rd_T61 x4 x6).f0.f1) ((rd_T61 x4 x6).f1.f0) ((rd_T61 x4 x6).f1.f1) ((rd_T61 x4 (Int.tmod (wrap64 (x6+1)) x3)).f1.f0) ((rd_T61 x4 (Int.tmod (wrap64 (x6+1)) x3)).f1.f1)).bind fun t161=>(if t161=true then (spec_LoopOk.j2 k x3 x4 x6 true) else ((spec_l2Has.f ((rd_T61 x4 (Int.tmod (wrap64 (x6+1)) x3)).f0.f0) ((rd_T61 x4 (Int.tmod (wrap64 (x6+1)) x3)).f0.f1) ((rd_T61 x4 (Int.tmod (wrap64 (x6+1)) x3)).f1.f0) ((rd_T61 x4 (Int.tmod (wrap64 (x6+1)) x3)).f1.f1) ((rd_T61 x4 x6).f0.f0) ((rd_T61 x4 x6).f0.f1)).bind fun t164=>(spec_LoopOk.j2 k x3 x4 x6 t164)))) else (none)) else (none))) else (none)) else (none)) else (some true)
def spec_LoopOk.j2:Nat→Int→List (S61)→Int→Bool→Option (Bool)
 | 0,_,_,_,_=>none
 | k+1,x3,x4,x6,x58=>if x58=true then (some false) else (spec_LoopOk.l2 k x3 x4 x6 (wrap64 (x6+2)))
def spec_LoopOk.l2:Nat→Int→List (S61)→Int→Int→Option (Bool)
 | 0,_,_,_,_=>none
 | k+1,x3,x4,x6,x7=>if x7<x3 then (if x3=0 then (none) else (if (Int.tmod (wrap64 (x7+1)) x3)=x6 then (spec_LoopOk.l2 k x3 x4 x6 (wrap64 (x7+1))) else (if 0≤x6 then (if x6<(x4.length:Int) then (if 0≤x7 then (if x7<(x4.length:Int) then ((spec_l2Meet.f ((rd_T61 x4 x6).f0.f0) ((rd_T61 x4 x6).f0.f1) ((rd_T61 x4 x6).f1.f0) ((rd_T61 x4 x6).f1.f1) ((rd_T61 x4 x7).f0.f0) ((rd_T61 x4 x7).f0.f1) ((rd_T61 x4 x7).f1.f0) ((rd_T61 x4 x7).f1.f1)).bind fun t167=>(if t167=true then (some false) else (spec_LoopOk.l2 k x3 x4 x6 (wrap64 (x7+1))))) else (none)) else (none)) else (none)) else (none)))) else (spec_LoopOk.l1 k x3 x4 (wrap64 (x6+1)))
end
def spec_LoopOk.f (k:Nat)(l0:List (S28)):Option (Bool):=(spec_l6In.f (l0.length:Int) 3 8).bind fun t153=>(if t153=true then ((spec_l3Edges.f k l0).bind fun t154=>(spec_LoopOk.l0 k (l0.length:Int) t154 0)) else (some false))
def spec_LoopOk.T13:Bool × List (List Nat × List Nat):=(true,[([],[]),([],[]),([0,1],[0,1]),([2],[2]),([],[]),([],[]),([5],[5]),([],[]),([6,7],[6,7]),([4,8],[4,8]),([9],[9]),([10],[10]),([3,11],[3,11]),([12,12],[12]),([13],[13]),([13],[13]),([15,13],[13,15]),([13],[13]),([16,17,13],[13,16,17]),([14,18,13],[13,14,18]),([19,13],[13,19]),([13],[13]),([13],[13]),([21,22,13],[13,21,22]),([23,13],[13,23]),([24,13],[13,24]),([20,25,13,13],[13,20,25]),([13,26],[13,26])])
def spec_LoopOk.B13:List Nat:=[0,0,3,7,0,0,32,0,224,496,1008,2032,4095,8191,16383,16383,49151,16383,245759,524287,1048575,16383,16383,6307839,14696447,31473663,67108863,134217727]
theorem spec_LoopOk.tab13:rtab .any (opsOf Tryd.f55 13)=spec_LoopOk.T13:=by kernel_rfl
theorem spec_LoopOk.bits13:waitsOk spec_LoopOk.T13.2 spec_LoopOk.B13=true:=by kernel_rfl
def spec_LoopOk.T18:Bool × List (List Nat × List Nat):=(true,[([],[]),([0],[0]),([],[]),([1,2],[1,2]),([],[]),([3,4],[3,4]),([5],[5]),([6],[6]),([6],[6]),([7,8,6],[6,7,8]),([9,6],[6,9]),([6],[6]),([6],[6]),([11,12,6],[6,11,12]),([13,6],[6,13]),([10,14,6,6],[6,10,14]),([6,15],[6,15])])
def spec_LoopOk.B18:List Nat:=[0,1,0,7,0,31,63,127,127,511,1023,127,127,6271,14463,32767,65535]
theorem spec_LoopOk.tab18:rtab .any (opsOf Tryd.f55 18)=spec_LoopOk.T18:=by kernel_rfl
theorem spec_LoopOk.bits18:waitsOk spec_LoopOk.T18.2 spec_LoopOk.B18=true:=by kernel_rfl
set_option maxHeartbeats 8000000 in
set_option maxRecDepth 100000 in
theorem spec_LoopOk.calls (k:Nat)(A0:Option Addr)(c0:Nat)(l0:List (S28))(r:Bool)(w:World)(hr0:Kd.C k28 w A0 l0.length l0)(hc0:l0.length≤c0)(h:spec_LoopOk.f k l0=some r):
  Calls Tryd.prog 55 #[.slice A0 l0.length c0] w fun e w'=>e=.returned (.bool r)∧Below w.heap.size w w':=by
 have hu61:=Tryd.underlying61;have hu28:=Tryd.underlying28;have HR0:=Aside0.mk hr0;have HC0:=Aside0.mk hc0;clear hr0 hc0;have HB:=a0_ (Below.refl w.heap.size w);have H:((spec_l6In.f (l0.length:Int) 3 8).bind fun t153=>(if t153=true then ((spec_l3Edges.f k l0).bind fun t154=>(spec_LoopOk.l0 k (l0.length:Int) t154 0)) else (some false)))=some r:=h;clear h;replace H:=Option.bind_eq_some_iff.mp H;obtain⟨t153,A20,H⟩:=H
 (try dsimp only at H)
 have A2:=Aside0.mk A20;clear A20;by_cases c3:t153=true
 ·
  subst c3;rw [if_pos rfl] at H
  (try dsimp only at H)
  replace H:=Option.bind_eq_some_iff.mp H;obtain⟨t154,A40,H⟩:=H
  (try dsimp only at H)
  have A4:=Aside0.mk A40;clear A40;have H':=Aside0.mk H;clear H;go_enter Tryd.func55,Tryd.ntmps55;go_wp2_with (first | ((with_reducible refine gate_callee (f:=58) rfl ?_);refine gL_ (some 11) Tryd.func58 #[.int .i64 (l0.length:Int),.int .i64 3,.int .i64 8] (h:=?_);(with_reducible refine (spec_l6In.calls (l0.length:Int) 3 8 true _ A2.out).mono ?_);rintro e w' ⟨rfl,⟨nd,rfl⟩⟩;refine⟨_,rfl,?_⟩) | ((with_reducible refine gate_callee (f:=98) rfl ?_);refine gL_ (some 14) Tryd.func98 #[.slice A0 l0.length c0] (h:=?_);(with_reducible refine (spec_l3Edges.calls k _ _ l0 t154 _ ?side1 ?side2 A4.out).mono ?_);(case side1=>repeat (first | exact HR0.out | (with_reducible refine Kd.C_alloc ?_ _) | (with_reducible refine Kd.C_drewN ?_ _) | (with_reducible refine Kd.C_drew ?_)));(case side2=>exact HC0.out);rintro e w5 ⟨v155,rfl,ho0,hb⟩;refine⟨_,rfl,?_⟩;have HO156:=a0_ (Kd.R_lower ho0 (below_size hB_));replace HB:=sb_ HB hb;(try clear ho0 hb)));go_loopg [5] k (fun kq v5 w'=>∃ (x5_1:Int),v5=.int .i64 x5_1∧Aside0 (spec_LoopOk.l0 kq (l0.length:Int) t154 x5_1=some r)∧Aside0 (kq≤k)∧Aside0 (Kd.R k61 61 w' w.heap.size (fun _=>True) v155 t154)∧Aside0 (Below w.heap.size w w'))
  case atStart=>exact⟨(0),(by first | rfl | (simp;done) | (simp [*];done)),H',⟨Nat.le_refl _⟩,⟨by (with_reducible repeat (first | apply Kd.R_alloc | apply Kd.R_drewN | apply Kd.R_drew));exact HO156.out⟩,⟨hB_⟩⟩
  case round =>
   clear H';obtain⟨x5_1,rfl,HA,HK1,HO_4,HB⟩:=hrel
   cases gk with
   | zero=>exact absurd HA.out (by simp [spec_LoopOk.l0])
   | succ k1 =>
    have H:=HA.out;clear HA;simp only [spec_LoopOk.l0] at H;by_cases c6:x5_1<(l0.length:Int)
    ·
     rw [if_pos c6] at H;have c6b0:decide (x5_1<(l0.length:Int))=true:=decide_eq_true c6;clear c6;by_cases c7:0≤x5_1
     ·
      rw [if_pos c7] at H;have c7b0:decide (0≤x5_1)=true:=decide_eq_true c7;clear c7;by_cases c8:x5_1<(t154.length:Int)
      ·
       rw [if_pos c8] at H;have c8b0:decide (x5_1<(t154.length:Int))=true:=decide_eq_true c8;clear c8;replace H:=Option.bind_eq_some_iff.mp H;obtain⟨t158,A90,H⟩:=H
       (try dsimp only at H)
       have A9:=Aside0.mk A90;clear A90;by_cases c10:t158=true
       ·
        subst c10;rw [if_pos rfl] at H
        (try dsimp only at H)
        have H':=Aside0.mk H;clear H;obtain⟨Ao11,co11,eo11⟩:=Kd.R_slice HO_4.out;subst eo11;have p157:0≤(x5_1:Int):=od_;have q157:x5_1<(t154.length:Int):=od_;obtain⟨ad157,e157,hx157_0,hx157_1,hx157_2,hx157_3⟩:=at_T61 (Kd.R_reads' HO_4.out).2.2 x5_1 p157 q157;cases e157;replace p157:=eq_true p157;replace q157:=eq_true q157;go_wp2_with (first | ((with_reducible refine gate_callee (f:=99) rfl ?_);refine gL_ (some 24) Tryd.func99 #[.agg #[.int .i64 ((rd_T61 t154 x5_1).f0.f0),.int .i64 ((rd_T61 t154 x5_1).f0.f1),.int .i64 ((rd_T61 t154 x5_1).f1.f0),.int .i64 ((rd_T61 t154 x5_1).f1.f1)]] (h:=?_);(with_reducible refine (spec_SegOk.calls ((rd_T61 t154 x5_1).f0.f0) ((rd_T61 t154 x5_1).f0.f1) ((rd_T61 t154 x5_1).f1.f0) ((rd_T61 t154 x5_1).f1.f1) true _ A9.out).mono ?_);rintro e w12 ⟨rfl,hb⟩;refine⟨_,rfl,?_⟩;replace HO_4:=rb_ HO_4 hb;replace HB:=sb_ HB hb;(try clear hb)));go_roundg k1
        case measure=>have:=HK1.out;omega
        case rel=>exact⟨(wrap64 (x5_1+1)),(by first | rfl | (simp;done) | (simp [*];done)),H',⟨by have:=HK1.out;omega⟩,⟨by (with_reducible repeat (first | apply Kd.R_alloc | apply Kd.R_drewN | apply Kd.R_drew));exact HO_4.out⟩,⟨hB_⟩⟩
       ·
        replace c10:=Bool.eq_false_iff.mpr c10;subst c10;rw [if_neg (show ¬ (false=true) by decide)] at H
        (try dsimp only at H)
        obtain rfl:=Option.some.inj H;obtain⟨Ao13,co13,eo13⟩:=Kd.R_slice HO_4.out;subst eo13;have p157:0≤(x5_1:Int):=od_;have q157:x5_1<(t154.length:Int):=od_;obtain⟨ad157,e157,hx157_0,hx157_1,hx157_2,hx157_3⟩:=at_T61 (Kd.R_reads' HO_4.out).2.2 x5_1 p157 q157;cases e157;replace p157:=eq_true p157;replace q157:=eq_true q157;go_wp2_with (first | ((with_reducible refine gate_callee (f:=99) rfl ?_);refine gL_ (some 24) Tryd.func99 #[.agg #[.int .i64 ((rd_T61 t154 x5_1).f0.f0),.int .i64 ((rd_T61 t154 x5_1).f0.f1),.int .i64 ((rd_T61 t154 x5_1).f1.f0),.int .i64 ((rd_T61 t154 x5_1).f1.f1)]] (h:=?_);(with_reducible refine (spec_SegOk.calls ((rd_T61 t154 x5_1).f0.f0) ((rd_T61 t154 x5_1).f0.f1) ((rd_T61 t154 x5_1).f1.f0) ((rd_T61 t154 x5_1).f1.f1) false _ A9.out).mono ?_);rintro e w14 ⟨rfl,hb⟩;refine⟨_,rfl,?_⟩;replace HO_4:=rb_ HO_4 hb;replace HB:=sb_ HB hb;(try clear hb)));go_ret;exact⟨rr_,hB_⟩
      ·
       rw [if_neg c8] at H;exact absurd H (by simp)
     ·
      rw [if_neg c7] at H;exact absurd H (by simp)
    ·
     rw [if_neg c6] at H;have c6b0:decide (x5_1<(l0.length:Int))=false:=decide_eq_false c6;clear c6;have H':=Aside0.mk H;clear H;go_wp2;go_loopg [6] k1 (fun kq v6 w'=>∃ (x6_2:Int),v6=.int .i64 x6_2∧Aside0 (spec_LoopOk.l1 kq (l0.length:Int) t154 x6_2=some r)∧Aside0 (kq≤k1)∧Aside0 (Kd.R k61 61 w' w.heap.size (fun _=>True) v155 t154)∧Aside0 (Below w.heap.size w w'))
     case atStart=>exact⟨(0),(by first | rfl | (simp;done) | (simp [*];done)),H',⟨Nat.le_refl _⟩,⟨by (with_reducible repeat (first | apply Kd.R_alloc | apply Kd.R_drewN | apply Kd.R_drew));exact HO_4.out⟩,⟨hB_⟩⟩
     case round =>
      clear H';obtain⟨x6_2,rfl,HA,HK2,HO_4,HB⟩:=hrel
      cases gk with
      | zero=>exact absurd HA.out (by simp [spec_LoopOk.l1])
      | succ k2 =>
       have H:=HA.out;clear HA;simp only [spec_LoopOk.l1] at H;by_cases c15:x6_2<(l0.length:Int)
       ·
        rw [if_pos c15] at H;have c15b0:decide (x6_2<(l0.length:Int))=true:=decide_eq_true c15;clear c15;have HC16:=Aside0.mk H;clear H;go_upto_region 13 with (fail)
        go_cut [58] (fun v58 wc=>∃ (kq:Nat) (x58_15:Bool),v58=.bool x58_15∧Aside0 (spec_LoopOk.j2 kq (l0.length:Int) t154 x6_2 x58_15=some r)∧Aside0 (kq≤k2)∧Aside0 (Kd.R k61 61 wc w.heap.size (fun _=>True) v155 t154)∧Aside0 (Below w.heap.size w wc))
        case first =>
         have H:=HC16.out;clear HC16;by_cases c17:0≤x6_2
         ·
          rw [if_pos c17] at H;have c17b0:decide (0≤x6_2)=true:=decide_eq_true c17;clear c17
          (first | rw [c17b0] | (simp only [i64_w,i32_w];rw [c17b0]) | skip)
          by_cases c18:x6_2<(t154.length:Int)
          ·
           rw [if_pos c18] at H;have c18b0:decide (x6_2<(t154.length:Int))=true:=decide_eq_true c18;clear c18;by_cases c19:(l0.length:Int)=0
           ·
            rw [if_pos c19] at H;exact absurd H (by simp)
           ·
            rw [if_neg c19] at H;have c19b0:((l0.length:Int)==0)=false:=beq_eq_false_iff_ne.mpr c19;have c19b1:((l0.length:Int) != 0)=true:=bne_iff_ne.mpr c19;have c19b2:¬ (l0=[]):=fun h_=>c19 (by rw [h_];rfl)
            obtain⟨ji20,hji20⟩:∃ j_:Int,(Int.tmod (wrap64 (x6_2+1)) (l0.length:Int))=j_:=⟨_,rfl⟩;replace H:(if 0≤(ji20) then (if (ji20)<(t154.length:Int) then ((spec_l2Has.f ((rd_T61 t154 x6_2).f0.f0) ((rd_T61 t154 x6_2).f0.f1) ((rd_T61 t154 x6_2).f1.f0) ((rd_T61 t154 x6_2).f1.f1) ((rd_T61 t154 (ji20)).f1.f0) ((rd_T61 t154 (ji20)).f1.f1)).bind fun t161=>(if t161=true then (spec_LoopOk.j2 k2 (l0.length:Int) t154 x6_2 true) else ((spec_l2Has.f ((rd_T61 t154 (ji20)).f0.f0) ((rd_T61 t154 (ji20)).f0.f1) ((rd_T61 t154 (ji20)).f1.f0) ((rd_T61 t154 (ji20)).f1.f1) ((rd_T61 t154 x6_2).f0.f0) ((rd_T61 t154 x6_2).f0.f1)).bind fun t164=>(spec_LoopOk.j2 k2 (l0.length:Int) t154 x6_2 t164)))) else (none)) else (none))=some r:=by first | (rw [hji20] at H;exact H) | (simp only [hji20] at H ⊢;exact H)
            by_cases c21:0≤(ji20)
            ·
             rw [if_pos c21] at H;have c21b0:decide (0≤(ji20))=true:=decide_eq_true c21;clear c21;by_cases c22:(ji20)<(t154.length:Int)
             ·
              rw [if_pos c22] at H;have c22b0:decide ((ji20)<(t154.length:Int))=true:=decide_eq_true c22;clear c22;replace H:=Option.bind_eq_some_iff.mp H;obtain⟨t161,A230,H⟩:=H
              (try dsimp only at H)
              have A23:=Aside0.mk A230;clear A230;by_cases c24:t161=true
              ·
               subst c24;rw [if_pos rfl] at H
               (try dsimp only at H)
               have H':=Aside0.mk H;clear H
               try go_wp2
               replace HO_4:=a0_ (Kd.R_drew HO_4.out);replace HB:=a0_ (below_drew1 HB.out);obtain⟨Ao26,co26,eo26⟩:=Kd.R_slice HO_4.out
               (first | subst eo26 | (injection eo26 with f1_ f2_ f3_;have f4_:=f1_.symm;have f5_:=f3_.symm;clear f1_ f2_ f3_;subst f4_;subst f5_))
               have p159:0≤(x6_2:Int):=od_;have q159:x6_2<(t154.length:Int):=od_;obtain⟨ad159,e159,hx159_0,hx159_1,hx159_2,hx159_3⟩:=at_T61 (Kd.R_reads' HO_4.out).2.2 x6_2 p159 q159;cases e159;replace p159:=eq_true p159;replace q159:=eq_true q159;have p160:0≤((ji20):Int):=od_;have q160:(ji20)<(t154.length:Int):=od_;obtain⟨ad160,e160,hx160_0,hx160_1,hx160_2,hx160_3⟩:=at_T61 (Kd.R_reads' HO_4.out).2.2 (ji20) p160 q160;obtain rfl:ad159=ad160:=(by injection e160);replace p160:=eq_true p160;replace q160:=eq_true q160;refine start_ (n:=28) (S:=fun w'=>w'.cell? (ad159.add ((x6_2).toNat*4))=some (.int .i64 ((rd_T61 t154 x6_2).f0.f0))∧w'.cell? ⟨(ad159.add ((x6_2).toNat*4)).block,(ad159.add ((x6_2).toNat*4)).off+1,none⟩=some (.int .i64 ((rd_T61 t154 x6_2).f0.f1))∧w'.cell? ⟨(ad159.add ((x6_2).toNat*4)).block,(ad159.add ((x6_2).toNat*4)).off+2,none⟩=some (.int .i64 ((rd_T61 t154 x6_2).f1.f0))∧w'.cell? ⟨(ad159.add ((x6_2).toNat*4)).block,(ad159.add ((x6_2).toNat*4)).off+3,none⟩=some (.int .i64 ((rd_T61 t154 x6_2).f1.f1))∧w'.cell? (ad159.add (((ji20)).toNat*4))=some (.int .i64 ((rd_T61 t154 (ji20)).f0.f0))∧w'.cell? ⟨(ad159.add (((ji20)).toNat*4)).block,(ad159.add (((ji20)).toNat*4)).off+1,none⟩=some (.int .i64 ((rd_T61 t154 (ji20)).f0.f1))∧w'.cell? ⟨(ad159.add (((ji20)).toNat*4)).block,(ad159.add (((ji20)).toNat*4)).off+2,none⟩=some (.int .i64 ((rd_T61 t154 (ji20)).f1.f0))∧w'.cell? ⟨(ad159.add (((ji20)).toNat*4)).block,(ad159.add (((ji20)).toNat*4)).off+3,none⟩=some (.int .i64 ((rd_T61 t154 (ji20)).f1.f1))) (ds:=[]) (Array.replicate 28 false) (by kernel_rfl) rfl rfl ⟨hx159_0,hx159_1,hx159_2,hx159_3,hx160_0,hx160_1,hx160_2,hx160_3⟩ (fun hHeld=>?_);refine with_tabW spec_LoopOk.tab13 spec_LoopOk.bits13 (fun HT_ HW_=>?_)
               generalize wr.drew=w25 at HO_4 HB hx159_0 hx159_1 hx159_2 hx159_3 hx160_0 hx160_1 hx160_2 hx160_3 hHeld ⊢
               refine pu_ HT_ 0 31 (bm 28 1) ?_;refine pu_ HT_ 1 32 (bm 28 3) ?_;refine pu_ HT_ 2 33 (bm 28 7) ?_;refine pu_ HT_ 4 35 (bm 28 23) ?_;refine pu_ HT_ 5 36 (bm 28 55) ?_;refine pu_ HT_ 6 37 (bm 28 119) ?_;refine pu_ HT_ 7 38 (bm 28 247) ?_;refine pu_ HT_ 8 39 (bm 28 503) ?_;refine pu_ HT_ 9 40 (bm 28 1015) ?_;refine pu_ HT_ 10 41 (bm 28 2039) ?_;refine ta8_ HT_ HW_ 3 34 (bm 28 2047) hHeld ?_;refine ta8_ HT_ HW_ 11 42 (bm 28 4095) hHeld ?_;refine one_ (i:=12) (N:=some 43) (bm 28 8191) rfl rfl (one_of HT_.out (by kernel_rfl)) (by decide) (fun K hK=>?_);refine goes_ Tryd.func100 (by kernel_rfl) rfl #[.agg #[.int .i64 ((rd_T61 t154 x6_2).f0.f0),.int .i64 ((rd_T61 t154 x6_2).f0.f1),.int .i64 ((rd_T61 t154 x6_2).f1.f0),.int .i64 ((rd_T61 t154 x6_2).f1.f1)],.agg #[.int .i64 ((rd_T61 t154 (ji20)).f1.f0),.int .i64 ((rd_T61 t154 (ji20)).f1.f1)]] (by rfl) rfl rfl (by (try simp only [List.map_toArray,List.map_cons,List.map_nil]);first | done | (simp only [hji20];rfl) | rfl | (simp only [List.length_drop,List.length_take];rfl)) ?_
               with_reducible refine (spec_l2Has.calls ((rd_T61 t154 x6_2).f0.f0) ((rd_T61 t154 x6_2).f0.f1) ((rd_T61 t154 x6_2).f1.f0) ((rd_T61 t154 x6_2).f1.f1) ((rd_T61 t154 (ji20)).f1.f0) ((rd_T61 t154 (ji20)).f1.f1) true _ A23.out).mono ?_
               rintro e w27 ⟨rfl,hb⟩;have HS0_:=pw_cell_below hb hHeld.1;have HS1_:=pw_cell_below hb hHeld.2.1;have HS2_:=pw_cell_below hb hHeld.2.2.1;have HS3_:=pw_cell_below hb hHeld.2.2.2.1;have HS4_:=pw_cell_below hb hHeld.2.2.2.2.1;have HS5_:=pw_cell_below hb hHeld.2.2.2.2.2.1;have HS6_:=pw_cell_below hb hHeld.2.2.2.2.2.2.1;have HS7_:=pw_cell_below hb hHeld.2.2.2.2.2.2.2;refine⟨_,rfl,?_⟩;replace HO_4:=rb_ HO_4 hb;replace HB:=sb_ HB hb
               (try clear hb)
               (try clear hb2)
               (try clear hk)
               (try clear hi)
               refine hK.out _ _ ⟨HS0_,HS1_,HS2_,HS3_,HS4_,HS5_,HS6_,HS7_⟩ (fun hHeld=>?_);clear hK K;refine no_ (h:=?_);refine pu_ HT_ 13 44 (bm 28 16383) ?_;refine pz_ HT_ 14 45 (bm 28 32767) ?_;refine pz_ HT_ 15 46 (bm 28 65535) ?_;refine pz_ HT_ 16 47 (bm 28 131071) ?_;refine pz_ HT_ 17 48 (bm 28 262143) ?_;refine pz_ HT_ 18 49 (bm 28 524287) ?_;refine pz_ HT_ 19 50 (bm 28 1048575) ?_;refine pz_ HT_ 20 51 (bm 28 2097151) ?_;refine pz_ HT_ 21 52 (bm 28 4194303) ?_;refine pz_ HT_ 22 53 (bm 28 8388607) ?_;refine pz_ HT_ 23 54 (bm 28 16777215) ?_;refine pz_ HT_ 24 55 (bm 28 33554431) ?_;refine pz_ HT_ 25 56 (bm 28 67108863) ?_;refine pz_ HT_ 26 57 (bm 28 134217727) ?_;refine pu_ HT_ 27 58 (bm 28 268435455) ?_;refine done_ (done_of HT_.out (by kernel_rfl)) ?_
               try go_wp2
               go_meet
               case rel=>exact⟨_,(true),(by first | rfl | (simp;done) | (simp [*];done)),H',⟨by have:=HK1.out;have:=HK2.out;first | omega | exact Nat.le_refl _⟩,⟨by (with_reducible repeat (first | apply Kd.R_alloc | apply Kd.R_drewN | apply Kd.R_drew));exact HO_4.out⟩,⟨hB_⟩⟩
              ·
               replace c24:=Bool.eq_false_iff.mpr c24;subst c24;rw [if_neg (show ¬ (false=true) by decide)] at H
               (try dsimp only at H)
               replace H:=Option.bind_eq_some_iff.mp H;obtain⟨t164,A280,H⟩:=H
               (try dsimp only at H)
               have A28:=Aside0.mk A280;clear A280;have H':=Aside0.mk H;clear H
               try go_wp2
               replace HO_4:=a0_ (Kd.R_drew HO_4.out);replace HB:=a0_ (below_drew1 HB.out);obtain⟨Ao30,co30,eo30⟩:=Kd.R_slice HO_4.out
               (first | subst eo30 | (injection eo30 with f1_ f2_ f3_;have f4_:=f1_.symm;have f5_:=f3_.symm;clear f1_ f2_ f3_;subst f4_;subst f5_))
               have p159:0≤(x6_2:Int):=od_;have q159:x6_2<(t154.length:Int):=od_;obtain⟨ad159,e159,hx159_0,hx159_1,hx159_2,hx159_3⟩:=at_T61 (Kd.R_reads' HO_4.out).2.2 x6_2 p159 q159;cases e159;replace p159:=eq_true p159;replace q159:=eq_true q159;have p160:0≤((ji20):Int):=od_;have q160:(ji20)<(t154.length:Int):=od_;obtain⟨ad160,e160,hx160_0,hx160_1,hx160_2,hx160_3⟩:=at_T61 (Kd.R_reads' HO_4.out).2.2 (ji20) p160 q160;obtain rfl:ad159=ad160:=(by injection e160);replace p160:=eq_true p160;replace q160:=eq_true q160;have p162:0≤((ji20):Int):=od_;have q162:(ji20)<(t154.length:Int):=od_;obtain⟨ad162,e162,hx162_0,hx162_1,hx162_2,hx162_3⟩:=at_T61 (Kd.R_reads' HO_4.out).2.2 (ji20) p162 q162;obtain rfl:ad159=ad162:=(by injection e162);replace p162:=eq_true p162;replace q162:=eq_true q162;have p163:0≤(x6_2:Int):=od_;have q163:x6_2<(t154.length:Int):=od_;obtain⟨ad163,e163,hx163_0,hx163_1,hx163_2,hx163_3⟩:=at_T61 (Kd.R_reads' HO_4.out).2.2 x6_2 p163 q163;obtain rfl:ad159=ad163:=(by injection e163);replace p163:=eq_true p163;replace q163:=eq_true q163
               refine start_ (n:=28) (S:=fun w'=>w'.cell? (ad159.add ((x6_2).toNat*4))=some (.int .i64 ((rd_T61 t154 x6_2).f0.f0))∧w'.cell? ⟨(ad159.add ((x6_2).toNat*4)).block,(ad159.add ((x6_2).toNat*4)).off+1,none⟩=some (.int .i64 ((rd_T61 t154 x6_2).f0.f1))∧w'.cell? ⟨(ad159.add ((x6_2).toNat*4)).block,(ad159.add ((x6_2).toNat*4)).off+2,none⟩=some (.int .i64 ((rd_T61 t154 x6_2).f1.f0))∧w'.cell? ⟨(ad159.add ((x6_2).toNat*4)).block,(ad159.add ((x6_2).toNat*4)).off+3,none⟩=some (.int .i64 ((rd_T61 t154 x6_2).f1.f1))∧w'.cell? (ad159.add (((ji20)).toNat*4))=some (.int .i64 ((rd_T61 t154 (ji20)).f0.f0))∧w'.cell? ⟨(ad159.add (((ji20)).toNat*4)).block,(ad159.add (((ji20)).toNat*4)).off+1,none⟩=some (.int .i64 ((rd_T61 t154 (ji20)).f0.f1))∧w'.cell? ⟨(ad159.add (((ji20)).toNat*4)).block,(ad159.add (((ji20)).toNat*4)).off+2,none⟩=some (.int .i64 ((rd_T61 t154 (ji20)).f1.f0))∧w'.cell? ⟨(ad159.add (((ji20)).toNat*4)).block,(ad159.add (((ji20)).toNat*4)).off+3,none⟩=some (.int .i64 ((rd_T61 t154 (ji20)).f1.f1))∧w'.cell? (ad159.add (((ji20)).toNat*4))=some (.int .i64 ((rd_T61 t154 (ji20)).f0.f0))∧w'.cell? ⟨(ad159.add (((ji20)).toNat*4)).block,(ad159.add (((ji20)).toNat*4)).off+1,none⟩=some (.int .i64 ((rd_T61 t154 (ji20)).f0.f1))∧w'.cell? ⟨(ad159.add (((ji20)).toNat*4)).block,(ad159.add (((ji20)).toNat*4)).off+2,none⟩=some (.int .i64 ((rd_T61 t154 (ji20)).f1.f0))∧w'.cell? ⟨(ad159.add (((ji20)).toNat*4)).block,(ad159.add (((ji20)).toNat*4)).off+3,none⟩=some (.int .i64 ((rd_T61 t154 (ji20)).f1.f1))∧w'.cell? (ad159.add ((x6_2).toNat*4))=some (.int .i64 ((rd_T61 t154 x6_2).f0.f0))∧w'.cell? ⟨(ad159.add ((x6_2).toNat*4)).block,(ad159.add ((x6_2).toNat*4)).off+1,none⟩=some (.int .i64 ((rd_T61 t154 x6_2).f0.f1))∧w'.cell? ⟨(ad159.add ((x6_2).toNat*4)).block,(ad159.add ((x6_2).toNat*4)).off+2,none⟩=some (.int .i64 ((rd_T61 t154 x6_2).f1.f0))∧w'.cell? ⟨(ad159.add ((x6_2).toNat*4)).block,(ad159.add ((x6_2).toNat*4)).off+3,none⟩=some (.int .i64 ((rd_T61 t154 x6_2).f1.f1))) (ds:=[]) (Array.replicate 28 false) (by kernel_rfl) rfl rfl ⟨hx159_0,hx159_1,hx159_2,hx159_3,hx160_0,hx160_1,hx160_2,hx160_3,hx162_0,hx162_1,hx162_2,hx162_3,hx163_0,hx163_1,hx163_2,hx163_3⟩ (fun hHeld=>?_);refine with_tabW spec_LoopOk.tab13 spec_LoopOk.bits13 (fun HT_ HW_=>?_)
               generalize wr.drew=w29 at HO_4 HB hx159_0 hx159_1 hx159_2 hx159_3 hx160_0 hx160_1 hx160_2 hx160_3 hx162_0 hx162_1 hx162_2 hx162_3 hx163_0 hx163_1 hx163_2 hx163_3 hHeld ⊢
               refine pu_ HT_ 0 31 (bm 28 1) ?_;refine pu_ HT_ 1 32 (bm 28 3) ?_;refine pu_ HT_ 2 33 (bm 28 7) ?_;refine pu_ HT_ 4 35 (bm 28 23) ?_;refine pu_ HT_ 5 36 (bm 28 55) ?_;refine pu_ HT_ 6 37 (bm 28 119) ?_;refine pu_ HT_ 7 38 (bm 28 247) ?_;refine pu_ HT_ 8 39 (bm 28 503) ?_;refine pu_ HT_ 9 40 (bm 28 1015) ?_;refine pu_ HT_ 10 41 (bm 28 2039) ?_;refine ta16_ HT_ HW_ 3 34 (bm 28 2047) hHeld ?_;refine ta16_ HT_ HW_ 11 42 (bm 28 4095) hHeld ?_;refine one_ (i:=12) (N:=some 43) (bm 28 8191) rfl rfl (one_of HT_.out (by kernel_rfl)) (by decide) (fun K hK=>?_);refine goes_ Tryd.func100 (by kernel_rfl) rfl #[.agg #[.int .i64 ((rd_T61 t154 x6_2).f0.f0),.int .i64 ((rd_T61 t154 x6_2).f0.f1),.int .i64 ((rd_T61 t154 x6_2).f1.f0),.int .i64 ((rd_T61 t154 x6_2).f1.f1)],.agg #[.int .i64 ((rd_T61 t154 (ji20)).f1.f0),.int .i64 ((rd_T61 t154 (ji20)).f1.f1)]] (by rfl) rfl rfl (by (try simp only [List.map_toArray,List.map_cons,List.map_nil]);first | done | (simp only [hji20];rfl) | rfl | (simp only [List.length_drop,List.length_take];rfl)) ?_
               with_reducible refine (spec_l2Has.calls ((rd_T61 t154 x6_2).f0.f0) ((rd_T61 t154 x6_2).f0.f1) ((rd_T61 t154 x6_2).f1.f0) ((rd_T61 t154 x6_2).f1.f1) ((rd_T61 t154 (ji20)).f1.f0) ((rd_T61 t154 (ji20)).f1.f1) false _ A23.out).mono ?_
               rintro e w31 ⟨rfl,hb⟩;have HS0_:=pw_cell_below hb hHeld.1;have HS1_:=pw_cell_below hb hHeld.2.1;have HS2_:=pw_cell_below hb hHeld.2.2.1;have HS3_:=pw_cell_below hb hHeld.2.2.2.1;have HS4_:=pw_cell_below hb hHeld.2.2.2.2.1;have HS5_:=pw_cell_below hb hHeld.2.2.2.2.2.1;have HS6_:=pw_cell_below hb hHeld.2.2.2.2.2.2.1;have HS7_:=pw_cell_below hb hHeld.2.2.2.2.2.2.2.1;have HS8_:=pw_cell_below hb hHeld.2.2.2.2.2.2.2.2.1;have HS9_:=pw_cell_below hb hHeld.2.2.2.2.2.2.2.2.2.1;have HS10_:=pw_cell_below hb hHeld.2.2.2.2.2.2.2.2.2.2.1;have HS11_:=pw_cell_below hb hHeld.2.2.2.2.2.2.2.2.2.2.2.1;have HS12_:=pw_cell_below hb hHeld.2.2.2.2.2.2.2.2.2.2.2.2.1;have HS13_:=pw_cell_below hb hHeld.2.2.2.2.2.2.2.2.2.2.2.2.2.1;have HS14_:=pw_cell_below hb hHeld.2.2.2.2.2.2.2.2.2.2.2.2.2.2.1;have HS15_:=pw_cell_below hb hHeld.2.2.2.2.2.2.2.2.2.2.2.2.2.2.2;refine⟨_,rfl,?_⟩;replace HO_4:=rb_ HO_4 hb;replace HB:=sb_ HB hb
               (try clear hb)
               (try clear hb2)
               (try clear hk)
               (try clear hi)
               refine hK.out _ _ ⟨HS0_,HS1_,HS2_,HS3_,HS4_,HS5_,HS6_,HS7_,HS8_,HS9_,HS10_,HS11_,HS12_,HS13_,HS14_,HS15_⟩ (fun hHeld=>?_);clear hK K;refine no_ (h:=?_);refine pu_ HT_ 13 44 (bm 28 16383) ?_;refine pu_ HT_ 14 45 (bm 28 32767) ?_;refine pu_ HT_ 15 46 (bm 28 65535) ?_;refine pu_ HT_ 16 47 (bm 28 131071) ?_;refine pu_ HT_ 17 48 (bm 28 262143) ?_;refine pu_ HT_ 18 49 (bm 28 524287) ?_;refine pu_ HT_ 19 50 (bm 28 1048575) ?_;refine pu_ HT_ 21 52 (bm 28 3145727) ?_;refine pu_ HT_ 22 53 (bm 28 7340031) ?_;refine pu_ HT_ 23 54 (bm 28 15728639) ?_;refine pu_ HT_ 24 55 (bm 28 32505855) ?_;refine ta16_ HT_ HW_ 20 51 (bm 28 33554431) hHeld ?_;refine ta16_ HT_ HW_ 25 56 (bm 28 67108863) hHeld ?_;refine one_ (i:=26) (N:=some 57) (bm 28 134217727) rfl rfl (one_of HT_.out (by kernel_rfl)) (by decide) (fun K hK=>?_);refine goes_ Tryd.func100 (by kernel_rfl) rfl #[.agg #[.int .i64 ((rd_T61 t154 (ji20)).f0.f0),.int .i64 ((rd_T61 t154 (ji20)).f0.f1),.int .i64 ((rd_T61 t154 (ji20)).f1.f0),.int .i64 ((rd_T61 t154 (ji20)).f1.f1)],.agg #[.int .i64 ((rd_T61 t154 x6_2).f0.f0),.int .i64 ((rd_T61 t154 x6_2).f0.f1)]] (by rfl) rfl rfl (by (try simp only [List.map_toArray,List.map_cons,List.map_nil]);first | done | (simp only [hji20];rfl) | rfl | (simp only [List.length_drop,List.length_take];rfl)) ?_
               with_reducible refine (spec_l2Has.calls ((rd_T61 t154 (ji20)).f0.f0) ((rd_T61 t154 (ji20)).f0.f1) ((rd_T61 t154 (ji20)).f1.f0) ((rd_T61 t154 (ji20)).f1.f1) ((rd_T61 t154 x6_2).f0.f0) ((rd_T61 t154 x6_2).f0.f1) t164 _ A28.out).mono ?_
               rintro e w32 ⟨rfl,hb⟩;have HS0_:=pw_cell_below hb hHeld.1;have HS1_:=pw_cell_below hb hHeld.2.1;have HS2_:=pw_cell_below hb hHeld.2.2.1;have HS3_:=pw_cell_below hb hHeld.2.2.2.1;have HS4_:=pw_cell_below hb hHeld.2.2.2.2.1;have HS5_:=pw_cell_below hb hHeld.2.2.2.2.2.1;have HS6_:=pw_cell_below hb hHeld.2.2.2.2.2.2.1;have HS7_:=pw_cell_below hb hHeld.2.2.2.2.2.2.2.1;have HS8_:=pw_cell_below hb hHeld.2.2.2.2.2.2.2.2.1;have HS9_:=pw_cell_below hb hHeld.2.2.2.2.2.2.2.2.2.1;have HS10_:=pw_cell_below hb hHeld.2.2.2.2.2.2.2.2.2.2.1;have HS11_:=pw_cell_below hb hHeld.2.2.2.2.2.2.2.2.2.2.2.1;have HS12_:=pw_cell_below hb hHeld.2.2.2.2.2.2.2.2.2.2.2.2.1;have HS13_:=pw_cell_below hb hHeld.2.2.2.2.2.2.2.2.2.2.2.2.2.1;have HS14_:=pw_cell_below hb hHeld.2.2.2.2.2.2.2.2.2.2.2.2.2.2.1;have HS15_:=pw_cell_below hb hHeld.2.2.2.2.2.2.2.2.2.2.2.2.2.2.2;refine⟨_,rfl,?_⟩;replace HO_4:=rb_ HO_4 hb;replace HB:=sb_ HB hb
               (try clear hb)
               (try clear hb2)
               (try clear hk)
               (try clear hi)
               refine hK.out _ _ ⟨HS0_,HS1_,HS2_,HS3_,HS4_,HS5_,HS6_,HS7_,HS8_,HS9_,HS10_,HS11_,HS12_,HS13_,HS14_,HS15_⟩ (fun hHeld=>?_);clear hK K;refine no_ (h:=?_);refine pu_ HT_ 27 58 (bm 28 268435455) ?_;refine done_ (done_of HT_.out (by kernel_rfl)) ?_
               try go_wp2
               go_meet
               case rel=>exact⟨_,(t164),(by first | rfl | (simp;done) | (simp [*];done)),H',⟨by have:=HK1.out;have:=HK2.out;first | omega | exact Nat.le_refl _⟩,⟨by (with_reducible repeat (first | apply Kd.R_alloc | apply Kd.R_drewN | apply Kd.R_drew));exact HO_4.out⟩,⟨hB_⟩⟩
             ·
              rw [if_neg c22] at H;exact absurd H (by simp)
            ·
             rw [if_neg c21] at H;exact absurd H (by simp)
          ·
           rw [if_neg c18] at H;exact absurd H (by simp)
         ·
          rw [if_neg c17] at H;exact absurd H (by simp)
        case rest =>
         clear HC16;obtain⟨kq,x58_15,rfl,HA,HJ15,HO_4,HB⟩:=hcut
         cases kq with
         | zero=>exact absurd HA.out (by simp [spec_LoopOk.j2])
         | succ kj15 =>
          have H:=HA.out;clear HA;simp only [spec_LoopOk.j2] at H;by_cases c33:x58_15=true
          ·
           subst c33;rw [if_pos rfl] at H
           (try dsimp only at H)
           obtain rfl:=Option.some.inj H;go_wp2;go_ret;exact⟨rr_,hB_⟩
          ·
           replace c33:=Bool.eq_false_iff.mpr c33;subst c33;rw [if_neg (show ¬ (false=true) by decide)] at H
           (try dsimp only at H)
           have H':=Aside0.mk H;clear H;go_wp2;go_loopg [7] kj15 (fun kq v7 w'=>∃ (x7_4:Int),v7=.int .i64 x7_4∧Aside0 (spec_LoopOk.l2 kq (l0.length:Int) t154 x6_2 x7_4=some r)∧Aside0 (kq≤kj15)∧Aside0 (Kd.R k61 61 w' w.heap.size (fun _=>True) v155 t154)∧Aside0 (Below w.heap.size w w'))
           case atStart=>exact⟨(wrap64 (x6_2+2)),(by first | rfl | (simp;done) | (simp [*];done)),H',⟨Nat.le_refl _⟩,⟨by (with_reducible repeat (first | apply Kd.R_alloc | apply Kd.R_drewN | apply Kd.R_drew));exact HO_4.out⟩,⟨hB_⟩⟩
           case round =>
            clear H';obtain⟨x7_4,rfl,HA,HK4,HO_4,HB⟩:=hrel
            cases gk with
            | zero=>exact absurd HA.out (by simp [spec_LoopOk.l2])
            | succ k4 =>
             have H:=HA.out;clear HA;simp only [spec_LoopOk.l2] at H;by_cases c34:x7_4<(l0.length:Int)
             ·
              rw [if_pos c34] at H;have c34b0:decide (x7_4<(l0.length:Int))=true:=decide_eq_true c34;clear c34;by_cases c35:(l0.length:Int)=0
              ·
               rw [if_pos c35] at H;exact absurd H (by simp)
              ·
               rw [if_neg c35] at H;have c35b0:((l0.length:Int)==0)=false:=beq_eq_false_iff_ne.mpr c35;have c35b1:((l0.length:Int) != 0)=true:=bne_iff_ne.mpr c35;have c35b2:¬ (l0=[]):=fun h_=>c35 (by rw [h_];rfl)
               by_cases c36:(Int.tmod (wrap64 (x7_4+1)) (l0.length:Int))=x6_2
               ·
                rw [if_pos c36] at H;have c36b0:((Int.tmod (wrap64 (x7_4+1)) (l0.length:Int))==x6_2)=true:=beq_iff_eq.mpr c36;have c36b1:((Int.tmod (wrap64 (x7_4+1)) (l0.length:Int)) != x6_2)=false:=bne_eq_false_iff_eq.mpr c36;clear c36;have H':=Aside0.mk H;clear H
                try go_wp2
                replace HO_4:=a0_ (Kd.R_drew HO_4.out);replace HB:=a0_ (below_drew1 HB.out);refine start_ (n:=17) (S:=fun w'=>True) (ds:=[]) (Array.replicate 17 false) (by kernel_rfl) rfl rfl trivial (fun hHeld=>?_);refine with_tabW spec_LoopOk.tab18 spec_LoopOk.bits18 (fun HT_ HW_=>?_);generalize wr.drew=w37 at HO_4 HB hHeld ⊢
                refine pu_ HT_ 0 66 (bm 17 1) ?_;refine pu_ HT_ 1 67 (bm 17 3) ?_;refine pu_ HT_ 2 68 (bm 17 7) ?_;refine pu_ HT_ 3 69 (bm 17 15) ?_;refine pu_ HT_ 4 70 (bm 17 31) ?_;refine pu_ HT_ 5 71 (bm 17 63) ?_;refine pu_ HT_ 6 72 (bm 17 127) ?_;refine pz_ HT_ 7 73 (bm 17 255) ?_;refine pz_ HT_ 8 74 (bm 17 511) ?_;refine pz_ HT_ 9 75 (bm 17 1023) ?_;refine pz_ HT_ 10 76 (bm 17 2047) ?_;refine pz_ HT_ 11 77 (bm 17 4095) ?_;refine pz_ HT_ 12 78 (bm 17 8191) ?_;refine pz_ HT_ 13 79 (bm 17 16383) ?_;refine pz_ HT_ 14 80 (bm 17 32767) ?_;refine pz_ HT_ 15 81 (bm 17 65535) ?_;refine pu_ HT_ 16 82 (bm 17 131071) ?_;refine done_ (done_of HT_.out (by kernel_rfl)) ?_
                try go_wp2
                go_roundg k4
                case measure=>have:=HK1.out;have:=HK2.out;have:=HJ15.out;have:=HK4.out;omega
                case rel=>exact⟨(wrap64 (x7_4+1)),(by first | rfl | (simp;done) | (simp [*];done)),H',⟨by have:=HK1.out;have:=HK2.out;have:=HJ15.out;have:=HK4.out;omega⟩,⟨by (with_reducible repeat (first | apply Kd.R_alloc | apply Kd.R_drewN | apply Kd.R_drew));exact HO_4.out⟩,⟨hB_⟩⟩
               ·
                rw [if_neg c36] at H;have c36b0:((Int.tmod (wrap64 (x7_4+1)) (l0.length:Int))==x6_2)=false:=beq_eq_false_iff_ne.mpr c36;have c36b1:((Int.tmod (wrap64 (x7_4+1)) (l0.length:Int)) != x6_2)=true:=bne_iff_ne.mpr c36;by_cases c38:0≤x6_2
                ·
                 rw [if_pos c38] at H;have c38b0:decide (0≤x6_2)=true:=decide_eq_true c38;clear c38;by_cases c39:x6_2<(t154.length:Int)
                 ·
                  rw [if_pos c39] at H;have c39b0:decide (x6_2<(t154.length:Int))=true:=decide_eq_true c39;clear c39;by_cases c40:0≤x7_4
                  ·
                   rw [if_pos c40] at H;have c40b0:decide (0≤x7_4)=true:=decide_eq_true c40;clear c40;by_cases c41:x7_4<(t154.length:Int)
                   ·
                    rw [if_pos c41] at H;have c41b0:decide (x7_4<(t154.length:Int))=true:=decide_eq_true c41;clear c41;replace H:=Option.bind_eq_some_iff.mp H;obtain⟨t167,A420,H⟩:=H
                    (try dsimp only at H)
                    have A42:=Aside0.mk A420;clear A420;by_cases c43:t167=true
                    ·
                     subst c43;rw [if_pos rfl] at H
                     (try dsimp only at H)
                     obtain rfl:=Option.some.inj H
                     try go_wp2
                     replace HO_4:=a0_ (Kd.R_drew HO_4.out);replace HB:=a0_ (below_drew1 HB.out);obtain⟨Ao45,co45,eo45⟩:=Kd.R_slice HO_4.out
                     (first | subst eo45 | (injection eo45 with f1_ f2_ f3_;have f4_:=f1_.symm;have f5_:=f3_.symm;clear f1_ f2_ f3_;subst f4_;subst f5_))
                     have p165:0≤(x6_2:Int):=od_;have q165:x6_2<(t154.length:Int):=od_;obtain⟨ad165,e165,hx165_0,hx165_1,hx165_2,hx165_3⟩:=at_T61 (Kd.R_reads' HO_4.out).2.2 x6_2 p165 q165;cases e165;replace p165:=eq_true p165;replace q165:=eq_true q165;have p166:0≤(x7_4:Int):=od_;have q166:x7_4<(t154.length:Int):=od_;obtain⟨ad166,e166,hx166_0,hx166_1,hx166_2,hx166_3⟩:=at_T61 (Kd.R_reads' HO_4.out).2.2 x7_4 p166 q166;obtain rfl:ad165=ad166:=(by injection e166);replace p166:=eq_true p166;replace q166:=eq_true q166;refine start_ (n:=17) (S:=fun w'=>w'.cell? (ad165.add ((x6_2).toNat*4))=some (.int .i64 ((rd_T61 t154 x6_2).f0.f0))∧w'.cell? ⟨(ad165.add ((x6_2).toNat*4)).block,(ad165.add ((x6_2).toNat*4)).off+1,none⟩=some (.int .i64 ((rd_T61 t154 x6_2).f0.f1))∧w'.cell? ⟨(ad165.add ((x6_2).toNat*4)).block,(ad165.add ((x6_2).toNat*4)).off+2,none⟩=some (.int .i64 ((rd_T61 t154 x6_2).f1.f0))∧w'.cell? ⟨(ad165.add ((x6_2).toNat*4)).block,(ad165.add ((x6_2).toNat*4)).off+3,none⟩=some (.int .i64 ((rd_T61 t154 x6_2).f1.f1))∧w'.cell? (ad165.add ((x7_4).toNat*4))=some (.int .i64 ((rd_T61 t154 x7_4).f0.f0))∧w'.cell? ⟨(ad165.add ((x7_4).toNat*4)).block,(ad165.add ((x7_4).toNat*4)).off+1,none⟩=some (.int .i64 ((rd_T61 t154 x7_4).f0.f1))∧w'.cell? ⟨(ad165.add ((x7_4).toNat*4)).block,(ad165.add ((x7_4).toNat*4)).off+2,none⟩=some (.int .i64 ((rd_T61 t154 x7_4).f1.f0))∧w'.cell? ⟨(ad165.add ((x7_4).toNat*4)).block,(ad165.add ((x7_4).toNat*4)).off+3,none⟩=some (.int .i64 ((rd_T61 t154 x7_4).f1.f1))) (ds:=[]) (Array.replicate 17 false) (by kernel_rfl) rfl rfl ⟨hx165_0,hx165_1,hx165_2,hx165_3,hx166_0,hx166_1,hx166_2,hx166_3⟩ (fun hHeld=>?_);refine with_tabW spec_LoopOk.tab18 spec_LoopOk.bits18 (fun HT_ HW_=>?_)
                     generalize wr.drew=w44 at HO_4 HB hx165_0 hx165_1 hx165_2 hx165_3 hx166_0 hx166_1 hx166_2 hx166_3 hHeld ⊢
                     refine pu_ HT_ 0 66 (bm 17 1) ?_;refine pu_ HT_ 1 67 (bm 17 3) ?_;refine pu_ HT_ 2 68 (bm 17 7) ?_;refine pu_ HT_ 3 69 (bm 17 15) ?_;refine pu_ HT_ 4 70 (bm 17 31) ?_;refine pu_ HT_ 5 71 (bm 17 63) ?_;refine pu_ HT_ 6 72 (bm 17 127) ?_;refine pu_ HT_ 7 73 (bm 17 255) ?_;refine pu_ HT_ 8 74 (bm 17 511) ?_;refine pu_ HT_ 9 75 (bm 17 1023) ?_;refine pu_ HT_ 11 77 (bm 17 3071) ?_;refine pu_ HT_ 12 78 (bm 17 7167) ?_;refine pu_ HT_ 13 79 (bm 17 15359) ?_;refine ta8_ HT_ HW_ 10 76 (bm 17 16383) hHeld ?_;refine ta8_ HT_ HW_ 14 80 (bm 17 32767) hHeld ?_;refine one_ (i:=15) (N:=some 81) (bm 17 65535) rfl rfl (one_of HT_.out (by kernel_rfl)) (by decide) (fun K hK=>?_);refine goes_ Tryd.func101 (by kernel_rfl) rfl #[.agg #[.int .i64 ((rd_T61 t154 x6_2).f0.f0),.int .i64 ((rd_T61 t154 x6_2).f0.f1),.int .i64 ((rd_T61 t154 x6_2).f1.f0),.int .i64 ((rd_T61 t154 x6_2).f1.f1)],.agg #[.int .i64 ((rd_T61 t154 x7_4).f0.f0),.int .i64 ((rd_T61 t154 x7_4).f0.f1),.int .i64 ((rd_T61 t154 x7_4).f1.f0),.int .i64 ((rd_T61 t154 x7_4).f1.f1)]] (by rfl) rfl rfl ma_ ?_
                     with_reducible refine (spec_l2Meet.calls ((rd_T61 t154 x6_2).f0.f0) ((rd_T61 t154 x6_2).f0.f1) ((rd_T61 t154 x6_2).f1.f0) ((rd_T61 t154 x6_2).f1.f1) ((rd_T61 t154 x7_4).f0.f0) ((rd_T61 t154 x7_4).f0.f1) ((rd_T61 t154 x7_4).f1.f0) ((rd_T61 t154 x7_4).f1.f1) true _ A42.out).mono ?_
                     rintro e w46 ⟨rfl,hb⟩;have HS0_:=pw_cell_below hb hHeld.1;have HS1_:=pw_cell_below hb hHeld.2.1;have HS2_:=pw_cell_below hb hHeld.2.2.1;have HS3_:=pw_cell_below hb hHeld.2.2.2.1;have HS4_:=pw_cell_below hb hHeld.2.2.2.2.1;have HS5_:=pw_cell_below hb hHeld.2.2.2.2.2.1;have HS6_:=pw_cell_below hb hHeld.2.2.2.2.2.2.1;have HS7_:=pw_cell_below hb hHeld.2.2.2.2.2.2.2;refine⟨_,rfl,?_⟩;replace HO_4:=rb_ HO_4 hb;replace HB:=sb_ HB hb
                     (try clear hb)
                     (try clear hb2)
                     (try clear hk)
                     (try clear hi)
                     refine hK.out _ _ ⟨HS0_,HS1_,HS2_,HS3_,HS4_,HS5_,HS6_,HS7_⟩ (fun hHeld=>?_);clear hK K;refine no_ (h:=?_);refine pu_ HT_ 16 82 (bm 17 131071) ?_;refine done_ (done_of HT_.out (by kernel_rfl)) ?_
                     try go_wp2
                     go_ret;exact⟨rr_,hB_⟩
                    ·
                     replace c43:=Bool.eq_false_iff.mpr c43;subst c43;rw [if_neg (show ¬ (false=true) by decide)] at H
                     (try dsimp only at H)
                     have H':=Aside0.mk H;clear H
                     try go_wp2
                     replace HO_4:=a0_ (Kd.R_drew HO_4.out);replace HB:=a0_ (below_drew1 HB.out);obtain⟨Ao48,co48,eo48⟩:=Kd.R_slice HO_4.out
                     (first | subst eo48 | (injection eo48 with f1_ f2_ f3_;have f4_:=f1_.symm;have f5_:=f3_.symm;clear f1_ f2_ f3_;subst f4_;subst f5_))
                     have p165:0≤(x6_2:Int):=od_;have q165:x6_2<(t154.length:Int):=od_;obtain⟨ad165,e165,hx165_0,hx165_1,hx165_2,hx165_3⟩:=at_T61 (Kd.R_reads' HO_4.out).2.2 x6_2 p165 q165;cases e165;replace p165:=eq_true p165;replace q165:=eq_true q165;have p166:0≤(x7_4:Int):=od_;have q166:x7_4<(t154.length:Int):=od_;obtain⟨ad166,e166,hx166_0,hx166_1,hx166_2,hx166_3⟩:=at_T61 (Kd.R_reads' HO_4.out).2.2 x7_4 p166 q166;obtain rfl:ad165=ad166:=(by injection e166);replace p166:=eq_true p166;replace q166:=eq_true q166;refine start_ (n:=17) (S:=fun w'=>w'.cell? (ad165.add ((x6_2).toNat*4))=some (.int .i64 ((rd_T61 t154 x6_2).f0.f0))∧w'.cell? ⟨(ad165.add ((x6_2).toNat*4)).block,(ad165.add ((x6_2).toNat*4)).off+1,none⟩=some (.int .i64 ((rd_T61 t154 x6_2).f0.f1))∧w'.cell? ⟨(ad165.add ((x6_2).toNat*4)).block,(ad165.add ((x6_2).toNat*4)).off+2,none⟩=some (.int .i64 ((rd_T61 t154 x6_2).f1.f0))∧w'.cell? ⟨(ad165.add ((x6_2).toNat*4)).block,(ad165.add ((x6_2).toNat*4)).off+3,none⟩=some (.int .i64 ((rd_T61 t154 x6_2).f1.f1))∧w'.cell? (ad165.add ((x7_4).toNat*4))=some (.int .i64 ((rd_T61 t154 x7_4).f0.f0))∧w'.cell? ⟨(ad165.add ((x7_4).toNat*4)).block,(ad165.add ((x7_4).toNat*4)).off+1,none⟩=some (.int .i64 ((rd_T61 t154 x7_4).f0.f1))∧w'.cell? ⟨(ad165.add ((x7_4).toNat*4)).block,(ad165.add ((x7_4).toNat*4)).off+2,none⟩=some (.int .i64 ((rd_T61 t154 x7_4).f1.f0))∧w'.cell? ⟨(ad165.add ((x7_4).toNat*4)).block,(ad165.add ((x7_4).toNat*4)).off+3,none⟩=some (.int .i64 ((rd_T61 t154 x7_4).f1.f1))) (ds:=[]) (Array.replicate 17 false) (by kernel_rfl) rfl rfl ⟨hx165_0,hx165_1,hx165_2,hx165_3,hx166_0,hx166_1,hx166_2,hx166_3⟩ (fun hHeld=>?_);refine with_tabW spec_LoopOk.tab18 spec_LoopOk.bits18 (fun HT_ HW_=>?_)
                     generalize wr.drew=w47 at HO_4 HB hx165_0 hx165_1 hx165_2 hx165_3 hx166_0 hx166_1 hx166_2 hx166_3 hHeld ⊢
                     refine pu_ HT_ 0 66 (bm 17 1) ?_;refine pu_ HT_ 1 67 (bm 17 3) ?_;refine pu_ HT_ 2 68 (bm 17 7) ?_;refine pu_ HT_ 3 69 (bm 17 15) ?_;refine pu_ HT_ 4 70 (bm 17 31) ?_;refine pu_ HT_ 5 71 (bm 17 63) ?_;refine pu_ HT_ 6 72 (bm 17 127) ?_;refine pu_ HT_ 7 73 (bm 17 255) ?_;refine pu_ HT_ 8 74 (bm 17 511) ?_;refine pu_ HT_ 9 75 (bm 17 1023) ?_;refine pu_ HT_ 11 77 (bm 17 3071) ?_;refine pu_ HT_ 12 78 (bm 17 7167) ?_;refine pu_ HT_ 13 79 (bm 17 15359) ?_;refine ta8_ HT_ HW_ 10 76 (bm 17 16383) hHeld ?_;refine ta8_ HT_ HW_ 14 80 (bm 17 32767) hHeld ?_;refine one_ (i:=15) (N:=some 81) (bm 17 65535) rfl rfl (one_of HT_.out (by kernel_rfl)) (by decide) (fun K hK=>?_);refine goes_ Tryd.func101 (by kernel_rfl) rfl #[.agg #[.int .i64 ((rd_T61 t154 x6_2).f0.f0),.int .i64 ((rd_T61 t154 x6_2).f0.f1),.int .i64 ((rd_T61 t154 x6_2).f1.f0),.int .i64 ((rd_T61 t154 x6_2).f1.f1)],.agg #[.int .i64 ((rd_T61 t154 x7_4).f0.f0),.int .i64 ((rd_T61 t154 x7_4).f0.f1),.int .i64 ((rd_T61 t154 x7_4).f1.f0),.int .i64 ((rd_T61 t154 x7_4).f1.f1)]] (by rfl) rfl rfl ma_ ?_
                     with_reducible refine (spec_l2Meet.calls ((rd_T61 t154 x6_2).f0.f0) ((rd_T61 t154 x6_2).f0.f1) ((rd_T61 t154 x6_2).f1.f0) ((rd_T61 t154 x6_2).f1.f1) ((rd_T61 t154 x7_4).f0.f0) ((rd_T61 t154 x7_4).f0.f1) ((rd_T61 t154 x7_4).f1.f0) ((rd_T61 t154 x7_4).f1.f1) false _ A42.out).mono ?_
                     rintro e w49 ⟨rfl,hb⟩;have HS0_:=pw_cell_below hb hHeld.1;have HS1_:=pw_cell_below hb hHeld.2.1;have HS2_:=pw_cell_below hb hHeld.2.2.1;have HS3_:=pw_cell_below hb hHeld.2.2.2.1;have HS4_:=pw_cell_below hb hHeld.2.2.2.2.1;have HS5_:=pw_cell_below hb hHeld.2.2.2.2.2.1;have HS6_:=pw_cell_below hb hHeld.2.2.2.2.2.2.1;have HS7_:=pw_cell_below hb hHeld.2.2.2.2.2.2.2;refine⟨_,rfl,?_⟩;replace HO_4:=rb_ HO_4 hb;replace HB:=sb_ HB hb
                     (try clear hb)
                     (try clear hb2)
                     (try clear hk)
                     (try clear hi)
                     refine hK.out _ _ ⟨HS0_,HS1_,HS2_,HS3_,HS4_,HS5_,HS6_,HS7_⟩ (fun hHeld=>?_);clear hK K;refine no_ (h:=?_);refine pu_ HT_ 16 82 (bm 17 131071) ?_;refine done_ (done_of HT_.out (by kernel_rfl)) ?_
                     try go_wp2
                     go_roundg k4
                     case measure=>have:=HK1.out;have:=HK2.out;have:=HJ15.out;have:=HK4.out;omega
                     case rel=>exact⟨(wrap64 (x7_4+1)),(by first | rfl | (simp;done) | (simp [*];done)),H',⟨by have:=HK1.out;have:=HK2.out;have:=HJ15.out;have:=HK4.out;omega⟩,⟨by (with_reducible repeat (first | apply Kd.R_alloc | apply Kd.R_drewN | apply Kd.R_drew));exact HO_4.out⟩,⟨hB_⟩⟩
                   ·
                    rw [if_neg c41] at H;exact absurd H (by simp)
                  ·
                   rw [if_neg c40] at H;exact absurd H (by simp)
                 ·
                  rw [if_neg c39] at H;exact absurd H (by simp)
                ·
                 rw [if_neg c38] at H;exact absurd H (by simp)
             ·
              rw [if_neg c34] at H;have c34b0:decide (x7_4<(l0.length:Int))=false:=decide_eq_false c34;clear c34;have H':=Aside0.mk H;clear H;go_wp2;go_roundg k4
              case measure=>have:=HK1.out;have:=HK2.out;have:=HJ15.out;have:=HK4.out;omega
              case rel=>exact⟨(wrap64 (x6_2+1)),(by first | rfl | (simp;done) | (simp [*];done)),H',⟨by have:=HK1.out;have:=HK2.out;have:=HJ15.out;have:=HK4.out;omega⟩,⟨by (with_reducible repeat (first | apply Kd.R_alloc | apply Kd.R_drewN | apply Kd.R_drew));exact HO_4.out⟩,⟨hB_⟩⟩
       ·
        rw [if_neg c15] at H;have c15b0:decide (x6_2<(l0.length:Int))=false:=decide_eq_false c15;clear c15;obtain rfl:=Option.some.inj H;go_wp2;go_ret;exact⟨rr_,hB_⟩
 ·
  replace c3:=Bool.eq_false_iff.mpr c3;subst c3;rw [if_neg (show ¬ (false=true) by decide)] at H
  (try dsimp only at H)
  obtain rfl:=Option.some.inj H;go_enter Tryd.func55,Tryd.ntmps55;go_wp2_with (first | ((with_reducible refine gate_callee (f:=58) rfl ?_);refine gL_ (some 11) Tryd.func58 #[.int .i64 (l0.length:Int),.int .i64 3,.int .i64 8] (h:=?_);(with_reducible refine (spec_l6In.calls (l0.length:Int) 3 8 false _ A2.out).mono ?_);rintro e w' ⟨rfl,⟨nd,rfl⟩⟩;refine⟨_,rfl,?_⟩));go_ret;exact⟨rr_,hB_⟩
mutual
def spec_l11Apart.l0:Nat→List (S61)→List (S61)→Int→Option (Bool)
 | 0,_,_,_=>none
 | k+1,x5,x6,x7=>if x7<(x5.length:Int) then (spec_l11Apart.l1 k x5 x6 x7 0) else (some true)
def spec_l11Apart.l1:Nat→List (S61)→List (S61)→Int→Int→Option (Bool)
 | 0,_,_,_,_=>none
 | k+1,x5,x6,x7,x8=>if x8<(x6.length:Int) then (if 0≤x7 then (if x7<(x5.length:Int) then (if 0≤x8 then ((spec_l2Meet.f ((rd_T61 x5 x7).f0.f0) ((rd_T61 x5 x7).f0.f1) ((rd_T61 x5 x7).f1.f0) ((rd_T61 x5 x7).f1.f1) ((rd_T61 x6 x8).f0.f0) ((rd_T61 x6 x8).f0.f1) ((rd_T61 x6 x8).f1.f0) ((rd_T61 x6 x8).f1.f1)).bind fun t176=>(if t176=true then (some false) else (spec_l11Apart.l1 k x5 x6 x7 (wrap64 (x8+1))))) else (none)) else (none)) else (none)) else (spec_l11Apart.l0 k x5 x6 (wrap64 (x7+1)))
end
def spec_l11Apart.f (k:Nat)(l0:List (S28))(l1:List (S28)):Option (Bool):=(spec_l3Edges.f k l0).bind fun t168=>((spec_l3Edges.f k l1).bind fun t171=>(spec_l11Apart.l0 k t168 t171 0))
def spec_l11Apart.T9:Bool × List (List Nat × List Nat):=(true,[([],[]),([],[]),([0,1],[0,1]),([2],[2]),([],[]),([],[]),([4,5],[4,5]),([6],[6]),([3,7],[3,7])])
def spec_l11Apart.B9:List Nat:=[0,0,3,7,0,0,48,112,255]
theorem spec_l11Apart.tab9:rtab .any (opsOf Tryd.f57 9)=spec_l11Apart.T9:=by kernel_rfl
theorem spec_l11Apart.bits9:waitsOk spec_l11Apart.T9.2 spec_l11Apart.B9=true:=by kernel_rfl
set_option maxHeartbeats 8000000 in
set_option maxRecDepth 100000 in
theorem spec_l11Apart.calls (k:Nat)(A0:Option Addr)(c0:Nat)(l0:List (S28))(A1:Option Addr)(c1:Nat)(l1:List (S28))(r:Bool)(w:World)(hr0:Kd.C k28 w A0 l0.length l0)(hc0:l0.length≤c0)(hr1:Kd.C k28 w A1 l1.length l1)(hc1:l1.length≤c1)(h:spec_l11Apart.f k l0 l1=some r):
  Calls Tryd.prog 57 #[.slice A0 l0.length c0,.slice A1 l1.length c1] w fun e w'=>e=.returned (.bool r)∧Below w.heap.size w w':=by
 have hu61:=Tryd.underlying61;have HR0:=Aside0.mk hr0;have HC0:=Aside0.mk hc0;clear hr0 hc0;have HR1:=Aside0.mk hr1;have HC1:=Aside0.mk hc1;clear hr1 hc1;have HB:=a0_ (Below.refl w.heap.size w);have H:((spec_l3Edges.f k l0).bind fun t168=>((spec_l3Edges.f k l1).bind fun t171=>(spec_l11Apart.l0 k t168 t171 0)))=some r:=h;clear h;replace H:=Option.bind_eq_some_iff.mp H;obtain⟨t168,A30,H⟩:=H
 (try dsimp only at H)
 have A3:=Aside0.mk A30;clear A30;replace H:=Option.bind_eq_some_iff.mp H;obtain⟨t171,A40,H⟩:=H
 (try dsimp only at H)
 have A4:=Aside0.mk A40;clear A40;have H':=Aside0.mk H;clear H;go_enter Tryd.func57,Tryd.ntmps57;go_wp2_with (first | ((with_reducible refine gate_callee (f:=98) rfl ?_);refine gL_ (some 10) Tryd.func98 #[.slice A0 l0.length c0] (h:=?_);(with_reducible refine (spec_l3Edges.calls k _ _ l0 t168 _ ?side1 ?side2 A3.out).mono ?_);(case side1=>repeat (first | exact HR0.out | (with_reducible refine Kd.C_alloc ?_ _) | (with_reducible refine Kd.C_drewN ?_ _) | (with_reducible refine Kd.C_drew ?_)));(case side2=>exact HC0.out);rintro e w5 ⟨v169,rfl,ho0,hb⟩;refine⟨_,rfl,?_⟩;have HO170:=a0_ (Kd.R_lower ho0 (below_size hB_));replace HB:=sb_ HB hb;(try clear ho0 hb)) | ((with_reducible refine gate_callee (f:=98) rfl ?_);refine gL_ (some 12) Tryd.func98 #[.slice A1 l1.length c1] (h:=?_);(with_reducible refine (spec_l3Edges.calls k _ _ l1 t171 _ ?side1 ?side2 A4.out).mono ?_);(case side1=>repeat (first | exact (Kd.C_below HR1.out HB.out) | (with_reducible refine Kd.C_alloc ?_ _) | (with_reducible refine Kd.C_drewN ?_ _) | (with_reducible refine Kd.C_drew ?_)));(case side2=>exact HC1.out);rintro e w6 ⟨v172,rfl,ho0,hb⟩;refine⟨_,rfl,?_⟩;have HO173:=a0_ (Kd.R_lower (Kd.R_new' ho0 (Kd.R_lt (uR_ HO170))) (below_size hB_));replace HO170:=a0_ (Kd.R_elder' (uR_ HO170) (Kd.R_base ho0) hb);replace HB:=sb_ HB hb;(try clear ho0 hb)));go_loopg [7] k (fun kq v7 w'=>∃ (x7_1:Int),v7=.int .i64 x7_1∧Aside0 (spec_l11Apart.l0 kq t168 t171 x7_1=some r)∧Aside0 (kq≤k)∧Aside0 (Kd.R k61 61 w' w.heap.size (fun k_=>some k_≠(v172:Value).ownBlock) v169 t168)∧Aside0 (Kd.R k61 61 w' w.heap.size (fun k_=>some k_≠(v169:Value).ownBlock) v172 t171)∧Aside0 (Below w.heap.size w w'))
 case atStart=>exact⟨(0),(by first | rfl | (simp;done) | (simp [*];done)),H',⟨Nat.le_refl _⟩,⟨by (with_reducible repeat (first | apply Kd.R_alloc | apply Kd.R_drewN | apply Kd.R_drew));exact Kd.R_mono HO170.out (fun _ hk=>hk.2)⟩,⟨by (with_reducible repeat (first | apply Kd.R_alloc | apply Kd.R_drewN | apply Kd.R_drew));exact Kd.R_mono HO173.out (fun _ hk=>hk.2)⟩,⟨hB_⟩⟩
 case round =>
  clear H';obtain⟨x7_1,rfl,HA,HK1,HO_5,HO_6,HB⟩:=hrel
  cases gk with
  | zero=>exact absurd HA.out (by simp [spec_l11Apart.l0])
  | succ k1 =>
   have H:=HA.out;clear HA;simp only [spec_l11Apart.l0] at H;by_cases c7:x7_1<(t168.length:Int)
   ·
    rw [if_pos c7] at H;have c7b0:decide (x7_1<(t168.length:Int))=true:=decide_eq_true c7;clear c7;have H':=Aside0.mk H;clear H;obtain⟨Ao8,co8,eo8⟩:=Kd.R_slice HO_5.out;subst eo8;go_wp2;go_loopg [8] k1 (fun kq v8 w'=>∃ (x8_2:Int),v8=.int .i64 x8_2∧Aside0 (spec_l11Apart.l1 kq t168 t171 x7_1 x8_2=some r)∧Aside0 (kq≤k1)∧Aside0 (Kd.R k61 61 w' w.heap.size (fun k_=>some k_≠(v172:Value).ownBlock) (.slice Ao8 t168.length co8) t168)∧Aside0 (Kd.R k61 61 w' w.heap.size (fun k_=>some k_≠((.slice Ao8 t168.length co8):Value).ownBlock) v172 t171)∧Aside0 (Below w.heap.size w w'))
    case atStart=>exact⟨(0),(by first | rfl | (simp;done) | (simp [*];done)),H',⟨Nat.le_refl _⟩,⟨by (with_reducible repeat (first | apply Kd.R_alloc | apply Kd.R_drewN | apply Kd.R_drew));exact HO_5.out⟩,⟨by (with_reducible repeat (first | apply Kd.R_alloc | apply Kd.R_drewN | apply Kd.R_drew));exact HO_6.out⟩,⟨hB_⟩⟩
    case round =>
     clear H';obtain⟨x8_2,rfl,HA,HK2,HO_5,HO_6,HB⟩:=hrel
     cases gk with
     | zero=>exact absurd HA.out (by simp [spec_l11Apart.l1])
     | succ k2 =>
      have H:=HA.out;clear HA;simp only [spec_l11Apart.l1] at H;by_cases c9:x8_2<(t171.length:Int)
      ·
       rw [if_pos c9] at H;have c9b0:decide (x8_2<(t171.length:Int))=true:=decide_eq_true c9;clear c9;by_cases c10:0≤x7_1
       ·
        rw [if_pos c10] at H;have c10b0:decide (0≤x7_1)=true:=decide_eq_true c10;clear c10;by_cases c11:x7_1<(t168.length:Int)
        ·
         rw [if_pos c11] at H;have c11b0:decide (x7_1<(t168.length:Int))=true:=decide_eq_true c11;clear c11;by_cases c12:0≤x8_2
         ·
          rw [if_pos c12] at H;have c12b0:decide (0≤x8_2)=true:=decide_eq_true c12;clear c12;replace H:=Option.bind_eq_some_iff.mp H;obtain⟨t176,A130,H⟩:=H
          (try dsimp only at H)
          have A13:=Aside0.mk A130;clear A130;by_cases c14:t176=true
          ·
           subst c14;rw [if_pos rfl] at H
           (try dsimp only at H)
           obtain rfl:=Option.some.inj H;obtain⟨Ao15,co15,eo15⟩:=Kd.R_slice HO_6.out;subst eo15
           try go_wp2
           replace HO_5:=a0_ (Kd.R_drew HO_5.out);replace HO_6:=a0_ (Kd.R_drew HO_6.out);replace HB:=a0_ (below_drew1 HB.out);have p174:0≤(x7_1:Int):=od_;have q174:x7_1<(t168.length:Int):=od_;obtain⟨ad174,e174,hx174_0,hx174_1,hx174_2,hx174_3⟩:=at_T61 (Kd.R_reads' HO_5.out).2.2 x7_1 p174 q174;cases e174;replace p174:=eq_true p174;replace q174:=eq_true q174;have p175:0≤(x8_2:Int):=od_;have q175:x8_2<(t171.length:Int):=od_;obtain⟨ad175,e175,hx175_0,hx175_1,hx175_2,hx175_3⟩:=at_T61 (Kd.R_reads' HO_6.out).2.2 x8_2 p175 q175;cases e175;replace p175:=eq_true p175;replace q175:=eq_true q175;refine start_ (n:=9) (S:=fun w'=>w'.cell? (ad174.add ((x7_1).toNat*4))=some (.int .i64 ((rd_T61 t168 x7_1).f0.f0))∧w'.cell? ⟨(ad174.add ((x7_1).toNat*4)).block,(ad174.add ((x7_1).toNat*4)).off+1,none⟩=some (.int .i64 ((rd_T61 t168 x7_1).f0.f1))∧w'.cell? ⟨(ad174.add ((x7_1).toNat*4)).block,(ad174.add ((x7_1).toNat*4)).off+2,none⟩=some (.int .i64 ((rd_T61 t168 x7_1).f1.f0))∧w'.cell? ⟨(ad174.add ((x7_1).toNat*4)).block,(ad174.add ((x7_1).toNat*4)).off+3,none⟩=some (.int .i64 ((rd_T61 t168 x7_1).f1.f1))∧w'.cell? (ad175.add ((x8_2).toNat*4))=some (.int .i64 ((rd_T61 t171 x8_2).f0.f0))∧w'.cell? ⟨(ad175.add ((x8_2).toNat*4)).block,(ad175.add ((x8_2).toNat*4)).off+1,none⟩=some (.int .i64 ((rd_T61 t171 x8_2).f0.f1))∧w'.cell? ⟨(ad175.add ((x8_2).toNat*4)).block,(ad175.add ((x8_2).toNat*4)).off+2,none⟩=some (.int .i64 ((rd_T61 t171 x8_2).f1.f0))∧w'.cell? ⟨(ad175.add ((x8_2).toNat*4)).block,(ad175.add ((x8_2).toNat*4)).off+3,none⟩=some (.int .i64 ((rd_T61 t171 x8_2).f1.f1))) (ds:=[]) (Array.replicate 9 false) (by kernel_rfl) rfl rfl ⟨hx174_0,hx174_1,hx174_2,hx174_3,hx175_0,hx175_1,hx175_2,hx175_3⟩ (fun hHeld=>?_);refine with_tabW spec_l11Apart.tab9 spec_l11Apart.bits9 (fun HT_ HW_=>?_)
           generalize wr.drew=w16 at HO_5 HO_6 HB hx174_0 hx174_1 hx174_2 hx174_3 hx175_0 hx175_1 hx175_2 hx175_3 hHeld ⊢
           refine pu_ HT_ 0 25 (bm 9 1) ?_;refine pu_ HT_ 1 26 (bm 9 3) ?_;refine pu_ HT_ 2 27 (bm 9 7) ?_;refine pu_ HT_ 4 29 (bm 9 23) ?_;refine pu_ HT_ 5 30 (bm 9 55) ?_;refine pu_ HT_ 6 31 (bm 9 119) ?_;refine ta8_ HT_ HW_ 3 28 (bm 9 127) hHeld ?_;refine ta8_ HT_ HW_ 7 32 (bm 9 255) hHeld ?_;refine one_ (i:=8) (N:=some 33) (bm 9 511) rfl rfl (one_of HT_.out (by kernel_rfl)) (by decide) (fun K hK=>?_);refine goes_ Tryd.func101 (by kernel_rfl) rfl #[.agg #[.int .i64 ((rd_T61 t168 x7_1).f0.f0),.int .i64 ((rd_T61 t168 x7_1).f0.f1),.int .i64 ((rd_T61 t168 x7_1).f1.f0),.int .i64 ((rd_T61 t168 x7_1).f1.f1)],.agg #[.int .i64 ((rd_T61 t171 x8_2).f0.f0),.int .i64 ((rd_T61 t171 x8_2).f0.f1),.int .i64 ((rd_T61 t171 x8_2).f1.f0),.int .i64 ((rd_T61 t171 x8_2).f1.f1)]] (by rfl) rfl rfl ma_ ?_
           with_reducible refine (spec_l2Meet.calls ((rd_T61 t168 x7_1).f0.f0) ((rd_T61 t168 x7_1).f0.f1) ((rd_T61 t168 x7_1).f1.f0) ((rd_T61 t168 x7_1).f1.f1) ((rd_T61 t171 x8_2).f0.f0) ((rd_T61 t171 x8_2).f0.f1) ((rd_T61 t171 x8_2).f1.f0) ((rd_T61 t171 x8_2).f1.f1) true _ A13.out).mono ?_
           rintro e w17 ⟨rfl,hb⟩;have HS0_:=pw_cell_below hb hHeld.1;have HS1_:=pw_cell_below hb hHeld.2.1;have HS2_:=pw_cell_below hb hHeld.2.2.1;have HS3_:=pw_cell_below hb hHeld.2.2.2.1;have HS4_:=pw_cell_below hb hHeld.2.2.2.2.1;have HS5_:=pw_cell_below hb hHeld.2.2.2.2.2.1;have HS6_:=pw_cell_below hb hHeld.2.2.2.2.2.2.1;have HS7_:=pw_cell_below hb hHeld.2.2.2.2.2.2.2;refine⟨_,rfl,?_⟩;replace HO_5:=rb_ HO_5 hb;replace HO_6:=rb_ HO_6 hb;replace HB:=sb_ HB hb
           (try clear hb)
           (try clear hb2)
           (try clear hk)
           (try clear hi)
           refine hK.out _ _ ⟨HS0_,HS1_,HS2_,HS3_,HS4_,HS5_,HS6_,HS7_⟩ (fun hHeld=>?_);clear hK K;refine no_ (h:=?_);refine done_ (done_of HT_.out (by kernel_rfl)) ?_
           try go_wp2
           go_ret;exact⟨rr_,hB_⟩
          ·
           replace c14:=Bool.eq_false_iff.mpr c14;subst c14;rw [if_neg (show ¬ (false=true) by decide)] at H
           (try dsimp only at H)
           have H':=Aside0.mk H;clear H;obtain⟨Ao18,co18,eo18⟩:=Kd.R_slice HO_6.out;subst eo18
           try go_wp2
           replace HO_5:=a0_ (Kd.R_drew HO_5.out);replace HO_6:=a0_ (Kd.R_drew HO_6.out);replace HB:=a0_ (below_drew1 HB.out);have p174:0≤(x7_1:Int):=od_;have q174:x7_1<(t168.length:Int):=od_;obtain⟨ad174,e174,hx174_0,hx174_1,hx174_2,hx174_3⟩:=at_T61 (Kd.R_reads' HO_5.out).2.2 x7_1 p174 q174;cases e174;replace p174:=eq_true p174;replace q174:=eq_true q174;have p175:0≤(x8_2:Int):=od_;have q175:x8_2<(t171.length:Int):=od_;obtain⟨ad175,e175,hx175_0,hx175_1,hx175_2,hx175_3⟩:=at_T61 (Kd.R_reads' HO_6.out).2.2 x8_2 p175 q175;cases e175;replace p175:=eq_true p175;replace q175:=eq_true q175;refine start_ (n:=9) (S:=fun w'=>w'.cell? (ad174.add ((x7_1).toNat*4))=some (.int .i64 ((rd_T61 t168 x7_1).f0.f0))∧w'.cell? ⟨(ad174.add ((x7_1).toNat*4)).block,(ad174.add ((x7_1).toNat*4)).off+1,none⟩=some (.int .i64 ((rd_T61 t168 x7_1).f0.f1))∧w'.cell? ⟨(ad174.add ((x7_1).toNat*4)).block,(ad174.add ((x7_1).toNat*4)).off+2,none⟩=some (.int .i64 ((rd_T61 t168 x7_1).f1.f0))∧w'.cell? ⟨(ad174.add ((x7_1).toNat*4)).block,(ad174.add ((x7_1).toNat*4)).off+3,none⟩=some (.int .i64 ((rd_T61 t168 x7_1).f1.f1))∧w'.cell? (ad175.add ((x8_2).toNat*4))=some (.int .i64 ((rd_T61 t171 x8_2).f0.f0))∧w'.cell? ⟨(ad175.add ((x8_2).toNat*4)).block,(ad175.add ((x8_2).toNat*4)).off+1,none⟩=some (.int .i64 ((rd_T61 t171 x8_2).f0.f1))∧w'.cell? ⟨(ad175.add ((x8_2).toNat*4)).block,(ad175.add ((x8_2).toNat*4)).off+2,none⟩=some (.int .i64 ((rd_T61 t171 x8_2).f1.f0))∧w'.cell? ⟨(ad175.add ((x8_2).toNat*4)).block,(ad175.add ((x8_2).toNat*4)).off+3,none⟩=some (.int .i64 ((rd_T61 t171 x8_2).f1.f1))) (ds:=[]) (Array.replicate 9 false) (by kernel_rfl) rfl rfl ⟨hx174_0,hx174_1,hx174_2,hx174_3,hx175_0,hx175_1,hx175_2,hx175_3⟩ (fun hHeld=>?_);refine with_tabW spec_l11Apart.tab9 spec_l11Apart.bits9 (fun HT_ HW_=>?_)
           generalize wr.drew=w19 at HO_5 HO_6 HB hx174_0 hx174_1 hx174_2 hx174_3 hx175_0 hx175_1 hx175_2 hx175_3 hHeld ⊢
           refine pu_ HT_ 0 25 (bm 9 1) ?_;refine pu_ HT_ 1 26 (bm 9 3) ?_;refine pu_ HT_ 2 27 (bm 9 7) ?_;refine pu_ HT_ 4 29 (bm 9 23) ?_;refine pu_ HT_ 5 30 (bm 9 55) ?_;refine pu_ HT_ 6 31 (bm 9 119) ?_;refine ta8_ HT_ HW_ 3 28 (bm 9 127) hHeld ?_;refine ta8_ HT_ HW_ 7 32 (bm 9 255) hHeld ?_;refine one_ (i:=8) (N:=some 33) (bm 9 511) rfl rfl (one_of HT_.out (by kernel_rfl)) (by decide) (fun K hK=>?_);refine goes_ Tryd.func101 (by kernel_rfl) rfl #[.agg #[.int .i64 ((rd_T61 t168 x7_1).f0.f0),.int .i64 ((rd_T61 t168 x7_1).f0.f1),.int .i64 ((rd_T61 t168 x7_1).f1.f0),.int .i64 ((rd_T61 t168 x7_1).f1.f1)],.agg #[.int .i64 ((rd_T61 t171 x8_2).f0.f0),.int .i64 ((rd_T61 t171 x8_2).f0.f1),.int .i64 ((rd_T61 t171 x8_2).f1.f0),.int .i64 ((rd_T61 t171 x8_2).f1.f1)]] (by rfl) rfl rfl ma_ ?_
           with_reducible refine (spec_l2Meet.calls ((rd_T61 t168 x7_1).f0.f0) ((rd_T61 t168 x7_1).f0.f1) ((rd_T61 t168 x7_1).f1.f0) ((rd_T61 t168 x7_1).f1.f1) ((rd_T61 t171 x8_2).f0.f0) ((rd_T61 t171 x8_2).f0.f1) ((rd_T61 t171 x8_2).f1.f0) ((rd_T61 t171 x8_2).f1.f1) false _ A13.out).mono ?_
           rintro e w20 ⟨rfl,hb⟩;have HS0_:=pw_cell_below hb hHeld.1;have HS1_:=pw_cell_below hb hHeld.2.1;have HS2_:=pw_cell_below hb hHeld.2.2.1;have HS3_:=pw_cell_below hb hHeld.2.2.2.1;have HS4_:=pw_cell_below hb hHeld.2.2.2.2.1;have HS5_:=pw_cell_below hb hHeld.2.2.2.2.2.1;have HS6_:=pw_cell_below hb hHeld.2.2.2.2.2.2.1;have HS7_:=pw_cell_below hb hHeld.2.2.2.2.2.2.2;refine⟨_,rfl,?_⟩;replace HO_5:=rb_ HO_5 hb;replace HO_6:=rb_ HO_6 hb;replace HB:=sb_ HB hb
           (try clear hb)
           (try clear hb2)
           (try clear hk)
           (try clear hi)
           refine hK.out _ _ ⟨HS0_,HS1_,HS2_,HS3_,HS4_,HS5_,HS6_,HS7_⟩ (fun hHeld=>?_);clear hK K;refine no_ (h:=?_);refine done_ (done_of HT_.out (by kernel_rfl)) ?_
           try go_wp2
           go_roundg k2
           case measure=>have:=HK1.out;have:=HK2.out;omega
           case rel=>exact⟨(wrap64 (x8_2+1)),(by first | rfl | (simp;done) | (simp [*];done)),H',⟨by have:=HK1.out;have:=HK2.out;omega⟩,⟨by (with_reducible repeat (first | apply Kd.R_alloc | apply Kd.R_drewN | apply Kd.R_drew));exact HO_5.out⟩,⟨by (with_reducible repeat (first | apply Kd.R_alloc | apply Kd.R_drewN | apply Kd.R_drew));exact HO_6.out⟩,⟨hB_⟩⟩
         ·
          rw [if_neg c12] at H;exact absurd H (by simp)
        ·
         rw [if_neg c11] at H;exact absurd H (by simp)
       ·
        rw [if_neg c10] at H;exact absurd H (by simp)
      ·
       rw [if_neg c9] at H;have c9b0:decide (x8_2<(t171.length:Int))=false:=decide_eq_false c9;clear c9;have H':=Aside0.mk H;clear H;obtain⟨Ao21,co21,eo21⟩:=Kd.R_slice HO_6.out;subst eo21;go_wp2;go_roundg k2
       case measure=>have:=HK1.out;have:=HK2.out;omega
       case rel=>exact⟨(wrap64 (x7_1+1)),(by first | rfl | (simp;done) | (simp [*];done)),H',⟨by have:=HK1.out;have:=HK2.out;omega⟩,⟨by (with_reducible repeat (first | apply Kd.R_alloc | apply Kd.R_drewN | apply Kd.R_drew));exact HO_5.out⟩,⟨by (with_reducible repeat (first | apply Kd.R_alloc | apply Kd.R_drewN | apply Kd.R_drew));exact HO_6.out⟩,⟨hB_⟩⟩
   ·
    rw [if_neg c7] at H;have c7b0:decide (x7_1<(t168.length:Int))=false:=decide_eq_false c7;clear c7;obtain rfl:=Option.some.inj H;obtain⟨Ao22,co22,eo22⟩:=Kd.R_slice HO_5.out;subst eo22;go_wp2;go_ret;exact⟨rr_,hB_⟩
end Go.Proofs.YtkefmnmoaomlhaaDoor.X
end
section
set_option linter.unusedVariables false
set_option linter.unusedSimpArgs false
namespace Go.Proofs.YtkefmnmoaomlhaaDoor.X
open Go.RowKit Go.Proofs.YtkefmnmoaomlhaaDoorW.PrintWords Go.Proofs.YtkefmnmoaomlhaaDoorW.PrintLast Go.Proofs.YtkefmnmoaomlhaaDoorW.PrintMore
open Mort (edges loopOk ptOk segOk has meet ed pairOk joined apartB)
theorem rd_es (z:List S28){i:Nat}(h:i<z.length):rd_T61 (esOf z) (i:Int)=edS z i:=esOf_getD z h
theorem seg_ends {s:S61}(h:segOk (sgP s)=true):ptOk (s.f0.f0,s.f0.f1)=true∧ptOk (s.f1.f0,s.f1.f1)=true:=⟨((Mort.segOk_iff _).1 h).1,((Mort.segOk_iff _).1 h).2.1⟩
theorem sHasS {s:S61}{x y:Int}(h:segOk (sgP s)=true)(hp:ptOk (x,y)=true):spec_l2Has.f s.f0.f0 s.f0.f1 s.f1.f0 s.f1.f1 x y=some (has (sgP s) (x,y)):=sHas (seg_ends h).1 (seg_ends h).2 hp
theorem sMeetS {s t:S61}(h:segOk (sgP s)=true)(h':segOk (sgP t)=true):spec_l2Meet.f s.f0.f0 s.f0.f1 s.f1.f0 s.f1.f1 t.f0.f0 t.f0.f1 t.f1.f0 t.f1.f1=some (meet (sgP s) (sgP t)):=sMeet (seg_ends h).1 (seg_ends h).2 (seg_ends h').1 (seg_ends h').2
theorem succ64 {i:Nat}(h:i≤100000):wrap64 ((i:Int)+1)=((i+1:Nat):Int):=by rw [w64i (by omega) (by omega)];rfl
def rowJ (l:List Mort.Pt)(i j:Nat):Bool:=decide ((j+1) % l.length=i) || !meet (ed l i) (ed l j)
def rowI (l:List Mort.Pt)(i:Nat):Bool:=joined (ed l i) (ed l ((i+1) % l.length)) && (List.range' (i+2) (l.length-(i+2))).all (rowJ l i)
section
variable (z:List S28) (h8:z.length≤8) (hall:∀ i,i<z.length→segOk (sgP (edS z i))=true)
include h8 hall
theorem loop_l2 (i:Nat)(hi:i<z.length)(R:Bool)(K:Nat)(hR:∀ k,K≤k→spec_LoopOk.l1 k (z.length:Int) (esOf z) ((i+1:Nat):Int)=some R):
  ∀ (m j k:Nat),z.length-j=m→j≤10→K+m+1≤k→spec_LoopOk.l2 k (z.length:Int) (esOf z) (i:Int) (j:Int)=some ((List.range' j m).all (rowJ (z.map ptP) i) && R):=by
 intro m
 induction m with
 | zero =>
  intro j k hm hj hk;obtain⟨k,rfl⟩:∃ q,k=q+1:=⟨k-1,by omega⟩;simp only [spec_LoopOk.l2];rw [if_neg (by omega),succ64 (by omega),hR k (by omega)];simp
 | succ m ih =>
  intro j k hm hj hk;obtain⟨k,rfl⟩:∃ q,k=q+1:=⟨k-1,by omega⟩;simp only [spec_LoopOk.l2];rw [if_pos (by omega),if_neg (by omega),succ64 (by omega)];have ht:Int.tmod ((j+1:Nat):Int) (z.length:Int)=(((j+1) % z.length:Nat):Int):=rfl;rw [ht,List.range'_succ,List.all_cons];by_cases hq:(j+1) % z.length=i
  ·
   rw [if_pos (by omega),ih (j+1) k (by omega) (by omega) (by omega)];have:rowJ (z.map ptP) i j=true:=by unfold rowJ;rw [List.length_map,decide_eq_true hq];rfl
   rw [this,Bool.true_and]
  ·
   rw [if_neg (by omega),if_pos (by omega),if_pos (by rw [esOf_len];omega),if_pos (by omega),if_pos (by rw [esOf_len];omega)];rw [rd_es z hi,rd_es z (by omega),sMeetS (hall i hi) (hall j (by omega)),Option.bind_some];have hrow:rowJ (z.map ptP) i j = !meet (sgP (edS z i)) (sgP (edS z j)):=by unfold rowJ;rw [List.length_map,decide_eq_false hq,ed_edS,ed_edS];rfl
   rw [hrow]
   cases hm2:meet (sgP (edS z i)) (sgP (edS z j)) with
   | true=>rw [if_pos rfl];simp
   | false=>rw [if_neg (by decide),ih (j+1) k (by omega) (by omega) (by omega)];simp
theorem loop_l1:∀ (m i k:Nat),z.length-i=m→i≤z.length→m*20+1≤k→spec_LoopOk.l1 k (z.length:Int) (esOf z) (i:Int)=some ((List.range' i m).all (rowI (z.map ptP))):=by
 intro m
 induction m with
 | zero =>
  intro i k hm hi hk;obtain⟨k,rfl⟩:∃ q,k=q+1:=⟨k-1,by omega⟩;simp only [spec_LoopOk.l1];rw [if_neg (by omega)];simp
 | succ m ih =>
  intro i k hm hi hk;obtain⟨k,rfl⟩:∃ q,k=q+2:=⟨k-2,by omega⟩;simp only [spec_LoopOk.l1];have hlt:=Nat.mod_lt (i+1) (show 0<z.length by omega);have ht:Int.tmod ((i+1:Nat):Int) (z.length:Int)=(((i+1) % z.length:Nat):Int):=rfl;rw [if_pos (by omega),if_pos (by omega),if_pos (by rw [esOf_len];omega),if_neg (by omega),succ64 (by omega),ht,if_pos (by omega),if_pos (by rw [esOf_len];omega)];rw [rd_es z (by omega:i<z.length),rd_es z hlt];generalize hq:(i+1) % z.length=q at hlt;have o1:=hall i (by omega);have o2:=hall q hlt;rw [sHasS o1 (seg_ends o2).2,Option.bind_some,sHasS o2 (seg_ends o1).1,Option.bind_some];have hrow:rowI (z.map ptP) i=((!has (sgP (edS z i)) (sgP (edS z q)).2 && !has (sgP (edS z q)) (sgP (edS z i)).1) && (List.range' (i+2) (z.length-(i+2))).all (rowJ (z.map ptP) i)):=by
   unfold rowI joined;rw [List.length_map,hq,ed_edS,ed_edS]
  have e2:(ptP (edS z q).f1)=((edS z q).f1.f0,(edS z q).f1.f1):=rfl;rw [List.range'_succ,List.all_cons,hrow]
  show (if has (sgP (edS z i)) (sgP (edS z q)).2=true then _ else spec_LoopOk.j2 (k+1) _ _ _ (has (sgP (edS z q)) (sgP (edS z i)).1))=_
  cases has (sgP (edS z i)) (sgP (edS z q)).2 with
  | true=>rw [if_pos rfl];simp only [spec_LoopOk.j2];simp
  | false =>
   rw [if_neg (by decide)];simp only [spec_LoopOk.j2]
   cases has (sgP (edS z q)) (sgP (edS z i)).1 with
   | true=>rw [if_pos rfl];simp
   | false =>
    rw [if_neg (by decide)];have hw:wrap64 ((i:Int)+2)=((i+2:Nat):Int):=by rw [w64i (by omega) (by omega)];rfl
    rw [hw,loop_l2 z h8 hall i (by omega) _ (m*20+1) (fun k hk=>ih (i+1) k (by omega) (by omega) hk) (z.length-(i+2)) (i+2) k rfl (by omega) (by omega)];simp
end
theorem loop_l0 (z:List S28)(h8:z.length≤8):∀ (m i k:Nat),z.length-i=m→i≤z.length→m+200≤k→(∀ j,j<i→segOk (sgP (edS z j))=true) →
  spec_LoopOk.l0 k (z.length:Int) (esOf z) (i:Int)=some ((List.range' i m).all (fun j=>segOk (sgP (edS z j))) && (List.range' 0 z.length).all (rowI (z.map ptP))):=by
 intro m
 induction m with
 | zero =>
  intro i k hm hi hk hp;obtain⟨k,rfl⟩:∃ q,k=q+1:=⟨k-1,by omega⟩;simp only [spec_LoopOk.l0];rw [if_neg (by omega),show (0:Int)=((0:Nat):Int) from rfl,loop_l1 z h8 (fun j hj=>hp j (by omega)) z.length 0 k (by omega) (by omega) (by omega)];simp
 | succ m ih =>
  intro i k hm hi hk hp;obtain⟨k,rfl⟩:∃ q,k=q+1:=⟨k-1,by omega⟩;simp only [spec_LoopOk.l0];rw [if_pos (by omega),if_pos (by omega),if_pos (by rw [esOf_len];omega),rd_es z (by omega:i<z.length),sSegOk,Option.bind_some,List.range'_succ,List.all_cons]
  show (if segOk (sgP (edS z i))=true then _ else _)=_
  cases ho:segOk (sgP (edS z i)) with
  | true =>
   rw [if_pos rfl,succ64 (by omega),ih (i+1) k (by omega) (by omega) (by omega) (fun j hj=>by
    by_cases hji:j=i
    ·
     rw [hji];exact ho
    ·
     exact hp j (by omega))]
   simp
  | false=>rw [if_neg (by decide)];simp
theorem rows_pairs (l:List Mort.Pt)(h3:3≤l.length):(List.range' 0 l.length).all (rowI l)=(List.range l.length).all fun i=>(List.range l.length).all fun j=>pairOk l i j:=by
 rw [Bool.eq_iff_iff];simp only [List.all_eq_true,List.mem_range'_1,List.mem_range];constructor
 ·
  intro h i hi j hj;have row:∀ i,i<l.length→joined (ed l i) (ed l ((i+1) % l.length))=true∧∀ j,i+2≤j→j<l.length→rowJ l i j=true:=fun i hi=>by
   have:=h i ⟨by omega,by omega⟩;unfold rowI at this;simp only [Bool.and_eq_true,List.all_eq_true,List.mem_range'_1] at this;exact⟨this.1,fun j h1 h2=>this.2 j ⟨h1,by omega⟩⟩
  unfold pairOk;by_cases h1:j≤i
  ·
   rw [if_pos h1]
  ·
   rw [if_neg h1];by_cases h2:j=i+1
   ·
    rw [if_pos h2];have:=(row i hi).1
    rwa [Nat.mod_eq_of_lt (by omega),← h2] at this
   ·
    rw [if_neg h2];by_cases h4:i=0∧j+1=l.length
    ·
     rw [if_pos h4];have:=(row j hj).1
     rwa [h4.2,Nat.mod_self,← h4.1] at this
    ·
     rw [if_neg h4];have:=(row i hi).2 j (by omega) hj;unfold rowJ at this;have hne:(j+1) % l.length≠i:=by
      intro e;by_cases hj2:j+1<l.length
      ·
       rw [Nat.mod_eq_of_lt hj2] at e;omega
      ·
       have e2:j+1=l.length:=by omega
       rw [e2,Nat.mod_self] at e;exact h4 ⟨e.symm,e2⟩
     rwa [decide_eq_false hne,Bool.false_or] at this
 ·
  intro h i hi;have hi2:i<l.length:=by omega
  unfold rowI;simp only [Bool.and_eq_true,List.all_eq_true,List.mem_range'_1];refine⟨?_,fun j hj=>?_⟩
  ·
   by_cases h1:i+1<l.length
   ·
    have:=h i hi2 (i+1) h1;unfold pairOk at this;rw [if_neg (by omega),if_pos rfl] at this
    rwa [Nat.mod_eq_of_lt h1]
   ·
    have e2:i+1=l.length:=by omega
    have:=h 0 (by omega) i hi2;unfold pairOk at this;rw [if_neg (by omega),if_neg (by omega),if_pos ⟨rfl,e2⟩] at this
    rwa [e2,Nat.mod_self]
  ·
   unfold rowJ;by_cases hq:(j+1) % l.length=i
   ·
    rw [decide_eq_true hq];rfl
   ·
    rw [decide_eq_false hq,Bool.false_or];have:=h i hi2 j (by omega);unfold pairOk at this;rw [if_neg (by omega),if_neg (by omega),if_neg (fun e=>hq (by rw [e.2,Nat.mod_self];exact e.1.symm))] at this;exact this
theorem sLoopOk {k:Nat}(hk:300≤k)(z:List S28):spec_LoopOk.f k z=some (loopOk (z.map ptP)):=by
 unfold spec_LoopOk.f loopOk;rw [l6In_told,Option.bind_some,List.length_map];have e0:(decide (3≤(z.length:Int)) && decide ((z.length:Int)≤8))=(decide (3≤z.length) && decide (z.length≤8)):=by
  congr 1
  ·
   rw [decide_eq_decide];omega
  ·
   rw [decide_eq_decide];omega
 rw [e0];by_cases hn:3≤z.length∧z.length≤8
 ·
  rw [decide_eq_true hn.1,decide_eq_true hn.2,Bool.and_self,if_pos rfl,sEdges (by omega) (by omega),Option.bind_some,Bool.true_and,show (0:Int)=((0:Nat):Int) from rfl,loop_l0 z hn.2 z.length 0 k (by omega) (by omega) (by omega) (fun j hj=>by omega)];have h3:=rows_pairs (z.map ptP) (by rw [List.length_map];exact hn.1);rw [List.length_map] at h3;rw [h3,Mort.edges_eq,List.length_map,List.all_map,List.range_eq_range']
  congr 3
  funext i
  show _=segOk (ed (z.map ptP) i)
  rw [ed_edS]
 ·
  have:(decide (3≤z.length) && decide (z.length≤8))=false:=by
   by_cases h1:3≤z.length
   ·
    rw [decide_eq_false (show ¬ z.length≤8 from fun h2=>hn ⟨h1,h2⟩),Bool.and_false]
   ·
    rw [decide_eq_false h1,Bool.false_and]
  rw [this,if_neg (by decide),Bool.false_and]
theorem ok_facts {z:List S28}(h:loopOk (z.map ptP)=true):3≤z.length∧z.length≤8∧∀ i,i<z.length→segOk (sgP (edS z i))=true:=by
 obtain⟨h1,h2,h3,_⟩:=(Mort.loopOk_iff _).1 h;rw [List.length_map] at h1 h2;refine⟨h1,h2,fun i hi=>?_⟩;have:=h3 _ (Mort.mem_edges.2 ⟨i,by simpa using hi,rfl⟩)
 rwa [ed_edS] at this
theorem apart_l1 (a b:List S28)(ha:loopOk (a.map ptP)=true)(hb:loopOk (b.map ptP)=true)(i:Nat)(hi:i<a.length)(R:Bool)(K:Nat)(hR:∀ k,K≤k→spec_l11Apart.l0 k (esOf a) (esOf b) ((i+1:Nat):Int)=some R):
  ∀ (m j k:Nat),b.length-j=m→j≤b.length→K+m+1≤k→spec_l11Apart.l1 k (esOf a) (esOf b) (i:Int) (j:Int)=some ((List.range' j m).all (fun j => !meet (sgP (edS a i)) (sgP (edS b j))) && R):=by
 obtain⟨a3,a8,aok⟩:=ok_facts ha;obtain⟨b3,b8,bok⟩:=ok_facts hb;intro m
 induction m with
 | zero =>
  intro j k hm hj hk;obtain⟨k,rfl⟩:∃ q,k=q+1:=⟨k-1,by omega⟩;simp only [spec_l11Apart.l1];rw [if_neg (by rw [esOf_len];omega),succ64 (by omega),hR k (by omega)];simp
 | succ m ih =>
  intro j k hm hj hk;obtain⟨k,rfl⟩:∃ q,k=q+1:=⟨k-1,by omega⟩;simp only [spec_l11Apart.l1];rw [if_pos (by rw [esOf_len];omega),if_pos (by omega),if_pos (by rw [esOf_len];omega),if_pos (by omega),rd_es a hi,rd_es b (by omega),sMeetS (aok i hi) (bok j (by omega)),Option.bind_some,List.range'_succ,List.all_cons]
  cases meet (sgP (edS a i)) (sgP (edS b j)) with
  | true=>rw [if_pos rfl];simp
  | false=>rw [if_neg (by decide),succ64 (by omega),ih (j+1) k (by omega) (by omega) (by omega)];simp
theorem apart_l0 (a b:List S28)(ha:loopOk (a.map ptP)=true)(hb:loopOk (b.map ptP)=true):
  ∀ (m i k:Nat),a.length-i=m→i≤a.length→m*20+1≤k→spec_l11Apart.l0 k (esOf a) (esOf b) (i:Int)=some ((List.range' i m).all (fun i=>(List.range' 0 b.length).all (fun j => !meet (sgP (edS a i)) (sgP (edS b j))))):=by
 obtain⟨a3,a8,aok⟩:=ok_facts ha;obtain⟨b3,b8,bok⟩:=ok_facts hb;intro m
 induction m with
 | zero =>
  intro i k hm hi hk;obtain⟨k,rfl⟩:∃ q,k=q+1:=⟨k-1,by omega⟩;simp only [spec_l11Apart.l0];rw [if_neg (by rw [esOf_len];omega)];simp
 | succ m ih =>
  intro i k hm hi hk;obtain⟨k,rfl⟩:∃ q,k=q+1:=⟨k-1,by omega⟩;simp only [spec_l11Apart.l0]
  rw [if_pos (by rw [esOf_len];omega),List.range'_succ,List.all_cons,show (0:Int)=((0:Nat):Int) from rfl,
   apart_l1 a b ha hb i (by omega) _ (m*20+1) (fun k hk=>ih (i+1) k (by omega) (by omega) hk) b.length 0 k (by omega) (by omega) (by omega)]
theorem sApart {k:Nat}(hk:300≤k){a b:List S28}(ha:loopOk (a.map ptP)=true)(hb:loopOk (b.map ptP)=true):spec_l11Apart.f k a b=some (apartB (a.map ptP) (b.map ptP)):=by
 obtain⟨a3,a8,aok⟩:=ok_facts ha;obtain⟨b3,b8,bok⟩:=ok_facts hb;unfold spec_l11Apart.f apartB;rw [sEdges (by omega) (by omega),sEdges (by omega) (by omega),Option.bind_some,Option.bind_some,show (0:Int)=((0:Nat):Int) from rfl,apart_l0 a b ha hb a.length 0 k (by omega) (by omega) (by omega)];rw [Mort.edges_eq (a.map ptP),Mort.edges_eq (b.map ptP),List.length_map,List.length_map,List.all_map,List.range_eq_range']
 congr 2
 funext i
 show _=((List.range b.length).map (ed (b.map ptP))).all _
 rw [List.all_map,List.range_eq_range']
 congr 1
 funext j
 show _ = !meet (ed (a.map ptP) i) (ed (b.map ptP) j)
 rw [ed_edS,ed_edS]
end Go.Proofs.YtkefmnmoaomlhaaDoor.X
end
section
set_option linter.unusedVariables false
set_option linter.unusedSimpArgs false
namespace Go.Proofs.YtkefmnmoaomlhaaDoor.X
open Go.RowKit Go.Shelf Go.Proofs.YtkefmnmoaomlhaaDoorW.PrintWords Go.Proofs.YtkefmnmoaomlhaaDoorW.PrintLast Go.Proofs.YtkefmnmoaomlhaaDoorW.PrintMore
open Mort (edges segMeet)
attribute [local go_sem] Oper.semAt_some
structure RingAt (W:World) (b:Nat) (A:Option Addr) (c:Nat) (zs:List S28) (nx:Option Addr):Prop where
 pts:W.cell? ⟨b,0,none⟩=some (.slice A zs.length c)
 nxt:W.cell? ⟨b,1,none⟩=some (.pointer nx)
 row:Kd.C k28 W A zs.length zs
 cap:zs.length≤c
theorem RingAt.later {W W':World}{b c:Nat}{A nx:Option Addr}{zs:List S28}(h:RingAt W b A c zs nx)(hb:Below W.heap.size W W'):RingAt W' b A c zs nx:=
 ⟨pw_cell_below hb h.pts,pw_cell_below hb h.nxt,Kd.C_below h.row hb,h.cap⟩
theorem RingAt.alloc {W:World}{b c:Nat}{A nx:Option Addr}{zs:List S28}(h:RingAt W b A c zs nx)(o:Obj):RingAt (W.alloc o) b A c zs nx:=h.later (below_alloc (Below.refl _ W) o)
theorem RingAt.lt {W:World}{b c:Nat}{A nx:Option Addr}{zs:List S28}(h:RingAt W b A c zs nx):b<W.heap.size:=World.block_lt_of_cell? W _ h.pts
def meetsB (zs ys:List S28):Bool:=(List.finRange zs.length).any fun i=>(List.finRange ys.length).any fun j=>segMeet (sgP (edS zs i)) (sgP (edS ys j))
set_option maxHeartbeats 4000000 in
set_option maxRecDepth 100000 in
theorem meets_calls (b1 b2:Nat)(A1 A2 n1 n2:Option Addr)(c1 c2:Nat)(zs ys:List S28)(r:Bool)(w:World)(h1:RingAt w b1 A1 c1 zs n1)(h2:RingAt w b2 A2 c2 ys n2)(hl1:0<zs.length∧zs.length≤8)(hl2:0<ys.length∧ys.length≤8)(h:meetsB zs ys=r):
  Calls Tryd.prog 113 #[.pointer (some ⟨b1,0,none⟩),.pointer (some ⟨b2,0,none⟩)] w fun e w'=>e=.returned (.bool r)∧Below w.heap.size w w':=by
 have hR:=Aside0.mk h;clear h;have hu61:=Tryd.underlying61;obtain⟨p1,_,k1,_⟩:=h1;refine (callsIn_wide (n:=9)).1 ?_;refine callsIn_of_wp_marks Tryd.func113 rfl trivial ?_ rfl;simp only [Tryd.ntmps113,List.size_toArray,List.length_cons,List.length_nil,Nat.reduceAdd,Nat.reduceSub,Array.replicate_succ,Array.replicate_zero,List.push_toArray,List.append_toArray,List.nil_append,List.cons_append];have hAb1:=row_lt k1 hl1.1;have hAb2:=row_lt h2.row hl2.1;have q1:((w.alloc (.cells #[.pointer (some ⟨b2,0,none⟩)] 105)).alloc (.cells #[.bool false] 4)).cell? ⟨b1,0,none⟩=some (.slice A1 zs.length c1):=pw_cell_below (below_alloc (below_alloc (Below.refl _ w) _) _) p1;gi_wp2_with (refine⟨trivial,?_⟩;gi_at_call 96;refine (edges_in _ _ _ _ _).mono ?_;rintro e w' ⟨rfl,rfl⟩);have bO:=((Boxed.new w 105 (.pointer (some ⟨b2,0,none⟩))).alloc (.cells #[.bool false] 4)).alloc (.cells #[.slice A1 zs.length c1] 23);have bR:=(Boxed.new (w.alloc (.cells #[.pointer (some ⟨b2,0,none⟩)] 105)) 4 (.bool false)).alloc (.cells #[.slice A1 zs.length c1] 23);have bC:=Boxed.new ((w.alloc (.cells #[.pointer (some ⟨b2,0,none⟩)] 105)).alloc (.cells #[.bool false] 4)) 23 (.slice A1 zs.length c1);simp only [World.size_alloc] at bR bC;have hB0:Below w.heap.size w (((w.alloc (.cells #[.pointer (some ⟨b2,0,none⟩)] 105)).alloc (.cells #[.bool false] 4)).alloc (.cells #[.slice A1 zs.length c1] 23)):=below_alloc (below_alloc (below_alloc (Below.refl _ w) _) _) _;have hsz:(((w.alloc (.cells #[.pointer (some ⟨b2,0,none⟩)] 105)).alloc (.cells #[.bool false] 4)).alloc (.cells #[.slice A1 zs.length c1] 23)).heap.size=w.heap.size+3:=by simp
 obtain⟨W0,hW0⟩:∃ W0,((w.alloc (.cells #[.pointer (some ⟨b2,0,none⟩)] 105)).alloc (.cells #[.bool false] 4)).alloc (.cells #[.slice A1 zs.length c1] 23)=W0:=⟨_,rfl⟩;rw [hW0] at bO bR bC hB0 hsz ⊢
 clear hW0 q1;refine wpIn_rangeFunc_ownH rfl (by omega) (gf:=114) (lb:=#[.pointer (some ⟨w.heap.size+1+1,0,none⟩)]) rfl trivial (enters_of Tryd.func114 (by kernel_rfl) rfl)
  (edges_stops 8 (by omega) (w.heap.size+1+1) w.heap.size A1 c1 zs (by omega) hAb1 W0 (by omega) (by omega) bC.cell (Kd.C_below k1 hB0)) (fun h k=>KpE.trans h k) (fun W l o o' hl _ _ _=>KpE.putObj W l o' (by omega) (by omega)) (Below.refl _ _) (fun _=>rfl)
  (fun pre W=>(((∀ x∈pre,∀ y:Fin ys.length,segMeet (sgP (edS zs (x:Fin zs.length))) (sgP (edS ys y))=false)∧Boxed W (w.heap.size+1) 4 (.bool false))∧Boxed W w.heap.size 105 (.pointer (some ⟨b2,0,none⟩)))∧Below w.heap.size w W)
  (fun c pre W=>((c=.ret∧∃ (x:Fin zs.length) (y:Fin ys.length),segMeet (sgP (edS zs x)) (sgP (edS ys y))=true)∧Boxed W (w.heap.size+1) 4 (.bool true))∧Below w.heap.size w W)
  (OwnFrom.and (OwnFrom.and (OwnFrom.and (ownFrom_pure _ _) (Own.from (boxed_own _ _ _) _)) (Own.from (boxed_own _ _ _) _)) (ownFrom_below (Nat.le_refl _) (by omega)))
  (fun c=>OwnFrom.and (OwnFrom.and (ownFrom_pure _ _) (Own.from (boxed_own _ _ _) _)) (ownFrom_below (Nat.le_refl _) (by omega)))
  ⟨⟨⟨by simp,bR⟩,bO⟩,hB0⟩
  (fun x a' W=>∃ Bx,W.heap[Bx]?=some (segObj (edS zs x))∧a'={ tmps:=#[.pointer (some ⟨b1,0,none⟩),.pointer (some ⟨b2,0,none⟩),undef,.pointer (some ⟨w.heap.size,0,none⟩),.pointer (some ⟨w.heap.size+1,0,none⟩),undef,.pointer (some ⟨Bx,0,none⟩),undef,undef,.pointer (some ⟨b1,0,none⟩),.pointer (some ⟨b1,0,none⟩),.pointer (some ⟨b1,0,none⟩),.slice A1 zs.length c1,.func (.func 114) #[] #[.pointer (some ⟨w.heap.size+1+1,0,none⟩)],.int .i64 ((x:Nat):Int),.agg #[.int .i64 (edS zs x).f0.f0,.int .i64 (edS zs x).f0.f1,.int .i64 (edS zs x).f1.f0,.int .i64 (edS zs x).f1.f1],undef,undef,undef,undef,undef,undef,undef,undef,undef,undef],defers:=[] })
  (fun x a' _ X Y row hs hg hr=>by obtain⟨Bx,e2,e3⟩:=hs;exact⟨Bx,segObj_own Bx (edS zs x) () X Y row e2 hg (fun r e=>(hr r e).2),e3⟩)
  ?assign ?body ?done ?stop
 case assign =>
  rintro l pre x W K ⟨⟨⟨hq,bR1⟩,bO1⟩,hB1⟩ hK;have hBs:=hB1.size;dsimp only [encE,edV];gi_wp2;exact hK _ _ ((KeepsOthers.alloc _ _).from _) (KpE.alloc _ _ _ _) ⟨⟨⟨hq,bR1.alloc _⟩,bO1.alloc _⟩,below_alloc hB1 _⟩ ⟨W.heap.size,World.alloc_heap_new W _,rfl⟩
 case body =>
  rintro l pre x a' W hl ⟨rr,hrr⟩ ⟨⟨⟨hq,bR1⟩,bO1⟩,hB1⟩ ⟨Bx,bX,rfl⟩ hlt;have hO:=h2.later hB1;have cO:=bO1.cell;have p2:=hO.pts;gi_wp2_with (refine⟨trivial,?_⟩;gi_at_call 96;refine (CallsIn.inRound l (edges_in _ _ _ _ _)).mono ?_;rintro e w' ⟨rfl,rfl⟩);clear cO p2;have bN:=Boxed.new W 23 (.slice A2 ys.length c2);have hr':(W.alloc (.cells #[.slice A2 ys.length c2] 23)).heap[l]?=some (.loop rr):=blk_alloc' hrr _;have bR2:=bR1.alloc (.cells #[.slice A2 ys.length c2] 23);have bO2:=bO1.alloc (.cells #[.slice A2 ys.length c2] 23);have bX2:=blk_alloc' bX (.cells #[.slice A2 ys.length c2] 23);have hB2:=below_alloc hB1 (.cells #[.slice A2 ys.length c2] 23);have hE2:=KpE.alloc w.heap.size (w.heap.size+1+1) W (.cells #[.slice A2 ys.length c2] 23);have hF2:=(KeepsOthers.alloc W (.cells #[.slice A2 ys.length c2] 23)).from W0.heap.size;have hsz3:(W.alloc (.cells #[.slice A2 ys.length c2] 23)).heap.size=W.heap.size+1:=by simp
  have hBW:=hB1.size;have hRW:=bR1.lt;obtain⟨W3,hW3⟩:∃ W3,W.alloc (.cells #[.slice A2 ys.length c2] 23)=W3:=⟨_,rfl⟩;rw [hW3] at bN hr' bR2 bO2 bX2 hB2 hE2 hF2 hsz3 ⊢
  clear hW3;obtain⟨Bc,hBc⟩:∃ Bc,W.heap.size=Bc:=⟨_,rfl⟩;rw [hBc] at bN ⊢
  refine wpIn_rangeFunc_ownN (l₀:=l) (r₀:=rr) rfl hr' (by omega) (gf:=114) (lb:=#[.pointer (some ⟨Bc,0,none⟩)]) rfl trivial (enters_of Tryd.func114 (by kernel_rfl) rfl)
   ((edges_stops 6 (by omega) Bc w.heap.size A2 c2 ys (by omega) hAb2 W3 (by omega) (by omega) bN.cell (Kd.C_below h2.row hB2)).inRound l) (fun h k=>KpE.trans h k) (fun W l o o' hl _ _ _=>KpE.putObj W l o' (by omega) (by omega)) (Below.refl _ _) (fun _=>rfl)
   (fun pre' W'=>((((∀ y∈pre',segMeet (sgP (edS zs x)) (sgP (edS ys (y:Fin ys.length)))=false)∧Boxed W' (w.heap.size+1) 4 (.bool false))∧Boxed W' w.heap.size 105 (.pointer (some ⟨b2,0,none⟩)))∧W'.heap[Bx]?=some (segObj (edS zs x)))∧(Below w.heap.size w W'∧KpE w.heap.size (w.heap.size+1+1) W W')∧KeepsFrom W0.heap.size W W')
   (fun c pre' W'=>((c=.ret∧∃ y:Fin ys.length,segMeet (sgP (edS zs x)) (sgP (edS ys y))=true)∧Boxed W' (w.heap.size+1) 4 (.bool true))∧Below w.heap.size w W'∧KeepsFrom W0.heap.size W W')
   (OwnFrom.and (OwnFrom.and (OwnFrom.and (OwnFrom.and (ownFrom_pure _ _) (Own.from (boxed_own _ _ _) _)) (Own.from (boxed_own _ _ _) _)) (Own.from (blk_own _ (fun _=>segObj (edS zs x)) (fun _=>rfl)) _)) (OwnFrom.and (OwnFrom.and (ownFrom_below (Nat.le_refl _) (by omega)) (ownFrom_kpE (by omega))) (ownFrom_keepsFrom (by omega))))
   (fun c=>OwnFrom.and (OwnFrom.and (ownFrom_pure _ _) (Own.from (boxed_own _ _ _) _)) (OwnFrom.and (ownFrom_below (Nat.le_refl _) (by omega)) (ownFrom_keepsFrom (by omega))))
   ⟨⟨⟨⟨by simp,bR2⟩,bO2⟩,bX2⟩,⟨hB2,hE2⟩,hF2⟩
   (fun y a'' W'=>∃ Bt,W'.heap[Bt]?=some (segObj (edS ys y))∧a''={ tmps:=#[.pointer (some ⟨b1,0,none⟩),.pointer (some ⟨b2,0,none⟩),undef,.pointer (some ⟨w.heap.size,0,none⟩),.pointer (some ⟨w.heap.size+1,0,none⟩),undef,.pointer (some ⟨Bx,0,none⟩),undef,.pointer (some ⟨Bt,0,none⟩),.pointer (some ⟨b1,0,none⟩),.pointer (some ⟨b1,0,none⟩),.pointer (some ⟨b1,0,none⟩),.slice A1 zs.length c1,.func (.func 114) #[] #[.pointer (some ⟨w.heap.size+1+1,0,none⟩)],.int .i64 ((x:Nat):Int),.agg #[.int .i64 (edS zs x).f0.f0,.int .i64 (edS zs x).f0.f1,.int .i64 (edS zs x).f1.f0,.int .i64 (edS zs x).f1.f1],.pointer (some ⟨b2,0,none⟩),.pointer (some ⟨b2,0,none⟩),.pointer (some ⟨b2,0,none⟩),.slice A2 ys.length c2,.func (.func 114) #[] #[.pointer (some ⟨Bc,0,none⟩)],.int .i64 ((y:Nat):Int),.agg #[.int .i64 (edS ys y).f0.f0,.int .i64 (edS ys y).f0.f1,.int .i64 (edS ys y).f1.f0,.int .i64 (edS ys y).f1.f1],undef,undef,undef],defers:=[] })
   (fun y a'' _ X Y row hs hg hr=>by obtain⟨Bt,e2,e3⟩:=hs;exact⟨Bt,segObj_own Bt (edS ys y) () X Y row e2 hg (fun r e=>(hr r e).2),e3⟩)
   ?assign2 ?body2 ?done2 ?stop2
  case assign2 =>
   rintro l2 pre' y W' K ⟨⟨⟨⟨hq2,bR⟩,bO⟩,bX⟩,⟨hB,hE⟩,hF⟩ hKK;dsimp only [encE,edV];gi_wp2;exact hKK _ _ ((KeepsOthers.alloc _ _).from _) (KpE.alloc _ _ _ _) ⟨⟨⟨⟨hq2,bR.alloc _⟩,bO.alloc _⟩,blk_alloc' bX _⟩,⟨below_alloc hB _,hE.trans (KpE.alloc _ _ _ _)⟩,hF.trans ((KeepsOthers.alloc _ _).from _)⟩ ⟨W'.heap.size,World.alloc_heap_new W' _,rfl⟩
  case body2 =>
   rintro l2 pre' y a'' W' _ _ ⟨⟨⟨⟨hq2,bR⟩,bO⟩,bX⟩,⟨hB,hE⟩,hF⟩ ⟨Bt,bT,rfl⟩ _;have cX0:W'.cell? ⟨Bx,0,none⟩=some (.int .i64 (edS zs x).f0.f0):=(blk_cell bX 0).trans rfl;have cX1:W'.cell? ⟨Bx,1,none⟩=some (.int .i64 (edS zs x).f0.f1):=(blk_cell bX 1).trans rfl;have cX2:W'.cell? ⟨Bx,2,none⟩=some (.int .i64 (edS zs x).f1.f0):=(blk_cell bX 2).trans rfl;have cX3:W'.cell? ⟨Bx,3,none⟩=some (.int .i64 (edS zs x).f1.f1):=(blk_cell bX 3).trans rfl;have cT0:W'.cell? ⟨Bt,0,none⟩=some (.int .i64 (edS ys y).f0.f0):=(blk_cell bT 0).trans rfl;have cT1:W'.cell? ⟨Bt,1,none⟩=some (.int .i64 (edS ys y).f0.f1):=(blk_cell bT 1).trans rfl;have cT2:W'.cell? ⟨Bt,2,none⟩=some (.int .i64 (edS ys y).f1.f0):=(blk_cell bT 2).trans rfl;have cT3:W'.cell? ⟨Bt,3,none⟩=some (.int .i64 (edS ys y).f1.f1):=(blk_cell bT 3).trans rfl;have HJ:=iSegMeet (k:=3) (by omega) (edS zs x).f0.f0 (edS zs x).f0.f1 (edS zs x).f1.f0 (edS zs x).f1.f1 (edS ys y).f0.f0 (edS ys y).f0.f1 (edS ys y).f1.f0 (edS ys y).f1.f1
   cases hb:segMeet (sgP (edS zs x)) (sgP (edS ys y)) with
   | false =>
    replace HJ:=HJ.trans (congrArg some hb);gi_wp2_with (refine⟨trivial,?_⟩;gi_at_call 112;refine (CallsIn.inRound l2 (callsIn_wide.2 (impl_SegMeet.calls 3 _ _ _ _ _ _ _ _ false _ HJ))).mono ?_;rintro e w1 ⟨rfl,hb1⟩);exact⟨keeps_below hb1,KpE.below hb1,⟨⟨⟨fun z hz=>(List.mem_append.1 hz).elim (hq2 z) (fun e=>by simp at e;subst e;exact hb),box_later bR hb1⟩,box_later bO hb1⟩,blk_later bX hb1⟩,⟨below_row hB (Nat.le_refl _) hb1,hE.trans (KpE.below hb1)⟩,hF.trans (keeps_below hb1)⟩
   | true =>
    replace HJ:=HJ.trans (congrArg some hb);gi_wp2_with (refine⟨trivial,?_⟩;gi_at_call 112;refine (CallsIn.inRound l2 (callsIn_wide.2 (impl_SegMeet.calls 3 _ _ _ _ _ _ _ _ true _ HJ))).mono ?_;rintro e w1 ⟨rfl,hb1⟩;have cR1:=(box_later bR hb1).cell;have fR1:=(box_later bR hb1).frozen);exact⟨(keeps_below hb1).trans ((KeepsOthers.setCell _ _ _).from _),⟨⟨rfl,y,hb⟩,(box_later bR hb1).set _⟩,(below_row hB (Nat.le_refl _) hb1).setCell (p:=⟨w.heap.size+1,0,none⟩) (by simp) _,(hF.trans (keeps_below hb1)).trans ((KeepsOthers.setCell _ _ _).from _)⟩
  case done2 =>
   rintro ys' W' rfl ⟨⟨⟨⟨hq2,bR⟩,bO⟩,bX⟩,⟨hB,hE⟩,hF⟩;gi_wp2;exact⟨hF,hE,⟨⟨fun z hz y=>(List.mem_append.1 hz).elim (fun hm=>hq z hm y) (fun e=>by simp at e;subst e;exact hq2 y (List.mem_finRange _)),bR⟩,bO⟩,hB⟩
  case stop2 =>
   rintro c pre' W' hpre ⟨⟨⟨rfl,y,hy⟩,bR⟩,hB,hF⟩;gi_wp2;exact⟨hF,⟨⟨rfl,x,y,hy⟩,bR⟩,hB⟩
 case stop =>
  rintro D c pre W hD _ ⟨⟨⟨rfl,x,y,hs⟩,bR1⟩,hB1⟩ hK;obtain rfl:r=true:=by
   rw [← hR.out];unfold meetsB;rw [List.any_eq_true];exact⟨x,List.mem_finRange _,List.any_eq_true.2 ⟨y,List.mem_finRange _,hs⟩⟩
  gi_wp2;have hD1:∀ E∈[D],W.heap[E]?=some (.deferred (some [])):=by simpa using hK
  refine leavesM_marks [D] W (by simp) hD1 (fun w' h1 h2 h3 h4 h5=>?_);have hc5:=(marks_boxed bR1 hD1 h1).cell;refine⟨.bool true,?_,rfl,marks_below hB1 (by simp;omega) h1 h2 h3 h4 h5⟩;simp [results,Tryd.f113,go_sem,hc5]
 case done =>
  rintro D ys' W hD rfl ⟨⟨⟨hq,bR1⟩,bO1⟩,hB1⟩ hK;obtain rfl:r=false:=by
   rw [← hR.out];unfold meetsB;rw [List.any_eq_false];intro x _;rw [Bool.not_eq_true,List.any_eq_false];intro y _;rw [Bool.not_eq_true];exact hq x (List.mem_finRange _) y
  have cR:=bR1.cell;have fR:=bR1.frozen;gi_wp2;have hD1:∀ E∈[D],(W.setCell ⟨w.heap.size+1,0,none⟩ (.bool false)).heap[E]?=some (.deferred (some [])):=by
   intro E hE;simp at hE;subst hE;exact blk_set hK rfl bR1 _
  refine leavesM_marks [D] _ (by simp) hD1 (fun w' h1 h2 h3 h4 h5=>?_);have hc5:=(marks_boxed (bR1.set (.bool false)) hD1 h1).cell;refine⟨.bool false,?_,rfl,marks_below (hB1.setCell (p:=⟨w.heap.size+1,0,none⟩) (by simp) _) (by simp;omega) h1 h2 h3 h4 h5⟩;simp [results,Tryd.f113,go_sem,hc5]
end Go.Proofs.YtkefmnmoaomlhaaDoor.X
end
section
set_option linter.unusedVariables false
set_option linter.unusedSimpArgs false
namespace Go.Proofs.YtkefmnmoaomlhaaDoor.X
open Go.RowKit Go.Shelf Go.Proofs.YtkefmnmoaomlhaaDoorW.PrintWords Go.Proofs.YtkefmnmoaomlhaaDoorW.PrintLast Go.Proofs.YtkefmnmoaomlhaaDoorW.PrintMore
open Mort (edges loopOk ed segOk ptOk segHas inOf inRun crsI segTurn cross)
attribute [local go_sem] Oper.semAt_some
def impl_insideOf.f (l0:List S28)(a1_0 a1_1:Int):Option Int:=if loopOk (l0.map ptP)=true∧ptOk (a1_0,a1_1)=true then some (inOf (l0.map ptP) (a1_0,a1_1)) else none
def preE (l0:List S28)(pre:List (Fin l0.length)):List Mort.Seg:=pre.map fun (i:Fin l0.length)=>sgP (edS l0 (i:Nat))
theorem preE_snoc (l0:List S28)(pre:List (Fin l0.length))(x:Fin l0.length):preE l0 (pre++[x])=preE l0 pre++[sgP (edS l0 x)]:=by simp [preE]
theorem preE_all (l0:List S28):preE l0 (List.finRange l0.length)=edges (l0.map ptP):=by
 rw [Mort.edges_eq];unfold preE;apply List.ext_getElem
 ·
  simp
 ·
  intro i h1 h2;simp [ed_edS]
set_option maxHeartbeats 4000000 in
set_option maxRecDepth 100000 in
theorem impl_insideOf.calls (A0:Option Addr)(c0:Nat)(l0:List S28)(a1_0 a1_1:Int)(r:Int)(w:World)(hr0:Kd.C k28 w A0 l0.length l0)(hc0:l0.length≤c0)(h:impl_insideOf.f l0 a1_0 a1_1=some r):
  Calls Tryd.prog 97 #[.slice A0 l0.length c0,.agg #[.int .i64 a1_0,.int .i64 a1_1]] w fun e w'=>e=.returned (.int .i64 r)∧Below w.heap.size w w':=by
 unfold impl_insideOf.f at h
 split at h
 case isFalse=>cases h
 rename_i hok
 obtain⟨hl,hp⟩:=hok;have h:=Option.some.inj h;have hS:=(Mort.loopOk_iff _).1 hl;rw [List.length_map] at hS;obtain⟨hl3,hl8,hsg,_⟩:=hS;have hok:∀ i:Fin l0.length,segOk (sgP (edS l0 i))=true:=fun i=>by rw [← ed_edS];exact hsg _ (Mort.mem_edges.2 ⟨i,by simpa using i.2,rfl⟩)
 have hmem:∀ i:Fin l0.length,sgP (edS l0 i)∈edges (l0.map ptP):=fun i=>by rw [← ed_edS];exact Mort.mem_edges.2 ⟨i,by simpa using i.2,rfl⟩
 clear hsg;have HR:=Aside0.mk h;clear h;have hu61:=Tryd.underlying61;have hu28:=Tryd.underlying28;refine (callsIn_wide (n:=9)).1 ?_;refine callsIn_of_wp_marks Tryd.func97 rfl trivial ?_ rfl;simp only [Tryd.ntmps97,List.size_toArray,List.length_cons,List.length_nil,Nat.reduceAdd,Nat.reduceSub,Array.replicate_succ,Array.replicate_zero,List.push_toArray,List.append_toArray,List.nil_append,List.cons_append];have hAb:=row_lt hr0 (by omega);gi_wp2_with (refine⟨trivial,?_⟩;gi_at_call 96;refine (edges_in _ _ _ _ _).mono ?_;rintro e w' ⟨rfl,rfl⟩);have bP:((((w.alloc (.cells #[.int .i64 a1_0,.int .i64 a1_1] 28)).alloc (.cells #[.int .i64 0] 3)).alloc (.cells #[.int .i64 (-1)] 3)).alloc (.cells #[.slice A0 l0.length c0] 23)).heap[w.heap.size]?=some (.cells #[.int .i64 a1_0,.int .i64 a1_1] 28 (0,0)):=blk_alloc' (blk_alloc' (blk_alloc' (World.alloc_heap_new w _) _) _) _;have bR:=((Boxed.new (w.alloc (.cells #[.int .i64 a1_0,.int .i64 a1_1] 28)) 3 (.int .i64 0)).alloc (.cells #[.int .i64 (-1)] 3)).alloc (.cells #[.slice A0 l0.length c0] 23);have bI:=(Boxed.new ((w.alloc (.cells #[.int .i64 a1_0,.int .i64 a1_1] 28)).alloc (.cells #[.int .i64 0] 3)) 3 (.int .i64 (-1))).alloc (.cells #[.slice A0 l0.length c0] 23);have bC:=Boxed.new (((w.alloc (.cells #[.int .i64 a1_0,.int .i64 a1_1] 28)).alloc (.cells #[.int .i64 0] 3)).alloc (.cells #[.int .i64 (-1)] 3)) 23 (.slice A0 l0.length c0);simp only [World.size_alloc] at bR bI bC;have hB0:Below w.heap.size w ((((w.alloc (.cells #[.int .i64 a1_0,.int .i64 a1_1] 28)).alloc (.cells #[.int .i64 0] 3)).alloc (.cells #[.int .i64 (-1)] 3)).alloc (.cells #[.slice A0 l0.length c0] 23)):=below_alloc (below_alloc (below_alloc (below_alloc (Below.refl _ w) _) _) _) _;have hsz:((((w.alloc (.cells #[.int .i64 a1_0,.int .i64 a1_1] 28)).alloc (.cells #[.int .i64 0] 3)).alloc (.cells #[.int .i64 (-1)] 3)).alloc (.cells #[.slice A0 l0.length c0] 23)).heap.size=w.heap.size+4:=by simp
 obtain⟨W0,hW0⟩:∃ W0,(((w.alloc (.cells #[.int .i64 a1_0,.int .i64 a1_1] 28)).alloc (.cells #[.int .i64 0] 3)).alloc (.cells #[.int .i64 (-1)] 3)).alloc (.cells #[.slice A0 l0.length c0] 23)=W0:=⟨_,rfl⟩;rw [hW0] at bP bR bI bC hB0 hsz ⊢
 clear hW0;refine wpIn_rangeFunc_ownH rfl (by omega) (gf:=114) (lb:=#[.pointer (some ⟨w.heap.size+1+1+1,0,none⟩)]) rfl trivial (enters_of Tryd.func114 (by kernel_rfl) rfl)
  (edges_stops 8 (by omega) (w.heap.size+1+1+1) w.heap.size A0 c0 l0 (by omega) hAb W0 (by omega) (by omega) bC.cell (Kd.C_below hr0 hB0)) (fun h k=>KpE.trans h k) (fun W l o o' hl _ _ _=>KpE.putObj W l o' (by omega) (by omega)) (Below.refl _ _) (fun _=>rfl)
  (fun pre W=>((((∀ x∈pre,Mort.has (sgP (edS l0 (x:Fin l0.length))) (a1_0,a1_1)=false)∧Boxed W (w.heap.size+1) 3 (.int .i64 0))∧Boxed W (w.heap.size+1+1) 3 (.int .i64 (inRun (preE l0 pre) (a1_0,a1_1))))∧W.heap[w.heap.size]?=some (.cells #[.int .i64 a1_0,.int .i64 a1_1] 28 (0,0)))∧Below w.heap.size w W)
  (fun c pre W=>((c=.ret∧∃ x:Fin l0.length,Mort.has (sgP (edS l0 x)) (a1_0,a1_1)=true)∧Boxed W (w.heap.size+1) 3 (.int .i64 0))∧Below w.heap.size w W)
  (OwnFrom.and (OwnFrom.and (OwnFrom.and (OwnFrom.and (ownFrom_pure _ _) (Own.from (boxed_own _ _ _) _)) (Own.from (boxed_own _ _ (fun pre=>.int .i64 (inRun (preE l0 pre) (a1_0,a1_1)))) _)) (Own.from (blk_own _ (fun _=>.cells #[.int .i64 a1_0,.int .i64 a1_1] 28 (0,0)) (fun _=>rfl)) _)) (ownFrom_below (Nat.le_refl _) (by omega)))
  (fun c=>OwnFrom.and (OwnFrom.and (ownFrom_pure _ _) (Own.from (boxed_own _ _ _) _)) (ownFrom_below (Nat.le_refl _) (by omega)))
  ⟨⟨⟨⟨by simp,bR⟩,bI⟩,bP⟩,hB0⟩
  (fun x a' W=>∃ Bx,W.heap[Bx]?=some (segObj (edS l0 x))∧a'={ tmps:=#[.slice A0 l0.length c0,.agg #[.int .i64 a1_0,.int .i64 a1_1],undef,.pointer (some ⟨w.heap.size,0,none⟩),.pointer (some ⟨w.heap.size+1,0,none⟩),.pointer (some ⟨w.heap.size+1+1,0,none⟩),undef,.pointer (some ⟨Bx,0,none⟩),undef,undef,undef,.slice A0 l0.length c0,.func (.func 114) #[] #[.pointer (some ⟨w.heap.size+1+1+1,0,none⟩)],.int .i64 ((x:Nat):Int),.agg #[.int .i64 (edS l0 x).f0.f0,.int .i64 (edS l0 x).f0.f1,.int .i64 (edS l0 x).f1.f0,.int .i64 (edS l0 x).f1.f1],undef,undef,undef,undef,undef,undef,undef,undef,undef,undef,undef,undef,undef,undef,undef,undef,undef,undef,undef,undef,undef,undef,undef,undef,undef,undef,undef,undef,undef,undef,undef,undef,undef,undef,undef,undef,undef,undef,undef,undef,undef,undef,undef,undef,undef,undef,undef,undef,undef,undef,undef,undef],defers:=[] })
  (fun x a' _ X Y row hs hg hr=>by obtain⟨Bx,e2,e3⟩:=hs;exact⟨Bx,segObj_own Bx (edS l0 x) () X Y row e2 hg (fun r e=>(hr r e).2),e3⟩)
  ?assign ?body ?done ?stop
 case assign =>
  rintro l pre x W K ⟨⟨⟨⟨hq,bR1⟩,bI1⟩,bP1⟩,hB1⟩ hK;have hBs:=hB1.size;dsimp only [encE,edV];gi_wp2;exact hK _ _ ((KeepsOthers.alloc _ _).from _) (KpE.alloc _ _ _ _) ⟨⟨⟨⟨hq,bR1.alloc _⟩,bI1.alloc _⟩,blk_alloc' bP1 _⟩,below_alloc hB1 _⟩ ⟨W.heap.size,World.alloc_heap_new W _,rfl⟩
 case body =>
  rintro l pre x a' W hl ⟨rr,hrr⟩ ⟨⟨⟨⟨hq,bR1⟩,bI1⟩,bP1⟩,hB1⟩ ⟨Bx,bX,rfl⟩ hlt;have hsx:=hok x;have hE:=preE_snoc l0 pre x;have hIn:=Mort.inRun_snoc (preE l0 pre) (sgP (edS l0 x)) (a1_0,a1_1);rw [← hE] at hIn;have hvals:inRun (preE l0 pre) (a1_0,a1_1)=1∨inRun (preE l0 pre) (a1_0,a1_1) = -1:=by unfold inRun Mort.sideOf;split <;> simp
  have HX:=Aside0.mk hIn;clear hIn hE;generalize inRun (preE l0 pre) (a1_0,a1_1)=v at *;have hx1:=(Mort.segOk_iff _).1 hsx;have HH:=iSegHas (k:=2) (by omega) (edS l0 x).f0.f0 (edS l0 x).f0.f1 (edS l0 x).f1.f0 (edS l0 x).f1.f1 a1_0 a1_1;have HT:=iSegTurn (k:=2) (by omega) (edS l0 x).f0.f0 (edS l0 x).f0.f1 (edS l0 x).f1.f0 (edS l0 x).f1.f1 a1_0 a1_1;have eH:segHas (sgP (edS l0 x)) (a1_0,a1_1)=Mort.has (sgP (edS l0 x)) (a1_0,a1_1):=by unfold segHas;rw [hsx,hp];rfl
  have eT:segTurn ((edS l0 x).f0.f0,(edS l0 x).f0.f1) ((edS l0 x).f1.f0,(edS l0 x).f1.f1) (a1_0,a1_1)=Mort.sgn (cross (sgP (edS l0 x)).1 (sgP (edS l0 x)).2 (a1_0,a1_1)):=by
   unfold segTurn;rw [show ptOk ((edS l0 x).f0.f0,(edS l0 x).f0.f1)=true from hx1.1,show ptOk ((edS l0 x).f1.f0,(edS l0 x).f1.f1)=true from hx1.2.1,hp];rfl
  replace HH:=HH.trans (congrArg some eH);rw [eT] at HT;clear eH eT;have hmx:=hmem x;have hC:crsI (sgP (edS l0 x)) (a1_0,a1_1)=((decide ((edS l0 x).f0.f1≤a1_1) && (decide (a1_1<(edS l0 x).f1.f1) && decide (0<cross (sgP (edS l0 x)).1 (sgP (edS l0 x)).2 (a1_0,a1_1)))) || (decide ((edS l0 x).f1.f1≤a1_1) && (decide (a1_1<(edS l0 x).f0.f1) && decide (cross (sgP (edS l0 x)).1 (sgP (edS l0 x)).2 (a1_0,a1_1)<0)))):=rfl;have cX0:W.cell? ⟨Bx,0,none⟩=some (.int .i64 (edS l0 x).f0.f0):=(blk_cell bX 0).trans rfl;have cX1:W.cell? ⟨Bx,1,none⟩=some (.int .i64 (edS l0 x).f0.f1):=(blk_cell bX 1).trans rfl;have cX2:W.cell? ⟨Bx,2,none⟩=some (.int .i64 (edS l0 x).f1.f0):=(blk_cell bX 2).trans rfl;have cX3:W.cell? ⟨Bx,3,none⟩=some (.int .i64 (edS l0 x).f1.f1):=(blk_cell bX 3).trans rfl;have cP0:W.cell? ⟨w.heap.size,0,none⟩=some (.int .i64 a1_0):=(blk_cell bP1 0).trans rfl;have cP1:W.cell? ⟨w.heap.size,1,none⟩=some (.int .i64 a1_1):=(blk_cell bP1 1).trans rfl;clear bX;generalize cross (sgP (edS l0 x)).1 (sgP (edS l0 x)).2 (a1_0,a1_1)=cz at *;generalize hsp:sgP (edS l0 x)=sx at *;have hsp':=Aside0.mk hsp;clear hsp hx1;generalize (edS l0 x).f0.f0=ax at *;generalize (edS l0 x).f0.f1=ay at *;generalize (edS l0 x).f1.f0=bx at *;generalize (edS l0 x).f1.f1=by_ at *;have hv1 : -1≤v:=by omega
  have hv2:v≤1:=by omega
  clear hvals;have ht:(0<Mort.sgn cz ↔ 0<cz)∧(Mort.sgn cz<0 ↔ cz<0):=by unfold Mort.sgn;split <;> (try split) <;> omega
  generalize Mort.sgn cz=t at *;have cI:=bI1.cell;have fI:=bI1.frozen;have cR:=bR1.cell;have fR:=bR1.frozen;have later:∀ w1,Below W.heap.size W w1→∀ a y,W.cell? a=some y→w1.cell? a=some y:=fun w1 hb a y h=>pw_cell_below hb h
  cases hh:Mort.has sx (a1_0,a1_1) with
  | true =>
   rw [hh] at HH;gi_wp2_with (refine⟨trivial,?_⟩;gi_at_call 115;refine (CallsIn.inRound l (callsIn_wide.2 (impl_SegHas.calls 2 _ _ _ _ _ _ true _ HH))).mono ?_;rintro e w1 ⟨rfl,hb⟩;have cR1:=(box_later bR1 hb).cell;have fR1:=(box_later bR1 hb).frozen);exact⟨(keeps_below hb).trans ((KeepsOthers.setCell _ _ _).from _),⟨⟨rfl,x,by rw [hsp'.out];exact hh⟩,(box_later bR1 hb).set _⟩,(below_row hB1 (Nat.le_refl _) hb).setCell (p:=⟨w.heap.size+1,0,none⟩) (by simp) _⟩
  | false =>
   rw [hh] at HH;by_cases u1:ay≤a1_1
   ·
    by_cases u2:a1_1<by_
    ·
     by_cases u5:0<t
     ·
      have d1:decide (ay≤a1_1)=true:=decide_eq_true (by omega);have d2:decide (a1_1<by_)=true:=decide_eq_true (by omega);have d3:decide (by_≤a1_1)=false:=decide_eq_false (by omega);have d4:decide (a1_1<ay)=false:=decide_eq_false (by omega);have d5:decide (0<t)=true:=decide_eq_true (by omega);have d5':decide (0<cz)=true:=decide_eq_true (by omega);have hcv:crsI sx (a1_0,a1_1)=true:=by rw [hC,d1,d2,d3,d4,d5'];simp
      clear hC
      gi_wp2_with (first
       | (refine⟨trivial,?_⟩;gi_at_call 115;refine (CallsIn.inRound l (callsIn_wide.2 (impl_SegHas.calls 2 _ _ _ _ _ _ false _ HH))).mono ?_;rintro e w1 ⟨rfl,hb⟩;have dP0:=later _ hb _ _ cP0;have dP1:=later _ hb _ _ cP1;have dX0:=later _ hb _ _ cX0;have dX1:=later _ hb _ _ cX1;have dX2:=later _ hb _ _ cX2;have dX3:=later _ hb _ _ cX3)
       | (refine⟨trivial,?_⟩;gi_at_call 116;refine (CallsIn.inRound l (callsIn_wide.2 (impl_SegTurn.calls 2 _ _ _ _ _ _ t _ HT))).mono ?_;rintro e w2 ⟨rfl,hb2⟩;have cI1:=(box_later (box_later bI1 hb) hb2).cell;have fI1:=(box_later (box_later bI1 hb) hb2).frozen))
      have HV:inRun (preE l0 (pre++[x])) (a1_0,a1_1) = -v:=by rw [HX.out,hcv];rfl
      exact⟨(keeps_below (below_step_ hb hb2)).trans ((KeepsOthers.setCell _ _ _).from _),(KpE.below (below_step_ hb hb2)).trans (KpE.set _ (by simp;omega) (by simp) _),⟨⟨⟨fun z hz=>(List.mem_append.1 hz).elim (hq z) (fun e=>by simp at e;subst e;rw [hsp'.out];exact hh),box_other (box_later bR1 (below_step_ hb hb2)) (by omega) _⟩,by rw [HV];exact (box_later bI1 (below_step_ hb hb2)).set _⟩,blk_other (blk_later bP1 (below_step_ hb hb2)) (by omega) _⟩,(below_row hB1 (Nat.le_refl _) (below_step_ hb hb2)).setCell (p:=⟨w.heap.size+1+1,0,none⟩) (by simp;omega) _⟩
     ·
      have d1:decide (ay≤a1_1)=true:=decide_eq_true (by omega);have d2:decide (a1_1<by_)=true:=decide_eq_true (by omega);have d3:decide (by_≤a1_1)=false:=decide_eq_false (by omega);have d4:decide (a1_1<ay)=false:=decide_eq_false (by omega);have d5:decide (0<t)=false:=decide_eq_false (by omega);have d5':decide (0<cz)=false:=decide_eq_false (by omega);have hcv:crsI sx (a1_0,a1_1)=false:=by rw [hC,d1,d2,d3,d4,d5'];simp
      clear hC
      gi_wp2_with (first
       | (refine⟨trivial,?_⟩;gi_at_call 115;refine (CallsIn.inRound l (callsIn_wide.2 (impl_SegHas.calls 2 _ _ _ _ _ _ false _ HH))).mono ?_;rintro e w1 ⟨rfl,hb⟩;have dP0:=later _ hb _ _ cP0;have dP1:=later _ hb _ _ cP1;have dX0:=later _ hb _ _ cX0;have dX1:=later _ hb _ _ cX1;have dX2:=later _ hb _ _ cX2;have dX3:=later _ hb _ _ cX3)
       | (refine⟨trivial,?_⟩;gi_at_call 116;refine (CallsIn.inRound l (callsIn_wide.2 (impl_SegTurn.calls 2 _ _ _ _ _ _ t _ HT))).mono ?_;rintro e w2 ⟨rfl,hb2⟩;have cI1:=(box_later (box_later bI1 hb) hb2).cell;have fI1:=(box_later (box_later bI1 hb) hb2).frozen))
      have HV:inRun (preE l0 (pre++[x])) (a1_0,a1_1)=v:=by rw [HX.out,hcv];rfl
      exact⟨keeps_below (below_step_ hb hb2),KpE.below (below_step_ hb hb2),⟨⟨⟨fun z hz=>(List.mem_append.1 hz).elim (hq z) (fun e=>by simp at e;subst e;rw [hsp'.out];exact hh),box_later bR1 (below_step_ hb hb2)⟩,by rw [HV];exact box_later bI1 (below_step_ hb hb2)⟩,blk_later bP1 (below_step_ hb hb2)⟩,below_row hB1 (Nat.le_refl _) (below_step_ hb hb2)⟩
    ·
     have d1:decide (ay≤a1_1)=true:=decide_eq_true (by omega);have d2:decide (a1_1<by_)=false:=decide_eq_false (by omega);have d3:decide (by_≤a1_1)=true:=decide_eq_true (by omega);have d4:decide (a1_1<ay)=false:=decide_eq_false (by omega);have hcv:crsI sx (a1_0,a1_1)=false:=by rw [hC,d1,d2,d3,d4];simp
     clear hC
     gi_wp2_with (first
      | (refine⟨trivial,?_⟩;gi_at_call 115;refine (CallsIn.inRound l (callsIn_wide.2 (impl_SegHas.calls 2 _ _ _ _ _ _ false _ HH))).mono ?_;rintro e w1 ⟨rfl,hb⟩;have dP0:=later _ hb _ _ cP0;have dP1:=later _ hb _ _ cP1;have dX0:=later _ hb _ _ cX0;have dX1:=later _ hb _ _ cX1;have dX2:=later _ hb _ _ cX2;have dX3:=later _ hb _ _ cX3)
      | (refine⟨trivial,?_⟩;gi_at_call 116;refine (CallsIn.inRound l (callsIn_wide.2 (impl_SegTurn.calls 2 _ _ _ _ _ _ t _ HT))).mono ?_;rintro e w2 ⟨rfl,hb2⟩;have cI1:=(box_later (box_later bI1 hb) hb2).cell;have fI1:=(box_later (box_later bI1 hb) hb2).frozen))
     have HV:inRun (preE l0 (pre++[x])) (a1_0,a1_1)=v:=by rw [HX.out,hcv];rfl
     exact⟨keeps_below (below_step_ hb hb2),KpE.below (below_step_ hb hb2),⟨⟨⟨fun z hz=>(List.mem_append.1 hz).elim (hq z) (fun e=>by simp at e;subst e;rw [hsp'.out];exact hh),box_later bR1 (below_step_ hb hb2)⟩,by rw [HV];exact box_later bI1 (below_step_ hb hb2)⟩,blk_later bP1 (below_step_ hb hb2)⟩,below_row hB1 (Nat.le_refl _) (below_step_ hb hb2)⟩
   ·
    by_cases u2:a1_1<by_
    ·
     have d1:decide (ay≤a1_1)=false:=decide_eq_false (by omega);have d2:decide (a1_1<by_)=true:=decide_eq_true (by omega);have d3:decide (by_≤a1_1)=false:=decide_eq_false (by omega);have d4:decide (a1_1<ay)=true:=decide_eq_true (by omega);have hcv:crsI sx (a1_0,a1_1)=false:=by rw [hC,d1,d2,d3,d4];simp
     clear hC
     gi_wp2_with (first
      | (refine⟨trivial,?_⟩;gi_at_call 115;refine (CallsIn.inRound l (callsIn_wide.2 (impl_SegHas.calls 2 _ _ _ _ _ _ false _ HH))).mono ?_;rintro e w1 ⟨rfl,hb⟩;have dP0:=later _ hb _ _ cP0;have dP1:=later _ hb _ _ cP1;have dX0:=later _ hb _ _ cX0;have dX1:=later _ hb _ _ cX1;have dX2:=later _ hb _ _ cX2;have dX3:=later _ hb _ _ cX3)
      | (refine⟨trivial,?_⟩;gi_at_call 116;refine (CallsIn.inRound l (callsIn_wide.2 (impl_SegTurn.calls 2 _ _ _ _ _ _ t _ HT))).mono ?_;rintro e w2 ⟨rfl,hb2⟩;have cI1:=(box_later (box_later bI1 hb) hb2).cell;have fI1:=(box_later (box_later bI1 hb) hb2).frozen))
     have HV:inRun (preE l0 (pre++[x])) (a1_0,a1_1)=v:=by rw [HX.out,hcv];rfl
     exact⟨keeps_below (below_step_ hb hb2),KpE.below (below_step_ hb hb2),⟨⟨⟨fun z hz=>(List.mem_append.1 hz).elim (hq z) (fun e=>by simp at e;subst e;rw [hsp'.out];exact hh),box_later bR1 (below_step_ hb hb2)⟩,by rw [HV];exact box_later bI1 (below_step_ hb hb2)⟩,blk_later bP1 (below_step_ hb hb2)⟩,below_row hB1 (Nat.le_refl _) (below_step_ hb hb2)⟩
    ·
     by_cases u5:t<0
     ·
      have d1:decide (ay≤a1_1)=false:=decide_eq_false (by omega);have d2:decide (a1_1<by_)=false:=decide_eq_false (by omega);have d3:decide (by_≤a1_1)=true:=decide_eq_true (by omega);have d4:decide (a1_1<ay)=true:=decide_eq_true (by omega);have d6:decide (t<0)=true:=decide_eq_true (by omega);have d6':decide (cz<0)=true:=decide_eq_true (by omega);have hcv:crsI sx (a1_0,a1_1)=true:=by rw [hC,d1,d2,d3,d4,d6'];simp
      clear hC
      gi_wp2_with (first
       | (refine⟨trivial,?_⟩;gi_at_call 115;refine (CallsIn.inRound l (callsIn_wide.2 (impl_SegHas.calls 2 _ _ _ _ _ _ false _ HH))).mono ?_;rintro e w1 ⟨rfl,hb⟩;have dP0:=later _ hb _ _ cP0;have dP1:=later _ hb _ _ cP1;have dX0:=later _ hb _ _ cX0;have dX1:=later _ hb _ _ cX1;have dX2:=later _ hb _ _ cX2;have dX3:=later _ hb _ _ cX3)
       | (refine⟨trivial,?_⟩;gi_at_call 116;refine (CallsIn.inRound l (callsIn_wide.2 (impl_SegTurn.calls 2 _ _ _ _ _ _ t _ HT))).mono ?_;rintro e w2 ⟨rfl,hb2⟩;have cI1:=(box_later (box_later bI1 hb) hb2).cell;have fI1:=(box_later (box_later bI1 hb) hb2).frozen))
      have HV:inRun (preE l0 (pre++[x])) (a1_0,a1_1) = -v:=by rw [HX.out,hcv];rfl
      exact⟨(keeps_below (below_step_ hb hb2)).trans ((KeepsOthers.setCell _ _ _).from _),(KpE.below (below_step_ hb hb2)).trans (KpE.set _ (by simp;omega) (by simp) _),⟨⟨⟨fun z hz=>(List.mem_append.1 hz).elim (hq z) (fun e=>by simp at e;subst e;rw [hsp'.out];exact hh),box_other (box_later bR1 (below_step_ hb hb2)) (by omega) _⟩,by rw [HV];exact (box_later bI1 (below_step_ hb hb2)).set _⟩,blk_other (blk_later bP1 (below_step_ hb hb2)) (by omega) _⟩,(below_row hB1 (Nat.le_refl _) (below_step_ hb hb2)).setCell (p:=⟨w.heap.size+1+1,0,none⟩) (by simp;omega) _⟩
     ·
      have d1:decide (ay≤a1_1)=false:=decide_eq_false (by omega);have d2:decide (a1_1<by_)=false:=decide_eq_false (by omega);have d3:decide (by_≤a1_1)=true:=decide_eq_true (by omega);have d4:decide (a1_1<ay)=true:=decide_eq_true (by omega);have d6:decide (t<0)=false:=decide_eq_false (by omega);have d6':decide (cz<0)=false:=decide_eq_false (by omega);have hcv:crsI sx (a1_0,a1_1)=false:=by rw [hC,d1,d2,d3,d4,d6'];simp
      clear hC
      gi_wp2_with (first
       | (refine⟨trivial,?_⟩;gi_at_call 115;refine (CallsIn.inRound l (callsIn_wide.2 (impl_SegHas.calls 2 _ _ _ _ _ _ false _ HH))).mono ?_;rintro e w1 ⟨rfl,hb⟩;have dP0:=later _ hb _ _ cP0;have dP1:=later _ hb _ _ cP1;have dX0:=later _ hb _ _ cX0;have dX1:=later _ hb _ _ cX1;have dX2:=later _ hb _ _ cX2;have dX3:=later _ hb _ _ cX3)
       | (refine⟨trivial,?_⟩;gi_at_call 116;refine (CallsIn.inRound l (callsIn_wide.2 (impl_SegTurn.calls 2 _ _ _ _ _ _ t _ HT))).mono ?_;rintro e w2 ⟨rfl,hb2⟩;have cI1:=(box_later (box_later bI1 hb) hb2).cell;have fI1:=(box_later (box_later bI1 hb) hb2).frozen))
      have HV:inRun (preE l0 (pre++[x])) (a1_0,a1_1)=v:=by rw [HX.out,hcv];rfl
      exact⟨keeps_below (below_step_ hb hb2),KpE.below (below_step_ hb hb2),⟨⟨⟨fun z hz=>(List.mem_append.1 hz).elim (hq z) (fun e=>by simp at e;subst e;rw [hsp'.out];exact hh),box_later bR1 (below_step_ hb hb2)⟩,by rw [HV];exact box_later bI1 (below_step_ hb hb2)⟩,blk_later bP1 (below_step_ hb hb2)⟩,below_row hB1 (Nat.le_refl _) (below_step_ hb hb2)⟩
 case stop =>
  rintro D c pre W hD _ ⟨⟨⟨rfl,x,hs⟩,bR1⟩,hB1⟩ hK;obtain rfl:r=0:=by rw [← HR.out];exact Mort.inOf_on (hmem x) hs
  gi_wp2;have hD1:∀ E∈[D],W.heap[E]?=some (.deferred (some [])):=by simpa using hK
  refine leavesM_marks [D] W (by simp) hD1 (fun w' h1 h2 h3 h4 h5=>?_);have hc5:=(marks_boxed bR1 hD1 h1).cell;refine⟨.int .i64 0,?_,rfl,marks_below hB1 (by simp;omega) h1 h2 h3 h4 h5⟩;simp [results,Tryd.f97,go_sem,hc5]
 case done =>
  rintro D ys W hD rfl ⟨⟨⟨⟨hq,bR1⟩,bI1⟩,bP1⟩,hB1⟩ hK;have hV:inRun (preE l0 (List.finRange l0.length)) (a1_0,a1_1)=r:=by
   rw [preE_all,Mort.inRun_end,HR.out];intro e he;obtain⟨i,hi,rfl⟩:=Mort.mem_edges.1 he;rw [ed_edS];exact hq ⟨i,by simpa using hi⟩ (List.mem_finRange _)
  rw [hV] at bI1;clear hV;have cI:=bI1.cell;have cR:=bR1.cell;have fR:=bR1.frozen;gi_wp2;have hD1:∀ E∈[D],(W.setCell ⟨w.heap.size+1,0,none⟩ (.int .i64 r)).heap[E]?=some (.deferred (some [])):=by
   intro E hE;simp at hE;subst hE;exact blk_set hK rfl bR1 _
  refine leavesM_marks [D] _ (by simp) hD1 (fun w' h1 h2 h3 h4 h5=>?_);have hc5:=(marks_boxed (bR1.set (.int .i64 r)) hD1 h1).cell;refine⟨.int .i64 r,?_,rfl,marks_below (hB1.setCell (p:=⟨w.heap.size+1,0,none⟩) (by simp) _) (by simp;omega) h1 h2 h3 h4 h5⟩;simp [results,Tryd.f97,go_sem,hc5]
end Go.Proofs.YtkefmnmoaomlhaaDoor.X
end
section
set_option linter.unusedVariables false
set_option linter.unusedSimpArgs false
namespace Go.Proofs.YtkefmnmoaomlhaaDoor.X
open Go.RowKit Go.Shelf Go.Proofs.YtkefmnmoaomlhaaDoorW.PrintWords Go.Proofs.YtkefmnmoaomlhaaDoorW.PrintLast Go.Proofs.YtkefmnmoaomlhaaDoorW.PrintMore
open Mort (edges segMeet loopOk ptOk inOf)
def RingsAt (W:World):Option Addr→List (List S28)→Prop
 | p,[]=>p=none
 | p,zs::rest=>∃ b A c nx,p=some ⟨b,0,none⟩∧RingAt W b A c zs nx∧RingsAt W nx rest
theorem RingsAt.later {W W':World}(hb:Below W.heap.size W W'):∀ {p:Option Addr} {R:List (List S28)},RingsAt W p R→RingsAt W' p R
 | _,[],h=>h
 | _,_::_,⟨b,A,c,nx,e,h,k⟩=>⟨b,A,c,nx,e,h.later hb,RingsAt.later hb k⟩
def Small (R:List (List S28)):Prop:=∀ z∈R,0<z.length∧z.length≤8
def apartAll:List (List S28)→Bool
 | []=>true
 | z::rest=>(rest.all fun y => !meetsB z y) && apartAll rest
set_option maxHeartbeats 4000000 in
set_option maxRecDepth 100000 in
theorem apart_calls (b:Nat)(R:List (List S28))(r:Bool)(w:World)(hR:RingsAt w (some ⟨b,0,none⟩) R)(hS:Small R)(h:apartAll R=r):
  Calls Tryd.prog 94 #[.pointer (some ⟨b,0,none⟩)] w fun e w'=>e=.returned (.bool r)∧Below w.heap.size w w':=by
 have HR:=Aside0.mk h;clear h;go_enter Tryd.func94,Tryd.ntmps94;go_wp2;go_loopg [3] R.length (fun kq v3 wr=>∃ (p:Option Addr) (rest:List (List S28)),v3=.pointer p∧Aside0 (kq=rest.length∧RingsAt wr p rest∧Small rest∧apartAll rest=r∧Below w.heap.size w wr))
 case atStart=>exact⟨_,R,rfl,⟨rfl,hR,hS,HR.out,Below.refl _ _⟩⟩
 case round =>
  obtain⟨p,rest,rfl,H⟩:=hrel;obtain⟨hk,hr,hs,ha,hB⟩:=H.out;clear H
  cases rest with
  | nil =>
   obtain rfl:p=none:=hr;obtain rfl:true=r:=ha;clear HR;have HB:=Aside0.mk hB;clear hB hk;go_wp2;go_ret;exact⟨rfl,HB.out⟩
  | cons z rest =>
   obtain⟨b1,A1,c1,n1,rfl,hz,hrest⟩:=hr;have hn:=hz.nxt;have HZ:=a0_ (And.intro hz (And.intro hrest (And.intro hs (And.intro ha (And.intro hB hk)))));clear hz hrest hs ha hB hk HR;go_wp2;go_loopg [4] rest.length (fun kq v4 w2=>∃ (q:Option Addr) (rest2:List (List S28)),v4=.pointer q∧Aside0 (kq=rest2.length∧RingsAt w2 q rest2∧Small rest2∧((rest2.all fun y => !meetsB z y) && apartAll rest)=r∧RingAt w2 b1 A1 c1 z n1∧RingsAt w2 n1 rest∧Below w.heap.size w w2))
   case atStart =>
    obtain⟨hz,hrest,hs,ha,hB,hk⟩:=HZ.out;exact⟨n1,rest,rfl,⟨rfl,hrest,fun y hy=>hs y (List.mem_cons_of_mem _ hy),ha,hz,hrest,hB⟩⟩
   case round =>
    obtain⟨q,rest2,rfl,H⟩:=hrel;obtain⟨hk2,hr2,hs2,ha2,hz2,hrest2,hB2⟩:=H.out;clear H hn
    cases rest2 with
    | nil =>
     obtain rfl:q=none:=hr2;simp only [List.all_nil,Bool.true_and] at ha2;have hn2:=hz2.nxt;obtain⟨_,_,hs,_,_,hk⟩:=HZ.out;have HZ2:=a0_ (And.intro hrest2 (And.intro (show Small rest from fun y hy=>hs y (List.mem_cons_of_mem _ hy)) (And.intro ha2 (And.intro hB2 hk))));clear hz2 hrest2 ha2 hB2 hk2 hs2 hs hk HZ;go_wp2;obtain⟨h1,h2,h3,h4,h5⟩:=HZ2.out;go_roundg rest.length
     case measure=>rw [h5];simp
     case rel=>exact⟨n1,rest,rfl,⟨rfl,h1,h2,h3,h4⟩⟩
    | cons y rest2 =>
     obtain⟨b2,A2,c2,n2,rfl,hy,hrr⟩:=hr2;obtain⟨_,_,hs,_,_,_⟩:=HZ.out;have hsz:=hs z List.mem_cons_self;have hsy:=hs2 y List.mem_cons_self;have hny:=hy.nxt
     cases hm:meetsB z y with
     | true =>
      obtain rfl:false=r:=by rw [← ha2];simp [hm]
      have HK:=a0_ (And.intro hz2 (And.intro hy (And.intro hsz (And.intro hsy (And.intro hm hB2)))));clear hz2 hy hsz hsy hm hB2 hk2 hs2 ha2 hrest2 hrr hs HZ;go_wp2_with (go_at_call 113;refine (meets_calls b1 b2 A1 A2 n1 n2 c1 c2 z y true _ HK.out.1 HK.out.2.1 HK.out.2.2.1 HK.out.2.2.2.1 HK.out.2.2.2.2.1).mono ?_;rintro e w3 ⟨rfl,hb⟩);go_ret;exact⟨rfl,below_step HK.out.2.2.2.2.2 hb⟩
     | false =>
      have ha3:((rest2.all fun y => !meetsB z y) && apartAll rest)=r:=by rw [← ha2];simp [hm]
      have HK:=a0_ (And.intro hz2 (And.intro hy (And.intro hsz (And.intro hsy (And.intro hm (And.intro hB2 (And.intro hrr (And.intro (show Small rest2 from fun u hu=>hs2 u (List.mem_cons_of_mem _ hu)) (And.intro ha3 (And.intro hrest2 hk2))))))))));clear hz2 hy hsz hsy hm hB2 hk2 hs2 ha2 ha3 hrest2 hrr hs;go_wp2_with (go_at_call 113;refine (meets_calls b1 b2 A1 A2 n1 n2 c1 c2 z y false _ HK.out.1 HK.out.2.1 HK.out.2.2.1 HK.out.2.2.2.1 HK.out.2.2.2.2.1).mono ?_;rintro e w3 ⟨rfl,hb⟩;have hny3:=pw_cell_below hb hny);obtain⟨k1,k2,k3,k4,k5,k6,k7,k8,k9,k10,k11⟩:=HK.out;go_roundg rest2.length
      case measure=>rw [k11];simp
      case rel=>exact⟨n2,rest2,rfl,⟨rfl,k7.later hb,k8,k9,k1.later hb,k10.later hb,below_step k6 hb⟩⟩
def ptrAt (bs:List Nat)(i:Nat):Option Addr:=(bs[i]?).map fun b=>(⟨b,0,none⟩:Addr)
structure RingsIx (W:World) (bs:List Nat) (H:List (List S28)):Prop where
 len:bs.length=H.length
 nd:bs.Nodup
 ring:∀ i,i<H.length→∃ A c,RingAt W (bs.getD i 0) A c (H.getD i []) (ptrAt bs (i+1))∧W.heap[bs.getD i 0]?=some (.cells #[.slice A (H.getD i []).length c,.pointer (ptrAt bs (i+1))] 107 (0,0))
theorem RingsIx.later {W W':World}{bs:List Nat}{H:List (List S28)}(h:RingsIx W bs H)(hb:Below W.heap.size W W'):RingsIx W' bs H:=
 ⟨h.len,h.nd,fun i hi=>by obtain⟨A,c,k,o⟩:=h.ring i hi;exact⟨A,c,k.later hb,blk_later o hb⟩⟩
theorem ptrAt_some {bs:List Nat}{i:Nat}(h:i<bs.length):ptrAt bs i=some ⟨bs.getD i 0,0,none⟩:=by
 unfold ptrAt;rw [List.getD_eq_getElem?_getD,List.getElem?_eq_getElem h];rfl
theorem ptrAt_none {bs:List Nat}{i:Nat}(h:bs.length≤i):ptrAt bs i=none:=by
 unfold ptrAt;rw [List.getElem?_eq_none h];rfl
theorem RingsIx.at {W:World}{bs:List Nat}{H:List (List S28)}(h:RingsIx W bs H):∀ (n k:Nat),H.length-k=n→RingsAt W (ptrAt bs k) (H.drop k):=by
 intro n
 induction n with
 | zero =>
  intro k hk;have hl:=h.len;rw [List.drop_of_length_le (by omega),ptrAt_none (by omega)];rfl
 | succ n ih =>
  intro k hk;have hl:=h.len;have hlt:k<H.length:=by omega
  rw [ptrAt_some (by omega),List.drop_eq_getElem_cons hlt];obtain⟨A,c,hr,_⟩:=h.ring k hlt;have e:H.getD k []=H[k]:=by rw [List.getD_eq_getElem?_getD,List.getElem?_eq_getElem hlt];rfl
  rw [e] at hr;exact⟨_,A,c,_,rfl,hr,ih (k+1) (by omega)⟩
theorem infoRing:(Tryd.prog.info? 107).map (fun i=>(i.zero,i.size,i.bytes))=some (some (.agg #[.slice none 0 0,.pointer none]),2,32):=by kernel_rfl
theorem neq_same (w:World)(a:Addr):(binOp .neq 105 (.pointer (some a)) (.pointer (some a))).run Tryd.prog w=.ok (.bool false) w:=by
 obtain⟨i0,hi,hz0,hz1,hz2⟩:=info_parts infoRing;have h:∀ d:Nat,(Op.equalIn (d+1) 105 (.pointer (some a)) (.pointer (some a))).run Tryd.prog w=.ok true w:=fun d=>by
  simp [Op.equalIn,run_underlying Tryd.underlying105,sizeOf,typeInfo,hi,run_sameAddr_same]
 simp only [binOp];simp [Op.equal,Op.maxDepth,h 9999]
theorem neq_other (w:World){a b:Nat}{ca cb:Array Value}{ta tb:TypeId}(hne:a≠b)(ha:w.heap[a]?=some (.cells ca ta (0,0)))(hb:w.heap[b]?=some (.cells cb tb (0,0))):
  (binOp .neq 105 (.pointer (some ⟨a,0,none⟩)) (.pointer (some ⟨b,0,none⟩))).run Tryd.prog w=.ok (.bool true) w:=by
 obtain⟨i0,hi,hz0,hz1,hz2⟩:=info_parts infoRing;have h:∀ d:Nat,(Op.equalIn (d+1) 105 (.pointer (some ⟨a,0,none⟩)) (.pointer (some ⟨b,0,none⟩))).run Tryd.prog w=.ok false w:=fun d=>by
  have hs:=run_sameAddr_other (P:=Tryd.prog) w (a:=⟨a,0,none⟩) (b:=⟨b,0,none⟩) (by simpa using hne) ha hb;simp [Op.equalIn,run_underlying Tryd.underlying105,sizeOf,typeInfo,hi,hz1,hs]
 simp only [binOp];simp [Op.equal,Op.maxDepth,h 9999]
structure BodyAt (W:World) (b:Nat) (bs:List Nat) (o:List S28) (H:List (List S28)):Prop where
 outer:∃ A c,RingAt W b A c o (ptrAt bs 0)
 holes:RingsIx W bs H
theorem BodyAt.later {W W':World}{b:Nat}{bs:List Nat}{o:List S28}{H:List (List S28)}(h:BodyAt W b bs o H)(hb:Below W.heap.size W W'):BodyAt W' b bs o H:=
 ⟨by obtain⟨A,c,k⟩:=h.outer;exact⟨A,c,k.later hb⟩,h.holes.later hb⟩
theorem BodyAt.rings {W:World}{b:Nat}{bs:List Nat}{o:List S28}{H:List (List S28)}(h:BodyAt W b bs o H):RingsAt W (some ⟨b,0,none⟩) (o::H):=by
 obtain⟨A,c,k⟩:=h.outer;have:=h.holes.at _ 0 rfl;rw [List.drop_zero] at this;exact⟨b,A,c,_,rfl,k,this⟩
def fstP (z:List S28):Mort.Pt:=ptP (z.getD 0 z28)
def inS (z:List S28)(p:Mort.Pt):Int:=inOf (z.map ptP) p
def okN (H:List (List S28))(i j:Nat):Bool:=i==j || inS (H.getD j []) (fstP (H.getD i [])) == -1
def rowN (o:List S28)(H:List (List S28))(i:Nat):Bool:=inS o (fstP (H.getD i []))==1 && (List.range' 0 H.length).all (okN H i)
def nestedAll (o:List S28)(H:List (List S28)):Bool:=(List.range' 0 H.length).all (rowN o H)
theorem inside_told (b:Nat)(A nx:Option Addr)(c:Nat)(z:List S28)(x y:Int)(w:World)(h:RingAt w b A c z nx)(hz:loopOk (z.map ptP)=true)(hp:ptOk (x,y)=true):
  Calls Tryd.prog 97 #[.slice A z.length c,.agg #[.int .i64 x,.int .i64 y]] w fun e w'=>e=.returned (.int .i64 (inS z (x,y)))∧Below w.heap.size w w':=
 impl_insideOf.calls A c z x y _ w h.row h.cap (by unfold impl_insideOf.f;rw [if_pos ⟨hz,hp⟩];rfl)
set_option maxHeartbeats 4000000 in
set_option maxRecDepth 100000 in
theorem nested_calls (b:Nat)(bs:List Nat)(o:List S28)(H:List (List S28))(r:Bool)(w:World)(hB:BodyAt w b bs o H)(ho:loopOk (o.map ptP)=true)(hH:∀ z∈H,loopOk (z.map ptP)=true)(h:nestedAll o H=r):
  Calls Tryd.prog 95 #[.pointer (some ⟨b,0,none⟩)] w fun e w'=>e=.returned (.bool r)∧Below w.heap.size w w':=by
 have hh:∀ i,i<H.length→loopOk ((H.getD i []).map ptP)=true:=fun i hi=>by
  rw [List.getD_eq_getElem?_getD,List.getElem?_eq_getElem hi];exact hH _ (List.getElem_mem hi)
 have hpos:∀ i,i<H.length→0<(H.getD i []).length:=fun i hi=>by have:=Mort.loop_pos (hh i hi);simpa using this
 have hfst:∀ i,i<H.length→ptOk (fstP (H.getD i []))=true:=fun i hi=>by
  have h1:=((Mort.loopOk_iff _).1 (hh i hi)).2.2.1;have h2:=(Mort.segOk_iff _).1 (h1 _ (Mort.mem_edges.2 ⟨0,by have:=hpos i hi;simpa using this,rfl⟩));rw [ed_edS] at h2;exact h2.1
 clear hH;have hu28:=Tryd.underlying28;have HR:=Aside0.mk h;have HB0:=Aside0.mk hB;obtain⟨A0,c0,hout⟩:=hB.outer;have hn0:=hout.nxt;have hlen:=hB.holes.len;have HH:=a0_ (And.intro ho (And.intro hh (And.intro hpos (And.intro hfst hlen))));clear h hB hout ho hh hpos hfst hlen;go_enter Tryd.func95,Tryd.ntmps95;go_wp2;go_loopg [3] H.length (fun kq v3 wr=>∃ i:Nat,v3=.pointer (ptrAt bs i)∧Aside0 (kq=H.length-i∧i≤H.length∧BodyAt wr b bs o H∧(List.range' i (H.length-i)).all (rowN o H)=r∧Below w.heap.size w wr))
 case atStart=>exact⟨0,rfl,⟨rfl,Nat.zero_le _,HB0.out,HR.out,Below.refl _ _⟩⟩
 case round =>
  obtain⟨i,rfl,H1⟩:=hrel;obtain⟨hk,hi,hB,ha,hBw⟩:=H1.out;obtain⟨ho,hh,hpos,hfst,hlen⟩:=HH.out;clear H1 hn0;by_cases hlt:i<H.length
  ·
   obtain⟨A1,c1,hring,_⟩:=hB.holes.ring i hlt;obtain⟨A2,c2,hout⟩:=hB.outer;have hpi:=ptrAt_some (bs:=bs) (i:=i) (by omega);obtain⟨ad,hA1,hx0,hx1⟩:=at_pt hring.row 0 (hpos i hlt);have hpts:=hring.pts;have hl0:0<(H.getD i []).length:=hpos i hlt;rw [hpi];subst hA1;have p0:wr.cell? ad=some (.int .i64 ((H.getD i []).getD 0 z28).f0):=by have:=hx0;rwa [Nat.zero_mul,show ad.add 0=ad from rfl] at this
   have p1:wr.cell? ⟨ad.block,ad.off+1,none⟩=some (.int .i64 ((H.getD i []).getD 0 z28).f1):=by have:=hx1;rwa [Nat.zero_mul,show ad.add 0=ad from rfl] at this
   clear hx0 hx1;have hf0:ptOk (((H.getD i []).getD 0 z28).f0,((H.getD i []).getD 0 z28).f1)=true:=hfst i hlt;have hF:=a0_ (show fstP (H.getD i [])=(((H.getD i []).getD 0 z28).f0,((H.getD i []).getD 0 z28).f1) from rfl);generalize ((H.getD i []).getD 0 z28).f0=fx at *;generalize ((H.getD i []).getD 0 z28).f1=fy at *;have HK:=a0_ (And.intro hB (And.intro ha (And.intro hBw (And.intro hk (And.intro hring (And.intro hout (And.intro hf0 (And.intro hh ho))))))));have lo:=hout.pts;have bi1:=hring.pts;have bi2:=hring.nxt;clear hB ha hBw hk hring hout hpos hfst hlen hi hpi hf0 hh ho HB0 HR;generalize (H.getD i []).length=lz at *;generalize hbi:bs.getD i 0=bi at *;have hbi':=Aside0.mk hbi;clear hbi;go_wp2;have lo1:=pw_cell_below (below_drew1 (below_alloc (Below.refl _ wr) (.cells #[.int .i64 fx,.int .i64 fy] 28))) lo;have hb0:=below_drew1 (below_alloc (Below.refl wr.heap.size wr) (.cells #[.int .i64 fx,.int .i64 fy] 28));have nb:=World.alloc_heap_new wr (.cells #[.int .i64 fx,.int .i64 fy] 28 (0,0));have f0:((wr.alloc (.cells #[.int .i64 fx,.int .i64 fy] 28)).drew).cell? ⟨wr.heap.size,0,none⟩=some (.int .i64 fx):=(blk_cell nb 0).trans rfl;have f1:((wr.alloc (.cells #[.int .i64 fx,.int .i64 fy] 28)).drew).cell? ⟨wr.heap.size,1,none⟩=some (.int .i64 fy):=(blk_cell nb 1).trans rfl;generalize hg:wr.heap.size=g at *;go_region_held3 (fun W=>W.cell? ⟨b,0,none⟩=some (.slice A2 o.length c2)∧W.cell? ⟨g,0,none⟩=some (.int .i64 fx)∧W.cell? ⟨g,1,none⟩=some (.int .i64 fy))
    (first | exact⟨pw_cell_below hb lo1,pw_cell_below hb f0,pw_cell_below hb f1⟩ | go_keep)
    (first | (go_at_call 97;refine (inside_told b A2 _ c2 o fx fy _ (HK.out.2.2.2.2.2.1.later (hg▸hb0)) HK.out.2.2.2.2.2.2.2.2 HK.out.2.2.2.2.2.2.1).mono ?_;rintro e w3 ⟨rfl,hb⟩))
   have hBd:=HK.out.1.later (hg▸hb0);have hBd3:=hBd.later hb;have hw3:Below w.heap.size w w3:=below_step (below_step HK.out.2.2.1 (hg▸hb0)) hb;have nb3:w3.heap[g]?=some (.cells #[.int .i64 fx,.int .i64 fy] 28 (0,0)):=(hb.block g (Array.getElem?_eq_some_iff.1 nb).1).trans nb;have hall:=HK.out.2.1;obtain⟨m,hm⟩:∃ m,H.length-i=m+1:=⟨H.length-i-1,by omega⟩;rw [hm,List.range'_succ,List.all_cons] at hall;have hrow:rowN o H i=(inS o (fx,fy)==1 && (List.range' 0 H.length).all (okN H i)):=by unfold rowN;rw [hF.out]
   rw [hrow] at hall;have HL:=a0_ (And.intro hall (And.intro hm (And.intro hBd3 (And.intro hw3 (And.intro nb3 HK.out.2.2.2.1)))));have hG:=Aside0.mk hg;clear hall hm hrow hBd hBd3 hw3 nb3 nb hb0 hb lo lo1 f0 f1 bi1 bi2 p0 p1 hg hu28
   cases hin:(inS o (fx,fy)==1) with
   | false =>
    have e1:(inS o (fx,fy) != 1)=true:=by rw [bne,hin];rfl
    obtain rfl:false=r:=by rw [← HL.out.1,hin];rfl
    clear hin;go_wp2;go_ret;exact⟨rfl,HL.out.2.2.2.1⟩
   | true =>
    have e1:(inS o (fx,fy) != 1)=false:=by rw [bne,hin];rfl
    have hall2:((List.range' 0 H.length).all (okN H i) && (List.range' (i+1) m).all (rowN o H))=r:=by rw [← HL.out.1,hin];rfl
    have HA:=Aside0.mk hall2;clear hin hall2;generalize (inS o (fx,fy) != 1)=t30 at e1 ⊢
    subst e1;obtain⟨A3,c3,hout3⟩:=HL.out.2.2.1.outer;have lo2:=hout3.nxt;clear hout3;go_wp2;clear lo2;go_loopg [5] H.length (fun kq v5 w4=>∃ j:Nat,v5=.pointer (ptrAt bs j)∧Aside0 (kq=H.length-j∧j≤H.length∧BodyAt w4 b bs o H∧w4.heap[g]?=some (.cells #[.int .i64 fx,.int .i64 fy] 28 (0,0))∧((List.range' j (H.length-j)).all (okN H i) && (List.range' (i+1) m).all (rowN o H))=r∧Below w.heap.size w w4))
    case atStart=>exact⟨0,rfl,⟨rfl,Nat.zero_le _,HL.out.2.2.1,HL.out.2.2.2.2.1,HA.out,HL.out.2.2.2.1⟩⟩
    case round =>
     obtain⟨j,rfl,H2⟩:=hrel;obtain⟨hkj,hj,hBj,hgj,haj,hwj⟩:=H2.out;have HKJ:=Aside0.mk hkj;clear H2;by_cases hjlt:j<H.length
     ·
      obtain⟨A4,c4,hringj,hoj⟩:=hBj.holes.ring j hjlt;have hl:=hBj.holes.len;have hpj:=ptrAt_some (bs:=bs) (i:=j) (by omega);rw [hpj];obtain⟨m2,hm2⟩:∃ m2,H.length-j=m2+1:=⟨H.length-j-1,by omega⟩;rw [hm2,List.range'_succ,List.all_cons] at haj;by_cases hij:j=i
      ·
       subst hij;rw [hbi'.out];rw [hbi'.out] at hringj;have bj2:=hringj.nxt;have haj2:((List.range' (j+1) m2).all (okN H j) && (List.range' (j+1) m).all (rowN o H))=r:=by rw [← haj];simp [okN]
       have HJ:=a0_ (And.intro haj2 (And.intro hBj (And.intro hgj (And.intro hwj (And.intro hm2 hjlt)))));clear haj haj2 hBj hgj hwj hm2 hjlt hringj hl hpj hkj hj;have hsame:=neq_same;go_wp2;have bj3:wr.drew.cell? ⟨bi,1,none⟩=some (.pointer (ptrAt bs (j+1))):=bj2;go_region;go_wp2;obtain⟨k1,k2,k3,k4,k5,k6⟩:=HJ.out;have hdr:=below_drew1 (Below.refl wr.heap.size wr);go_roundg m2
       case measure=>have:=HKJ.out;omega
       case rel=>exact⟨j+1,rfl,⟨by omega,by omega,k2.later hdr,k3,by rw [show H.length-(j+1)=m2 by omega];exact k1,below_step k4 hdr⟩⟩
      ·
       obtain⟨A5,c5,hringi,hoi⟩:=hBj.holes.ring i hlt;rw [hbi'.out] at hoi;have hbij:bs.getD j 0≠bi:=by
        rw [← hbi'.out,List.getD_eq_getElem?_getD,List.getD_eq_getElem?_getD,List.getElem?_eq_getElem (by omega:j<bs.length),List.getElem?_eq_getElem (by omega:i<bs.length)];intro e;exact hij ((List.getElem_inj hBj.holes.nd).1 (by simpa using e))
       generalize hbj:bs.getD j 0=bj at *;have hbj':=Aside0.mk hbj;clear hbj;have bj1:=hringj.pts;have bj2:=hringj.nxt;have hneq:∀ W:World,W.heap[bj]?=some (.cells #[.slice A4 (H.getD j []).length c4,.pointer (ptrAt bs (j+1))] 107 (0,0))→W.heap[bi]?=some (.cells #[.slice A5 (H.getD i []).length c5,.pointer (ptrAt bs (i+1))] 107 (0,0)) →
         (binOp .neq 105 (.pointer (some ⟨bj,0,none⟩)) (.pointer (some ⟨bi,0,none⟩))).run Tryd.prog W=.ok (.bool true) W:=fun W h1 h2=>neq_other W hbij h1 h2
       have hin2:okN H i j=(inS (H.getD j []) (fx,fy) == -1):=by
        unfold okN;rw [hF.out,show (i==j)=false from beq_false_of_ne (Ne.symm hij)];rfl
       rw [hin2] at haj;have hu28:=Tryd.underlying28;have HJ:=a0_ (And.intro haj (And.intro hBj (And.intro hgj (And.intro hwj (And.intro hm2 (And.intro hjlt (And.intro hringj (And.intro (HK.out.2.2.2.2.2.2.2.1 j hjlt) HK.out.2.2.2.2.2.2.1))))))));clear haj hBj hwj hm2 hjlt hringj hl hpj hkj hj hringi hin2;have fb0:wr.drew.cell? ⟨g,0,none⟩=some (.int .i64 fx):=(blk_cell hgj 0).trans rfl;have fb1:wr.drew.cell? ⟨g,1,none⟩=some (.int .i64 fy):=(blk_cell hgj 1).trans rfl;have bj1':wr.drew.cell? ⟨bj,0,none⟩=some (.slice A4 (H.getD j []).length c4):=bj1;have hoj':wr.drew.heap[bj]?=some (.cells #[.slice A4 (H.getD j []).length c4,.pointer (ptrAt bs (j+1))] 107 (0,0)):=hoj;have hoi':wr.drew.heap[bi]?=some (.cells #[.slice A5 (H.getD i []).length c5,.pointer (ptrAt bs (i+1))] 107 (0,0)):=hoi;clear hgj hoj hoi bj1;generalize H.getD j []=zj at *;generalize H.getD i []=zi at *;have bj2':wr.drew.cell? ⟨bj,1,none⟩=some (.pointer (ptrAt bs (j+1))):=bj2;clear bj2
       cases hin:(inS zj (fx,fy) == -1) with
       | false =>
        have e1:(inS zj (fx,fy) != -1)=true:=by rw [bne,hin];rfl
        obtain rfl:false=r:=by rw [← HJ.out.1,hin];rfl
        clear hin;go_wp2;go_region_held3 (fun W=>W.cell? ⟨g,0,none⟩=some (.int .i64 fx)∧W.cell? ⟨g,1,none⟩=some (.int .i64 fy)∧W.cell? ⟨bj,0,none⟩=some (.slice A4 zj.length c4)∧W.heap[bj]?=some (.cells #[.slice A4 zj.length c4,.pointer (ptrAt bs (j+1))] 107 (0,0))∧W.heap[bi]?=some (.cells #[.slice A5 zi.length c5,.pointer (ptrAt bs (i+1))] 107 (0,0)))
         (first | exact⟨pw_cell_below hb fb0,pw_cell_below hb fb1,pw_cell_below hb bj1',blk_later hoj' hb,blk_later hoi' hb⟩ | go_keep)
         (first | (go_at_call 97;refine (inside_told bj A4 _ c4 zj fx fy _ (HJ.out.2.2.2.2.2.2.1.later (below_drew1 (Below.refl wr.heap.size wr))) HJ.out.2.2.2.2.2.2.2.1 HJ.out.2.2.2.2.2.2.2.2).mono ?_;rintro e w5 ⟨rfl,hb⟩;have bj5:=pw_cell_below hb bj2'))
        go_wp2;go_ret;exact⟨rfl,below_step (below_drew1 HJ.out.2.2.2.1) hb⟩
       | true =>
        have e1:(inS zj (fx,fy) != -1)=false:=by rw [bne,hin];rfl
        have haj2:((List.range' (j+1) m2).all (okN H i) && (List.range' (i+1) m).all (rowN o H))=r:=by rw [← HJ.out.1,hin];rfl
        have HA2:=Aside0.mk haj2;clear hin haj2;go_wp2;go_region_held3 (fun W=>W.cell? ⟨g,0,none⟩=some (.int .i64 fx)∧W.cell? ⟨g,1,none⟩=some (.int .i64 fy)∧W.cell? ⟨bj,0,none⟩=some (.slice A4 zj.length c4)∧W.heap[bj]?=some (.cells #[.slice A4 zj.length c4,.pointer (ptrAt bs (j+1))] 107 (0,0))∧W.heap[bi]?=some (.cells #[.slice A5 zi.length c5,.pointer (ptrAt bs (i+1))] 107 (0,0)))
         (first | exact⟨pw_cell_below hb fb0,pw_cell_below hb fb1,pw_cell_below hb bj1',blk_later hoj' hb,blk_later hoi' hb⟩ | go_keep)
         (first | (go_at_call 97;refine (inside_told bj A4 _ c4 zj fx fy _ (HJ.out.2.2.2.2.2.2.1.later (below_drew1 (Below.refl wr.heap.size wr))) HJ.out.2.2.2.2.2.2.2.1 HJ.out.2.2.2.2.2.2.2.2).mono ?_;rintro e w5 ⟨rfl,hb⟩;have bj5:=pw_cell_below hb bj2'))
        go_wp2;obtain⟨k1,k2,k3,k4,k5,k6,_⟩:=HJ.out;have hdr:=below_drew1 (Below.refl wr.heap.size wr);go_roundg m2
        case measure=>have:=HKJ.out;omega
        case rel=>exact⟨j+1,rfl,⟨by omega,by omega,(k2.later hdr).later hb,(hb.block g (Array.getElem?_eq_some_iff.1 k3).1).trans k3,by rw [show H.length-(j+1)=m2 by omega];exact HA2.out,below_step (below_drew1 k4) hb⟩⟩
     ·
      obtain rfl:j=H.length:=by omega
      have hl:=hBj.holes.len;rw [ptrAt_none (by omega)];rw [Nat.sub_self,List.range'_zero,List.all_nil,Bool.true_and] at haj;obtain⟨A6,c6,hring6,_⟩:=hBj.holes.ring i hlt;rw [hbi'.out] at hring6;have bi6:=hring6.nxt;have HJ:=a0_ (And.intro haj (And.intro hBj hwj));clear haj hBj hwj hring6 hl hkj hj hjlt;go_wp2;obtain⟨k1,k2,k3⟩:=HJ.out;go_roundg m
      case measure=>have:=HL.out.2.1;have:=HL.out.2.2.2.2.2;omega
      case rel=>exact⟨i+1,rfl,⟨by have:=HL.out.2.1;omega,by omega,k2,by rw [show H.length-(i+1)=m by have:=HL.out.2.1;omega];exact k1,k3⟩⟩
  ·
   obtain rfl:i=H.length:=by omega
   rw [Nat.sub_self,List.range'_zero,List.all_nil] at ha;obtain rfl:=ha;rw [ptrAt_none (by omega)];have HW:=Aside0.mk hBw;clear hBw hB hk hi hh hpos hfst HB0 HR HH hlt;go_wp2;go_ret;exact⟨rfl,HW.out⟩
end Go.Proofs.YtkefmnmoaomlhaaDoor.X
end
section
set_option linter.unusedVariables false
set_option linter.unusedSimpArgs false
namespace Go.Proofs.YtkefmnmoaomlhaaDoor.X
open Go.RowKit Go.Shelf Go.Proofs.YtkefmnmoaomlhaaDoorW.PrintWords Go.Proofs.YtkefmnmoaomlhaaDoorW.PrintLast Go.Proofs.YtkefmnmoaomlhaaDoorW.PrintMore
section
variable {l n:Nat} {P:Program} {ops:Array Oper} {Q:Exit→Act→World→Prop}
theorem upon_inRound {o:Oper}{a:Act}{K:Act→World→Prop}{r:Result Next}(h:o.upon P a K Q r):o.uponIn (Fence.wide.inRound l) n P a K Q r:=by
 cases r with
 | ok x w' =>
  cases x with
  | value v=>exact h
  | skip=>exact h
  | defer d=>exact h
  | enter f args=>exact⟨fun hd=>(by cases hd),CallsIn.inRound l (callsIn_wide.2 h)⟩
  | row rw_ args=>exact⟨fun hd=>(by cases hd),fun c cs _=>by obtain⟨v,w1,h1,h2⟩:=h c cs;exact⟨v,w1,h1,stepsIn_wide.2 h2⟩⟩
  | _=>exact h.elim
 | halt x w'=>cases x <;> exact h
theorem wpOps_inRound (hd:∀ (i:Nat) (o:Oper),ops[i]?=some o→∀ c,o.op≠.defer c)(hno:LetsOut Q→False):∀ (is:List Nat) (a:Act) (w:World),wpOps P ops Q is a w→wpOpsIn (Fence.wide.inRound l) n P ops Q is a w:=by
 intro is
 induction is with
 | nil=>exact fun a w h=>h
 | cons i rest ih =>
  intro a w h;simp only [wpOps] at h;simp only [wpOpsIn]
  cases ho:ops[i]? with
  | none=>rw [ho] at h;exact ih a w h
  | some o =>
   rw [ho] at h;simp only at h ⊢
   split at h
   ·
    rename_i hw
    rw [if_pos hw]
    rcases h with h | ⟨_,h⟩
    ·
     refine⟨fun _ _=>trivial,?_⟩;rw [show (Fence.wide.inRound l).round=some l from rfl,Oper.semAt_some l _ o (hd i o ho)];refine upon_inRound ?_;exact Oper.wp_mono (fun a w h=>ih a w h) h
    ·
     exact (hno h).elim
   ·
    rename_i hw
    rw [if_neg hw];exact⟨fun _ _=>trivial,ih _ _ h⟩
theorem region_inRound {id k:Nat}{S:World→Prop}{ds:List Nat}{a:Act}{w:World}(lst:Array Bool)(hm:P.follows .mixedOrders=true)(hn:ops.size=k)(hl:Array.replicate k false=lst)
  (hd:∀ (i:Nat) (o:Oper),ops[i]?=some o→∀ c,o.op≠.defer c) (hno:LetsOut Q→False) (hS:S w.drew) (h:S w.drew→wpAnyLast P .any ops Q S ds k lst a w.drew) :
  (Code.region id ops true).wpIn (Fence.wide.inRound l) n P Q a w:=by
 subst hn;subst hl;refine wpIn_region_draw fun t=>wpOps_inRound hd hno _ _ _ ?_
 simp only [Region.schedule,hm,Bool.true_or,if_true];exact wpAny_sound ops.size t _ a _ (wpAny_of_last _ _ _ _ (h hS))
end
structure Built (w W:World) (n₀ bb:Nat) (bs:List Nat) (A0:Option Addr) (c0:Nat) (o:List S28) (H:List (List S28)) (v:Value):Prop where
 body:W.heap[bb]?=some (.cells #[.slice A0 o.length c0,.pointer (ptrAt bs 0),v] 109 (0,0))
 lo:n₀≤bb
 len:bs.length=H.length
 nd:(bb::bs).Nodup
 ring:∀ j,j<H.length→n₀≤bs.getD j 0∧∃ A c,W.heap[bs.getD j 0]?=some (.cells #[.slice A (H.getD j []).length c,.pointer (ptrAt bs (j+1))] 107 (0,0))∧Kd.C k28 w A (H.getD j []).length (H.getD j [])∧(H.getD j []).length≤c
theorem Built.later {w W W':World}{n₀ bb:Nat}{bs:List Nat}{A0:Option Addr}{c0:Nat}{o:List S28}{H:List (List S28)}{v:Value}(h:Built w W n₀ bb bs A0 c0 o H v)(hb:Below W.heap.size W W'):Built w W' n₀ bb bs A0 c0 o H v:=
 ⟨blk_later h.body hb,h.lo,h.len,h.nd,fun j hj=>by obtain⟨l,A,c,k1,k2,k3⟩:=h.ring j hj;exact⟨l,A,c,blk_later k1 hb,k2,k3⟩⟩
theorem getD_lt {α:Type}{l:List α}{i:Nat}{d:α}(h:i<l.length):l.getD i d=l[i]:=by rw [List.getD_eq_getElem?_getD,List.getElem?_eq_getElem h];rfl
theorem getD_snoc_lt {α:Type}{l:List α}{x d:α}{i:Nat}(h:i<l.length):(l++[x]).getD i d=l.getD i d:=by
 rw [List.getD_eq_getElem?_getD,List.getD_eq_getElem?_getD,List.getElem?_append_left h]
theorem getD_snoc_eq {α:Type}{l:List α}{x d:α}:(l++[x]).getD l.length d=x:=by
 rw [List.getD_eq_getElem?_getD,List.getElem?_append_right (Nat.le_refl _),Nat.sub_self];rfl
theorem ptrAt_snoc_lt {bs:List Nat}{q i:Nat}(h:i<bs.length):ptrAt (bs++[q]) i=ptrAt bs i:=by unfold ptrAt;rw [List.getElem?_append_left h]
theorem ptrAt_snoc_eq {bs:List Nat}{q:Nat}:ptrAt (bs++[q]) bs.length=some ⟨q,0,none⟩:=by unfold ptrAt;rw [List.getElem?_append_right (Nat.le_refl _),Nat.sub_self];rfl
def lastOf (bb:Nat)(bs:List Nat):Nat:=(bb::bs).getD bs.length 0
theorem lastOf_pos {bb:Nat}{bs:List Nat}(h:0<bs.length):lastOf bb bs=bs.getD (bs.length-1) 0:=by
 unfold lastOf;obtain⟨m,hm⟩:∃ m,bs.length=m+1:=⟨bs.length-1,by omega⟩;rw [hm];simp
theorem lastOf_snoc (bb q:Nat)(bs:List Nat):lastOf bb (bs++[q])=q:=by
 unfold lastOf;rw [List.length_append,← List.cons_append];exact getD_snoc_eq (l:=bb::bs)
theorem Built.last_cells {w W:World}{n₀ bb:Nat}{bs:List Nat}{A0:Option Addr}{c0:Nat}{o:List S28}{H:List (List S28)}{v:Value}(h:Built w W n₀ bb bs A0 c0 o H v):
  ∃ (y:Value) (cs:List Value) (t:TypeId),W.heap[lastOf bb bs]?=some (.cells (#[y,.pointer none]++cs.toArray) t (0,0))∧n₀≤lastOf bb bs:=by
 cases bs with
 | nil=>exact⟨_,[v],_,h.body,h.lo⟩
 | cons q qs =>
  have hp:0<(q::qs).length:=by simp
  rw [lastOf_pos hp];have hl:=h.len;obtain⟨l,A,c,k1,_⟩:=h.ring ((q::qs).length-1) (by omega);rw [show (q::qs).length-1+1=(q::qs).length by omega,ptrAt_none (Nat.le_refl _)] at k1;exact⟨_,[],_,k1,l⟩
theorem Built.push {w W:World}{n₀ bb:Nat}{bs:List Nat}{A0:Option Addr}{c0:Nat}{o:List S28}{H:List (List S28)}{v:Value}(h:Built w W n₀ bb bs A0 c0 o H v)(A:Option Addr)(c:Nat)(z:List S28)(hz:Kd.C k28 w A z.length z)(hc:z.length≤c)(hn:n₀≤W.heap.size):
  Built w ((W.alloc (.cells #[.slice A z.length c,.pointer none] 107)).setCell ⟨lastOf bb bs,1,none⟩ (.pointer (some ⟨W.heap.size,0,none⟩))) n₀ bb (bs++[W.heap.size]) A0 c0 o (H++[z]) v:=by
 have hl:=h.len;have hnd:=h.nd;have hblt:∀ j,j<H.length→bs.getD j 0<W.heap.size:=fun j hj=>by obtain⟨_,_,_,k1,_⟩:=h.ring j hj;exact (Array.getElem?_eq_some_iff.1 k1).1
 have hbb:bb<W.heap.size:=(Array.getElem?_eq_some_iff.1 h.body).1;have hq:W.heap.size ∉ bb::bs:=by
  intro hm
  rcases List.mem_cons.1 hm with e | hm
  ·
   omega
  ·
   obtain⟨j,hj,e⟩:=List.getElem_of_mem hm;have:=hblt j (by omega);rw [getD_lt hj,e] at this;omega
 have hlast:lastOf bb bs∈bb::bs:=by
  unfold lastOf;rw [getD_lt (by simp)];exact List.getElem_mem _
 have far:∀ k,k≠lastOf bb bs→∀ ob,W.heap[k]?=some ob→((W.alloc (.cells #[.slice A z.length c,.pointer none] 107)).setCell ⟨lastOf bb bs,1,none⟩ (.pointer (some ⟨W.heap.size,0,none⟩))).heap[k]?=some ob:=fun k hk ob hob=>by
  rw [Below.heap_setCell _ _ _ _ hk];exact blk_alloc' hob _
 refine⟨?_,h.lo,by simp [hl],?_,?_⟩
 ·
  cases bs with
  | nil =>
   have:=blk_put (cs:=#[.slice A0 o.length c0,.pointer none,v]) (blk_alloc' h.body (.cells #[.slice A z.length c,.pointer none] 107)) 1 (.pointer (some ⟨W.heap.size,0,none⟩)) rfl;exact this
  | cons q qs =>
   have e:ptrAt (q::qs++[W.heap.size]) 0=ptrAt (q::qs) 0:=ptrAt_snoc_lt (by simp);rw [e];refine far bb ?_ _ h.body;rw [lastOf_pos (by simp)];intro e2;rw [List.nodup_cons] at hnd;refine hnd.1 ?_;rw [e2,getD_lt (by simp)];exact List.getElem_mem _
 ·
  rw [← List.cons_append,List.nodup_append];exact⟨hnd,by simp,fun a ha b hb=>by simp at hb;subst hb;intro e;subst e;exact hq ha⟩
 ·
  intro j hj;rw [List.length_append] at hj;by_cases hlt:j<H.length
  ·
   obtain⟨l,A1,c1,k1,k2,k3⟩:=h.ring j hlt;rw [getD_snoc_lt hlt,getD_snoc_lt (by omega:j<bs.length)];refine⟨l,A1,c1,?_,k2,k3⟩;by_cases he:j+1=H.length
   ·
    have e1:lastOf bb bs=bs.getD j 0:=by rw [lastOf_pos (by omega)];congr 1;omega
    rw [show j+1=bs.length by omega,ptrAt_snoc_eq,e1];rw [show j+1=bs.length by omega,ptrAt_none (Nat.le_refl _)] at k1;exact blk_put (cs:=#[.slice A1 (H.getD j []).length c1,.pointer none]) (blk_alloc' k1 (.cells #[.slice A z.length c,.pointer none] 107)) 1 (.pointer (some ⟨W.heap.size,0,none⟩)) rfl
   ·
    rw [ptrAt_snoc_lt (by omega)];refine far _ ?_ _ k1;rw [lastOf_pos (by omega)];rw [List.nodup_cons] at hnd;rw [getD_lt (by omega),getD_lt (by omega)];intro e;have:=(List.getElem_inj hnd.2).1 e;omega
  ·
   have e:j=H.length:=by simp at hj;omega
   subst e;rw [getD_snoc_eq,← hl,getD_snoc_eq,ptrAt_none (by simp)];refine⟨hn,A,c,?_,hz,hc⟩;rw [Below.heap_setCell _ _ _ _ (by intro e;simp only at e;rw [← e] at hlast;exact hq hlast)];exact World.alloc_heap_new W _
theorem Built.bodyAt {w W:World}{bb:Nat}{bs:List Nat}{A0:Option Addr}{c0:Nat}{o:List S28}{H:List (List S28)}{v:Value}(h:Built w W w.heap.size bb bs A0 c0 o H v)(hb:Below w.heap.size w W)(ho:Kd.C k28 w A0 o.length o)(hc:o.length≤c0):
  BodyAt W bb bs o H:=
 ⟨⟨A0,c0,(blk_cell h.body 0).trans rfl,(blk_cell h.body 1).trans rfl,Kd.C_below ho hb,hc⟩,h.len,(List.nodup_cons.1 h.nd).2,fun j hj=>by
  obtain⟨l,A,c,k1,k2,k3⟩:=h.ring j hj
  exact⟨A,c,⟨(blk_cell k1 0).trans rfl,(blk_cell k1 1).trans rfl,Kd.C_below k2 hb,k3⟩,k1⟩⟩
end Go.Proofs.YtkefmnmoaomlhaaDoor.X
end
section
set_option linter.unusedVariables false
set_option linter.unusedSimpArgs false
namespace Go.Proofs.YtkefmnmoaomlhaaDoor.X
open Go.RowKit Go.Shelf Go.Proofs.YtkefmnmoaomlhaaDoorW.PrintWords Go.Proofs.YtkefmnmoaomlhaaDoorW.PrintLast Go.Proofs.YtkefmnmoaomlhaaDoorW.PrintMore
open Mort (edges loopOk pairOk ed segOk meet joined ptOk segHas segMeet)
attribute [local go_sem] Oper.semAt_some
def impl_LoopOk.f (l0:List S28):Option Bool:=some (loopOk (l0.map ptP))
def pairS (l0:List S28)(i j:Nat):Bool:=
 if j≤i then true else if j=i+1 then !segHas (sgP (edS l0 i)) (ptP (edS l0 j).f1) && !segHas (sgP (edS l0 j)) (ptP (edS l0 i).f0)
 else if i=0∧j+1=l0.length then !segHas (sgP (edS l0 j)) (ptP (edS l0 i).f1) && !segHas (sgP (edS l0 i)) (ptP (edS l0 j).f0) else !segMeet (sgP (edS l0 i)) (sgP (edS l0 j))
theorem iJoined {k:Nat}(hk:2≤k)(a b c d e f g h:Int):impl_joined.f k a b c d e f g h=some (!segHas ((a,b),(c,d)) (g,h) && !segHas ((e,f),(g,h)) (a,b)):=by
 unfold impl_joined.f;simp only [iSegHas (k:=k) (by omega),Option.bind_some];cases segHas ((a,b),(c,d)) (g,h) <;> cases segHas ((e,f),(g,h)) (a,b) <;> rfl
theorem loopOk_S (l0:List S28):loopOk (l0.map ptP)=true ↔ 3≤l0.length∧l0.length≤8∧(∀ i,i<l0.length→segOk (sgP (edS l0 i))=true)∧∀ i j,i<l0.length→j<l0.length→pairS l0 i j=true:=by
 rw [Mort.loopOk_iff,List.length_map];have hE:(∀ e∈edges (l0.map ptP),segOk e=true) ↔ ∀ i,i<l0.length→segOk (sgP (edS l0 i))=true:=by
  constructor
  ·
   intro h i hi;rw [← ed_edS];exact h _ (Mort.mem_edges.2 ⟨i,by simpa using hi,rfl⟩)
  ·
   intro h e he;obtain⟨i,hi,rfl⟩:=Mort.mem_edges.1 he;rw [ed_edS];exact h i (by simpa using hi)
 rw [hE];refine and_congr_right fun h3=>and_congr_right fun h8=>and_congr_right fun hs=>forall_congr' fun i=>forall_congr' fun j=>forall_congr' fun hi=>forall_congr' fun hj=>?_
 unfold pairOk pairS joined;simp only [ed_edS,List.length_map];have oi:=(Mort.segOk_iff _).1 (hs i hi);have oj:=(Mort.segOk_iff _).1 (hs j hj);have e1:∀ p,ptOk p=true→segHas (sgP (edS l0 i)) p=Mort.has (sgP (edS l0 i)) p:=fun p hp=>by unfold segHas;rw [hs i hi,hp];rfl
 have e2:∀ p,ptOk p=true→segHas (sgP (edS l0 j)) p=Mort.has (sgP (edS l0 j)) p:=fun p hp=>by unfold segHas;rw [hs j hj,hp];rfl
 have e3:segMeet (sgP (edS l0 i)) (sgP (edS l0 j))=meet (sgP (edS l0 i)) (sgP (edS l0 j)):=by unfold segMeet;rw [hs i hi,hs j hj];rfl
 rw [e1 (ptP (edS l0 j).f1) oj.2.1,e2 (ptP (edS l0 i).f0) oi.1,e2 (ptP (edS l0 i).f1) oi.2.1,e1 (ptP (edS l0 j).f0) oj.1,e3];exact Iff.rfl
set_option maxHeartbeats 4000000 in
set_option maxRecDepth 100000 in
theorem impl_LoopOk.calls (A0:Option Addr)(c0:Nat)(l0:List S28)(r:Bool)(w:World)(hr0:Kd.C k28 w A0 l0.length l0)(hc0:l0.length≤c0)(h:impl_LoopOk.f l0=some r):
  Calls Tryd.prog 93 #[.slice A0 l0.length c0] w fun e w'=>e=.returned (.bool r)∧Below w.heap.size w w':=by
 have h:=Option.some.inj h;have hS:=loopOk_S l0;rw [h] at hS;have hS':=Aside0.mk hS;clear hS h;have hu61:=Tryd.underlying61;refine (callsIn_wide (n:=9)).1 ?_;refine callsIn_of_wp_marks Tryd.func93 rfl trivial ?_ rfl;simp only [Tryd.ntmps93,List.size_toArray,List.length_cons,List.length_nil,Nat.reduceAdd,Nat.reduceSub,Array.replicate_succ,Array.replicate_zero,List.push_toArray,List.append_toArray,List.nil_append,List.cons_append];by_cases hl3:l0.length<3
 ·
  obtain rfl:r=false:=by
   cases r with
   | false=>rfl
   | true=>have:=(hS'.out.1 rfl).1;omega
  gi_wp2;refine⟨.bool false,?_,rfl,below_alloc (below_alloc (Below.refl _ _) _) _⟩;simp [results,Tryd.f93,go_sem]
 by_cases hl8:8<l0.length
 ·
  obtain rfl:r=false:=by
   cases r with
   | false=>rfl
   | true=>have:=(hS'.out.1 rfl).2.1;omega
  gi_wp2;refine⟨.bool false,?_,rfl,below_alloc (below_alloc (Below.refl _ _) _) _⟩;simp [results,Tryd.f93,go_sem]
 have b1:decide ((l0.length:Int)<3)=false:=decide_eq_false (by omega);have b2:decide (8<(l0.length:Int))=false:=decide_eq_false (by omega);have hAb:=row_lt hr0 (by omega);gi_wp2_with (refine⟨trivial,?_⟩;gi_at_call 96;refine (edges_in _ _ _ _ _).mono ?_;rintro e w' ⟨rfl,rfl⟩);have bL:=((Boxed.new w 23 (.slice A0 l0.length c0)).alloc (.cells #[.bool false] 4)).alloc (.cells #[.slice A0 l0.length c0] 23);have bR:=(Boxed.new (w.alloc (.cells #[.slice A0 l0.length c0] 23)) 4 (.bool false)).alloc (.cells #[.slice A0 l0.length c0] 23);have bC:=Boxed.new ((w.alloc (.cells #[.slice A0 l0.length c0] 23)).alloc (.cells #[.bool false] 4)) 23 (.slice A0 l0.length c0);simp only [World.size_alloc] at bR bC;have hB0:Below w.heap.size w (((w.alloc (.cells #[.slice A0 l0.length c0] 23)).alloc (.cells #[.bool false] 4)).alloc (.cells #[.slice A0 l0.length c0] 23)):=below_alloc (below_alloc (below_alloc (Below.refl _ w) _) _) _;have hsz:(((w.alloc (.cells #[.slice A0 l0.length c0] 23)).alloc (.cells #[.bool false] 4)).alloc (.cells #[.slice A0 l0.length c0] 23)).heap.size=w.heap.size+3:=by simp
 obtain⟨W0,hW0⟩:∃ W0,((w.alloc (.cells #[.slice A0 l0.length c0] 23)).alloc (.cells #[.bool false] 4)).alloc (.cells #[.slice A0 l0.length c0] 23)=W0:=⟨_,rfl⟩;rw [hW0] at bL bR bC hB0 hsz ⊢
 clear hW0;refine wpIn_rangeFunc_ownH rfl (by omega) (gf:=114) (lb:=#[.pointer (some ⟨w.heap.size+1+1,0,none⟩)]) rfl trivial (enters_of Tryd.func114 (by kernel_rfl) rfl)
  (edges_stops 8 (by omega) (w.heap.size+1+1) w.heap.size A0 c0 l0 (by omega) hAb W0 (by omega) (by omega) bC.cell (Kd.C_below hr0 hB0)) (fun h k=>KpE.trans h k) (fun W l o o' hl _ _ _=>KpE.putObj W l o' (by omega) (by omega)) (Below.refl _ _) (fun _=>rfl)
  (fun pre W=>(((∀ x∈pre,segOk (sgP (edS l0 x))=true)∧Boxed W (w.heap.size+1) 4 (.bool false))∧Boxed W w.heap.size 23 (.slice A0 l0.length c0))∧Below w.heap.size w W)
  (fun c pre W=>((c=.ret∧∃ x:Fin l0.length,segOk (sgP (edS l0 x))=false)∧Boxed W (w.heap.size+1) 4 (.bool false))∧Below w.heap.size w W)
  (OwnFrom.and (OwnFrom.and (OwnFrom.and (ownFrom_pure _ _) (Own.from (boxed_own _ _ _) _)) (Own.from (boxed_own _ _ _) _)) (ownFrom_below (Nat.le_refl _) (by omega)))
  (fun c=>OwnFrom.and (OwnFrom.and (ownFrom_pure _ _) (Own.from (boxed_own _ _ _) _)) (ownFrom_below (Nat.le_refl _) (by omega)))
  ⟨⟨⟨by simp,bR⟩,bL⟩,hB0⟩
  (fun x a' W=>∃ Bx,W.heap[Bx]?=some (segObj (edS l0 x))∧a'={ tmps:=#[.slice A0 l0.length c0,.pointer (some ⟨w.heap.size,0,none⟩),.pointer (some ⟨w.heap.size+1,0,none⟩),undef,.pointer (some ⟨Bx,0,none⟩),undef,undef,undef,undef,undef,undef,.slice A0 l0.length c0,.int .i64 (l0.length:Int),.bool false,.bool false,.slice A0 l0.length c0,.int .i64 (l0.length:Int),.bool false,.bool false,.slice A0 l0.length c0,.func (.func 114) #[] #[.pointer (some ⟨w.heap.size+1+1,0,none⟩)],.int .i64 ((x:Nat):Int),.agg #[.int .i64 (edS l0 x).f0.f0,.int .i64 (edS l0 x).f0.f1,.int .i64 (edS l0 x).f1.f0,.int .i64 (edS l0 x).f1.f1],undef,undef,undef,undef,undef,undef,undef,undef,undef,undef,undef,undef,undef,undef,undef,undef,undef,undef,undef,undef,undef,undef,undef,undef,undef,undef,undef,undef,undef,undef,undef,undef,undef,undef,undef,undef,undef,undef,undef,undef,undef,undef,undef],defers:=[] })
  (fun x a' _ X Y row hs hg hr=>by obtain⟨Bx,e2,e3⟩:=hs;exact⟨Bx,segObj_own Bx (edS l0 x) () X Y row e2 hg (fun r e=>(hr r e).2),e3⟩)
  ?assign ?body ?done ?stop
 case assign =>
  rintro l pre x W K ⟨⟨⟨hp,bR1⟩,bL1⟩,hB1⟩ hK;have hWs:=bR1.lt;have hBs:=hB1.size;dsimp only [encE,edV];gi_wp2;refine hK _ _ ((KeepsOthers.alloc _ _).from _) (KpE.alloc _ _ _ _) ⟨⟨⟨hp,bR1.alloc _⟩,bL1.alloc _⟩,below_alloc hB1 _⟩ ⟨W.heap.size,World.alloc_heap_new W _,rfl⟩
 case body =>
  rintro l pre x a' W hl ⟨rr,hrr⟩ ⟨⟨⟨hp,bR1⟩,bL1⟩,hB1⟩ ⟨Bx,bX,rfl⟩ hlt;have cX0:W.cell? ⟨Bx,0,none⟩=some (.int .i64 (edS l0 x).f0.f0):=(blk_cell bX 0).trans rfl;have cX1:W.cell? ⟨Bx,1,none⟩=some (.int .i64 (edS l0 x).f0.f1):=(blk_cell bX 1).trans rfl;have cX2:W.cell? ⟨Bx,2,none⟩=some (.int .i64 (edS l0 x).f1.f0):=(blk_cell bX 2).trans rfl;have cX3:W.cell? ⟨Bx,3,none⟩=some (.int .i64 (edS l0 x).f1.f1):=(blk_cell bX 3).trans rfl;have H:=iSegOk (edS l0 x).f0.f0 (edS l0 x).f0.f1 (edS l0 x).f1.f0 (edS l0 x).f1.f1
  cases hs:segOk (sgP (edS l0 x)) with
  | true =>
   rw [show segOk (((edS l0 x).f0.f0,(edS l0 x).f0.f1),((edS l0 x).f1.f0,(edS l0 x).f1.f1))=true from hs] at H;gi_wp2_with (refine⟨trivial,?_⟩;gi_at_call 77;refine (CallsIn.inRound l (callsIn_wide.2 (impl_SegOk.calls _ _ _ _ true _ H))).mono ?_;rintro e w1 ⟨rfl,hb⟩);exact⟨keeps_below hb,KpE.below hb,⟨⟨fun z hz=>(List.mem_append.1 hz).elim (hp z) (fun e=>by simp at e;subst e;exact hs),box_later bR1 hb⟩,box_later bL1 hb⟩,below_row hB1 (Nat.le_refl _) hb⟩
  | false =>
   rw [show segOk (((edS l0 x).f0.f0,(edS l0 x).f0.f1),((edS l0 x).f1.f0,(edS l0 x).f1.f1))=false from hs] at H;gi_wp2_with (refine⟨trivial,?_⟩;gi_at_call 77;refine (CallsIn.inRound l (callsIn_wide.2 (impl_SegOk.calls _ _ _ _ false _ H))).mono ?_;rintro e w1 ⟨rfl,hb⟩;have cR:=(box_later bR1 hb).cell;have fR:=(box_later bR1 hb).frozen);exact⟨(keeps_below hb).trans ((KeepsOthers.setCell _ _ _).from _),⟨⟨rfl,x,hs⟩,(box_later bR1 hb).set _⟩,(below_row hB1 (Nat.le_refl _) hb).setCell (p:=⟨w.heap.size+1,0,none⟩) (by simp) _⟩
 case stop =>
  rintro D c pre W hD _ ⟨⟨⟨rfl,x,hs⟩,bR1⟩,hB1⟩ hK;obtain rfl:r=false:=by
   cases r with
   | false=>rfl
   | true=>have:=(hS'.out.1 rfl).2.2.1 x x.2;rw [hs] at this;cases this
  gi_wp2;have hD1:∀ E∈[D],W.heap[E]?=some (.deferred (some [])):=by simpa using hK
  refine leavesM_marks [D] W (by simp) hD1 (fun w' h1 h2 h3 h4 h5=>?_);have hc5:=(marks_boxed bR1 hD1 h1).cell;refine⟨.bool false,?_,rfl,marks_below hB1 (by simp;omega) h1 h2 h3 h4 h5⟩;simp [results,Tryd.f93,go_sem,hc5]
 case done =>
  rintro D ys W hD rfl ⟨⟨⟨hp,bR1⟩,bL1⟩,hB1⟩ hK;have hok:∀ i,i<l0.length→segOk (sgP (edS l0 i))=true:=fun i hi=>hp ⟨i,hi⟩ (List.mem_finRange _)
  clear hp;have cL:=bL1.cell;have cL2:=(bL1.alloc (.cells #[.int .i64 ((l0.length:Int)-1)] 3)).cell;gi_wp2_with (refine⟨trivial,?_⟩;gi_at_call 96;refine (edges_in _ _ _ _ _).mono ?_;rintro e w' ⟨rfl,rfl⟩);clear cL cL2;have hWs:=hB1.size;replace bR1:=(bR1.alloc (.cells #[.int .i64 ((l0.length:Int)-1)] 3)).alloc (.cells #[.slice A0 l0.length c0] 23);replace bL1:=(bL1.alloc (.cells #[.int .i64 ((l0.length:Int)-1)] 3)).alloc (.cells #[.slice A0 l0.length c0] 23);have b5:=(Boxed.new W 3 (.int .i64 ((l0.length:Int)-1))).alloc (.cells #[.slice A0 l0.length c0] 23);have bC2:=Boxed.new (W.alloc (.cells #[.int .i64 ((l0.length:Int)-1)] 3)) 23 (.slice A0 l0.length c0);replace hB1:=below_alloc (below_alloc hB1 (.cells #[.int .i64 ((l0.length:Int)-1)] 3)) (.cells #[.slice A0 l0.length c0] 23);have hDW:D<W.heap.size:=(Array.getElem?_eq_some_iff.1 hK).1;replace hK:=blk_alloc' (blk_alloc' hK (.cells #[.int .i64 ((l0.length:Int)-1)] 3)) (.cells #[.slice A0 l0.length c0] 23);have hsz2:((W.alloc (.cells #[.int .i64 ((l0.length:Int)-1)] 3)).alloc (.cells #[.slice A0 l0.length c0] 23)).heap.size=W.heap.size+2:=by simp
  simp only [World.size_alloc] at bC2;obtain⟨W2,hW2⟩:∃ W2,(W.alloc (.cells #[.int .i64 ((l0.length:Int)-1)] 3)).alloc (.cells #[.slice A0 l0.length c0] 23)=W2:=⟨_,rfl⟩;rw [hW2] at bR1 bL1 b5 bC2 hB1 hK hsz2 ⊢
  clear hW2;generalize W.heap.size=B5 at *;have hAC:=Kd.C_below hr0 hB1;refine wpIn_rangeFunc_ownH rfl (by omega) (gf:=114) (lb:=#[.pointer (some ⟨B5+1,0,none⟩)]) rfl trivial (enters_of Tryd.func114 (by kernel_rfl) rfl)
   (edges_stops 8 (by omega) (B5+1) w.heap.size A0 c0 l0 (by omega) hAb W2 (by omega) (by omega) bC2.cell hAC) (fun h k=>KpE.trans h k) (fun W l o o' hl _ _ _=>KpE.putObj W l o' (by omega) (by omega)) (Below.refl _ _) (fun _=>rfl)
   (fun pre W=>(((((∀ x∈pre,∀ j,j<l0.length→pairS l0 (x:Fin l0.length) j=true)∧Boxed W (w.heap.size+1) 4 (.bool false))∧Boxed W w.heap.size 23 (.slice A0 l0.length c0))∧Boxed W B5 3 (.int .i64 ((l0.length:Int)-1)))∧W.heap[D]?=some (.deferred (some [])))∧Below w.heap.size w W)
   (fun c pre W=>(((c=.ret∧∃ i j,i<l0.length∧j<l0.length∧pairS l0 i j=false)∧Boxed W (w.heap.size+1) 4 (.bool false))∧W.heap[D]?=some (.deferred (some [])))∧Below w.heap.size w W)
   (OwnFrom.and (OwnFrom.and (OwnFrom.and (OwnFrom.and (OwnFrom.and (ownFrom_pure _ _) (Own.from (boxed_own _ _ _) _)) (Own.from (boxed_own _ _ _) _)) (Own.from (boxed_own _ _ _) _)) (ownFrom_blk (by omega))) (ownFrom_below (Nat.le_refl _) (by omega)))
   (fun c=>OwnFrom.and (OwnFrom.and (OwnFrom.and (ownFrom_pure _ _) (Own.from (boxed_own _ _ _) _)) (ownFrom_blk (by omega))) (ownFrom_below (Nat.le_refl _) (by omega)))
   ⟨⟨⟨⟨⟨by simp,bR1⟩,bL1⟩,b5⟩,hK⟩,hB1⟩
   (fun x a' W=>∃ Bi Bs,(Boxed W Bi 3 (.int .i64 ((x:Nat):Int))∧W.heap[Bs]?=some (segObj (edS l0 x)))∧a'={ tmps:=#[.slice A0 l0.length c0,.pointer (some ⟨w.heap.size,0,none⟩),.pointer (some ⟨w.heap.size+1,0,none⟩),undef,undef,.pointer (some ⟨B5,0,none⟩),.pointer (some ⟨Bi,0,none⟩),.pointer (some ⟨Bs,0,none⟩),undef,undef,undef,.slice A0 l0.length c0,.int .i64 (l0.length:Int),.bool false,.bool false,.slice A0 l0.length c0,.int .i64 (l0.length:Int),.bool false,.bool false,.slice A0 l0.length c0,.func (.func 114) #[] #[.pointer (some ⟨w.heap.size+1+1,0,none⟩)],undef,undef,undef,undef,undef,.slice A0 l0.length c0,.int .i64 (l0.length:Int),.int .i64 ((l0.length:Int)-1),.slice A0 l0.length c0,.func (.func 114) #[] #[.pointer (some ⟨B5+1,0,none⟩)],.int .i64 ((x:Nat):Int),.agg #[.int .i64 (edS l0 x).f0.f0,.int .i64 (edS l0 x).f0.f1,.int .i64 (edS l0 x).f1.f0,.int .i64 (edS l0 x).f1.f1],undef,undef,undef,undef,undef,undef,undef,undef,undef,undef,undef,undef,undef,undef,undef,undef,undef,undef,undef,undef,undef,undef,undef,undef,undef,undef,undef,undef,undef,undef,undef,undef,undef],defers:=[] })
   (fun x a' _ X Y row hs hg hr=>by obtain⟨Bi,Bs,⟨e1,e2⟩,e3⟩:=hs;exact⟨Bi,Bs,⟨boxed_own Bi 3 (fun (_:Unit)=>Value.int .i64 ((x:Nat):Int)) () X Y row e1 hg (fun r e=>(hr r e).2),segObj_own Bs (edS l0 x) () X Y row e2 hg (fun r e=>(hr r e).2)⟩,e3⟩)
   ?assign2 ?body2 ?done2 ?stop2
  case assign2 =>
   rintro l pre x W K ⟨⟨⟨⟨⟨hp,bR1⟩,bL1⟩,b5⟩,hK⟩,hB1⟩ hKK;dsimp only [encE,edV];gi_wp2;refine hKK _ _ (((KeepsOthers.alloc _ _).from _).trans ((KeepsOthers.alloc _ _).from _)) ((KpE.alloc _ _ _ _).trans (KpE.alloc _ _ _ _)) ⟨⟨⟨⟨⟨hp,(bR1.alloc _).alloc _⟩,(bL1.alloc _).alloc _⟩,(b5.alloc _).alloc _⟩,blk_alloc' (blk_alloc' hK _) _⟩,below_alloc (below_alloc hB1 _) _⟩ ⟨W.heap.size,W.heap.size+1,⟨(Boxed.new W 3 _).alloc _,?_⟩,rfl⟩;have:=World.alloc_heap_new (W.alloc (.cells #[.int .i64 ((x:Nat):Int)] 3)) (segObj (edS l0 x))
   rwa [World.size_alloc] at this
  case body2 =>
   rintro l pre x a' W hl ⟨rr,hrr⟩ ⟨⟨⟨⟨⟨hp,bR1⟩,bL1⟩,b5⟩,hK⟩,hB1⟩ ⟨Bi,Bs,⟨bI,bX⟩,rfl⟩ hlt;have cL:=bL1.cell;gi_wp2_with (refine⟨trivial,?_⟩;gi_at_call 96;refine (CallsIn.inRound l (edges_in _ _ _ _ _)).mono ?_;rintro e w' ⟨rfl,rfl⟩);clear cL;have bN:=Boxed.new W 23 (.slice A0 l0.length c0);have hr':(W.alloc (.cells #[.slice A0 l0.length c0] 23)).heap[l]?=some (.loop rr):=blk_alloc' hrr _;have bR2:=bR1.alloc (.cells #[.slice A0 l0.length c0] 23);have bL2:=bL1.alloc (.cells #[.slice A0 l0.length c0] 23);have b52:=b5.alloc (.cells #[.slice A0 l0.length c0] 23);have bI2:=bI.alloc (.cells #[.slice A0 l0.length c0] 23);have bX2:=blk_alloc' bX (.cells #[.slice A0 l0.length c0] 23);have hK2:=blk_alloc' hK (.cells #[.slice A0 l0.length c0] 23);have hB2:=below_alloc hB1 (.cells #[.slice A0 l0.length c0] 23);have hE2:=KpE.alloc w.heap.size (B5+1) W (.cells #[.slice A0 l0.length c0] 23);have hF2:=(KeepsOthers.alloc W (.cells #[.slice A0 l0.length c0] 23)).from W2.heap.size;have hsz3:(W.alloc (.cells #[.slice A0 l0.length c0] 23)).heap.size=W.heap.size+1:=by simp
   have hBW:=hB1.size;have hRW:=bR1.lt;have hDW2:D<W.heap.size:=(Array.getElem?_eq_some_iff.1 hK).1;obtain⟨W3,hW3⟩:∃ W3,W.alloc (.cells #[.slice A0 l0.length c0] 23)=W3:=⟨_,rfl⟩;rw [hW3] at bN hr' bR2 bL2 b52 bI2 bX2 hK2 hB2 hE2 hF2 hsz3 ⊢
   clear hW3;obtain⟨Bc,hBc⟩:∃ Bc,W.heap.size=Bc:=⟨_,rfl⟩;rw [hBc] at bN ⊢
   refine wpIn_rangeFunc_ownN (l₀:=l) (r₀:=rr) rfl hr' (by omega) (gf:=114) (lb:=#[.pointer (some ⟨Bc,0,none⟩)]) rfl trivial (enters_of Tryd.func114 (by kernel_rfl) rfl)
    ((edges_stops 6 (by omega) Bc w.heap.size A0 c0 l0 (by omega) hAb W3 (by omega) (by omega) bN.cell (Kd.C_below hr0 hB2)).inRound l) (fun h k=>KpE.trans h k) (fun W l o o' hl _ _ _=>KpE.putObj W l o' (by omega) (by omega)) (Below.refl _ _) (fun _=>rfl)
    (fun pre' W'=>(((((((∀ y∈pre',pairS l0 x (y:Fin l0.length)=true)∧Boxed W' (w.heap.size+1) 4 (.bool false))∧Boxed W' w.heap.size 23 (.slice A0 l0.length c0))∧Boxed W' B5 3 (.int .i64 ((l0.length:Int)-1)))∧Boxed W' Bi 3 (.int .i64 ((x:Nat):Int)))∧W'.heap[Bs]?=some (segObj (edS l0 x)))∧W'.heap[D]?=some (.deferred (some [])))∧(Below w.heap.size w W'∧KpE w.heap.size (B5+1) W W')∧KeepsFrom W2.heap.size W W')
    (fun c pre' W'=>(((c=.ret∧∃ y:Fin l0.length,pairS l0 x y=false)∧Boxed W' (w.heap.size+1) 4 (.bool false))∧W'.heap[D]?=some (.deferred (some [])))∧Below w.heap.size w W'∧KeepsFrom W2.heap.size W W')
    (OwnFrom.and (OwnFrom.and (OwnFrom.and (OwnFrom.and (OwnFrom.and (OwnFrom.and (OwnFrom.and (ownFrom_pure _ _) (Own.from (boxed_own _ _ _) _)) (Own.from (boxed_own _ _ _) _)) (Own.from (boxed_own _ _ _) _)) (Own.from (boxed_own _ _ _) _)) (Own.from (blk_own _ (fun _=>segObj (edS l0 x)) (fun _=>rfl)) _)) (ownFrom_blk (by omega))) (OwnFrom.and (OwnFrom.and (ownFrom_below (Nat.le_refl _) (by omega)) (ownFrom_kpE (by omega))) (ownFrom_keepsFrom (by omega))))
    (fun c=>OwnFrom.and (OwnFrom.and (OwnFrom.and (ownFrom_pure _ _) (Own.from (boxed_own _ _ _) _)) (ownFrom_blk (by omega))) (OwnFrom.and (ownFrom_below (Nat.le_refl _) (by omega)) (ownFrom_keepsFrom (by omega))))
    ⟨⟨⟨⟨⟨⟨⟨by simp,bR2⟩,bL2⟩,b52⟩,bI2⟩,bX2⟩,hK2⟩,⟨hB2,hE2⟩,hF2⟩
    (fun y a'' W'=>∃ Bt,W'.heap[Bt]?=some (segObj (edS l0 y))∧a''={ tmps:=#[.slice A0 l0.length c0,.pointer (some ⟨w.heap.size,0,none⟩),.pointer (some ⟨w.heap.size+1,0,none⟩),undef,undef,.pointer (some ⟨B5,0,none⟩),.pointer (some ⟨Bi,0,none⟩),.pointer (some ⟨Bs,0,none⟩),.int .i64 ((y:Nat):Int),.pointer (some ⟨Bt,0,none⟩),undef,.slice A0 l0.length c0,.int .i64 (l0.length:Int),.bool false,.bool false,.slice A0 l0.length c0,.int .i64 (l0.length:Int),.bool false,.bool false,.slice A0 l0.length c0,.func (.func 114) #[] #[.pointer (some ⟨w.heap.size+1+1,0,none⟩)],undef,undef,undef,undef,undef,.slice A0 l0.length c0,.int .i64 (l0.length:Int),.int .i64 ((l0.length:Int)-1),.slice A0 l0.length c0,.func (.func 114) #[] #[.pointer (some ⟨B5+1,0,none⟩)],.int .i64 ((x:Nat):Int),.agg #[.int .i64 (edS l0 x).f0.f0,.int .i64 (edS l0 x).f0.f1,.int .i64 (edS l0 x).f1.f0,.int .i64 (edS l0 x).f1.f1],.slice A0 l0.length c0,.func (.func 114) #[] #[.pointer (some ⟨Bc,0,none⟩)],.int .i64 ((y:Nat):Int),.agg #[.int .i64 (edS l0 y).f0.f0,.int .i64 (edS l0 y).f0.f1,.int .i64 (edS l0 y).f1.f0,.int .i64 (edS l0 y).f1.f1],undef,undef,undef,undef,undef,undef,undef,undef,undef,undef,undef,undef,undef,undef,undef,undef,undef,undef,undef,undef,undef,undef,undef,undef,undef,undef,undef,undef,undef],defers:=[] })
    (fun y a'' _ X Y row hs hg hr=>by obtain⟨Bt,e2,e3⟩:=hs;exact⟨Bt,segObj_own Bt (edS l0 y) () X Y row e2 hg (fun r e=>(hr r e).2),e3⟩)
    ?assign3 ?body3 ?done3 ?stop3
   case assign3 =>
    rintro l2 pre' y W' K ⟨⟨⟨⟨⟨⟨⟨hq,bR⟩,bL⟩,b5⟩,bI⟩,bX⟩,hK⟩,⟨hB,hE⟩,hF⟩ hKK;dsimp only [encE,edV];gi_wp2;exact hKK _ _ ((KeepsOthers.alloc _ _).from _) (KpE.alloc _ _ _ _) ⟨⟨⟨⟨⟨⟨⟨hq,bR.alloc _⟩,bL.alloc _⟩,b5.alloc _⟩,bI.alloc _⟩,blk_alloc' bX _⟩,blk_alloc' hK _⟩,⟨below_alloc hB _,hE.trans (KpE.alloc _ _ _ _)⟩,hF.trans ((KeepsOthers.alloc _ _).from _)⟩ ⟨W'.heap.size,World.alloc_heap_new W' _,rfl⟩
   case body3 =>
    rintro l2 pre' y a'' W' _ _ ⟨⟨⟨⟨⟨⟨⟨hq,bR⟩,bL⟩,b5⟩,bI⟩,bX⟩,hK⟩,⟨hB,hE⟩,hF⟩ ⟨Bt,bT,rfl⟩ _;have hx8:((x:Nat):Int)<8:=by have:=x.2;omega
    have hx0:0≤((x:Nat):Int):=by omega
    have cI:=bI.cell;have c5:=b5.cell;have cX0:W'.cell? ⟨Bs,0,none⟩=some (.int .i64 (edS l0 x).f0.f0):=(blk_cell bX 0).trans rfl;have cX1:W'.cell? ⟨Bs,1,none⟩=some (.int .i64 (edS l0 x).f0.f1):=(blk_cell bX 1).trans rfl;have cX2:W'.cell? ⟨Bs,2,none⟩=some (.int .i64 (edS l0 x).f1.f0):=(blk_cell bX 2).trans rfl;have cX3:W'.cell? ⟨Bs,3,none⟩=some (.int .i64 (edS l0 x).f1.f1):=(blk_cell bX 3).trans rfl;have cT0:W'.cell? ⟨Bt,0,none⟩=some (.int .i64 (edS l0 y).f0.f0):=(blk_cell bT 0).trans rfl;have cT1:W'.cell? ⟨Bt,1,none⟩=some (.int .i64 (edS l0 y).f0.f1):=(blk_cell bT 1).trans rfl;have cT2:W'.cell? ⟨Bt,2,none⟩=some (.int .i64 (edS l0 y).f1.f0):=(blk_cell bT 2).trans rfl;have cT3:W'.cell? ⟨Bt,3,none⟩=some (.int .i64 (edS l0 y).f1.f1):=(blk_cell bT 3).trans rfl;have cR:=bR.cell;have fR:=bR.frozen;by_cases d1:(y:Nat)≤(x:Nat)
    ·
     have t1:decide (((y:Nat):Int)≤((x:Nat):Int))=true:=decide_eq_true (by omega);have hP:pairS l0 x y=true:=by unfold pairS;rw [if_pos d1]
     gi_wp2;have hb:=hP;have hb1:=Below.refl W'.heap.size W';exact⟨keeps_below hb1,KpE.below hb1,⟨⟨⟨⟨⟨⟨fun z hz=>(List.mem_append.1 hz).elim (hq z) (fun e=>by simp at e;subst e;exact hb),box_later bR hb1⟩,box_later bL hb1⟩,box_later b5 hb1⟩,box_later bI hb1⟩,blk_later bX hb1⟩,blk_later hK hb1⟩,⟨below_row hB (Nat.le_refl _) hb1,hE.trans (KpE.below hb1)⟩,hF.trans (keeps_below hb1)⟩
    have t1:decide (((y:Nat):Int)≤((x:Nat):Int))=false:=decide_eq_false (by omega);by_cases d2:(y:Nat)=(x:Nat)+1
    ·
     have t2:(((y:Nat):Int)==((x:Nat):Int)+1)=true:=by rw [beq_iff_eq];omega
     have hP:pairS l0 x y=(!segHas (sgP (edS l0 x)) (ptP (edS l0 y).f1) && !segHas (sgP (edS l0 y)) (ptP (edS l0 x).f0)):=by unfold pairS;rw [if_neg d1,if_pos d2]
     have HJ:=iJoined (k:=2) (by omega) (edS l0 x).f0.f0 (edS l0 x).f0.f1 (edS l0 x).f1.f0 (edS l0 x).f1.f1 (edS l0 y).f0.f0 (edS l0 y).f0.f1 (edS l0 y).f1.f0 (edS l0 y).f1.f1;replace HJ:=HJ.trans (congrArg some hP.symm);clear d2
     cases hb:pairS l0 x y with
     | true =>
      rw [hb] at HJ;clear hP;gi_wp2_with (refine⟨trivial,?_⟩;gi_at_call 111;refine (CallsIn.inRound l2 (callsIn_wide.2 (impl_joined.calls 2 _ _ _ _ _ _ _ _ true _ HJ))).mono ?_;rintro e w1 ⟨rfl,hb1⟩;have cR1:=(box_later bR hb1).cell;have fR1:=(box_later bR hb1).frozen);exact⟨keeps_below hb1,KpE.below hb1,⟨⟨⟨⟨⟨⟨fun z hz=>(List.mem_append.1 hz).elim (hq z) (fun e=>by simp at e;subst e;exact hb),box_later bR hb1⟩,box_later bL hb1⟩,box_later b5 hb1⟩,box_later bI hb1⟩,blk_later bX hb1⟩,blk_later hK hb1⟩,⟨below_row hB (Nat.le_refl _) hb1,hE.trans (KpE.below hb1)⟩,hF.trans (keeps_below hb1)⟩
     | false =>
      rw [hb] at HJ;clear hP;gi_wp2_with (refine⟨trivial,?_⟩;gi_at_call 111;refine (CallsIn.inRound l2 (callsIn_wide.2 (impl_joined.calls 2 _ _ _ _ _ _ _ _ false _ HJ))).mono ?_;rintro e w1 ⟨rfl,hb1⟩;have cR1:=(box_later bR hb1).cell;have fR1:=(box_later bR hb1).frozen);exact⟨(keeps_below hb1).trans ((KeepsOthers.setCell _ _ _).from _),⟨⟨⟨rfl,y,hb⟩,(box_later bR hb1).set _⟩,blk_set (blk_later hK hb1) rfl (box_later bR hb1) _⟩,(below_row hB (Nat.le_refl _) hb1).setCell (p:=⟨w.heap.size+1,0,none⟩) (by simp) _,(hF.trans (keeps_below hb1)).trans ((KeepsOthers.setCell _ _ _).from _)⟩
    have t2:(((y:Nat):Int)==((x:Nat):Int)+1)=false:=by rw [beq_eq_false_iff_ne];omega
    by_cases d3:(x:Nat)=0
    ·
     have t3:(((x:Nat):Int)==0)=true:=by rw [beq_iff_eq];omega
     by_cases d4:(y:Nat)+1=l0.length
     ·
      have t4:(((y:Nat):Int)==(l0.length:Int)-1)=true:=by rw [beq_iff_eq];omega
      have hP:pairS l0 x y=(!segHas (sgP (edS l0 y)) (ptP (edS l0 x).f1) && !segHas (sgP (edS l0 x)) (ptP (edS l0 y).f0)):=by unfold pairS;rw [if_neg d1,if_neg d2,if_pos ⟨d3,d4⟩]
      have HJ:=iJoined (k:=2) (by omega) (edS l0 y).f0.f0 (edS l0 y).f0.f1 (edS l0 y).f1.f0 (edS l0 y).f1.f1 (edS l0 x).f0.f0 (edS l0 x).f0.f1 (edS l0 x).f1.f0 (edS l0 x).f1.f1;replace HJ:=HJ.trans (congrArg some hP.symm);clear d3 d4
      cases hb:pairS l0 x y with
      | true =>
       rw [hb] at HJ;clear hP;gi_wp2_with (refine⟨trivial,?_⟩;gi_at_call 111;refine (CallsIn.inRound l2 (callsIn_wide.2 (impl_joined.calls 2 _ _ _ _ _ _ _ _ true _ HJ))).mono ?_;rintro e w1 ⟨rfl,hb1⟩;have cR1:=(box_later bR hb1).cell;have fR1:=(box_later bR hb1).frozen);exact⟨keeps_below hb1,KpE.below hb1,⟨⟨⟨⟨⟨⟨fun z hz=>(List.mem_append.1 hz).elim (hq z) (fun e=>by simp at e;subst e;exact hb),box_later bR hb1⟩,box_later bL hb1⟩,box_later b5 hb1⟩,box_later bI hb1⟩,blk_later bX hb1⟩,blk_later hK hb1⟩,⟨below_row hB (Nat.le_refl _) hb1,hE.trans (KpE.below hb1)⟩,hF.trans (keeps_below hb1)⟩
      | false =>
       rw [hb] at HJ;clear hP;gi_wp2_with (refine⟨trivial,?_⟩;gi_at_call 111;refine (CallsIn.inRound l2 (callsIn_wide.2 (impl_joined.calls 2 _ _ _ _ _ _ _ _ false _ HJ))).mono ?_;rintro e w1 ⟨rfl,hb1⟩;have cR1:=(box_later bR hb1).cell;have fR1:=(box_later bR hb1).frozen);exact⟨(keeps_below hb1).trans ((KeepsOthers.setCell _ _ _).from _),⟨⟨⟨rfl,y,hb⟩,(box_later bR hb1).set _⟩,blk_set (blk_later hK hb1) rfl (box_later bR hb1) _⟩,(below_row hB (Nat.le_refl _) hb1).setCell (p:=⟨w.heap.size+1,0,none⟩) (by simp) _,(hF.trans (keeps_below hb1)).trans ((KeepsOthers.setCell _ _ _).from _)⟩
     ·
      have t4:(((y:Nat):Int)==(l0.length:Int)-1)=false:=by rw [beq_eq_false_iff_ne];omega
      have hP:pairS l0 x y = !segMeet (sgP (edS l0 x)) (sgP (edS l0 y)):=by unfold pairS;rw [if_neg d1,if_neg d2,if_neg (fun h=>d4 h.2)]
      have HJ:=iSegMeet (k:=3) (by omega) (edS l0 x).f0.f0 (edS l0 x).f0.f1 (edS l0 x).f1.f0 (edS l0 x).f1.f1 (edS l0 y).f0.f0 (edS l0 y).f0.f1 (edS l0 y).f1.f0 (edS l0 y).f1.f1;clear d3
      cases hb0:segMeet (sgP (edS l0 x)) (sgP (edS l0 y)) with
      | false =>
       have hb:pairS l0 x y=true:=by rw [hP,hb0];rfl
       replace HJ:=HJ.trans (congrArg some hb0);clear hP hb0;gi_wp2_with (refine⟨trivial,?_⟩;gi_at_call 112;refine (CallsIn.inRound l2 (callsIn_wide.2 (impl_SegMeet.calls 3 _ _ _ _ _ _ _ _ false _ HJ))).mono ?_;rintro e w1 ⟨rfl,hb1⟩;have cR1:=(box_later bR hb1).cell;have fR1:=(box_later bR hb1).frozen);exact⟨keeps_below hb1,KpE.below hb1,⟨⟨⟨⟨⟨⟨fun z hz=>(List.mem_append.1 hz).elim (hq z) (fun e=>by simp at e;subst e;exact hb),box_later bR hb1⟩,box_later bL hb1⟩,box_later b5 hb1⟩,box_later bI hb1⟩,blk_later bX hb1⟩,blk_later hK hb1⟩,⟨below_row hB (Nat.le_refl _) hb1,hE.trans (KpE.below hb1)⟩,hF.trans (keeps_below hb1)⟩
      | true =>
       have hb:pairS l0 x y=false:=by rw [hP,hb0];rfl
       replace HJ:=HJ.trans (congrArg some hb0);clear hP hb0;gi_wp2_with (refine⟨trivial,?_⟩;gi_at_call 112;refine (CallsIn.inRound l2 (callsIn_wide.2 (impl_SegMeet.calls 3 _ _ _ _ _ _ _ _ true _ HJ))).mono ?_;rintro e w1 ⟨rfl,hb1⟩;have cR1:=(box_later bR hb1).cell;have fR1:=(box_later bR hb1).frozen);exact⟨(keeps_below hb1).trans ((KeepsOthers.setCell _ _ _).from _),⟨⟨⟨rfl,y,hb⟩,(box_later bR hb1).set _⟩,blk_set (blk_later hK hb1) rfl (box_later bR hb1) _⟩,(below_row hB (Nat.le_refl _) hb1).setCell (p:=⟨w.heap.size+1,0,none⟩) (by simp) _,(hF.trans (keeps_below hb1)).trans ((KeepsOthers.setCell _ _ _).from _)⟩
    have t3:(((x:Nat):Int)==0)=false:=by rw [beq_eq_false_iff_ne];omega
    have hP:pairS l0 x y = !segMeet (sgP (edS l0 x)) (sgP (edS l0 y)):=by unfold pairS;rw [if_neg d1,if_neg d2,if_neg (fun h=>d3 h.1)]
    have HJ:=iSegMeet (k:=3) (by omega) (edS l0 x).f0.f0 (edS l0 x).f0.f1 (edS l0 x).f1.f0 (edS l0 x).f1.f1 (edS l0 y).f0.f0 (edS l0 y).f0.f1 (edS l0 y).f1.f0 (edS l0 y).f1.f1
    cases hb0:segMeet (sgP (edS l0 x)) (sgP (edS l0 y)) with
    | false =>
     have hb:pairS l0 x y=true:=by rw [hP,hb0];rfl
     replace HJ:=HJ.trans (congrArg some hb0);clear hP hb0;gi_wp2_with (refine⟨trivial,?_⟩;gi_at_call 112;refine (CallsIn.inRound l2 (callsIn_wide.2 (impl_SegMeet.calls 3 _ _ _ _ _ _ _ _ false _ HJ))).mono ?_;rintro e w1 ⟨rfl,hb1⟩;have cR1:=(box_later bR hb1).cell;have fR1:=(box_later bR hb1).frozen);exact⟨keeps_below hb1,KpE.below hb1,⟨⟨⟨⟨⟨⟨fun z hz=>(List.mem_append.1 hz).elim (hq z) (fun e=>by simp at e;subst e;exact hb),box_later bR hb1⟩,box_later bL hb1⟩,box_later b5 hb1⟩,box_later bI hb1⟩,blk_later bX hb1⟩,blk_later hK hb1⟩,⟨below_row hB (Nat.le_refl _) hb1,hE.trans (KpE.below hb1)⟩,hF.trans (keeps_below hb1)⟩
    | true =>
     have hb:pairS l0 x y=false:=by rw [hP,hb0];rfl
     replace HJ:=HJ.trans (congrArg some hb0);clear hP hb0;gi_wp2_with (refine⟨trivial,?_⟩;gi_at_call 112;refine (CallsIn.inRound l2 (callsIn_wide.2 (impl_SegMeet.calls 3 _ _ _ _ _ _ _ _ true _ HJ))).mono ?_;rintro e w1 ⟨rfl,hb1⟩;have cR1:=(box_later bR hb1).cell;have fR1:=(box_later bR hb1).frozen);exact⟨(keeps_below hb1).trans ((KeepsOthers.setCell _ _ _).from _),⟨⟨⟨rfl,y,hb⟩,(box_later bR hb1).set _⟩,blk_set (blk_later hK hb1) rfl (box_later bR hb1) _⟩,(below_row hB (Nat.le_refl _) hb1).setCell (p:=⟨w.heap.size+1,0,none⟩) (by simp) _,(hF.trans (keeps_below hb1)).trans ((KeepsOthers.setCell _ _ _).from _)⟩
   case done3 =>
    rintro ys' W' rfl ⟨⟨⟨⟨⟨⟨⟨hq,bR⟩,bL⟩,b5⟩,bI⟩,bX⟩,hK⟩,⟨hB,hE⟩,hF⟩;gi_wp2;exact⟨hF,hE,⟨⟨⟨⟨fun z hz j hj=>(List.mem_append.1 hz).elim (fun hm=>hp z hm j hj) (fun e=>by simp at e;subst e;exact hq ⟨j,hj⟩ (List.mem_finRange _)),bR⟩,bL⟩,b5⟩,hK⟩,hB⟩
   case stop3 =>
    rintro c pre' W' hpre ⟨⟨⟨⟨rfl,y,hy⟩,bR⟩,hK⟩,hB,hF⟩;gi_wp2;exact⟨hF,⟨⟨⟨rfl,x,y,x.2,y.2,hy⟩,bR⟩,hK⟩,hB⟩
  case stop2 =>
   rintro D2 c pre W hD2 _ ⟨⟨⟨⟨rfl,i,j,hi,hj,hs⟩,bR1⟩,hK⟩,hB1⟩ hK2;obtain rfl:r=false:=by
    cases r with
    | false=>rfl
    | true=>have:=(hS'.out.1 rfl).2.2.2 i j hi hj;rw [hs] at this;cases this
   gi_wp2;have hD1:∀ E∈[D2,D],W.heap[E]?=some (.deferred (some [])):=by
    intro E hE;simp at hE
    rcases hE with rfl | rfl
    ·
     exact hK2
    ·
     exact hK
   refine leavesM_marks [D2,D] W (by simp;omega) hD1 (fun w' h1 h2 h3 h4 h5=>?_);have hc5:=(marks_boxed bR1 hD1 h1).cell;refine⟨.bool false,?_,rfl,marks_below hB1 (by simp;omega) h1 h2 h3 h4 h5⟩;simp [results,Tryd.f93,go_sem,hc5]
  case done2 =>
   rintro D2 ys W hD2 rfl ⟨⟨⟨⟨⟨hp,bR1⟩,bL1⟩,b5⟩,hK⟩,hB1⟩ hK2;obtain rfl:r=true:=hS'.out.2 ⟨by omega,by omega,hok,fun i j hi hj=>hp ⟨i,hi⟩ (List.mem_finRange _) j hj⟩;have cR:=bR1.cell;have fR:=bR1.frozen;gi_wp2;have hD1:∀ E∈[D2,D],(W.setCell ⟨w.heap.size+1,0,none⟩ (.bool true)).heap[E]?=some (.deferred (some [])):=by
    intro E hE;simp at hE
    rcases hE with rfl | rfl
    ·
     exact blk_set hK2 rfl bR1 _
    ·
     exact blk_set hK rfl bR1 _
   refine leavesM_marks [D2,D] _ (by simp;omega) hD1 (fun w' h1 h2 h3 h4 h5=>?_);have hc5:=(marks_boxed (bR1.set (.bool true)) hD1 h1).cell;refine⟨.bool true,?_,rfl,marks_below (hB1.setCell (p:=⟨w.heap.size+1,0,none⟩) (by simp) _) (by simp;omega) h1 h2 h3 h4 h5⟩;simp [results,Tryd.f93,go_sem,hc5]
end Go.Proofs.YtkefmnmoaomlhaaDoor.X
end
section
set_option linter.unusedVariables false
set_option linter.unusedSimpArgs false
namespace Go.Proofs.YtkefmnmoaomlhaaDoor.X
open Go.RowKit Go.Shelf Go.Proofs.YtkefmnmoaomlhaaDoorW.PrintWords Go.Proofs.YtkefmnmoaomlhaaDoorW.PrintLast Go.Proofs.YtkefmnmoaomlhaaDoorW.PrintMore
def CellsKept (W W':World):Prop:=∀ (k:Nat) (cs:Array Value) (t:TypeId) (fr:Nat × Nat),W.heap[k]?=some (Obj.cells cs t fr)→W'.heap[k]?=some (Obj.cells cs t fr)
theorem CellsKept.grown {W W':World}{row:Option Nat}(hg:W.grownBy W' row)(hr:∀ r,row=some r→∃ o,W.heap[r]?=some o∧o.isCells=false):CellsKept W W':=fun k cs t fr h =>
 (hg.block k (Array.getElem?_eq_some_iff.1 h).1 (fun e=>by obtain⟨o,ho,hc⟩:=hr k e.symm;rw [h] at ho;cases ho;cases hc)).trans h
theorem CellsKept.marks {W W':World}{Ds:List Nat}(hD:∀ D∈Ds,W.heap[D]?=some (.deferred (some [])))(h1:∀ k,k ∉ Ds→W'.heap[k]?=W.heap[k]?):CellsKept W W':=fun k cs t fr h =>
 (h1 k (fun e=>by have:=(hD k e).symm.trans h;cases this)).trans h
theorem CellsKept.below {W W':World}(hb:Below W.heap.size W W'):CellsKept W W':=fun k cs t fr h=>blk_later h hb
theorem Built.kept {w W W':World}{n₀ bb:Nat}{bs:List Nat}{A0:Option Addr}{c0:Nat}{o:List S28}{H:List (List S28)}{v:Value}(h:Built w W n₀ bb bs A0 c0 o H v)(k:CellsKept W W'):Built w W' n₀ bb bs A0 c0 o H v:=
 ⟨k _ _ _ _ h.body,h.lo,h.len,h.nd,fun j hj=>by obtain⟨l,A,c,k1,k2,k3⟩:=h.ring j hj;exact⟨l,A,c,k _ _ _ _ k1,k2,k3⟩⟩
theorem R_kept {α:Type}{d:Kd α}{e:Nat}{W W':World}{base:Nat}{ok:Nat→Prop}{v:Value}{xs:List α}(h:d.R e W base ok v xs)(k:CellsKept W W'):d.R e W' base ok v xs:=
 Kd.R_mono (Kd.R_move (Kd.R_bound h) (fun j hj=>by obtain⟨_,_,_,q,_,cells,hc⟩:=hj;exact (k _ _ _ _ hc).trans hc.symm)) (fun _ hk=>hk.1)
theorem box_kept {W W':World}{B:Nat}{t:TypeId}{v:Value}(h:Boxed W B t v)(k:CellsKept W W'):Boxed W' B t v:=k _ _ _ _ h
theorem R_ne {W:World}{base:Nat}{ok:Nat→Prop}{v:Value}{xs:List S61}(h:Kd.R k61 61 W base ok v xs){g t:Nat}{cs:Array Value}(hg:W.heap[g]?=some (.cells cs t (0,0)))(ht:t≠61):some g≠v.ownBlock:=fun e=>by
 obtain⟨_,inner,ho,_⟩:=h;obtain⟨cells,hc⟩:=own_typed ho g e.symm;rw [hg] at hc;injection hc with hc;injection hc with _ hc;exact ht hc
theorem R_lo {W:World}{base:Nat}{ok:Nat→Prop}{v:Value}{xs:List S61}(h:Kd.R k61 61 W base ok v xs){k:Nat}(hk:v.ownBlock=some k):base≤k:=by
 obtain⟨_,inner,ho,_⟩:=h;exact own_base ho k hk
theorem R_hi {W:World}{base:Nat}{ok:Nat→Prop}{v:Value}{xs:List S61}(h:Kd.R k61 61 W base ok v xs){k:Nat}(hk:v.ownBlock=some k):k<W.heap.size:=by
 obtain⟨_,inner,ho,_⟩:=h;exact own_lt ho k hk
theorem R_nc {W:World}{base:Nat}{ok:Nat→Prop}{v:Value}{xs:List S61}(h:Kd.R k61 61 W base ok v xs){k:Nat}{ob:Obj}(hk:W.heap[k]?=some ob)(hc:ob.isCells=false):some k≠v.ownBlock:=fun e=>by
 obtain⟨_,inner,ho,_⟩:=h;obtain⟨cells,hcs⟩:=own_typed ho k e.symm;rw [hk] at hcs;cases hcs;cases hc
theorem R_body {W:World}{base:Nat}{v:Value}{xs:List S61}{bb:Nat}{cs:Array Value}(h:Kd.R k61 61 W base (fun _=>True) v xs)(hb:W.heap[bb]?=some (.cells cs 109 (0,0)))(u:Value):Kd.R k61 61 (W.setCell ⟨bb,2,none⟩ u) base (fun _=>True) v xs:=
 Kd.R_mono (Kd.R_far (Kd.R_types h hb (by decide)) (fun k hk=>hk.2) u) (fun _ _=>trivial)
theorem Built.rings {w W:World}{n₀ bb:Nat}{bs:List Nat}{A0:Option Addr}{c0:Nat}{o:List S28}{H:List (List S28)}{v:Value}(h:Built w W n₀ bb bs A0 c0 o H v)(ho:Kd.C k28 w A0 o.length o)(i:Nat)(hi:i<(o::H).length):
  ∃ A c,W.cell? ⟨(bb::bs).getD i 0,0,none⟩=some (.slice A ((o::H).getD i []).length c)∧W.cell? ⟨(bb::bs).getD i 0,1,none⟩=some (.pointer (ptrAt (bb::bs) (i+1)))∧Kd.C k28 w A ((o::H).getD i []).length ((o::H).getD i []):=by
 cases i with
 | zero=>exact⟨A0,c0,(blk_cell h.body 0).trans rfl,(blk_cell h.body 1).trans rfl,ho⟩
 | succ i =>
  obtain⟨l,A,c,k1,k2,k3⟩:=h.ring i (by simpa using hi);exact⟨A,c,(blk_cell k1 0).trans rfl,(blk_cell k1 1).trans rfl,k2⟩
theorem Built.put {w W w1:World}{n₀ bb:Nat}{bs:List Nat}{A0:Option Addr}{c0:Nat}{o:List S28}{H:List (List S28)}{v v1:Value}(h:Built w W n₀ bb bs A0 c0 o H v)(hg:W.grownBy w1 v.ownBlock)
  (hne:∀ (g:Nat) (t:TypeId) (cs:Array Value),W.heap[g]?=some (Obj.cells cs t (0,0))→t≠61→some g≠v.ownBlock):Built w (w1.setCell ⟨bb,2,none⟩ v1) n₀ bb bs A0 c0 o H v1:=by
 have hk:∀ (g:Nat) (t:TypeId) (cs:Array Value),W.heap[g]?=some (Obj.cells cs t (0,0))→t≠61→w1.heap[g]?=some (Obj.cells cs t (0,0)):=fun g t cs hgc ht=>(hg.block g (Array.getElem?_eq_some_iff.1 hgc).1 (hne g t cs hgc ht)).trans hgc
 refine⟨blk_put (cs:=#[.slice A0 o.length c0,.pointer (ptrAt bs 0),v]) (hk _ _ _ h.body (by decide)) 2 v1 rfl,h.lo,h.len,h.nd,fun j hj=>?_⟩;obtain⟨l,A,c,k1,k2,k3⟩:=h.ring j hj;refine⟨l,A,c,?_,k2,k3⟩;rw [Below.heap_setCell _ ⟨bb,2,none⟩ _ _ ?_]
 ·
  exact hk _ _ _ k1 (by decide)
 ·
  intro e;have:=h.nd;rw [List.nodup_cons] at this;refine this.1 ?_;rw [← (show bs.getD j 0=bb from e),getD_lt (by rw [h.len];exact hj)];exact List.getElem_mem _
end Go.Proofs.YtkefmnmoaomlhaaDoor.X
end
section
set_option linter.unusedVariables false
set_option linter.unusedSimpArgs false
namespace Go.Proofs.YtkefmnmoaomlhaaDoor.X
open Go.RowKit Go.Shelf Go.Proofs.YtkefmnmoaomlhaaDoorW.PrintWords Go.Proofs.YtkefmnmoaomlhaaDoorW.PrintLast Go.Proofs.YtkefmnmoaomlhaaDoorW.PrintMore
open Mort (edges segMeet loopOk ptOk inOf)
attribute [local go_sem] Oper.semAt_some
def bodyOkB (o:List S28)(H:List (List S28)):Bool:=
  decide (H.length≤2) && (loopOk (o.map ptP) && (H.all (fun z=>loopOk (z.map ptP)) && (apartAll (o::H) && nestedAll o H)))
def edgesS (z:List S28):List S61:=(List.finRange z.length).map fun (i:Fin z.length)=>edS z (i:Nat)
def allEdges (R:List (List S28)):List S61:=R.flatMap edgesS
theorem allEdges_len {R:List (List S28)}(h:Small R):(allEdges R).length≤8*R.length:=by
  induction R with
  | nil=>simp [allEdges]
  | cons z R ih =>
    have h1:=ih (fun u hu=>h u (List.mem_cons_of_mem _ hu));have h2:=(h z List.mem_cons_self).2;unfold allEdges at h1 ⊢
    rw [List.flatMap_cons,List.length_append];have h3:(edgesS z).length=z.length:=by simp [edgesS]
    rw [h3,List.length_cons];omega
theorem at_row {w:World}{A:Option Addr}{n:Nat}{xs:List (List S28)}(h:Kd.C (Kd.slice 28 k28) w A n xs)(i:Nat)(h1:i<n):
    ∃ ad A0 c0,A=some ad∧w.cell? (ad.add i)=some (.slice A0 (xs.getD i []).length c0)∧(xs.getD i []).length≤c0∧k28.C w A0 (xs.getD i []).length (xs.getD i []):=by
  obtain⟨ad,c,e,_,hK,hc0⟩:=Kd.C_get h ([]:List S28) (i:Int) (by omega) (by omega);have hc:∀ j u,c[j]?=some u→w.cell? (ad.add (i*1+j))=some u:=hc0;obtain⟨A0,c0,rfl,l0,g0⟩:=hK;exact⟨ad,A0,c0,e,by have hq:=hc 0 _ rfl;rwa [Nat.mul_one,Nat.add_zero] at hq,l0,g0⟩
def BodyRes (o:List S28)(H:List (List S28))(w:World)(e:Ending)(w':World):Prop:=
  ∃ b bs v,e=.returned (.tuple #[.pointer (some ⟨b,0,none⟩),.bool true])∧BodyAt w' b bs o H∧w'.cell? ⟨b,2,none⟩=some v∧Kd.R k61 61 w' w.heap.size (fun _=>True) v (allEdges (o::H))∧Below w.heap.size w w'
def NoBody (w:World)(e:Ending)(w':World):Prop:=e=.returned (.tuple #[.pointer none,.bool false])∧Below w.heap.size w w'
def BodyPost (o:List S28)(H:List (List S28))(w:World)(r:Bool)(e:Ending)(w':World):Prop:=(r=true→BodyRes o H w e w')∧(r=false→NoBody w e w')
set_option maxHeartbeats 8000000 in
set_option maxRecDepth 100000 in
theorem bodyOf_calls (A0:Option Addr)(c0:Nat)(o:List S28)(AH:Option Addr)(cH:Nat)(H:List (List S28))(r:Bool)(w:World)(hr0:Kd.C k28 w A0 o.length o)(hc0:o.length≤c0)
    (hr1:Kd.C (Kd.slice 28 k28) w AH H.length H) (hc1:H.length≤cH) (h:bodyOkB o H=r) :
    Calls Tryd.prog 52 #[.agg #[.slice A0 o.length c0,.slice AH H.length cH]] w (BodyPost o H w r):=by
  have HR:=Aside0.mk h;clear h;have hu26:=Tryd.underlying26;refine (callsIn_wide (n:=9)).1 ?_;refine callsIn_of_wp_marks Tryd.func52 rfl trivial ?_ rfl;simp only [Tryd.ntmps52,List.size_toArray,List.length_cons,List.length_nil,Nat.reduceAdd,Nat.reduceSub,Array.replicate_succ,Array.replicate_zero,List.push_toArray,List.append_toArray,List.nil_append,List.cons_append];have bP:=World.alloc_heap_new w (.cells #[.slice A0 o.length c0,.slice AH H.length cH] 26 (0,0));have cP0:(w.alloc (.cells #[.slice A0 o.length c0,.slice AH H.length cH] 26)).cell? ⟨w.heap.size,0,none⟩=some (.slice A0 o.length c0):=(blk_cell bP 0).trans rfl;have cP1:(w.alloc (.cells #[.slice A0 o.length c0,.slice AH H.length cH] 26)).cell? ⟨w.heap.size,1,none⟩=some (.slice AH H.length cH):=(blk_cell bP 1).trans rfl;have hB0:=below_alloc (Below.refl w.heap.size w) (.cells #[.slice A0 o.length c0,.slice AH H.length cH] 26);by_cases h2:2<H.length
  · have b1:decide (2<(H.length:Int))=true:=decide_eq_true (by omega)
    obtain rfl:r=false:=by rw [← HR.out];unfold bodyOkB;rw [decide_eq_false (by omega)];rfl
    gi_wp2;refine⟨trivial,?_⟩;gi_wp2;refine⟨.tuple #[.pointer none,.bool false],?_,fun h=>(by cases h),fun _=>⟨rfl,hB0⟩⟩;simp [results,Tryd.f52,go_sem]
  have b1:decide (2<(H.length:Int))=false:=decide_eq_false (by omega)
  cases hlo:loopOk (o.map ptP) with
  | false =>
    obtain rfl:r=false:=by rw [← HR.out];unfold bodyOkB;rw [hlo];simp
    have HL:impl_LoopOk.f o=some false:=congrArg some hlo;clear hlo;gi_wp2_with (refine⟨trivial,?_⟩;gi_at_call 93;refine (callsIn_wide.2 (impl_LoopOk.calls A0 c0 o false _ (Kd.C_below hr0 hB0) hc0 HL)).mono ?_;rintro e w1 ⟨rfl,hb⟩);refine⟨.tuple #[.pointer none,.bool false],?_,fun h=>(by cases h),fun _=>⟨rfl,below_step hB0 hb⟩⟩;simp [results,Tryd.f52,go_sem]
  | true =>
    have HL:impl_LoopOk.f o=some true:=congrArg some hlo;have HLO:=Aside0.mk hlo;clear hlo;gi_wp2_with (refine⟨trivial,?_⟩;gi_at_call 93;refine (callsIn_wide.2 (impl_LoopOk.calls A0 c0 o true _ (Kd.C_below hr0 hB0) hc0 HL)).mono ?_;rintro e w1 ⟨rfl,hb⟩;have dP0:=pw_cell_below hb cP0;have dP1:=pw_cell_below hb cP1;have dB1:=below_step hB0 hb;have eB:=below_alloc (below_alloc (Below.refl w1.heap.size w1) (.cells #[.slice A0 o.length c0,.pointer none,.slice none 0 0] 109)) (.cells #[.pointer (some ⟨w1.heap.size,0,none⟩)] 75);have eP1:=pw_cell_below eB dP1);have bV:=Boxed.new (w1.alloc (.cells #[.slice A0 o.length c0,.pointer none,.slice none 0 0] 109)) 75 (.pointer (some ⟨w1.heap.size,0,none⟩));simp only [World.size_alloc] at bV;have hBd:Built w ((w1.alloc (.cells #[.slice A0 o.length c0,.pointer none,.slice none 0 0] 109)).alloc (.cells #[.pointer (some ⟨w1.heap.size,0,none⟩)] 75)) w.heap.size w1.heap.size [] A0 c0 o [] (.slice none 0 0):=
      ⟨blk_alloc' (World.alloc_heap_new w1 _) _,dB1.size,rfl,by simp,fun j hj=>by simp at hj⟩
    have hP1:=blk_later (blk_later bP hb) eB;have hB1:=below_step dB1 eB;have hn1:=dB1.size;clear eP1 eB dB1 dP0 dP1 hb bP cP0 cP1 hB0;obtain⟨W1,hW1⟩:∃ W1,(w1.alloc (.cells #[.slice A0 o.length c0,.pointer none,.slice none 0 0] 109)).alloc (.cells #[.pointer (some ⟨w1.heap.size,0,none⟩)] 75)=W1:=⟨_,rfl⟩;rw [hW1] at bV hBd hP1 hB1 ⊢
    clear hW1;generalize w1.heap.size=bb at *;gi_loopw [5,32] (fun v5 v32 wr=>∃ (i lb:Nat),v5=.pointer (some ⟨lb,0,none⟩)∧v32=.int .i64 i∧i≤H.length∧Aside0 (∃ bs,lb=lastOf bb bs∧Built w wr w.heap.size bb bs A0 c0 o (H.take i) (.slice none 0 0)∧Boxed wr (bb+1) 75 (.pointer (some ⟨bb,0,none⟩))∧(∀ z∈H.take i,loopOk (z.map ptP)=true)∧wr.heap[w.heap.size]?=some (.cells #[.slice A0 o.length c0,.slice AH H.length cH] 26 (0,0))∧Below w.heap.size w wr))
      (fun _ v32 _=>H.length-(intOf v32).toNat)
    case atStart=>exact⟨0,bb,rfl,rfl,Nat.zero_le _,⟨[],rfl,by rw [List.take_zero];exact hBd,bV,by simp,hP1,hB1⟩⟩
    case round =>
      obtain⟨i,lb,rfl,rfl,hi,HI⟩:=hrel;obtain⟨bs,hlb,hBd,bV,hok,hP,hB⟩:=HI.out;clear HI hB1;by_cases hlt:i<H.length
      · obtain⟨ad,A',c',hAH,hx,hzc,hzC⟩:=at_row hr1 i hlt
        subst hAH;have hxr:wr.cell? (ad.add i)=some (.slice A' (H.getD i []).length c'):=pw_cell_below hB hx;have hzW:=Kd.C_below hzC hB;have hz:H.getD i []=H[i]:=getD_lt hlt;have htk:H.take (i+1)=H.take i++[H.getD i []]:=by rw [hz];exact List.take_succ_eq_append_getElem hlt
        have hHm:H.getD i []∈H:=by rw [hz];exact List.getElem_mem _
        generalize H.getD i []=z at *;have HT:=a0_ (And.intro htk (And.intro hHm (And.intro hBd (And.intro bV (And.intro hok (And.intro hP (And.intro hB hlb)))))));clear htk hHm hBd bV hok hP hlb hz hx
        cases hlz:loopOk (z.map ptP) with
        | false =>
          obtain rfl:r=false:=by
            rw [← HR.out];unfold bodyOkB;rw [show H.all (fun z=>loopOk (z.map ptP))=false from List.all_eq_false.2 ⟨z,HT.out.2.1,by rw [hlz];simp⟩];simp
          have HZ:impl_LoopOk.f z=some false:=congrArg some hlz;clear hlz;gi_wp2_with (refine⟨trivial,?_⟩;gi_at_call 93;refine (callsIn_wide.2 (impl_LoopOk.calls A' c' z false _ hzW hzc HZ)).mono ?_;rintro e w2 ⟨rfl,hb⟩);refine⟨.tuple #[.pointer none,.bool false],?_,fun h=>(by cases h),fun _=>⟨rfl,below_step hB hb⟩⟩;simp [results,Tryd.f52,go_sem]
        | true =>
          have HZ:impl_LoopOk.f z=some true:=congrArg some hlz;have HLZ:=Aside0.mk hlz;clear hlz;have hlast:∃ (y:Value) (cs:List Value) (t:TypeId),wr.heap[lb]?=some (.cells (#[y,.pointer none]++cs.toArray) t (0,0))∧w.heap.size≤lb:=by
            rw [HT.out.2.2.2.2.2.2.2];exact HT.out.2.2.1.last_cells
          obtain⟨y,cs,t,hobj,hlo⟩:=hlast
          gi_wp2_with (refine⟨trivial,?_⟩;gi_at_call 93;refine (callsIn_wide.2 (impl_LoopOk.calls A' c' z true _ hzW hzc HZ)).mono ?_;rintro e w2 ⟨rfl,hb⟩
                       have hob2:=blk_alloc' (blk_later hobj hb) (.cells #[.slice A' z.length c',.pointer none] 107);have s1:(w2.alloc (.cells #[.slice A' z.length c',.pointer none] 107)).cell? ⟨lb,1,none⟩=some (.pointer none):=(blk_cell hob2 1).trans (by simp);have s2:=blk_frozen hob2 1
                       have s3:((w2.alloc (.cells #[.slice A' z.length c',.pointer none] 107)).setCell ⟨lb,1,none⟩ (.pointer (some ⟨w2.heap.size,0,none⟩))).cell? ⟨lb,1,none⟩=some (.pointer (some ⟨w2.heap.size,0,none⟩)):=World.cell?_setCell_same' _ _ _ (by rw [s1];rfl))
          obtain⟨htk,hHm,hBd,bV,hok,hP,hB',hlb⟩:=HT.out;have hne1:bb+1≠lb:=by
            intro e;have h1:=hobj;rw [← e,show wr.heap[bb+1]?=_ from bV] at h1;have h2:=congrArg (fun (u:Option Obj)=>match u with | some (.cells a _ _)=>a.size | _=>0) h1;simp at h2
          have hne2:w.heap.size≠lb:=by
            intro e;have h1:=hobj;rw [← e,hP] at h1;have h2:=congrArg (fun (u:Option Obj)=>match u with | some (.cells a _ _)=>a[1]? | _=>none) h1;simp at h2
          have hbd2:=(hBd.later hb).push A' c' z hzC hzc (Nat.le_trans hB.size hb.size);rw [← hlb,← htk] at hbd2;refine⟨⟨i+1,w2.heap.size,rfl,by simp,by omega,⟨bs++[w2.heap.size],(lastOf_snoc bb _ bs).symm,hbd2,?_,?_,?_,?_⟩⟩,by simp [intOf];omega⟩
          · exact (Below.heap_setCell _ ⟨lb,1,none⟩ _ _ hne1).trans ((box_later bV hb).alloc _)
          · intro u hu
            rw [htk] at hu
            rcases List.mem_append.1 hu with hu | hu
            · exact hok u hu
            · simp at hu;subst hu;exact HLZ.out
          · rw [Below.heap_setCell _ ⟨lb,1,none⟩ _ _ hne2];exact blk_alloc' (blk_later hP hb) _
          · exact (below_alloc (below_step hB hb) _).setCell (p:=⟨lb,1,none⟩) hlo _
      · obtain rfl:i=H.length:=by omega
        rw [List.take_length] at hBd hok;have hBA:=hBd.bodyAt hB hr0 hc0;have hsm:Small (o::H):=fun z hz=>by
          have:loopOk (z.map ptP)=true:=by
            rcases List.mem_cons.1 hz with e | hz
            · rw [e];exact HLO.out
            · exact hok z hz
          obtain⟨h3,h8,_⟩:=(Mort.loopOk_iff _).1 this;rw [List.length_map] at h3 h8;exact⟨by omega,h8⟩
        have hRr:r=(apartAll (o::H) && nestedAll o H):=by
          rw [← HR.out];unfold bodyOkB;rw [decide_eq_true (by omega),HLO.out,List.all_eq_true.2 hok];rfl
        have HT:=a0_ (And.intro hBd (And.intro hok (And.intro hP (And.intro hB (And.intro hlb (And.intro hBA (And.intro hsm hRr)))))));have cV:=bV.cell;clear hBd hok hP hB hlb hBA hsm hRr HR hlt hi
        cases hap:apartAll (o::H) with
        | false =>
          gi_wp2_with (refine⟨trivial,?_⟩;gi_at_call 94;refine (callsIn_wide.2 (apart_calls bb (o::H) false _ HT.out.2.2.2.2.2.1.rings HT.out.2.2.2.2.2.2.1 hap)).mono ?_;rintro e w2 ⟨rfl,hb⟩);obtain rfl:r=false:=by rw [HT.out.2.2.2.2.2.2.2,hap];rfl
          refine⟨trivial,?_⟩;gi_wp2;refine⟨.tuple #[.pointer none,.bool false],?_,fun h=>(by cases h),fun _=>⟨rfl,below_step HT.out.2.2.2.1 hb⟩⟩;simp [results,Tryd.f52,go_sem]
        | true =>
          cases hne:nestedAll o H with
          | false =>
            gi_wp2_with (first
              | (refine⟨trivial,?_⟩;gi_at_call 94;refine (callsIn_wide.2 (apart_calls bb (o::H) true _ HT.out.2.2.2.2.2.1.rings HT.out.2.2.2.2.2.2.1 hap)).mono ?_;rintro e w2 ⟨rfl,hb⟩;have cV2:=(box_later bV hb).cell)
              | (refine⟨trivial,?_⟩;gi_at_call 95;refine (callsIn_wide.2 (nested_calls bb _ o H false _ (HT.out.2.2.2.2.2.1.later hb) HLO.out HT.out.2.1 hne)).mono ?_;rintro e w3 ⟨rfl,hb2⟩))
            obtain rfl:r=false:=by rw [HT.out.2.2.2.2.2.2.2,hap,hne];rfl
            refine⟨.tuple #[.pointer none,.bool false],?_,fun h=>(by cases h),fun _=>⟨rfl,below_step (below_step HT.out.2.2.2.1 hb) hb2⟩⟩;simp [results,Tryd.f52,go_sem]
          | true =>
            gi_wp2_with (first
              | (refine⟨trivial,?_⟩;gi_at_call 94;refine (callsIn_wide.2 (apart_calls bb (o::H) true _ HT.out.2.2.2.2.2.1.rings HT.out.2.2.2.2.2.2.1 hap)).mono ?_;rintro e w2 ⟨rfl,hb⟩;have cV2:=(box_later bV hb).cell)
              | (refine⟨trivial,?_⟩;gi_at_call 95;refine (callsIn_wide.2 (nested_calls bb _ o H true _ (HT.out.2.2.2.2.2.1.later hb) HLO.out HT.out.2.1 hne)).mono ?_;rintro e w3 ⟨rfl,hb2⟩;have cV3:=(box_later (box_later bV hb) hb2).cell))
            have hw3:=below_step (below_step HT.out.2.2.2.1 hb) hb2;have hBd3:=(HT.out.1.later hb).later hb2;have bV3:=box_later (box_later bV hb) hb2;have hr:r=true:=by rw [HT.out.2.2.2.2.2.2.2,hap,hne];rfl
            subst hr;have hLen:=HT.out.2.2.2.2.2.2.1;clear hb hb2 cV3 bV hap hne cV
            obtain⟨I,hI⟩:∃ I:Act→World→Prop,Aside0 (I=fun a W=>∃ (i:Nat) (x61 x62 x63 x64 x65 x66 x67 x68 x69 x70 x71:Value) (Ds:List Nat),a={ tmps:=#[.agg #[.slice A0 o.length c0,.slice AH H.length cH],.pointer (some ⟨w.heap.size,0,none⟩),u2,u3,.pointer (some ⟨bb+1,0,none⟩),.pointer (some ⟨lb,0,none⟩),undef,u7,.pointer (ptrAt (bb::bs) i),undef,undef,.pointer (some ⟨w.heap.size,1,none⟩),.slice AH H.length cH,.int .i64 (H.length:Int),.bool false,.bool false,.pointer (some ⟨w.heap.size,0,none⟩),.slice A0 o.length c0,.bool true,.bool false,.bool false,.pointer (some ⟨w.heap.size,0,none⟩),.slice A0 o.length c0,.agg #[.slice A0 o.length c0,.pointer none],.agg #[.slice A0 o.length c0,.pointer none,.slice none 0 0],.pointer (some ⟨bb,0,none⟩),.pointer (some ⟨bb,0,none⟩),.pointer (some ⟨bb,0,none⟩),.pointer (some ⟨bb,0,none⟩),.pointer (some ⟨w.heap.size,1,none⟩),.slice AH H.length cH,.int .i64 (H.length:Int),.int .i64 (H.length:Int),.bool false,u34,u35,u36,u37,u38,u39,u40,u41,u42,u43,u44,u45,u46,u47,u48,u49,.pointer (some ⟨bb,0,none⟩),.bool true,.bool false,.bool false,.pointer (some ⟨bb,0,none⟩),.bool true,.bool false,.bool false,.pointer (some ⟨bb,0,none⟩),.pointer (some ⟨bb,0,none⟩),.pointer (some ⟨bb,0,none⟩),x61,x62,x63,x64,x65,x66,x67,x68,x69,x70,x71,undef,undef,undef,undef,undef,undef,undef,undef,undef,undef,undef,undef,undef],defers:=Ds.map mark } ∧
              (∃ v,i≤(o::H).length∧Ds.length=i∧Ds.Nodup∧(∀ D∈Ds,W.heap[D]?=some (.deferred (some []))∧w.heap.size≤D)∧Built w W w.heap.size bb bs A0 c0 o H v∧Kd.R k61 61 W w.heap.size (fun _=>True) v (allEdges ((o::H).take i))∧Boxed W (bb+1) 75 (.pointer (some ⟨bb,0,none⟩))∧Below w.heap.size w W)):=⟨_,⟨rfl⟩⟩
            obtain⟨μ,hμ⟩:∃ μ:Act→World→Nat,Aside0 (μ=fun a _=>(H.length+2)-a.defers.length):=⟨_,⟨rfl⟩⟩;refine wpIn_loop I μ ?_ ?_
            · rw [hI.out]
              exact⟨0,_,_,_,_,_,_,_,_,_,_,_,[],rfl,_,Nat.zero_le _,rfl,by simp,by simp,hBd3,by rw [List.take_zero];exact Kd.R_nil _ _ _ _ _,bV3,hw3⟩
            · intro a W hIa
              rw [hI.out] at hIa;obtain⟨i,x61,x62,x63,x64,x65,x66,x67,x68,x69,x70,x71,Ds,rfl,v,hi,hDl,hDn,hDs,hBd,hE,bV,hB⟩:=hIa;clear hBd3 bV3 hw3;by_cases hlt:i<(o::H).length
              · obtain⟨Az,cz,q1,q2,hz⟩:=hBd.rings hr0 i hlt
                have hzm:(o::H).getD i []∈o::H:=by rw [getD_lt hlt];exact List.getElem_mem _
                have hzs:=hLen _ hzm;have htk:(o::H).take (i+1)=(o::H).take i++[(o::H).getD i []]:=by rw [getD_lt hlt];exact List.take_succ_eq_append_getElem hlt
                have hlen2:(bb::bs).length=(o::H).length:=by simp [hBd.len]
                rw [ptrAt_some (by rw [hlen2];exact hlt)];have hzl:=row_lt hz hzs.1;have HT2:=a0_ (And.intro htk (And.intro hi (And.intro hDl (And.intro hDn hlen2))));clear htk hzm hi hDl hlen2;generalize hzz:(o::H).getD i []=z at *;generalize hrb:(bb::bs).getD i 0=rb at *;have hrb':=Aside0.mk hrb;have hzz':=Aside0.mk hzz;clear hrb hzz;gi_wp2_with (refine⟨trivial,?_⟩;gi_at_call 96;refine (edges_in _ _ _ _ _).mono ?_;rintro e w' ⟨rfl,rfl⟩);have bN:=Boxed.new W 23 (.slice Az z.length cz);have hal:=below_alloc (Below.refl W.heap.size W) (.cells #[.slice Az z.length cz] 23);have hBd4:=hBd.later hal;have hE4:=R_kept hE (CellsKept.below hal);have bV4:=box_later bV hal;have hB4:=below_step hB hal;have hDs4:∀ D∈Ds,(W.alloc (.cells #[.slice Az z.length cz] 23)).heap[D]?=some (.deferred (some []))∧w.heap.size≤D:=fun D hD=>⟨blk_later (hDs D hD).1 hal,(hDs D hD).2⟩
                have hDlt:∀ D∈Ds,D<W.heap.size:=fun D hD=>(Array.getElem?_eq_some_iff.1 (hDs D hD).1).1
                have hsz4:(W.alloc (.cells #[.slice Az z.length cz] 23)).heap.size=W.heap.size+1:=by simp
                have hWn:=hB.size;have hnxt:=q2;clear hBd hE bV hDs;obtain⟨W4,hW4⟩:∃ W4,W.alloc (.cells #[.slice Az z.length cz] 23)=W4:=⟨_,rfl⟩;have q24:=pw_cell_below hal q2;rw [hW4] at bN hBd4 hE4 bV4 hB4 hDs4 hsz4 q24 ⊢
                clear hW4 hal;obtain⟨Bc,hBc⟩:∃ Bc,W.heap.size=Bc:=⟨_,rfl⟩;rw [hBc] at bN hsz4 hWn hDlt ⊢
                refine wpIn_rangeFunc_ownH rfl (by omega) (gf:=114) (lb:=#[.pointer (some ⟨Bc,0,none⟩)]) rfl trivial (enters_of Tryd.func114 (by kernel_rfl) rfl)
                  (edges_stops 8 (by omega) Bc w.heap.size Az cz z (by omega) hzl W4 (by omega) (by omega) bN.cell (Kd.C_below hz hB4)) (fun h k=>KpE.trans h k) (fun W l o o' hl _ _ _=>KpE.putObj W l o' (by omega) (by omega)) (Below.refl _ _) (fun _=>rfl)
                  (fun pre W'=>∃ v',Built w W' w.heap.size bb bs A0 c0 o H v'∧Kd.R k61 61 W' w.heap.size (fun _=>True) v' (allEdges ((o::H).take i)++pre.map fun (j:Fin z.length)=>edS z (j:Nat))∧Boxed W' (bb+1) 75 (.pointer (some ⟨bb,0,none⟩))∧Boxed W' Bc 23 (.slice Az z.length cz)∧(∀ D∈Ds,W'.heap[D]?=some (.deferred (some []))∧w.heap.size≤D)∧Below w.heap.size w W')
                  (fun _ _ _=>False)
                  (fun pre X Y row hs hg hr=>by
                    obtain⟨v',e1,e2,e3,e4,e5,e6⟩:=hs;have hk:=CellsKept.grown hg (fun r e=>(hr r e).2);refine⟨v',e1.kept hk,R_kept e2 hk,box_kept e3 hk,box_kept e4 hk,fun D hD=>⟨(hg.block D (Array.getElem?_eq_some_iff.1 (e5 D hD).1).1 (fun e=>?_)).trans (e5 D hD).1,(e5 D hD).2⟩,e6.grown hg e6.size (fun r e=>by have:=(hr r e).1;omega)⟩;have h1:=(hr D e.symm).1;have h2:=hDlt D hD
                    omega)
                  (fun _ _ _ _ _ hs _ _=>hs)
                  ⟨v,hBd4,by simpa using hE4,bV4,bN,hDs4,hB4⟩
                  (fun y a' W'=>∃ Bt,(W'.heap[Bt]?=some (segObj (edS z y))∧∃ v',W'.cell? ⟨bb,2,none⟩=some v'∧some Bt≠v'.ownBlock)∧a'={ tmps:=#[.agg #[.slice A0 o.length c0,.slice AH H.length cH],.pointer (some ⟨w.heap.size,0,none⟩),u2,u3,.pointer (some ⟨bb+1,0,none⟩),.pointer (some ⟨lb,0,none⟩),undef,u7,.pointer (some ⟨rb,0,none⟩),undef,.pointer (some ⟨Bt,0,none⟩),.pointer (some ⟨w.heap.size,1,none⟩),.slice AH H.length cH,.int .i64 (H.length:Int),.bool false,.bool false,.pointer (some ⟨w.heap.size,0,none⟩),.slice A0 o.length c0,.bool true,.bool false,.bool false,.pointer (some ⟨w.heap.size,0,none⟩),.slice A0 o.length c0,.agg #[.slice A0 o.length c0,.pointer none],.agg #[.slice A0 o.length c0,.pointer none,.slice none 0 0],.pointer (some ⟨bb,0,none⟩),.pointer (some ⟨bb,0,none⟩),.pointer (some ⟨bb,0,none⟩),.pointer (some ⟨bb,0,none⟩),.pointer (some ⟨w.heap.size,1,none⟩),.slice AH H.length cH,.int .i64 (H.length:Int),.int .i64 (H.length:Int),.bool false,u34,u35,u36,u37,u38,u39,u40,u41,u42,u43,u44,u45,u46,u47,u48,u49,.pointer (some ⟨bb,0,none⟩),.bool true,.bool false,.bool false,.pointer (some ⟨bb,0,none⟩),.bool true,.bool false,.bool false,.pointer (some ⟨bb,0,none⟩),.pointer (some ⟨bb,0,none⟩),.pointer (some ⟨bb,0,none⟩),.pointer (some ⟨rb,0,none⟩),.bool true,x63,x64,x65,x66,.pointer (some ⟨rb,0,none⟩),.pointer (some ⟨rb,0,none⟩),.pointer (some ⟨rb,0,none⟩),.slice Az z.length cz,.func (.func 114) #[] #[.pointer (some ⟨Bc,0,none⟩)],.int .i64 ((y:Nat):Int),.agg #[.int .i64 (edS z y).f0.f0,.int .i64 (edS z y).f0.f1,.int .i64 (edS z y).f1.f0,.int .i64 (edS z y).f1.f1],undef,undef,undef,undef,undef,undef,undef,undef,undef,undef,undef],defers:=[] })
                  (fun y a' _ X Y row hs hg hr=>by obtain⟨Bt,⟨e2,v',e4,e5⟩,e3⟩:=hs;exact⟨Bt,⟨segObj_own Bt (edS z y) () X Y row e2 hg (fun r e=>(hr r e).2),v',cell_kept e4 hg (fun r e=>(hr r e).2),e5⟩,e3⟩)
                  ?assign ?body ?done ?stop
                case assign =>
                  rintro l pre y W' K ⟨v',e1,e2,e3,e4,e5,e6⟩ hK;dsimp only [encE,edV];gi_wp2;have hk:=CellsKept.below (below_alloc (Below.refl W'.heap.size W') (segObj (edS z y)));exact hK _ _ ((KeepsOthers.alloc _ _).from _) (KpE.alloc _ _ _ _) ⟨v',e1.kept hk,R_kept e2 hk,box_kept e3 hk,box_kept e4 hk,fun D hD=>⟨blk_alloc' (e5 D hD).1 _,(e5 D hD).2⟩,below_alloc e6 _⟩ ⟨W'.heap.size,⟨World.alloc_heap_new W' _,v',(blk_cell (e1.kept hk).body 2).trans rfl,fun e=>by have:=R_hi e2 e.symm;omega⟩,rfl⟩
                case body =>
                  rintro l pre y a' W5 hl ⟨rr,hrr⟩ ⟨v',hBd5,hE5,bV5,bN5,hDs5,hB5⟩ ⟨Bt,⟨bT,v'',hv1,hv2⟩,rfl⟩ hlt5;have hBtn:some Bt≠v'.ownBlock:=by
                    have h1:W5.cell? ⟨bb,2,none⟩=some v':=(blk_cell hBd5.body 2).trans rfl;rw [h1] at hv1;cases hv1;exact hv2
                  clear hv1 hv2;have t0:W5.drew.cell? ⟨bb+1,0,none⟩=some (.pointer (some ⟨bb,0,none⟩)):=bV5.cell;have t1:W5.drew.cell? ⟨bb,2,none⟩=some v':=(blk_cell hBd5.body 2).trans rfl;have t2:W5.drew.cell? ⟨Bt,0,none⟩=some (.int .i64 (edS z y).f0.f0):=(blk_cell bT 0).trans rfl;have t3:W5.drew.cell? ⟨Bt,1,none⟩=some (.int .i64 (edS z y).f0.f1):=(blk_cell bT 1).trans rfl;have t4:W5.drew.cell? ⟨Bt,2,none⟩=some (.int .i64 (edS z y).f1.f0):=(blk_cell bT 2).trans rfl;have t5:W5.drew.cell? ⟨Bt,3,none⟩=some (.int .i64 (edS z y).f1.f1):=(blk_cell bT 3).trans rfl;have hal:=below_alloc (Below.refl W5.drew.heap.size W5.drew) (.cells #[.int .i64 (edS z y).f0.f0,.int .i64 (edS z y).f0.f1,.int .i64 (edS z y).f1.f0,.int .i64 (edS z y).f1.f1] 61);have hroom:((allEdges ((o::H).take i)++pre.map fun (j:Fin z.length)=>edS z (j:Nat)).length+1)*32≤140737488355328:=by
                    have h1:=allEdges_len (R:=(o::H).take i) (fun u hu=>hLen u (List.mem_of_mem_take hu));have h2:((o::H).take i).length≤3:=by
                      rw [List.length_take];simp only [List.length_cons];omega
                    rw [List.length_append,List.length_map];omega
                  have hu57:=Tryd.underlying57;have hu61:=Tryd.underlying61;gi_wp2;refine region_inRound (l:=l) (S:=fun w'=>w'.cell? ⟨bb+1,0,none⟩=some (.pointer (some ⟨bb,0,none⟩))∧w'.cell? ⟨bb,2,none⟩=some v'∧w'.cell? ⟨Bt,0,none⟩=some (.int .i64 (edS z y).f0.f0)∧w'.cell? ⟨Bt,1,none⟩=some (.int .i64 (edS z y).f0.f1)∧w'.cell? ⟨Bt,2,none⟩=some (.int .i64 (edS z y).f1.f0)∧w'.cell? ⟨Bt,3,none⟩=some (.int .i64 (edS z y).f1.f1)) (ds:=[10]) (bm 11 0) (by kernel_rfl) rfl rfl ?hd ?hno ⟨t0,t1,t2,t3,t4,t5⟩ (fun hHeld=>?_)
                  case hd =>
                    intro k ob hk c hc;have:=Array.mem_of_getElem? hk;simp only [List.mem_toArray,List.mem_cons,List.not_mem_nil,or_false] at this
                    rcases this with h | h | h | h | h | h | h | h | h | h | h <;> (rw [h] at hc;cases hc)
                  case hno=>exact fun⟨a,w,h⟩=>h.elim
                  refine tb6_ 0 74 (bm 11 1) hHeld ?_;refine tb6_ 1 75 (bm 11 3) hHeld ?_;refine pv_ 2 76 (bm 11 7) ?_;refine pv_ 3 77 (bm 11 15) ?_;refine tb6_ 4 78 (bm 11 31) hHeld ?_;refine tb6_ 5 79 (bm 11 63) hHeld ?_;refine one_ (i:=6) (N:=some 80) (bm 11 127) rfl rfl (by kernel_rfl) (by decide) (fun K hK=>?_);refine value_ (w1:=?_) (v:=?_) (by rfl) rfl ?_ ?_;rotate_left 2
                  · go_simp
                    constructor
                    · rfl
                    · rfl
                  refine hK.out _ _ ⟨pw_cell_below hal t0,pw_cell_below hal t1,pw_cell_below hal t2,pw_cell_below hal t3,pw_cell_below hal t4,pw_cell_below hal t5⟩ (fun hHeld=>?_);clear hK K;refine no_ (h:=?_);refine one_ (i:=7) (N:=some 81) (bm 11 255) rfl rfl (by kernel_rfl) (by decide) (fun K hK=>?_);refine Kd.R_append_step k61 (w0:=w) w.heap.size (by rfl) (.tmp 78) (.tmp 80) 57 61 (.agg #[(.int .i64 0),(.int .i64 0),(.int .i64 0),(.int .i64 0)]) 32 rfl Tryd.underlying57 info61 rfl (by decide) (by omega) v' (allEdges ((o::H).take i)++pre.map fun (j:Fin z.length)=>edS z (j:Nat)) (edS z y) [.int .i64 (edS z y).f0.f0,.int .i64 (edS z y).f0.f1,.int .i64 (edS z y).f1.f0,.int .i64 (edS z y).f1.f1] (fun _=>True) (fun _=>False) rfl rfl ?aP (fun _ hk=>hk.elim) (fun _ _=>trivial) (R_kept hE5 (CellsKept.below (below_drew1 (Below.refl _ W5)))) (below_drew1 hB5) (show w.heap.size≤W5.heap.size from hB5.size) ?aL ?_
                  (case aP=>exact k61_mkM _ _ _ (edS z y))
                  (case aL=>exact hroom)
                  intro v1 w6 ho hb6 hg6 hat6;have hne6:∀ (g:Nat) (t:TypeId) (cs:Array Value),W5.drew.heap[g]?=some (Obj.cells cs t (0,0))→t≠61→some g≠v'.ownBlock:=fun g t cs hgc ht=>R_ne hE5 (g:=g) (t:=t) (cs:=cs) hgc ht
                  have keep6:∀ (g:Nat) (t:TypeId) (cs:Array Value),W5.heap[g]?=some (Obj.cells cs t (0,0))→t≠61→w6.heap[g]?=some (Obj.cells cs t (0,0)):=fun g t cs hgc ht=>(hg6.block g (Array.getElem?_eq_some_iff.1 hgc).1 (hne6 g t cs hgc ht)).trans hgc
                  have hbd6:=keep6 _ _ _ hBd5.body (by decide);obtain⟨Aw,cw,ew⟩:=Kd.R_slice ho;generalize (allEdges ((o::H).take i)++(pre.map fun (j:Fin z.length)=>edS z (j:Nat))++[edS z y]).length=n6 at ew;subst ew;have u2:w6.cell? ⟨bb,2,none⟩=some v':=(blk_cell hbd6 2).trans rfl;have u3:=blk_frozen hbd6 2;have hbt6:=(hg6.block Bt (Array.getElem?_eq_some_iff.1 bT).1 hBtn).trans bT;have hbv6:=keep6 _ _ _ bV5 (by decide);refine hK.out _ _ ⟨(blk_cell hbv6 0).trans rfl,u2,(blk_cell hbt6 0).trans rfl,(blk_cell hbt6 1).trans rfl,(blk_cell hbt6 2).trans rfl,(blk_cell hbt6 3).trans rfl⟩ (fun hHeld=>?_);clear hK K;refine no_ (h:=?_);refine pv_ 8 82 (bm 11 511) ?_;refine pv_ 9 83 (bm 11 1023) ?_;refine last_ (i:=10) (N:=none) (bm 11 2047) rfl rfl (by kernel_rfl) (by decide) (fun K hK=>?_);refine skip_ (w1:=?_) (by rfl) rfl ?_ ?_;rotate_left
                  · go_simp
                    rfl
                  refine hK.out _ _ ?_;clear hK K;refine done_ (by kernel_rfl) ?_;have nonc:∀ (k:Nat) (ob:Obj),W5.heap[k]?=some ob→ob.isCells=false→(w6.setCell ⟨bb,2,none⟩ (.slice Aw n6 cw)).heap[k]?=some ob:=fun k ob h1 h2=>by
                    rw [Below.heap_setCell _ ⟨bb,2,none⟩ _ k (by rintro rfl;have e:=h1.symm.trans hBd5.body;cases e;cases h2)];exact (hg6.block k (Array.getElem?_eq_some_iff.1 h1).1 (R_nc hE5 h1 h2)).trans h1
                  have hBcb:Bc≠bb:=by
                    intro e;have h1:=bN5;rw [e] at h1;have h2:=congrArg (fun (u:Option Obj)=>match u with | some (Obj.cells _ t _)=>t | _=>0) ((show W5.heap[bb]?=_ from h1).symm.trans hBd5.body);exact absurd (show (23:Nat)=109 from h2) (by decide)
                  have hsz6:W5.heap.size≤(w6.setCell ⟨bb,2,none⟩ (.slice Aw n6 cw)).heap.size:=by simp only [World.setCell,Array.size_modify];exact hg6.size
                  refine⟨⟨hsz6,fun k ob _ h1 h2=>nonc k ob h1 h2⟩,⟨hsz6,fun k hk hl5=>?_⟩,_,(hBd5.kept (CellsKept.below (below_drew1 (Below.refl W5.heap.size W5)))).put hg6 hne6,?_,?_,?_,fun D hD=>⟨nonc D _ (hDs5 D hD).1 rfl,(hDs5 D hD).2⟩,hb6.setCell (p:=⟨bb,2,none⟩) hBd5.lo _⟩
                  · have hkb:k≠bb:=by
                      rcases hk with hk | rfl
                      · have:=hBd5.lo;omega
                      · exact hBcb
                    rw [Below.heap_setCell _ ⟨bb,2,none⟩ _ k hkb];refine hg6.block k hl5 ?_
                    rcases hk with hk | rfl
                    · intro e;have:=R_lo hE5 e.symm;omega
                    · exact hne6 k _ _ bN5 (by decide)
                  · have:=R_body ho hbd6 (.slice Aw n6 cw)
                    rw [List.map_append,← List.append_assoc];exact this
                  · exact (Below.heap_setCell _ ⟨bb,2,none⟩ _ (bb+1) (by simp)).trans hbv6
                  · exact (Below.heap_setCell _ ⟨bb,2,none⟩ _ Bc hBcb).trans (keep6 _ _ _ bN5 (by decide))
                case done =>
                  rintro D ys W6 hD rfl ⟨v',hBd6,hE6,bV6,bN6,hDs6,hB6⟩ hK6;obtain⟨_,_,_,r2,_⟩:=hBd6.rings hr0 i hlt;rw [hrb'.out] at r2;gi_wp2;obtain⟨k1,k2,k3,k4,k5⟩:=HT2.out;rw [hI.out,hμ.out];refine⟨⟨i+1,_,_,_,_,_,_,_,_,_,_,_,D::Ds,rfl,v',by simp only [List.length_cons] at hlt ⊢;omega,by simp [k3],?_,?_,hBd6,?_,bV6,hB6⟩,?_⟩
                  · rw [List.nodup_cons]
                    exact⟨fun hm=>by have:=hDlt D hm;omega,k4⟩
                  · intro E hE
                    rcases List.mem_cons.1 hE with rfl | hE
                    · exact⟨hK6,by omega⟩
                    · exact hDs6 E hE
                  · rw [k1]
                    unfold allEdges at hE6 ⊢
                    rw [List.flatMap_append]
                    simpa [edgesS] using hE6
                  · simp only [List.length_cons] at hlt
                    simp only [List.length_cons,List.length_map];omega
                case stop =>
                  rintro D c pre W6 _ _ h _;exact h.elim
              · have hiR:i=(o::H).length:=by omega
                have hlen2:(bb::bs).length=(o::H).length:=by simp [hBd.len]
                rw [ptrAt_none (by omega)];have hba:=hBd.bodyAt hB hr0 hc0;rw [hiR,List.take_length] at hE;have cV:=bV.cell;clear hlt hiR hi hDl hlen2;gi_wp2;have hD1:∀ D∈Ds,W.heap[D]?=some (.deferred (some [])):=fun D hD=>(hDs D hD).1
                refine leavesM_marks Ds W hDn hD1 (fun w' h1 h2 h3 h4 h5=>?_);have hk:=CellsKept.marks hD1 h1;have hBd':=hBd.kept hk;have hB':=marks_below hB (fun D hD=>(hDs D hD).2) h1 h2 h3 h4 h5;refine⟨.tuple #[.pointer (some ⟨bb,0,none⟩),.bool true],?_,fun _=>⟨bb,bs,v,rfl,hBd'.bodyAt hB' hr0 hc0,(blk_cell hBd'.body 2).trans rfl,R_kept hE hk,hB'⟩,fun h=>(by cases h)⟩;simp [results,Tryd.f52,go_sem]
end Go.Proofs.YtkefmnmoaomlhaaDoor.X
end
section
set_option linter.unusedVariables false
set_option linter.unusedSimpArgs false
namespace Go.Proofs.YtkefmnmoaomlhaaDoor.X
open Go.RowKit Go.Proofs.YtkefmnmoaomlhaaDoorW.PrintWords Go.Proofs.YtkefmnmoaomlhaaDoorW.PrintLast Go.Proofs.YtkefmnmoaomlhaaDoorW.PrintMore
open Mort
theorem blk_on {w w1:World}{g:Nat}{o:Obj}(hb:Below w.heap.size w w1)(h:w.heap[g]?=some o):w1.heap[g]?=some o:=blk_below h hb
section
variable (bs bp:Nat) (a b c d e f:Int) (w:World) (k:Nat)
 (hs:w.heap[bs]?=some (.cells #[.int .i64 a,.int .i64 b,.int .i64 c,.int .i64 d] 61 (0,0)))
 (hp:w.heap[bp]?=some (.cells #[.int .i64 e,.int .i64 f] 28 (0,0)))
include hs hp
set_option maxHeartbeats 1000000 in
set_option maxRecDepth 100000 in
theorem far1 {m n1 n2:Int}(h1:impl_between.f a b e f=some m)(h2:impl_FracOf.f k m 1=some (n1,n2,true)):
  Calls Tryd.prog 78 #[.pointer (some ⟨bs,0,none⟩),.pointer (some ⟨bp,0,none⟩)] w fun x w'=>x=.returned (.tuple #[.agg #[.int .i64 n1,.int .i64 n2],.bool true])∧Below w.heap.size w w':=by
 have hB0:=below_alloc (Below.refl w.heap.size w) (.cells #[.int .i64 0,.int .i64 0] 35);have hs1:=blk_on hB0 hs;have hp1:=blk_on hB0 hp;have hn1:=heap_alloc_new w (.cells #[.int .i64 0,.int .i64 0] 35);have HB0:=Aside0.mk hB0;have HN1:=Aside0.mk hn1;have H1:=Aside0.mk h1;have H2:=Aside0.mk h2;have q0:(w.alloc (.cells #[.int .i64 0,.int .i64 0] 35)).cell? ⟨bs,0,none⟩=some (.int .i64 a):=(blk_cell hs1 0).trans rfl;have q1:(w.alloc (.cells #[.int .i64 0,.int .i64 0] 35)).cell? ⟨bs,1,none⟩=some (.int .i64 b):=(blk_cell hs1 1).trans rfl;have q2:(w.alloc (.cells #[.int .i64 0,.int .i64 0] 35)).cell? ⟨bp,0,none⟩=some (.int .i64 e):=(blk_cell hp1 0).trans rfl;have q3:(w.alloc (.cells #[.int .i64 0,.int .i64 0] 35)).cell? ⟨bp,1,none⟩=some (.int .i64 f):=(blk_cell hp1 1).trans rfl;have hu1:=Tryd.underlying61;have hu2:=Tryd.underlying28;have hu3:=Tryd.underlying35;clear h1 h2 hs hp hs1 hp1 hn1 hB0;go_enter Tryd.func78,Tryd.ntmps78;go_wp2_with fail;refine (impl_between.calls a b e f m _ H1.out).mono ?_;rintro x w1 ⟨rfl,hb⟩;have HB1:=a0_ (below_step HB0.out hb);have HN2:=a0_ (blk_on hb HN1.out);clear hb q0 q1 q2 q3 HN1;go_wp2_with fail;refine (impl_FracOf.calls k m 1 n1 n2 true _ H2.out).mono ?_;rintro x w2 ⟨rfl,hb⟩;have HB2:=a0_ (below_step HB1.out hb);have HN3:=a0_ (blk_on hb HN2.out);have q0:w2.cell? ⟨w.heap.size,0,none⟩=some (.int .i64 0):=(blk_cell HN3.out 0).trans rfl;have q1:w2.cell? ⟨w.heap.size,1,none⟩=some (.int .i64 0):=(blk_cell HN3.out 1).trans rfl;have q2:=blk_frozen HN3.out 0;have q3:=blk_frozen HN3.out 1;clear hb HN2;go_wp2_with fail;refine bodyPost_ret (results_ct rfl _ _ w.heap.size 35 #[.int .i64 n1,.int .i64 n2] (0,0) _ rfl (by refine blk_put (cs:=#[.int .i64 n1,.int .i64 0]) ?_ 1 _ rfl;refine blk_put (cs:=#[.int .i64 0,.int .i64 0]) ?_ 0 _ rfl;exact HN3.out) Tryd.underlying35 rfl (by kernel_rfl)) rfl ?_
 exact⟨rfl,by refine below_set ?_ (Nat.le_refl _);refine below_set ?_ (Nat.le_refl _);exact HB2.out⟩
set_option maxHeartbeats 1000000 in
set_option maxRecDepth 100000 in
theorem far2 {t m n1 n2:Int}(h0:impl_cross.f a b c d e f=some t)(h1:impl_between.f a b c d=some m)(h2:impl_FracOf.f k (wrap64 (t*t)) m=some (n1,n2,true)):
  Calls Tryd.prog 80 #[.pointer (some ⟨bs,0,none⟩),.pointer (some ⟨bp,0,none⟩)] w fun x w'=>x=.returned (.tuple #[.agg #[.int .i64 n1,.int .i64 n2],.bool true])∧Below w.heap.size w w':=by
 have hB0:=below_alloc (Below.refl w.heap.size w) (.cells #[.int .i64 0,.int .i64 0] 35);have hs1:=blk_on hB0 hs;have hp1:=blk_on hB0 hp;have hn1:=heap_alloc_new w (.cells #[.int .i64 0,.int .i64 0] 35);have HB0:=Aside0.mk hB0;have HN1:=Aside0.mk hn1;have HS:=Aside0.mk hs;have HP:=Aside0.mk hp;have H0:=Aside0.mk h0;have H1:=Aside0.mk h1;have H2:=Aside0.mk h2;have q0:(w.alloc (.cells #[.int .i64 0,.int .i64 0] 35)).cell? ⟨bs,0,none⟩=some (.int .i64 a):=(blk_cell hs1 0).trans rfl;have q1:(w.alloc (.cells #[.int .i64 0,.int .i64 0] 35)).cell? ⟨bs,1,none⟩=some (.int .i64 b):=(blk_cell hs1 1).trans rfl;have q2:(w.alloc (.cells #[.int .i64 0,.int .i64 0] 35)).cell? ⟨bs,2,none⟩=some (.int .i64 c):=(blk_cell hs1 2).trans rfl;have q3:(w.alloc (.cells #[.int .i64 0,.int .i64 0] 35)).cell? ⟨bs,3,none⟩=some (.int .i64 d):=(blk_cell hs1 3).trans rfl;have q4:(w.alloc (.cells #[.int .i64 0,.int .i64 0] 35)).cell? ⟨bp,0,none⟩=some (.int .i64 e):=(blk_cell hp1 0).trans rfl;have q5:(w.alloc (.cells #[.int .i64 0,.int .i64 0] 35)).cell? ⟨bp,1,none⟩=some (.int .i64 f):=(blk_cell hp1 1).trans rfl;have hu1:=Tryd.underlying61;have hu2:=Tryd.underlying28;have hu3:=Tryd.underlying35;clear h0 h1 h2 hs hp hs1 hp1 hn1 hB0;go_enter Tryd.func80,Tryd.ntmps80;go_wp2_with fail;refine (impl_cross.calls a b c d e f t _ H0.out).mono ?_;rintro x w1 ⟨rfl,hb⟩;have HB1:=a0_ (below_step HB0.out hb);have HN2:=a0_ (blk_on hb HN1.out);have hs2:=blk_on HB1.out HS.out;have hp2:=blk_on HB1.out HP.out;clear hb q0 q1 q2 q3 q4 q5 HN1;have q0:w1.cell? ⟨bs,0,none⟩=some (.int .i64 a):=(blk_cell hs2 0).trans rfl;have q1:w1.cell? ⟨bs,1,none⟩=some (.int .i64 b):=(blk_cell hs2 1).trans rfl;have q2:w1.cell? ⟨bs,2,none⟩=some (.int .i64 c):=(blk_cell hs2 2).trans rfl;have q3:w1.cell? ⟨bs,3,none⟩=some (.int .i64 d):=(blk_cell hs2 3).trans rfl
 have q4:w1.cell? ⟨bp,0,none⟩=some (.int .i64 e):=(blk_cell hp2 0).trans rfl;have q5:w1.cell? ⟨bp,1,none⟩=some (.int .i64 f):=(blk_cell hp2 1).trans rfl;clear hs2 hp2;go_wp2_with fail;refine (impl_between.calls a b c d m _ H1.out).mono ?_;rintro x w2 ⟨rfl,hb⟩;have HB2:=a0_ (below_step HB1.out hb);have HN3:=a0_ (blk_on hb HN2.out);clear hb q0 q1 q2 q3 q4 q5 HN2;go_wp2_with fail;refine (impl_FracOf.calls k (wrap64 (t*t)) m n1 n2 true _ H2.out).mono ?_;rintro x w3 ⟨rfl,hb⟩;have HB3:=a0_ (below_step HB2.out hb);have HN4:=a0_ (blk_on hb HN3.out);have q0:w3.cell? ⟨w.heap.size,0,none⟩=some (.int .i64 0):=(blk_cell HN4.out 0).trans rfl;have q1:w3.cell? ⟨w.heap.size,1,none⟩=some (.int .i64 0):=(blk_cell HN4.out 1).trans rfl;have q2:=blk_frozen HN4.out 0;have q3:=blk_frozen HN4.out 1;clear hb HN3;go_wp2_with fail;refine bodyPost_ret (results_ct rfl _ _ w.heap.size 35 #[.int .i64 n1,.int .i64 n2] (0,0) _ rfl (by refine blk_put (cs:=#[.int .i64 n1,.int .i64 0]) ?_ 1 _ rfl;refine blk_put (cs:=#[.int .i64 0,.int .i64 0]) ?_ 0 _ rfl;exact HN4.out) Tryd.underlying35 rfl (by kernel_rfl)) rfl ?_;exact⟨rfl,by refine below_set ?_ (Nat.le_refl _);refine below_set ?_ (Nat.le_refl _);exact HB3.out⟩
set_option maxHeartbeats 1000000 in
set_option maxRecDepth 100000 in
theorem far3 {m n1 n2:Int}(h1:impl_between.f c d e f=some m)(h2:impl_FracOf.f k m 1=some (n1,n2,true)):
  Calls Tryd.prog 82 #[.pointer (some ⟨bs,0,none⟩),.pointer (some ⟨bp,0,none⟩)] w fun x w'=>x=.returned (.tuple #[.agg #[.int .i64 n1,.int .i64 n2],.bool true])∧Below w.heap.size w w':=by
 have hB0:=below_alloc (Below.refl w.heap.size w) (.cells #[.int .i64 0,.int .i64 0] 35);have hs1:=blk_on hB0 hs;have hp1:=blk_on hB0 hp;have hn1:=heap_alloc_new w (.cells #[.int .i64 0,.int .i64 0] 35);have HB0:=Aside0.mk hB0;have HN1:=Aside0.mk hn1;have H1:=Aside0.mk h1;have H2:=Aside0.mk h2;have q0:(w.alloc (.cells #[.int .i64 0,.int .i64 0] 35)).cell? ⟨bs,2,none⟩=some (.int .i64 c):=(blk_cell hs1 2).trans rfl;have q1:(w.alloc (.cells #[.int .i64 0,.int .i64 0] 35)).cell? ⟨bs,3,none⟩=some (.int .i64 d):=(blk_cell hs1 3).trans rfl;have q2:(w.alloc (.cells #[.int .i64 0,.int .i64 0] 35)).cell? ⟨bp,0,none⟩=some (.int .i64 e):=(blk_cell hp1 0).trans rfl;have q3:(w.alloc (.cells #[.int .i64 0,.int .i64 0] 35)).cell? ⟨bp,1,none⟩=some (.int .i64 f):=(blk_cell hp1 1).trans rfl;have hu1:=Tryd.underlying61;have hu2:=Tryd.underlying28;have hu3:=Tryd.underlying35;clear h1 h2 hs hp hs1 hp1 hn1 hB0;go_enter Tryd.func82,Tryd.ntmps82;go_wp2_with fail;refine (impl_between.calls c d e f m _ H1.out).mono ?_;rintro x w1 ⟨rfl,hb⟩;have HB1:=a0_ (below_step HB0.out hb);have HN2:=a0_ (blk_on hb HN1.out);clear hb q0 q1 q2 q3 HN1;go_wp2_with fail;refine (impl_FracOf.calls k m 1 n1 n2 true _ H2.out).mono ?_;rintro x w2 ⟨rfl,hb⟩;have HB2:=a0_ (below_step HB1.out hb);have HN3:=a0_ (blk_on hb HN2.out);have q0:w2.cell? ⟨w.heap.size,0,none⟩=some (.int .i64 0):=(blk_cell HN3.out 0).trans rfl;have q1:w2.cell? ⟨w.heap.size,1,none⟩=some (.int .i64 0):=(blk_cell HN3.out 1).trans rfl;have q2:=blk_frozen HN3.out 0;have q3:=blk_frozen HN3.out 1;clear hb HN2;go_wp2_with fail;refine bodyPost_ret (results_ct rfl _ _ w.heap.size 35 #[.int .i64 n1,.int .i64 n2] (0,0) _ rfl (by refine blk_put (cs:=#[.int .i64 n1,.int .i64 0]) ?_ 1 _ rfl;refine blk_put (cs:=#[.int .i64 0,.int .i64 0]) ?_ 0 _ rfl;exact HN3.out) Tryd.underlying35 rfl (by kernel_rfl)) rfl ?_
 exact⟨rfl,by refine below_set ?_ (Nat.le_refl _);refine below_set ?_ (Nat.le_refl _);exact HB2.out⟩
end
theorem boxes3 (w:World)(o1 o2 o3:Obj):Below w.heap.size w (((w.alloc o1).alloc o2).alloc o3)∧(((w.alloc o1).alloc o2).alloc o3).heap[w.heap.size]?=some o1 ∧
  (((w.alloc o1).alloc o2).alloc o3).heap[w.heap.size+1]?=some o2∧(((w.alloc o1).alloc o2).alloc o3).heap[w.heap.size+1+1]?=some o3:=by
 have e1:(w.alloc o1).heap.size=w.heap.size+1:=Array.size_push _;have e2:((w.alloc o1).alloc o2).heap.size=w.heap.size+1+1:=(Array.size_push (xs:=(w.alloc o1).heap) _).trans (congrArg (· + 1) e1);refine⟨below_alloc (below_alloc (below_alloc (Below.refl _ _) _) _) _,?_,?_,?_⟩
 ·
  exact blk_alloc (blk_alloc (heap_alloc_new w o1) _) _
 ·
  rw [← e1];exact blk_alloc (heap_alloc_new _ o2) _
 ·
  rw [← e2];exact heap_alloc_new _ o3
@[local go_sem] theorem run_store_fn (P:Program) (w:World) (a:Addr) (m:Mode) (fn:Fn) (first captured:Array Value):(store a (.func fn first captured) m).run P w=stored P w a (.func fn first captured) m:=run_store P w a _ m rfl
@[local go_sem] theorem run_store_nofn (P:Program) (w:World) (a:Addr) (m:Mode):(store a .nilFunc m).run P w=stored P w a .nilFunc m:=run_store P w a _ m rfl
section
variable (a b c d e f:Int) (w:World)
set_option maxHeartbeats 1000000 in
set_option maxRecDepth 100000 in
theorem segFar_bad1 (h:impl_SegOk.f a b c d=some false):
  Calls Tryd.prog 37 #[.agg #[.int .i64 a,.int .i64 b,.int .i64 c,.int .i64 d],.agg #[.int .i64 e,.int .i64 f]] w fun x w'=>x=.returned (.agg #[.int .i64 0,.int .i64 0])∧Below w.heap.size w w':=by
 have hu1:=Tryd.underlying61;have hu2:=Tryd.underlying28;have hu3:=Tryd.underlying35;have HB:=a0_ (boxes3 w (.cells #[.int .i64 a,.int .i64 b,.int .i64 c,.int .i64 d] 61) (.cells #[.int .i64 e,.int .i64 f] 28) (.cells #[.int .i64 0,.int .i64 0] 35));have H:=Aside0.mk h;clear h;go_enter Tryd.func37,Tryd.ntmps37;go_wp2_with fail;refine (impl_SegOk.calls a b c d false _ H.out).mono ?_;rintro x w1 ⟨rfl,hb⟩;have HS:=a0_ (blk_on hb HB.out.2.1);have HP:=a0_ (blk_on hb HB.out.2.2.1);have HR:=a0_ (blk_on hb HB.out.2.2.2);have HB1:=a0_ (below_step HB.out.1 hb);clear hb;have q0:w1.cell? ⟨w.heap.size+1+1,0,none⟩=some (.int .i64 0):=(blk_cell HR.out 0).trans rfl;have q1:w1.cell? ⟨w.heap.size+1+1,1,none⟩=some (.int .i64 0):=(blk_cell HR.out 1).trans rfl;have q2:=blk_frozen HR.out 0;have q3:=blk_frozen HR.out 1;go_wp2_with fail;refine bodyPost_ret (results_cell_row rfl _ _ (w.heap.size+1+1) 35 #[.int .i64 0,.int .i64 0] (0,0) _ rfl (by refine blk_put (cs:=#[.int .i64 0,.int .i64 0]) ?_ 1 _ rfl;refine blk_put (cs:=#[.int .i64 0,.int .i64 0]) ?_ 0 _ rfl;exact HR.out) Tryd.underlying35 rfl (by kernel_rfl)) rfl ?_;exact⟨rfl,by refine below_set ?_ (by omega);refine below_set ?_ (by omega);exact HB1.out⟩
set_option maxHeartbeats 1000000 in
set_option maxRecDepth 100000 in
theorem segFar_bad2 (h:impl_SegOk.f a b c d=some true)(h':impl_PtOk.f e f=some false):
  Calls Tryd.prog 37 #[.agg #[.int .i64 a,.int .i64 b,.int .i64 c,.int .i64 d],.agg #[.int .i64 e,.int .i64 f]] w fun x w'=>x=.returned (.agg #[.int .i64 0,.int .i64 0])∧Below w.heap.size w w':=by
 have hu1:=Tryd.underlying61;have hu2:=Tryd.underlying28;have hu3:=Tryd.underlying35;have HB:=a0_ (boxes3 w (.cells #[.int .i64 a,.int .i64 b,.int .i64 c,.int .i64 d] 61) (.cells #[.int .i64 e,.int .i64 f] 28) (.cells #[.int .i64 0,.int .i64 0] 35));have H:=Aside0.mk h;have H':=Aside0.mk h';clear h h';go_enter Tryd.func37,Tryd.ntmps37;go_wp2_with fail;refine (impl_SegOk.calls a b c d true _ H.out).mono ?_;rintro x w1 ⟨rfl,hb⟩;have HS:=a0_ (blk_on hb HB.out.2.1);have HP:=a0_ (blk_on hb HB.out.2.2.1);have HR:=a0_ (blk_on hb HB.out.2.2.2);have HB1:=a0_ (below_step HB.out.1 hb);clear hb;have q0:w1.cell? ⟨w.heap.size+1,0,none⟩=some (.int .i64 e):=(blk_cell HP.out 0).trans rfl;have q1:w1.cell? ⟨w.heap.size+1,1,none⟩=some (.int .i64 f):=(blk_cell HP.out 1).trans rfl;go_wp2_with fail;refine (impl_PtOk.calls e f false _ H'.out).mono ?_;rintro x w2 ⟨rfl,hb⟩;have HS2:=a0_ (blk_on hb HS.out);have HP2:=a0_ (blk_on hb HP.out);have HR2:=a0_ (blk_on hb HR.out);have HB2:=a0_ (below_step HB1.out hb);clear hb q0 q1;have q0:w2.cell? ⟨w.heap.size+1+1,0,none⟩=some (.int .i64 0):=(blk_cell HR2.out 0).trans rfl;have q1:w2.cell? ⟨w.heap.size+1+1,1,none⟩=some (.int .i64 0):=(blk_cell HR2.out 1).trans rfl;have q2:=blk_frozen HR2.out 0;have q3:=blk_frozen HR2.out 1;go_wp2_with fail;refine bodyPost_ret (results_cell_row rfl _ _ (w.heap.size+1+1) 35 #[.int .i64 0,.int .i64 0] (0,0) _ rfl (by refine blk_put (cs:=#[.int .i64 0,.int .i64 0]) ?_ 1 _ rfl;refine blk_put (cs:=#[.int .i64 0,.int .i64 0]) ?_ 0 _ rfl;exact HR2.out) Tryd.underlying35 rfl (by kernel_rfl)) rfl ?_;exact⟨rfl,by refine below_set ?_ (by omega);refine below_set ?_ (by omega);exact HB2.out⟩
set_option maxHeartbeats 1000000 in
set_option maxRecDepth 100000 in
theorem segFar_way1 (k:Nat){m t n1 n2:Int}(h:impl_SegOk.f a b c d=some true)(h':impl_PtOk.f e f=some true)(h2:impl_standOf.f a b c d e f=some 0)(hw:impl_between.f a b e f=some m)(hf:impl_FracOf.f k m 1=some (n1,n2,true)):
  Calls Tryd.prog 37 #[.agg #[.int .i64 a,.int .i64 b,.int .i64 c,.int .i64 d],.agg #[.int .i64 e,.int .i64 f]] w fun x w'=>x=.returned (.agg #[.int .i64 n1,.int .i64 n2])∧Below w.heap.size w w':=by
 have hu1:=Tryd.underlying61;have hu2:=Tryd.underlying28;have hu3:=Tryd.underlying35;have HB:=a0_ (boxes3 w (.cells #[.int .i64 a,.int .i64 b,.int .i64 c,.int .i64 d] 61) (.cells #[.int .i64 e,.int .i64 f] 28) (.cells #[.int .i64 0,.int .i64 0] 35));have H:=Aside0.mk h;have H':=Aside0.mk h';have H2:=Aside0.mk h2;have HW:=Aside0.mk hw;have HF:=Aside0.mk hf;clear h h' h2 hw hf;go_enter Tryd.func37,Tryd.ntmps37;go_wp2_with fail;refine (impl_SegOk.calls a b c d true _ H.out).mono ?_;rintro x w1 ⟨rfl,hb⟩;have HS:=a0_ (blk_on hb HB.out.2.1);have HP:=a0_ (blk_on hb HB.out.2.2.1);have HR:=a0_ (blk_on hb HB.out.2.2.2);have HB1:=a0_ (below_step HB.out.1 hb);clear hb;have q0:w1.cell? ⟨w.heap.size+1,0,none⟩=some (.int .i64 e):=(blk_cell HP.out 0).trans rfl;have q1:w1.cell? ⟨w.heap.size+1,1,none⟩=some (.int .i64 f):=(blk_cell HP.out 1).trans rfl;go_wp2_with fail;refine (impl_PtOk.calls e f true _ H'.out).mono ?_;rintro x w2 ⟨rfl,hb⟩;have HS2:=a0_ (blk_on hb HS.out);have HP2:=a0_ (blk_on hb HP.out);have HR2:=a0_ (blk_on hb HR.out);have HB2:=a0_ (below_step HB1.out hb);clear hb q0 q1;have q0:∀ o,(w2.alloc o).cell? ⟨w.heap.size,0,none⟩=some (.int .i64 a):=fun o=>(blk_cell (blk_alloc HS2.out o) 0).trans rfl
 have q1:∀ o,(w2.alloc o).cell? ⟨w.heap.size,1,none⟩=some (.int .i64 b):=fun o=>(blk_cell (blk_alloc HS2.out o) 1).trans rfl
 have q2:∀ o,(w2.alloc o).cell? ⟨w.heap.size,2,none⟩=some (.int .i64 c):=fun o=>(blk_cell (blk_alloc HS2.out o) 2).trans rfl
 have q3:∀ o,(w2.alloc o).cell? ⟨w.heap.size,3,none⟩=some (.int .i64 d):=fun o=>(blk_cell (blk_alloc HS2.out o) 3).trans rfl
 have q4:∀ o,(w2.alloc o).cell? ⟨w.heap.size+1,0,none⟩=some (.int .i64 e):=fun o=>(blk_cell (blk_alloc HP2.out o) 0).trans rfl
 have q5:∀ o,(w2.alloc o).cell? ⟨w.heap.size+1,1,none⟩=some (.int .i64 f):=fun o=>(blk_cell (blk_alloc HP2.out o) 1).trans rfl
 have HQ:=a0_ (heap_alloc_new w2 (.cells #[.nilFunc,.nilFunc,.nilFunc] 114));have r0:(w2.alloc (.cells #[.nilFunc,.nilFunc,.nilFunc] 114)).cell? ⟨w2.heap.size,0,none⟩=some .nilFunc:=(blk_cell HQ.out 0).trans rfl;have s0:=blk_frozen HQ.out 0;have r1:(w2.alloc (.cells #[.nilFunc,.nilFunc,.nilFunc] 114)).cell? ⟨w2.heap.size,1,none⟩=some .nilFunc:=(blk_cell HQ.out 1).trans rfl;have s1:=blk_frozen HQ.out 1;have r2:(w2.alloc (.cells #[.nilFunc,.nilFunc,.nilFunc] 114)).cell? ⟨w2.heap.size,2,none⟩=some .nilFunc:=(blk_cell HQ.out 2).trans rfl;have s2:=blk_frozen HQ.out 2;go_wp2_with fail;refine (impl_standOf.calls a b c d e f 0 _ H2.out).mono ?_;rintro x w3 ⟨rfl,hb⟩;have HK:=a0_ (blk_on hb (heap_alloc_new w2 (.cells #[.func (.func 78) #[] #[.pointer (some ⟨w.heap.size,0,none⟩),.pointer (some ⟨w.heap.size+1,0,none⟩)],.func (.func 80) #[] #[.pointer (some ⟨w.heap.size,0,none⟩),.pointer (some ⟨w.heap.size+1,0,none⟩)],.func (.func 82) #[] #[.pointer (some ⟨w.heap.size,0,none⟩),.pointer (some ⟨w.heap.size+1,0,none⟩)]] 114)));have HS3:=a0_ (blk_on hb (blk_alloc HS2.out (.cells #[.func (.func 78) #[] #[.pointer (some ⟨w.heap.size,0,none⟩),.pointer (some ⟨w.heap.size+1,0,none⟩)],.func (.func 80) #[] #[.pointer (some ⟨w.heap.size,0,none⟩),.pointer (some ⟨w.heap.size+1,0,none⟩)],.func (.func 82) #[] #[.pointer (some ⟨w.heap.size,0,none⟩),.pointer (some ⟨w.heap.size+1,0,none⟩)]] 114)));have HP3:=a0_ (blk_on hb (blk_alloc HP2.out (.cells #[.func (.func 78) #[] #[.pointer (some ⟨w.heap.size,0,none⟩),.pointer (some ⟨w.heap.size+1,0,none⟩)],.func (.func 80) #[] #[.pointer (some ⟨w.heap.size,0,none⟩),.pointer (some ⟨w.heap.size+1,0,none⟩)],.func (.func 82) #[] #[.pointer (some ⟨w.heap.size,0,none⟩),.pointer (some ⟨w.heap.size+1,0,none⟩)]] 114)))
 have HR3:=a0_ (blk_on hb (blk_alloc HR2.out (.cells #[.func (.func 78) #[] #[.pointer (some ⟨w.heap.size,0,none⟩),.pointer (some ⟨w.heap.size+1,0,none⟩)],.func (.func 80) #[] #[.pointer (some ⟨w.heap.size,0,none⟩),.pointer (some ⟨w.heap.size+1,0,none⟩)],.func (.func 82) #[] #[.pointer (some ⟨w.heap.size,0,none⟩),.pointer (some ⟨w.heap.size+1,0,none⟩)]] 114)));have HB3:=a0_ (below_step (below_alloc HB2.out (.cells #[.func (.func 78) #[] #[.pointer (some ⟨w.heap.size,0,none⟩),.pointer (some ⟨w.heap.size+1,0,none⟩)],.func (.func 80) #[] #[.pointer (some ⟨w.heap.size,0,none⟩),.pointer (some ⟨w.heap.size+1,0,none⟩)],.func (.func 82) #[] #[.pointer (some ⟨w.heap.size,0,none⟩),.pointer (some ⟨w.heap.size+1,0,none⟩)]] 114)) hb);clear hb q0 q1 q2 q3 q4 q5 r0 r1 r2 s0 s1 s2 HQ;have q0:w3.cell? ⟨w2.heap.size,0,none⟩=some (.func (.func 78) #[] #[.pointer (some ⟨w.heap.size,0,none⟩),.pointer (some ⟨w.heap.size+1,0,none⟩)]):=(blk_cell HK.out 0).trans rfl;go_wp2_with fail;refine (far1 w.heap.size (w.heap.size+1) a b c d e f w3 k HS3.out HP3.out HW.out HF.out).mono ?_;rintro x w4 ⟨rfl,hb⟩;have HR4:=a0_ (blk_on hb HR3.out);have HB4:=a0_ (below_step HB3.out hb);clear hb q0;have HN:=a0_ (heap_alloc_new w4 (.cells #[.int .i64 0,.int .i64 0] 35));have u0:(w4.alloc (.cells #[.int .i64 0,.int .i64 0] 35)).cell? ⟨w4.heap.size,0,none⟩=some (.int .i64 0):=(blk_cell HN.out 0).trans rfl;have u1:(w4.alloc (.cells #[.int .i64 0,.int .i64 0] 35)).cell? ⟨w4.heap.size,1,none⟩=some (.int .i64 0):=(blk_cell HN.out 1).trans rfl;have u2:=blk_frozen HN.out 0;have u3:=blk_frozen HN.out 1;have q0:∀ o,(w4.alloc o).cell? ⟨w.heap.size+1+1,0,none⟩=some (.int .i64 0):=fun o=>(blk_cell (blk_alloc HR4.out o) 0).trans rfl
 have q1:∀ o,(w4.alloc o).cell? ⟨w.heap.size+1+1,1,none⟩=some (.int .i64 0):=fun o=>(blk_cell (blk_alloc HR4.out o) 1).trans rfl
 have q2:=fun o=>blk_frozen (blk_alloc HR4.out o) 0
 have q3:=fun o=>blk_frozen (blk_alloc HR4.out o) 1
 go_wp2_with fail;refine bodyPost_ret (results_cell_row rfl _ _ (w.heap.size+1+1) 35 #[.int .i64 n1,.int .i64 n2] (0,0) _ rfl (by refine blk_put (cs:=#[.int .i64 n1,.int .i64 0]) ?_ 1 _ rfl;refine blk_put (cs:=#[.int .i64 0,.int .i64 0]) ?_ 0 _ rfl;exact blk_alloc HR4.out _) Tryd.underlying35 rfl (by kernel_rfl)) rfl ?_;exact⟨rfl,by refine below_set ?_ (by omega);refine below_set ?_ (by omega);exact below_alloc HB4.out _⟩
set_option maxHeartbeats 1000000 in
set_option maxRecDepth 100000 in
theorem segFar_way2 (k:Nat){m t n1 n2:Int}(h:impl_SegOk.f a b c d=some true)(h':impl_PtOk.f e f=some true)(h2:impl_standOf.f a b c d e f=some 1)(hv:impl_cross.f a b c d e f=some t)(hw:impl_between.f a b c d=some m)(hf:impl_FracOf.f k (wrap64 (t*t)) m=some (n1,n2,true)):
  Calls Tryd.prog 37 #[.agg #[.int .i64 a,.int .i64 b,.int .i64 c,.int .i64 d],.agg #[.int .i64 e,.int .i64 f]] w fun x w'=>x=.returned (.agg #[.int .i64 n1,.int .i64 n2])∧Below w.heap.size w w':=by
 have hu1:=Tryd.underlying61;have hu2:=Tryd.underlying28;have hu3:=Tryd.underlying35;have HB:=a0_ (boxes3 w (.cells #[.int .i64 a,.int .i64 b,.int .i64 c,.int .i64 d] 61) (.cells #[.int .i64 e,.int .i64 f] 28) (.cells #[.int .i64 0,.int .i64 0] 35));have H:=Aside0.mk h;have H':=Aside0.mk h';have H2:=Aside0.mk h2;have HW:=Aside0.mk hw;have HF:=Aside0.mk hf;clear h h' h2 hw hf;have HV:=Aside0.mk hv;clear hv;go_enter Tryd.func37,Tryd.ntmps37;go_wp2_with fail;refine (impl_SegOk.calls a b c d true _ H.out).mono ?_;rintro x w1 ⟨rfl,hb⟩;have HS:=a0_ (blk_on hb HB.out.2.1);have HP:=a0_ (blk_on hb HB.out.2.2.1);have HR:=a0_ (blk_on hb HB.out.2.2.2);have HB1:=a0_ (below_step HB.out.1 hb);clear hb;have q0:w1.cell? ⟨w.heap.size+1,0,none⟩=some (.int .i64 e):=(blk_cell HP.out 0).trans rfl;have q1:w1.cell? ⟨w.heap.size+1,1,none⟩=some (.int .i64 f):=(blk_cell HP.out 1).trans rfl;go_wp2_with fail;refine (impl_PtOk.calls e f true _ H'.out).mono ?_;rintro x w2 ⟨rfl,hb⟩;have HS2:=a0_ (blk_on hb HS.out);have HP2:=a0_ (blk_on hb HP.out);have HR2:=a0_ (blk_on hb HR.out);have HB2:=a0_ (below_step HB1.out hb);clear hb q0 q1;have q0:∀ o,(w2.alloc o).cell? ⟨w.heap.size,0,none⟩=some (.int .i64 a):=fun o=>(blk_cell (blk_alloc HS2.out o) 0).trans rfl
 have q1:∀ o,(w2.alloc o).cell? ⟨w.heap.size,1,none⟩=some (.int .i64 b):=fun o=>(blk_cell (blk_alloc HS2.out o) 1).trans rfl
 have q2:∀ o,(w2.alloc o).cell? ⟨w.heap.size,2,none⟩=some (.int .i64 c):=fun o=>(blk_cell (blk_alloc HS2.out o) 2).trans rfl
 have q3:∀ o,(w2.alloc o).cell? ⟨w.heap.size,3,none⟩=some (.int .i64 d):=fun o=>(blk_cell (blk_alloc HS2.out o) 3).trans rfl
 have q4:∀ o,(w2.alloc o).cell? ⟨w.heap.size+1,0,none⟩=some (.int .i64 e):=fun o=>(blk_cell (blk_alloc HP2.out o) 0).trans rfl
 have q5:∀ o,(w2.alloc o).cell? ⟨w.heap.size+1,1,none⟩=some (.int .i64 f):=fun o=>(blk_cell (blk_alloc HP2.out o) 1).trans rfl
 have HQ:=a0_ (heap_alloc_new w2 (.cells #[.nilFunc,.nilFunc,.nilFunc] 114));have r0:(w2.alloc (.cells #[.nilFunc,.nilFunc,.nilFunc] 114)).cell? ⟨w2.heap.size,0,none⟩=some .nilFunc:=(blk_cell HQ.out 0).trans rfl;have s0:=blk_frozen HQ.out 0;have r1:(w2.alloc (.cells #[.nilFunc,.nilFunc,.nilFunc] 114)).cell? ⟨w2.heap.size,1,none⟩=some .nilFunc:=(blk_cell HQ.out 1).trans rfl;have s1:=blk_frozen HQ.out 1;have r2:(w2.alloc (.cells #[.nilFunc,.nilFunc,.nilFunc] 114)).cell? ⟨w2.heap.size,2,none⟩=some .nilFunc:=(blk_cell HQ.out 2).trans rfl;have s2:=blk_frozen HQ.out 2;go_wp2_with fail;refine (impl_standOf.calls a b c d e f 1 _ H2.out).mono ?_;rintro x w3 ⟨rfl,hb⟩;have HK:=a0_ (blk_on hb (heap_alloc_new w2 (.cells #[.func (.func 78) #[] #[.pointer (some ⟨w.heap.size,0,none⟩),.pointer (some ⟨w.heap.size+1,0,none⟩)],.func (.func 80) #[] #[.pointer (some ⟨w.heap.size,0,none⟩),.pointer (some ⟨w.heap.size+1,0,none⟩)],.func (.func 82) #[] #[.pointer (some ⟨w.heap.size,0,none⟩),.pointer (some ⟨w.heap.size+1,0,none⟩)]] 114)));have HS3:=a0_ (blk_on hb (blk_alloc HS2.out (.cells #[.func (.func 78) #[] #[.pointer (some ⟨w.heap.size,0,none⟩),.pointer (some ⟨w.heap.size+1,0,none⟩)],.func (.func 80) #[] #[.pointer (some ⟨w.heap.size,0,none⟩),.pointer (some ⟨w.heap.size+1,0,none⟩)],.func (.func 82) #[] #[.pointer (some ⟨w.heap.size,0,none⟩),.pointer (some ⟨w.heap.size+1,0,none⟩)]] 114)));have HP3:=a0_ (blk_on hb (blk_alloc HP2.out (.cells #[.func (.func 78) #[] #[.pointer (some ⟨w.heap.size,0,none⟩),.pointer (some ⟨w.heap.size+1,0,none⟩)],.func (.func 80) #[] #[.pointer (some ⟨w.heap.size,0,none⟩),.pointer (some ⟨w.heap.size+1,0,none⟩)],.func (.func 82) #[] #[.pointer (some ⟨w.heap.size,0,none⟩),.pointer (some ⟨w.heap.size+1,0,none⟩)]] 114)))
 have HR3:=a0_ (blk_on hb (blk_alloc HR2.out (.cells #[.func (.func 78) #[] #[.pointer (some ⟨w.heap.size,0,none⟩),.pointer (some ⟨w.heap.size+1,0,none⟩)],.func (.func 80) #[] #[.pointer (some ⟨w.heap.size,0,none⟩),.pointer (some ⟨w.heap.size+1,0,none⟩)],.func (.func 82) #[] #[.pointer (some ⟨w.heap.size,0,none⟩),.pointer (some ⟨w.heap.size+1,0,none⟩)]] 114)));have HB3:=a0_ (below_step (below_alloc HB2.out (.cells #[.func (.func 78) #[] #[.pointer (some ⟨w.heap.size,0,none⟩),.pointer (some ⟨w.heap.size+1,0,none⟩)],.func (.func 80) #[] #[.pointer (some ⟨w.heap.size,0,none⟩),.pointer (some ⟨w.heap.size+1,0,none⟩)],.func (.func 82) #[] #[.pointer (some ⟨w.heap.size,0,none⟩),.pointer (some ⟨w.heap.size+1,0,none⟩)]] 114)) hb);clear hb q0 q1 q2 q3 q4 q5 r0 r1 r2 s0 s1 s2 HQ;have q0:w3.cell? ⟨w2.heap.size,1,none⟩=some (.func (.func 80) #[] #[.pointer (some ⟨w.heap.size,0,none⟩),.pointer (some ⟨w.heap.size+1,0,none⟩)]):=(blk_cell HK.out 1).trans rfl;go_wp2_with fail;refine (far2 w.heap.size (w.heap.size+1) a b c d e f w3 k HS3.out HP3.out HV.out HW.out HF.out).mono ?_;rintro x w4 ⟨rfl,hb⟩;have HR4:=a0_ (blk_on hb HR3.out);have HB4:=a0_ (below_step HB3.out hb);clear hb q0;have HN:=a0_ (heap_alloc_new w4 (.cells #[.int .i64 0,.int .i64 0] 35));have u0:(w4.alloc (.cells #[.int .i64 0,.int .i64 0] 35)).cell? ⟨w4.heap.size,0,none⟩=some (.int .i64 0):=(blk_cell HN.out 0).trans rfl;have u1:(w4.alloc (.cells #[.int .i64 0,.int .i64 0] 35)).cell? ⟨w4.heap.size,1,none⟩=some (.int .i64 0):=(blk_cell HN.out 1).trans rfl;have u2:=blk_frozen HN.out 0;have u3:=blk_frozen HN.out 1;have q0:∀ o,(w4.alloc o).cell? ⟨w.heap.size+1+1,0,none⟩=some (.int .i64 0):=fun o=>(blk_cell (blk_alloc HR4.out o) 0).trans rfl
 have q1:∀ o,(w4.alloc o).cell? ⟨w.heap.size+1+1,1,none⟩=some (.int .i64 0):=fun o=>(blk_cell (blk_alloc HR4.out o) 1).trans rfl
 have q2:=fun o=>blk_frozen (blk_alloc HR4.out o) 0
 have q3:=fun o=>blk_frozen (blk_alloc HR4.out o) 1
 go_wp2_with fail;refine bodyPost_ret (results_cell_row rfl _ _ (w.heap.size+1+1) 35 #[.int .i64 n1,.int .i64 n2] (0,0) _ rfl (by refine blk_put (cs:=#[.int .i64 n1,.int .i64 0]) ?_ 1 _ rfl;refine blk_put (cs:=#[.int .i64 0,.int .i64 0]) ?_ 0 _ rfl;exact blk_alloc HR4.out _) Tryd.underlying35 rfl (by kernel_rfl)) rfl ?_;exact⟨rfl,by refine below_set ?_ (by omega);refine below_set ?_ (by omega);exact below_alloc HB4.out _⟩
set_option maxHeartbeats 1000000 in
set_option maxRecDepth 100000 in
theorem segFar_way3 (k:Nat){m t n1 n2:Int}(h:impl_SegOk.f a b c d=some true)(h':impl_PtOk.f e f=some true)(h2:impl_standOf.f a b c d e f=some 2)(hw:impl_between.f c d e f=some m)(hf:impl_FracOf.f k m 1=some (n1,n2,true)):
  Calls Tryd.prog 37 #[.agg #[.int .i64 a,.int .i64 b,.int .i64 c,.int .i64 d],.agg #[.int .i64 e,.int .i64 f]] w fun x w'=>x=.returned (.agg #[.int .i64 n1,.int .i64 n2])∧Below w.heap.size w w':=by
 have hu1:=Tryd.underlying61;have hu2:=Tryd.underlying28;have hu3:=Tryd.underlying35;have HB:=a0_ (boxes3 w (.cells #[.int .i64 a,.int .i64 b,.int .i64 c,.int .i64 d] 61) (.cells #[.int .i64 e,.int .i64 f] 28) (.cells #[.int .i64 0,.int .i64 0] 35));have H:=Aside0.mk h;have H':=Aside0.mk h';have H2:=Aside0.mk h2;have HW:=Aside0.mk hw;have HF:=Aside0.mk hf;clear h h' h2 hw hf;go_enter Tryd.func37,Tryd.ntmps37;go_wp2_with fail;refine (impl_SegOk.calls a b c d true _ H.out).mono ?_;rintro x w1 ⟨rfl,hb⟩;have HS:=a0_ (blk_on hb HB.out.2.1);have HP:=a0_ (blk_on hb HB.out.2.2.1);have HR:=a0_ (blk_on hb HB.out.2.2.2);have HB1:=a0_ (below_step HB.out.1 hb);clear hb;have q0:w1.cell? ⟨w.heap.size+1,0,none⟩=some (.int .i64 e):=(blk_cell HP.out 0).trans rfl;have q1:w1.cell? ⟨w.heap.size+1,1,none⟩=some (.int .i64 f):=(blk_cell HP.out 1).trans rfl;go_wp2_with fail;refine (impl_PtOk.calls e f true _ H'.out).mono ?_;rintro x w2 ⟨rfl,hb⟩;have HS2:=a0_ (blk_on hb HS.out);have HP2:=a0_ (blk_on hb HP.out);have HR2:=a0_ (blk_on hb HR.out);have HB2:=a0_ (below_step HB1.out hb);clear hb q0 q1;have q0:∀ o,(w2.alloc o).cell? ⟨w.heap.size,0,none⟩=some (.int .i64 a):=fun o=>(blk_cell (blk_alloc HS2.out o) 0).trans rfl
 have q1:∀ o,(w2.alloc o).cell? ⟨w.heap.size,1,none⟩=some (.int .i64 b):=fun o=>(blk_cell (blk_alloc HS2.out o) 1).trans rfl
 have q2:∀ o,(w2.alloc o).cell? ⟨w.heap.size,2,none⟩=some (.int .i64 c):=fun o=>(blk_cell (blk_alloc HS2.out o) 2).trans rfl
 have q3:∀ o,(w2.alloc o).cell? ⟨w.heap.size,3,none⟩=some (.int .i64 d):=fun o=>(blk_cell (blk_alloc HS2.out o) 3).trans rfl
 have q4:∀ o,(w2.alloc o).cell? ⟨w.heap.size+1,0,none⟩=some (.int .i64 e):=fun o=>(blk_cell (blk_alloc HP2.out o) 0).trans rfl
 have q5:∀ o,(w2.alloc o).cell? ⟨w.heap.size+1,1,none⟩=some (.int .i64 f):=fun o=>(blk_cell (blk_alloc HP2.out o) 1).trans rfl
 have HQ:=a0_ (heap_alloc_new w2 (.cells #[.nilFunc,.nilFunc,.nilFunc] 114));have r0:(w2.alloc (.cells #[.nilFunc,.nilFunc,.nilFunc] 114)).cell? ⟨w2.heap.size,0,none⟩=some .nilFunc:=(blk_cell HQ.out 0).trans rfl;have s0:=blk_frozen HQ.out 0;have r1:(w2.alloc (.cells #[.nilFunc,.nilFunc,.nilFunc] 114)).cell? ⟨w2.heap.size,1,none⟩=some .nilFunc:=(blk_cell HQ.out 1).trans rfl;have s1:=blk_frozen HQ.out 1;have r2:(w2.alloc (.cells #[.nilFunc,.nilFunc,.nilFunc] 114)).cell? ⟨w2.heap.size,2,none⟩=some .nilFunc:=(blk_cell HQ.out 2).trans rfl;have s2:=blk_frozen HQ.out 2;go_wp2_with fail;refine (impl_standOf.calls a b c d e f 2 _ H2.out).mono ?_;rintro x w3 ⟨rfl,hb⟩;have HK:=a0_ (blk_on hb (heap_alloc_new w2 (.cells #[.func (.func 78) #[] #[.pointer (some ⟨w.heap.size,0,none⟩),.pointer (some ⟨w.heap.size+1,0,none⟩)],.func (.func 80) #[] #[.pointer (some ⟨w.heap.size,0,none⟩),.pointer (some ⟨w.heap.size+1,0,none⟩)],.func (.func 82) #[] #[.pointer (some ⟨w.heap.size,0,none⟩),.pointer (some ⟨w.heap.size+1,0,none⟩)]] 114)));have HS3:=a0_ (blk_on hb (blk_alloc HS2.out (.cells #[.func (.func 78) #[] #[.pointer (some ⟨w.heap.size,0,none⟩),.pointer (some ⟨w.heap.size+1,0,none⟩)],.func (.func 80) #[] #[.pointer (some ⟨w.heap.size,0,none⟩),.pointer (some ⟨w.heap.size+1,0,none⟩)],.func (.func 82) #[] #[.pointer (some ⟨w.heap.size,0,none⟩),.pointer (some ⟨w.heap.size+1,0,none⟩)]] 114)));have HP3:=a0_ (blk_on hb (blk_alloc HP2.out (.cells #[.func (.func 78) #[] #[.pointer (some ⟨w.heap.size,0,none⟩),.pointer (some ⟨w.heap.size+1,0,none⟩)],.func (.func 80) #[] #[.pointer (some ⟨w.heap.size,0,none⟩),.pointer (some ⟨w.heap.size+1,0,none⟩)],.func (.func 82) #[] #[.pointer (some ⟨w.heap.size,0,none⟩),.pointer (some ⟨w.heap.size+1,0,none⟩)]] 114)))
 have HR3:=a0_ (blk_on hb (blk_alloc HR2.out (.cells #[.func (.func 78) #[] #[.pointer (some ⟨w.heap.size,0,none⟩),.pointer (some ⟨w.heap.size+1,0,none⟩)],.func (.func 80) #[] #[.pointer (some ⟨w.heap.size,0,none⟩),.pointer (some ⟨w.heap.size+1,0,none⟩)],.func (.func 82) #[] #[.pointer (some ⟨w.heap.size,0,none⟩),.pointer (some ⟨w.heap.size+1,0,none⟩)]] 114)));have HB3:=a0_ (below_step (below_alloc HB2.out (.cells #[.func (.func 78) #[] #[.pointer (some ⟨w.heap.size,0,none⟩),.pointer (some ⟨w.heap.size+1,0,none⟩)],.func (.func 80) #[] #[.pointer (some ⟨w.heap.size,0,none⟩),.pointer (some ⟨w.heap.size+1,0,none⟩)],.func (.func 82) #[] #[.pointer (some ⟨w.heap.size,0,none⟩),.pointer (some ⟨w.heap.size+1,0,none⟩)]] 114)) hb);clear hb q0 q1 q2 q3 q4 q5 r0 r1 r2 s0 s1 s2 HQ;have q0:w3.cell? ⟨w2.heap.size,2,none⟩=some (.func (.func 82) #[] #[.pointer (some ⟨w.heap.size,0,none⟩),.pointer (some ⟨w.heap.size+1,0,none⟩)]):=(blk_cell HK.out 2).trans rfl;go_wp2_with fail;refine (far3 w.heap.size (w.heap.size+1) a b c d e f w3 k HS3.out HP3.out HW.out HF.out).mono ?_;rintro x w4 ⟨rfl,hb⟩;have HR4:=a0_ (blk_on hb HR3.out);have HB4:=a0_ (below_step HB3.out hb);clear hb q0;have HN:=a0_ (heap_alloc_new w4 (.cells #[.int .i64 0,.int .i64 0] 35));have u0:(w4.alloc (.cells #[.int .i64 0,.int .i64 0] 35)).cell? ⟨w4.heap.size,0,none⟩=some (.int .i64 0):=(blk_cell HN.out 0).trans rfl;have u1:(w4.alloc (.cells #[.int .i64 0,.int .i64 0] 35)).cell? ⟨w4.heap.size,1,none⟩=some (.int .i64 0):=(blk_cell HN.out 1).trans rfl;have u2:=blk_frozen HN.out 0;have u3:=blk_frozen HN.out 1;have q0:∀ o,(w4.alloc o).cell? ⟨w.heap.size+1+1,0,none⟩=some (.int .i64 0):=fun o=>(blk_cell (blk_alloc HR4.out o) 0).trans rfl
 have q1:∀ o,(w4.alloc o).cell? ⟨w.heap.size+1+1,1,none⟩=some (.int .i64 0):=fun o=>(blk_cell (blk_alloc HR4.out o) 1).trans rfl
 have q2:=fun o=>blk_frozen (blk_alloc HR4.out o) 0
 have q3:=fun o=>blk_frozen (blk_alloc HR4.out o) 1
 go_wp2_with fail;refine bodyPost_ret (results_cell_row rfl _ _ (w.heap.size+1+1) 35 #[.int .i64 n1,.int .i64 n2] (0,0) _ rfl (by refine blk_put (cs:=#[.int .i64 n1,.int .i64 0]) ?_ 1 _ rfl;refine blk_put (cs:=#[.int .i64 0,.int .i64 0]) ?_ 0 _ rfl;exact blk_alloc HR4.out _) Tryd.underlying35 rfl (by kernel_rfl)) rfl ?_;exact⟨rfl,by refine below_set ?_ (by omega);refine below_set ?_ (by omega);exact below_alloc HB4.out _⟩
end
def impl_SegFar.f (a b c d e f:Int):Option (Int × Int):=some ((segFar ((a,b),(c,d)) (e,f)).1,(segFar ((a,b),(c,d)) (e,f)).2)
theorem impl_SegFar.calls (a b c d e f r1 r2:Int)(w:World)(h:impl_SegFar.f a b c d e f=some (r1,r2)):
  Calls Tryd.prog 37 #[.agg #[.int .i64 a,.int .i64 b,.int .i64 c,.int .i64 d],.agg #[.int .i64 e,.int .i64 f]] w fun x w'=>x=.returned (.agg #[.int .i64 r1,.int .i64 r2])∧Below w.heap.size w w':=by
 unfold impl_SegFar.f at h;simp only [Option.some.injEq,Prod.mk.injEq] at h;obtain⟨rfl,rfl⟩:=h;unfold segFar
 cases hs:segOk ((a,b),(c,d)) with
 | false=>exact segFar_bad1 a b c d e f w ((iSegOk a b c d).trans (congrArg some hs))
 | true =>
  have h1:=(iSegOk a b c d).trans (congrArg some hs)
  cases hp:ptOk (e,f) with
  | false=>exact segFar_bad2 a b c d e f w h1 ((iPtOk e f).trans (congrArg some hp))
  | true =>
   have h2:=(iPtOk e f).trans (congrArg some hp);obtain⟨o1,o2⟩:=segOk_ends hs;have h3:=iStandOf hs hp;have hin:=far_inR hs hp;simp only [Bool.and_self,if_true];unfold far at hin ⊢
   by_cases z:dot (a,b) (c,d) (e,f)≤0
   ·
    rw [if_pos z] at h3 hin ⊢
    rw [red_whole (dot_self_nn _ _) (Int.le_trans (dot_bound o1 hp hp).2 (by decide))];exact segFar_way1 (t:=0) a b c d e f w 100000 h1 h2 h3 (iBetween o1 hp) (iFracOf1 (Nat.le_refl _) (dot_self_nn _ _) (Int.le_trans (dot_bound o1 hp hp).2 (by decide)))
   ·
    rw [if_neg z] at h3 hin ⊢
    by_cases z':dot (a,b) (c,d) (c,d)≤dot (a,b) (c,d) (e,f)
    ·
     rw [if_pos z'] at h3 hin ⊢
     rw [red_whole (dot_self_nn _ _) (Int.le_trans (dot_bound o2 hp hp).2 (by decide))];exact segFar_way3 (t:=0) a b c d e f w 100000 h1 h2 h3 (iBetween o2 hp) (iFracOf1 (Nat.le_refl _) (dot_self_nn _ _) (Int.le_trans (dot_bound o2 hp hp).2 (by decide)))
    ·
     rw [if_neg z'] at h3 hin ⊢
     have hc:=cross_bound o1 o2 hp;have hq:=sq_bound hc.1 hc.2;have hq':=isq_nn (cross (a,b) (c,d) (e,f));exact segFar_way2 a b c d e f w 100000 h1 h2 h3 (iCross o1 o2 hp) (iBetween o1 o2) (by rw [w64 (x:=cross (a,b) (c,d) (e,f)*cross (a,b) (c,d) (e,f)) (by omega) (by omega)];exact iFracOf (Nat.le_refl _) hin)
end Go.Proofs.YtkefmnmoaomlhaaDoor.X
end
