/- FnPlateLess: the law returns true for every input, and each input reads behind the call as before; part 6 of 6. No condition. Merged by program out of: EvDraws2, FSpecDrawPlateFar, EvDraws3, Told, Step, PlLess, HLess, WSized, LawFnPlateLess. -/
import Derived.Test.YtkefmnmoaomlhaaDoorMFnPlateLess5
import Derived.Deep.RegionHeld3
import Derived.Deep.RegionWith
import Derived.Deep.Cut
import Derived.SizedLaws
import Derived.ChangeSlices
import Derived.WalkKit
import Derived.ProofKit
import Derived.OpenShut
import Derived.ShutString
import Derived.ChangeOld
import Derived.Below
import Derived.SevenTiedAt
set_option linter.all false
section
set_option linter.unusedVariables false
set_option linter.unusedSimpArgs false
namespace Go.Proofs.YtkefmnmoaomlhaaDoor.X
open Go.RowKit Go.Proofs.YtkefmnmoaomlhaaDoorW.PrintWords Go.Proofs.YtkefmnmoaomlhaaDoorW.PrintLast Go.Proofs.YtkefmnmoaomlhaaDoorW.PrintMore
section
variable {l:List Int} (hl:Bytes l)
include hl
theorem tGoodL {K:Nat}(hK:1000≤K):∀ (m:Nat) (x3 x4 x5 x6 i p:Int) (o:List S28) (H:List (List S28)),i≤m→i≤100→(0≤x3∧x3≤20)→(0≤x4∧x4≤20)→(3≤x5∧x5≤20)→(3≤x6∧x6≤20)→H.length+m≤100→o.length≤100→0≤p→p+20*m≤900000 →
  Tells (K+m+1) (fun k=>spec_l71Good.l0 k x3 x4 x5 x6 i l p o H) fun a=>a.1.length≤100∧a.2.1.length≤100∧p≤a.2.2∧a.2.2≤p+20*m:=by
 intro m
 induction m with
 | zero =>
  intro x3 x4 x5 x6 i p o H hm hi h3 h4 h5 h6 hH ho hp hp';refine Tells.succ (fun k=>by simp only [spec_l71Good.l0];exact rfl) ?_;exact Tells.ite (fun h=>by omega) (fun _=>Tells.ret _ ⟨ho,by show H.length≤100;omega,Int.le_refl _,by show p≤p+20*_;omega⟩)
 | succ m ih =>
  intro x3 x4 x5 x6 i p o H hm hi h3 h4 h5 h6 hH ho hp hp';refine Tells.succ (K:=K+(m+1)) (fun k=>by simp only [spec_l71Good.l0];exact rfl) ?_;refine Tells.ite (fun h=>?_) (fun _=>Tells.ret _ ⟨ho,by show H.length≤100;omega,Int.le_refl _,by show p≤p+20*_;omega⟩);refine Tells.bind (tPick hl (by omega) hp (by omega) (by unfold wrap64;omega) (by unfold wrap64;omega)) ?_;rintro⟨r1,q1⟩ ⟨a1,b1,c1⟩;simp only at a1 b1 c1 ⊢
  refine Tells.bind (tPick hl (by omega) (by omega) (by omega) (by unfold wrap64;omega) (by unfold wrap64;omega)) ?_;rintro⟨r2,q2⟩ ⟨a2,b2,c2⟩;simp only at a2 b2 c2 ⊢
  refine Tells.bind (tPick hl (by omega) (by omega) (by omega) (by omega) (by omega)) ?_;rintro⟨r3,q3⟩ ⟨a3,b3,c3⟩;simp only at a3 b3 c3 ⊢
  refine Tells.bind (tPick hl (by omega) (by omega) (by omega) (by omega) (by omega)) ?_;rintro⟨r4,q4⟩ ⟨a4,b4,c4⟩;simp only at a4 b4 c4 ⊢
  refine Tells.bind (tBox hl (by omega) (by omega) (by omega)) ?_;rintro⟨z,q5⟩ ⟨_,c5,d5⟩;simp only at c5 d5 ⊢
  refine Tells.bind (Tells.ret (P:=fun a=>a=[]) _ rfl) ?_;rintro y rfl;refine Tells.guard (by simp;omega) ?_;refine Tells.bind (Tells.ret (P:=fun a=>a=H) _ rfl) ?_;rintro y rfl;refine Tells.guard (by omega) ?_;refine Tells.bind (Tells.ret (P:=fun a=>a.length=y.length+1) _ (by simp)) ?_;intro y2 hy2;refine Tells.bind (P:=fun _=>True) ⟨_,fun k hk=>sPlateOk (by omega) o y2,trivial⟩ ?_;intro t _;have hw:wrap64 (i-1)=i-1:=w64i (by omega) (by omega);by_cases hneg:0≤i
  ·
   rw [hw];refine Tells.ite (fun _=>?_) (fun _=>?_)
   ·
    refine Tells.mono (ih x3 x4 x5 x6 (i-1) q5 o y2 (by omega) (by omega) h3 h4 h5 h6 (by omega) ho (by omega) (by omega)) ?_;rintro⟨u1,u2,u3⟩ ⟨g1,g2,g3,g4⟩;simp only at g1 g2 g3 g4 ⊢
    omega
   ·
    refine Tells.mono (ih x3 x4 x5 x6 (i-1) q5 o y (by omega) (by omega) h3 h4 h5 h6 (by omega) ho (by omega) (by omega)) ?_;rintro⟨u1,u2,u3⟩ ⟨g1,g2,g3,g4⟩;simp only at g1 g2 g3 g4 ⊢
    omega
  ·
   omega
theorem tGood {K:Nat}(hK:1010≤K){p:Int}(hp:0≤p)(hp':p≤800000):Tells K (fun k=>spec_l71Good.f k l p) fun a=>a.1.length≤100∧a.2.1.length≤100∧p≤a.2.2∧a.2.2≤p+100:=by
 unfold spec_l71Good.f;refine Tells.bind (tPick hl (by omega) hp (by omega) (by omega) (by omega)) ?_;rintro⟨r1,q1⟩ ⟨a1,b1,c1⟩;simp only at a1 b1 c1 ⊢
 refine Tells.bind (tPick hl (by omega) (by omega) (by omega) (by omega) (by omega)) ?_;rintro⟨r2,q2⟩ ⟨a2,b2,c2⟩;simp only at a2 b2 c2 ⊢
 refine Tells.bind (tPick hl (by omega) (by omega) (by omega) (by unfold wrap64;omega) (by unfold wrap64;omega)) ?_;rintro⟨r3,q3⟩ ⟨a3,b3,c3⟩;have b3':r3<9-r1-3:=by
  have e:wrap64 (wrap64 (9-r1)-3)=9-r1-3:=by unfold wrap64;omega
  simp only at b3;omega
 simp only at a3 c3 ⊢
 refine Tells.bind (tPick hl (by omega) (by omega) (by omega) (by unfold wrap64;omega) (by unfold wrap64;omega)) ?_;rintro⟨r4,q4⟩ ⟨a4,b4,c4⟩;have b4':r4<9-r2-3:=by
  have e:wrap64 (wrap64 (9-r2)-3)=9-r2-3:=by unfold wrap64;omega
  simp only at b4;omega
 simp only at a4 c4 ⊢
 have e1:wrap64 (4+r3)=4+r3:=w64i (by omega) (by omega);have e2:wrap64 (4+r4)=4+r4:=w64i (by omega) (by omega);rw [e1,e2];refine Tells.bind (tBox hl (by omega) (by omega) (by omega)) ?_;rintro⟨z,q5⟩ ⟨⟨_,z5⟩,c5,d5⟩;simp only at z5 c5 d5 ⊢
 refine Tells.bind (tPick hl (by omega) (by omega) (by omega) (by omega) (by omega)) ?_;rintro⟨r6,q6⟩ ⟨a6,b6,c6⟩;simp only at a6 b6 c6 ⊢
 refine Tells.up (K:=1000+2+1) (by omega) (Tells.mono (tGoodL hl (K:=1000) (by omega) 2 r1 r2 (4+r3) (4+r4) r6 q6 z [] (by omega) (by omega) (by omega) (by omega) (by omega) (by omega) (by simp) (by omega) (by omega) (by omega)) ?_);rintro⟨u1,u2,u3⟩ ⟨g1,g2,g3,g4⟩;simp only at g1 g2 g3 g4 ⊢
 omega
theorem tPlate {K:Nat}(hK:1010≤K){p:Int}(hp:0≤p)(hp':p≤700000):Tells K (fun k=>spec_l71Plate.f k l p) fun a=>p≤a.2.2∧a.2.2≤p+1000:=by
 unfold spec_l71Plate.f;refine Tells.bind (tGood hl hK hp (by omega)) ?_;rintro⟨o,H,q⟩ ⟨g1,g2,g3,g4⟩;simp only at g1 g2 g3 g4 ⊢
 refine Tells.bind (tPick hl (by omega) (by omega) (by omega) (by omega) (by omega)) ?_;rintro⟨r1,q1⟩ ⟨a1,b1,c1⟩;simp only at a1 b1 c1 ⊢
 refine Tells.ite (fun _=>?_) (fun _=>Tells.ite (fun _=>?_) (fun _=>Tells.ite (fun _=>?_) (fun _=>?_)))
 ·
  refine Tells.bind (tLoop hl (by omega) (by omega) (by omega)) ?_;rintro⟨z,q2⟩ ⟨h1,h2,h3⟩;simp only at h1 h2 h3 ⊢
  exact Tells.ret _ (by simp only;omega)
 ·
  refine Tells.bind (tLoop hl (by omega) (by omega) (by omega)) ?_;rintro⟨z,q2⟩ ⟨h1,h2,h3⟩;simp only at h1 h2 h3 ⊢
  exact Tells.guard (by omega) (Tells.ret _ (by simp only;omega))
 ·
  refine Tells.bind (Tells.ret (P:=fun a=>a=[]) _ rfl) ?_;rintro y rfl;refine Tells.guard (by simp;omega) ?_;refine Tells.bind (Tells.ret (P:=fun a=>a=o) _ rfl) ?_;rintro y rfl;refine Tells.bind (tPt hl (by omega) (by omega) (by omega)) ?_;rintro⟨x,y',q2⟩ ⟨h1,h2⟩;simp only at h1 h2 ⊢
  exact Tells.guard (by omega) (Tells.ret _ (by simp only;omega))
 ·
  exact Tells.ret _ (by simp only;omega)
end
end Go.Proofs.YtkefmnmoaomlhaaDoor.X
end
section
namespace Go.Proofs.YtkefmnmoaomlhaaDoor.X
open Go.RowKit Go.Proofs.YtkefmnmoaomlhaaDoorW.PrintWords Go.Proofs.YtkefmnmoaomlhaaDoorW.PrintLast Go.Proofs.YtkefmnmoaomlhaaDoorW.PrintMore
attribute [local go_sem] max2_int min2_int max_two min_two max_three min_three max_four min_four
set_option linter.unusedVariables false
set_option linter.unusedSimpArgs false
def spec_DrawPlateFar.f (k:Nat)(l0:List Int):Option ((List (S28)) × (List (List (S28))) × Int × Int):=(spec_l6Open.f l0).bind fun bt546=>((spec_l71Plate.f k bt546.1 bt546.2).bind fun bt549=>((spec_l71Pt.f k bt546.1 bt549.2.2).bind fun bt556=>(some (bt549.1,bt549.2.1,bt556.1,bt556.2.1))))
set_option maxHeartbeats 8000000 in
set_option maxRecDepth 100000 in
theorem spec_DrawPlateFar.calls (k:Nat)(A0:Option Addr)(c0:Nat)(l0:List Int)(r1:List (S28))(r2:List (List (S28)))(r3:Int)(r4:Int)(w:World)(hr0:Kd.C (Kd.int .u8) w A0 l0.length l0)(hc0:l0.length≤c0)(h:spec_DrawPlateFar.f k l0=some (r1,r2,r3,r4)):
  Calls Tryd.prog 30 #[.slice A0 l0.length c0] w fun e w'=>∃ v0_ v1_:Value,e=.returned (.tuple #[.agg #[v0_,v1_],.agg #[.int .i64 r3,.int .i64 r4]])∧Kd.R k28 28 w' w.heap.size (fun k_=>(w.heap.size≤k_)) v0_ r1∧Kd.N (Kd.slice 28 k28) 23 w' w.heap.size (fun k_=>(w.heap.size≤k_)∧some k_≠(v0_:Value).ownBlock) v1_ r2∧Below w.heap.size w w':=by
 have hu26:=Tryd.underlying26;have hu28:=Tryd.underlying28;have HR0:=Aside0.mk hr0;have HC0:=Aside0.mk hc0;clear hr0 hc0;have HB:=a0_ (Below.refl w.heap.size w);have H:((spec_l6Open.f l0).bind fun bt546=>((spec_l71Plate.f k bt546.1 bt546.2).bind fun bt549=>((spec_l71Pt.f k bt546.1 bt549.2.2).bind fun bt556=>(some (bt549.1,bt549.2.1,bt556.1,bt556.2.1)))))=some (r1,r2,r3,r4):=h;clear h;replace H:=Option.bind_eq_some_iff.mp H;obtain⟨⟨t546,t547⟩,A20,H⟩:=H
 (try dsimp only at H)
 have A2:=Aside0.mk A20;clear A20;replace H:=Option.bind_eq_some_iff.mp H;obtain⟨⟨t549,t552,t555⟩,A30,H⟩:=H
 (try dsimp only at H)
 have A3:=Aside0.mk A30;clear A30;replace H:=Option.bind_eq_some_iff.mp H;obtain⟨⟨t556,t557,t558⟩,A40,H⟩:=H
 (try dsimp only at H)
 have A4:=Aside0.mk A40;clear A40;simp only [Option.some.injEq,Prod.mk.injEq] at H;obtain⟨rfl,rfl,rfl,rfl⟩:=H;go_enter Tryd.func30,Tryd.ntmps30
 go_wp2_with (first | ((with_reducible refine gate_dst (N:=2) rfl ?_);refine bx_ (N:=2) (cs:=#[.slice none 0 0,.slice none 0 0]) (t:=26) (h:=?_);intro gb544 hg w5 hbox hb;have BK544:=a0_ (hbox);have GW544:=a0_ ((by rw [hg];exact (below_size hBs_):w.heap.size≤gb544));have GE544:=a0_ ((by rw [hg];exact (below_size hBs_):w.heap.size≤gb544));replace HB:=a0_ (below_step hBs_ hb);clear hb hbox hg) | ((with_reducible refine gate_dst (N:=3) rfl ?_);refine bx_ (N:=3) (cs:=#[.int .i64 0,.int .i64 0]) (t:=28) (h:=?_);intro gb545 hg w6 hbox hb;have BK545:=a0_ (hbox);have GW545:=a0_ ((by rw [hg];exact (below_size hBs_):w.heap.size≤gb545));have GE545:=a0_ ((by rw [hg];exact (below_size hBs_):w.heap.size≤gb545));have NB544_545:=nl_ BK544 hg;have NB545_544:=nr_ BK544 hg;replace BK544:=vb_ BK544 hb;replace HB:=a0_ (below_step hBs_ hb);clear hb hbox hg) | ((with_reducible refine gate_callee (f:=49) rfl ?_);refine gL_ (some 6) Tryd.func49 #[.slice A0 l0.length c0] (h:=?_);(with_reducible refine (spec_l6Open.calls _ _ l0 t546 t547 w _ hBs_ HR0.out HC0.out A2.out).mono ?_);rintro e w7 ⟨g548,rfl,hi,hb,hb2⟩;refine⟨_,rfl,?_⟩;have HI548:=a0_ (hi);have NB548_544:=a0_ (IsS123.ne_blk hi (blk_below (g:=gb544) (o:=.cells #[.slice none 0 0,.slice none 0 0] 26 (0,0)) uq_ hb2) (by decide));have NB544_548:=a0_ (Ne.symm (IsS123.ne_blk hi (blk_below (g:=gb544) (o:=.cells #[.slice none 0 0,.slice none 0 0] 26 (0,0)) uq_ hb2) (by decide)));have NB548_545:=a0_ (IsS123.ne_blk hi (blk_below (g:=gb545) (o:=.cells #[.int .i64 0,.int .i64 0] 28 (0,0)) uq_ hb2) (by decide));have NB545_548:=a0_ (Ne.symm (IsS123.ne_blk hi (blk_below (g:=gb545) (o:=.cells #[.int .i64 0,.int .i64 0] 28 (0,0)) uq_ hb2) (by decide)));replace BK544:=a0_ (blk_below (g:=gb544) (o:=.cells #[.slice none 0 0,.slice none 0 0] 26 (0,0)) uq_ hb2);replace BK545:=a0_ (blk_below (g:=gb545) (o:=.cells #[.int .i64 0,.int .i64 0] 28 (0,0)) uq_ hb2);replace HB:=a0_ (hb);(try clear hi hb hb2)) | ((with_reducible refine gate_callee (f:=50) rfl ?_);refine gL_ (some 8) Tryd.func50 #[.pointer (some ⟨g548,0,none⟩)] (h:=?_);(with_reducible refine (spec_l71Plate.calls k g548 t546 t547 t549 t552 t555 w _ ?side1 ?side2 A3.out).mono ?_);(case side1=>repeat (first | (with_reducible first | exact HI548.out | apply IsS123.alloc | apply IsS123.drewN | apply IsS123.drew | apply IsS123.set_1 | refine IsS123.far ?_ NB548_544.out _ | refine IsS123.far ?_ NB548_545.out _) | exact HI548.out));(case side2=>exact hBs_);rintro e w8 ⟨v550,v553,rfl,ho0,ho1,hi,hb,hk⟩;refine⟨_,rfl,?_⟩;have HO551:=a0_ (Kd.R_lower (Kd.R_newB (Kd.R_newM (M:=fun k_=>(w.heap.size≤k_)) (Kd.R_mono (ok':=fun k_=>True) ho0 (fun _ hk_=>trivial)) (below_size hBs_) (fun k_ h_=>h_)) (g:=gb545) (o:=.cells #[.int .i64 0,.int .i64 0] 28 (0,0)) uq_) (below_size hBs_));have HO554:=a0_ (Kd.N_lower (Kd.N_mono (ok':=fun k_=>(w.heap.size≤k_)∧some k_≠(v550:Value).ownBlock∧k_≠gb544∧k_≠gb545∧k_≠g548) ho1 (fun k_ hk_=>⟨(Nat.le_trans (below_size hBs_) hk_.1),hk_.2,(Kd.freshB (g:=gb544) (o:=.cells #[.slice none 0 0,.slice none 0 0] 26 (0,0)) uq_ k_ hk_.1),(Kd.freshB (g:=gb545) (o:=.cells #[.int .i64 0,.int .i64 0] 28 (0,0)) uq_ k_ hk_.1),(IsS123.fresh (by repeat (first | (with_reducible first | exact HI548.out | apply IsS123.alloc | apply IsS123.drewN | apply IsS123.drew | apply IsS123.set_1 | refine IsS123.far ?_ NB548_544.out _ | refine IsS123.far ?_ NB548_545.out _) | exact HI548.out)) k_ hk_.1)⟩)) (below_size hBs_));replace BK544:=a0_ (KeepBut.blk hk (g':=gb544) (o:=.cells #[.slice none 0 0,.slice none 0 0] 26 (0,0)) uq_ NB544_548.out (by simp));replace BK545:=a0_ (KeepBut.blk hk (g':=gb545) (o:=.cells #[.int .i64 0,.int .i64 0] 28 (0,0)) uq_ NB545_548.out (by simp));replace HB:=a0_ (hb);replace HI548:=a0_ (hi);(try clear ho0 ho1 hi hb hk)) | ((with_reducible refine gate_callee (f:=51) rfl ?_);refine gL_ (some 10) Tryd.func51 #[.pointer (some ⟨g548,0,none⟩)] (h:=?_);(with_reducible refine (spec_l71Pt.calls k g548 t546 t555 t556 t557 t558 w _ ?side1 ?side2 A4.out).mono ?_);(case side1=>repeat (first | (with_reducible first | exact HI548.out | apply IsS123.alloc | apply IsS123.drewN | apply IsS123.drew | apply IsS123.set_1 | refine IsS123.far ?_ NB548_544.out _ | refine IsS123.far ?_ NB548_545.out _) | exact HI548.out));(case side2=>exact hBs_);rintro e w9 ⟨rfl,hi,hb,hk⟩;refine⟨_,rfl,?_⟩;replace BK544:=a0_ (KeepBut.blk hk (g':=gb544) (o:=.cells #[.slice none 0 0,.slice none 0 0] 26 (0,0)) uq_ NB544_548.out (by simp));replace BK545:=a0_ (KeepBut.blk hk (g':=gb545) (o:=.cells #[.int .i64 0,.int .i64 0] 28 (0,0)) uq_ NB545_548.out (by simp));replace HO551:=a0_ (Kd.R_mono (Kd.R_keep (IsS123.apart (show IsS123 w _ g548 t546 t555 from by repeat (first | (with_reducible first | exact HI548.out | apply IsS123.alloc | apply IsS123.drewN | apply IsS123.drew | apply IsS123.set_1 | refine IsS123.far ?_ NB548_544.out _ | refine IsS123.far ?_ NB548_545.out _) | exact HI548.out)) (uR_ HO551) (by decide)) hk (fun _ h=>h.2)) (fun _ h=>h.1));replace HO554:=a0_ (Kd.N_mono (Kd.N_keep (Kd.N_mono (ok:=fun k_=>(((w.heap.size≤k_))∧(some k_≠(v550:Value).ownBlock∧(k_≠gb544∧(k_≠gb545∧k_≠g548))))) (uN_ HO554) (fun k_ hk_=>(⟨hk_,hk_.2.2.2.2⟩:_∧k_≠g548))) hk (fun _ h=>h.2)) (fun _ h=>h.1));replace HB:=a0_ (hb);replace HI548:=a0_ (hi);(try clear hi hb hk);obtain⟨Ao10,co10,eo10⟩:=Kd.R_slice HO551.out;subst eo10;have hnb11:=NB544_545.out;have hnc11:=NB545_544.out;have hnb12:=NB544_548.out;have hnc12:=NB548_544.out;have hcz13_0:=c20_ BK544;have hcz13_1:=c21_ BK544;have hfz13_0:=fz_ BK544 0;have hfz13_1:=fz_ BK544 1;obtain⟨Ao14,co14,eo14⟩:=Kd.N_slice HO554.out;subst eo14;have hnb15:=NB545_548.out;have hnc15:=NB548_545.out;have hcz16_0:=c20_ BK545;have hcz16_1:=c21_ BK545;have hfz16_0:=fz_ BK545 0;have hfz16_1:=fz_ BK545 1))
 refine bodyPost_ret (results_cc rfl _ _ gb544 gb545 26 28 #[.slice Ao10 t549.length co10,.slice Ao14 t552.length co14] #[.int .i64 t556,.int .i64 t557] (0,0) (0,0) _ _ rfl (by (with_reducible repeat (first | refine blk_drewN ?_ _ | refine blk_drew ?_ | refine blk_alloc ?_ _));refine blk_far ?_ NB544_545.out _;(with_reducible repeat (first | refine blk_drewN ?_ _ | refine blk_drew ?_ | refine blk_alloc ?_ _));refine blk_far ?_ NB544_545.out _;(with_reducible repeat (first | refine blk_drewN ?_ _ | refine blk_drew ?_ | refine blk_alloc ?_ _));refine blk_put (cs:=#[.slice Ao10 t549.length co10,.slice none 0 0]) ?_ 1 _ rfl;(with_reducible repeat (first | refine blk_drewN ?_ _ | refine blk_drew ?_ | refine blk_alloc ?_ _));refine blk_put (cs:=#[.slice none 0 0,.slice none 0 0]) ?_ 0 _ rfl;(with_reducible repeat (first | refine blk_drewN ?_ _ | refine blk_drew ?_ | refine blk_alloc ?_ _));exact BK544.out) Tryd.underlying26 rfl (by kernel_rfl) rfl (by (with_reducible repeat (first | refine blk_drewN ?_ _ | refine blk_drew ?_ | refine blk_alloc ?_ _));refine blk_put (cs:=#[.int .i64 t556,.int .i64 0]) ?_ 1 _ rfl;(with_reducible repeat (first | refine blk_drewN ?_ _ | refine blk_drew ?_ | refine blk_alloc ?_ _));refine blk_put (cs:=#[.int .i64 0,.int .i64 0]) ?_ 0 _ rfl;(with_reducible repeat (first | refine blk_drewN ?_ _ | refine blk_drew ?_ | refine blk_alloc ?_ _));refine blk_far ?_ NB545_544.out _;(with_reducible repeat (first | refine blk_drewN ?_ _ | refine blk_drew ?_ | refine blk_alloc ?_ _));refine blk_far ?_ NB545_544.out _;(with_reducible repeat (first | refine blk_drewN ?_ _ | refine blk_drew ?_ | refine blk_alloc ?_ _));exact BK545.out) Tryd.underlying28 rfl (by kernel_rfl)) rfl ?_
 exact⟨_,_,rr_,by (with_reducible repeat (first | apply Kd.R_alloc | apply Kd.R_drewN | apply Kd.R_drew));exact Kd.R_mono (Kd.R_far (p:=⟨gb545,1,none⟩) (Kd.R_far (p:=⟨gb545,0,none⟩) (Kd.R_far (p:=⟨gb544,1,none⟩) (Kd.R_far (p:=⟨gb544,0,none⟩) (Kd.R_mono (Kd.R_types HO551.out BK544.out (by decide)) (fun k_ hk=>(⟨hk,hk.1.2⟩:_∧k_≠gb545))) (fun _ hk=>hk.1.2) (.slice Ao10 t549.length co10)) (fun _ hk=>hk.1.2) (.slice Ao14 t552.length co14)) (fun _ hk=>hk.2) (.int .i64 t556)) (fun _ hk=>hk.2) (.int .i64 t557)) (fun _ hk=>hk.1.1.1.1),by (with_reducible repeat (first | apply Kd.N_alloc | apply Kd.N_drewN | apply Kd.N_drew));exact Kd.N_mono (Kd.N_far (p:=⟨gb545,1,none⟩) (Kd.N_far (p:=⟨gb545,0,none⟩) (Kd.N_far (p:=⟨gb544,1,none⟩) (Kd.N_far (p:=⟨gb544,0,none⟩) (Kd.N_mono (Kd.N_mono HO554.out (fun k_ hk=>(⟨hk,hk.2.2.1⟩:_∧k_≠gb544))) (fun k_ hk=>(⟨hk,hk.1.2.2.2.1⟩:_∧k_≠gb545))) (fun _ hk=>hk.1.2) (.slice Ao10 t549.length co10)) (fun _ hk=>hk.1.2) (.slice Ao14 t552.length co14)) (fun _ hk=>hk.2) (.int .i64 t556)) (fun _ hk=>hk.2) (.int .i64 t557)) (fun _ hk=>⟨hk.1.1.1,hk.1.1.2.1⟩),by repeat (first | (with_reducible first | exact HB.out | apply below_alloc | apply pw_below_drewN | apply below_drew1 | refine below_set ?_ (IsS123.ge HI548.out) | refine below_set ?_ GE544.out | refine below_set ?_ GE545.out) | exact HB.out)⟩
end Go.Proofs.YtkefmnmoaomlhaaDoor.X
end
section
set_option linter.unusedVariables false
set_option linter.unusedSimpArgs false
namespace Go.Proofs.YtkefmnmoaomlhaaDoor.X
open Go.RowKit Go.Proofs.YtkefmnmoaomlhaaDoorW.PrintWords Go.Proofs.YtkefmnmoaomlhaaDoorW.PrintLast Go.Proofs.YtkefmnmoaomlhaaDoorW.PrintMore
theorem tPlatePt {m:List Int}(hm:Bytes m):Tells 400000 (fun k=>(spec_l71Plate.f k m 0).bind fun bt=>((spec_l71Pt.f k m bt.2.2).bind fun bp=>(some (bt.1,bt.2.1,bp.1,bp.2.1)))) fun _=>True:=by
 refine Tells.bind (tPlate hm (by omega) (by omega) (by omega)) ?_;rintro⟨o,H,q⟩ ⟨g3,g4⟩;simp only at g3 g4 ⊢
 refine Tells.bind (tPt hm (by omega) (by omega) (by omega)) ?_;rintro⟨x,y,q2⟩ _;exact Tells.ret _ trivial
theorem drawPlateFar (l:List Int)(h:∀ x∈l,(Lit.int .u8 x).wf=true):∃ o H x y,∀ k,400000≤k→spec_DrawPlateFar.f k l=some (o,H,x,y):=by
 obtain⟨m,hm,hb⟩:=open_told l h;obtain⟨⟨o,H,x,y⟩,ht,_⟩:=tPlatePt hb;exact⟨o,H,x,y,fun k hk=>by unfold spec_DrawPlateFar.f;rw [hm,Option.bind_some];exact ht k hk⟩
end Go.Proofs.YtkefmnmoaomlhaaDoor.X
end
section
set_option linter.unusedVariables false
set_option linter.unusedSimpArgs false
namespace Go.Proofs.YtkefmnmoaomlhaaDoor.X
open Go.RowKit Go.Shelf Go.Proofs.YtkefmnmoaomlhaaDoorW.PrintWords Go.Proofs.YtkefmnmoaomlhaaDoorW.PrintLast Go.Proofs.YtkefmnmoaomlhaaDoorW.PrintMore
open Mort (ptOk plateOk plateFar fracCmp)
structure PlateAt (w:World) (A:Option Addr) (c:Nat) (B:Option Addr) (d:Nat) (o:List S28) (H:List (List S28)):Prop where
 outer:Kd.C k28 w A o.length o
 capO:o.length≤c
 holes:Kd.C (Kd.slice 28 k28) w B H.length H
 capH:H.length≤d
theorem PlateAt.later {w w':World}{A B:Option Addr}{c d:Nat}{o:List S28}{H:List (List S28)}(h:PlateAt w A c B d o H)(hb:Below w.heap.size w w'):PlateAt w' A c B d o H:=
 ⟨Kd.C_below h.outer hb,h.capO,Kd.C_below h.holes hb,h.capH⟩
section
variable {A:Option Addr} {c:Nat} {B:Option Addr} {d:Nat} {o:List S28} {H:List (List S28)} {w:World} (h:PlateAt w A c B d o H)
include h
theorem PlateAt.iFar (hE:ErrW w){x y f1 f2:Int}(e:plateFar (pl o H) (x,y)=(f1,f2)):
  Calls Tryd.prog 22 #[.agg #[.slice A o.length c,.slice B H.length d],.agg #[.int .i64 x,.int .i64 y]] w fun e w'=>e=.returned (.agg #[.int .i64 f1,.int .i64 f2])∧Below w.heap.size w w':=
 impl_PlateFar.calls A c o B d H x y f1 f2 w h.outer h.capO h.holes h.capH hE ((iPlateFar o H x y).trans (by rw [e]))
theorem PlateAt.sFar {x y f1 f2:Int}(e:plateFar (pl o H) (x,y)=(f1,f2)):
  Calls Tryd.prog 31 #[.agg #[.slice A o.length c,.slice B H.length d],.agg #[.int .i64 x,.int .i64 y]] w fun e w'=>e=.returned (.agg #[.int .i64 f1,.int .i64 f2])∧Below w.heap.size w w':=
 spec_PlateFar.calls 300000 A c o B d H x y f1 f2 w h.outer h.capO h.holes h.capH ((sPlateFar (Nat.le_refl _) o H x y).trans (by rw [e]))
theorem PlateAt.sOk {b:Bool}(e:plateOk (pl o H)=b):Calls Tryd.prog 18 #[.agg #[.slice A o.length c,.slice B H.length d]] w fun e w'=>e=.returned (.bool b)∧Below w.heap.size w w':=
 spec_PlateOk.calls 1000 A c o B d H b w h.outer h.capO h.holes h.capH ((sPlateOk (Nat.le_refl _) o H).trans (congrArg some e))
end
theorem sPtOk_told {x y:Int}{b:Bool}(e:ptOk (x,y)=b)(w:World):Calls Tryd.prog 19 #[.agg #[.int .i64 x,.int .i64 y]] w fun e w'=>e=.returned (.bool b)∧Below w.heap.size w w':=
 spec_PtOk.calls x y b w ((sPtOk x y).trans (congrArg some e))
theorem fracCmp_told {a b c d r:Int}(e:fracCmp (a,b) (c,d)=r){w:World}(hE:ErrW w):Calls Tryd.prog 21 #[.agg #[.int .i64 a,.int .i64 b],.agg #[.int .i64 c,.int .i64 d]] w fun e w'=>e=.returned (.int .i64 r)∧Below w.heap.size w w':=
 impl_FracCmp.calls a b c d r w hE (congrArg some e)
theorem drawFar_told (A0:Option Addr)(c0:Nat)(l:List Int)(w:World)(hr0:Kd.C (Kd.int .u8) w A0 l.length l)(hc0:l.length≤c0)(hw:∀ x∈l,(Lit.int .u8 x).wf=true):
  ∃ o H x y,Calls Tryd.prog 30 #[.slice A0 l.length c0] w fun e w'=>∃ A c B d,e=.returned (.tuple #[.agg #[.slice A (List.length o) c,.slice B (List.length H) d],.agg #[.int .i64 x,.int .i64 y]])∧PlateAt w' A c B d o H∧Below w.heap.size w w':=by
 obtain⟨o,H,x,y,hd⟩:=drawPlateFar l hw;refine⟨o,H,x,y,(spec_DrawPlateFar.calls 400000 A0 c0 l o H x y w hr0 hc0 (hd _ (Nat.le_refl _))).mono ?_⟩;rintro e w' ⟨v0,v1,rfl,h0,h1,hb⟩;obtain⟨A,c,rfl,hc,hC⟩:=Kd.R_reads h0;obtain⟨B,d,rfl,hd2,hD⟩:=Kd.N_reads h1;exact⟨A,c,B,d,rfl,⟨hC,hc,hD,hd2⟩,hb⟩
end Go.Proofs.YtkefmnmoaomlhaaDoor.X
end
section
set_option linter.unusedVariables false
set_option linter.unusedSimpArgs false
namespace Go.Proofs.YtkefmnmoaomlhaaDoor.X
open Go.RowKit Go.Proofs.YtkefmnmoaomlhaaDoorW.PrintWords Go.Proofs.YtkefmnmoaomlhaaDoorW.PrintLast Go.Proofs.YtkefmnmoaomlhaaDoorW.PrintMore
def qmL:Nat→Nat→List Bool
 | 0,_=>[]
 | n+1,m=>(m % 2==1)::qmL n (m / 2)
def qm (n m:Nat):Array Bool:=⟨qmL n m⟩
theorem qp {P:Program}{ops:Array Oper}{Q:Exit→Act→World→Prop}{md:Region.Mode}{S:World→Prop}{ds:List Nat}{oi:Oper}{v:Value}{fuel:Nat}{l:Array Bool}{a a':Act}{w:World}(i N:Nat)(l':Array Bool)(h:wpAnyLast P md ops Q S ds fuel l' a' w)(hi:ops[i]?=some oi:=by rfl)(hN:oi.dst=some N:=by rfl)(hc:anyB md ops l l' i=true:=by kernel_rfl)(hw:Region.wanted oi (yielded ops a.tmps)=true:=by rfl)(hr:∀ w',(execOp a.eval oi).run P w'=.ok (.value v) w':=by (intro w';go_simp;with_reducible rfl))(ha:a.put (some N) v=a':=by (simp only [Act.put,List.setIfInBounds_toArray,List.set_cons_zero,List.set_cons_succ,i64_w,i32_w];rfl))(hQ:∀ c a w,Q (.panic c) (a.put oi.dst v) w→Q (.panic c) a w:=by exact fun _ _ _ h=>h):wpAnyLast P md ops Q S ds (fuel+1) l a w:=pure_ l' hi hN hc hQ (Or.inl ⟨hw,hr⟩) ha h
theorem qt4 {P:Program}{ops:Array Oper}{Q:Exit→Act→World→Prop}{md:Region.Mode}{S:World→Prop}{ds:List Nat}{oi:Oper}{v:Value}{fuel:Nat}{l:Array Bool}{a a':Act}{w:World}(i N:Nat)(l':Array Bool)(hS:S w)(h:wpAnyLast P md ops Q S ds fuel l' a' w)(hi:ops[i]?=some oi:=by rfl)(hN:oi.dst=some N:=by rfl)(hc:takeB md ops ds l l' i=true:=by kernel_rfl)(hw:Region.wanted oi (yielded ops a.tmps)=true:=by rfl)(hr:∀ w',S w'→(execOp a.eval oi).run P w'=.ok (.value v) w':=by (rintro w' ⟨s0,s1,s2,s3⟩;go_simp;with_reducible rfl))(ha:a.put (some N) v=a':=by (simp only [Act.put,List.setIfInBounds_toArray,List.set_cons_zero,List.set_cons_succ,i64_w,i32_w];rfl))(hQ:∀ c a w,Q (.panic c) (a.put oi.dst v) w→Q (.panic c) a w:=by exact fun _ _ _ h=>h):wpAnyLast P md ops Q S ds (fuel+1) l a w:=take_ l' hi hN hc hQ (Or.inl ⟨hw,hr⟩) hS ha h
theorem qt5 {P:Program}{ops:Array Oper}{Q:Exit→Act→World→Prop}{md:Region.Mode}{S:World→Prop}{ds:List Nat}{oi:Oper}{v:Value}{fuel:Nat}{l:Array Bool}{a a':Act}{w:World}(i N:Nat)(l':Array Bool)(hS:S w)(h:wpAnyLast P md ops Q S ds fuel l' a' w)(hi:ops[i]?=some oi:=by rfl)(hN:oi.dst=some N:=by rfl)(hc:takeB md ops ds l l' i=true:=by kernel_rfl)(hw:Region.wanted oi (yielded ops a.tmps)=true:=by rfl)(hr:∀ w',S w'→(execOp a.eval oi).run P w'=.ok (.value v) w':=by (rintro w' ⟨s0,s1,s2,s3,s4⟩;go_simp;with_reducible rfl))(ha:a.put (some N) v=a':=by (simp only [Act.put,List.setIfInBounds_toArray,List.set_cons_zero,List.set_cons_succ,i64_w,i32_w];rfl))(hQ:∀ c a w,Q (.panic c) (a.put oi.dst v) w→Q (.panic c) a w:=by exact fun _ _ _ h=>h):wpAnyLast P md ops Q S ds (fuel+1) l a w:=take_ l' hi hN hc hQ (Or.inl ⟨hw,hr⟩) hS ha h
theorem qt6 {P:Program}{ops:Array Oper}{Q:Exit→Act→World→Prop}{md:Region.Mode}{S:World→Prop}{ds:List Nat}{oi:Oper}{v:Value}{fuel:Nat}{l:Array Bool}{a a':Act}{w:World}(i N:Nat)(l':Array Bool)(hS:S w)(h:wpAnyLast P md ops Q S ds fuel l' a' w)(hi:ops[i]?=some oi:=by rfl)(hN:oi.dst=some N:=by rfl)(hc:takeB md ops ds l l' i=true:=by kernel_rfl)(hw:Region.wanted oi (yielded ops a.tmps)=true:=by rfl)(hr:∀ w',S w'→(execOp a.eval oi).run P w'=.ok (.value v) w':=by (rintro w' ⟨s0,s1,s2,s3,s4,s5⟩;go_simp;with_reducible rfl))(ha:a.put (some N) v=a':=by (simp only [Act.put,List.setIfInBounds_toArray,List.set_cons_zero,List.set_cons_succ,i64_w,i32_w];rfl))(hQ:∀ c a w,Q (.panic c) (a.put oi.dst v) w→Q (.panic c) a w:=by exact fun _ _ _ h=>h):wpAnyLast P md ops Q S ds (fuel+1) l a w:=take_ l' hi hN hc hQ (Or.inl ⟨hw,hr⟩) hS ha h
theorem qz {P:Program}{ops:Array Oper}{Q:Exit→Act→World→Prop}{md:Region.Mode}{S:World→Prop}{ds:List Nat}{oi:Oper}{fuel:Nat}{l:Array Bool}{a a':Act}{w:World}(i N:Nat)(l':Array Bool)(h:wpAnyLast P md ops Q S ds fuel l' a' w)(hi:ops[i]?=some oi:=by rfl)(hN:oi.dst=some N:=by rfl)(hc:anyB md ops l l' i=true:=by kernel_rfl)(hw:Region.wanted oi (yielded ops a.tmps)=false:=by rfl)(ha:a.put (some N) undef=a':=by (simp only [Act.put,List.setIfInBounds_toArray,List.set_cons_zero,List.set_cons_succ,i64_w,i32_w];rfl))(hQ:∀ c a w,Q (.panic c) (a.put oi.dst undef) w→Q (.panic c) a w:=by exact fun _ _ _ h=>h):wpAnyLast P md ops Q S ds (fuel+1) l a w:=pure_ l' hi hN hc hQ (Or.inr ⟨hw,rfl⟩) ha h
theorem qc {P:Program}{ops:Array Oper}{Q:Exit→Act→World→Prop}{md:Region.Mode}{S:World→Prop}{fuel:Nat}{l:Array Bool}{a a':Act}{w:World}(i N:Nat)(l':Array Bool){oi:Oper}{f:FuncId}{fn:Func}{as0:Array Operand}{ts:Array TypeId}{args:Array Value}{v:Value}(hf:P.funcs[f]?=some fn)
  (hcall:Calls P f args w fun e W'=>e=.returned v∧Below w.heap.size w W') (hS:∀ w',Below w.heap.size w w'→S w')
  (h:∀ w',Below w.heap.size w w'→S w'→wpAnyLast P md ops Q S [] fuel l' a' w')
  (hi:ops[i]?=some oi:=by rfl) (hN:oi.dst=some N:=by rfl) (hc:readyB md ops l l' i=true:=by kernel_rfl)
  (hw:Region.wanted oi (yielded ops a.tmps)=true:=by rfl) (hname:(fn.name == "runtime.NumGoroutine")=false:=by kernel_rfl) (hb:fn.body.isSome=true:=by rfl)
  (hop:oi.op=.call { callee:=.value (.func f),args:=as0,argTypes:=ts }:=by rfl)
  (ha1:as0.map a.eval=args:=by (try simp only [List.map_toArray,List.map_cons,List.map_nil]);first | done | rfl)
  (ha:a.put (some N) v=a':=by (simp only [Act.put,List.setIfInBounds_toArray,List.set_cons_zero,List.set_cons_succ,i64_w,i32_w];rfl)):wpAnyLast P md ops Q S [] (fuel+1) l a w:=by
 refine one_ l' hi hN hc (by simp) (fun K hK=>?_);refine goes_ hf hname hb args hw hN hop ha1 ?_;refine hcall.mono ?_;rintro e w1 ⟨rfl,hb1⟩;refine⟨_,rfl,hK.out _ _ (hS _ hb1) (fun hs=>?_)⟩;rw [ha];exact h _ hb1 hs
theorem wanted_none {oi:Oper}(h:oi.guard=none)(y:Nat→Option Bool):Region.wanted oi y=true:=by simp [Region.wanted,h]
theorem put_comm (a:Act){i j:Tmp}(h:i≠j)(u v:Value):(a.put (some i) u).put (some j) v=(a.put (some j) v).put (some i) u:=by
 unfold Act.put;simp only [Array.setIfInBounds_comm u v h]
theorem boxCall_ {P:Program}{ops:Array Oper}{Q:Exit→Act→World→Prop}{md:Region.Mode}{S:World→Prop}{fuel:Nat}{l:Array Bool}{a:Act}{w:World}(i j k:Nat)(Ni Nj:Tmp)(li lj l2 l3:Array Bool){oi oj ok:Oper}{f:FuncId}{fn:Func}{as0:Array Operand}{ts:Array TypeId}{args:Array Value}{v:Value}{t:TypeId}{cs cs':Array Value}
  (KS:∀ w',Below w.heap.size w w'→S w') (hf:P.funcs[f]?=some fn)
  (hcall:∀ W,Below w.heap.size w W→Calls P f args W fun e W'=>e=.returned v∧Below W.heap.size W W')
  (hst:∀ g W,W.heap[g]?=some (.cells cs t (0,0))→∃ W',(execOp ((a.put (some Ni) v).put (some Nj) (.pointer (some ⟨g,0,none⟩))).eval ok).run P W=.ok .skip W'∧W'.heap[g]?=some (.cells cs' t (0,0))∧(∀ b w0,b≤g→Below b w0 W→Below b w0 W'))
  (h:∀ g W,w.heap.size≤g→W.heap[g]?=some (.cells cs' t (0,0))→Below w.heap.size w W→Q .normal ((a.put (some Ni) v).put (some Nj) (.pointer (some ⟨g,0,none⟩))) W)
  (hi:ops[i]?=some oi:=by rfl) (hj:ops[j]?=some oj:=by rfl) (hk:ops[k]?=some ok:=by rfl) (hNi:oi.dst=some Ni:=by rfl) (hNj:oj.dst=some Nj:=by rfl) (hNk:ok.dst=none:=by rfl)
  (gi:oi.guard=none:=by rfl) (gj:oj.guard=none:=by rfl) (gk:ok.guard=none:=by rfl) (hne:Ni≠Nj:=by decide)
  (hc:(Region.ready md ops l==[i,j] && l.setIfInBounds i true==li && l.setIfInBounds j true==lj)=true:=by kernel_rfl)
  (hc1:readyB md ops li l2 j=true:=by kernel_rfl) (hc2:readyB md ops lj l2 i=true:=by kernel_rfl) (hc3:readyB md ops l2 l3 k=true:=by kernel_rfl) (hc4:(Region.ready md ops l3==[])=true:=by kernel_rfl)
  (hname:(fn.name == "runtime.NumGoroutine")=false:=by kernel_rfl) (hb:fn.body.isSome=true:=by rfl)
  (hop:oi.op=.call { callee:=.value (.func f),args:=as0,argTypes:=ts }:=by rfl)
  (ha1:as0.map a.eval=args:=by (try simp only [List.map_toArray,List.map_cons,List.map_nil]);first | done | rfl)
  (ha2:∀ p,as0.map (a.put (some Nj) p).eval=args:=by (intro p;(try simp only [List.map_toArray,List.map_cons,List.map_nil]);first | done | rfl))
  (hbox:∀ (a':Act) (W:World),(execOp a'.eval oj).run P W=.ok (.value (.pointer (some ⟨W.heap.size,0,none⟩))) (W.alloc (.cells cs t (0,0))):=by (intro a' W;first | (go_simp;done) | (go_simp;rfl))):wpAnyLast P md ops Q S [] (fuel+1+1+1) l a w:=by
 have fin:∀ g W,w.heap.size≤g→W.heap[g]?=some (.cells cs t (0,0))→Below w.heap.size w W→wpAnyLast P md ops Q S [] (fuel+1) l2 ((a.put (some Ni) v).put (some Nj) (.pointer (some ⟨g,0,none⟩))) W:=by
  intro g W hg hW hB;obtain⟨W',hr,hW',hBB⟩:=hst g W hW;refine one_ l3 hk hNk hc3 (by simp) (fun K hK=>?_);refine skip_ (wanted_none gk _) hNk hr ?_;exact hK.out _ _ (KS _ (hBB _ _ hg hB)) (fun _=>done_ hc4 (h g W' hg hW' (hBB _ _ hg hB)))
 refine two_ li lj hi hj hNi hNj hc (by simp) (by simp) (fun K hK=>?_) (fun K hK=>?_)
 ·
  refine goes_ hf hname hb args (wanted_none gi _) hNi hop ha1 ?_;refine (hcall w (Below.refl _ _)).mono ?_;rintro e w1 ⟨rfl,hb1⟩;refine⟨_,rfl,hK.out _ _ (KS _ hb1) (fun _=>?_)⟩;refine one_ l2 hj hNj hc1 (by simp) (fun K2 hK2=>?_);rw [← hNj];refine box_step (wanted_none gj _) hNj (hbox _ _) ?_;rintro g hg w2 hbx hb2;rw [hNj];have hb3:=below_step hb1 hb2;exact hK2.out _ _ (KS _ hb3) (fun _=>fin g w2 (hg▸below_size hb1) hbx hb3)
 ·
  rw [← hNj];refine box_step (wanted_none gj _) hNj (hbox _ _) ?_;rintro g hg w1 hbx hb1;rw [hNj];refine hK.out _ _ (KS _ hb1) (fun _=>?_);refine one_ l2 hi hNi hc2 (by simp) (fun K2 hK2=>?_);refine goes_ hf hname hb args (wanted_none gi _) hNi hop (ha2 _) ?_;refine (hcall w1 hb1).mono ?_;rintro e w2 ⟨rfl,hb2⟩;have hb3:=below_step hb1 hb2;refine⟨_,rfl,hK2.out _ _ (KS _ hb3) (fun _=>?_)⟩;rw [put_comm a hne.symm];exact fin g w2 (Nat.le_of_eq hg.symm) (blk_below hbx hb2) hb3
theorem box2_ {g:Nat}{W:World}{t:TypeId}{x y u v:Value}(h:W.heap[g]?=some (.cells #[x,y] t (0,0))):
  ((W.setCell ⟨g,0,none⟩ u).setCell ⟨g,1,none⟩ v).heap[g]?=some (.cells #[u,v] t (0,0))∧(∀ b w0,b≤g→Below b w0 W→Below b w0 ((W.setCell ⟨g,0,none⟩ u).setCell ⟨g,1,none⟩ v)):=
 ⟨blk_put (blk_put h 0 _ rfl) 1 _ rfl,fun b w0 hb hB=>(hB.setCell (p:=⟨g,0,none⟩) hb _).setCell (p:=⟨g,1,none⟩) hb _⟩
theorem boxCall2_ {P:Program}{ops:Array Oper}{Q:Exit→Act→World→Prop}{md:Region.Mode}{S:World→Prop}{fuel:Nat}{l:Array Bool}{a:Act}{w:World}(i j k:Nat)(Ni Nj:Tmp)(li lj l2 l3:Array Bool){oi oj ok:Oper}{f:FuncId}{fn:Func}{as0:Array Operand}{ts:Array TypeId}{args:Array Value}{t:TypeId}{x y u v:Value}
  (KS:∀ w',Below w.heap.size w w'→S w') (hf:P.funcs[f]?=some fn)
  (hcall:∀ W,Below w.heap.size w W→Calls P f args W fun e W'=>e=.returned (.agg #[u,v])∧Below W.heap.size W W')
  (h:∀ g W,w.heap.size≤g→W.heap[g]?=some (.cells #[u,v] t (0,0))→Below w.heap.size w W→Q .normal ((a.put (some Ni) (.agg #[u,v])).put (some Nj) (.pointer (some ⟨g,0,none⟩))) W)
  (hi:ops[i]?=some oi:=by rfl) (hj:ops[j]?=some oj:=by rfl) (hk:ops[k]?=some ok:=by rfl) (hNi:oi.dst=some Ni:=by rfl) (hNj:oj.dst=some Nj:=by rfl) (hNk:ok.dst=none:=by rfl)
  (gi:oi.guard=none:=by rfl) (gj:oj.guard=none:=by rfl) (gk:ok.guard=none:=by rfl) (hne:Ni≠Nj:=by decide)
  (hc:(Region.ready md ops l==[i,j] && l.setIfInBounds i true==li && l.setIfInBounds j true==lj)=true:=by kernel_rfl)
  (hc1:readyB md ops li l2 j=true:=by kernel_rfl) (hc2:readyB md ops lj l2 i=true:=by kernel_rfl) (hc3:readyB md ops l2 l3 k=true:=by kernel_rfl) (hc4:(Region.ready md ops l3==[])=true:=by kernel_rfl)
  (hname:(fn.name == "runtime.NumGoroutine")=false:=by kernel_rfl) (hb:fn.body.isSome=true:=by rfl)
  (hop:oi.op=.call { callee:=.value (.func f),args:=as0,argTypes:=ts }:=by rfl)
  (ha1:as0.map a.eval=args:=by (try simp only [List.map_toArray,List.map_cons,List.map_nil]);first | done | rfl)
  (ha2:∀ p,as0.map (a.put (some Nj) p).eval=args:=by (intro p;(try simp only [List.map_toArray,List.map_cons,List.map_nil]);first | done | rfl))
  (hbox:∀ (a':Act) (W:World),(execOp a'.eval oj).run P W=.ok (.value (.pointer (some ⟨W.heap.size,0,none⟩))) (W.alloc (.cells #[x,y] t (0,0))):=by (intro a' W;first | (go_simp;done) | (go_simp;rfl)))
  (hst:∀ (g:Nat) (W:World),W.cell? ⟨g,0,none⟩=some x→W.cell? ⟨g,1,none⟩=some y→W.frozen? ⟨g,0,none⟩=false→W.frozen? ⟨g,1,none⟩=false→(execOp ((a.put (some Ni) (.agg #[u,v])).put (some Nj) (.pointer (some ⟨g,0,none⟩))).eval ok).run P W=.ok .skip ((W.setCell ⟨g,0,none⟩ u).setCell ⟨g,1,none⟩ v):=by (intro g W s1 s2 s3 s4;first | (go_simp;done) | (go_simp;rfl))):wpAnyLast P md ops Q S [] (fuel+1+1+1) l a w:=
 boxCall_ i j k Ni Nj li lj l2 l3 (cs':=#[u,v]) KS hf hcall (fun g W hbx=>⟨_,hst g W ((blk_cell hbx 0).trans rfl) ((blk_cell hbx 1).trans rfl) (blk_frozen hbx 0) (blk_frozen hbx 1),box2_ hbx⟩) h hi hj hk hNi hNj hNk gi gj gk hne hc hc1 hc2 hc3 hc4 hname hb hop ha1 ha2 hbox
end Go.Proofs.YtkefmnmoaomlhaaDoor.X
end
section
set_option linter.unusedVariables false
set_option linter.unusedSimpArgs false
namespace Go.Proofs.YtkefmnmoaomlhaaDoor.X
open Go.RowKit Go.Proofs.YtkefmnmoaomlhaaDoorW.PrintWords Go.Proofs.YtkefmnmoaomlhaaDoorW.PrintLast
open Mort (ptOk plateOk plateFar fracCmp fracOk farL plateEdges segFar segOk val inOf edges Plate Pt PlateGood)
theorem less_law (o:List S28)(R:List (List S28))(z:List S28)(x y:Int)(hP:plateOk (pl o (R++[z]))=true)(hp:ptOk (x,y)=true):
  0≤fracCmp (plateFar (pl o R) (x,y)) (plateFar (pl o (R++[z])) (x,y))∧0≤fracCmp (plateFar (pl z []) (x,y)) (plateFar (pl o (R++[z])) (x,y))∧(plateFar (pl o R) (x,y)=plateFar (pl o (R++[z])) (x,y)∨plateFar (pl z []) (x,y)=plateFar (pl o (R++[z])) (x,y)):=by
 have h2:=(edges_facts hP).2.2.2;have g:=good_of hP;have gR:PlateGood (pl o R):=by
  refine⟨g.outer,?_,fun h hh=>g.holes h ?_,fun h hh=>g.away h ?_,fun h hh=>g.inside h ?_,fun a b e=>?_⟩
  ·
   have:=g.few;unfold pl at this ⊢;simp only [List.length_map,List.length_append,List.length_cons,List.length_nil] at this ⊢;omega
  ·
   unfold pl at hh ⊢;simp only [List.map_append] at hh ⊢;exact List.mem_append_left _ hh
  ·
   unfold pl at hh ⊢;simp only [List.map_append] at hh ⊢;exact List.mem_append_left _ hh
  ·
   unfold pl at hh ⊢;simp only [List.map_append] at hh ⊢;exact List.mem_append_left _ hh
  ·
   have h3:=congrArg List.length e;unfold pl at h3;simp only [List.length_map,List.length_append,List.length_cons,List.length_nil] at h3 h2;omega
 have gz:PlateGood (pl z []):=by
  refine⟨g.holes (z.map ptP) ?_,by simp [pl],?_,?_,?_,?_⟩
  ·
   unfold pl;simp
  ·
   intro h hh;simp [pl] at hh
  ·
   intro h hh;simp [pl] at hh
  ·
   intro h hh;simp [pl] at hh
  ·
   intro a b e;simp [pl] at e
 have hE:plateEdges (pl o (R++[z]))=plateEdges (pl o R)++plateEdges (pl z []):=by
  unfold plateEdges pl;simp [List.flatMap_append]
 have fE:∀ {o' H'},PlateGood (pl o' H')→plateFar (pl o' H') (x,y)=farL (plateEdges (pl o' H')) (x,y):=fun {o' H'} g'=>by
  unfold plateFar;rw [(Mort.plateOk_iff _).2 g',hp];rfl
 obtain⟨a1,a2,ea,ha,a3⟩:=Mort.farL_spec hp (Mort.plateEdges_ok g).2 (Mort.plateEdges_ok g).1;obtain⟨b1,b2,eb,hb,b3⟩:=Mort.farL_spec hp (Mort.plateEdges_ok gR).2 (Mort.plateEdges_ok gR).1;obtain⟨c1,c2,ec,hc,c3⟩:=Mort.farL_spec hp (Mort.plateEdges_ok gz).2 (Mort.plateEdges_ok gz).1;rw [fE g,fE gR,fE gz];have lb:val (farL (plateEdges (pl o (R++[z]))) (x,y))≤val (farL (plateEdges (pl o R)) (x,y)):=by
  rw [b3];exact a2 eb (by rw [hE];exact List.mem_append_left _ hb)
 have lc:val (farL (plateEdges (pl o (R++[z]))) (x,y))≤val (farL (plateEdges (pl z [])) (x,y)):=by
  rw [c3];exact a2 ec (by rw [hE];exact List.mem_append_right _ hc)
 have one:farL (plateEdges (pl o R)) (x,y)=farL (plateEdges (pl o (R++[z]))) (x,y)∨farL (plateEdges (pl z [])) (x,y)=farL (plateEdges (pl o (R++[z]))) (x,y):=by
  rw [hE] at ha
  rcases List.mem_append.1 ha with ha | ha
  ·
   refine .inl (Mort.frac_eq b1 a1 (Rat.le_antisymm ?_ lb));rw [a3];exact b2 ea ha
  ·
   refine .inr (Mort.frac_eq c1 a1 (Rat.le_antisymm ?_ lc));rw [a3];exact c2 ea ha
 have p1:=(Mort.cmp_ge b1 a1).2 lb;have p2:=(Mort.cmp_ge c1 a1).2 lc;exact⟨p1,p2,one⟩
end Go.Proofs.YtkefmnmoaomlhaaDoor.X
end
section
set_option linter.unusedVariables false
set_option linter.unusedSimpArgs false
namespace Go.Proofs.YtkefmnmoaomlhaaDoor.X
open Go.RowKit Go.Shelf Go.Proofs.YtkefmnmoaomlhaaDoorW.PrintWords Go.Proofs.YtkefmnmoaomlhaaDoorW.PrintLast Go.Proofs.YtkefmnmoaomlhaaDoorW.PrintMore
open Mort (ptOk plateOk plateFar fracCmp)
attribute [local go_sem high] eqA35
set_option maxHeartbeats 4000000 in
set_option maxRecDepth 100000 in
theorem less_calls (A0:Option Addr)(c0:Nat)(l:List Int)(w:World)(hr0:Kd.C (Kd.int .u8) w A0 l.length l)(hc0:l.length≤c0)(hw:∀ x∈l,(Lit.int .u8 x).wf=true)(hE:ErrW w):
  Calls Tryd.prog 5 #[.slice A0 l.length c0] w fun e w'=>e=.returned (.bool true)∧Below w.heap.size w w':=by
 have hu26:=Tryd.underlying26;have hu28:=Tryd.underlying28;have hu35:=Tryd.underlying35;obtain⟨o,H,x,y,hd⟩:=drawFar_told A0 c0 l w hr0 hc0 hw;have HD:=Aside0.mk hd;have HE:=Aside0.mk hE;clear hr0 hc0 hw hd hE;by_cases c2:1048576<(l.length:Int)
 ·
  have c2b:decide (1048576<(l.length:Int))=true:=decide_eq_true c2;clear c2;go_enter Tryd.func5,Tryd.ntmps5;go_wp2;go_ret;exact⟨rfl,Below.refl _ _⟩
 have c2b:decide (1048576<(l.length:Int))=false:=decide_eq_false c2;clear c2;obtain⟨⟨f1,f2⟩,hF⟩:∃ F,plateFar (pl o H) (x,y)=F:=⟨_,rfl⟩;have HF:=Aside0.mk hF;clear hF;go_enter Tryd.func5,Tryd.ntmps5;go_wp2_with (first | (go_at_call 30;refine HD.out.mono ?_;rintro e w1 ⟨A,c,B,d,rfl,hP,hb1⟩;have HP:=a0_ (And.intro hP hb1);clear hP hb1) | (go_at_call 22;refine ((HP.out.1.later (below_alloc (below_alloc (Below.refl _ w1) _) _)).iFar (HE.out.below (below_alloc (below_alloc HP.out.2 _) _)) HF.out).mono ?_;rintro e w2 ⟨rfl,hb2⟩;have HB2:=Aside0.mk hb2;clear hb2));have N1:=blk_alloc (blk_new w1 (.cells #[.slice A o.length c,.slice B H.length d] 26 (0,0))) (.cells #[.int .i64 x,.int .i64 y] 28);have N2:=blk_new (w1.alloc (.cells #[.slice A o.length c,.slice B H.length d] 26)) (.cells #[.int .i64 x,.int .i64 y] 28 (0,0));have hPl:=(HP.out.1.later (below_alloc (below_alloc (Below.refl _ w1) _) _)).later HB2.out;have hBw:=below_step (below_alloc (below_alloc HP.out.2 (.cells #[.slice A o.length c,.slice B H.length d] 26)) (.cells #[.int .i64 x,.int .i64 y] 28)) HB2.out;rw [World.size_alloc] at N2;replace N1:=blk_alloc (blk_later N1 HB2.out) (.cells #[.int .i64 f1,.int .i64 f2] 35);replace N2:=blk_alloc (blk_later N2 HB2.out) (.cells #[.int .i64 f1,.int .i64 f2] 35);clear HB2 HP HD;have N3:=blk_new w2 (.cells #[.int .i64 f1,.int .i64 f2] 35 (0,0));replace hPl:=hPl.later (below_alloc (Below.refl _ w2) (.cells #[.int .i64 f1,.int .i64 f2] 35));replace hBw:=below_alloc hBw (.cells #[.int .i64 f1,.int .i64 f2] 35);generalize w1.heap.size=g1 at *;generalize w2.heap.size=g3 at *;generalize w2.alloc (.cells #[.int .i64 f1,.int .i64 f2] 35)=W at *;obtain⟨b1,hb1⟩:∃ b,plateOk (pl o H)=b:=⟨_,rfl⟩;obtain⟨b2,hb2⟩:∃ b,ptOk (x,y)=b:=⟨_,rfl⟩;obtain⟨b3,hb3⟩:∃ b,((H.length:Int)==0)=b:=⟨_,rfl⟩
 have HK:=a0_ (And.intro hPl (And.intro hBw (And.intro (And.intro hb1 hb2) (And.intro N1 (And.intro N2 N3)))));clear hPl hBw hb1 hb2 N1 N2 N3;have KS:∀ w',Below W.heap.size W w'→(fun w'=>w'.cell? ⟨g1,0,none⟩=some (.slice A o.length c)∧w'.cell? ⟨g1,1,none⟩=some (.slice B H.length d)∧w'.cell? ⟨g1+1,0,none⟩=some (.int .i64 x)∧w'.cell? ⟨g1+1,1,none⟩=some (.int .i64 y)∧w'.cell? ⟨g3,0,none⟩=some (.int .i64 f1)∧w'.cell? ⟨g3,1,none⟩=some (.int .i64 f2)) w':=fun w' hb=>⟨(blk_cell (blk_later HK.out.2.2.2.1 hb) 0).trans rfl,(blk_cell (blk_later HK.out.2.2.2.1 hb) 1).trans rfl,(blk_cell (blk_later HK.out.2.2.2.2.1 hb) 0).trans rfl,(blk_cell (blk_later HK.out.2.2.2.2.1 hb) 1).trans rfl,(blk_cell (blk_later HK.out.2.2.2.2.2 hb) 0).trans rfl,(blk_cell (blk_later HK.out.2.2.2.2.2 hb) 1).trans rfl⟩
 go_cut [40] from 20 (fun vb wc=>vb=.bool (!(b1 && (b2 && !b3)))∧Below W.heap.size W wc)
 case first =>
  have hb:=below_drew1 (Below.refl W.heap.size W);refine start_ (n:=21) (S:=fun w'=>w'.cell? ⟨g1,0,none⟩=some (.slice A o.length c)∧w'.cell? ⟨g1,1,none⟩=some (.slice B H.length d)∧w'.cell? ⟨g1+1,0,none⟩=some (.int .i64 x)∧w'.cell? ⟨g1+1,1,none⟩=some (.int .i64 y)∧w'.cell? ⟨g3,0,none⟩=some (.int .i64 f1)∧w'.cell? ⟨g3,1,none⟩=some (.int .i64 f2)) (ds:=[]) (qm 21 0) (by kernel_rfl) rfl rfl (KS _ hb) (fun hH=>?_);generalize W.drew=w0 at *;refine qt6 0 20 (qm 21 1) hH ?_;refine qt6 1 21 (qm 21 3) hH ?_;refine qt6 2 22 (qm 21 7) hH ?_;refine qc 3 23 (qm 21 15) Tryd.func31 ((HK.out.1.later hb).sFar HF.out) (fun _ h=>KS _ (below_step hb h)) ?_;clear hH;intro wA h_ hH;replace hb:=below_step hb h_;clear h_;refine qp 4 24 (qm 21 31) ?_;refine qp 5 25 (qm 21 63) ?_;refine qt6 6 26 (qm 21 127) hH ?_;refine qc 7 27 (qm 21 255) Tryd.func18 ((HK.out.1.later hb).sOk HK.out.2.2.1.1) (fun _ h=>KS _ (below_step hb h)) ?_;clear hH;intro wB h_ hH;replace hb:=below_step hb h_;clear h_
  cases b1 with
  | false =>
   refine qp 8 28 (qm 21 511) ?_;refine qp 9 29 (qm 21 1023) ?_;refine qp 10 30 (qm 21 2047) ?_;refine qz 11 31 (qm 21 4095) ?_;refine qz 12 32 (qm 21 8191) ?_;refine qz 13 33 (qm 21 16383) ?_;refine qp 14 34 (qm 21 32767) ?_;refine qp 15 35 (qm 21 65535) ?_;refine qz 16 36 (qm 21 131071) ?_;refine qz 17 37 (qm 21 262143) ?_;refine qz 18 38 (qm 21 524287) ?_;refine qz 19 39 (qm 21 1048575) ?_;refine qp 20 40 (qm 21 2097151) ?_;refine done_ (by kernel_rfl) ?_;go_wp2;go_meet
   case rel=>exact⟨rfl,hb⟩
  | true =>
   refine qp 8 28 (qm 21 511) ?_;refine qp 9 29 (qm 21 1023) ?_;refine qp 10 30 (qm 21 2047) ?_;refine qt6 11 31 (qm 21 4095) hH ?_;refine qc 12 32 (qm 21 8191) Tryd.func19 (sPtOk_told HK.out.2.2.1.2 _) (fun _ h=>KS _ (below_step hb h)) ?_;clear hH;intro wC h_ hH;replace hb:=below_step hb h_;clear h_
   cases b2 with
   | false =>
    refine qp 13 33 (qm 21 16383) ?_;refine qp 14 34 (qm 21 32767) ?_;refine qp 15 35 (qm 21 65535) ?_;refine qz 16 36 (qm 21 131071) ?_;refine qz 17 37 (qm 21 262143) ?_;refine qz 18 38 (qm 21 524287) ?_;refine qz 19 39 (qm 21 1048575) ?_;refine qp 20 40 (qm 21 2097151) ?_;refine done_ (by kernel_rfl) ?_;go_wp2;go_meet
    case rel=>exact⟨rfl,hb⟩
   | true =>
    refine qp 13 33 (qm 21 16383) ?_;refine qp 14 34 (qm 21 32767) ?_;refine qp 15 35 (qm 21 65535) ?_;refine qp 16 36 (qm 21 131071) ?_;refine qt6 17 37 (qm 21 262143) hH ?_;refine qp 18 38 (qm 21 524287) ?_;refine qp 19 39 (qm 21 1048575) ?_;refine qp 20 40 (qm 21 2097151) ?_;refine done_ (by kernel_rfl) ?_;go_wp2;go_meet
    case rel=>exact⟨by simp,hb⟩
 case rest =>
  obtain⟨rfl,hbW⟩:=hcut
  cases hg:(b1 && (b2 && !b3)) with
  | false =>
   go_wp2;have hb:=below_step hbW (below_drew1 (Below.refl _ wc));refine start_ (n:=6) (S:=fun w'=>w'.cell? ⟨g1,0,none⟩=some (.slice A o.length c)∧w'.cell? ⟨g1,1,none⟩=some (.slice B H.length d)∧w'.cell? ⟨g1+1,0,none⟩=some (.int .i64 x)∧w'.cell? ⟨g1+1,1,none⟩=some (.int .i64 y)∧w'.cell? ⟨g3,0,none⟩=some (.int .i64 f1)∧w'.cell? ⟨g3,1,none⟩=some (.int .i64 f2)) (ds:=[]) (qm 6 0) (by kernel_rfl) rfl rfl (KS _ hb) (fun hH=>?_);generalize wc.drew=w0 at *;refine qt6 0 41 (qm 6 1) hH ?_;refine qt6 1 42 (qm 6 3) hH ?_;refine qt6 2 43 (qm 6 7) hH ?_;refine qc 3 44 (qm 6 15) Tryd.func31 ((HK.out.1.later hb).sFar HF.out) (fun _ h=>KS _ (below_step hb h)) ?_;clear hH;intro wA h_ hH;replace hb:=below_step hb h_;clear h_;refine qp 4 45 (qm 6 31) ?_;refine qp 5 2 (qm 6 63) ?_;refine done_ (by kernel_rfl) ?_;go_wp2;go_ret;exact⟨by simp,below_step HK.out.2.1 hb⟩
  | true =>
   have hg2:b1=true∧b2=true∧b3=false:=by simpa using hg
   obtain⟨rfl,rfl,rfl⟩:=hg2;have HK2:=a0_ (And.intro (HK.out.1.later hbW) (And.intro (below_step HK.out.2.1 hbW) (And.intro (blk_later HK.out.2.2.2.1 hbW) (And.intro (blk_later HK.out.2.2.2.2.1 hbW) (blk_later HK.out.2.2.2.2.2 hbW)))));have HPT:=HK.out.2.2.1;replace HPT:=Aside0.mk HPT;clear hbW HK KS hg;have hpos:0<H.length:=by have:=beq_eq_false_iff_ne.1 hb3;omega
   have hw1:wrap64 ((H.length:Int)-1)=((H.length-1:Nat):Int):=by have:=HK2.out.1.holes.2.1;rw [w64i (by omega) (by omega)];omega
   have q1:wc.cell? ⟨g1,0,none⟩=some (.slice A o.length c):=(blk_cell HK2.out.2.2.1 0).trans rfl;have q2:wc.cell? ⟨g1,1,none⟩=some (.slice B H.length d):=(blk_cell HK2.out.2.2.1 1).trans rfl;go_wp2;rw [hw1];obtain⟨m,hm⟩:∃ m,H.length=m+1:=⟨H.length-1,by omega⟩;have hmm:H.length-1=m:=by omega
   rw [hmm];have KS:∀ w',Below wc.heap.size wc w'→(fun w'=>w'.cell? ⟨g1,0,none⟩=some (.slice A o.length c)∧w'.cell? ⟨g1,1,none⟩=some (.slice B H.length d)∧w'.cell? ⟨g1+1,0,none⟩=some (.int .i64 x)∧w'.cell? ⟨g1+1,1,none⟩=some (.int .i64 y)) w':=fun w' hb =>
    ⟨(blk_cell (blk_later HK2.out.2.2.1 hb) 0).trans rfl,(blk_cell (blk_later HK2.out.2.2.1 hb) 1).trans rfl,(blk_cell (blk_later HK2.out.2.2.2.1 hb) 0).trans rfl,(blk_cell (blk_later HK2.out.2.2.2.1 hb) 1).trans rfl⟩
   obtain⟨⟨e1,e2⟩,hG⟩:∃ F,plateFar (pl o (H.take m)) (x,y)=F:=⟨_,rfl⟩;have hlt:(H.take m).length=m:=by rw [List.length_take];omega
   have hP2:PlateAt wc A c B d o (H.take m):=⟨HK2.out.1.outer,HK2.out.1.capO,Kd.C_take HK2.out.1.holes (by omega),by rw [hlt];have:=HK2.out.1.capH;omega⟩;have hmd:m≤d:=by have:=HK2.out.1.capH;omega
   have hdr8:Below wc.heap.size wc wc.drew:=below_drew1 (Below.refl _ _);refine start_ (n:=11) (S:=fun w'=>w'.cell? ⟨g1,0,none⟩=some (.slice A o.length c)∧w'.cell? ⟨g1,1,none⟩=some (.slice B H.length d)∧w'.cell? ⟨g1+1,0,none⟩=some (.int .i64 x)∧w'.cell? ⟨g1+1,1,none⟩=some (.int .i64 y)) (ds:=[]) (qm 11 0) (by kernel_rfl) rfl rfl (KS _ hdr8) (fun hH=>?_);refine qp 0 50 (qm 11 1) ?_;refine qt4 1 51 (qm 11 3) hH ?_;refine qp 2 52 (qm 11 7) ?_;refine qt4 3 53 (qm 11 15) hH ?_;refine qp 4 54 (qm 11 31) ?_;refine qp 5 55 (qm 11 63) ?_;refine qp 6 56 (qm 11 127) ?_;refine qt4 7 57 (qm 11 255) hH ?_;refine boxCall2_ 8 9 10 58 7 (qm 11 511) (qm 11 767) (qm 11 1023) (qm 11 2047) (fun w' hb=>KS _ (below_step hdr8 hb)) Tryd.func22 (fun W hb=>hlt▸(hP2.later (below_step hdr8 hb)).iFar ((HE.out.below HK2.out.2.1).below (below_step hdr8 hb)) hG) ?_;intro g4 w9 hg4 hn4 hb9;simp only [Act.put,List.setIfInBounds_toArray,List.set_cons_zero,List.set_cons_succ];have hb9':=below_step hdr8 hb9;have HK3:=a0_ (And.intro (HK2.out.1.later hb9') (And.intro (below_step HK2.out.2.1 hb9') (And.intro (blk_later HK2.out.2.2.1 hb9') (And.intro (blk_later HK2.out.2.2.2.1 hb9') (And.intro (blk_later HK2.out.2.2.2.2 hb9') hn4)))));clear KS hP2 hdr8 hH hg4 hn4 hb9 hb9' q1 q2 hw1 hpos HK2;have HG:=Aside0.mk hG;clear hG;go_wp2;obtain⟨adr,A5,c5,hB,hz,h5c,h5C⟩:=at_L5 HK3.out.1.holes (m:Int) (by omega) (by omega);rw [Int.toNat_natCast] at hz;subst hB;have hHz:H=H.take m++[rd_L5 H (m:Int)]:=by
    have h1:H.drop m=[rd_L5 H (m:Int)]:=by
     rw [List.drop_eq_getElem_cons (by omega:m<H.length),List.drop_of_length_le (by omega)]
     show _=[H.getD (m:Int).toNat []]
     rw [Int.toNat_natCast,List.getD_eq_getElem?_getD,List.getElem?_eq_getElem (by omega)];rfl
    rw [← h1,List.take_append_drop]
   generalize rd_L5 H (m:Int)=z at *;have HHz:=Aside0.mk hHz;clear hHz;obtain⟨⟨k1,k2⟩,hG2⟩:∃ F,plateFar (pl z []) (x,y)=F:=⟨_,rfl⟩;have hP3:PlateAt w9 A5 c5 none 0 z []:=⟨h5C,h5c,Kd.C_nil _ _,Nat.le_refl _⟩;have KS:∀ w',Below w9.heap.size w9 w'→(fun w'=>w'.cell? ⟨g1,0,none⟩=some (.slice A o.length c)∧w'.cell? ⟨g1,1,none⟩=some (.slice (some adr) H.length d)∧w'.cell? ⟨g1+1,0,none⟩=some (.int .i64 x)∧w'.cell? ⟨g1+1,1,none⟩=some (.int .i64 y)∧w'.cell? (adr.add m)=some (.slice A5 z.length c5)) w':=fun w' hb =>
    ⟨(blk_cell (blk_later HK3.out.2.2.1 hb) 0).trans rfl,(blk_cell (blk_later HK3.out.2.2.1 hb) 1).trans rfl,(blk_cell (blk_later HK3.out.2.2.2.1 hb) 0).trans rfl,(blk_cell (blk_later HK3.out.2.2.2.1 hb) 1).trans rfl,pw_cell_below hb hz⟩
   have hml:(m:Int)<(m:Int)+1:=by omega
   have hdr9:Below w9.heap.size w9 w9.drew:=below_drew1 (Below.refl _ _);refine start_ (n:=10) (S:=fun w'=>w'.cell? ⟨g1,0,none⟩=some (.slice A o.length c)∧w'.cell? ⟨g1,1,none⟩=some (.slice (some adr) H.length d)∧w'.cell? ⟨g1+1,0,none⟩=some (.int .i64 x)∧w'.cell? ⟨g1+1,1,none⟩=some (.int .i64 y)∧w'.cell? (adr.add m)=some (.slice A5 z.length c5)) (ds:=[]) (qm 10 0) (by kernel_rfl) rfl rfl (KS _ hdr9) (fun hH=>?_);refine qp 0 59 (qm 10 1) ?_;refine qt5 1 60 (qm 10 3) hH ?_;refine qp 2 61 (qm 10 7) ?_;refine qp 3 62 (qm 10 15) ?_;refine qt5 4 63 (qm 10 31) hH ?_;refine qp 5 64 (qm 10 63) ?_;refine qt5 6 65 (qm 10 127) hH ?_;refine boxCall2_ 7 8 9 66 8 (qm 10 255) (qm 10 383) (qm 10 511) (qm 10 1023) (fun w' hb=>KS _ (below_step hdr9 hb)) Tryd.func22 (fun W hb=>(hP3.later (below_step hdr9 hb)).iFar ((HE.out.below HK3.out.2.1).below (below_step hdr9 hb)) hG2) ?_;intro g5 w10 hg5 hn5 hb10;simp only [Act.put,List.setIfInBounds_toArray,List.set_cons_zero,List.set_cons_succ];obtain⟨p1,p2,one⟩:=less_law o (H.take m) z x y (HHz.out▸HPT.out.1) HPT.out.2;rw [← HHz.out,HF.out,HG.out] at p1;rw [← HHz.out,HF.out,hG2] at p2;rw [← HHz.out,HF.out,HG.out,hG2] at one;have hb10':=below_step hdr9 hb10;have N3:=blk_later HK3.out.2.2.2.2.1 hb10';have N4:=blk_later HK3.out.2.2.2.2.2 hb10';have hEE:=(HE.out.below HK3.out.2.1).below hb10';obtain⟨v1,hv1⟩:∃ v,fracCmp (e1,e2) (f1,f2)=v:=⟨_,rfl⟩;obtain⟨v2,hv2⟩:∃ v,fracCmp (k1,k2) (f1,f2)=v:=⟨_,rfl⟩;rw [hv1] at p1;rw [hv2] at p2;have p1d:=decide_eq_true p1;have p2d:=decide_eq_true p2;have c40:w10.cell? ⟨g4,0,none⟩=some (.int .i64 e1):=(blk_cell N4 0).trans rfl;have c41:w10.cell? ⟨g4,1,none⟩=some (.int .i64 e2):=(blk_cell N4 1).trans rfl;have c30:w10.cell? ⟨g3,0,none⟩=some (.int .i64 f1):=(blk_cell N3 0).trans rfl;have c31:w10.cell? ⟨g3,1,none⟩=some (.int .i64 f2):=(blk_cell N3 1).trans rfl
   have HZ:=a0_ (And.intro N3 (And.intro N4 (And.intro hn5 (And.intro (below_step HK3.out.2.1 hb10') (And.intro hEE (And.intro hv1 hv2))))));clear N3 N4 hn5 hEE hv1 hv2 hb10' hb10 hH hdr9 KS hP3 hG2 HK3 HG HF HHz hg5 hz h5C h5c p1 p2;by_cases he:(e1==f1 && e2==f2)=true
   ·
    go_wp2_with (go_at_call 21;first | ((with_reducible refine (fracCmp_told HZ.out.2.2.2.2.2.1 HZ.out.2.2.2.2.1).mono ?_);rintro e w11 ⟨rfl,hb11⟩;have c50:w11.cell? ⟨g5,0,none⟩=some (.int .i64 k1):=(blk_cell (blk_later HZ.out.2.2.1 hb11) 0).trans rfl;have c51:w11.cell? ⟨g5,1,none⟩=some (.int .i64 k2):=(blk_cell (blk_later HZ.out.2.2.1 hb11) 1).trans rfl;have c32:w11.cell? ⟨g3,0,none⟩=some (.int .i64 f1):=(blk_cell (blk_later HZ.out.1 hb11) 0).trans rfl;have c33:w11.cell? ⟨g3,1,none⟩=some (.int .i64 f2):=(blk_cell (blk_later HZ.out.1 hb11) 1).trans rfl;have HB11:=Aside0.mk hb11;clear hb11) | ((with_reducible refine (fracCmp_told HZ.out.2.2.2.2.2.2 (HZ.out.2.2.2.2.1.below HB11.out)).mono ?_);rintro e w12 ⟨rfl,hb12⟩;have hB12:=below_step HB11.out hb12;have d40:w12.cell? ⟨g4,0,none⟩=some (.int .i64 e1):=(blk_cell (blk_later HZ.out.2.1 hB12) 0).trans rfl;have d41:w12.cell? ⟨g4,1,none⟩=some (.int .i64 e2):=(blk_cell (blk_later HZ.out.2.1 hB12) 1).trans rfl;have d30:w12.cell? ⟨g3,0,none⟩=some (.int .i64 f1):=(blk_cell (blk_later HZ.out.1 hB12) 0).trans rfl;have d31:w12.cell? ⟨g3,1,none⟩=some (.int .i64 f2):=(blk_cell (blk_later HZ.out.1 hB12) 1).trans rfl;have HB12:=Aside0.mk hB12;clear hB12 hb12));go_ret;exact⟨rfl,below_step HZ.out.2.2.2.1 HB12.out⟩
   ·
    have he2:(e1==f1 && e2==f2)=false:=Bool.eq_false_iff.2 he;have hk2:(k1==f1 && k2==f2)=true:=by
     rcases one with e | e
     ·
      exact absurd (by injection e with a b;rw [a,b];simp) he
     ·
      injection e with a b;rw [a,b];simp
    clear he one;go_wp2_with (go_at_call 21;first | ((with_reducible refine (fracCmp_told HZ.out.2.2.2.2.2.1 HZ.out.2.2.2.2.1).mono ?_);rintro e w11 ⟨rfl,hb11⟩;have c50:w11.cell? ⟨g5,0,none⟩=some (.int .i64 k1):=(blk_cell (blk_later HZ.out.2.2.1 hb11) 0).trans rfl;have c51:w11.cell? ⟨g5,1,none⟩=some (.int .i64 k2):=(blk_cell (blk_later HZ.out.2.2.1 hb11) 1).trans rfl;have c32:w11.cell? ⟨g3,0,none⟩=some (.int .i64 f1):=(blk_cell (blk_later HZ.out.1 hb11) 0).trans rfl;have c33:w11.cell? ⟨g3,1,none⟩=some (.int .i64 f2):=(blk_cell (blk_later HZ.out.1 hb11) 1).trans rfl;have HB11:=Aside0.mk hb11;clear hb11) | ((with_reducible refine (fracCmp_told HZ.out.2.2.2.2.2.2 (HZ.out.2.2.2.2.1.below HB11.out)).mono ?_);rintro e w12 ⟨rfl,hb12⟩;have hB12:=below_step HB11.out hb12;have d40:w12.cell? ⟨g4,0,none⟩=some (.int .i64 e1):=(blk_cell (blk_later HZ.out.2.1 hB12) 0).trans rfl;have d41:w12.cell? ⟨g4,1,none⟩=some (.int .i64 e2):=(blk_cell (blk_later HZ.out.2.1 hB12) 1).trans rfl;have d30:w12.cell? ⟨g3,0,none⟩=some (.int .i64 f1):=(blk_cell (blk_later HZ.out.1 hB12) 0).trans rfl;have d31:w12.cell? ⟨g3,1,none⟩=some (.int .i64 f2):=(blk_cell (blk_later HZ.out.1 hB12) 1).trans rfl;have d50:w12.cell? ⟨g5,0,none⟩=some (.int .i64 k1):=(blk_cell (blk_later HZ.out.2.2.1 hB12) 0).trans rfl;have d51:w12.cell? ⟨g5,1,none⟩=some (.int .i64 k2):=(blk_cell (blk_later HZ.out.2.2.1 hB12) 1).trans rfl;have HB12:=Aside0.mk hB12;clear hB12 hb12));go_ret;exact⟨rfl,below_step HZ.out.2.2.2.1 HB12.out⟩
def laws_FnPlateLess.Pure:Prop:=True
theorem laws_FnPlateLess.walk (_:laws_FnPlateLess.Pure)(a0:Option Addr)(len0 cap0:Nat)(z0:List Int)(w:World)(hE:ErrW w)(w0:(a0=none∧len0=0∧cap0=0∧z0=[])∨∃ x,a0=some x∧len0≤cap0∧cap0≤maxLen∧z0.length=cap0∧(∀ i,i<z0.length→w.cell? (x.add i)=some (.int .u8 (z0.getD i 0)))∧∀ n∈z0,(Lit.int .u8 n).wf=true)(_:len0*1≤140737488351232):
  Calls Tryd.prog 5 #[.slice a0 len0 cap0] w fun e w'=>e=.returned (.bool true)∧Below w.heap.size w w':=by
 obtain⟨l0,rfl,hr0,hm0,hw0,hc0⟩:=ReadsInt.ofRowC w0;exact less_calls _ _ l0 w (Kd.C_of_reads (d:=(0:Int)) (h1:=fun _=>rfl) hr0) hc0 hw0 hE
end Go.Proofs.YtkefmnmoaomlhaaDoor.X
end
section
namespace Go.Proofs.YtkefmnmoaomlhaaDoorW.PrintWords
open Go.ChangeShapes Go.WideShapes
theorem sized_ints {H:Type}{enc:TypeId × Value→H}{P:Program}{W:World}{base:Nat}{spare:Nat→Bool}{held:Bool}{t e:TypeId}{k:IntKind}{a:Option Addr}{len cap:Nat}{d:DataW H}{ps:List MemPlace}{ts:List TypeId}{ds:List (DataW H)}{j:Nat}
  (hsz:(DataW.weightsEach P ts ds).all (· ≤ reachBytes)=true) (ht:ts[j]?=some t) (hd:ds[j]?=some d) (hu:P.underlying t=some (.slice e)) (he:P.underlying e=some (.int k)) (hc:P.cellsOf e=1) {B:Nat} (hB:P.bytesOf e=B)
  (h:DataW.Trod enc P W base spare held t (.slice a len cap) d ps):len*B≤140737488351232:=by
 obtain⟨fuel,hf⟩:=h
 rcases open_ints hu he hc hf with ⟨hcs,_⟩ | ⟨x,l,c,zs,hcs,_,hl,_,hz,hx,_,_⟩
 ·
  simp [Value.cells] at hcs;obtain⟨rfl,rfl,rfl⟩:=hcs;simp
 ·
  simp [Value.cells] at hcs;obtain⟨rfl,rfl,rfl⟩:=hcs;obtain⟨hx,_⟩:=Prod.mk.inj hx;subst hx;have z:=sized_slice hsz ht hd hu;rw [hB] at z;have hl2:len≤zs.length:=by
   rw [hz]
   split
   ·
    exact hl
   ·
    exact Nat.le_refl _
  have h1:(lits (H:=H) k (zs.take len)).length+(lits (H:=H) k (zs.drop len)).length=zs.length:=by
   simp [lits];omega
  rw [h1] at z;exact Nat.le_trans (Nat.mul_le_mul_right _ hl2) z
end Go.Proofs.YtkefmnmoaomlhaaDoorW.PrintWords
end
section
set_option linter.unusedVariables false
namespace Go.Proofs.YtkefmnmoaomlhaaDoor.fnPlateLess
open Go Go.ChangeShapes Go.WideShapes Go.ChangeAt Go.RowKit Go.Proofs.YtkefmnmoaomlhaaDoorW
open Go.ChangeMaps (open_string shut_string)
def IsRow (k:IntKind)(w:World)(a:Option Addr)(len cap:Nat)(zs:List Int):Prop:=
 (a=none∧len=0∧cap=0∧zs=[]) ∨
 ∃ x,a=some x∧len≤cap∧cap≤maxLen∧zs.length=cap∧(∀ i,i<zs.length→w.cell? (x.add i)=some (.int k (zs.getD i 0)))∧∀ n∈zs,(Lit.int k n).wf=true
set_option maxRecDepth 100000 in
theorem lifted (os:Os)(started:os.Started)(H:Type)(enc:TypeId × Value→H):
  ReturnsInHanded {} Tryd.checked os 5 .any (fun w args=>(Rows.fnPlateLessSpec.pre enc Tryd.prog Tryd.f5 [] false w args∧laidMet Tryd.prog laidErr w)∧sizedMet enc Tryd.prog Tryd.f5 (OpenSpec.ofChange Rows.fnPlateLessSpec) false w args) (Rows.fnPlateLessSpec.post enc Tryd.prog Tryd.f5 false true false false):=by
 refine returnsInHanded_of_change_and (C:=Tryd.checked) (X:=fun w _=>laidMet Tryd.prog laidErr w) (fun _ _ _ hh h=>h.of_heap hh) own started (by kernel_rfl) Tryd.func5
  (ChangeSpec.witness_at (enc:=enc) (C:=Tryd.checked) (os:=os) (X:=fun w _=>laidMet Tryd.prog laidErr w) false (laidWorld os) #[.slice none 0 0] 8 rfl (by kernel_rfl) (by kernel_rfl) (by kernel_rfl) (by kernel_rfl) (by kernel_rfl) (laidWorld_met os _)) ?_
 intro W base args ds gs before hval0 hW hcnd hsz0 hL _;have hsz:(DataW.weightsEach Tryd.prog (Tryd.f5.params.toList++Rows.fnPlateLessSpec.plain.varTypes Tryd.prog) (ds++gs)).all (· ≤ reachBytes)=true:=hsz0;have hval:∀ (j:Nat) t v,Tryd.f5.params[j]?=some t→args[j]?=some v→Value.okWide Tryd.prog W .any base t v:=hval0;have hW':=hW;obtain⟨p,q,hA0,hV0,rfl,hfz,hnd⟩:=hW;have hA:DataW.TrodAll enc Tryd.prog W 0 (fun _=>true) true Tryd.f5.params.toList args.toList ds p:=hA0;have hV:DataW.TrodVars enc Tryd.prog W (fun _=>true) ["loop.example/mortiser/impl.errNoFrac"] gs q:=hV0;rw [Tryd.params5] at hA hval hsz;obtain⟨v0,vs0,d0,ds0,p0,q0,hargs,rfl,rfl,h0,r0⟩:=trodAll_cons hA;obtain⟨rfl,rfl,rfl⟩:=trodAll_nil r0;obtain rfl:args=#[v0]:=by cases args;simp_all
 obtain⟨a,st,hv,hcs,hs0,hz0⟩:=err_of_laid hL;obtain⟨rfl,rfl⟩:=hV.unique (errVars enc hv trivial _);have hE:ErrW W:=ErrW.of_var hv;obtain⟨a0,len0,cap0,rfl⟩:=okWide_slice Tryd.underlying22 (hval 0 22 v0 rfl rfl);have k0:=h0;have lt0:∀ x∈p0,x.block<W.heap.size:=by obtain⟨m,hm⟩:=k0;exact DataW.trod_lt m _ _ _ hm
 obtain⟨z0,w0⟩:∃ zs,IsRow .u8 W a0 len0 cap0 zs:=by
  obtain⟨fuel,hf⟩:=h0
  rcases open_ints Tryd.underlying22 Tryd.underlying5 (by kernel_rfl) hf with ⟨hcs,_⟩ | ⟨x,l,c,zs,hcs,_,hl,hm,hz,_,hcell,hwz⟩
  ·
   simp [Value.cells] at hcs;obtain⟨rfl,rfl,rfl⟩:=hcs;exact⟨[],.inl ⟨rfl,rfl,rfl,rfl⟩⟩
  ·
   simp [Value.cells] at hcs;obtain⟨rfl,rfl,rfl⟩:=hcs;exact⟨zs,.inr ⟨_,rfl,hl,hm,by simpa using hz,hcell,hwz⟩⟩
 have y0:len0*1≤140737488351232:=PrintWords.sized_ints hsz (j:=0) (t:=22) rfl rfl Tryd.underlying22 Tryd.underlying5 (by kernel_rfl) (by kernel_rfl) h0;clear hA0 hval0 hsz0 hsz;refine (X.laws_FnPlateLess.walk trivial a0 len0 cap0 z0 W hE w0 y0).mono fun e W' ⟨he,bel⟩=>?_
 subst he;exact⟨_,rfl,_,_,_,[],_,[.cell 0 0],hW',trodAll_mk1 (shut_bool Tryd.underlying4 _),(trodAll_cons_mk (Below.trod laidOut (by kernel_rfl) (of_decide_eq_true (by kernel_rfl)) k0 bel lt0) trodAll_mk0),errVars enc (errBelow bel hv) trivial _,bel.frame _,fun h=>by cases h⟩
theorem over:Rows.fnPlateLessRow.holds Tryd.pinned (OpenSpec.ofChange Rows.fnPlateLessSpec):=
 OpenClaim.holds_of_wide 5 Tryd.f5 rfl rfl rfl rfl rfl rfl rfl ⟨rfl,rfl,rfl,rfl,rfl⟩ rfl rfl rfl rfl rfl (by kernel_rfl) Tryd.func5 (by kernel_rfl)
  (of_decide_eq_true (by kernel_rfl)) (by unfold Func.isWrapper;first | (rw [if_pos (by decide +kernel)];kernel_rfl) | (rw [if_neg (by decide +kernel)];exact⟨rfl,rfl⟩))
  (fun os started H enc _=>lifted os started H enc)
theorem proved:Rows.FnPlateLessCardSaid:=
 Claim7.holds_tied_plain_at .later [] [.sentinel] true (true,"81de65706e8f648528cfb316c2c65b1eb27649638b9ac8b9a8b267c9286ff7f7") true
  over (fun _ h=>by cases h) (by kernel_rfl) (fun _ h=>by cases h) fnPlateLess_row_tie rfl ⟨rfl,rfl⟩ (by kernel_rfl) rfl
  (fun f fn hf hfn=>by
   obtain rfl:f=5:=Option.some.inj ((show Tryd.prog.funcNamed "loop.example/mortiser/laws.FnPlateLess" = some 5 by kernel_rfl).symm.trans hf) |>.symm
   obtain rfl:fn=Tryd.f5:=(Option.some.inj (Tryd.func5.symm.trans hfn)).symm
   exact⟨by kernel_rfl,fun j t ht=>by
    rw [Tryd.params5] at ht;have h3:t=22:=by
     rcases j with _ | j
     ·
      simpa using ht.symm
     ·
      simp at ht
    subst h3
    exact (show Tryd.prog.wantsStandIn 22=false by kernel_rfl)⟩)
  (by kernel_rfl)
end Go.Proofs.YtkefmnmoaomlhaaDoor.fnPlateLess
namespace Go.Proofs.YtkefmnmoaomlhaaDoor
theorem fnPlateLess_holds:Rows.FnPlateLessCardSaid:=fnPlateLess.proved
end Go.Proofs.YtkefmnmoaomlhaaDoor
end
