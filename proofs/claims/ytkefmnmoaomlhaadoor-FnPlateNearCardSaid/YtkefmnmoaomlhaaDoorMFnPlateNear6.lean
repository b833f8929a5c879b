/- FnPlateNear: the law returns true for every input, and each input reads behind the call as before; part 6 of 6. No condition. Merged by program out of: HBodyFar, FLawsFnPlateNear, EvLoop, EvPlate, EvPlateS, EvPlateF, EvDraws, PureFnPlateNear, WSized, LawFnPlateNear. -/
import Derived.Test.YtkefmnmoaomlhaaDoorMFnPlateNear5
import Derived.SizedLaws
import Derived.ChangeSlices
import Derived.WalkKit
import Derived.ProofKit
import Derived.OpenShut
import Derived.ShutString
import Derived.ChangeOld
import Derived.Below
import Derived.SevenTiedAt
set_option linter.all false
section
set_option linter.unusedVariables false
set_option linter.unusedSimpArgs false
namespace Go.Proofs.YtkefmnmoaomlhaaDoor.X
open Go.RowKit Go.Shelf Go.Proofs.YtkefmnmoaomlhaaDoorW.PrintWords Go.Proofs.YtkefmnmoaomlhaaDoorW.PrintLast Go.Proofs.YtkefmnmoaomlhaaDoorW.PrintMore
open Mort (edges segMeet loopOk ptOk inOf segFar segOk least fracOk fracCmp)
def runFar (p:Mort.Pt)(a:Mort.Frac)(es:List S61):Mort.Frac:=es.foldl (fun a s=>least a (segFar (sgP s) p)) a
theorem at_sg {W:World}{A:Option Addr}{n:Nat}{zs:List S61}(hC:Kd.C k61 W A n zs)(k:Nat)(h:k<n):
  ∃ ad,A=some ad∧W.cell? (ad.add (k*4))=some (.int .i64 (zs.getD k z61).f0.f0)∧W.cell? ⟨(ad.add (k*4)).block,(ad.add (k*4)).off+1,none⟩=some (.int .i64 (zs.getD k z61).f0.f1) ∧
   W.cell? ⟨(ad.add (k*4)).block,(ad.add (k*4)).off+2,none⟩=some (.int .i64 (zs.getD k z61).f1.f0)∧W.cell? ⟨(ad.add (k*4)).block,(ad.add (k*4)).off+3,none⟩=some (.int .i64 (zs.getD k z61).f1.f1):=
 at_T61 hC (k:Int) (by omega) (by omega)
theorem cut_from {P:Program}(t e:TypeId){i:TypeInfo}(ht:P.underlying t=some (.slice e))(hi:P.info? e=some i)(size:Nat)(hsz:i.size=size)(A:Option Addr)(n c m:Nat)(hm:m≤n):
  ∀ W:World,(Instr.slice t (.slice A n c) (some (.int .i64 (m:Int))) none none).run P W=.ok (.slice (if c=m then A else A.map (·.add (m*size))) (n-m) (c-m)) W:=by
 intro W;have hel:P.elem t=e:=by simp [Program.elem,ht]
 have hu:P.underlying t=some (.slice (P.elem t)):=by rw [hel];exact ht
 rw [run_slice_l W t A n c hu .i64 (m:Int) (Int.natCast_nonneg _) (by omega),hel];simp [sizeOf,typeInfo,hi,hsz,sliced,Result.andThen]
theorem cut_one (A:Option Addr)(n c:Nat)(h:1≤n)(W:World):(Instr.slice 57 (.slice A n c) (some (.int .i64 1)) none none).run Tryd.prog W=.ok (.slice (if c=1 then A else A.map (·.add (1*4))) (n-1) (c-1)) W:=by
 obtain⟨i0,hi,hz0,hz1,hz2⟩:=info_parts info61;exact cut_from 57 61 Tryd.underlying57 hi 4 hz1 A n c 1 h W
theorem segFar_f (a b c d e f:Int):impl_SegFar.f a b c d e f=some ((segFar ((a,b),(c,d)) (e,f)).1,(segFar ((a,b),(c,d)) (e,f)).2):=by unfold impl_SegFar.f;rfl
theorem segFar_told (s:S61)(x y:Int)(f:Mort.Frac)(w:World)(h:segFar (sgP s) (x,y)=f):
  Calls Tryd.prog 37 #[.agg #[.int .i64 s.f0.f0,.int .i64 s.f0.f1,.int .i64 s.f1.f0,.int .i64 s.f1.f1],.agg #[.int .i64 x,.int .i64 y]] w fun e w'=>e=.returned (.agg #[.int .i64 f.1,.int .i64 f.2])∧Below w.heap.size w w':=by
 have h1:segFar ((s.f0.f0,s.f0.f1),(s.f1.f0,s.f1.f1)) (x,y)=f:=h;have h2:=segFar_f s.f0.f0 s.f0.f1 s.f1.f0 s.f1.f1 x y;rw [h1] at h2;exact impl_SegFar.calls s.f0.f0 s.f0.f1 s.f1.f0 s.f1.f1 x y f.1 f.2 w h2
set_option maxHeartbeats 4000000 in
set_option maxRecDepth 100000 in
theorem far_calls (b c:Nat)(A:Option Addr)(e0:S61)(es:List S61)(x y:Int)(r:Mort.Frac)(w:World)(hcell:w.cell? ⟨b,2,none⟩=some (.slice A (e0::es).length c))(hcap:(e0::es).length≤c)
  (hC:Kd.C k61 w A (e0::es).length (e0::es)) (hok:∀ s∈e0::es,segOk (sgP s)=true) (hp:ptOk (x,y)=true) (hE:ErrW w) (hreach:es.length≤1000000) (h:runFar (x,y) (segFar (sgP e0) (x,y)) es=r) :
  Calls Tryd.prog 62 #[.pointer (some ⟨b,0,none⟩),.agg #[.int .i64 x,.int .i64 y]] w fun e w'=>e=.returned (.agg #[.int .i64 r.1,.int .i64 r.2])∧Below w.heap.size w w':=by
 have hu35:=Tryd.underlying35;have hu28:=Tryd.underlying28;have hu61:=Tryd.underlying61;have hcut:=cut_one A (e0::es).length c (by simp);have hC1:=Kd.C_drop (m:=1) hC (by simp) hcap;obtain⟨ad,hA,hx0,hx1,hx2,hx3⟩:=at_sg hC 0 (by simp);rw [Nat.zero_mul,show ad.add 0=ad from rfl] at hx0 hx1 hx2 hx3;generalize hA1:(if c=1 then A else A.map (·.add (1*4)))=A1 at hcut;have hC2:Kd.C k61 w A1 es.length es:=by rw [← hA1];exact hC1
 have HK:=a0_ (And.intro hC2 (And.intro hok (And.intro hp (And.intro hE (And.intro hreach h)))));clear hC1 hC2 hC hok hp hE hreach h;have hlen:(e0::es).length=es.length+1:=rfl;rw [hlen] at hcell hcap hcut;clear hlen hA1;subst hA;have ef0:((e0::es).getD 0 z61)=e0:=rfl;rw [ef0] at hx0 hx1 hx2 hx3;clear ef0;have hs0:=segFar_told e0 x y;generalize hf0:segFar (sgP e0) (x,y)=f0 at hs0;have HF:=Aside0.mk hf0;clear hf0;go_enter Tryd.func62,Tryd.ntmps62;go_wp2;have hb0:=below_drew1 (below_alloc (below_alloc (Below.refl w.heap.size w) (.cells #[.int .i64 x,.int .i64 y] 28)) (.cells #[.int .i64 0,.int .i64 0] 35));have lo2:=pw_cell_below hb0 hcell;have y0:=pw_cell_below hb0 hx0;have y1:=pw_cell_below hb0 hx1;have y2:=pw_cell_below hb0 hx2;have y3:=pw_cell_below hb0 hx3;have nb:=blk_alloc (blk_new w (.cells #[.int .i64 x,.int .i64 y] 28 (0,0))) (.cells #[.int .i64 0,.int .i64 0] 35);have nf:=blk_new (w.alloc (.cells #[.int .i64 x,.int .i64 y] 28)) (.cells #[.int .i64 0,.int .i64 0] 35 (0,0));generalize hW0:((w.alloc (.cells #[.int .i64 x,.int .i64 y] 28)).alloc (.cells #[.int .i64 0,.int .i64 0] 35)).drew=W0 at *;have n0:W0.heap[w.heap.size]?=some (.cells #[.int .i64 x,.int .i64 y] 28 (0,0)):=by rw [← hW0];exact nb
 have n1:W0.heap[w.heap.size+1]?=some (.cells #[.int .i64 0,.int .i64 0] 35 (0,0)):=by rw [← hW0];have:=nf;rwa [World.size_alloc] at this
 have hsz:W0.heap.size=w.heap.size+2:=by rw [← hW0];show (World.alloc _ _).heap.size=_;rw [World.size_alloc,World.size_alloc]
 have hal:=below_alloc (Below.refl W0.heap.size W0) (.cells #[.int .i64 0,.int .i64 0] 35);have nn:=blk_new W0 (.cells #[.int .i64 0,.int .i64 0] 35 (0,0));have a0:W0.cell? ⟨w.heap.size,0,none⟩=some (.int .i64 x):=(blk_cell n0 0).trans rfl;have a1:W0.cell? ⟨w.heap.size,1,none⟩=some (.int .i64 y):=(blk_cell n0 1).trans rfl;generalize hg:w.heap.size=g at *;have HW0:=Aside0.mk hW0;have hG:=Aside0.mk hg;have hcutA:=Aside0.mk hcut;clear hcut hW0;have KS:∀ w',Below W0.heap.size W0 w'→(fun w'=>w'.cell? ⟨b,2,none⟩=some (.slice (some ad) (es.length+1) c)∧w'.cell? ad=some (.int .i64 e0.f0.f0)∧w'.cell? ⟨ad.block,ad.off+1,none⟩=some (.int .i64 e0.f0.f1)∧w'.cell? ⟨ad.block,ad.off+2,none⟩=some (.int .i64 e0.f1.f0)∧w'.cell? ⟨ad.block,ad.off+3,none⟩=some (.int .i64 e0.f1.f1)∧w'.cell? ⟨g,0,none⟩=some (.int .i64 x)∧w'.cell? ⟨g,1,none⟩=some (.int .i64 y)) w':=fun w' hb=>⟨pw_cell_below hb lo2,pw_cell_below hb y0,pw_cell_below hb y1,pw_cell_below hb y2,pw_cell_below hb y3,pw_cell_below hb a0,pw_cell_below hb a1⟩
 refine start_ (n:=10) (S:=fun w'=>w'.cell? ⟨b,2,none⟩=some (.slice (some ad) (es.length+1) c)∧w'.cell? ad=some (.int .i64 e0.f0.f0)∧w'.cell? ⟨ad.block,ad.off+1,none⟩=some (.int .i64 e0.f0.f1)∧w'.cell? ⟨ad.block,ad.off+2,none⟩=some (.int .i64 e0.f1.f0)∧w'.cell? ⟨ad.block,ad.off+3,none⟩=some (.int .i64 e0.f1.f1)∧w'.cell? ⟨g,0,none⟩=some (.int .i64 x)∧w'.cell? ⟨g,1,none⟩=some (.int .i64 y)) (ds:=[]) (Array.replicate 10 false) (by kernel_rfl) rfl rfl (by have:=KS W0 (Below.refl _ _);rw [← HW0.out] at this;exact this) (fun hHeld=>?_);rw [HW0.out] at hHeld ⊢
 refine pv_ 0 9 (bm 10 1) ?_;refine pv_ 1 10 (bm 10 3) ?_;refine pv_ 2 11 (bm 10 7) ?_;refine tb7_ 3 12 (bm 10 15) hHeld ?_;refine pv_ 4 13 (bm 10 31) ?_;refine tb7_ 5 14 (bm 10 63) hHeld ?_;refine tb7_ 6 15 (bm 10 127) hHeld ?_;refine join_ (σ:=Nat) 1 (bm 10 511) (fun s_=>[(16,.agg #[.int .i64 f0.1,.int .i64 f0.2]),(5,.pointer (some ⟨s_,0,none⟩))]) (fun s_ w'=>(fun w'=>w'.cell? ⟨b,2,none⟩=some (.slice (some ad) (es.length+1) c)∧w'.cell? ad=some (.int .i64 e0.f0.f0)∧w'.cell? ⟨ad.block,ad.off+1,none⟩=some (.int .i64 e0.f0.f1)∧w'.cell? ⟨ad.block,ad.off+2,none⟩=some (.int .i64 e0.f1.f0)∧w'.cell? ⟨ad.block,ad.off+3,none⟩=some (.int .i64 e0.f1.f1)∧w'.cell? ⟨g,0,none⟩=some (.int .i64 x)∧w'.cell? ⟨g,1,none⟩=some (.int .i64 y)) w'∧w'.heap[s_]?=some (.cells #[.int .i64 0,.int .i64 0] 35 (0,0))∧W0.heap.size≤s_∧Below W0.heap.size W0 w') ?_ ?_;rotate_left
 ·
  intro hCont;refine two_ (i:=7) (j:=8) (Ni:=some 16) (Nj:=some 5) (bm 10 255) (bm 10 383) rfl rfl rfl rfl (by kernel_rfl) (by decide) (by decide) (fun K hK=>?_) (fun K hK=>?_)
  ·
   skip;refine goes_ Tryd.func37 (by kernel_rfl) rfl #[.agg #[.int .i64 e0.f0.f0,.int .i64 e0.f0.f1,.int .i64 e0.f1.f0,.int .i64 e0.f1.f1],.agg #[.int .i64 x,.int .i64 y]] (by rfl) rfl rfl (by (try simp only [List.map_toArray,List.map_cons,List.map_nil]);first | done | rfl) ?_;refine (segFar_told e0 x y f0 _ HF.out).mono ?_;rintro e w1 ⟨rfl,hb⟩;refine⟨_,rfl,?_⟩;refine hK.out _ _ (KS _ hb) (fun hHeld=>?_);clear hK K;refine no_ (h:=?_);refine one_ (i:=8) (N:=some 5) (bm 10 511) rfl rfl (by kernel_rfl) (by decide) (fun K hK=>?_);refine box_step ?hg (N:=5) ?hd (cs:=#[.int .i64 0,.int .i64 0]) (t:=35) ?hr ?_;(case hd=>rfl);(case hg=>rfl);(case hr=>first | (go_simp;done) | (go_simp;rfl));intro gb hgb w2 hbox hbb;refine hK.out _ _ (KS _ (below_step hb hbb)) (fun hHeld=>?_);clear hK K;refine no_ (h:=?_);exact norm_ (by simp only [putAll,Act.put,List.setIfInBounds_toArray,List.set_cons_zero,List.set_cons_succ]) (hCont gb _ ⟨hHeld,hbox,hgb▸hb.size,below_step hb hbb⟩)
  ·
   skip;refine box_step ?hg (N:=5) ?hd (cs:=#[.int .i64 0,.int .i64 0]) (t:=35) ?hr ?_;(case hd=>rfl);(case hg=>rfl);(case hr=>first | (go_simp;done) | (go_simp;rfl));intro gb hgb w1 hbox hbb;refine hK.out _ _ (KS _ hbb) (fun hHeld=>?_);clear hK K;refine no_ (h:=?_);refine one_ (i:=7) (N:=some 16) (bm 10 511) rfl rfl (by kernel_rfl) (by decide) (fun K hK=>?_);refine goes_ Tryd.func37 (by kernel_rfl) rfl #[.agg #[.int .i64 e0.f0.f0,.int .i64 e0.f0.f1,.int .i64 e0.f1.f0,.int .i64 e0.f1.f1],.agg #[.int .i64 x,.int .i64 y]] (by rfl) rfl rfl (by (try simp only [List.map_toArray,List.map_cons,List.map_nil]);first | done | rfl) ?_;refine (segFar_told e0 x y f0 _ HF.out).mono ?_;rintro e w2 ⟨rfl,hb⟩;refine⟨_,rfl,?_⟩;refine hK.out _ _ (KS _ (below_step hbb hb)) (fun hHeld=>?_);clear hK K;refine no_ (h:=?_);exact norm_ (by simp only [putAll,Act.put,List.setIfInBounds_toArray,List.set_cons_zero,List.set_cons_succ]) (hCont gb _ ⟨hHeld,blk_below hbox hb,Nat.le_of_eq hgb.symm,below_step hbb hb⟩)
 rintro n w4 ⟨hHeld,hbn,hnW,hb4⟩;refine norm_ (a':=?_) ?_ ?_;rotate_left
 ·
  simp only [putAll,Act.put,List.setIfInBounds_toArray,List.set_cons_zero,List.set_cons_succ];rfl
 refine one_ (i:=9) (N:=none) (bm 10 1023) rfl rfl (by kernel_rfl) (by decide) (fun K hK=>?_);have hs1:w4.cell? ⟨n,0,none⟩=some (.int .i64 0):=(blk_cell hbn 0).trans rfl;have hs2:w4.cell? ⟨n,1,none⟩=some (.int .i64 0):=(blk_cell hbn 1).trans rfl;have hf1:=blk_frozen hbn 0;have hf2:=blk_frozen hbn 1;refine skip_ (w1:=?_) (by rfl) rfl ?_ ?_;rotate_left
 ·
  go_simp;rfl
 have hb5:Below W0.heap.size W0 ((w4.setCell ⟨n,0,none⟩ (.int .i64 f0.1)).setCell ⟨n,1,none⟩ (.int .i64 f0.2)):=(hb4.setCell (p:=⟨n,0,none⟩) hnW _).setCell (p:=⟨n,1,none⟩) hnW _;have hbn5:((w4.setCell ⟨n,0,none⟩ (.int .i64 f0.1)).setCell ⟨n,1,none⟩ (.int .i64 f0.2)).heap[n]?=some (.cells #[.int .i64 f0.1,.int .i64 f0.2] 35 (0,0)):=blk_put (blk_put hbn 0 _ rfl) 1 _ rfl;refine hK.out _ _ (KS _ hb5) (fun hHeld2=>?_);clear hK K;refine done_ (by kernel_rfl) ?_;generalize (w4.setCell ⟨n,0,none⟩ (.int .i64 f0.1)).setCell ⟨n,1,none⟩ (.int .i64 f0.2)=w5 at *;clear hs1 hs2 hf1 hf2 hbn hb4 hHeld hHeld2;have hcut:=hcutA.out;have c5:=pw_cell_below hb5 lo2;have HS:=a0_ (And.intro n0 (And.intro n1 (And.intro hb0 (And.intro hbn5 (And.intro hb5 (And.intro hnW hsz))))));clear hs0 nb nf n0 n1 hsz a0 a1 hal nn y0 y1 y2 y3 hx0 hx1 hx2 hx3 hb0 KS hHeld hb5 hbn5 hnW;go_wp2;clear c5 lo2
 go_loopg [23] es.length (fun kq v23 wr=>∃ (i:Nat) (a1 a2:Int),v23=.int .i64 (i:Int)∧Aside0 (kq=es.length-i∧i≤es.length∧wr.heap[g]?=some (.cells #[.int .i64 x,.int .i64 y] 28 (0,0))∧wr.heap[g+1]?=some (.cells #[.int .i64 0,.int .i64 0] 35 (0,0)) ∧
   wr.heap[n]?=some (.cells #[.int .i64 a1,.int .i64 a2] 35 (0,0))∧fracOk (a1,a2)=true∧runFar (x,y) (a1,a2) (es.drop i)=r∧Below g w wr∧g+1<n))
 case atStart =>
  obtain⟨h1,h2,h3,h4,h5,h6,h7⟩:=HS.out;obtain⟨k1,k2,k3,k4,k5,k6⟩:=HK.out;have e1:=HF.out;refine⟨0,f0.1,f0.2,rfl,⟨rfl,Nat.zero_le _,blk_later h1 h5,blk_later h2 h5,h4,?_,?_,h3.trans (h5.mono (by omega)),by omega⟩⟩
  ·
   rw [show (f0.1,f0.2)=f0 from rfl,← e1];exact (Mort.segFar_ok (k2 e0 List.mem_cons_self) k3).1
  ·
   rw [show (f0.1,f0.2)=f0 from rfl,← e1];exact k6
 case round =>
  obtain⟨i,a1,a2,rfl,H1⟩:=hrel;obtain⟨hk,hi,hpb,hrb,hnb,hfo,hrun,hBw,hgn⟩:=H1.out;clear H1 HS;by_cases hlt:i<es.length
  ·
   have hd:decide ((i:Int)<(es.length:Int))=true:=decide_eq_true (by omega);obtain⟨adr,hadr,z0,z1,z2,z3⟩:=at_sg HK.out.1 i hlt;subst hadr;have hgi:g=w.heap.size:=hG.out.symm;have t0:=(hBw.cell (by have:=World.block_lt_of_cell? w _ z0;rw [hgi];exact this)).trans z0;have t1:=(hBw.cell (p:=⟨(adr.add (i*4)).block,(adr.add (i*4)).off+1,none⟩) (by have:=World.block_lt_of_cell? w _ z1;rw [hgi];exact this)).trans z1;have t2:=(hBw.cell (p:=⟨(adr.add (i*4)).block,(adr.add (i*4)).off+2,none⟩) (by have:=World.block_lt_of_cell? w _ z2;rw [hgi];exact this)).trans z2;have t3:=(hBw.cell (p:=⟨(adr.add (i*4)).block,(adr.add (i*4)).off+3,none⟩) (by have:=World.block_lt_of_cell? w _ z3;rw [hgi];exact this)).trans z3;have hes:es.drop i=es.getD i z61::es.drop (i+1):=by rw [List.drop_eq_getElem_cons hlt,List.getD_eq_getElem?_getD,List.getElem?_eq_getElem hlt];rfl
   have hmem:es.getD i z61∈e0::es:=by rw [List.getD_eq_getElem?_getD,List.getElem?_eq_getElem hlt];exact List.mem_cons_of_mem _ (List.getElem_mem hlt)
   rw [hes] at hrun;generalize es.getD i z61=s0 at *;have hfar:=segFar_told s0 x y;have hsg:fracOk (segFar (sgP s0) (x,y))=true:=(Mort.segFar_ok (HK.out.2.1 s0 hmem) HK.out.2.2.1).1;have hrun2:runFar (x,y) (least (a1,a2) (segFar (sgP s0) (x,y))) (es.drop (i+1))=r:=hrun;generalize segFar (sgP s0) (x,y)=f1 at *;have hF1:fracOk (f1.1,f1.2)=true:=hsg;have hcm:impl_FracCmp.f f1.1 f1.2 a1 a2=some (Mort.cmp0 f1 (a1,a2)):=by unfold impl_FracCmp.f;rw [Mort.fracCmp_ok hF1 hfo]
   have hE2:ErrW wr:=HK.out.2.2.2.1.below (hgi▸hBw);have hcl:least (a1,a2) f1=if Mort.cmp0 f1 (a1,a2)<0 then f1 else (a1,a2):=rfl;generalize Mort.cmp0 f1 (a1,a2)=cv at hcm hcl;have p0:wr.cell? ⟨g,0,none⟩=some (.int .i64 x):=(blk_cell hpb 0).trans rfl;have p1:wr.cell? ⟨g,1,none⟩=some (.int .i64 y):=(blk_cell hpb 1).trans rfl;have q0:wr.cell? ⟨n,0,none⟩=some (.int .i64 a1):=(blk_cell hnb 0).trans rfl;have q1:wr.cell? ⟨n,1,none⟩=some (.int .i64 a2):=(blk_cell hnb 1).trans rfl;have HL:=a0_ (And.intro hk (And.intro hpb (And.intro hrb (And.intro hnb (And.intro hfo (And.intro hrun2 (And.intro hBw (And.intro hgn (And.intro hE2 (And.intro hcm (And.intro hF1 hlt)))))))))));clear hk hi hpb hrb hnb hfo hrun hrun2 hBw hgn hE2 hcm hF1 hsg hes hmem z0 z1 z2 z3 hgi hcut;have hal:=below_alloc (Below.refl wr.heap.size wr) (.cells #[.int .i64 s0.f0.f0,.int .i64 s0.f0.f1,.int .i64 s0.f1.f0,.int .i64 s0.f1.f1] 61);have p0':=pw_cell_below hal p0;have p1':=pw_cell_below hal p1;have HAL:=Aside0.mk hal;have HQ:=a0_ (And.intro q0 q1);have HCL:=Aside0.mk hcl;clear hal q0 q1 p0 p1 hcl;by_cases hlt0:cv<0
   ·
    have hdc:decide (cv<0)=true:=decide_eq_true hlt0;have HLT:=Aside0.mk hlt0;clear hlt0;go_wp2_with (first | (go_at_call 37;refine (hfar f1 _ rfl).mono ?_;rintro e w6 ⟨rfl,hb6⟩;have q0':=pw_cell_below (below_alloc (Below.refl w6.heap.size w6) (.cells #[.int .i64 f1.1,.int .i64 f1.2] 35)) (pw_cell_below hb6 (pw_cell_below HAL.out HQ.out.1));have q1':=pw_cell_below (below_alloc (Below.refl w6.heap.size w6) (.cells #[.int .i64 f1.1,.int .i64 f1.2] 35)) (pw_cell_below hb6 (pw_cell_below HAL.out HQ.out.2));have HB6:=Aside0.mk hb6;clear hb6) | (go_at_call 21;refine (impl_FracCmp.calls f1.1 f1.2 a1 a2 cv _ ((HL.out.2.2.2.2.2.2.2.2.1.below (below_step HAL.out HB6.out)).below (below_alloc (Below.refl _ _) _)) HL.out.2.2.2.2.2.2.2.2.2.1).mono ?_;rintro e w7 ⟨rfl,hb7⟩;have q0'':=pw_cell_below hb7 q0';have q1'':=pw_cell_below hb7 q1';have m7:=blk_later (blk_new w6 (.cells #[.int .i64 f1.1,.int .i64 f1.2] 35 (0,0))) hb7;have m70:w7.cell? ⟨w6.heap.size,0,none⟩=some (.int .i64 f1.1):=(blk_cell m7 0).trans rfl;have m71:w7.cell? ⟨w6.heap.size,1,none⟩=some (.int .i64 f1.2):=(blk_cell m7 1).trans rfl;have n7:=blk_later (blk_alloc (blk_later (blk_later HL.out.2.2.2.1 HAL.out) HB6.out) (.cells #[.int .i64 f1.1,.int .i64 f1.2] 35)) hb7;have n70:=blk_frozen n7 0;have n71:=blk_frozen n7 1;have HB7:=a0_ (below_step (below_alloc (below_step HAL.out HB6.out) (.cells #[.int .i64 f1.1,.int .i64 f1.2] 35)) hb7);clear hb7));obtain⟨k1,k2,k3,k4,k5,k6,k7,k8,k9,k10,k11,k12⟩:=HL.out;have hB7:=HB7.out;go_roundg (es.length-(i+1))
    case measure=>omega
    case rel =>
     have hnlt:w.heap.size≤n:=by have:=hG.out;omega
     have e1:((w7.setCell ⟨n,0,none⟩ (.int .i64 f1.1)).setCell ⟨n,1,none⟩ (.int .i64 f1.2)).heap[g]?=w7.heap[g]?:=(Below.heap_setCell _ ⟨n,1,none⟩ _ g (by show g≠n;omega)).trans (Below.heap_setCell _ ⟨n,0,none⟩ _ g (by show g≠n;omega));have e2:((w7.setCell ⟨n,0,none⟩ (.int .i64 f1.1)).setCell ⟨n,1,none⟩ (.int .i64 f1.2)).heap[g+1]?=w7.heap[g+1]?:=(Below.heap_setCell _ ⟨n,1,none⟩ _ (g+1) (by show g+1≠n;omega)).trans (Below.heap_setCell _ ⟨n,0,none⟩ _ (g+1) (by show g+1≠n;omega));refine⟨i+1,f1.1,f1.2,?_,⟨rfl,by omega,e1.trans (blk_later k2 hB7),e2.trans (blk_later k3 hB7),blk_put (blk_put n7 0 _ rfl) 1 _ rfl,k11,?_,?_,k8⟩⟩
     ·
      have hw:wrap64 ((i:Int)+1)=(i:Int)+1:=by have:=HK.out.2.2.2.2.1;unfold wrap64;omega
      rw [hw];rfl
     ·
      have:=HCL.out;rw [if_pos HLT.out] at this;rw [this] at k6;exact k6
     ·
      exact ((k7.trans (hB7.mono (hG.out▸(hG.out▸k7).size))).setCell (p:=⟨n,0,none⟩) (by show g≤n;omega) _).setCell (p:=⟨n,1,none⟩) (by show g≤n;omega) _
   ·
    have hdc:decide (cv<0)=false:=decide_eq_false hlt0;have HLT:=Aside0.mk hlt0;clear hlt0;go_wp2_with (first | (go_at_call 37;refine (hfar f1 _ rfl).mono ?_;rintro e w6 ⟨rfl,hb6⟩;have q0':=pw_cell_below (below_alloc (Below.refl w6.heap.size w6) (.cells #[.int .i64 f1.1,.int .i64 f1.2] 35)) (pw_cell_below hb6 (pw_cell_below HAL.out HQ.out.1));have q1':=pw_cell_below (below_alloc (Below.refl w6.heap.size w6) (.cells #[.int .i64 f1.1,.int .i64 f1.2] 35)) (pw_cell_below hb6 (pw_cell_below HAL.out HQ.out.2));have HB6:=Aside0.mk hb6;clear hb6) | (go_at_call 21;refine (impl_FracCmp.calls f1.1 f1.2 a1 a2 cv _ ((HL.out.2.2.2.2.2.2.2.2.1.below (below_step HAL.out HB6.out)).below (below_alloc (Below.refl _ _) _)) HL.out.2.2.2.2.2.2.2.2.2.1).mono ?_;rintro e w7 ⟨rfl,hb7⟩;have q0'':=pw_cell_below hb7 q0';have q1'':=pw_cell_below hb7 q1';have m7:=blk_later (blk_new w6 (.cells #[.int .i64 f1.1,.int .i64 f1.2] 35 (0,0))) hb7;have m70:w7.cell? ⟨w6.heap.size,0,none⟩=some (.int .i64 f1.1):=(blk_cell m7 0).trans rfl;have m71:w7.cell? ⟨w6.heap.size,1,none⟩=some (.int .i64 f1.2):=(blk_cell m7 1).trans rfl;have n7:=blk_later (blk_alloc (blk_later (blk_later HL.out.2.2.2.1 HAL.out) HB6.out) (.cells #[.int .i64 f1.1,.int .i64 f1.2] 35)) hb7;have n70:=blk_frozen n7 0;have n71:=blk_frozen n7 1;have HB7:=a0_ (below_step (below_alloc (below_step HAL.out HB6.out) (.cells #[.int .i64 f1.1,.int .i64 f1.2] 35)) hb7);clear hb7));obtain⟨k1,k2,k3,k4,k5,k6,k7,k8,k9,k10,k11,k12⟩:=HL.out;have hB7:=HB7.out;go_roundg (es.length-(i+1))
    case measure=>omega
    case rel =>
     refine⟨i+1,a1,a2,?_,⟨rfl,by omega,blk_later k2 hB7,blk_later k3 hB7,n7,k5,?_,k7.trans (hB7.mono (hG.out▸(hG.out▸k7).size)),k8⟩⟩
     ·
      have hw:wrap64 ((i:Int)+1)=(i:Int)+1:=by have:=HK.out.2.2.2.2.1;unfold wrap64;omega
      rw [hw];rfl
     ·
      have:=HCL.out;rw [if_neg (by have:=HLT.out;omega)] at this;rw [this] at k6;exact k6
  ·
   obtain rfl:i=es.length:=by omega
   have hd:decide ((es.length:Int)<(es.length:Int))=false:=decide_eq_false (by omega);have q0:wr.cell? ⟨n,0,none⟩=some (.int .i64 a1):=(blk_cell hnb 0).trans rfl;have q1:wr.cell? ⟨n,1,none⟩=some (.int .i64 a2):=(blk_cell hnb 1).trans rfl;have q2:wr.cell? ⟨g+1,0,none⟩=some (.int .i64 0):=(blk_cell hrb 0).trans rfl;have q3:wr.cell? ⟨g+1,1,none⟩=some (.int .i64 0):=(blk_cell hrb 1).trans rfl;have q4:=blk_frozen hrb 0;have q5:=blk_frozen hrb 1;have hrr:(a1,a2)=r:=by rw [← hrun,List.drop_length];rfl
   obtain⟨r1,r2⟩:=r;cases hrr;have hrb':=blk_put (blk_put hrb 0 (.int .i64 a1) rfl) 1 (.int .i64 a2) rfl;have HR2:=Aside0.mk hrb';have q6:((wr.setCell ⟨g+1,0,none⟩ (.int .i64 a1)).setCell ⟨g+1,1,none⟩ (.int .i64 a2)).cell? ⟨g+1,0,none⟩=some (.int .i64 a1):=(blk_cell hrb' 0).trans rfl;have q7:((wr.setCell ⟨g+1,0,none⟩ (.int .i64 a1)).setCell ⟨g+1,1,none⟩ (.int .i64 a2)).cell? ⟨g+1,1,none⟩=some (.int .i64 a2):=(blk_cell hrb' 1).trans rfl;have HB:=Aside0.mk hBw;clear hrun hBw hnb hrb hpb hk hi hlt hfo hgn hcut hrb';go_wp2;refine bodyPost_ret (results_cell_row rfl _ _ (g+1) 35 #[.int .i64 a1,.int .i64 a2] (0,0) _ rfl HR2.out Tryd.underlying35 rfl (by kernel_rfl)) rfl ?_;refine⟨rfl,?_⟩;exact (HB.out.setCell (p:=⟨g+1,0,none⟩) (Nat.le_succ g) _).setCell (p:=⟨g+1,1,none⟩) (Nat.le_succ g) _
def impl_PlateEdges.f (l0_0:List S28)(l0_1:List (List S28)):Option (List S61):=some (if bodyOkB l0_0 l0_1 then allEdges (l0_0::l0_1) else [])
def farE (E:List S61)(p:Mort.Pt):Mort.Frac:=match E with
 | []=>(0,0)
 | e0::es=>runFar p (segFar (sgP e0) p) es
def impl_PlateFar.f (l0_0:List S28)(l0_1:List (List S28))(a1_0 a1_1:Int):Option (Int × Int):=
 some (if bodyOkB l0_0 l0_1 && ptOk (a1_0,a1_1) then farE (allEdges (l0_0::l0_1)) (a1_0,a1_1) else (0,0))
theorem bodyOkB_iff (o:List S28)(H:List (List S28)):bodyOkB o H=true ↔ H.length≤2∧loopOk (o.map ptP)=true∧(∀ z∈H,loopOk (z.map ptP)=true)∧apartAll (o::H)=true∧nestedAll o H=true:=by
 unfold bodyOkB;simp only [Bool.and_eq_true,decide_eq_true_eq,List.all_eq_true]
theorem edgesS_ok {z:List S28}(h:loopOk (z.map ptP)=true):∀ s∈edgesS z,segOk (sgP s)=true:=by
 intro s hs;unfold edgesS at hs;obtain⟨i,_,rfl⟩:=List.mem_map.1 hs;have h1:=((Mort.loopOk_iff _).1 h).2.2.1;have:=h1 _ (Mort.mem_edges.2 ⟨i,by simpa using i.2,rfl⟩)
 rwa [ed_edS] at this
theorem allEdges_ok {o:List S28}{H:List (List S28)}(h:bodyOkB o H=true):∀ s∈allEdges (o::H),segOk (sgP s)=true:=by
 intro s hs;obtain⟨_,h1,h2,_⟩:=(bodyOkB_iff o H).1 h;unfold allEdges at hs;obtain⟨z,hz,hs2⟩:=List.mem_flatMap.1 hs
 rcases List.mem_cons.1 hz with rfl | hz
 ·
  exact edgesS_ok h1 s hs2
 ·
  exact edgesS_ok (h2 z hz) s hs2
theorem loop_len {z:List S28}(h:loopOk (z.map ptP)=true):3≤z.length∧z.length≤8:=by
 obtain⟨h1,h2,_⟩:=(Mort.loopOk_iff _).1 h
 simpa using And.intro h1 h2
theorem small_of {o:List S28}{H:List (List S28)}(h:bodyOkB o H=true):Small (o::H):=by
 obtain⟨_,h1,h2,_⟩:=(bodyOkB_iff o H).1 h;intro z hz
 rcases List.mem_cons.1 hz with rfl | hz
 ·
  have:=loop_len h1;omega
 ·
  have:=loop_len (h2 z hz);omega
theorem allEdges_cons {o:List S28}{H:List (List S28)}(h:bodyOkB o H=true):∃ e0 es,allEdges (o::H)=e0::es∧es.length≤23:=by
 obtain⟨h0,h1,h2,_⟩:=(bodyOkB_iff o H).1 h;have hl:=allEdges_len (small_of h);have hp:0<(allEdges (o::H)).length:=by
  unfold allEdges;rw [List.flatMap_cons,List.length_append];have:(edgesS o).length=o.length:=by simp [edgesS]
  have:=loop_len h1;omega
 simp only [List.length_cons] at hl
 cases hE:allEdges (o::H) with
 | nil=>rw [hE] at hp;simp at hp
 | cons e0 es=>exact⟨e0,es,rfl,by rw [hE] at hl;simp only [List.length_cons] at hl;omega⟩
section
variable (A0_0:Option Addr) (c0_0:Nat) (l0_0:List S28) (A0_1:Option Addr) (c0_1:Nat) (l0_1:List (List S28))
set_option maxHeartbeats 4000000 in
set_option maxRecDepth 100000 in
theorem impl_PlateEdges.calls (r:List S61)(w:World)(hr0_0:Kd.C k28 w A0_0 l0_0.length l0_0)(hc0_0:l0_0.length≤c0_0)(hr0_1:Kd.C (Kd.slice 28 k28) w A0_1 l0_1.length l0_1)(hc0_1:l0_1.length≤c0_1)(h:impl_PlateEdges.f l0_0 l0_1=some r):
  Calls Tryd.prog 36 #[.agg #[.slice A0_0 l0_0.length c0_0,.slice A0_1 l0_1.length c0_1]] w fun e w'=>∃ v0_,e=.returned v0_∧Kd.R k61 61 w' w.heap.size (fun _=>True) v0_ r∧Below w.heap.size w w':=by
 have hu26:=Tryd.underlying26;have hu57:=Tryd.underlying57;have hb:(if bodyOkB l0_0 l0_1 then allEdges (l0_0::l0_1) else [])=r:=Option.some.inj h;clear h;have hal:=below_alloc (Below.refl w.heap.size w) (.cells #[.slice A0_0 l0_0.length c0_0,.slice A0_1 l0_1.length c0_1] 26);have HK:=a0_ (And.intro (Kd.C_below hr0_0 hal) (And.intro hc0_0 (And.intro (Kd.C_below hr0_1 hal) (And.intro hc0_1 hal))));clear hr0_0 hc0_0 hr0_1 hc0_1 hal
 cases hk:bodyOkB l0_0 l0_1 with
 | false =>
  rw [hk,if_neg (by decide)] at hb;subst hb;have HB:=Aside0.mk hk;clear hk;go_enter Tryd.func36,Tryd.ntmps36;go_wp2_with (go_at_call 52;refine (bodyOf_calls A0_0 c0_0 l0_0 A0_1 c0_1 l0_1 false _ HK.out.1 HK.out.2.1 HK.out.2.2.1 HK.out.2.2.2.1 HB.out).mono ?_;rintro e w1 ⟨_,hN⟩;obtain⟨rfl,hb1⟩:=hN rfl);go_ret;exact⟨_,rfl,Kd.R_nil _ _ _ _ _,below_step HK.out.2.2.2.2 hb1⟩
 | true =>
  rw [hk,if_pos rfl] at hb;have HB:=a0_ (And.intro hk hb);clear hk hb;go_enter Tryd.func36,Tryd.ntmps36;go_wp2_with (go_at_call 52;refine (bodyOf_calls A0_0 c0_0 l0_0 A0_1 c0_1 l0_1 true _ HK.out.1 HK.out.2.1 HK.out.2.2.1 HK.out.2.2.2.1 HB.out.1).mono ?_;rintro e w1 ⟨hN,_⟩;obtain⟨b,bs,v,rfl,hBA,hcell,hR,hb1⟩:=hN rfl;have HR:=Aside0.mk hR;clear hBA hR);go_ret;exact⟨_,rfl,HB.out.2▸Kd.R_lower HR.out HK.out.2.2.2.2.size,below_step HK.out.2.2.2.2 hb1⟩
end
theorem farE_told (b c:Nat)(A:Option Addr)(E:List S61)(x y:Int)(r:Mort.Frac)(w:World)(hcell:w.cell? ⟨b,2,none⟩=some (.slice A E.length c))(hcap:E.length≤c)
  (hC:Kd.C k61 w A E.length E) (hok:∀ s∈E,segOk (sgP s)=true) (hp:ptOk (x,y)=true) (hE:ErrW w) (hne:0<E.length) (hreach:E.length≤1000000) (h:farE E (x,y)=r) :
  Calls Tryd.prog 62 #[.pointer (some ⟨b,0,none⟩),.agg #[.int .i64 x,.int .i64 y]] w fun e w'=>e=.returned (.agg #[.int .i64 r.1,.int .i64 r.2])∧Below w.heap.size w w':=by
 cases E with
 | nil=>simp at hne
 | cons e0 es=>exact far_calls b c A e0 es x y r w hcell hcap hC hok hp hE (by simp only [List.length_cons] at hreach;omega) h
section
variable (A0_0:Option Addr) (c0_0:Nat) (l0_0:List S28) (A0_1:Option Addr) (c0_1:Nat) (l0_1:List (List S28))
set_option maxHeartbeats 4000000 in
set_option maxRecDepth 100000 in
theorem impl_PlateFar.calls (a1_0 a1_1 r1 r2:Int)(w:World)(hr0_0:Kd.C k28 w A0_0 l0_0.length l0_0)(hc0_0:l0_0.length≤c0_0)(hr0_1:Kd.C (Kd.slice 28 k28) w A0_1 l0_1.length l0_1)(hc0_1:l0_1.length≤c0_1)(hE:ErrW w)(h:impl_PlateFar.f l0_0 l0_1 a1_0 a1_1=some (r1,r2)):
  Calls Tryd.prog 22 #[.agg #[.slice A0_0 l0_0.length c0_0,.slice A0_1 l0_1.length c0_1],.agg #[.int .i64 a1_0,.int .i64 a1_1]] w fun e w'=>e=.returned (.agg #[.int .i64 r1,.int .i64 r2])∧Below w.heap.size w w':=by
 have hu26:=Tryd.underlying26;have hu28:=Tryd.underlying28;have hu35:=Tryd.underlying35;have hb:(if bodyOkB l0_0 l0_1 && ptOk (a1_0,a1_1) then farE (allEdges (l0_0::l0_1)) (a1_0,a1_1) else (0,0))=(r1,r2):=Option.some.inj h;clear h;have hal:=below_alloc (below_alloc (below_alloc (Below.refl w.heap.size w) (.cells #[.slice A0_0 l0_0.length c0_0,.slice A0_1 l0_1.length c0_1] 26)) (.cells #[.int .i64 a1_0,.int .i64 a1_1] 28)) (.cells #[.int .i64 0,.int .i64 0] 35);have HK:=a0_ (And.intro (Kd.C_below hr0_0 hal) (And.intro hc0_0 (And.intro (Kd.C_below hr0_1 hal) (And.intro hc0_1 (And.intro hal (hE.below hal))))));clear hr0_0 hc0_0 hr0_1 hc0_1 hal hE;have np:=blk_alloc (blk_new (w.alloc (.cells #[.slice A0_0 l0_0.length c0_0,.slice A0_1 l0_1.length c0_1] 26)) (.cells #[.int .i64 a1_0,.int .i64 a1_1] 28 (0,0))) (.cells #[.int .i64 0,.int .i64 0] 35);rw [World.size_alloc] at np;have nf:=blk_new ((w.alloc (.cells #[.slice A0_0 l0_0.length c0_0,.slice A0_1 l0_1.length c0_1] 26)).alloc (.cells #[.int .i64 a1_0,.int .i64 a1_1] 28)) (.cells #[.int .i64 0,.int .i64 0] 35 (0,0));rw [World.size_alloc,World.size_alloc] at nf;have NP:=Aside0.mk np;have NF:=Aside0.mk nf;clear np nf
 cases hk:bodyOkB l0_0 l0_1 with
 | false =>
  rw [hk,Bool.false_and,if_neg (by decide)] at hb;cases hb;have HB:=Aside0.mk hk;clear hk;go_enter Tryd.func22,Tryd.ntmps22;go_wp2_with (go_at_call 52;refine (bodyOf_calls A0_0 c0_0 l0_0 A0_1 c0_1 l0_1 false _ HK.out.1 HK.out.2.1 HK.out.2.2.1 HK.out.2.2.2.1 HB.out).mono ?_;rintro e w1 ⟨_,hN⟩;obtain⟨rfl,hb1⟩:=hN rfl;have n1:=blk_later NF.out hb1;have s10:w1.cell? ⟨w.heap.size+1+1,0,none⟩=some (.int .i64 0):=(blk_cell n1 0).trans rfl;have s11:w1.cell? ⟨w.heap.size+1+1,1,none⟩=some (.int .i64 0):=(blk_cell n1 1).trans rfl;have s12:=blk_frozen n1 0;have s13:=blk_frozen n1 1;have N1:=Aside0.mk n1;clear n1);refine bodyPost_ret (results_cell_row rfl _ _ (w.heap.size+1+1) 35 #[.int .i64 0,.int .i64 0] (0,0) _ rfl (blk_put (blk_put N1.out 0 _ rfl) 1 _ rfl) Tryd.underlying35 rfl (by kernel_rfl)) rfl ?_;exact⟨rfl,((below_step HK.out.2.2.2.2.1 hb1).setCell (p:=⟨w.heap.size+1+1,0,none⟩) (by show w.heap.size≤w.heap.size+1+1;omega) _).setCell (p:=⟨w.heap.size+1+1,1,none⟩) (by show w.heap.size≤w.heap.size+1+1;omega) _⟩
 | true =>
  cases hp:ptOk (a1_0,a1_1) with
  | false =>
   rw [hk,hp,Bool.and_false,if_neg (by decide)] at hb;cases hb;have HB:=a0_ (And.intro hk ((iPtOk a1_0 a1_1).trans (congrArg some hp)));clear hk hp;go_enter Tryd.func22,Tryd.ntmps22;go_wp2_with (first | (go_at_call 52;refine (bodyOf_calls A0_0 c0_0 l0_0 A0_1 c0_1 l0_1 true _ HK.out.1 HK.out.2.1 HK.out.2.2.1 HK.out.2.2.2.1 HB.out.1).mono ?_;rintro e w1 ⟨hN,_⟩;obtain⟨b,bs,v,rfl,hBA,hcell,hR,hb1⟩:=hN rfl;have n1:=blk_later NF.out hb1;have s10:w1.cell? ⟨w.heap.size+1+1,0,none⟩=some (.int .i64 0):=(blk_cell n1 0).trans rfl;have s11:w1.cell? ⟨w.heap.size+1+1,1,none⟩=some (.int .i64 0):=(blk_cell n1 1).trans rfl;have s12:=blk_frozen n1 0;have s13:=blk_frozen n1 1;have N1:=Aside0.mk n1;clear n1;have p1:=blk_later NP.out hb1;have m10:w1.cell? ⟨w.heap.size+1,0,none⟩=some (.int .i64 a1_0):=(blk_cell p1 0).trans rfl;have m11:w1.cell? ⟨w.heap.size+1,1,none⟩=some (.int .i64 a1_1):=(blk_cell p1 1).trans rfl;have M1:=Aside0.mk p1;clear p1;have HBY:=a0_ (And.intro hcell hR);clear hBA hR hcell) | (go_at_call 23;refine (impl_PtOk.calls a1_0 a1_1 false _ HB.out.2).mono ?_;rintro e w2 ⟨rfl,hb2⟩;have n2:=blk_later N1.out hb2;have s20:w2.cell? ⟨w.heap.size+1+1,0,none⟩=some (.int .i64 0):=(blk_cell n2 0).trans rfl;have s21:w2.cell? ⟨w.heap.size+1+1,1,none⟩=some (.int .i64 0):=(blk_cell n2 1).trans rfl;have s22:=blk_frozen n2 0;have s23:=blk_frozen n2 1;have N2:=Aside0.mk n2;clear n2;have p2:=blk_later M1.out hb2;have m20:w2.cell? ⟨w.heap.size+1,0,none⟩=some (.int .i64 a1_0):=(blk_cell p2 0).trans rfl;have m21:w2.cell? ⟨w.heap.size+1,1,none⟩=some (.int .i64 a1_1):=(blk_cell p2 1).trans rfl;have M2:=Aside0.mk p2;clear p2));refine bodyPost_ret (results_cell_row rfl _ _ (w.heap.size+1+1) 35 #[.int .i64 0,.int .i64 0] (0,0) _ rfl (blk_put (blk_put N2.out 0 _ rfl) 1 _ rfl) Tryd.underlying35 rfl (by kernel_rfl)) rfl ?_
   exact⟨rfl,((below_step (below_step HK.out.2.2.2.2.1 hb1) hb2).setCell (p:=⟨w.heap.size+1+1,0,none⟩) (by show w.heap.size≤w.heap.size+1+1;omega) _).setCell (p:=⟨w.heap.size+1+1,1,none⟩) (by show w.heap.size≤w.heap.size+1+1;omega) _⟩
  | true =>
   rw [hk,hp,Bool.and_true,if_pos rfl] at hb;have HB:=a0_ (And.intro hk (And.intro ((iPtOk a1_0 a1_1).trans (congrArg some hp)) (And.intro hp hb)));clear hk hp hb;go_enter Tryd.func22,Tryd.ntmps22
   go_wp2_with (first | (go_at_call 52;refine (bodyOf_calls A0_0 c0_0 l0_0 A0_1 c0_1 l0_1 true _ HK.out.1 HK.out.2.1 HK.out.2.2.1 HK.out.2.2.2.1 HB.out.1).mono ?_;rintro e w1 ⟨hN,_⟩;obtain⟨b,bs,v,rfl,hBA,hcell,hR,hb1⟩:=hN rfl;have n1:=blk_later NF.out hb1;have s10:w1.cell? ⟨w.heap.size+1+1,0,none⟩=some (.int .i64 0):=(blk_cell n1 0).trans rfl;have s11:w1.cell? ⟨w.heap.size+1+1,1,none⟩=some (.int .i64 0):=(blk_cell n1 1).trans rfl;have s12:=blk_frozen n1 0;have s13:=blk_frozen n1 1;have N1:=Aside0.mk n1;clear n1;have p1:=blk_later NP.out hb1;have m10:w1.cell? ⟨w.heap.size+1,0,none⟩=some (.int .i64 a1_0):=(blk_cell p1 0).trans rfl;have m11:w1.cell? ⟨w.heap.size+1,1,none⟩=some (.int .i64 a1_1):=(blk_cell p1 1).trans rfl;have M1:=Aside0.mk p1;clear p1;have HBY:=a0_ (And.intro hcell hR);clear hBA hR hcell) | (go_at_call 23;refine (impl_PtOk.calls a1_0 a1_1 true _ HB.out.2.1).mono ?_;rintro e w2 ⟨rfl,hb2⟩;have n2:=blk_later N1.out hb2;have s20:w2.cell? ⟨w.heap.size+1+1,0,none⟩=some (.int .i64 0):=(blk_cell n2 0).trans rfl;have s21:w2.cell? ⟨w.heap.size+1+1,1,none⟩=some (.int .i64 0):=(blk_cell n2 1).trans rfl;have s22:=blk_frozen n2 0;have s23:=blk_frozen n2 1;have N2:=Aside0.mk n2;clear n2;have p2:=blk_later M1.out hb2;have m20:w2.cell? ⟨w.heap.size+1,0,none⟩=some (.int .i64 a1_0):=(blk_cell p2 0).trans rfl;have m21:w2.cell? ⟨w.heap.size+1,1,none⟩=some (.int .i64 a1_1):=(blk_cell p2 1).trans rfl;have M2:=Aside0.mk p2;clear p2) | (go_at_call 62;obtain⟨Ae,ce,hv,hce,hCe⟩:=Kd.R_reads HBY.out.2;obtain⟨e0,es,hEe,hle⟩:=allEdges_cons HB.out.1;refine (farE_told b ce Ae (allEdges (l0_0::l0_1)) a1_0 a1_1 (r1,r2) _ (pw_cell_below hb2 (hv▸HBY.out.1)) hce (Kd.C_below hCe hb2) (allEdges_ok HB.out.1) HB.out.2.2.1 ((HK.out.2.2.2.2.2.below hb1).below hb2) (by rw [hEe];simp) (by rw [hEe];simp only [List.length_cons];omega) HB.out.2.2.2).mono ?_;clear hv hce hCe hEe hle;rintro e w3 ⟨rfl,hb3⟩;have n3:=blk_later N2.out hb3;have s30:w3.cell? ⟨w.heap.size+1+1,0,none⟩=some (.int .i64 0):=(blk_cell n3 0).trans rfl;have s31:w3.cell? ⟨w.heap.size+1+1,1,none⟩=some (.int .i64 0):=(blk_cell n3 1).trans rfl;have s32:=blk_frozen n3 0;have s33:=blk_frozen n3 1;have N3:=Aside0.mk n3;clear n3))
   refine bodyPost_ret (results_cell_row rfl _ _ (w.heap.size+1+1) 35 #[.int .i64 r1,.int .i64 r2] (0,0) _ rfl (blk_put (blk_put N3.out 0 _ rfl) 1 _ rfl) Tryd.underlying35 rfl (by kernel_rfl)) rfl ?_;exact⟨rfl,((below_step (below_step (below_step HK.out.2.2.2.2.1 hb1) hb2) hb3).setCell (p:=⟨w.heap.size+1+1,0,none⟩) (by show w.heap.size≤w.heap.size+1+1;omega) _).setCell (p:=⟨w.heap.size+1+1,1,none⟩) (by show w.heap.size≤w.heap.size+1+1;omega) _⟩
end
def nearFrom (p:Mort.Pt)(f:Mort.Frac):Nat→List S61→List Int
 | _,[]=>[]
 | i,s::E=>if fracCmp (segFar (sgP s) p) f=0 then (i:Int)::nearFrom p f (i+1) E else nearFrom p f (i+1) E
theorem nearFrom_cons (p:Mort.Pt)(f:Mort.Frac)(i:Nat)(s:S61)(E:List S61):nearFrom p f i (s::E)=if fracCmp (segFar (sgP s) p) f=0 then (i:Int)::nearFrom p f (i+1) E else nearFrom p f (i+1) E:=rfl
def impl_PlateNear.f (l0_0:List S28)(l0_1:List (List S28))(a1_0 a1_1:Int):Option (List Int):=
 some (if bodyOkB l0_0 l0_1 && ptOk (a1_0,a1_1) then nearFrom (a1_0,a1_1) (farE (allEdges (l0_0::l0_1)) (a1_0,a1_1)) 0 (allEdges (l0_0::l0_1)) else [])
set_option maxHeartbeats 4000000 in
set_option maxRecDepth 100000 in
theorem near_calls (b c:Nat)(A:Option Addr)(E:List S61)(x y:Int)(f:Mort.Frac)(r:List Int)(w:World)(hcell:w.cell? ⟨b,2,none⟩=some (.slice A E.length c))(hcap:E.length≤c)
  (hC:Kd.C k61 w A E.length E) (hok:∀ s∈E,segOk (sgP s)=true) (hp:ptOk (x,y)=true) (hE:ErrW w) (hne:0<E.length) (hreach:E.length≤1000000) (hf:farE E (x,y)=f) (h:nearFrom (x,y) f 0 E=r) :
  Calls Tryd.prog 84 #[.pointer (some ⟨b,0,none⟩),.agg #[.int .i64 x,.int .i64 y]] w fun e w'=>∃ v0_,e=.returned v0_∧Kd.R (Kd.int .i64) 3 w' w.heap.size (fun _=>True) v0_ r∧Below w.heap.size w w':=by
 have hu35:=Tryd.underlying35;have hu28:=Tryd.underlying28;have hu61:=Tryd.underlying61;have hal:=below_alloc (Below.refl w.heap.size w) (.cells #[.int .i64 x,.int .i64 y] 28);have np:=blk_new w (.cells #[.int .i64 x,.int .i64 y] 28 (0,0));have hFar:=farE_told b c A E x y f _ (pw_cell_below hal hcell) hcap (Kd.C_below hC hal) hok hp (hE.below hal) hne hreach hf;have c0:=pw_cell_below hal hcell;have HK:=a0_ (And.intro hC (And.intro hok (And.intro hp (And.intro hE (And.intro hreach (And.intro h (And.intro hal (And.intro np c0))))))));have HF:=Aside0.mk hFar;clear hC hok hp hE hreach h hne hf hal np hcell hFar c0;go_enter Tryd.func84,Tryd.ntmps84;go_wp2_with (first | (go_at_call 62;refine HF.out.mono ?_;rintro e w1 ⟨rfl,hb1⟩;have c2:=pw_cell_below (below_alloc (Below.refl w1.heap.size w1) (.cells #[.int .i64 f.1,.int .i64 f.2] 35)) (pw_cell_below hb1 HK.out.2.2.2.2.2.2.2.2)));clear c2;generalize hg:w.heap.size=g at *;have hG:=Aside0.mk hg;have HS:=Aside0.mk hb1;clear hb1 hg;generalize hn:w1.heap.size=n at *;have hN:=Aside0.mk hn;clear hn
 go_loopg [5,17] E.length (fun kq v5 v17 wr=>∃ (i:Nat) (acc:List Int),v17=.int .i64 (i:Int)∧Aside0 (kq=E.length-i∧i≤E.length∧wr.heap[g]?=some (.cells #[.int .i64 x,.int .i64 y] 28 (0,0)) ∧
   wr.heap[n]?=some (.cells #[.int .i64 f.1,.int .i64 f.2] 35 (0,0))∧Kd.R (Kd.int .i64) 3 wr g (fun _=>True) v5 acc∧acc++nearFrom (x,y) f i (E.drop i)=r∧Below g w wr∧acc.length≤i))
 case atStart =>
  have h1:=HS.out;obtain⟨k1,k2,k3,k4,k5,k6,k7,k8,k9⟩:=HK.out;have hG':=hG.out;have hN':=hN.out;subst hG';subst hN';exact⟨0,[],rfl,⟨rfl,Nat.zero_le _,blk_alloc (blk_later k8 h1) _,blk_new _ _,Kd.R_nil _ _ _ _ _,k6,below_alloc (below_step k7 h1) _,Nat.le_refl _⟩⟩
 case round =>
  obtain⟨i,acc,rfl,H1⟩:=hrel;obtain⟨hk,hi,hpb,hnb,hR,hrun,hBw,hal⟩:=H1.out;clear H1 HS;by_cases hlt:i<E.length
  ·
   have hd:decide ((i:Int)<(E.length:Int))=true:=decide_eq_true (by omega);obtain⟨adr,hadr,z0,z1,z2,z3⟩:=at_sg HK.out.1 i hlt;subst hadr;have hgi:g=w.heap.size:=hG.out.symm;have t0:=(hBw.cell (by have:=World.block_lt_of_cell? w _ z0;rw [hgi];exact this)).trans z0;have t1:=(hBw.cell (p:=⟨(adr.add (i*4)).block,(adr.add (i*4)).off+1,none⟩) (by have:=World.block_lt_of_cell? w _ z1;rw [hgi];exact this)).trans z1;have t2:=(hBw.cell (p:=⟨(adr.add (i*4)).block,(adr.add (i*4)).off+2,none⟩) (by have:=World.block_lt_of_cell? w _ z2;rw [hgi];exact this)).trans z2;have t3:=(hBw.cell (p:=⟨(adr.add (i*4)).block,(adr.add (i*4)).off+3,none⟩) (by have:=World.block_lt_of_cell? w _ z3;rw [hgi];exact this)).trans z3;have hes:E.drop i=E.getD i z61::E.drop (i+1):=by rw [List.drop_eq_getElem_cons hlt,List.getD_eq_getElem?_getD,List.getElem?_eq_getElem hlt];rfl
   rw [hes,nearFrom_cons] at hrun;generalize E.getD i z61=s0 at *;have hfar:=segFar_told s0 x y;generalize segFar (sgP s0) (x,y)=f1 at *;have hcm:impl_FracCmp.f f1.1 f1.2 f.1 f.2=some (fracCmp f1 f):=rfl;have hE2:ErrW wr:=HK.out.2.2.2.1.below (hgi▸hBw);generalize fracCmp f1 f=cv at *;have hW:=below_drew1 (below_alloc (Below.refl wr.heap.size wr) (.cells #[.int .i64 s0.f0.f0,.int .i64 s0.f0.f1,.int .i64 s0.f1.f0,.int .i64 s0.f1.f1] 61));have nb:=blk_new wr (.cells #[.int .i64 s0.f0.f0,.int .i64 s0.f0.f1,.int .i64 s0.f1.f0,.int .i64 s0.f1.f1] 61 (0,0));have HL:=a0_ (And.intro hk (And.intro hpb (And.intro hnb (And.intro hR (And.intro hrun (And.intro hBw (And.intro hal (And.intro hE2 (And.intro hcm (And.intro hlt (And.intro hW nb)))))))))));clear hk hi hpb hnb hR hrun hBw hal hE2 hcm hes z0 z1 z2 z3 hgi hW nb;go_wp2;obtain⟨hW,nb⟩:=HL.out.2.2.2.2.2.2.2.2.2.2;have pb:=blk_later HL.out.2.1 hW;have fb:=blk_later HL.out.2.2.1 hW;generalize hW0:(wr.alloc (.cells #[.int .i64 s0.f0.f0,.int .i64 s0.f0.f1,.int .i64 s0.f1.f0,.int .i64 s0.f1.f1] 61)).drew=W0 at *;generalize hm:wr.heap.size=m at *;have nb0:W0.heap[m]?=some (.cells #[.int .i64 s0.f0.f0,.int .i64 s0.f0.f1,.int .i64 s0.f1.f0,.int .i64 s0.f1.f1] 61 (0,0)):=by rw [← hW0];exact nb
   have d0:W0.cell? ⟨m,0,none⟩=some (.int .i64 s0.f0.f0):=(blk_cell nb0 0).trans rfl;have d1:W0.cell? ⟨m,1,none⟩=some (.int .i64 s0.f0.f1):=(blk_cell nb0 1).trans rfl;have d2:W0.cell? ⟨m,2,none⟩=some (.int .i64 s0.f1.f0):=(blk_cell nb0 2).trans rfl;have d3:W0.cell? ⟨m,3,none⟩=some (.int .i64 s0.f1.f1):=(blk_cell nb0 3).trans rfl;have d4:W0.cell? ⟨g,0,none⟩=some (.int .i64 x):=(blk_cell pb 0).trans rfl;have d5:W0.cell? ⟨g,1,none⟩=some (.int .i64 y):=(blk_cell pb 1).trans rfl;have d6:W0.cell? ⟨n,0,none⟩=some (.int .i64 f.1):=(blk_cell fb 0).trans rfl;have d7:W0.cell? ⟨n,1,none⟩=some (.int .i64 f.2):=(blk_cell fb 1).trans rfl;have HW:=a0_ (And.intro hW0 (And.intro hm (And.intro hW (And.intro pb fb))));have hbW:ErrW W0:=HL.out.2.2.2.2.2.2.2.1.below (hm▸hW);clear hW nb pb fb nb0 hm t0 t1 t2 t3;go_region_held3 (fun W=>W.cell? ⟨m,0,none⟩=some (.int .i64 s0.f0.f0)∧W.cell? ⟨m,1,none⟩=some (.int .i64 s0.f0.f1)∧W.cell? ⟨m,2,none⟩=some (.int .i64 s0.f1.f0)∧W.cell? ⟨m,3,none⟩=some (.int .i64 s0.f1.f1)∧W.cell? ⟨g,0,none⟩=some (.int .i64 x)∧W.cell? ⟨g,1,none⟩=some (.int .i64 y)∧W.cell? ⟨n,0,none⟩=some (.int .i64 f.1)∧W.cell? ⟨n,1,none⟩=some (.int .i64 f.2))
    (first | exact⟨pw_cell_below hbB (pw_cell_below hbA d0),pw_cell_below hbB (pw_cell_below hbA d1),pw_cell_below hbB (pw_cell_below hbA d2),pw_cell_below hbB (pw_cell_below hbA d3),pw_cell_below hbB (pw_cell_below hbA d4),pw_cell_below hbB (pw_cell_below hbA d5),pw_cell_below hbB (pw_cell_below hbA d6),pw_cell_below hbB (pw_cell_below hbA d7)⟩ | exact⟨pw_cell_below hbA d0,pw_cell_below hbA d1,pw_cell_below hbA d2,pw_cell_below hbA d3,pw_cell_below hbA d4,pw_cell_below hbA d5,pw_cell_below hbA d6,pw_cell_below hbA d7⟩ | go_keep)
    (first | (go_at_call 37;refine (hfar f1 _ rfl).mono ?_;rintro e w6 ⟨rfl,hbA⟩) | (go_at_call 21;refine (impl_FracCmp.calls f1.1 f1.2 f.1 f.2 cv _ (hbW.below hbA) HL.out.2.2.2.2.2.2.2.2.1).mono ?_;rintro e w7 ⟨rfl,hbB⟩))
   obtain⟨hW0,hm,hW,pb,fb⟩:=HW.out;obtain⟨k1,k2,k3,k4,k5,k6,k7,k8,k9,k10,k11⟩:=HL.out;have pb7:=blk_later (blk_later pb hbA) hbB;have fb7:=blk_later (blk_later fb hbA) hbB;have hWr:Below wr.heap.size wr W0:=by rw [hm];exact hW
   have hb7:Below wr.heap.size wr w7:=below_step (below_step hWr hbA) hbB;have R7:=Kd.R_below k4 hb7;have B7:Below g w w7:=below_row k6 (Nat.le_of_eq hG.out.symm) hb7;have hm2:E.length-i=(E.length-(i+1))+1:=by omega
   have HM:=a0_ (And.intro pb7 (And.intro fb7 (And.intro R7 (And.intro B7 (And.intro k1 (And.intro k5 (And.intro k7 hm2)))))));clear hW0 hm hW pb fb k1 k2 k3 k4 k5 k6 k7 k8 k9 k10 k11 pb7 fb7 hWr hb7 R7 B7 hm2 hbA hbB hbW d0 d1 d2 d3 d4 d5 d6 d7;by_cases hcv:cv=0
   ·
    have e1:(cv==0)=true:=beq_iff_eq.2 hcv;have HC:=Aside0.mk hcv;clear hcv;generalize (cv==0)=t27 at *;subst e1;have LM:=HM.out.2.2.2.2.2.2.1;have LE:=HK.out.2.2.2.2.1;go_wp2_with (first | ((with_reducible refine gate_builtin (b:=.append) (xs:=#[.tmp 28,.tmp 30]) rfl ?_);at_builtin;refine Kd.R_append (Kd.int .i64) (w0:=w) g rfl (.tmp 28) (.tmp 30) 63 3 (.int .i64 0) 8 rfl Tryd.underlying63 info3 rfl (by decide) (by omega) u5 acc (i:Int) [.int .i64 (i:Int)] (fun _=>True) (fun _=>False) rfl rfl rfl (fun _ hk=>hk.elim) (fun _ _=>trivial) HM.out.2.2.1 HM.out.2.2.2.1 (hG.out▸(hG.out▸HM.out.2.2.2.1).size) (by omega) ?_;intro v8 w8 ho8 hb8 hg8 hat8;have p8:=blk_grown HM.out.1 hg8 (Kd.R_ne HM.out.2.2.1 HM.out.1 (by decide));have f8:=blk_grown HM.out.2.1 hg8 (Kd.R_ne HM.out.2.2.1 HM.out.2.1 (by decide));have H8:=a0_ (And.intro ho8 (And.intro hb8 (And.intro p8 f8)));clear ho8 hb8 hg8 hat8 p8 f8));obtain⟨a1,a2,a3,a4,a5,a6,a7,a8⟩:=HM.out;obtain⟨o8,b8,p8,f8⟩:=H8.out;have hcv:=HC.out;go_roundg (E.length-(i+1))
    case measure=>omega
    case rel =>
     refine⟨i+1,acc++[(i:Int)],rfl,⟨rfl,by omega,p8,f8,o8,?_,b8,by simp only [List.length_append,List.length_cons,List.length_nil];omega⟩⟩;rw [if_pos hcv] at a6;rw [← a6];simp
   ·
    have e1:(cv==0)=false:=beq_eq_false_iff_ne.2 hcv;have HC:=Aside0.mk hcv;clear hcv;generalize (cv==0)=t27 at *;subst e1;go_wp2;obtain⟨a1,a2,a3,a4,a5,a6,a7,a8⟩:=HM.out;have hcv:=HC.out;have hw:wrap64 ((i:Int)+1)=(i:Int)+1:=by have:=HK.out.2.2.2.2.1;unfold wrap64;omega
    go_roundg (E.length-(i+1))
    case measure=>omega
    case rel =>
     refine⟨i+1,acc,by rw [hw];rfl,⟨rfl,by omega,a1,a2,a3,?_,a4,by omega⟩⟩
     rwa [if_neg hcv] at a6
  ·
   obtain rfl:i=E.length:=by omega
   have hd:decide ((E.length:Int)<(E.length:Int))=false:=decide_eq_false (by omega);have hrr:acc=r:=by rw [← hrun,List.drop_length];simp [nearFrom]
   have HB:=a0_ (And.intro hR (And.intro hBw hrr));clear hrun hBw hnb hpb hk hi hlt hR hal hrr;go_wp2;go_ret;obtain⟨h1,h2,rfl⟩:=HB.out;have hG':=hG.out;subst hG';exact⟨_,rfl,h1,h2⟩
section
variable (A0_0:Option Addr) (c0_0:Nat) (l0_0:List S28) (A0_1:Option Addr) (c0_1:Nat) (l0_1:List (List S28))
set_option maxHeartbeats 4000000 in
set_option maxRecDepth 100000 in
theorem impl_PlateNear.calls (a1_0 a1_1:Int)(r:List Int)(w:World)(hr0_0:Kd.C k28 w A0_0 l0_0.length l0_0)(hc0_0:l0_0.length≤c0_0)(hr0_1:Kd.C (Kd.slice 28 k28) w A0_1 l0_1.length l0_1)(hc0_1:l0_1.length≤c0_1)(hE:ErrW w)(h:impl_PlateNear.f l0_0 l0_1 a1_0 a1_1=some r):
  Calls Tryd.prog 40 #[.agg #[.slice A0_0 l0_0.length c0_0,.slice A0_1 l0_1.length c0_1],.agg #[.int .i64 a1_0,.int .i64 a1_1]] w fun e w'=>∃ v0_,e=.returned v0_∧Kd.R (Kd.int .i64) 3 w' w.heap.size (fun _=>True) v0_ r∧Below w.heap.size w w':=by
 have hu26:=Tryd.underlying26;have hu28:=Tryd.underlying28;have hb:(if bodyOkB l0_0 l0_1 && ptOk (a1_0,a1_1) then nearFrom (a1_0,a1_1) (farE (allEdges (l0_0::l0_1)) (a1_0,a1_1)) 0 (allEdges (l0_0::l0_1)) else [])=r:=Option.some.inj h;clear h;have hal:=below_alloc (below_alloc (Below.refl w.heap.size w) (.cells #[.slice A0_0 l0_0.length c0_0,.slice A0_1 l0_1.length c0_1] 26)) (.cells #[.int .i64 a1_0,.int .i64 a1_1] 28);have HK:=a0_ (And.intro (Kd.C_below hr0_0 hal) (And.intro hc0_0 (And.intro (Kd.C_below hr0_1 hal) (And.intro hc0_1 (And.intro hal (hE.below hal))))));clear hr0_0 hc0_0 hr0_1 hc0_1 hal hE;have np:=blk_new (w.alloc (.cells #[.slice A0_0 l0_0.length c0_0,.slice A0_1 l0_1.length c0_1] 26)) (.cells #[.int .i64 a1_0,.int .i64 a1_1] 28 (0,0));rw [World.size_alloc] at np;have NP:=Aside0.mk np;clear np
 cases hk:bodyOkB l0_0 l0_1 with
 | false =>
  rw [hk,Bool.false_and,if_neg (by decide)] at hb;subst hb;have HB:=Aside0.mk hk;clear hk;go_enter Tryd.func40,Tryd.ntmps40;go_wp2_with (go_at_call 52;refine (bodyOf_calls A0_0 c0_0 l0_0 A0_1 c0_1 l0_1 false _ HK.out.1 HK.out.2.1 HK.out.2.2.1 HK.out.2.2.2.1 HB.out).mono ?_;rintro e w1 ⟨_,hN⟩;obtain⟨rfl,hb1⟩:=hN rfl);go_ret;exact⟨_,rfl,Kd.R_nil _ _ _ _ _,below_step HK.out.2.2.2.2.1 hb1⟩
 | true =>
  cases hp:ptOk (a1_0,a1_1) with
  | false =>
   rw [hk,hp,Bool.and_false,if_neg (by decide)] at hb;subst hb;have HB:=a0_ (And.intro hk ((iPtOk a1_0 a1_1).trans (congrArg some hp)));clear hk hp;go_enter Tryd.func40,Tryd.ntmps40;go_wp2_with (first | (go_at_call 52;refine (bodyOf_calls A0_0 c0_0 l0_0 A0_1 c0_1 l0_1 true _ HK.out.1 HK.out.2.1 HK.out.2.2.1 HK.out.2.2.2.1 HB.out.1).mono ?_;rintro e w1 ⟨hN,_⟩;obtain⟨b,bs,v,rfl,hBA,hcell,hR,hb1⟩:=hN rfl;have m0:=pw_cell_below hb1 ((blk_cell NP.out 0).trans rfl);have m1:=pw_cell_below hb1 ((blk_cell NP.out 1).trans rfl);clear hBA hR hcell) | (go_at_call 23;refine (impl_PtOk.calls a1_0 a1_1 false _ HB.out.2).mono ?_;rintro e w2 ⟨rfl,hb2⟩));go_ret;exact⟨_,rfl,Kd.R_nil _ _ _ _ _,below_step (below_step HK.out.2.2.2.2.1 hb1) hb2⟩
  | true =>
   rw [hk,hp,Bool.and_true,if_pos rfl] at hb;have HB:=a0_ (And.intro hk (And.intro ((iPtOk a1_0 a1_1).trans (congrArg some hp)) (And.intro hp hb)));clear hk hp hb;go_enter Tryd.func40,Tryd.ntmps40;go_wp2_with (first | (go_at_call 52;refine (bodyOf_calls A0_0 c0_0 l0_0 A0_1 c0_1 l0_1 true _ HK.out.1 HK.out.2.1 HK.out.2.2.1 HK.out.2.2.2.1 HB.out.1).mono ?_;rintro e w1 ⟨hN,_⟩;obtain⟨b,bs,v,rfl,hBA,hcell,hR,hb1⟩:=hN rfl;have m0:=pw_cell_below hb1 ((blk_cell NP.out 0).trans rfl);have m1:=pw_cell_below hb1 ((blk_cell NP.out 1).trans rfl);have HBY:=a0_ (And.intro hcell hR);clear hBA hR hcell) | (go_at_call 23;refine (impl_PtOk.calls a1_0 a1_1 true _ HB.out.2.1).mono ?_;rintro e w2 ⟨rfl,hb2⟩;have m2:=pw_cell_below hb2 m0;have m3:=pw_cell_below hb2 m1) | (go_at_call 84;obtain⟨Ae,ce,hv,hce,hCe⟩:=Kd.R_reads HBY.out.2;obtain⟨e0,es,hEe,hle⟩:=allEdges_cons HB.out.1;refine (near_calls b ce Ae (allEdges (l0_0::l0_1)) a1_0 a1_1 _ r _ (pw_cell_below hb2 (hv▸HBY.out.1)) hce (Kd.C_below hCe hb2) (allEdges_ok HB.out.1) HB.out.2.2.1 ((HK.out.2.2.2.2.2.below hb1).below hb2) (by rw [hEe];simp) (by rw [hEe];simp only [List.length_cons];omega) rfl HB.out.2.2.2).mono ?_;clear hv hce hCe hEe hle;rintro e w3 ⟨v0_,rfl,hRv,hb3⟩;have HRV:=Aside0.mk hRv;clear hRv));go_ret;have hbb:=below_step (below_step HK.out.2.2.2.2.1 hb1) hb2;exact⟨_,rfl,Kd.R_lower HRV.out hbb.size,below_step hbb hb3⟩
end
end Go.Proofs.YtkefmnmoaomlhaaDoor.X
end
section
namespace Go.Proofs.YtkefmnmoaomlhaaDoor.X
open Go.RowKit Go.Proofs.YtkefmnmoaomlhaaDoorW.PrintWords Go.Proofs.YtkefmnmoaomlhaaDoorW.PrintLast Go.Proofs.YtkefmnmoaomlhaaDoorW.PrintMore
attribute [local go_sem] max2_int min2_int max_two min_two max_three min_three max_four min_four
set_option linter.unusedVariables false
set_option linter.unusedSimpArgs false
attribute [local go_sem high] eqA35
mutual
def laws_FnPlateNear.j0:Nat→List Int→Bool→List (S28)→List (List (S28))→Int→Int→Option (Bool)
 | 0,_,_,_,_,_,_=>none
 | k+1,x5,x31,x929000,x929001,x930000,x930001=>if x31=true then ((spec_PlateNear.f k x929000 x929001 x930000 x930001).bind fun t937=>((laws_luInts.f k x5 t937).bind fun t940=>(some t940))) else ((impl_PlateFar.f x929000 x929001 x930000 x930001).bind fun bt941=>((impl_PlateEdges.f x929000 x929001).bind fun t944=>(laws_FnPlateNear.l0 k x5 0 t944 0 x930000 x930001 bt941.1 bt941.2)))
def laws_FnPlateNear.l0:Nat→List Int→Int→List (S61)→Int→Int→Int→Int→Int→Option (Bool)
 | 0,_,_,_,_,_,_,_,_=>none
 | k+1,x5,x6,x8,x9,x930000,x930001,x944000,x944001=>if x9<(x8.length:Int) then (if 0≤x9 then ((impl_SegFar.f ((rd_T61 x8 x9).f0.f0) ((rd_T61 x8 x9).f0.f1) ((rd_T61 x8 x9).f1.f0) ((rd_T61 x8 x9).f1.f1) x930000 x930001).bind fun bt948=>(if (bt948.1==x944000 && (bt948.2==x944001))=true then (if x6≥(x5.length:Int) then (some false) else (if 0≤x6 then (if x6<(x5.length:Int) then (if (rd x5 x6)=x9 then (laws_FnPlateNear.l0 k x5 (wrap64 (x6+1)) x8 (wrap64 (x9+1)) x930000 x930001 x944000 x944001) else (some false)) else (none)) else (none))) else (laws_FnPlateNear.l0 k x5 x6 x8 (wrap64 (x9+1)) x930000 x930001 x944000 x944001))) else (none)) else (some (x6==(x5.length:Int)))
end
def laws_FnPlateNear.f (k:Nat)(l0:List Int):Option (Bool):=if (l0.length:Int)>1048576 then (some true) else ((spec_DrawPlateNear.f k l0).bind fun bt920=>((impl_PlateNear.f bt920.1 bt920.2.1 bt920.2.2.1 bt920.2.2.2).bind fun t930=>((spec_PlateNear.f k bt920.1 bt920.2.1 bt920.2.2.1 bt920.2.2.2).bind fun t933=>((laws_luInts.f k t930 t933).bind fun t936=>(if t936=true then (laws_FnPlateNear.j0 k t930 ((t930.length:Int)==0) bt920.1 bt920.2.1 bt920.2.2.1 bt920.2.2.2) else (laws_FnPlateNear.j0 k t930 true bt920.1 bt920.2.1 bt920.2.2.1 bt920.2.2.2))))))
def laws_FnPlateNear.T13:Bool × List (List Nat × List Nat):=(true,[([],[]),([],[]),([0,1],[0,1]),([2],[2]),([],[]),([3,4],[3,4]),([],[]),([5,6],[5,6])])
def laws_FnPlateNear.B13:List Nat:=[0,0,3,7,0,31,0,127]
theorem laws_FnPlateNear.tab13:rtab .any (opsOf Tryd.f12 13)=laws_FnPlateNear.T13:=by kernel_rfl
theorem laws_FnPlateNear.bits13:waitsOk laws_FnPlateNear.T13.2 laws_FnPlateNear.B13=true:=by kernel_rfl
set_option maxHeartbeats 8000000 in
set_option maxRecDepth 100000 in
theorem laws_FnPlateNear.calls (k:Nat)(A0:Option Addr)(c0:Nat)(l0:List Int)(r:Bool)(w:World)(hr0:Kd.C (Kd.int .u8) w A0 l0.length l0)(hc0:l0.length≤c0)(hE:ErrW w)(h:laws_FnPlateNear.f k l0=some r):
  Calls Tryd.prog 12 #[.slice A0 l0.length c0] w fun e w'=>e=.returned (.bool r)∧Below w.heap.size w w':=by
 have hu26:=Tryd.underlying26;have hu28:=Tryd.underlying28;have hu35:=Tryd.underlying35;have hu61:=Tryd.underlying61;have HR0:=Aside0.mk hr0;have HC0:=Aside0.mk hc0;clear hr0 hc0;have HB:=a0_ (Below.refl w.heap.size w);have HE:=Aside0.mk hE;clear hE;have H:(if (l0.length:Int)>1048576 then (some true) else ((spec_DrawPlateNear.f k l0).bind fun bt920=>((impl_PlateNear.f bt920.1 bt920.2.1 bt920.2.2.1 bt920.2.2.2).bind fun t930=>((spec_PlateNear.f k bt920.1 bt920.2.1 bt920.2.2.1 bt920.2.2.2).bind fun t933=>((laws_luInts.f k t930 t933).bind fun t936=>(if t936=true then (laws_FnPlateNear.j0 k t930 ((t930.length:Int)==0) bt920.1 bt920.2.1 bt920.2.2.1 bt920.2.2.2) else (laws_FnPlateNear.j0 k t930 true bt920.1 bt920.2.1 bt920.2.2.1 bt920.2.2.2)))))))=some r:=h;clear h;by_cases c2:(l0.length:Int)>1048576
 ·
  rw [if_pos c2] at H;have c2b0:decide (1048576<(l0.length:Int))=true:=decide_eq_true c2;have c2b1:decide (1048576<l0.length)=true:=decide_eq_true (by omega);clear c2;obtain rfl:=Option.some.inj H;go_enter Tryd.func12,Tryd.ntmps12;go_wp2;go_ret;exact⟨rr_,hB_⟩
 ·
  rw [if_neg c2] at H;have c2b0:decide (1048576<(l0.length:Int))=false:=decide_eq_false c2;have c2b1:decide (1048576<l0.length)=false:=decide_eq_false (by omega);clear c2;replace H:=Option.bind_eq_some_iff.mp H;obtain⟨⟨t920,t923,t926,t927⟩,A30,H⟩:=H
  (try dsimp only at H)
  have A3:=Aside0.mk A30;clear A30;replace H:=Option.bind_eq_some_iff.mp H;obtain⟨t930,A40,H⟩:=H
  (try dsimp only at H)
  have A4:=Aside0.mk A40;clear A40;have HC5:=Aside0.mk H;clear H;go_enter Tryd.func12,Tryd.ntmps12
  go_upto_region 5 with (first | ((with_reducible refine gate_callee (f:=39) rfl ?_);refine gL_ (some 15) Tryd.func39 #[.slice A0 l0.length c0] (h:=?_);(with_reducible refine (spec_DrawPlateNear.calls k _ _ l0 t920 t923 t926 t927 _ ?side1 ?side2 A3.out).mono ?_);(case side1=>repeat (first | exact HR0.out | (with_reducible refine Kd.C_alloc ?_ _) | (with_reducible refine Kd.C_drewN ?_ _) | (with_reducible refine Kd.C_drew ?_)));(case side2=>exact HC0.out);rintro e w6 ⟨v921,v924,rfl,ho0,ho1,hb⟩;refine⟨_,rfl,?_⟩;have HO922:=a0_ (Kd.R_lower (Kd.R_mono (ok':=fun k_=>True) ho0 (fun _ hk_=>trivial)) (below_size hB_));have HO925:=a0_ (Kd.N_lower (Kd.N_mono (ok':=fun k_=>some k_≠(v921:Value).ownBlock) ho1 (fun k_ hk_=>hk_.2)) (below_size hB_));replace HB:=sb_ HB hb;(try clear ho0 ho1 hb)) | ((with_reducible refine gate_dst (N:=3) rfl ?_);(try (refine gate_guard (by rfl) ?_;dsimp only));refine bx_ (N:=3) (cs:=#[.slice none 0 0,.slice none 0 0]) (t:=26) (h:=?_);intro gb928 hg w7 hbox hb;have BK928:=a0_ (hbox);have GW928:=gh_ HB hg;have GE928:=gh_ HB hg;replace HO922:=rb_ HO922 hb;replace HO925:=a0_ (Kd.N_below (Kd.N_elderB (uN_ HO925) gb928 (Nat.le_of_eq hg.symm)) hb);replace HB:=sb_ HB hb;clear hb hbox hg) | ((with_reducible refine gate_dst (N:=4) rfl ?_);(try (refine gate_guard (by rfl) ?_;dsimp only));refine bx_ (N:=4) (cs:=#[.int .i64 0,.int .i64 0]) (t:=28) (h:=?_);intro gb929 hg w8 hbox hb;have BK929:=a0_ (hbox);have GW929:=gh_ HB hg;have GE929:=gh_ HB hg;have NB928_929:=nl_ BK928 hg;have NB929_928:=nr_ BK928 hg;replace HO922:=a0_ (Kd.R_below (Kd.R_elderB (uR_ HO922) gb929 (Nat.le_of_eq hg.symm)) hb);replace HO925:=a0_ (Kd.N_below (Kd.N_elderB (uN_ HO925) gb929 (Nat.le_of_eq hg.symm)) hb);replace BK928:=vb_ BK928 hb;replace HB:=sb_ HB hb;clear hb hbox hg;obtain⟨Ao9,co9,eo9⟩:=Kd.R_slice HO922.out;subst eo9;have hnb10:=NB928_929.out;have hnc10:=NB929_928.out;have hcz11_0:=c20_ BK928;have hcz11_1:=c21_ BK928;have hfz11_0:=fz_ BK928 0;have hfz11_1:=fz_ BK928 1;obtain⟨Ao12,co12,eo12⟩:=Kd.N_slice HO925.out;subst eo12;have hcz13_0:=c20_ BK929;have hcz13_1:=c21_ BK929;have hfz13_0:=fz_ BK929 0;have hfz13_1:=fz_ BK929 1) | ((with_reducible refine gate_callee (f:=40) rfl ?_);refine gL_ (some 20) Tryd.func40 #[.agg #[.slice Ao9 t920.length co9,.slice Ao12 t923.length co12],.agg #[.int .i64 t926,.int .i64 t927]] (h:=?_);(with_reducible refine (impl_PlateNear.calls _ _ t920 _ _ t923 t926 t927 t930 _ ?side1 ?side2 ?side3 ?side4 ?side5 A4.out).mono ?_);(case side1=>refine (Kd.R_reads' (e:=28) (base:=w.heap.size) (ok:=fun k_=>(True∧k_≠gb929)) (n:=t920.length) (c:=co9) ?_).2.2;exact (by (with_reducible repeat (first | apply Kd.R_alloc | apply Kd.R_drewN | apply Kd.R_drew));exact (Kd.R_mono (Kd.R_mono (Kd.R_far (p:=⟨gb929,1,none⟩) (Kd.R_far (p:=⟨gb929,0,none⟩) (Kd.R_far (p:=⟨gb928,1,none⟩) (Kd.R_far (p:=⟨gb928,0,none⟩) (Kd.R_mono (Kd.R_types HO922.out BK928.out (by decide)) (fun k_ hk=>(⟨hk,hk.1.2⟩:_∧k_≠gb929))) (fun _ hk=>hk.1.2) (.slice Ao9 t920.length co9)) (fun _ hk=>hk.1.2) (.slice Ao12 t923.length co12)) (fun _ hk=>hk.2) (.int .i64 t926)) (fun _ hk=>hk.2) (.int .i64 t927)) (fun _ h_=>h_.1)) (fun _ h_=>h_.1))));(case side2=>exact (Kd.R_reads' HO922.out).2.1);(case side3=>refine (Kd.N_reads' (e:=23) (base:=w.heap.size) (ok:=fun k_=>((some k_≠(.slice Ao9 t920.length co9:Value).ownBlock∧k_≠gb928)∧k_≠gb929)) (n:=t923.length) (c:=co12) ?_).2.2;exact (by (with_reducible repeat (first | apply Kd.N_alloc | apply Kd.N_drewN | apply Kd.N_drew));exact (Kd.N_mono (Kd.N_mono (Kd.N_far (p:=⟨gb929,1,none⟩) (Kd.N_far (p:=⟨gb929,0,none⟩) (Kd.N_far (p:=⟨gb928,1,none⟩) (Kd.N_far (p:=⟨gb928,0,none⟩) (Kd.N_mono (Kd.N_mono HO925.out (fun k_ hk=>(⟨hk,hk.1.2⟩:_∧k_≠gb928))) (fun k_ hk=>(⟨hk,hk.1.2⟩:_∧k_≠gb929))) (fun _ hk=>hk.1.2) (.slice Ao9 t920.length co9)) (fun _ hk=>hk.1.2) (.slice Ao12 t923.length co12)) (fun _ hk=>hk.2) (.int .i64 t926)) (fun _ hk=>hk.2) (.int .i64 t927)) (fun _ h_=>h_.1)) (fun _ h_=>h_.1))));(case side4=>exact (Kd.N_reads' HO925.out).2.1);(case side5=>exact ErrW.below HE.out hB_);rintro e w14 ⟨v931,rfl,ho0,hb⟩;refine⟨_,rfl,?_⟩;have HO932:=a0_ (Kd.R_lower ho0 (below_size hB_));replace HO922:=a0_ (Kd.R_below (by (with_reducible repeat (first | apply Kd.R_alloc | apply Kd.R_drewN | apply Kd.R_drew));exact (Kd.R_mono (Kd.R_mono (Kd.R_far (p:=⟨gb929,1,none⟩) (Kd.R_far (p:=⟨gb929,0,none⟩) (Kd.R_far (p:=⟨gb928,1,none⟩) (Kd.R_far (p:=⟨gb928,0,none⟩) (Kd.R_mono (Kd.R_types HO922.out BK928.out (by decide)) (fun k_ hk=>(⟨hk,hk.1.2⟩:_∧k_≠gb929))) (fun _ hk=>hk.1.2) (.slice Ao9 t920.length co9)) (fun _ hk=>hk.1.2) (.slice Ao12 t923.length co12)) (fun _ hk=>hk.2) (.int .i64 t926)) (fun _ hk=>hk.2) (.int .i64 t927)) (fun _ h_=>h_.1)) (fun _ h_=>h_.1))) hb);replace HO925:=a0_ (Kd.N_elder' (by (with_reducible repeat (first | apply Kd.N_alloc | apply Kd.N_drewN | apply Kd.N_drew));exact (Kd.N_mono (Kd.N_mono (Kd.N_far (p:=⟨gb929,1,none⟩) (Kd.N_far (p:=⟨gb929,0,none⟩) (Kd.N_far (p:=⟨gb928,1,none⟩) (Kd.N_far (p:=⟨gb928,0,none⟩) (Kd.N_mono (Kd.N_mono HO925.out (fun k_ hk=>(⟨hk,hk.1.2⟩:_∧k_≠gb928))) (fun k_ hk=>(⟨hk,hk.1.2⟩:_∧k_≠gb929))) (fun _ hk=>hk.1.2) (.slice Ao9 t920.length co9)) (fun _ hk=>hk.1.2) (.slice Ao12 t923.length co12)) (fun _ hk=>hk.2) (.int .i64 t926)) (fun _ hk=>hk.2) (.int .i64 t927)) (fun _ h_=>h_.1)) (fun _ h_=>h_.1))) (Kd.R_base ho0) hb);replace BK928:=a0_ (blk_below (g:=gb928) (o:=.cells #[.slice Ao9 t920.length co9,.slice Ao12 t923.length co12] 26 (0,0)) (by (with_reducible repeat (first | refine blk_drewN ?_ _ | refine blk_drew ?_ | refine blk_alloc ?_ _));refine blk_far ?_ NB928_929.out _;(with_reducible repeat (first | refine blk_drewN ?_ _ | refine blk_drew ?_ | refine blk_alloc ?_ _));refine blk_far ?_ NB928_929.out _;(with_reducible repeat (first | refine blk_drewN ?_ _ | refine blk_drew ?_ | refine blk_alloc ?_ _));refine blk_put (cs:=#[.slice Ao9 t920.length co9,.slice none 0 0]) ?_ 1 _ rfl;(with_reducible repeat (first | refine blk_drewN ?_ _ | refine blk_drew ?_ | refine blk_alloc ?_ _));refine blk_put (cs:=#[.slice none 0 0,.slice none 0 0]) ?_ 0 _ rfl;(with_reducible repeat (first | refine blk_drewN ?_ _ | refine blk_drew ?_ | refine blk_alloc ?_ _));exact BK928.out) hb);replace BK929:=a0_ (blk_below (g:=gb929) (o:=.cells #[.int .i64 t926,.int .i64 t927] 28 (0,0)) (by (with_reducible repeat (first | refine blk_drewN ?_ _ | refine blk_drew ?_ | refine blk_alloc ?_ _));refine blk_put (cs:=#[.int .i64 t926,.int .i64 0]) ?_ 1 _ rfl;(with_reducible repeat (first | refine blk_drewN ?_ _ | refine blk_drew ?_ | refine blk_alloc ?_ _));refine blk_put (cs:=#[.int .i64 0,.int .i64 0]) ?_ 0 _ rfl;(with_reducible repeat (first | refine blk_drewN ?_ _ | refine blk_drew ?_ | refine blk_alloc ?_ _));refine blk_far ?_ NB929_928.out _;(with_reducible repeat (first | refine blk_drewN ?_ _ | refine blk_drew ?_ | refine blk_alloc ?_ _));refine blk_far ?_ NB929_928.out _;(with_reducible repeat (first | refine blk_drewN ?_ _ | refine blk_drew ?_ | refine blk_alloc ?_ _));exact BK929.out) hb);replace HB:=sb_ HB hb;(try clear ho0 hb)))
  (try simp only [Act.put,List.setIfInBounds_toArray,List.set_cons_zero,List.set_cons_succ])
  go_cut [31] (fun v31 wc=>∃ (kq:Nat) (x31_4:Bool),v31=.bool x31_4∧Aside0 (laws_FnPlateNear.j0 kq t930 x31_4 t920 t923 t926 t927=some r)∧Aside0 (kq≤k)∧Aside0 (Kd.R (Kd.int .i64) 3 wc w.heap.size (fun _=>True) v931 t930)∧Aside0 (Kd.R k28 28 wc w.heap.size (fun k_=>k_≠gb929) (.slice Ao9 t920.length co9) t920)∧Aside0 (Kd.N (Kd.slice 28 k28) 23 wc w.heap.size (fun k_=>some k_≠(v931:Value).ownBlock∧some k_≠((.slice Ao9 t920.length co9):Value).ownBlock∧k_≠gb928∧k_≠gb929) (.slice Ao12 t923.length co12) t923)∧Aside0 (wc.heap[gb928]?=some (.cells #[(.slice Ao9 t920.length co9),(.slice Ao12 t923.length co12)] 26 (0,0)))∧Aside0 (wc.heap[gb929]?=some (.cells #[.int .i64 t926,.int .i64 t927] 28 (0,0)))∧Aside0 (Below w.heap.size w wc))
  case first =>
   have H:=HC5.out;clear HC5;replace H:=Option.bind_eq_some_iff.mp H;obtain⟨t933,A150,H⟩:=H
   (try dsimp only at H)
   have A15:=Aside0.mk A150;clear A150;replace H:=Option.bind_eq_some_iff.mp H;obtain⟨t936,A160,H⟩:=H
   (try dsimp only at H)
   have A16:=Aside0.mk A160;clear A160;by_cases c17:t936=true
   ·
    subst c17;rw [if_pos rfl] at H
    (try dsimp only at H)
    have H':=Aside0.mk H;clear H;have hnb18:=NB928_929.out;have hnc18:=NB929_928.out;have hcz19_0:=c20_ BK928;have hcz19_1:=c21_ BK928;have hfz19_0:=fz_ BK928 0;have hfz19_1:=fz_ BK928 1;have hcz20_0:=c20_ BK929;have hcz20_1:=c21_ BK929;have hfz20_0:=fz_ BK929 0;have hfz20_1:=fz_ BK929 1
    go_wp2_with (first | ((with_reducible refine gate_callee (f:=42) rfl ?_);refine gL_ (some 24) Tryd.func42 #[.agg #[.slice Ao9 t920.length co9,.slice Ao12 t923.length co12],.agg #[.int .i64 t926,.int .i64 t927]] (h:=?_);(with_reducible refine (spec_PlateNear.calls k _ _ t920 _ _ t923 t926 t927 t933 _ ?side1 ?side2 ?side3 ?side4 A15.out).mono ?_);(case side1=>repeat (first | exact (Kd.R_reads' HO922.out).2.2 | (with_reducible refine Kd.C_alloc ?_ _) | (with_reducible refine Kd.C_drewN ?_ _) | (with_reducible refine Kd.C_drew ?_)));(case side2=>exact (Kd.R_reads' HO922.out).2.1);(case side3=>repeat (first | exact (Kd.N_reads' HO925.out).2.2 | (with_reducible refine Kd.C_alloc ?_ _) | (with_reducible refine Kd.C_drewN ?_ _) | (with_reducible refine Kd.C_drew ?_)));(case side4=>exact (Kd.N_reads' HO925.out).2.1);rintro e w21 ⟨v934,rfl,ho0,hb⟩;refine⟨_,rfl,?_⟩;have HO935:=a0_ (Kd.R_lower (Kd.R_new' ho0 (Kd.R_lt (uR_ HO932))) (below_size hB_));replace HO922:=rb_ HO922 hb;replace HO925:=a0_ (Kd.N_elder' (uN_ HO925) (Kd.R_base ho0) hb);replace HO932:=a0_ (Kd.R_elder' (uR_ HO932) (Kd.R_base ho0) hb);replace BK928:=vb_ BK928 hb;replace BK929:=vb_ BK929 hb;replace HB:=sb_ HB hb;(try clear ho0 hb);obtain⟨Ao22,co22,eo22⟩:=Kd.R_slice HO932.out;subst eo22;obtain⟨Ao23,co23,eo23⟩:=Kd.R_slice HO935.out;subst eo23) | ((with_reducible refine gate_callee (f:=41) rfl ?_);refine gL_ (some 25) Tryd.func41 #[.slice Ao22 t930.length co22,.slice Ao23 t933.length co23] (h:=?_);(with_reducible refine (laws_luInts.calls k _ _ t930 _ _ t933 true _ ?side1 ?side2 ?side3 ?side4 A16.out).mono ?_);(case side1=>repeat (first | exact (Kd.R_reads' HO932.out).2.2 | (with_reducible refine Kd.C_alloc ?_ _) | (with_reducible refine Kd.C_drewN ?_ _) | (with_reducible refine Kd.C_drew ?_)));(case side2=>exact (Kd.R_reads' HO932.out).2.1);(case side3=>repeat (first | exact (Kd.R_reads' HO935.out).2.2 | (with_reducible refine Kd.C_alloc ?_ _) | (with_reducible refine Kd.C_drewN ?_ _) | (with_reducible refine Kd.C_drew ?_)));(case side4=>exact (Kd.R_reads' HO935.out).2.1);rintro e w' ⟨rfl,⟨nd,rfl⟩⟩;refine⟨_,rfl,?_⟩))
    go_meet
    case rel=>exact⟨_,(((t930.length:Int)==0)),(by first | rfl | (simp;done) | (simp [*];done)),H',⟨by first | omega | exact Nat.le_refl _⟩,⟨by (with_reducible repeat (first | apply Kd.R_alloc | apply Kd.R_drewN | apply Kd.R_drew));exact Kd.R_mono HO932.out (fun _ hk=>trivial)⟩,⟨by (with_reducible repeat (first | apply Kd.R_alloc | apply Kd.R_drewN | apply Kd.R_drew));exact Kd.R_mono HO922.out (fun _ hk=>hk.2)⟩,⟨by (with_reducible repeat (first | apply Kd.N_alloc | apply Kd.N_drewN | apply Kd.N_drew));exact Kd.N_mono HO925.out (fun _ hk=>⟨hk.1.2,⟨hk.1.1.1.1,⟨hk.1.1.1.2,hk.1.1.2⟩⟩⟩)⟩,⟨uq_⟩,⟨uq_⟩,⟨hB_⟩⟩
   ·
    replace c17:=Bool.eq_false_iff.mpr c17;subst c17;rw [if_neg (show ¬ (false=true) by decide)] at H
    (try dsimp only at H)
    have H':=Aside0.mk H;clear H;have hnb24:=NB928_929.out;have hnc24:=NB929_928.out;have hcz25_0:=c20_ BK928;have hcz25_1:=c21_ BK928;have hfz25_0:=fz_ BK928 0;have hfz25_1:=fz_ BK928 1;have hcz26_0:=c20_ BK929;have hcz26_1:=c21_ BK929;have hfz26_0:=fz_ BK929 0;have hfz26_1:=fz_ BK929 1
    go_wp2_with (first | ((with_reducible refine gate_callee (f:=42) rfl ?_);refine gL_ (some 24) Tryd.func42 #[.agg #[.slice Ao9 t920.length co9,.slice Ao12 t923.length co12],.agg #[.int .i64 t926,.int .i64 t927]] (h:=?_);(with_reducible refine (spec_PlateNear.calls k _ _ t920 _ _ t923 t926 t927 t933 _ ?side1 ?side2 ?side3 ?side4 A15.out).mono ?_);(case side1=>repeat (first | exact (Kd.R_reads' HO922.out).2.2 | (with_reducible refine Kd.C_alloc ?_ _) | (with_reducible refine Kd.C_drewN ?_ _) | (with_reducible refine Kd.C_drew ?_)));(case side2=>exact (Kd.R_reads' HO922.out).2.1);(case side3=>repeat (first | exact (Kd.N_reads' HO925.out).2.2 | (with_reducible refine Kd.C_alloc ?_ _) | (with_reducible refine Kd.C_drewN ?_ _) | (with_reducible refine Kd.C_drew ?_)));(case side4=>exact (Kd.N_reads' HO925.out).2.1);rintro e w27 ⟨v934,rfl,ho0,hb⟩;refine⟨_,rfl,?_⟩;have HO935:=a0_ (Kd.R_lower (Kd.R_new' ho0 (Kd.R_lt (uR_ HO932))) (below_size hB_));replace HO922:=rb_ HO922 hb;replace HO925:=a0_ (Kd.N_elder' (uN_ HO925) (Kd.R_base ho0) hb);replace HO932:=a0_ (Kd.R_elder' (uR_ HO932) (Kd.R_base ho0) hb);replace BK928:=vb_ BK928 hb;replace BK929:=vb_ BK929 hb;replace HB:=sb_ HB hb;(try clear ho0 hb);obtain⟨Ao28,co28,eo28⟩:=Kd.R_slice HO932.out;subst eo28;obtain⟨Ao29,co29,eo29⟩:=Kd.R_slice HO935.out;subst eo29) | ((with_reducible refine gate_callee (f:=41) rfl ?_);refine gL_ (some 25) Tryd.func41 #[.slice Ao28 t930.length co28,.slice Ao29 t933.length co29] (h:=?_);(with_reducible refine (laws_luInts.calls k _ _ t930 _ _ t933 false _ ?side1 ?side2 ?side3 ?side4 A16.out).mono ?_);(case side1=>repeat (first | exact (Kd.R_reads' HO932.out).2.2 | (with_reducible refine Kd.C_alloc ?_ _) | (with_reducible refine Kd.C_drewN ?_ _) | (with_reducible refine Kd.C_drew ?_)));(case side2=>exact (Kd.R_reads' HO932.out).2.1);(case side3=>repeat (first | exact (Kd.R_reads' HO935.out).2.2 | (with_reducible refine Kd.C_alloc ?_ _) | (with_reducible refine Kd.C_drewN ?_ _) | (with_reducible refine Kd.C_drew ?_)));(case side4=>exact (Kd.R_reads' HO935.out).2.1);rintro e w' ⟨rfl,⟨nd,rfl⟩⟩;refine⟨_,rfl,?_⟩))
    go_meet
    case rel=>exact⟨_,(true),(by first | rfl | (simp;done) | (simp [*];done)),H',⟨by first | omega | exact Nat.le_refl _⟩,⟨by (with_reducible repeat (first | apply Kd.R_alloc | apply Kd.R_drewN | apply Kd.R_drew));exact Kd.R_mono HO932.out (fun _ hk=>trivial)⟩,⟨by (with_reducible repeat (first | apply Kd.R_alloc | apply Kd.R_drewN | apply Kd.R_drew));exact Kd.R_mono HO922.out (fun _ hk=>hk.2)⟩,⟨by (with_reducible repeat (first | apply Kd.N_alloc | apply Kd.N_drewN | apply Kd.N_drew));exact Kd.N_mono HO925.out (fun _ hk=>⟨hk.1.2,⟨hk.1.1.1.1,⟨hk.1.1.1.2,hk.1.1.2⟩⟩⟩)⟩,⟨uq_⟩,⟨uq_⟩,⟨hB_⟩⟩
  case rest =>
   clear HC5;obtain⟨kq,x31_4,rfl,HA,HJ4,HO_5,HO_929000,HO_929001,BK928,BK929,HB⟩:=hcut
   cases kq with
   | zero=>exact absurd HA.out (by simp [laws_FnPlateNear.j0])
   | succ kj4 =>
    have H:=HA.out;clear HA;simp only [laws_FnPlateNear.j0] at H;by_cases c30:x31_4=true
    ·
     subst c30;rw [if_pos rfl] at H
     (try dsimp only at H)
     replace H:=Option.bind_eq_some_iff.mp H;obtain⟨t937,A310,H⟩:=H
     (try dsimp only at H)
     have A31:=Aside0.mk A310;clear A310;replace H:=Option.bind_eq_some_iff.mp H;obtain⟨t940,A320,H⟩:=H
     (try dsimp only at H)
     have A32:=Aside0.mk A320;clear A320;obtain rfl:=Option.some.inj H;have hnb33:=NB928_929.out;have hnc33:=NB929_928.out;have hcz34_0:=c20_ BK928;have hcz34_1:=c21_ BK928;have hfz34_0:=fz_ BK928 0;have hfz34_1:=fz_ BK928 1;have hcz35_0:=c20_ BK929;have hcz35_1:=c21_ BK929;have hfz35_0:=fz_ BK929 0;have hfz35_1:=fz_ BK929 1
     go_wp2_with (first | ((with_reducible refine gate_callee (f:=42) rfl ?_);refine gL_ (some 35) Tryd.func42 #[.agg #[.slice Ao9 t920.length co9,.slice Ao12 t923.length co12],.agg #[.int .i64 t926,.int .i64 t927]] (h:=?_);(with_reducible refine (spec_PlateNear.calls kj4 _ _ t920 _ _ t923 t926 t927 t937 _ ?side1 ?side2 ?side3 ?side4 A31.out).mono ?_);(case side1=>repeat (first | exact (Kd.R_reads' HO_929000.out).2.2 | (with_reducible refine Kd.C_alloc ?_ _) | (with_reducible refine Kd.C_drewN ?_ _) | (with_reducible refine Kd.C_drew ?_)));(case side2=>exact (Kd.R_reads' HO_929000.out).2.1);(case side3=>repeat (first | exact (Kd.N_reads' HO_929001.out).2.2 | (with_reducible refine Kd.C_alloc ?_ _) | (with_reducible refine Kd.C_drewN ?_ _) | (with_reducible refine Kd.C_drew ?_)));(case side4=>exact (Kd.N_reads' HO_929001.out).2.1);rintro e w36 ⟨v938,rfl,ho0,hb⟩;refine⟨_,rfl,?_⟩;have HO939:=a0_ (Kd.R_lower (Kd.R_new' ho0 (Kd.R_lt (uR_ HO_5))) (below_size hB_));replace HO_5:=a0_ (Kd.R_elder' (uR_ HO_5) (Kd.R_base ho0) hb);replace HO_929000:=rb_ HO_929000 hb;replace HO_929001:=a0_ (Kd.N_elder' (uN_ HO_929001) (Kd.R_base ho0) hb);replace BK928:=vb_ BK928 hb;replace BK929:=vb_ BK929 hb;replace HB:=sb_ HB hb;(try clear ho0 hb);obtain⟨Ao37,co37,eo37⟩:=Kd.R_slice HO_5.out;subst eo37;obtain⟨Ao38,co38,eo38⟩:=Kd.R_slice HO939.out;subst eo38) | ((with_reducible refine gate_callee (f:=41) rfl ?_);refine gL_ (some 36) Tryd.func41 #[.slice Ao37 t930.length co37,.slice Ao38 t937.length co38] (h:=?_);(with_reducible refine (laws_luInts.calls kj4 _ _ t930 _ _ t937 t940 _ ?side1 ?side2 ?side3 ?side4 A32.out).mono ?_);(case side1=>repeat (first | exact (Kd.R_reads' HO_5.out).2.2 | (with_reducible refine Kd.C_alloc ?_ _) | (with_reducible refine Kd.C_drewN ?_ _) | (with_reducible refine Kd.C_drew ?_)));(case side2=>exact (Kd.R_reads' HO_5.out).2.1);(case side3=>repeat (first | exact (Kd.R_reads' HO939.out).2.2 | (with_reducible refine Kd.C_alloc ?_ _) | (with_reducible refine Kd.C_drewN ?_ _) | (with_reducible refine Kd.C_drew ?_)));(case side4=>exact (Kd.R_reads' HO939.out).2.1);rintro e w' ⟨rfl,⟨nd,rfl⟩⟩;refine⟨_,rfl,?_⟩))
     go_ret;exact⟨rr_,hB_⟩
    ·
     replace c30:=Bool.eq_false_iff.mpr c30;subst c30;rw [if_neg (show ¬ (false=true) by decide)] at H
     (try dsimp only at H)
     replace H:=Option.bind_eq_some_iff.mp H;obtain⟨⟨t941,t942⟩,A390,H⟩:=H
     (try dsimp only at H)
     have A39:=Aside0.mk A390;clear A390;replace H:=Option.bind_eq_some_iff.mp H;obtain⟨t944,A400,H⟩:=H
     (try dsimp only at H)
     have A40:=Aside0.mk A400;clear A400;have H':=Aside0.mk H;clear H;have hnb41:=NB928_929.out;have hnc41:=NB929_928.out;have hcz42_0:=c20_ BK928;have hcz42_1:=c21_ BK928;have hfz42_0:=fz_ BK928 0;have hfz42_1:=fz_ BK928 1;have hcz43_0:=c20_ BK929;have hcz43_1:=c21_ BK929;have hfz43_0:=fz_ BK929 0;have hfz43_1:=fz_ BK929 1
     go_wp2_with (first | ((with_reducible refine gate_callee (f:=22) rfl ?_);refine gL_ (some 39) Tryd.func22 #[.agg #[.slice Ao9 t920.length co9,.slice Ao12 t923.length co12],.agg #[.int .i64 t926,.int .i64 t927]] (h:=?_);(with_reducible refine (impl_PlateFar.calls _ _ t920 _ _ t923 t926 t927 t941 t942 _ ?side1 ?side2 ?side3 ?side4 ?side5 A39.out).mono ?_);(case side1=>repeat (first | exact (Kd.R_reads' HO_929000.out).2.2 | (with_reducible refine Kd.C_alloc ?_ _) | (with_reducible refine Kd.C_drewN ?_ _) | (with_reducible refine Kd.C_drew ?_)));(case side2=>exact (Kd.R_reads' HO_929000.out).2.1);(case side3=>repeat (first | exact (Kd.N_reads' HO_929001.out).2.2 | (with_reducible refine Kd.C_alloc ?_ _) | (with_reducible refine Kd.C_drewN ?_ _) | (with_reducible refine Kd.C_drew ?_)));(case side4=>exact (Kd.N_reads' HO_929001.out).2.1);(case side5=>exact ErrW.below HE.out hB_);rintro e w44 ⟨rfl,hb⟩;refine⟨_,rfl,?_⟩;replace HO_5:=rb_ HO_5 hb;replace HO_929000:=rb_ HO_929000 hb;replace HO_929001:=nb_ HO_929001 hb;replace BK928:=vb_ BK928 hb;replace BK929:=vb_ BK929 hb;replace HB:=sb_ HB hb;(try clear hb)) | ((with_reducible refine gate_dst (N:=7) rfl ?_);(try (refine gate_guard (by rfl) ?_;dsimp only));refine bx_ (N:=7) (cs:=#[.int .i64 0,.int .i64 0]) (t:=35) (h:=?_);intro gb943 hg w45 hbox hb;have BK943:=a0_ (hbox);have GW943:=gh_ HB hg;have GE943:=gh_ HB hg;have NB928_943:=nl_ BK928 hg;have NB943_928:=nr_ BK928 hg;have NB929_943:=nl_ BK929 hg;have NB943_929:=nr_ BK929 hg;replace HO_5:=rb_ HO_5 hb;replace HO_929000:=rb_ HO_929000 hb;replace HO_929001:=a0_ (Kd.N_below (Kd.N_elderB (uN_ HO_929001) gb943 (Nat.le_of_eq hg.symm)) hb);replace BK928:=vb_ BK928 hb;replace BK929:=vb_ BK929 hb;replace HB:=sb_ HB hb;clear hb hbox hg;have hnb46:=NB943_928.out;have hnc46:=NB928_943.out;have hnb47:=NB943_929.out;have hnc47:=NB929_943.out;have hcz48_0:=c20_ BK943;have hcz48_1:=c21_ BK943;have hfz48_0:=fz_ BK943 0;have hfz48_1:=fz_ BK943 1;have hcz49_0:=c20_ BK928;have hcz49_1:=c21_ BK928;have hfz49_0:=fz_ BK928 0;have hfz49_1:=fz_ BK928 1) | ((with_reducible refine gate_callee (f:=36) rfl ?_);refine gL_ (some 41) Tryd.func36 #[.agg #[.slice Ao9 t920.length co9,.slice Ao12 t923.length co12]] (h:=?_);(with_reducible refine (impl_PlateEdges.calls _ _ t920 _ _ t923 t944 _ ?side1 ?side2 ?side3 ?side4 A40.out).mono ?_);(case side1=>refine (Kd.R_reads' (e:=28) (base:=w.heap.size) (ok:=fun k_=>k_≠gb929) (n:=t920.length) (c:=co9) ?_).2.2;exact (by (with_reducible repeat (first | apply Kd.R_alloc | apply Kd.R_drewN | apply Kd.R_drew));exact (Kd.R_mono (Kd.R_far (p:=⟨gb943,1,none⟩) (Kd.R_far (p:=⟨gb943,0,none⟩) (Kd.R_types HO_929000.out BK943.out (by decide)) (fun _ hk=>hk.2) (.int .i64 t941)) (fun _ hk=>hk.2) (.int .i64 t942)) (fun _ h_=>h_.1))));(case side2=>exact (Kd.R_reads' HO_929000.out).2.1);(case side3=>refine (Kd.N_reads' (e:=23) (base:=w.heap.size) (ok:=fun k_=>((some k_≠(v931:Value).ownBlock∧(some k_≠(.slice Ao9 t920.length co9:Value).ownBlock∧(k_≠gb928∧k_≠gb929)))∧k_≠gb943)) (n:=t923.length) (c:=co12) ?_).2.2;exact (by (with_reducible repeat (first | apply Kd.N_alloc | apply Kd.N_drewN | apply Kd.N_drew));exact (Kd.N_mono (Kd.N_far (p:=⟨gb943,1,none⟩) (Kd.N_far (p:=⟨gb943,0,none⟩) (Kd.N_mono HO_929001.out (fun k_ hk=>(⟨hk,hk.2⟩:_∧k_≠gb943))) (fun _ hk=>hk.2) (.int .i64 t941)) (fun _ hk=>hk.2) (.int .i64 t942)) (fun _ h_=>h_.1))));(case side4=>exact (Kd.N_reads' HO_929001.out).2.1);rintro e w50 ⟨v945,rfl,ho0,hb⟩;refine⟨_,rfl,?_⟩;have HO946:=a0_ (Kd.R_lower ho0 (below_size hB_));replace HO_5:=a0_ (Kd.R_below (by (with_reducible repeat (first | apply Kd.R_alloc | apply Kd.R_drewN | apply Kd.R_drew));exact (Kd.R_mono (Kd.R_far (p:=⟨gb943,1,none⟩) (Kd.R_far (p:=⟨gb943,0,none⟩) (Kd.R_types HO_5.out BK943.out (by decide)) (fun _ hk=>hk.2) (.int .i64 t941)) (fun _ hk=>hk.2) (.int .i64 t942)) (fun _ h_=>h_.1))) hb);replace HO_929000:=a0_ (Kd.R_below (by (with_reducible repeat (first | apply Kd.R_alloc | apply Kd.R_drewN | apply Kd.R_drew));exact (Kd.R_mono (Kd.R_far (p:=⟨gb943,1,none⟩) (Kd.R_far (p:=⟨gb943,0,none⟩) (Kd.R_types HO_929000.out BK943.out (by decide)) (fun _ hk=>hk.2) (.int .i64 t941)) (fun _ hk=>hk.2) (.int .i64 t942)) (fun _ h_=>h_.1))) hb);replace HO_929001:=a0_ (Kd.N_elder' (by (with_reducible repeat (first | apply Kd.N_alloc | apply Kd.N_drewN | apply Kd.N_drew));exact (Kd.N_mono (Kd.N_far (p:=⟨gb943,1,none⟩) (Kd.N_far (p:=⟨gb943,0,none⟩) (Kd.N_mono HO_929001.out (fun k_ hk=>(⟨hk,hk.2⟩:_∧k_≠gb943))) (fun _ hk=>hk.2) (.int .i64 t941)) (fun _ hk=>hk.2) (.int .i64 t942)) (fun _ h_=>h_.1))) (Kd.R_base ho0) hb);replace BK928:=a0_ (blk_below (g:=gb928) (o:=.cells #[.slice Ao9 t920.length co9,.slice Ao12 t923.length co12] 26 (0,0)) uf_ hb);replace BK929:=a0_ (blk_below (g:=gb929) (o:=.cells #[.int .i64 t926,.int .i64 t927] 28 (0,0)) uf_ hb);replace BK943:=a0_ (blk_below (g:=gb943) (o:=.cells #[.int .i64 t941,.int .i64 t942] 35 (0,0)) (by (with_reducible repeat (first | refine blk_drewN ?_ _ | refine blk_drew ?_ | refine blk_alloc ?_ _));refine blk_put (cs:=#[.int .i64 t941,.int .i64 0]) ?_ 1 _ rfl;(with_reducible repeat (first | refine blk_drewN ?_ _ | refine blk_drew ?_ | refine blk_alloc ?_ _));refine blk_put (cs:=#[.int .i64 0,.int .i64 0]) ?_ 0 _ rfl;(with_reducible repeat (first | refine blk_drewN ?_ _ | refine blk_drew ?_ | refine blk_alloc ?_ _));exact BK943.out) hb);replace HB:=sb_ HB hb;(try clear ho0 hb)))
     go_loopg [6,9] kj4 (fun kq v6 v9 w'=>∃ (x6_2:Int) (x9_2:Int),v6=.int .i64 x6_2∧v9=.int .i64 x9_2∧Aside0 (laws_FnPlateNear.l0 kq t930 x6_2 t944 x9_2 t926 t927 t941 t942=some r)∧Aside0 (kq≤kj4)∧Aside0 (Kd.R (Kd.int .i64) 3 w' w.heap.size (fun _=>True) v931 t930)∧Aside0 (Kd.R k61 61 w' w.heap.size (fun _=>True) v945 t944)∧Aside0 (Kd.R k28 28 w' w.heap.size (fun k_=>k_≠gb929) (.slice Ao9 t920.length co9) t920)∧Aside0 (Kd.N (Kd.slice 28 k28) 23 w' w.heap.size (fun k_=>some k_≠(v931:Value).ownBlock∧some k_≠(v945:Value).ownBlock∧some k_≠((.slice Ao9 t920.length co9):Value).ownBlock∧k_≠gb928∧k_≠gb929∧k_≠gb943) (.slice Ao12 t923.length co12) t923)∧Aside0 (w'.heap[gb928]?=some (.cells #[(.slice Ao9 t920.length co9),(.slice Ao12 t923.length co12)] 26 (0,0)))∧Aside0 (w'.heap[gb929]?=some (.cells #[.int .i64 t926,.int .i64 t927] 28 (0,0)))∧Aside0 (w'.heap[gb943]?=some (.cells #[.int .i64 t941,.int .i64 t942] 35 (0,0)))∧Aside0 (Below w.heap.size w w'))
     case atStart=>exact⟨(0),(0),(by first | rfl | (simp;done) | (simp [*];done)),(by first | rfl | (simp;done) | (simp [*];done)),H',⟨Nat.le_refl _⟩,⟨by (with_reducible repeat (first | apply Kd.R_alloc | apply Kd.R_drewN | apply Kd.R_drew));exact HO_5.out⟩,⟨by (with_reducible repeat (first | apply Kd.R_alloc | apply Kd.R_drewN | apply Kd.R_drew));exact HO946.out⟩,⟨by (with_reducible repeat (first | apply Kd.R_alloc | apply Kd.R_drewN | apply Kd.R_drew));exact HO_929000.out⟩,⟨by (with_reducible repeat (first | apply Kd.N_alloc | apply Kd.N_drewN | apply Kd.N_drew));exact Kd.N_mono HO_929001.out (fun _ hk=>⟨hk.1.1.1,⟨hk.2,⟨hk.1.1.2.1,⟨hk.1.1.2.2.1,⟨hk.1.1.2.2.2,hk.1.2⟩⟩⟩⟩⟩)⟩,⟨uq_⟩,⟨uq_⟩,⟨uq_⟩,⟨hB_⟩⟩
     case round =>
      clear H';obtain⟨x6_2,x9_2,rfl,rfl,HA,HK2,HO_5,HO_8,HO_929000,HO_929001,BK928,BK929,BK943,HB⟩:=hrel
      cases gk with
      | zero=>exact absurd HA.out (by simp [laws_FnPlateNear.l0])
      | succ k2 =>
       have H:=HA.out;clear HA;simp only [laws_FnPlateNear.l0] at H;by_cases c51:x9_2<(t944.length:Int)
       ·
        rw [if_pos c51] at H;have c51b0:decide (x9_2<(t944.length:Int))=true:=decide_eq_true c51;clear c51;by_cases c52:0≤x9_2
        ·
         rw [if_pos c52] at H;have c52b0:decide (0≤x9_2)=true:=decide_eq_true c52;clear c52;replace H:=Option.bind_eq_some_iff.mp H;obtain⟨⟨t948,t949⟩,A530,H⟩:=H
         (try dsimp only at H)
         have A53:=Aside0.mk A530;clear A530;by_cases c54:(t948==t941 && (t949==t942))=true
         ·
          rw [if_pos c54] at H;have c54b0:(t948==t941 && (t949==t942))=true:=c54
          (try (have c54b1:decide (t948=t941 && (t949==t942))=true:=by simpa using c54))
          (try (have c54b2:(t948==t941 && (t949==t942))=true:=by simpa using c54))
          clear c54;by_cases c55:x6_2≥(t930.length:Int)
          ·
           rw [if_pos c55] at H;have c55b0:decide ((t930.length:Int)≤x6_2)=true:=decide_eq_true c55;clear c55;obtain rfl:=Option.some.inj H;obtain⟨Ao56,co56,eo56⟩:=Kd.R_slice HO_8.out;subst eo56
           try go_wp2
           replace HO_5:=a0_ (Kd.R_drew HO_5.out);replace HO_8:=a0_ (Kd.R_drew HO_8.out);replace HO_929000:=a0_ (Kd.R_drew HO_929000.out);replace HO_929001:=a0_ (Kd.N_drew HO_929001.out);replace BK928:=a0_ (blk_drew BK928.out);replace BK929:=a0_ (blk_drew BK929.out);replace BK943:=a0_ (blk_drew BK943.out);replace HB:=a0_ (below_drew1 HB.out);have p947:0≤(x9_2:Int):=od_;have q947:x9_2<(t944.length:Int):=od_;obtain⟨ad947,e947,hx947_0,hx947_1,hx947_2,hx947_3⟩:=at_T61 (Kd.R_reads' HO_8.out).2.2 x9_2 p947 q947;cases e947;replace p947:=eq_true p947;replace q947:=eq_true q947;refine start_ (n:=8) (S:=fun w'=>w'.cell? ⟨gb929,0,none⟩=some (.int .i64 t926)∧w'.cell? ⟨gb929,1,none⟩=some (.int .i64 t927)∧w'.cell? ⟨gb943,0,none⟩=some (.int .i64 t941)∧w'.cell? ⟨gb943,1,none⟩=some (.int .i64 t942)∧w'.cell? (ad947.add ((x9_2).toNat*4))=some (.int .i64 ((rd_T61 t944 x9_2).f0.f0))∧w'.cell? ⟨(ad947.add ((x9_2).toNat*4)).block,(ad947.add ((x9_2).toNat*4)).off+1,none⟩=some (.int .i64 ((rd_T61 t944 x9_2).f0.f1))∧w'.cell? ⟨(ad947.add ((x9_2).toNat*4)).block,(ad947.add ((x9_2).toNat*4)).off+2,none⟩=some (.int .i64 ((rd_T61 t944 x9_2).f1.f0))∧w'.cell? ⟨(ad947.add ((x9_2).toNat*4)).block,(ad947.add ((x9_2).toNat*4)).off+3,none⟩=some (.int .i64 ((rd_T61 t944 x9_2).f1.f1))) (ds:=[]) (Array.replicate 8 false) (by kernel_rfl) rfl rfl ⟨bc_,bc_,bc_,bc_,hx947_0,hx947_1,hx947_2,hx947_3⟩ (fun hHeld=>?_);refine with_tabW laws_FnPlateNear.tab13 laws_FnPlateNear.bits13 (fun HT_ HW_=>?_);generalize wr.drew=w57 at HO_5 HO_8 HO_929000 HO_929001 BK928 BK929 BK943 HB hx947_0 hx947_1 hx947_2 hx947_3 hHeld ⊢
           refine pu_ HT_ 0 48 (bm 8 1) ?_;refine pu_ HT_ 1 49 (bm 8 3) ?_;refine pu_ HT_ 2 50 (bm 8 7) ?_;refine ta8_ HT_ HW_ 3 51 (bm 8 15) hHeld ?_;refine ta8_ HT_ HW_ 4 52 (bm 8 31) hHeld ?_;refine ta8_ HT_ HW_ 6 54 (bm 8 95) hHeld ?_;refine one_ (i:=5) (N:=some 53) (bm 8 127) rfl rfl (one_of HT_.out (by kernel_rfl)) (by decide) (fun K hK=>?_);refine goes_ Tryd.func37 (by kernel_rfl) rfl #[.agg #[.int .i64 ((rd_T61 t944 x9_2).f0.f0),.int .i64 ((rd_T61 t944 x9_2).f0.f1),.int .i64 ((rd_T61 t944 x9_2).f1.f0),.int .i64 ((rd_T61 t944 x9_2).f1.f1)],.agg #[.int .i64 t926,.int .i64 t927]] (by rfl) rfl rfl ma_ ?_
           with_reducible refine (impl_SegFar.calls ((rd_T61 t944 x9_2).f0.f0) ((rd_T61 t944 x9_2).f0.f1) ((rd_T61 t944 x9_2).f1.f0) ((rd_T61 t944 x9_2).f1.f1) t926 t927 t948 t949 _ A53.out).mono ?_
           rintro e w58 ⟨rfl,hb⟩;have HS4_:=pw_cell_below hb hHeld.2.2.2.2.1;have HS5_:=pw_cell_below hb hHeld.2.2.2.2.2.1;have HS6_:=pw_cell_below hb hHeld.2.2.2.2.2.2.1;have HS7_:=pw_cell_below hb hHeld.2.2.2.2.2.2.2;refine⟨_,rfl,?_⟩;replace HO_5:=rb_ HO_5 hb;replace HO_8:=rb_ HO_8 hb;replace HO_929000:=rb_ HO_929000 hb;replace HO_929001:=nb_ HO_929001 hb;replace BK928:=vb_ BK928 hb;replace BK929:=vb_ BK929 hb;replace BK943:=vb_ BK943 hb;replace HB:=sb_ HB hb
           (try clear hb)
           (try clear hb2)
           (try clear hk)
           (try clear hi)
           refine hK.out _ _ ⟨bc_,bc_,bc_,bc_,HS4_,HS5_,HS6_,HS7_⟩ (fun hHeld=>?_);clear hK K;refine no_ (h:=?_);refine pu_ HT_ 7 55 (bm 8 255) ?_;refine done_ (done_of HT_.out (by kernel_rfl)) ?_;obtain⟨Ao59,co59,eo59⟩:=Kd.R_slice HO_5.out;subst eo59
           try go_wp2
           go_ret;exact⟨rr_,hB_⟩
          ·
           rw [if_neg c55] at H;have c55b0:decide ((t930.length:Int)≤x6_2)=false:=decide_eq_false c55;clear c55;by_cases c60:0≤x6_2
           ·
            rw [if_pos c60] at H;have c60b0:decide (0≤x6_2)=true:=decide_eq_true c60;clear c60;by_cases c61:x6_2<(t930.length:Int)
            ·
             rw [if_pos c61] at H;have c61b0:decide (x6_2<(t930.length:Int))=true:=decide_eq_true c61;clear c61;by_cases c62:(rd t930 x6_2)=x9_2
             ·
              rw [if_pos c62] at H;have c62b0:((rd t930 x6_2)==x9_2)=true:=beq_iff_eq.mpr c62;have c62b1:((rd t930 x6_2) != x9_2)=false:=bne_eq_false_iff_eq.mpr c62;clear c62;have H':=Aside0.mk H;clear H;obtain⟨Ao63,co63,eo63⟩:=Kd.R_slice HO_8.out;subst eo63
              try go_wp2
              replace HO_5:=a0_ (Kd.R_drew HO_5.out);replace HO_8:=a0_ (Kd.R_drew HO_8.out);replace HO_929000:=a0_ (Kd.R_drew HO_929000.out);replace HO_929001:=a0_ (Kd.N_drew HO_929001.out);replace BK928:=a0_ (blk_drew BK928.out);replace BK929:=a0_ (blk_drew BK929.out);replace BK943:=a0_ (blk_drew BK943.out);replace HB:=a0_ (below_drew1 HB.out);have p947:0≤(x9_2:Int):=od_;have q947:x9_2<(t944.length:Int):=od_;obtain⟨ad947,e947,hx947_0,hx947_1,hx947_2,hx947_3⟩:=at_T61 (Kd.R_reads' HO_8.out).2.2 x9_2 p947 q947;cases e947;replace p947:=eq_true p947;replace q947:=eq_true q947;refine start_ (n:=8) (S:=fun w'=>w'.cell? ⟨gb929,0,none⟩=some (.int .i64 t926)∧w'.cell? ⟨gb929,1,none⟩=some (.int .i64 t927)∧w'.cell? ⟨gb943,0,none⟩=some (.int .i64 t941)∧w'.cell? ⟨gb943,1,none⟩=some (.int .i64 t942)∧w'.cell? (ad947.add ((x9_2).toNat*4))=some (.int .i64 ((rd_T61 t944 x9_2).f0.f0))∧w'.cell? ⟨(ad947.add ((x9_2).toNat*4)).block,(ad947.add ((x9_2).toNat*4)).off+1,none⟩=some (.int .i64 ((rd_T61 t944 x9_2).f0.f1))∧w'.cell? ⟨(ad947.add ((x9_2).toNat*4)).block,(ad947.add ((x9_2).toNat*4)).off+2,none⟩=some (.int .i64 ((rd_T61 t944 x9_2).f1.f0))∧w'.cell? ⟨(ad947.add ((x9_2).toNat*4)).block,(ad947.add ((x9_2).toNat*4)).off+3,none⟩=some (.int .i64 ((rd_T61 t944 x9_2).f1.f1))) (ds:=[]) (Array.replicate 8 false) (by kernel_rfl) rfl rfl ⟨bc_,bc_,bc_,bc_,hx947_0,hx947_1,hx947_2,hx947_3⟩ (fun hHeld=>?_);refine with_tabW laws_FnPlateNear.tab13 laws_FnPlateNear.bits13 (fun HT_ HW_=>?_);generalize wr.drew=w64 at HO_5 HO_8 HO_929000 HO_929001 BK928 BK929 BK943 HB hx947_0 hx947_1 hx947_2 hx947_3 hHeld ⊢
              refine pu_ HT_ 0 48 (bm 8 1) ?_;refine pu_ HT_ 1 49 (bm 8 3) ?_;refine pu_ HT_ 2 50 (bm 8 7) ?_;refine ta8_ HT_ HW_ 3 51 (bm 8 15) hHeld ?_;refine ta8_ HT_ HW_ 4 52 (bm 8 31) hHeld ?_;refine ta8_ HT_ HW_ 6 54 (bm 8 95) hHeld ?_;refine one_ (i:=5) (N:=some 53) (bm 8 127) rfl rfl (one_of HT_.out (by kernel_rfl)) (by decide) (fun K hK=>?_);refine goes_ Tryd.func37 (by kernel_rfl) rfl #[.agg #[.int .i64 ((rd_T61 t944 x9_2).f0.f0),.int .i64 ((rd_T61 t944 x9_2).f0.f1),.int .i64 ((rd_T61 t944 x9_2).f1.f0),.int .i64 ((rd_T61 t944 x9_2).f1.f1)],.agg #[.int .i64 t926,.int .i64 t927]] (by rfl) rfl rfl ma_ ?_
              with_reducible refine (impl_SegFar.calls ((rd_T61 t944 x9_2).f0.f0) ((rd_T61 t944 x9_2).f0.f1) ((rd_T61 t944 x9_2).f1.f0) ((rd_T61 t944 x9_2).f1.f1) t926 t927 t948 t949 _ A53.out).mono ?_
              rintro e w65 ⟨rfl,hb⟩;have HS4_:=pw_cell_below hb hHeld.2.2.2.2.1;have HS5_:=pw_cell_below hb hHeld.2.2.2.2.2.1;have HS6_:=pw_cell_below hb hHeld.2.2.2.2.2.2.1;have HS7_:=pw_cell_below hb hHeld.2.2.2.2.2.2.2;refine⟨_,rfl,?_⟩;replace HO_5:=rb_ HO_5 hb;replace HO_8:=rb_ HO_8 hb;replace HO_929000:=rb_ HO_929000 hb;replace HO_929001:=nb_ HO_929001 hb;replace BK928:=vb_ BK928 hb;replace BK929:=vb_ BK929 hb;replace BK943:=vb_ BK943 hb;replace HB:=sb_ HB hb
              (try clear hb)
              (try clear hb2)
              (try clear hk)
              (try clear hi)
              refine hK.out _ _ ⟨bc_,bc_,bc_,bc_,HS4_,HS5_,HS6_,HS7_⟩ (fun hHeld=>?_);clear hK K;refine no_ (h:=?_);refine pu_ HT_ 7 55 (bm 8 255) ?_;refine done_ (done_of HT_.out (by kernel_rfl)) ?_;obtain⟨Ao66,co66,eo66⟩:=Kd.R_slice HO_5.out;subst eo66;have p950:0≤(x6_2:Int):=od_;have q950:x6_2<(t930.length:Int):=od_;obtain⟨ad950,e950,hx950_0⟩:=Kd.at_int (Kd.R_reads' HO_5.out).2.2 x6_2 p950 q950;cases e950;replace p950:=eq_true p950;replace q950:=eq_true q950
              try go_wp2
              go_roundg k2
              case measure=>have:=HJ4.out;have:=HK2.out;omega
              case rel=>exact⟨(wrap64 (x6_2+1)),(wrap64 (x9_2+1)),(by first | rfl | (simp;done) | (simp [*];done)),(by first | rfl | (simp;done) | (simp [*];done)),H',⟨by have:=HJ4.out;have:=HK2.out;omega⟩,⟨by (with_reducible repeat (first | apply Kd.R_alloc | apply Kd.R_drewN | apply Kd.R_drew));exact HO_5.out⟩,⟨by (with_reducible repeat (first | apply Kd.R_alloc | apply Kd.R_drewN | apply Kd.R_drew));exact HO_8.out⟩,⟨by (with_reducible repeat (first | apply Kd.R_alloc | apply Kd.R_drewN | apply Kd.R_drew));exact HO_929000.out⟩,⟨by (with_reducible repeat (first | apply Kd.N_alloc | apply Kd.N_drewN | apply Kd.N_drew));exact HO_929001.out⟩,⟨uq_⟩,⟨uq_⟩,⟨uq_⟩,⟨hB_⟩⟩
             ·
              rw [if_neg c62] at H;have c62b0:((rd t930 x6_2)==x9_2)=false:=beq_eq_false_iff_ne.mpr c62;have c62b1:((rd t930 x6_2) != x9_2)=true:=bne_iff_ne.mpr c62;obtain rfl:=Option.some.inj H;obtain⟨Ao67,co67,eo67⟩:=Kd.R_slice HO_8.out;subst eo67
              try go_wp2
              replace HO_5:=a0_ (Kd.R_drew HO_5.out);replace HO_8:=a0_ (Kd.R_drew HO_8.out);replace HO_929000:=a0_ (Kd.R_drew HO_929000.out);replace HO_929001:=a0_ (Kd.N_drew HO_929001.out);replace BK928:=a0_ (blk_drew BK928.out);replace BK929:=a0_ (blk_drew BK929.out);replace BK943:=a0_ (blk_drew BK943.out);replace HB:=a0_ (below_drew1 HB.out);have p947:0≤(x9_2:Int):=od_;have q947:x9_2<(t944.length:Int):=od_;obtain⟨ad947,e947,hx947_0,hx947_1,hx947_2,hx947_3⟩:=at_T61 (Kd.R_reads' HO_8.out).2.2 x9_2 p947 q947;cases e947;replace p947:=eq_true p947;replace q947:=eq_true q947;refine start_ (n:=8) (S:=fun w'=>w'.cell? ⟨gb929,0,none⟩=some (.int .i64 t926)∧w'.cell? ⟨gb929,1,none⟩=some (.int .i64 t927)∧w'.cell? ⟨gb943,0,none⟩=some (.int .i64 t941)∧w'.cell? ⟨gb943,1,none⟩=some (.int .i64 t942)∧w'.cell? (ad947.add ((x9_2).toNat*4))=some (.int .i64 ((rd_T61 t944 x9_2).f0.f0))∧w'.cell? ⟨(ad947.add ((x9_2).toNat*4)).block,(ad947.add ((x9_2).toNat*4)).off+1,none⟩=some (.int .i64 ((rd_T61 t944 x9_2).f0.f1))∧w'.cell? ⟨(ad947.add ((x9_2).toNat*4)).block,(ad947.add ((x9_2).toNat*4)).off+2,none⟩=some (.int .i64 ((rd_T61 t944 x9_2).f1.f0))∧w'.cell? ⟨(ad947.add ((x9_2).toNat*4)).block,(ad947.add ((x9_2).toNat*4)).off+3,none⟩=some (.int .i64 ((rd_T61 t944 x9_2).f1.f1))) (ds:=[]) (Array.replicate 8 false) (by kernel_rfl) rfl rfl ⟨bc_,bc_,bc_,bc_,hx947_0,hx947_1,hx947_2,hx947_3⟩ (fun hHeld=>?_);refine with_tabW laws_FnPlateNear.tab13 laws_FnPlateNear.bits13 (fun HT_ HW_=>?_);generalize wr.drew=w68 at HO_5 HO_8 HO_929000 HO_929001 BK928 BK929 BK943 HB hx947_0 hx947_1 hx947_2 hx947_3 hHeld ⊢
              refine pu_ HT_ 0 48 (bm 8 1) ?_;refine pu_ HT_ 1 49 (bm 8 3) ?_;refine pu_ HT_ 2 50 (bm 8 7) ?_;refine ta8_ HT_ HW_ 3 51 (bm 8 15) hHeld ?_;refine ta8_ HT_ HW_ 4 52 (bm 8 31) hHeld ?_;refine ta8_ HT_ HW_ 6 54 (bm 8 95) hHeld ?_;refine one_ (i:=5) (N:=some 53) (bm 8 127) rfl rfl (one_of HT_.out (by kernel_rfl)) (by decide) (fun K hK=>?_);refine goes_ Tryd.func37 (by kernel_rfl) rfl #[.agg #[.int .i64 ((rd_T61 t944 x9_2).f0.f0),.int .i64 ((rd_T61 t944 x9_2).f0.f1),.int .i64 ((rd_T61 t944 x9_2).f1.f0),.int .i64 ((rd_T61 t944 x9_2).f1.f1)],.agg #[.int .i64 t926,.int .i64 t927]] (by rfl) rfl rfl ma_ ?_
              with_reducible refine (impl_SegFar.calls ((rd_T61 t944 x9_2).f0.f0) ((rd_T61 t944 x9_2).f0.f1) ((rd_T61 t944 x9_2).f1.f0) ((rd_T61 t944 x9_2).f1.f1) t926 t927 t948 t949 _ A53.out).mono ?_
              rintro e w69 ⟨rfl,hb⟩;have HS4_:=pw_cell_below hb hHeld.2.2.2.2.1;have HS5_:=pw_cell_below hb hHeld.2.2.2.2.2.1;have HS6_:=pw_cell_below hb hHeld.2.2.2.2.2.2.1;have HS7_:=pw_cell_below hb hHeld.2.2.2.2.2.2.2;refine⟨_,rfl,?_⟩;replace HO_5:=rb_ HO_5 hb;replace HO_8:=rb_ HO_8 hb;replace HO_929000:=rb_ HO_929000 hb;replace HO_929001:=nb_ HO_929001 hb;replace BK928:=vb_ BK928 hb;replace BK929:=vb_ BK929 hb;replace BK943:=vb_ BK943 hb;replace HB:=sb_ HB hb
              (try clear hb)
              (try clear hb2)
              (try clear hk)
              (try clear hi)
              refine hK.out _ _ ⟨bc_,bc_,bc_,bc_,HS4_,HS5_,HS6_,HS7_⟩ (fun hHeld=>?_);clear hK K;refine no_ (h:=?_);refine pu_ HT_ 7 55 (bm 8 255) ?_;refine done_ (done_of HT_.out (by kernel_rfl)) ?_;obtain⟨Ao70,co70,eo70⟩:=Kd.R_slice HO_5.out;subst eo70;have p950:0≤(x6_2:Int):=od_;have q950:x6_2<(t930.length:Int):=od_;obtain⟨ad950,e950,hx950_0⟩:=Kd.at_int (Kd.R_reads' HO_5.out).2.2 x6_2 p950 q950;cases e950;replace p950:=eq_true p950;replace q950:=eq_true q950
              try go_wp2
              go_ret;exact⟨rr_,hB_⟩
            ·
             rw [if_neg c61] at H;exact absurd H (by simp)
           ·
            rw [if_neg c60] at H;exact absurd H (by simp)
         ·
          rw [if_neg c54] at H;have c54b0:(t948==t941 && (t949==t942))=false:=by simpa using c54
          (try (have c54b1:decide (t948=t941 && (t949==t942))=false:=by simpa using c54))
          (try (have c54b2:(t948==t941 && (t949==t942))=false:=by simpa using c54))
          (try (have c54b3:¬ (t948=t941 && (t949==t942)):=by simpa using c54))
          clear c54;have H':=Aside0.mk H;clear H;obtain⟨Ao71,co71,eo71⟩:=Kd.R_slice HO_8.out;subst eo71
          try go_wp2
          replace HO_5:=a0_ (Kd.R_drew HO_5.out);replace HO_8:=a0_ (Kd.R_drew HO_8.out);replace HO_929000:=a0_ (Kd.R_drew HO_929000.out);replace HO_929001:=a0_ (Kd.N_drew HO_929001.out);replace BK928:=a0_ (blk_drew BK928.out);replace BK929:=a0_ (blk_drew BK929.out);replace BK943:=a0_ (blk_drew BK943.out);replace HB:=a0_ (below_drew1 HB.out);have p947:0≤(x9_2:Int):=od_;have q947:x9_2<(t944.length:Int):=od_;obtain⟨ad947,e947,hx947_0,hx947_1,hx947_2,hx947_3⟩:=at_T61 (Kd.R_reads' HO_8.out).2.2 x9_2 p947 q947;cases e947;replace p947:=eq_true p947;replace q947:=eq_true q947;refine start_ (n:=8) (S:=fun w'=>w'.cell? ⟨gb929,0,none⟩=some (.int .i64 t926)∧w'.cell? ⟨gb929,1,none⟩=some (.int .i64 t927)∧w'.cell? ⟨gb943,0,none⟩=some (.int .i64 t941)∧w'.cell? ⟨gb943,1,none⟩=some (.int .i64 t942)∧w'.cell? (ad947.add ((x9_2).toNat*4))=some (.int .i64 ((rd_T61 t944 x9_2).f0.f0))∧w'.cell? ⟨(ad947.add ((x9_2).toNat*4)).block,(ad947.add ((x9_2).toNat*4)).off+1,none⟩=some (.int .i64 ((rd_T61 t944 x9_2).f0.f1))∧w'.cell? ⟨(ad947.add ((x9_2).toNat*4)).block,(ad947.add ((x9_2).toNat*4)).off+2,none⟩=some (.int .i64 ((rd_T61 t944 x9_2).f1.f0))∧w'.cell? ⟨(ad947.add ((x9_2).toNat*4)).block,(ad947.add ((x9_2).toNat*4)).off+3,none⟩=some (.int .i64 ((rd_T61 t944 x9_2).f1.f1))) (ds:=[]) (Array.replicate 8 false) (by kernel_rfl) rfl rfl ⟨bc_,bc_,bc_,bc_,hx947_0,hx947_1,hx947_2,hx947_3⟩ (fun hHeld=>?_);refine with_tabW laws_FnPlateNear.tab13 laws_FnPlateNear.bits13 (fun HT_ HW_=>?_);generalize wr.drew=w72 at HO_5 HO_8 HO_929000 HO_929001 BK928 BK929 BK943 HB hx947_0 hx947_1 hx947_2 hx947_3 hHeld ⊢
          refine pu_ HT_ 0 48 (bm 8 1) ?_;refine pu_ HT_ 1 49 (bm 8 3) ?_;refine pu_ HT_ 2 50 (bm 8 7) ?_;refine ta8_ HT_ HW_ 3 51 (bm 8 15) hHeld ?_;refine ta8_ HT_ HW_ 4 52 (bm 8 31) hHeld ?_;refine ta8_ HT_ HW_ 6 54 (bm 8 95) hHeld ?_;refine one_ (i:=5) (N:=some 53) (bm 8 127) rfl rfl (one_of HT_.out (by kernel_rfl)) (by decide) (fun K hK=>?_);refine goes_ Tryd.func37 (by kernel_rfl) rfl #[.agg #[.int .i64 ((rd_T61 t944 x9_2).f0.f0),.int .i64 ((rd_T61 t944 x9_2).f0.f1),.int .i64 ((rd_T61 t944 x9_2).f1.f0),.int .i64 ((rd_T61 t944 x9_2).f1.f1)],.agg #[.int .i64 t926,.int .i64 t927]] (by rfl) rfl rfl ma_ ?_
          with_reducible refine (impl_SegFar.calls ((rd_T61 t944 x9_2).f0.f0) ((rd_T61 t944 x9_2).f0.f1) ((rd_T61 t944 x9_2).f1.f0) ((rd_T61 t944 x9_2).f1.f1) t926 t927 t948 t949 _ A53.out).mono ?_
          rintro e w73 ⟨rfl,hb⟩;have HS4_:=pw_cell_below hb hHeld.2.2.2.2.1;have HS5_:=pw_cell_below hb hHeld.2.2.2.2.2.1;have HS6_:=pw_cell_below hb hHeld.2.2.2.2.2.2.1;have HS7_:=pw_cell_below hb hHeld.2.2.2.2.2.2.2;refine⟨_,rfl,?_⟩;replace HO_5:=rb_ HO_5 hb;replace HO_8:=rb_ HO_8 hb;replace HO_929000:=rb_ HO_929000 hb;replace HO_929001:=nb_ HO_929001 hb;replace BK928:=vb_ BK928 hb;replace BK929:=vb_ BK929 hb;replace BK943:=vb_ BK943 hb;replace HB:=sb_ HB hb
          (try clear hb)
          (try clear hb2)
          (try clear hk)
          (try clear hi)
          refine hK.out _ _ ⟨bc_,bc_,bc_,bc_,HS4_,HS5_,HS6_,HS7_⟩ (fun hHeld=>?_);clear hK K;refine no_ (h:=?_);refine pu_ HT_ 7 55 (bm 8 255) ?_;refine done_ (done_of HT_.out (by kernel_rfl)) ?_
          try go_wp2
          go_roundg k2
          case measure=>have:=HJ4.out;have:=HK2.out;omega
          case rel=>exact⟨(x6_2),(wrap64 (x9_2+1)),(by first | rfl | (simp;done) | (simp [*];done)),(by first | rfl | (simp;done) | (simp [*];done)),H',⟨by have:=HJ4.out;have:=HK2.out;omega⟩,⟨by (with_reducible repeat (first | apply Kd.R_alloc | apply Kd.R_drewN | apply Kd.R_drew));exact HO_5.out⟩,⟨by (with_reducible repeat (first | apply Kd.R_alloc | apply Kd.R_drewN | apply Kd.R_drew));exact HO_8.out⟩,⟨by (with_reducible repeat (first | apply Kd.R_alloc | apply Kd.R_drewN | apply Kd.R_drew));exact HO_929000.out⟩,⟨by (with_reducible repeat (first | apply Kd.N_alloc | apply Kd.N_drewN | apply Kd.N_drew));exact HO_929001.out⟩,⟨uq_⟩,⟨uq_⟩,⟨uq_⟩,⟨hB_⟩⟩
        ·
         rw [if_neg c52] at H;exact absurd H (by simp)
       ·
        rw [if_neg c51] at H;have c51b0:decide (x9_2<(t944.length:Int))=false:=decide_eq_false c51;clear c51;obtain rfl:=Option.some.inj H;obtain⟨Ao74,co74,eo74⟩:=Kd.R_slice HO_8.out;subst eo74;obtain⟨Ao75,co75,eo75⟩:=Kd.R_slice HO_5.out;subst eo75;go_wp2;go_ret;exact⟨rr_,hB_⟩
def laws_FnPlateNear.Pure:Prop:=∀ (l0:List Int),l0.length≤maxLen→l0.length*1≤140737488351232→(∀ x∈l0,(Lit.int .u8 x).wf=true)→∃ k,laws_FnPlateNear.f k l0=some true
theorem laws_FnPlateNear.walk (P:laws_FnPlateNear.Pure)(a0:Option Addr)(len0 cap0:Nat)(z0:List Int)(w:World)(hE:ErrW w)(w0:(a0=none∧len0=0∧cap0=0∧z0=[])∨∃ x,a0=some x∧len0≤cap0∧cap0≤maxLen∧z0.length=cap0∧(∀ i,i<z0.length→w.cell? (x.add i)=some (.int .u8 (z0.getD i 0)))∧∀ n∈z0,(Lit.int .u8 n).wf=true)(y0:len0*1≤140737488351232):
  Calls Tryd.prog 12 #[.slice a0 len0 cap0] w fun e w'=>e=.returned (.bool true)∧Below w.heap.size w w':=by
 obtain⟨l0,rfl,hr0,hm0,hw0,hc0⟩:=ReadsInt.ofRowC w0;obtain⟨k,h⟩:=P l0 hm0 y0 hw0;refine (laws_FnPlateNear.calls k _ _ l0 true w (Kd.C_of_reads (d:=(0:Int)) (h1:=fun _=>rfl) hr0) hc0 hE h).mono ?_;rintro e w' ⟨rfl,hd⟩;exact⟨rfl,hd⟩
end Go.Proofs.YtkefmnmoaomlhaaDoor.X
end
section
set_option linter.unusedVariables false
set_option linter.unusedSimpArgs false
namespace Go.Proofs.YtkefmnmoaomlhaaDoor.X
open Go.RowKit Go.Proofs.YtkefmnmoaomlhaaDoorW.PrintWords Go.Proofs.YtkefmnmoaomlhaaDoorW.PrintLast Go.Proofs.YtkefmnmoaomlhaaDoorW.PrintMore
open Mort (edges loopOk ptOk segOk has meet ed pairOk joined apartB)
theorem rd_es (z:List S28){i:Nat}(h:i<z.length):rd_T61 (esOf z) (i:Int)=edS z i:=esOf_getD z h
theorem seg_ends {s:S61}(h:segOk (sgP s)=true):ptOk (s.f0.f0,s.f0.f1)=true∧ptOk (s.f1.f0,s.f1.f1)=true:=⟨((Mort.segOk_iff _).1 h).1,((Mort.segOk_iff _).1 h).2.1⟩
theorem sHasS {s:S61}{x y:Int}(h:segOk (sgP s)=true)(hp:ptOk (x,y)=true):spec_l2Has.f s.f0.f0 s.f0.f1 s.f1.f0 s.f1.f1 x y=some (has (sgP s) (x,y)):=sHas (seg_ends h).1 (seg_ends h).2 hp
theorem sMeetS {s t:S61}(h:segOk (sgP s)=true)(h':segOk (sgP t)=true):spec_l2Meet.f s.f0.f0 s.f0.f1 s.f1.f0 s.f1.f1 t.f0.f0 t.f0.f1 t.f1.f0 t.f1.f1=some (meet (sgP s) (sgP t)):=sMeet (seg_ends h).1 (seg_ends h).2 (seg_ends h').1 (seg_ends h').2
theorem succ64 {i:Nat}(h:i≤100000):wrap64 ((i:Int)+1)=((i+1:Nat):Int):=by rw [w64i (by omega) (by omega)];rfl
def rowJ (l:List Mort.Pt)(i j:Nat):Bool:=decide ((j+1) % l.length=i) || !meet (ed l i) (ed l j)
def rowI (l:List Mort.Pt)(i:Nat):Bool:=joined (ed l i) (ed l ((i+1) % l.length)) && (List.range' (i+2) (l.length-(i+2))).all (rowJ l i)
section
variable (z:List S28) (h8:z.length≤8) (hall:∀ i,i<z.length→segOk (sgP (edS z i))=true)
include h8 hall
theorem loop_l2 (i:Nat)(hi:i<z.length)(R:Bool)(K:Nat)(hR:∀ k,K≤k→spec_LoopOk.l1 k (z.length:Int) (esOf z) ((i+1:Nat):Int)=some R):
  ∀ (m j k:Nat),z.length-j=m→j≤10→K+m+1≤k→spec_LoopOk.l2 k (z.length:Int) (esOf z) (i:Int) (j:Int)=some ((List.range' j m).all (rowJ (z.map ptP) i) && R):=by
 intro m
 induction m with
 | zero =>
  intro j k hm hj hk;obtain⟨k,rfl⟩:∃ q,k=q+1:=⟨k-1,by omega⟩;simp only [spec_LoopOk.l2];rw [if_neg (by omega),succ64 (by omega),hR k (by omega)];simp
 | succ m ih =>
  intro j k hm hj hk;obtain⟨k,rfl⟩:∃ q,k=q+1:=⟨k-1,by omega⟩;simp only [spec_LoopOk.l2];rw [if_pos (by omega),if_neg (by omega),succ64 (by omega)];have ht:Int.tmod ((j+1:Nat):Int) (z.length:Int)=(((j+1) % z.length:Nat):Int):=rfl;rw [ht,List.range'_succ,List.all_cons];by_cases hq:(j+1) % z.length=i
  ·
   rw [if_pos (by omega),ih (j+1) k (by omega) (by omega) (by omega)];have:rowJ (z.map ptP) i j=true:=by unfold rowJ;rw [List.length_map,decide_eq_true hq];rfl
   rw [this,Bool.true_and]
  ·
   rw [if_neg (by omega),if_pos (by omega),if_pos (by rw [esOf_len];omega),if_pos (by omega),if_pos (by rw [esOf_len];omega)];rw [rd_es z hi,rd_es z (by omega),sMeetS (hall i hi) (hall j (by omega)),Option.bind_some];have hrow:rowJ (z.map ptP) i j = !meet (sgP (edS z i)) (sgP (edS z j)):=by unfold rowJ;rw [List.length_map,decide_eq_false hq,ed_edS,ed_edS];rfl
   rw [hrow]
   cases hm2:meet (sgP (edS z i)) (sgP (edS z j)) with
   | true=>rw [if_pos rfl];simp
   | false=>rw [if_neg (by decide),ih (j+1) k (by omega) (by omega) (by omega)];simp
theorem loop_l1:∀ (m i k:Nat),z.length-i=m→i≤z.length→m*20+1≤k→spec_LoopOk.l1 k (z.length:Int) (esOf z) (i:Int)=some ((List.range' i m).all (rowI (z.map ptP))):=by
 intro m
 induction m with
 | zero =>
  intro i k hm hi hk;obtain⟨k,rfl⟩:∃ q,k=q+1:=⟨k-1,by omega⟩;simp only [spec_LoopOk.l1];rw [if_neg (by omega)];simp
 | succ m ih =>
  intro i k hm hi hk;obtain⟨k,rfl⟩:∃ q,k=q+2:=⟨k-2,by omega⟩;simp only [spec_LoopOk.l1];have hlt:=Nat.mod_lt (i+1) (show 0<z.length by omega);have ht:Int.tmod ((i+1:Nat):Int) (z.length:Int)=(((i+1) % z.length:Nat):Int):=rfl;rw [if_pos (by omega),if_pos (by omega),if_pos (by rw [esOf_len];omega),if_neg (by omega),succ64 (by omega),ht,if_pos (by omega),if_pos (by rw [esOf_len];omega)];rw [rd_es z (by omega:i<z.length),rd_es z hlt];generalize hq:(i+1) % z.length=q at hlt;have o1:=hall i (by omega);have o2:=hall q hlt;rw [sHasS o1 (seg_ends o2).2,Option.bind_some,sHasS o2 (seg_ends o1).1,Option.bind_some];have hrow:rowI (z.map ptP) i=((!has (sgP (edS z i)) (sgP (edS z q)).2 && !has (sgP (edS z q)) (sgP (edS z i)).1) && (List.range' (i+2) (z.length-(i+2))).all (rowJ (z.map ptP) i)):=by
   unfold rowI joined;rw [List.length_map,hq,ed_edS,ed_edS]
  have e2:(ptP (edS z q).f1)=((edS z q).f1.f0,(edS z q).f1.f1):=rfl;rw [List.range'_succ,List.all_cons,hrow]
  show (if has (sgP (edS z i)) (sgP (edS z q)).2=true then _ else spec_LoopOk.j2 (k+1) _ _ _ (has (sgP (edS z q)) (sgP (edS z i)).1))=_
  cases has (sgP (edS z i)) (sgP (edS z q)).2 with
  | true=>rw [if_pos rfl];simp only [spec_LoopOk.j2];simp
  | false =>
   rw [if_neg (by decide)];simp only [spec_LoopOk.j2]
   cases has (sgP (edS z q)) (sgP (edS z i)).1 with
   | true=>rw [if_pos rfl];simp
   | false =>
    rw [if_neg (by decide)];have hw:wrap64 ((i:Int)+2)=((i+2:Nat):Int):=by rw [w64i (by omega) (by omega)];rfl
    rw [hw,loop_l2 z h8 hall i (by omega) _ (m*20+1) (fun k hk=>ih (i+1) k (by omega) (by omega) hk) (z.length-(i+2)) (i+2) k rfl (by omega) (by omega)];simp
end
theorem loop_l0 (z:List S28)(h8:z.length≤8):∀ (m i k:Nat),z.length-i=m→i≤z.length→m+200≤k→(∀ j,j<i→segOk (sgP (edS z j))=true) →
  spec_LoopOk.l0 k (z.length:Int) (esOf z) (i:Int)=some ((List.range' i m).all (fun j=>segOk (sgP (edS z j))) && (List.range' 0 z.length).all (rowI (z.map ptP))):=by
 intro m
 induction m with
 | zero =>
  intro i k hm hi hk hp;obtain⟨k,rfl⟩:∃ q,k=q+1:=⟨k-1,by omega⟩;simp only [spec_LoopOk.l0];rw [if_neg (by omega),show (0:Int)=((0:Nat):Int) from rfl,loop_l1 z h8 (fun j hj=>hp j (by omega)) z.length 0 k (by omega) (by omega) (by omega)];simp
 | succ m ih =>
  intro i k hm hi hk hp;obtain⟨k,rfl⟩:∃ q,k=q+1:=⟨k-1,by omega⟩;simp only [spec_LoopOk.l0];rw [if_pos (by omega),if_pos (by omega),if_pos (by rw [esOf_len];omega),rd_es z (by omega:i<z.length),sSegOk,Option.bind_some,List.range'_succ,List.all_cons]
  show (if segOk (sgP (edS z i))=true then _ else _)=_
  cases ho:segOk (sgP (edS z i)) with
  | true =>
   rw [if_pos rfl,succ64 (by omega),ih (i+1) k (by omega) (by omega) (by omega) (fun j hj=>by
    by_cases hji:j=i
    ·
     rw [hji];exact ho
    ·
     exact hp j (by omega))]
   simp
  | false=>rw [if_neg (by decide)];simp
theorem rows_pairs (l:List Mort.Pt)(h3:3≤l.length):(List.range' 0 l.length).all (rowI l)=(List.range l.length).all fun i=>(List.range l.length).all fun j=>pairOk l i j:=by
 rw [Bool.eq_iff_iff];simp only [List.all_eq_true,List.mem_range'_1,List.mem_range];constructor
 ·
  intro h i hi j hj;have row:∀ i,i<l.length→joined (ed l i) (ed l ((i+1) % l.length))=true∧∀ j,i+2≤j→j<l.length→rowJ l i j=true:=fun i hi=>by
   have:=h i ⟨by omega,by omega⟩;unfold rowI at this;simp only [Bool.and_eq_true,List.all_eq_true,List.mem_range'_1] at this;exact⟨this.1,fun j h1 h2=>this.2 j ⟨h1,by omega⟩⟩
  unfold pairOk;by_cases h1:j≤i
  ·
   rw [if_pos h1]
  ·
   rw [if_neg h1];by_cases h2:j=i+1
   ·
    rw [if_pos h2];have:=(row i hi).1
    rwa [Nat.mod_eq_of_lt (by omega),← h2] at this
   ·
    rw [if_neg h2];by_cases h4:i=0∧j+1=l.length
    ·
     rw [if_pos h4];have:=(row j hj).1
     rwa [h4.2,Nat.mod_self,← h4.1] at this
    ·
     rw [if_neg h4];have:=(row i hi).2 j (by omega) hj;unfold rowJ at this;have hne:(j+1) % l.length≠i:=by
      intro e;by_cases hj2:j+1<l.length
      ·
       rw [Nat.mod_eq_of_lt hj2] at e;omega
      ·
       have e2:j+1=l.length:=by omega
       rw [e2,Nat.mod_self] at e;exact h4 ⟨e.symm,e2⟩
     rwa [decide_eq_false hne,Bool.false_or] at this
 ·
  intro h i hi;have hi2:i<l.length:=by omega
  unfold rowI;simp only [Bool.and_eq_true,List.all_eq_true,List.mem_range'_1];refine⟨?_,fun j hj=>?_⟩
  ·
   by_cases h1:i+1<l.length
   ·
    have:=h i hi2 (i+1) h1;unfold pairOk at this;rw [if_neg (by omega),if_pos rfl] at this
    rwa [Nat.mod_eq_of_lt h1]
   ·
    have e2:i+1=l.length:=by omega
    have:=h 0 (by omega) i hi2;unfold pairOk at this;rw [if_neg (by omega),if_neg (by omega),if_pos ⟨rfl,e2⟩] at this
    rwa [e2,Nat.mod_self]
  ·
   unfold rowJ;by_cases hq:(j+1) % l.length=i
   ·
    rw [decide_eq_true hq];rfl
   ·
    rw [decide_eq_false hq,Bool.false_or];have:=h i hi2 j (by omega);unfold pairOk at this;rw [if_neg (by omega),if_neg (by omega),if_neg (fun e=>hq (by rw [e.2,Nat.mod_self];exact e.1.symm))] at this;exact this
theorem sLoopOk {k:Nat}(hk:300≤k)(z:List S28):spec_LoopOk.f k z=some (loopOk (z.map ptP)):=by
 unfold spec_LoopOk.f loopOk;rw [l6In_told,Option.bind_some,List.length_map];have e0:(decide (3≤(z.length:Int)) && decide ((z.length:Int)≤8))=(decide (3≤z.length) && decide (z.length≤8)):=by
  congr 1
  ·
   rw [decide_eq_decide];omega
  ·
   rw [decide_eq_decide];omega
 rw [e0];by_cases hn:3≤z.length∧z.length≤8
 ·
  rw [decide_eq_true hn.1,decide_eq_true hn.2,Bool.and_self,if_pos rfl,sEdges (by omega) (by omega),Option.bind_some,Bool.true_and,show (0:Int)=((0:Nat):Int) from rfl,loop_l0 z hn.2 z.length 0 k (by omega) (by omega) (by omega) (fun j hj=>by omega)];have h3:=rows_pairs (z.map ptP) (by rw [List.length_map];exact hn.1);rw [List.length_map] at h3;rw [h3,Mort.edges_eq,List.length_map,List.all_map,List.range_eq_range']
  congr 3
  funext i
  show _=segOk (ed (z.map ptP) i)
  rw [ed_edS]
 ·
  have:(decide (3≤z.length) && decide (z.length≤8))=false:=by
   by_cases h1:3≤z.length
   ·
    rw [decide_eq_false (show ¬ z.length≤8 from fun h2=>hn ⟨h1,h2⟩),Bool.and_false]
   ·
    rw [decide_eq_false h1,Bool.false_and]
  rw [this,if_neg (by decide),Bool.false_and]
theorem ok_facts {z:List S28}(h:loopOk (z.map ptP)=true):3≤z.length∧z.length≤8∧∀ i,i<z.length→segOk (sgP (edS z i))=true:=by
 obtain⟨h1,h2,h3,_⟩:=(Mort.loopOk_iff _).1 h;rw [List.length_map] at h1 h2;refine⟨h1,h2,fun i hi=>?_⟩;have:=h3 _ (Mort.mem_edges.2 ⟨i,by simpa using hi,rfl⟩)
 rwa [ed_edS] at this
theorem apart_l1 (a b:List S28)(ha:loopOk (a.map ptP)=true)(hb:loopOk (b.map ptP)=true)(i:Nat)(hi:i<a.length)(R:Bool)(K:Nat)(hR:∀ k,K≤k→spec_l11Apart.l0 k (esOf a) (esOf b) ((i+1:Nat):Int)=some R):
  ∀ (m j k:Nat),b.length-j=m→j≤b.length→K+m+1≤k→spec_l11Apart.l1 k (esOf a) (esOf b) (i:Int) (j:Int)=some ((List.range' j m).all (fun j => !meet (sgP (edS a i)) (sgP (edS b j))) && R):=by
 obtain⟨a3,a8,aok⟩:=ok_facts ha;obtain⟨b3,b8,bok⟩:=ok_facts hb;intro m
 induction m with
 | zero =>
  intro j k hm hj hk;obtain⟨k,rfl⟩:∃ q,k=q+1:=⟨k-1,by omega⟩;simp only [spec_l11Apart.l1];rw [if_neg (by rw [esOf_len];omega),succ64 (by omega),hR k (by omega)];simp
 | succ m ih =>
  intro j k hm hj hk;obtain⟨k,rfl⟩:∃ q,k=q+1:=⟨k-1,by omega⟩;simp only [spec_l11Apart.l1];rw [if_pos (by rw [esOf_len];omega),if_pos (by omega),if_pos (by rw [esOf_len];omega),if_pos (by omega),rd_es a hi,rd_es b (by omega),sMeetS (aok i hi) (bok j (by omega)),Option.bind_some,List.range'_succ,List.all_cons]
  cases meet (sgP (edS a i)) (sgP (edS b j)) with
  | true=>rw [if_pos rfl];simp
  | false=>rw [if_neg (by decide),succ64 (by omega),ih (j+1) k (by omega) (by omega) (by omega)];simp
theorem apart_l0 (a b:List S28)(ha:loopOk (a.map ptP)=true)(hb:loopOk (b.map ptP)=true):
  ∀ (m i k:Nat),a.length-i=m→i≤a.length→m*20+1≤k→spec_l11Apart.l0 k (esOf a) (esOf b) (i:Int)=some ((List.range' i m).all (fun i=>(List.range' 0 b.length).all (fun j => !meet (sgP (edS a i)) (sgP (edS b j))))):=by
 obtain⟨a3,a8,aok⟩:=ok_facts ha;obtain⟨b3,b8,bok⟩:=ok_facts hb;intro m
 induction m with
 | zero =>
  intro i k hm hi hk;obtain⟨k,rfl⟩:∃ q,k=q+1:=⟨k-1,by omega⟩;simp only [spec_l11Apart.l0];rw [if_neg (by rw [esOf_len];omega)];simp
 | succ m ih =>
  intro i k hm hi hk;obtain⟨k,rfl⟩:∃ q,k=q+1:=⟨k-1,by omega⟩;simp only [spec_l11Apart.l0]
  rw [if_pos (by rw [esOf_len];omega),List.range'_succ,List.all_cons,show (0:Int)=((0:Nat):Int) from rfl,
   apart_l1 a b ha hb i (by omega) _ (m*20+1) (fun k hk=>ih (i+1) k (by omega) (by omega) hk) b.length 0 k (by omega) (by omega) (by omega)]
theorem sApart {k:Nat}(hk:300≤k){a b:List S28}(ha:loopOk (a.map ptP)=true)(hb:loopOk (b.map ptP)=true):spec_l11Apart.f k a b=some (apartB (a.map ptP) (b.map ptP)):=by
 obtain⟨a3,a8,aok⟩:=ok_facts ha;obtain⟨b3,b8,bok⟩:=ok_facts hb;unfold spec_l11Apart.f apartB;rw [sEdges (by omega) (by omega),sEdges (by omega) (by omega),Option.bind_some,Option.bind_some,show (0:Int)=((0:Nat):Int) from rfl,apart_l0 a b ha hb a.length 0 k (by omega) (by omega) (by omega)];rw [Mort.edges_eq (a.map ptP),Mort.edges_eq (b.map ptP),List.length_map,List.length_map,List.all_map,List.range_eq_range']
 congr 2
 funext i
 show _=((List.range b.length).map (ed (b.map ptP))).all _
 rw [List.all_map,List.range_eq_range']
 congr 1
 funext j
 show _ = !meet (ed (a.map ptP) i) (ed (b.map ptP) j)
 rw [ed_edS,ed_edS]
end Go.Proofs.YtkefmnmoaomlhaaDoor.X
end
section
set_option linter.unusedVariables false
set_option linter.unusedSimpArgs false
namespace Mort
end Mort
namespace Go.Proofs.YtkefmnmoaomlhaaDoor.X
open Go.RowKit Go.Proofs.YtkefmnmoaomlhaaDoorW.PrintWords Go.Proofs.YtkefmnmoaomlhaaDoorW.PrintLast Go.Proofs.YtkefmnmoaomlhaaDoorW.PrintMore
open Mort (edges loopOk ptOk segOk has meet ed pairOk joined apartB plateOk PlateGood inOf segMeet)
def pl (o:List S28)(H:List (List S28)):Mort.Plate:=(o.map ptP,H.map (List.map ptP))
theorem fst_pt (z:List S28):(z.map ptP).getD 0 (0,0)=fstP z:=ptP_getD z 0
theorem apart_ix (a b:List S28):apartB (a.map ptP) (b.map ptP)=true ↔ ∀ i,i<a.length→∀ j,j<b.length→meet (sgP (edS a i)) (sgP (edS b j))=false:=by
 rw [Mort.apartB_iff];constructor
 ·
  intro h i hi j hj;rw [← ed_edS,← ed_edS];exact h _ (Mort.mem_edges.2 ⟨i,by simpa using hi,rfl⟩) _ (Mort.mem_edges.2 ⟨j,by simpa using hj,rfl⟩)
 ·
  intro h e he f hf;obtain⟨i,hi,rfl⟩:=Mort.mem_edges.1 he;obtain⟨j,hj,rfl⟩:=Mort.mem_edges.1 hf;rw [ed_edS,ed_edS];exact h i (by simpa using hi) j (by simpa using hj)
theorem meetsB_eq {a b:List S28}(ha:loopOk (a.map ptP)=true)(hb:loopOk (b.map ptP)=true):(!meetsB a b)=apartB (a.map ptP) (b.map ptP):=by
 obtain⟨_,_,aok⟩:=ok_facts ha;obtain⟨_,_,bok⟩:=ok_facts hb;rw [Bool.eq_iff_iff,apart_ix];unfold meetsB;rw [Bool.not_eq_true',List.any_eq_false];constructor
 ·
  intro h i hi j hj;have h1:=h ⟨i,hi⟩ (List.mem_finRange _);rw [Bool.not_eq_true,List.any_eq_false] at h1;have h2:=h1 ⟨j,hj⟩ (List.mem_finRange _)
  cases hm:meet (sgP (edS a i)) (sgP (edS b j)) with
  | false=>rfl
  | true=>exact absurd ((Mort.segMeet_iff _ _).2 ⟨aok i hi,bok j hj,hm⟩) h2
 ·
  intro h i _ h1;rw [List.any_eq_true] at h1;obtain⟨j,_,h2⟩:=h1;have:=h i i.2 j j.2;rw [((Mort.segMeet_iff _ _).1 h2).2.2] at this;cases this
theorem iBodyOk (o:List S28)(H:List (List S28)):bodyOkB o H=plateOk (pl o H):=by
 unfold bodyOkB plateOk pl Mort.nested;simp only [List.length_map]
 match H with
 | [] =>
  simp only [List.length_nil,List.all_nil,List.map_nil,apartAll,nestedAll,List.range'_zero,Bool.and_true,Bool.true_and]
 | [a] =>
  simp only [List.length_cons,List.length_nil,List.all_cons,List.all_nil,List.map_cons,List.map_nil,apartAll,nestedAll,List.range'_succ,List.range'_zero,rowN,okN,Bool.and_true,Bool.true_and,fst_pt,inS,List.getD_cons_zero,beq_self_eq_true,Bool.true_or];cases ho:loopOk (o.map ptP) <;> cases ha:loopOk (a.map ptP) <;> try rfl
  rw [meetsB_eq ho ha];simp [Nat.zero_le]
 | [a,b] =>
  simp only [List.length_cons,List.length_nil,List.all_cons,List.all_nil,List.map_cons,List.map_nil,apartAll,nestedAll,List.range'_succ,List.range'_zero,rowN,okN,Bool.and_true,Bool.true_and,fst_pt,inS,List.getD_cons_zero,List.getD_cons_succ,beq_self_eq_true,Bool.true_or];cases ho:loopOk (o.map ptP) <;> cases ha:loopOk (a.map ptP) <;> cases hb:loopOk (b.map ptP) <;> try rfl
  rw [meetsB_eq ho ha,meetsB_eq ho hb,meetsB_eq ha hb];generalize apartB (o.map ptP) (a.map ptP)=t1;generalize apartB (o.map ptP) (b.map ptP)=t2;generalize apartB (a.map ptP) (b.map ptP)=t3;generalize (inOf (o.map ptP) (fstP a)==1)=t4;generalize (inOf (o.map ptP) (fstP b)==1)=t5;generalize (inOf (b.map ptP) (fstP a) == -1)=t6;generalize (inOf (a.map ptP) (fstP b) == -1)=t7;cases t1 <;> cases t2 <;> cases t3 <;> cases t4 <;> cases t5 <;> cases t6 <;> cases t7 <;> rfl
 | a::b::c::r =>
  rw [decide_eq_false (by simp only [List.length_cons];omega)];rfl
theorem good_of {o:List S28}{H:List (List S28)}(h:plateOk (pl o H)=true):PlateGood (pl o H):=(Mort.plateOk_iff _).1 h
end Go.Proofs.YtkefmnmoaomlhaaDoor.X
end
section
set_option linter.unusedVariables false
set_option linter.unusedSimpArgs false
namespace Go.Proofs.YtkefmnmoaomlhaaDoor.X
open Go.RowKit Go.Proofs.YtkefmnmoaomlhaaDoorW.PrintWords Go.Proofs.YtkefmnmoaomlhaaDoorW.PrintLast Go.Proofs.YtkefmnmoaomlhaaDoorW.PrintMore
open Mort (edges loopOk ptOk segOk has meet ed pairOk joined apartB plateOk PlateGood inOf segMeet)
theorem fst_ok {z:List S28}(h:loopOk (z.map ptP)=true):ptOk ((rd_T28 z 0).f0,(rd_T28 z 0).f1)=true:=by
 obtain⟨h3,_,hok⟩:=ok_facts h;exact (seg_ends (hok 0 (by omega))).1
theorem sL3In {z:List S28}{x y:Int}(h:loopOk (z.map ptP)=true)(hp:ptOk (x,y)=true):spec_l3In.f z x y=some (inOf (z.map ptP) (x,y)):=by
 unfold spec_l3In.f;rw [if_pos ⟨h,hp⟩]
theorem sL3Fst {z a:List S28}(h:loopOk (z.map ptP)=true)(ha:loopOk (a.map ptP)=true):spec_l3In.f z (rd_T28 a 0).f0 (rd_T28 a 0).f1=some (inOf (z.map ptP) (fstP a)):=sL3In h (fst_ok ha)
def holeOk (o a:List S28):Bool:=loopOk (a.map ptP) && (inOf (o.map ptP) (fstP a)==1 && apartB (o.map ptP) (a.map ptP))
def pairH (a b:List S28):Bool:=apartB (a.map ptP) (b.map ptP) && (inOf (b.map ptP) (fstP a) == -1 && inOf (a.map ptP) (fstP b) == -1)
theorem plate_hole {o:List S28}{H:List (List S28)}(ho:loopOk (o.map ptP)=true)(i:Nat)(hi:i<H.length){k:Nat}(hk:300≤k):
  spec_PlateOk.l0 (k+2) (i:Int) o H=if holeOk o (rd_L5 H (i:Int)) then spec_PlateOk.l1 k (i:Int) (rd_L5 H (i:Int)) 0 o H else some false:=by
 simp only [spec_PlateOk.l0];rw [if_pos (by omega),if_pos (by omega),sLoopOk (by omega),Option.bind_some];generalize rd_L5 H (i:Int)=a;unfold holeOk
 cases ha:loopOk (a.map ptP) with
 | false=>rw [if_neg (by decide)];simp only [spec_PlateOk.j2];simp
 | true =>
  obtain⟨h3,_,_⟩:=ok_facts ha;rw [if_pos rfl,if_pos (by omega),sL3Fst ho ha,Option.bind_some];by_cases h1:inOf (o.map ptP) (fstP a)=1
  ·
   rw [if_pos h1,sApart (by omega) ho ha,Option.bind_some];simp only [spec_PlateOk.j2];rw [h1];cases apartB (o.map ptP) (a.map ptP) <;> simp
  ·
   rw [if_neg h1,beq_eq_false_iff_ne.2 h1];simp only [spec_PlateOk.j2];simp
theorem sPlateOk {k:Nat}(hk:1000≤k)(o:List S28)(H:List (List S28)):spec_PlateOk.f k o H=some (plateOk (pl o H)):=by
 unfold spec_PlateOk.f;rw [sLoopOk (by omega),Option.bind_some];obtain⟨k,rfl⟩:∃ q,k=q+10:=⟨k-10,by omega⟩
 cases ho:loopOk (o.map ptP) with
 | false =>
  rw [if_neg (by decide)];simp only [spec_PlateOk.j0];unfold plateOk pl;simp only;rw [ho];simp
 | true =>
  rw [if_pos rfl];by_cases h2:H.length≤2
  ·
   rw [decide_eq_false (by omega)];simp only [spec_PlateOk.j0];rw [if_neg (by decide)];unfold plateOk pl Mort.nested;simp only [List.length_map];rw [ho,decide_eq_true h2]
   match H,h2 with
   | [],_=>simp only [spec_PlateOk.l0];simp
   | [a],_ =>
    refine Eq.trans (show spec_PlateOk.l0 (k+9) 0 o [a]=_ from plate_hole (k:=k+7) ho 0 (by simp) (by omega)) ?_;have e1:spec_PlateOk.l1 (k+7) ((0:Nat):Int) a 0 o [a]=some true:=by
     simp only [spec_PlateOk.l1];rw [if_neg (by omega),show wrap64 (((0:Nat):Int)+1)=1 by unfold wrap64;omega];simp only [spec_PlateOk.l0];rw [if_neg (by simp)]
    show (if holeOk o a then spec_PlateOk.l1 (k+7) ((0:Nat):Int) a 0 o [a] else _)=_
    rw [e1];unfold holeOk;simp only [List.map_cons,List.map_nil,List.all_cons,List.all_nil,Bool.and_true,Bool.true_and,fst_pt];generalize loopOk (a.map ptP)=t1;generalize (inOf (o.map ptP) (fstP a)==1)=t2;generalize apartB (o.map ptP) (a.map ptP)=t3;cases t1 <;> cases t2 <;> cases t3 <;> rfl
   | [a,b],_ =>
    refine Eq.trans (show spec_PlateOk.l0 (k+9) 0 o [a,b]=_ from plate_hole (k:=k+7) ho 0 (by simp) (by omega)) ?_;have e1:spec_PlateOk.l1 (k+7) ((0:Nat):Int) a 0 o [a,b]=if holeOk o b then spec_PlateOk.l1 (k+4) ((1:Nat):Int) b 0 o [a,b] else some false:=by
     simp only [spec_PlateOk.l1];rw [if_neg (by omega),show wrap64 (((0:Nat):Int)+1)=((1:Nat):Int) by unfold wrap64;omega,plate_hole (k:=k+4) ho 1 (by simp) (by omega)];rfl
    show (if holeOk o a then spec_PlateOk.l1 (k+7) ((0:Nat):Int) a 0 o [a,b] else _)=_
    rw [e1];have hp:holeOk o a=true→holeOk o b=true→spec_PlateOk.l1 (k+4) ((1:Nat):Int) b 0 o [a,b]=some (pairH b a):=by
     intro h1 h2;have ha:loopOk (a.map ptP)=true:=by unfold holeOk at h1;cases h:loopOk (a.map ptP) with | true=>rfl | false=>rw [h] at h1;cases h1
     have hb:loopOk (b.map ptP)=true:=by unfold holeOk at h2;cases h:loopOk (b.map ptP) with | true=>rfl | false=>rw [h] at h2;cases h2
     obtain⟨a3,_,_⟩:=ok_facts ha;obtain⟨b3,_,_⟩:=ok_facts hb;simp only [spec_PlateOk.l1];rw [if_pos (by omega),if_pos (by omega),if_pos (by simp)];rw [show rd_L5 [a,b] 0=a from rfl,sApart (by omega) hb ha,Option.bind_some];unfold pairH
     cases apartB (b.map ptP) (a.map ptP) with
     | false=>rw [if_neg (by decide)];rfl
     | true =>
      rw [if_pos rfl,if_pos (by omega),sL3Fst ha hb,Option.bind_some];by_cases e1:inOf (a.map ptP) (fstP b) = -1
      ·
       rw [if_pos e1,if_pos (by omega),sL3Fst hb ha,Option.bind_some,e1];by_cases e2:inOf (b.map ptP) (fstP a) = -1
       ·
        rw [if_pos e2,e2];have hw0:wrap64 (0+1)=1:=by unfold wrap64;omega
        rw [hw0,if_neg (by omega)];have hw2:wrap64 (((1:Nat):Int)+1)=2:=by unfold wrap64;omega
        rw [hw2];simp only [spec_PlateOk.l0];rw [if_neg (by simp)];rfl
       ·
        rw [if_neg e2,beq_eq_false_iff_ne.2 e2];rfl
      ·
       rw [if_neg e1,beq_eq_false_iff_ne.2 e1];rfl
    have hc:=Mort.apartB_comm (a.map ptP) (b.map ptP);simp only [List.map_cons,List.map_nil,List.all_cons,List.all_nil,Bool.and_true,Bool.true_and,fst_pt]
    cases h1:holeOk o a with
    | false =>
     rw [if_neg (by decide)];unfold holeOk at h1;revert h1;generalize loopOk (a.map ptP)=t1;generalize (inOf (o.map ptP) (fstP a)==1)=t2;generalize apartB (o.map ptP) (a.map ptP)=t3;intro h1;cases t1 <;> cases t2 <;> cases t3 <;> simp at h1 ⊢
    | true =>
     rw [if_pos rfl]
     cases h2:holeOk o b with
     | false =>
      rw [if_neg (by decide)];unfold holeOk at h2;revert h2;generalize loopOk (b.map ptP)=t1;generalize (inOf (o.map ptP) (fstP b)==1)=t2;generalize apartB (o.map ptP) (b.map ptP)=t3;intro h2;cases t1 <;> cases t2 <;> cases t3 <;> simp at h2 ⊢
     | true =>
      rw [if_pos rfl,hp h1 h2];unfold holeOk at h1 h2;unfold pairH;rw [hc];simp only [Bool.and_eq_true] at h1 h2;rw [h1.1,h1.2.1,h1.2.2,h2.1,h2.2.1,h2.2.2];generalize apartB (b.map ptP) (a.map ptP)=t1;generalize (inOf (b.map ptP) (fstP a) == -1)=t2;generalize (inOf (a.map ptP) (fstP b) == -1)=t3;cases t1 <;> cases t2 <;> cases t3 <;> rfl
  ·
   rw [decide_eq_true (by omega)];simp only [spec_PlateOk.j0];unfold plateOk pl;simp only [List.length_map];rw [decide_eq_false h2];simp
end Go.Proofs.YtkefmnmoaomlhaaDoor.X
end
section
set_option linter.unusedVariables false
set_option linter.unusedSimpArgs false
namespace Mort
def farL (es:List Seg)(p:Pt):Frac:=match es with
 | []=>(0,0)
 | e::r=>r.foldl (fun a s=>least a (segFar s p)) (segFar e p)
def plateFar (P:Plate)(p:Pt):Frac:=if plateOk P && ptOk p then farL (plateEdges P) p else (0,0)
def nearF (p:Pt)(f:Frac):Nat→List Seg→List Int
 | _,[]=>[]
 | i,s::r=>if segFar s p=f then (i:Int)::nearF p f (i+1) r else nearF p f (i+1) r
def plateNear (P:Plate)(p:Pt):List Int:=if plateOk P && ptOk p then nearF p (farL (plateEdges P) p) 0 (plateEdges P) else []
theorem fold_least {p:Pt}(hp:ptOk p=true):∀ (r:List Seg) (a:Frac),fracOk a=true→(∀ e∈r,segOk e=true) →
  fracOk (r.foldl (fun a s=>least a (segFar s p)) a)=true∧val (r.foldl (fun a s=>least a (segFar s p)) a)≤val a∧(∀ e∈r,val (r.foldl (fun a s=>least a (segFar s p)) a)≤val (segFar e p)) ∧
  (r.foldl (fun a s=>least a (segFar s p)) a=a∨∃ e∈r,r.foldl (fun a s=>least a (segFar s p)) a=segFar e p):=by
 intro r
 induction r with
 | nil=>intro a ha _;exact⟨ha,Rat.le_refl,fun e he=>by simp at he,.inl rfl⟩
 | cons s r ih =>
  intro a ha hr;have hs:=(segFar_ok (hr s List.mem_cons_self) hp).1;obtain⟨⟨l1,l2⟩,l3⟩:=val_least ha hs;obtain⟨i1,i2,i3,i4⟩:=ih (least a (segFar s p)) (least_ok ha hs) (fun e he=>hr e (List.mem_cons_of_mem _ he));rw [List.foldl_cons];refine⟨i1,Rat.le_trans i2 l1,fun e he=>?_,?_⟩
  ·
   rcases List.mem_cons.1 he with rfl | he
   ·
    exact Rat.le_trans i2 l2
   ·
    exact i3 e he
  ·
   rcases i4 with h | ⟨e,he,h⟩
   ·
    rw [h]
    rcases l3 with h3 | h3
    ·
     exact .inl h3
    ·
     exact .inr ⟨s,List.mem_cons_self,h3⟩
   ·
    exact .inr ⟨e,List.mem_cons_of_mem _ he,h⟩
theorem farL_spec {es:List Seg}{p:Pt}(hp:ptOk p=true)(hne:0<es.length)(hok:∀ e∈es,segOk e=true):
  fracOk (farL es p)=true∧(∀ e∈es,val (farL es p)≤val (segFar e p))∧∃ e∈es,farL es p=segFar e p:=by
 cases es with
 | nil=>simp at hne
 | cons e r =>
  obtain⟨i1,i2,i3,i4⟩:=fold_least hp r (segFar e p) (segFar_ok (hok e List.mem_cons_self) hp).1 (fun s hs=>hok s (List.mem_cons_of_mem _ hs));refine⟨i1,fun s hs=>?_,?_⟩
  ·
   rcases List.mem_cons.1 hs with rfl | hs
   ·
    exact i2
   ·
    exact i3 s hs
  ·
   rcases i4 with h | ⟨s,hs,h⟩
   ·
    exact⟨e,List.mem_cons_self,h⟩
   ·
    exact⟨s,List.mem_cons_of_mem _ hs,h⟩
theorem plateEdges_ok {P:Plate}(g:PlateGood P):(∀ e∈plateEdges P,segOk e=true)∧0<(plateEdges P).length:=by
 refine⟨fun e he=>?_,?_⟩
 ·
  unfold plateEdges at he
  rcases List.mem_append.1 he with he | he
  ·
   exact ((loopOk_iff _).1 g.outer).2.2.1 e he
  ·
   obtain⟨h,hh,he⟩:=List.mem_flatMap.1 he;exact ((loopOk_iff _).1 (g.holes h hh)).2.2.1 e he
 ·
  unfold plateEdges;rw [List.length_append,edges_length];have:=loop_pos g.outer;omega
end Mort
namespace Go.Proofs.YtkefmnmoaomlhaaDoor.X
open Go.RowKit Go.Proofs.YtkefmnmoaomlhaaDoorW.PrintWords Go.Proofs.YtkefmnmoaomlhaaDoorW.PrintLast Go.Proofs.YtkefmnmoaomlhaaDoorW.PrintMore
open Mort (edges loopOk ptOk segOk has meet ed pairOk joined apartB plateOk PlateGood inOf segMeet segFar least fracOk fracCmp cmp0 farL plateFar nearF plateNear plateEdges)
theorem edgesS_eq (z:List S28):edgesS z=esOf z:=by
 unfold edgesS esOf;apply List.ext_getElem
 ·
  simp
 ·
  intro i h1 h2;simp
theorem allEdges_pl (o:List S28)(H:List (List S28)):(allEdges (o::H)).map sgP=plateEdges (pl o H):=by
 unfold allEdges plateEdges pl;rw [List.flatMap_cons,List.map_append,edgesS_eq,esOf_edges]
 congr 1
 induction H with
 | nil=>rfl
 | cons z H ih=>rw [List.flatMap_cons,List.map_append,edgesS_eq,esOf_edges,List.map_cons,List.flatMap_cons,ih]
theorem farE_L (E:List S61)(p:Mort.Pt):farE E p=farL (E.map sgP) p:=by
 cases E with
 | nil=>rfl
 | cons e r =>
  show r.foldl _ _=(r.map sgP).foldl _ _
  rw [List.foldl_map]
theorem iPlateFar (o:List S28)(H:List (List S28))(x y:Int):impl_PlateFar.f o H x y=some ((plateFar (pl o H) (x,y)).1,(plateFar (pl o H) (x,y)).2):=by
 unfold impl_PlateFar.f plateFar;rw [iBodyOk,farE_L,allEdges_pl]
theorem nearFrom_F {p:Mort.Pt}{f:Mort.Frac}(hp:ptOk p=true)(hf:fracOk f=true):∀ (E:List S61) (i:Nat),(∀ s∈E,segOk (sgP s)=true)→nearFrom p f i E=nearF p f i (E.map sgP):=by
 intro E
 induction E with
 | nil=>intro i _;rfl
 | cons s E ih =>
  intro i h;have hs:=(Mort.segFar_ok (h s List.mem_cons_self) hp).1;rw [nearFrom_cons,List.map_cons]
  show _=if segFar (sgP s) p=f then _ else _
  rw [ih (i+1) (fun t ht=>h t (List.mem_cons_of_mem _ ht))];by_cases e:segFar (sgP s) p=f
  ·
   rw [if_pos e,if_pos ((Mort.cmp_zero hs hf).2 e)]
  ·
   rw [if_neg e,if_neg (fun q=>e ((Mort.cmp_zero hs hf).1 q))]
theorem edges_facts {o:List S28}{H:List (List S28)}(h:plateOk (pl o H)=true):(∀ s∈allEdges (o::H),segOk (sgP s)=true)∧0<(allEdges (o::H)).length∧(allEdges (o::H)).length≤24∧H.length≤2:=by
 rw [← iBodyOk] at h;obtain⟨e0,es,hEe,hle⟩:=allEdges_cons h;refine⟨allEdges_ok h,by rw [hEe];simp,by rw [hEe];simp only [List.length_cons];omega,((bodyOkB_iff o H).1 h).1⟩
theorem far_ok {o:List S28}{H:List (List S28)}(h:plateOk (pl o H)=true){p:Mort.Pt}(hp:ptOk p=true):fracOk (farL (plateEdges (pl o H)) p)=true:=by
 obtain⟨h1,h2⟩:=Mort.plateEdges_ok (good_of h);exact (Mort.farL_spec hp h2 h1).1
theorem iPlateNear (o:List S28)(H:List (List S28))(x y:Int):impl_PlateNear.f o H x y=some (plateNear (pl o H) (x,y)):=by
 unfold impl_PlateNear.f plateNear;rw [iBodyOk,farE_L,allEdges_pl]
 cases h:plateOk (pl o H) with
 | false=>rfl
 | true =>
  cases hp:ptOk (x,y) with
  | false=>rfl
  | true =>
   rw [Bool.and_self,if_pos rfl,if_pos rfl,nearFrom_F hp (far_ok h hp) _ 0 (edges_facts h).1,allEdges_pl]
theorem sL11Edges {k:Nat}(hk:1000≤k){o:List S28}{H:List (List S28)}(h:plateOk (pl o H)=true):spec_l11Edges.f k o H=some (allEdges (o::H)):=by
 have g:=good_of h;obtain⟨o3,o8,_⟩:=ok_facts (z:=o) g.outer;have hH:∀ z∈H,z.length≤8:=fun z hz=>(ok_facts (g.holes _ (List.mem_map_of_mem hz))).2.1
 have h2:H.length≤2:=(edges_facts h).2.2.2;have loop:∀ (m i k:Nat) (acc:List S61),H.length-i=m→i≤H.length→m+20≤k→acc.length≤100*(i+1)→spec_l11Edges.l0 k acc (i:Int) o H=some (acc++(H.drop i).flatMap esOf):=by
  intro m
  induction m with
  | zero =>
   intro i k acc hm hi hk ha;obtain⟨k,rfl⟩:∃ q,k=q+1:=⟨k-1,by omega⟩;simp only [spec_l11Edges.l0];rw [if_neg (by omega),List.drop_of_length_le (by omega)];simp
  | succ m ih =>
   intro i k acc hm hi hk ha;obtain⟨k,rfl⟩:∃ q,k=q+1:=⟨k-1,by omega⟩;simp only [spec_l11Edges.l0];have hlt:i<H.length:=by omega
   have hg:rd_L5 H (i:Int)=H[i]:=by show H.getD i []=_;rw [List.getD_eq_getElem?_getD,List.getElem?_eq_getElem hlt];rfl
   have hl:=hH _ (List.getElem_mem hlt);rw [if_pos (by omega),if_pos (by omega),hg,sEdges (by omega) (by omega),Option.bind_some,if_pos (by rw [esOf_len];omega),succ64 (by omega),ih (i+1) k _ (by omega) (by omega) (by omega) (by rw [List.length_append,esOf_len];omega),List.drop_eq_getElem_cons hlt,List.flatMap_cons,List.append_assoc]
 unfold spec_l11Edges.f;rw [sEdges (by omega) (by omega),Option.bind_some];refine (loop H.length 0 k _ (by omega) (by omega) (by omega) (by rw [esOf_len];omega)).trans ?_;rw [List.drop_zero];unfold allEdges;rw [List.flatMap_cons,edgesS_eq]
 congr 2
 have:edgesS=esOf:=funext edgesS_eq;rw [this]
theorem rd_seg {E:List S61}{i:Nat}(h:i<E.length):rd_T61 E (i:Int)=E[i]:=by
 show E.getD i _=_
 rw [List.getD_eq_getElem?_getD,List.getElem?_eq_getElem h];rfl
theorem sFarS {k:Nat}(hk:100000≤k){s:S61}{x y:Int}(hs:segOk (sgP s)=true)(hp:ptOk (x,y)=true):spec_l2Far.f k s.f0.f0 s.f0.f1 s.f1.f0 s.f1.f1 x y=some ((segFar (sgP s) (x,y)).1,(segFar (sgP s) (x,y)).2):=by
 have hs':segOk ((s.f0.f0,s.f0.f1),(s.f1.f0,s.f1.f1))=true:=hs;rw [sL2Far hk hs' hp];have:segFar (sgP s) (x,y)=Mort.red (Mort.far ((s.f0.f0,s.f0.f1),(s.f1.f0,s.f1.f1)) (x,y)):=by
  show segFar ((s.f0.f0,s.f0.f1),(s.f1.f0,s.f1.f1)) (x,y)=_
  unfold segFar;rw [hs',hp];rfl
 rw [this]
theorem sL11Far {k:Nat}(hk:200000≤k){E:List S61}{x y:Int}(hok:∀ s∈E,segOk (sgP s)=true)(hp:ptOk (x,y)=true)(hne:0<E.length)(hle:E.length≤24):
  spec_l11Far.f k E x y=some ((farE E (x,y)).1,(farE E (x,y)).2):=by
 have loop:∀ (m i k:Nat) (a:Mort.Frac),E.length-i=m→i≤E.length→m+100001≤k→fracOk a=true →
   spec_l11Far.l0 k E (i:Int) x y a.1 a.2=some ((runFar (x,y) a (E.drop i)).1,(runFar (x,y) a (E.drop i)).2):=by
  intro m
  induction m with
  | zero =>
   intro i k a hm hi hk ha;obtain⟨k,rfl⟩:∃ q,k=q+1:=⟨k-1,by omega⟩;simp only [spec_l11Far.l0];rw [if_neg (by omega),List.drop_of_length_le (by omega)];rfl
  | succ m ih =>
   intro i k a hm hi hk ha;obtain⟨k,rfl⟩:∃ q,k=q+1:=⟨k-1,by omega⟩;simp only [spec_l11Far.l0];have hlt:i<E.length:=by omega
   have hs:=hok _ (List.getElem_mem hlt);have hf:=(Mort.segFar_ok hs hp).1;rw [if_pos (by omega),if_pos (by omega),rd_seg hlt,sFarS (by omega) hs hp,Option.bind_some];have hl:=sLeast (n:=a.1) (d:=a.2) (m:=(segFar (sgP E[i]) (x,y)).1) (q:=(segFar (sgP E[i]) (x,y)).2) ha hf;simp only;rw [hl,Option.bind_some,succ64 (by omega)];simp only;rw [ih (i+1) k (least a (segFar (sgP E[i]) (x,y))) (by omega) (by omega) (by omega) (Mort.least_ok ha hf),List.drop_eq_getElem_cons hlt];rfl
 unfold spec_l11Far.f;rw [if_pos (by omega)]
 cases E with
 | nil=>simp at hne
 | cons e es =>
  have hs:=hok e List.mem_cons_self;have e0:rd_T61 (e::es) 0=e:=rfl;rw [e0,sFarS (by omega) hs hp,Option.bind_some];exact loop es.length 1 k (segFar (sgP e) (x,y)) (by simp) (by simp) (by simp only [List.length_cons] at hle;omega) (Mort.segFar_ok hs hp).1
theorem sL11Near {k:Nat}(hk:200000≤k){E:List S61}{x y:Int}(hok:∀ s∈E,segOk (sgP s)=true)(hp:ptOk (x,y)=true)(hne:0<E.length)(hle:E.length≤24):
  spec_l11Near.f k E x y=some (nearF (x,y) (farE E (x,y)) 0 (E.map sgP)):=by
 have loop:∀ (f:Mort.Frac) (m i k:Nat) (acc:List Int),E.length-i=m→i≤E.length→m+100001≤k→acc.length≤i →
   spec_l11Near.l0 k E acc (i:Int) x y f.1 f.2=some (acc++nearF (x,y) f i ((E.map sgP).drop i)):=by
  intro f m
  induction m with
  | zero =>
   intro i k acc hm hi hk ha;obtain⟨k,rfl⟩:∃ q,k=q+1:=⟨k-1,by omega⟩;simp only [spec_l11Near.l0];rw [if_neg (by omega),List.drop_of_length_le (by rw [List.length_map];omega)];simp [nearF]
  | succ m ih =>
   intro i k acc hm hi hk ha;obtain⟨k,rfl⟩:∃ q,k=q+1:=⟨k-1,by omega⟩;simp only [spec_l11Near.l0];have hlt:i<E.length:=by omega
   have hs:=hok _ (List.getElem_mem hlt);have hd:(E.map sgP).drop i=sgP E[i]::(E.map sgP).drop (i+1):=by rw [List.drop_eq_getElem_cons (by simpa using hlt)];simp
   rw [if_pos (by omega),if_pos (by omega),rd_seg hlt,sFarS (by omega) hs hp,Option.bind_some,hd]
   show _=some (acc++if segFar (sgP E[i]) (x,y)=f then _ else _)
   simp only;by_cases e:segFar (sgP E[i]) (x,y)=f
   ·
    rw [e,if_pos rfl,if_pos (by simp),if_pos (by omega),succ64 (by omega),ih (i+1) k _ (by omega) (by omega) (by omega) (by simp;omega)];simp
   ·
    rw [if_neg e,if_neg,succ64 (by omega),ih (i+1) k _ (by omega) (by omega) (by omega) (by omega)];intro q;simp only [Bool.and_eq_true,beq_iff_eq] at q;exact e (Prod.ext q.1 q.2)
 unfold spec_l11Near.f;rw [sL11Far hk hok hp hne hle,Option.bind_some];exact loop (farE E (x,y)) E.length 0 k [] (by omega) (by omega) (by omega) (by simp)
theorem sPlateNear {k:Nat}(hk:300000≤k)(o:List S28)(H:List (List S28))(x y:Int):spec_PlateNear.f k o H x y=some (plateNear (pl o H) (x,y)):=by
 unfold spec_PlateNear.f plateNear;rw [sPlateOk (by omega),Option.bind_some];obtain⟨k,rfl⟩:∃ q,k=q+1:=⟨k-1,by omega⟩
 cases h:plateOk (pl o H) with
 | false=>rw [if_neg (by decide)];rfl
 | true =>
  rw [if_pos rfl,sPtOk,Option.bind_some]
  cases hp:ptOk (x,y) with
  | false=>rfl
  | true =>
   simp only [spec_PlateNear.j0];obtain⟨h1,h2,h3,_⟩:=edges_facts h;rw [if_neg (by decide),sL11Edges (by omega) h,Option.bind_some,sL11Near (by omega) h1 hp h2 h3,Option.bind_some,Bool.and_self,if_pos rfl,farE_L,allEdges_pl]
end Go.Proofs.YtkefmnmoaomlhaaDoor.X
end
section
set_option linter.unusedVariables false
set_option linter.unusedSimpArgs false
namespace Go.Proofs.YtkefmnmoaomlhaaDoor.X
open Go.RowKit Go.Proofs.YtkefmnmoaomlhaaDoorW.PrintWords Go.Proofs.YtkefmnmoaomlhaaDoorW.PrintLast Go.Proofs.YtkefmnmoaomlhaaDoorW.PrintMore
def Tells {α:Type}(K:Nat)(f:Nat→Option α)(P:α→Prop):Prop:=∃ a,(∀ k,K≤k→f k=some a)∧P a
namespace Tells
variable {α β:Type} {K:Nat} {P:α→Prop} {Q:β→Prop}
theorem bind {f:Nat→Option α}{g:α→Nat→Option β}(h:Tells K f P)(hg:∀ a,P a→Tells K (g a) Q):Tells K (fun k=>(f k).bind fun a=>g a k) Q:=by
 obtain⟨a,h1,h2⟩:=h;obtain⟨b,h3,h4⟩:=hg a h2;exact⟨b,fun k hk=>by show (f k).bind _=_;rw [h1 k hk,Option.bind_some,h3 k hk],h4⟩
theorem ret (a:α)(h:P a):Tells K (fun _=>some a) P:=⟨a,fun _ _=>rfl,h⟩
theorem ite {c:Prop}[Decidable c]{f g:Nat→Option α}(h1:c→Tells K f P)(h2:¬ c→Tells K g P):Tells K (fun k=>if c then f k else g k) P:=by
 by_cases h:c
 ·
  obtain⟨a,e,p⟩:=h1 h;exact⟨a,fun k hk=>by show (if c then _ else _)=_;rw [if_pos h,e k hk],p⟩
 ·
  obtain⟨a,e,p⟩:=h2 h;exact⟨a,fun k hk=>by show (if c then _ else _)=_;rw [if_neg h,e k hk],p⟩
theorem guard {c:Prop}[Decidable c]{f:Nat→Option α}(h:c)(h1:Tells K f P):Tells K (fun k=>if c then f k else none) P:=ite (fun _=>h1) (fun n=>absurd h n)
theorem nay {c:Prop}[Decidable c]{f:Nat→Option α}(h:¬ c)(h1:Tells K f P):Tells K (fun k=>if c then none else f k) P:=ite (fun n=>absurd n h) (fun _=>h1)
theorem up {K':Nat}{f:Nat→Option α}(hk:K≤K')(h:Tells K f P):Tells K' f P:=by
 obtain⟨a,e,p⟩:=h;exact⟨a,fun k hk'=>e k (by omega),p⟩
theorem mono {P':α→Prop}{f:Nat→Option α}(h:Tells K f P)(hp:∀ a,P a→P' a):Tells K f P':=by
 obtain⟨a,e,p⟩:=h;exact⟨a,e,hp a p⟩
theorem succ {f g:Nat→Option α}(hf:∀ k,f (k+1)=g k)(h:Tells K g P):Tells (K+1) f P:=by
 obtain⟨a,e,p⟩:=h;refine⟨a,fun k hk=>?_,p⟩;obtain⟨k,rfl⟩:∃ q,k=q+1:=⟨k-1,by omega⟩;rw [hf,e k (by omega)]
theorem same {f g:Nat→Option α}(hf:∀ k,f k=g k)(h:Tells K g P):Tells K f P:=by
 obtain⟨a,e,p⟩:=h;exact⟨a,fun k hk=>by rw [hf,e k hk],p⟩
end Tells
section
variable {l:List Int} (hl:Bytes l)
include hl
theorem tPick {K:Nat}(hK:1≤K){p n:Int}(hp:0≤p)(hp':p≤1000000)(hn:1≤n)(hn':n≤1000000):Tells K (fun k=>spec_l6Rd_pick.f k l p n) fun a=>0≤a.1∧a.1<n∧a.2=p+1:=by
 obtain⟨r,h1,h2,h3⟩:=pick_told hl hp hp' hn hn';exact⟨(r,p+1),fun k hk=>h1 k (by omega),h2,h3,rfl⟩
theorem tPt {K:Nat}(hK:1≤K){p:Int}(hp:0≤p)(hp':p≤900000):Tells K (fun k=>spec_l71Pt.f k l p) fun a=>p≤a.2.2∧a.2.2≤p+10:=by
 unfold spec_l71Pt.f;refine Tells.bind (tPick hl hK hp (by omega) (by omega) (by omega)) ?_;rintro⟨r1,q1⟩ ⟨a1,b1,c1⟩;simp only at a1 b1 c1 ⊢
 refine Tells.bind (tPick hl hK (by omega) (by omega) (by omega) (by omega)) ?_;rintro⟨r2,q2⟩ ⟨a2,b2,c2⟩;simp only at a2 b2 c2 ⊢
 refine Tells.bind (tPick hl hK (by omega) (by omega) (by omega) (by omega)) ?_;rintro⟨r3,q3⟩ ⟨a3,b3,c3⟩;simp only at a3 b3 c3 ⊢
 refine Tells.ite (fun h=>?_) (fun h=>Tells.ite (fun h'=>?_) (fun h'=>?_))
 ·
  refine Tells.bind (Tells.ret (P:=fun a=>a=[(-1),10]) _ rfl) ?_;rintro y rfl;refine Tells.bind (tPick hl hK (by omega) (by omega) (by omega) (by omega)) ?_;rintro⟨r4,q4⟩ ⟨a4,b4,c4⟩;simp only at a4 b4 c4 ⊢
  exact Tells.guard (by omega) (Tells.guard (by simpa using b4) (Tells.ret _ (by simp only;omega)))
 ·
  refine Tells.bind (Tells.ret (P:=fun a=>a=[(-1),10]) _ rfl) ?_;rintro y rfl;refine Tells.bind (tPick hl hK (by omega) (by omega) (by omega) (by omega)) ?_;rintro⟨r4,q4⟩ ⟨a4,b4,c4⟩;simp only at a4 b4 c4 ⊢
  exact Tells.guard (by omega) (Tells.guard (by simpa using b4) (Tells.ret _ (by simp only;omega)))
 ·
  exact Tells.ret _ (by simp only;omega)
theorem tBox {K:Nat}(hK:1≤K){p a1 a2 a3 a4:Int}(hp:0≤p)(hp':p≤900000):Tells K (fun k=>spec_l71Box.f k l p a1 a2 a3 a4) fun a=>(3≤a.1.length∧a.1.length≤6)∧p≤a.2∧a.2≤p+10:=by
 unfold spec_l71Box.f;refine Tells.bind (Tells.ret (P:=fun a=>a.length=4) _ rfl) ?_;intro y hy;have hy':(y.length:Int)=4:=by omega
 refine Tells.bind (tPick hl hK hp (by omega) (by omega) (by omega)) ?_;rintro⟨r1,q1⟩ ⟨a1,b1,c1⟩;simp only at a1 b1 c1 ⊢
 rw [hy']
 repeat' first
  | (refine Tells.ret _ ⟨⟨?_,?_⟩,?_,?_⟩ <;> first | omega | (simp;done) | (simp [hy];done) | (simp only [List.length_take];omega))
  | (refine Tells.guard (by omega) ?_)
  | (refine Tells.ite (fun _=>?_) (fun _=>?_))
theorem tLoopL {K:Nat}(hK:1≤K):∀ (m:Nat) (z:List S28) (i p:Int),i<m → -1≤i→i≤100→3≤z.length→z.length≤1000→0≤p→p+10*m≤900000→Tells (K+m+1) (fun k=>spec_l71Loop.l0 k z i l p) fun a=>a.1.length=z.length∧p≤a.2∧a.2≤p+10*m:=by
 intro m
 induction m with
 | zero =>
  intro z i p hm hi hi' hz hz' hp hp';refine Tells.succ (fun k=>by simp only [spec_l71Loop.l0];exact rfl) ?_;exact Tells.ite (fun h=>by omega) (fun _=>Tells.ret _ ⟨rfl,Int.le_refl _,by show p≤p+10*_;omega⟩)
 | succ m ih =>
  intro z i p hm hi hi' hz hz' hp hp';refine Tells.succ (K:=K+(m+1)) (fun k=>by simp only [spec_l71Loop.l0];exact rfl) ?_;refine Tells.ite (fun h=>?_) (fun _=>Tells.ret _ ⟨rfl,Int.le_refl _,by show p≤p+10*_;omega⟩);refine Tells.nay (by omega) ?_;refine Tells.bind (tPt hl (by omega) hp (by omega)) ?_;rintro⟨x,y,q⟩ ⟨h1,h2⟩;simp only at h1 h2 ⊢
  have t1:0≤Int.tmod i z.length:=Int.tmod_nonneg _ (by omega);have t2:Int.tmod i z.length<z.length:=Int.tmod_lt_of_pos _ (by omega);refine Tells.guard t1 (Tells.guard t2 ?_);refine Tells.mono (ih _ (wrap64 (i-1)) q (by unfold wrap64;omega) (by unfold wrap64;omega) (by unfold wrap64;omega) (by rw [List.length_set];omega) (by rw [List.length_set];omega) (by omega) (by omega)) ?_;rintro⟨b,u⟩ ⟨g1,g2,g3⟩;rw [List.length_set] at g1;simp only at g1 g2 g3 ⊢
  omega
theorem tLoop {K:Nat}(hK:20≤K){p:Int}(hp:0≤p)(hp':p≤800000):Tells K (fun k=>spec_l71Loop.f k l p) fun a=>a.1.length≤100∧p≤a.2∧a.2≤p+200:=by
 unfold spec_l71Loop.f;refine Tells.bind (tPick hl (by omega) hp (by omega) (by omega) (by omega)) ?_;rintro⟨r1,q1⟩ ⟨a1,b1,c1⟩;simp only at a1 b1 c1 ⊢
 refine Tells.bind (tPick hl (by omega) (by omega) (by omega) (by omega) (by omega)) ?_;rintro⟨r2,q2⟩ ⟨a2,b2,c2⟩;simp only at a2 b2 c2 ⊢
 refine Tells.bind (tPick hl (by omega) (by omega) (by omega) (by unfold wrap64;omega) (by unfold wrap64;omega)) ?_;rintro⟨r3,q3⟩ ⟨a3,b3,c3⟩;simp only at a3 b3 c3 ⊢
 refine Tells.bind (tPick hl (by omega) (by omega) (by omega) (by unfold wrap64;omega) (by unfold wrap64;omega)) ?_;rintro⟨r4,q4⟩ ⟨a4,b4,c4⟩;simp only at a4 b4 c4 ⊢
 refine Tells.bind (tBox hl (by omega) (by omega) (by omega)) ?_;rintro⟨z,q5⟩ ⟨⟨a5,b5⟩,c5,d5⟩;simp only at a5 b5 c5 d5 ⊢
 refine Tells.bind (tPick hl (by omega) (by omega) (by omega) (by omega) (by omega)) ?_;rintro⟨r6,q6⟩ ⟨a6,b6,c6⟩;simp only at a6 b6 c6 ⊢
 refine Tells.ite (fun _=>?_) (fun _=>Tells.ite (fun _=>?_) (fun _=>Tells.ite (fun _=>?_) (fun _=>?_)))
 ·
  refine Tells.bind (tPt hl (by omega) (by omega) (by omega)) ?_;rintro⟨x,y,q⟩ ⟨h1,h2⟩;simp only at h1 h2 ⊢
  exact Tells.guard (by omega) (Tells.ret _ (by simp only [List.length_append,List.length_cons,List.length_nil];omega))
 ·
  refine Tells.bind (tPick hl (by omega) (by omega) (by omega) (by omega) (by omega)) ?_;rintro⟨r7,q7⟩ ⟨a7,b7,c7⟩;simp only at a7 b7 c7 ⊢
  refine Tells.bind (tPt hl (by omega) (by omega) (by omega)) ?_;rintro⟨x,y,q⟩ ⟨h1,h2⟩;simp only at h1 h2 ⊢
  exact Tells.guard (by omega) (Tells.guard (by omega) (Tells.ret _ (by simp only [List.length_set];omega)))
 ·
  refine Tells.bind (tPick hl (by omega) (by omega) (by omega) (by omega) (by omega)) ?_;rintro⟨r7,q7⟩ ⟨a7,b7,c7⟩;simp only at a7 b7 c7 ⊢
  refine Tells.up (K:=1+7+1) (by omega) (Tells.mono (tLoopL hl (K:=1) (by omega) 7 z r7 q7 (by omega) (by omega) (by omega) (by omega) (by omega) (by omega) (by omega)) ?_);rintro⟨b,u⟩ ⟨g1,g2,g3⟩;simp only at g1 g2 g3 ⊢
  omega
 ·
  exact Tells.ret _ (by simp only;omega)
end
section
variable {l:List Int} (hl:Bytes l)
include hl
theorem tGoodL {K:Nat}(hK:1000≤K):∀ (m:Nat) (x3 x4 x5 x6 i p:Int) (o:List S28) (H:List (List S28)),i≤m→i≤100→(0≤x3∧x3≤20)→(0≤x4∧x4≤20)→(3≤x5∧x5≤20)→(3≤x6∧x6≤20)→H.length+m≤100→o.length≤100→0≤p→p+20*m≤900000 →
  Tells (K+m+1) (fun k=>spec_l71Good.l0 k x3 x4 x5 x6 i l p o H) fun a=>a.1.length≤100∧a.2.1.length≤100∧p≤a.2.2∧a.2.2≤p+20*m:=by
 intro m
 induction m with
 | zero =>
  intro x3 x4 x5 x6 i p o H hm hi h3 h4 h5 h6 hH ho hp hp';refine Tells.succ (fun k=>by simp only [spec_l71Good.l0];exact rfl) ?_;exact Tells.ite (fun h=>by omega) (fun _=>Tells.ret _ ⟨ho,by show H.length≤100;omega,Int.le_refl _,by show p≤p+20*_;omega⟩)
 | succ m ih =>
  intro x3 x4 x5 x6 i p o H hm hi h3 h4 h5 h6 hH ho hp hp';refine Tells.succ (K:=K+(m+1)) (fun k=>by simp only [spec_l71Good.l0];exact rfl) ?_;refine Tells.ite (fun h=>?_) (fun _=>Tells.ret _ ⟨ho,by show H.length≤100;omega,Int.le_refl _,by show p≤p+20*_;omega⟩);refine Tells.bind (tPick hl (by omega) hp (by omega) (by unfold wrap64;omega) (by unfold wrap64;omega)) ?_;rintro⟨r1,q1⟩ ⟨a1,b1,c1⟩;simp only at a1 b1 c1 ⊢
  refine Tells.bind (tPick hl (by omega) (by omega) (by omega) (by unfold wrap64;omega) (by unfold wrap64;omega)) ?_;rintro⟨r2,q2⟩ ⟨a2,b2,c2⟩;simp only at a2 b2 c2 ⊢
  refine Tells.bind (tPick hl (by omega) (by omega) (by omega) (by omega) (by omega)) ?_;rintro⟨r3,q3⟩ ⟨a3,b3,c3⟩;simp only at a3 b3 c3 ⊢
  refine Tells.bind (tPick hl (by omega) (by omega) (by omega) (by omega) (by omega)) ?_;rintro⟨r4,q4⟩ ⟨a4,b4,c4⟩;simp only at a4 b4 c4 ⊢
  refine Tells.bind (tBox hl (by omega) (by omega) (by omega)) ?_;rintro⟨z,q5⟩ ⟨_,c5,d5⟩;simp only at c5 d5 ⊢
  refine Tells.bind (Tells.ret (P:=fun a=>a=[]) _ rfl) ?_;rintro y rfl;refine Tells.guard (by simp;omega) ?_;refine Tells.bind (Tells.ret (P:=fun a=>a=H) _ rfl) ?_;rintro y rfl;refine Tells.guard (by omega) ?_;refine Tells.bind (Tells.ret (P:=fun a=>a.length=y.length+1) _ (by simp)) ?_;intro y2 hy2;refine Tells.bind (P:=fun _=>True) ⟨_,fun k hk=>sPlateOk (by omega) o y2,trivial⟩ ?_;intro t _;have hw:wrap64 (i-1)=i-1:=w64i (by omega) (by omega);by_cases hneg:0≤i
  ·
   rw [hw];refine Tells.ite (fun _=>?_) (fun _=>?_)
   ·
    refine Tells.mono (ih x3 x4 x5 x6 (i-1) q5 o y2 (by omega) (by omega) h3 h4 h5 h6 (by omega) ho (by omega) (by omega)) ?_;rintro⟨u1,u2,u3⟩ ⟨g1,g2,g3,g4⟩;simp only at g1 g2 g3 g4 ⊢
    omega
   ·
    refine Tells.mono (ih x3 x4 x5 x6 (i-1) q5 o y (by omega) (by omega) h3 h4 h5 h6 (by omega) ho (by omega) (by omega)) ?_;rintro⟨u1,u2,u3⟩ ⟨g1,g2,g3,g4⟩;simp only at g1 g2 g3 g4 ⊢
    omega
  ·
   omega
theorem tGood {K:Nat}(hK:1010≤K){p:Int}(hp:0≤p)(hp':p≤800000):Tells K (fun k=>spec_l71Good.f k l p) fun a=>a.1.length≤100∧a.2.1.length≤100∧p≤a.2.2∧a.2.2≤p+100:=by
 unfold spec_l71Good.f;refine Tells.bind (tPick hl (by omega) hp (by omega) (by omega) (by omega)) ?_;rintro⟨r1,q1⟩ ⟨a1,b1,c1⟩;simp only at a1 b1 c1 ⊢
 refine Tells.bind (tPick hl (by omega) (by omega) (by omega) (by omega) (by omega)) ?_;rintro⟨r2,q2⟩ ⟨a2,b2,c2⟩;simp only at a2 b2 c2 ⊢
 refine Tells.bind (tPick hl (by omega) (by omega) (by omega) (by unfold wrap64;omega) (by unfold wrap64;omega)) ?_;rintro⟨r3,q3⟩ ⟨a3,b3,c3⟩;have b3':r3<9-r1-3:=by
  have e:wrap64 (wrap64 (9-r1)-3)=9-r1-3:=by unfold wrap64;omega
  simp only at b3;omega
 simp only at a3 c3 ⊢
 refine Tells.bind (tPick hl (by omega) (by omega) (by omega) (by unfold wrap64;omega) (by unfold wrap64;omega)) ?_;rintro⟨r4,q4⟩ ⟨a4,b4,c4⟩;have b4':r4<9-r2-3:=by
  have e:wrap64 (wrap64 (9-r2)-3)=9-r2-3:=by unfold wrap64;omega
  simp only at b4;omega
 simp only at a4 c4 ⊢
 have e1:wrap64 (4+r3)=4+r3:=w64i (by omega) (by omega);have e2:wrap64 (4+r4)=4+r4:=w64i (by omega) (by omega);rw [e1,e2];refine Tells.bind (tBox hl (by omega) (by omega) (by omega)) ?_;rintro⟨z,q5⟩ ⟨⟨_,z5⟩,c5,d5⟩;simp only at z5 c5 d5 ⊢
 refine Tells.bind (tPick hl (by omega) (by omega) (by omega) (by omega) (by omega)) ?_;rintro⟨r6,q6⟩ ⟨a6,b6,c6⟩;simp only at a6 b6 c6 ⊢
 refine Tells.up (K:=1000+2+1) (by omega) (Tells.mono (tGoodL hl (K:=1000) (by omega) 2 r1 r2 (4+r3) (4+r4) r6 q6 z [] (by omega) (by omega) (by omega) (by omega) (by omega) (by omega) (by simp) (by omega) (by omega) (by omega)) ?_);rintro⟨u1,u2,u3⟩ ⟨g1,g2,g3,g4⟩;simp only at g1 g2 g3 g4 ⊢
 omega
theorem tPlate {K:Nat}(hK:1010≤K){p:Int}(hp:0≤p)(hp':p≤700000):Tells K (fun k=>spec_l71Plate.f k l p) fun a=>p≤a.2.2∧a.2.2≤p+1000:=by
 unfold spec_l71Plate.f;refine Tells.bind (tGood hl hK hp (by omega)) ?_;rintro⟨o,H,q⟩ ⟨g1,g2,g3,g4⟩;simp only at g1 g2 g3 g4 ⊢
 refine Tells.bind (tPick hl (by omega) (by omega) (by omega) (by omega) (by omega)) ?_;rintro⟨r1,q1⟩ ⟨a1,b1,c1⟩;simp only at a1 b1 c1 ⊢
 refine Tells.ite (fun _=>?_) (fun _=>Tells.ite (fun _=>?_) (fun _=>Tells.ite (fun _=>?_) (fun _=>?_)))
 ·
  refine Tells.bind (tLoop hl (by omega) (by omega) (by omega)) ?_;rintro⟨z,q2⟩ ⟨h1,h2,h3⟩;simp only at h1 h2 h3 ⊢
  exact Tells.ret _ (by simp only;omega)
 ·
  refine Tells.bind (tLoop hl (by omega) (by omega) (by omega)) ?_;rintro⟨z,q2⟩ ⟨h1,h2,h3⟩;simp only at h1 h2 h3 ⊢
  exact Tells.guard (by omega) (Tells.ret _ (by simp only;omega))
 ·
  refine Tells.bind (Tells.ret (P:=fun a=>a=[]) _ rfl) ?_;rintro y rfl;refine Tells.guard (by simp;omega) ?_;refine Tells.bind (Tells.ret (P:=fun a=>a=o) _ rfl) ?_;rintro y rfl;refine Tells.bind (tPt hl (by omega) (by omega) (by omega)) ?_;rintro⟨x,y',q2⟩ ⟨h1,h2⟩;simp only at h1 h2 ⊢
  exact Tells.guard (by omega) (Tells.ret _ (by simp only;omega))
 ·
  exact Tells.ret _ (by simp only;omega)
end
theorem tPlatePt {m:List Int}(hm:Bytes m):Tells 400000 (fun k=>(spec_l71Plate.f k m 0).bind fun bt=>((spec_l71Pt.f k m bt.2.2).bind fun bp=>(some (bt.1,bt.2.1,bp.1,bp.2.1)))) fun _=>True:=by
 refine Tells.bind (tPlate hm (by omega) (by omega) (by omega)) ?_;rintro⟨o,H,q⟩ ⟨g3,g4⟩;simp only at g3 g4 ⊢
 refine Tells.bind (tPt hm (by omega) (by omega) (by omega)) ?_;rintro⟨x,y,q2⟩ _;exact Tells.ret _ trivial
theorem drawPlateNear (l:List Int)(h:∀ x∈l,(Lit.int .u8 x).wf=true):∃ o H x y,∀ k,400000≤k→spec_DrawPlateNear.f k l=some (o,H,x,y):=by
 obtain⟨m,hm,hb⟩:=open_told l h;obtain⟨⟨o,H,x,y⟩,ht,_⟩:=tPlatePt hb;exact⟨o,H,x,y,fun k hk=>by unfold spec_DrawPlateNear.f;rw [hm,Option.bind_some];exact ht k hk⟩
end Go.Proofs.YtkefmnmoaomlhaaDoor.X
end
section
set_option linter.unusedVariables false
set_option linter.unusedSimpArgs false
namespace Go.Proofs.YtkefmnmoaomlhaaDoor.Pure
open Go.RowKit Go.Proofs.YtkefmnmoaomlhaaDoor.X Go.Proofs.YtkefmnmoaomlhaaDoorW.PrintWords Go.Proofs.YtkefmnmoaomlhaaDoorW.PrintLast
open Mort (ptOk plateOk plateFar plateNear nearF farL plateEdges segFar segOk)
theorem luInts_same (L:List Int)(hL:L.length≤1000){k:Nat}(hk:1001≤k):laws_luInts.f k L L=some true:=by
 have loop:∀ (m i k:Nat),L.length-i=m→i≤L.length→m+1≤k→laws_luInts.l0 k L L (i:Int)=some true:=by
  intro m
  induction m with
  | zero =>
   intro i k hm hi hk;obtain⟨k,rfl⟩:∃ q,k=q+1:=⟨k-1,by omega⟩;simp only [laws_luInts.l0];rw [if_neg (by omega)]
  | succ m ih =>
   intro i k hm hi hk;obtain⟨k,rfl⟩:∃ q,k=q+1:=⟨k-1,by omega⟩;simp only [laws_luInts.l0];rw [if_pos (by omega),if_pos (by omega),if_pos (by omega),if_true,succ64 (by omega)];exact ih (i+1) k (by omega) (by omega) (by omega)
 unfold laws_luInts.f;rw [if_pos rfl];exact loop L.length 0 k (by omega) (by omega) (by omega)
theorem nearF_len (p:Mort.Pt)(f:Mort.Frac):∀ (es:List Mort.Seg) (i:Nat),(nearF p f i es).length≤es.length:=by
 intro es
 induction es with
 | nil=>intro i;exact Nat.le_refl _
 | cons s es ih =>
  intro i;unfold nearF;have:=ih (i+1)
  split <;> simp only [List.length_cons] <;> omega
theorem near_loop {x y:Int}{E:List S61}{F:Mort.Frac}{L:List Int}(hok:∀ s∈E,segOk (sgP s)=true)(hle:E.length≤100):∀ (m j k i:Nat),E.length-j=m→j≤E.length→m+1≤k→i≤L.length→L.length≤100→L.drop i=nearF (x,y) F j ((E.map sgP).drop j) →
  laws_FnPlateNear.l0 k L (i:Int) E (j:Int) x y F.1 F.2=some true:=by
 intro m
 induction m with
 | zero =>
  intro j k i hm hj hk hi hL h;obtain⟨k,rfl⟩:∃ q,k=q+1:=⟨k-1,by omega⟩;simp only [laws_FnPlateNear.l0];rw [if_neg (by omega)];rw [List.drop_of_length_le (show (E.map sgP).length≤j by rw [List.length_map];omega)] at h;have h2:=congrArg List.length h;rw [List.length_drop] at h2;simp only [nearF,List.length_nil] at h2;have:i=L.length:=by omega
  rw [this];simp
 | succ m ih =>
  intro j k i hm hj hk hi hL h;obtain⟨k,rfl⟩:∃ q,k=q+1:=⟨k-1,by omega⟩;simp only [laws_FnPlateNear.l0];have hlt:j<E.length:=by omega
  have e0:impl_SegFar.f E[j].f0.f0 E[j].f0.f1 E[j].f1.f0 E[j].f1.f1 x y=some ((segFar (sgP E[j]) (x,y)).1,(segFar (sgP E[j]) (x,y)).2):=segFar_f _ _ _ _ _ _;have hd:(E.map sgP).drop j=sgP E[j]::(E.map sgP).drop (j+1):=by rw [List.drop_eq_getElem_cons (by simpa using hlt)];simp
  rw [hd] at h;have hn:nearF (x,y) F j (sgP E[j]::(E.map sgP).drop (j+1))=if segFar (sgP E[j]) (x,y)=F then (j:Int)::nearF (x,y) F (j+1) ((E.map sgP).drop (j+1)) else nearF (x,y) F (j+1) ((E.map sgP).drop (j+1)):=rfl;rw [hn] at h;rw [if_pos (by omega),if_pos (by omega),rd_seg hlt,e0,Option.bind_some,succ64 (i:=j) (by omega)];simp only;by_cases e:segFar (sgP E[j]) (x,y)=F
  ·
   rw [if_pos e] at h;have hil:i<L.length:=by
    have h2:=congrArg List.length h;rw [List.length_drop,List.length_cons] at h2;omega
   have hci:L[i]=(j:Int)∧L.drop (i+1)=nearF (x,y) F (j+1) ((E.map sgP).drop (j+1)):=by
    rw [List.drop_eq_getElem_cons hil] at h;exact⟨(List.cons.inj h).1,(List.cons.inj h).2⟩
   have hrd:rd L (i:Int)=L[i]:=by show L.getD i 0=_;rw [List.getD_eq_getElem?_getD,List.getElem?_eq_getElem hil];rfl
   rw [if_pos (by rw [e];simp),if_neg (by omega),if_pos (by omega),if_pos (by omega),hrd,if_pos hci.1,succ64 (by omega)];exact ih (j+1) k (i+1) (by omega) (by omega) (by omega) (by omega) hL hci.2
  ·
   rw [if_neg e] at h
   rw [if_neg (by
    intro q;simp only [Bool.and_eq_true,beq_iff_eq] at q
    exact e (Prod.ext q.1 q.2))]
   exact ih (j+1) k i (by omega) (by omega) (by omega) hi hL h
theorem FnPlateNear:laws_FnPlateNear.Pure:=by
 intro l _ _ hw;obtain⟨o,H,x,y,hd⟩:=drawPlateNear l hw;refine⟨400000+1,?_⟩;unfold laws_FnPlateNear.f
 split
 ·
  rfl
 rw [hd _ (by omega)];simp only [Option.bind_some];have hlen:(plateNear (pl o H) (x,y)).length≤24:=by
  unfold plateNear;by_cases h:(plateOk (pl o H) && ptOk (x,y))=true
  ·
   rw [if_pos h];rw [Bool.and_eq_true] at h;refine Nat.le_trans (nearF_len _ _ _ _) ?_;rw [← allEdges_pl,List.length_map];exact (edges_facts h.1).2.2.1
  ·
   rw [if_neg h];simp
 rw [iPlateNear,Option.bind_some,sPlateNear (by omega),Option.bind_some,luInts_same _ (by omega) (by omega),Option.bind_some,if_pos rfl];have bad:laws_FnPlateNear.j0 (400000+1) (plateNear (pl o H) (x,y)) true o H x y=some true:=by
  simp only [laws_FnPlateNear.j0,if_true,sPlateNear (show 300000≤400000 by omega),Option.bind_some];rw [luInts_same _ (by omega) (by omega)];rfl
 by_cases h:(plateOk (pl o H) && ptOk (x,y))=true
 ·
  rw [Bool.and_eq_true] at h;obtain⟨hP,hp⟩:=h
  cases hz:(((plateNear (pl o H) (x,y)).length:Int)==0) with
  | true=>exact bad
  | false =>
   simp only [laws_FnPlateNear.j0,Bool.false_eq_true,if_false];have hE:impl_PlateEdges.f o H=some (allEdges (o::H)):=by unfold impl_PlateEdges.f;rw [iBodyOk,hP,if_pos rfl]
   rw [iPlateFar,Option.bind_some,hE,Option.bind_some];obtain⟨e1,e2,e3,_⟩:=edges_facts hP;refine near_loop e1 (by omega) _ 0 400000 0 rfl (by omega) (by omega) (by omega) (by omega) ?_;rw [List.drop_zero,List.drop_zero,allEdges_pl];unfold plateNear plateFar;rw [hP,hp,Bool.and_self,if_pos rfl,if_pos rfl]
 ·
  have:plateNear (pl o H) (x,y)=[]:=by unfold plateNear;rw [if_neg h]
  rw [this] at bad ⊢
  exact bad
end Go.Proofs.YtkefmnmoaomlhaaDoor.Pure
end
section
namespace Go.Proofs.YtkefmnmoaomlhaaDoorW.PrintWords
open Go.ChangeShapes Go.WideShapes
theorem sized_ints {H:Type}{enc:TypeId × Value→H}{P:Program}{W:World}{base:Nat}{spare:Nat→Bool}{held:Bool}{t e:TypeId}{k:IntKind}{a:Option Addr}{len cap:Nat}{d:DataW H}{ps:List MemPlace}{ts:List TypeId}{ds:List (DataW H)}{j:Nat}
  (hsz:(DataW.weightsEach P ts ds).all (· ≤ reachBytes)=true) (ht:ts[j]?=some t) (hd:ds[j]?=some d) (hu:P.underlying t=some (.slice e)) (he:P.underlying e=some (.int k)) (hc:P.cellsOf e=1) {B:Nat} (hB:P.bytesOf e=B)
  (h:DataW.Trod enc P W base spare held t (.slice a len cap) d ps):len*B≤140737488351232:=by
 obtain⟨fuel,hf⟩:=h
 rcases open_ints hu he hc hf with ⟨hcs,_⟩ | ⟨x,l,c,zs,hcs,_,hl,_,hz,hx,_,_⟩
 ·
  simp [Value.cells] at hcs;obtain⟨rfl,rfl,rfl⟩:=hcs;simp
 ·
  simp [Value.cells] at hcs;obtain⟨rfl,rfl,rfl⟩:=hcs;obtain⟨hx,_⟩:=Prod.mk.inj hx;subst hx;have z:=sized_slice hsz ht hd hu;rw [hB] at z;have hl2:len≤zs.length:=by
   rw [hz]
   split
   ·
    exact hl
   ·
    exact Nat.le_refl _
  have h1:(lits (H:=H) k (zs.take len)).length+(lits (H:=H) k (zs.drop len)).length=zs.length:=by
   simp [lits];omega
  rw [h1] at z;exact Nat.le_trans (Nat.mul_le_mul_right _ hl2) z
end Go.Proofs.YtkefmnmoaomlhaaDoorW.PrintWords
end
section
set_option linter.unusedVariables false
namespace Go.Proofs.YtkefmnmoaomlhaaDoor.fnPlateNear
open Go Go.ChangeShapes Go.WideShapes Go.ChangeAt Go.RowKit Go.Proofs.YtkefmnmoaomlhaaDoorW
open Go.ChangeMaps (open_string shut_string)
def IsRow (k:IntKind)(w:World)(a:Option Addr)(len cap:Nat)(zs:List Int):Prop:=
 (a=none∧len=0∧cap=0∧zs=[]) ∨
 ∃ x,a=some x∧len≤cap∧cap≤maxLen∧zs.length=cap∧(∀ i,i<zs.length→w.cell? (x.add i)=some (.int k (zs.getD i 0)))∧∀ n∈zs,(Lit.int k n).wf=true
set_option maxRecDepth 100000 in
theorem lifted (os:Os)(started:os.Started)(H:Type)(enc:TypeId × Value→H):
  ReturnsInHanded {} Tryd.checked os 12 .any (fun w args=>(Rows.fnPlateNearSpec.pre enc Tryd.prog Tryd.f12 [] false w args∧laidMet Tryd.prog laidErr w)∧sizedMet enc Tryd.prog Tryd.f12 (OpenSpec.ofChange Rows.fnPlateNearSpec) false w args) (Rows.fnPlateNearSpec.post enc Tryd.prog Tryd.f12 false true false false):=by
 refine returnsInHanded_of_change_and (C:=Tryd.checked) (X:=fun w _=>laidMet Tryd.prog laidErr w) (fun _ _ _ hh h=>h.of_heap hh) own started (by kernel_rfl) Tryd.func12
  (ChangeSpec.witness_at (enc:=enc) (C:=Tryd.checked) (os:=os) (X:=fun w _=>laidMet Tryd.prog laidErr w) false (laidWorld os) #[.slice none 0 0] 8 rfl (by kernel_rfl) (by kernel_rfl) (by kernel_rfl) (by kernel_rfl) (by kernel_rfl) (laidWorld_met os _)) ?_
 intro W base args ds gs before hval0 hW hcnd hsz0 hL _;have hsz:(DataW.weightsEach Tryd.prog (Tryd.f12.params.toList++Rows.fnPlateNearSpec.plain.varTypes Tryd.prog) (ds++gs)).all (· ≤ reachBytes)=true:=hsz0;have hval:∀ (j:Nat) t v,Tryd.f12.params[j]?=some t→args[j]?=some v→Value.okWide Tryd.prog W .any base t v:=hval0;have hW':=hW;obtain⟨p,q,hA0,hV0,rfl,hfz,hnd⟩:=hW;have hA:DataW.TrodAll enc Tryd.prog W 0 (fun _=>true) true Tryd.f12.params.toList args.toList ds p:=hA0;have hV:DataW.TrodVars enc Tryd.prog W (fun _=>true) ["loop.example/mortiser/impl.errNoFrac"] gs q:=hV0;rw [Tryd.params12] at hA hval hsz;obtain⟨v0,vs0,d0,ds0,p0,q0,hargs,rfl,rfl,h0,r0⟩:=trodAll_cons hA;obtain⟨rfl,rfl,rfl⟩:=trodAll_nil r0;obtain rfl:args=#[v0]:=by cases args;simp_all
 obtain⟨a,st,hv,hcs,hs0,hz0⟩:=err_of_laid hL;obtain⟨rfl,rfl⟩:=hV.unique (errVars enc hv trivial _);have hE:ErrW W:=ErrW.of_var hv;obtain⟨a0,len0,cap0,rfl⟩:=okWide_slice Tryd.underlying22 (hval 0 22 v0 rfl rfl);have k0:=h0;have lt0:∀ x∈p0,x.block<W.heap.size:=by obtain⟨m,hm⟩:=k0;exact DataW.trod_lt m _ _ _ hm
 obtain⟨z0,w0⟩:∃ zs,IsRow .u8 W a0 len0 cap0 zs:=by
  obtain⟨fuel,hf⟩:=h0
  rcases open_ints Tryd.underlying22 Tryd.underlying5 (by kernel_rfl) hf with ⟨hcs,_⟩ | ⟨x,l,c,zs,hcs,_,hl,hm,hz,_,hcell,hwz⟩
  ·
   simp [Value.cells] at hcs;obtain⟨rfl,rfl,rfl⟩:=hcs;exact⟨[],.inl ⟨rfl,rfl,rfl,rfl⟩⟩
  ·
   simp [Value.cells] at hcs;obtain⟨rfl,rfl,rfl⟩:=hcs;exact⟨zs,.inr ⟨_,rfl,hl,hm,by simpa using hz,hcell,hwz⟩⟩
 have y0:len0*1≤140737488351232:=PrintWords.sized_ints hsz (j:=0) (t:=22) rfl rfl Tryd.underlying22 Tryd.underlying5 (by kernel_rfl) (by kernel_rfl) h0;clear hA0 hval0 hsz0 hsz;refine (X.laws_FnPlateNear.walk Pure.FnPlateNear a0 len0 cap0 z0 W hE w0 y0).mono fun e W' ⟨he,bel⟩=>?_
 subst he;exact⟨_,rfl,_,_,_,[],_,[.cell 0 0],hW',trodAll_mk1 (shut_bool Tryd.underlying4 _),(trodAll_cons_mk (Below.trod laidOut (by kernel_rfl) (of_decide_eq_true (by kernel_rfl)) k0 bel lt0) trodAll_mk0),errVars enc (errBelow bel hv) trivial _,bel.frame _,fun h=>by cases h⟩
theorem over:Rows.fnPlateNearRow.holds Tryd.pinned (OpenSpec.ofChange Rows.fnPlateNearSpec):=
 OpenClaim.holds_of_wide 12 Tryd.f12 rfl rfl rfl rfl rfl rfl rfl ⟨rfl,rfl,rfl,rfl,rfl⟩ rfl rfl rfl rfl rfl (by kernel_rfl) Tryd.func12 (by kernel_rfl)
  (of_decide_eq_true (by kernel_rfl)) (by unfold Func.isWrapper;first | (rw [if_pos (by decide +kernel)];kernel_rfl) | (rw [if_neg (by decide +kernel)];exact⟨rfl,rfl⟩))
  (fun os started H enc _=>lifted os started H enc)
theorem proved:Rows.FnPlateNearCardSaid:=
 Claim7.holds_tied_plain_at .later [] [.sentinel] true (true,"81de65706e8f648528cfb316c2c65b1eb27649638b9ac8b9a8b267c9286ff7f7") true
  over (fun _ h=>by cases h) (by kernel_rfl) (fun _ h=>by cases h) fnPlateNear_row_tie rfl ⟨rfl,rfl⟩ (by kernel_rfl) rfl
  (fun f fn hf hfn=>by
   obtain rfl:f=12:=Option.some.inj ((show Tryd.prog.funcNamed "loop.example/mortiser/laws.FnPlateNear" = some 12 by kernel_rfl).symm.trans hf) |>.symm
   obtain rfl:fn=Tryd.f12:=(Option.some.inj (Tryd.func12.symm.trans hfn)).symm
   exact⟨by kernel_rfl,fun j t ht=>by
    rw [Tryd.params12] at ht;have h3:t=22:=by
     rcases j with _ | j
     ·
      simpa using ht.symm
     ·
      simp at ht
    subst h3
    exact (show Tryd.prog.wantsStandIn 22=false by kernel_rfl)⟩)
  (by kernel_rfl)
end Go.Proofs.YtkefmnmoaomlhaaDoor.fnPlateNear
namespace Go.Proofs.YtkefmnmoaomlhaaDoor
theorem fnPlateNear_holds:Rows.FnPlateNearCardSaid:=fnPlateNear.proved
end Go.Proofs.YtkefmnmoaomlhaaDoor
end
