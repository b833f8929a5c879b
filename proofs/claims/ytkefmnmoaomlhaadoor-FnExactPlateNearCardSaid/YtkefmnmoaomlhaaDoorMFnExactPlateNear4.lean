/- FnExactPlateNear: the law returns true for every input, and each input reads behind the call as before; part 4 of 5. No condition. Merged by program out of: HBodyFar, HL3In, FSpecPlateOk, EvPlate, EvPlateS, HPlateFar, FSpecL11Edges, EvPlateF, EvDraws, Told. -/
import Derived.Test.YtkefmnmoaomlhaaDoorMFnExactPlateNear3
import Derived.Deep.LoopGhost
import Derived.Deep.RegionHeld3
import Derived.RegionTactic
import Derived.Deep.RegionWith
import Derived.Deep.Cut
set_option linter.all false
section
set_option linter.unusedVariables false
set_option linter.unusedSimpArgs false
namespace Go.Proofs.YtkefmnmoaomlhaaDoor.X
open Go.RowKit Go.Shelf Go.Proofs.YtkefmnmoaomlhaaDoorW.PrintWords Go.Proofs.YtkefmnmoaomlhaaDoorW.PrintLast Go.Proofs.YtkefmnmoaomlhaaDoorW.PrintMore
open Mort (edges segMeet loopOk ptOk inOf segFar segOk least fracOk fracCmp)
def runFar (p:Mort.Pt)(a:Mort.Frac)(es:List S61):Mort.Frac:=es.foldl (fun a s=>least a (segFar (sgP s) p)) a
theorem at_sg {W:World}{A:Option Addr}{n:Nat}{zs:List S61}(hC:Kd.C k61 W A n zs)(k:Nat)(h:k<n):
  ∃ ad,A=some ad∧W.cell? (ad.add (k*4))=some (.int .i64 (zs.getD k z61).f0.f0)∧W.cell? ⟨(ad.add (k*4)).block,(ad.add (k*4)).off+1,none⟩=some (.int .i64 (zs.getD k z61).f0.f1) ∧
   W.cell? ⟨(ad.add (k*4)).block,(ad.add (k*4)).off+2,none⟩=some (.int .i64 (zs.getD k z61).f1.f0)∧W.cell? ⟨(ad.add (k*4)).block,(ad.add (k*4)).off+3,none⟩=some (.int .i64 (zs.getD k z61).f1.f1):=
 at_T61 hC (k:Int) (by omega) (by omega)
theorem cut_from {P:Program}(t e:TypeId){i:TypeInfo}(ht:P.underlying t=some (.slice e))(hi:P.info? e=some i)(size:Nat)(hsz:i.size=size)(A:Option Addr)(n c m:Nat)(hm:m≤n):
  ∀ W:World,(Instr.slice t (.slice A n c) (some (.int .i64 (m:Int))) none none).run P W=.ok (.slice (if c=m then A else A.map (·.add (m*size))) (n-m) (c-m)) W:=by
 intro W;have hel:P.elem t=e:=by simp [Program.elem,ht]
 have hu:P.underlying t=some (.slice (P.elem t)):=by rw [hel];exact ht
 rw [run_slice_l W t A n c hu .i64 (m:Int) (Int.natCast_nonneg _) (by omega),hel];simp [sizeOf,typeInfo,hi,hsz,sliced,Result.andThen]
theorem cut_one (A:Option Addr)(n c:Nat)(h:1≤n)(W:World):(Instr.slice 57 (.slice A n c) (some (.int .i64 1)) none none).run Tryd.prog W=.ok (.slice (if c=1 then A else A.map (·.add (1*4))) (n-1) (c-1)) W:=by
 obtain⟨i0,hi,hz0,hz1,hz2⟩:=info_parts info61;exact cut_from 57 61 Tryd.underlying57 hi 4 hz1 A n c 1 h W
theorem segFar_f (a b c d e f:Int):impl_SegFar.f a b c d e f=some ((segFar ((a,b),(c,d)) (e,f)).1,(segFar ((a,b),(c,d)) (e,f)).2):=by unfold impl_SegFar.f;rfl
theorem segFar_told (s:S61)(x y:Int)(f:Mort.Frac)(w:World)(h:segFar (sgP s) (x,y)=f):
  Calls Tryd.prog 37 #[.agg #[.int .i64 s.f0.f0,.int .i64 s.f0.f1,.int .i64 s.f1.f0,.int .i64 s.f1.f1],.agg #[.int .i64 x,.int .i64 y]] w fun e w'=>e=.returned (.agg #[.int .i64 f.1,.int .i64 f.2])∧Below w.heap.size w w':=by
 have h1:segFar ((s.f0.f0,s.f0.f1),(s.f1.f0,s.f1.f1)) (x,y)=f:=h;have h2:=segFar_f s.f0.f0 s.f0.f1 s.f1.f0 s.f1.f1 x y;rw [h1] at h2;exact impl_SegFar.calls s.f0.f0 s.f0.f1 s.f1.f0 s.f1.f1 x y f.1 f.2 w h2
set_option maxHeartbeats 4000000 in
set_option maxRecDepth 100000 in
theorem far_calls (b c:Nat)(A:Option Addr)(e0:S61)(es:List S61)(x y:Int)(r:Mort.Frac)(w:World)(hcell:w.cell? ⟨b,2,none⟩=some (.slice A (e0::es).length c))(hcap:(e0::es).length≤c)
  (hC:Kd.C k61 w A (e0::es).length (e0::es)) (hok:∀ s∈e0::es,segOk (sgP s)=true) (hp:ptOk (x,y)=true) (hE:ErrW w) (hreach:es.length≤1000000) (h:runFar (x,y) (segFar (sgP e0) (x,y)) es=r) :
  Calls Tryd.prog 62 #[.pointer (some ⟨b,0,none⟩),.agg #[.int .i64 x,.int .i64 y]] w fun e w'=>e=.returned (.agg #[.int .i64 r.1,.int .i64 r.2])∧Below w.heap.size w w':=by
 have hu35:=Tryd.underlying35;have hu28:=Tryd.underlying28;have hu61:=Tryd.underlying61;have hcut:=cut_one A (e0::es).length c (by simp);have hC1:=Kd.C_drop (m:=1) hC (by simp) hcap;obtain⟨ad,hA,hx0,hx1,hx2,hx3⟩:=at_sg hC 0 (by simp);rw [Nat.zero_mul,show ad.add 0=ad from rfl] at hx0 hx1 hx2 hx3;generalize hA1:(if c=1 then A else A.map (·.add (1*4)))=A1 at hcut;have hC2:Kd.C k61 w A1 es.length es:=by rw [← hA1];exact hC1
 have HK:=a0_ (And.intro hC2 (And.intro hok (And.intro hp (And.intro hE (And.intro hreach h)))));clear hC1 hC2 hC hok hp hE hreach h;have hlen:(e0::es).length=es.length+1:=rfl;rw [hlen] at hcell hcap hcut;clear hlen hA1;subst hA;have ef0:((e0::es).getD 0 z61)=e0:=rfl;rw [ef0] at hx0 hx1 hx2 hx3;clear ef0;have hs0:=segFar_told e0 x y;generalize hf0:segFar (sgP e0) (x,y)=f0 at hs0;have HF:=Aside0.mk hf0;clear hf0;go_enter Tryd.func62,Tryd.ntmps62;go_wp2;have hb0:=below_drew1 (below_alloc (below_alloc (Below.refl w.heap.size w) (.cells #[.int .i64 x,.int .i64 y] 28)) (.cells #[.int .i64 0,.int .i64 0] 35));have lo2:=pw_cell_below hb0 hcell;have y0:=pw_cell_below hb0 hx0;have y1:=pw_cell_below hb0 hx1;have y2:=pw_cell_below hb0 hx2;have y3:=pw_cell_below hb0 hx3;have nb:=blk_alloc (blk_new w (.cells #[.int .i64 x,.int .i64 y] 28 (0,0))) (.cells #[.int .i64 0,.int .i64 0] 35);have nf:=blk_new (w.alloc (.cells #[.int .i64 x,.int .i64 y] 28)) (.cells #[.int .i64 0,.int .i64 0] 35 (0,0));generalize hW0:((w.alloc (.cells #[.int .i64 x,.int .i64 y] 28)).alloc (.cells #[.int .i64 0,.int .i64 0] 35)).drew=W0 at *;have n0:W0.heap[w.heap.size]?=some (.cells #[.int .i64 x,.int .i64 y] 28 (0,0)):=by rw [← hW0];exact nb
 have n1:W0.heap[w.heap.size+1]?=some (.cells #[.int .i64 0,.int .i64 0] 35 (0,0)):=by rw [← hW0];have:=nf;rwa [World.size_alloc] at this
 have hsz:W0.heap.size=w.heap.size+2:=by rw [← hW0];show (World.alloc _ _).heap.size=_;rw [World.size_alloc,World.size_alloc]
 have hal:=below_alloc (Below.refl W0.heap.size W0) (.cells #[.int .i64 0,.int .i64 0] 35);have nn:=blk_new W0 (.cells #[.int .i64 0,.int .i64 0] 35 (0,0));have a0:W0.cell? ⟨w.heap.size,0,none⟩=some (.int .i64 x):=(blk_cell n0 0).trans rfl;have a1:W0.cell? ⟨w.heap.size,1,none⟩=some (.int .i64 y):=(blk_cell n0 1).trans rfl;generalize hg:w.heap.size=g at *;have HW0:=Aside0.mk hW0;have hG:=Aside0.mk hg;have hcutA:=Aside0.mk hcut;clear hcut hW0;have KS:∀ w',Below W0.heap.size W0 w'→(fun w'=>w'.cell? ⟨b,2,none⟩=some (.slice (some ad) (es.length+1) c)∧w'.cell? ad=some (.int .i64 e0.f0.f0)∧w'.cell? ⟨ad.block,ad.off+1,none⟩=some (.int .i64 e0.f0.f1)∧w'.cell? ⟨ad.block,ad.off+2,none⟩=some (.int .i64 e0.f1.f0)∧w'.cell? ⟨ad.block,ad.off+3,none⟩=some (.int .i64 e0.f1.f1)∧w'.cell? ⟨g,0,none⟩=some (.int .i64 x)∧w'.cell? ⟨g,1,none⟩=some (.int .i64 y)) w':=fun w' hb=>⟨pw_cell_below hb lo2,pw_cell_below hb y0,pw_cell_below hb y1,pw_cell_below hb y2,pw_cell_below hb y3,pw_cell_below hb a0,pw_cell_below hb a1⟩
 refine start_ (n:=10) (S:=fun w'=>w'.cell? ⟨b,2,none⟩=some (.slice (some ad) (es.length+1) c)∧w'.cell? ad=some (.int .i64 e0.f0.f0)∧w'.cell? ⟨ad.block,ad.off+1,none⟩=some (.int .i64 e0.f0.f1)∧w'.cell? ⟨ad.block,ad.off+2,none⟩=some (.int .i64 e0.f1.f0)∧w'.cell? ⟨ad.block,ad.off+3,none⟩=some (.int .i64 e0.f1.f1)∧w'.cell? ⟨g,0,none⟩=some (.int .i64 x)∧w'.cell? ⟨g,1,none⟩=some (.int .i64 y)) (ds:=[]) (Array.replicate 10 false) (by kernel_rfl) rfl rfl (by have:=KS W0 (Below.refl _ _);rw [← HW0.out] at this;exact this) (fun hHeld=>?_);rw [HW0.out] at hHeld ⊢
 refine pv_ 0 9 (bm 10 1) ?_;refine pv_ 1 10 (bm 10 3) ?_;refine pv_ 2 11 (bm 10 7) ?_;refine tb7_ 3 12 (bm 10 15) hHeld ?_;refine pv_ 4 13 (bm 10 31) ?_;refine tb7_ 5 14 (bm 10 63) hHeld ?_;refine tb7_ 6 15 (bm 10 127) hHeld ?_;refine join_ (σ:=Nat) 1 (bm 10 511) (fun s_=>[(16,.agg #[.int .i64 f0.1,.int .i64 f0.2]),(5,.pointer (some ⟨s_,0,none⟩))]) (fun s_ w'=>(fun w'=>w'.cell? ⟨b,2,none⟩=some (.slice (some ad) (es.length+1) c)∧w'.cell? ad=some (.int .i64 e0.f0.f0)∧w'.cell? ⟨ad.block,ad.off+1,none⟩=some (.int .i64 e0.f0.f1)∧w'.cell? ⟨ad.block,ad.off+2,none⟩=some (.int .i64 e0.f1.f0)∧w'.cell? ⟨ad.block,ad.off+3,none⟩=some (.int .i64 e0.f1.f1)∧w'.cell? ⟨g,0,none⟩=some (.int .i64 x)∧w'.cell? ⟨g,1,none⟩=some (.int .i64 y)) w'∧w'.heap[s_]?=some (.cells #[.int .i64 0,.int .i64 0] 35 (0,0))∧W0.heap.size≤s_∧Below W0.heap.size W0 w') ?_ ?_;rotate_left
 ·
  intro hCont;refine two_ (i:=7) (j:=8) (Ni:=some 16) (Nj:=some 5) (bm 10 255) (bm 10 383) rfl rfl rfl rfl (by kernel_rfl) (by decide) (by decide) (fun K hK=>?_) (fun K hK=>?_)
  ·
   skip;refine goes_ Tryd.func37 (by kernel_rfl) rfl #[.agg #[.int .i64 e0.f0.f0,.int .i64 e0.f0.f1,.int .i64 e0.f1.f0,.int .i64 e0.f1.f1],.agg #[.int .i64 x,.int .i64 y]] (by rfl) rfl rfl (by (try simp only [List.map_toArray,List.map_cons,List.map_nil]);first | done | rfl) ?_;refine (segFar_told e0 x y f0 _ HF.out).mono ?_;rintro e w1 ⟨rfl,hb⟩;refine⟨_,rfl,?_⟩;refine hK.out _ _ (KS _ hb) (fun hHeld=>?_);clear hK K;refine no_ (h:=?_);refine one_ (i:=8) (N:=some 5) (bm 10 511) rfl rfl (by kernel_rfl) (by decide) (fun K hK=>?_);refine box_step ?hg (N:=5) ?hd (cs:=#[.int .i64 0,.int .i64 0]) (t:=35) ?hr ?_;(case hd=>rfl);(case hg=>rfl);(case hr=>first | (go_simp;done) | (go_simp;rfl));intro gb hgb w2 hbox hbb;refine hK.out _ _ (KS _ (below_step hb hbb)) (fun hHeld=>?_);clear hK K;refine no_ (h:=?_);exact norm_ (by simp only [putAll,Act.put,List.setIfInBounds_toArray,List.set_cons_zero,List.set_cons_succ]) (hCont gb _ ⟨hHeld,hbox,hgb▸hb.size,below_step hb hbb⟩)
  ·
   skip;refine box_step ?hg (N:=5) ?hd (cs:=#[.int .i64 0,.int .i64 0]) (t:=35) ?hr ?_;(case hd=>rfl);(case hg=>rfl);(case hr=>first | (go_simp;done) | (go_simp;rfl));intro gb hgb w1 hbox hbb;refine hK.out _ _ (KS _ hbb) (fun hHeld=>?_);clear hK K;refine no_ (h:=?_);refine one_ (i:=7) (N:=some 16) (bm 10 511) rfl rfl (by kernel_rfl) (by decide) (fun K hK=>?_);refine goes_ Tryd.func37 (by kernel_rfl) rfl #[.agg #[.int .i64 e0.f0.f0,.int .i64 e0.f0.f1,.int .i64 e0.f1.f0,.int .i64 e0.f1.f1],.agg #[.int .i64 x,.int .i64 y]] (by rfl) rfl rfl (by (try simp only [List.map_toArray,List.map_cons,List.map_nil]);first | done | rfl) ?_;refine (segFar_told e0 x y f0 _ HF.out).mono ?_;rintro e w2 ⟨rfl,hb⟩;refine⟨_,rfl,?_⟩;refine hK.out _ _ (KS _ (below_step hbb hb)) (fun hHeld=>?_);clear hK K;refine no_ (h:=?_);exact norm_ (by simp only [putAll,Act.put,List.setIfInBounds_toArray,List.set_cons_zero,List.set_cons_succ]) (hCont gb _ ⟨hHeld,blk_below hbox hb,Nat.le_of_eq hgb.symm,below_step hbb hb⟩)
 rintro n w4 ⟨hHeld,hbn,hnW,hb4⟩;refine norm_ (a':=?_) ?_ ?_;rotate_left
 ·
  simp only [putAll,Act.put,List.setIfInBounds_toArray,List.set_cons_zero,List.set_cons_succ];rfl
 refine one_ (i:=9) (N:=none) (bm 10 1023) rfl rfl (by kernel_rfl) (by decide) (fun K hK=>?_);have hs1:w4.cell? ⟨n,0,none⟩=some (.int .i64 0):=(blk_cell hbn 0).trans rfl;have hs2:w4.cell? ⟨n,1,none⟩=some (.int .i64 0):=(blk_cell hbn 1).trans rfl;have hf1:=blk_frozen hbn 0;have hf2:=blk_frozen hbn 1;refine skip_ (w1:=?_) (by rfl) rfl ?_ ?_;rotate_left
 ·
  go_simp;rfl
 have hb5:Below W0.heap.size W0 ((w4.setCell ⟨n,0,none⟩ (.int .i64 f0.1)).setCell ⟨n,1,none⟩ (.int .i64 f0.2)):=(hb4.setCell (p:=⟨n,0,none⟩) hnW _).setCell (p:=⟨n,1,none⟩) hnW _;have hbn5:((w4.setCell ⟨n,0,none⟩ (.int .i64 f0.1)).setCell ⟨n,1,none⟩ (.int .i64 f0.2)).heap[n]?=some (.cells #[.int .i64 f0.1,.int .i64 f0.2] 35 (0,0)):=blk_put (blk_put hbn 0 _ rfl) 1 _ rfl;refine hK.out _ _ (KS _ hb5) (fun hHeld2=>?_);clear hK K;refine done_ (by kernel_rfl) ?_;generalize (w4.setCell ⟨n,0,none⟩ (.int .i64 f0.1)).setCell ⟨n,1,none⟩ (.int .i64 f0.2)=w5 at *;clear hs1 hs2 hf1 hf2 hbn hb4 hHeld hHeld2;have hcut:=hcutA.out;have c5:=pw_cell_below hb5 lo2;have HS:=a0_ (And.intro n0 (And.intro n1 (And.intro hb0 (And.intro hbn5 (And.intro hb5 (And.intro hnW hsz))))));clear hs0 nb nf n0 n1 hsz a0 a1 hal nn y0 y1 y2 y3 hx0 hx1 hx2 hx3 hb0 KS hHeld hb5 hbn5 hnW;go_wp2;clear c5 lo2
 go_loopg [23] es.length (fun kq v23 wr=>∃ (i:Nat) (a1 a2:Int),v23=.int .i64 (i:Int)∧Aside0 (kq=es.length-i∧i≤es.length∧wr.heap[g]?=some (.cells #[.int .i64 x,.int .i64 y] 28 (0,0))∧wr.heap[g+1]?=some (.cells #[.int .i64 0,.int .i64 0] 35 (0,0)) ∧
   wr.heap[n]?=some (.cells #[.int .i64 a1,.int .i64 a2] 35 (0,0))∧fracOk (a1,a2)=true∧runFar (x,y) (a1,a2) (es.drop i)=r∧Below g w wr∧g+1<n))
 case atStart =>
  obtain⟨h1,h2,h3,h4,h5,h6,h7⟩:=HS.out;obtain⟨k1,k2,k3,k4,k5,k6⟩:=HK.out;have e1:=HF.out;refine⟨0,f0.1,f0.2,rfl,⟨rfl,Nat.zero_le _,blk_later h1 h5,blk_later h2 h5,h4,?_,?_,h3.trans (h5.mono (by omega)),by omega⟩⟩
  ·
   rw [show (f0.1,f0.2)=f0 from rfl,← e1];exact (Mort.segFar_ok (k2 e0 List.mem_cons_self) k3).1
  ·
   rw [show (f0.1,f0.2)=f0 from rfl,← e1];exact k6
 case round =>
  obtain⟨i,a1,a2,rfl,H1⟩:=hrel;obtain⟨hk,hi,hpb,hrb,hnb,hfo,hrun,hBw,hgn⟩:=H1.out;clear H1 HS;by_cases hlt:i<es.length
  ·
   have hd:decide ((i:Int)<(es.length:Int))=true:=decide_eq_true (by omega);obtain⟨adr,hadr,z0,z1,z2,z3⟩:=at_sg HK.out.1 i hlt;subst hadr;have hgi:g=w.heap.size:=hG.out.symm;have t0:=(hBw.cell (by have:=World.block_lt_of_cell? w _ z0;rw [hgi];exact this)).trans z0;have t1:=(hBw.cell (p:=⟨(adr.add (i*4)).block,(adr.add (i*4)).off+1,none⟩) (by have:=World.block_lt_of_cell? w _ z1;rw [hgi];exact this)).trans z1;have t2:=(hBw.cell (p:=⟨(adr.add (i*4)).block,(adr.add (i*4)).off+2,none⟩) (by have:=World.block_lt_of_cell? w _ z2;rw [hgi];exact this)).trans z2;have t3:=(hBw.cell (p:=⟨(adr.add (i*4)).block,(adr.add (i*4)).off+3,none⟩) (by have:=World.block_lt_of_cell? w _ z3;rw [hgi];exact this)).trans z3;have hes:es.drop i=es.getD i z61::es.drop (i+1):=by rw [List.drop_eq_getElem_cons hlt,List.getD_eq_getElem?_getD,List.getElem?_eq_getElem hlt];rfl
   have hmem:es.getD i z61∈e0::es:=by rw [List.getD_eq_getElem?_getD,List.getElem?_eq_getElem hlt];exact List.mem_cons_of_mem _ (List.getElem_mem hlt)
   rw [hes] at hrun;generalize es.getD i z61=s0 at *;have hfar:=segFar_told s0 x y;have hsg:fracOk (segFar (sgP s0) (x,y))=true:=(Mort.segFar_ok (HK.out.2.1 s0 hmem) HK.out.2.2.1).1;have hrun2:runFar (x,y) (least (a1,a2) (segFar (sgP s0) (x,y))) (es.drop (i+1))=r:=hrun;generalize segFar (sgP s0) (x,y)=f1 at *;have hF1:fracOk (f1.1,f1.2)=true:=hsg;have hcm:impl_FracCmp.f f1.1 f1.2 a1 a2=some (Mort.cmp0 f1 (a1,a2)):=by unfold impl_FracCmp.f;rw [Mort.fracCmp_ok hF1 hfo]
   have hE2:ErrW wr:=HK.out.2.2.2.1.below (hgi▸hBw);have hcl:least (a1,a2) f1=if Mort.cmp0 f1 (a1,a2)<0 then f1 else (a1,a2):=rfl;generalize Mort.cmp0 f1 (a1,a2)=cv at hcm hcl;have p0:wr.cell? ⟨g,0,none⟩=some (.int .i64 x):=(blk_cell hpb 0).trans rfl;have p1:wr.cell? ⟨g,1,none⟩=some (.int .i64 y):=(blk_cell hpb 1).trans rfl;have q0:wr.cell? ⟨n,0,none⟩=some (.int .i64 a1):=(blk_cell hnb 0).trans rfl;have q1:wr.cell? ⟨n,1,none⟩=some (.int .i64 a2):=(blk_cell hnb 1).trans rfl;have HL:=a0_ (And.intro hk (And.intro hpb (And.intro hrb (And.intro hnb (And.intro hfo (And.intro hrun2 (And.intro hBw (And.intro hgn (And.intro hE2 (And.intro hcm (And.intro hF1 hlt)))))))))));clear hk hi hpb hrb hnb hfo hrun hrun2 hBw hgn hE2 hcm hF1 hsg hes hmem z0 z1 z2 z3 hgi hcut;have hal:=below_alloc (Below.refl wr.heap.size wr) (.cells #[.int .i64 s0.f0.f0,.int .i64 s0.f0.f1,.int .i64 s0.f1.f0,.int .i64 s0.f1.f1] 61);have p0':=pw_cell_below hal p0;have p1':=pw_cell_below hal p1;have HAL:=Aside0.mk hal;have HQ:=a0_ (And.intro q0 q1);have HCL:=Aside0.mk hcl;clear hal q0 q1 p0 p1 hcl;by_cases hlt0:cv<0
   ·
    have hdc:decide (cv<0)=true:=decide_eq_true hlt0;have HLT:=Aside0.mk hlt0;clear hlt0;go_wp2_with (first | (go_at_call 37;refine (hfar f1 _ rfl).mono ?_;rintro e w6 ⟨rfl,hb6⟩;have q0':=pw_cell_below (below_alloc (Below.refl w6.heap.size w6) (.cells #[.int .i64 f1.1,.int .i64 f1.2] 35)) (pw_cell_below hb6 (pw_cell_below HAL.out HQ.out.1));have q1':=pw_cell_below (below_alloc (Below.refl w6.heap.size w6) (.cells #[.int .i64 f1.1,.int .i64 f1.2] 35)) (pw_cell_below hb6 (pw_cell_below HAL.out HQ.out.2));have HB6:=Aside0.mk hb6;clear hb6) | (go_at_call 21;refine (impl_FracCmp.calls f1.1 f1.2 a1 a2 cv _ ((HL.out.2.2.2.2.2.2.2.2.1.below (below_step HAL.out HB6.out)).below (below_alloc (Below.refl _ _) _)) HL.out.2.2.2.2.2.2.2.2.2.1).mono ?_;rintro e w7 ⟨rfl,hb7⟩;have q0'':=pw_cell_below hb7 q0';have q1'':=pw_cell_below hb7 q1';have m7:=blk_later (blk_new w6 (.cells #[.int .i64 f1.1,.int .i64 f1.2] 35 (0,0))) hb7;have m70:w7.cell? ⟨w6.heap.size,0,none⟩=some (.int .i64 f1.1):=(blk_cell m7 0).trans rfl;have m71:w7.cell? ⟨w6.heap.size,1,none⟩=some (.int .i64 f1.2):=(blk_cell m7 1).trans rfl;have n7:=blk_later (blk_alloc (blk_later (blk_later HL.out.2.2.2.1 HAL.out) HB6.out) (.cells #[.int .i64 f1.1,.int .i64 f1.2] 35)) hb7;have n70:=blk_frozen n7 0;have n71:=blk_frozen n7 1;have HB7:=a0_ (below_step (below_alloc (below_step HAL.out HB6.out) (.cells #[.int .i64 f1.1,.int .i64 f1.2] 35)) hb7);clear hb7));obtain⟨k1,k2,k3,k4,k5,k6,k7,k8,k9,k10,k11,k12⟩:=HL.out;have hB7:=HB7.out;go_roundg (es.length-(i+1))
    case measure=>omega
    case rel =>
     have hnlt:w.heap.size≤n:=by have:=hG.out;omega
     have e1:((w7.setCell ⟨n,0,none⟩ (.int .i64 f1.1)).setCell ⟨n,1,none⟩ (.int .i64 f1.2)).heap[g]?=w7.heap[g]?:=(Below.heap_setCell _ ⟨n,1,none⟩ _ g (by show g≠n;omega)).trans (Below.heap_setCell _ ⟨n,0,none⟩ _ g (by show g≠n;omega));have e2:((w7.setCell ⟨n,0,none⟩ (.int .i64 f1.1)).setCell ⟨n,1,none⟩ (.int .i64 f1.2)).heap[g+1]?=w7.heap[g+1]?:=(Below.heap_setCell _ ⟨n,1,none⟩ _ (g+1) (by show g+1≠n;omega)).trans (Below.heap_setCell _ ⟨n,0,none⟩ _ (g+1) (by show g+1≠n;omega));refine⟨i+1,f1.1,f1.2,?_,⟨rfl,by omega,e1.trans (blk_later k2 hB7),e2.trans (blk_later k3 hB7),blk_put (blk_put n7 0 _ rfl) 1 _ rfl,k11,?_,?_,k8⟩⟩
     ·
      have hw:wrap64 ((i:Int)+1)=(i:Int)+1:=by have:=HK.out.2.2.2.2.1;unfold wrap64;omega
      rw [hw];rfl
     ·
      have:=HCL.out;rw [if_pos HLT.out] at this;rw [this] at k6;exact k6
     ·
      exact ((k7.trans (hB7.mono (hG.out▸(hG.out▸k7).size))).setCell (p:=⟨n,0,none⟩) (by show g≤n;omega) _).setCell (p:=⟨n,1,none⟩) (by show g≤n;omega) _
   ·
    have hdc:decide (cv<0)=false:=decide_eq_false hlt0;have HLT:=Aside0.mk hlt0;clear hlt0;go_wp2_with (first | (go_at_call 37;refine (hfar f1 _ rfl).mono ?_;rintro e w6 ⟨rfl,hb6⟩;have q0':=pw_cell_below (below_alloc (Below.refl w6.heap.size w6) (.cells #[.int .i64 f1.1,.int .i64 f1.2] 35)) (pw_cell_below hb6 (pw_cell_below HAL.out HQ.out.1));have q1':=pw_cell_below (below_alloc (Below.refl w6.heap.size w6) (.cells #[.int .i64 f1.1,.int .i64 f1.2] 35)) (pw_cell_below hb6 (pw_cell_below HAL.out HQ.out.2));have HB6:=Aside0.mk hb6;clear hb6) | (go_at_call 21;refine (impl_FracCmp.calls f1.1 f1.2 a1 a2 cv _ ((HL.out.2.2.2.2.2.2.2.2.1.below (below_step HAL.out HB6.out)).below (below_alloc (Below.refl _ _) _)) HL.out.2.2.2.2.2.2.2.2.2.1).mono ?_;rintro e w7 ⟨rfl,hb7⟩;have q0'':=pw_cell_below hb7 q0';have q1'':=pw_cell_below hb7 q1';have m7:=blk_later (blk_new w6 (.cells #[.int .i64 f1.1,.int .i64 f1.2] 35 (0,0))) hb7;have m70:w7.cell? ⟨w6.heap.size,0,none⟩=some (.int .i64 f1.1):=(blk_cell m7 0).trans rfl;have m71:w7.cell? ⟨w6.heap.size,1,none⟩=some (.int .i64 f1.2):=(blk_cell m7 1).trans rfl;have n7:=blk_later (blk_alloc (blk_later (blk_later HL.out.2.2.2.1 HAL.out) HB6.out) (.cells #[.int .i64 f1.1,.int .i64 f1.2] 35)) hb7;have n70:=blk_frozen n7 0;have n71:=blk_frozen n7 1;have HB7:=a0_ (below_step (below_alloc (below_step HAL.out HB6.out) (.cells #[.int .i64 f1.1,.int .i64 f1.2] 35)) hb7);clear hb7));obtain⟨k1,k2,k3,k4,k5,k6,k7,k8,k9,k10,k11,k12⟩:=HL.out;have hB7:=HB7.out;go_roundg (es.length-(i+1))
    case measure=>omega
    case rel =>
     refine⟨i+1,a1,a2,?_,⟨rfl,by omega,blk_later k2 hB7,blk_later k3 hB7,n7,k5,?_,k7.trans (hB7.mono (hG.out▸(hG.out▸k7).size)),k8⟩⟩
     ·
      have hw:wrap64 ((i:Int)+1)=(i:Int)+1:=by have:=HK.out.2.2.2.2.1;unfold wrap64;omega
      rw [hw];rfl
     ·
      have:=HCL.out;rw [if_neg (by have:=HLT.out;omega)] at this;rw [this] at k6;exact k6
  ·
   obtain rfl:i=es.length:=by omega
   have hd:decide ((es.length:Int)<(es.length:Int))=false:=decide_eq_false (by omega);have q0:wr.cell? ⟨n,0,none⟩=some (.int .i64 a1):=(blk_cell hnb 0).trans rfl;have q1:wr.cell? ⟨n,1,none⟩=some (.int .i64 a2):=(blk_cell hnb 1).trans rfl;have q2:wr.cell? ⟨g+1,0,none⟩=some (.int .i64 0):=(blk_cell hrb 0).trans rfl;have q3:wr.cell? ⟨g+1,1,none⟩=some (.int .i64 0):=(blk_cell hrb 1).trans rfl;have q4:=blk_frozen hrb 0;have q5:=blk_frozen hrb 1;have hrr:(a1,a2)=r:=by rw [← hrun,List.drop_length];rfl
   obtain⟨r1,r2⟩:=r;cases hrr;have hrb':=blk_put (blk_put hrb 0 (.int .i64 a1) rfl) 1 (.int .i64 a2) rfl;have HR2:=Aside0.mk hrb';have q6:((wr.setCell ⟨g+1,0,none⟩ (.int .i64 a1)).setCell ⟨g+1,1,none⟩ (.int .i64 a2)).cell? ⟨g+1,0,none⟩=some (.int .i64 a1):=(blk_cell hrb' 0).trans rfl;have q7:((wr.setCell ⟨g+1,0,none⟩ (.int .i64 a1)).setCell ⟨g+1,1,none⟩ (.int .i64 a2)).cell? ⟨g+1,1,none⟩=some (.int .i64 a2):=(blk_cell hrb' 1).trans rfl;have HB:=Aside0.mk hBw;clear hrun hBw hnb hrb hpb hk hi hlt hfo hgn hcut hrb';go_wp2;refine bodyPost_ret (results_cell_row rfl _ _ (g+1) 35 #[.int .i64 a1,.int .i64 a2] (0,0) _ rfl HR2.out Tryd.underlying35 rfl (by kernel_rfl)) rfl ?_;refine⟨rfl,?_⟩;exact (HB.out.setCell (p:=⟨g+1,0,none⟩) (Nat.le_succ g) _).setCell (p:=⟨g+1,1,none⟩) (Nat.le_succ g) _
def farE (E:List S61)(p:Mort.Pt):Mort.Frac:=match E with
 | []=>(0,0)
 | e0::es=>runFar p (segFar (sgP e0) p) es
theorem bodyOkB_iff (o:List S28)(H:List (List S28)):bodyOkB o H=true ↔ H.length≤2∧loopOk (o.map ptP)=true∧(∀ z∈H,loopOk (z.map ptP)=true)∧apartAll (o::H)=true∧nestedAll o H=true:=by
 unfold bodyOkB;simp only [Bool.and_eq_true,decide_eq_true_eq,List.all_eq_true]
theorem edgesS_ok {z:List S28}(h:loopOk (z.map ptP)=true):∀ s∈edgesS z,segOk (sgP s)=true:=by
 intro s hs;unfold edgesS at hs;obtain⟨i,_,rfl⟩:=List.mem_map.1 hs;have h1:=((Mort.loopOk_iff _).1 h).2.2.1;have:=h1 _ (Mort.mem_edges.2 ⟨i,by simpa using i.2,rfl⟩)
 rwa [ed_edS] at this
theorem allEdges_ok {o:List S28}{H:List (List S28)}(h:bodyOkB o H=true):∀ s∈allEdges (o::H),segOk (sgP s)=true:=by
 intro s hs;obtain⟨_,h1,h2,_⟩:=(bodyOkB_iff o H).1 h;unfold allEdges at hs;obtain⟨z,hz,hs2⟩:=List.mem_flatMap.1 hs
 rcases List.mem_cons.1 hz with rfl | hz
 ·
  exact edgesS_ok h1 s hs2
 ·
  exact edgesS_ok (h2 z hz) s hs2
theorem loop_len {z:List S28}(h:loopOk (z.map ptP)=true):3≤z.length∧z.length≤8:=by
 obtain⟨h1,h2,_⟩:=(Mort.loopOk_iff _).1 h
 simpa using And.intro h1 h2
theorem small_of {o:List S28}{H:List (List S28)}(h:bodyOkB o H=true):Small (o::H):=by
 obtain⟨_,h1,h2,_⟩:=(bodyOkB_iff o H).1 h;intro z hz
 rcases List.mem_cons.1 hz with rfl | hz
 ·
  have:=loop_len h1;omega
 ·
  have:=loop_len (h2 z hz);omega
theorem allEdges_cons {o:List S28}{H:List (List S28)}(h:bodyOkB o H=true):∃ e0 es,allEdges (o::H)=e0::es∧es.length≤23:=by
 obtain⟨h0,h1,h2,_⟩:=(bodyOkB_iff o H).1 h;have hl:=allEdges_len (small_of h);have hp:0<(allEdges (o::H)).length:=by
  unfold allEdges;rw [List.flatMap_cons,List.length_append];have:(edgesS o).length=o.length:=by simp [edgesS]
  have:=loop_len h1;omega
 simp only [List.length_cons] at hl
 cases hE:allEdges (o::H) with
 | nil=>rw [hE] at hp;simp at hp
 | cons e0 es=>exact⟨e0,es,rfl,by rw [hE] at hl;simp only [List.length_cons] at hl;omega⟩
section
variable (A0_0:Option Addr) (c0_0:Nat) (l0_0:List S28) (A0_1:Option Addr) (c0_1:Nat) (l0_1:List (List S28))
end
end Go.Proofs.YtkefmnmoaomlhaaDoor.X
end
section
set_option linter.unusedVariables false
set_option linter.unusedSimpArgs false
namespace Go.Proofs.YtkefmnmoaomlhaaDoor.X
open Go.RowKit Go.Shelf Go.Proofs.YtkefmnmoaomlhaaDoorW.PrintWords Go.Proofs.YtkefmnmoaomlhaaDoorW.PrintLast Go.Proofs.YtkefmnmoaomlhaaDoorW.PrintMore
open Mort (edges loopOk ptOk inOf inRun crsI cross has)
def spec_l3In.f (l0:List S28)(a1_0 a1_1:Int):Option Int:=if loopOk (l0.map ptP)=true∧ptOk (a1_0,a1_1)=true then some (inOf (l0.map ptP) (a1_0,a1_1)) else none
theorem at_sg3 {W:World}{A:Option Addr}{n:Nat}{zs:List S61}(hC:Kd.C k61 W A n zs)(k:Nat)(h:k<n):
  ∃ ad,A=some ad∧W.cell? (ad.add (k*4))=some (.int .i64 (zs.getD k z61).f0.f0)∧W.cell? ⟨(ad.add (k*4)).block,(ad.add (k*4)).off+1,none⟩=some (.int .i64 (zs.getD k z61).f0.f1) ∧
   W.cell? ⟨(ad.add (k*4)).block,(ad.add (k*4)).off+2,none⟩=some (.int .i64 (zs.getD k z61).f1.f0)∧W.cell? ⟨(ad.add (k*4)).block,(ad.add (k*4)).off+3,none⟩=some (.int .i64 (zs.getD k z61).f1.f1):=
 at_T61 hC (k:Int) (by omega) (by omega)
def upC (lo hi p:Mort.Pt):Bool:=decide (lo.2≤p.2) && (decide (p.2<hi.2) && decide (0<cross lo hi p))
theorem crs_up (a b p:Mort.Pt):crsI (a,b) p=if b.2<a.2 then upC b a p else upC a b p:=by
 unfold crsI upC;simp only;have hr:=Mort.cross_rev a b p;by_cases h:b.2<a.2
 ·
  rw [if_pos h];have e1:(decide (a.2≤p.2) && (decide (p.2<b.2) && decide (0<cross a b p)))=false:=by
   by_cases h1:a.2≤p.2
   ·
    rw [decide_eq_false (show ¬ p.2<b.2 by omega)];simp
   ·
    rw [decide_eq_false h1];rfl
  rw [e1,Bool.false_or,hr]
  congr 2
  rw [decide_eq_decide];omega
 ·
  rw [if_neg h];have e1:(decide (b.2≤p.2) && (decide (p.2<a.2) && decide (cross a b p<0)))=false:=by
   by_cases h1:b.2≤p.2
   ·
    rw [decide_eq_false (show ¬ p.2<a.2 by omega)];simp
   ·
    rw [decide_eq_false h1];rfl
  rw [e1,Bool.or_false]
set_option maxHeartbeats 4000000 in
set_option maxRecDepth 100000 in
theorem spec_l3In.calls (A0:Option Addr)(c0:Nat)(l0:List S28)(a1_0 a1_1:Int)(r:Int)(w:World)(hr0:Kd.C k28 w A0 l0.length l0)(hc0:l0.length≤c0)(h:spec_l3In.f l0 a1_0 a1_1=some r):
  Calls Tryd.prog 56 #[.slice A0 l0.length c0,.agg #[.int .i64 a1_0,.int .i64 a1_1]] w fun e w'=>e=.returned (.int .i64 r)∧Below w.heap.size w w':=by
 have hu28:=Tryd.underlying28;have hu61:=Tryd.underlying61;unfold spec_l3In.f at h
 split at h
 case isFalse=>cases h
 rename_i hh
 obtain⟨hok,hp⟩:=hh;have h:=Option.some.inj h;have hlen:l0.length≤8:=by have:=((Mort.loopOk_iff _).1 hok).2.1;simpa using this
 have hal:=below_alloc (Below.refl w.heap.size w) (.cells #[.int .i64 a1_0,.int .i64 a1_1] 28);have np:=blk_new w (.cells #[.int .i64 a1_0,.int .i64 a1_1] 28 (0,0));have hes:spec_l3Edges.f 10 l0=some (esOf l0):=sEdges (by omega) (by omega);have hsg:∀ i,i<l0.length→Mort.segOk (sgP (edS l0 i))=true:=fun i hi=>by
  have:=((Mort.loopOk_iff _).1 hok).2.2.1 _ (Mort.mem_edges.2 ⟨i,by simpa using hi,rfl⟩)
  rwa [ed_edS] at this
 have hmem:∀ i,i<l0.length→sgP (edS l0 i)∈edges (l0.map ptP):=fun i hi=>by
  rw [← ed_edS];exact Mort.mem_edges.2 ⟨i,by simpa using hi,rfl⟩
 have HK:=a0_ (And.intro (Kd.C_below hr0 hal) (And.intro hc0 (And.intro hes (And.intro hsg (And.intro hmem (And.intro hp (And.intro h (And.intro hlen (And.intro hal np)))))))));clear hr0 hc0 hes hsg hmem hp h hlen hal np hok;go_enter Tryd.func56,Tryd.ntmps56;go_wp2_with (go_at_call 98;refine (spec_l3Edges.calls 10 A0 c0 l0 (esOf l0) _ HK.out.1 HK.out.2.1 HK.out.2.2.1).mono ?_;rintro e w1 ⟨v,rfl,hR,hb1⟩;obtain⟨Ae,ce,hv,hce,hCe⟩:=Kd.R_reads hR;subst hv;have HE:=a0_ (And.intro hCe (And.intro hce hb1));clear hR hCe hce hb1);generalize hg:w.heap.size=g at *;have hG:=Aside0.mk hg;clear hg;have hL:(esOf l0).length=l0.length:=esOf_len l0;rw [hL];have HLn:=Aside0.mk hL;clear hL
 go_loopg [5,7] l0.length (fun kq v5 v7 wr=>∃ (i:Nat),v5=.int .i64 (inRun (((esOf l0).take i).map sgP) (a1_0,a1_1))∧v7=.int .i64 (i:Int)∧Aside0 (kq=l0.length-i∧i≤l0.length∧wr.heap[g]?=some (.cells #[.int .i64 a1_0,.int .i64 a1_1] 28 (0,0)) ∧
   (∀ e∈((esOf l0).take i).map sgP,has e (a1_0,a1_1)=false)∧Below g w wr∧Below w1.heap.size w1 wr))
 case atStart =>
  have hG':=hG.out;subst hG';refine⟨0,rfl,rfl,⟨rfl,Nat.zero_le _,blk_later HK.out.2.2.2.2.2.2.2.2.2 HE.out.2.2,?_,below_step HK.out.2.2.2.2.2.2.2.2.1 HE.out.2.2,Below.refl _ _⟩⟩;intro e he;simp at he
 case round =>
  obtain⟨i,rfl,rfl,H1⟩:=hrel;obtain⟨hk,hi,hpb,hno,hBw,hB1⟩:=H1.out;clear H1;by_cases hlt:i<l0.length
  ·
   have hd:decide ((i:Int)<(l0.length:Int))=true:=decide_eq_true (by omega);obtain⟨adr,hadr,z0,z1,z2,z3⟩:=at_sg3 HE.out.1 i (by rw [HLn.out];exact hlt);subst hadr;have t0:=pw_cell_below (below_drew1 hB1) z0;have t1:=pw_cell_below (below_drew1 hB1) z1;have t2:=pw_cell_below (below_drew1 hB1) z2;have t3:=pw_cell_below (below_drew1 hB1) z3;have p0:wr.drew.cell? ⟨g,0,none⟩=some (.int .i64 a1_0):=(blk_cell hpb 0).trans rfl;have p1:wr.drew.cell? ⟨g,1,none⟩=some (.int .i64 a1_1):=(blk_cell hpb 1).trans rfl;have hes:(esOf l0).getD i z61=edS l0 i:=esOf_getD l0 hlt;have htk:((esOf l0).take (i+1)).map sgP=((esOf l0).take i).map sgP++[sgP (edS l0 i)]:=by
    rw [List.take_succ_eq_append_getElem (by rw [HLn.out];exact hlt),List.map_append];rw [List.getD_eq_getElem?_getD,List.getElem?_eq_getElem (by rw [HLn.out];exact hlt)] at hes;rw [show (esOf l0)[i]'(by rw [HLn.out];exact hlt)=edS l0 i from hes];rfl
   rw [hes] at t0 t1 t2 t3;have hseg:=HK.out.2.2.2.1 i hlt;have hmem:=HK.out.2.2.2.2.1 i hlt;generalize edS l0 i=s0 at *;obtain⟨⟨ax,ay⟩,⟨bx,by'⟩⟩:=s0;obtain⟨⟨hpa,hpb'⟩,_⟩:(ptOk (ax,ay)=true∧ptOk (bx,by')=true)∧True:=⟨⟨((Mort.segOk_iff _).1 hseg).1,((Mort.segOk_iff _).1 hseg).2.1⟩,trivial⟩;have hhas:=sHas hpa hpb' HK.out.2.2.2.2.2.1;have hc1:=sCross hpa hpb' HK.out.2.2.2.2.2.1;have hc2:=sCross hpb' hpa HK.out.2.2.2.2.2.1;have HL:=a0_ (And.intro hk (And.intro hpb (And.intro hno (And.intro hBw (And.intro hB1 (And.intro hhas (And.intro hc1 (And.intro hc2 (And.intro htk hmem)))))))));clear hk hi hpb hno hBw hB1 hhas hc1 hc2 htk hmem hes z0 z1 z2 z3 hseg hpa hpb'
   cases hh:has ((ax,ay),(bx,by')) (a1_0,a1_1) with
   | true =>
    obtain⟨k1,k2,k3,k4,k5,k6,k7,k8,k9,k10⟩:=HL.out;have hr:0=r:=by rw [← HK.out.2.2.2.2.2.2.1,Mort.inOf_on k10 hh]
    subst hr;have HV:=a0_ (k6.trans (congrArg some hh));clear k1 k2 k3 k4 k5 k6 k7 k8 k9 k10 hh;go_wp2;go_region_held3 (fun W=>W.cell? (adr.add (i*4))=some (.int .i64 ax)∧W.cell? ⟨(adr.add (i*4)).block,(adr.add (i*4)).off+1,none⟩=some (.int .i64 ay)∧W.cell? ⟨(adr.add (i*4)).block,(adr.add (i*4)).off+2,none⟩=some (.int .i64 bx)∧W.cell? ⟨(adr.add (i*4)).block,(adr.add (i*4)).off+3,none⟩=some (.int .i64 by')∧W.cell? ⟨g,0,none⟩=some (.int .i64 a1_0)∧W.cell? ⟨g,1,none⟩=some (.int .i64 a1_1))
     (first | exact⟨pw_cell_below hb t0,pw_cell_below hb t1,pw_cell_below hb t2,pw_cell_below hb t3,pw_cell_below hb p0,pw_cell_below hb p1⟩ | go_keep)
     (first | (go_at_call 100;refine (spec_l2Has.calls ax ay bx by' a1_0 a1_1 true _ HV.out).mono ?_;rintro e w2 ⟨rfl,hb⟩))
    go_wp2;go_ret;have hG':=hG.out;subst hG';exact⟨rfl,below_row (below_drew1 HL.out.2.2.2.1) (Nat.le_refl _) hb⟩
   | false =>
    obtain⟨k1,k2,k3,k4,k5,k6,k7,k8,k9,k10⟩:=HL.out;have hin:inRun (((esOf l0).take (i+1)).map sgP) (a1_0,a1_1)=if crsI ((ax,ay),(bx,by')) (a1_0,a1_1) then-inRun (((esOf l0).take i).map sgP) (a1_0,a1_1) else inRun (((esOf l0).take i).map sgP) (a1_0,a1_1):=by rw [k9,Mort.inRun_snoc];rfl
    have hno2:∀ e∈((esOf l0).take (i+1)).map sgP,has e (a1_0,a1_1)=false:=by
     rw [k9];intro e he
     rcases List.mem_append.1 he with he | he
     ·
      exact k3 e he
     ·
      rw [List.mem_singleton] at he;subst he;exact hh
    rw [crs_up] at hin;have hvals:inRun (((esOf l0).take i).map sgP) (a1_0,a1_1)=1∨inRun (((esOf l0).take i).map sgP) (a1_0,a1_1) = -1:=by
     unfold inRun Mort.sideOf;cases Mort.xorAll _ <;> simp
    generalize inRun (((esOf l0).take i).map sgP) (a1_0,a1_1)=u at *;have HV:=a0_ (k6.trans (congrArg some hh));have HN:=a0_ (And.intro hin (And.intro hno2 hvals));clear k1 k2 k3 k4 k5 k6 k7 k8 k9 k10 hh hin hno2 hvals;go_wp2;go_region_held3 (fun W=>W.cell? (adr.add (i*4))=some (.int .i64 ax)∧W.cell? ⟨(adr.add (i*4)).block,(adr.add (i*4)).off+1,none⟩=some (.int .i64 ay)∧W.cell? ⟨(adr.add (i*4)).block,(adr.add (i*4)).off+2,none⟩=some (.int .i64 bx)∧W.cell? ⟨(adr.add (i*4)).block,(adr.add (i*4)).off+3,none⟩=some (.int .i64 by')∧W.cell? ⟨g,0,none⟩=some (.int .i64 a1_0)∧W.cell? ⟨g,1,none⟩=some (.int .i64 a1_1))
     (first | exact⟨pw_cell_below hb t0,pw_cell_below hb t1,pw_cell_below hb t2,pw_cell_below hb t3,pw_cell_below hb p0,pw_cell_below hb p1⟩ | go_keep)
     (first | (go_at_call 100;refine (spec_l2Has.calls ax ay bx by' a1_0 a1_1 false _ HV.out).mono ?_;rintro e w2 ⟨rfl,hb⟩))
    have t0':=pw_cell_below hb t0;have t1':=pw_cell_below hb t1;have t2':=pw_cell_below hb t2;have t3':=pw_cell_below hb t3;have hxa:=below_alloc (Below.refl w2.heap.size w2) (.cells #[.int .i64 ax,.int .i64 ay] 28);have x0:=pw_cell_below hxa t2';have x1:=pw_cell_below hxa t3';have hu28:=Tryd.underlying28;have hu61:=Tryd.underlying61;obtain⟨_,_,_,_,_,_,k7_,k8_,_,_⟩:=HL.out;by_cases hsw:by'<ay
    ·
     have b1:decide (by'<ay)=true:=decide_eq_true hsw;have HSW:=Aside0.mk hsw;clear hsw k7_;have hW3:=below_alloc (below_alloc (Below.refl w2.heap.size w2) (.cells #[.int .i64 bx,.int .i64 by'] 28)) (.cells #[.int .i64 ax,.int .i64 ay] 28);have q0:=pw_cell_below hW3 (pw_cell_below hb p0);have q1:=pw_cell_below hW3 (pw_cell_below hb p1);have HB3:=a0_ (And.intro hb hW3);clear hb hW3 p0 p1 t0 t1 t2 t3 hxa;have HCR:=Aside0.mk k8_;clear k8_;by_cases g1:by'≤a1_1
     ·
      have b2:decide (by'≤a1_1)=true:=decide_eq_true g1;have G1:=Aside0.mk g1;clear g1;by_cases g2:a1_1<ay
      ·
       have b3:decide (a1_1<ay)=true:=decide_eq_true g2;have G2:=Aside0.mk g2;clear g2;by_cases g3:0<cross (bx,by') (ax,ay) (a1_0,a1_1)
       ·
        have G3:=Aside0.mk g3;generalize cross (bx,by') (ax,ay) (a1_0,a1_1)=cv at g3 HCR;have b4:decide (0<cv)=true:=decide_eq_true g3;have hvals2:=HN.out.2.2;clear g3
        rcases hvals2 with rfl | rfl
        all_goals
         go_wp2_with (go_at_call 102;refine (spec_l2Cross.calls bx by' ax ay a1_0 a1_1 cv _ HCR.out).mono ?_;rintro e w4 ⟨rfl,hb4⟩);obtain⟨k1,k2,k3,k4,k5,k6,k7,k8,k9,k10⟩:=HL.out;have hbb:Below wr.heap.size wr _:=below_step (below_step (below_step (below_drew1 (Below.refl wr.heap.size wr)) HB3.out.1) HB3.out.2) hb4;go_roundg (l0.length-(i+1))
         case measure=>omega
         case rel =>
          refine⟨i+1,?_,?_,⟨rfl,by omega,blk_later k2 hbb,HN.out.2.1,?_,k5.trans (hbb.mono k5.size)⟩⟩
          ·
           have hin:=HN.out.1;have hvals:=HN.out.2.2;rw [hin];have hu:upC (bx,by') (ax,ay) (a1_0,a1_1)=true:=by unfold upC;simp only [G1.out,G2.out,G3.out,decide_true,Bool.and_true]
           rw [if_pos HSW.out,hu]
           first | rfl | decide
          ·
           have hw:wrap64 ((i:Int)+1)=(i:Int)+1:=by have:=HK.out.2.2.2.2.2.2.2.1;unfold wrap64;omega
           first | rfl | (rw [hw];rfl)
          ·
           have hG':=hG.out;subst hG';exact below_row k4 (Nat.le_refl _) hbb
       ·
        have G3:=Aside0.mk g3;generalize cross (bx,by') (ax,ay) (a1_0,a1_1)=cv at g3 HCR;have b4:decide (0<cv)=false:=decide_eq_false g3;clear g3;go_wp2_with (go_at_call 102;refine (spec_l2Cross.calls bx by' ax ay a1_0 a1_1 cv _ HCR.out).mono ?_;rintro e w4 ⟨rfl,hb4⟩);obtain⟨k1,k2,k3,k4,k5,k6,k7,k8,k9,k10⟩:=HL.out;have hbb:Below wr.heap.size wr _:=below_step (below_step (below_step (below_drew1 (Below.refl wr.heap.size wr)) HB3.out.1) HB3.out.2) hb4;go_roundg (l0.length-(i+1))
        case measure=>omega
        case rel =>
         refine⟨i+1,?_,?_,⟨rfl,by omega,blk_later k2 hbb,HN.out.2.1,?_,k5.trans (hbb.mono k5.size)⟩⟩
         ·
          have hin:=HN.out.1;have hvals:=HN.out.2.2;rw [hin];have hu:upC (bx,by') (ax,ay) (a1_0,a1_1)=false:=by unfold upC;simp only [decide_eq_false (show ¬ 0<cross (bx,by') (ax,ay) (a1_0,a1_1) by have:=G3.out;omega),Bool.and_false]
          rw [if_pos HSW.out,hu];rfl
         ·
          have hw:wrap64 ((i:Int)+1)=(i:Int)+1:=by have:=HK.out.2.2.2.2.2.2.2.1;unfold wrap64;omega
          first | rfl | (rw [hw];rfl)
         ·
          have hG':=hG.out;subst hG';exact below_row k4 (Nat.le_refl _) hbb
      ·
       have b3:decide (a1_1<ay)=false:=decide_eq_false g2;have G2:=Aside0.mk g2;clear g2;go_wp2;obtain⟨k1,k2,k3,k4,k5,k6,k7,k8,k9,k10⟩:=HL.out;have hbb:Below wr.heap.size wr _:=below_step (below_step (below_drew1 (Below.refl wr.heap.size wr)) HB3.out.1) HB3.out.2;go_roundg (l0.length-(i+1))
       case measure=>omega
       case rel =>
        refine⟨i+1,?_,?_,⟨rfl,by omega,blk_later k2 hbb,HN.out.2.1,?_,k5.trans (hbb.mono k5.size)⟩⟩
        ·
         have hin:=HN.out.1;have hvals:=HN.out.2.2;rw [hin];have hu:upC (bx,by') (ax,ay) (a1_0,a1_1)=false:=by unfold upC;simp only [decide_eq_false (show ¬ a1_1<ay from by have:=G2.out;omega),Bool.false_and,Bool.and_false]
         rw [if_pos HSW.out,hu];rfl
        ·
         have hw:wrap64 ((i:Int)+1)=(i:Int)+1:=by have:=HK.out.2.2.2.2.2.2.2.1;unfold wrap64;omega
         first | rfl | (rw [hw];rfl)
        ·
         have hG':=hG.out;subst hG';exact below_row k4 (Nat.le_refl _) hbb
     ·
      have b2:decide (by'≤a1_1)=false:=decide_eq_false g1;have G1:=Aside0.mk g1;clear g1;go_wp2;obtain⟨k1,k2,k3,k4,k5,k6,k7,k8,k9,k10⟩:=HL.out;have hbb:Below wr.heap.size wr _:=below_step (below_step (below_drew1 (Below.refl wr.heap.size wr)) HB3.out.1) HB3.out.2;go_roundg (l0.length-(i+1))
      case measure=>omega
      case rel =>
       refine⟨i+1,?_,?_,⟨rfl,by omega,blk_later k2 hbb,HN.out.2.1,?_,k5.trans (hbb.mono k5.size)⟩⟩
       ·
        have hin:=HN.out.1;have hvals:=HN.out.2.2;rw [hin];have hu:upC (bx,by') (ax,ay) (a1_0,a1_1)=false:=by unfold upC;simp only [decide_eq_false (show ¬ by'≤a1_1 from by have:=G1.out;omega),Bool.false_and]
        rw [if_pos HSW.out,hu];rfl
       ·
        have hw:wrap64 ((i:Int)+1)=(i:Int)+1:=by have:=HK.out.2.2.2.2.2.2.2.1;unfold wrap64;omega
        first | rfl | (rw [hw];rfl)
       ·
        have hG':=hG.out;subst hG';exact below_row k4 (Nat.le_refl _) hbb
    ·
     have b1:decide (by'<ay)=false:=decide_eq_false hsw;have HSW:=Aside0.mk hsw;clear hsw k8_;have hW3:=below_alloc (below_alloc (Below.refl w2.heap.size w2) (.cells #[.int .i64 ax,.int .i64 ay] 28)) (.cells #[.int .i64 bx,.int .i64 by'] 28);have q0:=pw_cell_below hW3 (pw_cell_below hb p0);have q1:=pw_cell_below hW3 (pw_cell_below hb p1);have HB3:=a0_ (And.intro hb hW3);clear hb hW3 p0 p1 t0 t1 t2 t3 hxa;have HCR:=Aside0.mk k7_;clear k7_;by_cases g1:ay≤a1_1
     ·
      have b2:decide (ay≤a1_1)=true:=decide_eq_true g1;have G1:=Aside0.mk g1;clear g1;by_cases g2:a1_1<by'
      ·
       have b3:decide (a1_1<by')=true:=decide_eq_true g2;have G2:=Aside0.mk g2;clear g2;by_cases g3:0<cross (ax,ay) (bx,by') (a1_0,a1_1)
       ·
        have G3:=Aside0.mk g3;generalize cross (ax,ay) (bx,by') (a1_0,a1_1)=cv at g3 HCR;have b4:decide (0<cv)=true:=decide_eq_true g3;have hvals2:=HN.out.2.2;clear g3
        rcases hvals2 with rfl | rfl
        all_goals
         go_wp2_with (go_at_call 102;refine (spec_l2Cross.calls ax ay bx by' a1_0 a1_1 cv _ HCR.out).mono ?_;rintro e w4 ⟨rfl,hb4⟩);obtain⟨k1,k2,k3,k4,k5,k6,k7,k8,k9,k10⟩:=HL.out;have hbb:Below wr.heap.size wr _:=below_step (below_step (below_step (below_drew1 (Below.refl wr.heap.size wr)) HB3.out.1) HB3.out.2) hb4;go_roundg (l0.length-(i+1))
         case measure=>omega
         case rel =>
          refine⟨i+1,?_,?_,⟨rfl,by omega,blk_later k2 hbb,HN.out.2.1,?_,k5.trans (hbb.mono k5.size)⟩⟩
          ·
           have hin:=HN.out.1;have hvals:=HN.out.2.2;rw [hin];have hu:upC (ax,ay) (bx,by') (a1_0,a1_1)=true:=by unfold upC;simp only [G1.out,G2.out,G3.out,decide_true,Bool.and_true]
           rw [if_neg (show ¬ by'<ay by have:=HSW.out;omega),hu]
           first | rfl | decide
          ·
           have hw:wrap64 ((i:Int)+1)=(i:Int)+1:=by have:=HK.out.2.2.2.2.2.2.2.1;unfold wrap64;omega
           first | rfl | (rw [hw];rfl)
          ·
           have hG':=hG.out;subst hG';exact below_row k4 (Nat.le_refl _) hbb
       ·
        have G3:=Aside0.mk g3;generalize cross (ax,ay) (bx,by') (a1_0,a1_1)=cv at g3 HCR;have b4:decide (0<cv)=false:=decide_eq_false g3;clear g3;go_wp2_with (go_at_call 102;refine (spec_l2Cross.calls ax ay bx by' a1_0 a1_1 cv _ HCR.out).mono ?_;rintro e w4 ⟨rfl,hb4⟩);obtain⟨k1,k2,k3,k4,k5,k6,k7,k8,k9,k10⟩:=HL.out;have hbb:Below wr.heap.size wr _:=below_step (below_step (below_step (below_drew1 (Below.refl wr.heap.size wr)) HB3.out.1) HB3.out.2) hb4;go_roundg (l0.length-(i+1))
        case measure=>omega
        case rel =>
         refine⟨i+1,?_,?_,⟨rfl,by omega,blk_later k2 hbb,HN.out.2.1,?_,k5.trans (hbb.mono k5.size)⟩⟩
         ·
          have hin:=HN.out.1;have hvals:=HN.out.2.2;rw [hin];have hu:upC (ax,ay) (bx,by') (a1_0,a1_1)=false:=by unfold upC;simp only [decide_eq_false (show ¬ 0<cross (ax,ay) (bx,by') (a1_0,a1_1) by have:=G3.out;omega),Bool.and_false]
          rw [if_neg (show ¬ by'<ay by have:=HSW.out;omega),hu];rfl
         ·
          have hw:wrap64 ((i:Int)+1)=(i:Int)+1:=by have:=HK.out.2.2.2.2.2.2.2.1;unfold wrap64;omega
          first | rfl | (rw [hw];rfl)
         ·
          have hG':=hG.out;subst hG';exact below_row k4 (Nat.le_refl _) hbb
      ·
       have b3:decide (a1_1<by')=false:=decide_eq_false g2;have G2:=Aside0.mk g2;clear g2;go_wp2;obtain⟨k1,k2,k3,k4,k5,k6,k7,k8,k9,k10⟩:=HL.out;have hbb:Below wr.heap.size wr _:=below_step (below_step (below_drew1 (Below.refl wr.heap.size wr)) HB3.out.1) HB3.out.2;go_roundg (l0.length-(i+1))
       case measure=>omega
       case rel =>
        refine⟨i+1,?_,?_,⟨rfl,by omega,blk_later k2 hbb,HN.out.2.1,?_,k5.trans (hbb.mono k5.size)⟩⟩
        ·
         have hin:=HN.out.1;have hvals:=HN.out.2.2;rw [hin];have hu:upC (ax,ay) (bx,by') (a1_0,a1_1)=false:=by unfold upC;simp only [decide_eq_false (show ¬ a1_1<by' from by have:=G2.out;omega),Bool.false_and,Bool.and_false]
         rw [if_neg (show ¬ by'<ay by have:=HSW.out;omega),hu];rfl
        ·
         have hw:wrap64 ((i:Int)+1)=(i:Int)+1:=by have:=HK.out.2.2.2.2.2.2.2.1;unfold wrap64;omega
         first | rfl | (rw [hw];rfl)
        ·
         have hG':=hG.out;subst hG';exact below_row k4 (Nat.le_refl _) hbb
     ·
      have b2:decide (ay≤a1_1)=false:=decide_eq_false g1;have G1:=Aside0.mk g1;clear g1;go_wp2;obtain⟨k1,k2,k3,k4,k5,k6,k7,k8,k9,k10⟩:=HL.out;have hbb:Below wr.heap.size wr _:=below_step (below_step (below_drew1 (Below.refl wr.heap.size wr)) HB3.out.1) HB3.out.2;go_roundg (l0.length-(i+1))
      case measure=>omega
      case rel =>
       refine⟨i+1,?_,?_,⟨rfl,by omega,blk_later k2 hbb,HN.out.2.1,?_,k5.trans (hbb.mono k5.size)⟩⟩
       ·
        have hin:=HN.out.1;have hvals:=HN.out.2.2;rw [hin];have hu:upC (ax,ay) (bx,by') (a1_0,a1_1)=false:=by unfold upC;simp only [decide_eq_false (show ¬ ay≤a1_1 from by have:=G1.out;omega),Bool.false_and]
        rw [if_neg (show ¬ by'<ay by have:=HSW.out;omega),hu];rfl
       ·
        have hw:wrap64 ((i:Int)+1)=(i:Int)+1:=by have:=HK.out.2.2.2.2.2.2.2.1;unfold wrap64;omega
        first | rfl | (rw [hw];rfl)
       ·
        have hG':=hG.out;subst hG';exact below_row k4 (Nat.le_refl _) hbb
  ·
   obtain rfl:i=l0.length:=by omega
   have hd:decide ((l0.length:Int)<(l0.length:Int))=false:=decide_eq_false (by omega);have hr:inRun (((esOf l0).take l0.length).map sgP) (a1_0,a1_1)=r:=by
    rw [← HK.out.2.2.2.2.2.2.1];have e1:((esOf l0).take l0.length).map sgP=edges (l0.map ptP):=by rw [List.take_of_length_le (by rw [HLn.out];exact Nat.le_refl _),esOf_edges]
    rw [e1] at hno ⊢
    exact Mort.inRun_end hno
   rw [hr];have HB:=Aside0.mk hBw;clear hk hi hpb hno hBw hB1 hr hlt;go_wp2;go_ret;have hG':=hG.out;subst hG';exact⟨rfl,HB.out⟩
end Go.Proofs.YtkefmnmoaomlhaaDoor.X
end
section
namespace Go.Proofs.YtkefmnmoaomlhaaDoor.X
open Go.RowKit Go.Proofs.YtkefmnmoaomlhaaDoorW.PrintWords Go.Proofs.YtkefmnmoaomlhaaDoorW.PrintLast Go.Proofs.YtkefmnmoaomlhaaDoorW.PrintMore
attribute [local go_sem] max2_int min2_int max_two min_two max_three min_three max_four min_four
set_option linter.unusedVariables false
set_option linter.unusedSimpArgs false
mutual
def spec_PlateOk.j0:Nat→Bool→List (S28)→List (List (S28))→Option (Bool)
 | 0,_,_,_=>none
 | k+1,x15,x178000,x178001=>if x15=true then (some false) else (spec_PlateOk.l0 k 0 x178000 x178001)
def spec_PlateOk.l0:Nat→Int→List (S28)→List (List (S28))→Option (Bool)
 | 0,_,_,_=>none
 | k+1,x3,x178000,x178001=>if x3<(x178001.length:Int) then (if 0≤x3 then ((spec_LoopOk.f k (rd_L5 x178001 x3)).bind fun t180=>(if t180=true then (if 0<((rd_L5 x178001 x3).length:Int) then ((spec_l3In.f x178000 ((rd_T28 (rd_L5 x178001 x3) 0).f0) ((rd_T28 (rd_L5 x178001 x3) 0).f1)).bind fun t182=>(if t182=1 then ((spec_l11Apart.f k x178000 (rd_L5 x178001 x3)).bind fun t183=>(spec_PlateOk.j2 k x3 (rd_L5 x178001 x3) (!t183) x178000 x178001)) else (spec_PlateOk.j2 k x3 (rd_L5 x178001 x3) true x178000 x178001))) else (none)) else (spec_PlateOk.j2 k x3 (rd_L5 x178001 x3) true x178000 x178001))) else (none)) else (some true)
def spec_PlateOk.j2:Nat→Int→List (S28)→Bool→List (S28)→List (List (S28))→Option (Bool)
 | 0,_,_,_,_,_=>none
 | k+1,x3,x4,x46,x178000,x178001=>if x46=true then (some false) else (spec_PlateOk.l1 k x3 x4 0 x178000 x178001)
def spec_PlateOk.l1:Nat→Int→List (S28)→Int→List (S28)→List (List (S28))→Option (Bool)
 | 0,_,_,_,_,_=>none
 | k+1,x3,x4,x5,x178000,x178001=>if x5<x3 then (if 0≤x5 then (if x5<(x178001.length:Int) then ((spec_l11Apart.f k x4 (rd_L5 x178001 x5)).bind fun t185=>(if t185=true then (if 0<(x4.length:Int) then ((spec_l3In.f (rd_L5 x178001 x5) ((rd_T28 x4 0).f0) ((rd_T28 x4 0).f1)).bind fun t188=>(if t188=(-1) then (if 0<((rd_L5 x178001 x5).length:Int) then ((spec_l3In.f x4 ((rd_T28 (rd_L5 x178001 x5) 0).f0) ((rd_T28 (rd_L5 x178001 x5) 0).f1)).bind fun t191=>(if t191=(-1) then (spec_PlateOk.l1 k x3 x4 (wrap64 (x5+1)) x178000 x178001) else (some false))) else (none)) else (some false))) else (none)) else (some false))) else (none)) else (none)) else (spec_PlateOk.l0 k (wrap64 (x3+1)) x178000 x178001)
end
def spec_PlateOk.f (k:Nat)(l0_0:List (S28))(l0_1:List (List (S28))):Option (Bool):=(spec_LoopOk.f k l0_0).bind fun t178=>(if t178=true then (spec_PlateOk.j0 k (decide ((l0_1.length:Int)>2)) l0_0 l0_1) else (spec_PlateOk.j0 k true l0_0 l0_1))
def spec_PlateOk.T7:Bool × List (List Nat × List Nat):=(true,[([],[]),([0],[0]),([1],[1]),([2,1],[2]),([3],[3]),([4,3],[3,4]),([3],[3]),([6,3],[3,6]),([7,3],[3,7]),([5,8,3,3],[3,5,8]),([9,3],[3,9]),([3,10],[3,10]),([11,9],[11]),([12],[12]),([13,12],[12,13]),([12],[12]),([14,15,12,12],[12,14,15]),([16,12],[12,16]),([12,17],[12,17])])
def spec_PlateOk.B7:List Nat:=[0,1,3,7,15,31,15,79,207,511,1023,2047,4095,8191,16383,8191,65535,131071,262143]
theorem spec_PlateOk.tab7:rtab .any (opsOf Tryd.f18 7)=spec_PlateOk.T7:=by kernel_rfl
theorem spec_PlateOk.bits7:waitsOk spec_PlateOk.T7.2 spec_PlateOk.B7=true:=by kernel_rfl
def spec_PlateOk.T12:Bool × List (List Nat × List Nat):=(true,[([],[]),([],[]),([1],[1]),([],[]),([2,3],[2,3]),([4],[4]),([0,5],[0,5]),([6],[6]),([7,6],[7]),([8],[8]),([9,8],[8,9]),([8],[8]),([10,11,8],[8,10,11]),([12,8],[8,12]),([8],[8]),([14,8],[8,14]),([15,8],[8,15]),([13,16,8,8],[8,13,16]),([17,8],[8,17]),([8,18],[8,18]),([19,17],[19]),([20],[20]),([20],[20]),([22,20],[20,22]),([20],[20]),([23,24,20],[20,23,24]),([25,20],[20,25]),([26,20],[20,26]),([27,20],[20,27]),([21,28,20,20],[20,21,28]),([29,20],[20,29]),([20,30],[20,30])])
def spec_PlateOk.B12:List Nat:=[0,0,2,0,14,30,63,127,255,511,1023,511,4095,8191,511,16895,49663,131071,262143,524287,1048575,2097151,2097151,6291455,2097151,31457279,65011711,132120575,266338303,536870911,1073741823,2147483647]
theorem spec_PlateOk.tab12:rtab .any (opsOf Tryd.f18 12)=spec_PlateOk.T12:=by kernel_rfl
theorem spec_PlateOk.bits12:waitsOk spec_PlateOk.T12.2 spec_PlateOk.B12=true:=by kernel_rfl
set_option maxHeartbeats 8000000 in
set_option maxRecDepth 100000 in
theorem spec_PlateOk.calls (k:Nat)(A0_0:Option Addr)(c0_0:Nat)(l0_0:List (S28))(A0_1:Option Addr)(c0_1:Nat)(l0_1:List (List (S28)))(r:Bool)(w:World)(hr0_0:Kd.C k28 w A0_0 l0_0.length l0_0)(hc0_0:l0_0.length≤c0_0)(hr0_1:Kd.C (Kd.slice 28 k28) w A0_1 l0_1.length l0_1)(hc0_1:l0_1.length≤c0_1)(h:spec_PlateOk.f k l0_0 l0_1=some r):
  Calls Tryd.prog 18 #[.agg #[.slice A0_0 l0_0.length c0_0,.slice A0_1 l0_1.length c0_1]] w fun e w'=>e=.returned (.bool r)∧Below w.heap.size w w':=by
 have hu26:=Tryd.underlying26;have hu28:=Tryd.underlying28;have HR0_0:=Aside0.mk hr0_0;have HC0_0:=Aside0.mk hc0_0;clear hr0_0 hc0_0;have HR0_1:=Aside0.mk hr0_1;have HC0_1:=Aside0.mk hc0_1;clear hr0_1 hc0_1;have HB:=a0_ (Below.refl w.heap.size w);have H:((spec_LoopOk.f k l0_0).bind fun t178=>(if t178=true then (spec_PlateOk.j0 k (decide ((l0_1.length:Int)>2)) l0_0 l0_1) else (spec_PlateOk.j0 k true l0_0 l0_1)))=some r:=h;clear h;have HC2:=Aside0.mk H;clear H;go_enter Tryd.func18,Tryd.ntmps18;go_upto_region 1 with (first | ((with_reducible refine gate_dst (N:=1) rfl ?_);(try (refine gate_guard (by rfl) ?_;dsimp only));refine bx_ (N:=1) (cs:=#[.slice A0_0 l0_0.length c0_0,.slice A0_1 l0_1.length c0_1]) (t:=26) (h:=?_);intro gb177 hg w3 hbox hb;have BK177:=a0_ (hbox);have GW177:=gh_ HB hg;have GE177:=gh_ HB hg;replace HB:=sb_ HB hb;clear hb hbox hg))
 (try simp only [Act.put,List.setIfInBounds_toArray,List.set_cons_zero,List.set_cons_succ])
 go_cut [15] (fun v15 wc=>∃ (kq:Nat) (x15_1:Bool),v15=.bool x15_1∧Aside0 (spec_PlateOk.j0 kq x15_1 l0_0 l0_1=some r)∧Aside0 (kq≤k)∧Aside0 (wc.heap[gb177]?=some (.cells #[(.slice A0_0 l0_0.length c0_0),(.slice A0_1 l0_1.length c0_1)] 26 (0,0)))∧Aside0 (Below w.heap.size w wc))
 case first =>
  have H:=HC2.out;clear HC2;replace H:=Option.bind_eq_some_iff.mp H;obtain⟨t178,A40,H⟩:=H
  (try dsimp only at H)
  have A4:=Aside0.mk A40;clear A40;by_cases c5:t178=true
  ·
   subst c5;rw [if_pos rfl] at H
   (try dsimp only at H)
   have H':=Aside0.mk H;clear H;have hcz6_0:=c20_ BK177;have hcz6_1:=c21_ BK177;have hfz6_0:=fz_ BK177 0;have hfz6_1:=fz_ BK177 1;go_wp2_with (first | ((with_reducible refine gate_callee (f:=55) rfl ?_);refine gL_ (some 8) Tryd.func55 #[.slice A0_0 l0_0.length c0_0] (h:=?_);(with_reducible refine (spec_LoopOk.calls k _ _ l0_0 true _ ?side1 ?side2 A4.out).mono ?_);(case side1=>repeat (first | exact (Kd.C_below HR0_0.out HB.out) | (with_reducible refine Kd.C_alloc ?_ _) | (with_reducible refine Kd.C_drewN ?_ _) | (with_reducible refine Kd.C_drew ?_)));(case side2=>exact HC0_0.out);rintro e w7 ⟨rfl,hb⟩;refine⟨_,rfl,?_⟩;replace BK177:=vb_ BK177 hb;replace HB:=sb_ HB hb;(try clear hb);have hcz8_0:=c20_ BK177;have hcz8_1:=c21_ BK177;have hfz8_0:=fz_ BK177 0;have hfz8_1:=fz_ BK177 1));go_meet
   case rel=>exact⟨_,(decide ((l0_1.length:Int)>2)),(by first | rfl | (simp;done) | (simp [*];done)),H',⟨by first | omega | exact Nat.le_refl _⟩,⟨uq_⟩,⟨hB_⟩⟩
  ·
   replace c5:=Bool.eq_false_iff.mpr c5;subst c5;rw [if_neg (show ¬ (false=true) by decide)] at H
   (try dsimp only at H)
   have H':=Aside0.mk H;clear H;have hcz9_0:=c20_ BK177;have hcz9_1:=c21_ BK177;have hfz9_0:=fz_ BK177 0;have hfz9_1:=fz_ BK177 1;go_wp2_with (first | ((with_reducible refine gate_callee (f:=55) rfl ?_);refine gL_ (some 8) Tryd.func55 #[.slice A0_0 l0_0.length c0_0] (h:=?_);(with_reducible refine (spec_LoopOk.calls k _ _ l0_0 false _ ?side1 ?side2 A4.out).mono ?_);(case side1=>repeat (first | exact (Kd.C_below HR0_0.out HB.out) | (with_reducible refine Kd.C_alloc ?_ _) | (with_reducible refine Kd.C_drewN ?_ _) | (with_reducible refine Kd.C_drew ?_)));(case side2=>exact HC0_0.out);rintro e w10 ⟨rfl,hb⟩;refine⟨_,rfl,?_⟩;replace BK177:=vb_ BK177 hb;replace HB:=sb_ HB hb;(try clear hb)));go_meet
   case rel=>exact⟨_,(true),(by first | rfl | (simp;done) | (simp [*];done)),H',⟨by first | omega | exact Nat.le_refl _⟩,⟨uq_⟩,⟨hB_⟩⟩
 case rest =>
  clear HC2;obtain⟨kq,x15_1,rfl,HA,HJ1,BK177,HB⟩:=hcut
  cases kq with
  | zero=>exact absurd HA.out (by simp [spec_PlateOk.j0])
  | succ kj1 =>
   have H:=HA.out;clear HA;simp only [spec_PlateOk.j0] at H;by_cases c11:x15_1=true
   ·
    subst c11;rw [if_pos rfl] at H
    (try dsimp only at H)
    obtain rfl:=Option.some.inj H;go_wp2;go_ret;exact⟨rr_,hB_⟩
   ·
    replace c11:=Bool.eq_false_iff.mpr c11;subst c11;rw [if_neg (show ¬ (false=true) by decide)] at H
    (try dsimp only at H)
    have H':=Aside0.mk H;clear H;go_wp2;go_loopg [3] kj1 (fun kq v3 w'=>∃ (x3_2:Int),v3=.int .i64 x3_2∧Aside0 (spec_PlateOk.l0 kq x3_2 l0_0 l0_1=some r)∧Aside0 (kq≤kj1)∧Aside0 (w'.heap[gb177]?=some (.cells #[(.slice A0_0 l0_0.length c0_0),(.slice A0_1 l0_1.length c0_1)] 26 (0,0)))∧Aside0 (Below w.heap.size w w'))
    case atStart=>exact⟨(0),(by first | rfl | (simp;done) | (simp [*];done)),H',⟨Nat.le_refl _⟩,⟨uq_⟩,⟨hB_⟩⟩
    case round =>
     clear H';obtain⟨x3_2,rfl,HA,HK2,BK177,HB⟩:=hrel
     cases gk with
     | zero=>exact absurd HA.out (by simp [spec_PlateOk.l0])
     | succ k2 =>
      have H:=HA.out;clear HA;simp only [spec_PlateOk.l0] at H;by_cases c12:x3_2<(l0_1.length:Int)
      ·
       rw [if_pos c12] at H;have c12b0:decide (x3_2<(l0_1.length:Int))=true:=decide_eq_true c12;clear c12;by_cases c13:0≤x3_2
       ·
        rw [if_pos c13] at H;have c13b0:decide (0≤x3_2)=true:=decide_eq_true c13;clear c13;have HC14:=Aside0.mk H;clear H;have hcz15_0:=c20_ BK177;have hcz15_1:=c21_ BK177;have hfz15_0:=fz_ BK177 0;have hfz15_1:=fz_ BK177 1;have p179:0≤(x3_2:Int):=od_;have q179:x3_2<(l0_1.length:Int):=od_;obtain⟨ad179,A179_0,c179_0,e179,hx179_0,hl179_0,hi179_0⟩:=at_L5 HR0_1.out x3_2 p179 q179;cases e179;replace hx179_0:=ce_ HB hx179_0;have HR179_0:=Aside0.mk hi179_0;have HC179_0:=Aside0.mk hl179_0;clear hi179_0 hl179_0;replace p179:=eq_true p179;replace q179:=eq_true q179;go_upto_region 7 with (fail)
        go_cut [46] (fun v46 wc=>∃ (kq:Nat) (x46_13:Bool),v46=.bool x46_13∧Aside0 (spec_PlateOk.j2 kq x3_2 (rd_L5 l0_1 x3_2) x46_13 l0_0 l0_1=some r)∧Aside0 (kq≤k2)∧Aside0 (wc.heap[gb177]?=some (.cells #[(.slice A0_0 l0_0.length c0_0),(.slice (some ad179) l0_1.length c0_1)] 26 (0,0)))∧Aside0 (Below w.heap.size w wc))
        case first =>
         have H:=HC14.out;clear HC14;replace H:=Option.bind_eq_some_iff.mp H;obtain⟨t180,A160,H⟩:=H
         (try dsimp only at H)
         have A16:=Aside0.mk A160;clear A160;by_cases c17:t180=true
         ·
          subst c17;rw [if_pos rfl] at H
          (try dsimp only at H)
          by_cases c18:0<((rd_L5 l0_1 x3_2).length:Int)
          ·
           rw [if_pos c18] at H;have c18b0:decide (0<((rd_L5 l0_1 x3_2).length:Int))=true:=decide_eq_true c18;have c18b1:decide (0<(rd_L5 l0_1 x3_2).length)=true:=decide_eq_true (by omega);clear c18
           (first | rw [c18b0] | (simp only [i64_w,i32_w];rw [c18b0]) | skip)
           replace H:=Option.bind_eq_some_iff.mp H;obtain⟨t182,A190,H⟩:=H
           (try dsimp only at H)
           have A19:=Aside0.mk A190;clear A190;by_cases c20:t182=1
           ·
            rw [if_pos c20] at H;have c20b0:(t182==1)=true:=beq_iff_eq.mpr c20;have c20b1:(t182 != 1)=false:=bne_eq_false_iff_eq.mpr c20;clear c20;replace H:=Option.bind_eq_some_iff.mp H;obtain⟨t183,A210,H⟩:=H
            (try dsimp only at H)
            have A21:=Aside0.mk A210;clear A210;have H':=Aside0.mk H;clear H
            try go_wp2
            replace BK177:=a0_ (blk_drew BK177.out);replace HB:=a0_ (below_drew1 HB.out);have p181:0≤(0:Int):=(by omega);have q181:0<((rd_L5 l0_1 x3_2).length:Int):=od_;obtain⟨ad181,e181,hx181_0,hx181_1⟩:=at_T28 HR179_0.out 0 p181 q181;have hw181_1:=hx181_1
            (try simp only [Int.toNat_zero,Nat.zero_mul,Addr.add_zero'] at hw181_1)
            have hw181_0:=hx181_0
            (try simp only [Int.toNat_zero,Nat.zero_mul,Addr.add_zero'] at hw181_0)
            cases e181;have qi181:(0<(rd_L5 l0_1 x3_2).length)=True:=eq_true (by omega)
            (try simp only [Int.toNat_zero,Nat.zero_mul,Addr.add_zero'] at hx181_0)
            (try simp only [Int.toNat_zero,Nat.zero_mul,Addr.add_zero'] at hx181_1)
            replace hx181_0:=ce_ HB hx181_0;replace hx181_1:=ce_ HB hx181_1;replace p181:=eq_true p181;replace q181:=eq_true q181;refine start_ (n:=19) (S:=fun w'=>w'.cell? ⟨gb177,0,none⟩=some (.slice A0_0 l0_0.length c0_0)∧w'.cell? ⟨gb177,1,none⟩=some (.slice (some ad179) l0_1.length c0_1)∧w'.cell? ad181=some (.int .i64 ((rd_T28 (rd_L5 l0_1 x3_2) 0).f0))∧w'.cell? ⟨ad181.block,ad181.off+1,none⟩=some (.int .i64 ((rd_T28 (rd_L5 l0_1 x3_2) 0).f1))) (ds:=[]) (Array.replicate 19 false) (by kernel_rfl) rfl rfl ⟨bc_,bc_,(ce_ HB hw181_0),(ce_ HB hw181_1)⟩ (fun hHeld=>?_);refine with_tabW spec_PlateOk.tab7 spec_PlateOk.bits7 (fun HT_ HW_=>?_);generalize wr.drew=w22 at BK177 HB hx181_0 hx181_1 hHeld ⊢
            refine pu_ HT_ 0 28 (bm 19 1) ?_;refine one_ (i:=1) (N:=some 29) (bm 19 3) rfl rfl (one_of HT_.out (by kernel_rfl)) (by decide) (fun K hK=>?_);refine goes_ Tryd.func55 (by kernel_rfl) rfl #[.slice (some ad181) (rd_L5 l0_1 x3_2).length c179_0] (by rfl) rfl rfl ma_ ?_
            with_reducible refine (spec_LoopOk.calls k2 _ _ (rd_L5 l0_1 x3_2) true _ ?side1 ?side2 A16.out).mono ?_
            (case side1=>repeat (first | exact (Kd.C_below HR179_0.out HB.out) | (with_reducible refine Kd.C_alloc ?_ _) | (with_reducible refine Kd.C_drewN ?_ _) | (with_reducible refine Kd.C_drew ?_)))
            (case side2=>exact HC179_0.out)
            rintro e w23 ⟨rfl,hb⟩;refine⟨_,rfl,?_⟩;replace BK177:=vb_ BK177 hb;replace HB:=sb_ HB hb
            (try clear hb)
            (try clear hb2)
            (try clear hk)
            (try clear hi)
            refine hK.out _ _ ⟨bc_,bc_,(ce_ HB hw181_0),(ce_ HB hw181_1)⟩ (fun hHeld=>?_);clear hK K;refine no_ (h:=?_);refine pu_ HT_ 2 30 (bm 19 7) ?_;refine pu_ HT_ 3 31 (bm 19 15) ?_;refine pu_ HT_ 4 32 (bm 19 31) ?_;refine pu_ HT_ 6 34 (bm 19 95) ?_;refine pu_ HT_ 7 35 (bm 19 223) ?_;refine ta4_ HT_ HW_ 5 33 (bm 19 255) hHeld ?_;refine ta4_ HT_ HW_ 8 36 (bm 19 511) hHeld ?_;refine one_ (i:=9) (N:=some 37) (bm 19 1023) rfl rfl (one_of HT_.out (by kernel_rfl)) (by decide) (fun K hK=>?_);refine goes_ Tryd.func56 (by kernel_rfl) rfl #[.slice A0_0 l0_0.length c0_0,.agg #[.int .i64 ((rd_T28 (rd_L5 l0_1 x3_2) 0).f0),.int .i64 ((rd_T28 (rd_L5 l0_1 x3_2) 0).f1)]] (by rfl) rfl rfl ma_ ?_
            with_reducible refine (spec_l3In.calls _ _ l0_0 ((rd_T28 (rd_L5 l0_1 x3_2) 0).f0) ((rd_T28 (rd_L5 l0_1 x3_2) 0).f1) t182 _ ?side1 ?side2 A19.out).mono ?_
            (case side1=>repeat (first | exact (Kd.C_below HR0_0.out HB.out) | (with_reducible refine Kd.C_alloc ?_ _) | (with_reducible refine Kd.C_drewN ?_ _) | (with_reducible refine Kd.C_drew ?_)))
            (case side2=>exact HC0_0.out)
            rintro e w24 ⟨rfl,hb⟩;refine⟨_,rfl,?_⟩;replace BK177:=vb_ BK177 hb;replace HB:=sb_ HB hb
            (try clear hb)
            (try clear hb2)
            (try clear hk)
            (try clear hi)
            refine hK.out _ _ ⟨bc_,bc_,(ce_ HB hw181_0),(ce_ HB hw181_1)⟩ (fun hHeld=>?_);clear hK K;refine no_ (h:=?_);refine pu_ HT_ 10 38 (bm 19 2047) ?_;refine pu_ HT_ 11 39 (bm 19 4095) ?_;refine pu_ HT_ 12 40 (bm 19 8191) ?_;refine pu_ HT_ 13 41 (bm 19 16383) ?_;refine pu_ HT_ 15 43 (bm 19 49151) ?_;refine ta4_ HT_ HW_ 14 42 (bm 19 65535) hHeld ?_;refine one_ (i:=16) (N:=some 44) (bm 19 131071) rfl rfl (one_of HT_.out (by kernel_rfl)) (by decide) (fun K hK=>?_);refine goes_ Tryd.func57 (by kernel_rfl) rfl #[.slice A0_0 l0_0.length c0_0,.slice (some ad181) (rd_L5 l0_1 x3_2).length c179_0] (by rfl) rfl rfl ma_ ?_
            with_reducible refine (spec_l11Apart.calls k2 _ _ l0_0 _ _ (rd_L5 l0_1 x3_2) t183 _ ?side1 ?side2 ?side3 ?side4 A21.out).mono ?_
            (case side1=>repeat (first | exact (Kd.C_below HR0_0.out HB.out) | (with_reducible refine Kd.C_alloc ?_ _) | (with_reducible refine Kd.C_drewN ?_ _) | (with_reducible refine Kd.C_drew ?_)))
            (case side2=>exact HC0_0.out)
            (case side3=>repeat (first | exact (Kd.C_below HR179_0.out HB.out) | (with_reducible refine Kd.C_alloc ?_ _) | (with_reducible refine Kd.C_drewN ?_ _) | (with_reducible refine Kd.C_drew ?_)))
            (case side4=>exact HC179_0.out)
            rintro e w25 ⟨rfl,hb⟩;refine⟨_,rfl,?_⟩;replace BK177:=vb_ BK177 hb;replace HB:=sb_ HB hb
            (try clear hb)
            (try clear hb2)
            (try clear hk)
            (try clear hi)
            refine hK.out _ _ ⟨bc_,bc_,(ce_ HB hw181_0),(ce_ HB hw181_1)⟩ (fun hHeld=>?_);clear hK K;refine no_ (h:=?_);refine pu_ HT_ 17 45 (bm 19 262143) ?_;refine pu_ HT_ 18 46 (bm 19 524287) ?_;refine done_ (done_of HT_.out (by kernel_rfl)) ?_
            try go_wp2
            go_meet
            case rel=>exact⟨_,(!t183),(by first | rfl | (simp;done) | (simp [*];done)),H',⟨by have:=HJ1.out;have:=HK2.out;first | omega | exact Nat.le_refl _⟩,⟨uq_⟩,⟨hB_⟩⟩
           ·
            rw [if_neg c20] at H;have c20b0:(t182==1)=false:=beq_eq_false_iff_ne.mpr c20;have c20b1:(t182 != 1)=true:=bne_iff_ne.mpr c20;have H':=Aside0.mk H;clear H
            try go_wp2
            replace BK177:=a0_ (blk_drew BK177.out);replace HB:=a0_ (below_drew1 HB.out);have p181:0≤(0:Int):=(by omega);have q181:0<((rd_L5 l0_1 x3_2).length:Int):=od_;obtain⟨ad181,e181,hx181_0,hx181_1⟩:=at_T28 HR179_0.out 0 p181 q181;have hw181_1:=hx181_1
            (try simp only [Int.toNat_zero,Nat.zero_mul,Addr.add_zero'] at hw181_1)
            have hw181_0:=hx181_0
            (try simp only [Int.toNat_zero,Nat.zero_mul,Addr.add_zero'] at hw181_0)
            cases e181;have qi181:(0<(rd_L5 l0_1 x3_2).length)=True:=eq_true (by omega)
            (try simp only [Int.toNat_zero,Nat.zero_mul,Addr.add_zero'] at hx181_0)
            (try simp only [Int.toNat_zero,Nat.zero_mul,Addr.add_zero'] at hx181_1)
            replace hx181_0:=ce_ HB hx181_0;replace hx181_1:=ce_ HB hx181_1;replace p181:=eq_true p181;replace q181:=eq_true q181;refine start_ (n:=19) (S:=fun w'=>w'.cell? ⟨gb177,0,none⟩=some (.slice A0_0 l0_0.length c0_0)∧w'.cell? ⟨gb177,1,none⟩=some (.slice (some ad179) l0_1.length c0_1)∧w'.cell? ad181=some (.int .i64 ((rd_T28 (rd_L5 l0_1 x3_2) 0).f0))∧w'.cell? ⟨ad181.block,ad181.off+1,none⟩=some (.int .i64 ((rd_T28 (rd_L5 l0_1 x3_2) 0).f1))) (ds:=[]) (Array.replicate 19 false) (by kernel_rfl) rfl rfl ⟨bc_,bc_,(ce_ HB hw181_0),(ce_ HB hw181_1)⟩ (fun hHeld=>?_);refine with_tabW spec_PlateOk.tab7 spec_PlateOk.bits7 (fun HT_ HW_=>?_);generalize wr.drew=w26 at BK177 HB hx181_0 hx181_1 hHeld ⊢
            refine pu_ HT_ 0 28 (bm 19 1) ?_;refine one_ (i:=1) (N:=some 29) (bm 19 3) rfl rfl (one_of HT_.out (by kernel_rfl)) (by decide) (fun K hK=>?_);refine goes_ Tryd.func55 (by kernel_rfl) rfl #[.slice (some ad181) (rd_L5 l0_1 x3_2).length c179_0] (by rfl) rfl rfl ma_ ?_
            with_reducible refine (spec_LoopOk.calls k2 _ _ (rd_L5 l0_1 x3_2) true _ ?side1 ?side2 A16.out).mono ?_
            (case side1=>repeat (first | exact (Kd.C_below HR179_0.out HB.out) | (with_reducible refine Kd.C_alloc ?_ _) | (with_reducible refine Kd.C_drewN ?_ _) | (with_reducible refine Kd.C_drew ?_)))
            (case side2=>exact HC179_0.out)
            rintro e w27 ⟨rfl,hb⟩;refine⟨_,rfl,?_⟩;replace BK177:=vb_ BK177 hb;replace HB:=sb_ HB hb
            (try clear hb)
            (try clear hb2)
            (try clear hk)
            (try clear hi)
            refine hK.out _ _ ⟨bc_,bc_,(ce_ HB hw181_0),(ce_ HB hw181_1)⟩ (fun hHeld=>?_);clear hK K;refine no_ (h:=?_);refine pu_ HT_ 2 30 (bm 19 7) ?_;refine pu_ HT_ 3 31 (bm 19 15) ?_;refine pu_ HT_ 4 32 (bm 19 31) ?_;refine pu_ HT_ 6 34 (bm 19 95) ?_;refine pu_ HT_ 7 35 (bm 19 223) ?_;refine ta4_ HT_ HW_ 5 33 (bm 19 255) hHeld ?_;refine ta4_ HT_ HW_ 8 36 (bm 19 511) hHeld ?_;refine one_ (i:=9) (N:=some 37) (bm 19 1023) rfl rfl (one_of HT_.out (by kernel_rfl)) (by decide) (fun K hK=>?_);refine goes_ Tryd.func56 (by kernel_rfl) rfl #[.slice A0_0 l0_0.length c0_0,.agg #[.int .i64 ((rd_T28 (rd_L5 l0_1 x3_2) 0).f0),.int .i64 ((rd_T28 (rd_L5 l0_1 x3_2) 0).f1)]] (by rfl) rfl rfl ma_ ?_
            with_reducible refine (spec_l3In.calls _ _ l0_0 ((rd_T28 (rd_L5 l0_1 x3_2) 0).f0) ((rd_T28 (rd_L5 l0_1 x3_2) 0).f1) t182 _ ?side1 ?side2 A19.out).mono ?_
            (case side1=>repeat (first | exact (Kd.C_below HR0_0.out HB.out) | (with_reducible refine Kd.C_alloc ?_ _) | (with_reducible refine Kd.C_drewN ?_ _) | (with_reducible refine Kd.C_drew ?_)))
            (case side2=>exact HC0_0.out)
            rintro e w28 ⟨rfl,hb⟩;refine⟨_,rfl,?_⟩;replace BK177:=vb_ BK177 hb;replace HB:=sb_ HB hb
            (try clear hb)
            (try clear hb2)
            (try clear hk)
            (try clear hi)
            refine hK.out _ _ ⟨bc_,bc_,(ce_ HB hw181_0),(ce_ HB hw181_1)⟩ (fun hHeld=>?_);clear hK K;refine no_ (h:=?_);refine pu_ HT_ 10 38 (bm 19 2047) ?_;refine pu_ HT_ 11 39 (bm 19 4095) ?_;refine pu_ HT_ 12 40 (bm 19 8191) ?_;refine pz_ HT_ 13 41 (bm 19 16383) ?_;refine pz_ HT_ 14 42 (bm 19 32767) ?_;refine pz_ HT_ 15 43 (bm 19 65535) ?_;refine pz_ HT_ 16 44 (bm 19 131071) ?_;refine pz_ HT_ 17 45 (bm 19 262143) ?_;refine pu_ HT_ 18 46 (bm 19 524287) ?_;refine done_ (done_of HT_.out (by kernel_rfl)) ?_
            try go_wp2
            go_meet
            case rel=>exact⟨_,(true),(by first | rfl | (simp;done) | (simp [*];done)),H',⟨by have:=HJ1.out;have:=HK2.out;first | omega | exact Nat.le_refl _⟩,⟨uq_⟩,⟨hB_⟩⟩
          ·
           rw [if_neg c18] at H;exact absurd H (by simp)
         ·
          replace c17:=Bool.eq_false_iff.mpr c17;subst c17;rw [if_neg (show ¬ (false=true) by decide)] at H
          (try dsimp only at H)
          have H':=Aside0.mk H;clear H
          try go_wp2
          replace BK177:=a0_ (blk_drew BK177.out);replace HB:=a0_ (below_drew1 HB.out);refine start_ (n:=19) (S:=fun w'=>True) (ds:=[]) (Array.replicate 19 false) (by kernel_rfl) rfl rfl trivial (fun hHeld=>?_);refine with_tabW spec_PlateOk.tab7 spec_PlateOk.bits7 (fun HT_ HW_=>?_);generalize wr.drew=w29 at BK177 HB hHeld ⊢
          refine pu_ HT_ 0 28 (bm 19 1) ?_;refine one_ (i:=1) (N:=some 29) (bm 19 3) rfl rfl (one_of HT_.out (by kernel_rfl)) (by decide) (fun K hK=>?_);refine goes_ Tryd.func55 (by kernel_rfl) rfl #[.slice A179_0 (rd_L5 l0_1 x3_2).length c179_0] (by rfl) rfl rfl ma_ ?_
          with_reducible refine (spec_LoopOk.calls k2 _ _ (rd_L5 l0_1 x3_2) false _ ?side1 ?side2 A16.out).mono ?_
          (case side1=>repeat (first | exact (Kd.C_below HR179_0.out HB.out) | (with_reducible refine Kd.C_alloc ?_ _) | (with_reducible refine Kd.C_drewN ?_ _) | (with_reducible refine Kd.C_drew ?_)))
          (case side2=>exact HC179_0.out)
          rintro e w30 ⟨rfl,hb⟩;refine⟨_,rfl,?_⟩;replace BK177:=vb_ BK177 hb;replace HB:=sb_ HB hb
          (try clear hb)
          (try clear hb2)
          (try clear hk)
          (try clear hi)
          refine hK.out _ _ trivial (fun hHeld=>?_);clear hK K;refine no_ (h:=?_);refine pu_ HT_ 2 30 (bm 19 7) ?_;refine pu_ HT_ 3 31 (bm 19 15) ?_;refine pz_ HT_ 4 32 (bm 19 31) ?_;refine pz_ HT_ 5 33 (bm 19 63) ?_;refine pz_ HT_ 6 34 (bm 19 127) ?_;refine pz_ HT_ 7 35 (bm 19 255) ?_;refine pz_ HT_ 8 36 (bm 19 511) ?_;refine pz_ HT_ 9 37 (bm 19 1023) ?_;refine pz_ HT_ 10 38 (bm 19 2047) ?_;refine pu_ HT_ 11 39 (bm 19 4095) ?_;refine pu_ HT_ 12 40 (bm 19 8191) ?_;refine pz_ HT_ 13 41 (bm 19 16383) ?_;refine pz_ HT_ 14 42 (bm 19 32767) ?_;refine pz_ HT_ 15 43 (bm 19 65535) ?_;refine pz_ HT_ 16 44 (bm 19 131071) ?_;refine pz_ HT_ 17 45 (bm 19 262143) ?_;refine pu_ HT_ 18 46 (bm 19 524287) ?_;refine done_ (done_of HT_.out (by kernel_rfl)) ?_
          try go_wp2
          go_meet
          case rel=>exact⟨_,(true),(by first | rfl | (simp;done) | (simp [*];done)),H',⟨by have:=HJ1.out;have:=HK2.out;first | omega | exact Nat.le_refl _⟩,⟨uq_⟩,⟨hB_⟩⟩
        case rest =>
         clear HC14;obtain⟨kq,x46_13,rfl,HA,HJ13,BK177,HB⟩:=hcut
         cases kq with
         | zero=>exact absurd HA.out (by simp [spec_PlateOk.j2])
         | succ kj13 =>
          have H:=HA.out;clear HA;simp only [spec_PlateOk.j2] at H;by_cases c31:x46_13=true
          ·
           subst c31;rw [if_pos rfl] at H
           (try dsimp only at H)
           obtain rfl:=Option.some.inj H;go_wp2;go_ret;exact⟨rr_,hB_⟩
          ·
           replace c31:=Bool.eq_false_iff.mpr c31;subst c31;rw [if_neg (show ¬ (false=true) by decide)] at H
           (try dsimp only at H)
           have H':=Aside0.mk H;clear H;go_wp2;go_loopg [5] kj13 (fun kq v5 w'=>∃ (x5_4:Int),v5=.int .i64 x5_4∧Aside0 (spec_PlateOk.l1 kq x3_2 (rd_L5 l0_1 x3_2) x5_4 l0_0 l0_1=some r)∧Aside0 (kq≤kj13)∧Aside0 (w'.heap[gb177]?=some (.cells #[(.slice A0_0 l0_0.length c0_0),(.slice (some ad179) l0_1.length c0_1)] 26 (0,0)))∧Aside0 (Below w.heap.size w w'))
           case atStart=>exact⟨(0),(by first | rfl | (simp;done) | (simp [*];done)),H',⟨Nat.le_refl _⟩,⟨uq_⟩,⟨hB_⟩⟩
           case round =>
            clear H';obtain⟨x5_4,rfl,HA,HK4,BK177,HB⟩:=hrel
            cases gk with
            | zero=>exact absurd HA.out (by simp [spec_PlateOk.l1])
            | succ k4 =>
             have H:=HA.out;clear HA;simp only [spec_PlateOk.l1] at H;by_cases c32:x5_4<x3_2
             ·
              rw [if_pos c32] at H;have c32b0:decide (x5_4<x3_2)=true:=decide_eq_true c32;clear c32;by_cases c33:0≤x5_4
              ·
               rw [if_pos c33] at H;have c33b0:decide (0≤x5_4)=true:=decide_eq_true c33;clear c33;by_cases c34:x5_4<(l0_1.length:Int)
               ·
                rw [if_pos c34] at H;have c34b0:decide (x5_4<(l0_1.length:Int))=true:=decide_eq_true c34;clear c34;replace H:=Option.bind_eq_some_iff.mp H;obtain⟨t185,A350,H⟩:=H
                (try dsimp only at H)
                have A35:=Aside0.mk A350;clear A350;by_cases c36:t185=true
                ·
                 subst c36;rw [if_pos rfl] at H
                 (try dsimp only at H)
                 by_cases c37:0<((rd_L5 l0_1 x3_2).length:Int)
                 ·
                  rw [if_pos c37] at H;have c37b0:decide (0<((rd_L5 l0_1 x3_2).length:Int))=true:=decide_eq_true c37;have c37b1:decide (0<(rd_L5 l0_1 x3_2).length)=true:=decide_eq_true (by omega);clear c37;replace H:=Option.bind_eq_some_iff.mp H;obtain⟨t188,A380,H⟩:=H
                  (try dsimp only at H)
                  have A38:=Aside0.mk A380;clear A380;by_cases c39:t188=(-1)
                  ·
                   rw [if_pos c39] at H;have c39b0:(t188==(-1))=true:=beq_iff_eq.mpr c39;have c39b1:(t188 != (-1))=false:=bne_eq_false_iff_eq.mpr c39;clear c39;by_cases c40:0<((rd_L5 l0_1 x5_4).length:Int)
                   ·
                    rw [if_pos c40] at H;have c40b0:decide (0<((rd_L5 l0_1 x5_4).length:Int))=true:=decide_eq_true c40;have c40b1:decide (0<(rd_L5 l0_1 x5_4).length)=true:=decide_eq_true (by omega);clear c40;replace H:=Option.bind_eq_some_iff.mp H;obtain⟨t191,A410,H⟩:=H
                    (try dsimp only at H)
                    have A41:=Aside0.mk A410;clear A410;by_cases c42:t191=(-1)
                    ·
                     rw [if_pos c42] at H;have c42b0:(t191==(-1))=true:=beq_iff_eq.mpr c42;have c42b1:(t191 != (-1))=false:=bne_eq_false_iff_eq.mpr c42;clear c42;have H':=Aside0.mk H;clear H
                     try go_wp2
                     replace BK177:=a0_ (blk_drew BK177.out);replace HB:=a0_ (below_drew1 HB.out);have p184:0≤(x5_4:Int):=od_;have q184:x5_4<(l0_1.length:Int):=od_;obtain⟨ad184,A184_0,c184_0,e184,hx184_0,hl184_0,hi184_0⟩:=at_L5 HR0_1.out x5_4 p184 q184;have hw184_0:=hx184_0;obtain rfl:ad179=ad184:=(by injection e184);replace hx184_0:=ce_ HB hx184_0;have HR184_0:=Aside0.mk hi184_0;have HC184_0:=Aside0.mk hl184_0;clear hi184_0 hl184_0;replace p184:=eq_true p184;replace q184:=eq_true q184;have p187:0≤(0:Int):=(by omega);have q187:0<((rd_L5 l0_1 x3_2).length:Int):=od_;obtain⟨ad187,e187,hx187_0,hx187_1⟩:=at_T28 HR179_0.out 0 p187 q187;have hw187_1:=hx187_1
                     (try simp only [Int.toNat_zero,Nat.zero_mul,Addr.add_zero'] at hw187_1)
                     have hw187_0:=hx187_0
                     (try simp only [Int.toNat_zero,Nat.zero_mul,Addr.add_zero'] at hw187_0)
                     cases e187;have qi187:(0<(rd_L5 l0_1 x3_2).length)=True:=eq_true (by omega)
                     (try simp only [Int.toNat_zero,Nat.zero_mul,Addr.add_zero'] at hx187_0)
                     (try simp only [Int.toNat_zero,Nat.zero_mul,Addr.add_zero'] at hx187_1)
                     replace hx187_0:=ce_ HB hx187_0;replace hx187_1:=ce_ HB hx187_1;replace p187:=eq_true p187;replace q187:=eq_true q187;have p190:0≤(0:Int):=(by omega);have q190:0<((rd_L5 l0_1 x5_4).length:Int):=od_;obtain⟨ad190,e190,hx190_0,hx190_1⟩:=at_T28 HR184_0.out 0 p190 q190;have hw190_1:=hx190_1
                     (try simp only [Int.toNat_zero,Nat.zero_mul,Addr.add_zero'] at hw190_1)
                     have hw190_0:=hx190_0
                     (try simp only [Int.toNat_zero,Nat.zero_mul,Addr.add_zero'] at hw190_0)
                     cases e190;have qi190:(0<(rd_L5 l0_1 x5_4).length)=True:=eq_true (by omega)
                     (try simp only [Int.toNat_zero,Nat.zero_mul,Addr.add_zero'] at hx190_0)
                     (try simp only [Int.toNat_zero,Nat.zero_mul,Addr.add_zero'] at hx190_1)
                     replace hx190_0:=ce_ HB hx190_0;replace hx190_1:=ce_ HB hx190_1;replace p190:=eq_true p190;replace q190:=eq_true q190;refine start_ (n:=32) (S:=fun w'=>w'.cell? ⟨gb177,0,none⟩=some (.slice A0_0 l0_0.length c0_0)∧w'.cell? ⟨gb177,1,none⟩=some (.slice (some ad179) l0_1.length c0_1)∧w'.cell? (ad179.add (x5_4).toNat)=some (.slice (some ad190) (rd_L5 l0_1 x5_4).length c184_0)∧w'.cell? (ad179.add (x5_4).toNat)=some (.slice (some ad190) (rd_L5 l0_1 x5_4).length c184_0)∧w'.cell? ad187=some (.int .i64 ((rd_T28 (rd_L5 l0_1 x3_2) 0).f0))∧w'.cell? ⟨ad187.block,ad187.off+1,none⟩=some (.int .i64 ((rd_T28 (rd_L5 l0_1 x3_2) 0).f1))∧w'.cell? (ad179.add (x5_4).toNat)=some (.slice (some ad190) (rd_L5 l0_1 x5_4).length c184_0)∧w'.cell? ad190=some (.int .i64 ((rd_T28 (rd_L5 l0_1 x5_4) 0).f0))∧w'.cell? ⟨ad190.block,ad190.off+1,none⟩=some (.int .i64 ((rd_T28 (rd_L5 l0_1 x5_4) 0).f1))) (ds:=[]) (Array.replicate 32 false) (by kernel_rfl) rfl rfl ⟨bc_,bc_,(ce_ HB hw184_0),(ce_ HB hw184_0),(ce_ HB hw187_0),(ce_ HB hw187_1),(ce_ HB hw184_0),(ce_ HB hw190_0),(ce_ HB hw190_1)⟩ (fun hHeld=>?_);refine with_tabW spec_PlateOk.tab12 spec_PlateOk.bits12 (fun HT_ HW_=>?_);generalize wr.drew=w43 at BK177 HB HR184_0 hx184_0 hx187_0 hx187_1 hx190_0 hx190_1 hHeld ⊢
                     refine pu_ HT_ 0 52 (bm 32 1) ?_;refine pu_ HT_ 1 53 (bm 32 3) ?_;refine pu_ HT_ 3 55 (bm 32 11) ?_;refine ta9_ HT_ HW_ 2 54 (bm 32 15) hHeld ?_;refine pu_ HT_ 4 56 (bm 32 31) ?_;refine ta9_ HT_ HW_ 5 57 (bm 32 63) hHeld ?_;refine one_ (i:=6) (N:=some 58) (bm 32 127) rfl rfl (one_of HT_.out (by kernel_rfl)) (by decide) (fun K hK=>?_);refine goes_ Tryd.func57 (by kernel_rfl) rfl #[.slice (some ad187) (rd_L5 l0_1 x3_2).length c179_0,.slice (some ad190) (rd_L5 l0_1 x5_4).length c184_0] (by rfl) rfl rfl ma_ ?_
                     with_reducible refine (spec_l11Apart.calls k4 _ _ (rd_L5 l0_1 x3_2) _ _ (rd_L5 l0_1 x5_4) true _ ?side1 ?side2 ?side3 ?side4 A35.out).mono ?_
                     (case side1=>repeat (first | exact (Kd.C_below HR179_0.out HB.out) | (with_reducible refine Kd.C_alloc ?_ _) | (with_reducible refine Kd.C_drewN ?_ _) | (with_reducible refine Kd.C_drew ?_)))
                     (case side2=>exact HC179_0.out)
                     (case side3=>repeat (first | exact (Kd.C_below HR184_0.out HB.out) | (with_reducible refine Kd.C_alloc ?_ _) | (with_reducible refine Kd.C_drewN ?_ _) | (with_reducible refine Kd.C_drew ?_)))
                     (case side4=>exact HC184_0.out)
                     rintro e w44 ⟨rfl,hb⟩;refine⟨_,rfl,?_⟩;replace BK177:=vb_ BK177 hb;replace HB:=sb_ HB hb
                     (try clear hb)
                     (try clear hb2)
                     (try clear hk)
                     (try clear hi)
                     refine hK.out _ _ ⟨bc_,bc_,(ce_ HB hw184_0),(ce_ HB hw184_0),(ce_ HB hw187_0),(ce_ HB hw187_1),(ce_ HB hw184_0),(ce_ HB hw190_0),(ce_ HB hw190_1)⟩ (fun hHeld=>?_);clear hK K;refine no_ (h:=?_);refine pu_ HT_ 7 59 (bm 32 255) ?_;refine pu_ HT_ 8 60 (bm 32 511) ?_;refine pu_ HT_ 9 61 (bm 32 1023) ?_;refine pu_ HT_ 11 63 (bm 32 3071) ?_;refine pu_ HT_ 14 66 (bm 32 19455) ?_;refine pu_ HT_ 15 67 (bm 32 52223) ?_;refine ta9_ HT_ HW_ 10 62 (bm 32 53247) hHeld ?_;refine pu_ HT_ 12 64 (bm 32 57343) ?_;refine ta9_ HT_ HW_ 13 65 (bm 32 65535) hHeld ?_;refine ta9_ HT_ HW_ 16 68 (bm 32 131071) hHeld ?_;refine one_ (i:=17) (N:=some 69) (bm 32 262143) rfl rfl (one_of HT_.out (by kernel_rfl)) (by decide) (fun K hK=>?_);refine goes_ Tryd.func56 (by kernel_rfl) rfl #[.slice (some ad190) (rd_L5 l0_1 x5_4).length c184_0,.agg #[.int .i64 ((rd_T28 (rd_L5 l0_1 x3_2) 0).f0),.int .i64 ((rd_T28 (rd_L5 l0_1 x3_2) 0).f1)]] (by rfl) rfl rfl ma_ ?_
                     with_reducible refine (spec_l3In.calls _ _ (rd_L5 l0_1 x5_4) ((rd_T28 (rd_L5 l0_1 x3_2) 0).f0) ((rd_T28 (rd_L5 l0_1 x3_2) 0).f1) t188 _ ?side1 ?side2 A38.out).mono ?_
                     (case side1=>repeat (first | exact (Kd.C_below HR184_0.out HB.out) | (with_reducible refine Kd.C_alloc ?_ _) | (with_reducible refine Kd.C_drewN ?_ _) | (with_reducible refine Kd.C_drew ?_)))
                     (case side2=>exact HC184_0.out)
                     rintro e w45 ⟨rfl,hb⟩;refine⟨_,rfl,?_⟩;replace BK177:=vb_ BK177 hb;replace HB:=sb_ HB hb
                     (try clear hb)
                     (try clear hb2)
                     (try clear hk)
                     (try clear hi)
                     refine hK.out _ _ ⟨bc_,bc_,(ce_ HB hw184_0),(ce_ HB hw184_0),(ce_ HB hw187_0),(ce_ HB hw187_1),(ce_ HB hw184_0),(ce_ HB hw190_0),(ce_ HB hw190_1)⟩ (fun hHeld=>?_);clear hK K;refine no_ (h:=?_);refine pu_ HT_ 18 70 (bm 32 524287) ?_;refine pu_ HT_ 19 71 (bm 32 1048575) ?_;refine pu_ HT_ 20 72 (bm 32 2097151) ?_;refine pu_ HT_ 21 73 (bm 32 4194303) ?_;refine pu_ HT_ 22 74 (bm 32 8388607) ?_;refine pu_ HT_ 24 76 (bm 32 25165823) ?_;refine ta9_ HT_ HW_ 23 75 (bm 32 33554431) hHeld ?_;refine pu_ HT_ 25 77 (bm 32 67108863) ?_;refine ta9_ HT_ HW_ 26 78 (bm 32 134217727) hHeld ?_;refine pu_ HT_ 27 79 (bm 32 268435455) ?_;refine ta9_ HT_ HW_ 28 80 (bm 32 536870911) hHeld ?_;refine one_ (i:=29) (N:=some 81) (bm 32 1073741823) rfl rfl (one_of HT_.out (by kernel_rfl)) (by decide) (fun K hK=>?_);refine goes_ Tryd.func56 (by kernel_rfl) rfl #[.slice (some ad187) (rd_L5 l0_1 x3_2).length c179_0,.agg #[.int .i64 ((rd_T28 (rd_L5 l0_1 x5_4) 0).f0),.int .i64 ((rd_T28 (rd_L5 l0_1 x5_4) 0).f1)]] (by rfl) rfl rfl ma_ ?_
                     with_reducible refine (spec_l3In.calls _ _ (rd_L5 l0_1 x3_2) ((rd_T28 (rd_L5 l0_1 x5_4) 0).f0) ((rd_T28 (rd_L5 l0_1 x5_4) 0).f1) t191 _ ?side1 ?side2 A41.out).mono ?_
                     (case side1=>repeat (first | exact (Kd.C_below HR179_0.out HB.out) | (with_reducible refine Kd.C_alloc ?_ _) | (with_reducible refine Kd.C_drewN ?_ _) | (with_reducible refine Kd.C_drew ?_)))
                     (case side2=>exact HC179_0.out)
                     rintro e w46 ⟨rfl,hb⟩;refine⟨_,rfl,?_⟩;replace BK177:=vb_ BK177 hb;replace HB:=sb_ HB hb
                     (try clear hb)
                     (try clear hb2)
                     (try clear hk)
                     (try clear hi)
                     refine hK.out _ _ ⟨bc_,bc_,(ce_ HB hw184_0),(ce_ HB hw184_0),(ce_ HB hw187_0),(ce_ HB hw187_1),(ce_ HB hw184_0),(ce_ HB hw190_0),(ce_ HB hw190_1)⟩ (fun hHeld=>?_);clear hK K;refine no_ (h:=?_);refine pu_ HT_ 30 82 (bm 32 2147483647) ?_;refine pu_ HT_ 31 83 (bm 32 4294967295) ?_;refine done_ (done_of HT_.out (by kernel_rfl)) ?_
                     try go_wp2
                     go_roundg k4
                     case measure=>have:=HJ1.out;have:=HK2.out;have:=HJ13.out;have:=HK4.out;omega
                     case rel=>exact⟨(wrap64 (x5_4+1)),(by first | rfl | (simp;done) | (simp [*];done)),H',⟨by have:=HJ1.out;have:=HK2.out;have:=HJ13.out;have:=HK4.out;omega⟩,⟨uq_⟩,⟨hB_⟩⟩
                    ·
                     rw [if_neg c42] at H;have c42b0:(t191==(-1))=false:=beq_eq_false_iff_ne.mpr c42;have c42b1:(t191 != (-1))=true:=bne_iff_ne.mpr c42;obtain rfl:=Option.some.inj H
                     try go_wp2
                     replace BK177:=a0_ (blk_drew BK177.out);replace HB:=a0_ (below_drew1 HB.out);have p184:0≤(x5_4:Int):=od_;have q184:x5_4<(l0_1.length:Int):=od_;obtain⟨ad184,A184_0,c184_0,e184,hx184_0,hl184_0,hi184_0⟩:=at_L5 HR0_1.out x5_4 p184 q184;have hw184_0:=hx184_0;obtain rfl:ad179=ad184:=(by injection e184);replace hx184_0:=ce_ HB hx184_0;have HR184_0:=Aside0.mk hi184_0;have HC184_0:=Aside0.mk hl184_0;clear hi184_0 hl184_0;replace p184:=eq_true p184;replace q184:=eq_true q184;have p187:0≤(0:Int):=(by omega);have q187:0<((rd_L5 l0_1 x3_2).length:Int):=od_;obtain⟨ad187,e187,hx187_0,hx187_1⟩:=at_T28 HR179_0.out 0 p187 q187;have hw187_1:=hx187_1
                     (try simp only [Int.toNat_zero,Nat.zero_mul,Addr.add_zero'] at hw187_1)
                     have hw187_0:=hx187_0
                     (try simp only [Int.toNat_zero,Nat.zero_mul,Addr.add_zero'] at hw187_0)
                     cases e187;have qi187:(0<(rd_L5 l0_1 x3_2).length)=True:=eq_true (by omega)
                     (try simp only [Int.toNat_zero,Nat.zero_mul,Addr.add_zero'] at hx187_0)
                     (try simp only [Int.toNat_zero,Nat.zero_mul,Addr.add_zero'] at hx187_1)
                     replace hx187_0:=ce_ HB hx187_0;replace hx187_1:=ce_ HB hx187_1;replace p187:=eq_true p187;replace q187:=eq_true q187;have p190:0≤(0:Int):=(by omega);have q190:0<((rd_L5 l0_1 x5_4).length:Int):=od_;obtain⟨ad190,e190,hx190_0,hx190_1⟩:=at_T28 HR184_0.out 0 p190 q190;have hw190_1:=hx190_1
                     (try simp only [Int.toNat_zero,Nat.zero_mul,Addr.add_zero'] at hw190_1)
                     have hw190_0:=hx190_0
                     (try simp only [Int.toNat_zero,Nat.zero_mul,Addr.add_zero'] at hw190_0)
                     cases e190;have qi190:(0<(rd_L5 l0_1 x5_4).length)=True:=eq_true (by omega)
                     (try simp only [Int.toNat_zero,Nat.zero_mul,Addr.add_zero'] at hx190_0)
                     (try simp only [Int.toNat_zero,Nat.zero_mul,Addr.add_zero'] at hx190_1)
                     replace hx190_0:=ce_ HB hx190_0;replace hx190_1:=ce_ HB hx190_1;replace p190:=eq_true p190;replace q190:=eq_true q190;refine start_ (n:=32) (S:=fun w'=>w'.cell? ⟨gb177,0,none⟩=some (.slice A0_0 l0_0.length c0_0)∧w'.cell? ⟨gb177,1,none⟩=some (.slice (some ad179) l0_1.length c0_1)∧w'.cell? (ad179.add (x5_4).toNat)=some (.slice (some ad190) (rd_L5 l0_1 x5_4).length c184_0)∧w'.cell? (ad179.add (x5_4).toNat)=some (.slice (some ad190) (rd_L5 l0_1 x5_4).length c184_0)∧w'.cell? ad187=some (.int .i64 ((rd_T28 (rd_L5 l0_1 x3_2) 0).f0))∧w'.cell? ⟨ad187.block,ad187.off+1,none⟩=some (.int .i64 ((rd_T28 (rd_L5 l0_1 x3_2) 0).f1))∧w'.cell? (ad179.add (x5_4).toNat)=some (.slice (some ad190) (rd_L5 l0_1 x5_4).length c184_0)∧w'.cell? ad190=some (.int .i64 ((rd_T28 (rd_L5 l0_1 x5_4) 0).f0))∧w'.cell? ⟨ad190.block,ad190.off+1,none⟩=some (.int .i64 ((rd_T28 (rd_L5 l0_1 x5_4) 0).f1))) (ds:=[]) (Array.replicate 32 false) (by kernel_rfl) rfl rfl ⟨bc_,bc_,(ce_ HB hw184_0),(ce_ HB hw184_0),(ce_ HB hw187_0),(ce_ HB hw187_1),(ce_ HB hw184_0),(ce_ HB hw190_0),(ce_ HB hw190_1)⟩ (fun hHeld=>?_);refine with_tabW spec_PlateOk.tab12 spec_PlateOk.bits12 (fun HT_ HW_=>?_);generalize wr.drew=w47 at BK177 HB HR184_0 hx184_0 hx187_0 hx187_1 hx190_0 hx190_1 hHeld ⊢
                     refine pu_ HT_ 0 52 (bm 32 1) ?_;refine pu_ HT_ 1 53 (bm 32 3) ?_;refine pu_ HT_ 3 55 (bm 32 11) ?_;refine ta9_ HT_ HW_ 2 54 (bm 32 15) hHeld ?_;refine pu_ HT_ 4 56 (bm 32 31) ?_;refine ta9_ HT_ HW_ 5 57 (bm 32 63) hHeld ?_;refine one_ (i:=6) (N:=some 58) (bm 32 127) rfl rfl (one_of HT_.out (by kernel_rfl)) (by decide) (fun K hK=>?_);refine goes_ Tryd.func57 (by kernel_rfl) rfl #[.slice (some ad187) (rd_L5 l0_1 x3_2).length c179_0,.slice (some ad190) (rd_L5 l0_1 x5_4).length c184_0] (by rfl) rfl rfl ma_ ?_
                     with_reducible refine (spec_l11Apart.calls k4 _ _ (rd_L5 l0_1 x3_2) _ _ (rd_L5 l0_1 x5_4) true _ ?side1 ?side2 ?side3 ?side4 A35.out).mono ?_
                     (case side1=>repeat (first | exact (Kd.C_below HR179_0.out HB.out) | (with_reducible refine Kd.C_alloc ?_ _) | (with_reducible refine Kd.C_drewN ?_ _) | (with_reducible refine Kd.C_drew ?_)))
                     (case side2=>exact HC179_0.out)
                     (case side3=>repeat (first | exact (Kd.C_below HR184_0.out HB.out) | (with_reducible refine Kd.C_alloc ?_ _) | (with_reducible refine Kd.C_drewN ?_ _) | (with_reducible refine Kd.C_drew ?_)))
                     (case side4=>exact HC184_0.out)
                     rintro e w48 ⟨rfl,hb⟩;refine⟨_,rfl,?_⟩;replace BK177:=vb_ BK177 hb;replace HB:=sb_ HB hb
                     (try clear hb)
                     (try clear hb2)
                     (try clear hk)
                     (try clear hi)
                     refine hK.out _ _ ⟨bc_,bc_,(ce_ HB hw184_0),(ce_ HB hw184_0),(ce_ HB hw187_0),(ce_ HB hw187_1),(ce_ HB hw184_0),(ce_ HB hw190_0),(ce_ HB hw190_1)⟩ (fun hHeld=>?_);clear hK K;refine no_ (h:=?_);refine pu_ HT_ 7 59 (bm 32 255) ?_;refine pu_ HT_ 8 60 (bm 32 511) ?_;refine pu_ HT_ 9 61 (bm 32 1023) ?_;refine pu_ HT_ 11 63 (bm 32 3071) ?_;refine pu_ HT_ 14 66 (bm 32 19455) ?_;refine pu_ HT_ 15 67 (bm 32 52223) ?_;refine ta9_ HT_ HW_ 10 62 (bm 32 53247) hHeld ?_;refine pu_ HT_ 12 64 (bm 32 57343) ?_;refine ta9_ HT_ HW_ 13 65 (bm 32 65535) hHeld ?_;refine ta9_ HT_ HW_ 16 68 (bm 32 131071) hHeld ?_;refine one_ (i:=17) (N:=some 69) (bm 32 262143) rfl rfl (one_of HT_.out (by kernel_rfl)) (by decide) (fun K hK=>?_);refine goes_ Tryd.func56 (by kernel_rfl) rfl #[.slice (some ad190) (rd_L5 l0_1 x5_4).length c184_0,.agg #[.int .i64 ((rd_T28 (rd_L5 l0_1 x3_2) 0).f0),.int .i64 ((rd_T28 (rd_L5 l0_1 x3_2) 0).f1)]] (by rfl) rfl rfl ma_ ?_
                     with_reducible refine (spec_l3In.calls _ _ (rd_L5 l0_1 x5_4) ((rd_T28 (rd_L5 l0_1 x3_2) 0).f0) ((rd_T28 (rd_L5 l0_1 x3_2) 0).f1) t188 _ ?side1 ?side2 A38.out).mono ?_
                     (case side1=>repeat (first | exact (Kd.C_below HR184_0.out HB.out) | (with_reducible refine Kd.C_alloc ?_ _) | (with_reducible refine Kd.C_drewN ?_ _) | (with_reducible refine Kd.C_drew ?_)))
                     (case side2=>exact HC184_0.out)
                     rintro e w49 ⟨rfl,hb⟩;refine⟨_,rfl,?_⟩;replace BK177:=vb_ BK177 hb;replace HB:=sb_ HB hb
                     (try clear hb)
                     (try clear hb2)
                     (try clear hk)
                     (try clear hi)
                     refine hK.out _ _ ⟨bc_,bc_,(ce_ HB hw184_0),(ce_ HB hw184_0),(ce_ HB hw187_0),(ce_ HB hw187_1),(ce_ HB hw184_0),(ce_ HB hw190_0),(ce_ HB hw190_1)⟩ (fun hHeld=>?_);clear hK K;refine no_ (h:=?_);refine pu_ HT_ 18 70 (bm 32 524287) ?_;refine pu_ HT_ 19 71 (bm 32 1048575) ?_;refine pu_ HT_ 20 72 (bm 32 2097151) ?_;refine pu_ HT_ 21 73 (bm 32 4194303) ?_;refine pu_ HT_ 22 74 (bm 32 8388607) ?_;refine pu_ HT_ 24 76 (bm 32 25165823) ?_;refine ta9_ HT_ HW_ 23 75 (bm 32 33554431) hHeld ?_;refine pu_ HT_ 25 77 (bm 32 67108863) ?_;refine ta9_ HT_ HW_ 26 78 (bm 32 134217727) hHeld ?_;refine pu_ HT_ 27 79 (bm 32 268435455) ?_;refine ta9_ HT_ HW_ 28 80 (bm 32 536870911) hHeld ?_;refine one_ (i:=29) (N:=some 81) (bm 32 1073741823) rfl rfl (one_of HT_.out (by kernel_rfl)) (by decide) (fun K hK=>?_);refine goes_ Tryd.func56 (by kernel_rfl) rfl #[.slice (some ad187) (rd_L5 l0_1 x3_2).length c179_0,.agg #[.int .i64 ((rd_T28 (rd_L5 l0_1 x5_4) 0).f0),.int .i64 ((rd_T28 (rd_L5 l0_1 x5_4) 0).f1)]] (by rfl) rfl rfl ma_ ?_
                     with_reducible refine (spec_l3In.calls _ _ (rd_L5 l0_1 x3_2) ((rd_T28 (rd_L5 l0_1 x5_4) 0).f0) ((rd_T28 (rd_L5 l0_1 x5_4) 0).f1) t191 _ ?side1 ?side2 A41.out).mono ?_
                     (case side1=>repeat (first | exact (Kd.C_below HR179_0.out HB.out) | (with_reducible refine Kd.C_alloc ?_ _) | (with_reducible refine Kd.C_drewN ?_ _) | (with_reducible refine Kd.C_drew ?_)))
                     (case side2=>exact HC179_0.out)
                     rintro e w50 ⟨rfl,hb⟩;refine⟨_,rfl,?_⟩;replace BK177:=vb_ BK177 hb;replace HB:=sb_ HB hb
                     (try clear hb)
                     (try clear hb2)
                     (try clear hk)
                     (try clear hi)
                     refine hK.out _ _ ⟨bc_,bc_,(ce_ HB hw184_0),(ce_ HB hw184_0),(ce_ HB hw187_0),(ce_ HB hw187_1),(ce_ HB hw184_0),(ce_ HB hw190_0),(ce_ HB hw190_1)⟩ (fun hHeld=>?_);clear hK K;refine no_ (h:=?_);refine pu_ HT_ 30 82 (bm 32 2147483647) ?_;refine pu_ HT_ 31 83 (bm 32 4294967295) ?_;refine done_ (done_of HT_.out (by kernel_rfl)) ?_
                     try go_wp2
                     go_ret;exact⟨rr_,hB_⟩
                   ·
                    rw [if_neg c40] at H;exact absurd H (by simp)
                  ·
                   rw [if_neg c39] at H;have c39b0:(t188==(-1))=false:=beq_eq_false_iff_ne.mpr c39;have c39b1:(t188 != (-1))=true:=bne_iff_ne.mpr c39;obtain rfl:=Option.some.inj H
                   try go_wp2
                   replace BK177:=a0_ (blk_drew BK177.out);replace HB:=a0_ (below_drew1 HB.out);have p184:0≤(x5_4:Int):=od_;have q184:x5_4<(l0_1.length:Int):=od_;obtain⟨ad184,A184_0,c184_0,e184,hx184_0,hl184_0,hi184_0⟩:=at_L5 HR0_1.out x5_4 p184 q184;have hw184_0:=hx184_0;obtain rfl:ad179=ad184:=(by injection e184);replace hx184_0:=ce_ HB hx184_0;have HR184_0:=Aside0.mk hi184_0;have HC184_0:=Aside0.mk hl184_0;clear hi184_0 hl184_0;replace p184:=eq_true p184;replace q184:=eq_true q184;have p187:0≤(0:Int):=(by omega);have q187:0<((rd_L5 l0_1 x3_2).length:Int):=od_;obtain⟨ad187,e187,hx187_0,hx187_1⟩:=at_T28 HR179_0.out 0 p187 q187;have hw187_1:=hx187_1
                   (try simp only [Int.toNat_zero,Nat.zero_mul,Addr.add_zero'] at hw187_1)
                   have hw187_0:=hx187_0
                   (try simp only [Int.toNat_zero,Nat.zero_mul,Addr.add_zero'] at hw187_0)
                   cases e187;have qi187:(0<(rd_L5 l0_1 x3_2).length)=True:=eq_true (by omega)
                   (try simp only [Int.toNat_zero,Nat.zero_mul,Addr.add_zero'] at hx187_0)
                   (try simp only [Int.toNat_zero,Nat.zero_mul,Addr.add_zero'] at hx187_1)
                   replace hx187_0:=ce_ HB hx187_0;replace hx187_1:=ce_ HB hx187_1;replace p187:=eq_true p187;replace q187:=eq_true q187;refine start_ (n:=32) (S:=fun w'=>w'.cell? ⟨gb177,0,none⟩=some (.slice A0_0 l0_0.length c0_0)∧w'.cell? ⟨gb177,1,none⟩=some (.slice (some ad179) l0_1.length c0_1)∧w'.cell? (ad179.add (x5_4).toNat)=some (.slice A184_0 (rd_L5 l0_1 x5_4).length c184_0)∧w'.cell? (ad179.add (x5_4).toNat)=some (.slice A184_0 (rd_L5 l0_1 x5_4).length c184_0)∧w'.cell? ad187=some (.int .i64 ((rd_T28 (rd_L5 l0_1 x3_2) 0).f0))∧w'.cell? ⟨ad187.block,ad187.off+1,none⟩=some (.int .i64 ((rd_T28 (rd_L5 l0_1 x3_2) 0).f1))) (ds:=[]) (Array.replicate 32 false) (by kernel_rfl) rfl rfl ⟨bc_,bc_,(ce_ HB hw184_0),(ce_ HB hw184_0),(ce_ HB hw187_0),(ce_ HB hw187_1)⟩ (fun hHeld=>?_);refine with_tabW spec_PlateOk.tab12 spec_PlateOk.bits12 (fun HT_ HW_=>?_);generalize wr.drew=w51 at BK177 HB HR184_0 hx184_0 hx187_0 hx187_1 hHeld ⊢
                   refine pu_ HT_ 0 52 (bm 32 1) ?_;refine pu_ HT_ 1 53 (bm 32 3) ?_;refine pu_ HT_ 3 55 (bm 32 11) ?_;refine ta6_ HT_ HW_ 2 54 (bm 32 15) hHeld ?_;refine pu_ HT_ 4 56 (bm 32 31) ?_;refine ta6_ HT_ HW_ 5 57 (bm 32 63) hHeld ?_;refine one_ (i:=6) (N:=some 58) (bm 32 127) rfl rfl (one_of HT_.out (by kernel_rfl)) (by decide) (fun K hK=>?_);refine goes_ Tryd.func57 (by kernel_rfl) rfl #[.slice (some ad187) (rd_L5 l0_1 x3_2).length c179_0,.slice A184_0 (rd_L5 l0_1 x5_4).length c184_0] (by rfl) rfl rfl ma_ ?_
                   with_reducible refine (spec_l11Apart.calls k4 _ _ (rd_L5 l0_1 x3_2) _ _ (rd_L5 l0_1 x5_4) true _ ?side1 ?side2 ?side3 ?side4 A35.out).mono ?_
                   (case side1=>repeat (first | exact (Kd.C_below HR179_0.out HB.out) | (with_reducible refine Kd.C_alloc ?_ _) | (with_reducible refine Kd.C_drewN ?_ _) | (with_reducible refine Kd.C_drew ?_)))
                   (case side2=>exact HC179_0.out)
                   (case side3=>repeat (first | exact (Kd.C_below HR184_0.out HB.out) | (with_reducible refine Kd.C_alloc ?_ _) | (with_reducible refine Kd.C_drewN ?_ _) | (with_reducible refine Kd.C_drew ?_)))
                   (case side4=>exact HC184_0.out)
                   rintro e w52 ⟨rfl,hb⟩;refine⟨_,rfl,?_⟩;replace BK177:=vb_ BK177 hb;replace HB:=sb_ HB hb
                   (try clear hb)
                   (try clear hb2)
                   (try clear hk)
                   (try clear hi)
                   refine hK.out _ _ ⟨bc_,bc_,(ce_ HB hw184_0),(ce_ HB hw184_0),(ce_ HB hw187_0),(ce_ HB hw187_1)⟩ (fun hHeld=>?_);clear hK K;refine no_ (h:=?_);refine pu_ HT_ 7 59 (bm 32 255) ?_;refine pu_ HT_ 8 60 (bm 32 511) ?_;refine pu_ HT_ 9 61 (bm 32 1023) ?_;refine pu_ HT_ 11 63 (bm 32 3071) ?_;refine pu_ HT_ 14 66 (bm 32 19455) ?_;refine pu_ HT_ 15 67 (bm 32 52223) ?_;refine ta6_ HT_ HW_ 10 62 (bm 32 53247) hHeld ?_;refine pu_ HT_ 12 64 (bm 32 57343) ?_;refine ta6_ HT_ HW_ 13 65 (bm 32 65535) hHeld ?_;refine ta6_ HT_ HW_ 16 68 (bm 32 131071) hHeld ?_;refine one_ (i:=17) (N:=some 69) (bm 32 262143) rfl rfl (one_of HT_.out (by kernel_rfl)) (by decide) (fun K hK=>?_);refine goes_ Tryd.func56 (by kernel_rfl) rfl #[.slice A184_0 (rd_L5 l0_1 x5_4).length c184_0,.agg #[.int .i64 ((rd_T28 (rd_L5 l0_1 x3_2) 0).f0),.int .i64 ((rd_T28 (rd_L5 l0_1 x3_2) 0).f1)]] (by rfl) rfl rfl ma_ ?_
                   with_reducible refine (spec_l3In.calls _ _ (rd_L5 l0_1 x5_4) ((rd_T28 (rd_L5 l0_1 x3_2) 0).f0) ((rd_T28 (rd_L5 l0_1 x3_2) 0).f1) t188 _ ?side1 ?side2 A38.out).mono ?_
                   (case side1=>repeat (first | exact (Kd.C_below HR184_0.out HB.out) | (with_reducible refine Kd.C_alloc ?_ _) | (with_reducible refine Kd.C_drewN ?_ _) | (with_reducible refine Kd.C_drew ?_)))
                   (case side2=>exact HC184_0.out)
                   rintro e w53 ⟨rfl,hb⟩;refine⟨_,rfl,?_⟩;replace BK177:=vb_ BK177 hb;replace HB:=sb_ HB hb
                   (try clear hb)
                   (try clear hb2)
                   (try clear hk)
                   (try clear hi)
                   refine hK.out _ _ ⟨bc_,bc_,(ce_ HB hw184_0),(ce_ HB hw184_0),(ce_ HB hw187_0),(ce_ HB hw187_1)⟩ (fun hHeld=>?_);clear hK K;refine no_ (h:=?_);refine pu_ HT_ 18 70 (bm 32 524287) ?_;refine pu_ HT_ 19 71 (bm 32 1048575) ?_;refine pu_ HT_ 20 72 (bm 32 2097151) ?_;refine pz_ HT_ 21 73 (bm 32 4194303) ?_;refine pz_ HT_ 22 74 (bm 32 8388607) ?_;refine pz_ HT_ 23 75 (bm 32 16777215) ?_;refine pz_ HT_ 24 76 (bm 32 33554431) ?_;refine pz_ HT_ 25 77 (bm 32 67108863) ?_;refine pz_ HT_ 26 78 (bm 32 134217727) ?_;refine pz_ HT_ 27 79 (bm 32 268435455) ?_;refine pz_ HT_ 28 80 (bm 32 536870911) ?_;refine pz_ HT_ 29 81 (bm 32 1073741823) ?_;refine pz_ HT_ 30 82 (bm 32 2147483647) ?_;refine pu_ HT_ 31 83 (bm 32 4294967295) ?_;refine done_ (done_of HT_.out (by kernel_rfl)) ?_
                   try go_wp2
                   go_ret;exact⟨rr_,hB_⟩
                 ·
                  rw [if_neg c37] at H;exact absurd H (by simp)
                ·
                 replace c36:=Bool.eq_false_iff.mpr c36;subst c36;rw [if_neg (show ¬ (false=true) by decide)] at H
                 (try dsimp only at H)
                 obtain rfl:=Option.some.inj H
                 try go_wp2
                 replace BK177:=a0_ (blk_drew BK177.out);replace HB:=a0_ (below_drew1 HB.out);have p184:0≤(x5_4:Int):=od_;have q184:x5_4<(l0_1.length:Int):=od_;obtain⟨ad184,A184_0,c184_0,e184,hx184_0,hl184_0,hi184_0⟩:=at_L5 HR0_1.out x5_4 p184 q184;have hw184_0:=hx184_0;obtain rfl:ad179=ad184:=(by injection e184);replace hx184_0:=ce_ HB hx184_0;have HR184_0:=Aside0.mk hi184_0;have HC184_0:=Aside0.mk hl184_0;clear hi184_0 hl184_0;replace p184:=eq_true p184;replace q184:=eq_true q184;refine start_ (n:=32) (S:=fun w'=>w'.cell? ⟨gb177,0,none⟩=some (.slice A0_0 l0_0.length c0_0)∧w'.cell? ⟨gb177,1,none⟩=some (.slice (some ad179) l0_1.length c0_1)∧w'.cell? (ad179.add (x5_4).toNat)=some (.slice A184_0 (rd_L5 l0_1 x5_4).length c184_0)) (ds:=[]) (Array.replicate 32 false) (by kernel_rfl) rfl rfl ⟨bc_,bc_,(ce_ HB hw184_0)⟩ (fun hHeld=>?_);refine with_tabW spec_PlateOk.tab12 spec_PlateOk.bits12 (fun HT_ HW_=>?_);generalize wr.drew=w54 at BK177 HB HR184_0 hx184_0 hHeld ⊢
                 refine pu_ HT_ 0 52 (bm 32 1) ?_;refine pu_ HT_ 1 53 (bm 32 3) ?_;refine pu_ HT_ 3 55 (bm 32 11) ?_;refine ta3_ HT_ HW_ 2 54 (bm 32 15) hHeld ?_;refine pu_ HT_ 4 56 (bm 32 31) ?_;refine ta3_ HT_ HW_ 5 57 (bm 32 63) hHeld ?_;refine one_ (i:=6) (N:=some 58) (bm 32 127) rfl rfl (one_of HT_.out (by kernel_rfl)) (by decide) (fun K hK=>?_);refine goes_ Tryd.func57 (by kernel_rfl) rfl #[.slice A179_0 (rd_L5 l0_1 x3_2).length c179_0,.slice A184_0 (rd_L5 l0_1 x5_4).length c184_0] (by rfl) rfl rfl ma_ ?_
                 with_reducible refine (spec_l11Apart.calls k4 _ _ (rd_L5 l0_1 x3_2) _ _ (rd_L5 l0_1 x5_4) false _ ?side1 ?side2 ?side3 ?side4 A35.out).mono ?_
                 (case side1=>repeat (first | exact (Kd.C_below HR179_0.out HB.out) | (with_reducible refine Kd.C_alloc ?_ _) | (with_reducible refine Kd.C_drewN ?_ _) | (with_reducible refine Kd.C_drew ?_)))
                 (case side2=>exact HC179_0.out)
                 (case side3=>repeat (first | exact (Kd.C_below HR184_0.out HB.out) | (with_reducible refine Kd.C_alloc ?_ _) | (with_reducible refine Kd.C_drewN ?_ _) | (with_reducible refine Kd.C_drew ?_)))
                 (case side4=>exact HC184_0.out)
                 rintro e w55 ⟨rfl,hb⟩;refine⟨_,rfl,?_⟩;replace BK177:=vb_ BK177 hb;replace HB:=sb_ HB hb
                 (try clear hb)
                 (try clear hb2)
                 (try clear hk)
                 (try clear hi)
                 refine hK.out _ _ ⟨bc_,bc_,(ce_ HB hw184_0)⟩ (fun hHeld=>?_);clear hK K;refine no_ (h:=?_);refine pu_ HT_ 7 59 (bm 32 255) ?_;refine pu_ HT_ 8 60 (bm 32 511) ?_;refine pz_ HT_ 9 61 (bm 32 1023) ?_;refine pz_ HT_ 10 62 (bm 32 2047) ?_;refine pz_ HT_ 11 63 (bm 32 4095) ?_;refine pz_ HT_ 12 64 (bm 32 8191) ?_;refine pz_ HT_ 13 65 (bm 32 16383) ?_;refine pz_ HT_ 14 66 (bm 32 32767) ?_;refine pz_ HT_ 15 67 (bm 32 65535) ?_;refine pz_ HT_ 16 68 (bm 32 131071) ?_;refine pz_ HT_ 17 69 (bm 32 262143) ?_;refine pz_ HT_ 18 70 (bm 32 524287) ?_;refine pu_ HT_ 19 71 (bm 32 1048575) ?_;refine pu_ HT_ 20 72 (bm 32 2097151) ?_;refine pz_ HT_ 21 73 (bm 32 4194303) ?_;refine pz_ HT_ 22 74 (bm 32 8388607) ?_;refine pz_ HT_ 23 75 (bm 32 16777215) ?_;refine pz_ HT_ 24 76 (bm 32 33554431) ?_;refine pz_ HT_ 25 77 (bm 32 67108863) ?_;refine pz_ HT_ 26 78 (bm 32 134217727) ?_;refine pz_ HT_ 27 79 (bm 32 268435455) ?_;refine pz_ HT_ 28 80 (bm 32 536870911) ?_;refine pz_ HT_ 29 81 (bm 32 1073741823) ?_;refine pz_ HT_ 30 82 (bm 32 2147483647) ?_;refine pu_ HT_ 31 83 (bm 32 4294967295) ?_;refine done_ (done_of HT_.out (by kernel_rfl)) ?_
                 try go_wp2
                 go_ret;exact⟨rr_,hB_⟩
               ·
                rw [if_neg c34] at H;exact absurd H (by simp)
              ·
               rw [if_neg c33] at H;exact absurd H (by simp)
             ·
              rw [if_neg c32] at H;have c32b0:decide (x5_4<x3_2)=false:=decide_eq_false c32;clear c32;have H':=Aside0.mk H;clear H;go_wp2;go_roundg k4
              case measure=>have:=HJ1.out;have:=HK2.out;have:=HJ13.out;have:=HK4.out;omega
              case rel=>exact⟨(wrap64 (x3_2+1)),(by first | rfl | (simp;done) | (simp [*];done)),H',⟨by have:=HJ1.out;have:=HK2.out;have:=HJ13.out;have:=HK4.out;omega⟩,⟨uq_⟩,⟨hB_⟩⟩
       ·
        rw [if_neg c13] at H;exact absurd H (by simp)
      ·
       rw [if_neg c12] at H;have c12b0:decide (x3_2<(l0_1.length:Int))=false:=decide_eq_false c12;clear c12;obtain rfl:=Option.some.inj H;have hcz56_0:=c20_ BK177;have hcz56_1:=c21_ BK177;have hfz56_0:=fz_ BK177 0;have hfz56_1:=fz_ BK177 1;go_wp2;go_ret;exact⟨rr_,hB_⟩
end Go.Proofs.YtkefmnmoaomlhaaDoor.X
end
section
set_option linter.unusedVariables false
set_option linter.unusedSimpArgs false
namespace Mort
end Mort
namespace Go.Proofs.YtkefmnmoaomlhaaDoor.X
open Go.RowKit Go.Proofs.YtkefmnmoaomlhaaDoorW.PrintWords Go.Proofs.YtkefmnmoaomlhaaDoorW.PrintLast Go.Proofs.YtkefmnmoaomlhaaDoorW.PrintMore
open Mort (edges loopOk ptOk segOk has meet ed pairOk joined apartB plateOk PlateGood inOf segMeet)
def pl (o:List S28)(H:List (List S28)):Mort.Plate:=(o.map ptP,H.map (List.map ptP))
theorem fst_pt (z:List S28):(z.map ptP).getD 0 (0,0)=fstP z:=ptP_getD z 0
theorem apart_ix (a b:List S28):apartB (a.map ptP) (b.map ptP)=true ↔ ∀ i,i<a.length→∀ j,j<b.length→meet (sgP (edS a i)) (sgP (edS b j))=false:=by
 rw [Mort.apartB_iff];constructor
 ·
  intro h i hi j hj;rw [← ed_edS,← ed_edS];exact h _ (Mort.mem_edges.2 ⟨i,by simpa using hi,rfl⟩) _ (Mort.mem_edges.2 ⟨j,by simpa using hj,rfl⟩)
 ·
  intro h e he f hf;obtain⟨i,hi,rfl⟩:=Mort.mem_edges.1 he;obtain⟨j,hj,rfl⟩:=Mort.mem_edges.1 hf;rw [ed_edS,ed_edS];exact h i (by simpa using hi) j (by simpa using hj)
theorem meetsB_eq {a b:List S28}(ha:loopOk (a.map ptP)=true)(hb:loopOk (b.map ptP)=true):(!meetsB a b)=apartB (a.map ptP) (b.map ptP):=by
 obtain⟨_,_,aok⟩:=ok_facts ha;obtain⟨_,_,bok⟩:=ok_facts hb;rw [Bool.eq_iff_iff,apart_ix];unfold meetsB;rw [Bool.not_eq_true',List.any_eq_false];constructor
 ·
  intro h i hi j hj;have h1:=h ⟨i,hi⟩ (List.mem_finRange _);rw [Bool.not_eq_true,List.any_eq_false] at h1;have h2:=h1 ⟨j,hj⟩ (List.mem_finRange _)
  cases hm:meet (sgP (edS a i)) (sgP (edS b j)) with
  | false=>rfl
  | true=>exact absurd ((Mort.segMeet_iff _ _).2 ⟨aok i hi,bok j hj,hm⟩) h2
 ·
  intro h i _ h1;rw [List.any_eq_true] at h1;obtain⟨j,_,h2⟩:=h1;have:=h i i.2 j j.2;rw [((Mort.segMeet_iff _ _).1 h2).2.2] at this;cases this
theorem iBodyOk (o:List S28)(H:List (List S28)):bodyOkB o H=plateOk (pl o H):=by
 unfold bodyOkB plateOk pl Mort.nested;simp only [List.length_map]
 match H with
 | [] =>
  simp only [List.length_nil,List.all_nil,List.map_nil,apartAll,nestedAll,List.range'_zero,Bool.and_true,Bool.true_and]
 | [a] =>
  simp only [List.length_cons,List.length_nil,List.all_cons,List.all_nil,List.map_cons,List.map_nil,apartAll,nestedAll,List.range'_succ,List.range'_zero,rowN,okN,Bool.and_true,Bool.true_and,fst_pt,inS,List.getD_cons_zero,beq_self_eq_true,Bool.true_or];cases ho:loopOk (o.map ptP) <;> cases ha:loopOk (a.map ptP) <;> try rfl
  rw [meetsB_eq ho ha];simp [Nat.zero_le]
 | [a,b] =>
  simp only [List.length_cons,List.length_nil,List.all_cons,List.all_nil,List.map_cons,List.map_nil,apartAll,nestedAll,List.range'_succ,List.range'_zero,rowN,okN,Bool.and_true,Bool.true_and,fst_pt,inS,List.getD_cons_zero,List.getD_cons_succ,beq_self_eq_true,Bool.true_or];cases ho:loopOk (o.map ptP) <;> cases ha:loopOk (a.map ptP) <;> cases hb:loopOk (b.map ptP) <;> try rfl
  rw [meetsB_eq ho ha,meetsB_eq ho hb,meetsB_eq ha hb];generalize apartB (o.map ptP) (a.map ptP)=t1;generalize apartB (o.map ptP) (b.map ptP)=t2;generalize apartB (a.map ptP) (b.map ptP)=t3;generalize (inOf (o.map ptP) (fstP a)==1)=t4;generalize (inOf (o.map ptP) (fstP b)==1)=t5;generalize (inOf (b.map ptP) (fstP a) == -1)=t6;generalize (inOf (a.map ptP) (fstP b) == -1)=t7;cases t1 <;> cases t2 <;> cases t3 <;> cases t4 <;> cases t5 <;> cases t6 <;> cases t7 <;> rfl
 | a::b::c::r =>
  rw [decide_eq_false (by simp only [List.length_cons];omega)];rfl
theorem good_of {o:List S28}{H:List (List S28)}(h:plateOk (pl o H)=true):PlateGood (pl o H):=(Mort.plateOk_iff _).1 h
end Go.Proofs.YtkefmnmoaomlhaaDoor.X
end
section
set_option linter.unusedVariables false
set_option linter.unusedSimpArgs false
namespace Go.Proofs.YtkefmnmoaomlhaaDoor.X
open Go.RowKit Go.Proofs.YtkefmnmoaomlhaaDoorW.PrintWords Go.Proofs.YtkefmnmoaomlhaaDoorW.PrintLast Go.Proofs.YtkefmnmoaomlhaaDoorW.PrintMore
open Mort (edges loopOk ptOk segOk has meet ed pairOk joined apartB plateOk PlateGood inOf segMeet)
theorem fst_ok {z:List S28}(h:loopOk (z.map ptP)=true):ptOk ((rd_T28 z 0).f0,(rd_T28 z 0).f1)=true:=by
 obtain⟨h3,_,hok⟩:=ok_facts h;exact (seg_ends (hok 0 (by omega))).1
theorem sL3In {z:List S28}{x y:Int}(h:loopOk (z.map ptP)=true)(hp:ptOk (x,y)=true):spec_l3In.f z x y=some (inOf (z.map ptP) (x,y)):=by
 unfold spec_l3In.f;rw [if_pos ⟨h,hp⟩]
theorem sL3Fst {z a:List S28}(h:loopOk (z.map ptP)=true)(ha:loopOk (a.map ptP)=true):spec_l3In.f z (rd_T28 a 0).f0 (rd_T28 a 0).f1=some (inOf (z.map ptP) (fstP a)):=sL3In h (fst_ok ha)
def holeOk (o a:List S28):Bool:=loopOk (a.map ptP) && (inOf (o.map ptP) (fstP a)==1 && apartB (o.map ptP) (a.map ptP))
def pairH (a b:List S28):Bool:=apartB (a.map ptP) (b.map ptP) && (inOf (b.map ptP) (fstP a) == -1 && inOf (a.map ptP) (fstP b) == -1)
theorem plate_hole {o:List S28}{H:List (List S28)}(ho:loopOk (o.map ptP)=true)(i:Nat)(hi:i<H.length){k:Nat}(hk:300≤k):
  spec_PlateOk.l0 (k+2) (i:Int) o H=if holeOk o (rd_L5 H (i:Int)) then spec_PlateOk.l1 k (i:Int) (rd_L5 H (i:Int)) 0 o H else some false:=by
 simp only [spec_PlateOk.l0];rw [if_pos (by omega),if_pos (by omega),sLoopOk (by omega),Option.bind_some];generalize rd_L5 H (i:Int)=a;unfold holeOk
 cases ha:loopOk (a.map ptP) with
 | false=>rw [if_neg (by decide)];simp only [spec_PlateOk.j2];simp
 | true =>
  obtain⟨h3,_,_⟩:=ok_facts ha;rw [if_pos rfl,if_pos (by omega),sL3Fst ho ha,Option.bind_some];by_cases h1:inOf (o.map ptP) (fstP a)=1
  ·
   rw [if_pos h1,sApart (by omega) ho ha,Option.bind_some];simp only [spec_PlateOk.j2];rw [h1];cases apartB (o.map ptP) (a.map ptP) <;> simp
  ·
   rw [if_neg h1,beq_eq_false_iff_ne.2 h1];simp only [spec_PlateOk.j2];simp
theorem sPlateOk {k:Nat}(hk:1000≤k)(o:List S28)(H:List (List S28)):spec_PlateOk.f k o H=some (plateOk (pl o H)):=by
 unfold spec_PlateOk.f;rw [sLoopOk (by omega),Option.bind_some];obtain⟨k,rfl⟩:∃ q,k=q+10:=⟨k-10,by omega⟩
 cases ho:loopOk (o.map ptP) with
 | false =>
  rw [if_neg (by decide)];simp only [spec_PlateOk.j0];unfold plateOk pl;simp only;rw [ho];simp
 | true =>
  rw [if_pos rfl];by_cases h2:H.length≤2
  ·
   rw [decide_eq_false (by omega)];simp only [spec_PlateOk.j0];rw [if_neg (by decide)];unfold plateOk pl Mort.nested;simp only [List.length_map];rw [ho,decide_eq_true h2]
   match H,h2 with
   | [],_=>simp only [spec_PlateOk.l0];simp
   | [a],_ =>
    refine Eq.trans (show spec_PlateOk.l0 (k+9) 0 o [a]=_ from plate_hole (k:=k+7) ho 0 (by simp) (by omega)) ?_;have e1:spec_PlateOk.l1 (k+7) ((0:Nat):Int) a 0 o [a]=some true:=by
     simp only [spec_PlateOk.l1];rw [if_neg (by omega),show wrap64 (((0:Nat):Int)+1)=1 by unfold wrap64;omega];simp only [spec_PlateOk.l0];rw [if_neg (by simp)]
    show (if holeOk o a then spec_PlateOk.l1 (k+7) ((0:Nat):Int) a 0 o [a] else _)=_
    rw [e1];unfold holeOk;simp only [List.map_cons,List.map_nil,List.all_cons,List.all_nil,Bool.and_true,Bool.true_and,fst_pt];generalize loopOk (a.map ptP)=t1;generalize (inOf (o.map ptP) (fstP a)==1)=t2;generalize apartB (o.map ptP) (a.map ptP)=t3;cases t1 <;> cases t2 <;> cases t3 <;> rfl
   | [a,b],_ =>
    refine Eq.trans (show spec_PlateOk.l0 (k+9) 0 o [a,b]=_ from plate_hole (k:=k+7) ho 0 (by simp) (by omega)) ?_;have e1:spec_PlateOk.l1 (k+7) ((0:Nat):Int) a 0 o [a,b]=if holeOk o b then spec_PlateOk.l1 (k+4) ((1:Nat):Int) b 0 o [a,b] else some false:=by
     simp only [spec_PlateOk.l1];rw [if_neg (by omega),show wrap64 (((0:Nat):Int)+1)=((1:Nat):Int) by unfold wrap64;omega,plate_hole (k:=k+4) ho 1 (by simp) (by omega)];rfl
    show (if holeOk o a then spec_PlateOk.l1 (k+7) ((0:Nat):Int) a 0 o [a,b] else _)=_
    rw [e1];have hp:holeOk o a=true→holeOk o b=true→spec_PlateOk.l1 (k+4) ((1:Nat):Int) b 0 o [a,b]=some (pairH b a):=by
     intro h1 h2;have ha:loopOk (a.map ptP)=true:=by unfold holeOk at h1;cases h:loopOk (a.map ptP) with | true=>rfl | false=>rw [h] at h1;cases h1
     have hb:loopOk (b.map ptP)=true:=by unfold holeOk at h2;cases h:loopOk (b.map ptP) with | true=>rfl | false=>rw [h] at h2;cases h2
     obtain⟨a3,_,_⟩:=ok_facts ha;obtain⟨b3,_,_⟩:=ok_facts hb;simp only [spec_PlateOk.l1];rw [if_pos (by omega),if_pos (by omega),if_pos (by simp)];rw [show rd_L5 [a,b] 0=a from rfl,sApart (by omega) hb ha,Option.bind_some];unfold pairH
     cases apartB (b.map ptP) (a.map ptP) with
     | false=>rw [if_neg (by decide)];rfl
     | true =>
      rw [if_pos rfl,if_pos (by omega),sL3Fst ha hb,Option.bind_some];by_cases e1:inOf (a.map ptP) (fstP b) = -1
      ·
       rw [if_pos e1,if_pos (by omega),sL3Fst hb ha,Option.bind_some,e1];by_cases e2:inOf (b.map ptP) (fstP a) = -1
       ·
        rw [if_pos e2,e2];have hw0:wrap64 (0+1)=1:=by unfold wrap64;omega
        rw [hw0,if_neg (by omega)];have hw2:wrap64 (((1:Nat):Int)+1)=2:=by unfold wrap64;omega
        rw [hw2];simp only [spec_PlateOk.l0];rw [if_neg (by simp)];rfl
       ·
        rw [if_neg e2,beq_eq_false_iff_ne.2 e2];rfl
      ·
       rw [if_neg e1,beq_eq_false_iff_ne.2 e1];rfl
    have hc:=Mort.apartB_comm (a.map ptP) (b.map ptP);simp only [List.map_cons,List.map_nil,List.all_cons,List.all_nil,Bool.and_true,Bool.true_and,fst_pt]
    cases h1:holeOk o a with
    | false =>
     rw [if_neg (by decide)];unfold holeOk at h1;revert h1;generalize loopOk (a.map ptP)=t1;generalize (inOf (o.map ptP) (fstP a)==1)=t2;generalize apartB (o.map ptP) (a.map ptP)=t3;intro h1;cases t1 <;> cases t2 <;> cases t3 <;> simp at h1 ⊢
    | true =>
     rw [if_pos rfl]
     cases h2:holeOk o b with
     | false =>
      rw [if_neg (by decide)];unfold holeOk at h2;revert h2;generalize loopOk (b.map ptP)=t1;generalize (inOf (o.map ptP) (fstP b)==1)=t2;generalize apartB (o.map ptP) (b.map ptP)=t3;intro h2;cases t1 <;> cases t2 <;> cases t3 <;> simp at h2 ⊢
     | true =>
      rw [if_pos rfl,hp h1 h2];unfold holeOk at h1 h2;unfold pairH;rw [hc];simp only [Bool.and_eq_true] at h1 h2;rw [h1.1,h1.2.1,h1.2.2,h2.1,h2.2.1,h2.2.2];generalize apartB (b.map ptP) (a.map ptP)=t1;generalize (inOf (b.map ptP) (fstP a) == -1)=t2;generalize (inOf (a.map ptP) (fstP b) == -1)=t3;cases t1 <;> cases t2 <;> cases t3 <;> rfl
  ·
   rw [decide_eq_true (by omega)];simp only [spec_PlateOk.j0];unfold plateOk pl;simp only [List.length_map];rw [decide_eq_false h2];simp
end Go.Proofs.YtkefmnmoaomlhaaDoor.X
end
section
set_option linter.unusedVariables false
set_option linter.unusedSimpArgs false
namespace Go.Proofs.YtkefmnmoaomlhaaDoor.X
open Go.RowKit Go.Shelf Go.Proofs.YtkefmnmoaomlhaaDoorW.PrintWords Go.Proofs.YtkefmnmoaomlhaaDoorW.PrintLast Go.Proofs.YtkefmnmoaomlhaaDoorW.PrintMore
open Mort (edges segMeet loopOk ptOk inOf segFar segOk least fracOk fracCmp)
theorem farE_told (b c:Nat)(A:Option Addr)(E:List S61)(x y:Int)(r:Mort.Frac)(w:World)(hcell:w.cell? ⟨b,2,none⟩=some (.slice A E.length c))(hcap:E.length≤c)
  (hC:Kd.C k61 w A E.length E) (hok:∀ s∈E,segOk (sgP s)=true) (hp:ptOk (x,y)=true) (hE:ErrW w) (hne:0<E.length) (hreach:E.length≤1000000) (h:farE E (x,y)=r) :
  Calls Tryd.prog 62 #[.pointer (some ⟨b,0,none⟩),.agg #[.int .i64 x,.int .i64 y]] w fun e w'=>e=.returned (.agg #[.int .i64 r.1,.int .i64 r.2])∧Below w.heap.size w w':=by
 cases E with
 | nil=>simp at hne
 | cons e0 es=>exact far_calls b c A e0 es x y r w hcell hcap hC hok hp hE (by simp only [List.length_cons] at hreach;omega) h
section
variable (A0_0:Option Addr) (c0_0:Nat) (l0_0:List S28) (A0_1:Option Addr) (c0_1:Nat) (l0_1:List (List S28))
end
def nearFrom (p:Mort.Pt)(f:Mort.Frac):Nat→List S61→List Int
 | _,[]=>[]
 | i,s::E=>if fracCmp (segFar (sgP s) p) f=0 then (i:Int)::nearFrom p f (i+1) E else nearFrom p f (i+1) E
theorem nearFrom_cons (p:Mort.Pt)(f:Mort.Frac)(i:Nat)(s:S61)(E:List S61):nearFrom p f i (s::E)=if fracCmp (segFar (sgP s) p) f=0 then (i:Int)::nearFrom p f (i+1) E else nearFrom p f (i+1) E:=rfl
def impl_PlateNear.f (l0_0:List S28)(l0_1:List (List S28))(a1_0 a1_1:Int):Option (List Int):=
 some (if bodyOkB l0_0 l0_1 && ptOk (a1_0,a1_1) then nearFrom (a1_0,a1_1) (farE (allEdges (l0_0::l0_1)) (a1_0,a1_1)) 0 (allEdges (l0_0::l0_1)) else [])
set_option maxHeartbeats 4000000 in
set_option maxRecDepth 100000 in
theorem near_calls (b c:Nat)(A:Option Addr)(E:List S61)(x y:Int)(f:Mort.Frac)(r:List Int)(w:World)(hcell:w.cell? ⟨b,2,none⟩=some (.slice A E.length c))(hcap:E.length≤c)
  (hC:Kd.C k61 w A E.length E) (hok:∀ s∈E,segOk (sgP s)=true) (hp:ptOk (x,y)=true) (hE:ErrW w) (hne:0<E.length) (hreach:E.length≤1000000) (hf:farE E (x,y)=f) (h:nearFrom (x,y) f 0 E=r) :
  Calls Tryd.prog 84 #[.pointer (some ⟨b,0,none⟩),.agg #[.int .i64 x,.int .i64 y]] w fun e w'=>∃ v0_,e=.returned v0_∧Kd.R (Kd.int .i64) 3 w' w.heap.size (fun _=>True) v0_ r∧Below w.heap.size w w':=by
 have hu35:=Tryd.underlying35;have hu28:=Tryd.underlying28;have hu61:=Tryd.underlying61;have hal:=below_alloc (Below.refl w.heap.size w) (.cells #[.int .i64 x,.int .i64 y] 28);have np:=blk_new w (.cells #[.int .i64 x,.int .i64 y] 28 (0,0));have hFar:=farE_told b c A E x y f _ (pw_cell_below hal hcell) hcap (Kd.C_below hC hal) hok hp (hE.below hal) hne hreach hf;have c0:=pw_cell_below hal hcell;have HK:=a0_ (And.intro hC (And.intro hok (And.intro hp (And.intro hE (And.intro hreach (And.intro h (And.intro hal (And.intro np c0))))))));have HF:=Aside0.mk hFar;clear hC hok hp hE hreach h hne hf hal np hcell hFar c0;go_enter Tryd.func84,Tryd.ntmps84;go_wp2_with (first | (go_at_call 62;refine HF.out.mono ?_;rintro e w1 ⟨rfl,hb1⟩;have c2:=pw_cell_below (below_alloc (Below.refl w1.heap.size w1) (.cells #[.int .i64 f.1,.int .i64 f.2] 35)) (pw_cell_below hb1 HK.out.2.2.2.2.2.2.2.2)));clear c2;generalize hg:w.heap.size=g at *;have hG:=Aside0.mk hg;have HS:=Aside0.mk hb1;clear hb1 hg;generalize hn:w1.heap.size=n at *;have hN:=Aside0.mk hn;clear hn
 go_loopg [5,17] E.length (fun kq v5 v17 wr=>∃ (i:Nat) (acc:List Int),v17=.int .i64 (i:Int)∧Aside0 (kq=E.length-i∧i≤E.length∧wr.heap[g]?=some (.cells #[.int .i64 x,.int .i64 y] 28 (0,0)) ∧
   wr.heap[n]?=some (.cells #[.int .i64 f.1,.int .i64 f.2] 35 (0,0))∧Kd.R (Kd.int .i64) 3 wr g (fun _=>True) v5 acc∧acc++nearFrom (x,y) f i (E.drop i)=r∧Below g w wr∧acc.length≤i))
 case atStart =>
  have h1:=HS.out;obtain⟨k1,k2,k3,k4,k5,k6,k7,k8,k9⟩:=HK.out;have hG':=hG.out;have hN':=hN.out;subst hG';subst hN';exact⟨0,[],rfl,⟨rfl,Nat.zero_le _,blk_alloc (blk_later k8 h1) _,blk_new _ _,Kd.R_nil _ _ _ _ _,k6,below_alloc (below_step k7 h1) _,Nat.le_refl _⟩⟩
 case round =>
  obtain⟨i,acc,rfl,H1⟩:=hrel;obtain⟨hk,hi,hpb,hnb,hR,hrun,hBw,hal⟩:=H1.out;clear H1 HS;by_cases hlt:i<E.length
  ·
   have hd:decide ((i:Int)<(E.length:Int))=true:=decide_eq_true (by omega);obtain⟨adr,hadr,z0,z1,z2,z3⟩:=at_sg HK.out.1 i hlt;subst hadr;have hgi:g=w.heap.size:=hG.out.symm;have t0:=(hBw.cell (by have:=World.block_lt_of_cell? w _ z0;rw [hgi];exact this)).trans z0;have t1:=(hBw.cell (p:=⟨(adr.add (i*4)).block,(adr.add (i*4)).off+1,none⟩) (by have:=World.block_lt_of_cell? w _ z1;rw [hgi];exact this)).trans z1;have t2:=(hBw.cell (p:=⟨(adr.add (i*4)).block,(adr.add (i*4)).off+2,none⟩) (by have:=World.block_lt_of_cell? w _ z2;rw [hgi];exact this)).trans z2;have t3:=(hBw.cell (p:=⟨(adr.add (i*4)).block,(adr.add (i*4)).off+3,none⟩) (by have:=World.block_lt_of_cell? w _ z3;rw [hgi];exact this)).trans z3;have hes:E.drop i=E.getD i z61::E.drop (i+1):=by rw [List.drop_eq_getElem_cons hlt,List.getD_eq_getElem?_getD,List.getElem?_eq_getElem hlt];rfl
   rw [hes,nearFrom_cons] at hrun;generalize E.getD i z61=s0 at *;have hfar:=segFar_told s0 x y;generalize segFar (sgP s0) (x,y)=f1 at *;have hcm:impl_FracCmp.f f1.1 f1.2 f.1 f.2=some (fracCmp f1 f):=rfl;have hE2:ErrW wr:=HK.out.2.2.2.1.below (hgi▸hBw);generalize fracCmp f1 f=cv at *;have hW:=below_drew1 (below_alloc (Below.refl wr.heap.size wr) (.cells #[.int .i64 s0.f0.f0,.int .i64 s0.f0.f1,.int .i64 s0.f1.f0,.int .i64 s0.f1.f1] 61));have nb:=blk_new wr (.cells #[.int .i64 s0.f0.f0,.int .i64 s0.f0.f1,.int .i64 s0.f1.f0,.int .i64 s0.f1.f1] 61 (0,0));have HL:=a0_ (And.intro hk (And.intro hpb (And.intro hnb (And.intro hR (And.intro hrun (And.intro hBw (And.intro hal (And.intro hE2 (And.intro hcm (And.intro hlt (And.intro hW nb)))))))))));clear hk hi hpb hnb hR hrun hBw hal hE2 hcm hes z0 z1 z2 z3 hgi hW nb;go_wp2;obtain⟨hW,nb⟩:=HL.out.2.2.2.2.2.2.2.2.2.2;have pb:=blk_later HL.out.2.1 hW;have fb:=blk_later HL.out.2.2.1 hW;generalize hW0:(wr.alloc (.cells #[.int .i64 s0.f0.f0,.int .i64 s0.f0.f1,.int .i64 s0.f1.f0,.int .i64 s0.f1.f1] 61)).drew=W0 at *;generalize hm:wr.heap.size=m at *;have nb0:W0.heap[m]?=some (.cells #[.int .i64 s0.f0.f0,.int .i64 s0.f0.f1,.int .i64 s0.f1.f0,.int .i64 s0.f1.f1] 61 (0,0)):=by rw [← hW0];exact nb
   have d0:W0.cell? ⟨m,0,none⟩=some (.int .i64 s0.f0.f0):=(blk_cell nb0 0).trans rfl;have d1:W0.cell? ⟨m,1,none⟩=some (.int .i64 s0.f0.f1):=(blk_cell nb0 1).trans rfl;have d2:W0.cell? ⟨m,2,none⟩=some (.int .i64 s0.f1.f0):=(blk_cell nb0 2).trans rfl;have d3:W0.cell? ⟨m,3,none⟩=some (.int .i64 s0.f1.f1):=(blk_cell nb0 3).trans rfl;have d4:W0.cell? ⟨g,0,none⟩=some (.int .i64 x):=(blk_cell pb 0).trans rfl;have d5:W0.cell? ⟨g,1,none⟩=some (.int .i64 y):=(blk_cell pb 1).trans rfl;have d6:W0.cell? ⟨n,0,none⟩=some (.int .i64 f.1):=(blk_cell fb 0).trans rfl;have d7:W0.cell? ⟨n,1,none⟩=some (.int .i64 f.2):=(blk_cell fb 1).trans rfl;have HW:=a0_ (And.intro hW0 (And.intro hm (And.intro hW (And.intro pb fb))));have hbW:ErrW W0:=HL.out.2.2.2.2.2.2.2.1.below (hm▸hW);clear hW nb pb fb nb0 hm t0 t1 t2 t3;go_region_held3 (fun W=>W.cell? ⟨m,0,none⟩=some (.int .i64 s0.f0.f0)∧W.cell? ⟨m,1,none⟩=some (.int .i64 s0.f0.f1)∧W.cell? ⟨m,2,none⟩=some (.int .i64 s0.f1.f0)∧W.cell? ⟨m,3,none⟩=some (.int .i64 s0.f1.f1)∧W.cell? ⟨g,0,none⟩=some (.int .i64 x)∧W.cell? ⟨g,1,none⟩=some (.int .i64 y)∧W.cell? ⟨n,0,none⟩=some (.int .i64 f.1)∧W.cell? ⟨n,1,none⟩=some (.int .i64 f.2))
    (first | exact⟨pw_cell_below hbB (pw_cell_below hbA d0),pw_cell_below hbB (pw_cell_below hbA d1),pw_cell_below hbB (pw_cell_below hbA d2),pw_cell_below hbB (pw_cell_below hbA d3),pw_cell_below hbB (pw_cell_below hbA d4),pw_cell_below hbB (pw_cell_below hbA d5),pw_cell_below hbB (pw_cell_below hbA d6),pw_cell_below hbB (pw_cell_below hbA d7)⟩ | exact⟨pw_cell_below hbA d0,pw_cell_below hbA d1,pw_cell_below hbA d2,pw_cell_below hbA d3,pw_cell_below hbA d4,pw_cell_below hbA d5,pw_cell_below hbA d6,pw_cell_below hbA d7⟩ | go_keep)
    (first | (go_at_call 37;refine (hfar f1 _ rfl).mono ?_;rintro e w6 ⟨rfl,hbA⟩) | (go_at_call 21;refine (impl_FracCmp.calls f1.1 f1.2 f.1 f.2 cv _ (hbW.below hbA) HL.out.2.2.2.2.2.2.2.2.1).mono ?_;rintro e w7 ⟨rfl,hbB⟩))
   obtain⟨hW0,hm,hW,pb,fb⟩:=HW.out;obtain⟨k1,k2,k3,k4,k5,k6,k7,k8,k9,k10,k11⟩:=HL.out;have pb7:=blk_later (blk_later pb hbA) hbB;have fb7:=blk_later (blk_later fb hbA) hbB;have hWr:Below wr.heap.size wr W0:=by rw [hm];exact hW
   have hb7:Below wr.heap.size wr w7:=below_step (below_step hWr hbA) hbB;have R7:=Kd.R_below k4 hb7;have B7:Below g w w7:=below_row k6 (Nat.le_of_eq hG.out.symm) hb7;have hm2:E.length-i=(E.length-(i+1))+1:=by omega
   have HM:=a0_ (And.intro pb7 (And.intro fb7 (And.intro R7 (And.intro B7 (And.intro k1 (And.intro k5 (And.intro k7 hm2)))))));clear hW0 hm hW pb fb k1 k2 k3 k4 k5 k6 k7 k8 k9 k10 k11 pb7 fb7 hWr hb7 R7 B7 hm2 hbA hbB hbW d0 d1 d2 d3 d4 d5 d6 d7;by_cases hcv:cv=0
   ·
    have e1:(cv==0)=true:=beq_iff_eq.2 hcv;have HC:=Aside0.mk hcv;clear hcv;generalize (cv==0)=t27 at *;subst e1;have LM:=HM.out.2.2.2.2.2.2.1;have LE:=HK.out.2.2.2.2.1;go_wp2_with (first | ((with_reducible refine gate_builtin (b:=.append) (xs:=#[.tmp 28,.tmp 30]) rfl ?_);at_builtin;refine Kd.R_append (Kd.int .i64) (w0:=w) g rfl (.tmp 28) (.tmp 30) 63 3 (.int .i64 0) 8 rfl Tryd.underlying63 info3 rfl (by decide) (by omega) u5 acc (i:Int) [.int .i64 (i:Int)] (fun _=>True) (fun _=>False) rfl rfl rfl (fun _ hk=>hk.elim) (fun _ _=>trivial) HM.out.2.2.1 HM.out.2.2.2.1 (hG.out▸(hG.out▸HM.out.2.2.2.1).size) (by omega) ?_;intro v8 w8 ho8 hb8 hg8 hat8;have p8:=blk_grown HM.out.1 hg8 (Kd.R_ne HM.out.2.2.1 HM.out.1 (by decide));have f8:=blk_grown HM.out.2.1 hg8 (Kd.R_ne HM.out.2.2.1 HM.out.2.1 (by decide));have H8:=a0_ (And.intro ho8 (And.intro hb8 (And.intro p8 f8)));clear ho8 hb8 hg8 hat8 p8 f8));obtain⟨a1,a2,a3,a4,a5,a6,a7,a8⟩:=HM.out;obtain⟨o8,b8,p8,f8⟩:=H8.out;have hcv:=HC.out;go_roundg (E.length-(i+1))
    case measure=>omega
    case rel =>
     refine⟨i+1,acc++[(i:Int)],rfl,⟨rfl,by omega,p8,f8,o8,?_,b8,by simp only [List.length_append,List.length_cons,List.length_nil];omega⟩⟩;rw [if_pos hcv] at a6;rw [← a6];simp
   ·
    have e1:(cv==0)=false:=beq_eq_false_iff_ne.2 hcv;have HC:=Aside0.mk hcv;clear hcv;generalize (cv==0)=t27 at *;subst e1;go_wp2;obtain⟨a1,a2,a3,a4,a5,a6,a7,a8⟩:=HM.out;have hcv:=HC.out;have hw:wrap64 ((i:Int)+1)=(i:Int)+1:=by have:=HK.out.2.2.2.2.1;unfold wrap64;omega
    go_roundg (E.length-(i+1))
    case measure=>omega
    case rel =>
     refine⟨i+1,acc,by rw [hw];rfl,⟨rfl,by omega,a1,a2,a3,?_,a4,by omega⟩⟩
     rwa [if_neg hcv] at a6
  ·
   obtain rfl:i=E.length:=by omega
   have hd:decide ((E.length:Int)<(E.length:Int))=false:=decide_eq_false (by omega);have hrr:acc=r:=by rw [← hrun,List.drop_length];simp [nearFrom]
   have HB:=a0_ (And.intro hR (And.intro hBw hrr));clear hrun hBw hnb hpb hk hi hlt hR hal hrr;go_wp2;go_ret;obtain⟨h1,h2,rfl⟩:=HB.out;have hG':=hG.out;subst hG';exact⟨_,rfl,h1,h2⟩
section
variable (A0_0:Option Addr) (c0_0:Nat) (l0_0:List S28) (A0_1:Option Addr) (c0_1:Nat) (l0_1:List (List S28))
set_option maxHeartbeats 4000000 in
set_option maxRecDepth 100000 in
theorem impl_PlateNear.calls (a1_0 a1_1:Int)(r:List Int)(w:World)(hr0_0:Kd.C k28 w A0_0 l0_0.length l0_0)(hc0_0:l0_0.length≤c0_0)(hr0_1:Kd.C (Kd.slice 28 k28) w A0_1 l0_1.length l0_1)(hc0_1:l0_1.length≤c0_1)(hE:ErrW w)(h:impl_PlateNear.f l0_0 l0_1 a1_0 a1_1=some r):
  Calls Tryd.prog 40 #[.agg #[.slice A0_0 l0_0.length c0_0,.slice A0_1 l0_1.length c0_1],.agg #[.int .i64 a1_0,.int .i64 a1_1]] w fun e w'=>∃ v0_,e=.returned v0_∧Kd.R (Kd.int .i64) 3 w' w.heap.size (fun _=>True) v0_ r∧Below w.heap.size w w':=by
 have hu26:=Tryd.underlying26;have hu28:=Tryd.underlying28;have hb:(if bodyOkB l0_0 l0_1 && ptOk (a1_0,a1_1) then nearFrom (a1_0,a1_1) (farE (allEdges (l0_0::l0_1)) (a1_0,a1_1)) 0 (allEdges (l0_0::l0_1)) else [])=r:=Option.some.inj h;clear h;have hal:=below_alloc (below_alloc (Below.refl w.heap.size w) (.cells #[.slice A0_0 l0_0.length c0_0,.slice A0_1 l0_1.length c0_1] 26)) (.cells #[.int .i64 a1_0,.int .i64 a1_1] 28);have HK:=a0_ (And.intro (Kd.C_below hr0_0 hal) (And.intro hc0_0 (And.intro (Kd.C_below hr0_1 hal) (And.intro hc0_1 (And.intro hal (hE.below hal))))));clear hr0_0 hc0_0 hr0_1 hc0_1 hal hE;have np:=blk_new (w.alloc (.cells #[.slice A0_0 l0_0.length c0_0,.slice A0_1 l0_1.length c0_1] 26)) (.cells #[.int .i64 a1_0,.int .i64 a1_1] 28 (0,0));rw [World.size_alloc] at np;have NP:=Aside0.mk np;clear np
 cases hk:bodyOkB l0_0 l0_1 with
 | false =>
  rw [hk,Bool.false_and,if_neg (by decide)] at hb;subst hb;have HB:=Aside0.mk hk;clear hk;go_enter Tryd.func40,Tryd.ntmps40;go_wp2_with (go_at_call 52;refine (bodyOf_calls A0_0 c0_0 l0_0 A0_1 c0_1 l0_1 false _ HK.out.1 HK.out.2.1 HK.out.2.2.1 HK.out.2.2.2.1 HB.out).mono ?_;rintro e w1 ⟨_,hN⟩;obtain⟨rfl,hb1⟩:=hN rfl);go_ret;exact⟨_,rfl,Kd.R_nil _ _ _ _ _,below_step HK.out.2.2.2.2.1 hb1⟩
 | true =>
  cases hp:ptOk (a1_0,a1_1) with
  | false =>
   rw [hk,hp,Bool.and_false,if_neg (by decide)] at hb;subst hb;have HB:=a0_ (And.intro hk ((iPtOk a1_0 a1_1).trans (congrArg some hp)));clear hk hp;go_enter Tryd.func40,Tryd.ntmps40;go_wp2_with (first | (go_at_call 52;refine (bodyOf_calls A0_0 c0_0 l0_0 A0_1 c0_1 l0_1 true _ HK.out.1 HK.out.2.1 HK.out.2.2.1 HK.out.2.2.2.1 HB.out.1).mono ?_;rintro e w1 ⟨hN,_⟩;obtain⟨b,bs,v,rfl,hBA,hcell,hR,hb1⟩:=hN rfl;have m0:=pw_cell_below hb1 ((blk_cell NP.out 0).trans rfl);have m1:=pw_cell_below hb1 ((blk_cell NP.out 1).trans rfl);clear hBA hR hcell) | (go_at_call 23;refine (impl_PtOk.calls a1_0 a1_1 false _ HB.out.2).mono ?_;rintro e w2 ⟨rfl,hb2⟩));go_ret;exact⟨_,rfl,Kd.R_nil _ _ _ _ _,below_step (below_step HK.out.2.2.2.2.1 hb1) hb2⟩
  | true =>
   rw [hk,hp,Bool.and_true,if_pos rfl] at hb;have HB:=a0_ (And.intro hk (And.intro ((iPtOk a1_0 a1_1).trans (congrArg some hp)) (And.intro hp hb)));clear hk hp hb;go_enter Tryd.func40,Tryd.ntmps40;go_wp2_with (first | (go_at_call 52;refine (bodyOf_calls A0_0 c0_0 l0_0 A0_1 c0_1 l0_1 true _ HK.out.1 HK.out.2.1 HK.out.2.2.1 HK.out.2.2.2.1 HB.out.1).mono ?_;rintro e w1 ⟨hN,_⟩;obtain⟨b,bs,v,rfl,hBA,hcell,hR,hb1⟩:=hN rfl;have m0:=pw_cell_below hb1 ((blk_cell NP.out 0).trans rfl);have m1:=pw_cell_below hb1 ((blk_cell NP.out 1).trans rfl);have HBY:=a0_ (And.intro hcell hR);clear hBA hR hcell) | (go_at_call 23;refine (impl_PtOk.calls a1_0 a1_1 true _ HB.out.2.1).mono ?_;rintro e w2 ⟨rfl,hb2⟩;have m2:=pw_cell_below hb2 m0;have m3:=pw_cell_below hb2 m1) | (go_at_call 84;obtain⟨Ae,ce,hv,hce,hCe⟩:=Kd.R_reads HBY.out.2;obtain⟨e0,es,hEe,hle⟩:=allEdges_cons HB.out.1;refine (near_calls b ce Ae (allEdges (l0_0::l0_1)) a1_0 a1_1 _ r _ (pw_cell_below hb2 (hv▸HBY.out.1)) hce (Kd.C_below hCe hb2) (allEdges_ok HB.out.1) HB.out.2.2.1 ((HK.out.2.2.2.2.2.below hb1).below hb2) (by rw [hEe];simp) (by rw [hEe];simp only [List.length_cons];omega) rfl HB.out.2.2.2).mono ?_;clear hv hce hCe hEe hle;rintro e w3 ⟨v0_,rfl,hRv,hb3⟩;have HRV:=Aside0.mk hRv;clear hRv));go_ret;have hbb:=below_step (below_step HK.out.2.2.2.2.1 hb1) hb2;exact⟨_,rfl,Kd.R_lower HRV.out hbb.size,below_step hbb hb3⟩
end
end Go.Proofs.YtkefmnmoaomlhaaDoor.X
end
section
namespace Go.Proofs.YtkefmnmoaomlhaaDoor.X
open Go.RowKit Go.Proofs.YtkefmnmoaomlhaaDoorW.PrintWords Go.Proofs.YtkefmnmoaomlhaaDoorW.PrintLast Go.Proofs.YtkefmnmoaomlhaaDoorW.PrintMore
attribute [local go_sem] max2_int min2_int max_two min_two max_three min_three max_four min_four
set_option linter.unusedVariables false
set_option linter.unusedSimpArgs false
def spec_l11Edges.l0:Nat→List (S61)→Int→List (S28)→List (List (S28))→Option ((List (S61)))
 | 0,_,_,_,_=>none
 | k+1,x3,x4,x457000,x457001=>if x4<(x457001.length:Int) then (if 0≤x4 then ((spec_l3Edges.f k (rd_L5 x457001 x4)).bind fun t461=>(if x3.length+t461.length<4398046511104 then (spec_l11Edges.l0 k (x3++t461) (wrap64 (x4+1)) x457000 x457001) else (none))) else (none)) else (some x3)
def spec_l11Edges.f (k:Nat)(l0_0:List (S28))(l0_1:List (List (S28))):Option ((List (S61))):=(spec_l3Edges.f k l0_0).bind fun t457=>(spec_l11Edges.l0 k t457 0 l0_0 l0_1)
set_option maxHeartbeats 8000000 in
set_option maxRecDepth 100000 in
theorem spec_l11Edges.calls (k:Nat)(A0_0:Option Addr)(c0_0:Nat)(l0_0:List (S28))(A0_1:Option Addr)(c0_1:Nat)(l0_1:List (List (S28)))(r:List (S61))(w:World)(hr0_0:Kd.C k28 w A0_0 l0_0.length l0_0)(hc0_0:l0_0.length≤c0_0)(hr0_1:Kd.C (Kd.slice 28 k28) w A0_1 l0_1.length l0_1)(hc0_1:l0_1.length≤c0_1)(h:spec_l11Edges.f k l0_0 l0_1=some r):
  Calls Tryd.prog 66 #[.agg #[.slice A0_0 l0_0.length c0_0,.slice A0_1 l0_1.length c0_1]] w fun e w'=>∃ v0_:Value,e=.returned (v0_)∧Kd.R k61 61 w' w.heap.size (fun _=>True) v0_ r∧Below w.heap.size w w':=by
 have hu26:=Tryd.underlying26;have HR0_0:=Aside0.mk hr0_0;have HC0_0:=Aside0.mk hc0_0;clear hr0_0 hc0_0;have HR0_1:=Aside0.mk hr0_1;have HC0_1:=Aside0.mk hc0_1;clear hr0_1 hc0_1;have HB:=a0_ (Below.refl w.heap.size w);have H:((spec_l3Edges.f k l0_0).bind fun t457=>(spec_l11Edges.l0 k t457 0 l0_0 l0_1))=some r:=h;clear h;replace H:=Option.bind_eq_some_iff.mp H;obtain⟨t457,A20,H⟩:=H
 (try dsimp only at H)
 have A2:=Aside0.mk A20;clear A20;have H':=Aside0.mk H;clear H;go_enter Tryd.func66,Tryd.ntmps66;go_wp2_with (first | ((with_reducible refine gate_dst (N:=1) rfl ?_);refine bx_ (N:=1) (cs:=#[.slice A0_0 l0_0.length c0_0,.slice A0_1 l0_1.length c0_1]) (t:=26) (h:=?_);intro gb456 hg w3 hbox hb;have BK456:=a0_ (hbox);have GW456:=gh_ HB hg;have GE456:=gh_ HB hg;replace HB:=sb_ HB hb;clear hb hbox hg;have hcz4_0:=c20_ BK456;have hcz4_1:=c21_ BK456;have hfz4_0:=fz_ BK456 0;have hfz4_1:=fz_ BK456 1) | ((with_reducible refine gate_callee (f:=98) rfl ?_);refine gL_ (some 7) Tryd.func98 #[.slice A0_0 l0_0.length c0_0] (h:=?_);(with_reducible refine (spec_l3Edges.calls k _ _ l0_0 t457 _ ?side1 ?side2 A2.out).mono ?_);(case side1=>repeat (first | exact (Kd.C_below HR0_0.out HB.out) | (with_reducible refine Kd.C_alloc ?_ _) | (with_reducible refine Kd.C_drewN ?_ _) | (with_reducible refine Kd.C_drew ?_)));(case side2=>exact HC0_0.out);rintro e w5 ⟨v458,rfl,ho0,hb⟩;refine⟨_,rfl,?_⟩;have HO459:=a0_ (Kd.R_lower ho0 (below_size hB_));replace BK456:=vb_ BK456 hb;replace HB:=sb_ HB hb;(try clear ho0 hb)));go_loopg [3,4] k (fun kq v3 v4 w'=>∃ (x3_1:List (S61)) (x4_1:Int),v4=.int .i64 x4_1∧Aside0 (spec_l11Edges.l0 kq x3_1 x4_1 l0_0 l0_1=some r)∧Aside0 (kq≤k)∧Aside0 (Kd.R k61 61 w' w.heap.size (fun _=>True) v3 x3_1)∧Aside0 (w'.heap[gb456]?=some (.cells #[(.slice A0_0 l0_0.length c0_0),(.slice A0_1 l0_1.length c0_1)] 26 (0,0)))∧Aside0 (Below w.heap.size w w'))
 case atStart=>exact⟨(t457),(0),(by first | rfl | (simp;done) | (simp [*];done)),H',⟨Nat.le_refl _⟩,⟨by (with_reducible repeat (first | apply Kd.R_alloc | apply Kd.R_drewN | apply Kd.R_drew));exact HO459.out⟩,⟨uq_⟩,⟨hB_⟩⟩
 case round =>
  clear H';obtain⟨x3_1,x4_1,rfl,HA,HK1,HO_3,BK456,HB⟩:=hrel
  cases gk with
  | zero=>exact absurd HA.out (by simp [spec_l11Edges.l0])
  | succ k1 =>
   have H:=HA.out;clear HA;simp only [spec_l11Edges.l0] at H;by_cases c6:x4_1<(l0_1.length:Int)
   ·
    rw [if_pos c6] at H;have c6b0:decide (x4_1<(l0_1.length:Int))=true:=decide_eq_true c6;clear c6;by_cases c7:0≤x4_1
    ·
     rw [if_pos c7] at H;have c7b0:decide (0≤x4_1)=true:=decide_eq_true c7;clear c7;replace H:=Option.bind_eq_some_iff.mp H;obtain⟨t461,A80,H⟩:=H
     (try dsimp only at H)
     have A8:=Aside0.mk A80;clear A80;by_cases c9:x3_1.length+t461.length<4398046511104
     ·
      rw [if_pos c9] at H;have LMc9:=Aside0.mk c9;clear c9;obtain⟨y464,hy464⟩:∃ y_:List (S61),y_=(x3_1++t461):=⟨_,rfl⟩;replace H:(spec_l11Edges.l0 k1 y464 (wrap64 (x4_1+1)) l0_0 l0_1)=some r:=by first | (rw [hy464];with_reducible exact H) | (have H2_:=(Option.bind_some _ _).symm.trans H;rw [hy464];with_reducible exact H2_) | (have H2_:=(Option.bind_some _ _).symm.trans H;with_reducible exact H2_) | with_reducible exact H | (rw [hy464];exact H) | exact H
      have Ny464:=Aside0.mk hy464;clear hy464;have H':=Aside0.mk H;clear H;have hcz10_0:=c20_ BK456;have hcz10_1:=c21_ BK456;have hfz10_0:=fz_ BK456 0;have hfz10_1:=fz_ BK456 1;have p460:0≤(x4_1:Int):=od_;have q460:x4_1<(l0_1.length:Int):=od_;obtain⟨ad460,A460_0,c460_0,e460,hx460_0,hl460_0,hi460_0⟩:=at_L5 HR0_1.out x4_1 p460 q460;cases e460;replace hx460_0:=ce_ HB hx460_0;have HR460_0:=Aside0.mk hi460_0;have HC460_0:=Aside0.mk hl460_0;clear hi460_0 hl460_0;replace p460:=eq_true p460;replace q460:=eq_true q460
      go_wp2_with (first | ((with_reducible refine gate_callee (f:=98) rfl ?_);refine gL_ (some 21) Tryd.func98 #[.slice A460_0 (rd_L5 l0_1 x4_1).length c460_0] (h:=?_);(with_reducible refine (spec_l3Edges.calls k1 _ _ (rd_L5 l0_1 x4_1) t461 _ ?side1 ?side2 A8.out).mono ?_);(case side1=>repeat (first | exact (Kd.C_below HR460_0.out HB.out) | (with_reducible refine Kd.C_alloc ?_ _) | (with_reducible refine Kd.C_drewN ?_ _) | (with_reducible refine Kd.C_drew ?_)));(case side2=>exact HC460_0.out);rintro e w11 ⟨v462,rfl,ho0,hb⟩;refine⟨_,rfl,?_⟩;have HO463:=a0_ (Kd.R_lower (Kd.R_new' ho0 (Kd.R_lt (uR_ HO_3))) (below_size hB_));replace HO_3:=a0_ (Kd.R_elder' (uR_ HO_3) (Kd.R_base ho0) hb);replace BK456:=vb_ BK456 hb;replace HB:=sb_ HB hb;(try clear ho0 hb);obtain⟨Ao13,co13,eo13⟩:=Kd.R_slice HO463.out;subst eo13) | ((with_reducible refine gate_builtin (b:=.append) (xs:=#[.tmp 15,.tmp 21]) rfl ?_);at_builtin;refine Kd.R_append_rows k61 (w0:=w) w.heap.size rfl (.tmp 15) (.tmp 21) 57 61 (.agg #[(.int .i64 0),(.int .i64 0),(.int .i64 0),(.int .i64 0)]) 32 rfl Tryd.underlying57 info61 rfl (by decide) (by omega) u3 x3_1 t461 _ _ _ (fun k_=>some k_≠(.slice Ao13 t461.length co13:Value).ownBlock) (fun _=>False) rfl rfl ?aO ?aR (fun _ _ h=>h) (fun _ h=>h.elim) ?aF ?aB ?aS ?aL ?_;(case aR=>repeat (first | exact (Kd.R_reads' HO463.out).2.2 | (with_reducible refine Kd.C_alloc ?_ _) | (with_reducible refine Kd.C_drewN ?_ _) | (with_reducible refine Kd.C_drew ?_)));(case aB=>exact hB_);(case aF=>exact (fun k_ hk=>Kd.fresh' (Kd.R_lt (uR_ HO463)) k_ hk));(case aO=>exact (by (with_reducible repeat (first | apply Kd.R_alloc | apply Kd.R_drewN | apply Kd.R_drew));exact Kd.R_mono HO_3.out (fun _ hk=>hk.2)));(case aS=>exact (below_size hB_));(case aL=>have:=LMc9.out;omega);intro v465 w12 ho hb hg hat;rw [← Ny464.out] at ho;have HO466:=a0_ (ho);replace BK456:=a0_ (blk_grown (g:=gb456) (o:=.cells #[.slice A0_0 l0_0.length c0_0,.slice (some ad460) l0_1.length c0_1] 26 (0,0)) uq_ hg (Kd.R_ne HO_3.out BK456.out (by decide)));replace HO463:=a0_ (Kd.R_after (ok:=(fun _=>True)) (uR_ HO463) hg hat);replace HB:=a0_ (hb);clear HO_3;clear ho hb hg hat))
      go_roundg k1
      case measure=>have:=HK1.out;omega
      case rel=>exact⟨(y464),(wrap64 (x4_1+1)),(by first | rfl | (simp;done) | (simp [*];done)),H',⟨by have:=HK1.out;omega⟩,⟨by (with_reducible repeat (first | apply Kd.R_alloc | apply Kd.R_drewN | apply Kd.R_drew));exact Kd.R_mono HO466.out (fun _ hk=>trivial)⟩,⟨uq_⟩,⟨hB_⟩⟩
     ·
      rw [if_neg c9] at H;exact absurd H (by simp)
    ·
     rw [if_neg c7] at H;exact absurd H (by simp)
   ·
    rw [if_neg c6] at H;have c6b0:decide (x4_1<(l0_1.length:Int))=false:=decide_eq_false c6;clear c6;obtain rfl:=Option.some.inj H;have hcz14_0:=c20_ BK456;have hcz14_1:=c21_ BK456;have hfz14_0:=fz_ BK456 0;have hfz14_1:=fz_ BK456 1;go_wp2;go_ret;exact⟨_,rr_,by (with_reducible repeat (first | apply Kd.R_alloc | apply Kd.R_drewN | apply Kd.R_drew));exact HO_3.out,hB_⟩
def spec_l11Far.l0:Nat→List (S61)→Int→Int→Int→Int→Int→Option (Int × Int)
 | 0,_,_,_,_,_,_=>none
 | k+1,x0,x6,x578000,x578001,x583000,x583001=>if x6<(x0.length:Int) then (if 0≤x6 then ((spec_l2Far.f k ((rd_T61 x0 x6).f0.f0) ((rd_T61 x0 x6).f0.f1) ((rd_T61 x0 x6).f1.f0) ((rd_T61 x0 x6).f1.f1) x578000 x578001).bind fun bt584=>((spec_l2Least.f x583000 x583001 bt584.1 bt584.2).bind fun bt586=>(spec_l11Far.l0 k x0 (wrap64 (x6+1)) x578000 x578001 bt586.1 bt586.2))) else (none)) else (some (x583000,x583001))
def spec_l11Far.f (k:Nat)(l0:List (S61))(a1_0:Int)(a1_1:Int):Option (Int × Int):=if 0<(l0.length:Int) then ((spec_l2Far.f k ((rd_T61 l0 0).f0.f0) ((rd_T61 l0 0).f0.f1) ((rd_T61 l0 0).f1.f0) ((rd_T61 l0 0).f1.f1) a1_0 a1_1).bind fun bt580=>(spec_l11Far.l0 k l0 1 a1_0 a1_1 bt580.1 bt580.2)) else (none)
def spec_l11Far.T5:Bool × List (List Nat × List Nat):=(true,[([],[]),([],[]),([],[]),([1,2],[1,2]),([3],[3]),([],[]),([4,5],[4,5]),([0,6,6],[0,6]),([7,7,0,1,2,3,4,5,6,7],[7])])
def spec_l11Far.B5:List Nat:=[0,0,0,6,14,0,62,127,255]
theorem spec_l11Far.tab5:rtab .any (opsOf Tryd.f73 5)=spec_l11Far.T5:=by kernel_rfl
theorem spec_l11Far.bits5:waitsOk spec_l11Far.T5.2 spec_l11Far.B5=true:=by kernel_rfl
set_option maxHeartbeats 8000000 in
set_option maxRecDepth 100000 in
theorem spec_l11Far.calls (k:Nat)(A0:Option Addr)(c0:Nat)(l0:List (S61))(a1_0:Int)(a1_1:Int)(r1:Int)(r2:Int)(w:World)(hr0:Kd.C k61 w A0 l0.length l0)(hc0:l0.length≤c0)(h:spec_l11Far.f k l0 a1_0 a1_1=some (r1,r2)):
  Calls Tryd.prog 73 #[.slice A0 l0.length c0,.agg #[.int .i64 a1_0,.int .i64 a1_1]] w fun e w'=>e=.returned (.agg #[.int .i64 r1,.int .i64 r2])∧Below w.heap.size w w':=by
 have hu28:=Tryd.underlying28;have hu35:=Tryd.underlying35;have hu61:=Tryd.underlying61;have HR0:=Aside0.mk hr0;have HC0:=Aside0.mk hc0;clear hr0 hc0;have HB:=a0_ (Below.refl w.heap.size w);have H:(if 0<(l0.length:Int) then ((spec_l2Far.f k ((rd_T61 l0 0).f0.f0) ((rd_T61 l0 0).f0.f1) ((rd_T61 l0 0).f1.f0) ((rd_T61 l0 0).f1.f1) a1_0 a1_1).bind fun bt580=>(spec_l11Far.l0 k l0 1 a1_0 a1_1 bt580.1 bt580.2)) else (none))=some (r1,r2):=h;clear h;by_cases c3:0<(l0.length:Int)
 ·
  rw [if_pos c3] at H;have c3b0:decide (0<(l0.length:Int))=true:=decide_eq_true c3;have c3b1:decide (0<l0.length)=true:=decide_eq_true (by omega);clear c3;replace H:=Option.bind_eq_some_iff.mp H;obtain⟨⟨t580,t581⟩,A40,H⟩:=H
  (try dsimp only at H)
  have A4:=Aside0.mk A40;clear A40;have H':=Aside0.mk H;clear H;go_enter Tryd.func73,Tryd.ntmps73
  try go_wp2_with (first | ((with_reducible refine gate_dst (N:=3) rfl ?_);refine bx_ (N:=3) (cs:=#[.int .i64 a1_0,.int .i64 a1_1]) (t:=28) (h:=?_);intro gb577 hg w5 hbox hb;have BK577:=a0_ (hbox);have GW577:=gh_ HB hg;have GE577:=gh_ HB hg;replace HB:=sb_ HB hb;clear hb hbox hg) | ((with_reducible refine gate_dst (N:=4) rfl ?_);refine bx_ (N:=4) (cs:=#[.int .i64 0,.int .i64 0]) (t:=35) (h:=?_);intro gb578 hg w6 hbox hb;have BK578:=a0_ (hbox);have GW578:=gh_ HB hg;have GE578:=gh_ HB hg;have NB577_578:=nl_ BK577 hg;have NB578_577:=nr_ BK577 hg;replace BK577:=vb_ BK577 hb;replace HB:=sb_ HB hb;clear hb hbox hg))
  replace BK577:=a0_ (blk_drew BK577.out);replace BK578:=a0_ (blk_drew BK578.out);replace HB:=a0_ (below_drew1 HB.out);have p579:0≤(0:Int):=(by omega);have q579:0<(l0.length:Int):=od_;obtain⟨ad579,e579,hx579_0,hx579_1,hx579_2,hx579_3⟩:=at_T61 HR0.out 0 p579 q579;have hw579_3:=hx579_3
  (try simp only [Int.toNat_zero,Nat.zero_mul,Addr.add_zero'] at hw579_3)
  have hw579_2:=hx579_2
  (try simp only [Int.toNat_zero,Nat.zero_mul,Addr.add_zero'] at hw579_2)
  have hw579_1:=hx579_1
  (try simp only [Int.toNat_zero,Nat.zero_mul,Addr.add_zero'] at hw579_1)
  have hw579_0:=hx579_0
  (try simp only [Int.toNat_zero,Nat.zero_mul,Addr.add_zero'] at hw579_0)
  cases e579;have qi579:(0<l0.length)=True:=eq_true (by omega)
  (try simp only [Int.toNat_zero,Nat.zero_mul,Addr.add_zero'] at hx579_0)
  (try simp only [Int.toNat_zero,Nat.zero_mul,Addr.add_zero'] at hx579_1)
  (try simp only [Int.toNat_zero,Nat.zero_mul,Addr.add_zero'] at hx579_2)
  (try simp only [Int.toNat_zero,Nat.zero_mul,Addr.add_zero'] at hx579_3)
  replace hx579_0:=ce_ HB hx579_0;replace hx579_1:=ce_ HB hx579_1;replace hx579_2:=ce_ HB hx579_2;replace hx579_3:=ce_ HB hx579_3;replace p579:=eq_true p579;replace q579:=eq_true q579;refine start_ (n:=7) (S:=fun w'=>w'.cell? ⟨gb577,0,none⟩=some (.int .i64 a1_0)∧w'.cell? ⟨gb577,1,none⟩=some (.int .i64 a1_1)∧w'.cell? ad579=some (.int .i64 ((rd_T61 l0 0).f0.f0))∧w'.cell? ⟨ad579.block,ad579.off+1,none⟩=some (.int .i64 ((rd_T61 l0 0).f0.f1))∧w'.cell? ⟨ad579.block,ad579.off+2,none⟩=some (.int .i64 ((rd_T61 l0 0).f1.f0))∧w'.cell? ⟨ad579.block,ad579.off+3,none⟩=some (.int .i64 ((rd_T61 l0 0).f1.f1))) (ds:=[]) (Array.replicate 7 false) (by kernel_rfl) rfl rfl ⟨bc_,bc_,(ce_ HB hw579_0),(ce_ HB hw579_1),(ce_ HB hw579_2),(ce_ HB hw579_3)⟩ (fun hHeld=>?_);generalize w6.drew=w7 at BK577 BK578 HB hx579_0 hx579_1 hx579_2 hx579_3 hHeld ⊢
  refine pv_ 0 7 (bm 7 1) ?_;refine pv_ 1 8 (bm 7 3) ?_;refine tb6_ 2 9 (bm 7 7) hHeld ?_;refine tb6_ 3 10 (bm 7 15) hHeld ?_;refine join_ (σ:=Nat) 1 (bm 7 63) (fun s_=>[(11,.agg #[.int .i64 t580,.int .i64 t581]),(5,.pointer (some ⟨s_,0,none⟩))]) (fun s_ w'=>(w'.cell? ⟨gb577,0,none⟩=some (.int .i64 a1_0)∧w'.cell? ⟨gb577,1,none⟩=some (.int .i64 a1_1)∧w'.cell? ad579=some (.int .i64 ((rd_T61 l0 0).f0.f0))∧w'.cell? ⟨ad579.block,ad579.off+1,none⟩=some (.int .i64 ((rd_T61 l0 0).f0.f1))∧w'.cell? ⟨ad579.block,ad579.off+2,none⟩=some (.int .i64 ((rd_T61 l0 0).f1.f0))∧w'.cell? ⟨ad579.block,ad579.off+3,none⟩=some (.int .i64 ((rd_T61 l0 0).f1.f1)))∧(w'.heap[gb577]?=some (.cells #[.int .i64 a1_0,.int .i64 a1_1] 28 (0,0)))∧(w'.heap[gb578]?=some (.cells #[.int .i64 0,.int .i64 0] 35 (0,0)))∧(w'.heap[s_]?=some (.cells #[.int .i64 0,.int .i64 0] 35 (0,0)))∧(w.heap.size≤s_)∧(w.heap.size≤s_)∧(gb577≠s_)∧(s_≠gb577)∧(gb578≠s_)∧(s_≠gb578)∧(Below w.heap.size w w')) ?_ ?_;rotate_left
  ·
   intro hCont;refine two_ (i:=4) (j:=5) (Ni:=some 11) (Nj:=some 5) (bm 7 31) (bm 7 47) rfl rfl rfl rfl (by kernel_rfl) (by decide) (by decide) (fun K hK=>?_) (fun K hK=>?_)
   ·
    skip;refine goes_ Tryd.func107 (by kernel_rfl) rfl #[.agg #[.int .i64 ((rd_T61 l0 0).f0.f0),.int .i64 ((rd_T61 l0 0).f0.f1),.int .i64 ((rd_T61 l0 0).f1.f0),.int .i64 ((rd_T61 l0 0).f1.f1)],.agg #[.int .i64 a1_0,.int .i64 a1_1]] (by rfl) rfl rfl ma_ ?_
    with_reducible refine (spec_l2Far.calls k ((rd_T61 l0 0).f0.f0) ((rd_T61 l0 0).f0.f1) ((rd_T61 l0 0).f1.f0) ((rd_T61 l0 0).f1.f1) a1_0 a1_1 t580 t581 _ A4.out).mono ?_
    rintro e w8 ⟨rfl,hb⟩;refine⟨_,rfl,?_⟩;replace BK577:=vb_ BK577 hb;replace BK578:=vb_ BK578 hb;replace HB:=sb_ HB hb
    (try clear hb)
    (try clear hb2)
    (try clear hk)
    (try clear hi)
    refine hK.out _ _ ⟨bc_,bc_,(ce_ HB hw579_0),(ce_ HB hw579_1),(ce_ HB hw579_2),(ce_ HB hw579_3)⟩ (fun hHeld=>?_);clear hK K;refine no_ (h:=?_);refine one_ (i:=5) (N:=some 5) (bm 7 63) rfl rfl (by kernel_rfl) (by decide) (fun K hK=>?_);refine box_step ?hg (N:=5) ?hd (cs:=#[.int .i64 0,.int .i64 0]) (t:=35) ?hr ?_;(case hd=>rfl);(case hg=>rfl);(case hr=>first | (go_simp;done) | (go_simp;rfl));intro gb582 hg w9 hbox hb;have BK582:=a0_ (hbox);have GW582:=gh_ HB hg;have GE582:=gh_ HB hg;have NB577_582:=nl_ BK577 hg;have NB582_577:=nr_ BK577 hg;have NB578_582:=nl_ BK578 hg;have NB582_578:=nr_ BK578 hg;replace BK577:=vb_ BK577 hb;replace BK578:=vb_ BK578 hb;replace HB:=sb_ HB hb;clear hb hbox hg;refine hK.out _ _ ⟨bc_,bc_,(ce_ HB hw579_0),(ce_ HB hw579_1),(ce_ HB hw579_2),(ce_ HB hw579_3)⟩ (fun hHeld=>?_);clear hK K;refine no_ (h:=?_);exact norm_ (by simp only [putAll,Act.put,List.setIfInBounds_toArray,List.set_cons_zero,List.set_cons_succ]) (hCont (gb582) _ ⟨hHeld,uq_,uq_,uq_,GW582.out,GE582.out,NB577_582.out,NB582_577.out,NB578_582.out,NB582_578.out,hB_⟩)
   ·
    skip;refine box_step ?hg (N:=5) ?hd (cs:=#[.int .i64 0,.int .i64 0]) (t:=35) ?hr ?_;(case hd=>rfl);(case hg=>rfl);(case hr=>first | (go_simp;done) | (go_simp;rfl));intro gb582 hg w8 hbox hb;have BK582:=a0_ (hbox);have GW582:=gh_ HB hg;have GE582:=gh_ HB hg;have NB577_582:=nl_ BK577 hg;have NB582_577:=nr_ BK577 hg;have NB578_582:=nl_ BK578 hg;have NB582_578:=nr_ BK578 hg;replace BK577:=vb_ BK577 hb;replace BK578:=vb_ BK578 hb;replace HB:=sb_ HB hb;clear hb hbox hg;refine hK.out _ _ ⟨bc_,bc_,(ce_ HB hw579_0),(ce_ HB hw579_1),(ce_ HB hw579_2),(ce_ HB hw579_3)⟩ (fun hHeld=>?_);clear hK K;refine no_ (h:=?_);refine one_ (i:=4) (N:=some 11) (bm 7 63) rfl rfl (by kernel_rfl) (by decide) (fun K hK=>?_);refine goes_ Tryd.func107 (by kernel_rfl) rfl #[.agg #[.int .i64 ((rd_T61 l0 0).f0.f0),.int .i64 ((rd_T61 l0 0).f0.f1),.int .i64 ((rd_T61 l0 0).f1.f0),.int .i64 ((rd_T61 l0 0).f1.f1)],.agg #[.int .i64 a1_0,.int .i64 a1_1]] (by rfl) rfl rfl ma_ ?_
    with_reducible refine (spec_l2Far.calls k ((rd_T61 l0 0).f0.f0) ((rd_T61 l0 0).f0.f1) ((rd_T61 l0 0).f1.f0) ((rd_T61 l0 0).f1.f1) a1_0 a1_1 t580 t581 _ A4.out).mono ?_
    rintro e w9 ⟨rfl,hb⟩;refine⟨_,rfl,?_⟩;replace BK577:=vb_ BK577 hb;replace BK578:=vb_ BK578 hb;replace BK582:=vb_ BK582 hb;replace HB:=sb_ HB hb
    (try clear hb)
    (try clear hb2)
    (try clear hk)
    (try clear hi)
    refine hK.out _ _ ⟨bc_,bc_,(ce_ HB hw579_0),(ce_ HB hw579_1),(ce_ HB hw579_2),(ce_ HB hw579_3)⟩ (fun hHeld=>?_);clear hK K;refine no_ (h:=?_);exact norm_ (by simp only [putAll,Act.put,List.setIfInBounds_toArray,List.set_cons_zero,List.set_cons_succ]) (hCont (gb582) _ ⟨hHeld,uq_,uq_,uq_,GW582.out,GE582.out,NB577_582.out,NB582_577.out,NB578_582.out,NB582_578.out,hB_⟩)
  rintro gb582 w10 ⟨hS_,h0_,h1_,h2_,h3_,h4_,h5_,h6_,h7_,h8_,h9_⟩;have n0_:Aside0 (w10.heap[gb577]?=some (.cells #[.int .i64 a1_0,.int .i64 a1_1] 28 (0,0))):=⟨h0_⟩;have n1_:Aside0 (w10.heap[gb578]?=some (.cells #[.int .i64 0,.int .i64 0] 35 (0,0))):=⟨h1_⟩;have n2_:Aside0 (w10.heap[gb582]?=some (.cells #[.int .i64 0,.int .i64 0] 35 (0,0))):=⟨h2_⟩;have n3_:Aside0 (w.heap.size≤gb582):=⟨h3_⟩;have n4_:Aside0 (w.heap.size≤gb582):=⟨h4_⟩;have n5_:Aside0 (gb577≠gb582):=⟨h5_⟩;have n6_:Aside0 (gb582≠gb577):=⟨h6_⟩;have n7_:Aside0 (gb578≠gb582):=⟨h7_⟩;have n8_:Aside0 (gb582≠gb578):=⟨h8_⟩;have n9_:Aside0 (Below w.heap.size w w10):=⟨h9_⟩;clear BK577 BK578 HB;clear h0_ h1_ h2_ h3_ h4_ h5_ h6_ h7_ h8_ h9_;have BK577:=n0_;have BK578:=n1_;have BK582:=n2_;have GW582:=n3_;have GE582:=n4_;have NB577_582:=n5_;have NB582_577:=n6_;have NB578_582:=n7_;have NB582_578:=n8_;have HB:=n9_;clear n0_ n1_ n2_ n3_ n4_ n5_ n6_ n7_ n8_ n9_;have hHeld:w10.cell? ⟨gb577,0,none⟩=some (.int .i64 a1_0)∧w10.cell? ⟨gb577,1,none⟩=some (.int .i64 a1_1)∧w10.cell? ad579=some (.int .i64 ((rd_T61 l0 0).f0.f0))∧w10.cell? ⟨ad579.block,ad579.off+1,none⟩=some (.int .i64 ((rd_T61 l0 0).f0.f1))∧w10.cell? ⟨ad579.block,ad579.off+2,none⟩=some (.int .i64 ((rd_T61 l0 0).f1.f0))∧w10.cell? ⟨ad579.block,ad579.off+3,none⟩=some (.int .i64 ((rd_T61 l0 0).f1.f1)):=hS_;refine norm_ (a':=?_) ?_ ?_;rotate_left
  ·
   simp only [putAll,Act.put,List.setIfInBounds_toArray,List.set_cons_zero,List.set_cons_succ];rfl
  refine one_ (i:=6) (N:=none) (bm 7 127) rfl rfl (by kernel_rfl) (by decide) (fun K hK=>?_);have hs11:w10.cell? ⟨gb582,0,none⟩=some (.int .i64 0):=bc_;have hfs11:=blk_frozen BK582.out 0;have hns11_0:=NB577_582.out;have hns11_1:=NB578_582.out;have hms11_0:=NB582_577.out;have hms11_1:=NB582_578.out;have hs12:w10.cell? ⟨gb582,1,none⟩=some (.int .i64 0):=bc_;have hfs12:=blk_frozen BK582.out 1;have hns12_0:=NB577_582.out;have hns12_1:=NB578_582.out;have hms12_0:=NB582_577.out;have hms12_1:=NB582_578.out;refine skip_ (w1:=?_) (by rfl) rfl ?_ ?_;rotate_left
  ·
   go_simp;rfl
  refine hK.out _ _ ⟨((cell_far (p:=⟨gb582,_,none⟩) NB577_582.out _).trans (((cell_far (p:=⟨gb582,_,none⟩) NB577_582.out _).trans (hHeld.1)))),((cell_far (p:=⟨gb582,_,none⟩) NB577_582.out _).trans (((cell_far (p:=⟨gb582,_,none⟩) NB577_582.out _).trans (hHeld.2.1)))),((cell_far (p:=⟨gb582,_,none⟩) (by first | exact Nat.ne_of_lt (Nat.lt_of_lt_of_le (by have:=World.block_lt_of_cell? _ _ hw579_0;first | rwa [add_block] at this | exact this) GW582.out) | (rw [add_block];exact Nat.ne_of_lt (Nat.lt_of_lt_of_le (by have:=World.block_lt_of_cell? _ _ hw579_0;first | rwa [add_block] at this | exact this) GW582.out)) | (show (Addr.add _ _).block≠_;rw [add_block];exact Nat.ne_of_lt (Nat.lt_of_lt_of_le (by have:=World.block_lt_of_cell? _ _ hw579_0;first | rwa [add_block] at this | exact this) GW582.out)) | (dsimp only;exact Nat.ne_of_lt (Nat.lt_of_lt_of_le (by have:=World.block_lt_of_cell? _ _ hw579_0;first | rwa [add_block] at this | exact this) GW582.out))) _).trans (((cell_far (p:=⟨gb582,_,none⟩) (by first | exact Nat.ne_of_lt (Nat.lt_of_lt_of_le (by have:=World.block_lt_of_cell? _ _ hw579_0;first | rwa [add_block] at this | exact this) GW582.out) | (rw [add_block];exact Nat.ne_of_lt (Nat.lt_of_lt_of_le (by have:=World.block_lt_of_cell? _ _ hw579_0;first | rwa [add_block] at this | exact this) GW582.out)) | (show (Addr.add _ _).block≠_;rw [add_block];exact Nat.ne_of_lt (Nat.lt_of_lt_of_le (by have:=World.block_lt_of_cell? _ _ hw579_0;first | rwa [add_block] at this | exact this) GW582.out)) | (dsimp only;exact Nat.ne_of_lt (Nat.lt_of_lt_of_le (by have:=World.block_lt_of_cell? _ _ hw579_0;first | rwa [add_block] at this | exact this) GW582.out))) _).trans (hHeld.2.2.1)))),((cell_far (p:=⟨gb582,_,none⟩) (by first | exact Nat.ne_of_lt (Nat.lt_of_lt_of_le (by have:=World.block_lt_of_cell? _ _ hw579_1;first | rwa [add_block] at this | exact this) GW582.out) | (rw [add_block];exact Nat.ne_of_lt (Nat.lt_of_lt_of_le (by have:=World.block_lt_of_cell? _ _ hw579_1;first | rwa [add_block] at this | exact this) GW582.out)) | (show (Addr.add _ _).block≠_;rw [add_block];exact Nat.ne_of_lt (Nat.lt_of_lt_of_le (by have:=World.block_lt_of_cell? _ _ hw579_1;first | rwa [add_block] at this | exact this) GW582.out)) | (dsimp only;exact Nat.ne_of_lt (Nat.lt_of_lt_of_le (by have:=World.block_lt_of_cell? _ _ hw579_1;first | rwa [add_block] at this | exact this) GW582.out))) _).trans (((cell_far (p:=⟨gb582,_,none⟩) (by first | exact Nat.ne_of_lt (Nat.lt_of_lt_of_le (by have:=World.block_lt_of_cell? _ _ hw579_1;first | rwa [add_block] at this | exact this) GW582.out) | (rw [add_block];exact Nat.ne_of_lt (Nat.lt_of_lt_of_le (by have:=World.block_lt_of_cell? _ _ hw579_1;first | rwa [add_block] at this | exact this) GW582.out)) | (show (Addr.add _ _).block≠_;rw [add_block];exact Nat.ne_of_lt (Nat.lt_of_lt_of_le (by have:=World.block_lt_of_cell? _ _ hw579_1;first | rwa [add_block] at this | exact this) GW582.out)) | (dsimp only;exact Nat.ne_of_lt (Nat.lt_of_lt_of_le (by have:=World.block_lt_of_cell? _ _ hw579_1;first | rwa [add_block] at this | exact this) GW582.out))) _).trans (hHeld.2.2.2.1)))),((cell_far (p:=⟨gb582,_,none⟩) (by first | exact Nat.ne_of_lt (Nat.lt_of_lt_of_le (by have:=World.block_lt_of_cell? _ _ hw579_2;first | rwa [add_block] at this | exact this) GW582.out) | (rw [add_block];exact Nat.ne_of_lt (Nat.lt_of_lt_of_le (by have:=World.block_lt_of_cell? _ _ hw579_2;first | rwa [add_block] at this | exact this) GW582.out)) | (show (Addr.add _ _).block≠_;rw [add_block];exact Nat.ne_of_lt (Nat.lt_of_lt_of_le (by have:=World.block_lt_of_cell? _ _ hw579_2;first | rwa [add_block] at this | exact this) GW582.out)) | (dsimp only;exact Nat.ne_of_lt (Nat.lt_of_lt_of_le (by have:=World.block_lt_of_cell? _ _ hw579_2;first | rwa [add_block] at this | exact this) GW582.out))) _).trans (((cell_far (p:=⟨gb582,_,none⟩) (by first | exact Nat.ne_of_lt (Nat.lt_of_lt_of_le (by have:=World.block_lt_of_cell? _ _ hw579_2;first | rwa [add_block] at this | exact this) GW582.out) | (rw [add_block];exact Nat.ne_of_lt (Nat.lt_of_lt_of_le (by have:=World.block_lt_of_cell? _ _ hw579_2;first | rwa [add_block] at this | exact this) GW582.out)) | (show (Addr.add _ _).block≠_;rw [add_block];exact Nat.ne_of_lt (Nat.lt_of_lt_of_le (by have:=World.block_lt_of_cell? _ _ hw579_2;first | rwa [add_block] at this | exact this) GW582.out)) | (dsimp only;exact Nat.ne_of_lt (Nat.lt_of_lt_of_le (by have:=World.block_lt_of_cell? _ _ hw579_2;first | rwa [add_block] at this | exact this) GW582.out))) _).trans (hHeld.2.2.2.2.1)))),((cell_far (p:=⟨gb582,_,none⟩) (by first | exact Nat.ne_of_lt (Nat.lt_of_lt_of_le (by have:=World.block_lt_of_cell? _ _ hw579_3;first | rwa [add_block] at this | exact this) GW582.out) | (rw [add_block];exact Nat.ne_of_lt (Nat.lt_of_lt_of_le (by have:=World.block_lt_of_cell? _ _ hw579_3;first | rwa [add_block] at this | exact this) GW582.out)) | (show (Addr.add _ _).block≠_;rw [add_block];exact Nat.ne_of_lt (Nat.lt_of_lt_of_le (by have:=World.block_lt_of_cell? _ _ hw579_3;first | rwa [add_block] at this | exact this) GW582.out)) | (dsimp only;exact Nat.ne_of_lt (Nat.lt_of_lt_of_le (by have:=World.block_lt_of_cell? _ _ hw579_3;first | rwa [add_block] at this | exact this) GW582.out))) _).trans (((cell_far (p:=⟨gb582,_,none⟩) (by first | exact Nat.ne_of_lt (Nat.lt_of_lt_of_le (by have:=World.block_lt_of_cell? _ _ hw579_3;first | rwa [add_block] at this | exact this) GW582.out) | (rw [add_block];exact Nat.ne_of_lt (Nat.lt_of_lt_of_le (by have:=World.block_lt_of_cell? _ _ hw579_3;first | rwa [add_block] at this | exact this) GW582.out)) | (show (Addr.add _ _).block≠_;rw [add_block];exact Nat.ne_of_lt (Nat.lt_of_lt_of_le (by have:=World.block_lt_of_cell? _ _ hw579_3;first | rwa [add_block] at this | exact this) GW582.out)) | (dsimp only;exact Nat.ne_of_lt (Nat.lt_of_lt_of_le (by have:=World.block_lt_of_cell? _ _ hw579_3;first | rwa [add_block] at this | exact this) GW582.out))) _).trans (hHeld.2.2.2.2.2))))⟩ (fun hHeld=>?_)
  clear hK K;refine done_ (by kernel_rfl) ?_
  try go_wp2
  go_loopg [6] k (fun kq v6 w'=>∃ (x6_1:Int) (x583000_1:Int) (x583001_1:Int),v6=.int .i64 x6_1∧Aside0 (spec_l11Far.l0 kq l0 x6_1 a1_0 a1_1 x583000_1 x583001_1=some (r1,r2))∧Aside0 (kq≤k)∧Aside0 (w'.heap[gb577]?=some (.cells #[.int .i64 a1_0,.int .i64 a1_1] 28 (0,0)))∧Aside0 (w'.heap[gb578]?=some (.cells #[.int .i64 0,.int .i64 0] 35 (0,0)))∧Aside0 (w'.heap[gb582]?=some (.cells #[.int .i64 x583000_1,.int .i64 x583001_1] 35 (0,0)))∧Aside0 (Below w.heap.size w w'))
  case atStart=>exact⟨(1),(t580),(t581),(by first | rfl | (simp;done) | (simp [*];done)),H',⟨Nat.le_refl _⟩,⟨by (with_reducible repeat (first | refine blk_drewN ?_ _ | refine blk_drew ?_ | refine blk_alloc ?_ _));refine blk_far ?_ NB577_582.out _;(with_reducible repeat (first | refine blk_drewN ?_ _ | refine blk_drew ?_ | refine blk_alloc ?_ _));refine blk_far ?_ NB577_582.out _;(with_reducible repeat (first | refine blk_drewN ?_ _ | refine blk_drew ?_ | refine blk_alloc ?_ _));exact BK577.out⟩,⟨by (with_reducible repeat (first | refine blk_drewN ?_ _ | refine blk_drew ?_ | refine blk_alloc ?_ _));refine blk_far ?_ NB578_582.out _;(with_reducible repeat (first | refine blk_drewN ?_ _ | refine blk_drew ?_ | refine blk_alloc ?_ _));refine blk_far ?_ NB578_582.out _;(with_reducible repeat (first | refine blk_drewN ?_ _ | refine blk_drew ?_ | refine blk_alloc ?_ _));exact BK578.out⟩,⟨by (with_reducible repeat (first | refine blk_drewN ?_ _ | refine blk_drew ?_ | refine blk_alloc ?_ _));refine blk_put (cs:=#[.int .i64 t580,.int .i64 0]) ?_ 1 _ rfl;(with_reducible repeat (first | refine blk_drewN ?_ _ | refine blk_drew ?_ | refine blk_alloc ?_ _));refine blk_put (cs:=#[.int .i64 0,.int .i64 0]) ?_ 0 _ rfl;(with_reducible repeat (first | refine blk_drewN ?_ _ | refine blk_drew ?_ | refine blk_alloc ?_ _));exact BK582.out⟩,⟨hB_⟩⟩
  case round =>
   clear H';obtain⟨x6_1,x583000_1,x583001_1,rfl,HA,HK1,BK577,BK578,BK582,HB⟩:=hrel
   cases gk with
   | zero=>exact absurd HA.out (by simp [spec_l11Far.l0])
   | succ k1 =>
    have H:=HA.out;clear HA;simp only [spec_l11Far.l0] at H;by_cases c13:x6_1<(l0.length:Int)
    ·
     rw [if_pos c13] at H;have c13b0:decide (x6_1<(l0.length:Int))=true:=decide_eq_true c13;clear c13;by_cases c14:0≤x6_1
     ·
      rw [if_pos c14] at H;have c14b0:decide (0≤x6_1)=true:=decide_eq_true c14;clear c14;replace H:=Option.bind_eq_some_iff.mp H;obtain⟨⟨t584,t585⟩,A150,H⟩:=H
      (try dsimp only at H)
      have A15:=Aside0.mk A150;clear A150;replace H:=Option.bind_eq_some_iff.mp H;obtain⟨⟨t586,t587⟩,A160,H⟩:=H
      (try dsimp only at H)
      have A16:=Aside0.mk A160;clear A160;have H':=Aside0.mk H;clear H
      try go_wp2
      replace BK577:=a0_ (blk_drew BK577.out);replace BK578:=a0_ (blk_drew BK578.out);replace BK582:=a0_ (blk_drew BK582.out);replace HB:=a0_ (below_drew1 HB.out);have p583:0≤(x6_1:Int):=od_;have q583:x6_1<(l0.length:Int):=od_;obtain⟨ad583,e583,hx583_0,hx583_1,hx583_2,hx583_3⟩:=at_T61 HR0.out x6_1 p583 q583;have hw583_3:=hx583_3;have hw583_2:=hx583_2;have hw583_1:=hx583_1;have hw583_0:=hx583_0;obtain rfl:ad579=ad583:=(by injection e583);replace hx583_0:=ce_ HB hx583_0;replace hx583_1:=ce_ HB hx583_1;replace hx583_2:=ce_ HB hx583_2;replace hx583_3:=ce_ HB hx583_3;replace p583:=eq_true p583;replace q583:=eq_true q583;refine start_ (n:=9) (S:=fun w'=>w'.cell? ⟨gb582,0,none⟩=some (.int .i64 x583000_1)∧w'.cell? ⟨gb582,1,none⟩=some (.int .i64 x583001_1)∧w'.cell? ⟨gb577,0,none⟩=some (.int .i64 a1_0)∧w'.cell? ⟨gb577,1,none⟩=some (.int .i64 a1_1)∧w'.cell? (ad579.add ((x6_1).toNat*4))=some (.int .i64 ((rd_T61 l0 x6_1).f0.f0))∧w'.cell? ⟨(ad579.add ((x6_1).toNat*4)).block,(ad579.add ((x6_1).toNat*4)).off+1,none⟩=some (.int .i64 ((rd_T61 l0 x6_1).f0.f1))∧w'.cell? ⟨(ad579.add ((x6_1).toNat*4)).block,(ad579.add ((x6_1).toNat*4)).off+2,none⟩=some (.int .i64 ((rd_T61 l0 x6_1).f1.f0))∧w'.cell? ⟨(ad579.add ((x6_1).toNat*4)).block,(ad579.add ((x6_1).toNat*4)).off+3,none⟩=some (.int .i64 ((rd_T61 l0 x6_1).f1.f1))) (ds:=[8]) (Array.replicate 9 false) (by kernel_rfl) rfl rfl ⟨bc_,bc_,bc_,bc_,(ce_ HB hw583_0),(ce_ HB hw583_1),(ce_ HB hw583_2),(ce_ HB hw583_3)⟩ (fun hHeld=>?_);refine with_tabW spec_l11Far.tab5 spec_l11Far.bits5 (fun HT_ HW_=>?_);generalize wr.drew=w17 at BK577 BK578 BK582 HB hx583_0 hx583_1 hx583_2 hx583_3 hHeld ⊢
      refine pu_ HT_ 1 19 (bm 9 2) ?_;refine pu_ HT_ 2 20 (bm 9 6) ?_;refine pu_ HT_ 3 21 (bm 9 14) ?_;refine ta8_ HT_ HW_ 0 18 (bm 9 15) hHeld ?_;refine ta8_ HT_ HW_ 4 22 (bm 9 31) hHeld ?_;refine ta8_ HT_ HW_ 5 23 (bm 9 63) hHeld ?_;refine one_ (i:=6) (N:=some 24) (bm 9 127) rfl rfl (one_of HT_.out (by kernel_rfl)) (by decide) (fun K hK=>?_);refine goes_ Tryd.func107 (by kernel_rfl) rfl #[.agg #[.int .i64 ((rd_T61 l0 x6_1).f0.f0),.int .i64 ((rd_T61 l0 x6_1).f0.f1),.int .i64 ((rd_T61 l0 x6_1).f1.f0),.int .i64 ((rd_T61 l0 x6_1).f1.f1)],.agg #[.int .i64 a1_0,.int .i64 a1_1]] (by rfl) rfl rfl ma_ ?_
      with_reducible refine (spec_l2Far.calls k1 ((rd_T61 l0 x6_1).f0.f0) ((rd_T61 l0 x6_1).f0.f1) ((rd_T61 l0 x6_1).f1.f0) ((rd_T61 l0 x6_1).f1.f1) a1_0 a1_1 t584 t585 _ A15.out).mono ?_
      rintro e w18 ⟨rfl,hb⟩;refine⟨_,rfl,?_⟩;replace BK577:=vb_ BK577 hb;replace BK578:=vb_ BK578 hb;replace BK582:=vb_ BK582 hb;replace HB:=sb_ HB hb
      (try clear hb)
      (try clear hb2)
      (try clear hk)
      (try clear hi)
      refine hK.out _ _ ⟨bc_,bc_,bc_,bc_,(ce_ HB hw583_0),(ce_ HB hw583_1),(ce_ HB hw583_2),(ce_ HB hw583_3)⟩ (fun hHeld=>?_);clear hK K;refine no_ (h:=?_);refine one_ (i:=7) (N:=some 25) (bm 9 255) rfl rfl (one_of HT_.out (by kernel_rfl)) (by decide) (fun K hK=>?_);refine goes_ Tryd.func108 (by kernel_rfl) rfl #[.agg #[.int .i64 x583000_1,.int .i64 x583001_1],.agg #[.int .i64 t584,.int .i64 t585]] (by rfl) rfl rfl ma_ ?_
      with_reducible refine (spec_l2Least.calls x583000_1 x583001_1 t584 t585 t586 t587 _ A16.out).mono ?_
      rintro e w19 ⟨rfl,hb⟩;refine⟨_,rfl,?_⟩;replace BK577:=vb_ BK577 hb;replace BK578:=vb_ BK578 hb;replace BK582:=vb_ BK582 hb;replace HB:=sb_ HB hb
      (try clear hb)
      (try clear hb2)
      (try clear hk)
      (try clear hi)
      refine hK.out _ _ ⟨bc_,bc_,bc_,bc_,(ce_ HB hw583_0),(ce_ HB hw583_1),(ce_ HB hw583_2),(ce_ HB hw583_3)⟩ (fun hHeld=>?_);clear hK K;refine no_ (h:=?_);refine last_ (i:=8) (N:=none) (bm 9 511) rfl rfl (one_of HT_.out (by kernel_rfl)) (by decide) (fun K hK=>?_);have hs20:w19.cell? ⟨gb582,0,none⟩=some (.int .i64 x583000_1):=bc_;have hfs20:=blk_frozen BK582.out 0;have hns20_0:=NB577_582.out;have hns20_1:=NB578_582.out;have hms20_0:=NB582_577.out;have hms20_1:=NB582_578.out;have hs21:w19.cell? ⟨gb582,1,none⟩=some (.int .i64 x583001_1):=bc_;have hfs21:=blk_frozen BK582.out 1;have hns21_0:=NB577_582.out;have hns21_1:=NB578_582.out;have hms21_0:=NB582_577.out;have hms21_1:=NB582_578.out;refine skip_ (w1:=?_) (by rfl) rfl ?_ ?_;rotate_left
      ·
       go_simp;rfl
      refine hK.out _ _ ?_;clear hK K;refine done_ (done_of HT_.out (by kernel_rfl)) ?_
      try go_wp2
      go_roundg k1
      case measure=>have:=HK1.out;omega
      case rel=>exact⟨(wrap64 (x6_1+1)),(t586),(t587),(by first | rfl | (simp;done) | (simp [*];done)),H',⟨by have:=HK1.out;omega⟩,⟨by (with_reducible repeat (first | refine blk_drewN ?_ _ | refine blk_drew ?_ | refine blk_alloc ?_ _));refine blk_far ?_ NB577_582.out _;(with_reducible repeat (first | refine blk_drewN ?_ _ | refine blk_drew ?_ | refine blk_alloc ?_ _));refine blk_far ?_ NB577_582.out _;(with_reducible repeat (first | refine blk_drewN ?_ _ | refine blk_drew ?_ | refine blk_alloc ?_ _));exact BK577.out⟩,⟨by (with_reducible repeat (first | refine blk_drewN ?_ _ | refine blk_drew ?_ | refine blk_alloc ?_ _));refine blk_far ?_ NB578_582.out _;(with_reducible repeat (first | refine blk_drewN ?_ _ | refine blk_drew ?_ | refine blk_alloc ?_ _));refine blk_far ?_ NB578_582.out _;(with_reducible repeat (first | refine blk_drewN ?_ _ | refine blk_drew ?_ | refine blk_alloc ?_ _));exact BK578.out⟩,⟨by (with_reducible repeat (first | refine blk_drewN ?_ _ | refine blk_drew ?_ | refine blk_alloc ?_ _));refine blk_put (cs:=#[.int .i64 t586,.int .i64 x583001_1]) ?_ 1 _ rfl;(with_reducible repeat (first | refine blk_drewN ?_ _ | refine blk_drew ?_ | refine blk_alloc ?_ _));refine blk_put (cs:=#[.int .i64 x583000_1,.int .i64 x583001_1]) ?_ 0 _ rfl;(with_reducible repeat (first | refine blk_drewN ?_ _ | refine blk_drew ?_ | refine blk_alloc ?_ _));exact BK582.out⟩,⟨hB_⟩⟩
     ·
      rw [if_neg c14] at H;exact absurd H (by simp)
    ·
     rw [if_neg c13] at H;have c13b0:decide (x6_1<(l0.length:Int))=false:=decide_eq_false c13;clear c13;simp only [Option.some.injEq,Prod.mk.injEq] at H;obtain⟨rfl,rfl⟩:=H;have hnb22:=NB582_577.out;have hnc22:=NB577_582.out;have hnb23:=NB582_578.out;have hnc23:=NB578_582.out;have hcz24_0:=c20_ BK582;have hcz24_1:=c21_ BK582;have hfz24_0:=fz_ BK582 0;have hfz24_1:=fz_ BK582 1;have hnb25:=NB578_577.out;have hnc25:=NB577_578.out;have hcz26_0:=c20_ BK578;have hcz26_1:=c21_ BK578;have hfz26_0:=fz_ BK578 0;have hfz26_1:=fz_ BK578 1;go_wp2;refine bodyPost_ret (results_cell_row rfl _ _ gb578 35 #[.int .i64 x583000_1,.int .i64 x583001_1] (0,0) _ rfl (by (with_reducible repeat (first | refine blk_drewN ?_ _ | refine blk_drew ?_ | refine blk_alloc ?_ _));refine blk_put (cs:=#[.int .i64 x583000_1,.int .i64 0]) ?_ 1 _ rfl;(with_reducible repeat (first | refine blk_drewN ?_ _ | refine blk_drew ?_ | refine blk_alloc ?_ _));refine blk_put (cs:=#[.int .i64 0,.int .i64 0]) ?_ 0 _ rfl;(with_reducible repeat (first | refine blk_drewN ?_ _ | refine blk_drew ?_ | refine blk_alloc ?_ _));exact BK578.out) Tryd.underlying35 rfl (by kernel_rfl)) rfl ?_;exact⟨rr_,hB_⟩
 ·
  rw [if_neg c3] at H;exact absurd H (by simp)
attribute [local go_sem high] eqA35
def spec_l11Near.l0:Nat→List (S61)→List Int→Int→Int→Int→Int→Int→Option (List Int)
 | 0,_,_,_,_,_,_,_=>none
 | k+1,x0,x5,x7,x895000,x895001,x901000,x901001=>if x7<(x0.length:Int) then (if 0≤x7 then ((spec_l2Far.f k ((rd_T61 x0 x7).f0.f0) ((rd_T61 x0 x7).f0.f1) ((rd_T61 x0 x7).f1.f0) ((rd_T61 x0 x7).f1.f1) x895000 x895001).bind fun bt902=>(if (bt902.1==x901000 && (bt902.2==x901001))=true then (if x5.length<17592186044416 then (spec_l11Near.l0 k x0 (x5++[x7]) (wrap64 (x7+1)) x895000 x895001 x901000 x901001) else (none)) else (spec_l11Near.l0 k x0 x5 (wrap64 (x7+1)) x895000 x895001 x901000 x901001))) else (none)) else (some x5)
def spec_l11Near.f (k:Nat)(l0:List (S61))(a1_0:Int)(a1_1:Int):Option (List Int):=(spec_l11Far.f k l0 a1_0 a1_1).bind fun bt898=>(spec_l11Near.l0 k l0 (([]:List Int)) 0 a1_0 a1_1 bt898.1 bt898.2)
def spec_l11Near.T6:Bool × List (List Nat × List Nat):=(true,[([],[]),([],[]),([0,1],[0,1]),([2],[2]),([],[]),([3,4],[3,4]),([],[]),([5,6],[5,6])])
def spec_l11Near.B6:List Nat:=[0,0,3,7,0,31,0,127]
theorem spec_l11Near.tab6:rtab .any (opsOf Tryd.f85 6)=spec_l11Near.T6:=by kernel_rfl
theorem spec_l11Near.bits6:waitsOk spec_l11Near.T6.2 spec_l11Near.B6=true:=by kernel_rfl
set_option maxHeartbeats 8000000 in
set_option maxRecDepth 100000 in
theorem spec_l11Near.calls (k:Nat)(A0:Option Addr)(c0:Nat)(l0:List (S61))(a1_0:Int)(a1_1:Int)(r:List Int)(w:World)(hr0:Kd.C k61 w A0 l0.length l0)(hc0:l0.length≤c0)(h:spec_l11Near.f k l0 a1_0 a1_1=some r):
  Calls Tryd.prog 85 #[.slice A0 l0.length c0,.agg #[.int .i64 a1_0,.int .i64 a1_1]] w fun e w'=>∃ v0_:Value,e=.returned (v0_)∧Kd.R (Kd.int .i64) 3 w' w.heap.size (fun _=>True) v0_ r∧Below w.heap.size w w':=by
 have hu28:=Tryd.underlying28;have hu35:=Tryd.underlying35;have hu61:=Tryd.underlying61;have HR0:=Aside0.mk hr0;have HC0:=Aside0.mk hc0;clear hr0 hc0;have HB:=a0_ (Below.refl w.heap.size w);have H:((spec_l11Far.f k l0 a1_0 a1_1).bind fun bt898=>(spec_l11Near.l0 k l0 (([]:List Int)) 0 a1_0 a1_1 bt898.1 bt898.2))=some r:=h;clear h;obtain⟨y895,hy895⟩:∃ y_:List Int,y_=(([]:List Int)):=⟨_,rfl⟩;replace H:((spec_l11Far.f k l0 a1_0 a1_1).bind fun bt898=>(spec_l11Near.l0 k l0 y895 0 a1_0 a1_1 bt898.1 bt898.2))=some r:=by first | (rw [hy895];with_reducible exact H) | (have H2_:=(Option.bind_some _ _).symm.trans H;rw [hy895];with_reducible exact H2_) | (have H2_:=(Option.bind_some _ _).symm.trans H;with_reducible exact H2_) | with_reducible exact H | (rw [hy895];exact H) | exact H
 have Ny895:=Aside0.mk hy895;clear hy895;replace H:=Option.bind_eq_some_iff.mp H;obtain⟨⟨t898,t899⟩,A30,H⟩:=H
 (try dsimp only at H)
 have A3:=Aside0.mk A30;clear A30;have H':=Aside0.mk H;clear H;go_enter Tryd.func85,Tryd.ntmps85
 go_wp2_with (first | ((with_reducible refine gate_dst (N:=3) rfl ?_);refine bx_ (N:=3) (cs:=#[.int .i64 a1_0,.int .i64 a1_1]) (t:=28) (h:=?_);intro gb894 hg w4 hbox hb;have BK894:=a0_ (hbox);have GW894:=gh_ HB hg;have GE894:=gh_ HB hg;replace HB:=sb_ HB hb;clear hb hbox hg) | ((with_reducible refine gate_dst (N:=8) rfl ?_);refine Kd.R_lit (Kd.int .i64) _ 3 ?hg (N:=8) ?hd (xs:=([]:List Int)) (inner:=[]) (ok:=fun _=>True) (okp:=fun _=>True) ?hr ?hp (fun _ hk=>hk) trivial (Below.refl _ _) (Nat.le_refl _) (by simp) ?_;(case hd=>rfl);(case hg=>rfl);(case hr=>first | (go_simp;done) | (go_simp;rfl));(case hp=>exact (Reps.none _ _));intro v896 w5 ho6 hb hg_ hnew_;clear hg_ hnew_;(first | rw [← Ny895.out] at ho6 | (simp only [Int.reduceToNat] at ho6;rw [← Ny895.out] at ho6));have HO897:=a0_ (Kd.R_lower ho6 (below_size hB_));replace BK894:=vb_ BK894 hb;replace HB:=sb_ HB hb;clear hb ho6;have hcz7_0:=c20_ BK894;have hcz7_1:=c21_ BK894;have hfz7_0:=fz_ BK894 0;have hfz7_1:=fz_ BK894 1) | ((with_reducible refine gate_callee (f:=73) rfl ?_);refine gL_ (some 11) Tryd.func73 #[.slice A0 l0.length c0,.agg #[.int .i64 a1_0,.int .i64 a1_1]] (h:=?_);(with_reducible refine (spec_l11Far.calls k _ _ l0 a1_0 a1_1 t898 t899 _ ?side1 ?side2 A3.out).mono ?_);(case side1=>repeat (first | exact (Kd.C_below HR0.out HB.out) | (with_reducible refine Kd.C_alloc ?_ _) | (with_reducible refine Kd.C_drewN ?_ _) | (with_reducible refine Kd.C_drew ?_)));(case side2=>exact HC0.out);rintro e w8 ⟨rfl,hb⟩;refine⟨_,rfl,?_⟩;replace HO897:=rb_ HO897 hb;replace BK894:=vb_ BK894 hb;replace HB:=sb_ HB hb;(try clear hb)) | ((with_reducible refine gate_dst (N:=6) rfl ?_);refine bx_ (N:=6) (cs:=#[.int .i64 0,.int .i64 0]) (t:=35) (h:=?_);intro gb900 hg w9 hbox hb;have BK900:=a0_ (hbox);have GW900:=gh_ HB hg;have GE900:=gh_ HB hg;have NB894_900:=nl_ BK894 hg;have NB900_894:=nr_ BK894 hg;replace HO897:=rb_ HO897 hb;replace BK894:=vb_ BK894 hb;replace HB:=sb_ HB hb;clear hb hbox hg;have hnb10:=NB900_894.out;have hnc10:=NB894_900.out;have hcz11_0:=c20_ BK900;have hcz11_1:=c21_ BK900;have hfz11_0:=fz_ BK900 0;have hfz11_1:=fz_ BK900 1))
 go_loopg [5,7] k (fun kq v5 v7 w'=>∃ (x5_1:List Int) (x7_1:Int),v7=.int .i64 x7_1∧Aside0 (spec_l11Near.l0 kq l0 x5_1 x7_1 a1_0 a1_1 t898 t899=some r)∧Aside0 (kq≤k)∧Aside0 (Kd.R (Kd.int .i64) 3 w' w.heap.size (fun _=>True) v5 x5_1)∧Aside0 (w'.heap[gb894]?=some (.cells #[.int .i64 a1_0,.int .i64 a1_1] 28 (0,0)))∧Aside0 (w'.heap[gb900]?=some (.cells #[.int .i64 t898,.int .i64 t899] 35 (0,0)))∧Aside0 (Below w.heap.size w w'))
 case atStart=>exact⟨(y895),(0),(by first | rfl | (simp;done) | (simp [*];done)),H',⟨Nat.le_refl _⟩,⟨by (with_reducible repeat (first | apply Kd.R_alloc | apply Kd.R_drewN | apply Kd.R_drew));exact Kd.R_mono (Kd.R_far (p:=⟨gb900,1,none⟩) (Kd.R_far (p:=⟨gb900,0,none⟩) (Kd.R_types HO897.out BK900.out (by decide)) (fun _ hk=>hk.2) (.int .i64 t898)) (fun _ hk=>hk.2) (.int .i64 t899)) (fun _ hk=>trivial)⟩,⟨by (with_reducible repeat (first | refine blk_drewN ?_ _ | refine blk_drew ?_ | refine blk_alloc ?_ _));refine blk_far ?_ NB894_900.out _;(with_reducible repeat (first | refine blk_drewN ?_ _ | refine blk_drew ?_ | refine blk_alloc ?_ _));refine blk_far ?_ NB894_900.out _;(with_reducible repeat (first | refine blk_drewN ?_ _ | refine blk_drew ?_ | refine blk_alloc ?_ _));exact BK894.out⟩,⟨by (with_reducible repeat (first | refine blk_drewN ?_ _ | refine blk_drew ?_ | refine blk_alloc ?_ _));refine blk_put (cs:=#[.int .i64 t898,.int .i64 0]) ?_ 1 _ rfl;(with_reducible repeat (first | refine blk_drewN ?_ _ | refine blk_drew ?_ | refine blk_alloc ?_ _));refine blk_put (cs:=#[.int .i64 0,.int .i64 0]) ?_ 0 _ rfl;(with_reducible repeat (first | refine blk_drewN ?_ _ | refine blk_drew ?_ | refine blk_alloc ?_ _));exact BK900.out⟩,⟨hB_⟩⟩
 case round =>
  clear H';obtain⟨x5_1,x7_1,rfl,HA,HK1,HO_5,BK894,BK900,HB⟩:=hrel
  cases gk with
  | zero=>exact absurd HA.out (by simp [spec_l11Near.l0])
  | succ k1 =>
   have H:=HA.out;clear HA;simp only [spec_l11Near.l0] at H;by_cases c12:x7_1<(l0.length:Int)
   ·
    rw [if_pos c12] at H;have c12b0:decide (x7_1<(l0.length:Int))=true:=decide_eq_true c12;clear c12;by_cases c13:0≤x7_1
    ·
     rw [if_pos c13] at H;have c13b0:decide (0≤x7_1)=true:=decide_eq_true c13;clear c13;replace H:=Option.bind_eq_some_iff.mp H;obtain⟨⟨t902,t903⟩,A140,H⟩:=H
     (try dsimp only at H)
     have A14:=Aside0.mk A140;clear A140;by_cases c15:(t902==t898 && (t903==t899))=true
     ·
      rw [if_pos c15] at H;have c15b0:(t902==t898 && (t903==t899))=true:=c15
      (try (have c15b1:decide (t902=t898 && (t903==t899))=true:=by simpa using c15))
      (try (have c15b2:(t902==t898 && (t903==t899))=true:=by simpa using c15))
      clear c15;by_cases c16:x5_1.length<17592186044416
      ·
       rw [if_pos c16] at H;have LMc16:=Aside0.mk c16;clear c16;obtain⟨y904,hy904⟩:∃ y_:List Int,y_=(x5_1++[x7_1]):=⟨_,rfl⟩;replace H:(spec_l11Near.l0 k1 l0 y904 (wrap64 (x7_1+1)) a1_0 a1_1 t898 t899)=some r:=by first | (rw [hy904];with_reducible exact H) | (have H2_:=(Option.bind_some _ _).symm.trans H;rw [hy904];with_reducible exact H2_) | (have H2_:=(Option.bind_some _ _).symm.trans H;with_reducible exact H2_) | with_reducible exact H | (rw [hy904];exact H) | exact H
       have Ny904:=Aside0.mk hy904;clear hy904;have H':=Aside0.mk H;clear H
       try go_wp2
       replace HO_5:=a0_ (Kd.R_drew HO_5.out);replace BK894:=a0_ (blk_drew BK894.out);replace BK900:=a0_ (blk_drew BK900.out);replace HB:=a0_ (below_drew1 HB.out);have p901:0≤(x7_1:Int):=od_;have q901:x7_1<(l0.length:Int):=od_;obtain⟨ad901,e901,hx901_0,hx901_1,hx901_2,hx901_3⟩:=at_T61 HR0.out x7_1 p901 q901;have hw901_3:=hx901_3;have hw901_2:=hx901_2;have hw901_1:=hx901_1;have hw901_0:=hx901_0;cases e901;replace hx901_0:=ce_ HB hx901_0;replace hx901_1:=ce_ HB hx901_1;replace hx901_2:=ce_ HB hx901_2;replace hx901_3:=ce_ HB hx901_3;replace p901:=eq_true p901;replace q901:=eq_true q901;refine start_ (n:=8) (S:=fun w'=>w'.cell? ⟨gb894,0,none⟩=some (.int .i64 a1_0)∧w'.cell? ⟨gb894,1,none⟩=some (.int .i64 a1_1)∧w'.cell? ⟨gb900,0,none⟩=some (.int .i64 t898)∧w'.cell? ⟨gb900,1,none⟩=some (.int .i64 t899)∧w'.cell? (ad901.add ((x7_1).toNat*4))=some (.int .i64 ((rd_T61 l0 x7_1).f0.f0))∧w'.cell? ⟨(ad901.add ((x7_1).toNat*4)).block,(ad901.add ((x7_1).toNat*4)).off+1,none⟩=some (.int .i64 ((rd_T61 l0 x7_1).f0.f1))∧w'.cell? ⟨(ad901.add ((x7_1).toNat*4)).block,(ad901.add ((x7_1).toNat*4)).off+2,none⟩=some (.int .i64 ((rd_T61 l0 x7_1).f1.f0))∧w'.cell? ⟨(ad901.add ((x7_1).toNat*4)).block,(ad901.add ((x7_1).toNat*4)).off+3,none⟩=some (.int .i64 ((rd_T61 l0 x7_1).f1.f1))) (ds:=[]) (Array.replicate 8 false) (by kernel_rfl) rfl rfl ⟨bc_,bc_,bc_,bc_,(ce_ HB hw901_0),(ce_ HB hw901_1),(ce_ HB hw901_2),(ce_ HB hw901_3)⟩ (fun hHeld=>?_);refine with_tabW spec_l11Near.tab6 spec_l11Near.bits6 (fun HT_ HW_=>?_);generalize wr.drew=w17 at HO_5 BK894 BK900 HB hx901_0 hx901_1 hx901_2 hx901_3 hHeld ⊢
       refine pu_ HT_ 0 18 (bm 8 1) ?_;refine pu_ HT_ 1 19 (bm 8 3) ?_;refine pu_ HT_ 2 20 (bm 8 7) ?_;refine ta8_ HT_ HW_ 3 21 (bm 8 15) hHeld ?_;refine ta8_ HT_ HW_ 4 22 (bm 8 31) hHeld ?_;refine ta8_ HT_ HW_ 6 24 (bm 8 95) hHeld ?_;refine one_ (i:=5) (N:=some 23) (bm 8 127) rfl rfl (one_of HT_.out (by kernel_rfl)) (by decide) (fun K hK=>?_);refine goes_ Tryd.func107 (by kernel_rfl) rfl #[.agg #[.int .i64 ((rd_T61 l0 x7_1).f0.f0),.int .i64 ((rd_T61 l0 x7_1).f0.f1),.int .i64 ((rd_T61 l0 x7_1).f1.f0),.int .i64 ((rd_T61 l0 x7_1).f1.f1)],.agg #[.int .i64 a1_0,.int .i64 a1_1]] (by rfl) rfl rfl ma_ ?_
       with_reducible refine (spec_l2Far.calls k1 ((rd_T61 l0 x7_1).f0.f0) ((rd_T61 l0 x7_1).f0.f1) ((rd_T61 l0 x7_1).f1.f0) ((rd_T61 l0 x7_1).f1.f1) a1_0 a1_1 t902 t903 _ A14.out).mono ?_
       rintro e w18 ⟨rfl,hb⟩;refine⟨_,rfl,?_⟩;replace HO_5:=rb_ HO_5 hb;replace BK894:=vb_ BK894 hb;replace BK900:=vb_ BK900 hb;replace HB:=sb_ HB hb
       (try clear hb)
       (try clear hb2)
       (try clear hk)
       (try clear hi)
       refine hK.out _ _ ⟨bc_,bc_,bc_,bc_,(ce_ HB hw901_0),(ce_ HB hw901_1),(ce_ HB hw901_2),(ce_ HB hw901_3)⟩ (fun hHeld=>?_);clear hK K;refine no_ (h:=?_);refine pu_ HT_ 7 25 (bm 8 255) ?_;refine done_ (done_of HT_.out (by kernel_rfl)) ?_
       try go_wp2_with (first | ((with_reducible refine gate_builtin (b:=.append) (xs:=#[.tmp 26,.tmp 28]) rfl ?_);at_builtin;refine Kd.R_append (Kd.int .i64) (w0:=w) w.heap.size rfl (.tmp 26) (.tmp 28) 63 3 (.int .i64 0) 8 rfl Tryd.underlying63 info3 rfl (by decide) (by omega) u5 x5_1 x7_1 [.int .i64 x7_1] (fun _=>True) (fun _=>False) rfl rfl ?aP (fun _ hk=>hk.elim) ?aF ?aO ?aB ?aS ?aL ?_;(case aP=>exact rfl);(case aB=>exact hB_);(case aF=>exact (fun _ _=>trivial));(case aO=>exact (uR_ HO_5));(case aS=>exact (below_size hB_));(case aL=>have:=LMc16.out;omega);intro v905 w19 ho hb hg hat;rw [← Ny904.out] at ho;have HO906:=a0_ (ho);replace BK894:=a0_ (blk_grown (g:=gb894) (o:=.cells #[.int .i64 a1_0,.int .i64 a1_1] 28 (0,0)) uq_ hg (Kd.R_ne HO_5.out BK894.out (by decide)));replace BK900:=a0_ (blk_grown (g:=gb900) (o:=.cells #[.int .i64 t898,.int .i64 t899] 35 (0,0)) uq_ hg (Kd.R_ne HO_5.out BK900.out (by decide)));replace HB:=a0_ (hb);clear HO_5;clear ho hb hg hat))
       go_roundg k1
       case measure=>have:=HK1.out;omega
       case rel=>exact⟨(y904),(wrap64 (x7_1+1)),(by first | rfl | (simp;done) | (simp [*];done)),H',⟨by have:=HK1.out;omega⟩,⟨by (with_reducible repeat (first | apply Kd.R_alloc | apply Kd.R_drewN | apply Kd.R_drew));exact HO906.out⟩,⟨uq_⟩,⟨uq_⟩,⟨hB_⟩⟩
      ·
       rw [if_neg c16] at H;exact absurd H (by simp)
     ·
      rw [if_neg c15] at H;have c15b0:(t902==t898 && (t903==t899))=false:=by simpa using c15
      (try (have c15b1:decide (t902=t898 && (t903==t899))=false:=by simpa using c15))
      (try (have c15b2:(t902==t898 && (t903==t899))=false:=by simpa using c15))
      (try (have c15b3:¬ (t902=t898 && (t903==t899)):=by simpa using c15))
      clear c15;have H':=Aside0.mk H;clear H
      try go_wp2
      replace HO_5:=a0_ (Kd.R_drew HO_5.out);replace BK894:=a0_ (blk_drew BK894.out);replace BK900:=a0_ (blk_drew BK900.out);replace HB:=a0_ (below_drew1 HB.out);have p901:0≤(x7_1:Int):=od_;have q901:x7_1<(l0.length:Int):=od_;obtain⟨ad901,e901,hx901_0,hx901_1,hx901_2,hx901_3⟩:=at_T61 HR0.out x7_1 p901 q901;have hw901_3:=hx901_3;have hw901_2:=hx901_2;have hw901_1:=hx901_1;have hw901_0:=hx901_0;cases e901;replace hx901_0:=ce_ HB hx901_0;replace hx901_1:=ce_ HB hx901_1;replace hx901_2:=ce_ HB hx901_2;replace hx901_3:=ce_ HB hx901_3;replace p901:=eq_true p901;replace q901:=eq_true q901;refine start_ (n:=8) (S:=fun w'=>w'.cell? ⟨gb894,0,none⟩=some (.int .i64 a1_0)∧w'.cell? ⟨gb894,1,none⟩=some (.int .i64 a1_1)∧w'.cell? ⟨gb900,0,none⟩=some (.int .i64 t898)∧w'.cell? ⟨gb900,1,none⟩=some (.int .i64 t899)∧w'.cell? (ad901.add ((x7_1).toNat*4))=some (.int .i64 ((rd_T61 l0 x7_1).f0.f0))∧w'.cell? ⟨(ad901.add ((x7_1).toNat*4)).block,(ad901.add ((x7_1).toNat*4)).off+1,none⟩=some (.int .i64 ((rd_T61 l0 x7_1).f0.f1))∧w'.cell? ⟨(ad901.add ((x7_1).toNat*4)).block,(ad901.add ((x7_1).toNat*4)).off+2,none⟩=some (.int .i64 ((rd_T61 l0 x7_1).f1.f0))∧w'.cell? ⟨(ad901.add ((x7_1).toNat*4)).block,(ad901.add ((x7_1).toNat*4)).off+3,none⟩=some (.int .i64 ((rd_T61 l0 x7_1).f1.f1))) (ds:=[]) (Array.replicate 8 false) (by kernel_rfl) rfl rfl ⟨bc_,bc_,bc_,bc_,(ce_ HB hw901_0),(ce_ HB hw901_1),(ce_ HB hw901_2),(ce_ HB hw901_3)⟩ (fun hHeld=>?_);refine with_tabW spec_l11Near.tab6 spec_l11Near.bits6 (fun HT_ HW_=>?_);generalize wr.drew=w20 at HO_5 BK894 BK900 HB hx901_0 hx901_1 hx901_2 hx901_3 hHeld ⊢
      refine pu_ HT_ 0 18 (bm 8 1) ?_;refine pu_ HT_ 1 19 (bm 8 3) ?_;refine pu_ HT_ 2 20 (bm 8 7) ?_;refine ta8_ HT_ HW_ 3 21 (bm 8 15) hHeld ?_;refine ta8_ HT_ HW_ 4 22 (bm 8 31) hHeld ?_;refine ta8_ HT_ HW_ 6 24 (bm 8 95) hHeld ?_;refine one_ (i:=5) (N:=some 23) (bm 8 127) rfl rfl (one_of HT_.out (by kernel_rfl)) (by decide) (fun K hK=>?_);refine goes_ Tryd.func107 (by kernel_rfl) rfl #[.agg #[.int .i64 ((rd_T61 l0 x7_1).f0.f0),.int .i64 ((rd_T61 l0 x7_1).f0.f1),.int .i64 ((rd_T61 l0 x7_1).f1.f0),.int .i64 ((rd_T61 l0 x7_1).f1.f1)],.agg #[.int .i64 a1_0,.int .i64 a1_1]] (by rfl) rfl rfl ma_ ?_
      with_reducible refine (spec_l2Far.calls k1 ((rd_T61 l0 x7_1).f0.f0) ((rd_T61 l0 x7_1).f0.f1) ((rd_T61 l0 x7_1).f1.f0) ((rd_T61 l0 x7_1).f1.f1) a1_0 a1_1 t902 t903 _ A14.out).mono ?_
      rintro e w21 ⟨rfl,hb⟩;refine⟨_,rfl,?_⟩;replace HO_5:=rb_ HO_5 hb;replace BK894:=vb_ BK894 hb;replace BK900:=vb_ BK900 hb;replace HB:=sb_ HB hb
      (try clear hb)
      (try clear hb2)
      (try clear hk)
      (try clear hi)
      refine hK.out _ _ ⟨bc_,bc_,bc_,bc_,(ce_ HB hw901_0),(ce_ HB hw901_1),(ce_ HB hw901_2),(ce_ HB hw901_3)⟩ (fun hHeld=>?_);clear hK K;refine no_ (h:=?_);refine pu_ HT_ 7 25 (bm 8 255) ?_;refine done_ (done_of HT_.out (by kernel_rfl)) ?_
      try go_wp2
      go_roundg k1
      case measure=>have:=HK1.out;omega
      case rel=>exact⟨(x5_1),(wrap64 (x7_1+1)),(by first | rfl | (simp;done) | (simp [*];done)),H',⟨by have:=HK1.out;omega⟩,⟨by (with_reducible repeat (first | apply Kd.R_alloc | apply Kd.R_drewN | apply Kd.R_drew));exact HO_5.out⟩,⟨uq_⟩,⟨uq_⟩,⟨hB_⟩⟩
    ·
     rw [if_neg c13] at H;exact absurd H (by simp)
   ·
    rw [if_neg c12] at H;have c12b0:decide (x7_1<(l0.length:Int))=false:=decide_eq_false c12;clear c12;obtain rfl:=Option.some.inj H;go_wp2;go_ret;exact⟨_,rr_,by (with_reducible repeat (first | apply Kd.R_alloc | apply Kd.R_drewN | apply Kd.R_drew));exact HO_5.out,hB_⟩
def spec_PlateNear.j0:Nat→Bool→List (S28)→List (List (S28))→Int→Int→Option (List Int)
 | 0,_,_,_,_,_=>none
 | k+1,x12,x908000,x908001,x909000,x909001=>if x12=true then (some (([]:List Int))) else ((spec_l11Edges.f k x908000 x908001).bind fun t914=>((spec_l11Near.f k t914 x909000 x909001).bind fun t917=>(some t917)))
def spec_PlateNear.f (k:Nat)(l0_0:List (S28))(l0_1:List (List (S28)))(a1_0:Int)(a1_1:Int):Option (List Int):=(spec_PlateOk.f k l0_0 l0_1).bind fun t909=>(if t909=true then ((spec_PtOk.f a1_0 a1_1).bind fun t910=>(spec_PlateNear.j0 k (!t910) l0_0 l0_1 a1_0 a1_1)) else (spec_PlateNear.j0 k true l0_0 l0_1 a1_0 a1_1))
set_option maxHeartbeats 8000000 in
set_option maxRecDepth 100000 in
theorem spec_PlateNear.calls (k:Nat)(A0_0:Option Addr)(c0_0:Nat)(l0_0:List (S28))(A0_1:Option Addr)(c0_1:Nat)(l0_1:List (List (S28)))(a1_0:Int)(a1_1:Int)(r:List Int)(w:World)(hr0_0:Kd.C k28 w A0_0 l0_0.length l0_0)(hc0_0:l0_0.length≤c0_0)(hr0_1:Kd.C (Kd.slice 28 k28) w A0_1 l0_1.length l0_1)(hc0_1:l0_1.length≤c0_1)(h:spec_PlateNear.f k l0_0 l0_1 a1_0 a1_1=some r):
  Calls Tryd.prog 42 #[.agg #[.slice A0_0 l0_0.length c0_0,.slice A0_1 l0_1.length c0_1],.agg #[.int .i64 a1_0,.int .i64 a1_1]] w fun e w'=>∃ v0_:Value,e=.returned (v0_)∧Kd.R (Kd.int .i64) 3 w' w.heap.size (fun _=>True) v0_ r∧Below w.heap.size w w':=by
 have hu26:=Tryd.underlying26;have hu28:=Tryd.underlying28;have HR0_0:=Aside0.mk hr0_0;have HC0_0:=Aside0.mk hc0_0;clear hr0_0 hc0_0;have HR0_1:=Aside0.mk hr0_1;have HC0_1:=Aside0.mk hc0_1;clear hr0_1 hc0_1;have HB:=a0_ (Below.refl w.heap.size w);have H:((spec_PlateOk.f k l0_0 l0_1).bind fun t909=>(if t909=true then ((spec_PtOk.f a1_0 a1_1).bind fun t910=>(spec_PlateNear.j0 k (!t910) l0_0 l0_1 a1_0 a1_1)) else (spec_PlateNear.j0 k true l0_0 l0_1 a1_0 a1_1)))=some r:=h;clear h;have HC3:=Aside0.mk H;clear H;go_enter Tryd.func42,Tryd.ntmps42;go_upto_region 1 with (first | ((with_reducible refine gate_dst (N:=2) rfl ?_);refine bx_ (N:=2) (cs:=#[.slice A0_0 l0_0.length c0_0,.slice A0_1 l0_1.length c0_1]) (t:=26) (h:=?_);intro gb907 hg w4 hbox hb;have BK907:=a0_ (hbox);have GW907:=gh_ HB hg;have GE907:=gh_ HB hg;replace HB:=sb_ HB hb;clear hb hbox hg) | ((with_reducible refine gate_dst (N:=3) rfl ?_);refine bx_ (N:=3) (cs:=#[.int .i64 a1_0,.int .i64 a1_1]) (t:=28) (h:=?_);intro gb908 hg w5 hbox hb;have BK908:=a0_ (hbox);have GW908:=gh_ HB hg;have GE908:=gh_ HB hg;have NB907_908:=nl_ BK907 hg;have NB908_907:=nr_ BK907 hg;replace BK907:=vb_ BK907 hb;replace HB:=sb_ HB hb;clear hb hbox hg))
 (try simp only [Act.put,List.setIfInBounds_toArray,List.set_cons_zero,List.set_cons_succ])
 go_cut [12] (fun v12 wc=>∃ (kq:Nat) (x12_2:Bool),v12=.bool x12_2∧Aside0 (spec_PlateNear.j0 kq x12_2 l0_0 l0_1 a1_0 a1_1=some r)∧Aside0 (kq≤k)∧Aside0 (wc.heap[gb907]?=some (.cells #[(.slice A0_0 l0_0.length c0_0),(.slice A0_1 l0_1.length c0_1)] 26 (0,0)))∧Aside0 (wc.heap[gb908]?=some (.cells #[.int .i64 a1_0,.int .i64 a1_1] 28 (0,0)))∧Aside0 (Below w.heap.size w wc))
 case first =>
  have H:=HC3.out;clear HC3;replace H:=Option.bind_eq_some_iff.mp H;obtain⟨t909,A60,H⟩:=H
  (try dsimp only at H)
  have A6:=Aside0.mk A60;clear A60;by_cases c7:t909=true
  ·
   subst c7;rw [if_pos rfl] at H
   (try dsimp only at H)
   replace H:=Option.bind_eq_some_iff.mp H;obtain⟨t910,A80,H⟩:=H
   (try dsimp only at H)
   have A8:=Aside0.mk A80;clear A80;have H':=Aside0.mk H;clear H;have hnb9:=NB907_908.out;have hnc9:=NB908_907.out;have hcz10_0:=c20_ BK907;have hcz10_1:=c21_ BK907;have hfz10_0:=fz_ BK907 0;have hfz10_1:=fz_ BK907 1;go_wp2_with (first | ((with_reducible refine gate_callee (f:=18) rfl ?_);refine gL_ (some 6) Tryd.func18 #[.agg #[.slice A0_0 l0_0.length c0_0,.slice A0_1 l0_1.length c0_1]] (h:=?_);(with_reducible refine (spec_PlateOk.calls k _ _ l0_0 _ _ l0_1 true _ ?side1 ?side2 ?side3 ?side4 A6.out).mono ?_);(case side1=>repeat (first | exact (Kd.C_below HR0_0.out HB.out) | (with_reducible refine Kd.C_alloc ?_ _) | (with_reducible refine Kd.C_drewN ?_ _) | (with_reducible refine Kd.C_drew ?_)));(case side2=>exact HC0_0.out);(case side3=>repeat (first | exact (Kd.C_below HR0_1.out HB.out) | (with_reducible refine Kd.C_alloc ?_ _) | (with_reducible refine Kd.C_drewN ?_ _) | (with_reducible refine Kd.C_drew ?_)));(case side4=>exact HC0_1.out);rintro e w11 ⟨rfl,hb⟩;refine⟨_,rfl,?_⟩;replace BK907:=vb_ BK907 hb;replace BK908:=vb_ BK908 hb;replace HB:=sb_ HB hb;(try clear hb);have hcz12_0:=c20_ BK908;have hcz12_1:=c21_ BK908;have hfz12_0:=fz_ BK908 0;have hfz12_1:=fz_ BK908 1) | (go_at_call 19;(with_reducible refine (spec_PtOk.calls a1_0 a1_1 t910 _ A8.out).mono ?_);rintro e w13 ⟨rfl,hb⟩;replace BK907:=vb_ BK907 hb;replace BK908:=vb_ BK908 hb;replace HB:=sb_ HB hb;(try clear hb)));go_meet
   case rel=>exact⟨_,(!t910),(by first | rfl | (simp;done) | (simp [*];done)),H',⟨by first | omega | exact Nat.le_refl _⟩,⟨uq_⟩,⟨uq_⟩,⟨hB_⟩⟩
  ·
   replace c7:=Bool.eq_false_iff.mpr c7;subst c7;rw [if_neg (show ¬ (false=true) by decide)] at H
   (try dsimp only at H)
   have H':=Aside0.mk H;clear H;have hnb14:=NB907_908.out;have hnc14:=NB908_907.out;have hcz15_0:=c20_ BK907;have hcz15_1:=c21_ BK907;have hfz15_0:=fz_ BK907 0;have hfz15_1:=fz_ BK907 1;go_wp2_with (first | ((with_reducible refine gate_callee (f:=18) rfl ?_);refine gL_ (some 6) Tryd.func18 #[.agg #[.slice A0_0 l0_0.length c0_0,.slice A0_1 l0_1.length c0_1]] (h:=?_);(with_reducible refine (spec_PlateOk.calls k _ _ l0_0 _ _ l0_1 false _ ?side1 ?side2 ?side3 ?side4 A6.out).mono ?_);(case side1=>repeat (first | exact (Kd.C_below HR0_0.out HB.out) | (with_reducible refine Kd.C_alloc ?_ _) | (with_reducible refine Kd.C_drewN ?_ _) | (with_reducible refine Kd.C_drew ?_)));(case side2=>exact HC0_0.out);(case side3=>repeat (first | exact (Kd.C_below HR0_1.out HB.out) | (with_reducible refine Kd.C_alloc ?_ _) | (with_reducible refine Kd.C_drewN ?_ _) | (with_reducible refine Kd.C_drew ?_)));(case side4=>exact HC0_1.out);rintro e w16 ⟨rfl,hb⟩;refine⟨_,rfl,?_⟩;replace BK907:=vb_ BK907 hb;replace BK908:=vb_ BK908 hb;replace HB:=sb_ HB hb;(try clear hb)));go_meet
   case rel=>exact⟨_,(true),(by first | rfl | (simp;done) | (simp [*];done)),H',⟨by first | omega | exact Nat.le_refl _⟩,⟨uq_⟩,⟨uq_⟩,⟨hB_⟩⟩
 case rest =>
  clear HC3;obtain⟨kq,x12_2,rfl,HA,HJ2,BK907,BK908,HB⟩:=hcut
  cases kq with
  | zero=>exact absurd HA.out (by simp [spec_PlateNear.j0])
  | succ kj2 =>
   have H:=HA.out;clear HA;simp only [spec_PlateNear.j0] at H;by_cases c17:x12_2=true
   ·
    subst c17;rw [if_pos rfl] at H
    (try dsimp only at H)
    obtain⟨y911,hy911⟩:∃ y_:List Int,y_=(([]:List Int)):=⟨_,rfl⟩;replace H:(some y911)=some r:=by first | (rw [hy911];with_reducible exact H) | (have H2_:=(Option.bind_some _ _).symm.trans H;rw [hy911];with_reducible exact H2_) | (have H2_:=(Option.bind_some _ _).symm.trans H;with_reducible exact H2_) | with_reducible exact H | (rw [hy911];exact H) | exact H
    have Ny911:=Aside0.mk hy911;clear hy911;obtain rfl:=Option.some.inj H;go_wp2_with (first | ((with_reducible refine gate_dst (N:=13) rfl ?_);refine Kd.R_lit (Kd.int .i64) _ 3 ?hg (N:=13) ?hd (xs:=([]:List Int)) (inner:=[]) (ok:=fun _=>True) (okp:=fun _=>True) ?hr ?hp (fun _ hk=>hk) trivial (Below.refl _ _) (Nat.le_refl _) (by simp) ?_;(case hd=>rfl);(case hg=>rfl);(case hr=>first | (go_simp;done) | (go_simp;rfl));(case hp=>exact (Reps.none _ _));intro v912 w18 ho19 hb hg_ hnew_;clear hg_ hnew_;(first | rw [← Ny911.out] at ho19 | (simp only [Int.reduceToNat] at ho19;rw [← Ny911.out] at ho19));have HO913:=a0_ (Kd.R_lower ho19 (below_size hB_));replace BK907:=vb_ BK907 hb;replace BK908:=vb_ BK908 hb;replace HB:=sb_ HB hb;clear hb ho19));go_ret;exact⟨_,rr_,by (with_reducible repeat (first | apply Kd.R_alloc | apply Kd.R_drewN | apply Kd.R_drew));exact HO913.out,hB_⟩
   ·
    replace c17:=Bool.eq_false_iff.mpr c17;subst c17;rw [if_neg (show ¬ (false=true) by decide)] at H
    (try dsimp only at H)
    replace H:=Option.bind_eq_some_iff.mp H;obtain⟨t914,A200,H⟩:=H
    (try dsimp only at H)
    have A20:=Aside0.mk A200;clear A200;replace H:=Option.bind_eq_some_iff.mp H;obtain⟨t917,A210,H⟩:=H
    (try dsimp only at H)
    have A21:=Aside0.mk A210;clear A210;obtain rfl:=Option.some.inj H
    try go_wp2
    replace BK907:=a0_ (blk_drew BK907.out);replace BK908:=a0_ (blk_drew BK908.out);replace HB:=a0_ (below_drew1 HB.out);refine start_ (n:=5) (S:=fun w'=>w'.cell? ⟨gb907,0,none⟩=some (.slice A0_0 l0_0.length c0_0)∧w'.cell? ⟨gb907,1,none⟩=some (.slice A0_1 l0_1.length c0_1)∧w'.cell? ⟨gb908,0,none⟩=some (.int .i64 a1_0)∧w'.cell? ⟨gb908,1,none⟩=some (.int .i64 a1_1)) (ds:=[]) (Array.replicate 5 false) (by kernel_rfl) rfl rfl ⟨bc_,bc_,bc_,bc_⟩ (fun hHeld=>?_);generalize wc.drew=w22 at BK907 BK908 HB hHeld ⊢
    refine tb4_ 0 14 #[true,false,false,false,false] hHeld ?_;refine tb4_ 2 16 #[true,false,true,false,false] hHeld ?_;refine one_ (i:=1) (N:=some 15) #[true,true,true,false,false] rfl rfl (by kernel_rfl) (by decide) (fun K hK=>?_);refine goes_ Tryd.func66 (by kernel_rfl) rfl #[.agg #[.slice A0_0 l0_0.length c0_0,.slice A0_1 l0_1.length c0_1]] (by rfl) rfl rfl ma_ ?_
    with_reducible refine (spec_l11Edges.calls kj2 _ _ l0_0 _ _ l0_1 t914 _ ?side1 ?side2 ?side3 ?side4 A20.out).mono ?_
    (case side1=>repeat (first | exact (Kd.C_below HR0_0.out HB.out) | (with_reducible refine Kd.C_alloc ?_ _) | (with_reducible refine Kd.C_drewN ?_ _) | (with_reducible refine Kd.C_drew ?_)))
    (case side2=>exact HC0_0.out)
    (case side3=>repeat (first | exact (Kd.C_below HR0_1.out HB.out) | (with_reducible refine Kd.C_alloc ?_ _) | (with_reducible refine Kd.C_drewN ?_ _) | (with_reducible refine Kd.C_drew ?_)))
    (case side4=>exact HC0_1.out)
    rintro e w23 ⟨v915,rfl,ho0,hb⟩;refine⟨_,rfl,?_⟩;have HO916:=a0_ (Kd.R_lower ho0 (below_size hB_));replace BK907:=vb_ BK907 hb;replace BK908:=vb_ BK908 hb;replace HB:=sb_ HB hb
    (try clear hb)
    (try clear hb2)
    (try clear hk)
    (try clear hi)
    (try clear ho0)
    obtain⟨Ao24,co24,eo24⟩:=Kd.R_slice HO916.out
    (first | subst eo24 | (injection eo24 with f1_ f2_ f3_;have f4_:=f1_.symm;have f5_:=f3_.symm;clear f1_ f2_ f3_;subst f4_;subst f5_))
    refine hK.out _ _ ⟨bc_,bc_,bc_,bc_⟩ (fun hHeld=>?_);clear hK K;refine no_ (h:=?_);refine one_ (i:=3) (N:=some 17) #[true,true,true,true,false] rfl rfl (by kernel_rfl) (by decide) (fun K hK=>?_);refine goes_ Tryd.func85 (by kernel_rfl) rfl #[.slice Ao24 t914.length co24,.agg #[.int .i64 a1_0,.int .i64 a1_1]] (by rfl) rfl rfl ma_ ?_
    with_reducible refine (spec_l11Near.calls kj2 _ _ t914 a1_0 a1_1 t917 _ ?side1 ?side2 A21.out).mono ?_
    (case side1=>repeat (first | exact (Kd.R_reads' HO916.out).2.2 | (with_reducible refine Kd.C_alloc ?_ _) | (with_reducible refine Kd.C_drewN ?_ _) | (with_reducible refine Kd.C_drew ?_)))
    (case side2=>exact (Kd.R_reads' HO916.out).2.1)
    rintro e w25 ⟨v918,rfl,ho0,hb⟩;refine⟨_,rfl,?_⟩;have HO919:=a0_ (Kd.R_lower ho0 (below_size hB_));replace HO916:=rb_ HO916 hb;replace BK907:=vb_ BK907 hb;replace BK908:=vb_ BK908 hb;replace HB:=sb_ HB hb
    (try clear hb)
    (try clear hb2)
    (try clear hk)
    (try clear hi)
    (try clear ho0)
    refine hK.out _ _ ⟨bc_,bc_,bc_,bc_⟩ (fun hHeld=>?_);clear hK K;refine no_ (h:=?_);refine pv_ 4 4 #[true,true,true,true,true] ?_;refine done_ (by kernel_rfl) ?_
    try go_wp2
    go_ret;exact⟨_,rr_,by (with_reducible repeat (first | apply Kd.R_alloc | apply Kd.R_drewN | apply Kd.R_drew));exact HO919.out,hB_⟩
end Go.Proofs.YtkefmnmoaomlhaaDoor.X
end
section
set_option linter.unusedVariables false
set_option linter.unusedSimpArgs false
namespace Mort
def farL (es:List Seg)(p:Pt):Frac:=match es with
 | []=>(0,0)
 | e::r=>r.foldl (fun a s=>least a (segFar s p)) (segFar e p)
def nearF (p:Pt)(f:Frac):Nat→List Seg→List Int
 | _,[]=>[]
 | i,s::r=>if segFar s p=f then (i:Int)::nearF p f (i+1) r else nearF p f (i+1) r
def plateNear (P:Plate)(p:Pt):List Int:=if plateOk P && ptOk p then nearF p (farL (plateEdges P) p) 0 (plateEdges P) else []
theorem fold_least {p:Pt}(hp:ptOk p=true):∀ (r:List Seg) (a:Frac),fracOk a=true→(∀ e∈r,segOk e=true) →
  fracOk (r.foldl (fun a s=>least a (segFar s p)) a)=true∧val (r.foldl (fun a s=>least a (segFar s p)) a)≤val a∧(∀ e∈r,val (r.foldl (fun a s=>least a (segFar s p)) a)≤val (segFar e p)) ∧
  (r.foldl (fun a s=>least a (segFar s p)) a=a∨∃ e∈r,r.foldl (fun a s=>least a (segFar s p)) a=segFar e p):=by
 intro r
 induction r with
 | nil=>intro a ha _;exact⟨ha,Rat.le_refl,fun e he=>by simp at he,.inl rfl⟩
 | cons s r ih =>
  intro a ha hr;have hs:=(segFar_ok (hr s List.mem_cons_self) hp).1;obtain⟨⟨l1,l2⟩,l3⟩:=val_least ha hs;obtain⟨i1,i2,i3,i4⟩:=ih (least a (segFar s p)) (least_ok ha hs) (fun e he=>hr e (List.mem_cons_of_mem _ he));rw [List.foldl_cons];refine⟨i1,Rat.le_trans i2 l1,fun e he=>?_,?_⟩
  ·
   rcases List.mem_cons.1 he with rfl | he
   ·
    exact Rat.le_trans i2 l2
   ·
    exact i3 e he
  ·
   rcases i4 with h | ⟨e,he,h⟩
   ·
    rw [h]
    rcases l3 with h3 | h3
    ·
     exact .inl h3
    ·
     exact .inr ⟨s,List.mem_cons_self,h3⟩
   ·
    exact .inr ⟨e,List.mem_cons_of_mem _ he,h⟩
theorem farL_spec {es:List Seg}{p:Pt}(hp:ptOk p=true)(hne:0<es.length)(hok:∀ e∈es,segOk e=true):
  fracOk (farL es p)=true∧(∀ e∈es,val (farL es p)≤val (segFar e p))∧∃ e∈es,farL es p=segFar e p:=by
 cases es with
 | nil=>simp at hne
 | cons e r =>
  obtain⟨i1,i2,i3,i4⟩:=fold_least hp r (segFar e p) (segFar_ok (hok e List.mem_cons_self) hp).1 (fun s hs=>hok s (List.mem_cons_of_mem _ hs));refine⟨i1,fun s hs=>?_,?_⟩
  ·
   rcases List.mem_cons.1 hs with rfl | hs
   ·
    exact i2
   ·
    exact i3 s hs
  ·
   rcases i4 with h | ⟨s,hs,h⟩
   ·
    exact⟨e,List.mem_cons_self,h⟩
   ·
    exact⟨s,List.mem_cons_of_mem _ hs,h⟩
theorem plateEdges_ok {P:Plate}(g:PlateGood P):(∀ e∈plateEdges P,segOk e=true)∧0<(plateEdges P).length:=by
 refine⟨fun e he=>?_,?_⟩
 ·
  unfold plateEdges at he
  rcases List.mem_append.1 he with he | he
  ·
   exact ((loopOk_iff _).1 g.outer).2.2.1 e he
  ·
   obtain⟨h,hh,he⟩:=List.mem_flatMap.1 he;exact ((loopOk_iff _).1 (g.holes h hh)).2.2.1 e he
 ·
  unfold plateEdges;rw [List.length_append,edges_length];have:=loop_pos g.outer;omega
end Mort
namespace Go.Proofs.YtkefmnmoaomlhaaDoor.X
open Go.RowKit Go.Proofs.YtkefmnmoaomlhaaDoorW.PrintWords Go.Proofs.YtkefmnmoaomlhaaDoorW.PrintLast Go.Proofs.YtkefmnmoaomlhaaDoorW.PrintMore
open Mort (edges loopOk ptOk segOk has meet ed pairOk joined apartB plateOk PlateGood inOf segMeet segFar least fracOk fracCmp cmp0 farL nearF plateNear plateEdges)
theorem edgesS_eq (z:List S28):edgesS z=esOf z:=by
 unfold edgesS esOf;apply List.ext_getElem
 ·
  simp
 ·
  intro i h1 h2;simp
theorem allEdges_pl (o:List S28)(H:List (List S28)):(allEdges (o::H)).map sgP=plateEdges (pl o H):=by
 unfold allEdges plateEdges pl;rw [List.flatMap_cons,List.map_append,edgesS_eq,esOf_edges]
 congr 1
 induction H with
 | nil=>rfl
 | cons z H ih=>rw [List.flatMap_cons,List.map_append,edgesS_eq,esOf_edges,List.map_cons,List.flatMap_cons,ih]
theorem farE_L (E:List S61)(p:Mort.Pt):farE E p=farL (E.map sgP) p:=by
 cases E with
 | nil=>rfl
 | cons e r =>
  show r.foldl _ _=(r.map sgP).foldl _ _
  rw [List.foldl_map]
theorem nearFrom_F {p:Mort.Pt}{f:Mort.Frac}(hp:ptOk p=true)(hf:fracOk f=true):∀ (E:List S61) (i:Nat),(∀ s∈E,segOk (sgP s)=true)→nearFrom p f i E=nearF p f i (E.map sgP):=by
 intro E
 induction E with
 | nil=>intro i _;rfl
 | cons s E ih =>
  intro i h;have hs:=(Mort.segFar_ok (h s List.mem_cons_self) hp).1;rw [nearFrom_cons,List.map_cons]
  show _=if segFar (sgP s) p=f then _ else _
  rw [ih (i+1) (fun t ht=>h t (List.mem_cons_of_mem _ ht))];by_cases e:segFar (sgP s) p=f
  ·
   rw [if_pos e,if_pos ((Mort.cmp_zero hs hf).2 e)]
  ·
   rw [if_neg e,if_neg (fun q=>e ((Mort.cmp_zero hs hf).1 q))]
theorem edges_facts {o:List S28}{H:List (List S28)}(h:plateOk (pl o H)=true):(∀ s∈allEdges (o::H),segOk (sgP s)=true)∧0<(allEdges (o::H)).length∧(allEdges (o::H)).length≤24∧H.length≤2:=by
 rw [← iBodyOk] at h;obtain⟨e0,es,hEe,hle⟩:=allEdges_cons h;refine⟨allEdges_ok h,by rw [hEe];simp,by rw [hEe];simp only [List.length_cons];omega,((bodyOkB_iff o H).1 h).1⟩
theorem far_ok {o:List S28}{H:List (List S28)}(h:plateOk (pl o H)=true){p:Mort.Pt}(hp:ptOk p=true):fracOk (farL (plateEdges (pl o H)) p)=true:=by
 obtain⟨h1,h2⟩:=Mort.plateEdges_ok (good_of h);exact (Mort.farL_spec hp h2 h1).1
theorem iPlateNear (o:List S28)(H:List (List S28))(x y:Int):impl_PlateNear.f o H x y=some (plateNear (pl o H) (x,y)):=by
 unfold impl_PlateNear.f plateNear;rw [iBodyOk,farE_L,allEdges_pl]
 cases h:plateOk (pl o H) with
 | false=>rfl
 | true =>
  cases hp:ptOk (x,y) with
  | false=>rfl
  | true =>
   rw [Bool.and_self,if_pos rfl,if_pos rfl,nearFrom_F hp (far_ok h hp) _ 0 (edges_facts h).1,allEdges_pl]
theorem sL11Edges {k:Nat}(hk:1000≤k){o:List S28}{H:List (List S28)}(h:plateOk (pl o H)=true):spec_l11Edges.f k o H=some (allEdges (o::H)):=by
 have g:=good_of h;obtain⟨o3,o8,_⟩:=ok_facts (z:=o) g.outer;have hH:∀ z∈H,z.length≤8:=fun z hz=>(ok_facts (g.holes _ (List.mem_map_of_mem hz))).2.1
 have h2:H.length≤2:=(edges_facts h).2.2.2;have loop:∀ (m i k:Nat) (acc:List S61),H.length-i=m→i≤H.length→m+20≤k→acc.length≤100*(i+1)→spec_l11Edges.l0 k acc (i:Int) o H=some (acc++(H.drop i).flatMap esOf):=by
  intro m
  induction m with
  | zero =>
   intro i k acc hm hi hk ha;obtain⟨k,rfl⟩:∃ q,k=q+1:=⟨k-1,by omega⟩;simp only [spec_l11Edges.l0];rw [if_neg (by omega),List.drop_of_length_le (by omega)];simp
  | succ m ih =>
   intro i k acc hm hi hk ha;obtain⟨k,rfl⟩:∃ q,k=q+1:=⟨k-1,by omega⟩;simp only [spec_l11Edges.l0];have hlt:i<H.length:=by omega
   have hg:rd_L5 H (i:Int)=H[i]:=by show H.getD i []=_;rw [List.getD_eq_getElem?_getD,List.getElem?_eq_getElem hlt];rfl
   have hl:=hH _ (List.getElem_mem hlt);rw [if_pos (by omega),if_pos (by omega),hg,sEdges (by omega) (by omega),Option.bind_some,if_pos (by rw [esOf_len];omega),succ64 (by omega),ih (i+1) k _ (by omega) (by omega) (by omega) (by rw [List.length_append,esOf_len];omega),List.drop_eq_getElem_cons hlt,List.flatMap_cons,List.append_assoc]
 unfold spec_l11Edges.f;rw [sEdges (by omega) (by omega),Option.bind_some];refine (loop H.length 0 k _ (by omega) (by omega) (by omega) (by rw [esOf_len];omega)).trans ?_;rw [List.drop_zero];unfold allEdges;rw [List.flatMap_cons,edgesS_eq]
 congr 2
 have:edgesS=esOf:=funext edgesS_eq;rw [this]
theorem rd_seg {E:List S61}{i:Nat}(h:i<E.length):rd_T61 E (i:Int)=E[i]:=by
 show E.getD i _=_
 rw [List.getD_eq_getElem?_getD,List.getElem?_eq_getElem h];rfl
theorem sFarS {k:Nat}(hk:100000≤k){s:S61}{x y:Int}(hs:segOk (sgP s)=true)(hp:ptOk (x,y)=true):spec_l2Far.f k s.f0.f0 s.f0.f1 s.f1.f0 s.f1.f1 x y=some ((segFar (sgP s) (x,y)).1,(segFar (sgP s) (x,y)).2):=by
 have hs':segOk ((s.f0.f0,s.f0.f1),(s.f1.f0,s.f1.f1))=true:=hs;rw [sL2Far hk hs' hp];have:segFar (sgP s) (x,y)=Mort.red (Mort.far ((s.f0.f0,s.f0.f1),(s.f1.f0,s.f1.f1)) (x,y)):=by
  show segFar ((s.f0.f0,s.f0.f1),(s.f1.f0,s.f1.f1)) (x,y)=_
  unfold segFar;rw [hs',hp];rfl
 rw [this]
theorem sL11Far {k:Nat}(hk:200000≤k){E:List S61}{x y:Int}(hok:∀ s∈E,segOk (sgP s)=true)(hp:ptOk (x,y)=true)(hne:0<E.length)(hle:E.length≤24):
  spec_l11Far.f k E x y=some ((farE E (x,y)).1,(farE E (x,y)).2):=by
 have loop:∀ (m i k:Nat) (a:Mort.Frac),E.length-i=m→i≤E.length→m+100001≤k→fracOk a=true →
   spec_l11Far.l0 k E (i:Int) x y a.1 a.2=some ((runFar (x,y) a (E.drop i)).1,(runFar (x,y) a (E.drop i)).2):=by
  intro m
  induction m with
  | zero =>
   intro i k a hm hi hk ha;obtain⟨k,rfl⟩:∃ q,k=q+1:=⟨k-1,by omega⟩;simp only [spec_l11Far.l0];rw [if_neg (by omega),List.drop_of_length_le (by omega)];rfl
  | succ m ih =>
   intro i k a hm hi hk ha;obtain⟨k,rfl⟩:∃ q,k=q+1:=⟨k-1,by omega⟩;simp only [spec_l11Far.l0];have hlt:i<E.length:=by omega
   have hs:=hok _ (List.getElem_mem hlt);have hf:=(Mort.segFar_ok hs hp).1;rw [if_pos (by omega),if_pos (by omega),rd_seg hlt,sFarS (by omega) hs hp,Option.bind_some];have hl:=sLeast (n:=a.1) (d:=a.2) (m:=(segFar (sgP E[i]) (x,y)).1) (q:=(segFar (sgP E[i]) (x,y)).2) ha hf;simp only;rw [hl,Option.bind_some,succ64 (by omega)];simp only;rw [ih (i+1) k (least a (segFar (sgP E[i]) (x,y))) (by omega) (by omega) (by omega) (Mort.least_ok ha hf),List.drop_eq_getElem_cons hlt];rfl
 unfold spec_l11Far.f;rw [if_pos (by omega)]
 cases E with
 | nil=>simp at hne
 | cons e es =>
  have hs:=hok e List.mem_cons_self;have e0:rd_T61 (e::es) 0=e:=rfl;rw [e0,sFarS (by omega) hs hp,Option.bind_some];exact loop es.length 1 k (segFar (sgP e) (x,y)) (by simp) (by simp) (by simp only [List.length_cons] at hle;omega) (Mort.segFar_ok hs hp).1
theorem sL11Near {k:Nat}(hk:200000≤k){E:List S61}{x y:Int}(hok:∀ s∈E,segOk (sgP s)=true)(hp:ptOk (x,y)=true)(hne:0<E.length)(hle:E.length≤24):
  spec_l11Near.f k E x y=some (nearF (x,y) (farE E (x,y)) 0 (E.map sgP)):=by
 have loop:∀ (f:Mort.Frac) (m i k:Nat) (acc:List Int),E.length-i=m→i≤E.length→m+100001≤k→acc.length≤i →
   spec_l11Near.l0 k E acc (i:Int) x y f.1 f.2=some (acc++nearF (x,y) f i ((E.map sgP).drop i)):=by
  intro f m
  induction m with
  | zero =>
   intro i k acc hm hi hk ha;obtain⟨k,rfl⟩:∃ q,k=q+1:=⟨k-1,by omega⟩;simp only [spec_l11Near.l0];rw [if_neg (by omega),List.drop_of_length_le (by rw [List.length_map];omega)];simp [nearF]
  | succ m ih =>
   intro i k acc hm hi hk ha;obtain⟨k,rfl⟩:∃ q,k=q+1:=⟨k-1,by omega⟩;simp only [spec_l11Near.l0];have hlt:i<E.length:=by omega
   have hs:=hok _ (List.getElem_mem hlt);have hd:(E.map sgP).drop i=sgP E[i]::(E.map sgP).drop (i+1):=by rw [List.drop_eq_getElem_cons (by simpa using hlt)];simp
   rw [if_pos (by omega),if_pos (by omega),rd_seg hlt,sFarS (by omega) hs hp,Option.bind_some,hd]
   show _=some (acc++if segFar (sgP E[i]) (x,y)=f then _ else _)
   simp only;by_cases e:segFar (sgP E[i]) (x,y)=f
   ·
    rw [e,if_pos rfl,if_pos (by simp),if_pos (by omega),succ64 (by omega),ih (i+1) k _ (by omega) (by omega) (by omega) (by simp;omega)];simp
   ·
    rw [if_neg e,if_neg,succ64 (by omega),ih (i+1) k _ (by omega) (by omega) (by omega) (by omega)];intro q;simp only [Bool.and_eq_true,beq_iff_eq] at q;exact e (Prod.ext q.1 q.2)
 unfold spec_l11Near.f;rw [sL11Far hk hok hp hne hle,Option.bind_some];exact loop (farE E (x,y)) E.length 0 k [] (by omega) (by omega) (by omega) (by simp)
theorem sPlateNear {k:Nat}(hk:300000≤k)(o:List S28)(H:List (List S28))(x y:Int):spec_PlateNear.f k o H x y=some (plateNear (pl o H) (x,y)):=by
 unfold spec_PlateNear.f plateNear;rw [sPlateOk (by omega),Option.bind_some];obtain⟨k,rfl⟩:∃ q,k=q+1:=⟨k-1,by omega⟩
 cases h:plateOk (pl o H) with
 | false=>rw [if_neg (by decide)];rfl
 | true =>
  rw [if_pos rfl,sPtOk,Option.bind_some]
  cases hp:ptOk (x,y) with
  | false=>rfl
  | true =>
   simp only [spec_PlateNear.j0];obtain⟨h1,h2,h3,_⟩:=edges_facts h;rw [if_neg (by decide),sL11Edges (by omega) h,Option.bind_some,sL11Near (by omega) h1 hp h2 h3,Option.bind_some,Bool.and_self,if_pos rfl,farE_L,allEdges_pl]
end Go.Proofs.YtkefmnmoaomlhaaDoor.X
end
section
set_option linter.unusedVariables false
set_option linter.unusedSimpArgs false
namespace Go.Proofs.YtkefmnmoaomlhaaDoor.X
open Go.RowKit Go.Proofs.YtkefmnmoaomlhaaDoorW.PrintWords Go.Proofs.YtkefmnmoaomlhaaDoorW.PrintLast Go.Proofs.YtkefmnmoaomlhaaDoorW.PrintMore
def Tells {α:Type}(K:Nat)(f:Nat→Option α)(P:α→Prop):Prop:=∃ a,(∀ k,K≤k→f k=some a)∧P a
namespace Tells
variable {α β:Type} {K:Nat} {P:α→Prop} {Q:β→Prop}
theorem bind {f:Nat→Option α}{g:α→Nat→Option β}(h:Tells K f P)(hg:∀ a,P a→Tells K (g a) Q):Tells K (fun k=>(f k).bind fun a=>g a k) Q:=by
 obtain⟨a,h1,h2⟩:=h;obtain⟨b,h3,h4⟩:=hg a h2;exact⟨b,fun k hk=>by show (f k).bind _=_;rw [h1 k hk,Option.bind_some,h3 k hk],h4⟩
theorem ret (a:α)(h:P a):Tells K (fun _=>some a) P:=⟨a,fun _ _=>rfl,h⟩
theorem ite {c:Prop}[Decidable c]{f g:Nat→Option α}(h1:c→Tells K f P)(h2:¬ c→Tells K g P):Tells K (fun k=>if c then f k else g k) P:=by
 by_cases h:c
 ·
  obtain⟨a,e,p⟩:=h1 h;exact⟨a,fun k hk=>by show (if c then _ else _)=_;rw [if_pos h,e k hk],p⟩
 ·
  obtain⟨a,e,p⟩:=h2 h;exact⟨a,fun k hk=>by show (if c then _ else _)=_;rw [if_neg h,e k hk],p⟩
theorem guard {c:Prop}[Decidable c]{f:Nat→Option α}(h:c)(h1:Tells K f P):Tells K (fun k=>if c then f k else none) P:=ite (fun _=>h1) (fun n=>absurd h n)
theorem up {K':Nat}{f:Nat→Option α}(hk:K≤K')(h:Tells K f P):Tells K' f P:=by
 obtain⟨a,e,p⟩:=h;exact⟨a,fun k hk'=>e k (by omega),p⟩
theorem mono {P':α→Prop}{f:Nat→Option α}(h:Tells K f P)(hp:∀ a,P a→P' a):Tells K f P':=by
 obtain⟨a,e,p⟩:=h;exact⟨a,e,hp a p⟩
theorem succ {f g:Nat→Option α}(hf:∀ k,f (k+1)=g k)(h:Tells K g P):Tells (K+1) f P:=by
 obtain⟨a,e,p⟩:=h;refine⟨a,fun k hk=>?_,p⟩;obtain⟨k,rfl⟩:∃ q,k=q+1:=⟨k-1,by omega⟩;rw [hf,e k (by omega)]
theorem same {f g:Nat→Option α}(hf:∀ k,f k=g k)(h:Tells K g P):Tells K f P:=by
 obtain⟨a,e,p⟩:=h;exact⟨a,fun k hk=>by rw [hf,e k hk],p⟩
end Tells
section
variable {l:List Int} (hl:Bytes l)
include hl
end
end Go.Proofs.YtkefmnmoaomlhaaDoor.X
end
section
set_option linter.unusedVariables false
set_option linter.unusedSimpArgs false
namespace Go.Proofs.YtkefmnmoaomlhaaDoor.X
open Go.RowKit Go.Shelf Go.Proofs.YtkefmnmoaomlhaaDoorW.PrintWords Go.Proofs.YtkefmnmoaomlhaaDoorW.PrintLast Go.Proofs.YtkefmnmoaomlhaaDoorW.PrintMore
open Mort (ptOk plateOk fracCmp)
structure PlateAt (w:World) (A:Option Addr) (c:Nat) (B:Option Addr) (d:Nat) (o:List S28) (H:List (List S28)):Prop where
 outer:Kd.C k28 w A o.length o
 capO:o.length≤c
 holes:Kd.C (Kd.slice 28 k28) w B H.length H
 capH:H.length≤d
theorem PlateAt.later {w w':World}{A B:Option Addr}{c d:Nat}{o:List S28}{H:List (List S28)}(h:PlateAt w A c B d o H)(hb:Below w.heap.size w w'):PlateAt w' A c B d o H:=
 ⟨Kd.C_below h.outer hb,h.capO,Kd.C_below h.holes hb,h.capH⟩
structure DrawnAt (w0 w:World) (g:Nat) (A:Option Addr) (c:Nat) (B:Option Addr) (d:Nat) (o:List S28) (H:List (List S28)) (x y:Int):Prop where
 pl:PlateAt w A c B d o H
 bw:Below w0.heap.size w0 w
 n1:w.heap[g]?=some (.cells #[.slice A o.length c,.slice B H.length d] 26 (0,0))
 n2:w.heap[g+1]?=some (.cells #[.int .i64 x,.int .i64 y] 28 (0,0))
namespace DrawnAt
variable {w0 w w':World} {g:Nat} {A:Option Addr} {c:Nat} {B:Option Addr} {d:Nat} {o:List S28} {H:List (List S28)} {x y:Int}
theorem later (h:DrawnAt w0 w g A c B d o H x y)(hb:Below w.heap.size w w'):DrawnAt w0 w' g A c B d o H x y:=⟨h.pl.later hb,below_step h.bw hb,blk_later h.n1 hb,blk_later h.n2 hb⟩
theorem cells (h:DrawnAt w0 w g A c B d o H x y):w.cell? ⟨g,0,none⟩=some (.slice A o.length c)∧w.cell? ⟨g,1,none⟩=some (.slice B H.length d)∧w.cell? ⟨g+1,0,none⟩=some (.int .i64 x)∧w.cell? ⟨g+1,1,none⟩=some (.int .i64 y):=
 ⟨(blk_cell h.n1 0).trans rfl,(blk_cell h.n1 1).trans rfl,(blk_cell h.n2 0).trans rfl,(blk_cell h.n2 1).trans rfl⟩
theorem new (h:PlateAt w A c B d o H)(hb:Below w0.heap.size w0 w)(x y:Int):DrawnAt w0 ((w.alloc (.cells #[.slice A o.length c,.slice B H.length d] 26)).alloc (.cells #[.int .i64 x,.int .i64 y] 28)) w.heap.size A c B d o H x y:=by
 have n2:=blk_new (w.alloc (.cells #[.slice A o.length c,.slice B H.length d] 26)) (.cells #[.int .i64 x,.int .i64 y] 28 (0,0));rw [World.size_alloc] at n2;exact⟨h.later (below_alloc (below_alloc (Below.refl _ w) _) _),below_alloc (below_alloc hb _) _,blk_alloc (blk_new w _) _,n2⟩
end DrawnAt
section
variable {A:Option Addr} {c:Nat} {B:Option Addr} {d:Nat} {o:List S28} {H:List (List S28)} {w:World} (h:PlateAt w A c B d o H)
include h
end
end Go.Proofs.YtkefmnmoaomlhaaDoor.X
end
