/- FnExactPlateRead: the law returns true for every input, and each input reads behind the call as before; part 4 of 4. No condition. Merged by program out of: HL3In, FSpecPlateOk, Step, HText, EvLoop, EvPlate, EvPlateS, EvText, EvRead, MarkR, HCut, FSpecL3Read, EvReadS, HExactRead, LawFnExactPlateRead. -/
import Derived.Test.YtailkppkjhkjpaaDoorMFnExactPlateRead3
import Derived.Deep.LoopGhost
import Derived.Deep.RegionHeld3
import Derived.RegionTactic
import Derived.WalkKit
import Derived.ProofKit
import Derived.OpenShut
import Derived.ShutString
import Derived.ChangeOld
import Derived.Below
import Derived.SizedLaws
import Derived.SevenTiedAt
set_option linter.all false
section
set_option linter.unusedVariables false
set_option linter.unusedSimpArgs false
namespace Go.Proofs.YtailkppkjhkjpaaDoor.X
open Go.RowKit Go.Shelf Go.Proofs.YtailkppkjhkjpaaDoorW.PrintWords Go.Proofs.YtailkppkjhkjpaaDoorW.PrintLast Go.Proofs.YtailkppkjhkjpaaDoorW.PrintMore
open Mort (edges loopOk ptOk inOf inRun crsI cross has)
def spec_l3In.f (l0:List S37)(a1_0 a1_1:Int):Option Int:=if loopOk (l0.map ptP)=true∧ptOk (a1_0,a1_1)=true then some (inOf (l0.map ptP) (a1_0,a1_1)) else none
theorem at_sg3 {W:World}{A:Option Addr}{n:Nat}{zs:List S89}(hC:Kd.C k89 W A n zs)(k:Nat)(h:k<n):
  ∃ ad,A=some ad∧W.cell? (ad.add (k*4))=some (.int .i64 (zs.getD k z89).f0.f0)∧W.cell? ⟨(ad.add (k*4)).block,(ad.add (k*4)).off+1,none⟩=some (.int .i64 (zs.getD k z89).f0.f1) ∧
   W.cell? ⟨(ad.add (k*4)).block,(ad.add (k*4)).off+2,none⟩=some (.int .i64 (zs.getD k z89).f1.f0)∧W.cell? ⟨(ad.add (k*4)).block,(ad.add (k*4)).off+3,none⟩=some (.int .i64 (zs.getD k z89).f1.f1):=
 at_T89 hC (k:Int) (by omega) (by omega)
def upC (lo hi p:Mort.Pt):Bool:=decide (lo.2≤p.2) && (decide (p.2<hi.2) && decide (0<cross lo hi p))
theorem crs_up (a b p:Mort.Pt):crsI (a,b) p=if b.2<a.2 then upC b a p else upC a b p:=by
 unfold crsI upC;simp only;have hr:=Mort.cross_rev a b p;by_cases h:b.2<a.2
 ·
  rw [if_pos h];have e1:(decide (a.2≤p.2) && (decide (p.2<b.2) && decide (0<cross a b p)))=false:=by
   by_cases h1:a.2≤p.2
   ·
    rw [decide_eq_false (show ¬ p.2<b.2 by omega)];simp
   ·
    rw [decide_eq_false h1];rfl
  rw [e1,Bool.false_or,hr]
  congr 2
  rw [decide_eq_decide];omega
 ·
  rw [if_neg h];have e1:(decide (b.2≤p.2) && (decide (p.2<a.2) && decide (cross a b p<0)))=false:=by
   by_cases h1:b.2≤p.2
   ·
    rw [decide_eq_false (show ¬ p.2<a.2 by omega)];simp
   ·
    rw [decide_eq_false h1];rfl
  rw [e1,Bool.or_false]
set_option maxHeartbeats 4000000 in
set_option maxRecDepth 100000 in
theorem spec_l3In.calls (A0:Option Addr)(c0:Nat)(l0:List S37)(a1_0 a1_1:Int)(r:Int)(w:World)(hr0:Kd.C k37 w A0 l0.length l0)(hc0:l0.length≤c0)(h:spec_l3In.f l0 a1_0 a1_1=some r):
  Calls Tryd.prog 50 #[.slice A0 l0.length c0,.agg #[.int .i64 a1_0,.int .i64 a1_1]] w fun e w'=>e=.returned (.int .i64 r)∧Below w.heap.size w w':=by
 have hu28:=Tryd.underlying37;have hu61:=Tryd.underlying89;unfold spec_l3In.f at h
 split at h
 case isFalse=>cases h
 rename_i hh
 obtain⟨hok,hp⟩:=hh;have h:=Option.some.inj h;have hlen:l0.length≤8:=by have:=((Mort.loopOk_iff _).1 hok).2.1;simpa using this
 have hal:=below_alloc (Below.refl w.heap.size w) (.cells #[.int .i64 a1_0,.int .i64 a1_1] 37);have np:=blk_new w (.cells #[.int .i64 a1_0,.int .i64 a1_1] 37 (0,0));have hes:spec_l3Edges.f 10 l0=some (esOf l0):=sEdges (by omega) (by omega);have hsg:∀ i,i<l0.length→Mort.segOk (sgP (edS l0 i))=true:=fun i hi=>by
  have:=((Mort.loopOk_iff _).1 hok).2.2.1 _ (Mort.mem_edges.2 ⟨i,by simpa using hi,rfl⟩)
  rwa [ed_edS] at this
 have hmem:∀ i,i<l0.length→sgP (edS l0 i)∈edges (l0.map ptP):=fun i hi=>by
  rw [← ed_edS];exact Mort.mem_edges.2 ⟨i,by simpa using hi,rfl⟩
 have HK:=a0_ (And.intro (Kd.C_below hr0 hal) (And.intro hc0 (And.intro hes (And.intro hsg (And.intro hmem (And.intro hp (And.intro h (And.intro hlen (And.intro hal np)))))))));clear hr0 hc0 hes hsg hmem hp h hlen hal np hok;go_enter Tryd.func50,Tryd.ntmps50;go_wp2_with (go_at_call 72;refine (spec_l3Edges.calls 10 A0 c0 l0 (esOf l0) _ HK.out.1 HK.out.2.1 HK.out.2.2.1).mono ?_;rintro e w1 ⟨v,rfl,hR,hb1⟩;obtain⟨Ae,ce,hv,hce,hCe⟩:=Kd.R_reads hR;subst hv;have HE:=a0_ (And.intro hCe (And.intro hce hb1));clear hR hCe hce hb1);generalize hg:w.heap.size=g at *;have hG:=Aside0.mk hg;clear hg;have hL:(esOf l0).length=l0.length:=esOf_len l0;rw [hL];have HLn:=Aside0.mk hL;clear hL
 go_loopg [5,7] l0.length (fun kq v5 v7 wr=>∃ (i:Nat),v5=.int .i64 (inRun (((esOf l0).take i).map sgP) (a1_0,a1_1))∧v7=.int .i64 (i:Int)∧Aside0 (kq=l0.length-i∧i≤l0.length∧wr.heap[g]?=some (.cells #[.int .i64 a1_0,.int .i64 a1_1] 37 (0,0)) ∧
   (∀ e∈((esOf l0).take i).map sgP,has e (a1_0,a1_1)=false)∧Below g w wr∧Below w1.heap.size w1 wr))
 case atStart =>
  have hG':=hG.out;subst hG';refine⟨0,rfl,rfl,⟨rfl,Nat.zero_le _,blk_later HK.out.2.2.2.2.2.2.2.2.2 HE.out.2.2,?_,below_step HK.out.2.2.2.2.2.2.2.2.1 HE.out.2.2,Below.refl _ _⟩⟩;intro e he;simp at he
 case round =>
  obtain⟨i,rfl,rfl,H1⟩:=hrel;obtain⟨hk,hi,hpb,hno,hBw,hB1⟩:=H1.out;clear H1;by_cases hlt:i<l0.length
  ·
   have hd:decide ((i:Int)<(l0.length:Int))=true:=decide_eq_true (by omega);obtain⟨adr,hadr,z0,z1,z2,z3⟩:=at_sg3 HE.out.1 i (by rw [HLn.out];exact hlt);subst hadr;have t0:=pw_cell_below (below_drew1 hB1) z0;have t1:=pw_cell_below (below_drew1 hB1) z1;have t2:=pw_cell_below (below_drew1 hB1) z2;have t3:=pw_cell_below (below_drew1 hB1) z3;have p0:wr.drew.cell? ⟨g,0,none⟩=some (.int .i64 a1_0):=(blk_cell hpb 0).trans rfl;have p1:wr.drew.cell? ⟨g,1,none⟩=some (.int .i64 a1_1):=(blk_cell hpb 1).trans rfl;have hes:(esOf l0).getD i z89=edS l0 i:=esOf_getD l0 hlt;have htk:((esOf l0).take (i+1)).map sgP=((esOf l0).take i).map sgP++[sgP (edS l0 i)]:=by
    rw [List.take_succ_eq_append_getElem (by rw [HLn.out];exact hlt),List.map_append];rw [List.getD_eq_getElem?_getD,List.getElem?_eq_getElem (by rw [HLn.out];exact hlt)] at hes;rw [show (esOf l0)[i]'(by rw [HLn.out];exact hlt)=edS l0 i from hes];rfl
   rw [hes] at t0 t1 t2 t3;have hseg:=HK.out.2.2.2.1 i hlt;have hmem:=HK.out.2.2.2.2.1 i hlt;generalize edS l0 i=s0 at *;obtain⟨⟨ax,ay⟩,⟨bx,by'⟩⟩:=s0;obtain⟨⟨hpa,hpb'⟩,_⟩:(ptOk (ax,ay)=true∧ptOk (bx,by')=true)∧True:=⟨⟨((Mort.segOk_iff _).1 hseg).1,((Mort.segOk_iff _).1 hseg).2.1⟩,trivial⟩;have hhas:=sHas hpa hpb' HK.out.2.2.2.2.2.1;have hc1:=sCross hpa hpb' HK.out.2.2.2.2.2.1;have hc2:=sCross hpb' hpa HK.out.2.2.2.2.2.1;have HL:=a0_ (And.intro hk (And.intro hpb (And.intro hno (And.intro hBw (And.intro hB1 (And.intro hhas (And.intro hc1 (And.intro hc2 (And.intro htk hmem)))))))));clear hk hi hpb hno hBw hB1 hhas hc1 hc2 htk hmem hes z0 z1 z2 z3 hseg hpa hpb'
   cases hh:has ((ax,ay),(bx,by')) (a1_0,a1_1) with
   | true =>
    obtain⟨k1,k2,k3,k4,k5,k6,k7,k8,k9,k10⟩:=HL.out;have hr:0=r:=by rw [← HK.out.2.2.2.2.2.2.1,Mort.inOf_on k10 hh]
    subst hr;have HV:=a0_ (k6.trans (congrArg some hh));clear k1 k2 k3 k4 k5 k6 k7 k8 k9 k10 hh;go_wp2;go_region_held3 (fun W=>W.cell? (adr.add (i*4))=some (.int .i64 ax)∧W.cell? ⟨(adr.add (i*4)).block,(adr.add (i*4)).off+1,none⟩=some (.int .i64 ay)∧W.cell? ⟨(adr.add (i*4)).block,(adr.add (i*4)).off+2,none⟩=some (.int .i64 bx)∧W.cell? ⟨(adr.add (i*4)).block,(adr.add (i*4)).off+3,none⟩=some (.int .i64 by')∧W.cell? ⟨g,0,none⟩=some (.int .i64 a1_0)∧W.cell? ⟨g,1,none⟩=some (.int .i64 a1_1))
     (first | exact⟨pw_cell_below hb t0,pw_cell_below hb t1,pw_cell_below hb t2,pw_cell_below hb t3,pw_cell_below hb p0,pw_cell_below hb p1⟩ | go_keep)
     (first | (go_at_call 74;refine (spec_l2Has.calls ax ay bx by' a1_0 a1_1 true _ HV.out).mono ?_;rintro e w2 ⟨rfl,hb⟩))
    go_wp2;go_ret;have hG':=hG.out;subst hG';exact⟨rfl,below_row (below_drew1 HL.out.2.2.2.1) (Nat.le_refl _) hb⟩
   | false =>
    obtain⟨k1,k2,k3,k4,k5,k6,k7,k8,k9,k10⟩:=HL.out;have hin:inRun (((esOf l0).take (i+1)).map sgP) (a1_0,a1_1)=if crsI ((ax,ay),(bx,by')) (a1_0,a1_1) then-inRun (((esOf l0).take i).map sgP) (a1_0,a1_1) else inRun (((esOf l0).take i).map sgP) (a1_0,a1_1):=by rw [k9,Mort.inRun_snoc];rfl
    have hno2:∀ e∈((esOf l0).take (i+1)).map sgP,has e (a1_0,a1_1)=false:=by
     rw [k9];intro e he
     rcases List.mem_append.1 he with he | he
     ·
      exact k3 e he
     ·
      rw [List.mem_singleton] at he;subst he;exact hh
    rw [crs_up] at hin;have hvals:inRun (((esOf l0).take i).map sgP) (a1_0,a1_1)=1∨inRun (((esOf l0).take i).map sgP) (a1_0,a1_1) = -1:=by
     unfold inRun Mort.sideOf;cases Mort.xorAll _ <;> simp
    generalize inRun (((esOf l0).take i).map sgP) (a1_0,a1_1)=u at *;have HV:=a0_ (k6.trans (congrArg some hh));have HN:=a0_ (And.intro hin (And.intro hno2 hvals));clear k1 k2 k3 k4 k5 k6 k7 k8 k9 k10 hh hin hno2 hvals;go_wp2;go_region_held3 (fun W=>W.cell? (adr.add (i*4))=some (.int .i64 ax)∧W.cell? ⟨(adr.add (i*4)).block,(adr.add (i*4)).off+1,none⟩=some (.int .i64 ay)∧W.cell? ⟨(adr.add (i*4)).block,(adr.add (i*4)).off+2,none⟩=some (.int .i64 bx)∧W.cell? ⟨(adr.add (i*4)).block,(adr.add (i*4)).off+3,none⟩=some (.int .i64 by')∧W.cell? ⟨g,0,none⟩=some (.int .i64 a1_0)∧W.cell? ⟨g,1,none⟩=some (.int .i64 a1_1))
     (first | exact⟨pw_cell_below hb t0,pw_cell_below hb t1,pw_cell_below hb t2,pw_cell_below hb t3,pw_cell_below hb p0,pw_cell_below hb p1⟩ | go_keep)
     (first | (go_at_call 74;refine (spec_l2Has.calls ax ay bx by' a1_0 a1_1 false _ HV.out).mono ?_;rintro e w2 ⟨rfl,hb⟩))
    have t0':=pw_cell_below hb t0;have t1':=pw_cell_below hb t1;have t2':=pw_cell_below hb t2;have t3':=pw_cell_below hb t3;have hxa:=below_alloc (Below.refl w2.heap.size w2) (.cells #[.int .i64 ax,.int .i64 ay] 37);have x0:=pw_cell_below hxa t2';have x1:=pw_cell_below hxa t3';have hu28:=Tryd.underlying37;have hu61:=Tryd.underlying89;obtain⟨_,_,_,_,_,_,k7_,k8_,_,_⟩:=HL.out;by_cases hsw:by'<ay
    ·
     have b1:decide (by'<ay)=true:=decide_eq_true hsw;have HSW:=Aside0.mk hsw;clear hsw k7_;have hW3:=below_alloc (below_alloc (Below.refl w2.heap.size w2) (.cells #[.int .i64 bx,.int .i64 by'] 37)) (.cells #[.int .i64 ax,.int .i64 ay] 37);have q0:=pw_cell_below hW3 (pw_cell_below hb p0);have q1:=pw_cell_below hW3 (pw_cell_below hb p1);have HB3:=a0_ (And.intro hb hW3);clear hb hW3 p0 p1 t0 t1 t2 t3 hxa;have HCR:=Aside0.mk k8_;clear k8_;by_cases g1:by'≤a1_1
     ·
      have b2:decide (by'≤a1_1)=true:=decide_eq_true g1;have G1:=Aside0.mk g1;clear g1;by_cases g2:a1_1<ay
      ·
       have b3:decide (a1_1<ay)=true:=decide_eq_true g2;have G2:=Aside0.mk g2;clear g2;by_cases g3:0<cross (bx,by') (ax,ay) (a1_0,a1_1)
       ·
        have G3:=Aside0.mk g3;generalize cross (bx,by') (ax,ay) (a1_0,a1_1)=cv at g3 HCR;have b4:decide (0<cv)=true:=decide_eq_true g3;have hvals2:=HN.out.2.2;clear g3
        rcases hvals2 with rfl | rfl
        all_goals
         go_wp2_with (go_at_call 76;refine (spec_l2Cross.calls bx by' ax ay a1_0 a1_1 cv _ HCR.out).mono ?_;rintro e w4 ⟨rfl,hb4⟩);obtain⟨k1,k2,k3,k4,k5,k6,k7,k8,k9,k10⟩:=HL.out;have hbb:Below wr.heap.size wr _:=below_step (below_step (below_step (below_drew1 (Below.refl wr.heap.size wr)) HB3.out.1) HB3.out.2) hb4;go_roundg (l0.length-(i+1))
         case measure=>omega
         case rel =>
          refine⟨i+1,?_,?_,⟨rfl,by omega,blk_later k2 hbb,HN.out.2.1,?_,k5.trans (hbb.mono k5.size)⟩⟩
          ·
           have hin:=HN.out.1;have hvals:=HN.out.2.2;rw [hin];have hu:upC (bx,by') (ax,ay) (a1_0,a1_1)=true:=by unfold upC;simp only [G1.out,G2.out,G3.out,decide_true,Bool.and_true]
           rw [if_pos HSW.out,hu]
           first | rfl | decide
          ·
           have hw:wrap64 ((i:Int)+1)=(i:Int)+1:=by have:=HK.out.2.2.2.2.2.2.2.1;unfold wrap64;omega
           first | rfl | (rw [hw];rfl)
          ·
           have hG':=hG.out;subst hG';exact below_row k4 (Nat.le_refl _) hbb
       ·
        have G3:=Aside0.mk g3;generalize cross (bx,by') (ax,ay) (a1_0,a1_1)=cv at g3 HCR;have b4:decide (0<cv)=false:=decide_eq_false g3;clear g3;go_wp2_with (go_at_call 76;refine (spec_l2Cross.calls bx by' ax ay a1_0 a1_1 cv _ HCR.out).mono ?_;rintro e w4 ⟨rfl,hb4⟩);obtain⟨k1,k2,k3,k4,k5,k6,k7,k8,k9,k10⟩:=HL.out;have hbb:Below wr.heap.size wr _:=below_step (below_step (below_step (below_drew1 (Below.refl wr.heap.size wr)) HB3.out.1) HB3.out.2) hb4;go_roundg (l0.length-(i+1))
        case measure=>omega
        case rel =>
         refine⟨i+1,?_,?_,⟨rfl,by omega,blk_later k2 hbb,HN.out.2.1,?_,k5.trans (hbb.mono k5.size)⟩⟩
         ·
          have hin:=HN.out.1;have hvals:=HN.out.2.2;rw [hin];have hu:upC (bx,by') (ax,ay) (a1_0,a1_1)=false:=by unfold upC;simp only [decide_eq_false (show ¬ 0<cross (bx,by') (ax,ay) (a1_0,a1_1) by have:=G3.out;omega),Bool.and_false]
          rw [if_pos HSW.out,hu];rfl
         ·
          have hw:wrap64 ((i:Int)+1)=(i:Int)+1:=by have:=HK.out.2.2.2.2.2.2.2.1;unfold wrap64;omega
          first | rfl | (rw [hw];rfl)
         ·
          have hG':=hG.out;subst hG';exact below_row k4 (Nat.le_refl _) hbb
      ·
       have b3:decide (a1_1<ay)=false:=decide_eq_false g2;have G2:=Aside0.mk g2;clear g2;go_wp2;obtain⟨k1,k2,k3,k4,k5,k6,k7,k8,k9,k10⟩:=HL.out;have hbb:Below wr.heap.size wr _:=below_step (below_step (below_drew1 (Below.refl wr.heap.size wr)) HB3.out.1) HB3.out.2;go_roundg (l0.length-(i+1))
       case measure=>omega
       case rel =>
        refine⟨i+1,?_,?_,⟨rfl,by omega,blk_later k2 hbb,HN.out.2.1,?_,k5.trans (hbb.mono k5.size)⟩⟩
        ·
         have hin:=HN.out.1;have hvals:=HN.out.2.2;rw [hin];have hu:upC (bx,by') (ax,ay) (a1_0,a1_1)=false:=by unfold upC;simp only [decide_eq_false (show ¬ a1_1<ay from by have:=G2.out;omega),Bool.false_and,Bool.and_false]
         rw [if_pos HSW.out,hu];rfl
        ·
         have hw:wrap64 ((i:Int)+1)=(i:Int)+1:=by have:=HK.out.2.2.2.2.2.2.2.1;unfold wrap64;omega
         first | rfl | (rw [hw];rfl)
        ·
         have hG':=hG.out;subst hG';exact below_row k4 (Nat.le_refl _) hbb
     ·
      have b2:decide (by'≤a1_1)=false:=decide_eq_false g1;have G1:=Aside0.mk g1;clear g1;go_wp2;obtain⟨k1,k2,k3,k4,k5,k6,k7,k8,k9,k10⟩:=HL.out;have hbb:Below wr.heap.size wr _:=below_step (below_step (below_drew1 (Below.refl wr.heap.size wr)) HB3.out.1) HB3.out.2;go_roundg (l0.length-(i+1))
      case measure=>omega
      case rel =>
       refine⟨i+1,?_,?_,⟨rfl,by omega,blk_later k2 hbb,HN.out.2.1,?_,k5.trans (hbb.mono k5.size)⟩⟩
       ·
        have hin:=HN.out.1;have hvals:=HN.out.2.2;rw [hin];have hu:upC (bx,by') (ax,ay) (a1_0,a1_1)=false:=by unfold upC;simp only [decide_eq_false (show ¬ by'≤a1_1 from by have:=G1.out;omega),Bool.false_and]
        rw [if_pos HSW.out,hu];rfl
       ·
        have hw:wrap64 ((i:Int)+1)=(i:Int)+1:=by have:=HK.out.2.2.2.2.2.2.2.1;unfold wrap64;omega
        first | rfl | (rw [hw];rfl)
       ·
        have hG':=hG.out;subst hG';exact below_row k4 (Nat.le_refl _) hbb
    ·
     have b1:decide (by'<ay)=false:=decide_eq_false hsw;have HSW:=Aside0.mk hsw;clear hsw k8_;have hW3:=below_alloc (below_alloc (Below.refl w2.heap.size w2) (.cells #[.int .i64 ax,.int .i64 ay] 37)) (.cells #[.int .i64 bx,.int .i64 by'] 37);have q0:=pw_cell_below hW3 (pw_cell_below hb p0);have q1:=pw_cell_below hW3 (pw_cell_below hb p1);have HB3:=a0_ (And.intro hb hW3);clear hb hW3 p0 p1 t0 t1 t2 t3 hxa;have HCR:=Aside0.mk k7_;clear k7_;by_cases g1:ay≤a1_1
     ·
      have b2:decide (ay≤a1_1)=true:=decide_eq_true g1;have G1:=Aside0.mk g1;clear g1;by_cases g2:a1_1<by'
      ·
       have b3:decide (a1_1<by')=true:=decide_eq_true g2;have G2:=Aside0.mk g2;clear g2;by_cases g3:0<cross (ax,ay) (bx,by') (a1_0,a1_1)
       ·
        have G3:=Aside0.mk g3;generalize cross (ax,ay) (bx,by') (a1_0,a1_1)=cv at g3 HCR;have b4:decide (0<cv)=true:=decide_eq_true g3;have hvals2:=HN.out.2.2;clear g3
        rcases hvals2 with rfl | rfl
        all_goals
         go_wp2_with (go_at_call 76;refine (spec_l2Cross.calls ax ay bx by' a1_0 a1_1 cv _ HCR.out).mono ?_;rintro e w4 ⟨rfl,hb4⟩);obtain⟨k1,k2,k3,k4,k5,k6,k7,k8,k9,k10⟩:=HL.out;have hbb:Below wr.heap.size wr _:=below_step (below_step (below_step (below_drew1 (Below.refl wr.heap.size wr)) HB3.out.1) HB3.out.2) hb4;go_roundg (l0.length-(i+1))
         case measure=>omega
         case rel =>
          refine⟨i+1,?_,?_,⟨rfl,by omega,blk_later k2 hbb,HN.out.2.1,?_,k5.trans (hbb.mono k5.size)⟩⟩
          ·
           have hin:=HN.out.1;have hvals:=HN.out.2.2;rw [hin];have hu:upC (ax,ay) (bx,by') (a1_0,a1_1)=true:=by unfold upC;simp only [G1.out,G2.out,G3.out,decide_true,Bool.and_true]
           rw [if_neg (show ¬ by'<ay by have:=HSW.out;omega),hu]
           first | rfl | decide
          ·
           have hw:wrap64 ((i:Int)+1)=(i:Int)+1:=by have:=HK.out.2.2.2.2.2.2.2.1;unfold wrap64;omega
           first | rfl | (rw [hw];rfl)
          ·
           have hG':=hG.out;subst hG';exact below_row k4 (Nat.le_refl _) hbb
       ·
        have G3:=Aside0.mk g3;generalize cross (ax,ay) (bx,by') (a1_0,a1_1)=cv at g3 HCR;have b4:decide (0<cv)=false:=decide_eq_false g3;clear g3;go_wp2_with (go_at_call 76;refine (spec_l2Cross.calls ax ay bx by' a1_0 a1_1 cv _ HCR.out).mono ?_;rintro e w4 ⟨rfl,hb4⟩);obtain⟨k1,k2,k3,k4,k5,k6,k7,k8,k9,k10⟩:=HL.out;have hbb:Below wr.heap.size wr _:=below_step (below_step (below_step (below_drew1 (Below.refl wr.heap.size wr)) HB3.out.1) HB3.out.2) hb4;go_roundg (l0.length-(i+1))
        case measure=>omega
        case rel =>
         refine⟨i+1,?_,?_,⟨rfl,by omega,blk_later k2 hbb,HN.out.2.1,?_,k5.trans (hbb.mono k5.size)⟩⟩
         ·
          have hin:=HN.out.1;have hvals:=HN.out.2.2;rw [hin];have hu:upC (ax,ay) (bx,by') (a1_0,a1_1)=false:=by unfold upC;simp only [decide_eq_false (show ¬ 0<cross (ax,ay) (bx,by') (a1_0,a1_1) by have:=G3.out;omega),Bool.and_false]
          rw [if_neg (show ¬ by'<ay by have:=HSW.out;omega),hu];rfl
         ·
          have hw:wrap64 ((i:Int)+1)=(i:Int)+1:=by have:=HK.out.2.2.2.2.2.2.2.1;unfold wrap64;omega
          first | rfl | (rw [hw];rfl)
         ·
          have hG':=hG.out;subst hG';exact below_row k4 (Nat.le_refl _) hbb
      ·
       have b3:decide (a1_1<by')=false:=decide_eq_false g2;have G2:=Aside0.mk g2;clear g2;go_wp2;obtain⟨k1,k2,k3,k4,k5,k6,k7,k8,k9,k10⟩:=HL.out;have hbb:Below wr.heap.size wr _:=below_step (below_step (below_drew1 (Below.refl wr.heap.size wr)) HB3.out.1) HB3.out.2;go_roundg (l0.length-(i+1))
       case measure=>omega
       case rel =>
        refine⟨i+1,?_,?_,⟨rfl,by omega,blk_later k2 hbb,HN.out.2.1,?_,k5.trans (hbb.mono k5.size)⟩⟩
        ·
         have hin:=HN.out.1;have hvals:=HN.out.2.2;rw [hin];have hu:upC (ax,ay) (bx,by') (a1_0,a1_1)=false:=by unfold upC;simp only [decide_eq_false (show ¬ a1_1<by' from by have:=G2.out;omega),Bool.false_and,Bool.and_false]
         rw [if_neg (show ¬ by'<ay by have:=HSW.out;omega),hu];rfl
        ·
         have hw:wrap64 ((i:Int)+1)=(i:Int)+1:=by have:=HK.out.2.2.2.2.2.2.2.1;unfold wrap64;omega
         first | rfl | (rw [hw];rfl)
        ·
         have hG':=hG.out;subst hG';exact below_row k4 (Nat.le_refl _) hbb
     ·
      have b2:decide (ay≤a1_1)=false:=decide_eq_false g1;have G1:=Aside0.mk g1;clear g1;go_wp2;obtain⟨k1,k2,k3,k4,k5,k6,k7,k8,k9,k10⟩:=HL.out;have hbb:Below wr.heap.size wr _:=below_step (below_step (below_drew1 (Below.refl wr.heap.size wr)) HB3.out.1) HB3.out.2;go_roundg (l0.length-(i+1))
      case measure=>omega
      case rel =>
       refine⟨i+1,?_,?_,⟨rfl,by omega,blk_later k2 hbb,HN.out.2.1,?_,k5.trans (hbb.mono k5.size)⟩⟩
       ·
        have hin:=HN.out.1;have hvals:=HN.out.2.2;rw [hin];have hu:upC (ax,ay) (bx,by') (a1_0,a1_1)=false:=by unfold upC;simp only [decide_eq_false (show ¬ ay≤a1_1 from by have:=G1.out;omega),Bool.false_and]
        rw [if_neg (show ¬ by'<ay by have:=HSW.out;omega),hu];rfl
       ·
        have hw:wrap64 ((i:Int)+1)=(i:Int)+1:=by have:=HK.out.2.2.2.2.2.2.2.1;unfold wrap64;omega
        first | rfl | (rw [hw];rfl)
       ·
        have hG':=hG.out;subst hG';exact below_row k4 (Nat.le_refl _) hbb
  ·
   obtain rfl:i=l0.length:=by omega
   have hd:decide ((l0.length:Int)<(l0.length:Int))=false:=decide_eq_false (by omega);have hr:inRun (((esOf l0).take l0.length).map sgP) (a1_0,a1_1)=r:=by
    rw [← HK.out.2.2.2.2.2.2.1];have e1:((esOf l0).take l0.length).map sgP=edges (l0.map ptP):=by rw [List.take_of_length_le (by rw [HLn.out];exact Nat.le_refl _),esOf_edges]
    rw [e1] at hno ⊢
    exact Mort.inRun_end hno
   rw [hr];have HB:=Aside0.mk hBw;clear hk hi hpb hno hBw hB1 hr hlt;go_wp2;go_ret;have hG':=hG.out;subst hG';exact⟨rfl,HB.out⟩
end Go.Proofs.YtailkppkjhkjpaaDoor.X
end
section
namespace Go.Proofs.YtailkppkjhkjpaaDoor.X
open Go.RowKit Go.Proofs.YtailkppkjhkjpaaDoorW.PrintWords Go.Proofs.YtailkppkjhkjpaaDoorW.PrintLast Go.Proofs.YtailkppkjhkjpaaDoorW.PrintMore
attribute [local go_sem] max2_int min2_int max_two min_two max_three min_three max_four min_four
set_option linter.unusedVariables false
set_option linter.unusedSimpArgs false
mutual
def spec_PlateOk.j0:Nat→Bool→List (S37)→List (List (S37))→Option (Bool)
 | 0,_,_,_=>none
 | k+1,x15,x175000,x175001=>if x15=true then (some false) else (spec_PlateOk.l0 k 0 x175000 x175001)
def spec_PlateOk.l0:Nat→Int→List (S37)→List (List (S37))→Option (Bool)
 | 0,_,_,_=>none
 | k+1,x3,x175000,x175001=>if x3<(x175001.length:Int) then (if 0≤x3 then ((spec_LoopOk.f k (rd_L5 x175001 x3)).bind fun t177=>(if t177=true then (if 0<((rd_L5 x175001 x3).length:Int) then ((spec_l3In.f x175000 ((rd_T37 (rd_L5 x175001 x3) 0).f0) ((rd_T37 (rd_L5 x175001 x3) 0).f1)).bind fun t179=>(if t179=1 then ((spec_l11Apart.f k x175000 (rd_L5 x175001 x3)).bind fun t180=>(spec_PlateOk.j2 k x3 (rd_L5 x175001 x3) (!t180) x175000 x175001)) else (spec_PlateOk.j2 k x3 (rd_L5 x175001 x3) true x175000 x175001))) else (none)) else (spec_PlateOk.j2 k x3 (rd_L5 x175001 x3) true x175000 x175001))) else (none)) else (some true)
def spec_PlateOk.j2:Nat→Int→List (S37)→Bool→List (S37)→List (List (S37))→Option (Bool)
 | 0,_,_,_,_,_=>none
 | k+1,x3,x4,x46,x175000,x175001=>if x46=true then (some false) else (spec_PlateOk.l1 k x3 x4 0 x175000 x175001)
def spec_PlateOk.l1:Nat→Int→List (S37)→Int→List (S37)→List (List (S37))→Option (Bool)
 | 0,_,_,_,_,_=>none
 | k+1,x3,x4,x5,x175000,x175001=>if x5<x3 then (if 0≤x5 then (if x5<(x175001.length:Int) then ((spec_l11Apart.f k x4 (rd_L5 x175001 x5)).bind fun t182=>(if t182=true then (if 0<(x4.length:Int) then ((spec_l3In.f (rd_L5 x175001 x5) ((rd_T37 x4 0).f0) ((rd_T37 x4 0).f1)).bind fun t185=>(if t185=(-1) then (if 0<((rd_L5 x175001 x5).length:Int) then ((spec_l3In.f x4 ((rd_T37 (rd_L5 x175001 x5) 0).f0) ((rd_T37 (rd_L5 x175001 x5) 0).f1)).bind fun t188=>(if t188=(-1) then (spec_PlateOk.l1 k x3 x4 (wrap64 (x5+1)) x175000 x175001) else (some false))) else (none)) else (some false))) else (none)) else (some false))) else (none)) else (none)) else (spec_PlateOk.l0 k (wrap64 (x3+1)) x175000 x175001)
end
def spec_PlateOk.f (k:Nat)(l0_0:List (S37))(l0_1:List (List (S37))):Option (Bool):=(spec_LoopOk.f k l0_0).bind fun t175=>(if t175=true then (spec_PlateOk.j0 k (decide ((l0_1.length:Int)>2)) l0_0 l0_1) else (spec_PlateOk.j0 k true l0_0 l0_1))
def spec_PlateOk.T7:Bool × List (List Nat × List Nat):=(true,[([],[]),([0],[0]),([1],[1]),([2,1],[2]),([3],[3]),([4,3],[3,4]),([3],[3]),([6,3],[3,6]),([7,3],[3,7]),([5,8,3,3],[3,5,8]),([9,3],[3,9]),([3,10],[3,10]),([11,9],[11]),([12],[12]),([13,12],[12,13]),([12],[12]),([14,15,12,12],[12,14,15]),([16,12],[12,16]),([12,17],[12,17])])
def spec_PlateOk.B7:List Nat:=[0,1,3,7,15,31,15,79,207,511,1023,2047,4095,8191,16383,8191,65535,131071,262143]
theorem spec_PlateOk.tab7:rtab .any (opsOf Tryd.f19 7)=spec_PlateOk.T7:=by kernel_rfl
theorem spec_PlateOk.bits7:waitsOk spec_PlateOk.T7.2 spec_PlateOk.B7=true:=by kernel_rfl
def spec_PlateOk.T12:Bool × List (List Nat × List Nat):=(true,[([],[]),([],[]),([1],[1]),([],[]),([2,3],[2,3]),([4],[4]),([0,5],[0,5]),([6],[6]),([7,6],[7]),([8],[8]),([9,8],[8,9]),([8],[8]),([10,11,8],[8,10,11]),([12,8],[8,12]),([8],[8]),([14,8],[8,14]),([15,8],[8,15]),([13,16,8,8],[8,13,16]),([17,8],[8,17]),([8,18],[8,18]),([19,17],[19]),([20],[20]),([20],[20]),([22,20],[20,22]),([20],[20]),([23,24,20],[20,23,24]),([25,20],[20,25]),([26,20],[20,26]),([27,20],[20,27]),([21,28,20,20],[20,21,28]),([29,20],[20,29]),([20,30],[20,30])])
def spec_PlateOk.B12:List Nat:=[0,0,2,0,14,30,63,127,255,511,1023,511,4095,8191,511,16895,49663,131071,262143,524287,1048575,2097151,2097151,6291455,2097151,31457279,65011711,132120575,266338303,536870911,1073741823,2147483647]
theorem spec_PlateOk.tab12:rtab .any (opsOf Tryd.f19 12)=spec_PlateOk.T12:=by kernel_rfl
theorem spec_PlateOk.bits12:waitsOk spec_PlateOk.T12.2 spec_PlateOk.B12=true:=by kernel_rfl
set_option maxHeartbeats 8000000 in
set_option maxRecDepth 100000 in
theorem spec_PlateOk.calls (k:Nat)(A0_0:Option Addr)(c0_0:Nat)(l0_0:List (S37))(A0_1:Option Addr)(c0_1:Nat)(l0_1:List (List (S37)))(r:Bool)(w:World)(hr0_0:Kd.C k37 w A0_0 l0_0.length l0_0)(hc0_0:l0_0.length≤c0_0)(hr0_1:Kd.C (Kd.slice 37 k37) w A0_1 l0_1.length l0_1)(hc0_1:l0_1.length≤c0_1)(h:spec_PlateOk.f k l0_0 l0_1=some r):
  Calls Tryd.prog 19 #[.agg #[.slice A0_0 l0_0.length c0_0,.slice A0_1 l0_1.length c0_1]] w fun e w'=>e=.returned (.bool r)∧Below w.heap.size w w':=by
 have hu26:=Tryd.underlying26;have hu37:=Tryd.underlying37;have HR0_0:=Aside0.mk hr0_0;have HC0_0:=Aside0.mk hc0_0;clear hr0_0 hc0_0;have HR0_1:=Aside0.mk hr0_1;have HC0_1:=Aside0.mk hc0_1;clear hr0_1 hc0_1;have HB:=a0_ (Below.refl w.heap.size w);have H:((spec_LoopOk.f k l0_0).bind fun t175=>(if t175=true then (spec_PlateOk.j0 k (decide ((l0_1.length:Int)>2)) l0_0 l0_1) else (spec_PlateOk.j0 k true l0_0 l0_1)))=some r:=h;clear h;have HC2:=Aside0.mk H;clear H;go_enter Tryd.func19,Tryd.ntmps19;go_upto_region 1 with (first | ((with_reducible refine gate_dst (N:=1) rfl ?_);(try (refine gate_guard (by rfl) ?_;dsimp only));refine bx_ (N:=1) (cs:=#[.slice A0_0 l0_0.length c0_0,.slice A0_1 l0_1.length c0_1]) (t:=26) (h:=?_);intro gb174 hg w3 hbox hb;have BK174:=a0_ (hbox);have GW174:=gh_ HB hg;have GE174:=gh_ HB hg;replace HB:=sb_ HB hb;clear hb hbox hg))
 (try simp only [Act.put,List.setIfInBounds_toArray,List.set_cons_zero,List.set_cons_succ])
 go_cut [15] (fun v15 wc=>∃ (kq:Nat) (x15_1:Bool),v15=.bool x15_1∧Aside0 (spec_PlateOk.j0 kq x15_1 l0_0 l0_1=some r)∧Aside0 (kq≤k)∧Aside0 (wc.heap[gb174]?=some (.cells #[(.slice A0_0 l0_0.length c0_0),(.slice A0_1 l0_1.length c0_1)] 26 (0,0)))∧Aside0 (Below w.heap.size w wc))
 case first =>
  have H:=HC2.out;clear HC2;replace H:=Option.bind_eq_some_iff.mp H;obtain⟨t175,A40,H⟩:=H
  (try dsimp only at H)
  have A4:=Aside0.mk A40;clear A40;by_cases c5:t175=true
  ·
   subst c5;rw [if_pos rfl] at H
   (try dsimp only at H)
   have H':=Aside0.mk H;clear H;have hcz6_0:=c20_ BK174;have hcz6_1:=c21_ BK174;have hfz6_0:=fz_ BK174 0;have hfz6_1:=fz_ BK174 1;go_wp2_with (first | ((with_reducible refine gate_callee (f:=49) rfl ?_);refine gL_ (some 8) Tryd.func49 #[.slice A0_0 l0_0.length c0_0] (h:=?_);(with_reducible refine (spec_LoopOk.calls k _ _ l0_0 true _ ?side1 ?side2 A4.out).mono ?_);(case side1=>repeat (first | exact (Kd.C_below HR0_0.out HB.out) | (with_reducible refine Kd.C_alloc ?_ _) | (with_reducible refine Kd.C_drewN ?_ _) | (with_reducible refine Kd.C_drew ?_)));(case side2=>exact HC0_0.out);rintro e w7 ⟨rfl,hb⟩;refine⟨_,rfl,?_⟩;replace BK174:=vb_ BK174 hb;replace HB:=sb_ HB hb;(try clear hb);have hcz8_0:=c20_ BK174;have hcz8_1:=c21_ BK174;have hfz8_0:=fz_ BK174 0;have hfz8_1:=fz_ BK174 1));go_meet
   case rel=>exact⟨_,(decide ((l0_1.length:Int)>2)),(by first | rfl | (simp;done) | (simp [*];done)),H',⟨by first | omega | exact Nat.le_refl _⟩,⟨uq_⟩,⟨hB_⟩⟩
  ·
   replace c5:=Bool.eq_false_iff.mpr c5;subst c5;rw [if_neg (show ¬ (false=true) by decide)] at H
   (try dsimp only at H)
   have H':=Aside0.mk H;clear H;have hcz9_0:=c20_ BK174;have hcz9_1:=c21_ BK174;have hfz9_0:=fz_ BK174 0;have hfz9_1:=fz_ BK174 1;go_wp2_with (first | ((with_reducible refine gate_callee (f:=49) rfl ?_);refine gL_ (some 8) Tryd.func49 #[.slice A0_0 l0_0.length c0_0] (h:=?_);(with_reducible refine (spec_LoopOk.calls k _ _ l0_0 false _ ?side1 ?side2 A4.out).mono ?_);(case side1=>repeat (first | exact (Kd.C_below HR0_0.out HB.out) | (with_reducible refine Kd.C_alloc ?_ _) | (with_reducible refine Kd.C_drewN ?_ _) | (with_reducible refine Kd.C_drew ?_)));(case side2=>exact HC0_0.out);rintro e w10 ⟨rfl,hb⟩;refine⟨_,rfl,?_⟩;replace BK174:=vb_ BK174 hb;replace HB:=sb_ HB hb;(try clear hb)));go_meet
   case rel=>exact⟨_,(true),(by first | rfl | (simp;done) | (simp [*];done)),H',⟨by first | omega | exact Nat.le_refl _⟩,⟨uq_⟩,⟨hB_⟩⟩
 case rest =>
  clear HC2;obtain⟨kq,x15_1,rfl,HA,HJ1,BK174,HB⟩:=hcut
  cases kq with
  | zero=>exact absurd HA.out (by simp [spec_PlateOk.j0])
  | succ kj1 =>
   have H:=HA.out;clear HA;simp only [spec_PlateOk.j0] at H;by_cases c11:x15_1=true
   ·
    subst c11;rw [if_pos rfl] at H
    (try dsimp only at H)
    obtain rfl:=Option.some.inj H;go_wp2;go_ret;exact⟨rr_,hB_⟩
   ·
    replace c11:=Bool.eq_false_iff.mpr c11;subst c11;rw [if_neg (show ¬ (false=true) by decide)] at H
    (try dsimp only at H)
    have H':=Aside0.mk H;clear H;go_wp2;go_loopg [3] kj1 (fun kq v3 w'=>∃ (x3_2:Int),v3=.int .i64 x3_2∧Aside0 (spec_PlateOk.l0 kq x3_2 l0_0 l0_1=some r)∧Aside0 (kq≤kj1)∧Aside0 (w'.heap[gb174]?=some (.cells #[(.slice A0_0 l0_0.length c0_0),(.slice A0_1 l0_1.length c0_1)] 26 (0,0)))∧Aside0 (Below w.heap.size w w'))
    case atStart=>exact⟨(0),(by first | rfl | (simp;done) | (simp [*];done)),H',⟨Nat.le_refl _⟩,⟨uq_⟩,⟨hB_⟩⟩
    case round =>
     clear H';obtain⟨x3_2,rfl,HA,HK2,BK174,HB⟩:=hrel
     cases gk with
     | zero=>exact absurd HA.out (by simp [spec_PlateOk.l0])
     | succ k2 =>
      have H:=HA.out;clear HA;simp only [spec_PlateOk.l0] at H;by_cases c12:x3_2<(l0_1.length:Int)
      ·
       rw [if_pos c12] at H;have c12b0:decide (x3_2<(l0_1.length:Int))=true:=decide_eq_true c12;clear c12;by_cases c13:0≤x3_2
       ·
        rw [if_pos c13] at H;have c13b0:decide (0≤x3_2)=true:=decide_eq_true c13;clear c13;have HC14:=Aside0.mk H;clear H;have hcz15_0:=c20_ BK174;have hcz15_1:=c21_ BK174;have hfz15_0:=fz_ BK174 0;have hfz15_1:=fz_ BK174 1;have p176:0≤(x3_2:Int):=od_;have q176:x3_2<(l0_1.length:Int):=od_;obtain⟨ad176,A176_0,c176_0,e176,hx176_0,hl176_0,hi176_0⟩:=at_L5 HR0_1.out x3_2 p176 q176;cases e176;replace hx176_0:=ce_ HB hx176_0;have HR176_0:=Aside0.mk hi176_0;have HC176_0:=Aside0.mk hl176_0;clear hi176_0 hl176_0;replace p176:=eq_true p176;replace q176:=eq_true q176;go_upto_region 7 with (fail)
        go_cut [46] (fun v46 wc=>∃ (kq:Nat) (x46_13:Bool),v46=.bool x46_13∧Aside0 (spec_PlateOk.j2 kq x3_2 (rd_L5 l0_1 x3_2) x46_13 l0_0 l0_1=some r)∧Aside0 (kq≤k2)∧Aside0 (wc.heap[gb174]?=some (.cells #[(.slice A0_0 l0_0.length c0_0),(.slice (some ad176) l0_1.length c0_1)] 26 (0,0)))∧Aside0 (Below w.heap.size w wc))
        case first =>
         have H:=HC14.out;clear HC14;replace H:=Option.bind_eq_some_iff.mp H;obtain⟨t177,A160,H⟩:=H
         (try dsimp only at H)
         have A16:=Aside0.mk A160;clear A160;by_cases c17:t177=true
         ·
          subst c17;rw [if_pos rfl] at H
          (try dsimp only at H)
          by_cases c18:0<((rd_L5 l0_1 x3_2).length:Int)
          ·
           rw [if_pos c18] at H;have c18b0:decide (0<((rd_L5 l0_1 x3_2).length:Int))=true:=decide_eq_true c18;have c18b1:decide (0<(rd_L5 l0_1 x3_2).length)=true:=decide_eq_true (by omega);clear c18
           (first | rw [c18b0] | (simp only [i64_w,i32_w];rw [c18b0]) | skip)
           replace H:=Option.bind_eq_some_iff.mp H;obtain⟨t179,A190,H⟩:=H
           (try dsimp only at H)
           have A19:=Aside0.mk A190;clear A190;by_cases c20:t179=1
           ·
            rw [if_pos c20] at H;have c20b0:(t179==1)=true:=beq_iff_eq.mpr c20;have c20b1:(t179 != 1)=false:=bne_eq_false_iff_eq.mpr c20;clear c20;replace H:=Option.bind_eq_some_iff.mp H;obtain⟨t180,A210,H⟩:=H
            (try dsimp only at H)
            have A21:=Aside0.mk A210;clear A210;have H':=Aside0.mk H;clear H
            try go_wp2
            replace BK174:=a0_ (blk_drew BK174.out);replace HB:=a0_ (below_drew1 HB.out);have p178:0≤(0:Int):=(by omega);have q178:0<((rd_L5 l0_1 x3_2).length:Int):=od_;obtain⟨ad178,e178,hx178_0,hx178_1⟩:=at_T37 HR176_0.out 0 p178 q178;have hw178_1:=hx178_1
            (try simp only [Int.toNat_zero,Nat.zero_mul,Addr.add_zero'] at hw178_1)
            have hw178_0:=hx178_0
            (try simp only [Int.toNat_zero,Nat.zero_mul,Addr.add_zero'] at hw178_0)
            cases e178;have qi178:(0<(rd_L5 l0_1 x3_2).length)=True:=eq_true (by omega)
            (try simp only [Int.toNat_zero,Nat.zero_mul,Addr.add_zero'] at hx178_0)
            (try simp only [Int.toNat_zero,Nat.zero_mul,Addr.add_zero'] at hx178_1)
            replace hx178_0:=ce_ HB hx178_0;replace hx178_1:=ce_ HB hx178_1;replace p178:=eq_true p178;replace q178:=eq_true q178;refine start_ (n:=19) (S:=fun w'=>w'.cell? ⟨gb174,0,none⟩=some (.slice A0_0 l0_0.length c0_0)∧w'.cell? ⟨gb174,1,none⟩=some (.slice (some ad176) l0_1.length c0_1)∧w'.cell? ad178=some (.int .i64 ((rd_T37 (rd_L5 l0_1 x3_2) 0).f0))∧w'.cell? ⟨ad178.block,ad178.off+1,none⟩=some (.int .i64 ((rd_T37 (rd_L5 l0_1 x3_2) 0).f1))) (ds:=[]) (Array.replicate 19 false) (by kernel_rfl) rfl rfl ⟨bc_,bc_,(ce_ HB hw178_0),(ce_ HB hw178_1)⟩ (fun hHeld=>?_);refine with_tabW spec_PlateOk.tab7 spec_PlateOk.bits7 (fun HT_ HW_=>?_);generalize wr.drew=w22 at BK174 HB hx178_0 hx178_1 hHeld ⊢
            refine pu_ HT_ 0 28 (bm 19 1) ?_;refine one_ (i:=1) (N:=some 29) (bm 19 3) rfl rfl (one_of HT_.out (by kernel_rfl)) (by decide) (fun K hK=>?_);refine goes_ Tryd.func49 (by kernel_rfl) rfl #[.slice (some ad178) (rd_L5 l0_1 x3_2).length c176_0] (by rfl) rfl rfl ma_ ?_
            with_reducible refine (spec_LoopOk.calls k2 _ _ (rd_L5 l0_1 x3_2) true _ ?side1 ?side2 A16.out).mono ?_
            (case side1=>repeat (first | exact (Kd.C_below HR176_0.out HB.out) | (with_reducible refine Kd.C_alloc ?_ _) | (with_reducible refine Kd.C_drewN ?_ _) | (with_reducible refine Kd.C_drew ?_)))
            (case side2=>exact HC176_0.out)
            rintro e w23 ⟨rfl,hb⟩;refine⟨_,rfl,?_⟩;replace BK174:=vb_ BK174 hb;replace HB:=sb_ HB hb
            (try clear hb)
            (try clear hb2)
            (try clear hk)
            (try clear hi)
            refine hK.out _ _ ⟨bc_,bc_,(ce_ HB hw178_0),(ce_ HB hw178_1)⟩ (fun hHeld=>?_);clear hK K;refine no_ (h:=?_);refine pu_ HT_ 2 30 (bm 19 7) ?_;refine pu_ HT_ 3 31 (bm 19 15) ?_;refine pu_ HT_ 4 32 (bm 19 31) ?_;refine pu_ HT_ 6 34 (bm 19 95) ?_;refine pu_ HT_ 7 35 (bm 19 223) ?_;refine ta4_ HT_ HW_ 5 33 (bm 19 255) hHeld ?_;refine ta4_ HT_ HW_ 8 36 (bm 19 511) hHeld ?_;refine one_ (i:=9) (N:=some 37) (bm 19 1023) rfl rfl (one_of HT_.out (by kernel_rfl)) (by decide) (fun K hK=>?_);refine goes_ Tryd.func50 (by kernel_rfl) rfl #[.slice A0_0 l0_0.length c0_0,.agg #[.int .i64 ((rd_T37 (rd_L5 l0_1 x3_2) 0).f0),.int .i64 ((rd_T37 (rd_L5 l0_1 x3_2) 0).f1)]] (by rfl) rfl rfl ma_ ?_
            with_reducible refine (spec_l3In.calls _ _ l0_0 ((rd_T37 (rd_L5 l0_1 x3_2) 0).f0) ((rd_T37 (rd_L5 l0_1 x3_2) 0).f1) t179 _ ?side1 ?side2 A19.out).mono ?_
            (case side1=>repeat (first | exact (Kd.C_below HR0_0.out HB.out) | (with_reducible refine Kd.C_alloc ?_ _) | (with_reducible refine Kd.C_drewN ?_ _) | (with_reducible refine Kd.C_drew ?_)))
            (case side2=>exact HC0_0.out)
            rintro e w24 ⟨rfl,hb⟩;refine⟨_,rfl,?_⟩;replace BK174:=vb_ BK174 hb;replace HB:=sb_ HB hb
            (try clear hb)
            (try clear hb2)
            (try clear hk)
            (try clear hi)
            refine hK.out _ _ ⟨bc_,bc_,(ce_ HB hw178_0),(ce_ HB hw178_1)⟩ (fun hHeld=>?_);clear hK K;refine no_ (h:=?_);refine pu_ HT_ 10 38 (bm 19 2047) ?_;refine pu_ HT_ 11 39 (bm 19 4095) ?_;refine pu_ HT_ 12 40 (bm 19 8191) ?_;refine pu_ HT_ 13 41 (bm 19 16383) ?_;refine pu_ HT_ 15 43 (bm 19 49151) ?_;refine ta4_ HT_ HW_ 14 42 (bm 19 65535) hHeld ?_;refine one_ (i:=16) (N:=some 44) (bm 19 131071) rfl rfl (one_of HT_.out (by kernel_rfl)) (by decide) (fun K hK=>?_);refine goes_ Tryd.func51 (by kernel_rfl) rfl #[.slice A0_0 l0_0.length c0_0,.slice (some ad178) (rd_L5 l0_1 x3_2).length c176_0] (by rfl) rfl rfl ma_ ?_
            with_reducible refine (spec_l11Apart.calls k2 _ _ l0_0 _ _ (rd_L5 l0_1 x3_2) t180 _ ?side1 ?side2 ?side3 ?side4 A21.out).mono ?_
            (case side1=>repeat (first | exact (Kd.C_below HR0_0.out HB.out) | (with_reducible refine Kd.C_alloc ?_ _) | (with_reducible refine Kd.C_drewN ?_ _) | (with_reducible refine Kd.C_drew ?_)))
            (case side2=>exact HC0_0.out)
            (case side3=>repeat (first | exact (Kd.C_below HR176_0.out HB.out) | (with_reducible refine Kd.C_alloc ?_ _) | (with_reducible refine Kd.C_drewN ?_ _) | (with_reducible refine Kd.C_drew ?_)))
            (case side4=>exact HC176_0.out)
            rintro e w25 ⟨rfl,hb⟩;refine⟨_,rfl,?_⟩;replace BK174:=vb_ BK174 hb;replace HB:=sb_ HB hb
            (try clear hb)
            (try clear hb2)
            (try clear hk)
            (try clear hi)
            refine hK.out _ _ ⟨bc_,bc_,(ce_ HB hw178_0),(ce_ HB hw178_1)⟩ (fun hHeld=>?_);clear hK K;refine no_ (h:=?_);refine pu_ HT_ 17 45 (bm 19 262143) ?_;refine pu_ HT_ 18 46 (bm 19 524287) ?_;refine done_ (done_of HT_.out (by kernel_rfl)) ?_
            try go_wp2
            go_meet
            case rel=>exact⟨_,(!t180),(by first | rfl | (simp;done) | (simp [*];done)),H',⟨by have:=HJ1.out;have:=HK2.out;first | omega | exact Nat.le_refl _⟩,⟨uq_⟩,⟨hB_⟩⟩
           ·
            rw [if_neg c20] at H;have c20b0:(t179==1)=false:=beq_eq_false_iff_ne.mpr c20;have c20b1:(t179 != 1)=true:=bne_iff_ne.mpr c20;have H':=Aside0.mk H;clear H
            try go_wp2
            replace BK174:=a0_ (blk_drew BK174.out);replace HB:=a0_ (below_drew1 HB.out);have p178:0≤(0:Int):=(by omega);have q178:0<((rd_L5 l0_1 x3_2).length:Int):=od_;obtain⟨ad178,e178,hx178_0,hx178_1⟩:=at_T37 HR176_0.out 0 p178 q178;have hw178_1:=hx178_1
            (try simp only [Int.toNat_zero,Nat.zero_mul,Addr.add_zero'] at hw178_1)
            have hw178_0:=hx178_0
            (try simp only [Int.toNat_zero,Nat.zero_mul,Addr.add_zero'] at hw178_0)
            cases e178;have qi178:(0<(rd_L5 l0_1 x3_2).length)=True:=eq_true (by omega)
            (try simp only [Int.toNat_zero,Nat.zero_mul,Addr.add_zero'] at hx178_0)
            (try simp only [Int.toNat_zero,Nat.zero_mul,Addr.add_zero'] at hx178_1)
            replace hx178_0:=ce_ HB hx178_0;replace hx178_1:=ce_ HB hx178_1;replace p178:=eq_true p178;replace q178:=eq_true q178;refine start_ (n:=19) (S:=fun w'=>w'.cell? ⟨gb174,0,none⟩=some (.slice A0_0 l0_0.length c0_0)∧w'.cell? ⟨gb174,1,none⟩=some (.slice (some ad176) l0_1.length c0_1)∧w'.cell? ad178=some (.int .i64 ((rd_T37 (rd_L5 l0_1 x3_2) 0).f0))∧w'.cell? ⟨ad178.block,ad178.off+1,none⟩=some (.int .i64 ((rd_T37 (rd_L5 l0_1 x3_2) 0).f1))) (ds:=[]) (Array.replicate 19 false) (by kernel_rfl) rfl rfl ⟨bc_,bc_,(ce_ HB hw178_0),(ce_ HB hw178_1)⟩ (fun hHeld=>?_);refine with_tabW spec_PlateOk.tab7 spec_PlateOk.bits7 (fun HT_ HW_=>?_);generalize wr.drew=w26 at BK174 HB hx178_0 hx178_1 hHeld ⊢
            refine pu_ HT_ 0 28 (bm 19 1) ?_;refine one_ (i:=1) (N:=some 29) (bm 19 3) rfl rfl (one_of HT_.out (by kernel_rfl)) (by decide) (fun K hK=>?_);refine goes_ Tryd.func49 (by kernel_rfl) rfl #[.slice (some ad178) (rd_L5 l0_1 x3_2).length c176_0] (by rfl) rfl rfl ma_ ?_
            with_reducible refine (spec_LoopOk.calls k2 _ _ (rd_L5 l0_1 x3_2) true _ ?side1 ?side2 A16.out).mono ?_
            (case side1=>repeat (first | exact (Kd.C_below HR176_0.out HB.out) | (with_reducible refine Kd.C_alloc ?_ _) | (with_reducible refine Kd.C_drewN ?_ _) | (with_reducible refine Kd.C_drew ?_)))
            (case side2=>exact HC176_0.out)
            rintro e w27 ⟨rfl,hb⟩;refine⟨_,rfl,?_⟩;replace BK174:=vb_ BK174 hb;replace HB:=sb_ HB hb
            (try clear hb)
            (try clear hb2)
            (try clear hk)
            (try clear hi)
            refine hK.out _ _ ⟨bc_,bc_,(ce_ HB hw178_0),(ce_ HB hw178_1)⟩ (fun hHeld=>?_);clear hK K;refine no_ (h:=?_);refine pu_ HT_ 2 30 (bm 19 7) ?_;refine pu_ HT_ 3 31 (bm 19 15) ?_;refine pu_ HT_ 4 32 (bm 19 31) ?_;refine pu_ HT_ 6 34 (bm 19 95) ?_;refine pu_ HT_ 7 35 (bm 19 223) ?_;refine ta4_ HT_ HW_ 5 33 (bm 19 255) hHeld ?_;refine ta4_ HT_ HW_ 8 36 (bm 19 511) hHeld ?_;refine one_ (i:=9) (N:=some 37) (bm 19 1023) rfl rfl (one_of HT_.out (by kernel_rfl)) (by decide) (fun K hK=>?_);refine goes_ Tryd.func50 (by kernel_rfl) rfl #[.slice A0_0 l0_0.length c0_0,.agg #[.int .i64 ((rd_T37 (rd_L5 l0_1 x3_2) 0).f0),.int .i64 ((rd_T37 (rd_L5 l0_1 x3_2) 0).f1)]] (by rfl) rfl rfl ma_ ?_
            with_reducible refine (spec_l3In.calls _ _ l0_0 ((rd_T37 (rd_L5 l0_1 x3_2) 0).f0) ((rd_T37 (rd_L5 l0_1 x3_2) 0).f1) t179 _ ?side1 ?side2 A19.out).mono ?_
            (case side1=>repeat (first | exact (Kd.C_below HR0_0.out HB.out) | (with_reducible refine Kd.C_alloc ?_ _) | (with_reducible refine Kd.C_drewN ?_ _) | (with_reducible refine Kd.C_drew ?_)))
            (case side2=>exact HC0_0.out)
            rintro e w28 ⟨rfl,hb⟩;refine⟨_,rfl,?_⟩;replace BK174:=vb_ BK174 hb;replace HB:=sb_ HB hb
            (try clear hb)
            (try clear hb2)
            (try clear hk)
            (try clear hi)
            refine hK.out _ _ ⟨bc_,bc_,(ce_ HB hw178_0),(ce_ HB hw178_1)⟩ (fun hHeld=>?_);clear hK K;refine no_ (h:=?_);refine pu_ HT_ 10 38 (bm 19 2047) ?_;refine pu_ HT_ 11 39 (bm 19 4095) ?_;refine pu_ HT_ 12 40 (bm 19 8191) ?_;refine pz_ HT_ 13 41 (bm 19 16383) ?_;refine pz_ HT_ 14 42 (bm 19 32767) ?_;refine pz_ HT_ 15 43 (bm 19 65535) ?_;refine pz_ HT_ 16 44 (bm 19 131071) ?_;refine pz_ HT_ 17 45 (bm 19 262143) ?_;refine pu_ HT_ 18 46 (bm 19 524287) ?_;refine done_ (done_of HT_.out (by kernel_rfl)) ?_
            try go_wp2
            go_meet
            case rel=>exact⟨_,(true),(by first | rfl | (simp;done) | (simp [*];done)),H',⟨by have:=HJ1.out;have:=HK2.out;first | omega | exact Nat.le_refl _⟩,⟨uq_⟩,⟨hB_⟩⟩
          ·
           rw [if_neg c18] at H;exact absurd H (by simp)
         ·
          replace c17:=Bool.eq_false_iff.mpr c17;subst c17;rw [if_neg (show ¬ (false=true) by decide)] at H
          (try dsimp only at H)
          have H':=Aside0.mk H;clear H
          try go_wp2
          replace BK174:=a0_ (blk_drew BK174.out);replace HB:=a0_ (below_drew1 HB.out);refine start_ (n:=19) (S:=fun w'=>True) (ds:=[]) (Array.replicate 19 false) (by kernel_rfl) rfl rfl trivial (fun hHeld=>?_);refine with_tabW spec_PlateOk.tab7 spec_PlateOk.bits7 (fun HT_ HW_=>?_);generalize wr.drew=w29 at BK174 HB hHeld ⊢
          refine pu_ HT_ 0 28 (bm 19 1) ?_;refine one_ (i:=1) (N:=some 29) (bm 19 3) rfl rfl (one_of HT_.out (by kernel_rfl)) (by decide) (fun K hK=>?_);refine goes_ Tryd.func49 (by kernel_rfl) rfl #[.slice A176_0 (rd_L5 l0_1 x3_2).length c176_0] (by rfl) rfl rfl ma_ ?_
          with_reducible refine (spec_LoopOk.calls k2 _ _ (rd_L5 l0_1 x3_2) false _ ?side1 ?side2 A16.out).mono ?_
          (case side1=>repeat (first | exact (Kd.C_below HR176_0.out HB.out) | (with_reducible refine Kd.C_alloc ?_ _) | (with_reducible refine Kd.C_drewN ?_ _) | (with_reducible refine Kd.C_drew ?_)))
          (case side2=>exact HC176_0.out)
          rintro e w30 ⟨rfl,hb⟩;refine⟨_,rfl,?_⟩;replace BK174:=vb_ BK174 hb;replace HB:=sb_ HB hb
          (try clear hb)
          (try clear hb2)
          (try clear hk)
          (try clear hi)
          refine hK.out _ _ trivial (fun hHeld=>?_);clear hK K;refine no_ (h:=?_);refine pu_ HT_ 2 30 (bm 19 7) ?_;refine pu_ HT_ 3 31 (bm 19 15) ?_;refine pz_ HT_ 4 32 (bm 19 31) ?_;refine pz_ HT_ 5 33 (bm 19 63) ?_;refine pz_ HT_ 6 34 (bm 19 127) ?_;refine pz_ HT_ 7 35 (bm 19 255) ?_;refine pz_ HT_ 8 36 (bm 19 511) ?_;refine pz_ HT_ 9 37 (bm 19 1023) ?_;refine pz_ HT_ 10 38 (bm 19 2047) ?_;refine pu_ HT_ 11 39 (bm 19 4095) ?_;refine pu_ HT_ 12 40 (bm 19 8191) ?_;refine pz_ HT_ 13 41 (bm 19 16383) ?_;refine pz_ HT_ 14 42 (bm 19 32767) ?_;refine pz_ HT_ 15 43 (bm 19 65535) ?_;refine pz_ HT_ 16 44 (bm 19 131071) ?_;refine pz_ HT_ 17 45 (bm 19 262143) ?_;refine pu_ HT_ 18 46 (bm 19 524287) ?_;refine done_ (done_of HT_.out (by kernel_rfl)) ?_
          try go_wp2
          go_meet
          case rel=>exact⟨_,(true),(by first | rfl | (simp;done) | (simp [*];done)),H',⟨by have:=HJ1.out;have:=HK2.out;first | omega | exact Nat.le_refl _⟩,⟨uq_⟩,⟨hB_⟩⟩
        case rest =>
         clear HC14;obtain⟨kq,x46_13,rfl,HA,HJ13,BK174,HB⟩:=hcut
         cases kq with
         | zero=>exact absurd HA.out (by simp [spec_PlateOk.j2])
         | succ kj13 =>
          have H:=HA.out;clear HA;simp only [spec_PlateOk.j2] at H;by_cases c31:x46_13=true
          ·
           subst c31;rw [if_pos rfl] at H
           (try dsimp only at H)
           obtain rfl:=Option.some.inj H;go_wp2;go_ret;exact⟨rr_,hB_⟩
          ·
           replace c31:=Bool.eq_false_iff.mpr c31;subst c31;rw [if_neg (show ¬ (false=true) by decide)] at H
           (try dsimp only at H)
           have H':=Aside0.mk H;clear H;go_wp2;go_loopg [5] kj13 (fun kq v5 w'=>∃ (x5_4:Int),v5=.int .i64 x5_4∧Aside0 (spec_PlateOk.l1 kq x3_2 (rd_L5 l0_1 x3_2) x5_4 l0_0 l0_1=some r)∧Aside0 (kq≤kj13)∧Aside0 (w'.heap[gb174]?=some (.cells #[(.slice A0_0 l0_0.length c0_0),(.slice (some ad176) l0_1.length c0_1)] 26 (0,0)))∧Aside0 (Below w.heap.size w w'))
           case atStart=>exact⟨(0),(by first | rfl | (simp;done) | (simp [*];done)),H',⟨Nat.le_refl _⟩,⟨uq_⟩,⟨hB_⟩⟩
           case round =>
            clear H';obtain⟨x5_4,rfl,HA,HK4,BK174,HB⟩:=hrel
            cases gk with
            | zero=>exact absurd HA.out (by simp [spec_PlateOk.l1])
            | succ k4 =>
             have H:=HA.out;clear HA;simp only [spec_PlateOk.l1] at H;by_cases c32:x5_4<x3_2
             ·
              rw [if_pos c32] at H;have c32b0:decide (x5_4<x3_2)=true:=decide_eq_true c32;clear c32;by_cases c33:0≤x5_4
              ·
               rw [if_pos c33] at H;have c33b0:decide (0≤x5_4)=true:=decide_eq_true c33;clear c33;by_cases c34:x5_4<(l0_1.length:Int)
               ·
                rw [if_pos c34] at H;have c34b0:decide (x5_4<(l0_1.length:Int))=true:=decide_eq_true c34;clear c34;replace H:=Option.bind_eq_some_iff.mp H;obtain⟨t182,A350,H⟩:=H
                (try dsimp only at H)
                have A35:=Aside0.mk A350;clear A350;by_cases c36:t182=true
                ·
                 subst c36;rw [if_pos rfl] at H
                 (try dsimp only at H)
                 by_cases c37:0<((rd_L5 l0_1 x3_2).length:Int)
                 ·
                  rw [if_pos c37] at H;have c37b0:decide (0<((rd_L5 l0_1 x3_2).length:Int))=true:=decide_eq_true c37;have c37b1:decide (0<(rd_L5 l0_1 x3_2).length)=true:=decide_eq_true (by omega);clear c37;replace H:=Option.bind_eq_some_iff.mp H;obtain⟨t185,A380,H⟩:=H
                  (try dsimp only at H)
                  have A38:=Aside0.mk A380;clear A380;by_cases c39:t185=(-1)
                  ·
                   rw [if_pos c39] at H;have c39b0:(t185==(-1))=true:=beq_iff_eq.mpr c39;have c39b1:(t185 != (-1))=false:=bne_eq_false_iff_eq.mpr c39;clear c39;by_cases c40:0<((rd_L5 l0_1 x5_4).length:Int)
                   ·
                    rw [if_pos c40] at H;have c40b0:decide (0<((rd_L5 l0_1 x5_4).length:Int))=true:=decide_eq_true c40;have c40b1:decide (0<(rd_L5 l0_1 x5_4).length)=true:=decide_eq_true (by omega);clear c40;replace H:=Option.bind_eq_some_iff.mp H;obtain⟨t188,A410,H⟩:=H
                    (try dsimp only at H)
                    have A41:=Aside0.mk A410;clear A410;by_cases c42:t188=(-1)
                    ·
                     rw [if_pos c42] at H;have c42b0:(t188==(-1))=true:=beq_iff_eq.mpr c42;have c42b1:(t188 != (-1))=false:=bne_eq_false_iff_eq.mpr c42;clear c42;have H':=Aside0.mk H;clear H
                     try go_wp2
                     replace BK174:=a0_ (blk_drew BK174.out);replace HB:=a0_ (below_drew1 HB.out);have p181:0≤(x5_4:Int):=od_;have q181:x5_4<(l0_1.length:Int):=od_;obtain⟨ad181,A181_0,c181_0,e181,hx181_0,hl181_0,hi181_0⟩:=at_L5 HR0_1.out x5_4 p181 q181;have hw181_0:=hx181_0;obtain rfl:ad176=ad181:=(by injection e181);replace hx181_0:=ce_ HB hx181_0;have HR181_0:=Aside0.mk hi181_0;have HC181_0:=Aside0.mk hl181_0;clear hi181_0 hl181_0;replace p181:=eq_true p181;replace q181:=eq_true q181;have p184:0≤(0:Int):=(by omega);have q184:0<((rd_L5 l0_1 x3_2).length:Int):=od_;obtain⟨ad184,e184,hx184_0,hx184_1⟩:=at_T37 HR176_0.out 0 p184 q184;have hw184_1:=hx184_1
                     (try simp only [Int.toNat_zero,Nat.zero_mul,Addr.add_zero'] at hw184_1)
                     have hw184_0:=hx184_0
                     (try simp only [Int.toNat_zero,Nat.zero_mul,Addr.add_zero'] at hw184_0)
                     cases e184;have qi184:(0<(rd_L5 l0_1 x3_2).length)=True:=eq_true (by omega)
                     (try simp only [Int.toNat_zero,Nat.zero_mul,Addr.add_zero'] at hx184_0)
                     (try simp only [Int.toNat_zero,Nat.zero_mul,Addr.add_zero'] at hx184_1)
                     replace hx184_0:=ce_ HB hx184_0;replace hx184_1:=ce_ HB hx184_1;replace p184:=eq_true p184;replace q184:=eq_true q184;have p187:0≤(0:Int):=(by omega);have q187:0<((rd_L5 l0_1 x5_4).length:Int):=od_;obtain⟨ad187,e187,hx187_0,hx187_1⟩:=at_T37 HR181_0.out 0 p187 q187;have hw187_1:=hx187_1
                     (try simp only [Int.toNat_zero,Nat.zero_mul,Addr.add_zero'] at hw187_1)
                     have hw187_0:=hx187_0
                     (try simp only [Int.toNat_zero,Nat.zero_mul,Addr.add_zero'] at hw187_0)
                     cases e187;have qi187:(0<(rd_L5 l0_1 x5_4).length)=True:=eq_true (by omega)
                     (try simp only [Int.toNat_zero,Nat.zero_mul,Addr.add_zero'] at hx187_0)
                     (try simp only [Int.toNat_zero,Nat.zero_mul,Addr.add_zero'] at hx187_1)
                     replace hx187_0:=ce_ HB hx187_0;replace hx187_1:=ce_ HB hx187_1;replace p187:=eq_true p187;replace q187:=eq_true q187;refine start_ (n:=32) (S:=fun w'=>w'.cell? ⟨gb174,0,none⟩=some (.slice A0_0 l0_0.length c0_0)∧w'.cell? ⟨gb174,1,none⟩=some (.slice (some ad176) l0_1.length c0_1)∧w'.cell? (ad176.add (x5_4).toNat)=some (.slice (some ad187) (rd_L5 l0_1 x5_4).length c181_0)∧w'.cell? (ad176.add (x5_4).toNat)=some (.slice (some ad187) (rd_L5 l0_1 x5_4).length c181_0)∧w'.cell? ad184=some (.int .i64 ((rd_T37 (rd_L5 l0_1 x3_2) 0).f0))∧w'.cell? ⟨ad184.block,ad184.off+1,none⟩=some (.int .i64 ((rd_T37 (rd_L5 l0_1 x3_2) 0).f1))∧w'.cell? (ad176.add (x5_4).toNat)=some (.slice (some ad187) (rd_L5 l0_1 x5_4).length c181_0)∧w'.cell? ad187=some (.int .i64 ((rd_T37 (rd_L5 l0_1 x5_4) 0).f0))∧w'.cell? ⟨ad187.block,ad187.off+1,none⟩=some (.int .i64 ((rd_T37 (rd_L5 l0_1 x5_4) 0).f1))) (ds:=[]) (Array.replicate 32 false) (by kernel_rfl) rfl rfl ⟨bc_,bc_,(ce_ HB hw181_0),(ce_ HB hw181_0),(ce_ HB hw184_0),(ce_ HB hw184_1),(ce_ HB hw181_0),(ce_ HB hw187_0),(ce_ HB hw187_1)⟩ (fun hHeld=>?_);refine with_tabW spec_PlateOk.tab12 spec_PlateOk.bits12 (fun HT_ HW_=>?_);generalize wr.drew=w43 at BK174 HB HR181_0 hx181_0 hx184_0 hx184_1 hx187_0 hx187_1 hHeld ⊢
                     refine pu_ HT_ 0 52 (bm 32 1) ?_;refine pu_ HT_ 1 53 (bm 32 3) ?_;refine pu_ HT_ 3 55 (bm 32 11) ?_;refine ta9_ HT_ HW_ 2 54 (bm 32 15) hHeld ?_;refine pu_ HT_ 4 56 (bm 32 31) ?_;refine ta9_ HT_ HW_ 5 57 (bm 32 63) hHeld ?_;refine one_ (i:=6) (N:=some 58) (bm 32 127) rfl rfl (one_of HT_.out (by kernel_rfl)) (by decide) (fun K hK=>?_);refine goes_ Tryd.func51 (by kernel_rfl) rfl #[.slice (some ad184) (rd_L5 l0_1 x3_2).length c176_0,.slice (some ad187) (rd_L5 l0_1 x5_4).length c181_0] (by rfl) rfl rfl ma_ ?_
                     with_reducible refine (spec_l11Apart.calls k4 _ _ (rd_L5 l0_1 x3_2) _ _ (rd_L5 l0_1 x5_4) true _ ?side1 ?side2 ?side3 ?side4 A35.out).mono ?_
                     (case side1=>repeat (first | exact (Kd.C_below HR176_0.out HB.out) | (with_reducible refine Kd.C_alloc ?_ _) | (with_reducible refine Kd.C_drewN ?_ _) | (with_reducible refine Kd.C_drew ?_)))
                     (case side2=>exact HC176_0.out)
                     (case side3=>repeat (first | exact (Kd.C_below HR181_0.out HB.out) | (with_reducible refine Kd.C_alloc ?_ _) | (with_reducible refine Kd.C_drewN ?_ _) | (with_reducible refine Kd.C_drew ?_)))
                     (case side4=>exact HC181_0.out)
                     rintro e w44 ⟨rfl,hb⟩;refine⟨_,rfl,?_⟩;replace BK174:=vb_ BK174 hb;replace HB:=sb_ HB hb
                     (try clear hb)
                     (try clear hb2)
                     (try clear hk)
                     (try clear hi)
                     refine hK.out _ _ ⟨bc_,bc_,(ce_ HB hw181_0),(ce_ HB hw181_0),(ce_ HB hw184_0),(ce_ HB hw184_1),(ce_ HB hw181_0),(ce_ HB hw187_0),(ce_ HB hw187_1)⟩ (fun hHeld=>?_);clear hK K;refine no_ (h:=?_);refine pu_ HT_ 7 59 (bm 32 255) ?_;refine pu_ HT_ 8 60 (bm 32 511) ?_;refine pu_ HT_ 9 61 (bm 32 1023) ?_;refine pu_ HT_ 11 63 (bm 32 3071) ?_;refine pu_ HT_ 14 66 (bm 32 19455) ?_;refine pu_ HT_ 15 67 (bm 32 52223) ?_;refine ta9_ HT_ HW_ 10 62 (bm 32 53247) hHeld ?_;refine pu_ HT_ 12 64 (bm 32 57343) ?_;refine ta9_ HT_ HW_ 13 65 (bm 32 65535) hHeld ?_;refine ta9_ HT_ HW_ 16 68 (bm 32 131071) hHeld ?_;refine one_ (i:=17) (N:=some 69) (bm 32 262143) rfl rfl (one_of HT_.out (by kernel_rfl)) (by decide) (fun K hK=>?_);refine goes_ Tryd.func50 (by kernel_rfl) rfl #[.slice (some ad187) (rd_L5 l0_1 x5_4).length c181_0,.agg #[.int .i64 ((rd_T37 (rd_L5 l0_1 x3_2) 0).f0),.int .i64 ((rd_T37 (rd_L5 l0_1 x3_2) 0).f1)]] (by rfl) rfl rfl ma_ ?_
                     with_reducible refine (spec_l3In.calls _ _ (rd_L5 l0_1 x5_4) ((rd_T37 (rd_L5 l0_1 x3_2) 0).f0) ((rd_T37 (rd_L5 l0_1 x3_2) 0).f1) t185 _ ?side1 ?side2 A38.out).mono ?_
                     (case side1=>repeat (first | exact (Kd.C_below HR181_0.out HB.out) | (with_reducible refine Kd.C_alloc ?_ _) | (with_reducible refine Kd.C_drewN ?_ _) | (with_reducible refine Kd.C_drew ?_)))
                     (case side2=>exact HC181_0.out)
                     rintro e w45 ⟨rfl,hb⟩;refine⟨_,rfl,?_⟩;replace BK174:=vb_ BK174 hb;replace HB:=sb_ HB hb
                     (try clear hb)
                     (try clear hb2)
                     (try clear hk)
                     (try clear hi)
                     refine hK.out _ _ ⟨bc_,bc_,(ce_ HB hw181_0),(ce_ HB hw181_0),(ce_ HB hw184_0),(ce_ HB hw184_1),(ce_ HB hw181_0),(ce_ HB hw187_0),(ce_ HB hw187_1)⟩ (fun hHeld=>?_);clear hK K;refine no_ (h:=?_);refine pu_ HT_ 18 70 (bm 32 524287) ?_;refine pu_ HT_ 19 71 (bm 32 1048575) ?_;refine pu_ HT_ 20 72 (bm 32 2097151) ?_;refine pu_ HT_ 21 73 (bm 32 4194303) ?_;refine pu_ HT_ 22 74 (bm 32 8388607) ?_;refine pu_ HT_ 24 76 (bm 32 25165823) ?_;refine ta9_ HT_ HW_ 23 75 (bm 32 33554431) hHeld ?_;refine pu_ HT_ 25 77 (bm 32 67108863) ?_;refine ta9_ HT_ HW_ 26 78 (bm 32 134217727) hHeld ?_;refine pu_ HT_ 27 79 (bm 32 268435455) ?_;refine ta9_ HT_ HW_ 28 80 (bm 32 536870911) hHeld ?_;refine one_ (i:=29) (N:=some 81) (bm 32 1073741823) rfl rfl (one_of HT_.out (by kernel_rfl)) (by decide) (fun K hK=>?_);refine goes_ Tryd.func50 (by kernel_rfl) rfl #[.slice (some ad184) (rd_L5 l0_1 x3_2).length c176_0,.agg #[.int .i64 ((rd_T37 (rd_L5 l0_1 x5_4) 0).f0),.int .i64 ((rd_T37 (rd_L5 l0_1 x5_4) 0).f1)]] (by rfl) rfl rfl ma_ ?_
                     with_reducible refine (spec_l3In.calls _ _ (rd_L5 l0_1 x3_2) ((rd_T37 (rd_L5 l0_1 x5_4) 0).f0) ((rd_T37 (rd_L5 l0_1 x5_4) 0).f1) t188 _ ?side1 ?side2 A41.out).mono ?_
                     (case side1=>repeat (first | exact (Kd.C_below HR176_0.out HB.out) | (with_reducible refine Kd.C_alloc ?_ _) | (with_reducible refine Kd.C_drewN ?_ _) | (with_reducible refine Kd.C_drew ?_)))
                     (case side2=>exact HC176_0.out)
                     rintro e w46 ⟨rfl,hb⟩;refine⟨_,rfl,?_⟩;replace BK174:=vb_ BK174 hb;replace HB:=sb_ HB hb
                     (try clear hb)
                     (try clear hb2)
                     (try clear hk)
                     (try clear hi)
                     refine hK.out _ _ ⟨bc_,bc_,(ce_ HB hw181_0),(ce_ HB hw181_0),(ce_ HB hw184_0),(ce_ HB hw184_1),(ce_ HB hw181_0),(ce_ HB hw187_0),(ce_ HB hw187_1)⟩ (fun hHeld=>?_);clear hK K;refine no_ (h:=?_);refine pu_ HT_ 30 82 (bm 32 2147483647) ?_;refine pu_ HT_ 31 83 (bm 32 4294967295) ?_;refine done_ (done_of HT_.out (by kernel_rfl)) ?_
                     try go_wp2
                     go_roundg k4
                     case measure=>have:=HJ1.out;have:=HK2.out;have:=HJ13.out;have:=HK4.out;omega
                     case rel=>exact⟨(wrap64 (x5_4+1)),(by first | rfl | (simp;done) | (simp [*];done)),H',⟨by have:=HJ1.out;have:=HK2.out;have:=HJ13.out;have:=HK4.out;omega⟩,⟨uq_⟩,⟨hB_⟩⟩
                    ·
                     rw [if_neg c42] at H;have c42b0:(t188==(-1))=false:=beq_eq_false_iff_ne.mpr c42;have c42b1:(t188 != (-1))=true:=bne_iff_ne.mpr c42;obtain rfl:=Option.some.inj H
                     try go_wp2
                     replace BK174:=a0_ (blk_drew BK174.out);replace HB:=a0_ (below_drew1 HB.out);have p181:0≤(x5_4:Int):=od_;have q181:x5_4<(l0_1.length:Int):=od_;obtain⟨ad181,A181_0,c181_0,e181,hx181_0,hl181_0,hi181_0⟩:=at_L5 HR0_1.out x5_4 p181 q181;have hw181_0:=hx181_0;obtain rfl:ad176=ad181:=(by injection e181);replace hx181_0:=ce_ HB hx181_0;have HR181_0:=Aside0.mk hi181_0;have HC181_0:=Aside0.mk hl181_0;clear hi181_0 hl181_0;replace p181:=eq_true p181;replace q181:=eq_true q181;have p184:0≤(0:Int):=(by omega);have q184:0<((rd_L5 l0_1 x3_2).length:Int):=od_;obtain⟨ad184,e184,hx184_0,hx184_1⟩:=at_T37 HR176_0.out 0 p184 q184;have hw184_1:=hx184_1
                     (try simp only [Int.toNat_zero,Nat.zero_mul,Addr.add_zero'] at hw184_1)
                     have hw184_0:=hx184_0
                     (try simp only [Int.toNat_zero,Nat.zero_mul,Addr.add_zero'] at hw184_0)
                     cases e184;have qi184:(0<(rd_L5 l0_1 x3_2).length)=True:=eq_true (by omega)
                     (try simp only [Int.toNat_zero,Nat.zero_mul,Addr.add_zero'] at hx184_0)
                     (try simp only [Int.toNat_zero,Nat.zero_mul,Addr.add_zero'] at hx184_1)
                     replace hx184_0:=ce_ HB hx184_0;replace hx184_1:=ce_ HB hx184_1;replace p184:=eq_true p184;replace q184:=eq_true q184;have p187:0≤(0:Int):=(by omega);have q187:0<((rd_L5 l0_1 x5_4).length:Int):=od_;obtain⟨ad187,e187,hx187_0,hx187_1⟩:=at_T37 HR181_0.out 0 p187 q187;have hw187_1:=hx187_1
                     (try simp only [Int.toNat_zero,Nat.zero_mul,Addr.add_zero'] at hw187_1)
                     have hw187_0:=hx187_0
                     (try simp only [Int.toNat_zero,Nat.zero_mul,Addr.add_zero'] at hw187_0)
                     cases e187;have qi187:(0<(rd_L5 l0_1 x5_4).length)=True:=eq_true (by omega)
                     (try simp only [Int.toNat_zero,Nat.zero_mul,Addr.add_zero'] at hx187_0)
                     (try simp only [Int.toNat_zero,Nat.zero_mul,Addr.add_zero'] at hx187_1)
                     replace hx187_0:=ce_ HB hx187_0;replace hx187_1:=ce_ HB hx187_1;replace p187:=eq_true p187;replace q187:=eq_true q187;refine start_ (n:=32) (S:=fun w'=>w'.cell? ⟨gb174,0,none⟩=some (.slice A0_0 l0_0.length c0_0)∧w'.cell? ⟨gb174,1,none⟩=some (.slice (some ad176) l0_1.length c0_1)∧w'.cell? (ad176.add (x5_4).toNat)=some (.slice (some ad187) (rd_L5 l0_1 x5_4).length c181_0)∧w'.cell? (ad176.add (x5_4).toNat)=some (.slice (some ad187) (rd_L5 l0_1 x5_4).length c181_0)∧w'.cell? ad184=some (.int .i64 ((rd_T37 (rd_L5 l0_1 x3_2) 0).f0))∧w'.cell? ⟨ad184.block,ad184.off+1,none⟩=some (.int .i64 ((rd_T37 (rd_L5 l0_1 x3_2) 0).f1))∧w'.cell? (ad176.add (x5_4).toNat)=some (.slice (some ad187) (rd_L5 l0_1 x5_4).length c181_0)∧w'.cell? ad187=some (.int .i64 ((rd_T37 (rd_L5 l0_1 x5_4) 0).f0))∧w'.cell? ⟨ad187.block,ad187.off+1,none⟩=some (.int .i64 ((rd_T37 (rd_L5 l0_1 x5_4) 0).f1))) (ds:=[]) (Array.replicate 32 false) (by kernel_rfl) rfl rfl ⟨bc_,bc_,(ce_ HB hw181_0),(ce_ HB hw181_0),(ce_ HB hw184_0),(ce_ HB hw184_1),(ce_ HB hw181_0),(ce_ HB hw187_0),(ce_ HB hw187_1)⟩ (fun hHeld=>?_);refine with_tabW spec_PlateOk.tab12 spec_PlateOk.bits12 (fun HT_ HW_=>?_);generalize wr.drew=w47 at BK174 HB HR181_0 hx181_0 hx184_0 hx184_1 hx187_0 hx187_1 hHeld ⊢
                     refine pu_ HT_ 0 52 (bm 32 1) ?_;refine pu_ HT_ 1 53 (bm 32 3) ?_;refine pu_ HT_ 3 55 (bm 32 11) ?_;refine ta9_ HT_ HW_ 2 54 (bm 32 15) hHeld ?_;refine pu_ HT_ 4 56 (bm 32 31) ?_;refine ta9_ HT_ HW_ 5 57 (bm 32 63) hHeld ?_;refine one_ (i:=6) (N:=some 58) (bm 32 127) rfl rfl (one_of HT_.out (by kernel_rfl)) (by decide) (fun K hK=>?_);refine goes_ Tryd.func51 (by kernel_rfl) rfl #[.slice (some ad184) (rd_L5 l0_1 x3_2).length c176_0,.slice (some ad187) (rd_L5 l0_1 x5_4).length c181_0] (by rfl) rfl rfl ma_ ?_
                     with_reducible refine (spec_l11Apart.calls k4 _ _ (rd_L5 l0_1 x3_2) _ _ (rd_L5 l0_1 x5_4) true _ ?side1 ?side2 ?side3 ?side4 A35.out).mono ?_
                     (case side1=>repeat (first | exact (Kd.C_below HR176_0.out HB.out) | (with_reducible refine Kd.C_alloc ?_ _) | (with_reducible refine Kd.C_drewN ?_ _) | (with_reducible refine Kd.C_drew ?_)))
                     (case side2=>exact HC176_0.out)
                     (case side3=>repeat (first | exact (Kd.C_below HR181_0.out HB.out) | (with_reducible refine Kd.C_alloc ?_ _) | (with_reducible refine Kd.C_drewN ?_ _) | (with_reducible refine Kd.C_drew ?_)))
                     (case side4=>exact HC181_0.out)
                     rintro e w48 ⟨rfl,hb⟩;refine⟨_,rfl,?_⟩;replace BK174:=vb_ BK174 hb;replace HB:=sb_ HB hb
                     (try clear hb)
                     (try clear hb2)
                     (try clear hk)
                     (try clear hi)
                     refine hK.out _ _ ⟨bc_,bc_,(ce_ HB hw181_0),(ce_ HB hw181_0),(ce_ HB hw184_0),(ce_ HB hw184_1),(ce_ HB hw181_0),(ce_ HB hw187_0),(ce_ HB hw187_1)⟩ (fun hHeld=>?_);clear hK K;refine no_ (h:=?_);refine pu_ HT_ 7 59 (bm 32 255) ?_;refine pu_ HT_ 8 60 (bm 32 511) ?_;refine pu_ HT_ 9 61 (bm 32 1023) ?_;refine pu_ HT_ 11 63 (bm 32 3071) ?_;refine pu_ HT_ 14 66 (bm 32 19455) ?_;refine pu_ HT_ 15 67 (bm 32 52223) ?_;refine ta9_ HT_ HW_ 10 62 (bm 32 53247) hHeld ?_;refine pu_ HT_ 12 64 (bm 32 57343) ?_;refine ta9_ HT_ HW_ 13 65 (bm 32 65535) hHeld ?_;refine ta9_ HT_ HW_ 16 68 (bm 32 131071) hHeld ?_;refine one_ (i:=17) (N:=some 69) (bm 32 262143) rfl rfl (one_of HT_.out (by kernel_rfl)) (by decide) (fun K hK=>?_);refine goes_ Tryd.func50 (by kernel_rfl) rfl #[.slice (some ad187) (rd_L5 l0_1 x5_4).length c181_0,.agg #[.int .i64 ((rd_T37 (rd_L5 l0_1 x3_2) 0).f0),.int .i64 ((rd_T37 (rd_L5 l0_1 x3_2) 0).f1)]] (by rfl) rfl rfl ma_ ?_
                     with_reducible refine (spec_l3In.calls _ _ (rd_L5 l0_1 x5_4) ((rd_T37 (rd_L5 l0_1 x3_2) 0).f0) ((rd_T37 (rd_L5 l0_1 x3_2) 0).f1) t185 _ ?side1 ?side2 A38.out).mono ?_
                     (case side1=>repeat (first | exact (Kd.C_below HR181_0.out HB.out) | (with_reducible refine Kd.C_alloc ?_ _) | (with_reducible refine Kd.C_drewN ?_ _) | (with_reducible refine Kd.C_drew ?_)))
                     (case side2=>exact HC181_0.out)
                     rintro e w49 ⟨rfl,hb⟩;refine⟨_,rfl,?_⟩;replace BK174:=vb_ BK174 hb;replace HB:=sb_ HB hb
                     (try clear hb)
                     (try clear hb2)
                     (try clear hk)
                     (try clear hi)
                     refine hK.out _ _ ⟨bc_,bc_,(ce_ HB hw181_0),(ce_ HB hw181_0),(ce_ HB hw184_0),(ce_ HB hw184_1),(ce_ HB hw181_0),(ce_ HB hw187_0),(ce_ HB hw187_1)⟩ (fun hHeld=>?_);clear hK K;refine no_ (h:=?_);refine pu_ HT_ 18 70 (bm 32 524287) ?_;refine pu_ HT_ 19 71 (bm 32 1048575) ?_;refine pu_ HT_ 20 72 (bm 32 2097151) ?_;refine pu_ HT_ 21 73 (bm 32 4194303) ?_;refine pu_ HT_ 22 74 (bm 32 8388607) ?_;refine pu_ HT_ 24 76 (bm 32 25165823) ?_;refine ta9_ HT_ HW_ 23 75 (bm 32 33554431) hHeld ?_;refine pu_ HT_ 25 77 (bm 32 67108863) ?_;refine ta9_ HT_ HW_ 26 78 (bm 32 134217727) hHeld ?_;refine pu_ HT_ 27 79 (bm 32 268435455) ?_;refine ta9_ HT_ HW_ 28 80 (bm 32 536870911) hHeld ?_;refine one_ (i:=29) (N:=some 81) (bm 32 1073741823) rfl rfl (one_of HT_.out (by kernel_rfl)) (by decide) (fun K hK=>?_);refine goes_ Tryd.func50 (by kernel_rfl) rfl #[.slice (some ad184) (rd_L5 l0_1 x3_2).length c176_0,.agg #[.int .i64 ((rd_T37 (rd_L5 l0_1 x5_4) 0).f0),.int .i64 ((rd_T37 (rd_L5 l0_1 x5_4) 0).f1)]] (by rfl) rfl rfl ma_ ?_
                     with_reducible refine (spec_l3In.calls _ _ (rd_L5 l0_1 x3_2) ((rd_T37 (rd_L5 l0_1 x5_4) 0).f0) ((rd_T37 (rd_L5 l0_1 x5_4) 0).f1) t188 _ ?side1 ?side2 A41.out).mono ?_
                     (case side1=>repeat (first | exact (Kd.C_below HR176_0.out HB.out) | (with_reducible refine Kd.C_alloc ?_ _) | (with_reducible refine Kd.C_drewN ?_ _) | (with_reducible refine Kd.C_drew ?_)))
                     (case side2=>exact HC176_0.out)
                     rintro e w50 ⟨rfl,hb⟩;refine⟨_,rfl,?_⟩;replace BK174:=vb_ BK174 hb;replace HB:=sb_ HB hb
                     (try clear hb)
                     (try clear hb2)
                     (try clear hk)
                     (try clear hi)
                     refine hK.out _ _ ⟨bc_,bc_,(ce_ HB hw181_0),(ce_ HB hw181_0),(ce_ HB hw184_0),(ce_ HB hw184_1),(ce_ HB hw181_0),(ce_ HB hw187_0),(ce_ HB hw187_1)⟩ (fun hHeld=>?_);clear hK K;refine no_ (h:=?_);refine pu_ HT_ 30 82 (bm 32 2147483647) ?_;refine pu_ HT_ 31 83 (bm 32 4294967295) ?_;refine done_ (done_of HT_.out (by kernel_rfl)) ?_
                     try go_wp2
                     go_ret;exact⟨rr_,hB_⟩
                   ·
                    rw [if_neg c40] at H;exact absurd H (by simp)
                  ·
                   rw [if_neg c39] at H;have c39b0:(t185==(-1))=false:=beq_eq_false_iff_ne.mpr c39;have c39b1:(t185 != (-1))=true:=bne_iff_ne.mpr c39;obtain rfl:=Option.some.inj H
                   try go_wp2
                   replace BK174:=a0_ (blk_drew BK174.out);replace HB:=a0_ (below_drew1 HB.out);have p181:0≤(x5_4:Int):=od_;have q181:x5_4<(l0_1.length:Int):=od_;obtain⟨ad181,A181_0,c181_0,e181,hx181_0,hl181_0,hi181_0⟩:=at_L5 HR0_1.out x5_4 p181 q181;have hw181_0:=hx181_0;obtain rfl:ad176=ad181:=(by injection e181);replace hx181_0:=ce_ HB hx181_0;have HR181_0:=Aside0.mk hi181_0;have HC181_0:=Aside0.mk hl181_0;clear hi181_0 hl181_0;replace p181:=eq_true p181;replace q181:=eq_true q181;have p184:0≤(0:Int):=(by omega);have q184:0<((rd_L5 l0_1 x3_2).length:Int):=od_;obtain⟨ad184,e184,hx184_0,hx184_1⟩:=at_T37 HR176_0.out 0 p184 q184;have hw184_1:=hx184_1
                   (try simp only [Int.toNat_zero,Nat.zero_mul,Addr.add_zero'] at hw184_1)
                   have hw184_0:=hx184_0
                   (try simp only [Int.toNat_zero,Nat.zero_mul,Addr.add_zero'] at hw184_0)
                   cases e184;have qi184:(0<(rd_L5 l0_1 x3_2).length)=True:=eq_true (by omega)
                   (try simp only [Int.toNat_zero,Nat.zero_mul,Addr.add_zero'] at hx184_0)
                   (try simp only [Int.toNat_zero,Nat.zero_mul,Addr.add_zero'] at hx184_1)
                   replace hx184_0:=ce_ HB hx184_0;replace hx184_1:=ce_ HB hx184_1;replace p184:=eq_true p184;replace q184:=eq_true q184;refine start_ (n:=32) (S:=fun w'=>w'.cell? ⟨gb174,0,none⟩=some (.slice A0_0 l0_0.length c0_0)∧w'.cell? ⟨gb174,1,none⟩=some (.slice (some ad176) l0_1.length c0_1)∧w'.cell? (ad176.add (x5_4).toNat)=some (.slice A181_0 (rd_L5 l0_1 x5_4).length c181_0)∧w'.cell? (ad176.add (x5_4).toNat)=some (.slice A181_0 (rd_L5 l0_1 x5_4).length c181_0)∧w'.cell? ad184=some (.int .i64 ((rd_T37 (rd_L5 l0_1 x3_2) 0).f0))∧w'.cell? ⟨ad184.block,ad184.off+1,none⟩=some (.int .i64 ((rd_T37 (rd_L5 l0_1 x3_2) 0).f1))) (ds:=[]) (Array.replicate 32 false) (by kernel_rfl) rfl rfl ⟨bc_,bc_,(ce_ HB hw181_0),(ce_ HB hw181_0),(ce_ HB hw184_0),(ce_ HB hw184_1)⟩ (fun hHeld=>?_);refine with_tabW spec_PlateOk.tab12 spec_PlateOk.bits12 (fun HT_ HW_=>?_);generalize wr.drew=w51 at BK174 HB HR181_0 hx181_0 hx184_0 hx184_1 hHeld ⊢
                   refine pu_ HT_ 0 52 (bm 32 1) ?_;refine pu_ HT_ 1 53 (bm 32 3) ?_;refine pu_ HT_ 3 55 (bm 32 11) ?_;refine ta6_ HT_ HW_ 2 54 (bm 32 15) hHeld ?_;refine pu_ HT_ 4 56 (bm 32 31) ?_;refine ta6_ HT_ HW_ 5 57 (bm 32 63) hHeld ?_;refine one_ (i:=6) (N:=some 58) (bm 32 127) rfl rfl (one_of HT_.out (by kernel_rfl)) (by decide) (fun K hK=>?_);refine goes_ Tryd.func51 (by kernel_rfl) rfl #[.slice (some ad184) (rd_L5 l0_1 x3_2).length c176_0,.slice A181_0 (rd_L5 l0_1 x5_4).length c181_0] (by rfl) rfl rfl ma_ ?_
                   with_reducible refine (spec_l11Apart.calls k4 _ _ (rd_L5 l0_1 x3_2) _ _ (rd_L5 l0_1 x5_4) true _ ?side1 ?side2 ?side3 ?side4 A35.out).mono ?_
                   (case side1=>repeat (first | exact (Kd.C_below HR176_0.out HB.out) | (with_reducible refine Kd.C_alloc ?_ _) | (with_reducible refine Kd.C_drewN ?_ _) | (with_reducible refine Kd.C_drew ?_)))
                   (case side2=>exact HC176_0.out)
                   (case side3=>repeat (first | exact (Kd.C_below HR181_0.out HB.out) | (with_reducible refine Kd.C_alloc ?_ _) | (with_reducible refine Kd.C_drewN ?_ _) | (with_reducible refine Kd.C_drew ?_)))
                   (case side4=>exact HC181_0.out)
                   rintro e w52 ⟨rfl,hb⟩;refine⟨_,rfl,?_⟩;replace BK174:=vb_ BK174 hb;replace HB:=sb_ HB hb
                   (try clear hb)
                   (try clear hb2)
                   (try clear hk)
                   (try clear hi)
                   refine hK.out _ _ ⟨bc_,bc_,(ce_ HB hw181_0),(ce_ HB hw181_0),(ce_ HB hw184_0),(ce_ HB hw184_1)⟩ (fun hHeld=>?_);clear hK K;refine no_ (h:=?_);refine pu_ HT_ 7 59 (bm 32 255) ?_;refine pu_ HT_ 8 60 (bm 32 511) ?_;refine pu_ HT_ 9 61 (bm 32 1023) ?_;refine pu_ HT_ 11 63 (bm 32 3071) ?_;refine pu_ HT_ 14 66 (bm 32 19455) ?_;refine pu_ HT_ 15 67 (bm 32 52223) ?_;refine ta6_ HT_ HW_ 10 62 (bm 32 53247) hHeld ?_;refine pu_ HT_ 12 64 (bm 32 57343) ?_;refine ta6_ HT_ HW_ 13 65 (bm 32 65535) hHeld ?_;refine ta6_ HT_ HW_ 16 68 (bm 32 131071) hHeld ?_;refine one_ (i:=17) (N:=some 69) (bm 32 262143) rfl rfl (one_of HT_.out (by kernel_rfl)) (by decide) (fun K hK=>?_);refine goes_ Tryd.func50 (by kernel_rfl) rfl #[.slice A181_0 (rd_L5 l0_1 x5_4).length c181_0,.agg #[.int .i64 ((rd_T37 (rd_L5 l0_1 x3_2) 0).f0),.int .i64 ((rd_T37 (rd_L5 l0_1 x3_2) 0).f1)]] (by rfl) rfl rfl ma_ ?_
                   with_reducible refine (spec_l3In.calls _ _ (rd_L5 l0_1 x5_4) ((rd_T37 (rd_L5 l0_1 x3_2) 0).f0) ((rd_T37 (rd_L5 l0_1 x3_2) 0).f1) t185 _ ?side1 ?side2 A38.out).mono ?_
                   (case side1=>repeat (first | exact (Kd.C_below HR181_0.out HB.out) | (with_reducible refine Kd.C_alloc ?_ _) | (with_reducible refine Kd.C_drewN ?_ _) | (with_reducible refine Kd.C_drew ?_)))
                   (case side2=>exact HC181_0.out)
                   rintro e w53 ⟨rfl,hb⟩;refine⟨_,rfl,?_⟩;replace BK174:=vb_ BK174 hb;replace HB:=sb_ HB hb
                   (try clear hb)
                   (try clear hb2)
                   (try clear hk)
                   (try clear hi)
                   refine hK.out _ _ ⟨bc_,bc_,(ce_ HB hw181_0),(ce_ HB hw181_0),(ce_ HB hw184_0),(ce_ HB hw184_1)⟩ (fun hHeld=>?_);clear hK K;refine no_ (h:=?_);refine pu_ HT_ 18 70 (bm 32 524287) ?_;refine pu_ HT_ 19 71 (bm 32 1048575) ?_;refine pu_ HT_ 20 72 (bm 32 2097151) ?_;refine pz_ HT_ 21 73 (bm 32 4194303) ?_;refine pz_ HT_ 22 74 (bm 32 8388607) ?_;refine pz_ HT_ 23 75 (bm 32 16777215) ?_;refine pz_ HT_ 24 76 (bm 32 33554431) ?_;refine pz_ HT_ 25 77 (bm 32 67108863) ?_;refine pz_ HT_ 26 78 (bm 32 134217727) ?_;refine pz_ HT_ 27 79 (bm 32 268435455) ?_;refine pz_ HT_ 28 80 (bm 32 536870911) ?_;refine pz_ HT_ 29 81 (bm 32 1073741823) ?_;refine pz_ HT_ 30 82 (bm 32 2147483647) ?_;refine pu_ HT_ 31 83 (bm 32 4294967295) ?_;refine done_ (done_of HT_.out (by kernel_rfl)) ?_
                   try go_wp2
                   go_ret;exact⟨rr_,hB_⟩
                 ·
                  rw [if_neg c37] at H;exact absurd H (by simp)
                ·
                 replace c36:=Bool.eq_false_iff.mpr c36;subst c36;rw [if_neg (show ¬ (false=true) by decide)] at H
                 (try dsimp only at H)
                 obtain rfl:=Option.some.inj H
                 try go_wp2
                 replace BK174:=a0_ (blk_drew BK174.out);replace HB:=a0_ (below_drew1 HB.out);have p181:0≤(x5_4:Int):=od_;have q181:x5_4<(l0_1.length:Int):=od_;obtain⟨ad181,A181_0,c181_0,e181,hx181_0,hl181_0,hi181_0⟩:=at_L5 HR0_1.out x5_4 p181 q181;have hw181_0:=hx181_0;obtain rfl:ad176=ad181:=(by injection e181);replace hx181_0:=ce_ HB hx181_0;have HR181_0:=Aside0.mk hi181_0;have HC181_0:=Aside0.mk hl181_0;clear hi181_0 hl181_0;replace p181:=eq_true p181;replace q181:=eq_true q181;refine start_ (n:=32) (S:=fun w'=>w'.cell? ⟨gb174,0,none⟩=some (.slice A0_0 l0_0.length c0_0)∧w'.cell? ⟨gb174,1,none⟩=some (.slice (some ad176) l0_1.length c0_1)∧w'.cell? (ad176.add (x5_4).toNat)=some (.slice A181_0 (rd_L5 l0_1 x5_4).length c181_0)) (ds:=[]) (Array.replicate 32 false) (by kernel_rfl) rfl rfl ⟨bc_,bc_,(ce_ HB hw181_0)⟩ (fun hHeld=>?_);refine with_tabW spec_PlateOk.tab12 spec_PlateOk.bits12 (fun HT_ HW_=>?_);generalize wr.drew=w54 at BK174 HB HR181_0 hx181_0 hHeld ⊢
                 refine pu_ HT_ 0 52 (bm 32 1) ?_;refine pu_ HT_ 1 53 (bm 32 3) ?_;refine pu_ HT_ 3 55 (bm 32 11) ?_;refine ta3_ HT_ HW_ 2 54 (bm 32 15) hHeld ?_;refine pu_ HT_ 4 56 (bm 32 31) ?_;refine ta3_ HT_ HW_ 5 57 (bm 32 63) hHeld ?_;refine one_ (i:=6) (N:=some 58) (bm 32 127) rfl rfl (one_of HT_.out (by kernel_rfl)) (by decide) (fun K hK=>?_);refine goes_ Tryd.func51 (by kernel_rfl) rfl #[.slice A176_0 (rd_L5 l0_1 x3_2).length c176_0,.slice A181_0 (rd_L5 l0_1 x5_4).length c181_0] (by rfl) rfl rfl ma_ ?_
                 with_reducible refine (spec_l11Apart.calls k4 _ _ (rd_L5 l0_1 x3_2) _ _ (rd_L5 l0_1 x5_4) false _ ?side1 ?side2 ?side3 ?side4 A35.out).mono ?_
                 (case side1=>repeat (first | exact (Kd.C_below HR176_0.out HB.out) | (with_reducible refine Kd.C_alloc ?_ _) | (with_reducible refine Kd.C_drewN ?_ _) | (with_reducible refine Kd.C_drew ?_)))
                 (case side2=>exact HC176_0.out)
                 (case side3=>repeat (first | exact (Kd.C_below HR181_0.out HB.out) | (with_reducible refine Kd.C_alloc ?_ _) | (with_reducible refine Kd.C_drewN ?_ _) | (with_reducible refine Kd.C_drew ?_)))
                 (case side4=>exact HC181_0.out)
                 rintro e w55 ⟨rfl,hb⟩;refine⟨_,rfl,?_⟩;replace BK174:=vb_ BK174 hb;replace HB:=sb_ HB hb
                 (try clear hb)
                 (try clear hb2)
                 (try clear hk)
                 (try clear hi)
                 refine hK.out _ _ ⟨bc_,bc_,(ce_ HB hw181_0)⟩ (fun hHeld=>?_);clear hK K;refine no_ (h:=?_);refine pu_ HT_ 7 59 (bm 32 255) ?_;refine pu_ HT_ 8 60 (bm 32 511) ?_;refine pz_ HT_ 9 61 (bm 32 1023) ?_;refine pz_ HT_ 10 62 (bm 32 2047) ?_;refine pz_ HT_ 11 63 (bm 32 4095) ?_;refine pz_ HT_ 12 64 (bm 32 8191) ?_;refine pz_ HT_ 13 65 (bm 32 16383) ?_;refine pz_ HT_ 14 66 (bm 32 32767) ?_;refine pz_ HT_ 15 67 (bm 32 65535) ?_;refine pz_ HT_ 16 68 (bm 32 131071) ?_;refine pz_ HT_ 17 69 (bm 32 262143) ?_;refine pz_ HT_ 18 70 (bm 32 524287) ?_;refine pu_ HT_ 19 71 (bm 32 1048575) ?_;refine pu_ HT_ 20 72 (bm 32 2097151) ?_;refine pz_ HT_ 21 73 (bm 32 4194303) ?_;refine pz_ HT_ 22 74 (bm 32 8388607) ?_;refine pz_ HT_ 23 75 (bm 32 16777215) ?_;refine pz_ HT_ 24 76 (bm 32 33554431) ?_;refine pz_ HT_ 25 77 (bm 32 67108863) ?_;refine pz_ HT_ 26 78 (bm 32 134217727) ?_;refine pz_ HT_ 27 79 (bm 32 268435455) ?_;refine pz_ HT_ 28 80 (bm 32 536870911) ?_;refine pz_ HT_ 29 81 (bm 32 1073741823) ?_;refine pz_ HT_ 30 82 (bm 32 2147483647) ?_;refine pu_ HT_ 31 83 (bm 32 4294967295) ?_;refine done_ (done_of HT_.out (by kernel_rfl)) ?_
                 try go_wp2
                 go_ret;exact⟨rr_,hB_⟩
               ·
                rw [if_neg c34] at H;exact absurd H (by simp)
              ·
               rw [if_neg c33] at H;exact absurd H (by simp)
             ·
              rw [if_neg c32] at H;have c32b0:decide (x5_4<x3_2)=false:=decide_eq_false c32;clear c32;have H':=Aside0.mk H;clear H;go_wp2;go_roundg k4
              case measure=>have:=HJ1.out;have:=HK2.out;have:=HJ13.out;have:=HK4.out;omega
              case rel=>exact⟨(wrap64 (x3_2+1)),(by first | rfl | (simp;done) | (simp [*];done)),H',⟨by have:=HJ1.out;have:=HK2.out;have:=HJ13.out;have:=HK4.out;omega⟩,⟨uq_⟩,⟨hB_⟩⟩
       ·
        rw [if_neg c13] at H;exact absurd H (by simp)
      ·
       rw [if_neg c12] at H;have c12b0:decide (x3_2<(l0_1.length:Int))=false:=decide_eq_false c12;clear c12;obtain rfl:=Option.some.inj H;have hcz56_0:=c20_ BK174;have hcz56_1:=c21_ BK174;have hfz56_0:=fz_ BK174 0;have hfz56_1:=fz_ BK174 1;go_wp2;go_ret;exact⟨rr_,hB_⟩
end Go.Proofs.YtailkppkjhkjpaaDoor.X
end
section
set_option linter.unusedVariables false
set_option linter.unusedSimpArgs false
namespace Go.Proofs.YtailkppkjhkjpaaDoor.X
open Go.RowKit Go.Proofs.YtailkppkjhkjpaaDoorW.PrintWords Go.Proofs.YtailkppkjhkjpaaDoorW.PrintLast Go.Proofs.YtailkppkjhkjpaaDoorW.PrintMore
def qmL:Nat→Nat→List Bool
 | 0,_=>[]
 | n+1,m=>(m % 2==1)::qmL n (m / 2)
def qm (n m:Nat):Array Bool:=⟨qmL n m⟩
theorem qp {P:Program}{ops:Array Oper}{Q:Exit→Act→World→Prop}{md:Region.Mode}{S:World→Prop}{ds:List Nat}{oi:Oper}{v:Value}{fuel:Nat}{l:Array Bool}{a a':Act}{w:World}(i N:Nat)(l':Array Bool)(h:wpAnyLast P md ops Q S ds fuel l' a' w)(hi:ops[i]?=some oi:=by rfl)(hN:oi.dst=some N:=by rfl)(hc:anyB md ops l l' i=true:=by kernel_rfl)(hw:Region.wanted oi (yielded ops a.tmps)=true:=by rfl)(hr:∀ w',(execOp a.eval oi).run P w'=.ok (.value v) w':=by (intro w';go_simp;with_reducible rfl))(ha:a.put (some N) v=a':=by (simp only [Act.put,List.setIfInBounds_toArray,List.set_cons_zero,List.set_cons_succ,i64_w,i32_w];rfl))(hQ:∀ c a w,Q (.panic c) (a.put oi.dst v) w→Q (.panic c) a w:=by exact fun _ _ _ h=>h):wpAnyLast P md ops Q S ds (fuel+1) l a w:=pure_ l' hi hN hc hQ (Or.inl ⟨hw,hr⟩) ha h
theorem qt1 {P:Program}{ops:Array Oper}{Q:Exit→Act→World→Prop}{md:Region.Mode}{S:World→Prop}{ds:List Nat}{oi:Oper}{v:Value}{fuel:Nat}{l:Array Bool}{a a':Act}{w:World}(i N:Nat)(l':Array Bool)(hS:S w)(h:wpAnyLast P md ops Q S ds fuel l' a' w)(hi:ops[i]?=some oi:=by rfl)(hN:oi.dst=some N:=by rfl)(hc:takeB md ops ds l l' i=true:=by kernel_rfl)(hw:Region.wanted oi (yielded ops a.tmps)=true:=by rfl)(hr:∀ w',S w'→(execOp a.eval oi).run P w'=.ok (.value v) w':=by (rintro w' s0;go_simp;with_reducible rfl))(ha:a.put (some N) v=a':=by (simp only [Act.put,List.setIfInBounds_toArray,List.set_cons_zero,List.set_cons_succ,i64_w,i32_w];rfl))(hQ:∀ c a w,Q (.panic c) (a.put oi.dst v) w→Q (.panic c) a w:=by exact fun _ _ _ h=>h):wpAnyLast P md ops Q S ds (fuel+1) l a w:=take_ l' hi hN hc hQ (Or.inl ⟨hw,hr⟩) hS ha h
end Go.Proofs.YtailkppkjhkjpaaDoor.X
end
section
set_option linter.unusedVariables false
set_option linter.unusedSimpArgs false
namespace Go.Proofs.YtailkppkjhkjpaaDoor.X
open Go.RowKit Go.Shelf Go.Proofs.YtailkppkjhkjpaaDoorW.PrintWords Go.Proofs.YtailkppkjhkjpaaDoorW.PrintLast Go.Proofs.YtailkppkjhkjpaaDoorW.PrintMore
open Mort (ptOk)
open Txt (fig wrPt wrLoop)
def ptT (p:S37):ByteArray:=⟨(wrPt (ptP p)).toArray⟩
end Go.Proofs.YtailkppkjhkjpaaDoor.X
end
section
set_option linter.unusedVariables false
set_option linter.unusedSimpArgs false
namespace Go.Proofs.YtailkppkjhkjpaaDoor.X
open Go.RowKit Go.Proofs.YtailkppkjhkjpaaDoorW.PrintWords Go.Proofs.YtailkppkjhkjpaaDoorW.PrintLast Go.Proofs.YtailkppkjhkjpaaDoorW.PrintMore
open Mort (edges loopOk ptOk segOk has meet ed pairOk joined apartB)
theorem rd_es (z:List S37){i:Nat}(h:i<z.length):rd_T89 (esOf z) (i:Int)=edS z i:=esOf_getD z h
theorem seg_ends {s:S89}(h:segOk (sgP s)=true):ptOk (s.f0.f0,s.f0.f1)=true∧ptOk (s.f1.f0,s.f1.f1)=true:=⟨((Mort.segOk_iff _).1 h).1,((Mort.segOk_iff _).1 h).2.1⟩
theorem sHasS {s:S89}{x y:Int}(h:segOk (sgP s)=true)(hp:ptOk (x,y)=true):spec_l2Has.f s.f0.f0 s.f0.f1 s.f1.f0 s.f1.f1 x y=some (has (sgP s) (x,y)):=sHas (seg_ends h).1 (seg_ends h).2 hp
theorem sMeetS {s t:S89}(h:segOk (sgP s)=true)(h':segOk (sgP t)=true):spec_l2Meet.f s.f0.f0 s.f0.f1 s.f1.f0 s.f1.f1 t.f0.f0 t.f0.f1 t.f1.f0 t.f1.f1=some (meet (sgP s) (sgP t)):=sMeet (seg_ends h).1 (seg_ends h).2 (seg_ends h').1 (seg_ends h').2
theorem succ64 {i:Nat}(h:i≤100000):wrap64 ((i:Int)+1)=((i+1:Nat):Int):=by rw [w64i (by omega) (by omega)];rfl
def rowJ (l:List Mort.Pt)(i j:Nat):Bool:=decide ((j+1) % l.length=i) || !meet (ed l i) (ed l j)
def rowI (l:List Mort.Pt)(i:Nat):Bool:=joined (ed l i) (ed l ((i+1) % l.length)) && (List.range' (i+2) (l.length-(i+2))).all (rowJ l i)
section
variable (z:List S37) (h8:z.length≤8) (hall:∀ i,i<z.length→segOk (sgP (edS z i))=true)
include h8 hall
theorem loop_l2 (i:Nat)(hi:i<z.length)(R:Bool)(K:Nat)(hR:∀ k,K≤k→spec_LoopOk.l1 k (z.length:Int) (esOf z) ((i+1:Nat):Int)=some R):
  ∀ (m j k:Nat),z.length-j=m→j≤10→K+m+1≤k→spec_LoopOk.l2 k (z.length:Int) (esOf z) (i:Int) (j:Int)=some ((List.range' j m).all (rowJ (z.map ptP) i) && R):=by
 intro m
 induction m with
 | zero =>
  intro j k hm hj hk;obtain⟨k,rfl⟩:∃ q,k=q+1:=⟨k-1,by omega⟩;simp only [spec_LoopOk.l2];rw [if_neg (by omega),succ64 (by omega),hR k (by omega)];simp
 | succ m ih =>
  intro j k hm hj hk;obtain⟨k,rfl⟩:∃ q,k=q+1:=⟨k-1,by omega⟩;simp only [spec_LoopOk.l2];rw [if_pos (by omega),if_neg (by omega),succ64 (by omega)];have ht:Int.tmod ((j+1:Nat):Int) (z.length:Int)=(((j+1) % z.length:Nat):Int):=rfl;rw [ht,List.range'_succ,List.all_cons];by_cases hq:(j+1) % z.length=i
  ·
   rw [if_pos (by omega),ih (j+1) k (by omega) (by omega) (by omega)];have:rowJ (z.map ptP) i j=true:=by unfold rowJ;rw [List.length_map,decide_eq_true hq];rfl
   rw [this,Bool.true_and]
  ·
   rw [if_neg (by omega),if_pos (by omega),if_pos (by rw [esOf_len];omega),if_pos (by omega),if_pos (by rw [esOf_len];omega)];rw [rd_es z hi,rd_es z (by omega),sMeetS (hall i hi) (hall j (by omega)),Option.bind_some];have hrow:rowJ (z.map ptP) i j = !meet (sgP (edS z i)) (sgP (edS z j)):=by unfold rowJ;rw [List.length_map,decide_eq_false hq,ed_edS,ed_edS];rfl
   rw [hrow]
   cases hm2:meet (sgP (edS z i)) (sgP (edS z j)) with
   | true=>rw [if_pos rfl];simp
   | false=>rw [if_neg (by decide),ih (j+1) k (by omega) (by omega) (by omega)];simp
theorem loop_l1:∀ (m i k:Nat),z.length-i=m→i≤z.length→m*20+1≤k→spec_LoopOk.l1 k (z.length:Int) (esOf z) (i:Int)=some ((List.range' i m).all (rowI (z.map ptP))):=by
 intro m
 induction m with
 | zero =>
  intro i k hm hi hk;obtain⟨k,rfl⟩:∃ q,k=q+1:=⟨k-1,by omega⟩;simp only [spec_LoopOk.l1];rw [if_neg (by omega)];simp
 | succ m ih =>
  intro i k hm hi hk;obtain⟨k,rfl⟩:∃ q,k=q+2:=⟨k-2,by omega⟩;simp only [spec_LoopOk.l1];have hlt:=Nat.mod_lt (i+1) (show 0<z.length by omega);have ht:Int.tmod ((i+1:Nat):Int) (z.length:Int)=(((i+1) % z.length:Nat):Int):=rfl;rw [if_pos (by omega),if_pos (by omega),if_pos (by rw [esOf_len];omega),if_neg (by omega),succ64 (by omega),ht,if_pos (by omega),if_pos (by rw [esOf_len];omega)];rw [rd_es z (by omega:i<z.length),rd_es z hlt];generalize hq:(i+1) % z.length=q at hlt;have o1:=hall i (by omega);have o2:=hall q hlt;rw [sHasS o1 (seg_ends o2).2,Option.bind_some,sHasS o2 (seg_ends o1).1,Option.bind_some];have hrow:rowI (z.map ptP) i=((!has (sgP (edS z i)) (sgP (edS z q)).2 && !has (sgP (edS z q)) (sgP (edS z i)).1) && (List.range' (i+2) (z.length-(i+2))).all (rowJ (z.map ptP) i)):=by
   unfold rowI joined;rw [List.length_map,hq,ed_edS,ed_edS]
  have e2:(ptP (edS z q).f1)=((edS z q).f1.f0,(edS z q).f1.f1):=rfl;rw [List.range'_succ,List.all_cons,hrow]
  show (if has (sgP (edS z i)) (sgP (edS z q)).2=true then _ else spec_LoopOk.j2 (k+1) _ _ _ (has (sgP (edS z q)) (sgP (edS z i)).1))=_
  cases has (sgP (edS z i)) (sgP (edS z q)).2 with
  | true=>rw [if_pos rfl];simp only [spec_LoopOk.j2];simp
  | false =>
   rw [if_neg (by decide)];simp only [spec_LoopOk.j2]
   cases has (sgP (edS z q)) (sgP (edS z i)).1 with
   | true=>rw [if_pos rfl];simp
   | false =>
    rw [if_neg (by decide)];have hw:wrap64 ((i:Int)+2)=((i+2:Nat):Int):=by rw [w64i (by omega) (by omega)];rfl
    rw [hw,loop_l2 z h8 hall i (by omega) _ (m*20+1) (fun k hk=>ih (i+1) k (by omega) (by omega) hk) (z.length-(i+2)) (i+2) k rfl (by omega) (by omega)];simp
end
theorem loop_l0 (z:List S37)(h8:z.length≤8):∀ (m i k:Nat),z.length-i=m→i≤z.length→m+200≤k→(∀ j,j<i→segOk (sgP (edS z j))=true) →
  spec_LoopOk.l0 k (z.length:Int) (esOf z) (i:Int)=some ((List.range' i m).all (fun j=>segOk (sgP (edS z j))) && (List.range' 0 z.length).all (rowI (z.map ptP))):=by
 intro m
 induction m with
 | zero =>
  intro i k hm hi hk hp;obtain⟨k,rfl⟩:∃ q,k=q+1:=⟨k-1,by omega⟩;simp only [spec_LoopOk.l0];rw [if_neg (by omega),show (0:Int)=((0:Nat):Int) from rfl,loop_l1 z h8 (fun j hj=>hp j (by omega)) z.length 0 k (by omega) (by omega) (by omega)];simp
 | succ m ih =>
  intro i k hm hi hk hp;obtain⟨k,rfl⟩:∃ q,k=q+1:=⟨k-1,by omega⟩;simp only [spec_LoopOk.l0];rw [if_pos (by omega),if_pos (by omega),if_pos (by rw [esOf_len];omega),rd_es z (by omega:i<z.length),sSegOk,Option.bind_some,List.range'_succ,List.all_cons]
  show (if segOk (sgP (edS z i))=true then _ else _)=_
  cases ho:segOk (sgP (edS z i)) with
  | true =>
   rw [if_pos rfl,succ64 (by omega),ih (i+1) k (by omega) (by omega) (by omega) (fun j hj=>by
    by_cases hji:j=i
    ·
     rw [hji];exact ho
    ·
     exact hp j (by omega))]
   simp
  | false=>rw [if_neg (by decide)];simp
theorem rows_pairs (l:List Mort.Pt)(h3:3≤l.length):(List.range' 0 l.length).all (rowI l)=(List.range l.length).all fun i=>(List.range l.length).all fun j=>pairOk l i j:=by
 rw [Bool.eq_iff_iff];simp only [List.all_eq_true,List.mem_range'_1,List.mem_range];constructor
 ·
  intro h i hi j hj;have row:∀ i,i<l.length→joined (ed l i) (ed l ((i+1) % l.length))=true∧∀ j,i+2≤j→j<l.length→rowJ l i j=true:=fun i hi=>by
   have:=h i ⟨by omega,by omega⟩;unfold rowI at this;simp only [Bool.and_eq_true,List.all_eq_true,List.mem_range'_1] at this;exact⟨this.1,fun j h1 h2=>this.2 j ⟨h1,by omega⟩⟩
  unfold pairOk;by_cases h1:j≤i
  ·
   rw [if_pos h1]
  ·
   rw [if_neg h1];by_cases h2:j=i+1
   ·
    rw [if_pos h2];have:=(row i hi).1
    rwa [Nat.mod_eq_of_lt (by omega),← h2] at this
   ·
    rw [if_neg h2];by_cases h4:i=0∧j+1=l.length
    ·
     rw [if_pos h4];have:=(row j hj).1
     rwa [h4.2,Nat.mod_self,← h4.1] at this
    ·
     rw [if_neg h4];have:=(row i hi).2 j (by omega) hj;unfold rowJ at this;have hne:(j+1) % l.length≠i:=by
      intro e;by_cases hj2:j+1<l.length
      ·
       rw [Nat.mod_eq_of_lt hj2] at e;omega
      ·
       have e2:j+1=l.length:=by omega
       rw [e2,Nat.mod_self] at e;exact h4 ⟨e.symm,e2⟩
     rwa [decide_eq_false hne,Bool.false_or] at this
 ·
  intro h i hi;have hi2:i<l.length:=by omega
  unfold rowI;simp only [Bool.and_eq_true,List.all_eq_true,List.mem_range'_1];refine⟨?_,fun j hj=>?_⟩
  ·
   by_cases h1:i+1<l.length
   ·
    have:=h i hi2 (i+1) h1;unfold pairOk at this;rw [if_neg (by omega),if_pos rfl] at this
    rwa [Nat.mod_eq_of_lt h1]
   ·
    have e2:i+1=l.length:=by omega
    have:=h 0 (by omega) i hi2;unfold pairOk at this;rw [if_neg (by omega),if_neg (by omega),if_pos ⟨rfl,e2⟩] at this
    rwa [e2,Nat.mod_self]
  ·
   unfold rowJ;by_cases hq:(j+1) % l.length=i
   ·
    rw [decide_eq_true hq];rfl
   ·
    rw [decide_eq_false hq,Bool.false_or];have:=h i hi2 j (by omega);unfold pairOk at this;rw [if_neg (by omega),if_neg (by omega),if_neg (fun e=>hq (by rw [e.2,Nat.mod_self];exact e.1.symm))] at this;exact this
theorem sLoopOk {k:Nat}(hk:300≤k)(z:List S37):spec_LoopOk.f k z=some (loopOk (z.map ptP)):=by
 unfold spec_LoopOk.f loopOk;rw [l6In_told,Option.bind_some,List.length_map];have e0:(decide (3≤(z.length:Int)) && decide ((z.length:Int)≤8))=(decide (3≤z.length) && decide (z.length≤8)):=by
  congr 1
  ·
   rw [decide_eq_decide];omega
  ·
   rw [decide_eq_decide];omega
 rw [e0];by_cases hn:3≤z.length∧z.length≤8
 ·
  rw [decide_eq_true hn.1,decide_eq_true hn.2,Bool.and_self,if_pos rfl,sEdges (by omega) (by omega),Option.bind_some,Bool.true_and,show (0:Int)=((0:Nat):Int) from rfl,loop_l0 z hn.2 z.length 0 k (by omega) (by omega) (by omega) (fun j hj=>by omega)];have h3:=rows_pairs (z.map ptP) (by rw [List.length_map];exact hn.1);rw [List.length_map] at h3;rw [h3,Mort.edges_eq,List.length_map,List.all_map,List.range_eq_range']
  congr 3
  funext i
  show _=segOk (ed (z.map ptP) i)
  rw [ed_edS]
 ·
  have:(decide (3≤z.length) && decide (z.length≤8))=false:=by
   by_cases h1:3≤z.length
   ·
    rw [decide_eq_false (show ¬ z.length≤8 from fun h2=>hn ⟨h1,h2⟩),Bool.and_false]
   ·
    rw [decide_eq_false h1,Bool.false_and]
  rw [this,if_neg (by decide),Bool.false_and]
theorem ok_facts {z:List S37}(h:loopOk (z.map ptP)=true):3≤z.length∧z.length≤8∧∀ i,i<z.length→segOk (sgP (edS z i))=true:=by
 obtain⟨h1,h2,h3,_⟩:=(Mort.loopOk_iff _).1 h;rw [List.length_map] at h1 h2;refine⟨h1,h2,fun i hi=>?_⟩;have:=h3 _ (Mort.mem_edges.2 ⟨i,by simpa using hi,rfl⟩)
 rwa [ed_edS] at this
theorem apart_l1 (a b:List S37)(ha:loopOk (a.map ptP)=true)(hb:loopOk (b.map ptP)=true)(i:Nat)(hi:i<a.length)(R:Bool)(K:Nat)(hR:∀ k,K≤k→spec_l11Apart.l0 k (esOf a) (esOf b) ((i+1:Nat):Int)=some R):
  ∀ (m j k:Nat),b.length-j=m→j≤b.length→K+m+1≤k→spec_l11Apart.l1 k (esOf a) (esOf b) (i:Int) (j:Int)=some ((List.range' j m).all (fun j => !meet (sgP (edS a i)) (sgP (edS b j))) && R):=by
 obtain⟨a3,a8,aok⟩:=ok_facts ha;obtain⟨b3,b8,bok⟩:=ok_facts hb;intro m
 induction m with
 | zero =>
  intro j k hm hj hk;obtain⟨k,rfl⟩:∃ q,k=q+1:=⟨k-1,by omega⟩;simp only [spec_l11Apart.l1];rw [if_neg (by rw [esOf_len];omega),succ64 (by omega),hR k (by omega)];simp
 | succ m ih =>
  intro j k hm hj hk;obtain⟨k,rfl⟩:∃ q,k=q+1:=⟨k-1,by omega⟩;simp only [spec_l11Apart.l1];rw [if_pos (by rw [esOf_len];omega),if_pos (by omega),if_pos (by rw [esOf_len];omega),if_pos (by omega),rd_es a hi,rd_es b (by omega),sMeetS (aok i hi) (bok j (by omega)),Option.bind_some,List.range'_succ,List.all_cons]
  cases meet (sgP (edS a i)) (sgP (edS b j)) with
  | true=>rw [if_pos rfl];simp
  | false=>rw [if_neg (by decide),succ64 (by omega),ih (j+1) k (by omega) (by omega) (by omega)];simp
theorem apart_l0 (a b:List S37)(ha:loopOk (a.map ptP)=true)(hb:loopOk (b.map ptP)=true):
  ∀ (m i k:Nat),a.length-i=m→i≤a.length→m*20+1≤k→spec_l11Apart.l0 k (esOf a) (esOf b) (i:Int)=some ((List.range' i m).all (fun i=>(List.range' 0 b.length).all (fun j => !meet (sgP (edS a i)) (sgP (edS b j))))):=by
 obtain⟨a3,a8,aok⟩:=ok_facts ha;obtain⟨b3,b8,bok⟩:=ok_facts hb;intro m
 induction m with
 | zero =>
  intro i k hm hi hk;obtain⟨k,rfl⟩:∃ q,k=q+1:=⟨k-1,by omega⟩;simp only [spec_l11Apart.l0];rw [if_neg (by rw [esOf_len];omega)];simp
 | succ m ih =>
  intro i k hm hi hk;obtain⟨k,rfl⟩:∃ q,k=q+1:=⟨k-1,by omega⟩;simp only [spec_l11Apart.l0]
  rw [if_pos (by rw [esOf_len];omega),List.range'_succ,List.all_cons,show (0:Int)=((0:Nat):Int) from rfl,
   apart_l1 a b ha hb i (by omega) _ (m*20+1) (fun k hk=>ih (i+1) k (by omega) (by omega) hk) b.length 0 k (by omega) (by omega) (by omega)]
theorem sApart {k:Nat}(hk:300≤k){a b:List S37}(ha:loopOk (a.map ptP)=true)(hb:loopOk (b.map ptP)=true):spec_l11Apart.f k a b=some (apartB (a.map ptP) (b.map ptP)):=by
 obtain⟨a3,a8,aok⟩:=ok_facts ha;obtain⟨b3,b8,bok⟩:=ok_facts hb;unfold spec_l11Apart.f apartB;rw [sEdges (by omega) (by omega),sEdges (by omega) (by omega),Option.bind_some,Option.bind_some,show (0:Int)=((0:Nat):Int) from rfl,apart_l0 a b ha hb a.length 0 k (by omega) (by omega) (by omega)];rw [Mort.edges_eq (a.map ptP),Mort.edges_eq (b.map ptP),List.length_map,List.length_map,List.all_map,List.range_eq_range']
 congr 2
 funext i
 show _=((List.range b.length).map (ed (b.map ptP))).all _
 rw [List.all_map,List.range_eq_range']
 congr 1
 funext j
 show _ = !meet (ed (a.map ptP) i) (ed (b.map ptP) j)
 rw [ed_edS,ed_edS]
end Go.Proofs.YtailkppkjhkjpaaDoor.X
end
section
set_option linter.unusedVariables false
set_option linter.unusedSimpArgs false
namespace Mort
end Mort
namespace Go.Proofs.YtailkppkjhkjpaaDoor.X
open Go.RowKit Go.Proofs.YtailkppkjhkjpaaDoorW.PrintWords Go.Proofs.YtailkppkjhkjpaaDoorW.PrintLast Go.Proofs.YtailkppkjhkjpaaDoorW.PrintMore
open Mort (edges loopOk ptOk segOk has meet ed pairOk joined apartB plateOk inOf segMeet)
def pl (o:List S37)(H:List (List S37)):Mort.Plate:=(o.map ptP,H.map (List.map ptP))
theorem fst_pt (z:List S37):(z.map ptP).getD 0 (0,0)=fstP z:=ptP_getD z 0
theorem apart_ix (a b:List S37):apartB (a.map ptP) (b.map ptP)=true ↔ ∀ i,i<a.length→∀ j,j<b.length→meet (sgP (edS a i)) (sgP (edS b j))=false:=by
 rw [Mort.apartB_iff];constructor
 ·
  intro h i hi j hj;rw [← ed_edS,← ed_edS];exact h _ (Mort.mem_edges.2 ⟨i,by simpa using hi,rfl⟩) _ (Mort.mem_edges.2 ⟨j,by simpa using hj,rfl⟩)
 ·
  intro h e he f hf;obtain⟨i,hi,rfl⟩:=Mort.mem_edges.1 he;obtain⟨j,hj,rfl⟩:=Mort.mem_edges.1 hf;rw [ed_edS,ed_edS];exact h i (by simpa using hi) j (by simpa using hj)
theorem meetsB_eq {a b:List S37}(ha:loopOk (a.map ptP)=true)(hb:loopOk (b.map ptP)=true):(!meetsB a b)=apartB (a.map ptP) (b.map ptP):=by
 obtain⟨_,_,aok⟩:=ok_facts ha;obtain⟨_,_,bok⟩:=ok_facts hb;rw [Bool.eq_iff_iff,apart_ix];unfold meetsB;rw [Bool.not_eq_true',List.any_eq_false];constructor
 ·
  intro h i hi j hj;have h1:=h ⟨i,hi⟩ (List.mem_finRange _);rw [Bool.not_eq_true,List.any_eq_false] at h1;have h2:=h1 ⟨j,hj⟩ (List.mem_finRange _)
  cases hm:meet (sgP (edS a i)) (sgP (edS b j)) with
  | false=>rfl
  | true=>exact absurd ((Mort.segMeet_iff _ _).2 ⟨aok i hi,bok j hj,hm⟩) h2
 ·
  intro h i _ h1;rw [List.any_eq_true] at h1;obtain⟨j,_,h2⟩:=h1;have:=h i i.2 j j.2;rw [((Mort.segMeet_iff _ _).1 h2).2.2] at this;cases this
theorem iBodyOk (o:List S37)(H:List (List S37)):bodyOkB o H=plateOk (pl o H):=by
 unfold bodyOkB plateOk pl Mort.nested;simp only [List.length_map]
 match H with
 | [] =>
  simp only [List.length_nil,List.all_nil,List.map_nil,apartAll,nestedAll,List.range'_zero,Bool.and_true,Bool.true_and]
 | [a] =>
  simp only [List.length_cons,List.length_nil,List.all_cons,List.all_nil,List.map_cons,List.map_nil,apartAll,nestedAll,List.range'_succ,List.range'_zero,rowN,okN,Bool.and_true,Bool.true_and,fst_pt,inS,List.getD_cons_zero,beq_self_eq_true,Bool.true_or];cases ho:loopOk (o.map ptP) <;> cases ha:loopOk (a.map ptP) <;> try rfl
  rw [meetsB_eq ho ha];simp [Nat.zero_le]
 | [a,b] =>
  simp only [List.length_cons,List.length_nil,List.all_cons,List.all_nil,List.map_cons,List.map_nil,apartAll,nestedAll,List.range'_succ,List.range'_zero,rowN,okN,Bool.and_true,Bool.true_and,fst_pt,inS,List.getD_cons_zero,List.getD_cons_succ,beq_self_eq_true,Bool.true_or];cases ho:loopOk (o.map ptP) <;> cases ha:loopOk (a.map ptP) <;> cases hb:loopOk (b.map ptP) <;> try rfl
  rw [meetsB_eq ho ha,meetsB_eq ho hb,meetsB_eq ha hb];generalize apartB (o.map ptP) (a.map ptP)=t1;generalize apartB (o.map ptP) (b.map ptP)=t2;generalize apartB (a.map ptP) (b.map ptP)=t3;generalize (inOf (o.map ptP) (fstP a)==1)=t4;generalize (inOf (o.map ptP) (fstP b)==1)=t5;generalize (inOf (b.map ptP) (fstP a) == -1)=t6;generalize (inOf (a.map ptP) (fstP b) == -1)=t7;cases t1 <;> cases t2 <;> cases t3 <;> cases t4 <;> cases t5 <;> cases t6 <;> cases t7 <;> rfl
 | a::b::c::r =>
  rw [decide_eq_false (by simp only [List.length_cons];omega)];rfl
end Go.Proofs.YtailkppkjhkjpaaDoor.X
end
section
set_option linter.unusedVariables false
set_option linter.unusedSimpArgs false
namespace Go.Proofs.YtailkppkjhkjpaaDoor.X
open Go.RowKit Go.Proofs.YtailkppkjhkjpaaDoorW.PrintWords Go.Proofs.YtailkppkjhkjpaaDoorW.PrintLast Go.Proofs.YtailkppkjhkjpaaDoorW.PrintMore
open Mort (edges loopOk ptOk segOk has meet ed pairOk joined apartB plateOk inOf segMeet)
theorem fst_ok {z:List S37}(h:loopOk (z.map ptP)=true):ptOk ((rd_T37 z 0).f0,(rd_T37 z 0).f1)=true:=by
 obtain⟨h3,_,hok⟩:=ok_facts h;exact (seg_ends (hok 0 (by omega))).1
theorem sL3In {z:List S37}{x y:Int}(h:loopOk (z.map ptP)=true)(hp:ptOk (x,y)=true):spec_l3In.f z x y=some (inOf (z.map ptP) (x,y)):=by
 unfold spec_l3In.f;rw [if_pos ⟨h,hp⟩]
theorem sL3Fst {z a:List S37}(h:loopOk (z.map ptP)=true)(ha:loopOk (a.map ptP)=true):spec_l3In.f z (rd_T37 a 0).f0 (rd_T37 a 0).f1=some (inOf (z.map ptP) (fstP a)):=sL3In h (fst_ok ha)
def holeOk (o a:List S37):Bool:=loopOk (a.map ptP) && (inOf (o.map ptP) (fstP a)==1 && apartB (o.map ptP) (a.map ptP))
def pairH (a b:List S37):Bool:=apartB (a.map ptP) (b.map ptP) && (inOf (b.map ptP) (fstP a) == -1 && inOf (a.map ptP) (fstP b) == -1)
theorem plate_hole {o:List S37}{H:List (List S37)}(ho:loopOk (o.map ptP)=true)(i:Nat)(hi:i<H.length){k:Nat}(hk:300≤k):
  spec_PlateOk.l0 (k+2) (i:Int) o H=if holeOk o (rd_L5 H (i:Int)) then spec_PlateOk.l1 k (i:Int) (rd_L5 H (i:Int)) 0 o H else some false:=by
 simp only [spec_PlateOk.l0];rw [if_pos (by omega),if_pos (by omega),sLoopOk (by omega),Option.bind_some];generalize rd_L5 H (i:Int)=a;unfold holeOk
 cases ha:loopOk (a.map ptP) with
 | false=>rw [if_neg (by decide)];simp only [spec_PlateOk.j2];simp
 | true =>
  obtain⟨h3,_,_⟩:=ok_facts ha;rw [if_pos rfl,if_pos (by omega),sL3Fst ho ha,Option.bind_some];by_cases h1:inOf (o.map ptP) (fstP a)=1
  ·
   rw [if_pos h1,sApart (by omega) ho ha,Option.bind_some];simp only [spec_PlateOk.j2];rw [h1];cases apartB (o.map ptP) (a.map ptP) <;> simp
  ·
   rw [if_neg h1,beq_eq_false_iff_ne.2 h1];simp only [spec_PlateOk.j2];simp
theorem sPlateOk {k:Nat}(hk:1000≤k)(o:List S37)(H:List (List S37)):spec_PlateOk.f k o H=some (plateOk (pl o H)):=by
 unfold spec_PlateOk.f;rw [sLoopOk (by omega),Option.bind_some];obtain⟨k,rfl⟩:∃ q,k=q+10:=⟨k-10,by omega⟩
 cases ho:loopOk (o.map ptP) with
 | false =>
  rw [if_neg (by decide)];simp only [spec_PlateOk.j0];unfold plateOk pl;simp only;rw [ho];simp
 | true =>
  rw [if_pos rfl];by_cases h2:H.length≤2
  ·
   rw [decide_eq_false (by omega)];simp only [spec_PlateOk.j0];rw [if_neg (by decide)];unfold plateOk pl Mort.nested;simp only [List.length_map];rw [ho,decide_eq_true h2]
   match H,h2 with
   | [],_=>simp only [spec_PlateOk.l0];simp
   | [a],_ =>
    refine Eq.trans (show spec_PlateOk.l0 (k+9) 0 o [a]=_ from plate_hole (k:=k+7) ho 0 (by simp) (by omega)) ?_;have e1:spec_PlateOk.l1 (k+7) ((0:Nat):Int) a 0 o [a]=some true:=by
     simp only [spec_PlateOk.l1];rw [if_neg (by omega),show wrap64 (((0:Nat):Int)+1)=1 by unfold wrap64;omega];simp only [spec_PlateOk.l0];rw [if_neg (by simp)]
    show (if holeOk o a then spec_PlateOk.l1 (k+7) ((0:Nat):Int) a 0 o [a] else _)=_
    rw [e1];unfold holeOk;simp only [List.map_cons,List.map_nil,List.all_cons,List.all_nil,Bool.and_true,Bool.true_and,fst_pt];generalize loopOk (a.map ptP)=t1;generalize (inOf (o.map ptP) (fstP a)==1)=t2;generalize apartB (o.map ptP) (a.map ptP)=t3;cases t1 <;> cases t2 <;> cases t3 <;> rfl
   | [a,b],_ =>
    refine Eq.trans (show spec_PlateOk.l0 (k+9) 0 o [a,b]=_ from plate_hole (k:=k+7) ho 0 (by simp) (by omega)) ?_;have e1:spec_PlateOk.l1 (k+7) ((0:Nat):Int) a 0 o [a,b]=if holeOk o b then spec_PlateOk.l1 (k+4) ((1:Nat):Int) b 0 o [a,b] else some false:=by
     simp only [spec_PlateOk.l1];rw [if_neg (by omega),show wrap64 (((0:Nat):Int)+1)=((1:Nat):Int) by unfold wrap64;omega,plate_hole (k:=k+4) ho 1 (by simp) (by omega)];rfl
    show (if holeOk o a then spec_PlateOk.l1 (k+7) ((0:Nat):Int) a 0 o [a,b] else _)=_
    rw [e1];have hp:holeOk o a=true→holeOk o b=true→spec_PlateOk.l1 (k+4) ((1:Nat):Int) b 0 o [a,b]=some (pairH b a):=by
     intro h1 h2;have ha:loopOk (a.map ptP)=true:=by unfold holeOk at h1;cases h:loopOk (a.map ptP) with | true=>rfl | false=>rw [h] at h1;cases h1
     have hb:loopOk (b.map ptP)=true:=by unfold holeOk at h2;cases h:loopOk (b.map ptP) with | true=>rfl | false=>rw [h] at h2;cases h2
     obtain⟨a3,_,_⟩:=ok_facts ha;obtain⟨b3,_,_⟩:=ok_facts hb;simp only [spec_PlateOk.l1];rw [if_pos (by omega),if_pos (by omega),if_pos (by simp)];rw [show rd_L5 [a,b] 0=a from rfl,sApart (by omega) hb ha,Option.bind_some];unfold pairH
     cases apartB (b.map ptP) (a.map ptP) with
     | false=>rw [if_neg (by decide)];rfl
     | true =>
      rw [if_pos rfl,if_pos (by omega),sL3Fst ha hb,Option.bind_some];by_cases e1:inOf (a.map ptP) (fstP b) = -1
      ·
       rw [if_pos e1,if_pos (by omega),sL3Fst hb ha,Option.bind_some,e1];by_cases e2:inOf (b.map ptP) (fstP a) = -1
       ·
        rw [if_pos e2,e2];have hw0:wrap64 (0+1)=1:=by unfold wrap64;omega
        rw [hw0,if_neg (by omega)];have hw2:wrap64 (((1:Nat):Int)+1)=2:=by unfold wrap64;omega
        rw [hw2];simp only [spec_PlateOk.l0];rw [if_neg (by simp)];rfl
       ·
        rw [if_neg e2,beq_eq_false_iff_ne.2 e2];rfl
      ·
       rw [if_neg e1,beq_eq_false_iff_ne.2 e1];rfl
    have hc:=Mort.apartB_comm (a.map ptP) (b.map ptP);simp only [List.map_cons,List.map_nil,List.all_cons,List.all_nil,Bool.and_true,Bool.true_and,fst_pt]
    cases h1:holeOk o a with
    | false =>
     rw [if_neg (by decide)];unfold holeOk at h1;revert h1;generalize loopOk (a.map ptP)=t1;generalize (inOf (o.map ptP) (fstP a)==1)=t2;generalize apartB (o.map ptP) (a.map ptP)=t3;intro h1;cases t1 <;> cases t2 <;> cases t3 <;> simp at h1 ⊢
    | true =>
     rw [if_pos rfl]
     cases h2:holeOk o b with
     | false =>
      rw [if_neg (by decide)];unfold holeOk at h2;revert h2;generalize loopOk (b.map ptP)=t1;generalize (inOf (o.map ptP) (fstP b)==1)=t2;generalize apartB (o.map ptP) (b.map ptP)=t3;intro h2;cases t1 <;> cases t2 <;> cases t3 <;> simp at h2 ⊢
     | true =>
      rw [if_pos rfl,hp h1 h2];unfold holeOk at h1 h2;unfold pairH;rw [hc];simp only [Bool.and_eq_true] at h1 h2;rw [h1.1,h1.2.1,h1.2.2,h2.1,h2.2.1,h2.2.2];generalize apartB (b.map ptP) (a.map ptP)=t1;generalize (inOf (b.map ptP) (fstP a) == -1)=t2;generalize (inOf (a.map ptP) (fstP b) == -1)=t3;cases t1 <;> cases t2 <;> cases t3 <;> rfl
  ·
   rw [decide_eq_true (by omega)];simp only [spec_PlateOk.j0];unfold plateOk pl;simp only [List.length_map];rw [decide_eq_false h2];simp
end Go.Proofs.YtailkppkjhkjpaaDoor.X
end
section
set_option linter.unusedVariables false
set_option linter.unusedSimpArgs false
namespace Go.Proofs.YtailkppkjhkjpaaDoor.X
open Go.RowKit Go.Shelf Go.Proofs.YtailkppkjhkjpaaDoorW.PrintWords Go.Proofs.YtailkppkjhkjpaaDoorW.PrintLast Go.Proofs.YtailkppkjhkjpaaDoorW.PrintMore
open Mort (ptOk loopOk plateOk)
open Txt (fig wrPt wrLoop)
theorem ba_size (a:List UInt8):(⟨a.toArray⟩:ByteArray).size=a.length:=rfl
theorem rdL_take {H:List (List S37)}{i:Nat}(hi:i<H.length):H.take (i+1)=H.take i++[rd_L5 H (i:Int)]:=by
 rw [List.take_succ_eq_append_getElem hi]
 congr 2
 show _=H.getD (i:Int).toNat _
 rw [Int.toNat_natCast,List.getD_eq_getElem?_getD,List.getElem?_eq_getElem hi];rfl
end Go.Proofs.YtailkppkjhkjpaaDoor.X
end
section
set_option linter.unusedVariables false
set_option linter.unusedSimpArgs false
namespace Go.Proofs.YtailkppkjhkjpaaDoor.X
open Go.RowKit Go.Shelf Go.Proofs.YtailkppkjhkjpaaDoorW.PrintWords Go.Proofs.YtailkppkjhkjpaaDoorW.PrintLast Go.Proofs.YtailkppkjhkjpaaDoorW.PrintMore
open Mort (ptOk loopOk plateOk)
open Txt (fig wrPt wrLoop allOf cutAt small)
abbrev PlR:=List S37 × List (List S37) × Bool
def badR:PlR:=([],[],false)
def finR (o:List S37)(H:List (List S37)):PlR:=if bodyOkB o H then (o,H,true) else badR
def readLL (t:ByteArray):Option (List S37):=if (readL t).2 then some (readL t).1 else none
def unl (l:List UInt8):Option (List UInt8):=if l.getLast?=some 10 then some l.dropLast else none
def linesR (ls:List ByteArray):PlR:=match allOf readLL ls with | some (o::H)=>finR o H | _=>badR
def readPl (t:ByteArray):PlR:=if t.size≤120 then (match unl t.data.toList with | some u=>linesR (cutB 10 ⟨u.toArray⟩) | none=>badR) else badR
theorem last_app (u:List UInt8)(a:UInt8):(u++[a]).getLast?=some a:=by simp
theorem unl_some {l u:List UInt8}(h:unl l=some u):l=u++[10]:=by
 unfold unl at h
 split at h
 ·
  rename_i hl
  obtain rfl:=Option.some.inj h;rw [List.getLast?_eq_some_iff] at hl;obtain⟨ys,rfl⟩:=hl;rw [List.dropLast_concat]
 ·
  cases h
theorem hasSuffix_nl (t:ByteArray)(hs:t.size≤1000):strings_HasSuffix.f t (⟨#[10]⟩:ByteArray)=some (decide (t.data.toList.getLast?=some 10)):=by
 unfold strings_HasSuffix.f stringslite_HasSuffix.f;have z:(⟨#[10]⟩:ByteArray).size=1:=rfl;have e2:t.data.toList.length=t.size:=by rw [Array.length_toList];rfl
 rw [z];by_cases h0:(t.size:Int)≥((1:Nat):Int)
 ·
  have hw:wrap64 ((t.size:Int)-((1:Nat):Int))=((t.size-1:Nat):Int):=by unfold wrap64;omega
  rw [if_pos h0,hw,if_pos (by omega),if_pos (by omega),Option.bind_some,Int.toNat_natCast]
  congr 1
  rw [Lib.toList_data,Lib.extract_data,Lib.toList_data];obtain⟨ys,y,hy⟩:∃ ys y,t.data.toList=ys++[y]:=by
   have hne:t.data.toList≠[]:=fun e=>by rw [e] at e2;simp at e2;omega
   exact⟨_,_,(List.dropLast_concat_getLast hne).symm⟩
  have hyl:ys.length=t.size-1:=by rw [hy] at e2;simp at e2;omega
  rw [hy,← hyl,List.drop_left,last_app];have e3:t.size-ys.length=1:=by omega
  rw [e3]
  show ([y]==[10])=decide (some y=some 10)
  by_cases hyy:y=10
  ·
   subst hyy;rfl
  ·
   simp [hyy]
 ·
  rw [if_neg h0,Option.bind_some];have:t.data.toList=[]:=List.eq_nil_of_length_eq_zero (by omega);rw [this];rfl
theorem trimSuffix_nl (t:ByteArray)(hs:t.size≤1000){u:List UInt8}(h:unl t.data.toList=some u):strings_TrimSuffix.f t (⟨#[10]⟩:ByteArray)=some ⟨u.toArray⟩:=by
 have hl:=unl_some h;have h2:=hasSuffix_nl t hs;unfold strings_HasSuffix.f at h2;have h3:stringslite_HasSuffix.f t (⟨#[10]⟩:ByteArray)=some true:=by
  cases hh:stringslite_HasSuffix.f t (⟨#[10]⟩:ByteArray) with
  | none=>rw [hh] at h2;cases h2
  | some b =>
   rw [hh,Option.bind_some] at h2;rw [Option.some.inj h2,hl,last_app];rfl
 unfold strings_TrimSuffix.f stringslite_TrimSuffix.f;have z:(⟨#[10]⟩:ByteArray).size=1:=rfl;have e2:t.data.toList.length=t.size:=by rw [Array.length_toList];rfl
 have e3:u.length+1=t.size:=by rw [← e2,hl];simp
 have hw:wrap64 ((t.size:Int)-((1:Nat):Int))=((u.length:Nat):Int):=by unfold wrap64;omega
 rw [h3,Option.bind_some,if_pos rfl,z,hw,if_pos (by omega),if_pos (by omega),Option.bind_some,Int.toNat_natCast]
 congr 1
 apply ByteArray.ext;apply Array.toList_inj.1
 show (t.extract 0 u.length).data.toList=u
 rw [Lib.extract_data,hl];simp
theorem lines_l (ls:List ByteArray)(hl:ls.length≤1000):∀ (m i k:Nat) (o:List S37) (Z:List (List S37)),ls.length-i=m→1≤i→m+1≤k→Z.length≤i→impl_PlateRead.l0 k ls (ls.length:Int) (i:Int) o Z=some (match allOf readLL (ls.drop i) with | some Hs=>finR o (Z++Hs) | none=>badR):=by
 intro m
 induction m with
 | zero =>
  intro i k o Z hm hi hk hz;obtain⟨k,rfl⟩:∃ q,k=q+1:=⟨k-1,by omega⟩;rw [impl_PlateRead.l0,if_neg (by omega),List.drop_eq_nil_of_le (by omega)];unfold impl_PlateOk.f;rw [Option.bind_some];simp only [allOf,List.append_nil];unfold finR;cases bodyOkB o Z <;> rfl
 | succ m ih =>
  intro i k o Z hm hi hk hz;obtain⟨k,rfl⟩:∃ q,k=q+1:=⟨k-1,by omega⟩;have hlt:i<ls.length:=by omega
  obtain⟨x,hx⟩:∃ x,rdOf ByteArray.empty ls (i:Int)=x:=⟨_,rfl⟩;have hd:=allOf_at hlt hx;rw [impl_PlateRead.l0,if_pos (by omega),if_pos (by omega),if_pos (by omega),hx,hd,allOf];unfold impl_LoopRead.f;rw [Option.bind_some];unfold readLL;by_cases hr:(readL x).2=true
  ·
   rw [if_pos hr,if_pos hr,if_neg (by omega),if_pos (by omega),succ64 (by omega),ih (i+1) k _ _ (by omega) (by omega) (by omega) (by simp only [List.length_append,List.length_cons,List.length_nil];omega),Option.bind_some];unfold readLL
   cases allOf (fun t=>if (readL t).2=true then some (readL t).1 else none) (ls.drop (i+1)) with
   | none=>rfl
   | some Hs=>simp
  ·
   rw [if_neg hr,if_neg hr];rfl
theorem lines_f (ls:List ByteArray)(h0:0<ls.length)(hl:ls.length≤1000){k:Nat}(hk:ls.length+1≤k):impl_PlateRead.l0 k ls (ls.length:Int) 0 [] []=some (linesR ls):=by
 obtain⟨k,rfl⟩:∃ q,k=q+1:=⟨k-1,by omega⟩;obtain⟨x,hx⟩:∃ x,rdOf ByteArray.empty ls ((0:Nat):Int)=x:=⟨_,rfl⟩;have hd:=allOf_at h0 hx;rw [List.drop_zero] at hd;have hx0:rdOf ByteArray.empty ls 0=x:=hx;rw [impl_PlateRead.l0,if_pos (by omega),if_pos (by omega),if_pos (by omega),hx0];unfold impl_LoopRead.f linesR;rw [Option.bind_some,hd,allOf];unfold readLL;have ew:wrap64 (0+1)=((1:Nat):Int):=succ64 (i:=0) (by omega);by_cases hr:(readL x).2=true
 ·
  rw [if_pos hr,if_pos rfl,if_pos hr,ew,← hd,lines_l ls hl (ls.length-1) 1 k _ _ rfl (Nat.le_refl _) (by omega) (by simp),Option.bind_some];unfold readLL
  cases allOf (fun t=>if (readL t).2=true then some (readL t).1 else none) (ls.drop (0+1)) with
  | none=>rfl
  | some Hs=>rfl
 ·
  rw [if_neg hr,if_neg hr];rfl
theorem iPlateRead {k:Nat}(hk:200≤k)(t:ByteArray):impl_PlateRead.f k t=some (readPl t):=by
 obtain⟨k,rfl⟩:∃ q,k=q+1:=⟨k-1,by omega⟩;unfold impl_PlateRead.f readPl;by_cases h120:t.size≤120
 ·
  rw [if_neg (by omega),if_pos h120,hasSuffix_nl t (by omega),Option.bind_some,impl_PlateRead.j0]
  cases hu:unl t.data.toList with
  | none =>
   have:¬ t.data.toList.getLast?=some 10:=fun e=>by unfold unl at hu;rw [if_pos e] at hu;cases hu
   rw [decide_eq_false this,if_pos (show (!false)=true from rfl)];rfl
  | some u =>
   have hl:=unl_some hu;have:t.data.toList.getLast?=some 10:=by rw [hl,last_app]
   rw [decide_eq_true this,if_neg (by decide),trimSuffix_nl t (by omega) hu,Option.bind_some];have e2:t.data.toList.length=t.size:=by rw [Array.length_toList];rfl
   have e3:u.length+1=t.size:=by rw [← e2,hl];simp
   have hsp:strings_Split.f ⟨u.toArray⟩ ⟨#[10]⟩=some (cutB 10 ⟨u.toArray⟩):=by unfold strings_Split.f;rw [if_pos (by rw [ba_size];omega)]
   have hcl:=cutB_len 10 ⟨u.toArray⟩;rw [ba_size] at hcl;rw [hsp,Option.bind_some,lines_f _ hcl.1 (by omega) (by omega)]
 ·
  rw [if_pos (by omega),if_neg h120,impl_PlateRead.j0,if_pos rfl];rfl
end Go.Proofs.YtailkppkjhkjpaaDoor.X
end
section
set_option linter.unusedVariables false
set_option linter.unusedSimpArgs false
namespace Go.Proofs.YtailkppkjhkjpaaDoor.X
open Go.RowKit Go.Shelf Go.Proofs.YtailkppkjhkjpaaDoorW.PrintWords Go.Proofs.YtailkppkjhkjpaaDoorW.PrintLast Go.Proofs.YtailkppkjhkjpaaDoorW.PrintMore
def markL (a:Int):List S37→List S37
 | []=>[]
 | _::l=>⟨a,a+1⟩::markL (a+2) l
def endL (a:Int)(l:List S37):Int:=a+2*(l.length:Int)
def markH (a:Int):List (List S37)→List (List S37)
 | []=>[]
 | z::H=>markL a z::markH (endL a z) H
def endH (a:Int):List (List S37)→Int
 | []=>a
 | z::H=>endH (endL a z) H
theorem markL_len:∀ (l:List S37) (a:Int),(markL a l).length=l.length
 | [],_=>rfl
 | _::l,a=>by rw [markL,List.length_cons,List.length_cons,markL_len l]
theorem markH_len:∀ (H:List (List S37)) (a:Int),(markH a H).length=H.length
 | [],_=>rfl
 | _::H,a=>by rw [markH,List.length_cons,List.length_cons,markH_len H]
theorem endH_snoc:∀ (H:List (List S37)) (z:List S37) (a:Int),endH a (H++[z])=endL (endH a H) z
 | [],_,_=>rfl
 | _::H,z,a=>by rw [List.cons_append,endH,endH,endH_snoc H]
theorem markH_at:∀ (H:List (List S37)) (a:Int) (i:Nat),i<H.length→(markH a H)[i]?=some (markL (endH a (H.take i)) (H.getD i []))
 | [],_,i,h=>by simp at h
 | z::H,a,0,_=>rfl
 | z::H,a,i+1,h=>by
  rw [markH,List.getElem?_cons_succ,markH_at H _ i (by simpa using h)];rfl
theorem endH_le:∀ (H:List (List S37)) (a:Int) (m:Nat),(∀ z∈H,z.length≤m)→a≤endH a H∧endH a H≤a+2*m*H.length
 | [],a,m,_=>⟨Int.le_refl _,by simp [endH]⟩
 | z::H,a,m,h=>by
  have hz:=h z (by simp);have ih:=endH_le H (endL a z) m (fun y hy=>h y (List.mem_cons_of_mem _ hy));rw [endH,List.length_cons];have e1:endL a z=a+2*(z.length:Int):=rfl;rw [e1] at ih ⊢
  have e2:2*(m:Int)*((H.length+1:Nat):Int)=2*(m:Int)*(H.length:Int)+2*(m:Int):=by push_cast;rw [Int.mul_add];omega
  rw [e2];omega
theorem markPtS_l:∀ (l P:List S37) (k:Nat) (a:Int),l.length<k→P.length+l.length≤10000→0≤a→a+2*(l.length:Int)≤1000000→laws_markPtS.l0 k (P++l) a (P.length:Int)=some (endL a l,P++markL a l)
 | [],P,k,a,hk,hl,h0,h1=>by
  obtain⟨k,rfl⟩:∃ q,k=q+1:=⟨k-1,by omega⟩;rw [laws_markPtS.l0,if_neg (by rw [List.append_nil];omega)];simp [endL,markL]
 | x::l,P,k,a,hk,hl,h0,h1=>by
  simp only [List.length_cons] at hk hl h1;obtain⟨k,rfl⟩:∃ q,k=q+1:=⟨k-1,by omega⟩;rw [laws_markPtS.l0,if_pos (by rw [List.length_append,List.length_cons];omega),if_pos (by omega),Option.bind_some];have hw1:wrap64 (a+1)=a+1:=by unfold wrap64;omega
  have hw2:wrap64 (a+1+1)=a+2:=by unfold wrap64;omega
  have e2:∀ y y':S37,(P++y::l).set ((P.length:Int)).toNat y'=P++y'::l:=fun y y'=>by
   rw [Int.toNat_natCast,List.set_append_right _ _ (Nat.le_refl _),Nat.sub_self,List.set_cons_zero]
  have e3:∀ y:S37,rd_T37 (P++y::l) (P.length:Int)=y:=fun y=>by
   show (P++y::l).getD (P.length:Int).toNat _=y
   rw [Int.toNat_natCast];simp
  rw [e2,e2,e3 ⟨a,_⟩,hw1,hw2,succ64 (by omega)];have ih:=markPtS_l l (P++[⟨a,a+1⟩]) k (a+2) (by omega) (by rw [List.length_append,List.length_cons,List.length_nil];omega) (by omega) (by push_cast at h1;omega);rw [List.length_append,List.length_cons,List.length_nil,List.append_assoc,List.append_assoc] at ih;refine ih.trans ?_;have:endL (a+2) l=endL a (x::l):=by unfold endL;rw [List.length_cons];push_cast;omega
  rw [this];rfl
theorem markPtS_f (l:List S37)(hl:l.length≤1000){a:Int}(h0:0≤a)(h1:a≤100000):laws_markPtS.f 10001 l a=some (endL a l,markL a l):=
 markPtS_l l [] 10001 a (by omega) (by simp;omega) h0 (by omega)
theorem heldPtS_l:∀ (l P:List S37) (k:Nat) (a:Int),l.length<k→P.length+l.length≤10000→0≤a→a+2*(l.length:Int)≤1000000→laws_heldPtS.l0 k (P++markL a l) a (P.length:Int)=some (endL a l)
 | [],P,k,a,hk,hl,h0,h1=>by
  obtain⟨k,rfl⟩:∃ q,k=q+1:=⟨k-1,by omega⟩;rw [markL,laws_heldPtS.l0,if_neg (by rw [List.append_nil];omega)];simp [endL]
 | x::l,P,k,a,hk,hl,h0,h1=>by
  simp only [List.length_cons] at hk hl h1;obtain⟨k,rfl⟩:∃ q,k=q+1:=⟨k-1,by omega⟩;have hw1:wrap64 (a+1)=a+1:=by unfold wrap64;omega
  have hw2:wrap64 (a+1+1)=a+2:=by unfold wrap64;omega
  have e3:∀ (y:S37) (L:List S37),rd_T37 (P++y::L) (P.length:Int)=y:=fun y L=>by
   show (P++y::L).getD (P.length:Int).toNat _=y
   rw [Int.toNat_natCast];simp
  rw [markL,laws_heldPtS.l0,if_pos (by rw [List.length_append,List.length_cons];omega),if_pos (by omega),e3,if_pos rfl,hw1,if_pos rfl,hw2,succ64 (by omega)];have ih:=heldPtS_l l (P++[⟨a,a+1⟩]) k (a+2) (by omega) (by rw [List.length_append,List.length_cons,List.length_nil];omega) (by omega) (by push_cast at h1;omega);rw [List.length_append,List.length_cons,List.length_nil,List.append_assoc] at ih;refine ih.trans ?_
  congr 1
  unfold endL;rw [List.length_cons];push_cast;omega
theorem heldPtS_f {k:Nat}(hk:2000≤k)(l:List S37)(hl:l.length≤1000){a:Int}(h0:0≤a)(h1:a≤100000):laws_heldPtS.f k (markL a l) a=some (endL a l):=
 heldPtS_l l [] k a (by omega) (by simp;omega) h0 (by omega)
theorem heldPtSS_l:∀ (H P:List (List S37)) (k:Nat) (a:Int),H.length+2000<k→P.length+H.length≤1000→(∀ z∈H,z.length≤10)→0≤a→a+20*(H.length:Int)≤100000→laws_heldPtSS.l0 k (P++markH a H) a (P.length:Int)=some (endH a H)
 | [],P,k,a,hk,hl,hz,h0,h1=>by
  obtain⟨k,rfl⟩:∃ q,k=q+1:=⟨k-1,by omega⟩;rw [markH,laws_heldPtSS.l0,if_neg (by rw [List.append_nil];omega)];rfl
 | z::H,P,k,a,hk,hl,hz,h0,h1=>by
  simp only [List.length_cons] at hk hl h1;obtain⟨k,rfl⟩:∃ q,k=q+1:=⟨k-1,by omega⟩;have hzz:=hz z (by simp);have e1:endL a z=a+2*(z.length:Int):=rfl;have e3:rd_L5 (P++markL a z::markH (endL a z) H) (P.length:Int)=markL a z:=by
   show (P++markL a z::markH (endL a z) H).getD (P.length:Int).toNat _=_
   rw [Int.toNat_natCast];simp
  push_cast at h1
  rw [markH,laws_heldPtSS.l0,if_pos (by rw [List.length_append,List.length_cons];omega),if_pos (by omega),e3,heldPtS_f (by omega) z (by omega) h0 (by omega),Option.bind_some,if_neg (by omega),succ64 (by omega)];have ih:=heldPtSS_l H (P++[markL a z]) k (endL a z) (by omega) (by rw [List.length_append,List.length_cons,List.length_nil];omega) (fun y hy=>hz y (List.mem_cons_of_mem _ hy)) (by omega) (by omega);rw [List.length_append,List.length_cons,List.length_nil,List.append_assoc] at ih;exact ih
structure SmallP (o:List S37) (H:List (List S37)):Prop where
 o8:o.length≤10
 h2:H.length≤10
 z8:∀ z∈H,z.length≤10
theorem SmallP.pos {o:List S37}{H:List (List S37)}(h:SmallP o H):0≤endH (endL 1 o) H∧endH (endL 1 o) H≤10000:=by
 have:=endH_le H (endL 1 o) 10 h.z8;have h2:=h.h2;have h8:=h.o8;have e1:endL 1 o=1+2*(o.length:Int):=rfl;rw [e1] at this ⊢
 have:2*(10:Int)*(H.length:Int)≤200:=by omega
 omega
theorem heldPlate_f {o:List S37}{H:List (List S37)}(h:SmallP o H):laws_heldPlate.f 5000 (markL 1 o) (markH (endL 1 o) H) 1=some (endH (endL 1 o) H):=by
 have h2:=h.h2;have h8:=h.o8;have hp:=h.pos;have e1:endL 1 o=1+2*(o.length:Int):=rfl;unfold laws_heldPlate.f;rw [heldPtS_f (by omega) o (by omega) (by omega) (by omega),Option.bind_some,if_neg (by omega)];unfold laws_heldPtSS.f;have:=heldPtSS_l H [] 5000 (endL 1 o) (by omega) (by simp;omega) h.z8 (by omega) (by omega);rw [List.nil_append] at this;rw [show (0:Int)=((([]:List (List S37)).length:Nat):Int) from rfl,this,Option.bind_some,if_neg (by simp;omega)]
theorem eqPtS_l (z:List S37)(hl:z.length≤1000):∀ (m i k:Nat),z.length-i=m→m+1≤k→laws_eqPtS.l0 k z z (i:Int)=some true:=by
 intro m
 induction m with
 | zero =>
  intro i k hm hk;obtain⟨k,rfl⟩:∃ q,k=q+1:=⟨k-1,by omega⟩;rw [laws_eqPtS.l0,if_neg (by omega)]
 | succ m ih =>
  intro i k hm hk;obtain⟨k,rfl⟩:∃ q,k=q+1:=⟨k-1,by omega⟩;rw [laws_eqPtS.l0,if_pos (by omega),if_pos (by omega),if_pos (by omega)];unfold laws_eqPt.f;rw [if_pos rfl,if_pos rfl,Option.bind_some,if_pos rfl,succ64 (by omega)];exact ih (i+1) k (by omega) (by omega)
theorem eqPtS_f {k:Nat}(z:List S37)(hl:z.length≤1000)(hk:z.length+1≤k):laws_eqPtS.f k z z=some true:=by
 unfold laws_eqPtS.f;rw [if_pos rfl];exact eqPtS_l z hl z.length 0 k (by omega) hk
theorem eqPtSS_l (H:List (List S37))(hl:H.length≤1000)(hz:∀ z∈H,z.length≤1000):∀ (m i k:Nat),H.length-i=m→m+1100≤k→laws_eqPtSS.l0 k H H (i:Int)=some true:=by
 intro m
 induction m with
 | zero =>
  intro i k hm hk;obtain⟨k,rfl⟩:∃ q,k=q+1:=⟨k-1,by omega⟩;rw [laws_eqPtSS.l0,if_neg (by omega)]
 | succ m ih =>
  intro i k hm hk;obtain⟨k,rfl⟩:∃ q,k=q+1:=⟨k-1,by omega⟩;have hlt:i<H.length:=by omega
  have ht:=rdL_take hlt;obtain⟨z,hze⟩:∃ z,rd_L5 H (i:Int)=z:=⟨_,rfl⟩;rw [hze] at ht;have hzm:z∈H:=List.mem_of_mem_take (i:=i+1) (by rw [ht];simp);have:=hz z hzm;rw [laws_eqPtSS.l0,if_pos (by omega),if_pos (by omega),if_pos (by omega),hze,eqPtS_f z (by omega) (by omega),Option.bind_some,if_pos rfl,succ64 (by omega)];exact ih (i+1) k (by omega) (by omega)
theorem eqPlate_f {o:List S37}{H:List (List S37)}(h:SmallP o H):laws_eqPlate.f 5000 o H o H=some true:=by
 have h2:=h.h2;have h8:=h.o8;unfold laws_eqPlate.f;rw [eqPtS_f o (by omega) (by omega),Option.bind_some,if_pos rfl];unfold laws_eqPtSS.f;have:=eqPtSS_l H (by omega) (fun z hz=>by have:=h.z8 z hz;omega) H.length 0 5000 (by omega) (by omega);rw [if_pos rfl,show (0:Int)=((0:Nat):Int) from rfl,this,Option.bind_some,if_pos rfl]
theorem readPl_small (t:ByteArray):SmallP (readPl t).1 (readPl t).2.1:=by
 have bad:SmallP badR.1 badR.2.1:=⟨by simp [badR],by simp [badR],by intro z hz;simp [badR] at hz⟩;have fin:∀ o H,SmallP (finR o H).1 (finR o H).2.1:=by
  intro o H;unfold finR;by_cases hb:bodyOkB o H=true
  ·
   rw [if_pos hb];obtain⟨h2,h1,hH,_,_⟩:=(bodyOkB_iff o H).1 hb;have lo:=loop_len h1;exact⟨by show o.length≤10;omega,by show H.length≤10;omega,fun z hz=>by have:=loop_len (hH z hz);omega⟩
  ·
   rw [if_neg hb];exact bad
 unfold readPl
 split
 ·
  split
  ·
   unfold linesR
   split
   ·
    exact fin _ _
   ·
    exact bad
  ·
   exact bad
 ·
  exact bad
structure PlAt (w:World) (A:Option Addr) (c:Nat) (B:Option Addr) (d:Nat) (o:List S37) (H:List (List S37)):Prop where
 outer:Kd.C k37 w A o.length o
 capO:o.length≤c
 holes:Kd.C (Kd.slice 37 k37) w B H.length H
 capH:H.length≤d
theorem PlAt.later {w w':World}{A:Option Addr}{c:Nat}{B:Option Addr}{d:Nat}{o:List S37}{H:List (List S37)}(h:PlAt w A c B d o H)(hb:Below w.heap.size w w'):PlAt w' A c B d o H:=⟨Kd.C_below h.outer hb,h.capO,Kd.C_below h.holes hb,h.capH⟩
theorem PlAt.same {w:World}{A:Option Addr}{c:Nat}{B:Option Addr}{d:Nat}{A':Option Addr}{c':Nat}{B':Option Addr}{d':Nat}{o:List S37}{H:List (List S37)}(h:PlAt w A c B d o H)(k:PlAt w A' c' B' d' o H)(hs:SmallP o H):
  Calls Tryd.prog 13 #[.agg #[.slice A o.length c,.slice B H.length d],.agg #[.slice A' o.length c',.slice B' H.length d']] w fun e w'=>e=.returned (.bool true)∧Below w.heap.size w w':=
 laws_eqPlate.calls 5000 A c o B d H A' c' o B' d' H true w h.outer h.capO h.holes h.capH k.outer k.capO k.holes k.capH (eqPlate_f hs)
theorem PlAt.held {w:World}{A:Option Addr}{c:Nat}{B:Option Addr}{d:Nat}{o:List S37}{H:List (List S37)}(h:PlAt w A c B d (markL 1 o) (markH (endL 1 o) H))(hs:SmallP o H){m:Int}(hm:endH (endL 1 o) H=m):
  Calls Tryd.prog 15 #[.agg #[.slice A o.length c,.slice B H.length d],.int .i64 1] w fun e w'=>e=.returned (.int .i64 m)∧Below w.heap.size w w':=by
 have:=laws_heldPlate.calls 5000 A c (markL 1 o) B d (markH (endL 1 o) H) 1 m w h.outer h.capO h.holes h.capH (hm▸heldPlate_f hs);rw [markL_len,markH_len] at this;exact this
theorem S_rows {w:World}{base:Nat}{P:Nat→Prop}{ad:Addr}{n c:Nat}{H:List (List S37)}(h:Kd.S (Kd.slice 37 k37) 23 w base P (.slice (some ad) n c) H):
  ∃ (f:Nat→Nat) (g:Nat),ad=⟨g,0,none⟩∧∀ i:Nat,i<n→∃ v,w.cell? (ad.add i)=some v∧Kd.R k37 37 w base (fun k=>(P k∧k≠g)∧f k=i) v (H.getD i []):=by
 have hn:=(Kd.S_reads' h).1;obtain⟨f,hf⟩:=h;obtain⟨g,rfl⟩:=Kd.R_head hf;refine⟨f,g,rfl,fun i hi=>?_⟩;obtain⟨cs,hcl,hM,hc⟩:=Kd.R_getA hf (([]:List S37),0) (i:Int) (by omega) (by omega);rw [Int.toNat_natCast] at hM hc;have hz:H.zipIdx.getD i ([],0)=(H.getD i [],i):=by
  have hh:H[i]?=some (H.getD i []):=by rw [List.getD_eq_getElem?_getD,List.getElem?_eq_getElem (by omega)];rfl
  rw [List.getD_eq_getElem?_getD,Kd.zip_at hh];rfl
 rw [hz] at hM;obtain⟨v,rfl,hR⟩:=hM;refine⟨v,?_,?_⟩
 ·
  have:=hc 0 v rfl;have e:i*(Kd.tag f (Kd.slice 37 k37)).sz+0=i:=by show i*1+0=i;omega
  rwa [e] at this
 ·
  exact Kd.R_mono hR (fun k hk=>⟨⟨hk.1.1,fun e=>hk.1.2 (by subst e;rfl)⟩,hk.2⟩)
set_option maxHeartbeats 4000000 in
set_option maxRecDepth 100000 in
theorem markPtSS_calls (B:Option Addr)(d:Nat)(H:List (List S37))(P:Nat→Prop)(a:Int)(w0 w:World)(hB:Below w0.heap.size w0 w)(hS:Kd.S (Kd.slice 37 k37) 23 w w0.heap.size P (.slice B H.length d) H)(hl:H.length≤10)(hz:∀ z∈H,z.length≤10)(ha0:0≤a)(ha:a≤10000):
  Calls Tryd.prog 42 #[.slice B H.length d,.int .i64 a] w fun e w'=>e=.returned (.int .i64 (endH a H))∧Below w0.heap.size w0 w'∧Kept w w' P∧Kd.C (Kd.slice 37 k37) w' B H.length (markH a H):=by
 have hu23:=Tryd.underlying23;obtain⟨f,g,hfg⟩:∃ (f:Nat→Nat) (g:Nat),∀ i:Nat,i<H.length→B=some ⟨g,0,none⟩∧∃ A c,(∀ w',Kept w w' (fun k=>(P k∧k≠g))→w'.cell? ⟨g,i,none⟩=some (.slice A (H.getD i []).length c))∧Kd.R k37 37 w w0.heap.size (fun k=>(P k∧k≠g)∧f k=i) (.slice A (H.getD i []).length c) (H.getD i []):=by
  cases B with
  | none =>
   refine⟨fun _=>0,0,fun i hi=>?_⟩;obtain⟨g,cap,e,_⟩:=Kd.S_form hS (by omega);cases e
  | some ad =>
   obtain⟨f,g,rfl,hr⟩:=S_rows hS;refine⟨f,g,fun i hi=>⟨rfl,?_⟩⟩;obtain⟨v,h1,h2⟩:=hr i hi;obtain⟨A,c,rfl⟩:=Kd.R_slice h2;refine⟨A,c,?_,h2⟩;rw [add_at,Nat.zero_add] at h1;obtain⟨cells,hb⟩:=Kd.S_typed hS g (by simp [Value.ownBlock]);intro w' hk;rw [blk_cell (blk_kept hb hk (fun h=>h.2 rfl)) i,← h1];exact (blk_cell hb i).symm
 have hend:∀ i,a≤endH a (H.take i)∧endH a (H.take i)≤a+200:=fun i=>by
  have:=endH_le (H.take i) a 10 (fun z hz'=>hz z (List.mem_of_mem_take hz'));have hl2:(H.take i).length≤10:=by rw [List.length_take];omega
  have:2*(10:Int)*((H.take i).length:Int)≤200:=by omega
  omega
 have HR:=Aside0.mk hfg;have HB:=Aside0.mk (And.intro hB (And.intro hl (And.intro ha0 ha)));have HZ:=Aside0.mk (And.intro hz hend);clear hfg hB hS hl hz ha0 ha hend;go_enter Tryd.func42,Tryd.ntmps42;go_wp2;go_loopg [1,5] H.length (fun kq v1 v5 w'=>∃ (i:Nat),v1=.int .i64 (endH a (H.take i))∧v5=.int .i64 (i:Int)∧Aside0 (kq=H.length-i∧i≤H.length∧Below w0.heap.size w0 w'∧Kept w w' (fun k=>(P k∧k≠g)∧f k<i)∧∀ j A c,j<i→(w'.cell? ⟨g,j,none⟩=some (.slice A (H.getD j []).length c))→Kd.R k37 37 w' w0.heap.size (fun k=>(P k∧k≠g)∧f k=j) (.slice A (H.getD j []).length c) (markL (endH a (H.take j)) (H.getD j []))))
 case atStart=>exact⟨0,rfl,rfl,⟨rfl,Nat.zero_le _,HB.out.1,Kept.refl _ _,fun j _ _ hj=>absurd hj (by omega)⟩⟩
 case round =>
  obtain⟨i,rfl,rfl,HI⟩:=hrel;have hi:=HI.out.2.1;by_cases hlt:i<H.length
  ·
   have hd:decide ((i:Int)<(H.length:Int))=true:=decide_eq_true (by omega);have hd2:(i:Int)<(H.length:Int):=by omega
   obtain⟨rfl,A,c,hc,hR⟩:=HR.out i hlt;obtain⟨h1,h2,h5,h6,h7⟩:=HI.out;have hc2:wr.cell? ⟨g,i,none⟩=some (.slice A (H.getD i []).length c):=hc _ (h6.mono (fun _ hk=>hk.1));have hR2:=Kd.R_kept hR h6 (fun k hk hS=>by have:=hk.2;have:=hS.2;omega);obtain⟨z,hz⟩:∃ z,H.getD i []=z:=⟨_,rfl⟩;have hzl:z.length≤10:=HZ.out.1 z (by rw [← hz,List.getD_eq_getElem?_getD,List.getElem?_eq_getElem hlt];exact List.getElem_mem hlt);have hte:H.take (i+1)=H.take i++[z]:=by
    rw [List.take_succ_eq_append_getElem hlt,← hz,List.getD_eq_getElem?_getD,List.getElem?_eq_getElem hlt];rfl
   rw [hz] at hR2 hc2;have hb2:=HZ.out.2 i;have hf:=markPtS_f z (a:=endH a (H.take i)) (by omega) (by have:=HB.out.2.2.1;omega) (by have:=HB.out.2.2.2;omega);have HC:=Aside0.mk (And.intro hR2 (And.intro hf (And.intro h5 (And.intro h6 (And.intro h1 (And.intro hte (And.intro h7 (And.intro hz hc))))))));clear hR hR2 hf h1 h2 h5 h6 h7 hzl hz hc hlt hi hte hb2;go_wp2_with (go_at_call 41;(with_reducible refine (laws_markPtS.calls 10001 _ _ _ _ _ _ w0 _ HC.out.2.2.1 HC.out.1 HC.out.2.1).mono ?_);rintro e w1 ⟨rfl,hr1,hb1,hk1⟩;have HD:=Aside0.mk (And.intro hb1 (And.intro hk1 hr1));clear hb1 hk1 hr1);obtain⟨g1,_,_,h6,h1,hte,h7,hz,hc⟩:=HC.out;have hw:wrap64 ((i:Int)+1)=(i:Int)+1:=by have:=HB.out.2.1;unfold wrap64;omega
   go_roundg (H.length-(i+1))
   case measure=>omega
   case rel =>
    have hkk:Kept w _ (fun k=>(P k∧k≠g)∧f k<i+1):=(h6.mono (fun k hk=>⟨hk.1,by omega⟩)).then_ HD.out.2.1 (fun k hk=>.inl ⟨hk.1,by have:=hk.2;omega⟩);refine⟨i+1,?_,by rw [hw];rfl,⟨rfl,by omega,HD.out.1,hkk,?_⟩⟩
    ·
     rw [hte,endH_snoc]
    ·
     intro j A' c' hj hcell;by_cases hji:j<i
     ·
      have hcj:_:=h7 j A' c' hji (by
       obtain⟨_,A2,c2,hc3,_⟩:=HR.out j (by omega);have e1:=hc3 _ (hkk.mono (fun _ hk=>hk.1));have e2:=hc3 _ (h6.mono (fun _ hk=>hk.1));rw [hcell] at e1
       rw [e2,← e1])
      exact Kd.R_kept hcj HD.out.2.1 (fun k hk hS=>by have:=hk.2;have:=hS.2;omega)
     ·
      obtain rfl:j=i:=by omega
      have e1:=hc _ (hkk.mono (fun _ hk=>hk.1));rw [hcell] at e1;injection e1 with e1;injection e1 with e1 e2 e3;subst e1 e3;rw [hz];exact Kd.R_mono (Kd.R_tight rfl HD.out.2.2) (fun k hk=>g1.1 k hk.symm)
  ·
   obtain rfl:i=H.length:=by omega
   have hd:decide ((H.length:Int)<(H.length:Int))=false:=decide_eq_false (by omega);clear hlt hi;rw [List.take_length];go_wp2;go_ret;obtain⟨_,_,h5,h6,h7⟩:=HI.out;refine⟨rfl,h5,h6.mono (fun _ hk=>hk.1.1),markH_len H a,by have:=HB.out.2.1;omega,fun hn=>?_⟩;obtain⟨rfl,_⟩:=HR.out 0 hn;refine⟨_,rfl,fun j p hp=>?_⟩;have hj:j<H.length:=by have:=(List.getElem?_eq_some_iff.1 hp).1;rwa [markH_len] at this
   rw [markH_at H a j hj] at hp;obtain rfl:=Option.some.inj hp;obtain⟨_,A,c,hc,_⟩:=HR.out j hj;have hcj:=hc _ (h6.mono (fun _ hk=>hk.1));have hRj:=h7 j A c hj hcj;have hr:=Kd.R_reads' hRj;refine⟨[.slice A (H.getD j []).length c],rfl,⟨A,c,by rw [markL_len],by rw [markL_len];exact hr.2.1,hr.2.2⟩,?_⟩;intro i u hu
   cases i with
   | succ i=>simp at hu
   | zero =>
    obtain rfl:=Option.some.inj hu;rw [add_at,Nat.zero_add];have e:j*(Kd.slice 37 k37).sz+0=j:=by show j*1+0=j;omega
    rw [e];exact hcj
structure Fresh (base N:Nat) (w:World) (A:Option Addr) (c:Nat) (B:Option Addr) (d:Nat) (o:List S37) (H:List (List S37)):Prop where
 r0:Kd.R k37 37 w base (fun k=>(base≤k∧k<N)∧some k=(Value.slice A o.length c).ownBlock) (.slice A o.length c) o
 r1:Kd.S (Kd.slice 37 k37) 23 w base (fun k=>(base≤k∧k<N)∧some k≠(Value.slice A o.length c).ownBlock) (.slice B H.length d) H
theorem Fresh.of {w':World}{base:Nat}{v0 v1:Value}{o:List S37}{H:List (List S37)}(h0:Kd.R k37 37 w' base (fun _=>True) v0 o)(h1:Kd.S (Kd.slice 37 k37) 23 w' base (fun k_=>some k_≠(v0:Value).ownBlock) v1 H):
  ∃ A c B d,v0=.slice A o.length c∧v1=.slice B H.length d∧Fresh base w'.heap.size w' A c B d o H:=by
 obtain⟨A,c,rfl⟩:=Kd.R_slice h0;obtain⟨B,d,rfl⟩:=Kd.S_slice h1;exact⟨A,c,B,d,rfl,rfl,⟨Kd.R_mono (Kd.R_bound (Kd.R_tight rfl h0)) (fun k hk=>⟨⟨hk.2.1,hk.2.2.1⟩,hk.1⟩),Kd.S_mono (Kd.S_bound h1) (fun k hk=>⟨⟨hk.2.1,hk.2.2.1⟩,hk.1⟩)⟩⟩
section
variable {base N:Nat} {A:Option Addr} {c:Nat} {B:Option Addr} {d:Nat} {o:List S37} {H:List (List S37)} {w w':World} (h:Fresh base N w A c B d o H)
include h
theorem Fresh.later (hb:Below w.heap.size w w'):Fresh base N w' A c B d o H:=⟨Kd.R_below h.r0 hb,Kd.S_below h.r1 hb⟩
theorem Fresh.kept {Q:Nat→Prop}(hk:Kept w w' Q)(hq:∀ k,k<N→¬ Q k):Fresh base N w' A c B d o H:=⟨Kd.R_kept h.r0 hk (fun k hh=>hq k hh.1.2),Kd.S_kept h.r1 hk (fun k hh=>hq k hh.1.2)⟩
theorem Fresh.at_:PlAt w A c B d o H:=⟨(Kd.R_reads' h.r0).2.2,(Kd.R_reads' h.r0).2.1,(Kd.S_reads' h.r1).2.2,(Kd.S_reads' h.r1).2.1⟩
set_option maxHeartbeats 4000000 in
set_option maxRecDepth 100000 in
theorem Fresh.mark {w0:World}(e0:w0.heap.size=base)(hB:Below w0.heap.size w0 w)(hs:SmallP o H){m:Int}(hm:endH (endL 1 o) H=m):
  Calls Tryd.prog 14 #[.agg #[.slice A o.length c,.slice B H.length d],.int .i64 1] w fun e w'=>e=.returned (.int .i64 m)∧Below w0.heap.size w0 w'∧Kept w w' (fun k=>base≤k∧k<N)∧PlAt w' A c B d (markL 1 o) (markH (endL 1 o) H):=by
 have hu26:=Tryd.underlying26;have hf:=markPtS_f o (a:=1) (by have:=hs.o8;omega) (by decide) (by decide);subst e0;have hal:=below_alloc (Below.refl w.heap.size w) (.cells #[.slice A o.length c,.slice B H.length d] 26);have hF:=h.later hal;have hbx:=blk_new w (.cells #[.slice A o.length c,.slice B H.length d] 26 (0,0));have hne:some w.heap.size≠(Value.slice A o.length c).ownBlock:=fun e=>by have:=Kd.R_lt h.r0 _ e.symm;omega
 have he:0≤endL 1 o∧endL 1 o≤10000:=by have:=hs.o8;unfold endL;omega
 have HK:=Aside0.mk (And.intro hF (And.intro (hB.trans (hal.mono hB.size)) (And.intro hf (And.intro hbx (And.intro hne (And.intro hs (And.intro he hm)))))));clear h hf hal hF hbx hne hB hs he hm;go_enter Tryd.func14,Tryd.ntmps14;go_wp2_with (first | (go_at_call 41;(with_reducible refine (laws_markPtS.calls 10001 _ _ _ _ _ _ w0 _ HK.out.2.1 HK.out.1.r0 HK.out.2.2.1).mono ?_);rintro e w1 ⟨rfl,hr1,hb1,hk1⟩;have c2:w1.cell? ⟨w.heap.size,1,none⟩=some (.slice B H.length d):=(blk_cell (blk_kept HK.out.2.2.2.1 hk1 (fun hh=>HK.out.2.2.2.2.1 hh.2)) 1).trans rfl;have HD:=Aside0.mk (And.intro hb1 (And.intro hk1 (Kd.R_mono (Kd.R_tight rfl hr1) (fun k hk=>HK.out.1.r0.1 k hk.symm))));clear hb1 hk1 hr1) | (go_at_call 42;(with_reducible refine (markPtSS_calls _ _ _ _ _ w0 _ HD.out.1 (Kd.S_kept HK.out.1.r1 HD.out.2.1 (fun k hk hh=>absurd hh.2 hk.2)) HK.out.2.2.2.2.2.1.h2 HK.out.2.2.2.2.2.1.z8 HK.out.2.2.2.2.2.2.1.1 HK.out.2.2.2.2.2.2.1.2).mono ?_);rintro e w2 ⟨rfl,hb2,hk2,hc2⟩;have HE:=Aside0.mk (And.intro hb2 (And.intro hk2 hc2));clear hb2 hk2 hc2));go_ret;have hr2:=Kd.R_kept HD.out.2.2 HE.out.2.1 (fun k hk hh=>absurd hk.2 hh.2);have hr3:=Kd.R_reads' hr2;refine⟨by first | rfl | (rw [HK.out.2.2.2.2.2.2.2];rfl),HE.out.1,(((Kept.refl w _).alloc _).then_ HD.out.2.1 (fun k hk=>.inl hk.1)).then_ HE.out.2.1 (fun k hk=>.inl hk.1),hr3.2.2,?_,?_,?_⟩
 ·
  rw [markL_len];exact (Kd.R_reads' HK.out.1.r0).2.1
 ·
  rw [markH_len];exact HE.out.2.2
 ·
  rw [markH_len];exact (Kd.S_reads' HK.out.1.r1).2.1
end
end Go.Proofs.YtailkppkjhkjpaaDoor.X
end
section
set_option linter.unusedVariables false
set_option linter.unusedSimpArgs false
namespace Go.Proofs.YtailkppkjhkjpaaDoor.X
open Go.RowKit Go.Shelf Go.Proofs.YtailkppkjhkjpaaDoorW.PrintWords Go.Proofs.YtailkppkjhkjpaaDoorW.PrintLast Go.Proofs.YtailkppkjhkjpaaDoorW.PrintMore
open Txt (cutAt cutAt_eq cutAt_cons cutAt_ne)
theorem cut_snoc_eq (c:UInt8):∀ l,cutAt c (l++[c])=cutAt c l++[[]]
 | []=>by rw [List.nil_append,cutAt_eq];rfl
 | a::l=>by
  have ih:=cut_snoc_eq c l;rw [List.cons_append];by_cases h:a=c
  ·
   subst h;rw [cutAt_eq,cutAt_eq,ih,List.cons_append]
  ·
   obtain⟨x,xs,e⟩:=cutAt_ne c l;rw [cutAt_cons h e];rw [e,List.cons_append] at ih;rw [cutAt_cons h ih,List.cons_append]
theorem cut_snoc_ne {c b:UInt8}(hb:b≠c):∀ l,∃ xs x,cutAt c l=xs++[x]∧cutAt c (l++[b])=xs++[x++[b]]
 | []=>⟨[],[],rfl,by rw [List.nil_append,cutAt_cons hb (show cutAt c []=[]::[] from rfl)];rfl⟩
 | a::l=>by
  obtain⟨xs,x,e1,e2⟩:=cut_snoc_ne hb l;rw [List.cons_append];by_cases h:a=c
  ·
   subst h;exact⟨[]::xs,x,by rw [cutAt_eq,e1,List.cons_append],by rw [cutAt_eq,e2,List.cons_append]⟩
  ·
   cases xs with
   | nil=>exact⟨[],a::x,cutAt_cons h e1,cutAt_cons h e2⟩
   | cons y ys =>
    rw [List.cons_append] at e1 e2;exact⟨(a::y)::ys,x,cutAt_cons h e1,cutAt_cons h e2⟩
def cutTo (c:UInt8)(s:ByteArray)(i:Nat):List ByteArray:=(cutAt c (s.data.toList.take i)).map fun l=>⟨l.toArray⟩
theorem byte_at {s:ByteArray}{i:Nat}(h:i<s.size):∃ b:UInt8,bt s (i:Int)=(b.toNat:Int)∧s.data.toList.take (i+1)=s.data.toList.take i++[b]:=by
 have hl:i<s.data.toList.length:=by rw [Array.length_toList];exact h
 refine⟨s.data.toList[i],?_,List.take_succ_eq_append_getElem hl⟩;unfold bt;have h2:(i:Int).toNat<s.size:=h;rw [dif_pos h2];rfl
theorem cutTo_eq {c:UInt8}{s:ByteArray}{i:Nat}(e:s.data.toList.take (i+1)=s.data.toList.take i++[c]):cutTo c s (i+1)=cutTo c s i++[⟨#[]⟩]:=by
 unfold cutTo;rw [e,cut_snoc_eq,List.map_append];rfl
theorem cutTo_ne {c b:UInt8}(hb:b≠c){s:ByteArray}{i:Nat}(e:s.data.toList.take (i+1)=s.data.toList.take i++[b]):∃ xs x,cutTo c s i=xs++[x]∧cutTo c s (i+1)=xs++[x++(⟨#[b]⟩:ByteArray)]∧x.size≤s.size:=by
 obtain⟨xs,x,e1,e2⟩:=cut_snoc_ne hb (s.data.toList.take i);refine⟨xs.map fun l=>⟨l.toArray⟩,⟨x.toArray⟩,?_,?_,?_⟩
 ·
  unfold cutTo;rw [e1,List.map_append];rfl
 ·
  unfold cutTo;rw [e,e2,List.map_append]
  congr 1
 ·
  have:=Txt.cut_piece c (s.data.toList.take i) x (by rw [e1];simp);have e2:s.data.toList.length=s.size:=by rw [Array.length_toList];rfl
  rw [List.length_take] at this
  show x.length≤_
  omega
theorem cutTo_len (c:UInt8)(s:ByteArray)(i:Nat):0<(cutTo c s i).length∧(cutTo c s i).length≤i+1:=by
 unfold cutTo;rw [List.length_map];have:=Txt.cut_len c (s.data.toList.take i);rw [List.length_take] at this;obtain⟨x,xs,h⟩:=cutAt_ne c (s.data.toList.take i);rw [h] at this ⊢
 simp only [List.length_cons] at this ⊢
 omega
theorem one_num (b:UInt8):strOfNums [(b.toNat:Int)]=⟨#[b]⟩:=by
 unfold strOfNums;simp
theorem R_one_string (w:World):Kd.R Kd.string 9 (w.alloc (.cells #[.string ⟨#[]⟩] 9)) w.heap.size (fun _=>True) (.slice (some ⟨w.heap.size,0,none⟩) 1 1) [(⟨#[]⟩:ByteArray)]:=by
 refine Kd.R_of_own ?_ (fun _ _=>trivial);have:=World.ownsRow_lit (base:=w.heap.size) (e:=9) (size:=1) w #[.string ⟨#[]⟩] 1 (Nat.le_refl _) (by decide) rfl
 simpa [encs] using this
def spec_l3Cut.f (s:ByteArray)(c:Int):Option (List ByteArray):=if s.size≤1000∧0≤c∧c≤255 then some (cutB (UInt8.ofNat c.toNat) s) else none
set_option maxHeartbeats 4000000 in
set_option maxRecDepth 100000 in
theorem spec_l3Cut.calls (s:ByteArray)(c:Int)(r:List ByteArray)(w:World)(h:spec_l3Cut.f s c=some r):
  Calls Tryd.prog 37 #[.string s,.int .u8 c] w fun e w'=>∃ v0_:Value,e=.returned v0_∧Kd.R Kd.string 9 w' w.heap.size (fun _=>True) v0_ r∧Below w.heap.size w w':=by
 unfold spec_l3Cut.f at h;by_cases h1:s.size≤1000∧0≤c∧c≤255
 ·
  rw [if_pos h1] at h;obtain⟨k,hk⟩:∃ k:UInt8,UInt8.ofNat c.toNat=k:=⟨_,rfl⟩;have hkc:(k.toNat:Int)=c:=by
   rw [← hk];have:(UInt8.ofNat c.toNat).toNat=c.toNat % 256:=UInt8.toNat_ofNat';omega
  rw [hk] at h;have hr:cutTo k s s.size=r:=by
   have e2:s.data.toList.length=s.size:=by rw [Array.length_toList];rfl
   unfold cutTo;rw [← e2,List.take_length];exact Option.some.inj h
  subst hkc;obtain⟨gb,hgb⟩:∃ gb,w.heap.size=gb:=⟨_,rfl⟩;have hR0:Kd.R Kd.string 9 (w.alloc (.cells #[.string ⟨#[]⟩] 9)) gb (fun _=>True) (.slice (some ⟨gb,0,none⟩) 1 1) (cutTo k s 0):=by subst hgb;exact R_one_string w
  have hB0:Below gb w (w.alloc (.cells #[.string ⟨#[]⟩] 9)):=hgb▸below_alloc (Below.refl _ w) _;have HK:=a0_ (And.intro hr (And.intro h1.1 (And.intro hgb (And.intro hR0 hB0))));clear h hk hr h1 hR0 hB0;go_enter Tryd.func37,Tryd.ntmps37;go_wp2;clear hgb;generalize w.alloc (.cells #[.string ⟨#[]⟩] 9)=W at *;go_loopg [5,6] s.size (fun kq v5 v6 wr=>∃ (i:Nat),v6=.int .i64 (i:Int)∧Aside0 (kq=s.size-i∧i≤s.size∧Below gb w wr∧Kd.R Kd.string 9 wr gb (fun _=>True) v5 (cutTo k s i)))
  case atStart=>exact⟨0,rfl,⟨rfl,Nat.zero_le _,HK.out.2.2.2.2,HK.out.2.2.2.1⟩⟩
  case round =>
   obtain⟨i,rfl,HR⟩:=hrel;have hi:=HR.out.2.1;have hsz:gb≤wr.heap.size:=by have:=HR.out.2.2.1.size;have:=HK.out.2.2.1;omega
   by_cases hlt:i<s.size
   ·
    have hd:decide ((i:Int)<(s.size:Int))=true:=decide_eq_true (by omega);have hd1:decide (i<s.size)=true:=decide_eq_true hlt;have hd2:(i:Int)<(s.size:Int):=by omega
    have hxb:∀ h:i<s.size,(((s[i]'h).toNat:Nat):Int)=bt s (i:Int):=bt_at s (i:Int);obtain⟨b,hb,he⟩:=byte_at hlt;rw [hb] at hxb;have hw:wrap64 ((i:Int)+1)=(i:Int)+1:=by have:=HK.out.2.1;unfold wrap64;omega
    by_cases hbk:b=k
    ·
     subst hbk;have hcut:=cutTo_eq he;have hl16:((cutTo b s i).length+1)*16≤140737488355328:=by have:=(cutTo_len b s i).2;have:=HK.out.2.1;omega
     have HP:=a0_ (And.intro HR.out.2.2.1 (And.intro HR.out.2.2.2 (And.intro hcut (And.intro hl16 (And.intro hsz (And.intro hlt HR.out.1))))));clear HR hcut hl16 hsz he hi hlt hb;go_wp2_with ((with_reducible refine gate_builtin (b:=.append) (xs:=#[.tmp 19,.tmp 20]) rfl ?_);go_loud (at_builtin;refine Kd.R_append Kd.string (w0:=w) gb rfl (.tmp 19) (.tmp 20) 66 9 (.string ⟨#[]⟩) 16 rfl Tryd.underlying66 (show (Tryd.prog.info? 9).map (fun i=>(i.zero,i.size,i.bytes))=some (some (.string ⟨#[]⟩),1,16) by kernel_rfl) rfl (by decide) (by omega) u5 (cutTo b s i) (⟨#[]⟩:ByteArray) [.string ⟨#[]⟩] (fun _=>True) (fun _=>False) rfl rfl rfl (fun _ hk=>hk.elim) (fun _ _=>trivial) HP.out.2.1 HP.out.1 HP.out.2.2.2.2.1 HP.out.2.2.2.1 ?_;intro v2 w3 ho3 hb3 _ _;have H3:=a0_ (And.intro ho3 hb3);clear ho3 hb3));obtain⟨_,_,g3,_,_,g4,g5⟩:=HP.out;obtain⟨o3,b3⟩:=H3.out;rw [← g3] at o3;go_roundg (s.size-(i+1))
     case measure=>omega
     case rel=>exact⟨i+1,by rw [hw];rfl,⟨rfl,g4,b3,o3⟩⟩
    ·
     obtain⟨xs,x,ex,ey,exl⟩:=cutTo_ne hbk he;have hne:((b.toNat:Int)==(k.toNat:Int))=false:=by
      rw [beq_eq_false_iff_ne];intro e;exact hbk (UInt8.toNat_inj.1 (by omega))
     have hR:=HR.out.2.2.2;have hlen:=cutTo_len k s i;obtain⟨g,cap,rfl,hgg,hglt,_⟩:=Kd.R_form hR hlen.1;have hn:(cutTo k s i).length=xs.length+1:=by rw [ex];simp
     have hcl:=Kd.R_cell (⟨#[]⟩:ByteArray) hR (xs.length:Int) (by omega) (by omega);have hx:rdOf (⟨#[]⟩:ByteArray) (cutTo k s i) (xs.length:Int)=x:=by rw [ex];unfold rdOf;rw [Int.toNat_natCast];simp
     rw [hx,Int.toNat_natCast] at hcl;rw [hn] at hR hlen ⊢
     have hw1:wrap64 (xs.length:Int)=(xs.length:Int):=by have:=HK.out.2.1;unfold wrap64;omega
     have hd3:(xs.length:Int)<(xs.length:Int)+1:=by omega
     have hs9:(9223372036854775807<x.size+1)=False:=eq_false (by have:=HK.out.2.1;omega);have HP:=a0_ (And.intro HR.out.2.2.1 (And.intro hR (And.intro ex (And.intro ey (And.intro hsz (And.intro hlt (And.intro HR.out.1 hglt)))))));have HC:=Aside0.mk hcl;clear HR hsz he hi hb hn hx hR hlen;go_wp2;obtain⟨hcl1,hcl2⟩:=HC.out;have hcd:wr.drew.cell? ⟨g,xs.length,none⟩=some (.string x):=hcl1;have hfd:wr.drew.frozen? ⟨g,xs.length,none⟩=false:=hcl2;have hRd:=Kd.R_drew HP.out.2.1;have hBd:Below gb w wr.drew:=pw_below_drewN HP.out.1 1;have hgd:g<wr.drew.heap.size:=HP.out.2.2.2.2.2.2.2;have hsd:gb≤wr.drew.heap.size:=HP.out.2.2.2.2.1;have hlt:i<s.size:=HP.out.2.2.2.2.2.1;have HD:=a0_ (And.intro hRd (And.intro hBd (And.intro hgd hsd)));clear hRd hBd hgd hsd hcl1 hcl2;refine start_ (n:=18) (S:=fun w'=>w'.cell? ⟨g,xs.length,none⟩=some (.string x)) (ds:=[17]) (qm 18 0) (by kernel_rfl) rfl rfl hcd (fun hH=>?_);generalize wr.drew=w0 at *;refine qp 0 22 (qm 18 1) ?_;refine qp 1 23 (qm 18 3) ?_;refine qp 2 24 (qm 18 7) ?_;refine qp 3 25 (qm 18 15) ?_;refine qp 4 26 (qm 18 31) ?_;refine qp 5 27 (qm 18 63) ?_;refine qp 6 28 (qm 18 127) ?_;refine qp 7 29 (qm 18 255) ?_;refine qp 8 30 (qm 18 511) ?_;refine qt1 9 31 (qm 18 1023) hH ?_;refine qp 10 32 (qm 18 2047) ?_;refine qp 11 33 (qm 18 4095) ?_;refine qp 12 34 (qm 18 8191) ?_;refine one_ (i:=13) (N:=some 35) (qm 18 16383) rfl rfl (by kernel_rfl) (by decide) (fun K hK=>?_);refine value_ (w1:=w0.alloc (.cells #[.int .u8 (b.toNat:Int)] 5)) (v:=.slice (some ⟨w0.heap.size,0,none⟩) 1 1) (by rfl) rfl (by first | (go_simp;done) | (go_simp;rfl)) ?_;have hB1:=below_alloc (Below.refl _ w0) (.cells #[.int .u8 (b.toNat:Int)] 5)
     have hO:(w0.alloc (.cells #[.int .u8 (b.toNat:Int)] 5)).ownsRow w0.heap.size 5 1 (.slice (some ⟨w0.heap.size,0,none⟩) 1 1) 1 (nums .u8 [(b.toNat:Int)]):=World.ownsRow_lit w0 #[.int .u8 (b.toNat:Int)] 1 (Nat.le_refl _) (by decide) rfl;have hc1:(w0.alloc (.cells #[.int .u8 (b.toNat:Int)] 5)).cell? ⟨g,xs.length,none⟩=some (.string x):=by rw [World.cell?_alloc_old _ _ _ (Nat.ne_of_lt HD.out.2.2.1)];exact hH
     have hR1:=Kd.R_alloc HD.out.1 (.cells #[.int .u8 (b.toNat:Int)] 5);have hB2:=HD.out.2.1.trans (hB1.mono HD.out.2.2.2);have HE:=a0_ (And.intro hR1 (And.intro hB2 hB1.size));clear hR1 hB2 hB1;obtain⟨w1,hw1e⟩:∃ w1,w0.alloc (.cells #[.int .u8 (b.toNat:Int)] 5)=w1:=⟨_,rfl⟩;rw [hw1e] at hc1 hO HE ⊢
     clear hw1e;refine hK.out _ _ hc1 (fun hH1=>?_);have hcv:=own_string (P:=Tryd.prog) Tryd.underlying22 Tryd.underlying5 Tryd.underlying9 hO;rw [one_num] at hcv;refine one_ (i:=14) (N:=some 36) (qm 18 32767) rfl rfl (by kernel_rfl) (by decide) (fun K hK=>?_);refine value_ (w1:=w1) (v:=.string ⟨#[b]⟩) (by rfl) rfl (by first | (go_simp;done) | (go_simp;rfl)) ?_;refine hK.out _ _ hc1 (fun hH1=>?_);clear hcv;refine qp 15 37 (qm 18 65535) ?_;refine qp 16 38 (qm 18 131071) ?_;have hc2:=Kd.R_celln (⟨#[]⟩:ByteArray) HE.out.1 (xs.length:Int) (by omega) (by omega);rw [Int.toNat_natCast] at hc2;obtain⟨hc3,hf3⟩:=hc2;have hR2:=Kd.R_putn HE.out.1 (xs.length:Int) (x++(⟨#[b]⟩:ByteArray));rw [Int.toNat_natCast,HP.out.2.2.1,List.set_append_right _ _ (Nat.le_refl _),Nat.sub_self,List.set_cons_zero,← HP.out.2.2.2.1] at hR2;have hB3:=HE.out.2.1.setCell (p:=⟨g,xs.length,none⟩) (show gb≤g from hgg) (.string (x++(⟨#[b]⟩:ByteArray)));have HF:=a0_ (And.intro hR2 hB3);clear hR2 hB3 hH1;refine last_ (i:=17) (N:=none) (qm 18 262143) rfl rfl (by kernel_rfl) (by decide) (fun K hK=>?_);refine skip_ (w1:=w1.setCell ⟨g,xs.length,none⟩ (.string (x++(⟨#[b]⟩:ByteArray)))) (by rfl) rfl (by first | (go_simp;done) | (go_simp;rfl)) ?_;refine hK.out _ _ ?_;refine done_ (by kernel_rfl) ?_;obtain⟨w2,hw2e⟩:∃ w2,w1.setCell ⟨g,xs.length,none⟩ (.string (x++(⟨#[b]⟩:ByteArray)))=w2:=⟨_,rfl⟩;rw [hw2e] at HF ⊢
     clear hw2e;clear hK hc3 hf3 hc1 hO hH hcd hfd;go_wp2;obtain⟨_,_,_,_,_,g4,g5,_⟩:=HP.out;go_roundg (s.size-(i+1))
     case measure=>omega
     case rel=>exact⟨i+1,by rw [hw];rfl,⟨rfl,g4,HF.out.2,HF.out.1⟩⟩
   ·
    obtain rfl:i=s.size:=by omega
    have hd:decide ((s.size:Int)<(s.size:Int))=false:=decide_eq_false (by omega);obtain⟨_,_,h3,h4⟩:=HR.out;rw [HK.out.1] at h4;have HJ:=a0_ (And.intro h3 h4);clear HR h3 h4 hlt hi;go_wp2;go_ret;exact⟨_,rfl,HK.out.2.2.1.symm▸HJ.out.2,HK.out.2.2.1.symm▸HJ.out.1⟩
 ·
  rw [if_neg h1] at h;cases h
end Go.Proofs.YtailkppkjhkjpaaDoor.X
end
section
namespace Go.Proofs.YtailkppkjhkjpaaDoor.X
open Go.RowKit Go.Proofs.YtailkppkjhkjpaaDoorW.PrintWords Go.Proofs.YtailkppkjhkjpaaDoorW.PrintLast Go.Proofs.YtailkppkjhkjpaaDoorW.PrintMore
attribute [local go_sem] max2_int min2_int max_two min_two max_three min_three max_four min_four
set_option linter.unusedVariables false
set_option linter.unusedSimpArgs false
def spec_l3Read.l0:Nat→List (S37)→List ByteArray→Int→Option ((List (S37)) × Bool)
 | 0,_,_,_=>none
 | k+1,x4,x5,x6=>if x6<(x5.length:Int) then (if 0≤x6 then (if ((rdOf ByteArray.empty x5 x6).size:Int)=3 then (if 1<((rdOf ByteArray.empty x5 x6).size:Int) then (if (bt (rdOf ByteArray.empty x5 x6) 1)=44 then (if 0<((rdOf ByteArray.empty x5 x6).size:Int) then ((spec_l6In.f (wrap64 (bt (rdOf ByteArray.empty x5 x6) 0)) 48 57).bind fun t491=>(if t491=true then (if 2<((rdOf ByteArray.empty x5 x6).size:Int) then ((spec_l6In.f (wrap64 (bt (rdOf ByteArray.empty x5 x6) 2)) 48 57).bind fun t492=>(if t492=true then (if x4.length<8796093022208 then (spec_l3Read.l0 k (x4++[(⟨((bt (rdOf ByteArray.empty x5 x6) 0)-48) % 256,((bt (rdOf ByteArray.empty x5 x6) 2)-48) % 256⟩:S37)]) x5 (wrap64 (x6+1))) else (none)) else (some ((([]:List (S37))),false)))) else (none)) else (some ((([]:List (S37))),false)))) else (none)) else (some ((([]:List (S37))),false))) else (none)) else (some ((([]:List (S37))),false))) else (none)) else (some (x4,true))
def spec_l3Read.f (k:Nat)(a0:ByteArray):Option ((List (S37)) × Bool):=(spec_l3Cut.f a0 32).bind fun t487=>(spec_l3Read.l0 k (([]:List (S37))) t487 0)
def spec_l3Read.T9:Bool × List (List Nat × List Nat):=(true,[([],[]),([],[]),([1],[1]),([2],[2]),([3],[3]),([],[]),([5],[5]),([6],[6]),([7],[7]),([4,8],[4,8]),([9],[9]),([0,10],[0,10]),([11,11,0,1,2,3,4,5,6,7,8,9,10,11],[0,11])])
def spec_l3Read.B9:List Nat:=[0,0,2,6,14,0,32,96,224,510,1022,2047,4095]
theorem spec_l3Read.tab9:rtab .any (opsOf Tryd.f38 9)=spec_l3Read.T9:=by kernel_rfl
theorem spec_l3Read.bits9:waitsOk spec_l3Read.T9.2 spec_l3Read.B9=true:=by kernel_rfl
set_option maxHeartbeats 8000000 in
set_option maxRecDepth 100000 in
theorem spec_l3Read.calls (k:Nat)(a0:ByteArray)(r1:List (S37))(r2:Bool)(w:World)(h:spec_l3Read.f k a0=some (r1,r2)):
  Calls Tryd.prog 38 #[.string a0] w fun e w'=>∃ v0_:Value,e=.returned (.tuple #[v0_,.bool r2])∧Kd.R k37 37 w' w.heap.size (fun _=>True) v0_ r1∧Below w.heap.size w w':=by
 have hu37:=Tryd.underlying37;have HB:=a0_ (Below.refl w.heap.size w);have H:((spec_l3Cut.f a0 32).bind fun t487=>(spec_l3Read.l0 k (([]:List (S37))) t487 0))=some (r1,r2):=h;clear h;obtain⟨y484,hy484⟩:∃ y_:List (S37),y_=(([]:List (S37))):=⟨_,rfl⟩;replace H:((spec_l3Cut.f a0 32).bind fun t487=>(spec_l3Read.l0 k y484 t487 0))=some (r1,r2):=by first | (rw [hy484];with_reducible exact H) | (have H2_:=(Option.bind_some _ _).symm.trans H;rw [hy484];with_reducible exact H2_) | (have H2_:=(Option.bind_some _ _).symm.trans H;with_reducible exact H2_) | with_reducible exact H | (rw [hy484];exact H) | exact H
 have Ny484:=Aside0.mk hy484;clear hy484;replace H:=Option.bind_eq_some_iff.mp H;obtain⟨t487,A20,H⟩:=H
 (try dsimp only at H)
 have A2:=Aside0.mk A20;clear A20;have H':=Aside0.mk H;clear H;go_enter Tryd.func38,Tryd.ntmps38;go_wp2_with (first | ((with_reducible refine gate_dst (N:=8) rfl ?_);refine Kd.R_lit k37 _ 37 ?hg (N:=8) ?hd (xs:=([]:List (S37))) (inner:=[]) (ok:=fun _=>True) (okp:=fun _=>True) ?hr ?hp (fun _ hk=>hk) trivial (Below.refl _ _) (Nat.le_refl _) (by simp) ?_;(case hd=>rfl);(case hg=>rfl);(case hr=>first | (go_simp;done) | (go_simp;rfl));(case hp=>exact (Reps.none _ _));intro v485 w3 ho4 hb hg_ hnew_;clear hg_ hnew_;(first | rw [← Ny484.out] at ho4 | (simp only [Int.reduceToNat] at ho4;rw [← Ny484.out] at ho4));have HO486:=a0_ (Kd.R_lower ho4 (below_size hB_));replace HB:=sb_ HB hb;clear hb ho4) | ((with_reducible refine gate_callee (f:=37) rfl ?_);refine gL_ (some 10) Tryd.func37 #[.string a0,.int .u8 32] (h:=?_);(with_reducible refine (spec_l3Cut.calls a0 32 t487 _ A2.out).mono ?_);rintro e w5 ⟨v488,rfl,ho0,hb⟩;refine⟨_,rfl,?_⟩;have HO489:=a0_ (Kd.R_lower ho0 (below_size hB_));replace HO486:=rb_ HO486 hb;replace HB:=sb_ HB hb;(try clear ho0 hb)));go_loopg [4,6] k (fun kq v4 v6 w'=>∃ (x4_1:List (S37)) (x6_1:Int),v6=.int .i64 x6_1∧Aside0 (spec_l3Read.l0 kq x4_1 t487 x6_1=some (r1,r2))∧Aside0 (kq≤k)∧Aside0 (Kd.R k37 37 w' w.heap.size (fun _=>True) v4 x4_1)∧Aside0 (Kd.R Kd.string 9 w' w.heap.size (fun _=>True) v488 t487)∧Aside0 (Below w.heap.size w w'))
 case atStart=>exact⟨(y484),(0),(by first | rfl | (simp;done) | (simp [*];done)),H',⟨Nat.le_refl _⟩,⟨by (with_reducible repeat (first | apply Kd.R_alloc | apply Kd.R_drewN | apply Kd.R_drew));exact HO486.out⟩,⟨by (with_reducible repeat (first | apply Kd.R_alloc | apply Kd.R_drewN | apply Kd.R_drew));exact HO489.out⟩,⟨hB_⟩⟩
 case round =>
  clear H';obtain⟨x4_1,x6_1,rfl,HA,HK1,HO_4,HO_5,HB⟩:=hrel
  cases gk with
  | zero=>exact absurd HA.out (by simp [spec_l3Read.l0])
  | succ k1 =>
   have H:=HA.out;clear HA;simp only [spec_l3Read.l0] at H;by_cases c6:x6_1<(t487.length:Int)
   ·
    rw [if_pos c6] at H;have c6b0:decide (x6_1<(t487.length:Int))=true:=decide_eq_true c6;clear c6;by_cases c7:0≤x6_1
    ·
     rw [if_pos c7] at H;have c7b0:decide (0≤x6_1)=true:=decide_eq_true c7;clear c7;by_cases c8:((rdOf ByteArray.empty t487 x6_1).size:Int)=3
     ·
      rw [if_pos c8] at H;have c8b0:(((rdOf ByteArray.empty t487 x6_1).size:Int)==3)=true:=beq_iff_eq.mpr c8;have c8b1:(((rdOf ByteArray.empty t487 x6_1).size:Int) != 3)=false:=bne_eq_false_iff_eq.mpr c8;clear c8;by_cases c9:1<((rdOf ByteArray.empty t487 x6_1).size:Int)
      ·
       rw [if_pos c9] at H;have c9b0:decide (1<((rdOf ByteArray.empty t487 x6_1).size:Int))=true:=decide_eq_true c9;have c9b1:decide (1<(rdOf ByteArray.empty t487 x6_1).size)=true:=decide_eq_true (by omega);clear c9;by_cases c11:(bt (rdOf ByteArray.empty t487 x6_1) 1)=44
       ·
        rw [if_pos c11] at H;have c11b0:((bt (rdOf ByteArray.empty t487 x6_1) 1)==44)=true:=beq_iff_eq.mpr c11;have c11b1:((bt (rdOf ByteArray.empty t487 x6_1) 1) != 44)=false:=bne_eq_false_iff_eq.mpr c11;clear c11;by_cases c12:0<((rdOf ByteArray.empty t487 x6_1).size:Int)
        ·
         rw [if_pos c12] at H;have c12b0:decide (0<((rdOf ByteArray.empty t487 x6_1).size:Int))=true:=decide_eq_true c12;have c12b1:decide (0<(rdOf ByteArray.empty t487 x6_1).size)=true:=decide_eq_true (by omega);clear c12;replace H:=Option.bind_eq_some_iff.mp H;obtain⟨t491,A140,H⟩:=H
         (try dsimp only at H)
         have A14:=Aside0.mk A140;clear A140;by_cases c15:t491=true
         ·
          subst c15;rw [if_pos rfl] at H
          (try dsimp only at H)
          by_cases c16:2<((rdOf ByteArray.empty t487 x6_1).size:Int)
          ·
           rw [if_pos c16] at H;have c16b0:decide (2<((rdOf ByteArray.empty t487 x6_1).size:Int))=true:=decide_eq_true c16;have c16b1:decide (2<(rdOf ByteArray.empty t487 x6_1).size)=true:=decide_eq_true (by omega);clear c16;replace H:=Option.bind_eq_some_iff.mp H;obtain⟨t492,A180,H⟩:=H
           (try dsimp only at H)
           have A18:=Aside0.mk A180;clear A180;by_cases c19:t492=true
           ·
            subst c19;rw [if_pos rfl] at H
            (try dsimp only at H)
            by_cases c22:x4_1.length<8796093022208
            ·
             rw [if_pos c22] at H;have LMc22:=Aside0.mk c22;clear c22;obtain⟨y493,hy493⟩:∃ y_:List (S37),y_=(x4_1++[(⟨((bt (rdOf ByteArray.empty t487 x6_1) 0)-48) % 256,((bt (rdOf ByteArray.empty t487 x6_1) 2)-48) % 256⟩:S37)]):=⟨_,rfl⟩;replace H:(spec_l3Read.l0 k1 y493 t487 (wrap64 (x6_1+1)))=some (r1,r2):=by first | (rw [hy493];with_reducible exact H) | (have H2_:=(Option.bind_some _ _).symm.trans H;rw [hy493];with_reducible exact H2_) | (have H2_:=(Option.bind_some _ _).symm.trans H;with_reducible exact H2_) | with_reducible exact H | (rw [hy493];exact H) | exact H
             have Ny493:=Aside0.mk hy493;clear hy493;have H':=Aside0.mk H;clear H;obtain⟨Ao23,co23,eo23⟩:=Kd.R_slice HO_5.out;subst eo23;have p490:0≤(x6_1:Int):=od_;have q490:x6_1<(t487.length:Int):=od_;obtain⟨ad490,e490,hx490_0⟩:=Kd.at_string (Kd.R_reads' HO_5.out).2.2 x6_1 p490 q490;cases e490;replace p490:=eq_true p490;replace q490:=eq_true q490;have p10:0≤(1:Int):=(by omega);have q10:1<(rdOf ByteArray.empty t487 x6_1).size:=(by have:(1:Int)<((rdOf ByteArray.empty t487 x6_1).size:Int):=od_;omega);have hx10:∀ h:1<(rdOf ByteArray.empty t487 x6_1).size,(((rdOf ByteArray.empty t487 x6_1)[1]'h).toNat:Int)=bt (rdOf ByteArray.empty t487 x6_1) 1:=bt_at (rdOf ByteArray.empty t487 x6_1) 1;clear p10;have qi10:(1<((rdOf ByteArray.empty t487 x6_1).size:Int))=True:=eq_true (od_);replace q10:=eq_true q10;have p13:0≤(0:Int):=(by omega);have q13:0<(rdOf ByteArray.empty t487 x6_1).size:=(by have:(0:Int)<((rdOf ByteArray.empty t487 x6_1).size:Int):=od_;omega);have hx13:∀ h:0<(rdOf ByteArray.empty t487 x6_1).size,(((rdOf ByteArray.empty t487 x6_1)[0]'h).toNat:Int)=bt (rdOf ByteArray.empty t487 x6_1) 0:=bt_at (rdOf ByteArray.empty t487 x6_1) 0;clear p13;have qi13:(0<((rdOf ByteArray.empty t487 x6_1).size:Int))=True:=eq_true (od_);replace q13:=eq_true q13
             try go_wp2_with (first | (go_at_call 52;(with_reducible refine (spec_l6In.calls (wrap64 (bt (rdOf ByteArray.empty t487 x6_1) 0)) 48 57 true _ A14.out).mono ?_);rintro e w' ⟨rfl,⟨nd,rfl⟩⟩;have p17:0≤(2:Int):=(by omega);have q17:2<(rdOf ByteArray.empty t487 x6_1).size:=(by have:(2:Int)<((rdOf ByteArray.empty t487 x6_1).size:Int):=od_;omega);have hx17:∀ h:2<(rdOf ByteArray.empty t487 x6_1).size,(((rdOf ByteArray.empty t487 x6_1)[2]'h).toNat:Int)=bt (rdOf ByteArray.empty t487 x6_1) 2:=bt_at (rdOf ByteArray.empty t487 x6_1) 2;clear p17;have qi17:(2<((rdOf ByteArray.empty t487 x6_1).size:Int))=True:=eq_true (od_);replace q17:=eq_true q17) | (go_at_call 52;(with_reducible refine (spec_l6In.calls (wrap64 (bt (rdOf ByteArray.empty t487 x6_1) 2)) 48 57 true _ A18.out).mono ?_);rintro e w' ⟨rfl,⟨nd,rfl⟩⟩))
             (try (rw [drewN_self wr];generalize hq_:World.drewN wr _=wr;have n0_:Aside0 (Kd.R k37 37 wr w.heap.size (fun _=>True) u4 x4_1):=⟨by rw [← hq_];exact (uR_ HO_4)⟩;have n1_:Aside0 (Kd.R Kd.string 9 wr w.heap.size (fun _=>True) (.slice (some ad490) t487.length co23) t487):=⟨by rw [← hq_];exact (uR_ HO_5)⟩;have n2_:Aside0 (Below w.heap.size w wr):=⟨by rw [← hq_];exact hB_⟩;clear HO_4 HO_5 HB hq_;have HO_4:=n0_;have HO_5:=n1_;have HB:=n2_;clear n0_ n1_ n2_))
             replace HO_4:=a0_ (Kd.R_drew HO_4.out);replace HO_5:=a0_ (Kd.R_drew HO_5.out);replace HB:=a0_ (below_drew1 HB.out);have p20:0≤(0:Int):=(by omega);have q20:0<(rdOf ByteArray.empty t487 x6_1).size:=(by have:(0:Int)<((rdOf ByteArray.empty t487 x6_1).size:Int):=od_;omega);have hx20:∀ h:0<(rdOf ByteArray.empty t487 x6_1).size,(((rdOf ByteArray.empty t487 x6_1)[0]'h).toNat:Int)=bt (rdOf ByteArray.empty t487 x6_1) 0:=bt_at (rdOf ByteArray.empty t487 x6_1) 0;clear p20;have qi20:(0<((rdOf ByteArray.empty t487 x6_1).size:Int))=True:=eq_true (od_);replace q20:=eq_true q20;have p21:0≤(2:Int):=(by omega);have q21:2<(rdOf ByteArray.empty t487 x6_1).size:=(by have:(2:Int)<((rdOf ByteArray.empty t487 x6_1).size:Int):=od_;omega);have hx21:∀ h:2<(rdOf ByteArray.empty t487 x6_1).size,(((rdOf ByteArray.empty t487 x6_1)[2]'h).toNat:Int)=bt (rdOf ByteArray.empty t487 x6_1) 2:=bt_at (rdOf ByteArray.empty t487 x6_1) 2;clear p21;have qi21:(2<((rdOf ByteArray.empty t487 x6_1).size:Int))=True:=eq_true (od_);replace q21:=eq_true q21;refine start_ (n:=13) (S:=fun w'=>True) (ds:=[]) (Array.replicate 13 false) (by kernel_rfl) rfl rfl trivial (fun hHeld=>?_);refine with_tabW spec_l3Read.tab9 spec_l3Read.bits9 (fun HT_ HW_=>?_);generalize wr.drew=w24 at HO_4 HO_5 HB hHeld ⊢
             refine pure_ (i:=0) (N:=some 44) (v:=?_) (a':=?_) (bm 13 1) rfl rfl (any_of HT_.out (by kernel_rfl)) (fun _ _ _ h=>h) (Or.inl ⟨by rfl,?_⟩) ?_ ?_;rotate_left
             ·
              intro w';go_simp
              try simp only [show ∀ z:Int,wrap64 (IntKind.u8.wrap z)=z % 256 from fun z=>by rw [IntKind.wrap_u8];unfold wrap64;omega]
              with_reducible rfl
             rotate_left
             ·
              simp only [Act.put,List.setIfInBounds_toArray,List.set_cons_zero,List.set_cons_succ,i64_w,i32_w];rfl
             refine pure_ (i:=1) (N:=some 45) (v:=?_) (a':=?_) (bm 13 3) rfl rfl (any_of HT_.out (by kernel_rfl)) (fun _ _ _ h=>h) (Or.inl ⟨by rfl,?_⟩) ?_ ?_;rotate_left
             ·
              intro w';go_simp
              try simp only [show ∀ z:Int,wrap64 (IntKind.u8.wrap z)=z % 256 from fun z=>by rw [IntKind.wrap_u8];unfold wrap64;omega]
              with_reducible rfl
             rotate_left
             ·
              simp only [Act.put,List.setIfInBounds_toArray,List.set_cons_zero,List.set_cons_succ,i64_w,i32_w];rfl
             refine pure_ (i:=5) (N:=some 49) (v:=?_) (a':=?_) (bm 13 35) rfl rfl (any_of HT_.out (by kernel_rfl)) (fun _ _ _ h=>h) (Or.inl ⟨by rfl,?_⟩) ?_ ?_;rotate_left
             ·
              intro w';go_simp
              try simp only [show ∀ z:Int,wrap64 (IntKind.u8.wrap z)=z % 256 from fun z=>by rw [IntKind.wrap_u8];unfold wrap64;omega]
              with_reducible rfl
             rotate_left
             ·
              simp only [Act.put,List.setIfInBounds_toArray,List.set_cons_zero,List.set_cons_succ,i64_w,i32_w];rfl
             refine take_ (i:=2) (N:=some 46) (v:=?_) (a':=?_) (bm 13 39) rfl rfl (take_ofW HT_.out HW_.out (by kernel_rfl)) (fun _ _ _ h=>h) (Or.inl ⟨by rfl,?_⟩) hHeld ?_ ?_;rotate_left
             ·
              intro w' _;go_simp
              with_reducible rfl
             rotate_left
             ·
              simp only [Act.put,List.setIfInBounds_toArray,List.set_cons_zero,List.set_cons_succ,i64_w,i32_w];rfl
             refine pure_ (i:=3) (N:=some 47) (v:=?_) (a':=?_) (bm 13 47) rfl rfl (any_of HT_.out (by kernel_rfl)) (fun _ _ _ h=>h) (Or.inl ⟨by rfl,?_⟩) ?_ ?_;rotate_left
             ·
              intro w';go_simp
              try simp only [show ∀ z:Int,wrap64 (IntKind.u8.wrap z)=z % 256 from fun z=>by rw [IntKind.wrap_u8];unfold wrap64;omega]
              with_reducible rfl
             rotate_left
             ·
              simp only [Act.put,List.setIfInBounds_toArray,List.set_cons_zero,List.set_cons_succ,i64_w,i32_w];rfl
             refine pure_ (i:=4) (N:=some 48) (v:=?_) (a':=?_) (bm 13 63) rfl rfl (any_of HT_.out (by kernel_rfl)) (fun _ _ _ h=>h) (Or.inl ⟨by rfl,?_⟩) ?_ ?_;rotate_left
             ·
              intro w';go_simp
              try simp only [show ∀ z:Int,wrap64 (IntKind.u8.wrap z)=z % 256 from fun z=>by rw [IntKind.wrap_u8];unfold wrap64;omega]
              with_reducible rfl
             rotate_left
             ·
              simp only [Act.put,List.setIfInBounds_toArray,List.set_cons_zero,List.set_cons_succ,i64_w,i32_w];rfl
             refine take_ (i:=6) (N:=some 50) (v:=?_) (a':=?_) (bm 13 127) rfl rfl (take_ofW HT_.out HW_.out (by kernel_rfl)) (fun _ _ _ h=>h) (Or.inl ⟨by rfl,?_⟩) hHeld ?_ ?_;rotate_left
             ·
              intro w' _;go_simp
              with_reducible rfl
             rotate_left
             ·
              simp only [Act.put,List.setIfInBounds_toArray,List.set_cons_zero,List.set_cons_succ,i64_w,i32_w];rfl
             refine pure_ (i:=7) (N:=some 51) (v:=?_) (a':=?_) (bm 13 255) rfl rfl (any_of HT_.out (by kernel_rfl)) (fun _ _ _ h=>h) (Or.inl ⟨by rfl,?_⟩) ?_ ?_;rotate_left
             ·
              intro w';go_simp
              try simp only [show ∀ z:Int,wrap64 (IntKind.u8.wrap z)=z % 256 from fun z=>by rw [IntKind.wrap_u8];unfold wrap64;omega]
              with_reducible rfl
             rotate_left
             ·
              simp only [Act.put,List.setIfInBounds_toArray,List.set_cons_zero,List.set_cons_succ,i64_w,i32_w];rfl
             refine pure_ (i:=8) (N:=some 52) (v:=?_) (a':=?_) (bm 13 511) rfl rfl (any_of HT_.out (by kernel_rfl)) (fun _ _ _ h=>h) (Or.inl ⟨by rfl,?_⟩) ?_ ?_;rotate_left
             ·
              intro w';go_simp
              try simp only [show ∀ z:Int,wrap64 (IntKind.u8.wrap z)=z % 256 from fun z=>by rw [IntKind.wrap_u8];unfold wrap64;omega]
              with_reducible rfl
             rotate_left
             ·
              simp only [Act.put,List.setIfInBounds_toArray,List.set_cons_zero,List.set_cons_succ,i64_w,i32_w];rfl
             refine pure_ (i:=9) (N:=some 53) (v:=?_) (a':=?_) (bm 13 1023) rfl rfl (any_of HT_.out (by kernel_rfl)) (fun _ _ _ h=>h) (Or.inl ⟨by rfl,?_⟩) ?_ ?_;rotate_left
             ·
              intro w';go_simp
              try simp only [show ∀ z:Int,wrap64 (IntKind.u8.wrap z)=z % 256 from fun z=>by rw [IntKind.wrap_u8];unfold wrap64;omega]
              with_reducible rfl
             rotate_left
             ·
              simp only [Act.put,List.setIfInBounds_toArray,List.set_cons_zero,List.set_cons_succ,i64_w,i32_w];rfl
             refine one_ (i:=10) (N:=some 54) (bm 13 2047) rfl rfl (one_of HT_.out (by kernel_rfl)) (by decide) (fun K hK=>?_);refine value_ (w1:=?_) (v:=?_) (by rfl) rfl ?_ ?_;rotate_left 2
             ·
              go_simp;constructor
              ·
               rfl
              ·
               rfl
             refine hK.out _ _ trivial (fun hHeld=>?_);clear hK K;refine no_ (h:=?_);refine one_ (i:=11) (N:=some 55) (bm 13 4095) rfl rfl (one_of HT_.out (by kernel_rfl)) (by decide) (fun K hK=>?_);refine Kd.R_append_step k37 (w0:=w) w.heap.size (by rfl) (.tmp 44) (.tmp 54) 23 37 (.agg #[(.int .i64 0),(.int .i64 0)]) 16 rfl Tryd.underlying23 info37 rfl (by decide) (by omega) u4 x4_1 (⟨((bt (rdOf ByteArray.empty t487 x6_1) 0)-48) % 256,((bt (rdOf ByteArray.empty t487 x6_1) 2)-48) % 256⟩:S37) [.int .i64 (((bt (rdOf ByteArray.empty t487 x6_1) 0)-48) % 256),.int .i64 (((bt (rdOf ByteArray.empty t487 x6_1) 2)-48) % 256)] (fun _=>True) (fun _=>False) rfl rfl ?aP (fun _ hk=>hk.elim) ?aF ?aO ?aB ?aS ?aL ?_
             (case aP=>exact k37_mkM _ _ _ (⟨((bt (rdOf ByteArray.empty t487 x6_1) 0)-48) % 256,((bt (rdOf ByteArray.empty t487 x6_1) 2)-48) % 256⟩:S37))
             (case aB=>exact hB_)
             (case aF=>exact (fun _ _=>trivial))
             (case aO=>exact (uR_ HO_4))
             (case aS=>exact (below_size hB_))
             (case aL=>have:=LMc22.out;omega)
             intro v494 w25 ho hb hg hat;rw [← Ny493.out] at ho;have HO495:=a0_ (ho);replace HO_5:=a0_ (Kd.R_over' (uR_ HO_5) (Kd.R_typed (uR_ HO_4)) (by decide) hg);replace HB:=a0_ (hb);clear HO_4;clear ho hb hg hat;refine hK.out _ _ trivial (fun hHeld=>?_);clear hK K;refine no_ (h:=?_);refine pure_ (i:=12) (N:=some 4) (v:=?_) (a':=?_) (bm 13 8191) rfl rfl (any_of HT_.out (by kernel_rfl)) (fun _ _ _ h=>h) (Or.inl ⟨by rfl,?_⟩) ?_ ?_;rotate_left
             ·
              intro w';go_simp
              try simp only [show ∀ z:Int,wrap64 (IntKind.u8.wrap z)=z % 256 from fun z=>by rw [IntKind.wrap_u8];unfold wrap64;omega]
              with_reducible rfl
             rotate_left
             ·
              simp only [Act.put,List.setIfInBounds_toArray,List.set_cons_zero,List.set_cons_succ,i64_w,i32_w];rfl
             refine done_ (done_of HT_.out (by kernel_rfl)) ?_
             try go_wp2
             go_roundg k1
             case measure=>have:=HK1.out;omega
             case rel=>exact⟨(y493),(wrap64 (x6_1+1)),(by first | rfl | (simp;done) | (simp [*];done)),H',⟨by have:=HK1.out;omega⟩,⟨by (with_reducible repeat (first | apply Kd.R_alloc | apply Kd.R_drewN | apply Kd.R_drew));exact HO495.out⟩,⟨by (with_reducible repeat (first | apply Kd.R_alloc | apply Kd.R_drewN | apply Kd.R_drew));exact HO_5.out⟩,⟨hB_⟩⟩
            ·
             rw [if_neg c22] at H;exact absurd H (by simp)
           ·
            replace c19:=Bool.eq_false_iff.mpr c19;subst c19;rw [if_neg (show ¬ (false=true) by decide)] at H
            (try dsimp only at H)
            obtain⟨y496,hy496⟩:∃ y_:List (S37),y_=(([]:List (S37))):=⟨_,rfl⟩;replace H:(some (y496,false))=some (r1,r2):=by first | (rw [hy496];with_reducible exact H) | (have H2_:=(Option.bind_some _ _).symm.trans H;rw [hy496];with_reducible exact H2_) | (have H2_:=(Option.bind_some _ _).symm.trans H;with_reducible exact H2_) | with_reducible exact H | (rw [hy496];exact H) | exact H
            have Ny496:=Aside0.mk hy496;clear hy496;simp only [Option.some.injEq,Prod.mk.injEq] at H;obtain⟨rfl,rfl⟩:=H;obtain⟨Ao26,co26,eo26⟩:=Kd.R_slice HO_5.out;subst eo26;have p490:0≤(x6_1:Int):=od_;have q490:x6_1<(t487.length:Int):=od_;obtain⟨ad490,e490,hx490_0⟩:=Kd.at_string (Kd.R_reads' HO_5.out).2.2 x6_1 p490 q490;cases e490;replace p490:=eq_true p490;replace q490:=eq_true q490;have p10:0≤(1:Int):=(by omega);have q10:1<(rdOf ByteArray.empty t487 x6_1).size:=(by have:(1:Int)<((rdOf ByteArray.empty t487 x6_1).size:Int):=od_;omega);have hx10:∀ h:1<(rdOf ByteArray.empty t487 x6_1).size,(((rdOf ByteArray.empty t487 x6_1)[1]'h).toNat:Int)=bt (rdOf ByteArray.empty t487 x6_1) 1:=bt_at (rdOf ByteArray.empty t487 x6_1) 1;clear p10;have qi10:(1<((rdOf ByteArray.empty t487 x6_1).size:Int))=True:=eq_true (od_);replace q10:=eq_true q10;have p13:0≤(0:Int):=(by omega);have q13:0<(rdOf ByteArray.empty t487 x6_1).size:=(by have:(0:Int)<((rdOf ByteArray.empty t487 x6_1).size:Int):=od_;omega);have hx13:∀ h:0<(rdOf ByteArray.empty t487 x6_1).size,(((rdOf ByteArray.empty t487 x6_1)[0]'h).toNat:Int)=bt (rdOf ByteArray.empty t487 x6_1) 0:=bt_at (rdOf ByteArray.empty t487 x6_1) 0;clear p13;have qi13:(0<((rdOf ByteArray.empty t487 x6_1).size:Int))=True:=eq_true (od_);replace q13:=eq_true q13
            go_wp2_with (first | (go_at_call 52;(with_reducible refine (spec_l6In.calls (wrap64 (bt (rdOf ByteArray.empty t487 x6_1) 0)) 48 57 true _ A14.out).mono ?_);rintro e w' ⟨rfl,⟨nd,rfl⟩⟩;have p17:0≤(2:Int):=(by omega);have q17:2<(rdOf ByteArray.empty t487 x6_1).size:=(by have:(2:Int)<((rdOf ByteArray.empty t487 x6_1).size:Int):=od_;omega);have hx17:∀ h:2<(rdOf ByteArray.empty t487 x6_1).size,(((rdOf ByteArray.empty t487 x6_1)[2]'h).toNat:Int)=bt (rdOf ByteArray.empty t487 x6_1) 2:=bt_at (rdOf ByteArray.empty t487 x6_1) 2;clear p17;have qi17:(2<((rdOf ByteArray.empty t487 x6_1).size:Int))=True:=eq_true (od_);replace q17:=eq_true q17) | (go_at_call 52;(with_reducible refine (spec_l6In.calls (wrap64 (bt (rdOf ByteArray.empty t487 x6_1) 2)) 48 57 false _ A18.out).mono ?_);rintro e w' ⟨rfl,⟨nd,rfl⟩⟩) | ((with_reducible refine gate_dst (N:=43) rfl ?_);refine Kd.R_lit k37 _ 37 ?hg (N:=43) ?hd (xs:=([]:List (S37))) (inner:=[]) (ok:=fun _=>True) (okp:=fun _=>True) ?hr ?hp (fun _ hk=>hk) trivial (Below.refl _ _) (Nat.le_refl _) (by simp) ?_;(case hd=>rfl);(case hg=>rfl);(case hr=>first | (go_simp;done) | (go_simp;rfl));(case hp=>exact (Reps.none _ _));intro v497 w27 ho28 hb hg_ hnew_;clear hg_ hnew_;(first | rw [← Ny496.out] at ho28 | (simp only [Int.reduceToNat] at ho28;rw [← Ny496.out] at ho28));have HO498:=a0_ (Kd.R_lower (Kd.R_new' ho28 (Kd.R_lt (uR_ HO_4))) (below_size hB_));replace HO_4:=a0_ (Kd.R_elder' (uR_ HO_4) (Kd.R_base ho28) hb);replace HO_5:=rb_ HO_5 hb;replace HB:=sb_ HB hb;clear hb ho28));go_ret2;exact⟨_,rr_,by (with_reducible repeat (first | apply Kd.R_alloc | apply Kd.R_drewN | apply Kd.R_drew));exact Kd.R_mono HO498.out (fun _ hk=>trivial),hB_⟩
          ·
           rw [if_neg c16] at H;exact absurd H (by simp)
         ·
          replace c15:=Bool.eq_false_iff.mpr c15;subst c15;rw [if_neg (show ¬ (false=true) by decide)] at H
          (try dsimp only at H)
          obtain⟨y499,hy499⟩:∃ y_:List (S37),y_=(([]:List (S37))):=⟨_,rfl⟩;replace H:(some (y499,false))=some (r1,r2):=by first | (rw [hy499];with_reducible exact H) | (have H2_:=(Option.bind_some _ _).symm.trans H;rw [hy499];with_reducible exact H2_) | (have H2_:=(Option.bind_some _ _).symm.trans H;with_reducible exact H2_) | with_reducible exact H | (rw [hy499];exact H) | exact H
          have Ny499:=Aside0.mk hy499;clear hy499;simp only [Option.some.injEq,Prod.mk.injEq] at H;obtain⟨rfl,rfl⟩:=H;obtain⟨Ao29,co29,eo29⟩:=Kd.R_slice HO_5.out;subst eo29;have p490:0≤(x6_1:Int):=od_;have q490:x6_1<(t487.length:Int):=od_;obtain⟨ad490,e490,hx490_0⟩:=Kd.at_string (Kd.R_reads' HO_5.out).2.2 x6_1 p490 q490;cases e490;replace p490:=eq_true p490;replace q490:=eq_true q490;have p10:0≤(1:Int):=(by omega);have q10:1<(rdOf ByteArray.empty t487 x6_1).size:=(by have:(1:Int)<((rdOf ByteArray.empty t487 x6_1).size:Int):=od_;omega);have hx10:∀ h:1<(rdOf ByteArray.empty t487 x6_1).size,(((rdOf ByteArray.empty t487 x6_1)[1]'h).toNat:Int)=bt (rdOf ByteArray.empty t487 x6_1) 1:=bt_at (rdOf ByteArray.empty t487 x6_1) 1;clear p10;have qi10:(1<((rdOf ByteArray.empty t487 x6_1).size:Int))=True:=eq_true (od_);replace q10:=eq_true q10;have p13:0≤(0:Int):=(by omega);have q13:0<(rdOf ByteArray.empty t487 x6_1).size:=(by have:(0:Int)<((rdOf ByteArray.empty t487 x6_1).size:Int):=od_;omega);have hx13:∀ h:0<(rdOf ByteArray.empty t487 x6_1).size,(((rdOf ByteArray.empty t487 x6_1)[0]'h).toNat:Int)=bt (rdOf ByteArray.empty t487 x6_1) 0:=bt_at (rdOf ByteArray.empty t487 x6_1) 0;clear p13;have qi13:(0<((rdOf ByteArray.empty t487 x6_1).size:Int))=True:=eq_true (od_);replace q13:=eq_true q13
          go_wp2_with (first | (go_at_call 52;(with_reducible refine (spec_l6In.calls (wrap64 (bt (rdOf ByteArray.empty t487 x6_1) 0)) 48 57 false _ A14.out).mono ?_);rintro e w' ⟨rfl,⟨nd,rfl⟩⟩) | ((with_reducible refine gate_dst (N:=43) rfl ?_);refine Kd.R_lit k37 _ 37 ?hg (N:=43) ?hd (xs:=([]:List (S37))) (inner:=[]) (ok:=fun _=>True) (okp:=fun _=>True) ?hr ?hp (fun _ hk=>hk) trivial (Below.refl _ _) (Nat.le_refl _) (by simp) ?_;(case hd=>rfl);(case hg=>rfl);(case hr=>first | (go_simp;done) | (go_simp;rfl));(case hp=>exact (Reps.none _ _));intro v500 w30 ho31 hb hg_ hnew_;clear hg_ hnew_;(first | rw [← Ny499.out] at ho31 | (simp only [Int.reduceToNat] at ho31;rw [← Ny499.out] at ho31));have HO501:=a0_ (Kd.R_lower (Kd.R_new' ho31 (Kd.R_lt (uR_ HO_4))) (below_size hB_));replace HO_4:=a0_ (Kd.R_elder' (uR_ HO_4) (Kd.R_base ho31) hb);replace HO_5:=rb_ HO_5 hb;replace HB:=sb_ HB hb;clear hb ho31));go_ret2;exact⟨_,rr_,by (with_reducible repeat (first | apply Kd.R_alloc | apply Kd.R_drewN | apply Kd.R_drew));exact Kd.R_mono HO501.out (fun _ hk=>trivial),hB_⟩
        ·
         rw [if_neg c12] at H;exact absurd H (by simp)
       ·
        rw [if_neg c11] at H;have c11b0:((bt (rdOf ByteArray.empty t487 x6_1) 1)==44)=false:=beq_eq_false_iff_ne.mpr c11;have c11b1:((bt (rdOf ByteArray.empty t487 x6_1) 1) != 44)=true:=bne_iff_ne.mpr c11;obtain⟨y502,hy502⟩:∃ y_:List (S37),y_=(([]:List (S37))):=⟨_,rfl⟩;replace H:(some (y502,false))=some (r1,r2):=by first | (rw [hy502];with_reducible exact H) | (have H2_:=(Option.bind_some _ _).symm.trans H;rw [hy502];with_reducible exact H2_) | (have H2_:=(Option.bind_some _ _).symm.trans H;with_reducible exact H2_) | with_reducible exact H | (rw [hy502];exact H) | exact H
        have Ny502:=Aside0.mk hy502;clear hy502;simp only [Option.some.injEq,Prod.mk.injEq] at H;obtain⟨rfl,rfl⟩:=H;obtain⟨Ao32,co32,eo32⟩:=Kd.R_slice HO_5.out;subst eo32;have p490:0≤(x6_1:Int):=od_;have q490:x6_1<(t487.length:Int):=od_;obtain⟨ad490,e490,hx490_0⟩:=Kd.at_string (Kd.R_reads' HO_5.out).2.2 x6_1 p490 q490;cases e490;replace p490:=eq_true p490;replace q490:=eq_true q490;have p10:0≤(1:Int):=(by omega);have q10:1<(rdOf ByteArray.empty t487 x6_1).size:=(by have:(1:Int)<((rdOf ByteArray.empty t487 x6_1).size:Int):=od_;omega);have hx10:∀ h:1<(rdOf ByteArray.empty t487 x6_1).size,(((rdOf ByteArray.empty t487 x6_1)[1]'h).toNat:Int)=bt (rdOf ByteArray.empty t487 x6_1) 1:=bt_at (rdOf ByteArray.empty t487 x6_1) 1;clear p10;have qi10:(1<((rdOf ByteArray.empty t487 x6_1).size:Int))=True:=eq_true (od_);replace q10:=eq_true q10;go_wp2_with (first | ((with_reducible refine gate_dst (N:=43) rfl ?_);refine Kd.R_lit k37 _ 37 ?hg (N:=43) ?hd (xs:=([]:List (S37))) (inner:=[]) (ok:=fun _=>True) (okp:=fun _=>True) ?hr ?hp (fun _ hk=>hk) trivial (Below.refl _ _) (Nat.le_refl _) (by simp) ?_;(case hd=>rfl);(case hg=>rfl);(case hr=>first | (go_simp;done) | (go_simp;rfl));(case hp=>exact (Reps.none _ _));intro v503 w33 ho34 hb hg_ hnew_;clear hg_ hnew_;(first | rw [← Ny502.out] at ho34 | (simp only [Int.reduceToNat] at ho34;rw [← Ny502.out] at ho34));have HO504:=a0_ (Kd.R_lower (Kd.R_new' ho34 (Kd.R_lt (uR_ HO_4))) (below_size hB_));replace HO_4:=a0_ (Kd.R_elder' (uR_ HO_4) (Kd.R_base ho34) hb);replace HO_5:=rb_ HO_5 hb;replace HB:=sb_ HB hb;clear hb ho34));go_ret2;exact⟨_,rr_,by (with_reducible repeat (first | apply Kd.R_alloc | apply Kd.R_drewN | apply Kd.R_drew));exact Kd.R_mono HO504.out (fun _ hk=>trivial),hB_⟩
      ·
       rw [if_neg c9] at H;exact absurd H (by simp)
     ·
      rw [if_neg c8] at H;have c8b0:(((rdOf ByteArray.empty t487 x6_1).size:Int)==3)=false:=beq_eq_false_iff_ne.mpr c8;have c8b1:(((rdOf ByteArray.empty t487 x6_1).size:Int) != 3)=true:=bne_iff_ne.mpr c8;obtain⟨y505,hy505⟩:∃ y_:List (S37),y_=(([]:List (S37))):=⟨_,rfl⟩;replace H:(some (y505,false))=some (r1,r2):=by first | (rw [hy505];with_reducible exact H) | (have H2_:=(Option.bind_some _ _).symm.trans H;rw [hy505];with_reducible exact H2_) | (have H2_:=(Option.bind_some _ _).symm.trans H;with_reducible exact H2_) | with_reducible exact H | (rw [hy505];exact H) | exact H
      have Ny505:=Aside0.mk hy505;clear hy505;simp only [Option.some.injEq,Prod.mk.injEq] at H;obtain⟨rfl,rfl⟩:=H;obtain⟨Ao35,co35,eo35⟩:=Kd.R_slice HO_5.out;subst eo35;have p490:0≤(x6_1:Int):=od_;have q490:x6_1<(t487.length:Int):=od_;obtain⟨ad490,e490,hx490_0⟩:=Kd.at_string (Kd.R_reads' HO_5.out).2.2 x6_1 p490 q490;cases e490;replace p490:=eq_true p490;replace q490:=eq_true q490;go_wp2_with (first | ((with_reducible refine gate_dst (N:=43) rfl ?_);refine Kd.R_lit k37 _ 37 ?hg (N:=43) ?hd (xs:=([]:List (S37))) (inner:=[]) (ok:=fun _=>True) (okp:=fun _=>True) ?hr ?hp (fun _ hk=>hk) trivial (Below.refl _ _) (Nat.le_refl _) (by simp) ?_;(case hd=>rfl);(case hg=>rfl);(case hr=>first | (go_simp;done) | (go_simp;rfl));(case hp=>exact (Reps.none _ _));intro v506 w36 ho37 hb hg_ hnew_;clear hg_ hnew_;(first | rw [← Ny505.out] at ho37 | (simp only [Int.reduceToNat] at ho37;rw [← Ny505.out] at ho37));have HO507:=a0_ (Kd.R_lower (Kd.R_new' ho37 (Kd.R_lt (uR_ HO_4))) (below_size hB_));replace HO_4:=a0_ (Kd.R_elder' (uR_ HO_4) (Kd.R_base ho37) hb);replace HO_5:=rb_ HO_5 hb;replace HB:=sb_ HB hb;clear hb ho37));go_ret2;exact⟨_,rr_,by (with_reducible repeat (first | apply Kd.R_alloc | apply Kd.R_drewN | apply Kd.R_drew));exact Kd.R_mono HO507.out (fun _ hk=>trivial),hB_⟩
    ·
     rw [if_neg c7] at H;exact absurd H (by simp)
   ·
    rw [if_neg c6] at H;have c6b0:decide (x6_1<(t487.length:Int))=false:=decide_eq_false c6;clear c6;simp only [Option.some.injEq,Prod.mk.injEq] at H;obtain⟨rfl,rfl⟩:=H;obtain⟨Ao38,co38,eo38⟩:=Kd.R_slice HO_5.out;subst eo38;go_wp2;go_ret2;exact⟨_,rr_,by (with_reducible repeat (first | apply Kd.R_alloc | apply Kd.R_drewN | apply Kd.R_drew));exact HO_4.out,hB_⟩
mutual
def spec_PlateRead.j0:Nat→List ByteArray→Int→Bool→Option ((List (S37)) × (List (List (S37))) × Bool)
 | 0,_,_,_=>none
 | k+1,x4,x5,x27=>if x27=true then (some (([]:List (S37)),([]:List (List (S37))),false)) else (spec_PlateRead.l0 k x4 x5 0 ([]:List (S37)) (([]:List (List (S37)))))
def spec_PlateRead.l0:Nat→List ByteArray→Int→Int→List (S37)→List (List (S37))→Option ((List (S37)) × (List (List (S37))) × Bool)
 | 0,_,_,_,_,_=>none
 | k+1,x4,x5,x7,x517000,x517001=>if x7<x5 then (if 0≤x7 then (if x7<(x4.length:Int) then ((spec_l3Read.f k (rdOf ByteArray.empty x4 x7)).bind fun bt519=>(if bt519.2=true then (if x7=0 then (spec_PlateRead.l0 k x4 x5 (wrap64 (x7+1)) bt519.1 x517001) else (if x517001.length<5864062014805 then (spec_PlateRead.l0 k x4 x5 (wrap64 (x7+1)) x517000 (x517001++[bt519.1])) else (none))) else (some (([]:List (S37)),([]:List (List (S37))),false)))) else (none)) else (none)) else ((spec_PlateOk.f k x517000 x517001).bind fun t517=>(if t517=true then (some (x517000,x517001,true)) else (some (([]:List (S37)),([]:List (List (S37))),false))))
end
def spec_PlateRead.f (k:Nat)(a0:ByteArray):Option ((List (S37)) × (List (List (S37))) × Bool):=if (a0.size:Int)>120 then (some (([]:List (S37)),([]:List (List (S37))),false)) else ((spec_l3Cut.f a0 10).bind fun t509=>(if (wrap64 ((t509.length:Int)-1))<1 then (spec_PlateRead.j0 k t509 (wrap64 ((t509.length:Int)-1)) true) else (if 0≤(wrap64 ((t509.length:Int)-1)) then (if (wrap64 ((t509.length:Int)-1))<(t509.length:Int) then (spec_PlateRead.j0 k t509 (wrap64 ((t509.length:Int)-1)) ((rdOf ByteArray.empty t509 (wrap64 ((t509.length:Int)-1))).toList != ([]:List UInt8))) else (none)) else (none))))
set_option maxHeartbeats 8000000 in
set_option maxRecDepth 100000 in
theorem spec_PlateRead.calls (k:Nat)(a0:ByteArray)(r1:List (S37))(r2:List (List (S37)))(r3:Bool)(w:World)(h:spec_PlateRead.f k a0=some (r1,r2,r3)):
  Calls Tryd.prog 12 #[.string a0] w fun e w'=>∃ v0_ v1_:Value,e=.returned (.tuple #[.agg #[v0_,v1_],.bool r3])∧Kd.R k37 37 w' w.heap.size (fun _=>True) v0_ r1∧Kd.S (Kd.slice 37 k37) 23 w' w.heap.size (fun k_=>some k_≠(v0_:Value).ownBlock) v1_ r2∧Below w.heap.size w w':=by
 have hu26:=Tryd.underlying26;have HB:=a0_ (Below.refl w.heap.size w);have H:(if (a0.size:Int)>120 then (some (([]:List (S37)),([]:List (List (S37))),false)) else ((spec_l3Cut.f a0 10).bind fun t509=>(if (wrap64 ((t509.length:Int)-1))<1 then (spec_PlateRead.j0 k t509 (wrap64 ((t509.length:Int)-1)) true) else (if 0≤(wrap64 ((t509.length:Int)-1)) then (if (wrap64 ((t509.length:Int)-1))<(t509.length:Int) then (spec_PlateRead.j0 k t509 (wrap64 ((t509.length:Int)-1)) ((rdOf ByteArray.empty t509 (wrap64 ((t509.length:Int)-1))).toList != ([]:List UInt8))) else (none)) else (none)))))=some (r1,r2,r3):=h;clear h;by_cases c2:(a0.size:Int)>120
 ·
  rw [if_pos c2] at H;have c2b0:decide (120<(a0.size:Int))=true:=decide_eq_true c2;have c2b1:decide (120<a0.size)=true:=decide_eq_true (by omega);clear c2;simp only [Option.some.injEq,Prod.mk.injEq] at H;obtain⟨rfl,rfl,rfl⟩:=H;go_enter Tryd.func12,Tryd.ntmps12;go_wp2_with (first | ((with_reducible refine gate_dst (N:=2) rfl ?_);refine bx_ (N:=2) (cs:=#[.slice none 0 0,.slice none 0 0]) (t:=26) (h:=?_);intro gb508 hg w3 hbox hb;have BK508:=a0_ (hbox);have GW508:=gh_ HB hg;have GE508:=gh_ HB hg;replace HB:=sb_ HB hb;clear hb hbox hg;have hcz4_0:=c20_ BK508;have hcz4_1:=c21_ BK508;have hfz4_0:=fz_ BK508 0;have hfz4_1:=fz_ BK508 1));refine bodyPost_ret (results_ct rfl _ _ gb508 26 #[.slice none 0 0,.slice none 0 0] (0,0) _ rfl (by (with_reducible repeat (first | refine blk_drewN ?_ _ | refine blk_drew ?_ | refine blk_alloc ?_ _));refine blk_put (cs:=#[.slice none 0 0,.slice none 0 0]) ?_ 1 _ rfl;(with_reducible repeat (first | refine blk_drewN ?_ _ | refine blk_drew ?_ | refine blk_alloc ?_ _));refine blk_put (cs:=#[.slice none 0 0,.slice none 0 0]) ?_ 0 _ rfl;(with_reducible repeat (first | refine blk_drewN ?_ _ | refine blk_drew ?_ | refine blk_alloc ?_ _));exact BK508.out) Tryd.underlying26 rfl (by kernel_rfl)) rfl ?_;exact⟨_,_,rr_,by first | exact Kd.R_nil _ _ _ _ _ | exact Kd.N_nil _ _ _ _ _ | exact Kd.V_nil _ _ _ _ _ | exact Kd.Q_nil _ _ _ _ _ | exact Kd.S_nil _ _ _ _ _,by first | exact Kd.S_nil _ _ _ _ _ | exact Kd.N_nil _ _ _ _ _ | exact Kd.V_nil _ _ _ _ _ | exact Kd.Q_nil _ _ _ _ _ | exact Kd.R_nil _ _ _ _ _,hB_⟩
 ·
  rw [if_neg c2] at H;have c2b0:decide (120<(a0.size:Int))=false:=decide_eq_false c2;have c2b1:decide (120<a0.size)=false:=decide_eq_false (by omega);clear c2;replace H:=Option.bind_eq_some_iff.mp H;obtain⟨t509,A50,H⟩:=H
  (try dsimp only at H)
  have A5:=Aside0.mk A50;clear A50;have HC6:=Aside0.mk H;clear H;go_enter Tryd.func12,Tryd.ntmps12;go_upto_region 5 with (first | ((with_reducible refine gate_dst (N:=2) rfl ?_);refine bx_ (N:=2) (cs:=#[.slice none 0 0,.slice none 0 0]) (t:=26) (h:=?_);intro gb508 hg w7 hbox hb;have BK508:=a0_ (hbox);have GW508:=gh_ HB hg;have GE508:=gh_ HB hg;replace HB:=sb_ HB hb;clear hb hbox hg) | ((with_reducible refine gate_callee (f:=37) rfl ?_);refine gL_ (some 15) Tryd.func37 #[.string a0,.int .u8 10] (h:=?_);(with_reducible refine (spec_l3Cut.calls a0 10 t509 _ A5.out).mono ?_);rintro e w8 ⟨v510,rfl,ho0,hb⟩;refine⟨_,rfl,?_⟩;have HO511:=a0_ (Kd.R_lower ho0 (below_size hB_));replace BK508:=vb_ BK508 hb;replace HB:=sb_ HB hb;(try clear ho0 hb);obtain⟨Ao9,co9,eo9⟩:=Kd.R_slice HO511.out;subst eo9))
  (try simp only [Act.put,List.setIfInBounds_toArray,List.set_cons_zero,List.set_cons_succ])
  go_cut [27] (fun v27 wc=>∃ (kq:Nat) (x27_5:Bool),v27=.bool x27_5∧Aside0 (spec_PlateRead.j0 kq t509 (wrap64 ((t509.length:Int)-1)) x27_5=some (r1,r2,r3))∧Aside0 (kq≤k)∧Aside0 (Kd.R Kd.string 9 wc w.heap.size (fun _=>True) (.slice Ao9 t509.length co9) t509)∧Aside0 (wc.heap[gb508]?=some (.cells #[(.slice none 0 0),(.slice none 0 0)] 26 (0,0)))∧Aside0 (Below w.heap.size w wc))
  case first =>
   have H:=HC6.out;clear HC6;by_cases c10:(wrap64 ((t509.length:Int)-1))<1
   ·
    rw [if_pos c10] at H;have c10b0:decide ((wrap64 ((t509.length:Int)-1))<1)=true:=decide_eq_true c10;clear c10
    (first | rw [c10b0] | (simp only [i64_w,i32_w];rw [c10b0]) | skip)
    have H':=Aside0.mk H;clear H;go_wp2;go_meet
    case rel=>exact⟨_,(true),(by first | rfl | (simp;done) | (simp [*];done)),H',⟨by first | omega | exact Nat.le_refl _⟩,⟨by (with_reducible repeat (first | apply Kd.R_alloc | apply Kd.R_drewN | apply Kd.R_drew));exact HO511.out⟩,⟨uq_⟩,⟨hB_⟩⟩
   ·
    rw [if_neg c10] at H;have c10b0:decide ((wrap64 ((t509.length:Int)-1))<1)=false:=decide_eq_false c10;clear c10
    (first | rw [c10b0] | (simp only [i64_w,i32_w];rw [c10b0]) | skip)
    obtain⟨ji11,hji11⟩:∃ j_:Int,(wrap64 ((t509.length:Int)-1))=j_:=⟨_,rfl⟩;replace H:(if 0≤(ji11) then (if (ji11)<(t509.length:Int) then (spec_PlateRead.j0 k t509 ji11 ((rdOf ByteArray.empty t509 (ji11)).toList != ([]:List UInt8))) else (none)) else (none))=some (r1,r2,r3):=by first | (rw [hji11] at H;exact H) | (simp only [hji11] at H ⊢;exact H)
    (try rw [hji11] at c10b0)
    have hji11w:(IntKind.i64.wrap ((t509.length:Int)-1))=ji11:=(i64_w _).trans hji11;by_cases c12:0≤(ji11)
    ·
     rw [if_pos c12] at H;have c12b0:decide (0≤(ji11))=true:=decide_eq_true c12;clear c12;by_cases c13:(ji11)<(t509.length:Int)
     ·
      rw [if_pos c13] at H;have c13b0:decide ((ji11)<(t509.length:Int))=true:=decide_eq_true c13;clear c13;have H':=Aside0.mk H;clear H;have p512:0≤((ji11):Int):=od_;have q512:(ji11)<(t509.length:Int):=od_;obtain⟨ad512,e512,hx512_0⟩:=Kd.at_string (Kd.R_reads' HO511.out).2.2 (ji11) p512 q512;cases e512;replace p512:=eq_true p512;replace q512:=eq_true q512;go_wp2;go_meet
      case rel=>exact⟨_,(((rdOf ByteArray.empty t509 (ji11)).toList != ([]:List UInt8))),(congrArg Value.bool (show (!(rdOf ByteArray.empty t509 (ji11)).toList.isEmpty)=_ by cases (rdOf ByteArray.empty t509 (ji11)).toList <;> rfl)),⟨by rw [hji11];exact H'.out⟩,⟨by first | omega | exact Nat.le_refl _⟩,⟨by (with_reducible repeat (first | apply Kd.R_alloc | apply Kd.R_drewN | apply Kd.R_drew));exact HO511.out⟩,⟨uq_⟩,⟨hB_⟩⟩
     ·
      rw [if_neg c13] at H;exact absurd H (by simp)
    ·
     rw [if_neg c12] at H;exact absurd H (by simp)
  case rest =>
   clear HC6;obtain⟨kq,x27_5,rfl,HA,HJ5,HO_4,BK508,HB⟩:=hcut
   cases kq with
   | zero=>exact absurd HA.out (by simp [spec_PlateRead.j0])
   | succ kj5 =>
    have H:=HA.out;clear HA;simp only [spec_PlateRead.j0] at H;by_cases c14:x27_5=true
    ·
     subst c14;rw [if_pos rfl] at H
     (try dsimp only at H)
     simp only [Option.some.injEq,Prod.mk.injEq] at H;obtain⟨rfl,rfl,rfl⟩:=H;have hcz15_0:=c20_ BK508;have hcz15_1:=c21_ BK508;have hfz15_0:=fz_ BK508 0;have hfz15_1:=fz_ BK508 1;go_wp2;refine bodyPost_ret (results_ct rfl _ _ gb508 26 #[.slice none 0 0,.slice none 0 0] (0,0) _ rfl (by (with_reducible repeat (first | refine blk_drewN ?_ _ | refine blk_drew ?_ | refine blk_alloc ?_ _));refine blk_put (cs:=#[.slice none 0 0,.slice none 0 0]) ?_ 1 _ rfl;(with_reducible repeat (first | refine blk_drewN ?_ _ | refine blk_drew ?_ | refine blk_alloc ?_ _));refine blk_put (cs:=#[.slice none 0 0,.slice none 0 0]) ?_ 0 _ rfl;(with_reducible repeat (first | refine blk_drewN ?_ _ | refine blk_drew ?_ | refine blk_alloc ?_ _));exact BK508.out) Tryd.underlying26 rfl (by kernel_rfl)) rfl ?_;exact⟨_,_,rr_,by first | exact Kd.R_nil _ _ _ _ _ | exact Kd.N_nil _ _ _ _ _ | exact Kd.V_nil _ _ _ _ _ | exact Kd.Q_nil _ _ _ _ _ | exact Kd.S_nil _ _ _ _ _,by first | exact Kd.S_nil _ _ _ _ _ | exact Kd.N_nil _ _ _ _ _ | exact Kd.V_nil _ _ _ _ _ | exact Kd.Q_nil _ _ _ _ _ | exact Kd.R_nil _ _ _ _ _,hB_⟩
    ·
     replace c14:=Bool.eq_false_iff.mpr c14;subst c14;rw [if_neg (show ¬ (false=true) by decide)] at H
     (try dsimp only at H)
     obtain⟨y513,hy513⟩:∃ y_:List (List (S37)),y_=(([]:List (List (S37)))):=⟨_,rfl⟩;replace H:(spec_PlateRead.l0 kj5 t509 (wrap64 ((t509.length:Int)-1)) 0 ([]:List (S37)) y513)=some (r1,r2,r3):=by first | (rw [hy513];with_reducible exact H) | (have H2_:=(Option.bind_some _ _).symm.trans H;rw [hy513];with_reducible exact H2_) | (have H2_:=(Option.bind_some _ _).symm.trans H;with_reducible exact H2_) | with_reducible exact H | (rw [hy513];exact H) | exact H
     have Ny513:=Aside0.mk hy513;clear hy513;have H':=Aside0.mk H;clear H;go_wp2_with (first | ((with_reducible refine gate_dst (N:=29) rfl ?_);refine Kd.S_lit (Kd.slice 37 k37) _ 23 ?hg (N:=29) ?hd (xs:=([]:List (List (S37)))) (inner:=[]) (ok:=fun _=>True) (okp:=fun _=>True) ?hr ?hp (fun _ hk=>hk) trivial (Below.refl _ _) (Nat.le_refl _) (by simp) ?_;(case hd=>rfl);(case hg=>rfl);(case hr=>first | (go_simp;done) | (go_simp;rfl));(case hp=>exact (Reps.none _ _));intro v514 w16 ho17 hb hg_ hnew_;clear hg_ hnew_;(first | rw [← Ny513.out] at ho17 | (simp only [Int.reduceToNat] at ho17;rw [← Ny513.out] at ho17));have HO515:=a0_ (Kd.S_lower ho17 (below_size hB_));replace HO_4:=rb_ HO_4 hb;replace BK508:=vb_ BK508 hb;replace HB:=sb_ HB hb;clear hb ho17;obtain⟨Ao18,co18,eo18⟩:=Kd.S_slice HO515.out;subst eo18) | ((with_reducible refine gate_dst (N:=6) rfl ?_);refine bx_ (N:=6) (cs:=#[.slice none 0 0,.slice none 0 0]) (t:=26) (h:=?_);intro gb516 hg w19 hbox hb;have BK516:=a0_ (hbox);have GW516:=gh_ HB hg;have GE516:=gh_ HB hg;have NB508_516:=nl_ BK508 hg;have NB516_508:=nr_ BK508 hg;replace HO_4:=rb_ HO_4 hb;replace HO515:=a0_ (Kd.S_below (by (with_reducible repeat (first | apply Kd.S_alloc | apply Kd.S_drewN | apply Kd.S_drew));exact HO515.out) hb);replace BK508:=vb_ BK508 hb;replace HB:=sb_ HB hb;clear hb hbox hg;have hnb20:=NB516_508.out;have hnc20:=NB508_516.out;have hcz21_0:=c20_ BK516;have hcz21_1:=c21_ BK516;have hfz21_0:=fz_ BK516 0;have hfz21_1:=fz_ BK516 1))
     go_loopg [7] kj5 (fun kq v7 w'=>∃ (x7_2:Int) (x517000_2:List (S37)) (x517001_2:List (List (S37))) (u517000:Value) (u517001:Value),v7=.int .i64 x7_2∧Aside0 (spec_PlateRead.l0 kq t509 (wrap64 ((t509.length:Int)-1)) x7_2 x517000_2 x517001_2=some (r1,r2,r3))∧Aside0 (kq≤kj5)∧Aside0 (Kd.R Kd.string 9 w' w.heap.size (fun _=>True) (.slice Ao9 t509.length co9) t509)∧Aside0 (Kd.R k37 37 w' w.heap.size (fun _=>True) u517000 x517000_2)∧Aside0 (Kd.S (Kd.slice 37 k37) 23 w' w.heap.size (fun k_=>some k_≠(u517000:Value).ownBlock) u517001 x517001_2)∧Aside0 (w'.heap[gb508]?=some (.cells #[(.slice none 0 0),(.slice none 0 0)] 26 (0,0)))∧Aside0 (w'.heap[gb516]?=some (.cells #[u517000,u517001] 26 (0,0)))∧Aside0 (Below w.heap.size w w'))
     case atStart=>exact⟨(0),(([]:List (S37))),(y513),(.slice none 0 0),(.slice Ao18 y513.length co18),(by first | rfl | (simp;done) | (simp [*];done)),H',⟨Nat.le_refl _⟩,⟨by (with_reducible repeat (first | apply Kd.R_alloc | apply Kd.R_drewN | apply Kd.R_drew));exact Kd.R_mono (Kd.R_far (p:=⟨gb516,1,none⟩) (Kd.R_far (p:=⟨gb516,0,none⟩) (Kd.R_types HO_4.out BK516.out (by decide)) (fun _ hk=>hk.2) (.slice none 0 0)) (fun _ hk=>hk.2) (.slice Ao18 y513.length co18)) (fun _ hk=>trivial)⟩,⟨by first | exact Kd.R_nil _ _ _ _ _ | exact Kd.N_nil _ _ _ _ _ | exact Kd.V_nil _ _ _ _ _ | exact Kd.Q_nil _ _ _ _ _ | exact Kd.S_nil _ _ _ _ _⟩,⟨by (with_reducible repeat (first | apply Kd.S_alloc | apply Kd.S_drewN | apply Kd.S_drew));exact Kd.S_mono (Kd.S_far (p:=⟨gb516,1,none⟩) (Kd.S_far (p:=⟨gb516,0,none⟩) (Kd.S_types HO515.out BK516.out (by decide)) (fun _ hk=>hk.2) (.slice none 0 0)) (fun _ hk=>hk.2) (.slice Ao18 y513.length co18)) (fun _ hk=>(by simp [Value.ownBlock]))⟩,⟨by (with_reducible repeat (first | refine blk_drewN ?_ _ | refine blk_drew ?_ | refine blk_alloc ?_ _));refine blk_far ?_ NB508_516.out _;(with_reducible repeat (first | refine blk_drewN ?_ _ | refine blk_drew ?_ | refine blk_alloc ?_ _));refine blk_far ?_ NB508_516.out _;(with_reducible repeat (first | refine blk_drewN ?_ _ | refine blk_drew ?_ | refine blk_alloc ?_ _));exact BK508.out⟩,⟨by (with_reducible repeat (first | refine blk_drewN ?_ _ | refine blk_drew ?_ | refine blk_alloc ?_ _));refine blk_put (cs:=#[.slice none 0 0,.slice none 0 0]) ?_ 1 _ rfl;(with_reducible repeat (first | refine blk_drewN ?_ _ | refine blk_drew ?_ | refine blk_alloc ?_ _));refine blk_put (cs:=#[.slice none 0 0,.slice none 0 0]) ?_ 0 _ rfl;(with_reducible repeat (first | refine blk_drewN ?_ _ | refine blk_drew ?_ | refine blk_alloc ?_ _));exact BK516.out⟩,⟨hB_⟩⟩
     case round =>
      clear H';obtain⟨x7_2,x517000_2,x517001_2,u517000,u517001,rfl,HA,HK2,HO_4,HO_517000,HO_517001,BK508,BK516,HB⟩:=hrel
      cases gk with
      | zero=>exact absurd HA.out (by simp [spec_PlateRead.l0])
      | succ k2 =>
       have H:=HA.out;clear HA;simp only [spec_PlateRead.l0] at H;by_cases c22:x7_2<(wrap64 ((t509.length:Int)-1))
       ·
        rw [if_pos c22] at H;have c22b0:decide (x7_2<(wrap64 ((t509.length:Int)-1)))=true:=decide_eq_true c22;clear c22;by_cases c23:0≤x7_2
        ·
         rw [if_pos c23] at H;have c23b0:decide (0≤x7_2)=true:=decide_eq_true c23;clear c23;by_cases c24:x7_2<(t509.length:Int)
         ·
          rw [if_pos c24] at H;have c24b0:decide (x7_2<(t509.length:Int))=true:=decide_eq_true c24;clear c24;replace H:=Option.bind_eq_some_iff.mp H;obtain⟨⟨t519,t520⟩,A250,H⟩:=H
          (try dsimp only at H)
          have A25:=Aside0.mk A250;clear A250;by_cases c26:t520=true
          ·
           subst c26;rw [if_pos rfl] at H
           (try dsimp only at H)
           by_cases c27:x7_2=0
           ·
            rw [if_pos c27] at H;have c27b0:(x7_2==0)=true:=beq_iff_eq.mpr c27;have c27b1:(x7_2 != 0)=false:=bne_eq_false_iff_eq.mpr c27;clear c27;have H':=Aside0.mk H;clear H;have p518:0≤(x7_2:Int):=od_;have q518:x7_2<(t509.length:Int):=od_;obtain⟨ad518,e518,hx518_0⟩:=Kd.at_string (Kd.R_reads' HO_4.out).2.2 x7_2 p518 q518;cases e518;replace p518:=eq_true p518;replace q518:=eq_true q518;go_wp2_with (first | ((with_reducible refine gate_callee (f:=38) rfl ?_);refine gL_ (some 41) Tryd.func38 #[.string (rdOf ByteArray.empty t509 x7_2)] (h:=?_);(with_reducible refine (spec_l3Read.calls k2 (rdOf ByteArray.empty t509 x7_2) t519 true _ A25.out).mono ?_);rintro e w28 ⟨v521,rfl,ho0,hb⟩;refine⟨_,rfl,?_⟩;have HO522:=a0_ (Kd.R_lower (Kd.R_new' ho0 (Kd.R_lt (uR_ HO_517000))) (below_size hB_));replace HO_4:=rb_ HO_4 hb;replace HO_517000:=a0_ (Kd.R_elder' (uR_ HO_517000) (Kd.R_base ho0) hb);replace HO_517001:=a0_ (Kd.S_elder' (by (with_reducible repeat (first | apply Kd.S_alloc | apply Kd.S_drewN | apply Kd.S_drew));exact HO_517001.out) (Kd.R_base ho0) hb);replace BK508:=vb_ BK508 hb;replace BK516:=vb_ BK516 hb;replace HB:=sb_ HB hb;(try clear ho0 hb);obtain⟨Ao29,co29,eo29⟩:=Kd.R_slice HO522.out;subst eo29;have hnb30:=NB516_508.out;have hnc30:=NB508_516.out;have hcz31_0:=c20_ BK516;have hcz31_1:=c21_ BK516;have hfz31_0:=fz_ BK516 0;have hfz31_1:=fz_ BK516 1));go_roundg k2
            case measure=>have:=HJ5.out;have:=HK2.out;omega
            case rel=>exact⟨(wrap64 (x7_2+1)),(t519),(x517001_2),(.slice Ao29 t519.length co29),(u517001),(by first | rfl | (simp;done) | (simp [*];done)),H',⟨by have:=HJ5.out;have:=HK2.out;omega⟩,⟨by (with_reducible repeat (first | apply Kd.R_alloc | apply Kd.R_drewN | apply Kd.R_drew));exact Kd.R_mono (Kd.R_far (p:=⟨gb516,0,none⟩) (Kd.R_types HO_4.out BK516.out (by decide)) (fun _ hk=>hk.2) (.slice Ao29 t519.length co29)) (fun _ hk=>trivial)⟩,⟨by (with_reducible repeat (first | apply Kd.R_alloc | apply Kd.R_drewN | apply Kd.R_drew));exact Kd.R_mono (Kd.R_far (p:=⟨gb516,0,none⟩) (Kd.R_types HO522.out BK516.out (by decide)) (fun _ hk=>hk.2) (.slice Ao29 t519.length co29)) (fun _ hk=>trivial)⟩,⟨by (with_reducible repeat (first | apply Kd.S_alloc | apply Kd.S_drewN | apply Kd.S_drew));exact Kd.S_mono (Kd.S_far (p:=⟨gb516,0,none⟩) (Kd.S_types HO_517001.out BK516.out (by decide)) (fun _ hk=>hk.2) (.slice Ao29 t519.length co29)) (fun _ hk=>hk.1.2)⟩,⟨by (with_reducible repeat (first | refine blk_drewN ?_ _ | refine blk_drew ?_ | refine blk_alloc ?_ _));refine blk_far ?_ NB508_516.out _;(with_reducible repeat (first | refine blk_drewN ?_ _ | refine blk_drew ?_ | refine blk_alloc ?_ _));exact BK508.out⟩,⟨by (with_reducible repeat (first | refine blk_drewN ?_ _ | refine blk_drew ?_ | refine blk_alloc ?_ _));refine blk_put (cs:=#[u517000,u517001]) ?_ 0 _ rfl;(with_reducible repeat (first | refine blk_drewN ?_ _ | refine blk_drew ?_ | refine blk_alloc ?_ _));exact BK516.out⟩,⟨hB_⟩⟩
           ·
            rw [if_neg c27] at H;have c27b0:(x7_2==0)=false:=beq_eq_false_iff_ne.mpr c27;have c27b1:(x7_2 != 0)=true:=bne_iff_ne.mpr c27;by_cases c32:x517001_2.length<5864062014805
            ·
             rw [if_pos c32] at H;have LMc32:=Aside0.mk c32;clear c32;obtain⟨y523,hy523⟩:∃ y_:List (List (S37)),y_=(x517001_2++[t519]):=⟨_,rfl⟩;replace H:(spec_PlateRead.l0 k2 t509 (wrap64 ((t509.length:Int)-1)) (wrap64 (x7_2+1)) x517000_2 y523)=some (r1,r2,r3):=by first | (rw [hy523];with_reducible exact H) | (have H2_:=(Option.bind_some _ _).symm.trans H;rw [hy523];with_reducible exact H2_) | (have H2_:=(Option.bind_some _ _).symm.trans H;with_reducible exact H2_) | with_reducible exact H | (rw [hy523];exact H) | exact H
             have Ny523:=Aside0.mk hy523;clear hy523;have H':=Aside0.mk H;clear H;have p518:0≤(x7_2:Int):=od_;have q518:x7_2<(t509.length:Int):=od_;obtain⟨ad518,e518,hx518_0⟩:=Kd.at_string (Kd.R_reads' HO_4.out).2.2 x7_2 p518 q518;cases e518;replace p518:=eq_true p518;replace q518:=eq_true q518
             go_wp2_with (first | ((with_reducible refine gate_callee (f:=38) rfl ?_);refine gL_ (some 41) Tryd.func38 #[.string (rdOf ByteArray.empty t509 x7_2)] (h:=?_);(with_reducible refine (spec_l3Read.calls k2 (rdOf ByteArray.empty t509 x7_2) t519 true _ A25.out).mono ?_);rintro e w33 ⟨v521,rfl,ho0,hb⟩;refine⟨_,rfl,?_⟩;have HO522:=a0_ (Kd.R_lower (Kd.R_new' ho0 (Kd.R_lt (uR_ HO_517000))) (below_size hB_));replace HO_4:=rb_ HO_4 hb;replace HO_517000:=a0_ (Kd.R_elder' (uR_ HO_517000) (Kd.R_base ho0) hb);replace HO_517001:=a0_ (Kd.S_elder' (by (with_reducible repeat (first | apply Kd.S_alloc | apply Kd.S_drewN | apply Kd.S_drew));exact HO_517001.out) (Kd.R_base ho0) hb);replace BK508:=vb_ BK508 hb;replace BK516:=vb_ BK516 hb;replace HB:=sb_ HB hb;(try clear ho0 hb);have hnb34:=NB516_508.out;have hnc34:=NB508_516.out;have hcz35_0:=c20_ BK516;have hcz35_1:=c21_ BK516;have hfz35_0:=fz_ BK516 0;have hfz35_1:=fz_ BK516 1;obtain⟨Ao37,co37,eo37⟩:=Kd.R_slice HO522.out;subst eo37) | ((with_reducible refine gate_builtin (b:=.append) (xs:=#[.tmp 52,.tmp 54]) rfl ?_);at_builtin;refine Kd.S_append (Kd.slice 37 k37) (w0:=w) w.heap.size rfl (.tmp 52) (.tmp 54) 24 23 (.slice none 0 0) 24 rfl Tryd.underlying24 info23 rfl (by decide) (by omega) u517001 x517001_2 t519 [.slice Ao37 t519.length co37] (fun k_=>some k_≠(u517000:Value).ownBlock) (fun k_=>some k_=(.slice Ao37 t519.length co37:Value).ownBlock) rfl rfl ?aP (fun k_ hk_=>((Kd.R_mono (ok':=fun k_=>((fun k_=>some k_≠(u517000:Value).ownBlock)) k_∧some k_≠(u517001:Value).ownBlock) (Kd.R_apart' (HO522.out) (Kd.S_typed HO_517001.out) (by decide)) (fun k_ hk=>⟨hk.1.2,hk.2⟩))).1 k_ hk_.symm) ?aF ?aO ?aB ?aS ?aL ?_;(case aP=>exact Kd.M_row (Kd.R_mono (Kd.R_tight rfl (Kd.R_mono (ok':=fun k_=>((fun k_=>some k_≠(u517000:Value).ownBlock)) k_∧some k_≠(u517001:Value).ownBlock) (Kd.R_apart' (HO522.out) (Kd.S_typed HO_517001.out) (by decide)) (fun k_ hk=>⟨hk.1.2,hk.2⟩))) (fun _ h_=>h_)));(case aB=>exact hB_);(case aF=>exact (fun k_ hk=>Kd.fresh' (Kd.R_lt (uR_ HO_517000)) k_ hk));(case aO=>exact (by (with_reducible repeat (first | apply Kd.S_alloc | apply Kd.S_drewN | apply Kd.S_drew));exact Kd.S_mono HO_517001.out (fun k_ hk=>⟨hk.1,fun e_=>hk.2 e_⟩)));(case aS=>exact (below_size hB_));(case aL=>have:=LMc32.out;omega);intro v524 w36 ho hb hg hat;rw [← Ny523.out] at ho;have HO525:=a0_ (ho);replace HO_4:=a0_ (Kd.R_over' (uR_ HO_4) (Kd.S_typed (by (with_reducible repeat (first | apply Kd.S_alloc | apply Kd.S_drewN | apply Kd.S_drew));exact HO_517001.out)) (by decide) hg);replace HO_517000:=a0_ (Kd.R_over' (uR_ HO_517000) (Kd.S_typed (by (with_reducible repeat (first | apply Kd.S_alloc | apply Kd.S_drewN | apply Kd.S_drew));exact HO_517001.out)) (by decide) hg);replace BK508:=a0_ (blk_grown (g:=gb508) (o:=.cells #[.slice none 0 0,.slice none 0 0] 26 (0,0)) uq_ hg (Kd.S_ne HO_517001.out BK508.out (by decide)));replace BK516:=a0_ (blk_grown (g:=gb516) (o:=.cells #[u517000,u517001] 26 (0,0)) uq_ hg (Kd.S_ne HO_517001.out BK516.out (by decide)));replace HB:=a0_ (hb);clear HO522 HO_517001;clear ho hb hg hat;obtain⟨Ao38,co38,eo38⟩:=Kd.S_slice HO525.out;subst eo38;have hcz39_0:=c20_ BK516;have hcz39_1:=c21_ BK516;have hfz39_0:=fz_ BK516 0;have hfz39_1:=fz_ BK516 1))
             go_roundg k2
             case measure=>have:=HJ5.out;have:=HK2.out;omega
             case rel=>exact⟨(wrap64 (x7_2+1)),(x517000_2),(y523),(u517000),(.slice Ao38 y523.length co38),(by first | rfl | (simp;done) | (simp [*];done)),H',⟨by have:=HJ5.out;have:=HK2.out;omega⟩,⟨by (with_reducible repeat (first | apply Kd.R_alloc | apply Kd.R_drewN | apply Kd.R_drew));exact Kd.R_mono (Kd.R_far (p:=⟨gb516,1,none⟩) (Kd.R_types HO_4.out BK516.out (by decide)) (fun _ hk=>hk.2) (.slice Ao38 y523.length co38)) (fun _ hk=>trivial)⟩,⟨by (with_reducible repeat (first | apply Kd.R_alloc | apply Kd.R_drewN | apply Kd.R_drew));exact Kd.R_mono (Kd.R_far (p:=⟨gb516,1,none⟩) (Kd.R_types HO_517000.out BK516.out (by decide)) (fun _ hk=>hk.2) (.slice Ao38 y523.length co38)) (fun _ hk=>trivial)⟩,⟨by (with_reducible repeat (first | apply Kd.S_alloc | apply Kd.S_drewN | apply Kd.S_drew));exact Kd.S_mono (Kd.S_far (p:=⟨gb516,1,none⟩) (Kd.S_types HO525.out BK516.out (by decide)) (fun _ hk=>hk.2) (.slice Ao38 y523.length co38)) (fun _ hk=>hk.1)⟩,⟨by (with_reducible repeat (first | refine blk_drewN ?_ _ | refine blk_drew ?_ | refine blk_alloc ?_ _));refine blk_far ?_ NB508_516.out _;(with_reducible repeat (first | refine blk_drewN ?_ _ | refine blk_drew ?_ | refine blk_alloc ?_ _));exact BK508.out⟩,⟨by (with_reducible repeat (first | refine blk_drewN ?_ _ | refine blk_drew ?_ | refine blk_alloc ?_ _));refine blk_put (cs:=#[u517000,u517001]) ?_ 1 _ rfl;(with_reducible repeat (first | refine blk_drewN ?_ _ | refine blk_drew ?_ | refine blk_alloc ?_ _));exact BK516.out⟩,⟨hB_⟩⟩
            ·
             rw [if_neg c32] at H;exact absurd H (by simp)
          ·
           replace c26:=Bool.eq_false_iff.mpr c26;subst c26;rw [if_neg (show ¬ (false=true) by decide)] at H
           (try dsimp only at H)
           simp only [Option.some.injEq,Prod.mk.injEq] at H;obtain⟨rfl,rfl,rfl⟩:=H;have p518:0≤(x7_2:Int):=od_;have q518:x7_2<(t509.length:Int):=od_;obtain⟨ad518,e518,hx518_0⟩:=Kd.at_string (Kd.R_reads' HO_4.out).2.2 x7_2 p518 q518;cases e518;replace p518:=eq_true p518;replace q518:=eq_true q518;go_wp2_with (first | ((with_reducible refine gate_callee (f:=38) rfl ?_);refine gL_ (some 41) Tryd.func38 #[.string (rdOf ByteArray.empty t509 x7_2)] (h:=?_);(with_reducible refine (spec_l3Read.calls k2 (rdOf ByteArray.empty t509 x7_2) t519 false _ A25.out).mono ?_);rintro e w40 ⟨v521,rfl,ho0,hb⟩;refine⟨_,rfl,?_⟩;have HO522:=a0_ (Kd.R_lower (Kd.R_new' ho0 (Kd.R_lt (uR_ HO_517000))) (below_size hB_));replace HO_4:=rb_ HO_4 hb;replace HO_517000:=a0_ (Kd.R_elder' (uR_ HO_517000) (Kd.R_base ho0) hb);replace HO_517001:=a0_ (Kd.S_elder' (by (with_reducible repeat (first | apply Kd.S_alloc | apply Kd.S_drewN | apply Kd.S_drew));exact HO_517001.out) (Kd.R_base ho0) hb);replace BK508:=vb_ BK508 hb;replace BK516:=vb_ BK516 hb;replace HB:=sb_ HB hb;(try clear ho0 hb);have hnb41:=NB508_516.out;have hnc41:=NB516_508.out;have hcz42_0:=c20_ BK508;have hcz42_1:=c21_ BK508;have hfz42_0:=fz_ BK508 0;have hfz42_1:=fz_ BK508 1));refine bodyPost_ret (results_ct rfl _ _ gb508 26 #[.slice none 0 0,.slice none 0 0] (0,0) _ rfl (by (with_reducible repeat (first | refine blk_drewN ?_ _ | refine blk_drew ?_ | refine blk_alloc ?_ _));refine blk_put (cs:=#[.slice none 0 0,.slice none 0 0]) ?_ 1 _ rfl;(with_reducible repeat (first | refine blk_drewN ?_ _ | refine blk_drew ?_ | refine blk_alloc ?_ _));refine blk_put (cs:=#[.slice none 0 0,.slice none 0 0]) ?_ 0 _ rfl;(with_reducible repeat (first | refine blk_drewN ?_ _ | refine blk_drew ?_ | refine blk_alloc ?_ _));exact BK508.out) Tryd.underlying26 rfl (by kernel_rfl)) rfl ?_
           exact⟨_,_,rr_,by first | exact Kd.R_nil _ _ _ _ _ | exact Kd.N_nil _ _ _ _ _ | exact Kd.V_nil _ _ _ _ _ | exact Kd.Q_nil _ _ _ _ _ | exact Kd.S_nil _ _ _ _ _,by first | exact Kd.S_nil _ _ _ _ _ | exact Kd.N_nil _ _ _ _ _ | exact Kd.V_nil _ _ _ _ _ | exact Kd.Q_nil _ _ _ _ _ | exact Kd.R_nil _ _ _ _ _,hB_⟩
         ·
          rw [if_neg c24] at H;exact absurd H (by simp)
        ·
         rw [if_neg c23] at H;exact absurd H (by simp)
       ·
        rw [if_neg c22] at H;have c22b0:decide (x7_2<(wrap64 ((t509.length:Int)-1)))=false:=decide_eq_false c22;clear c22;replace H:=Option.bind_eq_some_iff.mp H;obtain⟨t517,A430,H⟩:=H
        (try dsimp only at H)
        have A43:=Aside0.mk A430;clear A430;by_cases c44:t517=true
        ·
         subst c44;rw [if_pos rfl] at H
         (try dsimp only at H)
         simp only [Option.some.injEq,Prod.mk.injEq] at H;obtain⟨rfl,rfl,rfl⟩:=H;have hnb45:=NB516_508.out;have hnc45:=NB508_516.out;have hcz46_0:=c20_ BK516;have hcz46_1:=c21_ BK516;have hfz46_0:=fz_ BK516 0;have hfz46_1:=fz_ BK516 1;obtain⟨Ao47,co47,eo47⟩:=Kd.R_slice HO_517000.out;subst eo47;obtain⟨Ao48,co48,eo48⟩:=Kd.S_slice HO_517001.out;subst eo48;go_wp2_with (first | ((with_reducible refine gate_callee (f:=19) rfl ?_);refine gL_ (some 58) Tryd.func19 #[.agg #[.slice Ao47 x517000_2.length co47,.slice Ao48 x517001_2.length co48]] (h:=?_);(with_reducible refine (spec_PlateOk.calls k2 _ _ x517000_2 _ _ x517001_2 true _ ?side1 ?side2 ?side3 ?side4 A43.out).mono ?_);(case side1=>repeat (first | exact (Kd.R_reads' HO_517000.out).2.2 | (with_reducible refine Kd.C_alloc ?_ _) | (with_reducible refine Kd.C_drewN ?_ _) | (with_reducible refine Kd.C_drew ?_)));(case side2=>exact (Kd.R_reads' HO_517000.out).2.1);(case side3=>repeat (first | exact (Kd.S_reads' HO_517001.out).2.2 | (with_reducible refine Kd.C_alloc ?_ _) | (with_reducible refine Kd.C_drewN ?_ _) | (with_reducible refine Kd.C_drew ?_)));(case side4=>exact (Kd.S_reads' HO_517001.out).2.1);rintro e w49 ⟨rfl,hb⟩;refine⟨_,rfl,?_⟩;replace HO_4:=rb_ HO_4 hb;replace HO_517000:=rb_ HO_517000 hb;replace HO_517001:=a0_ (Kd.S_below (by (with_reducible repeat (first | apply Kd.S_alloc | apply Kd.S_drewN | apply Kd.S_drew));exact HO_517001.out) hb);replace BK508:=vb_ BK508 hb;replace BK516:=vb_ BK516 hb;replace HB:=sb_ HB hb;(try clear hb);have hcz50_0:=c20_ BK516;have hcz50_1:=c21_ BK516;have hfz50_0:=fz_ BK516 0;have hfz50_1:=fz_ BK516 1;have hcz51_0:=c20_ BK508;have hcz51_1:=c21_ BK508;have hfz51_0:=fz_ BK508 0;have hfz51_1:=fz_ BK508 1))
         refine bodyPost_ret (results_ct rfl _ _ gb508 26 #[.slice Ao47 x517000_2.length co47,.slice Ao48 x517001_2.length co48] (0,0) _ rfl (by (with_reducible repeat (first | refine blk_drewN ?_ _ | refine blk_drew ?_ | refine blk_alloc ?_ _));refine blk_put (cs:=#[.slice Ao47 x517000_2.length co47,.slice none 0 0]) ?_ 1 _ rfl;(with_reducible repeat (first | refine blk_drewN ?_ _ | refine blk_drew ?_ | refine blk_alloc ?_ _));refine blk_put (cs:=#[.slice none 0 0,.slice none 0 0]) ?_ 0 _ rfl;(with_reducible repeat (first | refine blk_drewN ?_ _ | refine blk_drew ?_ | refine blk_alloc ?_ _));exact BK508.out) Tryd.underlying26 rfl (by kernel_rfl)) rfl ?_;exact⟨_,_,rr_,by (with_reducible repeat (first | apply Kd.R_alloc | apply Kd.R_drewN | apply Kd.R_drew));exact Kd.R_mono (Kd.R_far (p:=⟨gb508,1,none⟩) (Kd.R_far (p:=⟨gb508,0,none⟩) (Kd.R_types HO_517000.out BK508.out (by decide)) (fun _ hk=>hk.2) (.slice Ao47 x517000_2.length co47)) (fun _ hk=>hk.2) (.slice Ao48 x517001_2.length co48)) (fun _ hk=>trivial),by (with_reducible repeat (first | apply Kd.S_alloc | apply Kd.S_drewN | apply Kd.S_drew));exact Kd.S_mono (Kd.S_far (p:=⟨gb508,1,none⟩) (Kd.S_far (p:=⟨gb508,0,none⟩) (Kd.S_types HO_517001.out BK508.out (by decide)) (fun _ hk=>hk.2) (.slice Ao47 x517000_2.length co47)) (fun _ hk=>hk.2) (.slice Ao48 x517001_2.length co48)) (fun _ hk=>hk.1),hB_⟩
        ·
         replace c44:=Bool.eq_false_iff.mpr c44;subst c44;rw [if_neg (show ¬ (false=true) by decide)] at H
         (try dsimp only at H)
         simp only [Option.some.injEq,Prod.mk.injEq] at H;obtain⟨rfl,rfl,rfl⟩:=H;have hnb52:=NB516_508.out;have hnc52:=NB508_516.out;have hcz53_0:=c20_ BK516;have hcz53_1:=c21_ BK516;have hfz53_0:=fz_ BK516 0;have hfz53_1:=fz_ BK516 1;obtain⟨Ao54,co54,eo54⟩:=Kd.R_slice HO_517000.out;subst eo54;obtain⟨Ao55,co55,eo55⟩:=Kd.S_slice HO_517001.out;subst eo55;go_wp2_with (first | ((with_reducible refine gate_callee (f:=19) rfl ?_);refine gL_ (some 58) Tryd.func19 #[.agg #[.slice Ao54 x517000_2.length co54,.slice Ao55 x517001_2.length co55]] (h:=?_);(with_reducible refine (spec_PlateOk.calls k2 _ _ x517000_2 _ _ x517001_2 false _ ?side1 ?side2 ?side3 ?side4 A43.out).mono ?_);(case side1=>repeat (first | exact (Kd.R_reads' HO_517000.out).2.2 | (with_reducible refine Kd.C_alloc ?_ _) | (with_reducible refine Kd.C_drewN ?_ _) | (with_reducible refine Kd.C_drew ?_)));(case side2=>exact (Kd.R_reads' HO_517000.out).2.1);(case side3=>repeat (first | exact (Kd.S_reads' HO_517001.out).2.2 | (with_reducible refine Kd.C_alloc ?_ _) | (with_reducible refine Kd.C_drewN ?_ _) | (with_reducible refine Kd.C_drew ?_)));(case side4=>exact (Kd.S_reads' HO_517001.out).2.1);rintro e w56 ⟨rfl,hb⟩;refine⟨_,rfl,?_⟩;replace HO_4:=rb_ HO_4 hb;replace HO_517000:=rb_ HO_517000 hb;replace HO_517001:=a0_ (Kd.S_below (by (with_reducible repeat (first | apply Kd.S_alloc | apply Kd.S_drewN | apply Kd.S_drew));exact HO_517001.out) hb);replace BK508:=vb_ BK508 hb;replace BK516:=vb_ BK516 hb;replace HB:=sb_ HB hb;(try clear hb);have hcz57_0:=c20_ BK508;have hcz57_1:=c21_ BK508;have hfz57_0:=fz_ BK508 0;have hfz57_1:=fz_ BK508 1))
         refine bodyPost_ret (results_ct rfl _ _ gb508 26 #[.slice none 0 0,.slice none 0 0] (0,0) _ rfl (by (with_reducible repeat (first | refine blk_drewN ?_ _ | refine blk_drew ?_ | refine blk_alloc ?_ _));refine blk_put (cs:=#[.slice none 0 0,.slice none 0 0]) ?_ 1 _ rfl;(with_reducible repeat (first | refine blk_drewN ?_ _ | refine blk_drew ?_ | refine blk_alloc ?_ _));refine blk_put (cs:=#[.slice none 0 0,.slice none 0 0]) ?_ 0 _ rfl;(with_reducible repeat (first | refine blk_drewN ?_ _ | refine blk_drew ?_ | refine blk_alloc ?_ _));exact BK508.out) Tryd.underlying26 rfl (by kernel_rfl)) rfl ?_;exact⟨_,_,rr_,by first | exact Kd.R_nil _ _ _ _ _ | exact Kd.N_nil _ _ _ _ _ | exact Kd.V_nil _ _ _ _ _ | exact Kd.Q_nil _ _ _ _ _ | exact Kd.S_nil _ _ _ _ _,by first | exact Kd.S_nil _ _ _ _ _ | exact Kd.N_nil _ _ _ _ _ | exact Kd.V_nil _ _ _ _ _ | exact Kd.Q_nil _ _ _ _ _ | exact Kd.R_nil _ _ _ _ _,hB_⟩
end Go.Proofs.YtailkppkjhkjpaaDoor.X
end
section
set_option linter.unusedVariables false
set_option linter.unusedSimpArgs false
namespace Go.Proofs.YtailkppkjhkjpaaDoor.X
open Go.RowKit Go.Shelf Go.Proofs.YtailkppkjhkjpaaDoorW.PrintWords Go.Proofs.YtailkppkjhkjpaaDoorW.PrintLast Go.Proofs.YtailkppkjhkjpaaDoorW.PrintMore
open Mort (ptOk loopOk plateOk)
open Txt (fig wrPt wrLoop allOf cutAt small isFig rdPt)
theorem l6In_fig (a:UInt8):spec_l6In.f (wrap64 (a.toNat:Int)) 48 57=some (isFig a):=by
 have hx:a.toNat<256:=a.toNat_lt;have hw:wrap64 (a.toNat:Int)=(a.toNat:Int):=by unfold wrap64;omega
 unfold spec_l6In.f isFig;rw [hw];by_cases h1:48≤a.toNat
 ·
  have:(48:Int)≤(a.toNat:Int):=by omega
  by_cases h2:a.toNat≤57
  ·
   have:(a.toNat:Int)≤57:=by omega
   simp [*]
  ·
   have:¬ (a.toNat:Int)≤57:=by omega
   simp [*]
 ·
  have:¬ (48:Int)≤(a.toNat:Int):=by omega
  simp [*]
theorem l3_word {R:Type}(x:ByteArray)(A:S37→Option R)(Z:Option R):
  (if (x.size:Int)=3 then (if 1<(x.size:Int) then (if bt x 1=44 then (if 0<(x.size:Int) then ((spec_l6In.f (wrap64 (bt x 0)) 48 57).bind fun t=>(if t=true then (if 2<(x.size:Int) then ((spec_l6In.f (wrap64 (bt x 2)) 48 57).bind fun t=>(if t=true then A ⟨(bt x 0-48) % 256,(bt x 2-48) % 256⟩ else Z)) else none) else Z)) else none) else Z) else none) else Z)=match rdS x with | some p=>A p | none=>Z:=by
 obtain⟨⟨l⟩⟩:=x;have hsz:((⟨⟨l⟩⟩:ByteArray).size:Int)=(l.length:Int):=rfl;rw [hsz];by_cases h3:(l.length:Int)=3
 ·
  rw [if_pos h3,if_pos (by omega),if_pos (show 0<(l.length:Int) by omega),if_pos (show 2<(l.length:Int) by omega)];obtain⟨a,k,b,rfl⟩:∃ a k b,l=[a,k,b]:=by
   match l,h3 with
   | [a,k,b],_=>exact⟨a,k,b,rfl⟩
   | [],h=>simp at h
   | [_],h=>simp at h
   | [_,_],h=>simp at h
   | _::_::_::_::_,h=>simp at h;omega
  have e0:bt (⟨⟨[a,k,b]⟩⟩:ByteArray) 0=(a.toNat:Int):=rfl;have e1:bt (⟨⟨[a,k,b]⟩⟩:ByteArray) 1=(k.toNat:Int):=rfl;have e2:bt (⟨⟨[a,k,b]⟩⟩:ByteArray) 2=(b.toNat:Int):=rfl;have er:rdS ⟨⟨[a,k,b]⟩⟩=if k=44 && (isFig a && isFig b) then some ⟨(a.toNat:Int)-48,(b.toNat:Int)-48⟩ else none:=by
   unfold rdS
   show (rdPt [a,k,b]).map _=_
   rw [Txt.rdPt3]
   split <;> rfl
  rw [er,e0,e1,e2,l6In_fig,l6In_fig];simp only [Option.bind_some];by_cases hk:k=44
  ·
   subst hk;rw [if_pos (by decide)]
   cases ha:isFig a with
   | false=>rfl
   | true =>
    cases hb:isFig b with
    | false=>rfl
    | true =>
     have ha2:48≤a.toNat∧a.toNat≤57:=by unfold isFig at ha;simpa using ha
     have hb2:48≤b.toNat∧b.toNat≤57:=by unfold isFig at hb;simpa using hb
     have z1:((a.toNat:Int)-48) % 256=(a.toNat:Int)-48:=by omega
     have z2:((b.toNat:Int)-48) % 256=(b.toNat:Int)-48:=by omega
     rw [z1,z2];rfl
  ·
   have hk2:¬ ((k.toNat:Int)=44):=by
    intro e;exact hk (UInt8.toNat_inj.1 (by show k.toNat=44;omega))
   rw [if_neg hk2];simp [hk]
 ·
  rw [if_neg h3];have er:rdS ⟨⟨l⟩⟩=none:=by
   unfold rdS
   show (rdPt l).map _=_
   match l,h3 with
   | [a,k,b],h=>simp at h
   | [],_=>rfl
   | [_],_=>rfl
   | [_,_],_=>rfl
   | _::_::_::_::_,_=>rfl
  rw [er]
def wordsR (ws:List ByteArray)(acc:List S37):List S37 × Bool:=match allOf rdS ws with | some l=>(acc++l,true) | none=>([],false)
theorem l3Read_l (ws:List ByteArray)(hl:ws.length≤2000):∀ (m i k:Nat) (acc:List S37),ws.length-i=m→m+1≤k→acc.length≤i→spec_l3Read.l0 k acc ws (i:Int)=some (wordsR (ws.drop i) acc):=by
 intro m
 induction m with
 | zero =>
  intro i k acc hm hk ha;obtain⟨k,rfl⟩:∃ q,k=q+1:=⟨k-1,by omega⟩;rw [spec_l3Read.l0,if_neg (by omega),List.drop_eq_nil_of_le (by omega)];unfold wordsR;simp [allOf]
 | succ m ih =>
  intro i k acc hm hk ha;obtain⟨k,rfl⟩:∃ q,k=q+1:=⟨k-1,by omega⟩;have hlt:i<ws.length:=by omega
  obtain⟨x,hx⟩:∃ x,rdOf ByteArray.empty ws (i:Int)=x:=⟨_,rfl⟩;have hd:=allOf_at hlt hx;rw [spec_l3Read.l0,if_pos (by omega),if_pos (by omega),hx];refine (l3_word x (fun p=>if acc.length<8796093022208 then (spec_l3Read.l0 k (acc++[p]) ws (wrap64 ((i:Int)+1))) else none) (some ([],false))).trans ?_;rw [hd];unfold wordsR;rw [allOf]
  cases hr:rdS x with
  | none=>rfl
  | some p =>
   simp only;rw [if_pos (by omega),succ64 (by omega),ih (i+1) k _ (by omega) (by omega) (by simp only [List.length_append,List.length_cons,List.length_nil];omega),Option.bind_some];unfold wordsR
   cases allOf rdS (ws.drop (i+1)) with
   | none=>rfl
   | some l=>simp
def readS (t:ByteArray):Option (List S37):=allOf rdS (cutB 32 t)
theorem sL3Read {k:Nat}{t:ByteArray}(ht:t.size≤1000)(hk:1100≤k):spec_l3Read.f k t=some (match readS t with | some l=>(l,true) | none=>([],false)):=by
 unfold spec_l3Read.f;have hc:spec_l3Cut.f t 32=some (cutB 32 t):=by
  unfold spec_l3Cut.f;rw [if_pos ⟨ht,by decide,by decide⟩];rfl
 have hcl:=cutB_len 32 t;rw [hc,Option.bind_some];refine (l3Read_l (cutB 32 t) (by omega) _ 0 k [] rfl (by omega) (Nat.zero_le _)).trans ?_;rw [List.drop_zero];unfold wordsR readS
 cases allOf rdS (cutB 32 t) with
 | none=>rfl
 | some l=>simp
theorem rdS_text {x:ByteArray}{p:S37}(h:rdS x=some p):x=ptT p∧True:=by
 refine⟨?_,trivial⟩;unfold rdS at h
 cases hr:rdPt x.data.toList with
 | none=>rw [hr] at h;cases h
 | some q =>
  rw [hr] at h;obtain rfl:=Option.some.inj h;have:=(Txt.wr_rd hr).1;apply ByteArray.ext;apply Array.toList_inj.1;exact this
theorem readS_len {t:ByteArray}{l:List S37}(h:readS t=some l):t.size+1=4*l.length:=by
 unfold readS at h;have hm:=(Txt.map_allOf (g:=ptT) (P:=fun _=>True) (fun x y hxy=>rdS_text hxy) h).1;have hj:=Txt.join_cut 32 t.data.toList;have hcm:cutAt 32 t.data.toList=l.map fun p=>wrPt (ptP p):=by
  have:(cutB 32 t).map (fun x=>x.data.toList)=cutAt 32 t.data.toList:=by
   unfold cutB;rw [List.map_map];exact List.map_id _
  rw [← this,← hm,List.map_map];rfl
 rw [hcm] at hj;obtain⟨z,zs,hz⟩:=Txt.cutAt_ne 32 t.data.toList;have e2:t.data.toList.length=t.size:=by rw [Array.length_toList];rfl
 cases l with
 | nil=>rw [hcm] at hz;cases hz
 | cons p ps =>
  have:=Txt.loop_len (ptP p) (ps.map ptP);unfold wrLoop at this;rw [← List.map_cons,List.map_map] at this;have hj2:=congrArg List.length hj;rw [show (fun p=>wrPt (ptP p))=wrPt ∘ ptP from rfl,this,e2,List.length_map] at hj2;rw [List.length_cons];omega
theorem readLL_S (t:ByteArray):readLL t=(readS t).bind fun l=>if loopOk (l.map ptP) then some l else none:=by
 unfold readLL readL;by_cases h40:t.size≤40
 ·
  rw [if_pos h40]
  show _=(allOf rdS (cutB 32 t)).bind _
  cases allOf rdS (cutB 32 t) with
  | none=>rfl
  | some l =>
   simp only [Option.bind_some];cases loopOk (l.map ptP) <;> rfl
 ·
  rw [if_neg h40]
  cases hr:readS t with
  | none=>rfl
  | some l =>
   have hlen:=readS_len hr;have hn:¬ loopOk (l.map ptP)=true:=fun hl=>by have:=loop_len hl;omega
   rw [Option.bind_some,if_neg hn];rfl
theorem allOf_LL:∀ (ls:List ByteArray),allOf readLL ls=(allOf readS ls).bind fun L=>if L.all (fun l=>loopOk (l.map ptP)) then some L else none
 | []=>rfl
 | t::ls=>by
  rw [allOf,allOf,readLL_S,allOf_LL ls]
  cases readS t with
  | none=>rfl
  | some l =>
   simp only [Option.bind_some]
   cases allOf readS ls with
   | none =>
    simp only [Option.bind_none];cases loopOk (l.map ptP) <;> rfl
   | some L =>
    have h3:((l::L).all fun l=>loopOk (l.map ptP))=(loopOk (l.map ptP) && L.all fun l=>loopOk (l.map ptP)):=rfl;simp only [Option.bind_some];by_cases h1:loopOk (l.map ptP)=true
    ·
     by_cases h2:(L.all fun l=>loopOk (l.map ptP))=true
     ·
      rw [if_pos h1,if_pos h2,if_pos (h3.trans (by rw [h1,h2];rfl))];rfl
     ·
      rw [if_pos h1,if_neg h2,if_neg (fun h=>h2 (by rw [h3,h1,Bool.true_and] at h;exact h))];rfl
    ·
     rw [if_neg h1,Option.bind_none,if_neg (fun h=>h1 (by rw [h3,Bool.and_eq_true] at h;exact h.1))]
def linesS (ls:List ByteArray):PlR:=match allOf readS ls with | some (o::H)=>finR o H | _=>badR
theorem linesS_eq (ls:List ByteArray):linesS ls=linesR ls:=by
 unfold linesS linesR;rw [allOf_LL]
 cases allOf readS ls with
 | none=>rfl
 | some L =>
  simp only [Option.bind_some];by_cases ha:L.all (fun l=>loopOk (l.map ptP))=true
  ·
   rw [if_pos ha]
   all_goals rfl
  ·
   rw [if_neg ha]
   cases L with
   | nil=>rfl
   | cons o H =>
    simp only;unfold finR;rw [if_neg];intro hb;obtain⟨_,h1,hH,_,_⟩:=(bodyOkB_iff o H).1 hb;refine ha (List.all_eq_true.2 fun z hz=>?_)
    rcases List.mem_cons.1 hz with rfl | hz
    ·
     exact h1
    ·
     exact hH z hz
theorem finS {k:Nat}(hk:1000≤k)(o:List S37)(H:List (List S37)):((spec_PlateOk.f k o H).bind fun t=>(if t=true then (some (o,H,true)) else (some (([]:List S37),([]:List (List S37)),false))))=some (finR o H):=by
 rw [sPlateOk hk,Option.bind_some,← iBodyOk];unfold finR;cases bodyOkB o H <;> rfl
theorem linesS_l (ls:List ByteArray)(n:Nat)(hn:n+1=ls.length)(hl:ls.length≤1000)(hs:∀ x∈ls,x.size≤1000):∀ (m i k:Nat) (o:List S37) (Z:List (List S37)),n-i=m→1≤i→m+1300≤k→Z.length≤i→spec_PlateRead.l0 k ls (n:Int) (i:Int) o Z=some (match allOf readS ((ls.take n).drop i) with | some Hs=>finR o (Z++Hs) | none=>badR):=by
 intro m
 induction m with
 | zero =>
  intro i k o Z hm hi hk hz;obtain⟨k,rfl⟩:∃ q,k=q+1:=⟨k-1,by omega⟩;rw [spec_PlateRead.l0,if_neg (by omega),List.drop_eq_nil_of_le (by rw [List.length_take];omega),finS (by omega)];simp [allOf]
 | succ m ih =>
  intro i k o Z hm hi hk hz;obtain⟨k,rfl⟩:∃ q,k=q+1:=⟨k-1,by omega⟩;obtain⟨x,hx⟩:∃ x,rdOf ByteArray.empty ls (i:Int)=x:=⟨_,rfl⟩;have hx2:rdOf ByteArray.empty (ls.take n) (i:Int)=x:=by
   rw [← hx];unfold rdOf;rw [Int.toNat_natCast,List.getD_eq_getElem?_getD,List.getD_eq_getElem?_getD,List.getElem?_take_of_lt (by omega)]
  have hd:=allOf_at (xs:=ls.take n) (i:=i) (by rw [List.length_take];omega) hx2
  have hxs:x.size≤1000:=hs x (by
   have:x∈(ls.take n).drop i:=by rw [hd];simp
   exact List.mem_of_mem_take (List.mem_of_mem_drop this))
  rw [spec_PlateRead.l0,if_pos (by omega),if_pos (by omega),if_pos (by omega),hx,sL3Read hxs (by omega),Option.bind_some,hd,allOf]
  cases readS x with
  | none=>rfl
  | some l =>
   simp only [Option.bind_some];rw [if_pos trivial,if_neg (by omega),if_pos (by omega),succ64 (by omega),ih (i+1) k _ _ (by omega) (by omega) (by omega) (by simp only [List.length_append,List.length_cons,List.length_nil];omega)]
   cases allOf readS ((ls.take n).drop (i+1)) with
   | none=>rfl
   | some Hs=>simp
theorem linesS_f (ls:List ByteArray)(n:Nat)(hn:n+1=ls.length)(h0:0<n)(hl:ls.length≤1000)(hs:∀ x∈ls,x.size≤1000){k:Nat}(hk:2500≤k):spec_PlateRead.l0 k ls (n:Int) 0 [] []=some (linesS (ls.take n)):=by
 obtain⟨k,rfl⟩:∃ q,k=q+1:=⟨k-1,by omega⟩;obtain⟨x,hx⟩:∃ x,rdOf ByteArray.empty ls ((0:Nat):Int)=x:=⟨_,rfl⟩;have hx2:rdOf ByteArray.empty (ls.take n) ((0:Nat):Int)=x:=by
  rw [← hx];unfold rdOf;rw [Int.toNat_natCast,List.getD_eq_getElem?_getD,List.getD_eq_getElem?_getD,List.getElem?_take_of_lt (by omega)]
 have hd:=allOf_at (xs:=ls.take n) (i:=0) (by rw [List.length_take];omega) hx2;rw [List.drop_zero] at hd;have hxs:x.size≤1000:=hs x (List.mem_of_mem_take (i:=n) (by rw [hd];simp));have hx0:rdOf ByteArray.empty ls 0=x:=hx;have ew:wrap64 (0+1)=((1:Nat):Int):=succ64 (i:=0) (by omega);rw [spec_PlateRead.l0,if_pos (by omega),if_pos (by omega),if_pos (by omega),hx0,sL3Read hxs (by omega),Option.bind_some];unfold linesS;have hal:allOf readS (ls.take n)=allOf readS (x::(ls.take n).drop (0+1)):=congrArg _ hd;rw [hal,allOf]
 cases readS x with
 | none=>rfl
 | some l =>
  simp only [Option.bind_some];rw [if_pos trivial,if_pos trivial,ew,linesS_l ls n hn hl hs (n-1) 1 k _ _ rfl (Nat.le_refl _) (by omega) (by simp)]
  cases allOf readS ((ls.take n).drop (0+1)) with
  | none=>rfl
  | some Hs=>rfl
theorem cutB_snoc (u:List UInt8):cutB 10 ⟨(u++[10]).toArray⟩=cutB 10 ⟨u.toArray⟩++[⟨#[]⟩]:=by
 unfold cutB
 show (cutAt 10 (u++[10])).map _=(cutAt 10 u).map _++_
 rw [cut_snoc_eq,List.map_append];rfl
theorem cutB_size (c:UInt8)(t:ByteArray):∀ x∈cutB c t,x.size≤t.size:=by
 intro x hx;obtain⟨l,hl,rfl⟩:=List.mem_map.1 hx;have:=Txt.cut_piece c t.data.toList l hl;have e2:t.data.toList.length=t.size:=by rw [Array.length_toList];rfl
 show l.length≤_
 omega
theorem sPlateRead {k:Nat}(hk:3000≤k)(t:ByteArray):spec_PlateRead.f k t=some (readPl t):=by
 obtain⟨k,rfl⟩:∃ q,k=q+1:=⟨k-1,by omega⟩;unfold spec_PlateRead.f readPl;by_cases h120:t.size≤120
 ·
  have hc:spec_l3Cut.f t 10=some (cutB 10 t):=by
   unfold spec_l3Cut.f;rw [if_pos ⟨by omega,by decide,by decide⟩];rfl
  have hcl:=cutB_len 10 t;rw [if_neg (by omega),if_pos h120,hc,Option.bind_some];have hw:wrap64 (((cutB 10 t).length:Int)-1)=(((cutB 10 t).length-1:Nat):Int):=by unfold wrap64;omega
  rw [hw];have hsz:=cutB_size 10 t
  cases hu:unl t.data.toList with
  | none =>
   have hnl:¬ t.data.toList.getLast?=some 10:=fun e=>by unfold unl at hu;rw [if_pos e] at hu;cases hu
   by_cases h1:(((cutB 10 t).length-1:Nat):Int)<1
   ·
    rw [if_pos h1,spec_PlateRead.j0,if_pos rfl];rfl
   ·
    rw [if_neg h1,if_pos (by omega),if_pos (by omega)];have hlast:((rdOf ByteArray.empty (cutB 10 t) (((cutB 10 t).length-1:Nat):Int)).toList != ([]:List UInt8))=true:=by
     rcases List.eq_nil_or_concat t.data.toList with e | ⟨u,b,e⟩
     ·
      exfalso
      have:cutB 10 t=[⟨#[]⟩]:=by unfold cutB;rw [e];rfl
      rw [this] at h1;exact h1 (by decide)
     ·
      have hb:b≠10:=fun h=>hnl (by rw [e,h,List.concat_eq_append,last_app])
      obtain⟨xs,x,e1,e2⟩:=cut_snoc_ne hb u;rw [List.concat_eq_append] at e;have ec:cutB 10 t=(xs.map fun l=>(⟨l.toArray⟩:ByteArray))++[⟨(x++[b]).toArray⟩]:=by unfold cutB;rw [e,e2,List.map_append];rfl
      have er:rdOf ByteArray.empty (cutB 10 t) (((cutB 10 t).length-1:Nat):Int)=⟨(x++[b]).toArray⟩:=by
       rw [ec];unfold rdOf;rw [Int.toNat_natCast];simp
      rw [er,Lib.toList_data];simp
    rw [hlast,spec_PlateRead.j0,if_pos rfl];rfl
  | some u =>
   have hl:=unl_some hu;have et:t=⟨(u++[10]).toArray⟩:=by
    apply ByteArray.ext;apply Array.toList_inj.1;exact hl
   have ec:cutB 10 t=cutB 10 ⟨u.toArray⟩++[⟨#[]⟩]:=by rw [et];exact cutB_snoc u
   have hcu:=cutB_len 10 ⟨u.toArray⟩;obtain⟨us,hus⟩:∃ us,cutB 10 ⟨u.toArray⟩=us:=⟨_,rfl⟩;rw [hus] at ec hcu;rw [ec] at hcl hsz ⊢
   have hlen:(us++[(⟨#[]⟩:ByteArray)]).length=us.length+1:=by simp
   rw [hlen,Nat.add_sub_cancel,if_neg (by omega),if_pos (by omega),if_pos (by omega)];have er:rdOf ByteArray.empty (us++[(⟨#[]⟩:ByteArray)]) (us.length:Int)=⟨#[]⟩:=by
    unfold rdOf;rw [Int.toNat_natCast];simp
   have ez:((⟨#[]⟩:ByteArray).toList != ([]:List UInt8))=false:=by rw [Lib.toList_data];rfl
   rw [er,ez,spec_PlateRead.j0,if_neg (by decide),linesS_f _ us.length (by rw [hlen]) (by omega) (by rw [hlen] at hcl ⊢;omega) (fun x hx=>by have:=hsz x hx;omega) (by omega),List.take_left,linesS_eq,← hus]
 ·
  rw [if_pos (by omega),if_neg h120];rfl
end Go.Proofs.YtailkppkjhkjpaaDoor.X
end
section
set_option linter.unusedVariables false
set_option linter.unusedSimpArgs false
namespace Go.Proofs.YtailkppkjhkjpaaDoor.X
open Go.RowKit Go.Shelf Go.Proofs.YtailkppkjhkjpaaDoorW.PrintWords Go.Proofs.YtailkppkjhkjpaaDoorW.PrintLast Go.Proofs.YtailkppkjhkjpaaDoorW.PrintMore
set_option maxHeartbeats 4000000 in
set_option maxRecDepth 100000 in
theorem exactRead_calls (t:ByteArray)(w:World):
  Calls Tryd.prog 4 #[.string t] w fun e w'=>e=.returned (.bool true)∧Below w.heap.size w w':=by
 have hu26:=Tryd.underlying26;by_cases hbig:t.size≤1048576
 ·
  have hd:decide (1048576<(t.size:Int))=false:=decide_eq_false (by omega)
  rcases hr:readPl t with ⟨o,H,b⟩
  have hs:=readPl_small t;rw [hr] at hs;obtain⟨m,hm⟩:∃ m,endH (endL 1 o) H=m:=⟨_,rfl⟩;have hp:=hs.pos;rw [hm] at hp;have hq:decide (m<0)=false:=decide_eq_false (by omega);have hbb:(b != b)=false:=by cases b <;> rfl
  have HQ:=a0_ (And.intro ((sPlateRead (k:=5000) (by omega) t).trans (congrArg some hr)) (And.intro ((iPlateRead (k:=5000) (by omega) t).trans (congrArg some hr)) (And.intro hs hm)));clear hr hs hm hp hbig;go_enter Tryd.func4,Tryd.ntmps4;go_upto_region 4 with (go_at_call 12;(with_reducible refine (spec_PlateRead.calls 5000 t o H b _ HQ.out.1).mono ?_);rintro e w1 ⟨v0,v1,rfl,h0,h1,hb1⟩;obtain⟨A1,c1,B1,d1,rfl,rfl,hF1⟩:=Fresh.of h0 h1;have H1:=a0_ (And.intro hF1 hb1);clear hF1 hb1 h0 h1)
  clear hd;have hal:=below_alloc (Below.refl w1.heap.size w1) (.cells #[.slice A1 o.length c1,.slice B1 H.length d1] 26);have n1:=blk_new w1 (.cells #[.slice A1 o.length c1,.slice B1 H.length d1] 26 (0,0));have HV:=a0_ (And.intro (H1.out.1.later hal) (And.intro (below_step H1.out.2 hal) n1));clear n1 hal H1;generalize w1.alloc (.cells #[.slice A1 o.length c1,.slice B1 H.length d1] 26)=V1 at *;generalize w1.heap.size=g1 at *;go_upto_region 5 with (go_at_call 9;(with_reducible refine (impl_PlateRead.calls 5000 t o H b _ HQ.out.2.1).mono ?_);rintro e w2 ⟨v0,v1,rfl,h0,h1,hb2⟩;obtain⟨A2,c2,B2,d2,rfl,rfl,hF2⟩:=Fresh.of h0 h1;have H2:=a0_ (And.intro hF2 hb2);clear hF2 hb2 h0 h1)
  have hal:=below_alloc (Below.refl w2.heap.size w2) (.cells #[.slice A2 o.length c2,.slice B2 H.length d2] 26);have n2:=blk_new w2 (.cells #[.slice A2 o.length c2,.slice B2 H.length d2] 26 (0,0));have hb:=below_step H2.out.2 hal;have HW:=a0_ (And.intro (HV.out.1.later hb) (And.intro (blk_later HV.out.2.2 hb) (And.intro (H2.out.1.later hal) (And.intro n2 (And.intro hb (blk_lt HV.out.2.2))))));clear n2 hal hb H2;generalize w2.alloc (.cells #[.slice A2 o.length c2,.slice B2 H.length d2] 26)=V2 at *;generalize w2.heap.size=g2 at *;have z10:=(blk_cell HW.out.2.1 0).trans rfl;have z11:=(blk_cell HW.out.2.1 1).trans rfl;have z20:=(blk_cell HW.out.2.2.2.1 0).trans rfl;have z21:=(blk_cell HW.out.2.2.2.1 1).trans rfl;go_upto_region 8 with (go_at_call 13;(with_reducible refine (HW.out.2.2.1.at_.same HW.out.1.at_ HQ.out.2.2.1).mono ?_);rintro e w3 ⟨rfl,hb3⟩;have H3:=Aside0.mk hb3;clear hb3)
  clear z10 z11 z20 z21;have HX:=a0_ (And.intro (HW.out.1.later H3.out) (And.intro (blk_later HW.out.2.1 H3.out) (And.intro (HW.out.2.2.1.later H3.out) (And.intro (blk_later HW.out.2.2.2.1 H3.out) (And.intro (below_step HW.out.2.2.2.2.1 H3.out) HW.out.2.2.2.2.2)))));clear H3 HW;have z20:=(blk_cell HX.out.2.2.2.1 0).trans rfl;have z21:=(blk_cell HX.out.2.2.2.1 1).trans rfl;go_upto_region 10 with (go_at_call 14;(with_reducible refine (HX.out.2.2.1.mark (w0:=V1) rfl HX.out.2.2.2.2.1 HQ.out.2.2.1 HQ.out.2.2.2).mono ?_);rintro e w4 ⟨rfl,hb4,hk4,hP4⟩;have H4:=a0_ (And.intro hb4 (And.intro hk4 hP4));clear hb4 hk4 hP4)
  clear z20 z21;have HY:=a0_ (And.intro (HX.out.1.kept H4.out.2.1 (fun k hk hh=>by have:=HX.out.2.2.2.2.2;omega)) (And.intro (blk_kept HX.out.2.1 H4.out.2.1 (fun hh=>by have:=HX.out.2.2.2.2.2;omega)) (And.intro (blk_kept HX.out.2.2.2.1 H4.out.2.1 (fun hh=>by omega)) (And.intro H4.out.2.2 (below_step HV.out.2.1 H4.out.1)))));clear H4 HX HV;have z20:=(blk_cell HY.out.2.2.1 0).trans rfl;have z21:=(blk_cell HY.out.2.2.1 1).trans rfl;go_upto_region 15 with (go_at_call 15;(with_reducible refine (HY.out.2.2.2.1.held HQ.out.2.2.1 HQ.out.2.2.2).mono ?_);rintro e w5 ⟨rfl,hb5⟩;have H5:=Aside0.mk hb5;clear hb5)
  clear z20 z21;go_upto_region 16 with (go_at_call 9;(with_reducible refine (impl_PlateRead.calls 5000 t o H b _ HQ.out.2.1).mono ?_);rintro e w6 ⟨v0,v1,rfl,h0,h1,hb6⟩;obtain⟨A3,c3,B3,d3,rfl,rfl,hF3⟩:=Fresh.of h0 h1;have H6:=a0_ (And.intro hF3 hb6);clear hF3 hb6 h0 h1)
  have hal:=below_alloc (Below.refl w6.heap.size w6) (.cells #[.slice A3 o.length c3,.slice B3 H.length d3] 26);have n3:=blk_new w6 (.cells #[.slice A3 o.length c3,.slice B3 H.length d3] 26 (0,0));have hb:=below_step H5.out (below_step H6.out.2 hal);have HZ:=a0_ (And.intro (HY.out.1.later hb) (And.intro (blk_later HY.out.2.1 hb) (And.intro (blk_later HY.out.2.2.1 hb) (And.intro (HY.out.2.2.2.1.later hb) (And.intro (below_step HY.out.2.2.2.2 hb) (And.intro (H6.out.1.later hal) n3))))));clear n3 hal hb H6 H5 HY;generalize w6.alloc (.cells #[.slice A3 o.length c3,.slice B3 H.length d3] 26)=V3 at *;generalize w6.heap.size=g3 at *;have z10:=(blk_cell HZ.out.2.1 0).trans rfl;have z11:=(blk_cell HZ.out.2.1 1).trans rfl;have z30:=(blk_cell HZ.out.2.2.2.2.2.2 0).trans rfl;have z31:=(blk_cell HZ.out.2.2.2.2.2.2 1).trans rfl;go_upto_region 19 with (go_at_call 13;(with_reducible refine (HZ.out.2.2.2.2.2.1.at_.same HZ.out.1.at_ HQ.out.2.2.1).mono ?_);rintro e w7 ⟨rfl,hb7⟩;have H7:=Aside0.mk hb7;clear hb7)
  clear z10 z11 z30 z31;have z20:=(blk_cell (blk_later HZ.out.2.2.1 H7.out) 0).trans rfl;have z21:=(blk_cell (blk_later HZ.out.2.2.1 H7.out) 1).trans rfl;go_wp2_with (go_at_call 15;(with_reducible refine ((HZ.out.2.2.2.1.later H7.out).held HQ.out.2.2.1 HQ.out.2.2.2).mono ?_);rintro e w8 ⟨rfl,hb8⟩;have H8:=Aside0.mk hb8;clear hb8);go_ret;exact⟨rfl,below_step HZ.out.2.2.2.2.1 (below_step H7.out H8.out)⟩
 ·
  have hd:decide (1048576<(t.size:Int))=true:=decide_eq_true (by omega);go_enter Tryd.func4,Tryd.ntmps4;go_wp2;go_ret;exact⟨rfl,Below.refl _ _⟩
end Go.Proofs.YtailkppkjhkjpaaDoor.X
end
section
set_option linter.unusedVariables false
namespace Go.Proofs.YtailkppkjhkjpaaDoor.fnExactPlateRead
open Go Go.ChangeShapes Go.WideShapes Go.ChangeAt Go.RowKit Go.Proofs.YtailkppkjhkjpaaDoorW
open Go.ChangeMaps (open_string shut_string)
set_option maxRecDepth 100000 in
theorem lifted (os:Os)(started:os.Started)(H:Type)(enc:TypeId × Value→H):
  ReturnsInHanded {} Tryd.checked os 4 .any (fun w args=>(Rows.fnExactPlateReadSpec.pre enc Tryd.prog Tryd.f4 [] false w args∧laidMet Tryd.prog Rows.fnExactPlateReadRow.laid w)∧sizedMet enc Tryd.prog Tryd.f4 (OpenSpec.ofChange Rows.fnExactPlateReadSpec) false w args) (Rows.fnExactPlateReadSpec.post enc Tryd.prog Tryd.f4 false true false false):=by
 refine returnsInHanded_of_change_and (C:=Tryd.checked) (X:=fun w _=>laidMet Tryd.prog Rows.fnExactPlateReadRow.laid w) (fun _ _ _ hh h=>h.of_heap hh) own started (by kernel_rfl) Tryd.func4
  (ChangeSpec.witness_at (enc:=enc) (C:=Tryd.checked) (os:=os) (X:=fun w _=>laidMet Tryd.prog Rows.fnExactPlateReadRow.laid w) false (laidWorld2 os) #[.string ⟨#[]⟩] 8 rfl (by kernel_rfl) (by kernel_rfl) (by kernel_rfl) (by kernel_rfl) (by kernel_rfl) (read_met os _)) ?_
 intro W base args ds gs before hval0 hW hcnd hsz0 hL _;have hsz:(DataW.weightsEach Tryd.prog (Tryd.f4.params.toList++Rows.fnExactPlateReadSpec.plain.varTypes Tryd.prog) (ds++gs)).all (· ≤ reachBytes)=true:=hsz0;have hval:∀ (j:Nat) t v,Tryd.f4.params[j]?=some t→args[j]?=some v→Value.okWide Tryd.prog W .any base t v:=hval0;have hW':=hW;obtain⟨p,q,hA0,hV0,rfl,hfz,hnd⟩:=hW;have hA:DataW.TrodAll enc Tryd.prog W 0 (fun _=>true) true Tryd.f4.params.toList args.toList ds p:=hA0;have hV:DataW.TrodVars enc Tryd.prog W (fun _=>true) [] gs q:=hV0;rw [Tryd.params4] at hA hval hsz;obtain⟨v0,vs0,d0,ds0,p0,q0,hargs,rfl,rfl,h0,r0⟩:=trodAll_cons hA;obtain⟨rfl,rfl,rfl⟩:=trodAll_nil r0;obtain rfl:args=#[v0]:=by cases args;simp_all
 obtain⟨rfl,rfl⟩:gs=[]∧q=[]:=by
  cases gs with
  | nil=>exact⟨rfl,hV⟩
  | cons _ _=>exact hV.elim
 obtain⟨s0,rfl⟩:=okWide_string Tryd.underlying9 (hval 0 9 v0 rfl rfl);have k0:=h0;have lt0:∀ x∈p0,x.block<W.heap.size:=by obtain⟨m,hm⟩:=k0;exact DataW.trod_lt m _ _ _ hm
 clear hA0 hval0 hsz0 hsz;refine (X.exactRead_calls s0 W).mono fun e W' ⟨he,bel⟩=>?_
 subst he;exact⟨_,rfl,_,_,_,[],_,[],hW',trodAll_mk1 (shut_bool Tryd.underlying4 _),(trodAll_cons_mk (Below.trod laidOut (by kernel_rfl) (of_decide_eq_true (by kernel_rfl)) k0 bel lt0) trodAll_mk0),rfl,bel.frame _,fun h=>by cases h⟩
theorem over:Rows.fnExactPlateReadRow.holds Tryd.pinned (OpenSpec.ofChange Rows.fnExactPlateReadSpec):=
 OpenClaim.holds_of_wide 4 Tryd.f4 rfl rfl rfl rfl rfl rfl rfl ⟨rfl,rfl,rfl,rfl,rfl⟩ rfl rfl rfl rfl rfl (by kernel_rfl) Tryd.func4 (by kernel_rfl)
  (of_decide_eq_true (by kernel_rfl)) (by unfold Func.isWrapper;first | (rw [if_pos (by decide +kernel)];kernel_rfl) | (rw [if_neg (by decide +kernel)];exact⟨rfl,rfl⟩))
  (fun os started H enc _=>lifted os started H enc)
theorem proved:Rows.FnExactPlateReadCardSaid:=
 Claim7.holds_tied_plain_at .later [] [.data,.pinned] true (true,"b4ab95a4db49b2771e2f8168cb46a810f1ec4b19641b07dd5b55ecff015c9d10") false
  over (fun _ h=>by cases h) (by kernel_rfl) (fun _ h=>by cases h) fnExactPlateRead_row_tie rfl ⟨rfl,rfl⟩ (by kernel_rfl) rfl
  (fun f fn hf hfn=>by
   obtain rfl:f=4:=Option.some.inj ((show Tryd.prog.funcNamed "loop.example/mortiser/laws.FnExactPlateRead" = some 4 by kernel_rfl).symm.trans hf) |>.symm
   obtain rfl:fn=Tryd.f4:=(Option.some.inj (Tryd.func4.symm.trans hfn)).symm
   exact⟨by kernel_rfl,fun j t ht=>by
    rw [Tryd.params4] at ht;have h3:t=9:=by
     rcases j with _ | j
     ·
      simpa using ht.symm
     ·
      simp at ht
    subst h3
    exact (show Tryd.prog.wantsStandIn 9=false by kernel_rfl)⟩)
  (by kernel_rfl)
end Go.Proofs.YtailkppkjhkjpaaDoor.fnExactPlateRead
namespace Go.Proofs.YtailkppkjhkjpaaDoor
theorem fnExactPlateRead_holds:Rows.FnExactPlateReadCardSaid:=fnExactPlateRead.proved
end Go.Proofs.YtailkppkjhkjpaaDoor
end
