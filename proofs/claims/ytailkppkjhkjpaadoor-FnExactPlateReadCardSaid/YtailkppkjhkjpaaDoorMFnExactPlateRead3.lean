/- FnExactPlateRead: the law returns true for every input, and each input reads behind the call as before; part 3 of 4. No condition. Merged by program out of: HRings, HRound, HLoopA, HKept, HBody, HPlate, Txt, Shelf, HSplit, FImplFigureOf, HRead, FImplPlateRead, HMeet, FSpecL11Apart, EvEdges. -/
import Derived.Test.YtailkppkjhkjpaaDoorMFnExactPlateRead2
import Derived.Deep.LoopGhost
import Derived.Deep.RegionHeld3
import Derived.LaidEqlPtr
import Derived.RegionTactic
import Derived.BigRegion
import Derived.BigGuard
import Derived.Lib.SplitLaws
import Derived.Lib.Join
import Derived.Lib.Strings
import Derived.Shelf.Strings.OnBuilder
import Derived.Shelf.Strings.BuilderK
import Derived.Shelf.LaysM
import Derived.Shelf.Strconv.Itoa3
import Derived.Shelf.Strings.Prefix
import Derived.Shelf.Strings.Split
import Derived.Test.YtailkppkjhkjpaaDoorProg
set_option linter.all false
section
set_option linter.unusedVariables false
set_option linter.unusedSimpArgs false
namespace Go.Proofs.YtailkppkjhkjpaaDoor.X
open Go.RowKit Go.Shelf Go.Proofs.YtailkppkjhkjpaaDoorW.PrintWords Go.Proofs.YtailkppkjhkjpaaDoorW.PrintLast Go.Proofs.YtailkppkjhkjpaaDoorW.PrintMore
open Mort (edges segMeet loopOk ptOk inOf)
def RingsAt (W:World):Option Addr→List (List S37)→Prop
 | p,[]=>p=none
 | p,zs::rest=>∃ b A c nx,p=some ⟨b,0,none⟩∧RingAt W b A c zs nx∧RingsAt W nx rest
theorem RingsAt.later {W W':World}(hb:Below W.heap.size W W'):∀ {p:Option Addr} {R:List (List S37)},RingsAt W p R→RingsAt W' p R
 | _,[],h=>h
 | _,_::_,⟨b,A,c,nx,e,h,k⟩=>⟨b,A,c,nx,e,h.later hb,RingsAt.later hb k⟩
def Small (R:List (List S37)):Prop:=∀ z∈R,0<z.length∧z.length≤8
def apartAll:List (List S37)→Bool
 | []=>true
 | z::rest=>(rest.all fun y => !meetsB z y) && apartAll rest
set_option maxHeartbeats 4000000 in
set_option maxRecDepth 100000 in
theorem apart_calls (b:Nat)(R:List (List S37))(r:Bool)(w:World)(hR:RingsAt w (some ⟨b,0,none⟩) R)(hS:Small R)(h:apartAll R=r):
  Calls Tryd.prog 57 #[.pointer (some ⟨b,0,none⟩)] w fun e w'=>e=.returned (.bool r)∧Below w.heap.size w w':=by
 have HR:=Aside0.mk h;clear h;go_enter Tryd.func57,Tryd.ntmps57;go_wp2;go_loopg [3] R.length (fun kq v3 wr=>∃ (p:Option Addr) (rest:List (List S37)),v3=.pointer p∧Aside0 (kq=rest.length∧RingsAt wr p rest∧Small rest∧apartAll rest=r∧Below w.heap.size w wr))
 case atStart=>exact⟨_,R,rfl,⟨rfl,hR,hS,HR.out,Below.refl _ _⟩⟩
 case round =>
  obtain⟨p,rest,rfl,H⟩:=hrel;obtain⟨hk,hr,hs,ha,hB⟩:=H.out;clear H
  cases rest with
  | nil =>
   obtain rfl:p=none:=hr;obtain rfl:true=r:=ha;clear HR;have HB:=Aside0.mk hB;clear hB hk;go_wp2;go_ret;exact⟨rfl,HB.out⟩
  | cons z rest =>
   obtain⟨b1,A1,c1,n1,rfl,hz,hrest⟩:=hr;have hn:=hz.nxt;have HZ:=a0_ (And.intro hz (And.intro hrest (And.intro hs (And.intro ha (And.intro hB hk)))));clear hz hrest hs ha hB hk HR;go_wp2;go_loopg [4] rest.length (fun kq v4 w2=>∃ (q:Option Addr) (rest2:List (List S37)),v4=.pointer q∧Aside0 (kq=rest2.length∧RingsAt w2 q rest2∧Small rest2∧((rest2.all fun y => !meetsB z y) && apartAll rest)=r∧RingAt w2 b1 A1 c1 z n1∧RingsAt w2 n1 rest∧Below w.heap.size w w2))
   case atStart =>
    obtain⟨hz,hrest,hs,ha,hB,hk⟩:=HZ.out;exact⟨n1,rest,rfl,⟨rfl,hrest,fun y hy=>hs y (List.mem_cons_of_mem _ hy),ha,hz,hrest,hB⟩⟩
   case round =>
    obtain⟨q,rest2,rfl,H⟩:=hrel;obtain⟨hk2,hr2,hs2,ha2,hz2,hrest2,hB2⟩:=H.out;clear H hn
    cases rest2 with
    | nil =>
     obtain rfl:q=none:=hr2;simp only [List.all_nil,Bool.true_and] at ha2;have hn2:=hz2.nxt;obtain⟨_,_,hs,_,_,hk⟩:=HZ.out;have HZ2:=a0_ (And.intro hrest2 (And.intro (show Small rest from fun y hy=>hs y (List.mem_cons_of_mem _ hy)) (And.intro ha2 (And.intro hB2 hk))));clear hz2 hrest2 ha2 hB2 hk2 hs2 hs hk HZ;go_wp2;obtain⟨h1,h2,h3,h4,h5⟩:=HZ2.out;go_roundg rest.length
     case measure=>rw [h5];simp
     case rel=>exact⟨n1,rest,rfl,⟨rfl,h1,h2,h3,h4⟩⟩
    | cons y rest2 =>
     obtain⟨b2,A2,c2,n2,rfl,hy,hrr⟩:=hr2;obtain⟨_,_,hs,_,_,_⟩:=HZ.out;have hsz:=hs z List.mem_cons_self;have hsy:=hs2 y List.mem_cons_self;have hny:=hy.nxt
     cases hm:meetsB z y with
     | true =>
      obtain rfl:false=r:=by rw [← ha2];simp [hm]
      have HK:=a0_ (And.intro hz2 (And.intro hy (And.intro hsz (And.intro hsy (And.intro hm hB2)))));clear hz2 hy hsz hsy hm hB2 hk2 hs2 ha2 hrest2 hrr hs HZ;go_wp2_with (go_at_call 80;refine (meets_calls b1 b2 A1 A2 n1 n2 c1 c2 z y true _ HK.out.1 HK.out.2.1 HK.out.2.2.1 HK.out.2.2.2.1 HK.out.2.2.2.2.1).mono ?_;rintro e w3 ⟨rfl,hb⟩);go_ret;exact⟨rfl,below_step HK.out.2.2.2.2.2 hb⟩
     | false =>
      have ha3:((rest2.all fun y => !meetsB z y) && apartAll rest)=r:=by rw [← ha2];simp [hm]
      have HK:=a0_ (And.intro hz2 (And.intro hy (And.intro hsz (And.intro hsy (And.intro hm (And.intro hB2 (And.intro hrr (And.intro (show Small rest2 from fun u hu=>hs2 u (List.mem_cons_of_mem _ hu)) (And.intro ha3 (And.intro hrest2 hk2))))))))));clear hz2 hy hsz hsy hm hB2 hk2 hs2 ha2 ha3 hrest2 hrr hs;go_wp2_with (go_at_call 80;refine (meets_calls b1 b2 A1 A2 n1 n2 c1 c2 z y false _ HK.out.1 HK.out.2.1 HK.out.2.2.1 HK.out.2.2.2.1 HK.out.2.2.2.2.1).mono ?_;rintro e w3 ⟨rfl,hb⟩;have hny3:=pw_cell_below hb hny);obtain⟨k1,k2,k3,k4,k5,k6,k7,k8,k9,k10,k11⟩:=HK.out;go_roundg rest2.length
      case measure=>rw [k11];simp
      case rel=>exact⟨n2,rest2,rfl,⟨rfl,k7.later hb,k8,k9,k1.later hb,k10.later hb,below_step k6 hb⟩⟩
def ptrAt (bs:List Nat)(i:Nat):Option Addr:=(bs[i]?).map fun b=>(⟨b,0,none⟩:Addr)
structure RingsIx (W:World) (bs:List Nat) (H:List (List S37)):Prop where
 len:bs.length=H.length
 nd:bs.Nodup
 ring:∀ i,i<H.length→∃ A c,RingAt W (bs.getD i 0) A c (H.getD i []) (ptrAt bs (i+1))∧W.heap[bs.getD i 0]?=some (.cells #[.slice A (H.getD i []).length c,.pointer (ptrAt bs (i+1))] 55 (0,0))
theorem RingsIx.later {W W':World}{bs:List Nat}{H:List (List S37)}(h:RingsIx W bs H)(hb:Below W.heap.size W W'):RingsIx W' bs H:=
 ⟨h.len,h.nd,fun i hi=>by obtain⟨A,c,k,o⟩:=h.ring i hi;exact⟨A,c,k.later hb,blk_later o hb⟩⟩
theorem ptrAt_some {bs:List Nat}{i:Nat}(h:i<bs.length):ptrAt bs i=some ⟨bs.getD i 0,0,none⟩:=by
 unfold ptrAt;rw [List.getD_eq_getElem?_getD,List.getElem?_eq_getElem h];rfl
theorem ptrAt_none {bs:List Nat}{i:Nat}(h:bs.length≤i):ptrAt bs i=none:=by
 unfold ptrAt;rw [List.getElem?_eq_none h];rfl
theorem RingsIx.at {W:World}{bs:List Nat}{H:List (List S37)}(h:RingsIx W bs H):∀ (n k:Nat),H.length-k=n→RingsAt W (ptrAt bs k) (H.drop k):=by
 intro n
 induction n with
 | zero =>
  intro k hk;have hl:=h.len;rw [List.drop_of_length_le (by omega),ptrAt_none (by omega)];rfl
 | succ n ih =>
  intro k hk;have hl:=h.len;have hlt:k<H.length:=by omega
  rw [ptrAt_some (by omega),List.drop_eq_getElem_cons hlt];obtain⟨A,c,hr,_⟩:=h.ring k hlt;have e:H.getD k []=H[k]:=by rw [List.getD_eq_getElem?_getD,List.getElem?_eq_getElem hlt];rfl
  rw [e] at hr;exact⟨_,A,c,_,rfl,hr,ih (k+1) (by omega)⟩
theorem infoRing:(Tryd.prog.info? 55).map (fun i=>(i.zero,i.size,i.bytes))=some (some (.agg #[.slice none 0 0,.pointer none]),2,32):=by kernel_rfl
theorem neq_same (w:World)(a:Addr):(binOp .neq 53 (.pointer (some a)) (.pointer (some a))).run Tryd.prog w=.ok (.bool false) w:=by
 obtain⟨i0,hi,hz0,hz1,hz2⟩:=info_parts infoRing;have h:∀ d:Nat,(Op.equalIn (d+1) 53 (.pointer (some a)) (.pointer (some a))).run Tryd.prog w=.ok true w:=fun d=>by
  simp [Op.equalIn,run_underlying Tryd.underlying53,sizeOf,typeInfo,hi,run_sameAddr_same]
 simp only [binOp];simp [Op.equal,Op.maxDepth,h 9999]
theorem neq_other (w:World){a b:Nat}{ca cb:Array Value}{ta tb:TypeId}(hne:a≠b)(ha:w.heap[a]?=some (.cells ca ta (0,0)))(hb:w.heap[b]?=some (.cells cb tb (0,0))):
  (binOp .neq 53 (.pointer (some ⟨a,0,none⟩)) (.pointer (some ⟨b,0,none⟩))).run Tryd.prog w=.ok (.bool true) w:=by
 obtain⟨i0,hi,hz0,hz1,hz2⟩:=info_parts infoRing;have h:∀ d:Nat,(Op.equalIn (d+1) 53 (.pointer (some ⟨a,0,none⟩)) (.pointer (some ⟨b,0,none⟩))).run Tryd.prog w=.ok false w:=fun d=>by
  have hs:=run_sameAddr_other (P:=Tryd.prog) w (a:=⟨a,0,none⟩) (b:=⟨b,0,none⟩) (by simpa using hne) ha hb;simp [Op.equalIn,run_underlying Tryd.underlying53,sizeOf,typeInfo,hi,hz1,hs]
 simp only [binOp];simp [Op.equal,Op.maxDepth,h 9999]
structure BodyAt (W:World) (b:Nat) (bs:List Nat) (o:List S37) (H:List (List S37)):Prop where
 outer:∃ A c,RingAt W b A c o (ptrAt bs 0)
 holes:RingsIx W bs H
theorem BodyAt.later {W W':World}{b:Nat}{bs:List Nat}{o:List S37}{H:List (List S37)}(h:BodyAt W b bs o H)(hb:Below W.heap.size W W'):BodyAt W' b bs o H:=
 ⟨by obtain⟨A,c,k⟩:=h.outer;exact⟨A,c,k.later hb⟩,h.holes.later hb⟩
theorem BodyAt.rings {W:World}{b:Nat}{bs:List Nat}{o:List S37}{H:List (List S37)}(h:BodyAt W b bs o H):RingsAt W (some ⟨b,0,none⟩) (o::H):=by
 obtain⟨A,c,k⟩:=h.outer;have:=h.holes.at _ 0 rfl;rw [List.drop_zero] at this;exact⟨b,A,c,_,rfl,k,this⟩
def fstP (z:List S37):Mort.Pt:=ptP (z.getD 0 z37)
def inS (z:List S37)(p:Mort.Pt):Int:=inOf (z.map ptP) p
def okN (H:List (List S37))(i j:Nat):Bool:=i==j || inS (H.getD j []) (fstP (H.getD i [])) == -1
def rowN (o:List S37)(H:List (List S37))(i:Nat):Bool:=inS o (fstP (H.getD i []))==1 && (List.range' 0 H.length).all (okN H i)
def nestedAll (o:List S37)(H:List (List S37)):Bool:=(List.range' 0 H.length).all (rowN o H)
theorem inside_told (b:Nat)(A nx:Option Addr)(c:Nat)(z:List S37)(x y:Int)(w:World)(h:RingAt w b A c z nx)(hz:loopOk (z.map ptP)=true)(hp:ptOk (x,y)=true):
  Calls Tryd.prog 53 #[.slice A z.length c,.agg #[.int .i64 x,.int .i64 y]] w fun e w'=>e=.returned (.int .i64 (inS z (x,y)))∧Below w.heap.size w w':=
 impl_insideOf.calls A c z x y _ w h.row h.cap (by unfold impl_insideOf.f;rw [if_pos ⟨hz,hp⟩];rfl)
set_option maxHeartbeats 4000000 in
set_option maxRecDepth 100000 in
theorem nested_calls (b:Nat)(bs:List Nat)(o:List S37)(H:List (List S37))(r:Bool)(w:World)(hB:BodyAt w b bs o H)(ho:loopOk (o.map ptP)=true)(hH:∀ z∈H,loopOk (z.map ptP)=true)(h:nestedAll o H=r):
  Calls Tryd.prog 58 #[.pointer (some ⟨b,0,none⟩)] w fun e w'=>e=.returned (.bool r)∧Below w.heap.size w w':=by
 have hh:∀ i,i<H.length→loopOk ((H.getD i []).map ptP)=true:=fun i hi=>by
  rw [List.getD_eq_getElem?_getD,List.getElem?_eq_getElem hi];exact hH _ (List.getElem_mem hi)
 have hpos:∀ i,i<H.length→0<(H.getD i []).length:=fun i hi=>by have:=Mort.loop_pos (hh i hi);simpa using this
 have hfst:∀ i,i<H.length→ptOk (fstP (H.getD i []))=true:=fun i hi=>by
  have h1:=((Mort.loopOk_iff _).1 (hh i hi)).2.2.1;have h2:=(Mort.segOk_iff _).1 (h1 _ (Mort.mem_edges.2 ⟨0,by have:=hpos i hi;simpa using this,rfl⟩));rw [ed_edS] at h2;exact h2.1
 clear hH;have hu28:=Tryd.underlying37;have HR:=Aside0.mk h;have HB0:=Aside0.mk hB;obtain⟨A0,c0,hout⟩:=hB.outer;have hn0:=hout.nxt;have hlen:=hB.holes.len;have HH:=a0_ (And.intro ho (And.intro hh (And.intro hpos (And.intro hfst hlen))));clear h hB hout ho hh hpos hfst hlen;go_enter Tryd.func58,Tryd.ntmps58;go_wp2;go_loopg [3] H.length (fun kq v3 wr=>∃ i:Nat,v3=.pointer (ptrAt bs i)∧Aside0 (kq=H.length-i∧i≤H.length∧BodyAt wr b bs o H∧(List.range' i (H.length-i)).all (rowN o H)=r∧Below w.heap.size w wr))
 case atStart=>exact⟨0,rfl,⟨rfl,Nat.zero_le _,HB0.out,HR.out,Below.refl _ _⟩⟩
 case round =>
  obtain⟨i,rfl,H1⟩:=hrel;obtain⟨hk,hi,hB,ha,hBw⟩:=H1.out;obtain⟨ho,hh,hpos,hfst,hlen⟩:=HH.out;clear H1 hn0;by_cases hlt:i<H.length
  ·
   obtain⟨A1,c1,hring,_⟩:=hB.holes.ring i hlt;obtain⟨A2,c2,hout⟩:=hB.outer;have hpi:=ptrAt_some (bs:=bs) (i:=i) (by omega);obtain⟨ad,hA1,hx0,hx1⟩:=at_pt hring.row 0 (hpos i hlt);have hpts:=hring.pts;have hl0:0<(H.getD i []).length:=hpos i hlt;rw [hpi];subst hA1;have p0:wr.cell? ad=some (.int .i64 ((H.getD i []).getD 0 z37).f0):=by have:=hx0;rwa [Nat.zero_mul,show ad.add 0=ad from rfl] at this
   have p1:wr.cell? ⟨ad.block,ad.off+1,none⟩=some (.int .i64 ((H.getD i []).getD 0 z37).f1):=by have:=hx1;rwa [Nat.zero_mul,show ad.add 0=ad from rfl] at this
   clear hx0 hx1;have hf0:ptOk (((H.getD i []).getD 0 z37).f0,((H.getD i []).getD 0 z37).f1)=true:=hfst i hlt;have hF:=a0_ (show fstP (H.getD i [])=(((H.getD i []).getD 0 z37).f0,((H.getD i []).getD 0 z37).f1) from rfl);generalize ((H.getD i []).getD 0 z37).f0=fx at *;generalize ((H.getD i []).getD 0 z37).f1=fy at *;have HK:=a0_ (And.intro hB (And.intro ha (And.intro hBw (And.intro hk (And.intro hring (And.intro hout (And.intro hf0 (And.intro hh ho))))))));have lo:=hout.pts;have bi1:=hring.pts;have bi2:=hring.nxt;clear hB ha hBw hk hring hout hpos hfst hlen hi hpi hf0 hh ho HB0 HR;generalize (H.getD i []).length=lz at *;generalize hbi:bs.getD i 0=bi at *;have hbi':=Aside0.mk hbi;clear hbi;go_wp2;have lo1:=pw_cell_below (below_drew1 (below_alloc (Below.refl _ wr) (.cells #[.int .i64 fx,.int .i64 fy] 37))) lo;have hb0:=below_drew1 (below_alloc (Below.refl wr.heap.size wr) (.cells #[.int .i64 fx,.int .i64 fy] 37));have nb:=World.alloc_heap_new wr (.cells #[.int .i64 fx,.int .i64 fy] 37 (0,0));have f0:((wr.alloc (.cells #[.int .i64 fx,.int .i64 fy] 37)).drew).cell? ⟨wr.heap.size,0,none⟩=some (.int .i64 fx):=(blk_cell nb 0).trans rfl;have f1:((wr.alloc (.cells #[.int .i64 fx,.int .i64 fy] 37)).drew).cell? ⟨wr.heap.size,1,none⟩=some (.int .i64 fy):=(blk_cell nb 1).trans rfl;generalize hg:wr.heap.size=g at *;go_region_held3 (fun W=>W.cell? ⟨b,0,none⟩=some (.slice A2 o.length c2)∧W.cell? ⟨g,0,none⟩=some (.int .i64 fx)∧W.cell? ⟨g,1,none⟩=some (.int .i64 fy))
    (first | exact⟨pw_cell_below hb lo1,pw_cell_below hb f0,pw_cell_below hb f1⟩ | go_keep)
    (first | (go_at_call 53;refine (inside_told b A2 _ c2 o fx fy _ (HK.out.2.2.2.2.2.1.later (hg▸hb0)) HK.out.2.2.2.2.2.2.2.2 HK.out.2.2.2.2.2.2.1).mono ?_;rintro e w3 ⟨rfl,hb⟩))
   have hBd:=HK.out.1.later (hg▸hb0);have hBd3:=hBd.later hb;have hw3:Below w.heap.size w w3:=below_step (below_step HK.out.2.2.1 (hg▸hb0)) hb;have nb3:w3.heap[g]?=some (.cells #[.int .i64 fx,.int .i64 fy] 37 (0,0)):=(hb.block g (Array.getElem?_eq_some_iff.1 nb).1).trans nb;have hall:=HK.out.2.1;obtain⟨m,hm⟩:∃ m,H.length-i=m+1:=⟨H.length-i-1,by omega⟩;rw [hm,List.range'_succ,List.all_cons] at hall;have hrow:rowN o H i=(inS o (fx,fy)==1 && (List.range' 0 H.length).all (okN H i)):=by unfold rowN;rw [hF.out]
   rw [hrow] at hall;have HL:=a0_ (And.intro hall (And.intro hm (And.intro hBd3 (And.intro hw3 (And.intro nb3 HK.out.2.2.2.1)))));have hG:=Aside0.mk hg;clear hall hm hrow hBd hBd3 hw3 nb3 nb hb0 hb lo lo1 f0 f1 bi1 bi2 p0 p1 hg hu28
   cases hin:(inS o (fx,fy)==1) with
   | false =>
    have e1:(inS o (fx,fy) != 1)=true:=by rw [bne,hin];rfl
    obtain rfl:false=r:=by rw [← HL.out.1,hin];rfl
    clear hin;go_wp2;go_ret;exact⟨rfl,HL.out.2.2.2.1⟩
   | true =>
    have e1:(inS o (fx,fy) != 1)=false:=by rw [bne,hin];rfl
    have hall2:((List.range' 0 H.length).all (okN H i) && (List.range' (i+1) m).all (rowN o H))=r:=by rw [← HL.out.1,hin];rfl
    have HA:=Aside0.mk hall2;clear hin hall2;generalize (inS o (fx,fy) != 1)=t30 at e1 ⊢
    subst e1;obtain⟨A3,c3,hout3⟩:=HL.out.2.2.1.outer;have lo2:=hout3.nxt;clear hout3;go_wp2;clear lo2;go_loopg [5] H.length (fun kq v5 w4=>∃ j:Nat,v5=.pointer (ptrAt bs j)∧Aside0 (kq=H.length-j∧j≤H.length∧BodyAt w4 b bs o H∧w4.heap[g]?=some (.cells #[.int .i64 fx,.int .i64 fy] 37 (0,0))∧((List.range' j (H.length-j)).all (okN H i) && (List.range' (i+1) m).all (rowN o H))=r∧Below w.heap.size w w4))
    case atStart=>exact⟨0,rfl,⟨rfl,Nat.zero_le _,HL.out.2.2.1,HL.out.2.2.2.2.1,HA.out,HL.out.2.2.2.1⟩⟩
    case round =>
     obtain⟨j,rfl,H2⟩:=hrel;obtain⟨hkj,hj,hBj,hgj,haj,hwj⟩:=H2.out;have HKJ:=Aside0.mk hkj;clear H2;by_cases hjlt:j<H.length
     ·
      obtain⟨A4,c4,hringj,hoj⟩:=hBj.holes.ring j hjlt;have hl:=hBj.holes.len;have hpj:=ptrAt_some (bs:=bs) (i:=j) (by omega);rw [hpj];obtain⟨m2,hm2⟩:∃ m2,H.length-j=m2+1:=⟨H.length-j-1,by omega⟩;rw [hm2,List.range'_succ,List.all_cons] at haj;by_cases hij:j=i
      ·
       subst hij;rw [hbi'.out];rw [hbi'.out] at hringj;have bj2:=hringj.nxt;have haj2:((List.range' (j+1) m2).all (okN H j) && (List.range' (j+1) m).all (rowN o H))=r:=by rw [← haj];simp [okN]
       have HJ:=a0_ (And.intro haj2 (And.intro hBj (And.intro hgj (And.intro hwj (And.intro hm2 hjlt)))));clear haj haj2 hBj hgj hwj hm2 hjlt hringj hl hpj hkj hj;have hsame:=neq_same;go_wp2;have bj3:wr.drew.cell? ⟨bi,1,none⟩=some (.pointer (ptrAt bs (j+1))):=bj2;go_region;go_wp2;obtain⟨k1,k2,k3,k4,k5,k6⟩:=HJ.out;have hdr:=below_drew1 (Below.refl wr.heap.size wr);go_roundg m2
       case measure=>have:=HKJ.out;omega
       case rel=>exact⟨j+1,rfl,⟨by omega,by omega,k2.later hdr,k3,by rw [show H.length-(j+1)=m2 by omega];exact k1,below_step k4 hdr⟩⟩
      ·
       obtain⟨A5,c5,hringi,hoi⟩:=hBj.holes.ring i hlt;rw [hbi'.out] at hoi;have hbij:bs.getD j 0≠bi:=by
        rw [← hbi'.out,List.getD_eq_getElem?_getD,List.getD_eq_getElem?_getD,List.getElem?_eq_getElem (by omega:j<bs.length),List.getElem?_eq_getElem (by omega:i<bs.length)];intro e;exact hij ((List.getElem_inj hBj.holes.nd).1 (by simpa using e))
       generalize hbj:bs.getD j 0=bj at *;have hbj':=Aside0.mk hbj;clear hbj;have bj1:=hringj.pts;have bj2:=hringj.nxt;have hneq:∀ W:World,W.heap[bj]?=some (.cells #[.slice A4 (H.getD j []).length c4,.pointer (ptrAt bs (j+1))] 55 (0,0))→W.heap[bi]?=some (.cells #[.slice A5 (H.getD i []).length c5,.pointer (ptrAt bs (i+1))] 55 (0,0)) →
         (binOp .neq 53 (.pointer (some ⟨bj,0,none⟩)) (.pointer (some ⟨bi,0,none⟩))).run Tryd.prog W=.ok (.bool true) W:=fun W h1 h2=>neq_other W hbij h1 h2
       have hin2:okN H i j=(inS (H.getD j []) (fx,fy) == -1):=by
        unfold okN;rw [hF.out,show (i==j)=false from beq_false_of_ne (Ne.symm hij)];rfl
       rw [hin2] at haj;have hu28:=Tryd.underlying37;have HJ:=a0_ (And.intro haj (And.intro hBj (And.intro hgj (And.intro hwj (And.intro hm2 (And.intro hjlt (And.intro hringj (And.intro (HK.out.2.2.2.2.2.2.2.1 j hjlt) HK.out.2.2.2.2.2.2.1))))))));clear haj hBj hwj hm2 hjlt hringj hl hpj hkj hj hringi hin2;have fb0:wr.drew.cell? ⟨g,0,none⟩=some (.int .i64 fx):=(blk_cell hgj 0).trans rfl;have fb1:wr.drew.cell? ⟨g,1,none⟩=some (.int .i64 fy):=(blk_cell hgj 1).trans rfl;have bj1':wr.drew.cell? ⟨bj,0,none⟩=some (.slice A4 (H.getD j []).length c4):=bj1;have hoj':wr.drew.heap[bj]?=some (.cells #[.slice A4 (H.getD j []).length c4,.pointer (ptrAt bs (j+1))] 55 (0,0)):=hoj;have hoi':wr.drew.heap[bi]?=some (.cells #[.slice A5 (H.getD i []).length c5,.pointer (ptrAt bs (i+1))] 55 (0,0)):=hoi;clear hgj hoj hoi bj1;generalize H.getD j []=zj at *;generalize H.getD i []=zi at *;have bj2':wr.drew.cell? ⟨bj,1,none⟩=some (.pointer (ptrAt bs (j+1))):=bj2;clear bj2
       cases hin:(inS zj (fx,fy) == -1) with
       | false =>
        have e1:(inS zj (fx,fy) != -1)=true:=by rw [bne,hin];rfl
        obtain rfl:false=r:=by rw [← HJ.out.1,hin];rfl
        clear hin;go_wp2;go_region_held3 (fun W=>W.cell? ⟨g,0,none⟩=some (.int .i64 fx)∧W.cell? ⟨g,1,none⟩=some (.int .i64 fy)∧W.cell? ⟨bj,0,none⟩=some (.slice A4 zj.length c4)∧W.heap[bj]?=some (.cells #[.slice A4 zj.length c4,.pointer (ptrAt bs (j+1))] 55 (0,0))∧W.heap[bi]?=some (.cells #[.slice A5 zi.length c5,.pointer (ptrAt bs (i+1))] 55 (0,0)))
         (first | exact⟨pw_cell_below hb fb0,pw_cell_below hb fb1,pw_cell_below hb bj1',blk_later hoj' hb,blk_later hoi' hb⟩ | go_keep)
         (first | (go_at_call 53;refine (inside_told bj A4 _ c4 zj fx fy _ (HJ.out.2.2.2.2.2.2.1.later (below_drew1 (Below.refl wr.heap.size wr))) HJ.out.2.2.2.2.2.2.2.1 HJ.out.2.2.2.2.2.2.2.2).mono ?_;rintro e w5 ⟨rfl,hb⟩;have bj5:=pw_cell_below hb bj2'))
        go_wp2;go_ret;exact⟨rfl,below_step (below_drew1 HJ.out.2.2.2.1) hb⟩
       | true =>
        have e1:(inS zj (fx,fy) != -1)=false:=by rw [bne,hin];rfl
        have haj2:((List.range' (j+1) m2).all (okN H i) && (List.range' (i+1) m).all (rowN o H))=r:=by rw [← HJ.out.1,hin];rfl
        have HA2:=Aside0.mk haj2;clear hin haj2;go_wp2;go_region_held3 (fun W=>W.cell? ⟨g,0,none⟩=some (.int .i64 fx)∧W.cell? ⟨g,1,none⟩=some (.int .i64 fy)∧W.cell? ⟨bj,0,none⟩=some (.slice A4 zj.length c4)∧W.heap[bj]?=some (.cells #[.slice A4 zj.length c4,.pointer (ptrAt bs (j+1))] 55 (0,0))∧W.heap[bi]?=some (.cells #[.slice A5 zi.length c5,.pointer (ptrAt bs (i+1))] 55 (0,0)))
         (first | exact⟨pw_cell_below hb fb0,pw_cell_below hb fb1,pw_cell_below hb bj1',blk_later hoj' hb,blk_later hoi' hb⟩ | go_keep)
         (first | (go_at_call 53;refine (inside_told bj A4 _ c4 zj fx fy _ (HJ.out.2.2.2.2.2.2.1.later (below_drew1 (Below.refl wr.heap.size wr))) HJ.out.2.2.2.2.2.2.2.1 HJ.out.2.2.2.2.2.2.2.2).mono ?_;rintro e w5 ⟨rfl,hb⟩;have bj5:=pw_cell_below hb bj2'))
        go_wp2;obtain⟨k1,k2,k3,k4,k5,k6,_⟩:=HJ.out;have hdr:=below_drew1 (Below.refl wr.heap.size wr);go_roundg m2
        case measure=>have:=HKJ.out;omega
        case rel=>exact⟨j+1,rfl,⟨by omega,by omega,(k2.later hdr).later hb,(hb.block g (Array.getElem?_eq_some_iff.1 k3).1).trans k3,by rw [show H.length-(j+1)=m2 by omega];exact HA2.out,below_step (below_drew1 k4) hb⟩⟩
     ·
      obtain rfl:j=H.length:=by omega
      have hl:=hBj.holes.len;rw [ptrAt_none (by omega)];rw [Nat.sub_self,List.range'_zero,List.all_nil,Bool.true_and] at haj;obtain⟨A6,c6,hring6,_⟩:=hBj.holes.ring i hlt;rw [hbi'.out] at hring6;have bi6:=hring6.nxt;have HJ:=a0_ (And.intro haj (And.intro hBj hwj));clear haj hBj hwj hring6 hl hkj hj hjlt;go_wp2;obtain⟨k1,k2,k3⟩:=HJ.out;go_roundg m
      case measure=>have:=HL.out.2.1;have:=HL.out.2.2.2.2.2;omega
      case rel=>exact⟨i+1,rfl,⟨by have:=HL.out.2.1;omega,by omega,k2,by rw [show H.length-(i+1)=m by have:=HL.out.2.1;omega];exact k1,k3⟩⟩
  ·
   obtain rfl:i=H.length:=by omega
   rw [Nat.sub_self,List.range'_zero,List.all_nil] at ha;obtain rfl:=ha;rw [ptrAt_none (by omega)];have HW:=Aside0.mk hBw;clear hBw hB hk hi hh hpos hfst HB0 HR HH hlt;go_wp2;go_ret;exact⟨rfl,HW.out⟩
end Go.Proofs.YtailkppkjhkjpaaDoor.X
end
section
set_option linter.unusedVariables false
set_option linter.unusedSimpArgs false
namespace Go.Proofs.YtailkppkjhkjpaaDoor.X
open Go.RowKit Go.Shelf Go.Proofs.YtailkppkjhkjpaaDoorW.PrintWords Go.Proofs.YtailkppkjhkjpaaDoorW.PrintLast Go.Proofs.YtailkppkjhkjpaaDoorW.PrintMore
section
variable {l n:Nat} {P:Program} {ops:Array Oper} {Q:Exit→Act→World→Prop}
theorem upon_inRound {o:Oper}{a:Act}{K:Act→World→Prop}{r:Result Next}(h:o.upon P a K Q r):o.uponIn (Fence.wide.inRound l) n P a K Q r:=by
 cases r with
 | ok x w' =>
  cases x with
  | value v=>exact h
  | skip=>exact h
  | defer d=>exact h
  | enter f args=>exact⟨fun hd=>(by cases hd),CallsIn.inRound l (callsIn_wide.2 h)⟩
  | row rw_ args=>exact⟨fun hd=>(by cases hd),fun c cs _=>by obtain⟨v,w1,h1,h2⟩:=h c cs;exact⟨v,w1,h1,stepsIn_wide.2 h2⟩⟩
  | _=>exact h.elim
 | halt x w'=>cases x <;> exact h
theorem wpOps_inRound (hd:∀ (i:Nat) (o:Oper),ops[i]?=some o→∀ c,o.op≠.defer c)(hno:LetsOut Q→False):∀ (is:List Nat) (a:Act) (w:World),wpOps P ops Q is a w→wpOpsIn (Fence.wide.inRound l) n P ops Q is a w:=by
 intro is
 induction is with
 | nil=>exact fun a w h=>h
 | cons i rest ih =>
  intro a w h;simp only [wpOps] at h;simp only [wpOpsIn]
  cases ho:ops[i]? with
  | none=>rw [ho] at h;exact ih a w h
  | some o =>
   rw [ho] at h;simp only at h ⊢
   split at h
   ·
    rename_i hw
    rw [if_pos hw]
    rcases h with h | ⟨_,h⟩
    ·
     refine⟨fun _ _=>trivial,?_⟩;rw [show (Fence.wide.inRound l).round=some l from rfl,Oper.semAt_some l _ o (hd i o ho)];refine upon_inRound ?_;exact Oper.wp_mono (fun a w h=>ih a w h) h
    ·
     exact (hno h).elim
   ·
    rename_i hw
    rw [if_neg hw];exact⟨fun _ _=>trivial,ih _ _ h⟩
theorem region_inRound {id k:Nat}{S:World→Prop}{ds:List Nat}{a:Act}{w:World}(lst:Array Bool)(hm:P.follows .mixedOrders=true)(hn:ops.size=k)(hl:Array.replicate k false=lst)
  (hd:∀ (i:Nat) (o:Oper),ops[i]?=some o→∀ c,o.op≠.defer c) (hno:LetsOut Q→False) (hS:S w.drew) (h:S w.drew→wpAnyLast P .any ops Q S ds k lst a w.drew) :
  (Code.region id ops true).wpIn (Fence.wide.inRound l) n P Q a w:=by
 subst hn;subst hl;refine wpIn_region_draw fun t=>wpOps_inRound hd hno _ _ _ ?_
 simp only [Region.schedule,hm,Bool.true_or,if_true];exact wpAny_sound ops.size t _ a _ (wpAny_of_last _ _ _ _ (h hS))
end
structure Built (w W:World) (n₀ bb:Nat) (bs:List Nat) (A0:Option Addr) (c0:Nat) (o:List S37) (H:List (List S37)) (v:Value):Prop where
 body:W.heap[bb]?=some (.cells #[.slice A0 o.length c0,.pointer (ptrAt bs 0),v] 58 (0,0))
 lo:n₀≤bb
 len:bs.length=H.length
 nd:(bb::bs).Nodup
 ring:∀ j,j<H.length→n₀≤bs.getD j 0∧∃ A c,W.heap[bs.getD j 0]?=some (.cells #[.slice A (H.getD j []).length c,.pointer (ptrAt bs (j+1))] 55 (0,0))∧Kd.C k37 w A (H.getD j []).length (H.getD j [])∧(H.getD j []).length≤c
theorem Built.later {w W W':World}{n₀ bb:Nat}{bs:List Nat}{A0:Option Addr}{c0:Nat}{o:List S37}{H:List (List S37)}{v:Value}(h:Built w W n₀ bb bs A0 c0 o H v)(hb:Below W.heap.size W W'):Built w W' n₀ bb bs A0 c0 o H v:=
 ⟨blk_later h.body hb,h.lo,h.len,h.nd,fun j hj=>by obtain⟨l,A,c,k1,k2,k3⟩:=h.ring j hj;exact⟨l,A,c,blk_later k1 hb,k2,k3⟩⟩
theorem getD_lt {α:Type}{l:List α}{i:Nat}{d:α}(h:i<l.length):l.getD i d=l[i]:=by rw [List.getD_eq_getElem?_getD,List.getElem?_eq_getElem h];rfl
theorem getD_snoc_lt {α:Type}{l:List α}{x d:α}{i:Nat}(h:i<l.length):(l++[x]).getD i d=l.getD i d:=by
 rw [List.getD_eq_getElem?_getD,List.getD_eq_getElem?_getD,List.getElem?_append_left h]
theorem getD_snoc_eq {α:Type}{l:List α}{x d:α}:(l++[x]).getD l.length d=x:=by
 rw [List.getD_eq_getElem?_getD,List.getElem?_append_right (Nat.le_refl _),Nat.sub_self];rfl
theorem ptrAt_snoc_lt {bs:List Nat}{q i:Nat}(h:i<bs.length):ptrAt (bs++[q]) i=ptrAt bs i:=by unfold ptrAt;rw [List.getElem?_append_left h]
theorem ptrAt_snoc_eq {bs:List Nat}{q:Nat}:ptrAt (bs++[q]) bs.length=some ⟨q,0,none⟩:=by unfold ptrAt;rw [List.getElem?_append_right (Nat.le_refl _),Nat.sub_self];rfl
def lastOf (bb:Nat)(bs:List Nat):Nat:=(bb::bs).getD bs.length 0
theorem lastOf_pos {bb:Nat}{bs:List Nat}(h:0<bs.length):lastOf bb bs=bs.getD (bs.length-1) 0:=by
 unfold lastOf;obtain⟨m,hm⟩:∃ m,bs.length=m+1:=⟨bs.length-1,by omega⟩;rw [hm];simp
theorem lastOf_snoc (bb q:Nat)(bs:List Nat):lastOf bb (bs++[q])=q:=by
 unfold lastOf;rw [List.length_append,← List.cons_append];exact getD_snoc_eq (l:=bb::bs)
theorem Built.last_cells {w W:World}{n₀ bb:Nat}{bs:List Nat}{A0:Option Addr}{c0:Nat}{o:List S37}{H:List (List S37)}{v:Value}(h:Built w W n₀ bb bs A0 c0 o H v):
  ∃ (y:Value) (cs:List Value) (t:TypeId),W.heap[lastOf bb bs]?=some (.cells (#[y,.pointer none]++cs.toArray) t (0,0))∧n₀≤lastOf bb bs:=by
 cases bs with
 | nil=>exact⟨_,[v],_,h.body,h.lo⟩
 | cons q qs =>
  have hp:0<(q::qs).length:=by simp
  rw [lastOf_pos hp];have hl:=h.len;obtain⟨l,A,c,k1,_⟩:=h.ring ((q::qs).length-1) (by omega);rw [show (q::qs).length-1+1=(q::qs).length by omega,ptrAt_none (Nat.le_refl _)] at k1;exact⟨_,[],_,k1,l⟩
theorem Built.push {w W:World}{n₀ bb:Nat}{bs:List Nat}{A0:Option Addr}{c0:Nat}{o:List S37}{H:List (List S37)}{v:Value}(h:Built w W n₀ bb bs A0 c0 o H v)(A:Option Addr)(c:Nat)(z:List S37)(hz:Kd.C k37 w A z.length z)(hc:z.length≤c)(hn:n₀≤W.heap.size):
  Built w ((W.alloc (.cells #[.slice A z.length c,.pointer none] 55)).setCell ⟨lastOf bb bs,1,none⟩ (.pointer (some ⟨W.heap.size,0,none⟩))) n₀ bb (bs++[W.heap.size]) A0 c0 o (H++[z]) v:=by
 have hl:=h.len;have hnd:=h.nd;have hblt:∀ j,j<H.length→bs.getD j 0<W.heap.size:=fun j hj=>by obtain⟨_,_,_,k1,_⟩:=h.ring j hj;exact (Array.getElem?_eq_some_iff.1 k1).1
 have hbb:bb<W.heap.size:=(Array.getElem?_eq_some_iff.1 h.body).1;have hq:W.heap.size ∉ bb::bs:=by
  intro hm
  rcases List.mem_cons.1 hm with e | hm
  ·
   omega
  ·
   obtain⟨j,hj,e⟩:=List.getElem_of_mem hm;have:=hblt j (by omega);rw [getD_lt hj,e] at this;omega
 have hlast:lastOf bb bs∈bb::bs:=by
  unfold lastOf;rw [getD_lt (by simp)];exact List.getElem_mem _
 have far:∀ k,k≠lastOf bb bs→∀ ob,W.heap[k]?=some ob→((W.alloc (.cells #[.slice A z.length c,.pointer none] 55)).setCell ⟨lastOf bb bs,1,none⟩ (.pointer (some ⟨W.heap.size,0,none⟩))).heap[k]?=some ob:=fun k hk ob hob=>by
  rw [Below.heap_setCell _ _ _ _ hk];exact blk_alloc' hob _
 refine⟨?_,h.lo,by simp [hl],?_,?_⟩
 ·
  cases bs with
  | nil =>
   have:=blk_put (cs:=#[.slice A0 o.length c0,.pointer none,v]) (blk_alloc' h.body (.cells #[.slice A z.length c,.pointer none] 55)) 1 (.pointer (some ⟨W.heap.size,0,none⟩)) rfl;exact this
  | cons q qs =>
   have e:ptrAt (q::qs++[W.heap.size]) 0=ptrAt (q::qs) 0:=ptrAt_snoc_lt (by simp);rw [e];refine far bb ?_ _ h.body;rw [lastOf_pos (by simp)];intro e2;rw [List.nodup_cons] at hnd;refine hnd.1 ?_;rw [e2,getD_lt (by simp)];exact List.getElem_mem _
 ·
  rw [← List.cons_append,List.nodup_append];exact⟨hnd,by simp,fun a ha b hb=>by simp at hb;subst hb;intro e;subst e;exact hq ha⟩
 ·
  intro j hj;rw [List.length_append] at hj;by_cases hlt:j<H.length
  ·
   obtain⟨l,A1,c1,k1,k2,k3⟩:=h.ring j hlt;rw [getD_snoc_lt hlt,getD_snoc_lt (by omega:j<bs.length)];refine⟨l,A1,c1,?_,k2,k3⟩;by_cases he:j+1=H.length
   ·
    have e1:lastOf bb bs=bs.getD j 0:=by rw [lastOf_pos (by omega)];congr 1;omega
    rw [show j+1=bs.length by omega,ptrAt_snoc_eq,e1];rw [show j+1=bs.length by omega,ptrAt_none (Nat.le_refl _)] at k1;exact blk_put (cs:=#[.slice A1 (H.getD j []).length c1,.pointer none]) (blk_alloc' k1 (.cells #[.slice A z.length c,.pointer none] 55)) 1 (.pointer (some ⟨W.heap.size,0,none⟩)) rfl
   ·
    rw [ptrAt_snoc_lt (by omega)];refine far _ ?_ _ k1;rw [lastOf_pos (by omega)];rw [List.nodup_cons] at hnd;rw [getD_lt (by omega),getD_lt (by omega)];intro e;have:=(List.getElem_inj hnd.2).1 e;omega
  ·
   have e:j=H.length:=by simp at hj;omega
   subst e;rw [getD_snoc_eq,← hl,getD_snoc_eq,ptrAt_none (by simp)];refine⟨hn,A,c,?_,hz,hc⟩;rw [Below.heap_setCell _ _ _ _ (by intro e;simp only at e;rw [← e] at hlast;exact hq hlast)];exact World.alloc_heap_new W _
theorem Built.bodyAt {w W:World}{bb:Nat}{bs:List Nat}{A0:Option Addr}{c0:Nat}{o:List S37}{H:List (List S37)}{v:Value}(h:Built w W w.heap.size bb bs A0 c0 o H v)(hb:Below w.heap.size w W)(ho:Kd.C k37 w A0 o.length o)(hc:o.length≤c0):
  BodyAt W bb bs o H:=
 ⟨⟨A0,c0,(blk_cell h.body 0).trans rfl,(blk_cell h.body 1).trans rfl,Kd.C_below ho hb,hc⟩,h.len,(List.nodup_cons.1 h.nd).2,fun j hj=>by
  obtain⟨l,A,c,k1,k2,k3⟩:=h.ring j hj
  exact⟨A,c,⟨(blk_cell k1 0).trans rfl,(blk_cell k1 1).trans rfl,Kd.C_below k2 hb,k3⟩,k1⟩⟩
end Go.Proofs.YtailkppkjhkjpaaDoor.X
end
section
set_option linter.unusedVariables false
set_option linter.unusedSimpArgs false
namespace Go.Proofs.YtailkppkjhkjpaaDoor.X
open Go.RowKit Go.Shelf Go.Proofs.YtailkppkjhkjpaaDoorW.PrintWords Go.Proofs.YtailkppkjhkjpaaDoorW.PrintLast Go.Proofs.YtailkppkjhkjpaaDoorW.PrintMore
open Mort (edges loopOk pairOk ed segOk meet joined ptOk segHas segMeet)
attribute [local go_sem] Oper.semAt_some
def impl_LoopOk.f (l0:List S37):Option Bool:=some (loopOk (l0.map ptP))
def pairS (l0:List S37)(i j:Nat):Bool:=
 if j≤i then true else if j=i+1 then !segHas (sgP (edS l0 i)) (ptP (edS l0 j).f1) && !segHas (sgP (edS l0 j)) (ptP (edS l0 i).f0)
 else if i=0∧j+1=l0.length then !segHas (sgP (edS l0 j)) (ptP (edS l0 i).f1) && !segHas (sgP (edS l0 i)) (ptP (edS l0 j).f0) else !segMeet (sgP (edS l0 i)) (sgP (edS l0 j))
theorem iJoined {k:Nat}(hk:2≤k)(a b c d e f g h:Int):impl_joined.f k a b c d e f g h=some (!segHas ((a,b),(c,d)) (g,h) && !segHas ((e,f),(g,h)) (a,b)):=by
 unfold impl_joined.f;simp only [iSegHas (k:=k) (by omega),Option.bind_some];cases segHas ((a,b),(c,d)) (g,h) <;> cases segHas ((e,f),(g,h)) (a,b) <;> rfl
theorem loopOk_S (l0:List S37):loopOk (l0.map ptP)=true ↔ 3≤l0.length∧l0.length≤8∧(∀ i,i<l0.length→segOk (sgP (edS l0 i))=true)∧∀ i j,i<l0.length→j<l0.length→pairS l0 i j=true:=by
 rw [Mort.loopOk_iff,List.length_map];have hE:(∀ e∈edges (l0.map ptP),segOk e=true) ↔ ∀ i,i<l0.length→segOk (sgP (edS l0 i))=true:=by
  constructor
  ·
   intro h i hi;rw [← ed_edS];exact h _ (Mort.mem_edges.2 ⟨i,by simpa using hi,rfl⟩)
  ·
   intro h e he;obtain⟨i,hi,rfl⟩:=Mort.mem_edges.1 he;rw [ed_edS];exact h i (by simpa using hi)
 rw [hE];refine and_congr_right fun h3=>and_congr_right fun h8=>and_congr_right fun hs=>forall_congr' fun i=>forall_congr' fun j=>forall_congr' fun hi=>forall_congr' fun hj=>?_
 unfold pairOk pairS joined;simp only [ed_edS,List.length_map];have oi:=(Mort.segOk_iff _).1 (hs i hi);have oj:=(Mort.segOk_iff _).1 (hs j hj);have e1:∀ p,ptOk p=true→segHas (sgP (edS l0 i)) p=Mort.has (sgP (edS l0 i)) p:=fun p hp=>by unfold segHas;rw [hs i hi,hp];rfl
 have e2:∀ p,ptOk p=true→segHas (sgP (edS l0 j)) p=Mort.has (sgP (edS l0 j)) p:=fun p hp=>by unfold segHas;rw [hs j hj,hp];rfl
 have e3:segMeet (sgP (edS l0 i)) (sgP (edS l0 j))=meet (sgP (edS l0 i)) (sgP (edS l0 j)):=by unfold segMeet;rw [hs i hi,hs j hj];rfl
 rw [e1 (ptP (edS l0 j).f1) oj.2.1,e2 (ptP (edS l0 i).f0) oi.1,e2 (ptP (edS l0 i).f1) oi.2.1,e1 (ptP (edS l0 j).f0) oj.1,e3];exact Iff.rfl
set_option maxHeartbeats 4000000 in
set_option maxRecDepth 100000 in
theorem impl_LoopOk.calls (A0:Option Addr)(c0:Nat)(l0:List S37)(r:Bool)(w:World)(hr0:Kd.C k37 w A0 l0.length l0)(hc0:l0.length≤c0)(h:impl_LoopOk.f l0=some r):
  Calls Tryd.prog 35 #[.slice A0 l0.length c0] w fun e w'=>e=.returned (.bool r)∧Below w.heap.size w w':=by
 have h:=Option.some.inj h;have hS:=loopOk_S l0;rw [h] at hS;have hS':=Aside0.mk hS;clear hS h;have hu61:=Tryd.underlying89;refine (callsIn_wide (n:=9)).1 ?_;refine callsIn_of_wp_marks Tryd.func35 rfl trivial ?_ rfl;simp only [Tryd.ntmps35,List.size_toArray,List.length_cons,List.length_nil,Nat.reduceAdd,Nat.reduceSub,Array.replicate_succ,Array.replicate_zero,List.push_toArray,List.append_toArray,List.nil_append,List.cons_append];by_cases hl3:l0.length<3
 ·
  obtain rfl:r=false:=by
   cases r with
   | false=>rfl
   | true=>have:=(hS'.out.1 rfl).1;omega
  gi_wp2;refine⟨.bool false,?_,rfl,below_alloc (below_alloc (Below.refl _ _) _) _⟩;simp [results,Tryd.f35,go_sem]
 by_cases hl8:8<l0.length
 ·
  obtain rfl:r=false:=by
   cases r with
   | false=>rfl
   | true=>have:=(hS'.out.1 rfl).2.1;omega
  gi_wp2;refine⟨.bool false,?_,rfl,below_alloc (below_alloc (Below.refl _ _) _) _⟩;simp [results,Tryd.f35,go_sem]
 have b1:decide ((l0.length:Int)<3)=false:=decide_eq_false (by omega);have b2:decide (8<(l0.length:Int))=false:=decide_eq_false (by omega);have hAb:=row_lt hr0 (by omega);gi_wp2_with (refine⟨trivial,?_⟩;gi_at_call 59;refine (edges_in _ _ _ _ _).mono ?_;rintro e w' ⟨rfl,rfl⟩);have bL:=((Boxed.new w 23 (.slice A0 l0.length c0)).alloc (.cells #[.bool false] 4)).alloc (.cells #[.slice A0 l0.length c0] 23);have bR:=(Boxed.new (w.alloc (.cells #[.slice A0 l0.length c0] 23)) 4 (.bool false)).alloc (.cells #[.slice A0 l0.length c0] 23);have bC:=Boxed.new ((w.alloc (.cells #[.slice A0 l0.length c0] 23)).alloc (.cells #[.bool false] 4)) 23 (.slice A0 l0.length c0);simp only [World.size_alloc] at bR bC;have hB0:Below w.heap.size w (((w.alloc (.cells #[.slice A0 l0.length c0] 23)).alloc (.cells #[.bool false] 4)).alloc (.cells #[.slice A0 l0.length c0] 23)):=below_alloc (below_alloc (below_alloc (Below.refl _ w) _) _) _;have hsz:(((w.alloc (.cells #[.slice A0 l0.length c0] 23)).alloc (.cells #[.bool false] 4)).alloc (.cells #[.slice A0 l0.length c0] 23)).heap.size=w.heap.size+3:=by simp
 obtain⟨W0,hW0⟩:∃ W0,((w.alloc (.cells #[.slice A0 l0.length c0] 23)).alloc (.cells #[.bool false] 4)).alloc (.cells #[.slice A0 l0.length c0] 23)=W0:=⟨_,rfl⟩;rw [hW0] at bL bR bC hB0 hsz ⊢
 clear hW0;refine wpIn_rangeFunc_ownH rfl (by omega) (gf:=81) (lb:=#[.pointer (some ⟨w.heap.size+1+1,0,none⟩)]) rfl trivial (enters_of Tryd.func81 (by kernel_rfl) rfl)
  (edges_stops 8 (by omega) (w.heap.size+1+1) w.heap.size A0 c0 l0 (by omega) hAb W0 (by omega) (by omega) bC.cell (Kd.C_below hr0 hB0)) (fun h k=>KpE.trans h k) (fun W l o o' hl _ _ _=>KpE.putObj W l o' (by omega) (by omega)) (Below.refl _ _) (fun _=>rfl)
  (fun pre W=>(((∀ x∈pre,segOk (sgP (edS l0 x))=true)∧Boxed W (w.heap.size+1) 4 (.bool false))∧Boxed W w.heap.size 23 (.slice A0 l0.length c0))∧Below w.heap.size w W)
  (fun c pre W=>((c=.ret∧∃ x:Fin l0.length,segOk (sgP (edS l0 x))=false)∧Boxed W (w.heap.size+1) 4 (.bool false))∧Below w.heap.size w W)
  (OwnFrom.and (OwnFrom.and (OwnFrom.and (ownFrom_pure _ _) (Own.from (boxed_own _ _ _) _)) (Own.from (boxed_own _ _ _) _)) (ownFrom_below (Nat.le_refl _) (by omega)))
  (fun c=>OwnFrom.and (OwnFrom.and (ownFrom_pure _ _) (Own.from (boxed_own _ _ _) _)) (ownFrom_below (Nat.le_refl _) (by omega)))
  ⟨⟨⟨by simp,bR⟩,bL⟩,hB0⟩
  (fun x a' W=>∃ Bx,W.heap[Bx]?=some (segObj (edS l0 x))∧a'={ tmps:=#[.slice A0 l0.length c0,.pointer (some ⟨w.heap.size,0,none⟩),.pointer (some ⟨w.heap.size+1,0,none⟩),undef,.pointer (some ⟨Bx,0,none⟩),undef,undef,undef,undef,undef,undef,.slice A0 l0.length c0,.int .i64 (l0.length:Int),.bool false,.bool false,.slice A0 l0.length c0,.int .i64 (l0.length:Int),.bool false,.bool false,.slice A0 l0.length c0,.func (.func 81) #[] #[.pointer (some ⟨w.heap.size+1+1,0,none⟩)],.int .i64 ((x:Nat):Int),.agg #[.int .i64 (edS l0 x).f0.f0,.int .i64 (edS l0 x).f0.f1,.int .i64 (edS l0 x).f1.f0,.int .i64 (edS l0 x).f1.f1],undef,undef,undef,undef,undef,undef,undef,undef,undef,undef,undef,undef,undef,undef,undef,undef,undef,undef,undef,undef,undef,undef,undef,undef,undef,undef,undef,undef,undef,undef,undef,undef,undef,undef,undef,undef,undef,undef,undef,undef,undef,undef,undef],defers:=[] })
  (fun x a' _ X Y row hs hg hr=>by obtain⟨Bx,e2,e3⟩:=hs;exact⟨Bx,segObj_own Bx (edS l0 x) () X Y row e2 hg (fun r e=>(hr r e).2),e3⟩)
  ?assign ?body ?done ?stop
 case assign =>
  rintro l pre x W K ⟨⟨⟨hp,bR1⟩,bL1⟩,hB1⟩ hK;have hWs:=bR1.lt;have hBs:=hB1.size;dsimp only [encE,edV];gi_wp2;refine hK _ _ ((KeepsOthers.alloc _ _).from _) (KpE.alloc _ _ _ _) ⟨⟨⟨hp,bR1.alloc _⟩,bL1.alloc _⟩,below_alloc hB1 _⟩ ⟨W.heap.size,World.alloc_heap_new W _,rfl⟩
 case body =>
  rintro l pre x a' W hl ⟨rr,hrr⟩ ⟨⟨⟨hp,bR1⟩,bL1⟩,hB1⟩ ⟨Bx,bX,rfl⟩ hlt;have cX0:W.cell? ⟨Bx,0,none⟩=some (.int .i64 (edS l0 x).f0.f0):=(blk_cell bX 0).trans rfl;have cX1:W.cell? ⟨Bx,1,none⟩=some (.int .i64 (edS l0 x).f0.f1):=(blk_cell bX 1).trans rfl;have cX2:W.cell? ⟨Bx,2,none⟩=some (.int .i64 (edS l0 x).f1.f0):=(blk_cell bX 2).trans rfl;have cX3:W.cell? ⟨Bx,3,none⟩=some (.int .i64 (edS l0 x).f1.f1):=(blk_cell bX 3).trans rfl;have H:=iSegOk (edS l0 x).f0.f0 (edS l0 x).f0.f1 (edS l0 x).f1.f0 (edS l0 x).f1.f1
  cases hs:segOk (sgP (edS l0 x)) with
  | true =>
   rw [show segOk (((edS l0 x).f0.f0,(edS l0 x).f0.f1),((edS l0 x).f1.f0,(edS l0 x).f1.f1))=true from hs] at H;gi_wp2_with (refine⟨trivial,?_⟩;gi_at_call 68;refine (CallsIn.inRound l (callsIn_wide.2 (impl_SegOk.calls _ _ _ _ true _ H))).mono ?_;rintro e w1 ⟨rfl,hb⟩);exact⟨keeps_below hb,KpE.below hb,⟨⟨fun z hz=>(List.mem_append.1 hz).elim (hp z) (fun e=>by simp at e;subst e;exact hs),box_later bR1 hb⟩,box_later bL1 hb⟩,below_row hB1 (Nat.le_refl _) hb⟩
  | false =>
   rw [show segOk (((edS l0 x).f0.f0,(edS l0 x).f0.f1),((edS l0 x).f1.f0,(edS l0 x).f1.f1))=false from hs] at H;gi_wp2_with (refine⟨trivial,?_⟩;gi_at_call 68;refine (CallsIn.inRound l (callsIn_wide.2 (impl_SegOk.calls _ _ _ _ false _ H))).mono ?_;rintro e w1 ⟨rfl,hb⟩;have cR:=(box_later bR1 hb).cell;have fR:=(box_later bR1 hb).frozen);exact⟨(keeps_below hb).trans ((KeepsOthers.setCell _ _ _).from _),⟨⟨rfl,x,hs⟩,(box_later bR1 hb).set _⟩,(below_row hB1 (Nat.le_refl _) hb).setCell (p:=⟨w.heap.size+1,0,none⟩) (by simp) _⟩
 case stop =>
  rintro D c pre W hD _ ⟨⟨⟨rfl,x,hs⟩,bR1⟩,hB1⟩ hK;obtain rfl:r=false:=by
   cases r with
   | false=>rfl
   | true=>have:=(hS'.out.1 rfl).2.2.1 x x.2;rw [hs] at this;cases this
  gi_wp2;have hD1:∀ E∈[D],W.heap[E]?=some (.deferred (some [])):=by simpa using hK
  refine leavesM_marks [D] W (by simp) hD1 (fun w' h1 h2 h3 h4 h5=>?_);have hc5:=(marks_boxed bR1 hD1 h1).cell;refine⟨.bool false,?_,rfl,marks_below hB1 (by simp;omega) h1 h2 h3 h4 h5⟩;simp [results,Tryd.f35,go_sem,hc5]
 case done =>
  rintro D ys W hD rfl ⟨⟨⟨hp,bR1⟩,bL1⟩,hB1⟩ hK;have hok:∀ i,i<l0.length→segOk (sgP (edS l0 i))=true:=fun i hi=>hp ⟨i,hi⟩ (List.mem_finRange _)
  clear hp;have cL:=bL1.cell;have cL2:=(bL1.alloc (.cells #[.int .i64 ((l0.length:Int)-1)] 3)).cell;gi_wp2_with (refine⟨trivial,?_⟩;gi_at_call 59;refine (edges_in _ _ _ _ _).mono ?_;rintro e w' ⟨rfl,rfl⟩);clear cL cL2;have hWs:=hB1.size;replace bR1:=(bR1.alloc (.cells #[.int .i64 ((l0.length:Int)-1)] 3)).alloc (.cells #[.slice A0 l0.length c0] 23);replace bL1:=(bL1.alloc (.cells #[.int .i64 ((l0.length:Int)-1)] 3)).alloc (.cells #[.slice A0 l0.length c0] 23);have b5:=(Boxed.new W 3 (.int .i64 ((l0.length:Int)-1))).alloc (.cells #[.slice A0 l0.length c0] 23);have bC2:=Boxed.new (W.alloc (.cells #[.int .i64 ((l0.length:Int)-1)] 3)) 23 (.slice A0 l0.length c0);replace hB1:=below_alloc (below_alloc hB1 (.cells #[.int .i64 ((l0.length:Int)-1)] 3)) (.cells #[.slice A0 l0.length c0] 23);have hDW:D<W.heap.size:=(Array.getElem?_eq_some_iff.1 hK).1;replace hK:=blk_alloc' (blk_alloc' hK (.cells #[.int .i64 ((l0.length:Int)-1)] 3)) (.cells #[.slice A0 l0.length c0] 23);have hsz2:((W.alloc (.cells #[.int .i64 ((l0.length:Int)-1)] 3)).alloc (.cells #[.slice A0 l0.length c0] 23)).heap.size=W.heap.size+2:=by simp
  simp only [World.size_alloc] at bC2;obtain⟨W2,hW2⟩:∃ W2,(W.alloc (.cells #[.int .i64 ((l0.length:Int)-1)] 3)).alloc (.cells #[.slice A0 l0.length c0] 23)=W2:=⟨_,rfl⟩;rw [hW2] at bR1 bL1 b5 bC2 hB1 hK hsz2 ⊢
  clear hW2;generalize W.heap.size=B5 at *;have hAC:=Kd.C_below hr0 hB1;refine wpIn_rangeFunc_ownH rfl (by omega) (gf:=81) (lb:=#[.pointer (some ⟨B5+1,0,none⟩)]) rfl trivial (enters_of Tryd.func81 (by kernel_rfl) rfl)
   (edges_stops 8 (by omega) (B5+1) w.heap.size A0 c0 l0 (by omega) hAb W2 (by omega) (by omega) bC2.cell hAC) (fun h k=>KpE.trans h k) (fun W l o o' hl _ _ _=>KpE.putObj W l o' (by omega) (by omega)) (Below.refl _ _) (fun _=>rfl)
   (fun pre W=>(((((∀ x∈pre,∀ j,j<l0.length→pairS l0 (x:Fin l0.length) j=true)∧Boxed W (w.heap.size+1) 4 (.bool false))∧Boxed W w.heap.size 23 (.slice A0 l0.length c0))∧Boxed W B5 3 (.int .i64 ((l0.length:Int)-1)))∧W.heap[D]?=some (.deferred (some [])))∧Below w.heap.size w W)
   (fun c pre W=>(((c=.ret∧∃ i j,i<l0.length∧j<l0.length∧pairS l0 i j=false)∧Boxed W (w.heap.size+1) 4 (.bool false))∧W.heap[D]?=some (.deferred (some [])))∧Below w.heap.size w W)
   (OwnFrom.and (OwnFrom.and (OwnFrom.and (OwnFrom.and (OwnFrom.and (ownFrom_pure _ _) (Own.from (boxed_own _ _ _) _)) (Own.from (boxed_own _ _ _) _)) (Own.from (boxed_own _ _ _) _)) (ownFrom_blk (by omega))) (ownFrom_below (Nat.le_refl _) (by omega)))
   (fun c=>OwnFrom.and (OwnFrom.and (OwnFrom.and (ownFrom_pure _ _) (Own.from (boxed_own _ _ _) _)) (ownFrom_blk (by omega))) (ownFrom_below (Nat.le_refl _) (by omega)))
   ⟨⟨⟨⟨⟨by simp,bR1⟩,bL1⟩,b5⟩,hK⟩,hB1⟩
   (fun x a' W=>∃ Bi Bs,(Boxed W Bi 3 (.int .i64 ((x:Nat):Int))∧W.heap[Bs]?=some (segObj (edS l0 x)))∧a'={ tmps:=#[.slice A0 l0.length c0,.pointer (some ⟨w.heap.size,0,none⟩),.pointer (some ⟨w.heap.size+1,0,none⟩),undef,undef,.pointer (some ⟨B5,0,none⟩),.pointer (some ⟨Bi,0,none⟩),.pointer (some ⟨Bs,0,none⟩),undef,undef,undef,.slice A0 l0.length c0,.int .i64 (l0.length:Int),.bool false,.bool false,.slice A0 l0.length c0,.int .i64 (l0.length:Int),.bool false,.bool false,.slice A0 l0.length c0,.func (.func 81) #[] #[.pointer (some ⟨w.heap.size+1+1,0,none⟩)],undef,undef,undef,undef,undef,.slice A0 l0.length c0,.int .i64 (l0.length:Int),.int .i64 ((l0.length:Int)-1),.slice A0 l0.length c0,.func (.func 81) #[] #[.pointer (some ⟨B5+1,0,none⟩)],.int .i64 ((x:Nat):Int),.agg #[.int .i64 (edS l0 x).f0.f0,.int .i64 (edS l0 x).f0.f1,.int .i64 (edS l0 x).f1.f0,.int .i64 (edS l0 x).f1.f1],undef,undef,undef,undef,undef,undef,undef,undef,undef,undef,undef,undef,undef,undef,undef,undef,undef,undef,undef,undef,undef,undef,undef,undef,undef,undef,undef,undef,undef,undef,undef,undef,undef],defers:=[] })
   (fun x a' _ X Y row hs hg hr=>by obtain⟨Bi,Bs,⟨e1,e2⟩,e3⟩:=hs;exact⟨Bi,Bs,⟨boxed_own Bi 3 (fun (_:Unit)=>Value.int .i64 ((x:Nat):Int)) () X Y row e1 hg (fun r e=>(hr r e).2),segObj_own Bs (edS l0 x) () X Y row e2 hg (fun r e=>(hr r e).2)⟩,e3⟩)
   ?assign2 ?body2 ?done2 ?stop2
  case assign2 =>
   rintro l pre x W K ⟨⟨⟨⟨⟨hp,bR1⟩,bL1⟩,b5⟩,hK⟩,hB1⟩ hKK;dsimp only [encE,edV];gi_wp2;refine hKK _ _ (((KeepsOthers.alloc _ _).from _).trans ((KeepsOthers.alloc _ _).from _)) ((KpE.alloc _ _ _ _).trans (KpE.alloc _ _ _ _)) ⟨⟨⟨⟨⟨hp,(bR1.alloc _).alloc _⟩,(bL1.alloc _).alloc _⟩,(b5.alloc _).alloc _⟩,blk_alloc' (blk_alloc' hK _) _⟩,below_alloc (below_alloc hB1 _) _⟩ ⟨W.heap.size,W.heap.size+1,⟨(Boxed.new W 3 _).alloc _,?_⟩,rfl⟩;have:=World.alloc_heap_new (W.alloc (.cells #[.int .i64 ((x:Nat):Int)] 3)) (segObj (edS l0 x))
   rwa [World.size_alloc] at this
  case body2 =>
   rintro l pre x a' W hl ⟨rr,hrr⟩ ⟨⟨⟨⟨⟨hp,bR1⟩,bL1⟩,b5⟩,hK⟩,hB1⟩ ⟨Bi,Bs,⟨bI,bX⟩,rfl⟩ hlt;have cL:=bL1.cell;gi_wp2_with (refine⟨trivial,?_⟩;gi_at_call 59;refine (CallsIn.inRound l (edges_in _ _ _ _ _)).mono ?_;rintro e w' ⟨rfl,rfl⟩);clear cL;have bN:=Boxed.new W 23 (.slice A0 l0.length c0);have hr':(W.alloc (.cells #[.slice A0 l0.length c0] 23)).heap[l]?=some (.loop rr):=blk_alloc' hrr _;have bR2:=bR1.alloc (.cells #[.slice A0 l0.length c0] 23);have bL2:=bL1.alloc (.cells #[.slice A0 l0.length c0] 23);have b52:=b5.alloc (.cells #[.slice A0 l0.length c0] 23);have bI2:=bI.alloc (.cells #[.slice A0 l0.length c0] 23);have bX2:=blk_alloc' bX (.cells #[.slice A0 l0.length c0] 23);have hK2:=blk_alloc' hK (.cells #[.slice A0 l0.length c0] 23);have hB2:=below_alloc hB1 (.cells #[.slice A0 l0.length c0] 23);have hE2:=KpE.alloc w.heap.size (B5+1) W (.cells #[.slice A0 l0.length c0] 23);have hF2:=(KeepsOthers.alloc W (.cells #[.slice A0 l0.length c0] 23)).from W2.heap.size;have hsz3:(W.alloc (.cells #[.slice A0 l0.length c0] 23)).heap.size=W.heap.size+1:=by simp
   have hBW:=hB1.size;have hRW:=bR1.lt;have hDW2:D<W.heap.size:=(Array.getElem?_eq_some_iff.1 hK).1;obtain⟨W3,hW3⟩:∃ W3,W.alloc (.cells #[.slice A0 l0.length c0] 23)=W3:=⟨_,rfl⟩;rw [hW3] at bN hr' bR2 bL2 b52 bI2 bX2 hK2 hB2 hE2 hF2 hsz3 ⊢
   clear hW3;obtain⟨Bc,hBc⟩:∃ Bc,W.heap.size=Bc:=⟨_,rfl⟩;rw [hBc] at bN ⊢
   refine wpIn_rangeFunc_ownN (l₀:=l) (r₀:=rr) rfl hr' (by omega) (gf:=81) (lb:=#[.pointer (some ⟨Bc,0,none⟩)]) rfl trivial (enters_of Tryd.func81 (by kernel_rfl) rfl)
    ((edges_stops 6 (by omega) Bc w.heap.size A0 c0 l0 (by omega) hAb W3 (by omega) (by omega) bN.cell (Kd.C_below hr0 hB2)).inRound l) (fun h k=>KpE.trans h k) (fun W l o o' hl _ _ _=>KpE.putObj W l o' (by omega) (by omega)) (Below.refl _ _) (fun _=>rfl)
    (fun pre' W'=>(((((((∀ y∈pre',pairS l0 x (y:Fin l0.length)=true)∧Boxed W' (w.heap.size+1) 4 (.bool false))∧Boxed W' w.heap.size 23 (.slice A0 l0.length c0))∧Boxed W' B5 3 (.int .i64 ((l0.length:Int)-1)))∧Boxed W' Bi 3 (.int .i64 ((x:Nat):Int)))∧W'.heap[Bs]?=some (segObj (edS l0 x)))∧W'.heap[D]?=some (.deferred (some [])))∧(Below w.heap.size w W'∧KpE w.heap.size (B5+1) W W')∧KeepsFrom W2.heap.size W W')
    (fun c pre' W'=>(((c=.ret∧∃ y:Fin l0.length,pairS l0 x y=false)∧Boxed W' (w.heap.size+1) 4 (.bool false))∧W'.heap[D]?=some (.deferred (some [])))∧Below w.heap.size w W'∧KeepsFrom W2.heap.size W W')
    (OwnFrom.and (OwnFrom.and (OwnFrom.and (OwnFrom.and (OwnFrom.and (OwnFrom.and (OwnFrom.and (ownFrom_pure _ _) (Own.from (boxed_own _ _ _) _)) (Own.from (boxed_own _ _ _) _)) (Own.from (boxed_own _ _ _) _)) (Own.from (boxed_own _ _ _) _)) (Own.from (blk_own _ (fun _=>segObj (edS l0 x)) (fun _=>rfl)) _)) (ownFrom_blk (by omega))) (OwnFrom.and (OwnFrom.and (ownFrom_below (Nat.le_refl _) (by omega)) (ownFrom_kpE (by omega))) (ownFrom_keepsFrom (by omega))))
    (fun c=>OwnFrom.and (OwnFrom.and (OwnFrom.and (ownFrom_pure _ _) (Own.from (boxed_own _ _ _) _)) (ownFrom_blk (by omega))) (OwnFrom.and (ownFrom_below (Nat.le_refl _) (by omega)) (ownFrom_keepsFrom (by omega))))
    ⟨⟨⟨⟨⟨⟨⟨by simp,bR2⟩,bL2⟩,b52⟩,bI2⟩,bX2⟩,hK2⟩,⟨hB2,hE2⟩,hF2⟩
    (fun y a'' W'=>∃ Bt,W'.heap[Bt]?=some (segObj (edS l0 y))∧a''={ tmps:=#[.slice A0 l0.length c0,.pointer (some ⟨w.heap.size,0,none⟩),.pointer (some ⟨w.heap.size+1,0,none⟩),undef,undef,.pointer (some ⟨B5,0,none⟩),.pointer (some ⟨Bi,0,none⟩),.pointer (some ⟨Bs,0,none⟩),.int .i64 ((y:Nat):Int),.pointer (some ⟨Bt,0,none⟩),undef,.slice A0 l0.length c0,.int .i64 (l0.length:Int),.bool false,.bool false,.slice A0 l0.length c0,.int .i64 (l0.length:Int),.bool false,.bool false,.slice A0 l0.length c0,.func (.func 81) #[] #[.pointer (some ⟨w.heap.size+1+1,0,none⟩)],undef,undef,undef,undef,undef,.slice A0 l0.length c0,.int .i64 (l0.length:Int),.int .i64 ((l0.length:Int)-1),.slice A0 l0.length c0,.func (.func 81) #[] #[.pointer (some ⟨B5+1,0,none⟩)],.int .i64 ((x:Nat):Int),.agg #[.int .i64 (edS l0 x).f0.f0,.int .i64 (edS l0 x).f0.f1,.int .i64 (edS l0 x).f1.f0,.int .i64 (edS l0 x).f1.f1],.slice A0 l0.length c0,.func (.func 81) #[] #[.pointer (some ⟨Bc,0,none⟩)],.int .i64 ((y:Nat):Int),.agg #[.int .i64 (edS l0 y).f0.f0,.int .i64 (edS l0 y).f0.f1,.int .i64 (edS l0 y).f1.f0,.int .i64 (edS l0 y).f1.f1],undef,undef,undef,undef,undef,undef,undef,undef,undef,undef,undef,undef,undef,undef,undef,undef,undef,undef,undef,undef,undef,undef,undef,undef,undef,undef,undef,undef,undef],defers:=[] })
    (fun y a'' _ X Y row hs hg hr=>by obtain⟨Bt,e2,e3⟩:=hs;exact⟨Bt,segObj_own Bt (edS l0 y) () X Y row e2 hg (fun r e=>(hr r e).2),e3⟩)
    ?assign3 ?body3 ?done3 ?stop3
   case assign3 =>
    rintro l2 pre' y W' K ⟨⟨⟨⟨⟨⟨⟨hq,bR⟩,bL⟩,b5⟩,bI⟩,bX⟩,hK⟩,⟨hB,hE⟩,hF⟩ hKK;dsimp only [encE,edV];gi_wp2;exact hKK _ _ ((KeepsOthers.alloc _ _).from _) (KpE.alloc _ _ _ _) ⟨⟨⟨⟨⟨⟨⟨hq,bR.alloc _⟩,bL.alloc _⟩,b5.alloc _⟩,bI.alloc _⟩,blk_alloc' bX _⟩,blk_alloc' hK _⟩,⟨below_alloc hB _,hE.trans (KpE.alloc _ _ _ _)⟩,hF.trans ((KeepsOthers.alloc _ _).from _)⟩ ⟨W'.heap.size,World.alloc_heap_new W' _,rfl⟩
   case body3 =>
    rintro l2 pre' y a'' W' _ _ ⟨⟨⟨⟨⟨⟨⟨hq,bR⟩,bL⟩,b5⟩,bI⟩,bX⟩,hK⟩,⟨hB,hE⟩,hF⟩ ⟨Bt,bT,rfl⟩ _;have hx8:((x:Nat):Int)<8:=by have:=x.2;omega
    have hx0:0≤((x:Nat):Int):=by omega
    have cI:=bI.cell;have c5:=b5.cell;have cX0:W'.cell? ⟨Bs,0,none⟩=some (.int .i64 (edS l0 x).f0.f0):=(blk_cell bX 0).trans rfl;have cX1:W'.cell? ⟨Bs,1,none⟩=some (.int .i64 (edS l0 x).f0.f1):=(blk_cell bX 1).trans rfl;have cX2:W'.cell? ⟨Bs,2,none⟩=some (.int .i64 (edS l0 x).f1.f0):=(blk_cell bX 2).trans rfl;have cX3:W'.cell? ⟨Bs,3,none⟩=some (.int .i64 (edS l0 x).f1.f1):=(blk_cell bX 3).trans rfl;have cT0:W'.cell? ⟨Bt,0,none⟩=some (.int .i64 (edS l0 y).f0.f0):=(blk_cell bT 0).trans rfl;have cT1:W'.cell? ⟨Bt,1,none⟩=some (.int .i64 (edS l0 y).f0.f1):=(blk_cell bT 1).trans rfl;have cT2:W'.cell? ⟨Bt,2,none⟩=some (.int .i64 (edS l0 y).f1.f0):=(blk_cell bT 2).trans rfl;have cT3:W'.cell? ⟨Bt,3,none⟩=some (.int .i64 (edS l0 y).f1.f1):=(blk_cell bT 3).trans rfl;have cR:=bR.cell;have fR:=bR.frozen;by_cases d1:(y:Nat)≤(x:Nat)
    ·
     have t1:decide (((y:Nat):Int)≤((x:Nat):Int))=true:=decide_eq_true (by omega);have hP:pairS l0 x y=true:=by unfold pairS;rw [if_pos d1]
     gi_wp2;have hb:=hP;have hb1:=Below.refl W'.heap.size W';exact⟨keeps_below hb1,KpE.below hb1,⟨⟨⟨⟨⟨⟨fun z hz=>(List.mem_append.1 hz).elim (hq z) (fun e=>by simp at e;subst e;exact hb),box_later bR hb1⟩,box_later bL hb1⟩,box_later b5 hb1⟩,box_later bI hb1⟩,blk_later bX hb1⟩,blk_later hK hb1⟩,⟨below_row hB (Nat.le_refl _) hb1,hE.trans (KpE.below hb1)⟩,hF.trans (keeps_below hb1)⟩
    have t1:decide (((y:Nat):Int)≤((x:Nat):Int))=false:=decide_eq_false (by omega);by_cases d2:(y:Nat)=(x:Nat)+1
    ·
     have t2:(((y:Nat):Int)==((x:Nat):Int)+1)=true:=by rw [beq_iff_eq];omega
     have hP:pairS l0 x y=(!segHas (sgP (edS l0 x)) (ptP (edS l0 y).f1) && !segHas (sgP (edS l0 y)) (ptP (edS l0 x).f0)):=by unfold pairS;rw [if_neg d1,if_pos d2]
     have HJ:=iJoined (k:=2) (by omega) (edS l0 x).f0.f0 (edS l0 x).f0.f1 (edS l0 x).f1.f0 (edS l0 x).f1.f1 (edS l0 y).f0.f0 (edS l0 y).f0.f1 (edS l0 y).f1.f0 (edS l0 y).f1.f1;replace HJ:=HJ.trans (congrArg some hP.symm);clear d2
     cases hb:pairS l0 x y with
     | true =>
      rw [hb] at HJ;clear hP;gi_wp2_with (refine⟨trivial,?_⟩;gi_at_call 69;refine (CallsIn.inRound l2 (callsIn_wide.2 (impl_joined.calls 2 _ _ _ _ _ _ _ _ true _ HJ))).mono ?_;rintro e w1 ⟨rfl,hb1⟩;have cR1:=(box_later bR hb1).cell;have fR1:=(box_later bR hb1).frozen);exact⟨keeps_below hb1,KpE.below hb1,⟨⟨⟨⟨⟨⟨fun z hz=>(List.mem_append.1 hz).elim (hq z) (fun e=>by simp at e;subst e;exact hb),box_later bR hb1⟩,box_later bL hb1⟩,box_later b5 hb1⟩,box_later bI hb1⟩,blk_later bX hb1⟩,blk_later hK hb1⟩,⟨below_row hB (Nat.le_refl _) hb1,hE.trans (KpE.below hb1)⟩,hF.trans (keeps_below hb1)⟩
     | false =>
      rw [hb] at HJ;clear hP;gi_wp2_with (refine⟨trivial,?_⟩;gi_at_call 69;refine (CallsIn.inRound l2 (callsIn_wide.2 (impl_joined.calls 2 _ _ _ _ _ _ _ _ false _ HJ))).mono ?_;rintro e w1 ⟨rfl,hb1⟩;have cR1:=(box_later bR hb1).cell;have fR1:=(box_later bR hb1).frozen);exact⟨(keeps_below hb1).trans ((KeepsOthers.setCell _ _ _).from _),⟨⟨⟨rfl,y,hb⟩,(box_later bR hb1).set _⟩,blk_set (blk_later hK hb1) rfl (box_later bR hb1) _⟩,(below_row hB (Nat.le_refl _) hb1).setCell (p:=⟨w.heap.size+1,0,none⟩) (by simp) _,(hF.trans (keeps_below hb1)).trans ((KeepsOthers.setCell _ _ _).from _)⟩
    have t2:(((y:Nat):Int)==((x:Nat):Int)+1)=false:=by rw [beq_eq_false_iff_ne];omega
    by_cases d3:(x:Nat)=0
    ·
     have t3:(((x:Nat):Int)==0)=true:=by rw [beq_iff_eq];omega
     by_cases d4:(y:Nat)+1=l0.length
     ·
      have t4:(((y:Nat):Int)==(l0.length:Int)-1)=true:=by rw [beq_iff_eq];omega
      have hP:pairS l0 x y=(!segHas (sgP (edS l0 y)) (ptP (edS l0 x).f1) && !segHas (sgP (edS l0 x)) (ptP (edS l0 y).f0)):=by unfold pairS;rw [if_neg d1,if_neg d2,if_pos ⟨d3,d4⟩]
      have HJ:=iJoined (k:=2) (by omega) (edS l0 y).f0.f0 (edS l0 y).f0.f1 (edS l0 y).f1.f0 (edS l0 y).f1.f1 (edS l0 x).f0.f0 (edS l0 x).f0.f1 (edS l0 x).f1.f0 (edS l0 x).f1.f1;replace HJ:=HJ.trans (congrArg some hP.symm);clear d3 d4
      cases hb:pairS l0 x y with
      | true =>
       rw [hb] at HJ;clear hP;gi_wp2_with (refine⟨trivial,?_⟩;gi_at_call 69;refine (CallsIn.inRound l2 (callsIn_wide.2 (impl_joined.calls 2 _ _ _ _ _ _ _ _ true _ HJ))).mono ?_;rintro e w1 ⟨rfl,hb1⟩;have cR1:=(box_later bR hb1).cell;have fR1:=(box_later bR hb1).frozen);exact⟨keeps_below hb1,KpE.below hb1,⟨⟨⟨⟨⟨⟨fun z hz=>(List.mem_append.1 hz).elim (hq z) (fun e=>by simp at e;subst e;exact hb),box_later bR hb1⟩,box_later bL hb1⟩,box_later b5 hb1⟩,box_later bI hb1⟩,blk_later bX hb1⟩,blk_later hK hb1⟩,⟨below_row hB (Nat.le_refl _) hb1,hE.trans (KpE.below hb1)⟩,hF.trans (keeps_below hb1)⟩
      | false =>
       rw [hb] at HJ;clear hP;gi_wp2_with (refine⟨trivial,?_⟩;gi_at_call 69;refine (CallsIn.inRound l2 (callsIn_wide.2 (impl_joined.calls 2 _ _ _ _ _ _ _ _ false _ HJ))).mono ?_;rintro e w1 ⟨rfl,hb1⟩;have cR1:=(box_later bR hb1).cell;have fR1:=(box_later bR hb1).frozen);exact⟨(keeps_below hb1).trans ((KeepsOthers.setCell _ _ _).from _),⟨⟨⟨rfl,y,hb⟩,(box_later bR hb1).set _⟩,blk_set (blk_later hK hb1) rfl (box_later bR hb1) _⟩,(below_row hB (Nat.le_refl _) hb1).setCell (p:=⟨w.heap.size+1,0,none⟩) (by simp) _,(hF.trans (keeps_below hb1)).trans ((KeepsOthers.setCell _ _ _).from _)⟩
     ·
      have t4:(((y:Nat):Int)==(l0.length:Int)-1)=false:=by rw [beq_eq_false_iff_ne];omega
      have hP:pairS l0 x y = !segMeet (sgP (edS l0 x)) (sgP (edS l0 y)):=by unfold pairS;rw [if_neg d1,if_neg d2,if_neg (fun h=>d4 h.2)]
      have HJ:=iSegMeet (k:=3) (by omega) (edS l0 x).f0.f0 (edS l0 x).f0.f1 (edS l0 x).f1.f0 (edS l0 x).f1.f1 (edS l0 y).f0.f0 (edS l0 y).f0.f1 (edS l0 y).f1.f0 (edS l0 y).f1.f1;clear d3
      cases hb0:segMeet (sgP (edS l0 x)) (sgP (edS l0 y)) with
      | false =>
       have hb:pairS l0 x y=true:=by rw [hP,hb0];rfl
       replace HJ:=HJ.trans (congrArg some hb0);clear hP hb0;gi_wp2_with (refine⟨trivial,?_⟩;gi_at_call 70;refine (CallsIn.inRound l2 (callsIn_wide.2 (impl_SegMeet.calls 3 _ _ _ _ _ _ _ _ false _ HJ))).mono ?_;rintro e w1 ⟨rfl,hb1⟩;have cR1:=(box_later bR hb1).cell;have fR1:=(box_later bR hb1).frozen);exact⟨keeps_below hb1,KpE.below hb1,⟨⟨⟨⟨⟨⟨fun z hz=>(List.mem_append.1 hz).elim (hq z) (fun e=>by simp at e;subst e;exact hb),box_later bR hb1⟩,box_later bL hb1⟩,box_later b5 hb1⟩,box_later bI hb1⟩,blk_later bX hb1⟩,blk_later hK hb1⟩,⟨below_row hB (Nat.le_refl _) hb1,hE.trans (KpE.below hb1)⟩,hF.trans (keeps_below hb1)⟩
      | true =>
       have hb:pairS l0 x y=false:=by rw [hP,hb0];rfl
       replace HJ:=HJ.trans (congrArg some hb0);clear hP hb0;gi_wp2_with (refine⟨trivial,?_⟩;gi_at_call 70;refine (CallsIn.inRound l2 (callsIn_wide.2 (impl_SegMeet.calls 3 _ _ _ _ _ _ _ _ true _ HJ))).mono ?_;rintro e w1 ⟨rfl,hb1⟩;have cR1:=(box_later bR hb1).cell;have fR1:=(box_later bR hb1).frozen);exact⟨(keeps_below hb1).trans ((KeepsOthers.setCell _ _ _).from _),⟨⟨⟨rfl,y,hb⟩,(box_later bR hb1).set _⟩,blk_set (blk_later hK hb1) rfl (box_later bR hb1) _⟩,(below_row hB (Nat.le_refl _) hb1).setCell (p:=⟨w.heap.size+1,0,none⟩) (by simp) _,(hF.trans (keeps_below hb1)).trans ((KeepsOthers.setCell _ _ _).from _)⟩
    have t3:(((x:Nat):Int)==0)=false:=by rw [beq_eq_false_iff_ne];omega
    have hP:pairS l0 x y = !segMeet (sgP (edS l0 x)) (sgP (edS l0 y)):=by unfold pairS;rw [if_neg d1,if_neg d2,if_neg (fun h=>d3 h.1)]
    have HJ:=iSegMeet (k:=3) (by omega) (edS l0 x).f0.f0 (edS l0 x).f0.f1 (edS l0 x).f1.f0 (edS l0 x).f1.f1 (edS l0 y).f0.f0 (edS l0 y).f0.f1 (edS l0 y).f1.f0 (edS l0 y).f1.f1
    cases hb0:segMeet (sgP (edS l0 x)) (sgP (edS l0 y)) with
    | false =>
     have hb:pairS l0 x y=true:=by rw [hP,hb0];rfl
     replace HJ:=HJ.trans (congrArg some hb0);clear hP hb0;gi_wp2_with (refine⟨trivial,?_⟩;gi_at_call 70;refine (CallsIn.inRound l2 (callsIn_wide.2 (impl_SegMeet.calls 3 _ _ _ _ _ _ _ _ false _ HJ))).mono ?_;rintro e w1 ⟨rfl,hb1⟩;have cR1:=(box_later bR hb1).cell;have fR1:=(box_later bR hb1).frozen);exact⟨keeps_below hb1,KpE.below hb1,⟨⟨⟨⟨⟨⟨fun z hz=>(List.mem_append.1 hz).elim (hq z) (fun e=>by simp at e;subst e;exact hb),box_later bR hb1⟩,box_later bL hb1⟩,box_later b5 hb1⟩,box_later bI hb1⟩,blk_later bX hb1⟩,blk_later hK hb1⟩,⟨below_row hB (Nat.le_refl _) hb1,hE.trans (KpE.below hb1)⟩,hF.trans (keeps_below hb1)⟩
    | true =>
     have hb:pairS l0 x y=false:=by rw [hP,hb0];rfl
     replace HJ:=HJ.trans (congrArg some hb0);clear hP hb0;gi_wp2_with (refine⟨trivial,?_⟩;gi_at_call 70;refine (CallsIn.inRound l2 (callsIn_wide.2 (impl_SegMeet.calls 3 _ _ _ _ _ _ _ _ true _ HJ))).mono ?_;rintro e w1 ⟨rfl,hb1⟩;have cR1:=(box_later bR hb1).cell;have fR1:=(box_later bR hb1).frozen);exact⟨(keeps_below hb1).trans ((KeepsOthers.setCell _ _ _).from _),⟨⟨⟨rfl,y,hb⟩,(box_later bR hb1).set _⟩,blk_set (blk_later hK hb1) rfl (box_later bR hb1) _⟩,(below_row hB (Nat.le_refl _) hb1).setCell (p:=⟨w.heap.size+1,0,none⟩) (by simp) _,(hF.trans (keeps_below hb1)).trans ((KeepsOthers.setCell _ _ _).from _)⟩
   case done3 =>
    rintro ys' W' rfl ⟨⟨⟨⟨⟨⟨⟨hq,bR⟩,bL⟩,b5⟩,bI⟩,bX⟩,hK⟩,⟨hB,hE⟩,hF⟩;gi_wp2;exact⟨hF,hE,⟨⟨⟨⟨fun z hz j hj=>(List.mem_append.1 hz).elim (fun hm=>hp z hm j hj) (fun e=>by simp at e;subst e;exact hq ⟨j,hj⟩ (List.mem_finRange _)),bR⟩,bL⟩,b5⟩,hK⟩,hB⟩
   case stop3 =>
    rintro c pre' W' hpre ⟨⟨⟨⟨rfl,y,hy⟩,bR⟩,hK⟩,hB,hF⟩;gi_wp2;exact⟨hF,⟨⟨⟨rfl,x,y,x.2,y.2,hy⟩,bR⟩,hK⟩,hB⟩
  case stop2 =>
   rintro D2 c pre W hD2 _ ⟨⟨⟨⟨rfl,i,j,hi,hj,hs⟩,bR1⟩,hK⟩,hB1⟩ hK2;obtain rfl:r=false:=by
    cases r with
    | false=>rfl
    | true=>have:=(hS'.out.1 rfl).2.2.2 i j hi hj;rw [hs] at this;cases this
   gi_wp2;have hD1:∀ E∈[D2,D],W.heap[E]?=some (.deferred (some [])):=by
    intro E hE;simp at hE
    rcases hE with rfl | rfl
    ·
     exact hK2
    ·
     exact hK
   refine leavesM_marks [D2,D] W (by simp;omega) hD1 (fun w' h1 h2 h3 h4 h5=>?_);have hc5:=(marks_boxed bR1 hD1 h1).cell;refine⟨.bool false,?_,rfl,marks_below hB1 (by simp;omega) h1 h2 h3 h4 h5⟩;simp [results,Tryd.f35,go_sem,hc5]
  case done2 =>
   rintro D2 ys W hD2 rfl ⟨⟨⟨⟨⟨hp,bR1⟩,bL1⟩,b5⟩,hK⟩,hB1⟩ hK2;obtain rfl:r=true:=hS'.out.2 ⟨by omega,by omega,hok,fun i j hi hj=>hp ⟨i,hi⟩ (List.mem_finRange _) j hj⟩;have cR:=bR1.cell;have fR:=bR1.frozen;gi_wp2;have hD1:∀ E∈[D2,D],(W.setCell ⟨w.heap.size+1,0,none⟩ (.bool true)).heap[E]?=some (.deferred (some [])):=by
    intro E hE;simp at hE
    rcases hE with rfl | rfl
    ·
     exact blk_set hK2 rfl bR1 _
    ·
     exact blk_set hK rfl bR1 _
   refine leavesM_marks [D2,D] _ (by simp;omega) hD1 (fun w' h1 h2 h3 h4 h5=>?_);have hc5:=(marks_boxed (bR1.set (.bool true)) hD1 h1).cell;refine⟨.bool true,?_,rfl,marks_below (hB1.setCell (p:=⟨w.heap.size+1,0,none⟩) (by simp) _) (by simp;omega) h1 h2 h3 h4 h5⟩;simp [results,Tryd.f35,go_sem,hc5]
end Go.Proofs.YtailkppkjhkjpaaDoor.X
end
section
set_option linter.unusedVariables false
set_option linter.unusedSimpArgs false
namespace Go.Proofs.YtailkppkjhkjpaaDoor.X
open Go.RowKit Go.Shelf Go.Proofs.YtailkppkjhkjpaaDoorW.PrintWords Go.Proofs.YtailkppkjhkjpaaDoorW.PrintLast Go.Proofs.YtailkppkjhkjpaaDoorW.PrintMore
def CellsKept (W W':World):Prop:=∀ (k:Nat) (cs:Array Value) (t:TypeId) (fr:Nat × Nat),W.heap[k]?=some (Obj.cells cs t fr)→W'.heap[k]?=some (Obj.cells cs t fr)
theorem CellsKept.grown {W W':World}{row:Option Nat}(hg:W.grownBy W' row)(hr:∀ r,row=some r→∃ o,W.heap[r]?=some o∧o.isCells=false):CellsKept W W':=fun k cs t fr h =>
 (hg.block k (Array.getElem?_eq_some_iff.1 h).1 (fun e=>by obtain⟨o,ho,hc⟩:=hr k e.symm;rw [h] at ho;cases ho;cases hc)).trans h
theorem CellsKept.marks {W W':World}{Ds:List Nat}(hD:∀ D∈Ds,W.heap[D]?=some (.deferred (some [])))(h1:∀ k,k ∉ Ds→W'.heap[k]?=W.heap[k]?):CellsKept W W':=fun k cs t fr h =>
 (h1 k (fun e=>by have:=(hD k e).symm.trans h;cases this)).trans h
theorem CellsKept.below {W W':World}(hb:Below W.heap.size W W'):CellsKept W W':=fun k cs t fr h=>blk_later h hb
theorem Built.kept {w W W':World}{n₀ bb:Nat}{bs:List Nat}{A0:Option Addr}{c0:Nat}{o:List S37}{H:List (List S37)}{v:Value}(h:Built w W n₀ bb bs A0 c0 o H v)(k:CellsKept W W'):Built w W' n₀ bb bs A0 c0 o H v:=
 ⟨k _ _ _ _ h.body,h.lo,h.len,h.nd,fun j hj=>by obtain⟨l,A,c,k1,k2,k3⟩:=h.ring j hj;exact⟨l,A,c,k _ _ _ _ k1,k2,k3⟩⟩
theorem R_kept {α:Type}{d:Kd α}{e:Nat}{W W':World}{base:Nat}{ok:Nat→Prop}{v:Value}{xs:List α}(h:d.R e W base ok v xs)(k:CellsKept W W'):d.R e W' base ok v xs:=
 Kd.R_mono (Kd.R_move (Kd.R_bound h) (fun j hj=>by obtain⟨_,_,_,q,_,cells,hc⟩:=hj;exact (k _ _ _ _ hc).trans hc.symm)) (fun _ hk=>hk.1)
theorem box_kept {W W':World}{B:Nat}{t:TypeId}{v:Value}(h:Boxed W B t v)(k:CellsKept W W'):Boxed W' B t v:=k _ _ _ _ h
theorem R_ne {W:World}{base:Nat}{ok:Nat→Prop}{v:Value}{xs:List S89}(h:Kd.R k89 89 W base ok v xs){g t:Nat}{cs:Array Value}(hg:W.heap[g]?=some (.cells cs t (0,0)))(ht:t≠89):some g≠v.ownBlock:=fun e=>by
 obtain⟨_,inner,ho,_⟩:=h;obtain⟨cells,hc⟩:=own_typed ho g e.symm;rw [hg] at hc;injection hc with hc;injection hc with _ hc;exact ht hc
theorem R_lo {W:World}{base:Nat}{ok:Nat→Prop}{v:Value}{xs:List S89}(h:Kd.R k89 89 W base ok v xs){k:Nat}(hk:v.ownBlock=some k):base≤k:=by
 obtain⟨_,inner,ho,_⟩:=h;exact own_base ho k hk
theorem R_hi {W:World}{base:Nat}{ok:Nat→Prop}{v:Value}{xs:List S89}(h:Kd.R k89 89 W base ok v xs){k:Nat}(hk:v.ownBlock=some k):k<W.heap.size:=by
 obtain⟨_,inner,ho,_⟩:=h;exact own_lt ho k hk
theorem R_nc {W:World}{base:Nat}{ok:Nat→Prop}{v:Value}{xs:List S89}(h:Kd.R k89 89 W base ok v xs){k:Nat}{ob:Obj}(hk:W.heap[k]?=some ob)(hc:ob.isCells=false):some k≠v.ownBlock:=fun e=>by
 obtain⟨_,inner,ho,_⟩:=h;obtain⟨cells,hcs⟩:=own_typed ho k e.symm;rw [hk] at hcs;cases hcs;cases hc
theorem R_body {W:World}{base:Nat}{v:Value}{xs:List S89}{bb:Nat}{cs:Array Value}(h:Kd.R k89 89 W base (fun _=>True) v xs)(hb:W.heap[bb]?=some (.cells cs 58 (0,0)))(u:Value):Kd.R k89 89 (W.setCell ⟨bb,2,none⟩ u) base (fun _=>True) v xs:=
 Kd.R_mono (Kd.R_far (Kd.R_types h hb (by decide)) (fun k hk=>hk.2) u) (fun _ _=>trivial)
theorem Built.rings {w W:World}{n₀ bb:Nat}{bs:List Nat}{A0:Option Addr}{c0:Nat}{o:List S37}{H:List (List S37)}{v:Value}(h:Built w W n₀ bb bs A0 c0 o H v)(ho:Kd.C k37 w A0 o.length o)(i:Nat)(hi:i<(o::H).length):
  ∃ A c,W.cell? ⟨(bb::bs).getD i 0,0,none⟩=some (.slice A ((o::H).getD i []).length c)∧W.cell? ⟨(bb::bs).getD i 0,1,none⟩=some (.pointer (ptrAt (bb::bs) (i+1)))∧Kd.C k37 w A ((o::H).getD i []).length ((o::H).getD i []):=by
 cases i with
 | zero=>exact⟨A0,c0,(blk_cell h.body 0).trans rfl,(blk_cell h.body 1).trans rfl,ho⟩
 | succ i =>
  obtain⟨l,A,c,k1,k2,k3⟩:=h.ring i (by simpa using hi);exact⟨A,c,(blk_cell k1 0).trans rfl,(blk_cell k1 1).trans rfl,k2⟩
theorem Built.put {w W w1:World}{n₀ bb:Nat}{bs:List Nat}{A0:Option Addr}{c0:Nat}{o:List S37}{H:List (List S37)}{v v1:Value}(h:Built w W n₀ bb bs A0 c0 o H v)(hg:W.grownBy w1 v.ownBlock)
  (hne:∀ (g:Nat) (t:TypeId) (cs:Array Value),W.heap[g]?=some (Obj.cells cs t (0,0))→t≠89→some g≠v.ownBlock):Built w (w1.setCell ⟨bb,2,none⟩ v1) n₀ bb bs A0 c0 o H v1:=by
 have hk:∀ (g:Nat) (t:TypeId) (cs:Array Value),W.heap[g]?=some (Obj.cells cs t (0,0))→t≠89→w1.heap[g]?=some (Obj.cells cs t (0,0)):=fun g t cs hgc ht=>(hg.block g (Array.getElem?_eq_some_iff.1 hgc).1 (hne g t cs hgc ht)).trans hgc
 refine⟨blk_put (cs:=#[.slice A0 o.length c0,.pointer (ptrAt bs 0),v]) (hk _ _ _ h.body (by decide)) 2 v1 rfl,h.lo,h.len,h.nd,fun j hj=>?_⟩;obtain⟨l,A,c,k1,k2,k3⟩:=h.ring j hj;refine⟨l,A,c,?_,k2,k3⟩;rw [Below.heap_setCell _ ⟨bb,2,none⟩ _ _ ?_]
 ·
  exact hk _ _ _ k1 (by decide)
 ·
  intro e;have:=h.nd;rw [List.nodup_cons] at this;refine this.1 ?_;rw [← (show bs.getD j 0=bb from e),getD_lt (by rw [h.len];exact hj)];exact List.getElem_mem _
end Go.Proofs.YtailkppkjhkjpaaDoor.X
end
section
set_option linter.unusedVariables false
set_option linter.unusedSimpArgs false
namespace Go.Proofs.YtailkppkjhkjpaaDoor.X
open Go.RowKit Go.Shelf Go.Proofs.YtailkppkjhkjpaaDoorW.PrintWords Go.Proofs.YtailkppkjhkjpaaDoorW.PrintLast Go.Proofs.YtailkppkjhkjpaaDoorW.PrintMore
open Mort (edges segMeet loopOk ptOk inOf)
attribute [local go_sem] Oper.semAt_some
def bodyOkB (o:List S37)(H:List (List S37)):Bool:=
  decide (H.length≤2) && (loopOk (o.map ptP) && (H.all (fun z=>loopOk (z.map ptP)) && (apartAll (o::H) && nestedAll o H)))
def edgesS (z:List S37):List S89:=(List.finRange z.length).map fun (i:Fin z.length)=>edS z (i:Nat)
def allEdges (R:List (List S37)):List S89:=R.flatMap edgesS
theorem allEdges_len {R:List (List S37)}(h:Small R):(allEdges R).length≤8*R.length:=by
  induction R with
  | nil=>simp [allEdges]
  | cons z R ih =>
    have h1:=ih (fun u hu=>h u (List.mem_cons_of_mem _ hu));have h2:=(h z List.mem_cons_self).2;unfold allEdges at h1 ⊢
    rw [List.flatMap_cons,List.length_append];have h3:(edgesS z).length=z.length:=by simp [edgesS]
    rw [h3,List.length_cons];omega
theorem at_row {w:World}{A:Option Addr}{n:Nat}{xs:List (List S37)}(h:Kd.C (Kd.slice 37 k37) w A n xs)(i:Nat)(h1:i<n):
    ∃ ad A0 c0,A=some ad∧w.cell? (ad.add i)=some (.slice A0 (xs.getD i []).length c0)∧(xs.getD i []).length≤c0∧k37.C w A0 (xs.getD i []).length (xs.getD i []):=by
  obtain⟨ad,c,e,_,hK,hc0⟩:=Kd.C_get h ([]:List S37) (i:Int) (by omega) (by omega);have hc:∀ j u,c[j]?=some u→w.cell? (ad.add (i*1+j))=some u:=hc0;obtain⟨A0,c0,rfl,l0,g0⟩:=hK;exact⟨ad,A0,c0,e,by have hq:=hc 0 _ rfl;rwa [Nat.mul_one,Nat.add_zero] at hq,l0,g0⟩
def BodyRes (o:List S37)(H:List (List S37))(w:World)(e:Ending)(w':World):Prop:=
  ∃ b bs v,e=.returned (.tuple #[.pointer (some ⟨b,0,none⟩),.bool true])∧BodyAt w' b bs o H∧w'.cell? ⟨b,2,none⟩=some v∧Kd.R k89 89 w' w.heap.size (fun _=>True) v (allEdges (o::H))∧Below w.heap.size w w'
def NoBody (w:World)(e:Ending)(w':World):Prop:=e=.returned (.tuple #[.pointer none,.bool false])∧Below w.heap.size w w'
def BodyPost (o:List S37)(H:List (List S37))(w:World)(r:Bool)(e:Ending)(w':World):Prop:=(r=true→BodyRes o H w e w')∧(r=false→NoBody w e w')
set_option maxHeartbeats 8000000 in
set_option maxRecDepth 100000 in
theorem bodyOf_calls (A0:Option Addr)(c0:Nat)(o:List S37)(AH:Option Addr)(cH:Nat)(H:List (List S37))(r:Bool)(w:World)(hr0:Kd.C k37 w A0 o.length o)(hc0:o.length≤c0)
    (hr1:Kd.C (Kd.slice 37 k37) w AH H.length H) (hc1:H.length≤cH) (h:bodyOkB o H=r) :
    Calls Tryd.prog 24 #[.agg #[.slice A0 o.length c0,.slice AH H.length cH]] w (BodyPost o H w r):=by
  have HR:=Aside0.mk h;clear h;have hu26:=Tryd.underlying26;refine (callsIn_wide (n:=9)).1 ?_;refine callsIn_of_wp_marks Tryd.func24 rfl trivial ?_ rfl;simp only [Tryd.ntmps24,List.size_toArray,List.length_cons,List.length_nil,Nat.reduceAdd,Nat.reduceSub,Array.replicate_succ,Array.replicate_zero,List.push_toArray,List.append_toArray,List.nil_append,List.cons_append];have bP:=World.alloc_heap_new w (.cells #[.slice A0 o.length c0,.slice AH H.length cH] 26 (0,0));have cP0:(w.alloc (.cells #[.slice A0 o.length c0,.slice AH H.length cH] 26)).cell? ⟨w.heap.size,0,none⟩=some (.slice A0 o.length c0):=(blk_cell bP 0).trans rfl;have cP1:(w.alloc (.cells #[.slice A0 o.length c0,.slice AH H.length cH] 26)).cell? ⟨w.heap.size,1,none⟩=some (.slice AH H.length cH):=(blk_cell bP 1).trans rfl;have hB0:=below_alloc (Below.refl w.heap.size w) (.cells #[.slice A0 o.length c0,.slice AH H.length cH] 26);by_cases h2:2<H.length
  · have b1:decide (2<(H.length:Int))=true:=decide_eq_true (by omega)
    obtain rfl:r=false:=by rw [← HR.out];unfold bodyOkB;rw [decide_eq_false (by omega)];rfl
    gi_wp2;refine⟨trivial,?_⟩;gi_wp2;refine⟨.tuple #[.pointer none,.bool false],?_,fun h=>(by cases h),fun _=>⟨rfl,hB0⟩⟩;simp [results,Tryd.f24,go_sem]
  have b1:decide (2<(H.length:Int))=false:=decide_eq_false (by omega)
  cases hlo:loopOk (o.map ptP) with
  | false =>
    obtain rfl:r=false:=by rw [← HR.out];unfold bodyOkB;rw [hlo];simp
    have HL:impl_LoopOk.f o=some false:=congrArg some hlo;clear hlo;gi_wp2_with (refine⟨trivial,?_⟩;gi_at_call 35;refine (callsIn_wide.2 (impl_LoopOk.calls A0 c0 o false _ (Kd.C_below hr0 hB0) hc0 HL)).mono ?_;rintro e w1 ⟨rfl,hb⟩);refine⟨.tuple #[.pointer none,.bool false],?_,fun h=>(by cases h),fun _=>⟨rfl,below_step hB0 hb⟩⟩;simp [results,Tryd.f24,go_sem]
  | true =>
    have HL:impl_LoopOk.f o=some true:=congrArg some hlo;have HLO:=Aside0.mk hlo;clear hlo;gi_wp2_with (refine⟨trivial,?_⟩;gi_at_call 35;refine (callsIn_wide.2 (impl_LoopOk.calls A0 c0 o true _ (Kd.C_below hr0 hB0) hc0 HL)).mono ?_;rintro e w1 ⟨rfl,hb⟩;have dP0:=pw_cell_below hb cP0;have dP1:=pw_cell_below hb cP1;have dB1:=below_step hB0 hb;have eB:=below_alloc (below_alloc (Below.refl w1.heap.size w1) (.cells #[.slice A0 o.length c0,.pointer none,.slice none 0 0] 58)) (.cells #[.pointer (some ⟨w1.heap.size,0,none⟩)] 47);have eP1:=pw_cell_below eB dP1);have bV:=Boxed.new (w1.alloc (.cells #[.slice A0 o.length c0,.pointer none,.slice none 0 0] 58)) 47 (.pointer (some ⟨w1.heap.size,0,none⟩));simp only [World.size_alloc] at bV;have hBd:Built w ((w1.alloc (.cells #[.slice A0 o.length c0,.pointer none,.slice none 0 0] 58)).alloc (.cells #[.pointer (some ⟨w1.heap.size,0,none⟩)] 47)) w.heap.size w1.heap.size [] A0 c0 o [] (.slice none 0 0):=
      ⟨blk_alloc' (World.alloc_heap_new w1 _) _,dB1.size,rfl,by simp,fun j hj=>by simp at hj⟩
    have hP1:=blk_later (blk_later bP hb) eB;have hB1:=below_step dB1 eB;have hn1:=dB1.size;clear eP1 eB dB1 dP0 dP1 hb bP cP0 cP1 hB0;obtain⟨W1,hW1⟩:∃ W1,(w1.alloc (.cells #[.slice A0 o.length c0,.pointer none,.slice none 0 0] 58)).alloc (.cells #[.pointer (some ⟨w1.heap.size,0,none⟩)] 47)=W1:=⟨_,rfl⟩;rw [hW1] at bV hBd hP1 hB1 ⊢
    clear hW1;generalize w1.heap.size=bb at *;gi_loopw [5,32] (fun v5 v32 wr=>∃ (i lb:Nat),v5=.pointer (some ⟨lb,0,none⟩)∧v32=.int .i64 i∧i≤H.length∧Aside0 (∃ bs,lb=lastOf bb bs∧Built w wr w.heap.size bb bs A0 c0 o (H.take i) (.slice none 0 0)∧Boxed wr (bb+1) 47 (.pointer (some ⟨bb,0,none⟩))∧(∀ z∈H.take i,loopOk (z.map ptP)=true)∧wr.heap[w.heap.size]?=some (.cells #[.slice A0 o.length c0,.slice AH H.length cH] 26 (0,0))∧Below w.heap.size w wr))
      (fun _ v32 _=>H.length-(intOf v32).toNat)
    case atStart=>exact⟨0,bb,rfl,rfl,Nat.zero_le _,⟨[],rfl,by rw [List.take_zero];exact hBd,bV,by simp,hP1,hB1⟩⟩
    case round =>
      obtain⟨i,lb,rfl,rfl,hi,HI⟩:=hrel;obtain⟨bs,hlb,hBd,bV,hok,hP,hB⟩:=HI.out;clear HI hB1;by_cases hlt:i<H.length
      · obtain⟨ad,A',c',hAH,hx,hzc,hzC⟩:=at_row hr1 i hlt
        subst hAH;have hxr:wr.cell? (ad.add i)=some (.slice A' (H.getD i []).length c'):=pw_cell_below hB hx;have hzW:=Kd.C_below hzC hB;have hz:H.getD i []=H[i]:=getD_lt hlt;have htk:H.take (i+1)=H.take i++[H.getD i []]:=by rw [hz];exact List.take_succ_eq_append_getElem hlt
        have hHm:H.getD i []∈H:=by rw [hz];exact List.getElem_mem _
        generalize H.getD i []=z at *;have HT:=a0_ (And.intro htk (And.intro hHm (And.intro hBd (And.intro bV (And.intro hok (And.intro hP (And.intro hB hlb)))))));clear htk hHm hBd bV hok hP hlb hz hx
        cases hlz:loopOk (z.map ptP) with
        | false =>
          obtain rfl:r=false:=by
            rw [← HR.out];unfold bodyOkB;rw [show H.all (fun z=>loopOk (z.map ptP))=false from List.all_eq_false.2 ⟨z,HT.out.2.1,by rw [hlz];simp⟩];simp
          have HZ:impl_LoopOk.f z=some false:=congrArg some hlz;clear hlz;gi_wp2_with (refine⟨trivial,?_⟩;gi_at_call 35;refine (callsIn_wide.2 (impl_LoopOk.calls A' c' z false _ hzW hzc HZ)).mono ?_;rintro e w2 ⟨rfl,hb⟩);refine⟨.tuple #[.pointer none,.bool false],?_,fun h=>(by cases h),fun _=>⟨rfl,below_step hB hb⟩⟩;simp [results,Tryd.f24,go_sem]
        | true =>
          have HZ:impl_LoopOk.f z=some true:=congrArg some hlz;have HLZ:=Aside0.mk hlz;clear hlz;have hlast:∃ (y:Value) (cs:List Value) (t:TypeId),wr.heap[lb]?=some (.cells (#[y,.pointer none]++cs.toArray) t (0,0))∧w.heap.size≤lb:=by
            rw [HT.out.2.2.2.2.2.2.2];exact HT.out.2.2.1.last_cells
          obtain⟨y,cs,t,hobj,hlo⟩:=hlast
          gi_wp2_with (refine⟨trivial,?_⟩;gi_at_call 35;refine (callsIn_wide.2 (impl_LoopOk.calls A' c' z true _ hzW hzc HZ)).mono ?_;rintro e w2 ⟨rfl,hb⟩
                       have hob2:=blk_alloc' (blk_later hobj hb) (.cells #[.slice A' z.length c',.pointer none] 55);have s1:(w2.alloc (.cells #[.slice A' z.length c',.pointer none] 55)).cell? ⟨lb,1,none⟩=some (.pointer none):=(blk_cell hob2 1).trans (by simp);have s2:=blk_frozen hob2 1
                       have s3:((w2.alloc (.cells #[.slice A' z.length c',.pointer none] 55)).setCell ⟨lb,1,none⟩ (.pointer (some ⟨w2.heap.size,0,none⟩))).cell? ⟨lb,1,none⟩=some (.pointer (some ⟨w2.heap.size,0,none⟩)):=World.cell?_setCell_same' _ _ _ (by rw [s1];rfl))
          obtain⟨htk,hHm,hBd,bV,hok,hP,hB',hlb⟩:=HT.out;have hne1:bb+1≠lb:=by
            intro e;have h1:=hobj;rw [← e,show wr.heap[bb+1]?=_ from bV] at h1;have h2:=congrArg (fun (u:Option Obj)=>match u with | some (.cells a _ _)=>a.size | _=>0) h1;simp at h2
          have hne2:w.heap.size≠lb:=by
            intro e;have h1:=hobj;rw [← e,hP] at h1;have h2:=congrArg (fun (u:Option Obj)=>match u with | some (.cells a _ _)=>a[1]? | _=>none) h1;simp at h2
          have hbd2:=(hBd.later hb).push A' c' z hzC hzc (Nat.le_trans hB.size hb.size);rw [← hlb,← htk] at hbd2;refine⟨⟨i+1,w2.heap.size,rfl,by simp,by omega,⟨bs++[w2.heap.size],(lastOf_snoc bb _ bs).symm,hbd2,?_,?_,?_,?_⟩⟩,by simp [intOf];omega⟩
          · exact (Below.heap_setCell _ ⟨lb,1,none⟩ _ _ hne1).trans ((box_later bV hb).alloc _)
          · intro u hu
            rw [htk] at hu
            rcases List.mem_append.1 hu with hu | hu
            · exact hok u hu
            · simp at hu;subst hu;exact HLZ.out
          · rw [Below.heap_setCell _ ⟨lb,1,none⟩ _ _ hne2];exact blk_alloc' (blk_later hP hb) _
          · exact (below_alloc (below_step hB hb) _).setCell (p:=⟨lb,1,none⟩) hlo _
      · obtain rfl:i=H.length:=by omega
        rw [List.take_length] at hBd hok;have hBA:=hBd.bodyAt hB hr0 hc0;have hsm:Small (o::H):=fun z hz=>by
          have:loopOk (z.map ptP)=true:=by
            rcases List.mem_cons.1 hz with e | hz
            · rw [e];exact HLO.out
            · exact hok z hz
          obtain⟨h3,h8,_⟩:=(Mort.loopOk_iff _).1 this;rw [List.length_map] at h3 h8;exact⟨by omega,h8⟩
        have hRr:r=(apartAll (o::H) && nestedAll o H):=by
          rw [← HR.out];unfold bodyOkB;rw [decide_eq_true (by omega),HLO.out,List.all_eq_true.2 hok];rfl
        have HT:=a0_ (And.intro hBd (And.intro hok (And.intro hP (And.intro hB (And.intro hlb (And.intro hBA (And.intro hsm hRr)))))));have cV:=bV.cell;clear hBd hok hP hB hlb hBA hsm hRr HR hlt hi
        cases hap:apartAll (o::H) with
        | false =>
          gi_wp2_with (refine⟨trivial,?_⟩;gi_at_call 57;refine (callsIn_wide.2 (apart_calls bb (o::H) false _ HT.out.2.2.2.2.2.1.rings HT.out.2.2.2.2.2.2.1 hap)).mono ?_;rintro e w2 ⟨rfl,hb⟩);obtain rfl:r=false:=by rw [HT.out.2.2.2.2.2.2.2,hap];rfl
          refine⟨trivial,?_⟩;gi_wp2;refine⟨.tuple #[.pointer none,.bool false],?_,fun h=>(by cases h),fun _=>⟨rfl,below_step HT.out.2.2.2.1 hb⟩⟩;simp [results,Tryd.f24,go_sem]
        | true =>
          cases hne:nestedAll o H with
          | false =>
            gi_wp2_with (first
              | (refine⟨trivial,?_⟩;gi_at_call 57;refine (callsIn_wide.2 (apart_calls bb (o::H) true _ HT.out.2.2.2.2.2.1.rings HT.out.2.2.2.2.2.2.1 hap)).mono ?_;rintro e w2 ⟨rfl,hb⟩;have cV2:=(box_later bV hb).cell)
              | (refine⟨trivial,?_⟩;gi_at_call 58;refine (callsIn_wide.2 (nested_calls bb _ o H false _ (HT.out.2.2.2.2.2.1.later hb) HLO.out HT.out.2.1 hne)).mono ?_;rintro e w3 ⟨rfl,hb2⟩))
            obtain rfl:r=false:=by rw [HT.out.2.2.2.2.2.2.2,hap,hne];rfl
            refine⟨.tuple #[.pointer none,.bool false],?_,fun h=>(by cases h),fun _=>⟨rfl,below_step (below_step HT.out.2.2.2.1 hb) hb2⟩⟩;simp [results,Tryd.f24,go_sem]
          | true =>
            gi_wp2_with (first
              | (refine⟨trivial,?_⟩;gi_at_call 57;refine (callsIn_wide.2 (apart_calls bb (o::H) true _ HT.out.2.2.2.2.2.1.rings HT.out.2.2.2.2.2.2.1 hap)).mono ?_;rintro e w2 ⟨rfl,hb⟩;have cV2:=(box_later bV hb).cell)
              | (refine⟨trivial,?_⟩;gi_at_call 58;refine (callsIn_wide.2 (nested_calls bb _ o H true _ (HT.out.2.2.2.2.2.1.later hb) HLO.out HT.out.2.1 hne)).mono ?_;rintro e w3 ⟨rfl,hb2⟩;have cV3:=(box_later (box_later bV hb) hb2).cell))
            have hw3:=below_step (below_step HT.out.2.2.2.1 hb) hb2;have hBd3:=(HT.out.1.later hb).later hb2;have bV3:=box_later (box_later bV hb) hb2;have hr:r=true:=by rw [HT.out.2.2.2.2.2.2.2,hap,hne];rfl
            subst hr;have hLen:=HT.out.2.2.2.2.2.2.1;clear hb hb2 cV3 bV hap hne cV
            obtain⟨I,hI⟩:∃ I:Act→World→Prop,Aside0 (I=fun a W=>∃ (i:Nat) (x61 x62 x63 x64 x65 x66 x67 x68 x69 x70 x71:Value) (Ds:List Nat),a={ tmps:=#[.agg #[.slice A0 o.length c0,.slice AH H.length cH],.pointer (some ⟨w.heap.size,0,none⟩),u2,u3,.pointer (some ⟨bb+1,0,none⟩),.pointer (some ⟨lb,0,none⟩),undef,u7,.pointer (ptrAt (bb::bs) i),undef,undef,.pointer (some ⟨w.heap.size,1,none⟩),.slice AH H.length cH,.int .i64 (H.length:Int),.bool false,.bool false,.pointer (some ⟨w.heap.size,0,none⟩),.slice A0 o.length c0,.bool true,.bool false,.bool false,.pointer (some ⟨w.heap.size,0,none⟩),.slice A0 o.length c0,.agg #[.slice A0 o.length c0,.pointer none],.agg #[.slice A0 o.length c0,.pointer none,.slice none 0 0],.pointer (some ⟨bb,0,none⟩),.pointer (some ⟨bb,0,none⟩),.pointer (some ⟨bb,0,none⟩),.pointer (some ⟨bb,0,none⟩),.pointer (some ⟨w.heap.size,1,none⟩),.slice AH H.length cH,.int .i64 (H.length:Int),.int .i64 (H.length:Int),.bool false,u34,u35,u36,u37,u38,u39,u40,u41,u42,u43,u44,u45,u46,u47,u48,u49,.pointer (some ⟨bb,0,none⟩),.bool true,.bool false,.bool false,.pointer (some ⟨bb,0,none⟩),.bool true,.bool false,.bool false,.pointer (some ⟨bb,0,none⟩),.pointer (some ⟨bb,0,none⟩),.pointer (some ⟨bb,0,none⟩),x61,x62,x63,x64,x65,x66,x67,x68,x69,x70,x71,undef,undef,undef,undef,undef,undef,undef,undef,undef,undef,undef,undef,undef],defers:=Ds.map mark } ∧
              (∃ v,i≤(o::H).length∧Ds.length=i∧Ds.Nodup∧(∀ D∈Ds,W.heap[D]?=some (.deferred (some []))∧w.heap.size≤D)∧Built w W w.heap.size bb bs A0 c0 o H v∧Kd.R k89 89 W w.heap.size (fun _=>True) v (allEdges ((o::H).take i))∧Boxed W (bb+1) 47 (.pointer (some ⟨bb,0,none⟩))∧Below w.heap.size w W)):=⟨_,⟨rfl⟩⟩
            obtain⟨μ,hμ⟩:∃ μ:Act→World→Nat,Aside0 (μ=fun a _=>(H.length+2)-a.defers.length):=⟨_,⟨rfl⟩⟩;refine wpIn_loop I μ ?_ ?_
            · rw [hI.out]
              exact⟨0,_,_,_,_,_,_,_,_,_,_,_,[],rfl,_,Nat.zero_le _,rfl,by simp,by simp,hBd3,by rw [List.take_zero];exact Kd.R_nil _ _ _ _ _,bV3,hw3⟩
            · intro a W hIa
              rw [hI.out] at hIa;obtain⟨i,x61,x62,x63,x64,x65,x66,x67,x68,x69,x70,x71,Ds,rfl,v,hi,hDl,hDn,hDs,hBd,hE,bV,hB⟩:=hIa;clear hBd3 bV3 hw3;by_cases hlt:i<(o::H).length
              · obtain⟨Az,cz,q1,q2,hz⟩:=hBd.rings hr0 i hlt
                have hzm:(o::H).getD i []∈o::H:=by rw [getD_lt hlt];exact List.getElem_mem _
                have hzs:=hLen _ hzm;have htk:(o::H).take (i+1)=(o::H).take i++[(o::H).getD i []]:=by rw [getD_lt hlt];exact List.take_succ_eq_append_getElem hlt
                have hlen2:(bb::bs).length=(o::H).length:=by simp [hBd.len]
                rw [ptrAt_some (by rw [hlen2];exact hlt)];have hzl:=row_lt hz hzs.1;have HT2:=a0_ (And.intro htk (And.intro hi (And.intro hDl (And.intro hDn hlen2))));clear htk hzm hi hDl hlen2;generalize hzz:(o::H).getD i []=z at *;generalize hrb:(bb::bs).getD i 0=rb at *;have hrb':=Aside0.mk hrb;have hzz':=Aside0.mk hzz;clear hrb hzz;gi_wp2_with (refine⟨trivial,?_⟩;gi_at_call 59;refine (edges_in _ _ _ _ _).mono ?_;rintro e w' ⟨rfl,rfl⟩);have bN:=Boxed.new W 23 (.slice Az z.length cz);have hal:=below_alloc (Below.refl W.heap.size W) (.cells #[.slice Az z.length cz] 23);have hBd4:=hBd.later hal;have hE4:=R_kept hE (CellsKept.below hal);have bV4:=box_later bV hal;have hB4:=below_step hB hal;have hDs4:∀ D∈Ds,(W.alloc (.cells #[.slice Az z.length cz] 23)).heap[D]?=some (.deferred (some []))∧w.heap.size≤D:=fun D hD=>⟨blk_later (hDs D hD).1 hal,(hDs D hD).2⟩
                have hDlt:∀ D∈Ds,D<W.heap.size:=fun D hD=>(Array.getElem?_eq_some_iff.1 (hDs D hD).1).1
                have hsz4:(W.alloc (.cells #[.slice Az z.length cz] 23)).heap.size=W.heap.size+1:=by simp
                have hWn:=hB.size;have hnxt:=q2;clear hBd hE bV hDs;obtain⟨W4,hW4⟩:∃ W4,W.alloc (.cells #[.slice Az z.length cz] 23)=W4:=⟨_,rfl⟩;have q24:=pw_cell_below hal q2;rw [hW4] at bN hBd4 hE4 bV4 hB4 hDs4 hsz4 q24 ⊢
                clear hW4 hal;obtain⟨Bc,hBc⟩:∃ Bc,W.heap.size=Bc:=⟨_,rfl⟩;rw [hBc] at bN hsz4 hWn hDlt ⊢
                refine wpIn_rangeFunc_ownH rfl (by omega) (gf:=81) (lb:=#[.pointer (some ⟨Bc,0,none⟩)]) rfl trivial (enters_of Tryd.func81 (by kernel_rfl) rfl)
                  (edges_stops 8 (by omega) Bc w.heap.size Az cz z (by omega) hzl W4 (by omega) (by omega) bN.cell (Kd.C_below hz hB4)) (fun h k=>KpE.trans h k) (fun W l o o' hl _ _ _=>KpE.putObj W l o' (by omega) (by omega)) (Below.refl _ _) (fun _=>rfl)
                  (fun pre W'=>∃ v',Built w W' w.heap.size bb bs A0 c0 o H v'∧Kd.R k89 89 W' w.heap.size (fun _=>True) v' (allEdges ((o::H).take i)++pre.map fun (j:Fin z.length)=>edS z (j:Nat))∧Boxed W' (bb+1) 47 (.pointer (some ⟨bb,0,none⟩))∧Boxed W' Bc 23 (.slice Az z.length cz)∧(∀ D∈Ds,W'.heap[D]?=some (.deferred (some []))∧w.heap.size≤D)∧Below w.heap.size w W')
                  (fun _ _ _=>False)
                  (fun pre X Y row hs hg hr=>by
                    obtain⟨v',e1,e2,e3,e4,e5,e6⟩:=hs;have hk:=CellsKept.grown hg (fun r e=>(hr r e).2);refine⟨v',e1.kept hk,R_kept e2 hk,box_kept e3 hk,box_kept e4 hk,fun D hD=>⟨(hg.block D (Array.getElem?_eq_some_iff.1 (e5 D hD).1).1 (fun e=>?_)).trans (e5 D hD).1,(e5 D hD).2⟩,e6.grown hg e6.size (fun r e=>by have:=(hr r e).1;omega)⟩;have h1:=(hr D e.symm).1;have h2:=hDlt D hD
                    omega)
                  (fun _ _ _ _ _ hs _ _=>hs)
                  ⟨v,hBd4,by simpa using hE4,bV4,bN,hDs4,hB4⟩
                  (fun y a' W'=>∃ Bt,(W'.heap[Bt]?=some (segObj (edS z y))∧∃ v',W'.cell? ⟨bb,2,none⟩=some v'∧some Bt≠v'.ownBlock)∧a'={ tmps:=#[.agg #[.slice A0 o.length c0,.slice AH H.length cH],.pointer (some ⟨w.heap.size,0,none⟩),u2,u3,.pointer (some ⟨bb+1,0,none⟩),.pointer (some ⟨lb,0,none⟩),undef,u7,.pointer (some ⟨rb,0,none⟩),undef,.pointer (some ⟨Bt,0,none⟩),.pointer (some ⟨w.heap.size,1,none⟩),.slice AH H.length cH,.int .i64 (H.length:Int),.bool false,.bool false,.pointer (some ⟨w.heap.size,0,none⟩),.slice A0 o.length c0,.bool true,.bool false,.bool false,.pointer (some ⟨w.heap.size,0,none⟩),.slice A0 o.length c0,.agg #[.slice A0 o.length c0,.pointer none],.agg #[.slice A0 o.length c0,.pointer none,.slice none 0 0],.pointer (some ⟨bb,0,none⟩),.pointer (some ⟨bb,0,none⟩),.pointer (some ⟨bb,0,none⟩),.pointer (some ⟨bb,0,none⟩),.pointer (some ⟨w.heap.size,1,none⟩),.slice AH H.length cH,.int .i64 (H.length:Int),.int .i64 (H.length:Int),.bool false,u34,u35,u36,u37,u38,u39,u40,u41,u42,u43,u44,u45,u46,u47,u48,u49,.pointer (some ⟨bb,0,none⟩),.bool true,.bool false,.bool false,.pointer (some ⟨bb,0,none⟩),.bool true,.bool false,.bool false,.pointer (some ⟨bb,0,none⟩),.pointer (some ⟨bb,0,none⟩),.pointer (some ⟨bb,0,none⟩),.pointer (some ⟨rb,0,none⟩),.bool true,x63,x64,x65,x66,.pointer (some ⟨rb,0,none⟩),.pointer (some ⟨rb,0,none⟩),.pointer (some ⟨rb,0,none⟩),.slice Az z.length cz,.func (.func 81) #[] #[.pointer (some ⟨Bc,0,none⟩)],.int .i64 ((y:Nat):Int),.agg #[.int .i64 (edS z y).f0.f0,.int .i64 (edS z y).f0.f1,.int .i64 (edS z y).f1.f0,.int .i64 (edS z y).f1.f1],undef,undef,undef,undef,undef,undef,undef,undef,undef,undef,undef],defers:=[] })
                  (fun y a' _ X Y row hs hg hr=>by obtain⟨Bt,⟨e2,v',e4,e5⟩,e3⟩:=hs;exact⟨Bt,⟨segObj_own Bt (edS z y) () X Y row e2 hg (fun r e=>(hr r e).2),v',cell_kept e4 hg (fun r e=>(hr r e).2),e5⟩,e3⟩)
                  ?assign ?body ?done ?stop
                case assign =>
                  rintro l pre y W' K ⟨v',e1,e2,e3,e4,e5,e6⟩ hK;dsimp only [encE,edV];gi_wp2;have hk:=CellsKept.below (below_alloc (Below.refl W'.heap.size W') (segObj (edS z y)));exact hK _ _ ((KeepsOthers.alloc _ _).from _) (KpE.alloc _ _ _ _) ⟨v',e1.kept hk,R_kept e2 hk,box_kept e3 hk,box_kept e4 hk,fun D hD=>⟨blk_alloc' (e5 D hD).1 _,(e5 D hD).2⟩,below_alloc e6 _⟩ ⟨W'.heap.size,⟨World.alloc_heap_new W' _,v',(blk_cell (e1.kept hk).body 2).trans rfl,fun e=>by have:=R_hi e2 e.symm;omega⟩,rfl⟩
                case body =>
                  rintro l pre y a' W5 hl ⟨rr,hrr⟩ ⟨v',hBd5,hE5,bV5,bN5,hDs5,hB5⟩ ⟨Bt,⟨bT,v'',hv1,hv2⟩,rfl⟩ hlt5;have hBtn:some Bt≠v'.ownBlock:=by
                    have h1:W5.cell? ⟨bb,2,none⟩=some v':=(blk_cell hBd5.body 2).trans rfl;rw [h1] at hv1;cases hv1;exact hv2
                  clear hv1 hv2;have t0:W5.drew.cell? ⟨bb+1,0,none⟩=some (.pointer (some ⟨bb,0,none⟩)):=bV5.cell;have t1:W5.drew.cell? ⟨bb,2,none⟩=some v':=(blk_cell hBd5.body 2).trans rfl;have t2:W5.drew.cell? ⟨Bt,0,none⟩=some (.int .i64 (edS z y).f0.f0):=(blk_cell bT 0).trans rfl;have t3:W5.drew.cell? ⟨Bt,1,none⟩=some (.int .i64 (edS z y).f0.f1):=(blk_cell bT 1).trans rfl;have t4:W5.drew.cell? ⟨Bt,2,none⟩=some (.int .i64 (edS z y).f1.f0):=(blk_cell bT 2).trans rfl;have t5:W5.drew.cell? ⟨Bt,3,none⟩=some (.int .i64 (edS z y).f1.f1):=(blk_cell bT 3).trans rfl;have hal:=below_alloc (Below.refl W5.drew.heap.size W5.drew) (.cells #[.int .i64 (edS z y).f0.f0,.int .i64 (edS z y).f0.f1,.int .i64 (edS z y).f1.f0,.int .i64 (edS z y).f1.f1] 89);have hroom:((allEdges ((o::H).take i)++pre.map fun (j:Fin z.length)=>edS z (j:Nat)).length+1)*32≤140737488355328:=by
                    have h1:=allEdges_len (R:=(o::H).take i) (fun u hu=>hLen u (List.mem_of_mem_take hu));have h2:((o::H).take i).length≤3:=by
                      rw [List.length_take];simp only [List.length_cons];omega
                    rw [List.length_append,List.length_map];omega
                  have hu57:=Tryd.underlying56;have hu61:=Tryd.underlying89;gi_wp2;refine region_inRound (l:=l) (S:=fun w'=>w'.cell? ⟨bb+1,0,none⟩=some (.pointer (some ⟨bb,0,none⟩))∧w'.cell? ⟨bb,2,none⟩=some v'∧w'.cell? ⟨Bt,0,none⟩=some (.int .i64 (edS z y).f0.f0)∧w'.cell? ⟨Bt,1,none⟩=some (.int .i64 (edS z y).f0.f1)∧w'.cell? ⟨Bt,2,none⟩=some (.int .i64 (edS z y).f1.f0)∧w'.cell? ⟨Bt,3,none⟩=some (.int .i64 (edS z y).f1.f1)) (ds:=[10]) (bm 11 0) (by kernel_rfl) rfl rfl ?hd ?hno ⟨t0,t1,t2,t3,t4,t5⟩ (fun hHeld=>?_)
                  case hd =>
                    intro k ob hk c hc;have:=Array.mem_of_getElem? hk;simp only [List.mem_toArray,List.mem_cons,List.not_mem_nil,or_false] at this
                    rcases this with h | h | h | h | h | h | h | h | h | h | h <;> (rw [h] at hc;cases hc)
                  case hno=>exact fun⟨a,w,h⟩=>h.elim
                  refine tb6_ 0 74 (bm 11 1) hHeld ?_;refine tb6_ 1 75 (bm 11 3) hHeld ?_;refine pv_ 2 76 (bm 11 7) ?_;refine pv_ 3 77 (bm 11 15) ?_;refine tb6_ 4 78 (bm 11 31) hHeld ?_;refine tb6_ 5 79 (bm 11 63) hHeld ?_;refine one_ (i:=6) (N:=some 80) (bm 11 127) rfl rfl (by kernel_rfl) (by decide) (fun K hK=>?_);refine value_ (w1:=?_) (v:=?_) (by rfl) rfl ?_ ?_;rotate_left 2
                  · go_simp
                    constructor
                    · rfl
                    · rfl
                  refine hK.out _ _ ⟨pw_cell_below hal t0,pw_cell_below hal t1,pw_cell_below hal t2,pw_cell_below hal t3,pw_cell_below hal t4,pw_cell_below hal t5⟩ (fun hHeld=>?_);clear hK K;refine no_ (h:=?_);refine one_ (i:=7) (N:=some 81) (bm 11 255) rfl rfl (by kernel_rfl) (by decide) (fun K hK=>?_);refine Kd.R_append_step k89 (w0:=w) w.heap.size (by rfl) (.tmp 78) (.tmp 80) 56 89 (.agg #[(.int .i64 0),(.int .i64 0),(.int .i64 0),(.int .i64 0)]) 32 rfl Tryd.underlying56 info89 rfl (by decide) (by omega) v' (allEdges ((o::H).take i)++pre.map fun (j:Fin z.length)=>edS z (j:Nat)) (edS z y) [.int .i64 (edS z y).f0.f0,.int .i64 (edS z y).f0.f1,.int .i64 (edS z y).f1.f0,.int .i64 (edS z y).f1.f1] (fun _=>True) (fun _=>False) rfl rfl ?aP (fun _ hk=>hk.elim) (fun _ _=>trivial) (R_kept hE5 (CellsKept.below (below_drew1 (Below.refl _ W5)))) (below_drew1 hB5) (show w.heap.size≤W5.heap.size from hB5.size) ?aL ?_
                  (case aP=>exact k89_mkM _ _ _ (edS z y))
                  (case aL=>exact hroom)
                  intro v1 w6 ho hb6 hg6 hat6;have hne6:∀ (g:Nat) (t:TypeId) (cs:Array Value),W5.drew.heap[g]?=some (Obj.cells cs t (0,0))→t≠89→some g≠v'.ownBlock:=fun g t cs hgc ht=>R_ne hE5 (g:=g) (t:=t) (cs:=cs) hgc ht
                  have keep6:∀ (g:Nat) (t:TypeId) (cs:Array Value),W5.heap[g]?=some (Obj.cells cs t (0,0))→t≠89→w6.heap[g]?=some (Obj.cells cs t (0,0)):=fun g t cs hgc ht=>(hg6.block g (Array.getElem?_eq_some_iff.1 hgc).1 (hne6 g t cs hgc ht)).trans hgc
                  have hbd6:=keep6 _ _ _ hBd5.body (by decide);obtain⟨Aw,cw,ew⟩:=Kd.R_slice ho;generalize (allEdges ((o::H).take i)++(pre.map fun (j:Fin z.length)=>edS z (j:Nat))++[edS z y]).length=n6 at ew;subst ew;have u2:w6.cell? ⟨bb,2,none⟩=some v':=(blk_cell hbd6 2).trans rfl;have u3:=blk_frozen hbd6 2;have hbt6:=(hg6.block Bt (Array.getElem?_eq_some_iff.1 bT).1 hBtn).trans bT;have hbv6:=keep6 _ _ _ bV5 (by decide);refine hK.out _ _ ⟨(blk_cell hbv6 0).trans rfl,u2,(blk_cell hbt6 0).trans rfl,(blk_cell hbt6 1).trans rfl,(blk_cell hbt6 2).trans rfl,(blk_cell hbt6 3).trans rfl⟩ (fun hHeld=>?_);clear hK K;refine no_ (h:=?_);refine pv_ 8 82 (bm 11 511) ?_;refine pv_ 9 83 (bm 11 1023) ?_;refine last_ (i:=10) (N:=none) (bm 11 2047) rfl rfl (by kernel_rfl) (by decide) (fun K hK=>?_);refine skip_ (w1:=?_) (by rfl) rfl ?_ ?_;rotate_left
                  · go_simp
                    rfl
                  refine hK.out _ _ ?_;clear hK K;refine done_ (by kernel_rfl) ?_;have nonc:∀ (k:Nat) (ob:Obj),W5.heap[k]?=some ob→ob.isCells=false→(w6.setCell ⟨bb,2,none⟩ (.slice Aw n6 cw)).heap[k]?=some ob:=fun k ob h1 h2=>by
                    rw [Below.heap_setCell _ ⟨bb,2,none⟩ _ k (by rintro rfl;have e:=h1.symm.trans hBd5.body;cases e;cases h2)];exact (hg6.block k (Array.getElem?_eq_some_iff.1 h1).1 (R_nc hE5 h1 h2)).trans h1
                  have hBcb:Bc≠bb:=by
                    intro e;have h1:=bN5;rw [e] at h1;have h2:=congrArg (fun (u:Option Obj)=>match u with | some (Obj.cells _ t _)=>t | _=>0) ((show W5.heap[bb]?=_ from h1).symm.trans hBd5.body);exact absurd (show (23:Nat)=58 from h2) (by decide)
                  have hsz6:W5.heap.size≤(w6.setCell ⟨bb,2,none⟩ (.slice Aw n6 cw)).heap.size:=by simp only [World.setCell,Array.size_modify];exact hg6.size
                  refine⟨⟨hsz6,fun k ob _ h1 h2=>nonc k ob h1 h2⟩,⟨hsz6,fun k hk hl5=>?_⟩,_,(hBd5.kept (CellsKept.below (below_drew1 (Below.refl W5.heap.size W5)))).put hg6 hne6,?_,?_,?_,fun D hD=>⟨nonc D _ (hDs5 D hD).1 rfl,(hDs5 D hD).2⟩,hb6.setCell (p:=⟨bb,2,none⟩) hBd5.lo _⟩
                  · have hkb:k≠bb:=by
                      rcases hk with hk | rfl
                      · have:=hBd5.lo;omega
                      · exact hBcb
                    rw [Below.heap_setCell _ ⟨bb,2,none⟩ _ k hkb];refine hg6.block k hl5 ?_
                    rcases hk with hk | rfl
                    · intro e;have:=R_lo hE5 e.symm;omega
                    · exact hne6 k _ _ bN5 (by decide)
                  · have:=R_body ho hbd6 (.slice Aw n6 cw)
                    rw [List.map_append,← List.append_assoc];exact this
                  · exact (Below.heap_setCell _ ⟨bb,2,none⟩ _ (bb+1) (by simp)).trans hbv6
                  · exact (Below.heap_setCell _ ⟨bb,2,none⟩ _ Bc hBcb).trans (keep6 _ _ _ bN5 (by decide))
                case done =>
                  rintro D ys W6 hD rfl ⟨v',hBd6,hE6,bV6,bN6,hDs6,hB6⟩ hK6;obtain⟨_,_,_,r2,_⟩:=hBd6.rings hr0 i hlt;rw [hrb'.out] at r2;gi_wp2;obtain⟨k1,k2,k3,k4,k5⟩:=HT2.out;rw [hI.out,hμ.out];refine⟨⟨i+1,_,_,_,_,_,_,_,_,_,_,_,D::Ds,rfl,v',by simp only [List.length_cons] at hlt ⊢;omega,by simp [k3],?_,?_,hBd6,?_,bV6,hB6⟩,?_⟩
                  · rw [List.nodup_cons]
                    exact⟨fun hm=>by have:=hDlt D hm;omega,k4⟩
                  · intro E hE
                    rcases List.mem_cons.1 hE with rfl | hE
                    · exact⟨hK6,by omega⟩
                    · exact hDs6 E hE
                  · rw [k1]
                    unfold allEdges at hE6 ⊢
                    rw [List.flatMap_append]
                    simpa [edgesS] using hE6
                  · simp only [List.length_cons] at hlt
                    simp only [List.length_cons,List.length_map];omega
                case stop =>
                  rintro D c pre W6 _ _ h _;exact h.elim
              · have hiR:i=(o::H).length:=by omega
                have hlen2:(bb::bs).length=(o::H).length:=by simp [hBd.len]
                rw [ptrAt_none (by omega)];have hba:=hBd.bodyAt hB hr0 hc0;rw [hiR,List.take_length] at hE;have cV:=bV.cell;clear hlt hiR hi hDl hlen2;gi_wp2;have hD1:∀ D∈Ds,W.heap[D]?=some (.deferred (some [])):=fun D hD=>(hDs D hD).1
                refine leavesM_marks Ds W hDn hD1 (fun w' h1 h2 h3 h4 h5=>?_);have hk:=CellsKept.marks hD1 h1;have hBd':=hBd.kept hk;have hB':=marks_below hB (fun D hD=>(hDs D hD).2) h1 h2 h3 h4 h5;refine⟨.tuple #[.pointer (some ⟨bb,0,none⟩),.bool true],?_,fun _=>⟨bb,bs,v,rfl,hBd'.bodyAt hB' hr0 hc0,(blk_cell hBd'.body 2).trans rfl,R_kept hE hk,hB'⟩,fun h=>(by cases h)⟩;simp [results,Tryd.f24,go_sem]
end Go.Proofs.YtailkppkjhkjpaaDoor.X
end
section
set_option linter.unusedVariables false
set_option linter.unusedSimpArgs false
namespace Go.Proofs.YtailkppkjhkjpaaDoor.X
open Go.RowKit Go.Shelf Go.Proofs.YtailkppkjhkjpaaDoorW.PrintWords Go.Proofs.YtailkppkjhkjpaaDoorW.PrintLast Go.Proofs.YtailkppkjhkjpaaDoorW.PrintMore
open Mort (edges segMeet loopOk ptOk inOf segOk)
def impl_PlateOk.f (l0_0:List S37)(l0_1:List (List S37)):Option Bool:=some (bodyOkB l0_0 l0_1)
theorem bodyOkB_iff (o:List S37)(H:List (List S37)):bodyOkB o H=true ↔ H.length≤2∧loopOk (o.map ptP)=true∧(∀ z∈H,loopOk (z.map ptP)=true)∧apartAll (o::H)=true∧nestedAll o H=true:=by
 unfold bodyOkB;simp only [Bool.and_eq_true,decide_eq_true_eq,List.all_eq_true]
theorem loop_len {z:List S37}(h:loopOk (z.map ptP)=true):3≤z.length∧z.length≤8:=by
 obtain⟨h1,h2,_⟩:=(Mort.loopOk_iff _).1 h
 simpa using And.intro h1 h2
section
variable (A0_0:Option Addr) (c0_0:Nat) (l0_0:List S37) (A0_1:Option Addr) (c0_1:Nat) (l0_1:List (List S37))
set_option maxHeartbeats 4000000 in
set_option maxRecDepth 100000 in
theorem impl_PlateOk.calls (r:Bool)(w:World)(hr0_0:Kd.C k37 w A0_0 l0_0.length l0_0)(hc0_0:l0_0.length≤c0_0)(hr0_1:Kd.C (Kd.slice 37 k37) w A0_1 l0_1.length l0_1)(hc0_1:l0_1.length≤c0_1)(h:impl_PlateOk.f l0_0 l0_1=some r):
  Calls Tryd.prog 34 #[.agg #[.slice A0_0 l0_0.length c0_0,.slice A0_1 l0_1.length c0_1]] w fun e w'=>e=.returned (.bool r)∧Below w.heap.size w w':=by
 have hu26:=Tryd.underlying26;have hb:bodyOkB l0_0 l0_1=r:=Option.some.inj h;clear h;have hal:=below_alloc (Below.refl w.heap.size w) (.cells #[.slice A0_0 l0_0.length c0_0,.slice A0_1 l0_1.length c0_1] 26);have HK:=a0_ (And.intro (Kd.C_below hr0_0 hal) (And.intro hc0_0 (And.intro (Kd.C_below hr0_1 hal) (And.intro hc0_1 (And.intro hb hal)))));clear hr0_0 hc0_0 hr0_1 hc0_1 hal
 cases r with
 | false =>
  clear hb;go_enter Tryd.func34,Tryd.ntmps34;go_wp2_with (go_at_call 24;refine (bodyOf_calls A0_0 c0_0 l0_0 A0_1 c0_1 l0_1 false _ HK.out.1 HK.out.2.1 HK.out.2.2.1 HK.out.2.2.2.1 HK.out.2.2.2.2.1).mono ?_;rintro e w1 ⟨_,hN⟩;obtain⟨rfl,hb1⟩:=hN rfl);go_ret;exact⟨rfl,below_step HK.out.2.2.2.2.2 hb1⟩
 | true =>
  clear hb;go_enter Tryd.func34,Tryd.ntmps34;go_wp2_with (go_at_call 24;refine (bodyOf_calls A0_0 c0_0 l0_0 A0_1 c0_1 l0_1 true _ HK.out.1 HK.out.2.1 HK.out.2.2.1 HK.out.2.2.2.1 HK.out.2.2.2.2.1).mono ?_;rintro e w1 ⟨hN,_⟩;obtain⟨b,bs,v,rfl,hBA,hcell,hR,hb1⟩:=hN rfl);go_ret;exact⟨rfl,below_step HK.out.2.2.2.2.2 hb1⟩
end
end Go.Proofs.YtailkppkjhkjpaaDoor.X
end
section
set_option linter.unusedVariables false
set_option linter.unusedSimpArgs false
namespace Txt
open Go.Lib
def cutAt (c:UInt8):List UInt8→List (List UInt8)
 | []=>[[]]
 | b::l=>if b=c then []::cutAt c l else match cutAt c l with
  | x::xs=>(b::x)::xs
  | []=>[[b]]
theorem cutAt_ne (c:UInt8):∀ s,∃ x xs,cutAt c s=x::xs
 | []=>⟨[],[],rfl⟩
 | b::l=>by
  unfold cutAt;by_cases h:b=c
  ·
   rw [if_pos h];exact⟨_,_,rfl⟩
  ·
   rw [if_neg h];obtain⟨x,xs,e⟩:=cutAt_ne c l;rw [e];exact⟨_,_,rfl⟩
theorem cutAt_eq (c:UInt8)(l:List UInt8):cutAt c (c::l)=[]::cutAt c l:=by rw [cutAt,if_pos rfl]
theorem cutAt_cons {c b:UInt8}(h:b≠c){l x:List UInt8}{xs:List (List UInt8)}(e:cutAt c l=x::xs):cutAt c (b::l)=(b::x)::xs:=by rw [cutAt,if_neg h,e]
theorem split_cut (c:UInt8):∀ s,split s [c]=cutAt c s
 | []=>by unfold split;rw [count_one];rfl
 | b::l=>by
  have ih:=split_cut c l;unfold split at ih ⊢
  by_cases h:b=c
  ·
   subst h;rw [count_cons_eq,Nat.add_comm,cutAt_eq,← ih];have hix:index (b::l) [b]=((0:Nat):Int):=by rw [index];simp [List.isPrefixOf]
   rw [splitK,hix];rfl
  ·
   rw [count_cons_ne b c l h];have hp:([c]:List UInt8).isPrefixOf (b::l)=false:=by simp [List.isPrefixOf,Ne.symm h]
   have hix:index (b::l) [c]=if index l [c] == -1 then -1 else index l [c]+1:=by rw [index,hp];simp
   by_cases hm:index l [c] = -1
   ·
    rw [count_miss hm] at ih ⊢
    rw [splitK] at ih ⊢
    rw [cutAt_cons h ih.symm]
   ·
    have hge:=index_ge l [c];obtain⟨j,hj⟩:∃ j:Nat,index l [c]=j:=⟨(index l [c]).toNat,by omega⟩;have hix':index (b::l) [c]=((j+1:Nat):Int):=by rw [hix,if_neg (fun e=>hm (beq_iff_eq.1 e)),hj];omega
    rw [count_hit (by simp) hj] at ih ⊢
    rw [Nat.add_comm,splitK,hj] at ih;rw [Nat.add_comm,splitK,hix'];have n1:((j:Int) == -1)=false:=by rw [beq_eq_false_iff_ne];omega
    have n2:(((j+1:Nat):Int) == -1)=false:=by rw [beq_eq_false_iff_ne];omega
    rw [n1] at ih;rw [n2];simp only [Bool.false_eq_true,if_false,Int.toNat_natCast,Nat.add_zero,List.length_cons,List.length_nil,Nat.zero_add,List.take_succ_cons,List.drop_succ_cons] at ih ⊢
    rw [cutAt_cons h ih.symm]
theorem join_cut (c:UInt8):∀ s,join (cutAt c s) [c]=s
 | []=>by simp [cutAt,join,List.intercalate]
 | b::l=>by
  have ih:=join_cut c l;obtain⟨x,xs,e⟩:=cutAt_ne c l;rw [e,join_cons] at ih;by_cases h:b=c
  ·
   subst h;rw [cutAt_eq,e,join_cons];simp only [joinTail,List.map_cons,List.flatten_cons,List.nil_append,List.singleton_append,List.cons_append] at ih ⊢
   rw [ih]
  ·
   rw [cutAt_cons h e,join_cons,List.cons_append,ih]
theorem cut_len (c:UInt8):∀ s,(cutAt c s).length≤s.length+1
 | []=>by simp [cutAt]
 | b::l=>by
  have ih:=cut_len c l;obtain⟨x,xs,e⟩:=cutAt_ne c l;by_cases h:b=c
  ·
   subst h;rw [cutAt_eq];simp only [List.length_cons];omega
  ·
   rw [cutAt_cons h e];rw [e] at ih;simp only [List.length_cons] at ih ⊢;omega
theorem cut_piece (c:UInt8):∀ s,∀ w∈cutAt c s,w.length≤s.length
 | [],w,hw=>by simp [cutAt] at hw;subst hw;simp
 | b::l,w,hw=>by
  obtain⟨x,xs,e⟩:=cutAt_ne c l;have ih:=cut_piece c l;by_cases h:b=c
  ·
   subst h;rw [cutAt_eq] at hw
   rcases List.mem_cons.1 hw with rfl | hw
   ·
    simp
   ·
    have:=ih w hw;simp only [List.length_cons];omega
  ·
   rw [cutAt_cons h e] at hw;rw [e] at ih
   rcases List.mem_cons.1 hw with rfl | hw
   ·
    have:=ih x (by simp);simp only [List.length_cons];omega
   ·
    have:=ih w (by simp [hw]);simp only [List.length_cons];omega
def fig (n:Int):UInt8:=UInt8.ofNat (48+n.toNat)
def wrPt (p:Int × Int):List UInt8:=[fig p.1,44,fig p.2]
def isFig (b:UInt8):Bool:=decide (48≤b.toNat) && decide (b.toNat≤57)
def rdPt:List UInt8→Option (Int × Int)
 | [a,k,b]=>if k=44 && (isFig a && isFig b) then some (((a.toNat:Int)-48),((b.toNat:Int)-48)) else none
 | _=>none
theorem rdPt3 (a k b:UInt8):rdPt [a,k,b]=if k=44 && (isFig a && isFig b) then some (((a.toNat:Int)-48),((b.toNat:Int)-48)) else none:=rfl
def small (p:Int × Int):Prop:=0≤p.1∧p.1≤9∧0≤p.2∧p.2≤9
theorem fig_nat {n:Int}(h0:0≤n)(h1:n≤9):(fig n).toNat=48+n.toNat:=by
 unfold fig;rw [UInt8.toNat_ofNat'];omega
theorem fig_of {b:UInt8}(h:isFig b=true):fig ((b.toNat:Int)-48)=b:=by
 unfold isFig at h;rw [Bool.and_eq_true,decide_eq_true_eq,decide_eq_true_eq] at h;apply UInt8.toNat.inj;rw [fig_nat (by omega) (by omega)];omega
theorem wr_rd {w:List UInt8}{p:Int × Int}(h:rdPt w=some p):w=wrPt p∧small p:=by
 match w,h with
 | [a,k,b],h =>
  rw [rdPt3] at h;by_cases hc:(k=44 && (isFig a && isFig b))=true
  ·
   rw [if_pos hc] at h;simp only [Bool.and_eq_true,decide_eq_true_eq] at hc;obtain⟨hk,ha,hb⟩:=hc;cases h;refine⟨?_,?_⟩
   ·
    unfold wrPt;simp only;rw [fig_of ha,fig_of hb,hk]
   ·
    unfold isFig at ha hb;rw [Bool.and_eq_true,decide_eq_true_eq,decide_eq_true_eq] at ha hb;refine⟨?_,?_,?_,?_⟩ <;> simp only <;> omega
  ·
   rw [if_neg hc] at h;cases h
 | [],h=>cases h
 | [_],h=>cases h
 | [_,_],h=>cases h
 | _::_::_::_::_,h=>cases h
def allOf {α β:Type}(f:α→Option β):List α→Option (List β)
 | []=>some []
 | x::xs=>(f x).bind fun y=>(allOf f xs).bind fun ys=>some (y::ys)
theorem allOf_cons {α β:Type}{f:α→Option β}{x:α}{xs:List α}{l:List β}(h:allOf f (x::xs)=some l):∃ y ys,f x=some y∧allOf f xs=some ys∧l=y::ys:=by
 unfold allOf at h
 cases hx:f x with
 | none=>rw [hx] at h;cases h
 | some y =>
  rw [hx,Option.bind_some] at h
  cases hs:allOf f xs with
  | none=>rw [hs] at h;cases h
  | some ys=>rw [hs,Option.bind_some] at h;cases h;exact⟨y,ys,rfl,rfl,rfl⟩
theorem map_allOf {α β:Type}{f:α→Option β}{g:β→α}{P:β→Prop}(hf:∀ x y,f x=some y→x=g y∧P y):∀ {xs:List α} {l:List β},allOf f xs=some l→l.map g=xs∧∀ y∈l,P y
 | [],l,h=>by cases h;exact⟨rfl,by simp⟩
 | x::xs,l,h=>by
  obtain⟨y,ys,h1,h2,rfl⟩:=allOf_cons h;obtain⟨e1,e2⟩:=map_allOf hf h2;obtain⟨e3,e4⟩:=hf x y h1;refine⟨by rw [List.map_cons,e1,← e3],fun z hz=>?_⟩
  rcases List.mem_cons.1 hz with rfl | hz
  ·
   exact e4
  ·
   exact e2 z hz
abbrev Loop:=List (Int × Int)
def wrLoop (l:Loop):List UInt8:=join (l.map wrPt) [32]
theorem loop_len:∀ (p:Int × Int) (ps:Loop),(wrLoop (p::ps)).length=4*ps.length+3
 | p,[]=>rfl
 | p,q::qs=>by
  have ih:=loop_len q qs;unfold wrLoop at ih ⊢
  rw [List.map_cons,join_cons] at ih ⊢
  have e:joinTail [32] ((q::qs).map wrPt)=32::(wrPt q++joinTail [32] (qs.map wrPt)):=by simp [joinTail]
  rw [e];simp only [List.length_append,List.length_cons] at ih ⊢
  have:(wrPt p).length=3:=rfl;omega
end Txt
end
section
namespace Go.Proofs
open Go.Shelf
def Tryd.lays146_ren:Go.Shelf.Ren:=⟨fun | 146=>31 | 221=>65 | 268=>86 | 138=>87 | 143=>88 | 195=>97 | 197=>98 | 218=>99 | 219=>100 | 260=>103 | 217=>104 | 225=>105 | 224=>106 | 267=>107 | 266=>112 | 314=>113 | n=>n,fun | 9=>9 | 31=>66 | 3=>3 | 4=>4 | 0=>0 | 105=>116 | 21=>21 | 5=>5 | 46=>121 | 119=>128 | 139=>131 | 138=>130 | 146=>133 | 51=>132 | n=>n,fun | 1=>0 | 3=>1 | 4=>2 | n=>n⟩
theorem Tryd.lays146:Go.Proofs.Lays.n146 Tryd.prog Tryd.lays146_ren:={
 mixed:=by kernel_rfl
 f138:=Tryd.func87.trans (congrArg some (by kernel_rfl))
 f143:=Tryd.func88.trans (congrArg some (by kernel_rfl))
 f146:=Tryd.func31.trans (congrArg some (by kernel_rfl))
 f195:=Tryd.func97.trans (congrArg some (by kernel_rfl))
 f197:=Tryd.func98.trans (congrArg some (by kernel_rfl))
 f217:=Tryd.func104.trans (congrArg some (by kernel_rfl))
 f218:=Tryd.func99.trans (congrArg some (by kernel_rfl))
 f219:=Tryd.func100.trans (congrArg some (by kernel_rfl))
 f221:=Tryd.func65.trans (congrArg some (by kernel_rfl))
 f224:=Tryd.func106.trans (congrArg some (by kernel_rfl))
 f225:=Tryd.func105.trans (congrArg some (by kernel_rfl))
 f260:=Tryd.func103.trans (congrArg some (by kernel_rfl))
 f266:=Tryd.func112.trans (congrArg some (by kernel_rfl))
 f267:=Tryd.func107.trans (congrArg some (by kernel_rfl))
 f268:=Tryd.func86.trans (congrArg some (by kernel_rfl))
 f314:=Tryd.func113.trans (congrArg some (by kernel_rfl))
 t0:=Tryd.underlying0
 a0:=Tryd.isAgg0
 z0:=Tryd.sizeOf0
 v0:=Tryd.zeroValue0
 t3:=Tryd.underlying3
 a3:=Tryd.isAgg3
 z3:=Tryd.sizeOf3
 v3:=Tryd.zeroValue3
 t4:=Tryd.underlying4
 a4:=Tryd.isAgg4
 z4:=Tryd.sizeOf4
 v4:=Tryd.zeroValue4
 t5:=Tryd.underlying5
 a5:=Tryd.isAgg5
 z5:=Tryd.sizeOf5
 v5:=Tryd.zeroValue5
 t9:=Tryd.underlying9
 a9:=Tryd.isAgg9
 z9:=Tryd.sizeOf9
 v9:=Tryd.zeroValue9
 t21:=Tryd.underlying21
 a21:=Tryd.isAgg21
 z21:=Tryd.sizeOf21
 v21:=Tryd.zeroValue21
 t31:=Tryd.underlying66
 a31:=Tryd.isAgg66
 z31:=Tryd.sizeOf66
 v31:=Tryd.zeroValue66
 t46:=Tryd.underlying121
 a46:=Tryd.isAgg121
 z46:=Tryd.sizeOf121
 v46:=Tryd.zeroValue121
 t51:=Tryd.underlying132
 a51:=Tryd.isAgg132
 z51:=Tryd.sizeOf132
 v51:=Tryd.zeroValue132
 t105:=Tryd.underlying116
 a105:=Tryd.isAgg116
 z105:=Tryd.sizeOf116
 v105:=Tryd.zeroValue116
 t119:=Tryd.underlying128
 a119:=Tryd.isAgg128
 z119:=Tryd.sizeOf128
 t138:=Tryd.underlying130
 a138:=Tryd.isAgg130
 z138:=Tryd.sizeOf130
 v138:=Tryd.zeroValue130
 t139:=Tryd.underlying131
 a139:=Tryd.isAgg131
 z139:=Tryd.sizeOf131
 v139:=Tryd.zeroValue131
 t146:=Tryd.underlying133
 a146:=Tryd.isAgg133
 z146:=Tryd.sizeOf133
 v146:=Tryd.zeroValue133
 g1:=by kernel_rfl
 g3:=by kernel_rfl
 g4:=by kernel_rfl }
end Go.Proofs
end
section
set_option linter.unusedVariables false
set_option linter.unusedSimpArgs false
namespace Go.Proofs.YtailkppkjhkjpaaDoor.X
open Go.RowKit Go.Shelf Go.Proofs.YtailkppkjhkjpaaDoorW.PrintWords Go.Proofs.YtailkppkjhkjpaaDoorW.PrintLast Go.Proofs.YtailkppkjhkjpaaDoorW.PrintMore
open Txt (cutAt)
set_option maxHeartbeats 1000000 in
theorem split_any {P:Program}{ρ:Ren}(L:Lays.n146 P ρ)(hi9:(P.info? (ρ.t 9)).map (fun i=>(i.zero,i.size,i.bytes))=some (some (.string ByteArray.empty),1,16))(s:ByteArray)(c:UInt8)(w:World)(hs:s.size<4294967281):
  Calls P (ρ.f 146) #[.string s,.string ⟨#[c]⟩] w fun e w'=>e=.returned (.slice (some ⟨w.heap.size,0,none⟩) (Lib.countB s ⟨#[c]⟩+1) (Lib.countB s ⟨#[c]⟩+1))∧w'=w.alloc (.cells ((Lib.splitB ⟨#[c]⟩ 0 (Lib.countB s ⟨#[c]⟩) s).map Value.string).toArray (ρ.t 9)):=by
 have h1:1≤(⟨#[c]⟩:ByteArray).size:=Nat.le_refl 1;have hlen:=Lib.splitB_all ⟨#[c]⟩ h1 0 _ s rfl;have hle:=Lib.countB_le ⟨#[c]⟩ h1 s.size s (Nat.le_refl _);have hC:Calls P (ρ.f 138) #[.string s,.string ⟨#[c]⟩] w fun e w'=>e=.returned (.int .i64 (Lib.countB s ⟨#[c]⟩))∧w'=w:=by
  refine (Any.strings_Count_one { L with } s c w).mono fun e w' ⟨he,hw⟩=>⟨he.trans ?_,hw⟩
  show _=Ending.returned (Value.int .i64 ((Lib.count s.data.toList [c]:Nat):Int))
  rw [Lib.count_one];rfl
 have K:=Any.strings_genSplit_core { L with } hi9 s ⟨#[c]⟩ 0 (-1) (Lib.countB s ⟨#[c]⟩+1) w hs h1 (Nat.zero_le _)
  (fun x cs _=>(Any.strings_Index_one { L with } x c _).mono fun e w' ⟨he,hw⟩=>⟨he.trans (congrArg (fun z=>Ending.returned (Value.int .i64 z)) (Lib.index_one x.data.toList c).symm),hw⟩) hC (by decide) (by decide) (by rw [if_pos (by decide)];omega)
 rw [Nat.add_sub_cancel,hlen] at K;have e2:Lib.cellsOf (Lib.splitB ⟨#[c]⟩ 0 (Lib.countB s ⟨#[c]⟩) s) (Lib.countB s ⟨#[c]⟩+1)=((Lib.splitB ⟨#[c]⟩ 0 (Lib.countB s ⟨#[c]⟩) s).map Value.string).toArray:=by rw [← hlen];exact Lib.cellsOf_full _
 rw [e2] at K;have t3:=L.t3;have t9:=L.t9;have t31:=L.t31;have a3:=L.a3;have a9:=L.a9;have a31:=L.a31;have z3:=L.z3;have v3:=L.v3;have z9:=L.z9;have v9:=L.v9;have z31:=L.z31;have v31:=L.v31;have e221:∀ args w,(callFunc (ρ.f 221) args).run P w=.ok (.enter (ρ.f 221) args) w:=enters_of L.f221 (by kernel_rfl) rfl;go_enter L.f146,Body.n146_ntmps ρ;go_wp2_with (go_at_fn (ρ.f 221);refine K.mono ?_;rintro e w' ⟨rfl,hw⟩;rw [hw]);go_ret;exact⟨rfl,rfl⟩
def cutB (c:UInt8)(s:ByteArray):List ByteArray:=(cutAt c s.data.toList).map fun l=>⟨l.toArray⟩
theorem splitB_cut (c:UInt8)(s:ByteArray):Lib.splitB ⟨#[c]⟩ 0 (Lib.countB s ⟨#[c]⟩) s=cutB c s:=by
 have h:=Lib.splitB_data ⟨#[c]⟩ 0 (Lib.countB s ⟨#[c]⟩) s;have h2:Lib.splitK [c] 0 (Lib.count s.data.toList [c]) s.data.toList=cutAt c s.data.toList:=Txt.split_cut c s.data.toList;have h3:(Lib.splitB ⟨#[c]⟩ 0 (Lib.countB s ⟨#[c]⟩) s).map (·.data.toList)=cutAt c s.data.toList:=h.trans h2;unfold cutB;rw [← h3,List.map_map];exact (List.map_id _).symm.trans (List.map_congr_left fun x _=>rfl)
def strings_Split.f (s sep:ByteArray):Option (List ByteArray):=if s.size<4294967281 then (match sep.data.toList with | [c]=>some (cutB c s) | _=>none) else none
theorem strings_Split.calls (s sep:ByteArray)(r:List ByteArray)(w:World)(h:strings_Split.f s sep=some r):
  Calls Tryd.prog 31 #[.string s,.string sep] w fun e w'=>∃ v0_:Value,e=.returned v0_∧Kd.R Kd.string 9 w' w.heap.size (fun _=>True) v0_ r∧Below w.heap.size w w':=by
 unfold strings_Split.f at h
 split at h
 ·
  rename_i hs
  split at h
  ·
   rename_i c hc
   obtain rfl:=Option.some.inj h;have e:sep=⟨#[c]⟩:=by
    obtain⟨⟨l⟩⟩:=sep;simp only at hc;rw [hc]
   subst e;refine (split_any Tryd.lays146 (by kernel_rfl) s c w hs).mono ?_;rintro e w' ⟨rfl,rfl⟩;rw [splitB_cut];have hl:Lib.countB s ⟨#[c]⟩+1=(cutB c s).length:=by rw [← splitB_cut];exact (Lib.splitB_all ⟨#[c]⟩ (Nat.le_refl 1) 0 _ s rfl).symm
   rw [hl];refine⟨_,rfl,Kd.R_of_own ?_ (fun _ _=>trivial),below_alloc (Below.refl _ _) _⟩
   have:=World.ownsRow_lit (base:=w.heap.size) (e:=9) (size:=1) w ((cutB c s).map Value.string).toArray (cutB c s).length (Nat.le_refl _) (by
    have:=Txt.cut_len c s.data.toList;have e2:s.data.toList.length=s.size:=by rw [Array.length_toList];rfl
    unfold cutB maxLen;rw [List.length_map]
    omega) (by simp)
   show (w.alloc (.cells ((cutB c s).map Value.string).toArray 9)).ownsRow _ _ _ _ _ _
   simpa [encs] using this
  ·
   cases h
 ·
  cases h
end Go.Proofs.YtailkppkjhkjpaaDoor.X
end
section
namespace Go.Proofs.YtailkppkjhkjpaaDoor.X
open Go.RowKit Go.Proofs.YtailkppkjhkjpaaDoorW.PrintWords Go.Proofs.YtailkppkjhkjpaaDoorW.PrintLast Go.Proofs.YtailkppkjhkjpaaDoorW.PrintMore
attribute [local go_sem] max2_int min2_int max_two min_two max_three min_three max_four min_four
set_option linter.unusedVariables false
set_option linter.unusedSimpArgs false
def impl_figureOf.f (a0:Int):Option (Int × Bool):=if a0<48 then (some (0,false)) else (if a0>57 then (some (0,false)) else (some ((a0-48) % 256,true)))
set_option maxHeartbeats 8000000 in
set_option maxRecDepth 100000 in
theorem impl_figureOf.calls (a0:Int)(r1:Int)(r2:Bool)(w:World)(h:impl_figureOf.f a0=some (r1,r2)):
  Calls Tryd.prog 89 #[.int .u8 a0] w fun e w'=>e=.returned (.tuple #[.int .i64 r1,.bool r2])∧Drawn0 w w':=by
 have H:(if a0<48 then (some (0,false)) else (if a0>57 then (some (0,false)) else (some ((a0-48) % 256,true))))=some (r1,r2):=h;clear h;by_cases c2:a0<48
 ·
  rw [if_pos c2] at H;have c2b0:decide (a0<48)=true:=decide_eq_true c2;clear c2;simp only [Option.some.injEq,Prod.mk.injEq] at H;obtain⟨rfl,rfl⟩:=H;go_enter Tryd.func89,Tryd.ntmps89;go_wp2;go_ret2;exact⟨by first | rfl | (simp;done) | (simp [*];done),by repeat (first | exact Drawn0.refl _ | apply Drawn0.step)⟩
 ·
  rw [if_neg c2] at H;have c2b0:decide (a0<48)=false:=decide_eq_false c2;clear c2;by_cases c3:a0>57
  ·
   rw [if_pos c3] at H;have c3b0:decide (57<a0)=true:=decide_eq_true c3;clear c3;simp only [Option.some.injEq,Prod.mk.injEq] at H;obtain⟨rfl,rfl⟩:=H;go_enter Tryd.func89,Tryd.ntmps89;go_wp2;go_ret2;exact⟨by first | rfl | (simp;done) | (simp [*];done),by repeat (first | exact Drawn0.refl _ | apply Drawn0.step)⟩
  ·
   rw [if_neg c3] at H;have c3b0:decide (57<a0)=false:=decide_eq_false c3;clear c3;simp only [Option.some.injEq,Prod.mk.injEq] at H;obtain⟨rfl,rfl⟩:=H;go_enter Tryd.func89,Tryd.ntmps89;go_wp2;go_ret2;exact⟨by first | rfl | (simp;done) | (simp [*];done),by repeat (first | exact Drawn0.refl _ | apply Drawn0.step)⟩
def impl_pointOf.j0:Nat→ByteArray→Bool→Option (Int × Int × Bool)
 | 0,_,_=>none
 | k+1,x0,x15=>if x15=true then (some (0,0,false)) else (if 0<(x0.size:Int) then ((impl_figureOf.f (bt x0 0)).bind fun bt434=>(if 2<(x0.size:Int) then ((impl_figureOf.f (bt x0 2)).bind fun bt436=>(if bt434.2=true then (if bt436.2=true then (some (bt434.1,bt436.1,true)) else (some (0,0,false))) else (some (0,0,false)))) else (none))) else (none))
def impl_pointOf.f (k:Nat)(a0:ByteArray):Option (Int × Int × Bool):=if (a0.size:Int)=3 then (if 1<(a0.size:Int) then (impl_pointOf.j0 k a0 ((bt a0 1) != 44)) else (none)) else (impl_pointOf.j0 k a0 true)
set_option maxHeartbeats 8000000 in
set_option maxRecDepth 100000 in
theorem impl_pointOf.calls (k:Nat)(a0:ByteArray)(r1:Int)(r2:Int)(r3:Bool)(w:World)(h:impl_pointOf.f k a0=some (r1,r2,r3)):
  Calls Tryd.prog 67 #[.string a0] w fun e w'=>e=.returned (.tuple #[.agg #[.int .i64 r1,.int .i64 r2],.bool r3])∧Below w.heap.size w w':=by
 have hu37:=Tryd.underlying37;have HB:=a0_ (Below.refl w.heap.size w);have H:(if (a0.size:Int)=3 then (if 1<(a0.size:Int) then (impl_pointOf.j0 k a0 ((bt a0 1) != 44)) else (none)) else (impl_pointOf.j0 k a0 true))=some (r1,r2,r3):=h;clear h;have HC2:=Aside0.mk H;clear H;go_enter Tryd.func67,Tryd.ntmps67;go_upto_region 1 with (first | ((with_reducible refine gate_dst (N:=2) rfl ?_);refine bx_ (N:=2) (cs:=#[.int .i64 0,.int .i64 0]) (t:=37) (h:=?_);intro gb433 hg w3 hbox hb;have BK433:=a0_ (hbox);have GW433:=gh_ HB hg;have GE433:=gh_ HB hg;replace HB:=sb_ HB hb;clear hb hbox hg))
 (try simp only [Act.put,List.setIfInBounds_toArray,List.set_cons_zero,List.set_cons_succ])
 go_cut [15] (fun v15 wc=>∃ (kq:Nat) (x15_1:Bool),v15=.bool x15_1∧Aside0 (impl_pointOf.j0 kq a0 x15_1=some (r1,r2,r3))∧Aside0 (kq≤k)∧Aside0 (wc.heap[gb433]?=some (.cells #[.int .i64 0,.int .i64 0] 37 (0,0)))∧Aside0 (Below w.heap.size w wc))
 case first =>
  have H:=HC2.out;clear HC2;by_cases c4:(a0.size:Int)=3
  ·
   rw [if_pos c4] at H;have c4b0:((a0.size:Int)==3)=true:=beq_iff_eq.mpr c4;have c4b1:((a0.size:Int) != 3)=false:=bne_eq_false_iff_eq.mpr c4;clear c4
   (first | rw [c4b0] | (simp only [i64_w,i32_w];rw [c4b0]) | skip)
   by_cases c5:1<(a0.size:Int)
   ·
    rw [if_pos c5] at H;have c5b0:decide (1<(a0.size:Int))=true:=decide_eq_true c5;have c5b1:decide (1<a0.size)=true:=decide_eq_true (by omega);clear c5;have H':=Aside0.mk H;clear H;have p6:0≤(1:Int):=(by omega);have q6:1<a0.size:=(by have:(1:Int)<(a0.size:Int):=od_;omega);have hx6:∀ h:1<a0.size,((a0[1]'h).toNat:Int)=bt a0 1:=bt_at a0 1;clear p6;have qi6:(1<(a0.size:Int))=True:=eq_true (od_);replace q6:=eq_true q6;go_wp2;go_meet
    case rel=>exact⟨_,(((bt a0 1) != 44)),(by first | rfl | (simp;done) | (simp [*];done)),H',⟨by first | omega | exact Nat.le_refl _⟩,⟨uq_⟩,⟨hB_⟩⟩
   ·
    rw [if_neg c5] at H;exact absurd H (by simp)
  ·
   rw [if_neg c4] at H;have c4b0:((a0.size:Int)==3)=false:=beq_eq_false_iff_ne.mpr c4;have c4b1:((a0.size:Int) != 3)=true:=bne_iff_ne.mpr c4
   (first | rw [c4b0] | (simp only [i64_w,i32_w];rw [c4b0]) | skip)
   have H':=Aside0.mk H;clear H;go_wp2;go_meet
   case rel=>exact⟨_,(true),(by first | rfl | (simp;done) | (simp [*];done)),H',⟨by first | omega | exact Nat.le_refl _⟩,⟨uq_⟩,⟨hB_⟩⟩
 case rest =>
  clear HC2;obtain⟨kq,x15_1,rfl,HA,HJ1,BK433,HB⟩:=hcut
  cases kq with
  | zero=>exact absurd HA.out (by simp [impl_pointOf.j0])
  | succ kj1 =>
   have H:=HA.out;clear HA;simp only [impl_pointOf.j0] at H;by_cases c7:x15_1=true
   ·
    subst c7;rw [if_pos rfl] at H
    (try dsimp only at H)
    simp only [Option.some.injEq,Prod.mk.injEq] at H;obtain⟨rfl,rfl,rfl⟩:=H;have hcz8_0:=c20_ BK433;have hcz8_1:=c21_ BK433;have hfz8_0:=fz_ BK433 0;have hfz8_1:=fz_ BK433 1;go_wp2;refine bodyPost_ret (results_ct rfl _ _ gb433 37 #[.int .i64 0,.int .i64 0] (0,0) _ rfl (by (with_reducible repeat (first | refine blk_drewN ?_ _ | refine blk_drew ?_ | refine blk_alloc ?_ _));refine blk_put (cs:=#[.int .i64 0,.int .i64 0]) ?_ 1 _ rfl;(with_reducible repeat (first | refine blk_drewN ?_ _ | refine blk_drew ?_ | refine blk_alloc ?_ _));refine blk_put (cs:=#[.int .i64 0,.int .i64 0]) ?_ 0 _ rfl;(with_reducible repeat (first | refine blk_drewN ?_ _ | refine blk_drew ?_ | refine blk_alloc ?_ _));exact BK433.out) Tryd.underlying37 rfl (by kernel_rfl)) rfl ?_;exact⟨rr_,hB_⟩
   ·
    replace c7:=Bool.eq_false_iff.mpr c7;subst c7;rw [if_neg (show ¬ (false=true) by decide)] at H
    (try dsimp only at H)
    by_cases c9:0<(a0.size:Int)
    ·
     rw [if_pos c9] at H;have c9b0:decide (0<(a0.size:Int))=true:=decide_eq_true c9;have c9b1:decide (0<a0.size)=true:=decide_eq_true (by omega);clear c9;replace H:=Option.bind_eq_some_iff.mp H;obtain⟨⟨t434,t435⟩,A110,H⟩:=H
     (try dsimp only at H)
     have A11:=Aside0.mk A110;clear A110;by_cases c12:2<(a0.size:Int)
     ·
      rw [if_pos c12] at H;have c12b0:decide (2<(a0.size:Int))=true:=decide_eq_true c12;have c12b1:decide (2<a0.size)=true:=decide_eq_true (by omega);clear c12;replace H:=Option.bind_eq_some_iff.mp H;obtain⟨⟨t436,t437⟩,A140,H⟩:=H
      (try dsimp only at H)
      have A14:=Aside0.mk A140;clear A140;by_cases c15:t435=true
      ·
       subst c15;rw [if_pos rfl] at H
       (try dsimp only at H)
       by_cases c16:t437=true
       ·
        subst c16;rw [if_pos rfl] at H
        (try dsimp only at H)
        simp only [Option.some.injEq,Prod.mk.injEq] at H;obtain⟨rfl,rfl,rfl⟩:=H;have p10:0≤(0:Int):=(by omega);have q10:0<a0.size:=(by have:(0:Int)<(a0.size:Int):=od_;omega);have hx10:∀ h:0<a0.size,((a0[0]'h).toNat:Int)=bt a0 0:=bt_at a0 0;clear p10;have qi10:(0<(a0.size:Int))=True:=eq_true (od_);replace q10:=eq_true q10
        go_wp2_with (first | ((with_reducible refine gate_callee (f:=89) rfl ?_);refine gL_ (some 20) Tryd.func89 #[.int .u8 (bt a0 0)] (h:=?_);(with_reducible refine (impl_figureOf.calls (bt a0 0) t434 true _ A11.out).mono ?_);rintro e w' ⟨rfl,⟨nd,rfl⟩⟩;refine⟨_,rfl,?_⟩;(try (rw [drewN_self wc];generalize hq_:World.drewN wc _=wc;have n0_:Aside0 (wc.heap[gb433]?=some (.cells #[.int .i64 0,.int .i64 0] 37 (0,0))):=⟨by rw [← hq_];exact uq_⟩;have n1_:Aside0 (Below w.heap.size w wc):=⟨by rw [← hq_];exact hB_⟩;clear BK433 HB hq_;have BK433:=n0_;have HB:=n1_;clear n0_ n1_));have p13:0≤(2:Int):=(by omega);have q13:2<a0.size:=(by have:(2:Int)<(a0.size:Int):=od_;omega);have hx13:∀ h:2<a0.size,((a0[2]'h).toNat:Int)=bt a0 2:=bt_at a0 2;clear p13;have qi13:(2<(a0.size:Int))=True:=eq_true (od_);replace q13:=eq_true q13) | ((with_reducible refine gate_callee (f:=89) rfl ?_);refine gL_ (some 26) Tryd.func89 #[.int .u8 (bt a0 2)] (h:=?_);(with_reducible refine (impl_figureOf.calls (bt a0 2) t436 true _ A14.out).mono ?_);rintro e w' ⟨rfl,⟨nd,rfl⟩⟩;refine⟨_,rfl,?_⟩;(try (rw [drewN_self wc];generalize hq_:World.drewN wc _=wc;have n0_:Aside0 (wc.heap[gb433]?=some (.cells #[.int .i64 0,.int .i64 0] 37 (0,0))):=⟨by rw [← hq_];exact uq_⟩;have n1_:Aside0 (Below w.heap.size w wc):=⟨by rw [← hq_];exact hB_⟩;clear BK433 HB hq_;have BK433:=n0_;have HB:=n1_;clear n0_ n1_));have hcz17_0:=c20_ BK433;have hcz17_1:=c21_ BK433;have hfz17_0:=fz_ BK433 0;have hfz17_1:=fz_ BK433 1))
        refine bodyPost_ret (results_ct rfl _ _ gb433 37 #[.int .i64 t434,.int .i64 t436] (0,0) _ rfl (by (with_reducible repeat (first | refine blk_drewN ?_ _ | refine blk_drew ?_ | refine blk_alloc ?_ _));refine blk_put (cs:=#[.int .i64 t434,.int .i64 0]) ?_ 1 _ rfl;(with_reducible repeat (first | refine blk_drewN ?_ _ | refine blk_drew ?_ | refine blk_alloc ?_ _));refine blk_put (cs:=#[.int .i64 0,.int .i64 0]) ?_ 0 _ rfl;(with_reducible repeat (first | refine blk_drewN ?_ _ | refine blk_drew ?_ | refine blk_alloc ?_ _));exact BK433.out) Tryd.underlying37 rfl (by kernel_rfl)) rfl ?_;exact⟨rr_,hB_⟩
       ·
        replace c16:=Bool.eq_false_iff.mpr c16;subst c16;rw [if_neg (show ¬ (false=true) by decide)] at H
        (try dsimp only at H)
        simp only [Option.some.injEq,Prod.mk.injEq] at H;obtain⟨rfl,rfl,rfl⟩:=H;have p10:0≤(0:Int):=(by omega);have q10:0<a0.size:=(by have:(0:Int)<(a0.size:Int):=od_;omega);have hx10:∀ h:0<a0.size,((a0[0]'h).toNat:Int)=bt a0 0:=bt_at a0 0;clear p10;have qi10:(0<(a0.size:Int))=True:=eq_true (od_);replace q10:=eq_true q10
        go_wp2_with (first | ((with_reducible refine gate_callee (f:=89) rfl ?_);refine gL_ (some 20) Tryd.func89 #[.int .u8 (bt a0 0)] (h:=?_);(with_reducible refine (impl_figureOf.calls (bt a0 0) t434 true _ A11.out).mono ?_);rintro e w' ⟨rfl,⟨nd,rfl⟩⟩;refine⟨_,rfl,?_⟩;(try (rw [drewN_self wc];generalize hq_:World.drewN wc _=wc;have n0_:Aside0 (wc.heap[gb433]?=some (.cells #[.int .i64 0,.int .i64 0] 37 (0,0))):=⟨by rw [← hq_];exact uq_⟩;have n1_:Aside0 (Below w.heap.size w wc):=⟨by rw [← hq_];exact hB_⟩;clear BK433 HB hq_;have BK433:=n0_;have HB:=n1_;clear n0_ n1_));have p13:0≤(2:Int):=(by omega);have q13:2<a0.size:=(by have:(2:Int)<(a0.size:Int):=od_;omega);have hx13:∀ h:2<a0.size,((a0[2]'h).toNat:Int)=bt a0 2:=bt_at a0 2;clear p13;have qi13:(2<(a0.size:Int))=True:=eq_true (od_);replace q13:=eq_true q13) | ((with_reducible refine gate_callee (f:=89) rfl ?_);refine gL_ (some 26) Tryd.func89 #[.int .u8 (bt a0 2)] (h:=?_);(with_reducible refine (impl_figureOf.calls (bt a0 2) t436 false _ A14.out).mono ?_);rintro e w' ⟨rfl,⟨nd,rfl⟩⟩;refine⟨_,rfl,?_⟩;(try (rw [drewN_self wc];generalize hq_:World.drewN wc _=wc;have n0_:Aside0 (wc.heap[gb433]?=some (.cells #[.int .i64 0,.int .i64 0] 37 (0,0))):=⟨by rw [← hq_];exact uq_⟩;have n1_:Aside0 (Below w.heap.size w wc):=⟨by rw [← hq_];exact hB_⟩;clear BK433 HB hq_;have BK433:=n0_;have HB:=n1_;clear n0_ n1_));have hcz18_0:=c20_ BK433;have hcz18_1:=c21_ BK433;have hfz18_0:=fz_ BK433 0;have hfz18_1:=fz_ BK433 1))
        refine bodyPost_ret (results_ct rfl _ _ gb433 37 #[.int .i64 0,.int .i64 0] (0,0) _ rfl (by (with_reducible repeat (first | refine blk_drewN ?_ _ | refine blk_drew ?_ | refine blk_alloc ?_ _));refine blk_put (cs:=#[.int .i64 0,.int .i64 0]) ?_ 1 _ rfl;(with_reducible repeat (first | refine blk_drewN ?_ _ | refine blk_drew ?_ | refine blk_alloc ?_ _));refine blk_put (cs:=#[.int .i64 0,.int .i64 0]) ?_ 0 _ rfl;(with_reducible repeat (first | refine blk_drewN ?_ _ | refine blk_drew ?_ | refine blk_alloc ?_ _));exact BK433.out) Tryd.underlying37 rfl (by kernel_rfl)) rfl ?_;exact⟨rr_,hB_⟩
      ·
       replace c15:=Bool.eq_false_iff.mpr c15;subst c15;rw [if_neg (show ¬ (false=true) by decide)] at H
       (try dsimp only at H)
       simp only [Option.some.injEq,Prod.mk.injEq] at H;obtain⟨rfl,rfl,rfl⟩:=H;have p10:0≤(0:Int):=(by omega);have q10:0<a0.size:=(by have:(0:Int)<(a0.size:Int):=od_;omega);have hx10:∀ h:0<a0.size,((a0[0]'h).toNat:Int)=bt a0 0:=bt_at a0 0;clear p10;have qi10:(0<(a0.size:Int))=True:=eq_true (od_);replace q10:=eq_true q10
       go_wp2_with (first | ((with_reducible refine gate_callee (f:=89) rfl ?_);refine gL_ (some 20) Tryd.func89 #[.int .u8 (bt a0 0)] (h:=?_);(with_reducible refine (impl_figureOf.calls (bt a0 0) t434 false _ A11.out).mono ?_);rintro e w' ⟨rfl,⟨nd,rfl⟩⟩;refine⟨_,rfl,?_⟩;(try (rw [drewN_self wc];generalize hq_:World.drewN wc _=wc;have n0_:Aside0 (wc.heap[gb433]?=some (.cells #[.int .i64 0,.int .i64 0] 37 (0,0))):=⟨by rw [← hq_];exact uq_⟩;have n1_:Aside0 (Below w.heap.size w wc):=⟨by rw [← hq_];exact hB_⟩;clear BK433 HB hq_;have BK433:=n0_;have HB:=n1_;clear n0_ n1_));have p13:0≤(2:Int):=(by omega);have q13:2<a0.size:=(by have:(2:Int)<(a0.size:Int):=od_;omega);have hx13:∀ h:2<a0.size,((a0[2]'h).toNat:Int)=bt a0 2:=bt_at a0 2;clear p13;have qi13:(2<(a0.size:Int))=True:=eq_true (od_);replace q13:=eq_true q13) | ((with_reducible refine gate_callee (f:=89) rfl ?_);refine gL_ (some 26) Tryd.func89 #[.int .u8 (bt a0 2)] (h:=?_);(with_reducible refine (impl_figureOf.calls (bt a0 2) t436 t437 _ A14.out).mono ?_);rintro e w' ⟨rfl,⟨nd,rfl⟩⟩;refine⟨_,rfl,?_⟩;(try (rw [drewN_self wc];generalize hq_:World.drewN wc _=wc;have n0_:Aside0 (wc.heap[gb433]?=some (.cells #[.int .i64 0,.int .i64 0] 37 (0,0))):=⟨by rw [← hq_];exact uq_⟩;have n1_:Aside0 (Below w.heap.size w wc):=⟨by rw [← hq_];exact hB_⟩;clear BK433 HB hq_;have BK433:=n0_;have HB:=n1_;clear n0_ n1_));have hcz19_0:=c20_ BK433;have hcz19_1:=c21_ BK433;have hfz19_0:=fz_ BK433 0;have hfz19_1:=fz_ BK433 1))
       refine bodyPost_ret (results_ct rfl _ _ gb433 37 #[.int .i64 0,.int .i64 0] (0,0) _ rfl (by (with_reducible repeat (first | refine blk_drewN ?_ _ | refine blk_drew ?_ | refine blk_alloc ?_ _));refine blk_put (cs:=#[.int .i64 0,.int .i64 0]) ?_ 1 _ rfl;(with_reducible repeat (first | refine blk_drewN ?_ _ | refine blk_drew ?_ | refine blk_alloc ?_ _));refine blk_put (cs:=#[.int .i64 0,.int .i64 0]) ?_ 0 _ rfl;(with_reducible repeat (first | refine blk_drewN ?_ _ | refine blk_drew ?_ | refine blk_alloc ?_ _));exact BK433.out) Tryd.underlying37 rfl (by kernel_rfl)) rfl ?_;exact⟨rr_,hB_⟩
     ·
      rw [if_neg c12] at H;exact absurd H (by simp)
    ·
     rw [if_neg c9] at H;exact absurd H (by simp)
end Go.Proofs.YtailkppkjhkjpaaDoor.X
end
section
set_option linter.unusedVariables false
set_option linter.unusedSimpArgs false
namespace Go.Proofs.YtailkppkjhkjpaaDoor.X
open Go.RowKit Go.Shelf Go.Proofs.YtailkppkjhkjpaaDoorW.PrintWords Go.Proofs.YtailkppkjhkjpaaDoorW.PrintLast Go.Proofs.YtailkppkjhkjpaaDoorW.PrintMore
open Mort (ptOk loopOk)
open Txt (cutAt allOf rdPt isFig)
def rdS (x:ByteArray):Option S37:=(rdPt x.data.toList).map fun p=>⟨p.1,p.2⟩
def readL (t:ByteArray):List S37 × Bool:=if t.size≤40 then (match allOf rdS (cutB 32 t) with | some l=>if loopOk (l.map ptP) then (l,true) else ([],false) | none=>([],false)) else ([],false)
def impl_LoopRead.f (t:ByteArray):Option (List S37 × Bool):=some (readL t)
theorem figure_told (a:UInt8):impl_figureOf.f (a.toNat:Int)=some (if isFig a then ((a.toNat:Int)-48,true) else (0,false)):=by
 unfold impl_figureOf.f isFig;have hx:a.toNat<256:=a.toNat_lt;by_cases h1:(a.toNat:Int)<48
 ·
  rw [if_pos h1,if_neg (by simp;omega)]
 ·
  rw [if_neg h1];by_cases h2:(a.toNat:Int)>57
  ·
   rw [if_pos h2,if_neg (by simp;omega)]
  ·
   rw [if_neg h2,if_pos (by simp;omega)]
   congr 2
   omega
theorem pointOf_f (x:ByteArray):impl_pointOf.f 1 x=some (match rdS x with | some p=>(p.f0,p.f1,true) | none=>(0,0,false)):=by
 obtain⟨⟨l⟩⟩:=x;unfold impl_pointOf.f;have hsz:((⟨⟨l⟩⟩:ByteArray).size:Int)=(l.length:Int):=rfl;rw [hsz];by_cases h3:(l.length:Int)=3
 ·
  rw [if_pos h3,if_pos (by omega)];obtain⟨a,k,b,rfl⟩:∃ a k b,l=[a,k,b]:=by
   match l,h3 with
   | [a,k,b],_=>exact⟨a,k,b,rfl⟩
   | [],h=>simp at h
   | [_],h=>simp at h
   | [_,_],h=>simp at h
   | _::_::_::_::_,h=>simp at h;omega
  have e0:bt (⟨⟨[a,k,b]⟩⟩:ByteArray) 0=(a.toNat:Int):=rfl;have e1:bt (⟨⟨[a,k,b]⟩⟩:ByteArray) 1=(k.toNat:Int):=rfl;have e2:bt (⟨⟨[a,k,b]⟩⟩:ByteArray) 2=(b.toNat:Int):=rfl;have er:rdS ⟨⟨[a,k,b]⟩⟩=if k=44 && (isFig a && isFig b) then some ⟨(a.toNat:Int)-48,(b.toNat:Int)-48⟩ else none:=by
   unfold rdS
   show (rdPt [a,k,b]).map _=_
   rw [Txt.rdPt3]
   split <;> rfl
  rw [er];rw [impl_pointOf.j0,e0,e1,e2,figure_told,figure_told,hsz];simp only [List.length_cons,List.length_nil,Option.bind_some];by_cases hk:k=44
  ·
   subst hk;rw [if_neg (by decide),if_pos (by decide),if_pos (by decide)];cases isFig a <;> cases isFig b <;> rfl
  ·
   have hk2:((k.toNat:Int) != 44)=true:=by
    rw [bne_iff_ne];intro e;exact hk (UInt8.toNat_inj.1 (by show k.toNat=44;omega))
   rw [if_pos hk2];simp [hk]
 ·
  rw [if_neg h3];rw [impl_pointOf.j0,if_pos rfl];have er:rdS ⟨⟨l⟩⟩=none:=by
   unfold rdS
   show (rdPt l).map _=_
   match l,h3 with
   | [a,k,b],h=>simp at h
   | [],_=>rfl
   | [_],_=>rfl
   | [_,_],_=>rfl
   | _::_::_::_::_,_=>rfl
  rw [er]
theorem info_Pt:(Tryd.prog.info? 37).map (fun i=>(i.zero,i.size,i.bytes))=some (some (.agg #[.int .i64 0,.int .i64 0]),2,16):=by kernel_rfl
theorem made0P (n:Nat)(hn:n≤1000)(w:World):(Instr.makeSlice 23 (.int .i64 0) (.int .i64 (n:Int))).run Tryd.prog w=.ok (.slice (some ⟨w.heap.size,0,none⟩) 0 n) (w.alloc (.cells (madeCells #[.int .i64 0,.int .i64 0] (n*2)) 37)):=by
 have h:=info_Pt
 cases hi:Tryd.prog.info? 37 with
 | none=>rw [hi] at h;cases h
 | some i =>
  rw [hi] at h;simp only [Option.map_some,Option.some.injEq,Prod.mk.injEq] at h;obtain⟨h1,h2,h3⟩:=h;have:=run_make (P:=Tryd.prog) w 23 37 i (.agg #[.int .i64 0,.int .i64 0]) Tryd.underlying23 hi h1 .i64 .i64 0 (n:Int) (Int.le_refl _) (by omega) (by rw [h3];omega) (by omega);rw [h2] at this;simp only [Int.toNat_zero,Int.toNat_natCast] at this;exact this
theorem R_madeP (n:Nat)(hn:n≤1000)(w:World):Kd.R k37 37 (w.alloc (.cells (madeCells #[.int .i64 0,.int .i64 0] (n*2)) 37)) w.heap.size (fun _=>True) (.slice (some ⟨w.heap.size,0,none⟩) 0 n) []:=
 ⟨fun _ _=>trivial,[],World.ownsRow_made w _ n (Nat.le_refl _) (by unfold maxLen;omega) (by rw [size_madeCells];rfl),Reps.none _ _⟩
theorem allOf_at {xs:List ByteArray}{i:Nat}(hi:i<xs.length){x:ByteArray}(hx:rdOf ByteArray.empty xs (i:Int)=x):xs.drop i=x::xs.drop (i+1):=by
 rw [List.drop_eq_getElem_cons hi,← hx]
 congr 1
 unfold rdOf;rw [Int.toNat_natCast,List.getD_eq_getElem?_getD,List.getElem?_eq_getElem hi];rfl
theorem cutB_len (c:UInt8)(s:ByteArray):0<(cutB c s).length∧(cutB c s).length≤s.size+1:=by
 unfold cutB;rw [List.length_map];have:=Txt.cut_len c s.data.toList;have e2:s.data.toList.length=s.size:=by rw [Array.length_toList];rfl
 obtain⟨x,xs,h⟩:=Txt.cutAt_ne c s.data.toList;rw [h] at this ⊢
 simp only [List.length_cons] at this ⊢
 omega
set_option maxHeartbeats 4000000 in
set_option maxRecDepth 100000 in
theorem impl_LoopRead.calls (s:ByteArray)(r1:List S37)(r2:Bool)(w:World)(h:impl_LoopRead.f s=some (r1,r2)):
  Calls Tryd.prog 33 #[.string s] w fun e w'=>∃ v0_:Value,e=.returned (.tuple #[v0_,.bool r2])∧Kd.R k37 37 w' w.heap.size (fun _=>True) v0_ r1∧Below w.heap.size w w':=by
 have hu37:=Tryd.underlying37;have hr:readL s=(r1,r2):=Option.some.inj h;clear h;unfold readL at hr;by_cases h40:s.size≤40
 ·
  rw [if_pos h40] at hr;have hd:decide (40<(s.size:Int))=false:=decide_eq_false (by omega);have hS:strings_Split.f s ⟨#[32]⟩=some (cutB 32 s):=by unfold strings_Split.f;rw [if_pos (by omega)]
  obtain⟨ws,hws⟩:∃ ws,cutB 32 s=ws:=⟨_,rfl⟩;have hwl:=cutB_len 32 s;rw [hws] at hS hwl hr;have HK:=a0_ (And.intro hr (And.intro hS (And.intro hwl.1 (show ws.length≤41 by omega))));clear hr h40 hS hws hwl;go_enter Tryd.func33,Tryd.ntmps33;go_wp2_with (go_at_call 31;(with_reducible refine (strings_Split.calls s ⟨#[32]⟩ ws _ HK.out.2.1).mono ?_);rintro e w1 ⟨v0,rfl,hR,hb⟩;obtain⟨gw,cw,rfl,_,hgw,_⟩:=Kd.R_form hR HK.out.2.2.1;have hmk:=made0P ws.length (by have:=HK.out.2.2.2;omega) w1;have H1:=a0_ (And.intro hR (And.intro hb hgw));clear hR hb hgw);clear hmk hd;obtain⟨gb,hgb⟩:∃ gb,w1.heap.size=gb:=⟨_,rfl⟩;have hR0:=R_madeP ws.length (by have:=HK.out.2.2.2;omega) w1;have hB0:Below gb w1 (w1.alloc (.cells (madeCells #[.int .i64 0,.int .i64 0] (ws.length*2)) 37)):=hgb▸below_alloc (Below.refl _ w1) _;rw [hgb] at hR0 ⊢
  have HB:=a0_ (And.intro hgb (And.intro hR0 hB0));clear hgb hR0 hB0;generalize w1.alloc (.cells (madeCells #[.int .i64 0,.int .i64 0] (ws.length*2)) 37)=W at *;go_loopg [5,20] ws.length (fun kq v5 v20 wr=>∃ (i:Nat) (ps:List S37),v20=.int .i64 (i:Int)∧Aside0 (kq=ws.length-i∧i≤ws.length∧Below gb w1 wr∧Kd.R k37 37 wr gb (fun _=>True) v5 ps∧ps.length=i∧allOf rdS ws=(allOf rdS (ws.drop i)).map (ps ++ ·)))
  case atStart=>exact⟨0,[],rfl,⟨rfl,Nat.zero_le _,HB.out.2.2,HB.out.2.1,rfl,by rw [List.drop_zero];cases allOf rdS ws <;> rfl⟩⟩
  case round =>
   obtain⟨i,ps,rfl,HR⟩:=hrel;have hi:=HR.out.2.1;by_cases hlt:i<ws.length
   ·
    have hd:decide ((i:Int)<(ws.length:Int))=true:=decide_eq_true (by omega);have hd2:(i:Int)<(ws.length:Int):=by omega
    have hC:=Kd.C_below (Kd.R_reads' H1.out.1).2.2 (HB.out.1.symm▸HR.out.2.2.1:Below w1.heap.size w1 wr);obtain⟨ad,hA,z0⟩:=Kd.at_string hC (i:Int) (by omega) (by omega);injection hA with hA;rw [Int.toNat_natCast] at z0;obtain⟨x,hx⟩:∃ x,rdOf ByteArray.empty ws (i:Int)=x:=⟨_,rfl⟩;have hdr:=allOf_at hlt hx;rw [hx] at z0;subst hA;rw [add_at,Nat.zero_add] at z0;have hsz:gb≤wr.heap.size:=by have:=HR.out.2.2.1.size;have:=HB.out.1;omega
    have hpt:=pointOf_f x
    cases hx2:rdS x with
    | none =>
     have hfail:r1=[]∧r2=false:=by
      have hr:=HK.out.1;have:=HR.out.2.2.2.2.2;rw [hdr,allOf,hx2] at this;rw [this] at hr;cases hr;exact⟨rfl,rfl⟩
     obtain⟨rfl,rfl⟩:=hfail;rw [hx2] at hpt;have HP:=a0_ (And.intro hpt (And.intro HR.out.2.2.1 hsz));clear hpt hx2 hx hdr hC hi hlt HR hsz;go_wp2_with (go_at_call 67;(with_reducible refine (impl_pointOf.calls 1 x 0 0 false _ HP.out.1).mono ?_);rintro e w2 ⟨rfl,hb2⟩;have H2:=Aside0.mk hb2;clear hb2);go_ret2;have hb3:=below_alloc (Below.refl _ w2) (.cells #[.int .i64 0,.int .i64 0] 37);refine⟨_,rfl,Kd.R_nil _ _ _ _ _,?_⟩;exact below_step H1.out.2.1 ((HB.out.1.symm▸HP.out.2.1).trans ((H2.out.mono (by have:=HP.out.2.2;have:=HB.out.1;omega)).trans (hb3.mono (by have:=HP.out.2.2;have:=HB.out.1;have:=H2.out.size;omega))))
    | some p =>
     rw [hx2] at hpt;have hst:allOf rdS ws=(allOf rdS (ws.drop (i+1))).map (ps++[p] ++ ·):=by
      have:=HR.out.2.2.2.2.2;rw [this,hdr,allOf,hx2,Option.bind_some]
      cases allOf rdS (ws.drop (i+1)) with
      | none=>rfl
      | some l=>simp
     have HP:=a0_ (And.intro hpt (And.intro HR.out.2.2.1 (And.intro hsz (And.intro HR.out.2.2.2.1 (And.intro hlt (And.intro HR.out.2.2.2.2.1 (And.intro hst HR.out.1)))))));clear hpt hx2 hx hdr hC hi hlt HR hsz hst;have hl16:(ps.length+1)*16≤140737488355328:=by have:=HK.out.2.2.2;have:=HP.out.2.2.2.2.1;have:=HP.out.2.2.2.2.2.1;omega
     go_wp2_with (first
      | (go_at_call 67;(with_reducible refine (impl_pointOf.calls 1 x p.f0 p.f1 true _ HP.out.1).mono ?_);rintro e w2 ⟨rfl,hb2⟩;have hal2:=below_alloc (Below.refl _ w2) (.cells #[.int .i64 p.f0,.int .i64 p.f1] 37);have H2:=a0_ (And.intro (Kd.R_below (Kd.R_below HP.out.2.2.2.1 hb2) hal2) (And.intro ((HP.out.2.1.trans (hb2.mono HP.out.2.2.1)).trans (hal2.mono (Nat.le_trans HP.out.2.2.1 hb2.size))) (Nat.le_trans (Nat.le_trans HP.out.2.2.1 hb2.size) hal2.size)));clear hb2 hal2)
      | ((with_reducible refine gate_builtin (b:=.append) (xs:=#[.tmp 31,.tmp 33]) rfl ?_);go_loud (at_builtin;refine Kd.R_append k37 (w0:=w1) gb rfl (.tmp 31) (.tmp 33) 23 37 (.agg #[.int .i64 0,.int .i64 0]) 16 rfl Tryd.underlying23 info_Pt rfl (by decide) (by omega) u5 ps p [.int .i64 p.f0,.int .i64 p.f1] (fun _=>True) (fun _=>False) rfl (by first | rfl | (go_simp;done) | (go_simp;rfl)) (k37_mkM _ _ _ p) (fun _ hk=>hk.elim) (fun _ _=>trivial) H2.out.1 H2.out.2.1 H2.out.2.2 hl16 ?_;intro v2 w3 ho3 hb3 _ _;have H3:=a0_ (And.intro ho3 hb3);clear ho3 hb3)))
     obtain⟨_,_,_,_,g4,g5,g6,g7⟩:=HP.out;have hw:wrap64 ((i:Int)+1)=(i:Int)+1:=by have:=HK.out.2.2.2;unfold wrap64;omega
     go_roundg (ws.length-(i+1))
     case measure=>omega
     case rel=>exact⟨i+1,ps++[p],by rw [hw];rfl,⟨rfl,g4,H3.out.2,H3.out.1,by simp [g5],g6⟩⟩
   ·
    obtain rfl:i=ws.length:=by omega
    have hd:decide ((ws.length:Int)<(ws.length:Int))=false:=decide_eq_false (by omega);obtain⟨_,_,h3,h4,h5,h6⟩:=HR.out;obtain⟨A,c,rfl⟩:=Kd.R_slice h4;have hall:allOf rdS ws=some ps:=by
     rw [h6,List.drop_length,allOf];simp
    have hr:=HK.out.1;rw [hall] at hr;simp only at hr;have HJ:=a0_ (And.intro h3 (And.intro h4 (And.intro (Kd.R_reads' h4).2.1 (Kd.R_reads' h4).2.2)));clear h3 h4 h5 h6 hall hlt hi HR
    cases hL:loopOk (ps.map ptP) with
    | true =>
     rw [hL,if_pos rfl] at hr;obtain⟨rfl,rfl⟩:=Prod.mk.inj hr;have HL:=a0_ (show impl_LoopOk.f ps=some true from congrArg some hL);clear hL hr;go_wp2_with (go_at_call 35;(with_reducible refine (impl_LoopOk.calls A c ps true _ HJ.out.2.2.2 HJ.out.2.2.1 HL.out).mono ?_);rintro e w2 ⟨rfl,hb2⟩;have H2:=Aside0.mk hb2;clear hb2);go_ret2;refine⟨_,rfl,Kd.R_lower (Kd.R_below HJ.out.2.1 H2.out) (by have:=H1.out.2.1.size;have:=HB.out.1;omega),?_⟩;exact below_step H1.out.2.1 (below_step (HB.out.1.symm▸HJ.out.1) H2.out)
    | false =>
     rw [hL,if_neg (by decide)] at hr;obtain⟨rfl,rfl⟩:=Prod.mk.inj hr;have HL:=a0_ (show impl_LoopOk.f ps=some false from congrArg some hL);clear hL hr;go_wp2_with (go_at_call 35;(with_reducible refine (impl_LoopOk.calls A c ps false _ HJ.out.2.2.2 HJ.out.2.2.1 HL.out).mono ?_);rintro e w2 ⟨rfl,hb2⟩;have H2:=Aside0.mk hb2;clear hb2);go_ret2;refine⟨_,rfl,Kd.R_nil _ _ _ _ _,?_⟩;exact below_step H1.out.2.1 (below_step (HB.out.1.symm▸HJ.out.1) H2.out)
 ·
  rw [if_neg h40] at hr;obtain⟨rfl,rfl⟩:=Prod.mk.inj hr;have hd:decide (40<(s.size:Int))=true:=decide_eq_true (by omega);clear hr h40;go_enter Tryd.func33,Tryd.ntmps33;go_wp2;go_ret2;exact⟨_,rfl,Kd.R_nil _ _ _ _ _,Below.refl _ _⟩
end Go.Proofs.YtailkppkjhkjpaaDoor.X
end
section
namespace Go.Proofs.YtailkppkjhkjpaaDoor.X
open Go.RowKit Go.Proofs.YtailkppkjhkjpaaDoorW.PrintWords Go.Proofs.YtailkppkjhkjpaaDoorW.PrintLast Go.Proofs.YtailkppkjhkjpaaDoorW.PrintMore
attribute [local go_sem] max2_int min2_int max_two min_two max_three min_three max_four min_four
set_option linter.unusedVariables false
set_option linter.unusedSimpArgs false
mutual
def impl_PlateRead.j0:Nat→ByteArray→Bool→Option ((List (S37)) × (List (List (S37))) × Bool)
 | 0,_,_=>none
 | k+1,x0,x16=>if x16=true then (some (([]:List (S37)),([]:List (List (S37))),false)) else ((strings_TrimSuffix.f x0 (⟨#[10]⟩:ByteArray)).bind fun t441=>((strings_Split.f t441 (⟨#[10]⟩:ByteArray)).bind fun t442=>(impl_PlateRead.l0 k t442 (t442.length:Int) 0 ([]:List (S37)) ([]:List (List (S37))))))
def impl_PlateRead.l0:Nat→List ByteArray→Int→Int→List (S37)→List (List (S37))→Option ((List (S37)) × (List (List (S37))) × Bool)
 | 0,_,_,_,_,_=>none
 | k+1,x20,x21,x22,x441000,x441001=>if x22<x21 then (if 0≤x22 then (if x22<(x20.length:Int) then ((impl_LoopRead.f (rdOf ByteArray.empty x20 x22)).bind fun bt447=>(if bt447.2=true then (if x22=0 then (impl_PlateRead.l0 k x20 x21 (wrap64 (x22+1)) bt447.1 x441001) else (if x441001.length<5864062014805 then (impl_PlateRead.l0 k x20 x21 (wrap64 (x22+1)) x441000 (x441001++[bt447.1])) else (none))) else (some (([]:List (S37)),([]:List (List (S37))),false)))) else (none)) else (none)) else ((impl_PlateOk.f x441000 x441001).bind fun t445=>(if t445=true then (some (x441000,x441001,true)) else (some (([]:List (S37)),([]:List (List (S37))),false))))
end
def impl_PlateRead.f (k:Nat)(a0:ByteArray):Option ((List (S37)) × (List (List (S37))) × Bool):=if (a0.size:Int)>120 then (impl_PlateRead.j0 k a0 true) else ((strings_HasSuffix.f a0 (⟨#[10]⟩:ByteArray)).bind fun t439=>(impl_PlateRead.j0 k a0 (!t439)))
set_option maxHeartbeats 8000000 in
set_option maxRecDepth 100000 in
theorem impl_PlateRead.calls (k:Nat)(a0:ByteArray)(r1:List (S37))(r2:List (List (S37)))(r3:Bool)(w:World)(h:impl_PlateRead.f k a0=some (r1,r2,r3)):
  Calls Tryd.prog 9 #[.string a0] w fun e w'=>∃ v0_ v1_:Value,e=.returned (.tuple #[.agg #[v0_,v1_],.bool r3])∧Kd.R k37 37 w' w.heap.size (fun _=>True) v0_ r1∧Kd.S (Kd.slice 37 k37) 23 w' w.heap.size (fun k_=>some k_≠(v0_:Value).ownBlock) v1_ r2∧Below w.heap.size w w':=by
 have hu26:=Tryd.underlying26;have HB:=a0_ (Below.refl w.heap.size w);have H:(if (a0.size:Int)>120 then (impl_PlateRead.j0 k a0 true) else ((strings_HasSuffix.f a0 (⟨#[10]⟩:ByteArray)).bind fun t439=>(impl_PlateRead.j0 k a0 (!t439))))=some (r1,r2,r3):=h;clear h;have HC2:=Aside0.mk H;clear H;go_enter Tryd.func9,Tryd.ntmps9;go_upto_region 1 with (first | ((with_reducible refine gate_dst (N:=2) rfl ?_);refine bx_ (N:=2) (cs:=#[.slice none 0 0,.slice none 0 0]) (t:=26) (h:=?_);intro gb438 hg w3 hbox hb;have BK438:=a0_ (hbox);have GW438:=gh_ HB hg;have GE438:=gh_ HB hg;replace HB:=sb_ HB hb;clear hb hbox hg))
 (try simp only [Act.put,List.setIfInBounds_toArray,List.set_cons_zero,List.set_cons_succ])
 go_cut [16] (fun v16 wc=>∃ (kq:Nat) (x16_1:Bool),v16=.bool x16_1∧Aside0 (impl_PlateRead.j0 kq a0 x16_1=some (r1,r2,r3))∧Aside0 (kq≤k)∧Aside0 (wc.heap[gb438]?=some (.cells #[(.slice none 0 0),(.slice none 0 0)] 26 (0,0)))∧Aside0 (Below w.heap.size w wc))
 case first =>
  have H:=HC2.out;clear HC2;by_cases c4:(a0.size:Int)>120
  ·
   rw [if_pos c4] at H;have c4b0:decide (120<(a0.size:Int))=true:=decide_eq_true c4;have c4b1:decide (120<a0.size)=true:=decide_eq_true (by omega);clear c4
   (first | rw [c4b0] | (simp only [i64_w,i32_w];rw [c4b0]) | skip)
   have H':=Aside0.mk H;clear H;go_wp2;go_meet
   case rel=>exact⟨_,(true),(by first | rfl | (simp;done) | (simp [*];done)),H',⟨by first | omega | exact Nat.le_refl _⟩,⟨uq_⟩,⟨hB_⟩⟩
  ·
   rw [if_neg c4] at H;have c4b0:decide (120<(a0.size:Int))=false:=decide_eq_false c4;have c4b1:decide (120<a0.size)=false:=decide_eq_false (by omega);clear c4
   (first | rw [c4b0] | (simp only [i64_w,i32_w];rw [c4b0]) | skip)
   replace H:=Option.bind_eq_some_iff.mp H;obtain⟨t439,A50,H⟩:=H
   (try dsimp only at H)
   have A5:=Aside0.mk A50;clear A50;have H':=Aside0.mk H;clear H;go_wp2_with (first | (go_at_call 30;(with_reducible refine (strings_HasSuffix.calls a0 (⟨#[10]⟩:ByteArray) t439 _ A5.out).mono ?_);rintro e w' ⟨rfl,⟨nd,rfl⟩⟩));go_meet
   case rel=>exact⟨_,(!t439),(by first | rfl | (simp;done) | (simp [*];done)),H',⟨by first | omega | exact Nat.le_refl _⟩,⟨uq_⟩,⟨hB_⟩⟩
 case rest =>
  clear HC2;obtain⟨kq,x16_1,rfl,HA,HJ1,BK438,HB⟩:=hcut
  cases kq with
  | zero=>exact absurd HA.out (by simp [impl_PlateRead.j0])
  | succ kj1 =>
   have H:=HA.out;clear HA;simp only [impl_PlateRead.j0] at H;by_cases c6:x16_1=true
   ·
    subst c6;rw [if_pos rfl] at H
    (try dsimp only at H)
    simp only [Option.some.injEq,Prod.mk.injEq] at H;obtain⟨rfl,rfl,rfl⟩:=H;have hcz7_0:=c20_ BK438;have hcz7_1:=c21_ BK438;have hfz7_0:=fz_ BK438 0;have hfz7_1:=fz_ BK438 1;go_wp2;refine bodyPost_ret (results_ct rfl _ _ gb438 26 #[.slice none 0 0,.slice none 0 0] (0,0) _ rfl (by (with_reducible repeat (first | refine blk_drewN ?_ _ | refine blk_drew ?_ | refine blk_alloc ?_ _));refine blk_put (cs:=#[.slice none 0 0,.slice none 0 0]) ?_ 1 _ rfl;(with_reducible repeat (first | refine blk_drewN ?_ _ | refine blk_drew ?_ | refine blk_alloc ?_ _));refine blk_put (cs:=#[.slice none 0 0,.slice none 0 0]) ?_ 0 _ rfl;(with_reducible repeat (first | refine blk_drewN ?_ _ | refine blk_drew ?_ | refine blk_alloc ?_ _));exact BK438.out) Tryd.underlying26 rfl (by kernel_rfl)) rfl ?_;exact⟨_,_,rr_,by first | exact Kd.R_nil _ _ _ _ _ | exact Kd.N_nil _ _ _ _ _ | exact Kd.V_nil _ _ _ _ _ | exact Kd.Q_nil _ _ _ _ _ | exact Kd.S_nil _ _ _ _ _,by first | exact Kd.S_nil _ _ _ _ _ | exact Kd.N_nil _ _ _ _ _ | exact Kd.V_nil _ _ _ _ _ | exact Kd.Q_nil _ _ _ _ _ | exact Kd.R_nil _ _ _ _ _,hB_⟩
   ·
    replace c6:=Bool.eq_false_iff.mpr c6;subst c6;rw [if_neg (show ¬ (false=true) by decide)] at H
    (try dsimp only at H)
    replace H:=Option.bind_eq_some_iff.mp H;obtain⟨t441,A80,H⟩:=H
    (try dsimp only at H)
    have A8:=Aside0.mk A80;clear A80;replace H:=Option.bind_eq_some_iff.mp H;obtain⟨t442,A90,H⟩:=H
    (try dsimp only at H)
    have A9:=Aside0.mk A90;clear A90;have H':=Aside0.mk H;clear H;go_wp2_with (first | ((with_reducible refine gate_dst (N:=4) rfl ?_);refine bx_ (N:=4) (cs:=#[.slice none 0 0,.slice none 0 0]) (t:=26) (h:=?_);intro gb440 hg w10 hbox hb;have BK440:=a0_ (hbox);have GW440:=gh_ HB hg;have GE440:=gh_ HB hg;have NB438_440:=nl_ BK438 hg;have NB440_438:=nr_ BK438 hg;replace BK438:=vb_ BK438 hb;replace HB:=sb_ HB hb;clear hb hbox hg) | ((with_reducible refine gate_callee (f:=32) rfl ?_);refine gL_ (some 19) Tryd.func32 #[.string a0,.string (⟨#[10]⟩:ByteArray)] (h:=?_);(with_reducible refine (strings_TrimSuffix.calls a0 (⟨#[10]⟩:ByteArray) t441 _ A8.out).mono ?_);rintro e w' ⟨rfl,⟨nd,rfl⟩⟩;refine⟨_,rfl,?_⟩) | ((with_reducible refine gate_callee (f:=31) rfl ?_);refine gL_ (some 20) Tryd.func31 #[.string t441,.string (⟨#[10]⟩:ByteArray)] (h:=?_);(with_reducible refine (strings_Split.calls t441 (⟨#[10]⟩:ByteArray) t442 _ A9.out).mono ?_);rintro e w11 ⟨v443,rfl,ho0,hb⟩;refine⟨_,rfl,?_⟩;have HO444:=a0_ (Kd.R_lower ho0 (below_size hB_));replace BK438:=vb_ BK438 hb;replace BK440:=vb_ BK440 hb;replace HB:=sb_ HB hb;(try clear ho0 hb);obtain⟨Ao12,co12,eo12⟩:=Kd.R_slice HO444.out;subst eo12))
    go_loopg [22] kj1 (fun kq v22 w'=>∃ (x22_2:Int) (x441000_2:List (S37)) (x441001_2:List (List (S37))) (u441000:Value) (u441001:Value),v22=.int .i64 x22_2∧Aside0 (impl_PlateRead.l0 kq t442 (t442.length:Int) x22_2 x441000_2 x441001_2=some (r1,r2,r3))∧Aside0 (kq≤kj1)∧Aside0 (Kd.R Kd.string 9 w' w.heap.size (fun _=>True) (.slice Ao12 t442.length co12) t442)∧Aside0 (Kd.R k37 37 w' w.heap.size (fun _=>True) u441000 x441000_2)∧Aside0 (Kd.S (Kd.slice 37 k37) 23 w' w.heap.size (fun k_=>some k_≠(u441000:Value).ownBlock) u441001 x441001_2)∧Aside0 (w'.heap[gb438]?=some (.cells #[(.slice none 0 0),(.slice none 0 0)] 26 (0,0)))∧Aside0 (w'.heap[gb440]?=some (.cells #[u441000,u441001] 26 (0,0)))∧Aside0 (Below w.heap.size w w'))
    case atStart=>exact⟨(0),(([]:List (S37))),(([]:List (List (S37)))),(.slice none 0 0),(.slice none 0 0),(by first | rfl | (simp;done) | (simp [*];done)),H',⟨Nat.le_refl _⟩,⟨by (with_reducible repeat (first | apply Kd.R_alloc | apply Kd.R_drewN | apply Kd.R_drew));exact HO444.out⟩,⟨by first | exact Kd.R_nil _ _ _ _ _ | exact Kd.N_nil _ _ _ _ _ | exact Kd.V_nil _ _ _ _ _ | exact Kd.Q_nil _ _ _ _ _ | exact Kd.S_nil _ _ _ _ _⟩,⟨by first | exact Kd.S_nil _ _ _ _ _ | exact Kd.N_nil _ _ _ _ _ | exact Kd.V_nil _ _ _ _ _ | exact Kd.Q_nil _ _ _ _ _ | exact Kd.R_nil _ _ _ _ _⟩,⟨uq_⟩,⟨uq_⟩,⟨hB_⟩⟩
    case round =>
     clear H';obtain⟨x22_2,x441000_2,x441001_2,u441000,u441001,rfl,HA,HK2,HO_20,HO_441000,HO_441001,BK438,BK440,HB⟩:=hrel
     cases gk with
     | zero=>exact absurd HA.out (by simp [impl_PlateRead.l0])
     | succ k2 =>
      have H:=HA.out;clear HA;simp only [impl_PlateRead.l0] at H;by_cases c13:x22_2<(t442.length:Int)
      ·
       rw [if_pos c13] at H;have c13b0:decide (x22_2<(t442.length:Int))=true:=decide_eq_true c13;clear c13;by_cases c14:0≤x22_2
       ·
        rw [if_pos c14] at H;have c14b0:decide (0≤x22_2)=true:=decide_eq_true c14;clear c14;by_cases c15:x22_2<(t442.length:Int)
        ·
         rw [if_pos c15] at H;have c15b0:decide (x22_2<(t442.length:Int))=true:=decide_eq_true c15;clear c15;replace H:=Option.bind_eq_some_iff.mp H;obtain⟨⟨t447,t448⟩,A160,H⟩:=H
         (try dsimp only at H)
         have A16:=Aside0.mk A160;clear A160;by_cases c17:t448=true
         ·
          subst c17;rw [if_pos rfl] at H
          (try dsimp only at H)
          by_cases c18:x22_2=0
          ·
           rw [if_pos c18] at H;have c18b0:(x22_2==0)=true:=beq_iff_eq.mpr c18;have c18b1:(x22_2 != 0)=false:=bne_eq_false_iff_eq.mpr c18;clear c18;have H':=Aside0.mk H;clear H;have p446:0≤(x22_2:Int):=od_;have q446:x22_2<(t442.length:Int):=od_;obtain⟨ad446,e446,hx446_0⟩:=Kd.at_string (Kd.R_reads' HO_20.out).2.2 x22_2 p446 q446;cases e446;replace p446:=eq_true p446;replace q446:=eq_true q446;go_wp2_with (first | ((with_reducible refine gate_callee (f:=33) rfl ?_);refine gL_ (some 29) Tryd.func33 #[.string (rdOf ByteArray.empty t442 x22_2)] (h:=?_);(with_reducible refine (impl_LoopRead.calls (rdOf ByteArray.empty t442 x22_2) t447 true _ A16.out).mono ?_);rintro e w19 ⟨v449,rfl,ho0,hb⟩;refine⟨_,rfl,?_⟩;have HO450:=a0_ (Kd.R_lower (Kd.R_new' ho0 (Kd.R_lt (uR_ HO_441000))) (below_size hB_));replace HO_20:=rb_ HO_20 hb;replace HO_441000:=a0_ (Kd.R_elder' (uR_ HO_441000) (Kd.R_base ho0) hb);replace HO_441001:=a0_ (Kd.S_elder' (by (with_reducible repeat (first | apply Kd.S_alloc | apply Kd.S_drewN | apply Kd.S_drew));exact HO_441001.out) (Kd.R_base ho0) hb);replace BK438:=vb_ BK438 hb;replace BK440:=vb_ BK440 hb;replace HB:=sb_ HB hb;(try clear ho0 hb);obtain⟨Ao20,co20,eo20⟩:=Kd.R_slice HO450.out;subst eo20;have hnb21:=NB440_438.out;have hnc21:=NB438_440.out;have hcz22_0:=c20_ BK440;have hcz22_1:=c21_ BK440;have hfz22_0:=fz_ BK440 0;have hfz22_1:=fz_ BK440 1));go_roundg k2
           case measure=>have:=HJ1.out;have:=HK2.out;omega
           case rel=>exact⟨(wrap64 (x22_2+1)),(t447),(x441001_2),(.slice Ao20 t447.length co20),(u441001),(by first | rfl | (simp;done) | (simp [*];done)),H',⟨by have:=HJ1.out;have:=HK2.out;omega⟩,⟨by (with_reducible repeat (first | apply Kd.R_alloc | apply Kd.R_drewN | apply Kd.R_drew));exact Kd.R_mono (Kd.R_far (p:=⟨gb440,0,none⟩) (Kd.R_types HO_20.out BK440.out (by decide)) (fun _ hk=>hk.2) (.slice Ao20 t447.length co20)) (fun _ hk=>trivial)⟩,⟨by (with_reducible repeat (first | apply Kd.R_alloc | apply Kd.R_drewN | apply Kd.R_drew));exact Kd.R_mono (Kd.R_far (p:=⟨gb440,0,none⟩) (Kd.R_types HO450.out BK440.out (by decide)) (fun _ hk=>hk.2) (.slice Ao20 t447.length co20)) (fun _ hk=>trivial)⟩,⟨by (with_reducible repeat (first | apply Kd.S_alloc | apply Kd.S_drewN | apply Kd.S_drew));exact Kd.S_mono (Kd.S_far (p:=⟨gb440,0,none⟩) (Kd.S_types HO_441001.out BK440.out (by decide)) (fun _ hk=>hk.2) (.slice Ao20 t447.length co20)) (fun _ hk=>hk.1.2)⟩,⟨by (with_reducible repeat (first | refine blk_drewN ?_ _ | refine blk_drew ?_ | refine blk_alloc ?_ _));refine blk_far ?_ NB438_440.out _;(with_reducible repeat (first | refine blk_drewN ?_ _ | refine blk_drew ?_ | refine blk_alloc ?_ _));exact BK438.out⟩,⟨by (with_reducible repeat (first | refine blk_drewN ?_ _ | refine blk_drew ?_ | refine blk_alloc ?_ _));refine blk_put (cs:=#[u441000,u441001]) ?_ 0 _ rfl;(with_reducible repeat (first | refine blk_drewN ?_ _ | refine blk_drew ?_ | refine blk_alloc ?_ _));exact BK440.out⟩,⟨hB_⟩⟩
          ·
           rw [if_neg c18] at H;have c18b0:(x22_2==0)=false:=beq_eq_false_iff_ne.mpr c18;have c18b1:(x22_2 != 0)=true:=bne_iff_ne.mpr c18;by_cases c23:x441001_2.length<5864062014805
           ·
            rw [if_pos c23] at H;have LMc23:=Aside0.mk c23;clear c23;obtain⟨y451,hy451⟩:∃ y_:List (List (S37)),y_=(x441001_2++[t447]):=⟨_,rfl⟩;replace H:(impl_PlateRead.l0 k2 t442 (t442.length:Int) (wrap64 (x22_2+1)) x441000_2 y451)=some (r1,r2,r3):=by first | (rw [hy451];with_reducible exact H) | (have H2_:=(Option.bind_some _ _).symm.trans H;rw [hy451];with_reducible exact H2_) | (have H2_:=(Option.bind_some _ _).symm.trans H;with_reducible exact H2_) | with_reducible exact H | (rw [hy451];exact H) | exact H
            have Ny451:=Aside0.mk hy451;clear hy451;have H':=Aside0.mk H;clear H;have p446:0≤(x22_2:Int):=od_;have q446:x22_2<(t442.length:Int):=od_;obtain⟨ad446,e446,hx446_0⟩:=Kd.at_string (Kd.R_reads' HO_20.out).2.2 x22_2 p446 q446;cases e446;replace p446:=eq_true p446;replace q446:=eq_true q446
            go_wp2_with (first | ((with_reducible refine gate_callee (f:=33) rfl ?_);refine gL_ (some 29) Tryd.func33 #[.string (rdOf ByteArray.empty t442 x22_2)] (h:=?_);(with_reducible refine (impl_LoopRead.calls (rdOf ByteArray.empty t442 x22_2) t447 true _ A16.out).mono ?_);rintro e w24 ⟨v449,rfl,ho0,hb⟩;refine⟨_,rfl,?_⟩;have HO450:=a0_ (Kd.R_lower (Kd.R_new' ho0 (Kd.R_lt (uR_ HO_441000))) (below_size hB_));replace HO_20:=rb_ HO_20 hb;replace HO_441000:=a0_ (Kd.R_elder' (uR_ HO_441000) (Kd.R_base ho0) hb);replace HO_441001:=a0_ (Kd.S_elder' (by (with_reducible repeat (first | apply Kd.S_alloc | apply Kd.S_drewN | apply Kd.S_drew));exact HO_441001.out) (Kd.R_base ho0) hb);replace BK438:=vb_ BK438 hb;replace BK440:=vb_ BK440 hb;replace HB:=sb_ HB hb;(try clear ho0 hb);have hnb25:=NB440_438.out;have hnc25:=NB438_440.out;have hcz26_0:=c20_ BK440;have hcz26_1:=c21_ BK440;have hfz26_0:=fz_ BK440 0;have hfz26_1:=fz_ BK440 1;obtain⟨Ao28,co28,eo28⟩:=Kd.R_slice HO450.out;subst eo28) | ((with_reducible refine gate_builtin (b:=.append) (xs:=#[.tmp 40,.tmp 42]) rfl ?_);at_builtin;refine Kd.S_append (Kd.slice 37 k37) (w0:=w) w.heap.size rfl (.tmp 40) (.tmp 42) 24 23 (.slice none 0 0) 24 rfl Tryd.underlying24 info23 rfl (by decide) (by omega) u441001 x441001_2 t447 [.slice Ao28 t447.length co28] (fun k_=>some k_≠(u441000:Value).ownBlock) (fun k_=>some k_=(.slice Ao28 t447.length co28:Value).ownBlock) rfl rfl ?aP (fun k_ hk_=>((Kd.R_mono (ok':=fun k_=>((fun k_=>some k_≠(u441000:Value).ownBlock)) k_∧some k_≠(u441001:Value).ownBlock) (Kd.R_apart' (HO450.out) (Kd.S_typed HO_441001.out) (by decide)) (fun k_ hk=>⟨hk.1.2,hk.2⟩))).1 k_ hk_.symm) ?aF ?aO ?aB ?aS ?aL ?_;(case aP=>exact Kd.M_row (Kd.R_mono (Kd.R_tight rfl (Kd.R_mono (ok':=fun k_=>((fun k_=>some k_≠(u441000:Value).ownBlock)) k_∧some k_≠(u441001:Value).ownBlock) (Kd.R_apart' (HO450.out) (Kd.S_typed HO_441001.out) (by decide)) (fun k_ hk=>⟨hk.1.2,hk.2⟩))) (fun _ h_=>h_)));(case aB=>exact hB_);(case aF=>exact (fun k_ hk=>Kd.fresh' (Kd.R_lt (uR_ HO_441000)) k_ hk));(case aO=>exact (by (with_reducible repeat (first | apply Kd.S_alloc | apply Kd.S_drewN | apply Kd.S_drew));exact Kd.S_mono HO_441001.out (fun k_ hk=>⟨hk.1,fun e_=>hk.2 e_⟩)));(case aS=>exact (below_size hB_));(case aL=>have:=LMc23.out;omega);intro v452 w27 ho hb hg hat;rw [← Ny451.out] at ho;have HO453:=a0_ (ho);replace HO_20:=a0_ (Kd.R_over' (uR_ HO_20) (Kd.S_typed (by (with_reducible repeat (first | apply Kd.S_alloc | apply Kd.S_drewN | apply Kd.S_drew));exact HO_441001.out)) (by decide) hg);replace HO_441000:=a0_ (Kd.R_over' (uR_ HO_441000) (Kd.S_typed (by (with_reducible repeat (first | apply Kd.S_alloc | apply Kd.S_drewN | apply Kd.S_drew));exact HO_441001.out)) (by decide) hg);replace BK438:=a0_ (blk_grown (g:=gb438) (o:=.cells #[.slice none 0 0,.slice none 0 0] 26 (0,0)) uq_ hg (Kd.S_ne HO_441001.out BK438.out (by decide)));replace BK440:=a0_ (blk_grown (g:=gb440) (o:=.cells #[u441000,u441001] 26 (0,0)) uq_ hg (Kd.S_ne HO_441001.out BK440.out (by decide)));replace HB:=a0_ (hb);clear HO450 HO_441001;clear ho hb hg hat;obtain⟨Ao29,co29,eo29⟩:=Kd.S_slice HO453.out;subst eo29;have hcz30_0:=c20_ BK440;have hcz30_1:=c21_ BK440;have hfz30_0:=fz_ BK440 0;have hfz30_1:=fz_ BK440 1))
            go_roundg k2
            case measure=>have:=HJ1.out;have:=HK2.out;omega
            case rel=>exact⟨(wrap64 (x22_2+1)),(x441000_2),(y451),(u441000),(.slice Ao29 y451.length co29),(by first | rfl | (simp;done) | (simp [*];done)),H',⟨by have:=HJ1.out;have:=HK2.out;omega⟩,⟨by (with_reducible repeat (first | apply Kd.R_alloc | apply Kd.R_drewN | apply Kd.R_drew));exact Kd.R_mono (Kd.R_far (p:=⟨gb440,1,none⟩) (Kd.R_types HO_20.out BK440.out (by decide)) (fun _ hk=>hk.2) (.slice Ao29 y451.length co29)) (fun _ hk=>trivial)⟩,⟨by (with_reducible repeat (first | apply Kd.R_alloc | apply Kd.R_drewN | apply Kd.R_drew));exact Kd.R_mono (Kd.R_far (p:=⟨gb440,1,none⟩) (Kd.R_types HO_441000.out BK440.out (by decide)) (fun _ hk=>hk.2) (.slice Ao29 y451.length co29)) (fun _ hk=>trivial)⟩,⟨by (with_reducible repeat (first | apply Kd.S_alloc | apply Kd.S_drewN | apply Kd.S_drew));exact Kd.S_mono (Kd.S_far (p:=⟨gb440,1,none⟩) (Kd.S_types HO453.out BK440.out (by decide)) (fun _ hk=>hk.2) (.slice Ao29 y451.length co29)) (fun _ hk=>hk.1)⟩,⟨by (with_reducible repeat (first | refine blk_drewN ?_ _ | refine blk_drew ?_ | refine blk_alloc ?_ _));refine blk_far ?_ NB438_440.out _;(with_reducible repeat (first | refine blk_drewN ?_ _ | refine blk_drew ?_ | refine blk_alloc ?_ _));exact BK438.out⟩,⟨by (with_reducible repeat (first | refine blk_drewN ?_ _ | refine blk_drew ?_ | refine blk_alloc ?_ _));refine blk_put (cs:=#[u441000,u441001]) ?_ 1 _ rfl;(with_reducible repeat (first | refine blk_drewN ?_ _ | refine blk_drew ?_ | refine blk_alloc ?_ _));exact BK440.out⟩,⟨hB_⟩⟩
           ·
            rw [if_neg c23] at H;exact absurd H (by simp)
         ·
          replace c17:=Bool.eq_false_iff.mpr c17;subst c17;rw [if_neg (show ¬ (false=true) by decide)] at H
          (try dsimp only at H)
          simp only [Option.some.injEq,Prod.mk.injEq] at H;obtain⟨rfl,rfl,rfl⟩:=H;have p446:0≤(x22_2:Int):=od_;have q446:x22_2<(t442.length:Int):=od_;obtain⟨ad446,e446,hx446_0⟩:=Kd.at_string (Kd.R_reads' HO_20.out).2.2 x22_2 p446 q446;cases e446;replace p446:=eq_true p446;replace q446:=eq_true q446;go_wp2_with (first | ((with_reducible refine gate_callee (f:=33) rfl ?_);refine gL_ (some 29) Tryd.func33 #[.string (rdOf ByteArray.empty t442 x22_2)] (h:=?_);(with_reducible refine (impl_LoopRead.calls (rdOf ByteArray.empty t442 x22_2) t447 false _ A16.out).mono ?_);rintro e w31 ⟨v449,rfl,ho0,hb⟩;refine⟨_,rfl,?_⟩;have HO450:=a0_ (Kd.R_lower (Kd.R_new' ho0 (Kd.R_lt (uR_ HO_441000))) (below_size hB_));replace HO_20:=rb_ HO_20 hb;replace HO_441000:=a0_ (Kd.R_elder' (uR_ HO_441000) (Kd.R_base ho0) hb);replace HO_441001:=a0_ (Kd.S_elder' (by (with_reducible repeat (first | apply Kd.S_alloc | apply Kd.S_drewN | apply Kd.S_drew));exact HO_441001.out) (Kd.R_base ho0) hb);replace BK438:=vb_ BK438 hb;replace BK440:=vb_ BK440 hb;replace HB:=sb_ HB hb;(try clear ho0 hb);have hnb32:=NB438_440.out;have hnc32:=NB440_438.out;have hcz33_0:=c20_ BK438;have hcz33_1:=c21_ BK438;have hfz33_0:=fz_ BK438 0;have hfz33_1:=fz_ BK438 1));refine bodyPost_ret (results_ct rfl _ _ gb438 26 #[.slice none 0 0,.slice none 0 0] (0,0) _ rfl (by (with_reducible repeat (first | refine blk_drewN ?_ _ | refine blk_drew ?_ | refine blk_alloc ?_ _));refine blk_put (cs:=#[.slice none 0 0,.slice none 0 0]) ?_ 1 _ rfl;(with_reducible repeat (first | refine blk_drewN ?_ _ | refine blk_drew ?_ | refine blk_alloc ?_ _));refine blk_put (cs:=#[.slice none 0 0,.slice none 0 0]) ?_ 0 _ rfl;(with_reducible repeat (first | refine blk_drewN ?_ _ | refine blk_drew ?_ | refine blk_alloc ?_ _));exact BK438.out) Tryd.underlying26 rfl (by kernel_rfl)) rfl ?_
          exact⟨_,_,rr_,by first | exact Kd.R_nil _ _ _ _ _ | exact Kd.N_nil _ _ _ _ _ | exact Kd.V_nil _ _ _ _ _ | exact Kd.Q_nil _ _ _ _ _ | exact Kd.S_nil _ _ _ _ _,by first | exact Kd.S_nil _ _ _ _ _ | exact Kd.N_nil _ _ _ _ _ | exact Kd.V_nil _ _ _ _ _ | exact Kd.Q_nil _ _ _ _ _ | exact Kd.R_nil _ _ _ _ _,hB_⟩
        ·
         rw [if_neg c15] at H;exact absurd H (by simp)
       ·
        rw [if_neg c14] at H;exact absurd H (by simp)
      ·
       rw [if_neg c13] at H;have c13b0:decide (x22_2<(t442.length:Int))=false:=decide_eq_false c13;clear c13;replace H:=Option.bind_eq_some_iff.mp H;obtain⟨t445,A340,H⟩:=H
       (try dsimp only at H)
       have A34:=Aside0.mk A340;clear A340;by_cases c35:t445=true
       ·
        subst c35;rw [if_pos rfl] at H
        (try dsimp only at H)
        simp only [Option.some.injEq,Prod.mk.injEq] at H;obtain⟨rfl,rfl,rfl⟩:=H;have hnb36:=NB440_438.out;have hnc36:=NB438_440.out;have hcz37_0:=c20_ BK440;have hcz37_1:=c21_ BK440;have hfz37_0:=fz_ BK440 0;have hfz37_1:=fz_ BK440 1;obtain⟨Ao38,co38,eo38⟩:=Kd.R_slice HO_441000.out;subst eo38;obtain⟨Ao39,co39,eo39⟩:=Kd.S_slice HO_441001.out;subst eo39;go_wp2_with (first | ((with_reducible refine gate_callee (f:=34) rfl ?_);refine gL_ (some 47) Tryd.func34 #[.agg #[.slice Ao38 x441000_2.length co38,.slice Ao39 x441001_2.length co39]] (h:=?_);(with_reducible refine (impl_PlateOk.calls _ _ x441000_2 _ _ x441001_2 true _ ?side1 ?side2 ?side3 ?side4 A34.out).mono ?_);(case side1=>repeat (first | exact (Kd.R_reads' HO_441000.out).2.2 | (with_reducible refine Kd.C_alloc ?_ _) | (with_reducible refine Kd.C_drewN ?_ _) | (with_reducible refine Kd.C_drew ?_)));(case side2=>exact (Kd.R_reads' HO_441000.out).2.1);(case side3=>repeat (first | exact (Kd.S_reads' HO_441001.out).2.2 | (with_reducible refine Kd.C_alloc ?_ _) | (with_reducible refine Kd.C_drewN ?_ _) | (with_reducible refine Kd.C_drew ?_)));(case side4=>exact (Kd.S_reads' HO_441001.out).2.1);rintro e w40 ⟨rfl,hb⟩;refine⟨_,rfl,?_⟩;replace HO_20:=rb_ HO_20 hb;replace HO_441000:=rb_ HO_441000 hb;replace HO_441001:=a0_ (Kd.S_below (by (with_reducible repeat (first | apply Kd.S_alloc | apply Kd.S_drewN | apply Kd.S_drew));exact HO_441001.out) hb);replace BK438:=vb_ BK438 hb;replace BK440:=vb_ BK440 hb;replace HB:=sb_ HB hb;(try clear hb);have hcz41_0:=c20_ BK440;have hcz41_1:=c21_ BK440;have hfz41_0:=fz_ BK440 0;have hfz41_1:=fz_ BK440 1;have hcz42_0:=c20_ BK438;have hcz42_1:=c21_ BK438;have hfz42_0:=fz_ BK438 0;have hfz42_1:=fz_ BK438 1))
        refine bodyPost_ret (results_ct rfl _ _ gb438 26 #[.slice Ao38 x441000_2.length co38,.slice Ao39 x441001_2.length co39] (0,0) _ rfl (by (with_reducible repeat (first | refine blk_drewN ?_ _ | refine blk_drew ?_ | refine blk_alloc ?_ _));refine blk_put (cs:=#[.slice Ao38 x441000_2.length co38,.slice none 0 0]) ?_ 1 _ rfl;(with_reducible repeat (first | refine blk_drewN ?_ _ | refine blk_drew ?_ | refine blk_alloc ?_ _));refine blk_put (cs:=#[.slice none 0 0,.slice none 0 0]) ?_ 0 _ rfl;(with_reducible repeat (first | refine blk_drewN ?_ _ | refine blk_drew ?_ | refine blk_alloc ?_ _));exact BK438.out) Tryd.underlying26 rfl (by kernel_rfl)) rfl ?_;exact⟨_,_,rr_,by (with_reducible repeat (first | apply Kd.R_alloc | apply Kd.R_drewN | apply Kd.R_drew));exact Kd.R_mono (Kd.R_far (p:=⟨gb438,1,none⟩) (Kd.R_far (p:=⟨gb438,0,none⟩) (Kd.R_types HO_441000.out BK438.out (by decide)) (fun _ hk=>hk.2) (.slice Ao38 x441000_2.length co38)) (fun _ hk=>hk.2) (.slice Ao39 x441001_2.length co39)) (fun _ hk=>trivial),by (with_reducible repeat (first | apply Kd.S_alloc | apply Kd.S_drewN | apply Kd.S_drew));exact Kd.S_mono (Kd.S_far (p:=⟨gb438,1,none⟩) (Kd.S_far (p:=⟨gb438,0,none⟩) (Kd.S_types HO_441001.out BK438.out (by decide)) (fun _ hk=>hk.2) (.slice Ao38 x441000_2.length co38)) (fun _ hk=>hk.2) (.slice Ao39 x441001_2.length co39)) (fun _ hk=>hk.1),hB_⟩
       ·
        replace c35:=Bool.eq_false_iff.mpr c35;subst c35;rw [if_neg (show ¬ (false=true) by decide)] at H
        (try dsimp only at H)
        simp only [Option.some.injEq,Prod.mk.injEq] at H;obtain⟨rfl,rfl,rfl⟩:=H;have hnb43:=NB440_438.out;have hnc43:=NB438_440.out;have hcz44_0:=c20_ BK440;have hcz44_1:=c21_ BK440;have hfz44_0:=fz_ BK440 0;have hfz44_1:=fz_ BK440 1;obtain⟨Ao45,co45,eo45⟩:=Kd.R_slice HO_441000.out;subst eo45;obtain⟨Ao46,co46,eo46⟩:=Kd.S_slice HO_441001.out;subst eo46;go_wp2_with (first | ((with_reducible refine gate_callee (f:=34) rfl ?_);refine gL_ (some 47) Tryd.func34 #[.agg #[.slice Ao45 x441000_2.length co45,.slice Ao46 x441001_2.length co46]] (h:=?_);(with_reducible refine (impl_PlateOk.calls _ _ x441000_2 _ _ x441001_2 false _ ?side1 ?side2 ?side3 ?side4 A34.out).mono ?_);(case side1=>repeat (first | exact (Kd.R_reads' HO_441000.out).2.2 | (with_reducible refine Kd.C_alloc ?_ _) | (with_reducible refine Kd.C_drewN ?_ _) | (with_reducible refine Kd.C_drew ?_)));(case side2=>exact (Kd.R_reads' HO_441000.out).2.1);(case side3=>repeat (first | exact (Kd.S_reads' HO_441001.out).2.2 | (with_reducible refine Kd.C_alloc ?_ _) | (with_reducible refine Kd.C_drewN ?_ _) | (with_reducible refine Kd.C_drew ?_)));(case side4=>exact (Kd.S_reads' HO_441001.out).2.1);rintro e w47 ⟨rfl,hb⟩;refine⟨_,rfl,?_⟩;replace HO_20:=rb_ HO_20 hb;replace HO_441000:=rb_ HO_441000 hb;replace HO_441001:=a0_ (Kd.S_below (by (with_reducible repeat (first | apply Kd.S_alloc | apply Kd.S_drewN | apply Kd.S_drew));exact HO_441001.out) hb);replace BK438:=vb_ BK438 hb;replace BK440:=vb_ BK440 hb;replace HB:=sb_ HB hb;(try clear hb);have hcz48_0:=c20_ BK438;have hcz48_1:=c21_ BK438;have hfz48_0:=fz_ BK438 0;have hfz48_1:=fz_ BK438 1))
        refine bodyPost_ret (results_ct rfl _ _ gb438 26 #[.slice none 0 0,.slice none 0 0] (0,0) _ rfl (by (with_reducible repeat (first | refine blk_drewN ?_ _ | refine blk_drew ?_ | refine blk_alloc ?_ _));refine blk_put (cs:=#[.slice none 0 0,.slice none 0 0]) ?_ 1 _ rfl;(with_reducible repeat (first | refine blk_drewN ?_ _ | refine blk_drew ?_ | refine blk_alloc ?_ _));refine blk_put (cs:=#[.slice none 0 0,.slice none 0 0]) ?_ 0 _ rfl;(with_reducible repeat (first | refine blk_drewN ?_ _ | refine blk_drew ?_ | refine blk_alloc ?_ _));exact BK438.out) Tryd.underlying26 rfl (by kernel_rfl)) rfl ?_;exact⟨_,_,rr_,by first | exact Kd.R_nil _ _ _ _ _ | exact Kd.N_nil _ _ _ _ _ | exact Kd.V_nil _ _ _ _ _ | exact Kd.Q_nil _ _ _ _ _ | exact Kd.S_nil _ _ _ _ _,by first | exact Kd.S_nil _ _ _ _ _ | exact Kd.N_nil _ _ _ _ _ | exact Kd.V_nil _ _ _ _ _ | exact Kd.Q_nil _ _ _ _ _ | exact Kd.R_nil _ _ _ _ _,hB_⟩
def spec_l3Edges.l0:Nat→List (S37)→List (S89)→Int→Option ((List (S89)))
 | 0,_,_,_=>none
 | k+1,x0,x3,x4=>if x4<(x0.length:Int) then (if 0≤x4 then (if (x0.length:Int)=0 then (none) else (if 0≤(Int.tmod (wrap64 (x4+1)) (x0.length:Int)) then (if (Int.tmod (wrap64 (x4+1)) (x0.length:Int))<(x0.length:Int) then (if x3.length<4398046511104 then (spec_l3Edges.l0 k x0 (x3++[(⟨(⟨(rd_T37 x0 x4).f0,(rd_T37 x0 x4).f1⟩:S37),(⟨(rd_T37 x0 (Int.tmod (wrap64 (x4+1)) (x0.length:Int))).f0,(rd_T37 x0 (Int.tmod (wrap64 (x4+1)) (x0.length:Int))).f1⟩:S37)⟩:S89)]) (wrap64 (x4+1))) else (none)) else (none)) else (none))) else (none)) else (some x3)
def spec_l3Edges.f (k:Nat)(l0:List (S37)):Option ((List (S89))):=spec_l3Edges.l0 k l0 (([]:List (S89))) 0
def spec_l3Edges.T5:Bool × List (List Nat × List Nat):=(true,[([],[]),([],[]),([],[]),([1,2],[1,2]),([3],[3]),([],[]),([],[]),([6],[6]),([],[]),([8],[8]),([7,9],[7,9]),([5,10],[5,10]),([11],[11]),([4,12],[4,12]),([13],[13]),([0,14],[0,14]),([15,15,0,1,2,3,4,5,6,7,8,9,10,11,12,13,14,15],[0,15])])
def spec_l3Edges.B5:List Nat:=[0,0,0,6,14,0,0,64,0,256,960,2016,4064,8190,16382,32767,65535]
theorem spec_l3Edges.tab5:rtab .any (opsOf Tryd.f72 5)=spec_l3Edges.T5:=by kernel_rfl
theorem spec_l3Edges.bits5:waitsOk spec_l3Edges.T5.2 spec_l3Edges.B5=true:=by kernel_rfl
set_option maxHeartbeats 8000000 in
set_option maxRecDepth 100000 in
theorem spec_l3Edges.calls (k:Nat)(A0:Option Addr)(c0:Nat)(l0:List (S37))(r:List (S89))(w:World)(hr0:Kd.C k37 w A0 l0.length l0)(hc0:l0.length≤c0)(h:spec_l3Edges.f k l0=some r):
  Calls Tryd.prog 72 #[.slice A0 l0.length c0] w fun e w'=>∃ v0_:Value,e=.returned (v0_)∧Kd.R k89 89 w' w.heap.size (fun _=>True) v0_ r∧Below w.heap.size w w':=by
 have hu37:=Tryd.underlying37;have hu89:=Tryd.underlying89;have HR0:=Aside0.mk hr0;have HC0:=Aside0.mk hc0;clear hr0 hc0;have HB:=a0_ (Below.refl w.heap.size w);have H:(spec_l3Edges.l0 k l0 (([]:List (S89))) 0)=some r:=h;clear h;obtain⟨y124,hy124⟩:∃ y_:List (S89),y_=(([]:List (S89))):=⟨_,rfl⟩;replace H:(spec_l3Edges.l0 k l0 y124 0)=some r:=by first | (rw [hy124];with_reducible exact H) | (have H2_:=(Option.bind_some _ _).symm.trans H;rw [hy124];with_reducible exact H2_) | (have H2_:=(Option.bind_some _ _).symm.trans H;with_reducible exact H2_) | with_reducible exact H | (rw [hy124];exact H) | exact H
 have Ny124:=Aside0.mk hy124;clear hy124;have H':=Aside0.mk H;clear H;go_enter Tryd.func72,Tryd.ntmps72;go_wp2_with (first | ((with_reducible refine gate_dst (N:=5) rfl ?_);refine Kd.R_lit k89 _ 89 ?hg (N:=5) ?hd (xs:=([]:List (S89))) (inner:=[]) (ok:=fun _=>True) (okp:=fun _=>True) ?hr ?hp (fun _ hk=>hk) trivial (Below.refl _ _) (Nat.le_refl _) (by simp) ?_;(case hd=>rfl);(case hg=>rfl);(case hr=>first | (go_simp;done) | (go_simp;rfl));(case hp=>exact (Reps.none _ _));intro v125 w2 ho3 hb hg_ hnew_;clear hg_ hnew_;(first | rw [← Ny124.out] at ho3 | (simp only [Int.reduceToNat] at ho3;rw [← Ny124.out] at ho3));have HO126:=a0_ (Kd.R_lower ho3 (below_size hB_));replace HB:=sb_ HB hb;clear hb ho3));go_loopg [3,4] k (fun kq v3 v4 w'=>∃ (x3_1:List (S89)) (x4_1:Int),v4=.int .i64 x4_1∧Aside0 (spec_l3Edges.l0 kq l0 x3_1 x4_1=some r)∧Aside0 (kq≤k)∧Aside0 (Kd.R k89 89 w' w.heap.size (fun _=>True) v3 x3_1)∧Aside0 (Below w.heap.size w w'))
 case atStart=>exact⟨(y124),(0),(by first | rfl | (simp;done) | (simp [*];done)),H',⟨Nat.le_refl _⟩,⟨by (with_reducible repeat (first | apply Kd.R_alloc | apply Kd.R_drewN | apply Kd.R_drew));exact HO126.out⟩,⟨hB_⟩⟩
 case round =>
  clear H';obtain⟨x3_1,x4_1,rfl,HA,HK1,HO_3,HB⟩:=hrel
  cases gk with
  | zero=>exact absurd HA.out (by simp [spec_l3Edges.l0])
  | succ k1 =>
   have H:=HA.out;clear HA;simp only [spec_l3Edges.l0] at H;by_cases c4:x4_1<(l0.length:Int)
   ·
    rw [if_pos c4] at H;have c4b0:decide (x4_1<(l0.length:Int))=true:=decide_eq_true c4;clear c4;by_cases c5:0≤x4_1
    ·
     rw [if_pos c5] at H;have c5b0:decide (0≤x4_1)=true:=decide_eq_true c5;clear c5;by_cases c6:(l0.length:Int)=0
     ·
      rw [if_pos c6] at H;exact absurd H (by simp)
     ·
      rw [if_neg c6] at H;have c6b0:((l0.length:Int)==0)=false:=beq_eq_false_iff_ne.mpr c6;have c6b1:((l0.length:Int) != 0)=true:=bne_iff_ne.mpr c6;have c6b2:¬ (l0=[]):=fun h_=>c6 (by rw [h_];rfl)
      obtain⟨ji7,hji7⟩:∃ j_:Int,(Int.tmod (wrap64 (x4_1+1)) (l0.length:Int))=j_:=⟨_,rfl⟩;replace H:(if 0≤(ji7) then (if (ji7)<(l0.length:Int) then (if x3_1.length<4398046511104 then (spec_l3Edges.l0 k1 l0 (x3_1++[(⟨(⟨(rd_T37 l0 x4_1).f0,(rd_T37 l0 x4_1).f1⟩:S37),(⟨(rd_T37 l0 (ji7)).f0,(rd_T37 l0 (ji7)).f1⟩:S37)⟩:S89)]) (wrap64 (x4_1+1))) else (none)) else (none)) else (none))=some r:=by first | (rw [hji7] at H;exact H) | (simp only [hji7] at H ⊢;exact H)
      by_cases c8:0≤(ji7)
      ·
       rw [if_pos c8] at H;have c8b0:decide (0≤(ji7))=true:=decide_eq_true c8;clear c8;by_cases c9:(ji7)<(l0.length:Int)
       ·
        rw [if_pos c9] at H;have c9b0:decide ((ji7)<(l0.length:Int))=true:=decide_eq_true c9;clear c9;by_cases c10:x3_1.length<4398046511104
        ·
         rw [if_pos c10] at H;have LMc10:=Aside0.mk c10;clear c10;obtain⟨y129,hy129⟩:∃ y_:List (S89),y_=(x3_1++[(⟨(⟨(rd_T37 l0 x4_1).f0,(rd_T37 l0 x4_1).f1⟩:S37),(⟨(rd_T37 l0 (ji7)).f0,(rd_T37 l0 (ji7)).f1⟩:S37)⟩:S89)]):=⟨_,rfl⟩;replace H:(spec_l3Edges.l0 k1 l0 y129 (wrap64 (x4_1+1)))=some r:=by first | (rw [hy129];with_reducible exact H) | (have H2_:=(Option.bind_some _ _).symm.trans H;rw [hy129];with_reducible exact H2_) | (have H2_:=(Option.bind_some _ _).symm.trans H;with_reducible exact H2_) | with_reducible exact H | (rw [hy129];exact H) | exact H
         have Ny129:=Aside0.mk hy129;clear hy129;have H':=Aside0.mk H;clear H
         try go_wp2
         replace HO_3:=a0_ (Kd.R_drew HO_3.out);replace HB:=a0_ (below_drew1 HB.out);have p127:0≤(x4_1:Int):=od_;have q127:x4_1<(l0.length:Int):=od_;obtain⟨ad127,e127,hx127_0,hx127_1⟩:=at_T37 HR0.out x4_1 p127 q127;have hw127_1:=hx127_1;have hw127_0:=hx127_0;cases e127;replace hx127_0:=ce_ HB hx127_0;replace hx127_1:=ce_ HB hx127_1;replace p127:=eq_true p127;replace q127:=eq_true q127;have p128:0≤((ji7):Int):=od_;have q128:(ji7)<(l0.length:Int):=od_;obtain⟨ad128,e128,hx128_0,hx128_1⟩:=at_T37 HR0.out (ji7) p128 q128;have hw128_1:=hx128_1;have hw128_0:=hx128_0;obtain rfl:ad127=ad128:=(by injection e128);replace hx128_0:=ce_ HB hx128_0;replace hx128_1:=ce_ HB hx128_1;replace p128:=eq_true p128;replace q128:=eq_true q128;refine start_ (n:=17) (S:=fun w'=>w'.cell? (ad127.add ((x4_1).toNat*2))=some (.int .i64 ((rd_T37 l0 x4_1).f0))∧w'.cell? ⟨(ad127.add ((x4_1).toNat*2)).block,(ad127.add ((x4_1).toNat*2)).off+1,none⟩=some (.int .i64 ((rd_T37 l0 x4_1).f1))∧w'.cell? (ad127.add (((ji7)).toNat*2))=some (.int .i64 ((rd_T37 l0 (ji7)).f0))∧w'.cell? ⟨(ad127.add (((ji7)).toNat*2)).block,(ad127.add (((ji7)).toNat*2)).off+1,none⟩=some (.int .i64 ((rd_T37 l0 (ji7)).f1))) (ds:=[]) (Array.replicate 17 false) (by kernel_rfl) rfl rfl ⟨(ce_ HB hw127_0),(ce_ HB hw127_1),(ce_ HB hw128_0),(ce_ HB hw128_1)⟩ (fun hHeld=>?_);refine with_tabW spec_l3Edges.tab5 spec_l3Edges.bits5 (fun HT_ HW_=>?_);generalize wr.drew=w11 at HO_3 HB hx127_0 hx127_1 hx128_0 hx128_1 hHeld ⊢
         refine pu_ HT_ 0 12 (bm 17 1) ?_;refine pu_ HT_ 1 13 (bm 17 3) ?_;refine pu_ HT_ 2 14 (bm 17 7) ?_;refine pu_ HT_ 3 15 (bm 17 15) ?_;refine pu_ HT_ 5 17 (bm 17 47) ?_;refine pu_ HT_ 6 18 (bm 17 111) ?_;refine pu_ HT_ 7 19 (bm 17 239) ?_;refine pu_ HT_ 8 20 (bm 17 495) ?_;refine pu_ HT_ 9 21 (bm 17 1007) ?_;refine pu_ HT_ 10 22 (bm 17 2031) ?_;refine pu_ HT_ 11 23 (bm 17 4079) ?_;refine ta4_ HT_ HW_ 4 16 (bm 17 4095) hHeld ?_;refine ta4_ HT_ HW_ 12 24 (bm 17 8191) hHeld ?_;refine pu_ HT_ 13 25 (bm 17 16383) ?_;refine one_ (i:=14) (N:=some 26) (bm 17 32767) rfl rfl (one_of HT_.out (by kernel_rfl)) (by decide) (fun K hK=>?_);refine value_ (w1:=?_) (v:=?_) (by rfl) rfl ?_ ?_;rotate_left 2
         ·
          go_simp;constructor
          ·
           rfl
          ·
           rfl
         refine hK.out _ _ ⟨(World.cell?_alloc_lt _ _ _ (World.block_lt_of_cell? _ _ ((ce_ HB hw127_0)))).trans ((ce_ HB hw127_0)),(World.cell?_alloc_lt _ _ _ (World.block_lt_of_cell? _ _ ((ce_ HB hw127_1)))).trans ((ce_ HB hw127_1)),(World.cell?_alloc_lt _ _ _ (World.block_lt_of_cell? _ _ ((ce_ HB hw128_0)))).trans ((ce_ HB hw128_0)),(World.cell?_alloc_lt _ _ _ (World.block_lt_of_cell? _ _ ((ce_ HB hw128_1)))).trans ((ce_ HB hw128_1))⟩ (fun hHeld=>?_);clear hK K;refine no_ (h:=?_);refine one_ (i:=15) (N:=some 27) (bm 17 65535) rfl rfl (one_of HT_.out (by kernel_rfl)) (by decide) (fun K hK=>?_);refine Kd.R_append_step k89 (w0:=w) w.heap.size (by rfl) (.tmp 12) (.tmp 26) 56 89 (.agg #[(.int .i64 0),(.int .i64 0),(.int .i64 0),(.int .i64 0)]) 32 rfl Tryd.underlying56 info89 rfl (by decide) (by omega) u3 x3_1 (⟨(⟨(rd_T37 l0 x4_1).f0,(rd_T37 l0 x4_1).f1⟩:S37),(⟨(rd_T37 l0 (ji7)).f0,(rd_T37 l0 (ji7)).f1⟩:S37)⟩:S89) [.int .i64 ((rd_T37 l0 x4_1).f0),.int .i64 ((rd_T37 l0 x4_1).f1),.int .i64 ((rd_T37 l0 (ji7)).f0),.int .i64 ((rd_T37 l0 (ji7)).f1)] (fun _=>True) (fun _=>False) rfl rfl ?aP (fun _ hk=>hk.elim) ?aF ?aO ?aB ?aS ?aL ?_
         (case aP=>exact k89_mkM _ _ _ (⟨(⟨(rd_T37 l0 x4_1).f0,(rd_T37 l0 x4_1).f1⟩:S37),(⟨(rd_T37 l0 (ji7)).f0,(rd_T37 l0 (ji7)).f1⟩:S37)⟩:S89))
         (case aB=>exact hB_)
         (case aF=>exact (fun _ _=>trivial))
         (case aO=>exact (uR_ HO_3))
         (case aS=>exact (below_size hB_))
         (case aL=>have:=LMc10.out;omega)
         intro v130 w12 ho hb hg hat;rw [← Ny129.out] at ho;have HO131:=a0_ (ho);replace HB:=a0_ (hb);clear HO_3;clear ho hb hg hat;refine hK.out _ _ ⟨(ce_ HB hw127_0),(ce_ HB hw127_1),(ce_ HB hw128_0),(ce_ HB hw128_1)⟩ (fun hHeld=>?_);clear hK K;refine no_ (h:=?_);refine pu_ HT_ 16 3 (bm 17 131071) ?_;refine done_ (done_of HT_.out (by kernel_rfl)) ?_
         try go_wp2
         go_roundg k1
         case measure=>have:=HK1.out;omega
         case rel=>exact⟨(y129),(wrap64 (x4_1+1)),(by first | rfl | (simp;done) | (simp [*];done)),H',⟨by have:=HK1.out;omega⟩,⟨by (with_reducible repeat (first | apply Kd.R_alloc | apply Kd.R_drewN | apply Kd.R_drew));exact HO131.out⟩,⟨hB_⟩⟩
        ·
         rw [if_neg c10] at H;exact absurd H (by simp)
       ·
        rw [if_neg c9] at H;exact absurd H (by simp)
      ·
       rw [if_neg c8] at H;exact absurd H (by simp)
    ·
     rw [if_neg c5] at H;exact absurd H (by simp)
   ·
    rw [if_neg c4] at H;have c4b0:decide (x4_1<(l0.length:Int))=false:=decide_eq_false c4;clear c4;obtain rfl:=Option.some.inj H;go_wp2;go_ret;exact⟨_,rr_,by (with_reducible repeat (first | apply Kd.R_alloc | apply Kd.R_drewN | apply Kd.R_drew));exact HO_3.out,hB_⟩
def spec_l2Meet.f (a0_0:Int)(a0_1:Int)(a0_2:Int)(a0_3:Int)(a1_0:Int)(a1_1:Int)(a1_2:Int)(a1_3:Int):Option (Bool):=(spec_l2Cross.f a0_0 a0_1 a0_2 a0_3 a1_0 a1_1).bind fun t217=>((spec_l2Sign.f t217).bind fun t218=>((spec_l2Cross.f a0_0 a0_1 a0_2 a0_3 a1_2 a1_3).bind fun t219=>((spec_l2Sign.f t219).bind fun t220=>((spec_l2Cross.f a1_0 a1_1 a1_2 a1_3 a0_0 a0_1).bind fun t221=>((spec_l2Sign.f t221).bind fun t222=>((spec_l2Cross.f a1_0 a1_1 a1_2 a1_3 a0_2 a0_3).bind fun t223=>((spec_l2Sign.f t223).bind fun t224=>(if (wrap64 (t218*t220))<0 then (if (wrap64 (t222*t224))<0 then (some true) else ((spec_l2Has.f a0_0 a0_1 a0_2 a0_3 a1_0 a1_1).bind fun t225=>(if t225=true then (some true) else ((spec_l2Has.f a0_0 a0_1 a0_2 a0_3 a1_2 a1_3).bind fun t226=>(if t226=true then (some true) else ((spec_l2Has.f a1_0 a1_1 a1_2 a1_3 a0_0 a0_1).bind fun t227=>(if t227=true then (some true) else ((spec_l2Has.f a1_0 a1_1 a1_2 a1_3 a0_2 a0_3).bind fun t228=>(some t228))))))))) else ((spec_l2Has.f a0_0 a0_1 a0_2 a0_3 a1_0 a1_1).bind fun t229=>(if t229=true then (some true) else ((spec_l2Has.f a0_0 a0_1 a0_2 a0_3 a1_2 a1_3).bind fun t230=>(if t230=true then (some true) else ((spec_l2Has.f a1_0 a1_1 a1_2 a1_3 a0_0 a0_1).bind fun t231=>(if t231=true then (some true) else ((spec_l2Has.f a1_0 a1_1 a1_2 a1_3 a0_2 a0_3).bind fun t232=>(some t232))))))))))))))))
def spec_l2Meet.T1:Bool × List (List Nat × List Nat):=(true,[([],[]),([0],[0]),([],[]),([2],[2]),([],[]),([4],[4]),([1,3,5],[1,3,5]),([6,6],[6]),([],[]),([8],[8]),([],[]),([10],[10]),([],[]),([12],[12]),([9,11,13,7],[9,11,13]),([14,14],[14]),([7,15],[7,15]),([16,15,0,1,2,3,4,5,6,7,8,9,10,11,12,13,14,15,16],[16])])
def spec_l2Meet.B1:List Nat:=[0,1,0,4,0,16,63,127,0,256,0,1024,0,4096,16383,32767,65535,131071]
theorem spec_l2Meet.tab1:rtab .any (opsOf Tryd.f75 1)=spec_l2Meet.T1:=by kernel_rfl
theorem spec_l2Meet.bits1:waitsOk spec_l2Meet.T1.2 spec_l2Meet.B1=true:=by kernel_rfl
def spec_l2Meet.T2:Bool × List (List Nat × List Nat):=(true,[([],[]),([0],[0]),([],[]),([2],[2]),([],[]),([4],[4]),([1,3,5],[1,3,5]),([6,6],[6]),([],[]),([8],[8]),([],[]),([10],[10]),([],[]),([12],[12]),([9,11,13,7],[9,11,13]),([14,14],[14]),([7,15],[7,15]),([16,15,0,1,2,3,4,5,6,7,8,9,10,11,12,13,14,15,16],[16])])
def spec_l2Meet.B2:List Nat:=[0,1,0,4,0,16,63,127,0,256,0,1024,0,4096,16383,32767,65535,131071]
theorem spec_l2Meet.tab2:rtab .any (opsOf Tryd.f75 2)=spec_l2Meet.T2:=by kernel_rfl
theorem spec_l2Meet.bits2:waitsOk spec_l2Meet.T2.2 spec_l2Meet.B2=true:=by kernel_rfl
set_option maxHeartbeats 8000000 in
set_option maxRecDepth 100000 in
theorem spec_l2Meet.calls (a0_0:Int)(a0_1:Int)(a0_2:Int)(a0_3:Int)(a1_0:Int)(a1_1:Int)(a1_2:Int)(a1_3:Int)(r:Bool)(w:World)(h:spec_l2Meet.f a0_0 a0_1 a0_2 a0_3 a1_0 a1_1 a1_2 a1_3=some r):
  Calls Tryd.prog 75 #[.agg #[.int .i64 a0_0,.int .i64 a0_1,.int .i64 a0_2,.int .i64 a0_3],.agg #[.int .i64 a1_0,.int .i64 a1_1,.int .i64 a1_2,.int .i64 a1_3]] w fun e w'=>e=.returned (.bool r)∧Below w.heap.size w w':=by
 have hu89:=Tryd.underlying89;have hu37:=Tryd.underlying37;have HB:=a0_ (Below.refl w.heap.size w);have H:((spec_l2Cross.f a0_0 a0_1 a0_2 a0_3 a1_0 a1_1).bind fun t217=>((spec_l2Sign.f t217).bind fun t218=>((spec_l2Cross.f a0_0 a0_1 a0_2 a0_3 a1_2 a1_3).bind fun t219=>((spec_l2Sign.f t219).bind fun t220=>((spec_l2Cross.f a1_0 a1_1 a1_2 a1_3 a0_0 a0_1).bind fun t221=>((spec_l2Sign.f t221).bind fun t222=>((spec_l2Cross.f a1_0 a1_1 a1_2 a1_3 a0_2 a0_3).bind fun t223=>((spec_l2Sign.f t223).bind fun t224=>(if (wrap64 (t218*t220))<0 then (if (wrap64 (t222*t224))<0 then (some true) else ((spec_l2Has.f a0_0 a0_1 a0_2 a0_3 a1_0 a1_1).bind fun t225=>(if t225=true then (some true) else ((spec_l2Has.f a0_0 a0_1 a0_2 a0_3 a1_2 a1_3).bind fun t226=>(if t226=true then (some true) else ((spec_l2Has.f a1_0 a1_1 a1_2 a1_3 a0_0 a0_1).bind fun t227=>(if t227=true then (some true) else ((spec_l2Has.f a1_0 a1_1 a1_2 a1_3 a0_2 a0_3).bind fun t228=>(some t228))))))))) else ((spec_l2Has.f a0_0 a0_1 a0_2 a0_3 a1_0 a1_1).bind fun t229=>(if t229=true then (some true) else ((spec_l2Has.f a0_0 a0_1 a0_2 a0_3 a1_2 a1_3).bind fun t230=>(if t230=true then (some true) else ((spec_l2Has.f a1_0 a1_1 a1_2 a1_3 a0_0 a0_1).bind fun t231=>(if t231=true then (some true) else ((spec_l2Has.f a1_0 a1_1 a1_2 a1_3 a0_2 a0_3).bind fun t232=>(some t232)))))))))))))))))=some r:=h;clear h;replace H:=Option.bind_eq_some_iff.mp H;obtain⟨t217,A30,H⟩:=H
 (try dsimp only at H)
 have A3:=Aside0.mk A30;clear A30;replace H:=Option.bind_eq_some_iff.mp H;obtain⟨t218,A40,H⟩:=H
 (try dsimp only at H)
 have A4:=Aside0.mk A40;clear A40;replace H:=Option.bind_eq_some_iff.mp H;obtain⟨t219,A50,H⟩:=H
 (try dsimp only at H)
 have A5:=Aside0.mk A50;clear A50;replace H:=Option.bind_eq_some_iff.mp H;obtain⟨t220,A60,H⟩:=H
 (try dsimp only at H)
 have A6:=Aside0.mk A60;clear A60;replace H:=Option.bind_eq_some_iff.mp H;obtain⟨t221,A70,H⟩:=H
 (try dsimp only at H)
 have A7:=Aside0.mk A70;clear A70;replace H:=Option.bind_eq_some_iff.mp H;obtain⟨t222,A80,H⟩:=H
 (try dsimp only at H)
 have A8:=Aside0.mk A80;clear A80;replace H:=Option.bind_eq_some_iff.mp H;obtain⟨t223,A90,H⟩:=H
 (try dsimp only at H)
 have A9:=Aside0.mk A90;clear A90;replace H:=Option.bind_eq_some_iff.mp H;obtain⟨t224,A100,H⟩:=H
 (try dsimp only at H)
 have A10:=Aside0.mk A100;clear A100;go_enter Tryd.func75,Tryd.ntmps75
 try go_wp2_with (first | ((with_reducible refine gate_dst (N:=2) rfl ?_);refine bx_ (N:=2) (cs:=#[.int .i64 a0_0,.int .i64 a0_1,.int .i64 a0_2,.int .i64 a0_3]) (t:=89) (h:=?_);intro gb215 hg w13 hbox hb;have BK215:=a0_ (hbox);have GW215:=gh_ HB hg;have GE215:=gh_ HB hg;replace HB:=sb_ HB hb;clear hb hbox hg) | ((with_reducible refine gate_dst (N:=3) rfl ?_);refine bx_ (N:=3) (cs:=#[.int .i64 a1_0,.int .i64 a1_1,.int .i64 a1_2,.int .i64 a1_3]) (t:=89) (h:=?_);intro gb216 hg w14 hbox hb;have BK216:=a0_ (hbox);have GW216:=gh_ HB hg;have GE216:=gh_ HB hg;have NB215_216:=nl_ BK215 hg;have NB216_215:=nr_ BK215 hg;replace BK215:=vb_ BK215 hb;replace HB:=sb_ HB hb;clear hb hbox hg))
 replace BK215:=a0_ (blk_drew BK215.out);replace BK216:=a0_ (blk_drew BK216.out);replace HB:=a0_ (below_drew1 HB.out);refine start_ (n:=18) (S:=fun w'=>w'.cell? ⟨gb215,0,none⟩=some (.int .i64 a0_0)∧w'.cell? ⟨gb215,1,none⟩=some (.int .i64 a0_1)∧w'.cell? ⟨gb215,2,none⟩=some (.int .i64 a0_2)∧w'.cell? ⟨gb215,3,none⟩=some (.int .i64 a0_3)∧w'.cell? ⟨gb216,0,none⟩=some (.int .i64 a1_0)∧w'.cell? ⟨gb216,1,none⟩=some (.int .i64 a1_1)∧w'.cell? ⟨gb216,2,none⟩=some (.int .i64 a1_2)∧w'.cell? ⟨gb216,3,none⟩=some (.int .i64 a1_3)) (ds:=[]) (Array.replicate 18 false) (by kernel_rfl) rfl rfl ⟨bc_,bc_,bc_,bc_,bc_,bc_,bc_,bc_⟩ (fun hHeld=>?_);refine with_tabW spec_l2Meet.tab1 spec_l2Meet.bits1 (fun HT_ HW_=>?_);generalize w14.drew=w15 at BK215 BK216 HB hHeld ⊢
 refine pu_ HT_ 0 7 (bm 18 1) ?_;refine pu_ HT_ 2 9 (bm 18 5) ?_;refine pu_ HT_ 4 11 (bm 18 21) ?_;refine pu_ HT_ 8 15 (bm 18 277) ?_;refine pu_ HT_ 10 17 (bm 18 1301) ?_;refine pu_ HT_ 12 19 (bm 18 5397) ?_;refine ta8_ HT_ HW_ 1 8 (bm 18 5399) hHeld ?_;refine ta8_ HT_ HW_ 3 10 (bm 18 5407) hHeld ?_;refine ta8_ HT_ HW_ 5 12 (bm 18 5439) hHeld ?_;refine ta8_ HT_ HW_ 9 16 (bm 18 5951) hHeld ?_;refine ta8_ HT_ HW_ 11 18 (bm 18 7999) hHeld ?_;refine ta8_ HT_ HW_ 13 20 (bm 18 16191) hHeld ?_;refine one_ (i:=6) (N:=some 13) (bm 18 16255) rfl rfl (one_of HT_.out (by kernel_rfl)) (by decide) (fun K hK=>?_);refine goes_ Tryd.func76 (by kernel_rfl) rfl #[.agg #[.int .i64 a0_0,.int .i64 a0_1],.agg #[.int .i64 a0_2,.int .i64 a0_3],.agg #[.int .i64 a1_0,.int .i64 a1_1]] (by rfl) rfl rfl ma_ ?_
 with_reducible refine (spec_l2Cross.calls a0_0 a0_1 a0_2 a0_3 a1_0 a1_1 t217 _ A3.out).mono ?_
 rintro e w16 ⟨rfl,hb⟩;refine⟨_,rfl,?_⟩;replace BK215:=vb_ BK215 hb;replace BK216:=vb_ BK216 hb;replace HB:=sb_ HB hb
 (try clear hb)
 (try clear hb2)
 (try clear hk)
 (try clear hi)
 refine hK.out _ _ ⟨bc_,bc_,bc_,bc_,bc_,bc_,bc_,bc_⟩ (fun hHeld=>?_);clear hK K;refine no_ (h:=?_);refine one_ (i:=7) (N:=some 14) (bm 18 16383) rfl rfl (one_of HT_.out (by kernel_rfl)) (by decide) (fun K hK=>?_);refine goes_ Tryd.func91 (by kernel_rfl) rfl #[.int .i64 t217] (by rfl) rfl rfl ma_ ?_
 with_reducible refine (spec_l2Sign.calls t217 t218 _ A4.out).mono ?_
 rintro e w' ⟨rfl,⟨nd,rfl⟩⟩;refine⟨_,rfl,?_⟩;refine hK.out _ _ ⟨bc_,bc_,bc_,bc_,bc_,bc_,bc_,bc_⟩ (fun hHeld=>?_);clear hK K;refine no_ (h:=?_);refine one_ (i:=14) (N:=some 21) (bm 18 32767) rfl rfl (one_of HT_.out (by kernel_rfl)) (by decide) (fun K hK=>?_);refine goes_ Tryd.func76 (by kernel_rfl) rfl #[.agg #[.int .i64 a0_0,.int .i64 a0_1],.agg #[.int .i64 a0_2,.int .i64 a0_3],.agg #[.int .i64 a1_2,.int .i64 a1_3]] (by rfl) rfl rfl ma_ ?_
 with_reducible refine (spec_l2Cross.calls a0_0 a0_1 a0_2 a0_3 a1_2 a1_3 t219 _ A5.out).mono ?_
 rintro e w17 ⟨rfl,hb⟩;refine⟨_,rfl,?_⟩;replace BK215:=vb_ BK215 hb;replace BK216:=vb_ BK216 hb;replace HB:=sb_ HB hb
 (try clear hb)
 (try clear hb2)
 (try clear hk)
 (try clear hi)
 refine hK.out _ _ ⟨bc_,bc_,bc_,bc_,bc_,bc_,bc_,bc_⟩ (fun hHeld=>?_);clear hK K;refine no_ (h:=?_);refine one_ (i:=15) (N:=some 22) (bm 18 65535) rfl rfl (one_of HT_.out (by kernel_rfl)) (by decide) (fun K hK=>?_);refine goes_ Tryd.func91 (by kernel_rfl) rfl #[.int .i64 t219] (by rfl) rfl rfl ma_ ?_
 with_reducible refine (spec_l2Sign.calls t219 t220 _ A6.out).mono ?_
 rintro e w' ⟨rfl,⟨nd,rfl⟩⟩;refine⟨_,rfl,?_⟩;refine hK.out _ _ ⟨bc_,bc_,bc_,bc_,bc_,bc_,bc_,bc_⟩ (fun hHeld=>?_);clear hK K;refine no_ (h:=?_);refine pu_ HT_ 16 23 (bm 18 131071) ?_;refine pu_ HT_ 17 5 (bm 18 262143) ?_;refine done_ (done_of HT_.out (by kernel_rfl)) ?_
 try go_wp2
 (try (rw [drewN_self w17];generalize hq_:World.drewN w17 _=w17;have n0_:Aside0 (w17.heap[gb215]?=some (.cells #[.int .i64 a0_0,.int .i64 a0_1,.int .i64 a0_2,.int .i64 a0_3] 89 (0,0))):=⟨by rw [← hq_];exact uq_⟩;have n1_:Aside0 (w17.heap[gb216]?=some (.cells #[.int .i64 a1_0,.int .i64 a1_1,.int .i64 a1_2,.int .i64 a1_3] 89 (0,0))):=⟨by rw [← hq_];exact uq_⟩;have n2_:Aside0 (Below w.heap.size w w17):=⟨by rw [← hq_];exact hB_⟩;clear BK215 BK216 HB hq_;have BK215:=n0_;have BK216:=n1_;have HB:=n2_;clear n0_ n1_ n2_))
 replace BK215:=a0_ (blk_drew BK215.out);replace BK216:=a0_ (blk_drew BK216.out);replace HB:=a0_ (below_drew1 HB.out);refine start_ (n:=18) (S:=fun w'=>w'.cell? ⟨gb216,0,none⟩=some (.int .i64 a1_0)∧w'.cell? ⟨gb216,1,none⟩=some (.int .i64 a1_1)∧w'.cell? ⟨gb216,2,none⟩=some (.int .i64 a1_2)∧w'.cell? ⟨gb216,3,none⟩=some (.int .i64 a1_3)∧w'.cell? ⟨gb215,0,none⟩=some (.int .i64 a0_0)∧w'.cell? ⟨gb215,1,none⟩=some (.int .i64 a0_1)∧w'.cell? ⟨gb215,2,none⟩=some (.int .i64 a0_2)∧w'.cell? ⟨gb215,3,none⟩=some (.int .i64 a0_3)) (ds:=[]) (Array.replicate 18 false) (by kernel_rfl) rfl rfl ⟨bc_,bc_,bc_,bc_,bc_,bc_,bc_,bc_⟩ (fun hHeld=>?_);refine with_tabW spec_l2Meet.tab2 spec_l2Meet.bits2 (fun HT_ HW_=>?_);generalize w17.drew=w18 at BK215 BK216 HB hHeld ⊢
 refine pu_ HT_ 0 24 (bm 18 1) ?_;refine pu_ HT_ 2 26 (bm 18 5) ?_;refine pu_ HT_ 4 28 (bm 18 21) ?_;refine pu_ HT_ 8 32 (bm 18 277) ?_;refine pu_ HT_ 10 34 (bm 18 1301) ?_;refine pu_ HT_ 12 36 (bm 18 5397) ?_;refine ta8_ HT_ HW_ 1 25 (bm 18 5399) hHeld ?_;refine ta8_ HT_ HW_ 3 27 (bm 18 5407) hHeld ?_;refine ta8_ HT_ HW_ 5 29 (bm 18 5439) hHeld ?_;refine ta8_ HT_ HW_ 9 33 (bm 18 5951) hHeld ?_;refine ta8_ HT_ HW_ 11 35 (bm 18 7999) hHeld ?_;refine ta8_ HT_ HW_ 13 37 (bm 18 16191) hHeld ?_;refine one_ (i:=6) (N:=some 30) (bm 18 16255) rfl rfl (one_of HT_.out (by kernel_rfl)) (by decide) (fun K hK=>?_);refine goes_ Tryd.func76 (by kernel_rfl) rfl #[.agg #[.int .i64 a1_0,.int .i64 a1_1],.agg #[.int .i64 a1_2,.int .i64 a1_3],.agg #[.int .i64 a0_0,.int .i64 a0_1]] (by rfl) rfl rfl ma_ ?_
 with_reducible refine (spec_l2Cross.calls a1_0 a1_1 a1_2 a1_3 a0_0 a0_1 t221 _ A7.out).mono ?_
 rintro e w19 ⟨rfl,hb⟩;refine⟨_,rfl,?_⟩;replace BK215:=vb_ BK215 hb;replace BK216:=vb_ BK216 hb;replace HB:=sb_ HB hb
 (try clear hb)
 (try clear hb2)
 (try clear hk)
 (try clear hi)
 refine hK.out _ _ ⟨bc_,bc_,bc_,bc_,bc_,bc_,bc_,bc_⟩ (fun hHeld=>?_);clear hK K;refine no_ (h:=?_);refine one_ (i:=7) (N:=some 31) (bm 18 16383) rfl rfl (one_of HT_.out (by kernel_rfl)) (by decide) (fun K hK=>?_);refine goes_ Tryd.func91 (by kernel_rfl) rfl #[.int .i64 t221] (by rfl) rfl rfl ma_ ?_
 with_reducible refine (spec_l2Sign.calls t221 t222 _ A8.out).mono ?_
 rintro e w' ⟨rfl,⟨nd,rfl⟩⟩;refine⟨_,rfl,?_⟩;refine hK.out _ _ ⟨bc_,bc_,bc_,bc_,bc_,bc_,bc_,bc_⟩ (fun hHeld=>?_);clear hK K;refine no_ (h:=?_);refine one_ (i:=14) (N:=some 38) (bm 18 32767) rfl rfl (one_of HT_.out (by kernel_rfl)) (by decide) (fun K hK=>?_);refine goes_ Tryd.func76 (by kernel_rfl) rfl #[.agg #[.int .i64 a1_0,.int .i64 a1_1],.agg #[.int .i64 a1_2,.int .i64 a1_3],.agg #[.int .i64 a0_2,.int .i64 a0_3]] (by rfl) rfl rfl ma_ ?_
 with_reducible refine (spec_l2Cross.calls a1_0 a1_1 a1_2 a1_3 a0_2 a0_3 t223 _ A9.out).mono ?_
 rintro e w20 ⟨rfl,hb⟩;refine⟨_,rfl,?_⟩;replace BK215:=vb_ BK215 hb;replace BK216:=vb_ BK216 hb;replace HB:=sb_ HB hb
 (try clear hb)
 (try clear hb2)
 (try clear hk)
 (try clear hi)
 refine hK.out _ _ ⟨bc_,bc_,bc_,bc_,bc_,bc_,bc_,bc_⟩ (fun hHeld=>?_);clear hK K;refine no_ (h:=?_);refine one_ (i:=15) (N:=some 39) (bm 18 65535) rfl rfl (one_of HT_.out (by kernel_rfl)) (by decide) (fun K hK=>?_);refine goes_ Tryd.func91 (by kernel_rfl) rfl #[.int .i64 t223] (by rfl) rfl rfl ma_ ?_
 with_reducible refine (spec_l2Sign.calls t223 t224 _ A10.out).mono ?_
 rintro e w' ⟨rfl,⟨nd,rfl⟩⟩;refine⟨_,rfl,?_⟩;refine hK.out _ _ ⟨bc_,bc_,bc_,bc_,bc_,bc_,bc_,bc_⟩ (fun hHeld=>?_);clear hK K;refine no_ (h:=?_);refine pu_ HT_ 16 40 (bm 18 131071) ?_;refine pu_ HT_ 17 6 (bm 18 262143) ?_;refine done_ (done_of HT_.out (by kernel_rfl)) ?_;by_cases c11:(wrap64 (t218*t220))<0
 ·
  rw [if_pos c11] at H;have c11b0:decide ((wrap64 (t218*t220))<0)=true:=decide_eq_true c11;clear c11;by_cases c12:(wrap64 (t222*t224))<0
  ·
   rw [if_pos c12] at H;have c12b0:decide ((wrap64 (t222*t224))<0)=true:=decide_eq_true c12;clear c12;obtain rfl:=Option.some.inj H
   try go_wp2
   go_ret;exact⟨rr_,hB_⟩
  ·
   rw [if_neg c12] at H;have c12b0:decide ((wrap64 (t222*t224))<0)=false:=decide_eq_false c12;clear c12;replace H:=Option.bind_eq_some_iff.mp H;obtain⟨t225,A210,H⟩:=H
   (try dsimp only at H)
   have A21:=Aside0.mk A210;clear A210;by_cases c22:t225=true
   ·
    subst c22;rw [if_pos rfl] at H
    (try dsimp only at H)
    obtain rfl:=Option.some.inj H;have hnb31:=NB215_216.out;have hnc31:=NB216_215.out;have hcz32_0:=c40_ BK215;have hcz32_1:=c41_ BK215;have hcz32_2:=c42_ BK215;have hcz32_3:=c43_ BK215;have hfz32_0:=fz_ BK215 0;have hfz32_1:=fz_ BK215 1;have hfz32_2:=fz_ BK215 2;have hfz32_3:=fz_ BK215 3;have hcz33_0:=c40_ BK216;have hcz33_1:=c41_ BK216;have hcz33_2:=c42_ BK216;have hcz33_3:=c43_ BK216;have hfz33_0:=fz_ BK216 0;have hfz33_1:=fz_ BK216 1;have hfz33_2:=fz_ BK216 2;have hfz33_3:=fz_ BK216 3
    try go_wp2_with (first | (go_at_call 74;(with_reducible refine (spec_l2Has.calls a0_0 a0_1 a0_2 a0_3 a1_0 a1_1 true _ A21.out).mono ?_);rintro e w34 ⟨rfl,hb⟩;replace BK215:=vb_ BK215 hb;replace BK216:=vb_ BK216 hb;replace HB:=sb_ HB hb;(try clear hb)))
    go_ret;exact⟨rr_,hB_⟩
   ·
    replace c22:=Bool.eq_false_iff.mpr c22;subst c22;rw [if_neg (show ¬ (false=true) by decide)] at H
    (try dsimp only at H)
    replace H:=Option.bind_eq_some_iff.mp H;obtain⟨t226,A350,H⟩:=H
    (try dsimp only at H)
    have A35:=Aside0.mk A350;clear A350;by_cases c36:t226=true
    ·
     subst c36;rw [if_pos rfl] at H
     (try dsimp only at H)
     obtain rfl:=Option.some.inj H;have hnb45:=NB215_216.out;have hnc45:=NB216_215.out;have hcz46_0:=c40_ BK215;have hcz46_1:=c41_ BK215;have hcz46_2:=c42_ BK215;have hcz46_3:=c43_ BK215;have hfz46_0:=fz_ BK215 0;have hfz46_1:=fz_ BK215 1;have hfz46_2:=fz_ BK215 2;have hfz46_3:=fz_ BK215 3;have hcz47_0:=c40_ BK216;have hcz47_1:=c41_ BK216;have hcz47_2:=c42_ BK216;have hcz47_3:=c43_ BK216;have hfz47_0:=fz_ BK216 0;have hfz47_1:=fz_ BK216 1;have hfz47_2:=fz_ BK216 2;have hfz47_3:=fz_ BK216 3
     try go_wp2_with (first | (go_at_call 74;(with_reducible refine (spec_l2Has.calls a0_0 a0_1 a0_2 a0_3 a1_0 a1_1 false _ A21.out).mono ?_);rintro e w48 ⟨rfl,hb⟩;replace BK215:=vb_ BK215 hb;replace BK216:=vb_ BK216 hb;replace HB:=sb_ HB hb;(try clear hb);have hcz49_0:=c40_ BK215;have hcz49_1:=c41_ BK215;have hcz49_2:=c42_ BK215;have hcz49_3:=c43_ BK215;have hfz49_0:=fz_ BK215 0;have hfz49_1:=fz_ BK215 1;have hfz49_2:=fz_ BK215 2;have hfz49_3:=fz_ BK215 3;have hcz50_0:=c40_ BK216;have hcz50_1:=c41_ BK216;have hcz50_2:=c42_ BK216;have hcz50_3:=c43_ BK216;have hfz50_0:=fz_ BK216 0;have hfz50_1:=fz_ BK216 1;have hfz50_2:=fz_ BK216 2;have hfz50_3:=fz_ BK216 3) | (go_at_call 74;(with_reducible refine (spec_l2Has.calls a0_0 a0_1 a0_2 a0_3 a1_2 a1_3 true _ A35.out).mono ?_);rintro e w51 ⟨rfl,hb⟩;replace BK215:=vb_ BK215 hb;replace BK216:=vb_ BK216 hb;replace HB:=sb_ HB hb;(try clear hb)))
     go_ret;exact⟨rr_,hB_⟩
    ·
     replace c36:=Bool.eq_false_iff.mpr c36;subst c36;rw [if_neg (show ¬ (false=true) by decide)] at H
     (try dsimp only at H)
     replace H:=Option.bind_eq_some_iff.mp H;obtain⟨t227,A520,H⟩:=H
     (try dsimp only at H)
     have A52:=Aside0.mk A520;clear A520;by_cases c53:t227=true
     ·
      subst c53;rw [if_pos rfl] at H
      (try dsimp only at H)
      obtain rfl:=Option.some.inj H;have hnb62:=NB215_216.out;have hnc62:=NB216_215.out;have hcz63_0:=c40_ BK215;have hcz63_1:=c41_ BK215;have hcz63_2:=c42_ BK215;have hcz63_3:=c43_ BK215;have hfz63_0:=fz_ BK215 0;have hfz63_1:=fz_ BK215 1;have hfz63_2:=fz_ BK215 2;have hfz63_3:=fz_ BK215 3;have hcz64_0:=c40_ BK216;have hcz64_1:=c41_ BK216;have hcz64_2:=c42_ BK216;have hcz64_3:=c43_ BK216;have hfz64_0:=fz_ BK216 0;have hfz64_1:=fz_ BK216 1;have hfz64_2:=fz_ BK216 2;have hfz64_3:=fz_ BK216 3
      try go_wp2_with (first | (go_at_call 74;(with_reducible refine (spec_l2Has.calls a0_0 a0_1 a0_2 a0_3 a1_0 a1_1 false _ A21.out).mono ?_);rintro e w65 ⟨rfl,hb⟩;replace BK215:=vb_ BK215 hb;replace BK216:=vb_ BK216 hb;replace HB:=sb_ HB hb;(try clear hb);have hcz66_0:=c40_ BK215;have hcz66_1:=c41_ BK215;have hcz66_2:=c42_ BK215;have hcz66_3:=c43_ BK215;have hfz66_0:=fz_ BK215 0;have hfz66_1:=fz_ BK215 1;have hfz66_2:=fz_ BK215 2;have hfz66_3:=fz_ BK215 3;have hcz67_0:=c40_ BK216;have hcz67_1:=c41_ BK216;have hcz67_2:=c42_ BK216;have hcz67_3:=c43_ BK216;have hfz67_0:=fz_ BK216 0;have hfz67_1:=fz_ BK216 1;have hfz67_2:=fz_ BK216 2;have hfz67_3:=fz_ BK216 3) | (go_at_call 74;(with_reducible refine (spec_l2Has.calls a0_0 a0_1 a0_2 a0_3 a1_2 a1_3 false _ A35.out).mono ?_);rintro e w68 ⟨rfl,hb⟩;replace BK215:=vb_ BK215 hb;replace BK216:=vb_ BK216 hb;replace HB:=sb_ HB hb;(try clear hb);have hcz69_0:=c40_ BK216;have hcz69_1:=c41_ BK216;have hcz69_2:=c42_ BK216;have hcz69_3:=c43_ BK216;have hfz69_0:=fz_ BK216 0;have hfz69_1:=fz_ BK216 1;have hfz69_2:=fz_ BK216 2;have hfz69_3:=fz_ BK216 3;have hcz70_0:=c40_ BK215;have hcz70_1:=c41_ BK215;have hcz70_2:=c42_ BK215;have hcz70_3:=c43_ BK215;have hfz70_0:=fz_ BK215 0;have hfz70_1:=fz_ BK215 1;have hfz70_2:=fz_ BK215 2;have hfz70_3:=fz_ BK215 3) | (go_at_call 74;(with_reducible refine (spec_l2Has.calls a1_0 a1_1 a1_2 a1_3 a0_0 a0_1 true _ A52.out).mono ?_);rintro e w71 ⟨rfl,hb⟩;replace BK215:=vb_ BK215 hb;replace BK216:=vb_ BK216 hb;replace HB:=sb_ HB hb;(try clear hb)))
      go_ret;exact⟨rr_,hB_⟩
     ·
      replace c53:=Bool.eq_false_iff.mpr c53;subst c53;rw [if_neg (show ¬ (false=true) by decide)] at H
      (try dsimp only at H)
      replace H:=Option.bind_eq_some_iff.mp H;obtain⟨t228,A720,H⟩:=H
      (try dsimp only at H)
      have A72:=Aside0.mk A720;clear A720;obtain rfl:=Option.some.inj H;have hnb81:=NB215_216.out;have hnc81:=NB216_215.out;have hcz82_0:=c40_ BK215;have hcz82_1:=c41_ BK215;have hcz82_2:=c42_ BK215;have hcz82_3:=c43_ BK215;have hfz82_0:=fz_ BK215 0;have hfz82_1:=fz_ BK215 1;have hfz82_2:=fz_ BK215 2;have hfz82_3:=fz_ BK215 3;have hcz83_0:=c40_ BK216;have hcz83_1:=c41_ BK216;have hcz83_2:=c42_ BK216;have hcz83_3:=c43_ BK216;have hfz83_0:=fz_ BK216 0;have hfz83_1:=fz_ BK216 1;have hfz83_2:=fz_ BK216 2;have hfz83_3:=fz_ BK216 3
      try go_wp2_with (first | (go_at_call 74;(with_reducible refine (spec_l2Has.calls a0_0 a0_1 a0_2 a0_3 a1_0 a1_1 false _ A21.out).mono ?_);rintro e w84 ⟨rfl,hb⟩;replace BK215:=vb_ BK215 hb;replace BK216:=vb_ BK216 hb;replace HB:=sb_ HB hb;(try clear hb);have hcz85_0:=c40_ BK215;have hcz85_1:=c41_ BK215;have hcz85_2:=c42_ BK215;have hcz85_3:=c43_ BK215;have hfz85_0:=fz_ BK215 0;have hfz85_1:=fz_ BK215 1;have hfz85_2:=fz_ BK215 2;have hfz85_3:=fz_ BK215 3;have hcz86_0:=c40_ BK216;have hcz86_1:=c41_ BK216;have hcz86_2:=c42_ BK216;have hcz86_3:=c43_ BK216;have hfz86_0:=fz_ BK216 0;have hfz86_1:=fz_ BK216 1;have hfz86_2:=fz_ BK216 2;have hfz86_3:=fz_ BK216 3) | (go_at_call 74;(with_reducible refine (spec_l2Has.calls a0_0 a0_1 a0_2 a0_3 a1_2 a1_3 false _ A35.out).mono ?_);rintro e w87 ⟨rfl,hb⟩;replace BK215:=vb_ BK215 hb;replace BK216:=vb_ BK216 hb;replace HB:=sb_ HB hb;(try clear hb);have hcz88_0:=c40_ BK216;have hcz88_1:=c41_ BK216;have hcz88_2:=c42_ BK216;have hcz88_3:=c43_ BK216;have hfz88_0:=fz_ BK216 0;have hfz88_1:=fz_ BK216 1;have hfz88_2:=fz_ BK216 2;have hfz88_3:=fz_ BK216 3;have hcz89_0:=c40_ BK215;have hcz89_1:=c41_ BK215;have hcz89_2:=c42_ BK215;have hcz89_3:=c43_ BK215;have hfz89_0:=fz_ BK215 0;have hfz89_1:=fz_ BK215 1;have hfz89_2:=fz_ BK215 2;have hfz89_3:=fz_ BK215 3) | (go_at_call 74;(with_reducible refine (spec_l2Has.calls a1_0 a1_1 a1_2 a1_3 a0_0 a0_1 false _ A52.out).mono ?_);rintro e w90 ⟨rfl,hb⟩;replace BK215:=vb_ BK215 hb;replace BK216:=vb_ BK216 hb;replace HB:=sb_ HB hb;(try clear hb);have hcz91_0:=c40_ BK216;have hcz91_1:=c41_ BK216;have hcz91_2:=c42_ BK216;have hcz91_3:=c43_ BK216;have hfz91_0:=fz_ BK216 0;have hfz91_1:=fz_ BK216 1;have hfz91_2:=fz_ BK216 2;have hfz91_3:=fz_ BK216 3;have hcz92_0:=c40_ BK215;have hcz92_1:=c41_ BK215;have hcz92_2:=c42_ BK215;have hcz92_3:=c43_ BK215;have hfz92_0:=fz_ BK215 0;have hfz92_1:=fz_ BK215 1;have hfz92_2:=fz_ BK215 2;have hfz92_3:=fz_ BK215 3) | (go_at_call 74;(with_reducible refine (spec_l2Has.calls a1_0 a1_1 a1_2 a1_3 a0_2 a0_3 t228 _ A72.out).mono ?_);rintro e w93 ⟨rfl,hb⟩;replace BK215:=vb_ BK215 hb;replace BK216:=vb_ BK216 hb;replace HB:=sb_ HB hb;(try clear hb)))
      go_ret;exact⟨rr_,hB_⟩
 ·
  rw [if_neg c11] at H;have c11b0:decide ((wrap64 (t218*t220))<0)=false:=decide_eq_false c11;clear c11;replace H:=Option.bind_eq_some_iff.mp H;obtain⟨t229,A940,H⟩:=H
  (try dsimp only at H)
  have A94:=Aside0.mk A940;clear A940;by_cases c95:t229=true
  ·
   subst c95;rw [if_pos rfl] at H
   (try dsimp only at H)
   obtain rfl:=Option.some.inj H;have hnb104:=NB215_216.out;have hnc104:=NB216_215.out;have hcz105_0:=c40_ BK215;have hcz105_1:=c41_ BK215;have hcz105_2:=c42_ BK215;have hcz105_3:=c43_ BK215;have hfz105_0:=fz_ BK215 0;have hfz105_1:=fz_ BK215 1;have hfz105_2:=fz_ BK215 2;have hfz105_3:=fz_ BK215 3;have hcz106_0:=c40_ BK216;have hcz106_1:=c41_ BK216;have hcz106_2:=c42_ BK216;have hcz106_3:=c43_ BK216;have hfz106_0:=fz_ BK216 0;have hfz106_1:=fz_ BK216 1;have hfz106_2:=fz_ BK216 2;have hfz106_3:=fz_ BK216 3
   try go_wp2_with (first | (go_at_call 74;(with_reducible refine (spec_l2Has.calls a0_0 a0_1 a0_2 a0_3 a1_0 a1_1 true _ A94.out).mono ?_);rintro e w107 ⟨rfl,hb⟩;replace BK215:=vb_ BK215 hb;replace BK216:=vb_ BK216 hb;replace HB:=sb_ HB hb;(try clear hb)))
   go_ret;exact⟨rr_,hB_⟩
  ·
   replace c95:=Bool.eq_false_iff.mpr c95;subst c95;rw [if_neg (show ¬ (false=true) by decide)] at H
   (try dsimp only at H)
   replace H:=Option.bind_eq_some_iff.mp H;obtain⟨t230,A1080,H⟩:=H
   (try dsimp only at H)
   have A108:=Aside0.mk A1080;clear A1080;by_cases c109:t230=true
   ·
    subst c109;rw [if_pos rfl] at H
    (try dsimp only at H)
    obtain rfl:=Option.some.inj H;have hnb118:=NB215_216.out;have hnc118:=NB216_215.out;have hcz119_0:=c40_ BK215;have hcz119_1:=c41_ BK215;have hcz119_2:=c42_ BK215;have hcz119_3:=c43_ BK215;have hfz119_0:=fz_ BK215 0;have hfz119_1:=fz_ BK215 1;have hfz119_2:=fz_ BK215 2;have hfz119_3:=fz_ BK215 3;have hcz120_0:=c40_ BK216;have hcz120_1:=c41_ BK216;have hcz120_2:=c42_ BK216;have hcz120_3:=c43_ BK216;have hfz120_0:=fz_ BK216 0;have hfz120_1:=fz_ BK216 1;have hfz120_2:=fz_ BK216 2;have hfz120_3:=fz_ BK216 3
    try go_wp2_with (first | (go_at_call 74;(with_reducible refine (spec_l2Has.calls a0_0 a0_1 a0_2 a0_3 a1_0 a1_1 false _ A94.out).mono ?_);rintro e w121 ⟨rfl,hb⟩;replace BK215:=vb_ BK215 hb;replace BK216:=vb_ BK216 hb;replace HB:=sb_ HB hb;(try clear hb);have hcz122_0:=c40_ BK215;have hcz122_1:=c41_ BK215;have hcz122_2:=c42_ BK215;have hcz122_3:=c43_ BK215;have hfz122_0:=fz_ BK215 0;have hfz122_1:=fz_ BK215 1;have hfz122_2:=fz_ BK215 2;have hfz122_3:=fz_ BK215 3;have hcz123_0:=c40_ BK216;have hcz123_1:=c41_ BK216;have hcz123_2:=c42_ BK216;have hcz123_3:=c43_ BK216;have hfz123_0:=fz_ BK216 0;have hfz123_1:=fz_ BK216 1;have hfz123_2:=fz_ BK216 2;have hfz123_3:=fz_ BK216 3) | (go_at_call 74;(with_reducible refine (spec_l2Has.calls a0_0 a0_1 a0_2 a0_3 a1_2 a1_3 true _ A108.out).mono ?_);rintro e w124 ⟨rfl,hb⟩;replace BK215:=vb_ BK215 hb;replace BK216:=vb_ BK216 hb;replace HB:=sb_ HB hb;(try clear hb)))
    go_ret;exact⟨rr_,hB_⟩
   ·
    replace c109:=Bool.eq_false_iff.mpr c109;subst c109;rw [if_neg (show ¬ (false=true) by decide)] at H
    (try dsimp only at H)
    replace H:=Option.bind_eq_some_iff.mp H;obtain⟨t231,A1250,H⟩:=H
    (try dsimp only at H)
    have A125:=Aside0.mk A1250;clear A1250;by_cases c126:t231=true
    ·
     subst c126;rw [if_pos rfl] at H
     (try dsimp only at H)
     obtain rfl:=Option.some.inj H;have hnb135:=NB215_216.out;have hnc135:=NB216_215.out;have hcz136_0:=c40_ BK215;have hcz136_1:=c41_ BK215;have hcz136_2:=c42_ BK215;have hcz136_3:=c43_ BK215;have hfz136_0:=fz_ BK215 0;have hfz136_1:=fz_ BK215 1;have hfz136_2:=fz_ BK215 2;have hfz136_3:=fz_ BK215 3;have hcz137_0:=c40_ BK216;have hcz137_1:=c41_ BK216;have hcz137_2:=c42_ BK216;have hcz137_3:=c43_ BK216;have hfz137_0:=fz_ BK216 0;have hfz137_1:=fz_ BK216 1;have hfz137_2:=fz_ BK216 2;have hfz137_3:=fz_ BK216 3
     try go_wp2_with (first | (go_at_call 74;(with_reducible refine (spec_l2Has.calls a0_0 a0_1 a0_2 a0_3 a1_0 a1_1 false _ A94.out).mono ?_);rintro e w138 ⟨rfl,hb⟩;replace BK215:=vb_ BK215 hb;replace BK216:=vb_ BK216 hb;replace HB:=sb_ HB hb;(try clear hb);have hcz139_0:=c40_ BK215;have hcz139_1:=c41_ BK215;have hcz139_2:=c42_ BK215;have hcz139_3:=c43_ BK215;have hfz139_0:=fz_ BK215 0;have hfz139_1:=fz_ BK215 1;have hfz139_2:=fz_ BK215 2;have hfz139_3:=fz_ BK215 3;have hcz140_0:=c40_ BK216;have hcz140_1:=c41_ BK216;have hcz140_2:=c42_ BK216;have hcz140_3:=c43_ BK216;have hfz140_0:=fz_ BK216 0;have hfz140_1:=fz_ BK216 1;have hfz140_2:=fz_ BK216 2;have hfz140_3:=fz_ BK216 3) | (go_at_call 74;(with_reducible refine (spec_l2Has.calls a0_0 a0_1 a0_2 a0_3 a1_2 a1_3 false _ A108.out).mono ?_);rintro e w141 ⟨rfl,hb⟩;replace BK215:=vb_ BK215 hb;replace BK216:=vb_ BK216 hb;replace HB:=sb_ HB hb;(try clear hb);have hcz142_0:=c40_ BK216;have hcz142_1:=c41_ BK216;have hcz142_2:=c42_ BK216;have hcz142_3:=c43_ BK216;have hfz142_0:=fz_ BK216 0;have hfz142_1:=fz_ BK216 1;have hfz142_2:=fz_ BK216 2;have hfz142_3:=fz_ BK216 3;have hcz143_0:=c40_ BK215;have hcz143_1:=c41_ BK215;have hcz143_2:=c42_ BK215;have hcz143_3:=c43_ BK215;have hfz143_0:=fz_ BK215 0;have hfz143_1:=fz_ BK215 1;have hfz143_2:=fz_ BK215 2;have hfz143_3:=fz_ BK215 3) | (go_at_call 74;(with_reducible refine (spec_l2Has.calls a1_0 a1_1 a1_2 a1_3 a0_0 a0_1 true _ A125.out).mono ?_);rintro e w144 ⟨rfl,hb⟩;replace BK215:=vb_ BK215 hb;replace BK216:=vb_ BK216 hb;replace HB:=sb_ HB hb;(try clear hb)))
     go_ret;exact⟨rr_,hB_⟩
    ·
     replace c126:=Bool.eq_false_iff.mpr c126;subst c126;rw [if_neg (show ¬ (false=true) by decide)] at H
     (try dsimp only at H)
     replace H:=Option.bind_eq_some_iff.mp H;obtain⟨t232,A1450,H⟩:=H
     (try dsimp only at H)
     have A145:=Aside0.mk A1450;clear A1450;obtain rfl:=Option.some.inj H;have hnb154:=NB215_216.out;have hnc154:=NB216_215.out;have hcz155_0:=c40_ BK215;have hcz155_1:=c41_ BK215;have hcz155_2:=c42_ BK215;have hcz155_3:=c43_ BK215;have hfz155_0:=fz_ BK215 0;have hfz155_1:=fz_ BK215 1;have hfz155_2:=fz_ BK215 2;have hfz155_3:=fz_ BK215 3;have hcz156_0:=c40_ BK216;have hcz156_1:=c41_ BK216;have hcz156_2:=c42_ BK216;have hcz156_3:=c43_ BK216;have hfz156_0:=fz_ BK216 0;have hfz156_1:=fz_ BK216 1;have hfz156_2:=fz_ BK216 2;have hfz156_3:=fz_ BK216 3
     try go_wp2_with (first | (go_at_call 74;(with_reducible refine (spec_l2Has.calls a0_0 a0_1 a0_2 a0_3 a1_0 a1_1 false _ A94.out).mono ?_);rintro e w157 ⟨rfl,hb⟩;replace BK215:=vb_ BK215 hb;replace BK216:=vb_ BK216 hb;replace HB:=sb_ HB hb;(try clear hb);have hcz158_0:=c40_ BK215;have hcz158_1:=c41_ BK215;have hcz158_2:=c42_ BK215;have hcz158_3:=c43_ BK215;have hfz158_0:=fz_ BK215 0;have hfz158_1:=fz_ BK215 1;have hfz158_2:=fz_ BK215 2;have hfz158_3:=fz_ BK215 3;have hcz159_0:=c40_ BK216;have hcz159_1:=c41_ BK216;have hcz159_2:=c42_ BK216;have hcz159_3:=c43_ BK216;have hfz159_0:=fz_ BK216 0;have hfz159_1:=fz_ BK216 1;have hfz159_2:=fz_ BK216 2;have hfz159_3:=fz_ BK216 3) | (go_at_call 74;(with_reducible refine (spec_l2Has.calls a0_0 a0_1 a0_2 a0_3 a1_2 a1_3 false _ A108.out).mono ?_);rintro e w160 ⟨rfl,hb⟩;replace BK215:=vb_ BK215 hb;replace BK216:=vb_ BK216 hb;replace HB:=sb_ HB hb;(try clear hb);have hcz161_0:=c40_ BK216;have hcz161_1:=c41_ BK216;have hcz161_2:=c42_ BK216;have hcz161_3:=c43_ BK216;have hfz161_0:=fz_ BK216 0;have hfz161_1:=fz_ BK216 1;have hfz161_2:=fz_ BK216 2;have hfz161_3:=fz_ BK216 3;have hcz162_0:=c40_ BK215;have hcz162_1:=c41_ BK215;have hcz162_2:=c42_ BK215;have hcz162_3:=c43_ BK215;have hfz162_0:=fz_ BK215 0;have hfz162_1:=fz_ BK215 1;have hfz162_2:=fz_ BK215 2;have hfz162_3:=fz_ BK215 3) | (go_at_call 74;(with_reducible refine (spec_l2Has.calls a1_0 a1_1 a1_2 a1_3 a0_0 a0_1 false _ A125.out).mono ?_);rintro e w163 ⟨rfl,hb⟩;replace BK215:=vb_ BK215 hb;replace BK216:=vb_ BK216 hb;replace HB:=sb_ HB hb;(try clear hb);have hcz164_0:=c40_ BK216;have hcz164_1:=c41_ BK216;have hcz164_2:=c42_ BK216;have hcz164_3:=c43_ BK216;have hfz164_0:=fz_ BK216 0;have hfz164_1:=fz_ BK216 1;have hfz164_2:=fz_ BK216 2;have hfz164_3:=fz_ BK216 3;have hcz165_0:=c40_ BK215;have hcz165_1:=c41_ BK215;have hcz165_2:=c42_ BK215;have hcz165_3:=c43_ BK215;have hfz165_0:=fz_ BK215 0;have hfz165_1:=fz_ BK215 1;have hfz165_2:=fz_ BK215 2;have hfz165_3:=fz_ BK215 3) | (go_at_call 74;(with_reducible refine (spec_l2Has.calls a1_0 a1_1 a1_2 a1_3 a0_2 a0_3 t232 _ A145.out).mono ?_);rintro e w166 ⟨rfl,hb⟩;replace BK215:=vb_ BK215 hb;replace BK216:=vb_ BK216 hb;replace HB:=sb_ HB hb;(try clear hb)))
     go_ret;exact⟨rr_,hB_⟩
end Go.Proofs.YtailkppkjhkjpaaDoor.X
end
section
set_option linter.unusedVariables false
set_option linter.unusedSimpArgs false
namespace Go.Proofs.YtailkppkjhkjpaaDoor.X
open Go.RowKit Go.Proofs.YtailkppkjhkjpaaDoorW.PrintWords Go.Proofs.YtailkppkjhkjpaaDoorW.PrintLast Go.Proofs.YtailkppkjhkjpaaDoorW.PrintMore
open Mort
theorem sMeet {a b c d e f g h:Int}(o1:ptOk (a,b)=true)(o2:ptOk (c,d)=true)(o3:ptOk (e,f)=true)(o4:ptOk (g,h)=true):
  spec_l2Meet.f a b c d e f g h=some (meet ((a,b),(c,d)) ((e,f),(g,h))):=by
 unfold spec_l2Meet.f meet;simp only [sCross o1 o2 o3,sCross o1 o2 o4,sCross o3 o4 o1,sCross o3 o4 o2,sSign,sHas o1 o2 o3,sHas o1 o2 o4,sHas o3 o4 o1,sHas o3 o4 o2,Option.bind_some,turn_mul];by_cases z1:sgn (cross (a,b) (c,d) (e,f))*sgn (cross (a,b) (c,d) (g,h))<0 <;>
 by_cases z2:sgn (cross (e,f) (g,h) (a,b))*sgn (cross (e,f) (g,h) (c,d))<0 <;>
 cases has ((a,b),(c,d)) (e,f) <;> cases has ((a,b),(c,d)) (g,h) <;> cases has ((e,f),(g,h)) (a,b) <;> cases has ((e,f),(g,h)) (c,d) <;> simp [z1,z2]
end Go.Proofs.YtailkppkjhkjpaaDoor.X
end
section
namespace Go.Proofs.YtailkppkjhkjpaaDoor.X
open Go.RowKit Go.Proofs.YtailkppkjhkjpaaDoorW.PrintWords Go.Proofs.YtailkppkjhkjpaaDoorW.PrintLast Go.Proofs.YtailkppkjhkjpaaDoorW.PrintMore
attribute [local go_sem] max2_int min2_int max_two min_two max_three min_three max_four min_four
set_option linter.unusedVariables false
set_option linter.unusedSimpArgs false
mutual
def spec_l11Apart.l0:Nat→List (S89)→List (S89)→Int→Option (Bool)
 | 0,_,_,_=>none
 | k+1,x5,x6,x7=>if x7<(x5.length:Int) then (spec_l11Apart.l1 k x5 x6 x7 0) else (some true)
def spec_l11Apart.l1:Nat→List (S89)→List (S89)→Int→Int→Option (Bool)
 | 0,_,_,_,_=>none
 | k+1,x5,x6,x7,x8=>if x8<(x6.length:Int) then (if 0≤x7 then (if x7<(x5.length:Int) then (if 0≤x8 then ((spec_l2Meet.f ((rd_T89 x5 x7).f0.f0) ((rd_T89 x5 x7).f0.f1) ((rd_T89 x5 x7).f1.f0) ((rd_T89 x5 x7).f1.f1) ((rd_T89 x6 x8).f0.f0) ((rd_T89 x6 x8).f0.f1) ((rd_T89 x6 x8).f1.f0) ((rd_T89 x6 x8).f1.f1)).bind fun t173=>(if t173=true then (some false) else (spec_l11Apart.l1 k x5 x6 x7 (wrap64 (x8+1))))) else (none)) else (none)) else (none)) else (spec_l11Apart.l0 k x5 x6 (wrap64 (x7+1)))
end
def spec_l11Apart.f (k:Nat)(l0:List (S37))(l1:List (S37)):Option (Bool):=(spec_l3Edges.f k l0).bind fun t165=>((spec_l3Edges.f k l1).bind fun t168=>(spec_l11Apart.l0 k t165 t168 0))
def spec_l11Apart.T9:Bool × List (List Nat × List Nat):=(true,[([],[]),([],[]),([0,1],[0,1]),([2],[2]),([],[]),([],[]),([4,5],[4,5]),([6],[6]),([3,7],[3,7])])
def spec_l11Apart.B9:List Nat:=[0,0,3,7,0,0,48,112,255]
theorem spec_l11Apart.tab9:rtab .any (opsOf Tryd.f51 9)=spec_l11Apart.T9:=by kernel_rfl
theorem spec_l11Apart.bits9:waitsOk spec_l11Apart.T9.2 spec_l11Apart.B9=true:=by kernel_rfl
set_option maxHeartbeats 8000000 in
set_option maxRecDepth 100000 in
theorem spec_l11Apart.calls (k:Nat)(A0:Option Addr)(c0:Nat)(l0:List (S37))(A1:Option Addr)(c1:Nat)(l1:List (S37))(r:Bool)(w:World)(hr0:Kd.C k37 w A0 l0.length l0)(hc0:l0.length≤c0)(hr1:Kd.C k37 w A1 l1.length l1)(hc1:l1.length≤c1)(h:spec_l11Apart.f k l0 l1=some r):
  Calls Tryd.prog 51 #[.slice A0 l0.length c0,.slice A1 l1.length c1] w fun e w'=>e=.returned (.bool r)∧Below w.heap.size w w':=by
 have hu89:=Tryd.underlying89;have HR0:=Aside0.mk hr0;have HC0:=Aside0.mk hc0;clear hr0 hc0;have HR1:=Aside0.mk hr1;have HC1:=Aside0.mk hc1;clear hr1 hc1;have HB:=a0_ (Below.refl w.heap.size w);have H:((spec_l3Edges.f k l0).bind fun t165=>((spec_l3Edges.f k l1).bind fun t168=>(spec_l11Apart.l0 k t165 t168 0)))=some r:=h;clear h;replace H:=Option.bind_eq_some_iff.mp H;obtain⟨t165,A30,H⟩:=H
 (try dsimp only at H)
 have A3:=Aside0.mk A30;clear A30;replace H:=Option.bind_eq_some_iff.mp H;obtain⟨t168,A40,H⟩:=H
 (try dsimp only at H)
 have A4:=Aside0.mk A40;clear A40;have H':=Aside0.mk H;clear H;go_enter Tryd.func51,Tryd.ntmps51;go_wp2_with (first | ((with_reducible refine gate_callee (f:=72) rfl ?_);refine gL_ (some 10) Tryd.func72 #[.slice A0 l0.length c0] (h:=?_);(with_reducible refine (spec_l3Edges.calls k _ _ l0 t165 _ ?side1 ?side2 A3.out).mono ?_);(case side1=>repeat (first | exact HR0.out | (with_reducible refine Kd.C_alloc ?_ _) | (with_reducible refine Kd.C_drewN ?_ _) | (with_reducible refine Kd.C_drew ?_)));(case side2=>exact HC0.out);rintro e w5 ⟨v166,rfl,ho0,hb⟩;refine⟨_,rfl,?_⟩;have HO167:=a0_ (Kd.R_lower ho0 (below_size hB_));replace HB:=sb_ HB hb;(try clear ho0 hb)) | ((with_reducible refine gate_callee (f:=72) rfl ?_);refine gL_ (some 12) Tryd.func72 #[.slice A1 l1.length c1] (h:=?_);(with_reducible refine (spec_l3Edges.calls k _ _ l1 t168 _ ?side1 ?side2 A4.out).mono ?_);(case side1=>repeat (first | exact (Kd.C_below HR1.out HB.out) | (with_reducible refine Kd.C_alloc ?_ _) | (with_reducible refine Kd.C_drewN ?_ _) | (with_reducible refine Kd.C_drew ?_)));(case side2=>exact HC1.out);rintro e w6 ⟨v169,rfl,ho0,hb⟩;refine⟨_,rfl,?_⟩;have HO170:=a0_ (Kd.R_lower (Kd.R_new' ho0 (Kd.R_lt (uR_ HO167))) (below_size hB_));replace HO167:=a0_ (Kd.R_elder' (uR_ HO167) (Kd.R_base ho0) hb);replace HB:=sb_ HB hb;(try clear ho0 hb)));go_loopg [7] k (fun kq v7 w'=>∃ (x7_1:Int),v7=.int .i64 x7_1∧Aside0 (spec_l11Apart.l0 kq t165 t168 x7_1=some r)∧Aside0 (kq≤k)∧Aside0 (Kd.R k89 89 w' w.heap.size (fun k_=>some k_≠(v169:Value).ownBlock) v166 t165)∧Aside0 (Kd.R k89 89 w' w.heap.size (fun k_=>some k_≠(v166:Value).ownBlock) v169 t168)∧Aside0 (Below w.heap.size w w'))
 case atStart=>exact⟨(0),(by first | rfl | (simp;done) | (simp [*];done)),H',⟨Nat.le_refl _⟩,⟨by (with_reducible repeat (first | apply Kd.R_alloc | apply Kd.R_drewN | apply Kd.R_drew));exact Kd.R_mono HO167.out (fun _ hk=>hk.2)⟩,⟨by (with_reducible repeat (first | apply Kd.R_alloc | apply Kd.R_drewN | apply Kd.R_drew));exact Kd.R_mono HO170.out (fun _ hk=>hk.2)⟩,⟨hB_⟩⟩
 case round =>
  clear H';obtain⟨x7_1,rfl,HA,HK1,HO_5,HO_6,HB⟩:=hrel
  cases gk with
  | zero=>exact absurd HA.out (by simp [spec_l11Apart.l0])
  | succ k1 =>
   have H:=HA.out;clear HA;simp only [spec_l11Apart.l0] at H;by_cases c7:x7_1<(t165.length:Int)
   ·
    rw [if_pos c7] at H;have c7b0:decide (x7_1<(t165.length:Int))=true:=decide_eq_true c7;clear c7;have H':=Aside0.mk H;clear H;obtain⟨Ao8,co8,eo8⟩:=Kd.R_slice HO_5.out;subst eo8;go_wp2;go_loopg [8] k1 (fun kq v8 w'=>∃ (x8_2:Int),v8=.int .i64 x8_2∧Aside0 (spec_l11Apart.l1 kq t165 t168 x7_1 x8_2=some r)∧Aside0 (kq≤k1)∧Aside0 (Kd.R k89 89 w' w.heap.size (fun k_=>some k_≠(v169:Value).ownBlock) (.slice Ao8 t165.length co8) t165)∧Aside0 (Kd.R k89 89 w' w.heap.size (fun k_=>some k_≠((.slice Ao8 t165.length co8):Value).ownBlock) v169 t168)∧Aside0 (Below w.heap.size w w'))
    case atStart=>exact⟨(0),(by first | rfl | (simp;done) | (simp [*];done)),H',⟨Nat.le_refl _⟩,⟨by (with_reducible repeat (first | apply Kd.R_alloc | apply Kd.R_drewN | apply Kd.R_drew));exact HO_5.out⟩,⟨by (with_reducible repeat (first | apply Kd.R_alloc | apply Kd.R_drewN | apply Kd.R_drew));exact HO_6.out⟩,⟨hB_⟩⟩
    case round =>
     clear H';obtain⟨x8_2,rfl,HA,HK2,HO_5,HO_6,HB⟩:=hrel
     cases gk with
     | zero=>exact absurd HA.out (by simp [spec_l11Apart.l1])
     | succ k2 =>
      have H:=HA.out;clear HA;simp only [spec_l11Apart.l1] at H;by_cases c9:x8_2<(t168.length:Int)
      ·
       rw [if_pos c9] at H;have c9b0:decide (x8_2<(t168.length:Int))=true:=decide_eq_true c9;clear c9;by_cases c10:0≤x7_1
       ·
        rw [if_pos c10] at H;have c10b0:decide (0≤x7_1)=true:=decide_eq_true c10;clear c10;by_cases c11:x7_1<(t165.length:Int)
        ·
         rw [if_pos c11] at H;have c11b0:decide (x7_1<(t165.length:Int))=true:=decide_eq_true c11;clear c11;by_cases c12:0≤x8_2
         ·
          rw [if_pos c12] at H;have c12b0:decide (0≤x8_2)=true:=decide_eq_true c12;clear c12;replace H:=Option.bind_eq_some_iff.mp H;obtain⟨t173,A130,H⟩:=H
          (try dsimp only at H)
          have A13:=Aside0.mk A130;clear A130;by_cases c14:t173=true
          ·
           subst c14;rw [if_pos rfl] at H
           (try dsimp only at H)
           obtain rfl:=Option.some.inj H;obtain⟨Ao15,co15,eo15⟩:=Kd.R_slice HO_6.out;subst eo15
           try go_wp2
           replace HO_5:=a0_ (Kd.R_drew HO_5.out);replace HO_6:=a0_ (Kd.R_drew HO_6.out);replace HB:=a0_ (below_drew1 HB.out);have p171:0≤(x7_1:Int):=od_;have q171:x7_1<(t165.length:Int):=od_;obtain⟨ad171,e171,hx171_0,hx171_1,hx171_2,hx171_3⟩:=at_T89 (Kd.R_reads' HO_5.out).2.2 x7_1 p171 q171;cases e171;replace p171:=eq_true p171;replace q171:=eq_true q171;have p172:0≤(x8_2:Int):=od_;have q172:x8_2<(t168.length:Int):=od_;obtain⟨ad172,e172,hx172_0,hx172_1,hx172_2,hx172_3⟩:=at_T89 (Kd.R_reads' HO_6.out).2.2 x8_2 p172 q172;cases e172;replace p172:=eq_true p172;replace q172:=eq_true q172;refine start_ (n:=9) (S:=fun w'=>w'.cell? (ad171.add ((x7_1).toNat*4))=some (.int .i64 ((rd_T89 t165 x7_1).f0.f0))∧w'.cell? ⟨(ad171.add ((x7_1).toNat*4)).block,(ad171.add ((x7_1).toNat*4)).off+1,none⟩=some (.int .i64 ((rd_T89 t165 x7_1).f0.f1))∧w'.cell? ⟨(ad171.add ((x7_1).toNat*4)).block,(ad171.add ((x7_1).toNat*4)).off+2,none⟩=some (.int .i64 ((rd_T89 t165 x7_1).f1.f0))∧w'.cell? ⟨(ad171.add ((x7_1).toNat*4)).block,(ad171.add ((x7_1).toNat*4)).off+3,none⟩=some (.int .i64 ((rd_T89 t165 x7_1).f1.f1))∧w'.cell? (ad172.add ((x8_2).toNat*4))=some (.int .i64 ((rd_T89 t168 x8_2).f0.f0))∧w'.cell? ⟨(ad172.add ((x8_2).toNat*4)).block,(ad172.add ((x8_2).toNat*4)).off+1,none⟩=some (.int .i64 ((rd_T89 t168 x8_2).f0.f1))∧w'.cell? ⟨(ad172.add ((x8_2).toNat*4)).block,(ad172.add ((x8_2).toNat*4)).off+2,none⟩=some (.int .i64 ((rd_T89 t168 x8_2).f1.f0))∧w'.cell? ⟨(ad172.add ((x8_2).toNat*4)).block,(ad172.add ((x8_2).toNat*4)).off+3,none⟩=some (.int .i64 ((rd_T89 t168 x8_2).f1.f1))) (ds:=[]) (Array.replicate 9 false) (by kernel_rfl) rfl rfl ⟨hx171_0,hx171_1,hx171_2,hx171_3,hx172_0,hx172_1,hx172_2,hx172_3⟩ (fun hHeld=>?_);refine with_tabW spec_l11Apart.tab9 spec_l11Apart.bits9 (fun HT_ HW_=>?_)
           generalize wr.drew=w16 at HO_5 HO_6 HB hx171_0 hx171_1 hx171_2 hx171_3 hx172_0 hx172_1 hx172_2 hx172_3 hHeld ⊢
           refine pu_ HT_ 0 25 (bm 9 1) ?_;refine pu_ HT_ 1 26 (bm 9 3) ?_;refine pu_ HT_ 2 27 (bm 9 7) ?_;refine pu_ HT_ 4 29 (bm 9 23) ?_;refine pu_ HT_ 5 30 (bm 9 55) ?_;refine pu_ HT_ 6 31 (bm 9 119) ?_;refine ta8_ HT_ HW_ 3 28 (bm 9 127) hHeld ?_;refine ta8_ HT_ HW_ 7 32 (bm 9 255) hHeld ?_;refine one_ (i:=8) (N:=some 33) (bm 9 511) rfl rfl (one_of HT_.out (by kernel_rfl)) (by decide) (fun K hK=>?_);refine goes_ Tryd.func75 (by kernel_rfl) rfl #[.agg #[.int .i64 ((rd_T89 t165 x7_1).f0.f0),.int .i64 ((rd_T89 t165 x7_1).f0.f1),.int .i64 ((rd_T89 t165 x7_1).f1.f0),.int .i64 ((rd_T89 t165 x7_1).f1.f1)],.agg #[.int .i64 ((rd_T89 t168 x8_2).f0.f0),.int .i64 ((rd_T89 t168 x8_2).f0.f1),.int .i64 ((rd_T89 t168 x8_2).f1.f0),.int .i64 ((rd_T89 t168 x8_2).f1.f1)]] (by rfl) rfl rfl ma_ ?_
           with_reducible refine (spec_l2Meet.calls ((rd_T89 t165 x7_1).f0.f0) ((rd_T89 t165 x7_1).f0.f1) ((rd_T89 t165 x7_1).f1.f0) ((rd_T89 t165 x7_1).f1.f1) ((rd_T89 t168 x8_2).f0.f0) ((rd_T89 t168 x8_2).f0.f1) ((rd_T89 t168 x8_2).f1.f0) ((rd_T89 t168 x8_2).f1.f1) true _ A13.out).mono ?_
           rintro e w17 ⟨rfl,hb⟩;have HS0_:=pw_cell_below hb hHeld.1;have HS1_:=pw_cell_below hb hHeld.2.1;have HS2_:=pw_cell_below hb hHeld.2.2.1;have HS3_:=pw_cell_below hb hHeld.2.2.2.1;have HS4_:=pw_cell_below hb hHeld.2.2.2.2.1;have HS5_:=pw_cell_below hb hHeld.2.2.2.2.2.1;have HS6_:=pw_cell_below hb hHeld.2.2.2.2.2.2.1;have HS7_:=pw_cell_below hb hHeld.2.2.2.2.2.2.2;refine⟨_,rfl,?_⟩;replace HO_5:=rb_ HO_5 hb;replace HO_6:=rb_ HO_6 hb;replace HB:=sb_ HB hb
           (try clear hb)
           (try clear hb2)
           (try clear hk)
           (try clear hi)
           refine hK.out _ _ ⟨HS0_,HS1_,HS2_,HS3_,HS4_,HS5_,HS6_,HS7_⟩ (fun hHeld=>?_);clear hK K;refine no_ (h:=?_);refine done_ (done_of HT_.out (by kernel_rfl)) ?_
           try go_wp2
           go_ret;exact⟨rr_,hB_⟩
          ·
           replace c14:=Bool.eq_false_iff.mpr c14;subst c14;rw [if_neg (show ¬ (false=true) by decide)] at H
           (try dsimp only at H)
           have H':=Aside0.mk H;clear H;obtain⟨Ao18,co18,eo18⟩:=Kd.R_slice HO_6.out;subst eo18
           try go_wp2
           replace HO_5:=a0_ (Kd.R_drew HO_5.out);replace HO_6:=a0_ (Kd.R_drew HO_6.out);replace HB:=a0_ (below_drew1 HB.out);have p171:0≤(x7_1:Int):=od_;have q171:x7_1<(t165.length:Int):=od_;obtain⟨ad171,e171,hx171_0,hx171_1,hx171_2,hx171_3⟩:=at_T89 (Kd.R_reads' HO_5.out).2.2 x7_1 p171 q171;cases e171;replace p171:=eq_true p171;replace q171:=eq_true q171;have p172:0≤(x8_2:Int):=od_;have q172:x8_2<(t168.length:Int):=od_;obtain⟨ad172,e172,hx172_0,hx172_1,hx172_2,hx172_3⟩:=at_T89 (Kd.R_reads' HO_6.out).2.2 x8_2 p172 q172;cases e172;replace p172:=eq_true p172;replace q172:=eq_true q172;refine start_ (n:=9) (S:=fun w'=>w'.cell? (ad171.add ((x7_1).toNat*4))=some (.int .i64 ((rd_T89 t165 x7_1).f0.f0))∧w'.cell? ⟨(ad171.add ((x7_1).toNat*4)).block,(ad171.add ((x7_1).toNat*4)).off+1,none⟩=some (.int .i64 ((rd_T89 t165 x7_1).f0.f1))∧w'.cell? ⟨(ad171.add ((x7_1).toNat*4)).block,(ad171.add ((x7_1).toNat*4)).off+2,none⟩=some (.int .i64 ((rd_T89 t165 x7_1).f1.f0))∧w'.cell? ⟨(ad171.add ((x7_1).toNat*4)).block,(ad171.add ((x7_1).toNat*4)).off+3,none⟩=some (.int .i64 ((rd_T89 t165 x7_1).f1.f1))∧w'.cell? (ad172.add ((x8_2).toNat*4))=some (.int .i64 ((rd_T89 t168 x8_2).f0.f0))∧w'.cell? ⟨(ad172.add ((x8_2).toNat*4)).block,(ad172.add ((x8_2).toNat*4)).off+1,none⟩=some (.int .i64 ((rd_T89 t168 x8_2).f0.f1))∧w'.cell? ⟨(ad172.add ((x8_2).toNat*4)).block,(ad172.add ((x8_2).toNat*4)).off+2,none⟩=some (.int .i64 ((rd_T89 t168 x8_2).f1.f0))∧w'.cell? ⟨(ad172.add ((x8_2).toNat*4)).block,(ad172.add ((x8_2).toNat*4)).off+3,none⟩=some (.int .i64 ((rd_T89 t168 x8_2).f1.f1))) (ds:=[]) (Array.replicate 9 false) (by kernel_rfl) rfl rfl ⟨hx171_0,hx171_1,hx171_2,hx171_3,hx172_0,hx172_1,hx172_2,hx172_3⟩ (fun hHeld=>?_);refine with_tabW spec_l11Apart.tab9 spec_l11Apart.bits9 (fun HT_ HW_=>?_)
           generalize wr.drew=w19 at HO_5 HO_6 HB hx171_0 hx171_1 hx171_2 hx171_3 hx172_0 hx172_1 hx172_2 hx172_3 hHeld ⊢
           refine pu_ HT_ 0 25 (bm 9 1) ?_;refine pu_ HT_ 1 26 (bm 9 3) ?_;refine pu_ HT_ 2 27 (bm 9 7) ?_;refine pu_ HT_ 4 29 (bm 9 23) ?_;refine pu_ HT_ 5 30 (bm 9 55) ?_;refine pu_ HT_ 6 31 (bm 9 119) ?_;refine ta8_ HT_ HW_ 3 28 (bm 9 127) hHeld ?_;refine ta8_ HT_ HW_ 7 32 (bm 9 255) hHeld ?_;refine one_ (i:=8) (N:=some 33) (bm 9 511) rfl rfl (one_of HT_.out (by kernel_rfl)) (by decide) (fun K hK=>?_);refine goes_ Tryd.func75 (by kernel_rfl) rfl #[.agg #[.int .i64 ((rd_T89 t165 x7_1).f0.f0),.int .i64 ((rd_T89 t165 x7_1).f0.f1),.int .i64 ((rd_T89 t165 x7_1).f1.f0),.int .i64 ((rd_T89 t165 x7_1).f1.f1)],.agg #[.int .i64 ((rd_T89 t168 x8_2).f0.f0),.int .i64 ((rd_T89 t168 x8_2).f0.f1),.int .i64 ((rd_T89 t168 x8_2).f1.f0),.int .i64 ((rd_T89 t168 x8_2).f1.f1)]] (by rfl) rfl rfl ma_ ?_
           with_reducible refine (spec_l2Meet.calls ((rd_T89 t165 x7_1).f0.f0) ((rd_T89 t165 x7_1).f0.f1) ((rd_T89 t165 x7_1).f1.f0) ((rd_T89 t165 x7_1).f1.f1) ((rd_T89 t168 x8_2).f0.f0) ((rd_T89 t168 x8_2).f0.f1) ((rd_T89 t168 x8_2).f1.f0) ((rd_T89 t168 x8_2).f1.f1) false _ A13.out).mono ?_
           rintro e w20 ⟨rfl,hb⟩;have HS0_:=pw_cell_below hb hHeld.1;have HS1_:=pw_cell_below hb hHeld.2.1;have HS2_:=pw_cell_below hb hHeld.2.2.1;have HS3_:=pw_cell_below hb hHeld.2.2.2.1;have HS4_:=pw_cell_below hb hHeld.2.2.2.2.1;have HS5_:=pw_cell_below hb hHeld.2.2.2.2.2.1;have HS6_:=pw_cell_below hb hHeld.2.2.2.2.2.2.1;have HS7_:=pw_cell_below hb hHeld.2.2.2.2.2.2.2;refine⟨_,rfl,?_⟩;replace HO_5:=rb_ HO_5 hb;replace HO_6:=rb_ HO_6 hb;replace HB:=sb_ HB hb
           (try clear hb)
           (try clear hb2)
           (try clear hk)
           (try clear hi)
           refine hK.out _ _ ⟨HS0_,HS1_,HS2_,HS3_,HS4_,HS5_,HS6_,HS7_⟩ (fun hHeld=>?_);clear hK K;refine no_ (h:=?_);refine done_ (done_of HT_.out (by kernel_rfl)) ?_
           try go_wp2
           go_roundg k2
           case measure=>have:=HK1.out;have:=HK2.out;omega
           case rel=>exact⟨(wrap64 (x8_2+1)),(by first | rfl | (simp;done) | (simp [*];done)),H',⟨by have:=HK1.out;have:=HK2.out;omega⟩,⟨by (with_reducible repeat (first | apply Kd.R_alloc | apply Kd.R_drewN | apply Kd.R_drew));exact HO_5.out⟩,⟨by (with_reducible repeat (first | apply Kd.R_alloc | apply Kd.R_drewN | apply Kd.R_drew));exact HO_6.out⟩,⟨hB_⟩⟩
         ·
          rw [if_neg c12] at H;exact absurd H (by simp)
        ·
         rw [if_neg c11] at H;exact absurd H (by simp)
       ·
        rw [if_neg c10] at H;exact absurd H (by simp)
      ·
       rw [if_neg c9] at H;have c9b0:decide (x8_2<(t168.length:Int))=false:=decide_eq_false c9;clear c9;have H':=Aside0.mk H;clear H;obtain⟨Ao21,co21,eo21⟩:=Kd.R_slice HO_6.out;subst eo21;go_wp2;go_roundg k2
       case measure=>have:=HK1.out;have:=HK2.out;omega
       case rel=>exact⟨(wrap64 (x7_1+1)),(by first | rfl | (simp;done) | (simp [*];done)),H',⟨by have:=HK1.out;have:=HK2.out;omega⟩,⟨by (with_reducible repeat (first | apply Kd.R_alloc | apply Kd.R_drewN | apply Kd.R_drew));exact HO_5.out⟩,⟨by (with_reducible repeat (first | apply Kd.R_alloc | apply Kd.R_drewN | apply Kd.R_drew));exact HO_6.out⟩,⟨hB_⟩⟩
   ·
    rw [if_neg c7] at H;have c7b0:decide (x7_1<(t165.length:Int))=false:=decide_eq_false c7;clear c7;obtain rfl:=Option.some.inj H;obtain⟨Ao22,co22,eo22⟩:=Kd.R_slice HO_5.out;subst eo22;go_wp2;go_ret;exact⟨rr_,hB_⟩
mutual
def spec_LoopOk.l0:Nat→Int→List (S89)→Int→Option (Bool)
 | 0,_,_,_=>none
 | k+1,x3,x4,x5=>if x5<x3 then (if 0≤x5 then (if x5<(x4.length:Int) then ((spec_SegOk.f ((rd_T89 x4 x5).f0.f0) ((rd_T89 x4 x5).f0.f1) ((rd_T89 x4 x5).f1.f0) ((rd_T89 x4 x5).f1.f1)).bind fun t155=>(if t155=true then (spec_LoopOk.l0 k x3 x4 (wrap64 (x5+1))) else (some false))) else (none)) else (none)) else (spec_LoopOk.l1 k x3 x4 0)
def spec_LoopOk.l1:Nat→Int→List (S89)→Int→Option (Bool)
 | 0,_,_,_=>none
 | k+1,x3,x4,x6=>if x6<x3 then (if 0≤x6 then (if x6<(x4.length:Int) then (if x3=0 then (none) else (if 0≤(Int.tmod (wrap64 (x6+1)) x3) then (if (Int.tmod (wrap64 (x6+1)) x3)<(x4.length:Int) then ((spec_l2Has.f ((rd_T89 x4 x6).f0.f0) ((rd_T89 x4 x6).f0.f1) ((rd_T89 x4 x6).f1.f0) ((rd_T89 x4 x6).f1.f1) ((rd_T89 x4 (Int.tmod (wrap64 (x6+1)) x3)).f1.f0) ((rd_T89 x4 (Int.tmod (wrap64 (x6+1)) x3)).f1.f1)).bind fun t158=>(if t158=true then (spec_LoopOk.j2 k x3 x4 x6 true) else ((spec_l2Has.f ((rd_T89 x4 (Int.tmod (wrap64 (x6+1)) x3)).f0.f0) ((rd_T89 x4 (Int.tmod (wrap64 (x6+1)) x3)).f0.f1) ((rd_T89 x4 (Int.tmod (wrap64 (x6+1)) x3)).f1.f0) ((rd_T89 x4 (Int.tmod (wrap64 (x6+1)) x3)).f1.f1) ((rd_T89 x4 x6).f0.f0) ((rd_T89 x4 x6).f0.f1)).bind fun t161=>(spec_LoopOk.j2 k x3 x4 x6 t161)))) else (none)) else (none))) else (none)) else (none)) else (some true)
def spec_LoopOk.j2:Nat→Int→List (S89)→Int→Bool→Option (Bool)
 | 0,_,_,_,_=>none
 | k+1,x3,x4,x6,x58=>if x58=true then (some false) else (spec_LoopOk.l2 k x3 x4 x6 (wrap64 (x6+2)))
def spec_LoopOk.l2:Nat→Int→List (S89)→Int→Int→Option (Bool)
 | 0,_,_,_,_=>none
 | k+1,x3,x4,x6,x7=>if x7<x3 then (if x3=0 then (none) else (if (Int.tmod (wrap64 (x7+1)) x3)=x6 then (spec_LoopOk.l2 k x3 x4 x6 (wrap64 (x7+1))) else (if 0≤x6 then (if x6<(x4.length:Int) then (if 0≤x7 then (if x7<(x4.length:Int) then ((spec_l2Meet.f ((rd_T89 x4 x6).f0.f0) ((rd_T89 x4 x6).f0.f1) ((rd_T89 x4 x6).f1.f0) ((rd_T89 x4 x6).f1.f1) ((rd_T89 x4 x7).f0.f0) ((rd_T89 x4 x7).f0.f1) ((rd_T89 x4 x7).f1.f0) ((rd_T89 x4 x7).f1.f1)).bind fun t164=>(if t164=true then (some false) else (spec_LoopOk.l2 k x3 x4 x6 (wrap64 (x7+1))))) else (none)) else (none)) else (none)) else (none)))) else (spec_LoopOk.l1 k x3 x4 (wrap64 (x6+1)))
end
def spec_LoopOk.f (k:Nat)(l0:List (S37)):Option (Bool):=(spec_l6In.f (l0.length:Int) 3 8).bind fun t150=>(if t150=true then ((spec_l3Edges.f k l0).bind fun t151=>(spec_LoopOk.l0 k (l0.length:Int) t151 0)) else (some false))
def spec_LoopOk.T13:Bool × List (List Nat × List Nat):=(true,[([],[]),([],[]),([0,1],[0,1]),([2],[2]),([],[]),([],[]),([5],[5]),([],[]),([6,7],[6,7]),([4,8],[4,8]),([9],[9]),([10],[10]),([3,11],[3,11]),([12,12],[12]),([13],[13]),([13],[13]),([15,13],[13,15]),([13],[13]),([16,17,13],[13,16,17]),([14,18,13],[13,14,18]),([19,13],[13,19]),([13],[13]),([13],[13]),([21,22,13],[13,21,22]),([23,13],[13,23]),([24,13],[13,24]),([20,25,13,13],[13,20,25]),([13,26],[13,26])])
def spec_LoopOk.B13:List Nat:=[0,0,3,7,0,0,32,0,224,496,1008,2032,4095,8191,16383,16383,49151,16383,245759,524287,1048575,16383,16383,6307839,14696447,31473663,67108863,134217727]
theorem spec_LoopOk.tab13:rtab .any (opsOf Tryd.f49 13)=spec_LoopOk.T13:=by kernel_rfl
theorem spec_LoopOk.bits13:waitsOk spec_LoopOk.T13.2 spec_LoopOk.B13=true:=by kernel_rfl
def spec_LoopOk.T18:Bool × List (List Nat × List Nat):=(true,[([],[]),([0],[0]),([],[]),([1,2],[1,2]),([],[]),([3,4],[3,4]),([5],[5]),([6],[6]),([6],[6]),([7,8,6],[6,7,8]),([9,6],[6,9]),([6],[6]),([6],[6]),([11,12,6],[6,11,12]),([13,6],[6,13]),([10,14,6,6],[6,10,14]),([6,15],[6,15])])
def spec_LoopOk.B18:List Nat:=[0,1,0,7,0,31,63,127,127,511,1023,127,127,6271,14463,32767,65535]
theorem spec_LoopOk.tab18:rtab .any (opsOf Tryd.f49 18)=spec_LoopOk.T18:=by kernel_rfl
theorem spec_LoopOk.bits18:waitsOk spec_LoopOk.T18.2 spec_LoopOk.B18=true:=by kernel_rfl
set_option maxHeartbeats 8000000 in
set_option maxRecDepth 100000 in
theorem spec_LoopOk.calls (k:Nat)(A0:Option Addr)(c0:Nat)(l0:List (S37))(r:Bool)(w:World)(hr0:Kd.C k37 w A0 l0.length l0)(hc0:l0.length≤c0)(h:spec_LoopOk.f k l0=some r):
  Calls Tryd.prog 49 #[.slice A0 l0.length c0] w fun e w'=>e=.returned (.bool r)∧Below w.heap.size w w':=by
 have hu89:=Tryd.underlying89;have hu37:=Tryd.underlying37;have HR0:=Aside0.mk hr0;have HC0:=Aside0.mk hc0;clear hr0 hc0;have HB:=a0_ (Below.refl w.heap.size w);have H:((spec_l6In.f (l0.length:Int) 3 8).bind fun t150=>(if t150=true then ((spec_l3Edges.f k l0).bind fun t151=>(spec_LoopOk.l0 k (l0.length:Int) t151 0)) else (some false)))=some r:=h;clear h;replace H:=Option.bind_eq_some_iff.mp H;obtain⟨t150,A20,H⟩:=H
 (try dsimp only at H)
 have A2:=Aside0.mk A20;clear A20;by_cases c3:t150=true
 ·
  subst c3;rw [if_pos rfl] at H
  (try dsimp only at H)
  replace H:=Option.bind_eq_some_iff.mp H;obtain⟨t151,A40,H⟩:=H
  (try dsimp only at H)
  have A4:=Aside0.mk A40;clear A40;have H':=Aside0.mk H;clear H;go_enter Tryd.func49,Tryd.ntmps49;go_wp2_with (first | ((with_reducible refine gate_callee (f:=52) rfl ?_);refine gL_ (some 11) Tryd.func52 #[.int .i64 (l0.length:Int),.int .i64 3,.int .i64 8] (h:=?_);(with_reducible refine (spec_l6In.calls (l0.length:Int) 3 8 true _ A2.out).mono ?_);rintro e w' ⟨rfl,⟨nd,rfl⟩⟩;refine⟨_,rfl,?_⟩) | ((with_reducible refine gate_callee (f:=72) rfl ?_);refine gL_ (some 14) Tryd.func72 #[.slice A0 l0.length c0] (h:=?_);(with_reducible refine (spec_l3Edges.calls k _ _ l0 t151 _ ?side1 ?side2 A4.out).mono ?_);(case side1=>repeat (first | exact HR0.out | (with_reducible refine Kd.C_alloc ?_ _) | (with_reducible refine Kd.C_drewN ?_ _) | (with_reducible refine Kd.C_drew ?_)));(case side2=>exact HC0.out);rintro e w5 ⟨v152,rfl,ho0,hb⟩;refine⟨_,rfl,?_⟩;have HO153:=a0_ (Kd.R_lower ho0 (below_size hB_));replace HB:=sb_ HB hb;(try clear ho0 hb)));go_loopg [5] k (fun kq v5 w'=>∃ (x5_1:Int),v5=.int .i64 x5_1∧Aside0 (spec_LoopOk.l0 kq (l0.length:Int) t151 x5_1=some r)∧Aside0 (kq≤k)∧Aside0 (Kd.R k89 89 w' w.heap.size (fun _=>True) v152 t151)∧Aside0 (Below w.heap.size w w'))
  case atStart=>exact⟨(0),(by first | rfl | (simp;done) | (simp [*];done)),H',⟨Nat.le_refl _⟩,⟨by (with_reducible repeat (first | apply Kd.R_alloc | apply Kd.R_drewN | apply Kd.R_drew));exact HO153.out⟩,⟨hB_⟩⟩
  case round =>
   clear H';obtain⟨x5_1,rfl,HA,HK1,HO_4,HB⟩:=hrel
   cases gk with
   | zero=>exact absurd HA.out (by simp [spec_LoopOk.l0])
   | succ k1 =>
    have H:=HA.out;clear HA;simp only [spec_LoopOk.l0] at H;by_cases c6:x5_1<(l0.length:Int)
    ·
     rw [if_pos c6] at H;have c6b0:decide (x5_1<(l0.length:Int))=true:=decide_eq_true c6;clear c6;by_cases c7:0≤x5_1
     ·
      rw [if_pos c7] at H;have c7b0:decide (0≤x5_1)=true:=decide_eq_true c7;clear c7;by_cases c8:x5_1<(t151.length:Int)
      ·
       rw [if_pos c8] at H;have c8b0:decide (x5_1<(t151.length:Int))=true:=decide_eq_true c8;clear c8;replace H:=Option.bind_eq_some_iff.mp H;obtain⟨t155,A90,H⟩:=H
       (try dsimp only at H)
       have A9:=Aside0.mk A90;clear A90;by_cases c10:t155=true
       ·
        subst c10;rw [if_pos rfl] at H
        (try dsimp only at H)
        have H':=Aside0.mk H;clear H;obtain⟨Ao11,co11,eo11⟩:=Kd.R_slice HO_4.out;subst eo11;have p154:0≤(x5_1:Int):=od_;have q154:x5_1<(t151.length:Int):=od_;obtain⟨ad154,e154,hx154_0,hx154_1,hx154_2,hx154_3⟩:=at_T89 (Kd.R_reads' HO_4.out).2.2 x5_1 p154 q154;cases e154;replace p154:=eq_true p154;replace q154:=eq_true q154;go_wp2_with (first | ((with_reducible refine gate_callee (f:=73) rfl ?_);refine gL_ (some 24) Tryd.func73 #[.agg #[.int .i64 ((rd_T89 t151 x5_1).f0.f0),.int .i64 ((rd_T89 t151 x5_1).f0.f1),.int .i64 ((rd_T89 t151 x5_1).f1.f0),.int .i64 ((rd_T89 t151 x5_1).f1.f1)]] (h:=?_);(with_reducible refine (spec_SegOk.calls ((rd_T89 t151 x5_1).f0.f0) ((rd_T89 t151 x5_1).f0.f1) ((rd_T89 t151 x5_1).f1.f0) ((rd_T89 t151 x5_1).f1.f1) true _ A9.out).mono ?_);rintro e w12 ⟨rfl,hb⟩;refine⟨_,rfl,?_⟩;replace HO_4:=rb_ HO_4 hb;replace HB:=sb_ HB hb;(try clear hb)));go_roundg k1
        case measure=>have:=HK1.out;omega
        case rel=>exact⟨(wrap64 (x5_1+1)),(by first | rfl | (simp;done) | (simp [*];done)),H',⟨by have:=HK1.out;omega⟩,⟨by (with_reducible repeat (first | apply Kd.R_alloc | apply Kd.R_drewN | apply Kd.R_drew));exact HO_4.out⟩,⟨hB_⟩⟩
       ·
        replace c10:=Bool.eq_false_iff.mpr c10;subst c10;rw [if_neg (show ¬ (false=true) by decide)] at H
        (try dsimp only at H)
        obtain rfl:=Option.some.inj H;obtain⟨Ao13,co13,eo13⟩:=Kd.R_slice HO_4.out;subst eo13;have p154:0≤(x5_1:Int):=od_;have q154:x5_1<(t151.length:Int):=od_;obtain⟨ad154,e154,hx154_0,hx154_1,hx154_2,hx154_3⟩:=at_T89 (Kd.R_reads' HO_4.out).2.2 x5_1 p154 q154;cases e154;replace p154:=eq_true p154;replace q154:=eq_true q154;go_wp2_with (first | ((with_reducible refine gate_callee (f:=73) rfl ?_);refine gL_ (some 24) Tryd.func73 #[.agg #[.int .i64 ((rd_T89 t151 x5_1).f0.f0),.int .i64 ((rd_T89 t151 x5_1).f0.f1),.int .i64 ((rd_T89 t151 x5_1).f1.f0),.int .i64 ((rd_T89 t151 x5_1).f1.f1)]] (h:=?_);(with_reducible refine (spec_SegOk.calls ((rd_T89 t151 x5_1).f0.f0) ((rd_T89 t151 x5_1).f0.f1) ((rd_T89 t151 x5_1).f1.f0) ((rd_T89 t151 x5_1).f1.f1) false _ A9.out).mono ?_);rintro e w14 ⟨rfl,hb⟩;refine⟨_,rfl,?_⟩;replace HO_4:=rb_ HO_4 hb;replace HB:=sb_ HB hb;(try clear hb)));go_ret;exact⟨rr_,hB_⟩
      ·
       rw [if_neg c8] at H;exact absurd H (by simp)
     ·
      rw [if_neg c7] at H;exact absurd H (by simp)
    ·
     rw [if_neg c6] at H;have c6b0:decide (x5_1<(l0.length:Int))=false:=decide_eq_false c6;clear c6;have H':=Aside0.mk H;clear H;go_wp2;go_loopg [6] k1 (fun kq v6 w'=>∃ (x6_2:Int),v6=.int .i64 x6_2∧Aside0 (spec_LoopOk.l1 kq (l0.length:Int) t151 x6_2=some r)∧Aside0 (kq≤k1)∧Aside0 (Kd.R k89 89 w' w.heap.size (fun _=>True) v152 t151)∧Aside0 (Below w.heap.size w w'))
     case atStart=>exact⟨(0),(by first | rfl | (simp;done) | (simp [*];done)),H',⟨Nat.le_refl _⟩,⟨by (with_reducible repeat (first | apply Kd.R_alloc | apply Kd.R_drewN | apply Kd.R_drew));exact HO_4.out⟩,⟨hB_⟩⟩
     case round =>
      clear H';obtain⟨x6_2,rfl,HA,HK2,HO_4,HB⟩:=hrel
      cases gk with
      | zero=>exact absurd HA.out (by simp [spec_LoopOk.l1])
      | succ k2 =>
       have H:=HA.out;clear HA;simp only [spec_LoopOk.l1] at H;by_cases c15:x6_2<(l0.length:Int)
       ·
        rw [if_pos c15] at H;have c15b0:decide (x6_2<(l0.length:Int))=true:=decide_eq_true c15;clear c15;have HC16:=Aside0.mk H;clear H;go_upto_region 13 with (fail)
        go_cut [58] (fun v58 wc=>∃ (kq:Nat) (x58_15:Bool),v58=.bool x58_15∧Aside0 (spec_LoopOk.j2 kq (l0.length:Int) t151 x6_2 x58_15=some r)∧Aside0 (kq≤k2)∧Aside0 (Kd.R k89 89 wc w.heap.size (fun _=>True) v152 t151)∧Aside0 (Below w.heap.size w wc))
        case first =>
         have H:=HC16.out;clear HC16;by_cases c17:0≤x6_2
         ·
          rw [if_pos c17] at H;have c17b0:decide (0≤x6_2)=true:=decide_eq_true c17;clear c17
          (first | rw [c17b0] | (simp only [i64_w,i32_w];rw [c17b0]) | skip)
          by_cases c18:x6_2<(t151.length:Int)
          ·
           rw [if_pos c18] at H;have c18b0:decide (x6_2<(t151.length:Int))=true:=decide_eq_true c18;clear c18;by_cases c19:(l0.length:Int)=0
           ·
            rw [if_pos c19] at H;exact absurd H (by simp)
           ·
            rw [if_neg c19] at H;have c19b0:((l0.length:Int)==0)=false:=beq_eq_false_iff_ne.mpr c19;have c19b1:((l0.length:Int) != 0)=true:=bne_iff_ne.mpr c19;have c19b2:¬ (l0=[]):=fun h_=>c19 (by rw [h_];rfl)
            obtain⟨ji20,hji20⟩:∃ j_:Int,(Int.tmod (wrap64 (x6_2+1)) (l0.length:Int))=j_:=⟨_,rfl⟩;replace H:(if 0≤(ji20) then (if (ji20)<(t151.length:Int) then ((spec_l2Has.f ((rd_T89 t151 x6_2).f0.f0) ((rd_T89 t151 x6_2).f0.f1) ((rd_T89 t151 x6_2).f1.f0) ((rd_T89 t151 x6_2).f1.f1) ((rd_T89 t151 (ji20)).f1.f0) ((rd_T89 t151 (ji20)).f1.f1)).bind fun t158=>(if t158=true then (spec_LoopOk.j2 k2 (l0.length:Int) t151 x6_2 true) else ((spec_l2Has.f ((rd_T89 t151 (ji20)).f0.f0) ((rd_T89 t151 (ji20)).f0.f1) ((rd_T89 t151 (ji20)).f1.f0) ((rd_T89 t151 (ji20)).f1.f1) ((rd_T89 t151 x6_2).f0.f0) ((rd_T89 t151 x6_2).f0.f1)).bind fun t161=>(spec_LoopOk.j2 k2 (l0.length:Int) t151 x6_2 t161)))) else (none)) else (none))=some r:=by first | (rw [hji20] at H;exact H) | (simp only [hji20] at H ⊢;exact H)
            by_cases c21:0≤(ji20)
            ·
             rw [if_pos c21] at H;have c21b0:decide (0≤(ji20))=true:=decide_eq_true c21;clear c21;by_cases c22:(ji20)<(t151.length:Int)
             ·
              rw [if_pos c22] at H;have c22b0:decide ((ji20)<(t151.length:Int))=true:=decide_eq_true c22;clear c22;replace H:=Option.bind_eq_some_iff.mp H;obtain⟨t158,A230,H⟩:=H
              (try dsimp only at H)
              have A23:=Aside0.mk A230;clear A230;by_cases c24:t158=true
              ·
               subst c24;rw [if_pos rfl] at H
               (try dsimp only at H)
               have H':=Aside0.mk H;clear H
               try go_wp2
               replace HO_4:=a0_ (Kd.R_drew HO_4.out);replace HB:=a0_ (below_drew1 HB.out);obtain⟨Ao26,co26,eo26⟩:=Kd.R_slice HO_4.out
               (first | subst eo26 | (injection eo26 with f1_ f2_ f3_;have f4_:=f1_.symm;have f5_:=f3_.symm;clear f1_ f2_ f3_;subst f4_;subst f5_))
               have p156:0≤(x6_2:Int):=od_;have q156:x6_2<(t151.length:Int):=od_;obtain⟨ad156,e156,hx156_0,hx156_1,hx156_2,hx156_3⟩:=at_T89 (Kd.R_reads' HO_4.out).2.2 x6_2 p156 q156;cases e156;replace p156:=eq_true p156;replace q156:=eq_true q156;have p157:0≤((ji20):Int):=od_;have q157:(ji20)<(t151.length:Int):=od_;obtain⟨ad157,e157,hx157_0,hx157_1,hx157_2,hx157_3⟩:=at_T89 (Kd.R_reads' HO_4.out).2.2 (ji20) p157 q157;obtain rfl:ad156=ad157:=(by injection e157);replace p157:=eq_true p157;replace q157:=eq_true q157;refine start_ (n:=28) (S:=fun w'=>w'.cell? (ad156.add ((x6_2).toNat*4))=some (.int .i64 ((rd_T89 t151 x6_2).f0.f0))∧w'.cell? ⟨(ad156.add ((x6_2).toNat*4)).block,(ad156.add ((x6_2).toNat*4)).off+1,none⟩=some (.int .i64 ((rd_T89 t151 x6_2).f0.f1))∧w'.cell? ⟨(ad156.add ((x6_2).toNat*4)).block,(ad156.add ((x6_2).toNat*4)).off+2,none⟩=some (.int .i64 ((rd_T89 t151 x6_2).f1.f0))∧w'.cell? ⟨(ad156.add ((x6_2).toNat*4)).block,(ad156.add ((x6_2).toNat*4)).off+3,none⟩=some (.int .i64 ((rd_T89 t151 x6_2).f1.f1))∧w'.cell? (ad156.add (((ji20)).toNat*4))=some (.int .i64 ((rd_T89 t151 (ji20)).f0.f0))∧w'.cell? ⟨(ad156.add (((ji20)).toNat*4)).block,(ad156.add (((ji20)).toNat*4)).off+1,none⟩=some (.int .i64 ((rd_T89 t151 (ji20)).f0.f1))∧w'.cell? ⟨(ad156.add (((ji20)).toNat*4)).block,(ad156.add (((ji20)).toNat*4)).off+2,none⟩=some (.int .i64 ((rd_T89 t151 (ji20)).f1.f0))∧w'.cell? ⟨(ad156.add (((ji20)).toNat*4)).block,(ad156.add (((ji20)).toNat*4)).off+3,none⟩=some (.int .i64 ((rd_T89 t151 (ji20)).f1.f1))) (ds:=[]) (Array.replicate 28 false) (by kernel_rfl) rfl rfl ⟨hx156_0,hx156_1,hx156_2,hx156_3,hx157_0,hx157_1,hx157_2,hx157_3⟩ (fun hHeld=>?_);refine with_tabW spec_LoopOk.tab13 spec_LoopOk.bits13 (fun HT_ HW_=>?_)
               generalize wr.drew=w25 at HO_4 HB hx156_0 hx156_1 hx156_2 hx156_3 hx157_0 hx157_1 hx157_2 hx157_3 hHeld ⊢
               refine pu_ HT_ 0 31 (bm 28 1) ?_;refine pu_ HT_ 1 32 (bm 28 3) ?_;refine pu_ HT_ 2 33 (bm 28 7) ?_;refine pu_ HT_ 4 35 (bm 28 23) ?_;refine pu_ HT_ 5 36 (bm 28 55) ?_;refine pu_ HT_ 6 37 (bm 28 119) ?_;refine pu_ HT_ 7 38 (bm 28 247) ?_;refine pu_ HT_ 8 39 (bm 28 503) ?_;refine pu_ HT_ 9 40 (bm 28 1015) ?_;refine pu_ HT_ 10 41 (bm 28 2039) ?_;refine ta8_ HT_ HW_ 3 34 (bm 28 2047) hHeld ?_;refine ta8_ HT_ HW_ 11 42 (bm 28 4095) hHeld ?_;refine one_ (i:=12) (N:=some 43) (bm 28 8191) rfl rfl (one_of HT_.out (by kernel_rfl)) (by decide) (fun K hK=>?_);refine goes_ Tryd.func74 (by kernel_rfl) rfl #[.agg #[.int .i64 ((rd_T89 t151 x6_2).f0.f0),.int .i64 ((rd_T89 t151 x6_2).f0.f1),.int .i64 ((rd_T89 t151 x6_2).f1.f0),.int .i64 ((rd_T89 t151 x6_2).f1.f1)],.agg #[.int .i64 ((rd_T89 t151 (ji20)).f1.f0),.int .i64 ((rd_T89 t151 (ji20)).f1.f1)]] (by rfl) rfl rfl (by (try simp only [List.map_toArray,List.map_cons,List.map_nil]);first | done | (simp only [hji20];rfl) | rfl | (simp only [List.length_drop,List.length_take];rfl)) ?_
               with_reducible refine (spec_l2Has.calls ((rd_T89 t151 x6_2).f0.f0) ((rd_T89 t151 x6_2).f0.f1) ((rd_T89 t151 x6_2).f1.f0) ((rd_T89 t151 x6_2).f1.f1) ((rd_T89 t151 (ji20)).f1.f0) ((rd_T89 t151 (ji20)).f1.f1) true _ A23.out).mono ?_
               rintro e w27 ⟨rfl,hb⟩;have HS0_:=pw_cell_below hb hHeld.1;have HS1_:=pw_cell_below hb hHeld.2.1;have HS2_:=pw_cell_below hb hHeld.2.2.1;have HS3_:=pw_cell_below hb hHeld.2.2.2.1;have HS4_:=pw_cell_below hb hHeld.2.2.2.2.1;have HS5_:=pw_cell_below hb hHeld.2.2.2.2.2.1;have HS6_:=pw_cell_below hb hHeld.2.2.2.2.2.2.1;have HS7_:=pw_cell_below hb hHeld.2.2.2.2.2.2.2;refine⟨_,rfl,?_⟩;replace HO_4:=rb_ HO_4 hb;replace HB:=sb_ HB hb
               (try clear hb)
               (try clear hb2)
               (try clear hk)
               (try clear hi)
               refine hK.out _ _ ⟨HS0_,HS1_,HS2_,HS3_,HS4_,HS5_,HS6_,HS7_⟩ (fun hHeld=>?_);clear hK K;refine no_ (h:=?_);refine pu_ HT_ 13 44 (bm 28 16383) ?_;refine pz_ HT_ 14 45 (bm 28 32767) ?_;refine pz_ HT_ 15 46 (bm 28 65535) ?_;refine pz_ HT_ 16 47 (bm 28 131071) ?_;refine pz_ HT_ 17 48 (bm 28 262143) ?_;refine pz_ HT_ 18 49 (bm 28 524287) ?_;refine pz_ HT_ 19 50 (bm 28 1048575) ?_;refine pz_ HT_ 20 51 (bm 28 2097151) ?_;refine pz_ HT_ 21 52 (bm 28 4194303) ?_;refine pz_ HT_ 22 53 (bm 28 8388607) ?_;refine pz_ HT_ 23 54 (bm 28 16777215) ?_;refine pz_ HT_ 24 55 (bm 28 33554431) ?_;refine pz_ HT_ 25 56 (bm 28 67108863) ?_;refine pz_ HT_ 26 57 (bm 28 134217727) ?_;refine pu_ HT_ 27 58 (bm 28 268435455) ?_;refine done_ (done_of HT_.out (by kernel_rfl)) ?_
               try go_wp2
               go_meet
               case rel=>exact⟨_,(true),(by first | rfl | (simp;done) | (simp [*];done)),H',⟨by have:=HK1.out;have:=HK2.out;first | omega | exact Nat.le_refl _⟩,⟨by (with_reducible repeat (first | apply Kd.R_alloc | apply Kd.R_drewN | apply Kd.R_drew));exact HO_4.out⟩,⟨hB_⟩⟩
              ·
               replace c24:=Bool.eq_false_iff.mpr c24;subst c24;rw [if_neg (show ¬ (false=true) by decide)] at H
               (try dsimp only at H)
               replace H:=Option.bind_eq_some_iff.mp H;obtain⟨t161,A280,H⟩:=H
               (try dsimp only at H)
               have A28:=Aside0.mk A280;clear A280;have H':=Aside0.mk H;clear H
               try go_wp2
               replace HO_4:=a0_ (Kd.R_drew HO_4.out);replace HB:=a0_ (below_drew1 HB.out);obtain⟨Ao30,co30,eo30⟩:=Kd.R_slice HO_4.out
               (first | subst eo30 | (injection eo30 with f1_ f2_ f3_;have f4_:=f1_.symm;have f5_:=f3_.symm;clear f1_ f2_ f3_;subst f4_;subst f5_))
               have p156:0≤(x6_2:Int):=od_;have q156:x6_2<(t151.length:Int):=od_;obtain⟨ad156,e156,hx156_0,hx156_1,hx156_2,hx156_3⟩:=at_T89 (Kd.R_reads' HO_4.out).2.2 x6_2 p156 q156;cases e156;replace p156:=eq_true p156;replace q156:=eq_true q156;have p157:0≤((ji20):Int):=od_;have q157:(ji20)<(t151.length:Int):=od_;obtain⟨ad157,e157,hx157_0,hx157_1,hx157_2,hx157_3⟩:=at_T89 (Kd.R_reads' HO_4.out).2.2 (ji20) p157 q157;obtain rfl:ad156=ad157:=(by injection e157);replace p157:=eq_true p157;replace q157:=eq_true q157;have p159:0≤((ji20):Int):=od_;have q159:(ji20)<(t151.length:Int):=od_;obtain⟨ad159,e159,hx159_0,hx159_1,hx159_2,hx159_3⟩:=at_T89 (Kd.R_reads' HO_4.out).2.2 (ji20) p159 q159;obtain rfl:ad156=ad159:=(by injection e159);replace p159:=eq_true p159;replace q159:=eq_true q159;have p160:0≤(x6_2:Int):=od_;have q160:x6_2<(t151.length:Int):=od_;obtain⟨ad160,e160,hx160_0,hx160_1,hx160_2,hx160_3⟩:=at_T89 (Kd.R_reads' HO_4.out).2.2 x6_2 p160 q160;obtain rfl:ad156=ad160:=(by injection e160);replace p160:=eq_true p160;replace q160:=eq_true q160
               refine start_ (n:=28) (S:=fun w'=>w'.cell? (ad156.add ((x6_2).toNat*4))=some (.int .i64 ((rd_T89 t151 x6_2).f0.f0))∧w'.cell? ⟨(ad156.add ((x6_2).toNat*4)).block,(ad156.add ((x6_2).toNat*4)).off+1,none⟩=some (.int .i64 ((rd_T89 t151 x6_2).f0.f1))∧w'.cell? ⟨(ad156.add ((x6_2).toNat*4)).block,(ad156.add ((x6_2).toNat*4)).off+2,none⟩=some (.int .i64 ((rd_T89 t151 x6_2).f1.f0))∧w'.cell? ⟨(ad156.add ((x6_2).toNat*4)).block,(ad156.add ((x6_2).toNat*4)).off+3,none⟩=some (.int .i64 ((rd_T89 t151 x6_2).f1.f1))∧w'.cell? (ad156.add (((ji20)).toNat*4))=some (.int .i64 ((rd_T89 t151 (ji20)).f0.f0))∧w'.cell? ⟨(ad156.add (((ji20)).toNat*4)).block,(ad156.add (((ji20)).toNat*4)).off+1,none⟩=some (.int .i64 ((rd_T89 t151 (ji20)).f0.f1))∧w'.cell? ⟨(ad156.add (((ji20)).toNat*4)).block,(ad156.add (((ji20)).toNat*4)).off+2,none⟩=some (.int .i64 ((rd_T89 t151 (ji20)).f1.f0))∧w'.cell? ⟨(ad156.add (((ji20)).toNat*4)).block,(ad156.add (((ji20)).toNat*4)).off+3,none⟩=some (.int .i64 ((rd_T89 t151 (ji20)).f1.f1))∧w'.cell? (ad156.add (((ji20)).toNat*4))=some (.int .i64 ((rd_T89 t151 (ji20)).f0.f0))∧w'.cell? ⟨(ad156.add (((ji20)).toNat*4)).block,(ad156.add (((ji20)).toNat*4)).off+1,none⟩=some (.int .i64 ((rd_T89 t151 (ji20)).f0.f1))∧w'.cell? ⟨(ad156.add (((ji20)).toNat*4)).block,(ad156.add (((ji20)).toNat*4)).off+2,none⟩=some (.int .i64 ((rd_T89 t151 (ji20)).f1.f0))∧w'.cell? ⟨(ad156.add (((ji20)).toNat*4)).block,(ad156.add (((ji20)).toNat*4)).off+3,none⟩=some (.int .i64 ((rd_T89 t151 (ji20)).f1.f1))∧w'.cell? (ad156.add ((x6_2).toNat*4))=some (.int .i64 ((rd_T89 t151 x6_2).f0.f0))∧w'.cell? ⟨(ad156.add ((x6_2).toNat*4)).block,(ad156.add ((x6_2).toNat*4)).off+1,none⟩=some (.int .i64 ((rd_T89 t151 x6_2).f0.f1))∧w'.cell? ⟨(ad156.add ((x6_2).toNat*4)).block,(ad156.add ((x6_2).toNat*4)).off+2,none⟩=some (.int .i64 ((rd_T89 t151 x6_2).f1.f0))∧w'.cell? ⟨(ad156.add ((x6_2).toNat*4)).block,(ad156.add ((x6_2).toNat*4)).off+3,none⟩=some (.int .i64 ((rd_T89 t151 x6_2).f1.f1))) (ds:=[]) (Array.replicate 28 false) (by kernel_rfl) rfl rfl ⟨hx156_0,hx156_1,hx156_2,hx156_3,hx157_0,hx157_1,hx157_2,hx157_3,hx159_0,hx159_1,hx159_2,hx159_3,hx160_0,hx160_1,hx160_2,hx160_3⟩ (fun hHeld=>?_);refine with_tabW spec_LoopOk.tab13 spec_LoopOk.bits13 (fun HT_ HW_=>?_)
               generalize wr.drew=w29 at HO_4 HB hx156_0 hx156_1 hx156_2 hx156_3 hx157_0 hx157_1 hx157_2 hx157_3 hx159_0 hx159_1 hx159_2 hx159_3 hx160_0 hx160_1 hx160_2 hx160_3 hHeld ⊢
               refine pu_ HT_ 0 31 (bm 28 1) ?_;refine pu_ HT_ 1 32 (bm 28 3) ?_;refine pu_ HT_ 2 33 (bm 28 7) ?_;refine pu_ HT_ 4 35 (bm 28 23) ?_;refine pu_ HT_ 5 36 (bm 28 55) ?_;refine pu_ HT_ 6 37 (bm 28 119) ?_;refine pu_ HT_ 7 38 (bm 28 247) ?_;refine pu_ HT_ 8 39 (bm 28 503) ?_;refine pu_ HT_ 9 40 (bm 28 1015) ?_;refine pu_ HT_ 10 41 (bm 28 2039) ?_;refine ta16_ HT_ HW_ 3 34 (bm 28 2047) hHeld ?_;refine ta16_ HT_ HW_ 11 42 (bm 28 4095) hHeld ?_;refine one_ (i:=12) (N:=some 43) (bm 28 8191) rfl rfl (one_of HT_.out (by kernel_rfl)) (by decide) (fun K hK=>?_);refine goes_ Tryd.func74 (by kernel_rfl) rfl #[.agg #[.int .i64 ((rd_T89 t151 x6_2).f0.f0),.int .i64 ((rd_T89 t151 x6_2).f0.f1),.int .i64 ((rd_T89 t151 x6_2).f1.f0),.int .i64 ((rd_T89 t151 x6_2).f1.f1)],.agg #[.int .i64 ((rd_T89 t151 (ji20)).f1.f0),.int .i64 ((rd_T89 t151 (ji20)).f1.f1)]] (by rfl) rfl rfl (by (try simp only [List.map_toArray,List.map_cons,List.map_nil]);first | done | (simp only [hji20];rfl) | rfl | (simp only [List.length_drop,List.length_take];rfl)) ?_
               with_reducible refine (spec_l2Has.calls ((rd_T89 t151 x6_2).f0.f0) ((rd_T89 t151 x6_2).f0.f1) ((rd_T89 t151 x6_2).f1.f0) ((rd_T89 t151 x6_2).f1.f1) ((rd_T89 t151 (ji20)).f1.f0) ((rd_T89 t151 (ji20)).f1.f1) false _ A23.out).mono ?_
               rintro e w31 ⟨rfl,hb⟩;have HS0_:=pw_cell_below hb hHeld.1;have HS1_:=pw_cell_below hb hHeld.2.1;have HS2_:=pw_cell_below hb hHeld.2.2.1;have HS3_:=pw_cell_below hb hHeld.2.2.2.1;have HS4_:=pw_cell_below hb hHeld.2.2.2.2.1;have HS5_:=pw_cell_below hb hHeld.2.2.2.2.2.1;have HS6_:=pw_cell_below hb hHeld.2.2.2.2.2.2.1;have HS7_:=pw_cell_below hb hHeld.2.2.2.2.2.2.2.1;have HS8_:=pw_cell_below hb hHeld.2.2.2.2.2.2.2.2.1;have HS9_:=pw_cell_below hb hHeld.2.2.2.2.2.2.2.2.2.1;have HS10_:=pw_cell_below hb hHeld.2.2.2.2.2.2.2.2.2.2.1;have HS11_:=pw_cell_below hb hHeld.2.2.2.2.2.2.2.2.2.2.2.1;have HS12_:=pw_cell_below hb hHeld.2.2.2.2.2.2.2.2.2.2.2.2.1;have HS13_:=pw_cell_below hb hHeld.2.2.2.2.2.2.2.2.2.2.2.2.2.1;have HS14_:=pw_cell_below hb hHeld.2.2.2.2.2.2.2.2.2.2.2.2.2.2.1;have HS15_:=pw_cell_below hb hHeld.2.2.2.2.2.2.2.2.2.2.2.2.2.2.2;refine⟨_,rfl,?_⟩;replace HO_4:=rb_ HO_4 hb;replace HB:=sb_ HB hb
               (try clear hb)
               (try clear hb2)
               (try clear hk)
               (try clear hi)
               refine hK.out _ _ ⟨HS0_,HS1_,HS2_,HS3_,HS4_,HS5_,HS6_,HS7_,HS8_,HS9_,HS10_,HS11_,HS12_,HS13_,HS14_,HS15_⟩ (fun hHeld=>?_);clear hK K;refine no_ (h:=?_);refine pu_ HT_ 13 44 (bm 28 16383) ?_;refine pu_ HT_ 14 45 (bm 28 32767) ?_;refine pu_ HT_ 15 46 (bm 28 65535) ?_;refine pu_ HT_ 16 47 (bm 28 131071) ?_;refine pu_ HT_ 17 48 (bm 28 262143) ?_;refine pu_ HT_ 18 49 (bm 28 524287) ?_;refine pu_ HT_ 19 50 (bm 28 1048575) ?_;refine pu_ HT_ 21 52 (bm 28 3145727) ?_;refine pu_ HT_ 22 53 (bm 28 7340031) ?_;refine pu_ HT_ 23 54 (bm 28 15728639) ?_;refine pu_ HT_ 24 55 (bm 28 32505855) ?_;refine ta16_ HT_ HW_ 20 51 (bm 28 33554431) hHeld ?_;refine ta16_ HT_ HW_ 25 56 (bm 28 67108863) hHeld ?_;refine one_ (i:=26) (N:=some 57) (bm 28 134217727) rfl rfl (one_of HT_.out (by kernel_rfl)) (by decide) (fun K hK=>?_);refine goes_ Tryd.func74 (by kernel_rfl) rfl #[.agg #[.int .i64 ((rd_T89 t151 (ji20)).f0.f0),.int .i64 ((rd_T89 t151 (ji20)).f0.f1),.int .i64 ((rd_T89 t151 (ji20)).f1.f0),.int .i64 ((rd_T89 t151 (ji20)).f1.f1)],.agg #[.int .i64 ((rd_T89 t151 x6_2).f0.f0),.int .i64 ((rd_T89 t151 x6_2).f0.f1)]] (by rfl) rfl rfl (by (try simp only [List.map_toArray,List.map_cons,List.map_nil]);first | done | (simp only [hji20];rfl) | rfl | (simp only [List.length_drop,List.length_take];rfl)) ?_
               with_reducible refine (spec_l2Has.calls ((rd_T89 t151 (ji20)).f0.f0) ((rd_T89 t151 (ji20)).f0.f1) ((rd_T89 t151 (ji20)).f1.f0) ((rd_T89 t151 (ji20)).f1.f1) ((rd_T89 t151 x6_2).f0.f0) ((rd_T89 t151 x6_2).f0.f1) t161 _ A28.out).mono ?_
               rintro e w32 ⟨rfl,hb⟩;have HS0_:=pw_cell_below hb hHeld.1;have HS1_:=pw_cell_below hb hHeld.2.1;have HS2_:=pw_cell_below hb hHeld.2.2.1;have HS3_:=pw_cell_below hb hHeld.2.2.2.1;have HS4_:=pw_cell_below hb hHeld.2.2.2.2.1;have HS5_:=pw_cell_below hb hHeld.2.2.2.2.2.1;have HS6_:=pw_cell_below hb hHeld.2.2.2.2.2.2.1;have HS7_:=pw_cell_below hb hHeld.2.2.2.2.2.2.2.1;have HS8_:=pw_cell_below hb hHeld.2.2.2.2.2.2.2.2.1;have HS9_:=pw_cell_below hb hHeld.2.2.2.2.2.2.2.2.2.1;have HS10_:=pw_cell_below hb hHeld.2.2.2.2.2.2.2.2.2.2.1;have HS11_:=pw_cell_below hb hHeld.2.2.2.2.2.2.2.2.2.2.2.1;have HS12_:=pw_cell_below hb hHeld.2.2.2.2.2.2.2.2.2.2.2.2.1;have HS13_:=pw_cell_below hb hHeld.2.2.2.2.2.2.2.2.2.2.2.2.2.1;have HS14_:=pw_cell_below hb hHeld.2.2.2.2.2.2.2.2.2.2.2.2.2.2.1;have HS15_:=pw_cell_below hb hHeld.2.2.2.2.2.2.2.2.2.2.2.2.2.2.2;refine⟨_,rfl,?_⟩;replace HO_4:=rb_ HO_4 hb;replace HB:=sb_ HB hb
               (try clear hb)
               (try clear hb2)
               (try clear hk)
               (try clear hi)
               refine hK.out _ _ ⟨HS0_,HS1_,HS2_,HS3_,HS4_,HS5_,HS6_,HS7_,HS8_,HS9_,HS10_,HS11_,HS12_,HS13_,HS14_,HS15_⟩ (fun hHeld=>?_);clear hK K;refine no_ (h:=?_);refine pu_ HT_ 27 58 (bm 28 268435455) ?_;refine done_ (done_of HT_.out (by kernel_rfl)) ?_
               try go_wp2
               go_meet
               case rel=>exact⟨_,(t161),(by first | rfl | (simp;done) | (simp [*];done)),H',⟨by have:=HK1.out;have:=HK2.out;first | omega | exact Nat.le_refl _⟩,⟨by (with_reducible repeat (first | apply Kd.R_alloc | apply Kd.R_drewN | apply Kd.R_drew));exact HO_4.out⟩,⟨hB_⟩⟩
             ·
              rw [if_neg c22] at H;exact absurd H (by simp)
            ·
             rw [if_neg c21] at H;exact absurd H (by simp)
          ·
           rw [if_neg c18] at H;exact absurd H (by simp)
         ·
          rw [if_neg c17] at H;exact absurd H (by simp)
        case rest =>
         clear HC16;obtain⟨kq,x58_15,rfl,HA,HJ15,HO_4,HB⟩:=hcut
         cases kq with
         | zero=>exact absurd HA.out (by simp [spec_LoopOk.j2])
         | succ kj15 =>
          have H:=HA.out;clear HA;simp only [spec_LoopOk.j2] at H;by_cases c33:x58_15=true
          ·
           subst c33;rw [if_pos rfl] at H
           (try dsimp only at H)
           obtain rfl:=Option.some.inj H;go_wp2;go_ret;exact⟨rr_,hB_⟩
          ·
           replace c33:=Bool.eq_false_iff.mpr c33;subst c33;rw [if_neg (show ¬ (false=true) by decide)] at H
           (try dsimp only at H)
           have H':=Aside0.mk H;clear H;go_wp2;go_loopg [7] kj15 (fun kq v7 w'=>∃ (x7_4:Int),v7=.int .i64 x7_4∧Aside0 (spec_LoopOk.l2 kq (l0.length:Int) t151 x6_2 x7_4=some r)∧Aside0 (kq≤kj15)∧Aside0 (Kd.R k89 89 w' w.heap.size (fun _=>True) v152 t151)∧Aside0 (Below w.heap.size w w'))
           case atStart=>exact⟨(wrap64 (x6_2+2)),(by first | rfl | (simp;done) | (simp [*];done)),H',⟨Nat.le_refl _⟩,⟨by (with_reducible repeat (first | apply Kd.R_alloc | apply Kd.R_drewN | apply Kd.R_drew));exact HO_4.out⟩,⟨hB_⟩⟩
           case round =>
            clear H';obtain⟨x7_4,rfl,HA,HK4,HO_4,HB⟩:=hrel
            cases gk with
            | zero=>exact absurd HA.out (by simp [spec_LoopOk.l2])
            | succ k4 =>
             have H:=HA.out;clear HA;simp only [spec_LoopOk.l2] at H;by_cases c34:x7_4<(l0.length:Int)
             ·
              rw [if_pos c34] at H;have c34b0:decide (x7_4<(l0.length:Int))=true:=decide_eq_true c34;clear c34;by_cases c35:(l0.length:Int)=0
              ·
               rw [if_pos c35] at H;exact absurd H (by simp)
              ·
               rw [if_neg c35] at H;have c35b0:((l0.length:Int)==0)=false:=beq_eq_false_iff_ne.mpr c35;have c35b1:((l0.length:Int) != 0)=true:=bne_iff_ne.mpr c35;have c35b2:¬ (l0=[]):=fun h_=>c35 (by rw [h_];rfl)
               by_cases c36:(Int.tmod (wrap64 (x7_4+1)) (l0.length:Int))=x6_2
               ·
                rw [if_pos c36] at H;have c36b0:((Int.tmod (wrap64 (x7_4+1)) (l0.length:Int))==x6_2)=true:=beq_iff_eq.mpr c36;have c36b1:((Int.tmod (wrap64 (x7_4+1)) (l0.length:Int)) != x6_2)=false:=bne_eq_false_iff_eq.mpr c36;clear c36;have H':=Aside0.mk H;clear H
                try go_wp2
                replace HO_4:=a0_ (Kd.R_drew HO_4.out);replace HB:=a0_ (below_drew1 HB.out);refine start_ (n:=17) (S:=fun w'=>True) (ds:=[]) (Array.replicate 17 false) (by kernel_rfl) rfl rfl trivial (fun hHeld=>?_);refine with_tabW spec_LoopOk.tab18 spec_LoopOk.bits18 (fun HT_ HW_=>?_);generalize wr.drew=w37 at HO_4 HB hHeld ⊢
                refine pu_ HT_ 0 66 (bm 17 1) ?_;refine pu_ HT_ 1 67 (bm 17 3) ?_;refine pu_ HT_ 2 68 (bm 17 7) ?_;refine pu_ HT_ 3 69 (bm 17 15) ?_;refine pu_ HT_ 4 70 (bm 17 31) ?_;refine pu_ HT_ 5 71 (bm 17 63) ?_;refine pu_ HT_ 6 72 (bm 17 127) ?_;refine pz_ HT_ 7 73 (bm 17 255) ?_;refine pz_ HT_ 8 74 (bm 17 511) ?_;refine pz_ HT_ 9 75 (bm 17 1023) ?_;refine pz_ HT_ 10 76 (bm 17 2047) ?_;refine pz_ HT_ 11 77 (bm 17 4095) ?_;refine pz_ HT_ 12 78 (bm 17 8191) ?_;refine pz_ HT_ 13 79 (bm 17 16383) ?_;refine pz_ HT_ 14 80 (bm 17 32767) ?_;refine pz_ HT_ 15 81 (bm 17 65535) ?_;refine pu_ HT_ 16 82 (bm 17 131071) ?_;refine done_ (done_of HT_.out (by kernel_rfl)) ?_
                try go_wp2
                go_roundg k4
                case measure=>have:=HK1.out;have:=HK2.out;have:=HJ15.out;have:=HK4.out;omega
                case rel=>exact⟨(wrap64 (x7_4+1)),(by first | rfl | (simp;done) | (simp [*];done)),H',⟨by have:=HK1.out;have:=HK2.out;have:=HJ15.out;have:=HK4.out;omega⟩,⟨by (with_reducible repeat (first | apply Kd.R_alloc | apply Kd.R_drewN | apply Kd.R_drew));exact HO_4.out⟩,⟨hB_⟩⟩
               ·
                rw [if_neg c36] at H;have c36b0:((Int.tmod (wrap64 (x7_4+1)) (l0.length:Int))==x6_2)=false:=beq_eq_false_iff_ne.mpr c36;have c36b1:((Int.tmod (wrap64 (x7_4+1)) (l0.length:Int)) != x6_2)=true:=bne_iff_ne.mpr c36;by_cases c38:0≤x6_2
                ·
                 rw [if_pos c38] at H;have c38b0:decide (0≤x6_2)=true:=decide_eq_true c38;clear c38;by_cases c39:x6_2<(t151.length:Int)
                 ·
                  rw [if_pos c39] at H;have c39b0:decide (x6_2<(t151.length:Int))=true:=decide_eq_true c39;clear c39;by_cases c40:0≤x7_4
                  ·
                   rw [if_pos c40] at H;have c40b0:decide (0≤x7_4)=true:=decide_eq_true c40;clear c40;by_cases c41:x7_4<(t151.length:Int)
                   ·
                    rw [if_pos c41] at H;have c41b0:decide (x7_4<(t151.length:Int))=true:=decide_eq_true c41;clear c41;replace H:=Option.bind_eq_some_iff.mp H;obtain⟨t164,A420,H⟩:=H
                    (try dsimp only at H)
                    have A42:=Aside0.mk A420;clear A420;by_cases c43:t164=true
                    ·
                     subst c43;rw [if_pos rfl] at H
                     (try dsimp only at H)
                     obtain rfl:=Option.some.inj H
                     try go_wp2
                     replace HO_4:=a0_ (Kd.R_drew HO_4.out);replace HB:=a0_ (below_drew1 HB.out);obtain⟨Ao45,co45,eo45⟩:=Kd.R_slice HO_4.out
                     (first | subst eo45 | (injection eo45 with f1_ f2_ f3_;have f4_:=f1_.symm;have f5_:=f3_.symm;clear f1_ f2_ f3_;subst f4_;subst f5_))
                     have p162:0≤(x6_2:Int):=od_;have q162:x6_2<(t151.length:Int):=od_;obtain⟨ad162,e162,hx162_0,hx162_1,hx162_2,hx162_3⟩:=at_T89 (Kd.R_reads' HO_4.out).2.2 x6_2 p162 q162;cases e162;replace p162:=eq_true p162;replace q162:=eq_true q162;have p163:0≤(x7_4:Int):=od_;have q163:x7_4<(t151.length:Int):=od_;obtain⟨ad163,e163,hx163_0,hx163_1,hx163_2,hx163_3⟩:=at_T89 (Kd.R_reads' HO_4.out).2.2 x7_4 p163 q163;obtain rfl:ad162=ad163:=(by injection e163);replace p163:=eq_true p163;replace q163:=eq_true q163;refine start_ (n:=17) (S:=fun w'=>w'.cell? (ad162.add ((x6_2).toNat*4))=some (.int .i64 ((rd_T89 t151 x6_2).f0.f0))∧w'.cell? ⟨(ad162.add ((x6_2).toNat*4)).block,(ad162.add ((x6_2).toNat*4)).off+1,none⟩=some (.int .i64 ((rd_T89 t151 x6_2).f0.f1))∧w'.cell? ⟨(ad162.add ((x6_2).toNat*4)).block,(ad162.add ((x6_2).toNat*4)).off+2,none⟩=some (.int .i64 ((rd_T89 t151 x6_2).f1.f0))∧w'.cell? ⟨(ad162.add ((x6_2).toNat*4)).block,(ad162.add ((x6_2).toNat*4)).off+3,none⟩=some (.int .i64 ((rd_T89 t151 x6_2).f1.f1))∧w'.cell? (ad162.add ((x7_4).toNat*4))=some (.int .i64 ((rd_T89 t151 x7_4).f0.f0))∧w'.cell? ⟨(ad162.add ((x7_4).toNat*4)).block,(ad162.add ((x7_4).toNat*4)).off+1,none⟩=some (.int .i64 ((rd_T89 t151 x7_4).f0.f1))∧w'.cell? ⟨(ad162.add ((x7_4).toNat*4)).block,(ad162.add ((x7_4).toNat*4)).off+2,none⟩=some (.int .i64 ((rd_T89 t151 x7_4).f1.f0))∧w'.cell? ⟨(ad162.add ((x7_4).toNat*4)).block,(ad162.add ((x7_4).toNat*4)).off+3,none⟩=some (.int .i64 ((rd_T89 t151 x7_4).f1.f1))) (ds:=[]) (Array.replicate 17 false) (by kernel_rfl) rfl rfl ⟨hx162_0,hx162_1,hx162_2,hx162_3,hx163_0,hx163_1,hx163_2,hx163_3⟩ (fun hHeld=>?_);refine with_tabW spec_LoopOk.tab18 spec_LoopOk.bits18 (fun HT_ HW_=>?_)
                     generalize wr.drew=w44 at HO_4 HB hx162_0 hx162_1 hx162_2 hx162_3 hx163_0 hx163_1 hx163_2 hx163_3 hHeld ⊢
                     refine pu_ HT_ 0 66 (bm 17 1) ?_;refine pu_ HT_ 1 67 (bm 17 3) ?_;refine pu_ HT_ 2 68 (bm 17 7) ?_;refine pu_ HT_ 3 69 (bm 17 15) ?_;refine pu_ HT_ 4 70 (bm 17 31) ?_;refine pu_ HT_ 5 71 (bm 17 63) ?_;refine pu_ HT_ 6 72 (bm 17 127) ?_;refine pu_ HT_ 7 73 (bm 17 255) ?_;refine pu_ HT_ 8 74 (bm 17 511) ?_;refine pu_ HT_ 9 75 (bm 17 1023) ?_;refine pu_ HT_ 11 77 (bm 17 3071) ?_;refine pu_ HT_ 12 78 (bm 17 7167) ?_;refine pu_ HT_ 13 79 (bm 17 15359) ?_;refine ta8_ HT_ HW_ 10 76 (bm 17 16383) hHeld ?_;refine ta8_ HT_ HW_ 14 80 (bm 17 32767) hHeld ?_;refine one_ (i:=15) (N:=some 81) (bm 17 65535) rfl rfl (one_of HT_.out (by kernel_rfl)) (by decide) (fun K hK=>?_);refine goes_ Tryd.func75 (by kernel_rfl) rfl #[.agg #[.int .i64 ((rd_T89 t151 x6_2).f0.f0),.int .i64 ((rd_T89 t151 x6_2).f0.f1),.int .i64 ((rd_T89 t151 x6_2).f1.f0),.int .i64 ((rd_T89 t151 x6_2).f1.f1)],.agg #[.int .i64 ((rd_T89 t151 x7_4).f0.f0),.int .i64 ((rd_T89 t151 x7_4).f0.f1),.int .i64 ((rd_T89 t151 x7_4).f1.f0),.int .i64 ((rd_T89 t151 x7_4).f1.f1)]] (by rfl) rfl rfl ma_ ?_
                     with_reducible refine (spec_l2Meet.calls ((rd_T89 t151 x6_2).f0.f0) ((rd_T89 t151 x6_2).f0.f1) ((rd_T89 t151 x6_2).f1.f0) ((rd_T89 t151 x6_2).f1.f1) ((rd_T89 t151 x7_4).f0.f0) ((rd_T89 t151 x7_4).f0.f1) ((rd_T89 t151 x7_4).f1.f0) ((rd_T89 t151 x7_4).f1.f1) true _ A42.out).mono ?_
                     rintro e w46 ⟨rfl,hb⟩;have HS0_:=pw_cell_below hb hHeld.1;have HS1_:=pw_cell_below hb hHeld.2.1;have HS2_:=pw_cell_below hb hHeld.2.2.1;have HS3_:=pw_cell_below hb hHeld.2.2.2.1;have HS4_:=pw_cell_below hb hHeld.2.2.2.2.1;have HS5_:=pw_cell_below hb hHeld.2.2.2.2.2.1;have HS6_:=pw_cell_below hb hHeld.2.2.2.2.2.2.1;have HS7_:=pw_cell_below hb hHeld.2.2.2.2.2.2.2;refine⟨_,rfl,?_⟩;replace HO_4:=rb_ HO_4 hb;replace HB:=sb_ HB hb
                     (try clear hb)
                     (try clear hb2)
                     (try clear hk)
                     (try clear hi)
                     refine hK.out _ _ ⟨HS0_,HS1_,HS2_,HS3_,HS4_,HS5_,HS6_,HS7_⟩ (fun hHeld=>?_);clear hK K;refine no_ (h:=?_);refine pu_ HT_ 16 82 (bm 17 131071) ?_;refine done_ (done_of HT_.out (by kernel_rfl)) ?_
                     try go_wp2
                     go_ret;exact⟨rr_,hB_⟩
                    ·
                     replace c43:=Bool.eq_false_iff.mpr c43;subst c43;rw [if_neg (show ¬ (false=true) by decide)] at H
                     (try dsimp only at H)
                     have H':=Aside0.mk H;clear H
                     try go_wp2
                     replace HO_4:=a0_ (Kd.R_drew HO_4.out);replace HB:=a0_ (below_drew1 HB.out);obtain⟨Ao48,co48,eo48⟩:=Kd.R_slice HO_4.out
                     (first | subst eo48 | (injection eo48 with f1_ f2_ f3_;have f4_:=f1_.symm;have f5_:=f3_.symm;clear f1_ f2_ f3_;subst f4_;subst f5_))
                     have p162:0≤(x6_2:Int):=od_;have q162:x6_2<(t151.length:Int):=od_;obtain⟨ad162,e162,hx162_0,hx162_1,hx162_2,hx162_3⟩:=at_T89 (Kd.R_reads' HO_4.out).2.2 x6_2 p162 q162;cases e162;replace p162:=eq_true p162;replace q162:=eq_true q162;have p163:0≤(x7_4:Int):=od_;have q163:x7_4<(t151.length:Int):=od_;obtain⟨ad163,e163,hx163_0,hx163_1,hx163_2,hx163_3⟩:=at_T89 (Kd.R_reads' HO_4.out).2.2 x7_4 p163 q163;obtain rfl:ad162=ad163:=(by injection e163);replace p163:=eq_true p163;replace q163:=eq_true q163;refine start_ (n:=17) (S:=fun w'=>w'.cell? (ad162.add ((x6_2).toNat*4))=some (.int .i64 ((rd_T89 t151 x6_2).f0.f0))∧w'.cell? ⟨(ad162.add ((x6_2).toNat*4)).block,(ad162.add ((x6_2).toNat*4)).off+1,none⟩=some (.int .i64 ((rd_T89 t151 x6_2).f0.f1))∧w'.cell? ⟨(ad162.add ((x6_2).toNat*4)).block,(ad162.add ((x6_2).toNat*4)).off+2,none⟩=some (.int .i64 ((rd_T89 t151 x6_2).f1.f0))∧w'.cell? ⟨(ad162.add ((x6_2).toNat*4)).block,(ad162.add ((x6_2).toNat*4)).off+3,none⟩=some (.int .i64 ((rd_T89 t151 x6_2).f1.f1))∧w'.cell? (ad162.add ((x7_4).toNat*4))=some (.int .i64 ((rd_T89 t151 x7_4).f0.f0))∧w'.cell? ⟨(ad162.add ((x7_4).toNat*4)).block,(ad162.add ((x7_4).toNat*4)).off+1,none⟩=some (.int .i64 ((rd_T89 t151 x7_4).f0.f1))∧w'.cell? ⟨(ad162.add ((x7_4).toNat*4)).block,(ad162.add ((x7_4).toNat*4)).off+2,none⟩=some (.int .i64 ((rd_T89 t151 x7_4).f1.f0))∧w'.cell? ⟨(ad162.add ((x7_4).toNat*4)).block,(ad162.add ((x7_4).toNat*4)).off+3,none⟩=some (.int .i64 ((rd_T89 t151 x7_4).f1.f1))) (ds:=[]) (Array.replicate 17 false) (by kernel_rfl) rfl rfl ⟨hx162_0,hx162_1,hx162_2,hx162_3,hx163_0,hx163_1,hx163_2,hx163_3⟩ (fun hHeld=>?_);refine with_tabW spec_LoopOk.tab18 spec_LoopOk.bits18 (fun HT_ HW_=>?_)
                     generalize wr.drew=w47 at HO_4 HB hx162_0 hx162_1 hx162_2 hx162_3 hx163_0 hx163_1 hx163_2 hx163_3 hHeld ⊢
                     refine pu_ HT_ 0 66 (bm 17 1) ?_;refine pu_ HT_ 1 67 (bm 17 3) ?_;refine pu_ HT_ 2 68 (bm 17 7) ?_;refine pu_ HT_ 3 69 (bm 17 15) ?_;refine pu_ HT_ 4 70 (bm 17 31) ?_;refine pu_ HT_ 5 71 (bm 17 63) ?_;refine pu_ HT_ 6 72 (bm 17 127) ?_;refine pu_ HT_ 7 73 (bm 17 255) ?_;refine pu_ HT_ 8 74 (bm 17 511) ?_;refine pu_ HT_ 9 75 (bm 17 1023) ?_;refine pu_ HT_ 11 77 (bm 17 3071) ?_;refine pu_ HT_ 12 78 (bm 17 7167) ?_;refine pu_ HT_ 13 79 (bm 17 15359) ?_;refine ta8_ HT_ HW_ 10 76 (bm 17 16383) hHeld ?_;refine ta8_ HT_ HW_ 14 80 (bm 17 32767) hHeld ?_;refine one_ (i:=15) (N:=some 81) (bm 17 65535) rfl rfl (one_of HT_.out (by kernel_rfl)) (by decide) (fun K hK=>?_);refine goes_ Tryd.func75 (by kernel_rfl) rfl #[.agg #[.int .i64 ((rd_T89 t151 x6_2).f0.f0),.int .i64 ((rd_T89 t151 x6_2).f0.f1),.int .i64 ((rd_T89 t151 x6_2).f1.f0),.int .i64 ((rd_T89 t151 x6_2).f1.f1)],.agg #[.int .i64 ((rd_T89 t151 x7_4).f0.f0),.int .i64 ((rd_T89 t151 x7_4).f0.f1),.int .i64 ((rd_T89 t151 x7_4).f1.f0),.int .i64 ((rd_T89 t151 x7_4).f1.f1)]] (by rfl) rfl rfl ma_ ?_
                     with_reducible refine (spec_l2Meet.calls ((rd_T89 t151 x6_2).f0.f0) ((rd_T89 t151 x6_2).f0.f1) ((rd_T89 t151 x6_2).f1.f0) ((rd_T89 t151 x6_2).f1.f1) ((rd_T89 t151 x7_4).f0.f0) ((rd_T89 t151 x7_4).f0.f1) ((rd_T89 t151 x7_4).f1.f0) ((rd_T89 t151 x7_4).f1.f1) false _ A42.out).mono ?_
                     rintro e w49 ⟨rfl,hb⟩;have HS0_:=pw_cell_below hb hHeld.1;have HS1_:=pw_cell_below hb hHeld.2.1;have HS2_:=pw_cell_below hb hHeld.2.2.1;have HS3_:=pw_cell_below hb hHeld.2.2.2.1;have HS4_:=pw_cell_below hb hHeld.2.2.2.2.1;have HS5_:=pw_cell_below hb hHeld.2.2.2.2.2.1;have HS6_:=pw_cell_below hb hHeld.2.2.2.2.2.2.1;have HS7_:=pw_cell_below hb hHeld.2.2.2.2.2.2.2;refine⟨_,rfl,?_⟩;replace HO_4:=rb_ HO_4 hb;replace HB:=sb_ HB hb
                     (try clear hb)
                     (try clear hb2)
                     (try clear hk)
                     (try clear hi)
                     refine hK.out _ _ ⟨HS0_,HS1_,HS2_,HS3_,HS4_,HS5_,HS6_,HS7_⟩ (fun hHeld=>?_);clear hK K;refine no_ (h:=?_);refine pu_ HT_ 16 82 (bm 17 131071) ?_;refine done_ (done_of HT_.out (by kernel_rfl)) ?_
                     try go_wp2
                     go_roundg k4
                     case measure=>have:=HK1.out;have:=HK2.out;have:=HJ15.out;have:=HK4.out;omega
                     case rel=>exact⟨(wrap64 (x7_4+1)),(by first | rfl | (simp;done) | (simp [*];done)),H',⟨by have:=HK1.out;have:=HK2.out;have:=HJ15.out;have:=HK4.out;omega⟩,⟨by (with_reducible repeat (first | apply Kd.R_alloc | apply Kd.R_drewN | apply Kd.R_drew));exact HO_4.out⟩,⟨hB_⟩⟩
                   ·
                    rw [if_neg c41] at H;exact absurd H (by simp)
                  ·
                   rw [if_neg c40] at H;exact absurd H (by simp)
                 ·
                  rw [if_neg c39] at H;exact absurd H (by simp)
                ·
                 rw [if_neg c38] at H;exact absurd H (by simp)
             ·
              rw [if_neg c34] at H;have c34b0:decide (x7_4<(l0.length:Int))=false:=decide_eq_false c34;clear c34;have H':=Aside0.mk H;clear H;go_wp2;go_roundg k4
              case measure=>have:=HK1.out;have:=HK2.out;have:=HJ15.out;have:=HK4.out;omega
              case rel=>exact⟨(wrap64 (x6_2+1)),(by first | rfl | (simp;done) | (simp [*];done)),H',⟨by have:=HK1.out;have:=HK2.out;have:=HJ15.out;have:=HK4.out;omega⟩,⟨by (with_reducible repeat (first | apply Kd.R_alloc | apply Kd.R_drewN | apply Kd.R_drew));exact HO_4.out⟩,⟨hB_⟩⟩
       ·
        rw [if_neg c15] at H;have c15b0:decide (x6_2<(l0.length:Int))=false:=decide_eq_false c15;clear c15;obtain rfl:=Option.some.inj H;go_wp2;go_ret;exact⟨rr_,hB_⟩
 ·
  replace c3:=Bool.eq_false_iff.mpr c3;subst c3;rw [if_neg (show ¬ (false=true) by decide)] at H
  (try dsimp only at H)
  obtain rfl:=Option.some.inj H;go_enter Tryd.func49,Tryd.ntmps49;go_wp2_with (first | ((with_reducible refine gate_callee (f:=52) rfl ?_);refine gL_ (some 11) Tryd.func52 #[.int .i64 (l0.length:Int),.int .i64 3,.int .i64 8] (h:=?_);(with_reducible refine (spec_l6In.calls (l0.length:Int) 3 8 false _ A2.out).mono ?_);rintro e w' ⟨rfl,⟨nd,rfl⟩⟩;refine⟨_,rfl,?_⟩));go_ret;exact⟨rr_,hB_⟩
end Go.Proofs.YtailkppkjhkjpaaDoor.X
end
section
set_option linter.unusedVariables false
set_option linter.unusedSimpArgs false
namespace Go.Proofs.YtailkppkjhkjpaaDoor.X
open Go.RowKit Go.Proofs.YtailkppkjhkjpaaDoorW.PrintWords Go.Proofs.YtailkppkjhkjpaaDoorW.PrintLast Go.Proofs.YtailkppkjhkjpaaDoorW.PrintMore
def esOf (z:List S37):List S89:=(List.range z.length).map (edS z)
theorem w64i {x:Int}(h : -9223372036854775808≤x)(h':x≤9223372036854775807):wrap64 x=x:=by unfold wrap64;omega
theorem sEdges_l0 (z:List S37)(hz:z.length≤1000000):∀ (m i k:Nat) (acc:List S89),z.length-i=m→i≤z.length→m<k→acc.length≤i→spec_l3Edges.l0 k z acc (i:Int)=some (acc++(List.range' i m).map (edS z)):=by
 intro m
 induction m with
 | zero =>
  intro i k acc hm hi hk ha;obtain⟨k,rfl⟩:∃ j,k=j+1:=⟨k-1,by omega⟩;simp only [spec_l3Edges.l0];rw [if_neg (by omega)];simp
 | succ m ih =>
  intro i k acc hm hi hk ha;obtain⟨k,rfl⟩:∃ j,k=j+1:=⟨k-1,by omega⟩;simp only [spec_l3Edges.l0];have hw:wrap64 ((i:Int)+1)=((i+1:Nat):Int):=by rw [w64i (by omega) (by omega)];rfl
  have ht:Int.tmod ((i+1:Nat):Int) (z.length:Int)=(((i+1) % z.length:Nat):Int):=rfl;have hlt:=Nat.mod_lt (i+1) (show 0<z.length by omega);rw [if_pos (by omega),if_pos (by omega),if_neg (by omega),hw,ht,if_pos (by omega),if_pos (by omega),if_pos (by omega)];rw [ih (i+1) k _ (by omega) (by omega) (by omega) (by simp;omega),List.range'_succ,List.map_cons,List.append_assoc];rfl
theorem sEdges {z:List S37}(hz:z.length≤1000000){k:Nat}(hk:z.length<k):spec_l3Edges.f k z=some (esOf z):=by
 unfold spec_l3Edges.f esOf;rw [show (0:Int)=((0:Nat):Int) from rfl,sEdges_l0 z hz z.length 0 k [] (by omega) (by omega) hk (by simp),List.range_eq_range'];simp
theorem esOf_len (z:List S37):(esOf z).length=z.length:=by simp [esOf]
theorem esOf_getD (z:List S37){i:Nat}(h:i<z.length):(esOf z).getD i z89=edS z i:=by
 rw [List.getD_eq_getElem?_getD,List.getElem?_eq_getElem (by rw [esOf_len];exact h)];simp [esOf]
theorem esOf_edges (z:List S37):(esOf z).map sgP=Mort.edges (z.map ptP):=by
 rw [Mort.edges_eq,List.length_map];unfold esOf;rw [List.map_map];refine List.map_congr_left fun i _=>?_
 rw [ed_edS];rfl
end Go.Proofs.YtailkppkjhkjpaaDoor.X
end
