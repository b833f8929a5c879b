/- FnPlateBack: the law returns true for every input, and each input reads behind the call as before; part 3 of 6. No condition. Merged by program out of: HMeets, Cross, HInside, HRings, HRound, HBody, HPlate, HSplit, FImplFigureOf, HRead. -/
import Derived.Test.YtailkppkjhkjpaaDoorMFnPlateBack2
import Derived.Deep.LoopGhost
import Derived.Deep.RegionHeld3
import Derived.LaidEqlPtr
import Derived.RegionTactic
import Derived.BigRegion
import Derived.BigGuard
import Derived.Lib.SplitLaws
import Derived.Shelf.Strings.Split
set_option linter.all false
section
set_option linter.unusedVariables false
set_option linter.unusedSimpArgs false
namespace Go.Proofs.YtailkppkjhkjpaaDoor.X
open Go.RowKit Go.Shelf Go.Proofs.YtailkppkjhkjpaaDoorW.PrintWords Go.Proofs.YtailkppkjhkjpaaDoorW.PrintLast Go.Proofs.YtailkppkjhkjpaaDoorW.PrintMore
open Mort (edges segMeet)
attribute [local go_sem] Oper.semAt_some
structure RingAt (W:World) (b:Nat) (A:Option Addr) (c:Nat) (zs:List S37) (nx:Option Addr):Prop where
 pts:W.cell? ⟨b,0,none⟩=some (.slice A zs.length c)
 nxt:W.cell? ⟨b,1,none⟩=some (.pointer nx)
 row:Kd.C k37 W A zs.length zs
 cap:zs.length≤c
theorem RingAt.later {W W':World}{b c:Nat}{A nx:Option Addr}{zs:List S37}(h:RingAt W b A c zs nx)(hb:Below W.heap.size W W'):RingAt W' b A c zs nx:=
 ⟨pw_cell_below hb h.pts,pw_cell_below hb h.nxt,Kd.C_below h.row hb,h.cap⟩
theorem RingAt.alloc {W:World}{b c:Nat}{A nx:Option Addr}{zs:List S37}(h:RingAt W b A c zs nx)(o:Obj):RingAt (W.alloc o) b A c zs nx:=h.later (below_alloc (Below.refl _ W) o)
theorem RingAt.lt {W:World}{b c:Nat}{A nx:Option Addr}{zs:List S37}(h:RingAt W b A c zs nx):b<W.heap.size:=World.block_lt_of_cell? W _ h.pts
def meetsB (zs ys:List S37):Bool:=(List.finRange zs.length).any fun i=>(List.finRange ys.length).any fun j=>segMeet (sgP (edS zs i)) (sgP (edS ys j))
set_option maxHeartbeats 4000000 in
set_option maxRecDepth 100000 in
theorem meets_calls (b1 b2:Nat)(A1 A2 n1 n2:Option Addr)(c1 c2:Nat)(zs ys:List S37)(r:Bool)(w:World)(h1:RingAt w b1 A1 c1 zs n1)(h2:RingAt w b2 A2 c2 ys n2)(hl1:0<zs.length∧zs.length≤8)(hl2:0<ys.length∧ys.length≤8)(h:meetsB zs ys=r):
  Calls Tryd.prog 80 #[.pointer (some ⟨b1,0,none⟩),.pointer (some ⟨b2,0,none⟩)] w fun e w'=>e=.returned (.bool r)∧Below w.heap.size w w':=by
 have hR:=Aside0.mk h;clear h;have hu61:=Tryd.underlying89;obtain⟨p1,_,k1,_⟩:=h1;refine (callsIn_wide (n:=9)).1 ?_;refine callsIn_of_wp_marks Tryd.func80 rfl trivial ?_ rfl;simp only [Tryd.ntmps80,List.size_toArray,List.length_cons,List.length_nil,Nat.reduceAdd,Nat.reduceSub,Array.replicate_succ,Array.replicate_zero,List.push_toArray,List.append_toArray,List.nil_append,List.cons_append];have hAb1:=row_lt k1 hl1.1;have hAb2:=row_lt h2.row hl2.1;have q1:((w.alloc (.cells #[.pointer (some ⟨b2,0,none⟩)] 53)).alloc (.cells #[.bool false] 4)).cell? ⟨b1,0,none⟩=some (.slice A1 zs.length c1):=pw_cell_below (below_alloc (below_alloc (Below.refl _ w) _) _) p1;gi_wp2_with (refine⟨trivial,?_⟩;gi_at_call 59;refine (edges_in _ _ _ _ _).mono ?_;rintro e w' ⟨rfl,rfl⟩);have bO:=((Boxed.new w 53 (.pointer (some ⟨b2,0,none⟩))).alloc (.cells #[.bool false] 4)).alloc (.cells #[.slice A1 zs.length c1] 23);have bR:=(Boxed.new (w.alloc (.cells #[.pointer (some ⟨b2,0,none⟩)] 53)) 4 (.bool false)).alloc (.cells #[.slice A1 zs.length c1] 23);have bC:=Boxed.new ((w.alloc (.cells #[.pointer (some ⟨b2,0,none⟩)] 53)).alloc (.cells #[.bool false] 4)) 23 (.slice A1 zs.length c1);simp only [World.size_alloc] at bR bC;have hB0:Below w.heap.size w (((w.alloc (.cells #[.pointer (some ⟨b2,0,none⟩)] 53)).alloc (.cells #[.bool false] 4)).alloc (.cells #[.slice A1 zs.length c1] 23)):=below_alloc (below_alloc (below_alloc (Below.refl _ w) _) _) _;have hsz:(((w.alloc (.cells #[.pointer (some ⟨b2,0,none⟩)] 53)).alloc (.cells #[.bool false] 4)).alloc (.cells #[.slice A1 zs.length c1] 23)).heap.size=w.heap.size+3:=by simp
 obtain⟨W0,hW0⟩:∃ W0,((w.alloc (.cells #[.pointer (some ⟨b2,0,none⟩)] 53)).alloc (.cells #[.bool false] 4)).alloc (.cells #[.slice A1 zs.length c1] 23)=W0:=⟨_,rfl⟩;rw [hW0] at bO bR bC hB0 hsz ⊢
 clear hW0 q1;refine wpIn_rangeFunc_ownH rfl (by omega) (gf:=81) (lb:=#[.pointer (some ⟨w.heap.size+1+1,0,none⟩)]) rfl trivial (enters_of Tryd.func81 (by kernel_rfl) rfl)
  (edges_stops 8 (by omega) (w.heap.size+1+1) w.heap.size A1 c1 zs (by omega) hAb1 W0 (by omega) (by omega) bC.cell (Kd.C_below k1 hB0)) (fun h k=>KpE.trans h k) (fun W l o o' hl _ _ _=>KpE.putObj W l o' (by omega) (by omega)) (Below.refl _ _) (fun _=>rfl)
  (fun pre W=>(((∀ x∈pre,∀ y:Fin ys.length,segMeet (sgP (edS zs (x:Fin zs.length))) (sgP (edS ys y))=false)∧Boxed W (w.heap.size+1) 4 (.bool false))∧Boxed W w.heap.size 53 (.pointer (some ⟨b2,0,none⟩)))∧Below w.heap.size w W)
  (fun c pre W=>((c=.ret∧∃ (x:Fin zs.length) (y:Fin ys.length),segMeet (sgP (edS zs x)) (sgP (edS ys y))=true)∧Boxed W (w.heap.size+1) 4 (.bool true))∧Below w.heap.size w W)
  (OwnFrom.and (OwnFrom.and (OwnFrom.and (ownFrom_pure _ _) (Own.from (boxed_own _ _ _) _)) (Own.from (boxed_own _ _ _) _)) (ownFrom_below (Nat.le_refl _) (by omega)))
  (fun c=>OwnFrom.and (OwnFrom.and (ownFrom_pure _ _) (Own.from (boxed_own _ _ _) _)) (ownFrom_below (Nat.le_refl _) (by omega)))
  ⟨⟨⟨by simp,bR⟩,bO⟩,hB0⟩
  (fun x a' W=>∃ Bx,W.heap[Bx]?=some (segObj (edS zs x))∧a'={ tmps:=#[.pointer (some ⟨b1,0,none⟩),.pointer (some ⟨b2,0,none⟩),undef,.pointer (some ⟨w.heap.size,0,none⟩),.pointer (some ⟨w.heap.size+1,0,none⟩),undef,.pointer (some ⟨Bx,0,none⟩),undef,undef,.pointer (some ⟨b1,0,none⟩),.pointer (some ⟨b1,0,none⟩),.pointer (some ⟨b1,0,none⟩),.slice A1 zs.length c1,.func (.func 81) #[] #[.pointer (some ⟨w.heap.size+1+1,0,none⟩)],.int .i64 ((x:Nat):Int),.agg #[.int .i64 (edS zs x).f0.f0,.int .i64 (edS zs x).f0.f1,.int .i64 (edS zs x).f1.f0,.int .i64 (edS zs x).f1.f1],undef,undef,undef,undef,undef,undef,undef,undef,undef,undef],defers:=[] })
  (fun x a' _ X Y row hs hg hr=>by obtain⟨Bx,e2,e3⟩:=hs;exact⟨Bx,segObj_own Bx (edS zs x) () X Y row e2 hg (fun r e=>(hr r e).2),e3⟩)
  ?assign ?body ?done ?stop
 case assign =>
  rintro l pre x W K ⟨⟨⟨hq,bR1⟩,bO1⟩,hB1⟩ hK;have hBs:=hB1.size;dsimp only [encE,edV];gi_wp2;exact hK _ _ ((KeepsOthers.alloc _ _).from _) (KpE.alloc _ _ _ _) ⟨⟨⟨hq,bR1.alloc _⟩,bO1.alloc _⟩,below_alloc hB1 _⟩ ⟨W.heap.size,World.alloc_heap_new W _,rfl⟩
 case body =>
  rintro l pre x a' W hl ⟨rr,hrr⟩ ⟨⟨⟨hq,bR1⟩,bO1⟩,hB1⟩ ⟨Bx,bX,rfl⟩ hlt;have hO:=h2.later hB1;have cO:=bO1.cell;have p2:=hO.pts;gi_wp2_with (refine⟨trivial,?_⟩;gi_at_call 59;refine (CallsIn.inRound l (edges_in _ _ _ _ _)).mono ?_;rintro e w' ⟨rfl,rfl⟩);clear cO p2;have bN:=Boxed.new W 23 (.slice A2 ys.length c2);have hr':(W.alloc (.cells #[.slice A2 ys.length c2] 23)).heap[l]?=some (.loop rr):=blk_alloc' hrr _;have bR2:=bR1.alloc (.cells #[.slice A2 ys.length c2] 23);have bO2:=bO1.alloc (.cells #[.slice A2 ys.length c2] 23);have bX2:=blk_alloc' bX (.cells #[.slice A2 ys.length c2] 23);have hB2:=below_alloc hB1 (.cells #[.slice A2 ys.length c2] 23);have hE2:=KpE.alloc w.heap.size (w.heap.size+1+1) W (.cells #[.slice A2 ys.length c2] 23);have hF2:=(KeepsOthers.alloc W (.cells #[.slice A2 ys.length c2] 23)).from W0.heap.size;have hsz3:(W.alloc (.cells #[.slice A2 ys.length c2] 23)).heap.size=W.heap.size+1:=by simp
  have hBW:=hB1.size;have hRW:=bR1.lt;obtain⟨W3,hW3⟩:∃ W3,W.alloc (.cells #[.slice A2 ys.length c2] 23)=W3:=⟨_,rfl⟩;rw [hW3] at bN hr' bR2 bO2 bX2 hB2 hE2 hF2 hsz3 ⊢
  clear hW3;obtain⟨Bc,hBc⟩:∃ Bc,W.heap.size=Bc:=⟨_,rfl⟩;rw [hBc] at bN ⊢
  refine wpIn_rangeFunc_ownN (l₀:=l) (r₀:=rr) rfl hr' (by omega) (gf:=81) (lb:=#[.pointer (some ⟨Bc,0,none⟩)]) rfl trivial (enters_of Tryd.func81 (by kernel_rfl) rfl)
   ((edges_stops 6 (by omega) Bc w.heap.size A2 c2 ys (by omega) hAb2 W3 (by omega) (by omega) bN.cell (Kd.C_below h2.row hB2)).inRound l) (fun h k=>KpE.trans h k) (fun W l o o' hl _ _ _=>KpE.putObj W l o' (by omega) (by omega)) (Below.refl _ _) (fun _=>rfl)
   (fun pre' W'=>((((∀ y∈pre',segMeet (sgP (edS zs x)) (sgP (edS ys (y:Fin ys.length)))=false)∧Boxed W' (w.heap.size+1) 4 (.bool false))∧Boxed W' w.heap.size 53 (.pointer (some ⟨b2,0,none⟩)))∧W'.heap[Bx]?=some (segObj (edS zs x)))∧(Below w.heap.size w W'∧KpE w.heap.size (w.heap.size+1+1) W W')∧KeepsFrom W0.heap.size W W')
   (fun c pre' W'=>((c=.ret∧∃ y:Fin ys.length,segMeet (sgP (edS zs x)) (sgP (edS ys y))=true)∧Boxed W' (w.heap.size+1) 4 (.bool true))∧Below w.heap.size w W'∧KeepsFrom W0.heap.size W W')
   (OwnFrom.and (OwnFrom.and (OwnFrom.and (OwnFrom.and (ownFrom_pure _ _) (Own.from (boxed_own _ _ _) _)) (Own.from (boxed_own _ _ _) _)) (Own.from (blk_own _ (fun _=>segObj (edS zs x)) (fun _=>rfl)) _)) (OwnFrom.and (OwnFrom.and (ownFrom_below (Nat.le_refl _) (by omega)) (ownFrom_kpE (by omega))) (ownFrom_keepsFrom (by omega))))
   (fun c=>OwnFrom.and (OwnFrom.and (ownFrom_pure _ _) (Own.from (boxed_own _ _ _) _)) (OwnFrom.and (ownFrom_below (Nat.le_refl _) (by omega)) (ownFrom_keepsFrom (by omega))))
   ⟨⟨⟨⟨by simp,bR2⟩,bO2⟩,bX2⟩,⟨hB2,hE2⟩,hF2⟩
   (fun y a'' W'=>∃ Bt,W'.heap[Bt]?=some (segObj (edS ys y))∧a''={ tmps:=#[.pointer (some ⟨b1,0,none⟩),.pointer (some ⟨b2,0,none⟩),undef,.pointer (some ⟨w.heap.size,0,none⟩),.pointer (some ⟨w.heap.size+1,0,none⟩),undef,.pointer (some ⟨Bx,0,none⟩),undef,.pointer (some ⟨Bt,0,none⟩),.pointer (some ⟨b1,0,none⟩),.pointer (some ⟨b1,0,none⟩),.pointer (some ⟨b1,0,none⟩),.slice A1 zs.length c1,.func (.func 81) #[] #[.pointer (some ⟨w.heap.size+1+1,0,none⟩)],.int .i64 ((x:Nat):Int),.agg #[.int .i64 (edS zs x).f0.f0,.int .i64 (edS zs x).f0.f1,.int .i64 (edS zs x).f1.f0,.int .i64 (edS zs x).f1.f1],.pointer (some ⟨b2,0,none⟩),.pointer (some ⟨b2,0,none⟩),.pointer (some ⟨b2,0,none⟩),.slice A2 ys.length c2,.func (.func 81) #[] #[.pointer (some ⟨Bc,0,none⟩)],.int .i64 ((y:Nat):Int),.agg #[.int .i64 (edS ys y).f0.f0,.int .i64 (edS ys y).f0.f1,.int .i64 (edS ys y).f1.f0,.int .i64 (edS ys y).f1.f1],undef,undef,undef],defers:=[] })
   (fun y a'' _ X Y row hs hg hr=>by obtain⟨Bt,e2,e3⟩:=hs;exact⟨Bt,segObj_own Bt (edS ys y) () X Y row e2 hg (fun r e=>(hr r e).2),e3⟩)
   ?assign2 ?body2 ?done2 ?stop2
  case assign2 =>
   rintro l2 pre' y W' K ⟨⟨⟨⟨hq2,bR⟩,bO⟩,bX⟩,⟨hB,hE⟩,hF⟩ hKK;dsimp only [encE,edV];gi_wp2;exact hKK _ _ ((KeepsOthers.alloc _ _).from _) (KpE.alloc _ _ _ _) ⟨⟨⟨⟨hq2,bR.alloc _⟩,bO.alloc _⟩,blk_alloc' bX _⟩,⟨below_alloc hB _,hE.trans (KpE.alloc _ _ _ _)⟩,hF.trans ((KeepsOthers.alloc _ _).from _)⟩ ⟨W'.heap.size,World.alloc_heap_new W' _,rfl⟩
  case body2 =>
   rintro l2 pre' y a'' W' _ _ ⟨⟨⟨⟨hq2,bR⟩,bO⟩,bX⟩,⟨hB,hE⟩,hF⟩ ⟨Bt,bT,rfl⟩ _;have cX0:W'.cell? ⟨Bx,0,none⟩=some (.int .i64 (edS zs x).f0.f0):=(blk_cell bX 0).trans rfl;have cX1:W'.cell? ⟨Bx,1,none⟩=some (.int .i64 (edS zs x).f0.f1):=(blk_cell bX 1).trans rfl;have cX2:W'.cell? ⟨Bx,2,none⟩=some (.int .i64 (edS zs x).f1.f0):=(blk_cell bX 2).trans rfl;have cX3:W'.cell? ⟨Bx,3,none⟩=some (.int .i64 (edS zs x).f1.f1):=(blk_cell bX 3).trans rfl;have cT0:W'.cell? ⟨Bt,0,none⟩=some (.int .i64 (edS ys y).f0.f0):=(blk_cell bT 0).trans rfl;have cT1:W'.cell? ⟨Bt,1,none⟩=some (.int .i64 (edS ys y).f0.f1):=(blk_cell bT 1).trans rfl;have cT2:W'.cell? ⟨Bt,2,none⟩=some (.int .i64 (edS ys y).f1.f0):=(blk_cell bT 2).trans rfl;have cT3:W'.cell? ⟨Bt,3,none⟩=some (.int .i64 (edS ys y).f1.f1):=(blk_cell bT 3).trans rfl;have HJ:=iSegMeet (k:=3) (by omega) (edS zs x).f0.f0 (edS zs x).f0.f1 (edS zs x).f1.f0 (edS zs x).f1.f1 (edS ys y).f0.f0 (edS ys y).f0.f1 (edS ys y).f1.f0 (edS ys y).f1.f1
   cases hb:segMeet (sgP (edS zs x)) (sgP (edS ys y)) with
   | false =>
    replace HJ:=HJ.trans (congrArg some hb);gi_wp2_with (refine⟨trivial,?_⟩;gi_at_call 70;refine (CallsIn.inRound l2 (callsIn_wide.2 (impl_SegMeet.calls 3 _ _ _ _ _ _ _ _ false _ HJ))).mono ?_;rintro e w1 ⟨rfl,hb1⟩);exact⟨keeps_below hb1,KpE.below hb1,⟨⟨⟨fun z hz=>(List.mem_append.1 hz).elim (hq2 z) (fun e=>by simp at e;subst e;exact hb),box_later bR hb1⟩,box_later bO hb1⟩,blk_later bX hb1⟩,⟨below_row hB (Nat.le_refl _) hb1,hE.trans (KpE.below hb1)⟩,hF.trans (keeps_below hb1)⟩
   | true =>
    replace HJ:=HJ.trans (congrArg some hb);gi_wp2_with (refine⟨trivial,?_⟩;gi_at_call 70;refine (CallsIn.inRound l2 (callsIn_wide.2 (impl_SegMeet.calls 3 _ _ _ _ _ _ _ _ true _ HJ))).mono ?_;rintro e w1 ⟨rfl,hb1⟩;have cR1:=(box_later bR hb1).cell;have fR1:=(box_later bR hb1).frozen);exact⟨(keeps_below hb1).trans ((KeepsOthers.setCell _ _ _).from _),⟨⟨rfl,y,hb⟩,(box_later bR hb1).set _⟩,(below_row hB (Nat.le_refl _) hb1).setCell (p:=⟨w.heap.size+1,0,none⟩) (by simp) _,(hF.trans (keeps_below hb1)).trans ((KeepsOthers.setCell _ _ _).from _)⟩
  case done2 =>
   rintro ys' W' rfl ⟨⟨⟨⟨hq2,bR⟩,bO⟩,bX⟩,⟨hB,hE⟩,hF⟩;gi_wp2;exact⟨hF,hE,⟨⟨fun z hz y=>(List.mem_append.1 hz).elim (fun hm=>hq z hm y) (fun e=>by simp at e;subst e;exact hq2 y (List.mem_finRange _)),bR⟩,bO⟩,hB⟩
  case stop2 =>
   rintro c pre' W' hpre ⟨⟨⟨rfl,y,hy⟩,bR⟩,hB,hF⟩;gi_wp2;exact⟨hF,⟨⟨rfl,x,y,hy⟩,bR⟩,hB⟩
 case stop =>
  rintro D c pre W hD _ ⟨⟨⟨rfl,x,y,hs⟩,bR1⟩,hB1⟩ hK;obtain rfl:r=true:=by
   rw [← hR.out];unfold meetsB;rw [List.any_eq_true];exact⟨x,List.mem_finRange _,List.any_eq_true.2 ⟨y,List.mem_finRange _,hs⟩⟩
  gi_wp2;have hD1:∀ E∈[D],W.heap[E]?=some (.deferred (some [])):=by simpa using hK
  refine leavesM_marks [D] W (by simp) hD1 (fun w' h1 h2 h3 h4 h5=>?_);have hc5:=(marks_boxed bR1 hD1 h1).cell;refine⟨.bool true,?_,rfl,marks_below hB1 (by simp;omega) h1 h2 h3 h4 h5⟩;simp [results,Tryd.f80,go_sem,hc5]
 case done =>
  rintro D ys' W hD rfl ⟨⟨⟨hq,bR1⟩,bO1⟩,hB1⟩ hK;obtain rfl:r=false:=by
   rw [← hR.out];unfold meetsB;rw [List.any_eq_false];intro x _;rw [Bool.not_eq_true,List.any_eq_false];intro y _;rw [Bool.not_eq_true];exact hq x (List.mem_finRange _) y
  have cR:=bR1.cell;have fR:=bR1.frozen;gi_wp2;have hD1:∀ E∈[D],(W.setCell ⟨w.heap.size+1,0,none⟩ (.bool false)).heap[E]?=some (.deferred (some [])):=by
   intro E hE;simp at hE;subst hE;exact blk_set hK rfl bR1 _
  refine leavesM_marks [D] _ (by simp) hD1 (fun w' h1 h2 h3 h4 h5=>?_);have hc5:=(marks_boxed (bR1.set (.bool false)) hD1 h1).cell;refine⟨.bool false,?_,rfl,marks_below (hB1.setCell (p:=⟨w.heap.size+1,0,none⟩) (by simp) _) (by simp;omega) h1 h2 h3 h4 h5⟩;simp [results,Tryd.f80,go_sem,hc5]
end Go.Proofs.YtailkppkjhkjpaaDoor.X
end
section
set_option linter.unusedVariables false
namespace Mort
def crsI (e:Seg)(p:Pt):Bool:=
 (decide (e.1.2≤p.2) && (decide (p.2<e.2.2) && decide (0<cross e.1 e.2 p))) || (decide (e.2.2≤p.2) && (decide (p.2<e.1.2) && decide (cross e.1 e.2 p<0)))
theorem rc_cast (a b p:Pt):rc a.1 a.2 b.1 b.2 p.1 p.2=((cross a b p:Int):Rat):=by
 rw [cast_cross];rfl
theorem crsI_eq (e:Seg)(p:Pt):crsQ e.1.1 e.1.2 e.2.1 e.2.2 p.1 p.2=crsI e p:=by
 unfold crsQ crsI;rw [rc_cast e.1 e.2 p];have h1:decide ((e.1.2:Rat)≤(p.2:Rat))=decide (e.1.2≤p.2):=by rw [decide_eq_decide];exact cast_le
 have h2:decide ((p.2:Rat)<(e.2.2:Rat))=decide (p.2<e.2.2):=by rw [decide_eq_decide];exact cast_lt
 have h3:decide ((e.2.2:Rat)≤(p.2:Rat))=decide (e.2.2≤p.2):=by rw [decide_eq_decide];exact cast_le
 have h4:decide ((p.2:Rat)<(e.1.2:Rat))=decide (p.2<e.1.2):=by rw [decide_eq_decide];exact cast_lt
 have h5:decide (0<((cross e.1 e.2 p:Int):Rat))=decide (0<cross e.1 e.2 p):=by
  rw [decide_eq_decide];have:=@cast_lt 0 (cross e.1 e.2 p);simpa using this
 have h6:decide (((cross e.1 e.2 p:Int):Rat)<0)=decide (cross e.1 e.2 p<0):=by
  rw [decide_eq_decide];have:=@cast_lt (cross e.1 e.2 p) 0;simpa using this
 rw [h1,h2,h3,h4,h5,h6]
def sideOf (b:Bool):Int:=if b then 1 else -1
def inRun (es:List Seg)(p:Pt):Int:=sideOf (xorAll (es.map fun e=>crsI e p))
theorem inRun_snoc (es:List Seg)(e:Seg)(p:Pt):inRun (es++[e]) p=if crsI e p then-inRun es p else inRun es p:=by
 unfold inRun sideOf;rw [List.map_append,xorAll_append];cases xorAll (es.map fun e=>crsI e p) <;> cases h:crsI e p <;> simp [xorAll,h]
theorem inRun_end {l:List Pt}{p:Pt}(h:∀ e∈edges l,has e p=false):inRun (edges l) p=inOf l p:=by
 unfold inOf inRun sideOf par;rw [(onB_false l p).2 h];have:((edges l).map fun e=>crsQ e.1.1 e.1.2 e.2.1 e.2.2 p.1 p.2)=(edges l).map fun e=>crsI e p:=List.map_congr_left fun e _=>crsI_eq e p
 rw [this];cases xorAll ((edges l).map fun e=>crsI e p) <;> rfl
theorem inOf_on {l:List Pt}{p:Pt}{e:Seg}(he:e∈edges l)(h:has e p=true):inOf l p=0:=(inOf_zero l p).2 ((onB_iff l p).2 ⟨e,he,h⟩)
theorem edges_eq (l:List Pt):edges l=(List.range l.length).map (ed l):=by
 apply List.ext_getElem?;intro i;by_cases h:i<l.length
 ·
  rw [edges_getElem? l i h];simp [h]
 ·
  rw [List.getElem?_eq_none (by rw [edges_length];omega),List.getElem?_eq_none (by simp;omega)]
end Mort
end
section
set_option linter.unusedVariables false
set_option linter.unusedSimpArgs false
namespace Go.Proofs.YtailkppkjhkjpaaDoor.X
open Go.RowKit Go.Shelf Go.Proofs.YtailkppkjhkjpaaDoorW.PrintWords Go.Proofs.YtailkppkjhkjpaaDoorW.PrintLast Go.Proofs.YtailkppkjhkjpaaDoorW.PrintMore
open Mort (edges loopOk ed segOk ptOk segHas inOf inRun crsI segTurn cross)
attribute [local go_sem] Oper.semAt_some
def impl_insideOf.f (l0:List S37)(a1_0 a1_1:Int):Option Int:=if loopOk (l0.map ptP)=true∧ptOk (a1_0,a1_1)=true then some (inOf (l0.map ptP) (a1_0,a1_1)) else none
def preE (l0:List S37)(pre:List (Fin l0.length)):List Mort.Seg:=pre.map fun (i:Fin l0.length)=>sgP (edS l0 (i:Nat))
theorem preE_snoc (l0:List S37)(pre:List (Fin l0.length))(x:Fin l0.length):preE l0 (pre++[x])=preE l0 pre++[sgP (edS l0 x)]:=by simp [preE]
theorem preE_all (l0:List S37):preE l0 (List.finRange l0.length)=edges (l0.map ptP):=by
 rw [Mort.edges_eq];unfold preE;apply List.ext_getElem
 ·
  simp
 ·
  intro i h1 h2;simp [ed_edS]
set_option maxHeartbeats 4000000 in
set_option maxRecDepth 100000 in
theorem impl_insideOf.calls (A0:Option Addr)(c0:Nat)(l0:List S37)(a1_0 a1_1:Int)(r:Int)(w:World)(hr0:Kd.C k37 w A0 l0.length l0)(hc0:l0.length≤c0)(h:impl_insideOf.f l0 a1_0 a1_1=some r):
  Calls Tryd.prog 53 #[.slice A0 l0.length c0,.agg #[.int .i64 a1_0,.int .i64 a1_1]] w fun e w'=>e=.returned (.int .i64 r)∧Below w.heap.size w w':=by
 unfold impl_insideOf.f at h
 split at h
 case isFalse=>cases h
 rename_i hok
 obtain⟨hl,hp⟩:=hok;have h:=Option.some.inj h;have hS:=(Mort.loopOk_iff _).1 hl;rw [List.length_map] at hS;obtain⟨hl3,hl8,hsg,_⟩:=hS;have hok:∀ i:Fin l0.length,segOk (sgP (edS l0 i))=true:=fun i=>by rw [← ed_edS];exact hsg _ (Mort.mem_edges.2 ⟨i,by simpa using i.2,rfl⟩)
 have hmem:∀ i:Fin l0.length,sgP (edS l0 i)∈edges (l0.map ptP):=fun i=>by rw [← ed_edS];exact Mort.mem_edges.2 ⟨i,by simpa using i.2,rfl⟩
 clear hsg;have HR:=Aside0.mk h;clear h;have hu61:=Tryd.underlying89;have hu28:=Tryd.underlying37;refine (callsIn_wide (n:=9)).1 ?_;refine callsIn_of_wp_marks Tryd.func53 rfl trivial ?_ rfl;simp only [Tryd.ntmps53,List.size_toArray,List.length_cons,List.length_nil,Nat.reduceAdd,Nat.reduceSub,Array.replicate_succ,Array.replicate_zero,List.push_toArray,List.append_toArray,List.nil_append,List.cons_append];have hAb:=row_lt hr0 (by omega);gi_wp2_with (refine⟨trivial,?_⟩;gi_at_call 59;refine (edges_in _ _ _ _ _).mono ?_;rintro e w' ⟨rfl,rfl⟩);have bP:((((w.alloc (.cells #[.int .i64 a1_0,.int .i64 a1_1] 37)).alloc (.cells #[.int .i64 0] 3)).alloc (.cells #[.int .i64 (-1)] 3)).alloc (.cells #[.slice A0 l0.length c0] 23)).heap[w.heap.size]?=some (.cells #[.int .i64 a1_0,.int .i64 a1_1] 37 (0,0)):=blk_alloc' (blk_alloc' (blk_alloc' (World.alloc_heap_new w _) _) _) _;have bR:=((Boxed.new (w.alloc (.cells #[.int .i64 a1_0,.int .i64 a1_1] 37)) 3 (.int .i64 0)).alloc (.cells #[.int .i64 (-1)] 3)).alloc (.cells #[.slice A0 l0.length c0] 23);have bI:=(Boxed.new ((w.alloc (.cells #[.int .i64 a1_0,.int .i64 a1_1] 37)).alloc (.cells #[.int .i64 0] 3)) 3 (.int .i64 (-1))).alloc (.cells #[.slice A0 l0.length c0] 23);have bC:=Boxed.new (((w.alloc (.cells #[.int .i64 a1_0,.int .i64 a1_1] 37)).alloc (.cells #[.int .i64 0] 3)).alloc (.cells #[.int .i64 (-1)] 3)) 23 (.slice A0 l0.length c0);simp only [World.size_alloc] at bR bI bC;have hB0:Below w.heap.size w ((((w.alloc (.cells #[.int .i64 a1_0,.int .i64 a1_1] 37)).alloc (.cells #[.int .i64 0] 3)).alloc (.cells #[.int .i64 (-1)] 3)).alloc (.cells #[.slice A0 l0.length c0] 23)):=below_alloc (below_alloc (below_alloc (below_alloc (Below.refl _ w) _) _) _) _;have hsz:((((w.alloc (.cells #[.int .i64 a1_0,.int .i64 a1_1] 37)).alloc (.cells #[.int .i64 0] 3)).alloc (.cells #[.int .i64 (-1)] 3)).alloc (.cells #[.slice A0 l0.length c0] 23)).heap.size=w.heap.size+4:=by simp
 obtain⟨W0,hW0⟩:∃ W0,(((w.alloc (.cells #[.int .i64 a1_0,.int .i64 a1_1] 37)).alloc (.cells #[.int .i64 0] 3)).alloc (.cells #[.int .i64 (-1)] 3)).alloc (.cells #[.slice A0 l0.length c0] 23)=W0:=⟨_,rfl⟩;rw [hW0] at bP bR bI bC hB0 hsz ⊢
 clear hW0;refine wpIn_rangeFunc_ownH rfl (by omega) (gf:=81) (lb:=#[.pointer (some ⟨w.heap.size+1+1+1,0,none⟩)]) rfl trivial (enters_of Tryd.func81 (by kernel_rfl) rfl)
  (edges_stops 8 (by omega) (w.heap.size+1+1+1) w.heap.size A0 c0 l0 (by omega) hAb W0 (by omega) (by omega) bC.cell (Kd.C_below hr0 hB0)) (fun h k=>KpE.trans h k) (fun W l o o' hl _ _ _=>KpE.putObj W l o' (by omega) (by omega)) (Below.refl _ _) (fun _=>rfl)
  (fun pre W=>((((∀ x∈pre,Mort.has (sgP (edS l0 (x:Fin l0.length))) (a1_0,a1_1)=false)∧Boxed W (w.heap.size+1) 3 (.int .i64 0))∧Boxed W (w.heap.size+1+1) 3 (.int .i64 (inRun (preE l0 pre) (a1_0,a1_1))))∧W.heap[w.heap.size]?=some (.cells #[.int .i64 a1_0,.int .i64 a1_1] 37 (0,0)))∧Below w.heap.size w W)
  (fun c pre W=>((c=.ret∧∃ x:Fin l0.length,Mort.has (sgP (edS l0 x)) (a1_0,a1_1)=true)∧Boxed W (w.heap.size+1) 3 (.int .i64 0))∧Below w.heap.size w W)
  (OwnFrom.and (OwnFrom.and (OwnFrom.and (OwnFrom.and (ownFrom_pure _ _) (Own.from (boxed_own _ _ _) _)) (Own.from (boxed_own _ _ (fun pre=>.int .i64 (inRun (preE l0 pre) (a1_0,a1_1)))) _)) (Own.from (blk_own _ (fun _=>.cells #[.int .i64 a1_0,.int .i64 a1_1] 37 (0,0)) (fun _=>rfl)) _)) (ownFrom_below (Nat.le_refl _) (by omega)))
  (fun c=>OwnFrom.and (OwnFrom.and (ownFrom_pure _ _) (Own.from (boxed_own _ _ _) _)) (ownFrom_below (Nat.le_refl _) (by omega)))
  ⟨⟨⟨⟨by simp,bR⟩,bI⟩,bP⟩,hB0⟩
  (fun x a' W=>∃ Bx,W.heap[Bx]?=some (segObj (edS l0 x))∧a'={ tmps:=#[.slice A0 l0.length c0,.agg #[.int .i64 a1_0,.int .i64 a1_1],undef,.pointer (some ⟨w.heap.size,0,none⟩),.pointer (some ⟨w.heap.size+1,0,none⟩),.pointer (some ⟨w.heap.size+1+1,0,none⟩),undef,.pointer (some ⟨Bx,0,none⟩),undef,undef,undef,.slice A0 l0.length c0,.func (.func 81) #[] #[.pointer (some ⟨w.heap.size+1+1+1,0,none⟩)],.int .i64 ((x:Nat):Int),.agg #[.int .i64 (edS l0 x).f0.f0,.int .i64 (edS l0 x).f0.f1,.int .i64 (edS l0 x).f1.f0,.int .i64 (edS l0 x).f1.f1],undef,undef,undef,undef,undef,undef,undef,undef,undef,undef,undef,undef,undef,undef,undef,undef,undef,undef,undef,undef,undef,undef,undef,undef,undef,undef,undef,undef,undef,undef,undef,undef,undef,undef,undef,undef,undef,undef,undef,undef,undef,undef,undef,undef,undef,undef,undef,undef,undef,undef,undef,undef],defers:=[] })
  (fun x a' _ X Y row hs hg hr=>by obtain⟨Bx,e2,e3⟩:=hs;exact⟨Bx,segObj_own Bx (edS l0 x) () X Y row e2 hg (fun r e=>(hr r e).2),e3⟩)
  ?assign ?body ?done ?stop
 case assign =>
  rintro l pre x W K ⟨⟨⟨⟨hq,bR1⟩,bI1⟩,bP1⟩,hB1⟩ hK;have hBs:=hB1.size;dsimp only [encE,edV];gi_wp2;exact hK _ _ ((KeepsOthers.alloc _ _).from _) (KpE.alloc _ _ _ _) ⟨⟨⟨⟨hq,bR1.alloc _⟩,bI1.alloc _⟩,blk_alloc' bP1 _⟩,below_alloc hB1 _⟩ ⟨W.heap.size,World.alloc_heap_new W _,rfl⟩
 case body =>
  rintro l pre x a' W hl ⟨rr,hrr⟩ ⟨⟨⟨⟨hq,bR1⟩,bI1⟩,bP1⟩,hB1⟩ ⟨Bx,bX,rfl⟩ hlt;have hsx:=hok x;have hE:=preE_snoc l0 pre x;have hIn:=Mort.inRun_snoc (preE l0 pre) (sgP (edS l0 x)) (a1_0,a1_1);rw [← hE] at hIn;have hvals:inRun (preE l0 pre) (a1_0,a1_1)=1∨inRun (preE l0 pre) (a1_0,a1_1) = -1:=by unfold inRun Mort.sideOf;split <;> simp
  have HX:=Aside0.mk hIn;clear hIn hE;generalize inRun (preE l0 pre) (a1_0,a1_1)=v at *;have hx1:=(Mort.segOk_iff _).1 hsx;have HH:=iSegHas (k:=2) (by omega) (edS l0 x).f0.f0 (edS l0 x).f0.f1 (edS l0 x).f1.f0 (edS l0 x).f1.f1 a1_0 a1_1;have HT:=iSegTurn (k:=2) (by omega) (edS l0 x).f0.f0 (edS l0 x).f0.f1 (edS l0 x).f1.f0 (edS l0 x).f1.f1 a1_0 a1_1;have eH:segHas (sgP (edS l0 x)) (a1_0,a1_1)=Mort.has (sgP (edS l0 x)) (a1_0,a1_1):=by unfold segHas;rw [hsx,hp];rfl
  have eT:segTurn ((edS l0 x).f0.f0,(edS l0 x).f0.f1) ((edS l0 x).f1.f0,(edS l0 x).f1.f1) (a1_0,a1_1)=Mort.sgn (cross (sgP (edS l0 x)).1 (sgP (edS l0 x)).2 (a1_0,a1_1)):=by
   unfold segTurn;rw [show ptOk ((edS l0 x).f0.f0,(edS l0 x).f0.f1)=true from hx1.1,show ptOk ((edS l0 x).f1.f0,(edS l0 x).f1.f1)=true from hx1.2.1,hp];rfl
  replace HH:=HH.trans (congrArg some eH);rw [eT] at HT;clear eH eT;have hmx:=hmem x;have hC:crsI (sgP (edS l0 x)) (a1_0,a1_1)=((decide ((edS l0 x).f0.f1≤a1_1) && (decide (a1_1<(edS l0 x).f1.f1) && decide (0<cross (sgP (edS l0 x)).1 (sgP (edS l0 x)).2 (a1_0,a1_1)))) || (decide ((edS l0 x).f1.f1≤a1_1) && (decide (a1_1<(edS l0 x).f0.f1) && decide (cross (sgP (edS l0 x)).1 (sgP (edS l0 x)).2 (a1_0,a1_1)<0)))):=rfl;have cX0:W.cell? ⟨Bx,0,none⟩=some (.int .i64 (edS l0 x).f0.f0):=(blk_cell bX 0).trans rfl;have cX1:W.cell? ⟨Bx,1,none⟩=some (.int .i64 (edS l0 x).f0.f1):=(blk_cell bX 1).trans rfl;have cX2:W.cell? ⟨Bx,2,none⟩=some (.int .i64 (edS l0 x).f1.f0):=(blk_cell bX 2).trans rfl;have cX3:W.cell? ⟨Bx,3,none⟩=some (.int .i64 (edS l0 x).f1.f1):=(blk_cell bX 3).trans rfl;have cP0:W.cell? ⟨w.heap.size,0,none⟩=some (.int .i64 a1_0):=(blk_cell bP1 0).trans rfl;have cP1:W.cell? ⟨w.heap.size,1,none⟩=some (.int .i64 a1_1):=(blk_cell bP1 1).trans rfl;clear bX;generalize cross (sgP (edS l0 x)).1 (sgP (edS l0 x)).2 (a1_0,a1_1)=cz at *;generalize hsp:sgP (edS l0 x)=sx at *;have hsp':=Aside0.mk hsp;clear hsp hx1;generalize (edS l0 x).f0.f0=ax at *;generalize (edS l0 x).f0.f1=ay at *;generalize (edS l0 x).f1.f0=bx at *;generalize (edS l0 x).f1.f1=by_ at *;have hv1 : -1≤v:=by omega
  have hv2:v≤1:=by omega
  clear hvals;have ht:(0<Mort.sgn cz ↔ 0<cz)∧(Mort.sgn cz<0 ↔ cz<0):=by unfold Mort.sgn;split <;> (try split) <;> omega
  generalize Mort.sgn cz=t at *;have cI:=bI1.cell;have fI:=bI1.frozen;have cR:=bR1.cell;have fR:=bR1.frozen;have later:∀ w1,Below W.heap.size W w1→∀ a y,W.cell? a=some y→w1.cell? a=some y:=fun w1 hb a y h=>pw_cell_below hb h
  cases hh:Mort.has sx (a1_0,a1_1) with
  | true =>
   rw [hh] at HH;gi_wp2_with (refine⟨trivial,?_⟩;gi_at_call 77;refine (CallsIn.inRound l (callsIn_wide.2 (impl_SegHas.calls 2 _ _ _ _ _ _ true _ HH))).mono ?_;rintro e w1 ⟨rfl,hb⟩;have cR1:=(box_later bR1 hb).cell;have fR1:=(box_later bR1 hb).frozen);exact⟨(keeps_below hb).trans ((KeepsOthers.setCell _ _ _).from _),⟨⟨rfl,x,by rw [hsp'.out];exact hh⟩,(box_later bR1 hb).set _⟩,(below_row hB1 (Nat.le_refl _) hb).setCell (p:=⟨w.heap.size+1,0,none⟩) (by simp) _⟩
  | false =>
   rw [hh] at HH;by_cases u1:ay≤a1_1
   ·
    by_cases u2:a1_1<by_
    ·
     by_cases u5:0<t
     ·
      have d1:decide (ay≤a1_1)=true:=decide_eq_true (by omega);have d2:decide (a1_1<by_)=true:=decide_eq_true (by omega);have d3:decide (by_≤a1_1)=false:=decide_eq_false (by omega);have d4:decide (a1_1<ay)=false:=decide_eq_false (by omega);have d5:decide (0<t)=true:=decide_eq_true (by omega);have d5':decide (0<cz)=true:=decide_eq_true (by omega);have hcv:crsI sx (a1_0,a1_1)=true:=by rw [hC,d1,d2,d3,d4,d5'];simp
      clear hC
      gi_wp2_with (first
       | (refine⟨trivial,?_⟩;gi_at_call 77;refine (CallsIn.inRound l (callsIn_wide.2 (impl_SegHas.calls 2 _ _ _ _ _ _ false _ HH))).mono ?_;rintro e w1 ⟨rfl,hb⟩;have dP0:=later _ hb _ _ cP0;have dP1:=later _ hb _ _ cP1;have dX0:=later _ hb _ _ cX0;have dX1:=later _ hb _ _ cX1;have dX2:=later _ hb _ _ cX2;have dX3:=later _ hb _ _ cX3)
       | (refine⟨trivial,?_⟩;gi_at_call 78;refine (CallsIn.inRound l (callsIn_wide.2 (impl_SegTurn.calls 2 _ _ _ _ _ _ t _ HT))).mono ?_;rintro e w2 ⟨rfl,hb2⟩;have cI1:=(box_later (box_later bI1 hb) hb2).cell;have fI1:=(box_later (box_later bI1 hb) hb2).frozen))
      have HV:inRun (preE l0 (pre++[x])) (a1_0,a1_1) = -v:=by rw [HX.out,hcv];rfl
      exact⟨(keeps_below (below_step_ hb hb2)).trans ((KeepsOthers.setCell _ _ _).from _),(KpE.below (below_step_ hb hb2)).trans (KpE.set _ (by simp;omega) (by simp) _),⟨⟨⟨fun z hz=>(List.mem_append.1 hz).elim (hq z) (fun e=>by simp at e;subst e;rw [hsp'.out];exact hh),box_other (box_later bR1 (below_step_ hb hb2)) (by omega) _⟩,by rw [HV];exact (box_later bI1 (below_step_ hb hb2)).set _⟩,blk_other (blk_later bP1 (below_step_ hb hb2)) (by omega) _⟩,(below_row hB1 (Nat.le_refl _) (below_step_ hb hb2)).setCell (p:=⟨w.heap.size+1+1,0,none⟩) (by simp;omega) _⟩
     ·
      have d1:decide (ay≤a1_1)=true:=decide_eq_true (by omega);have d2:decide (a1_1<by_)=true:=decide_eq_true (by omega);have d3:decide (by_≤a1_1)=false:=decide_eq_false (by omega);have d4:decide (a1_1<ay)=false:=decide_eq_false (by omega);have d5:decide (0<t)=false:=decide_eq_false (by omega);have d5':decide (0<cz)=false:=decide_eq_false (by omega);have hcv:crsI sx (a1_0,a1_1)=false:=by rw [hC,d1,d2,d3,d4,d5'];simp
      clear hC
      gi_wp2_with (first
       | (refine⟨trivial,?_⟩;gi_at_call 77;refine (CallsIn.inRound l (callsIn_wide.2 (impl_SegHas.calls 2 _ _ _ _ _ _ false _ HH))).mono ?_;rintro e w1 ⟨rfl,hb⟩;have dP0:=later _ hb _ _ cP0;have dP1:=later _ hb _ _ cP1;have dX0:=later _ hb _ _ cX0;have dX1:=later _ hb _ _ cX1;have dX2:=later _ hb _ _ cX2;have dX3:=later _ hb _ _ cX3)
       | (refine⟨trivial,?_⟩;gi_at_call 78;refine (CallsIn.inRound l (callsIn_wide.2 (impl_SegTurn.calls 2 _ _ _ _ _ _ t _ HT))).mono ?_;rintro e w2 ⟨rfl,hb2⟩;have cI1:=(box_later (box_later bI1 hb) hb2).cell;have fI1:=(box_later (box_later bI1 hb) hb2).frozen))
      have HV:inRun (preE l0 (pre++[x])) (a1_0,a1_1)=v:=by rw [HX.out,hcv];rfl
      exact⟨keeps_below (below_step_ hb hb2),KpE.below (below_step_ hb hb2),⟨⟨⟨fun z hz=>(List.mem_append.1 hz).elim (hq z) (fun e=>by simp at e;subst e;rw [hsp'.out];exact hh),box_later bR1 (below_step_ hb hb2)⟩,by rw [HV];exact box_later bI1 (below_step_ hb hb2)⟩,blk_later bP1 (below_step_ hb hb2)⟩,below_row hB1 (Nat.le_refl _) (below_step_ hb hb2)⟩
    ·
     have d1:decide (ay≤a1_1)=true:=decide_eq_true (by omega);have d2:decide (a1_1<by_)=false:=decide_eq_false (by omega);have d3:decide (by_≤a1_1)=true:=decide_eq_true (by omega);have d4:decide (a1_1<ay)=false:=decide_eq_false (by omega);have hcv:crsI sx (a1_0,a1_1)=false:=by rw [hC,d1,d2,d3,d4];simp
     clear hC
     gi_wp2_with (first
      | (refine⟨trivial,?_⟩;gi_at_call 77;refine (CallsIn.inRound l (callsIn_wide.2 (impl_SegHas.calls 2 _ _ _ _ _ _ false _ HH))).mono ?_;rintro e w1 ⟨rfl,hb⟩;have dP0:=later _ hb _ _ cP0;have dP1:=later _ hb _ _ cP1;have dX0:=later _ hb _ _ cX0;have dX1:=later _ hb _ _ cX1;have dX2:=later _ hb _ _ cX2;have dX3:=later _ hb _ _ cX3)
      | (refine⟨trivial,?_⟩;gi_at_call 78;refine (CallsIn.inRound l (callsIn_wide.2 (impl_SegTurn.calls 2 _ _ _ _ _ _ t _ HT))).mono ?_;rintro e w2 ⟨rfl,hb2⟩;have cI1:=(box_later (box_later bI1 hb) hb2).cell;have fI1:=(box_later (box_later bI1 hb) hb2).frozen))
     have HV:inRun (preE l0 (pre++[x])) (a1_0,a1_1)=v:=by rw [HX.out,hcv];rfl
     exact⟨keeps_below (below_step_ hb hb2),KpE.below (below_step_ hb hb2),⟨⟨⟨fun z hz=>(List.mem_append.1 hz).elim (hq z) (fun e=>by simp at e;subst e;rw [hsp'.out];exact hh),box_later bR1 (below_step_ hb hb2)⟩,by rw [HV];exact box_later bI1 (below_step_ hb hb2)⟩,blk_later bP1 (below_step_ hb hb2)⟩,below_row hB1 (Nat.le_refl _) (below_step_ hb hb2)⟩
   ·
    by_cases u2:a1_1<by_
    ·
     have d1:decide (ay≤a1_1)=false:=decide_eq_false (by omega);have d2:decide (a1_1<by_)=true:=decide_eq_true (by omega);have d3:decide (by_≤a1_1)=false:=decide_eq_false (by omega);have d4:decide (a1_1<ay)=true:=decide_eq_true (by omega);have hcv:crsI sx (a1_0,a1_1)=false:=by rw [hC,d1,d2,d3,d4];simp
     clear hC
     gi_wp2_with (first
      | (refine⟨trivial,?_⟩;gi_at_call 77;refine (CallsIn.inRound l (callsIn_wide.2 (impl_SegHas.calls 2 _ _ _ _ _ _ false _ HH))).mono ?_;rintro e w1 ⟨rfl,hb⟩;have dP0:=later _ hb _ _ cP0;have dP1:=later _ hb _ _ cP1;have dX0:=later _ hb _ _ cX0;have dX1:=later _ hb _ _ cX1;have dX2:=later _ hb _ _ cX2;have dX3:=later _ hb _ _ cX3)
      | (refine⟨trivial,?_⟩;gi_at_call 78;refine (CallsIn.inRound l (callsIn_wide.2 (impl_SegTurn.calls 2 _ _ _ _ _ _ t _ HT))).mono ?_;rintro e w2 ⟨rfl,hb2⟩;have cI1:=(box_later (box_later bI1 hb) hb2).cell;have fI1:=(box_later (box_later bI1 hb) hb2).frozen))
     have HV:inRun (preE l0 (pre++[x])) (a1_0,a1_1)=v:=by rw [HX.out,hcv];rfl
     exact⟨keeps_below (below_step_ hb hb2),KpE.below (below_step_ hb hb2),⟨⟨⟨fun z hz=>(List.mem_append.1 hz).elim (hq z) (fun e=>by simp at e;subst e;rw [hsp'.out];exact hh),box_later bR1 (below_step_ hb hb2)⟩,by rw [HV];exact box_later bI1 (below_step_ hb hb2)⟩,blk_later bP1 (below_step_ hb hb2)⟩,below_row hB1 (Nat.le_refl _) (below_step_ hb hb2)⟩
    ·
     by_cases u5:t<0
     ·
      have d1:decide (ay≤a1_1)=false:=decide_eq_false (by omega);have d2:decide (a1_1<by_)=false:=decide_eq_false (by omega);have d3:decide (by_≤a1_1)=true:=decide_eq_true (by omega);have d4:decide (a1_1<ay)=true:=decide_eq_true (by omega);have d6:decide (t<0)=true:=decide_eq_true (by omega);have d6':decide (cz<0)=true:=decide_eq_true (by omega);have hcv:crsI sx (a1_0,a1_1)=true:=by rw [hC,d1,d2,d3,d4,d6'];simp
      clear hC
      gi_wp2_with (first
       | (refine⟨trivial,?_⟩;gi_at_call 77;refine (CallsIn.inRound l (callsIn_wide.2 (impl_SegHas.calls 2 _ _ _ _ _ _ false _ HH))).mono ?_;rintro e w1 ⟨rfl,hb⟩;have dP0:=later _ hb _ _ cP0;have dP1:=later _ hb _ _ cP1;have dX0:=later _ hb _ _ cX0;have dX1:=later _ hb _ _ cX1;have dX2:=later _ hb _ _ cX2;have dX3:=later _ hb _ _ cX3)
       | (refine⟨trivial,?_⟩;gi_at_call 78;refine (CallsIn.inRound l (callsIn_wide.2 (impl_SegTurn.calls 2 _ _ _ _ _ _ t _ HT))).mono ?_;rintro e w2 ⟨rfl,hb2⟩;have cI1:=(box_later (box_later bI1 hb) hb2).cell;have fI1:=(box_later (box_later bI1 hb) hb2).frozen))
      have HV:inRun (preE l0 (pre++[x])) (a1_0,a1_1) = -v:=by rw [HX.out,hcv];rfl
      exact⟨(keeps_below (below_step_ hb hb2)).trans ((KeepsOthers.setCell _ _ _).from _),(KpE.below (below_step_ hb hb2)).trans (KpE.set _ (by simp;omega) (by simp) _),⟨⟨⟨fun z hz=>(List.mem_append.1 hz).elim (hq z) (fun e=>by simp at e;subst e;rw [hsp'.out];exact hh),box_other (box_later bR1 (below_step_ hb hb2)) (by omega) _⟩,by rw [HV];exact (box_later bI1 (below_step_ hb hb2)).set _⟩,blk_other (blk_later bP1 (below_step_ hb hb2)) (by omega) _⟩,(below_row hB1 (Nat.le_refl _) (below_step_ hb hb2)).setCell (p:=⟨w.heap.size+1+1,0,none⟩) (by simp;omega) _⟩
     ·
      have d1:decide (ay≤a1_1)=false:=decide_eq_false (by omega);have d2:decide (a1_1<by_)=false:=decide_eq_false (by omega);have d3:decide (by_≤a1_1)=true:=decide_eq_true (by omega);have d4:decide (a1_1<ay)=true:=decide_eq_true (by omega);have d6:decide (t<0)=false:=decide_eq_false (by omega);have d6':decide (cz<0)=false:=decide_eq_false (by omega);have hcv:crsI sx (a1_0,a1_1)=false:=by rw [hC,d1,d2,d3,d4,d6'];simp
      clear hC
      gi_wp2_with (first
       | (refine⟨trivial,?_⟩;gi_at_call 77;refine (CallsIn.inRound l (callsIn_wide.2 (impl_SegHas.calls 2 _ _ _ _ _ _ false _ HH))).mono ?_;rintro e w1 ⟨rfl,hb⟩;have dP0:=later _ hb _ _ cP0;have dP1:=later _ hb _ _ cP1;have dX0:=later _ hb _ _ cX0;have dX1:=later _ hb _ _ cX1;have dX2:=later _ hb _ _ cX2;have dX3:=later _ hb _ _ cX3)
       | (refine⟨trivial,?_⟩;gi_at_call 78;refine (CallsIn.inRound l (callsIn_wide.2 (impl_SegTurn.calls 2 _ _ _ _ _ _ t _ HT))).mono ?_;rintro e w2 ⟨rfl,hb2⟩;have cI1:=(box_later (box_later bI1 hb) hb2).cell;have fI1:=(box_later (box_later bI1 hb) hb2).frozen))
      have HV:inRun (preE l0 (pre++[x])) (a1_0,a1_1)=v:=by rw [HX.out,hcv];rfl
      exact⟨keeps_below (below_step_ hb hb2),KpE.below (below_step_ hb hb2),⟨⟨⟨fun z hz=>(List.mem_append.1 hz).elim (hq z) (fun e=>by simp at e;subst e;rw [hsp'.out];exact hh),box_later bR1 (below_step_ hb hb2)⟩,by rw [HV];exact box_later bI1 (below_step_ hb hb2)⟩,blk_later bP1 (below_step_ hb hb2)⟩,below_row hB1 (Nat.le_refl _) (below_step_ hb hb2)⟩
 case stop =>
  rintro D c pre W hD _ ⟨⟨⟨rfl,x,hs⟩,bR1⟩,hB1⟩ hK;obtain rfl:r=0:=by rw [← HR.out];exact Mort.inOf_on (hmem x) hs
  gi_wp2;have hD1:∀ E∈[D],W.heap[E]?=some (.deferred (some [])):=by simpa using hK
  refine leavesM_marks [D] W (by simp) hD1 (fun w' h1 h2 h3 h4 h5=>?_);have hc5:=(marks_boxed bR1 hD1 h1).cell;refine⟨.int .i64 0,?_,rfl,marks_below hB1 (by simp;omega) h1 h2 h3 h4 h5⟩;simp [results,Tryd.f53,go_sem,hc5]
 case done =>
  rintro D ys W hD rfl ⟨⟨⟨⟨hq,bR1⟩,bI1⟩,bP1⟩,hB1⟩ hK;have hV:inRun (preE l0 (List.finRange l0.length)) (a1_0,a1_1)=r:=by
   rw [preE_all,Mort.inRun_end,HR.out];intro e he;obtain⟨i,hi,rfl⟩:=Mort.mem_edges.1 he;rw [ed_edS];exact hq ⟨i,by simpa using hi⟩ (List.mem_finRange _)
  rw [hV] at bI1;clear hV;have cI:=bI1.cell;have cR:=bR1.cell;have fR:=bR1.frozen;gi_wp2;have hD1:∀ E∈[D],(W.setCell ⟨w.heap.size+1,0,none⟩ (.int .i64 r)).heap[E]?=some (.deferred (some [])):=by
   intro E hE;simp at hE;subst hE;exact blk_set hK rfl bR1 _
  refine leavesM_marks [D] _ (by simp) hD1 (fun w' h1 h2 h3 h4 h5=>?_);have hc5:=(marks_boxed (bR1.set (.int .i64 r)) hD1 h1).cell;refine⟨.int .i64 r,?_,rfl,marks_below (hB1.setCell (p:=⟨w.heap.size+1,0,none⟩) (by simp) _) (by simp;omega) h1 h2 h3 h4 h5⟩;simp [results,Tryd.f53,go_sem,hc5]
end Go.Proofs.YtailkppkjhkjpaaDoor.X
end
section
set_option linter.unusedVariables false
set_option linter.unusedSimpArgs false
namespace Go.Proofs.YtailkppkjhkjpaaDoor.X
open Go.RowKit Go.Shelf Go.Proofs.YtailkppkjhkjpaaDoorW.PrintWords Go.Proofs.YtailkppkjhkjpaaDoorW.PrintLast Go.Proofs.YtailkppkjhkjpaaDoorW.PrintMore
open Mort (edges segMeet loopOk ptOk inOf)
def RingsAt (W:World):Option Addr→List (List S37)→Prop
 | p,[]=>p=none
 | p,zs::rest=>∃ b A c nx,p=some ⟨b,0,none⟩∧RingAt W b A c zs nx∧RingsAt W nx rest
theorem RingsAt.later {W W':World}(hb:Below W.heap.size W W'):∀ {p:Option Addr} {R:List (List S37)},RingsAt W p R→RingsAt W' p R
 | _,[],h=>h
 | _,_::_,⟨b,A,c,nx,e,h,k⟩=>⟨b,A,c,nx,e,h.later hb,RingsAt.later hb k⟩
def Small (R:List (List S37)):Prop:=∀ z∈R,0<z.length∧z.length≤8
def apartAll:List (List S37)→Bool
 | []=>true
 | z::rest=>(rest.all fun y => !meetsB z y) && apartAll rest
set_option maxHeartbeats 4000000 in
set_option maxRecDepth 100000 in
theorem apart_calls (b:Nat)(R:List (List S37))(r:Bool)(w:World)(hR:RingsAt w (some ⟨b,0,none⟩) R)(hS:Small R)(h:apartAll R=r):
  Calls Tryd.prog 57 #[.pointer (some ⟨b,0,none⟩)] w fun e w'=>e=.returned (.bool r)∧Below w.heap.size w w':=by
 have HR:=Aside0.mk h;clear h;go_enter Tryd.func57,Tryd.ntmps57;go_wp2;go_loopg [3] R.length (fun kq v3 wr=>∃ (p:Option Addr) (rest:List (List S37)),v3=.pointer p∧Aside0 (kq=rest.length∧RingsAt wr p rest∧Small rest∧apartAll rest=r∧Below w.heap.size w wr))
 case atStart=>exact⟨_,R,rfl,⟨rfl,hR,hS,HR.out,Below.refl _ _⟩⟩
 case round =>
  obtain⟨p,rest,rfl,H⟩:=hrel;obtain⟨hk,hr,hs,ha,hB⟩:=H.out;clear H
  cases rest with
  | nil =>
   obtain rfl:p=none:=hr;obtain rfl:true=r:=ha;clear HR;have HB:=Aside0.mk hB;clear hB hk;go_wp2;go_ret;exact⟨rfl,HB.out⟩
  | cons z rest =>
   obtain⟨b1,A1,c1,n1,rfl,hz,hrest⟩:=hr;have hn:=hz.nxt;have HZ:=a0_ (And.intro hz (And.intro hrest (And.intro hs (And.intro ha (And.intro hB hk)))));clear hz hrest hs ha hB hk HR;go_wp2;go_loopg [4] rest.length (fun kq v4 w2=>∃ (q:Option Addr) (rest2:List (List S37)),v4=.pointer q∧Aside0 (kq=rest2.length∧RingsAt w2 q rest2∧Small rest2∧((rest2.all fun y => !meetsB z y) && apartAll rest)=r∧RingAt w2 b1 A1 c1 z n1∧RingsAt w2 n1 rest∧Below w.heap.size w w2))
   case atStart =>
    obtain⟨hz,hrest,hs,ha,hB,hk⟩:=HZ.out;exact⟨n1,rest,rfl,⟨rfl,hrest,fun y hy=>hs y (List.mem_cons_of_mem _ hy),ha,hz,hrest,hB⟩⟩
   case round =>
    obtain⟨q,rest2,rfl,H⟩:=hrel;obtain⟨hk2,hr2,hs2,ha2,hz2,hrest2,hB2⟩:=H.out;clear H hn
    cases rest2 with
    | nil =>
     obtain rfl:q=none:=hr2;simp only [List.all_nil,Bool.true_and] at ha2;have hn2:=hz2.nxt;obtain⟨_,_,hs,_,_,hk⟩:=HZ.out;have HZ2:=a0_ (And.intro hrest2 (And.intro (show Small rest from fun y hy=>hs y (List.mem_cons_of_mem _ hy)) (And.intro ha2 (And.intro hB2 hk))));clear hz2 hrest2 ha2 hB2 hk2 hs2 hs hk HZ;go_wp2;obtain⟨h1,h2,h3,h4,h5⟩:=HZ2.out;go_roundg rest.length
     case measure=>rw [h5];simp
     case rel=>exact⟨n1,rest,rfl,⟨rfl,h1,h2,h3,h4⟩⟩
    | cons y rest2 =>
     obtain⟨b2,A2,c2,n2,rfl,hy,hrr⟩:=hr2;obtain⟨_,_,hs,_,_,_⟩:=HZ.out;have hsz:=hs z List.mem_cons_self;have hsy:=hs2 y List.mem_cons_self;have hny:=hy.nxt
     cases hm:meetsB z y with
     | true =>
      obtain rfl:false=r:=by rw [← ha2];simp [hm]
      have HK:=a0_ (And.intro hz2 (And.intro hy (And.intro hsz (And.intro hsy (And.intro hm hB2)))));clear hz2 hy hsz hsy hm hB2 hk2 hs2 ha2 hrest2 hrr hs HZ;go_wp2_with (go_at_call 80;refine (meets_calls b1 b2 A1 A2 n1 n2 c1 c2 z y true _ HK.out.1 HK.out.2.1 HK.out.2.2.1 HK.out.2.2.2.1 HK.out.2.2.2.2.1).mono ?_;rintro e w3 ⟨rfl,hb⟩);go_ret;exact⟨rfl,below_step HK.out.2.2.2.2.2 hb⟩
     | false =>
      have ha3:((rest2.all fun y => !meetsB z y) && apartAll rest)=r:=by rw [← ha2];simp [hm]
      have HK:=a0_ (And.intro hz2 (And.intro hy (And.intro hsz (And.intro hsy (And.intro hm (And.intro hB2 (And.intro hrr (And.intro (show Small rest2 from fun u hu=>hs2 u (List.mem_cons_of_mem _ hu)) (And.intro ha3 (And.intro hrest2 hk2))))))))));clear hz2 hy hsz hsy hm hB2 hk2 hs2 ha2 ha3 hrest2 hrr hs;go_wp2_with (go_at_call 80;refine (meets_calls b1 b2 A1 A2 n1 n2 c1 c2 z y false _ HK.out.1 HK.out.2.1 HK.out.2.2.1 HK.out.2.2.2.1 HK.out.2.2.2.2.1).mono ?_;rintro e w3 ⟨rfl,hb⟩;have hny3:=pw_cell_below hb hny);obtain⟨k1,k2,k3,k4,k5,k6,k7,k8,k9,k10,k11⟩:=HK.out;go_roundg rest2.length
      case measure=>rw [k11];simp
      case rel=>exact⟨n2,rest2,rfl,⟨rfl,k7.later hb,k8,k9,k1.later hb,k10.later hb,below_step k6 hb⟩⟩
def ptrAt (bs:List Nat)(i:Nat):Option Addr:=(bs[i]?).map fun b=>(⟨b,0,none⟩:Addr)
structure RingsIx (W:World) (bs:List Nat) (H:List (List S37)):Prop where
 len:bs.length=H.length
 nd:bs.Nodup
 ring:∀ i,i<H.length→∃ A c,RingAt W (bs.getD i 0) A c (H.getD i []) (ptrAt bs (i+1))∧W.heap[bs.getD i 0]?=some (.cells #[.slice A (H.getD i []).length c,.pointer (ptrAt bs (i+1))] 55 (0,0))
theorem RingsIx.later {W W':World}{bs:List Nat}{H:List (List S37)}(h:RingsIx W bs H)(hb:Below W.heap.size W W'):RingsIx W' bs H:=
 ⟨h.len,h.nd,fun i hi=>by obtain⟨A,c,k,o⟩:=h.ring i hi;exact⟨A,c,k.later hb,blk_later o hb⟩⟩
theorem ptrAt_some {bs:List Nat}{i:Nat}(h:i<bs.length):ptrAt bs i=some ⟨bs.getD i 0,0,none⟩:=by
 unfold ptrAt;rw [List.getD_eq_getElem?_getD,List.getElem?_eq_getElem h];rfl
theorem ptrAt_none {bs:List Nat}{i:Nat}(h:bs.length≤i):ptrAt bs i=none:=by
 unfold ptrAt;rw [List.getElem?_eq_none h];rfl
theorem RingsIx.at {W:World}{bs:List Nat}{H:List (List S37)}(h:RingsIx W bs H):∀ (n k:Nat),H.length-k=n→RingsAt W (ptrAt bs k) (H.drop k):=by
 intro n
 induction n with
 | zero =>
  intro k hk;have hl:=h.len;rw [List.drop_of_length_le (by omega),ptrAt_none (by omega)];rfl
 | succ n ih =>
  intro k hk;have hl:=h.len;have hlt:k<H.length:=by omega
  rw [ptrAt_some (by omega),List.drop_eq_getElem_cons hlt];obtain⟨A,c,hr,_⟩:=h.ring k hlt;have e:H.getD k []=H[k]:=by rw [List.getD_eq_getElem?_getD,List.getElem?_eq_getElem hlt];rfl
  rw [e] at hr;exact⟨_,A,c,_,rfl,hr,ih (k+1) (by omega)⟩
theorem infoRing:(Tryd.prog.info? 55).map (fun i=>(i.zero,i.size,i.bytes))=some (some (.agg #[.slice none 0 0,.pointer none]),2,32):=by kernel_rfl
theorem neq_same (w:World)(a:Addr):(binOp .neq 53 (.pointer (some a)) (.pointer (some a))).run Tryd.prog w=.ok (.bool false) w:=by
 obtain⟨i0,hi,hz0,hz1,hz2⟩:=info_parts infoRing;have h:∀ d:Nat,(Op.equalIn (d+1) 53 (.pointer (some a)) (.pointer (some a))).run Tryd.prog w=.ok true w:=fun d=>by
  simp [Op.equalIn,run_underlying Tryd.underlying53,sizeOf,typeInfo,hi,run_sameAddr_same]
 simp only [binOp];simp [Op.equal,Op.maxDepth,h 9999]
theorem neq_other (w:World){a b:Nat}{ca cb:Array Value}{ta tb:TypeId}(hne:a≠b)(ha:w.heap[a]?=some (.cells ca ta (0,0)))(hb:w.heap[b]?=some (.cells cb tb (0,0))):
  (binOp .neq 53 (.pointer (some ⟨a,0,none⟩)) (.pointer (some ⟨b,0,none⟩))).run Tryd.prog w=.ok (.bool true) w:=by
 obtain⟨i0,hi,hz0,hz1,hz2⟩:=info_parts infoRing;have h:∀ d:Nat,(Op.equalIn (d+1) 53 (.pointer (some ⟨a,0,none⟩)) (.pointer (some ⟨b,0,none⟩))).run Tryd.prog w=.ok false w:=fun d=>by
  have hs:=run_sameAddr_other (P:=Tryd.prog) w (a:=⟨a,0,none⟩) (b:=⟨b,0,none⟩) (by simpa using hne) ha hb;simp [Op.equalIn,run_underlying Tryd.underlying53,sizeOf,typeInfo,hi,hz1,hs]
 simp only [binOp];simp [Op.equal,Op.maxDepth,h 9999]
structure BodyAt (W:World) (b:Nat) (bs:List Nat) (o:List S37) (H:List (List S37)):Prop where
 outer:∃ A c,RingAt W b A c o (ptrAt bs 0)
 holes:RingsIx W bs H
theorem BodyAt.later {W W':World}{b:Nat}{bs:List Nat}{o:List S37}{H:List (List S37)}(h:BodyAt W b bs o H)(hb:Below W.heap.size W W'):BodyAt W' b bs o H:=
 ⟨by obtain⟨A,c,k⟩:=h.outer;exact⟨A,c,k.later hb⟩,h.holes.later hb⟩
theorem BodyAt.rings {W:World}{b:Nat}{bs:List Nat}{o:List S37}{H:List (List S37)}(h:BodyAt W b bs o H):RingsAt W (some ⟨b,0,none⟩) (o::H):=by
 obtain⟨A,c,k⟩:=h.outer;have:=h.holes.at _ 0 rfl;rw [List.drop_zero] at this;exact⟨b,A,c,_,rfl,k,this⟩
def fstP (z:List S37):Mort.Pt:=ptP (z.getD 0 z37)
def inS (z:List S37)(p:Mort.Pt):Int:=inOf (z.map ptP) p
def okN (H:List (List S37))(i j:Nat):Bool:=i==j || inS (H.getD j []) (fstP (H.getD i [])) == -1
def rowN (o:List S37)(H:List (List S37))(i:Nat):Bool:=inS o (fstP (H.getD i []))==1 && (List.range' 0 H.length).all (okN H i)
def nestedAll (o:List S37)(H:List (List S37)):Bool:=(List.range' 0 H.length).all (rowN o H)
theorem inside_told (b:Nat)(A nx:Option Addr)(c:Nat)(z:List S37)(x y:Int)(w:World)(h:RingAt w b A c z nx)(hz:loopOk (z.map ptP)=true)(hp:ptOk (x,y)=true):
  Calls Tryd.prog 53 #[.slice A z.length c,.agg #[.int .i64 x,.int .i64 y]] w fun e w'=>e=.returned (.int .i64 (inS z (x,y)))∧Below w.heap.size w w':=
 impl_insideOf.calls A c z x y _ w h.row h.cap (by unfold impl_insideOf.f;rw [if_pos ⟨hz,hp⟩];rfl)
set_option maxHeartbeats 4000000 in
set_option maxRecDepth 100000 in
theorem nested_calls (b:Nat)(bs:List Nat)(o:List S37)(H:List (List S37))(r:Bool)(w:World)(hB:BodyAt w b bs o H)(ho:loopOk (o.map ptP)=true)(hH:∀ z∈H,loopOk (z.map ptP)=true)(h:nestedAll o H=r):
  Calls Tryd.prog 58 #[.pointer (some ⟨b,0,none⟩)] w fun e w'=>e=.returned (.bool r)∧Below w.heap.size w w':=by
 have hh:∀ i,i<H.length→loopOk ((H.getD i []).map ptP)=true:=fun i hi=>by
  rw [List.getD_eq_getElem?_getD,List.getElem?_eq_getElem hi];exact hH _ (List.getElem_mem hi)
 have hpos:∀ i,i<H.length→0<(H.getD i []).length:=fun i hi=>by have:=Mort.loop_pos (hh i hi);simpa using this
 have hfst:∀ i,i<H.length→ptOk (fstP (H.getD i []))=true:=fun i hi=>by
  have h1:=((Mort.loopOk_iff _).1 (hh i hi)).2.2.1;have h2:=(Mort.segOk_iff _).1 (h1 _ (Mort.mem_edges.2 ⟨0,by have:=hpos i hi;simpa using this,rfl⟩));rw [ed_edS] at h2;exact h2.1
 clear hH;have hu28:=Tryd.underlying37;have HR:=Aside0.mk h;have HB0:=Aside0.mk hB;obtain⟨A0,c0,hout⟩:=hB.outer;have hn0:=hout.nxt;have hlen:=hB.holes.len;have HH:=a0_ (And.intro ho (And.intro hh (And.intro hpos (And.intro hfst hlen))));clear h hB hout ho hh hpos hfst hlen;go_enter Tryd.func58,Tryd.ntmps58;go_wp2;go_loopg [3] H.length (fun kq v3 wr=>∃ i:Nat,v3=.pointer (ptrAt bs i)∧Aside0 (kq=H.length-i∧i≤H.length∧BodyAt wr b bs o H∧(List.range' i (H.length-i)).all (rowN o H)=r∧Below w.heap.size w wr))
 case atStart=>exact⟨0,rfl,⟨rfl,Nat.zero_le _,HB0.out,HR.out,Below.refl _ _⟩⟩
 case round =>
  obtain⟨i,rfl,H1⟩:=hrel;obtain⟨hk,hi,hB,ha,hBw⟩:=H1.out;obtain⟨ho,hh,hpos,hfst,hlen⟩:=HH.out;clear H1 hn0;by_cases hlt:i<H.length
  ·
   obtain⟨A1,c1,hring,_⟩:=hB.holes.ring i hlt;obtain⟨A2,c2,hout⟩:=hB.outer;have hpi:=ptrAt_some (bs:=bs) (i:=i) (by omega);obtain⟨ad,hA1,hx0,hx1⟩:=at_pt hring.row 0 (hpos i hlt);have hpts:=hring.pts;have hl0:0<(H.getD i []).length:=hpos i hlt;rw [hpi];subst hA1;have p0:wr.cell? ad=some (.int .i64 ((H.getD i []).getD 0 z37).f0):=by have:=hx0;rwa [Nat.zero_mul,show ad.add 0=ad from rfl] at this
   have p1:wr.cell? ⟨ad.block,ad.off+1,none⟩=some (.int .i64 ((H.getD i []).getD 0 z37).f1):=by have:=hx1;rwa [Nat.zero_mul,show ad.add 0=ad from rfl] at this
   clear hx0 hx1;have hf0:ptOk (((H.getD i []).getD 0 z37).f0,((H.getD i []).getD 0 z37).f1)=true:=hfst i hlt;have hF:=a0_ (show fstP (H.getD i [])=(((H.getD i []).getD 0 z37).f0,((H.getD i []).getD 0 z37).f1) from rfl);generalize ((H.getD i []).getD 0 z37).f0=fx at *;generalize ((H.getD i []).getD 0 z37).f1=fy at *;have HK:=a0_ (And.intro hB (And.intro ha (And.intro hBw (And.intro hk (And.intro hring (And.intro hout (And.intro hf0 (And.intro hh ho))))))));have lo:=hout.pts;have bi1:=hring.pts;have bi2:=hring.nxt;clear hB ha hBw hk hring hout hpos hfst hlen hi hpi hf0 hh ho HB0 HR;generalize (H.getD i []).length=lz at *;generalize hbi:bs.getD i 0=bi at *;have hbi':=Aside0.mk hbi;clear hbi;go_wp2;have lo1:=pw_cell_below (below_drew1 (below_alloc (Below.refl _ wr) (.cells #[.int .i64 fx,.int .i64 fy] 37))) lo;have hb0:=below_drew1 (below_alloc (Below.refl wr.heap.size wr) (.cells #[.int .i64 fx,.int .i64 fy] 37));have nb:=World.alloc_heap_new wr (.cells #[.int .i64 fx,.int .i64 fy] 37 (0,0));have f0:((wr.alloc (.cells #[.int .i64 fx,.int .i64 fy] 37)).drew).cell? ⟨wr.heap.size,0,none⟩=some (.int .i64 fx):=(blk_cell nb 0).trans rfl;have f1:((wr.alloc (.cells #[.int .i64 fx,.int .i64 fy] 37)).drew).cell? ⟨wr.heap.size,1,none⟩=some (.int .i64 fy):=(blk_cell nb 1).trans rfl;generalize hg:wr.heap.size=g at *;go_region_held3 (fun W=>W.cell? ⟨b,0,none⟩=some (.slice A2 o.length c2)∧W.cell? ⟨g,0,none⟩=some (.int .i64 fx)∧W.cell? ⟨g,1,none⟩=some (.int .i64 fy))
    (first | exact⟨pw_cell_below hb lo1,pw_cell_below hb f0,pw_cell_below hb f1⟩ | go_keep)
    (first | (go_at_call 53;refine (inside_told b A2 _ c2 o fx fy _ (HK.out.2.2.2.2.2.1.later (hg▸hb0)) HK.out.2.2.2.2.2.2.2.2 HK.out.2.2.2.2.2.2.1).mono ?_;rintro e w3 ⟨rfl,hb⟩))
   have hBd:=HK.out.1.later (hg▸hb0);have hBd3:=hBd.later hb;have hw3:Below w.heap.size w w3:=below_step (below_step HK.out.2.2.1 (hg▸hb0)) hb;have nb3:w3.heap[g]?=some (.cells #[.int .i64 fx,.int .i64 fy] 37 (0,0)):=(hb.block g (Array.getElem?_eq_some_iff.1 nb).1).trans nb;have hall:=HK.out.2.1;obtain⟨m,hm⟩:∃ m,H.length-i=m+1:=⟨H.length-i-1,by omega⟩;rw [hm,List.range'_succ,List.all_cons] at hall;have hrow:rowN o H i=(inS o (fx,fy)==1 && (List.range' 0 H.length).all (okN H i)):=by unfold rowN;rw [hF.out]
   rw [hrow] at hall;have HL:=a0_ (And.intro hall (And.intro hm (And.intro hBd3 (And.intro hw3 (And.intro nb3 HK.out.2.2.2.1)))));have hG:=Aside0.mk hg;clear hall hm hrow hBd hBd3 hw3 nb3 nb hb0 hb lo lo1 f0 f1 bi1 bi2 p0 p1 hg hu28
   cases hin:(inS o (fx,fy)==1) with
   | false =>
    have e1:(inS o (fx,fy) != 1)=true:=by rw [bne,hin];rfl
    obtain rfl:false=r:=by rw [← HL.out.1,hin];rfl
    clear hin;go_wp2;go_ret;exact⟨rfl,HL.out.2.2.2.1⟩
   | true =>
    have e1:(inS o (fx,fy) != 1)=false:=by rw [bne,hin];rfl
    have hall2:((List.range' 0 H.length).all (okN H i) && (List.range' (i+1) m).all (rowN o H))=r:=by rw [← HL.out.1,hin];rfl
    have HA:=Aside0.mk hall2;clear hin hall2;generalize (inS o (fx,fy) != 1)=t30 at e1 ⊢
    subst e1;obtain⟨A3,c3,hout3⟩:=HL.out.2.2.1.outer;have lo2:=hout3.nxt;clear hout3;go_wp2;clear lo2;go_loopg [5] H.length (fun kq v5 w4=>∃ j:Nat,v5=.pointer (ptrAt bs j)∧Aside0 (kq=H.length-j∧j≤H.length∧BodyAt w4 b bs o H∧w4.heap[g]?=some (.cells #[.int .i64 fx,.int .i64 fy] 37 (0,0))∧((List.range' j (H.length-j)).all (okN H i) && (List.range' (i+1) m).all (rowN o H))=r∧Below w.heap.size w w4))
    case atStart=>exact⟨0,rfl,⟨rfl,Nat.zero_le _,HL.out.2.2.1,HL.out.2.2.2.2.1,HA.out,HL.out.2.2.2.1⟩⟩
    case round =>
     obtain⟨j,rfl,H2⟩:=hrel;obtain⟨hkj,hj,hBj,hgj,haj,hwj⟩:=H2.out;have HKJ:=Aside0.mk hkj;clear H2;by_cases hjlt:j<H.length
     ·
      obtain⟨A4,c4,hringj,hoj⟩:=hBj.holes.ring j hjlt;have hl:=hBj.holes.len;have hpj:=ptrAt_some (bs:=bs) (i:=j) (by omega);rw [hpj];obtain⟨m2,hm2⟩:∃ m2,H.length-j=m2+1:=⟨H.length-j-1,by omega⟩;rw [hm2,List.range'_succ,List.all_cons] at haj;by_cases hij:j=i
      ·
       subst hij;rw [hbi'.out];rw [hbi'.out] at hringj;have bj2:=hringj.nxt;have haj2:((List.range' (j+1) m2).all (okN H j) && (List.range' (j+1) m).all (rowN o H))=r:=by rw [← haj];simp [okN]
       have HJ:=a0_ (And.intro haj2 (And.intro hBj (And.intro hgj (And.intro hwj (And.intro hm2 hjlt)))));clear haj haj2 hBj hgj hwj hm2 hjlt hringj hl hpj hkj hj;have hsame:=neq_same;go_wp2;have bj3:wr.drew.cell? ⟨bi,1,none⟩=some (.pointer (ptrAt bs (j+1))):=bj2;go_region;go_wp2;obtain⟨k1,k2,k3,k4,k5,k6⟩:=HJ.out;have hdr:=below_drew1 (Below.refl wr.heap.size wr);go_roundg m2
       case measure=>have:=HKJ.out;omega
       case rel=>exact⟨j+1,rfl,⟨by omega,by omega,k2.later hdr,k3,by rw [show H.length-(j+1)=m2 by omega];exact k1,below_step k4 hdr⟩⟩
      ·
       obtain⟨A5,c5,hringi,hoi⟩:=hBj.holes.ring i hlt;rw [hbi'.out] at hoi;have hbij:bs.getD j 0≠bi:=by
        rw [← hbi'.out,List.getD_eq_getElem?_getD,List.getD_eq_getElem?_getD,List.getElem?_eq_getElem (by omega:j<bs.length),List.getElem?_eq_getElem (by omega:i<bs.length)];intro e;exact hij ((List.getElem_inj hBj.holes.nd).1 (by simpa using e))
       generalize hbj:bs.getD j 0=bj at *;have hbj':=Aside0.mk hbj;clear hbj;have bj1:=hringj.pts;have bj2:=hringj.nxt;have hneq:∀ W:World,W.heap[bj]?=some (.cells #[.slice A4 (H.getD j []).length c4,.pointer (ptrAt bs (j+1))] 55 (0,0))→W.heap[bi]?=some (.cells #[.slice A5 (H.getD i []).length c5,.pointer (ptrAt bs (i+1))] 55 (0,0)) →
         (binOp .neq 53 (.pointer (some ⟨bj,0,none⟩)) (.pointer (some ⟨bi,0,none⟩))).run Tryd.prog W=.ok (.bool true) W:=fun W h1 h2=>neq_other W hbij h1 h2
       have hin2:okN H i j=(inS (H.getD j []) (fx,fy) == -1):=by
        unfold okN;rw [hF.out,show (i==j)=false from beq_false_of_ne (Ne.symm hij)];rfl
       rw [hin2] at haj;have hu28:=Tryd.underlying37;have HJ:=a0_ (And.intro haj (And.intro hBj (And.intro hgj (And.intro hwj (And.intro hm2 (And.intro hjlt (And.intro hringj (And.intro (HK.out.2.2.2.2.2.2.2.1 j hjlt) HK.out.2.2.2.2.2.2.1))))))));clear haj hBj hwj hm2 hjlt hringj hl hpj hkj hj hringi hin2;have fb0:wr.drew.cell? ⟨g,0,none⟩=some (.int .i64 fx):=(blk_cell hgj 0).trans rfl;have fb1:wr.drew.cell? ⟨g,1,none⟩=some (.int .i64 fy):=(blk_cell hgj 1).trans rfl;have bj1':wr.drew.cell? ⟨bj,0,none⟩=some (.slice A4 (H.getD j []).length c4):=bj1;have hoj':wr.drew.heap[bj]?=some (.cells #[.slice A4 (H.getD j []).length c4,.pointer (ptrAt bs (j+1))] 55 (0,0)):=hoj;have hoi':wr.drew.heap[bi]?=some (.cells #[.slice A5 (H.getD i []).length c5,.pointer (ptrAt bs (i+1))] 55 (0,0)):=hoi;clear hgj hoj hoi bj1;generalize H.getD j []=zj at *;generalize H.getD i []=zi at *;have bj2':wr.drew.cell? ⟨bj,1,none⟩=some (.pointer (ptrAt bs (j+1))):=bj2;clear bj2
       cases hin:(inS zj (fx,fy) == -1) with
       | false =>
        have e1:(inS zj (fx,fy) != -1)=true:=by rw [bne,hin];rfl
        obtain rfl:false=r:=by rw [← HJ.out.1,hin];rfl
        clear hin;go_wp2;go_region_held3 (fun W=>W.cell? ⟨g,0,none⟩=some (.int .i64 fx)∧W.cell? ⟨g,1,none⟩=some (.int .i64 fy)∧W.cell? ⟨bj,0,none⟩=some (.slice A4 zj.length c4)∧W.heap[bj]?=some (.cells #[.slice A4 zj.length c4,.pointer (ptrAt bs (j+1))] 55 (0,0))∧W.heap[bi]?=some (.cells #[.slice A5 zi.length c5,.pointer (ptrAt bs (i+1))] 55 (0,0)))
         (first | exact⟨pw_cell_below hb fb0,pw_cell_below hb fb1,pw_cell_below hb bj1',blk_later hoj' hb,blk_later hoi' hb⟩ | go_keep)
         (first | (go_at_call 53;refine (inside_told bj A4 _ c4 zj fx fy _ (HJ.out.2.2.2.2.2.2.1.later (below_drew1 (Below.refl wr.heap.size wr))) HJ.out.2.2.2.2.2.2.2.1 HJ.out.2.2.2.2.2.2.2.2).mono ?_;rintro e w5 ⟨rfl,hb⟩;have bj5:=pw_cell_below hb bj2'))
        go_wp2;go_ret;exact⟨rfl,below_step (below_drew1 HJ.out.2.2.2.1) hb⟩
       | true =>
        have e1:(inS zj (fx,fy) != -1)=false:=by rw [bne,hin];rfl
        have haj2:((List.range' (j+1) m2).all (okN H i) && (List.range' (i+1) m).all (rowN o H))=r:=by rw [← HJ.out.1,hin];rfl
        have HA2:=Aside0.mk haj2;clear hin haj2;go_wp2;go_region_held3 (fun W=>W.cell? ⟨g,0,none⟩=some (.int .i64 fx)∧W.cell? ⟨g,1,none⟩=some (.int .i64 fy)∧W.cell? ⟨bj,0,none⟩=some (.slice A4 zj.length c4)∧W.heap[bj]?=some (.cells #[.slice A4 zj.length c4,.pointer (ptrAt bs (j+1))] 55 (0,0))∧W.heap[bi]?=some (.cells #[.slice A5 zi.length c5,.pointer (ptrAt bs (i+1))] 55 (0,0)))
         (first | exact⟨pw_cell_below hb fb0,pw_cell_below hb fb1,pw_cell_below hb bj1',blk_later hoj' hb,blk_later hoi' hb⟩ | go_keep)
         (first | (go_at_call 53;refine (inside_told bj A4 _ c4 zj fx fy _ (HJ.out.2.2.2.2.2.2.1.later (below_drew1 (Below.refl wr.heap.size wr))) HJ.out.2.2.2.2.2.2.2.1 HJ.out.2.2.2.2.2.2.2.2).mono ?_;rintro e w5 ⟨rfl,hb⟩;have bj5:=pw_cell_below hb bj2'))
        go_wp2;obtain⟨k1,k2,k3,k4,k5,k6,_⟩:=HJ.out;have hdr:=below_drew1 (Below.refl wr.heap.size wr);go_roundg m2
        case measure=>have:=HKJ.out;omega
        case rel=>exact⟨j+1,rfl,⟨by omega,by omega,(k2.later hdr).later hb,(hb.block g (Array.getElem?_eq_some_iff.1 k3).1).trans k3,by rw [show H.length-(j+1)=m2 by omega];exact HA2.out,below_step (below_drew1 k4) hb⟩⟩
     ·
      obtain rfl:j=H.length:=by omega
      have hl:=hBj.holes.len;rw [ptrAt_none (by omega)];rw [Nat.sub_self,List.range'_zero,List.all_nil,Bool.true_and] at haj;obtain⟨A6,c6,hring6,_⟩:=hBj.holes.ring i hlt;rw [hbi'.out] at hring6;have bi6:=hring6.nxt;have HJ:=a0_ (And.intro haj (And.intro hBj hwj));clear haj hBj hwj hring6 hl hkj hj hjlt;go_wp2;obtain⟨k1,k2,k3⟩:=HJ.out;go_roundg m
      case measure=>have:=HL.out.2.1;have:=HL.out.2.2.2.2.2;omega
      case rel=>exact⟨i+1,rfl,⟨by have:=HL.out.2.1;omega,by omega,k2,by rw [show H.length-(i+1)=m by have:=HL.out.2.1;omega];exact k1,k3⟩⟩
  ·
   obtain rfl:i=H.length:=by omega
   rw [Nat.sub_self,List.range'_zero,List.all_nil] at ha;obtain rfl:=ha;rw [ptrAt_none (by omega)];have HW:=Aside0.mk hBw;clear hBw hB hk hi hh hpos hfst HB0 HR HH hlt;go_wp2;go_ret;exact⟨rfl,HW.out⟩
end Go.Proofs.YtailkppkjhkjpaaDoor.X
end
section
set_option linter.unusedVariables false
set_option linter.unusedSimpArgs false
namespace Go.Proofs.YtailkppkjhkjpaaDoor.X
open Go.RowKit Go.Shelf Go.Proofs.YtailkppkjhkjpaaDoorW.PrintWords Go.Proofs.YtailkppkjhkjpaaDoorW.PrintLast Go.Proofs.YtailkppkjhkjpaaDoorW.PrintMore
section
variable {l n:Nat} {P:Program} {ops:Array Oper} {Q:Exit→Act→World→Prop}
theorem upon_inRound {o:Oper}{a:Act}{K:Act→World→Prop}{r:Result Next}(h:o.upon P a K Q r):o.uponIn (Fence.wide.inRound l) n P a K Q r:=by
 cases r with
 | ok x w' =>
  cases x with
  | value v=>exact h
  | skip=>exact h
  | defer d=>exact h
  | enter f args=>exact⟨fun hd=>(by cases hd),CallsIn.inRound l (callsIn_wide.2 h)⟩
  | row rw_ args=>exact⟨fun hd=>(by cases hd),fun c cs _=>by obtain⟨v,w1,h1,h2⟩:=h c cs;exact⟨v,w1,h1,stepsIn_wide.2 h2⟩⟩
  | _=>exact h.elim
 | halt x w'=>cases x <;> exact h
theorem wpOps_inRound (hd:∀ (i:Nat) (o:Oper),ops[i]?=some o→∀ c,o.op≠.defer c)(hno:LetsOut Q→False):∀ (is:List Nat) (a:Act) (w:World),wpOps P ops Q is a w→wpOpsIn (Fence.wide.inRound l) n P ops Q is a w:=by
 intro is
 induction is with
 | nil=>exact fun a w h=>h
 | cons i rest ih =>
  intro a w h;simp only [wpOps] at h;simp only [wpOpsIn]
  cases ho:ops[i]? with
  | none=>rw [ho] at h;exact ih a w h
  | some o =>
   rw [ho] at h;simp only at h ⊢
   split at h
   ·
    rename_i hw
    rw [if_pos hw]
    rcases h with h | ⟨_,h⟩
    ·
     refine⟨fun _ _=>trivial,?_⟩;rw [show (Fence.wide.inRound l).round=some l from rfl,Oper.semAt_some l _ o (hd i o ho)];refine upon_inRound ?_;exact Oper.wp_mono (fun a w h=>ih a w h) h
    ·
     exact (hno h).elim
   ·
    rename_i hw
    rw [if_neg hw];exact⟨fun _ _=>trivial,ih _ _ h⟩
theorem region_inRound {id k:Nat}{S:World→Prop}{ds:List Nat}{a:Act}{w:World}(lst:Array Bool)(hm:P.follows .mixedOrders=true)(hn:ops.size=k)(hl:Array.replicate k false=lst)
  (hd:∀ (i:Nat) (o:Oper),ops[i]?=some o→∀ c,o.op≠.defer c) (hno:LetsOut Q→False) (hS:S w.drew) (h:S w.drew→wpAnyLast P .any ops Q S ds k lst a w.drew) :
  (Code.region id ops true).wpIn (Fence.wide.inRound l) n P Q a w:=by
 subst hn;subst hl;refine wpIn_region_draw fun t=>wpOps_inRound hd hno _ _ _ ?_
 simp only [Region.schedule,hm,Bool.true_or,if_true];exact wpAny_sound ops.size t _ a _ (wpAny_of_last _ _ _ _ (h hS))
end
structure Built (w W:World) (n₀ bb:Nat) (bs:List Nat) (A0:Option Addr) (c0:Nat) (o:List S37) (H:List (List S37)) (v:Value):Prop where
 body:W.heap[bb]?=some (.cells #[.slice A0 o.length c0,.pointer (ptrAt bs 0),v] 58 (0,0))
 lo:n₀≤bb
 len:bs.length=H.length
 nd:(bb::bs).Nodup
 ring:∀ j,j<H.length→n₀≤bs.getD j 0∧∃ A c,W.heap[bs.getD j 0]?=some (.cells #[.slice A (H.getD j []).length c,.pointer (ptrAt bs (j+1))] 55 (0,0))∧Kd.C k37 w A (H.getD j []).length (H.getD j [])∧(H.getD j []).length≤c
theorem Built.later {w W W':World}{n₀ bb:Nat}{bs:List Nat}{A0:Option Addr}{c0:Nat}{o:List S37}{H:List (List S37)}{v:Value}(h:Built w W n₀ bb bs A0 c0 o H v)(hb:Below W.heap.size W W'):Built w W' n₀ bb bs A0 c0 o H v:=
 ⟨blk_later h.body hb,h.lo,h.len,h.nd,fun j hj=>by obtain⟨l,A,c,k1,k2,k3⟩:=h.ring j hj;exact⟨l,A,c,blk_later k1 hb,k2,k3⟩⟩
theorem getD_lt {α:Type}{l:List α}{i:Nat}{d:α}(h:i<l.length):l.getD i d=l[i]:=by rw [List.getD_eq_getElem?_getD,List.getElem?_eq_getElem h];rfl
theorem getD_snoc_lt {α:Type}{l:List α}{x d:α}{i:Nat}(h:i<l.length):(l++[x]).getD i d=l.getD i d:=by
 rw [List.getD_eq_getElem?_getD,List.getD_eq_getElem?_getD,List.getElem?_append_left h]
theorem getD_snoc_eq {α:Type}{l:List α}{x d:α}:(l++[x]).getD l.length d=x:=by
 rw [List.getD_eq_getElem?_getD,List.getElem?_append_right (Nat.le_refl _),Nat.sub_self];rfl
theorem ptrAt_snoc_lt {bs:List Nat}{q i:Nat}(h:i<bs.length):ptrAt (bs++[q]) i=ptrAt bs i:=by unfold ptrAt;rw [List.getElem?_append_left h]
theorem ptrAt_snoc_eq {bs:List Nat}{q:Nat}:ptrAt (bs++[q]) bs.length=some ⟨q,0,none⟩:=by unfold ptrAt;rw [List.getElem?_append_right (Nat.le_refl _),Nat.sub_self];rfl
def lastOf (bb:Nat)(bs:List Nat):Nat:=(bb::bs).getD bs.length 0
theorem lastOf_pos {bb:Nat}{bs:List Nat}(h:0<bs.length):lastOf bb bs=bs.getD (bs.length-1) 0:=by
 unfold lastOf;obtain⟨m,hm⟩:∃ m,bs.length=m+1:=⟨bs.length-1,by omega⟩;rw [hm];simp
theorem lastOf_snoc (bb q:Nat)(bs:List Nat):lastOf bb (bs++[q])=q:=by
 unfold lastOf;rw [List.length_append,← List.cons_append];exact getD_snoc_eq (l:=bb::bs)
theorem Built.last_cells {w W:World}{n₀ bb:Nat}{bs:List Nat}{A0:Option Addr}{c0:Nat}{o:List S37}{H:List (List S37)}{v:Value}(h:Built w W n₀ bb bs A0 c0 o H v):
  ∃ (y:Value) (cs:List Value) (t:TypeId),W.heap[lastOf bb bs]?=some (.cells (#[y,.pointer none]++cs.toArray) t (0,0))∧n₀≤lastOf bb bs:=by
 cases bs with
 | nil=>exact⟨_,[v],_,h.body,h.lo⟩
 | cons q qs =>
  have hp:0<(q::qs).length:=by simp
  rw [lastOf_pos hp];have hl:=h.len;obtain⟨l,A,c,k1,_⟩:=h.ring ((q::qs).length-1) (by omega);rw [show (q::qs).length-1+1=(q::qs).length by omega,ptrAt_none (Nat.le_refl _)] at k1;exact⟨_,[],_,k1,l⟩
theorem Built.push {w W:World}{n₀ bb:Nat}{bs:List Nat}{A0:Option Addr}{c0:Nat}{o:List S37}{H:List (List S37)}{v:Value}(h:Built w W n₀ bb bs A0 c0 o H v)(A:Option Addr)(c:Nat)(z:List S37)(hz:Kd.C k37 w A z.length z)(hc:z.length≤c)(hn:n₀≤W.heap.size):
  Built w ((W.alloc (.cells #[.slice A z.length c,.pointer none] 55)).setCell ⟨lastOf bb bs,1,none⟩ (.pointer (some ⟨W.heap.size,0,none⟩))) n₀ bb (bs++[W.heap.size]) A0 c0 o (H++[z]) v:=by
 have hl:=h.len;have hnd:=h.nd;have hblt:∀ j,j<H.length→bs.getD j 0<W.heap.size:=fun j hj=>by obtain⟨_,_,_,k1,_⟩:=h.ring j hj;exact (Array.getElem?_eq_some_iff.1 k1).1
 have hbb:bb<W.heap.size:=(Array.getElem?_eq_some_iff.1 h.body).1;have hq:W.heap.size ∉ bb::bs:=by
  intro hm
  rcases List.mem_cons.1 hm with e | hm
  ·
   omega
  ·
   obtain⟨j,hj,e⟩:=List.getElem_of_mem hm;have:=hblt j (by omega);rw [getD_lt hj,e] at this;omega
 have hlast:lastOf bb bs∈bb::bs:=by
  unfold lastOf;rw [getD_lt (by simp)];exact List.getElem_mem _
 have far:∀ k,k≠lastOf bb bs→∀ ob,W.heap[k]?=some ob→((W.alloc (.cells #[.slice A z.length c,.pointer none] 55)).setCell ⟨lastOf bb bs,1,none⟩ (.pointer (some ⟨W.heap.size,0,none⟩))).heap[k]?=some ob:=fun k hk ob hob=>by
  rw [Below.heap_setCell _ _ _ _ hk];exact blk_alloc' hob _
 refine⟨?_,h.lo,by simp [hl],?_,?_⟩
 ·
  cases bs with
  | nil =>
   have:=blk_put (cs:=#[.slice A0 o.length c0,.pointer none,v]) (blk_alloc' h.body (.cells #[.slice A z.length c,.pointer none] 55)) 1 (.pointer (some ⟨W.heap.size,0,none⟩)) rfl;exact this
  | cons q qs =>
   have e:ptrAt (q::qs++[W.heap.size]) 0=ptrAt (q::qs) 0:=ptrAt_snoc_lt (by simp);rw [e];refine far bb ?_ _ h.body;rw [lastOf_pos (by simp)];intro e2;rw [List.nodup_cons] at hnd;refine hnd.1 ?_;rw [e2,getD_lt (by simp)];exact List.getElem_mem _
 ·
  rw [← List.cons_append,List.nodup_append];exact⟨hnd,by simp,fun a ha b hb=>by simp at hb;subst hb;intro e;subst e;exact hq ha⟩
 ·
  intro j hj;rw [List.length_append] at hj;by_cases hlt:j<H.length
  ·
   obtain⟨l,A1,c1,k1,k2,k3⟩:=h.ring j hlt;rw [getD_snoc_lt hlt,getD_snoc_lt (by omega:j<bs.length)];refine⟨l,A1,c1,?_,k2,k3⟩;by_cases he:j+1=H.length
   ·
    have e1:lastOf bb bs=bs.getD j 0:=by rw [lastOf_pos (by omega)];congr 1;omega
    rw [show j+1=bs.length by omega,ptrAt_snoc_eq,e1];rw [show j+1=bs.length by omega,ptrAt_none (Nat.le_refl _)] at k1;exact blk_put (cs:=#[.slice A1 (H.getD j []).length c1,.pointer none]) (blk_alloc' k1 (.cells #[.slice A z.length c,.pointer none] 55)) 1 (.pointer (some ⟨W.heap.size,0,none⟩)) rfl
   ·
    rw [ptrAt_snoc_lt (by omega)];refine far _ ?_ _ k1;rw [lastOf_pos (by omega)];rw [List.nodup_cons] at hnd;rw [getD_lt (by omega),getD_lt (by omega)];intro e;have:=(List.getElem_inj hnd.2).1 e;omega
  ·
   have e:j=H.length:=by simp at hj;omega
   subst e;rw [getD_snoc_eq,← hl,getD_snoc_eq,ptrAt_none (by simp)];refine⟨hn,A,c,?_,hz,hc⟩;rw [Below.heap_setCell _ _ _ _ (by intro e;simp only at e;rw [← e] at hlast;exact hq hlast)];exact World.alloc_heap_new W _
theorem Built.bodyAt {w W:World}{bb:Nat}{bs:List Nat}{A0:Option Addr}{c0:Nat}{o:List S37}{H:List (List S37)}{v:Value}(h:Built w W w.heap.size bb bs A0 c0 o H v)(hb:Below w.heap.size w W)(ho:Kd.C k37 w A0 o.length o)(hc:o.length≤c0):
  BodyAt W bb bs o H:=
 ⟨⟨A0,c0,(blk_cell h.body 0).trans rfl,(blk_cell h.body 1).trans rfl,Kd.C_below ho hb,hc⟩,h.len,(List.nodup_cons.1 h.nd).2,fun j hj=>by
  obtain⟨l,A,c,k1,k2,k3⟩:=h.ring j hj
  exact⟨A,c,⟨(blk_cell k1 0).trans rfl,(blk_cell k1 1).trans rfl,Kd.C_below k2 hb,k3⟩,k1⟩⟩
def CellsKept (W W':World):Prop:=∀ (k:Nat) (cs:Array Value) (t:TypeId) (fr:Nat × Nat),W.heap[k]?=some (Obj.cells cs t fr)→W'.heap[k]?=some (Obj.cells cs t fr)
theorem CellsKept.grown {W W':World}{row:Option Nat}(hg:W.grownBy W' row)(hr:∀ r,row=some r→∃ o,W.heap[r]?=some o∧o.isCells=false):CellsKept W W':=fun k cs t fr h =>
 (hg.block k (Array.getElem?_eq_some_iff.1 h).1 (fun e=>by obtain⟨o,ho,hc⟩:=hr k e.symm;rw [h] at ho;cases ho;cases hc)).trans h
theorem CellsKept.marks {W W':World}{Ds:List Nat}(hD:∀ D∈Ds,W.heap[D]?=some (.deferred (some [])))(h1:∀ k,k ∉ Ds→W'.heap[k]?=W.heap[k]?):CellsKept W W':=fun k cs t fr h =>
 (h1 k (fun e=>by have:=(hD k e).symm.trans h;cases this)).trans h
theorem CellsKept.below {W W':World}(hb:Below W.heap.size W W'):CellsKept W W':=fun k cs t fr h=>blk_later h hb
theorem Built.kept {w W W':World}{n₀ bb:Nat}{bs:List Nat}{A0:Option Addr}{c0:Nat}{o:List S37}{H:List (List S37)}{v:Value}(h:Built w W n₀ bb bs A0 c0 o H v)(k:CellsKept W W'):Built w W' n₀ bb bs A0 c0 o H v:=
 ⟨k _ _ _ _ h.body,h.lo,h.len,h.nd,fun j hj=>by obtain⟨l,A,c,k1,k2,k3⟩:=h.ring j hj;exact⟨l,A,c,k _ _ _ _ k1,k2,k3⟩⟩
theorem R_kept {α:Type}{d:Kd α}{e:Nat}{W W':World}{base:Nat}{ok:Nat→Prop}{v:Value}{xs:List α}(h:d.R e W base ok v xs)(k:CellsKept W W'):d.R e W' base ok v xs:=
 Kd.R_mono (Kd.R_move (Kd.R_bound h) (fun j hj=>by obtain⟨_,_,_,q,_,cells,hc⟩:=hj;exact (k _ _ _ _ hc).trans hc.symm)) (fun _ hk=>hk.1)
theorem box_kept {W W':World}{B:Nat}{t:TypeId}{v:Value}(h:Boxed W B t v)(k:CellsKept W W'):Boxed W' B t v:=k _ _ _ _ h
theorem R_ne {W:World}{base:Nat}{ok:Nat→Prop}{v:Value}{xs:List S89}(h:Kd.R k89 89 W base ok v xs){g t:Nat}{cs:Array Value}(hg:W.heap[g]?=some (.cells cs t (0,0)))(ht:t≠89):some g≠v.ownBlock:=fun e=>by
 obtain⟨_,inner,ho,_⟩:=h;obtain⟨cells,hc⟩:=own_typed ho g e.symm;rw [hg] at hc;injection hc with hc;injection hc with _ hc;exact ht hc
theorem R_lo {W:World}{base:Nat}{ok:Nat→Prop}{v:Value}{xs:List S89}(h:Kd.R k89 89 W base ok v xs){k:Nat}(hk:v.ownBlock=some k):base≤k:=by
 obtain⟨_,inner,ho,_⟩:=h;exact own_base ho k hk
theorem R_hi {W:World}{base:Nat}{ok:Nat→Prop}{v:Value}{xs:List S89}(h:Kd.R k89 89 W base ok v xs){k:Nat}(hk:v.ownBlock=some k):k<W.heap.size:=by
 obtain⟨_,inner,ho,_⟩:=h;exact own_lt ho k hk
theorem R_nc {W:World}{base:Nat}{ok:Nat→Prop}{v:Value}{xs:List S89}(h:Kd.R k89 89 W base ok v xs){k:Nat}{ob:Obj}(hk:W.heap[k]?=some ob)(hc:ob.isCells=false):some k≠v.ownBlock:=fun e=>by
 obtain⟨_,inner,ho,_⟩:=h;obtain⟨cells,hcs⟩:=own_typed ho k e.symm;rw [hk] at hcs;cases hcs;cases hc
theorem R_body {W:World}{base:Nat}{v:Value}{xs:List S89}{bb:Nat}{cs:Array Value}(h:Kd.R k89 89 W base (fun _=>True) v xs)(hb:W.heap[bb]?=some (.cells cs 58 (0,0)))(u:Value):Kd.R k89 89 (W.setCell ⟨bb,2,none⟩ u) base (fun _=>True) v xs:=
 Kd.R_mono (Kd.R_far (Kd.R_types h hb (by decide)) (fun k hk=>hk.2) u) (fun _ _=>trivial)
theorem Built.rings {w W:World}{n₀ bb:Nat}{bs:List Nat}{A0:Option Addr}{c0:Nat}{o:List S37}{H:List (List S37)}{v:Value}(h:Built w W n₀ bb bs A0 c0 o H v)(ho:Kd.C k37 w A0 o.length o)(i:Nat)(hi:i<(o::H).length):
  ∃ A c,W.cell? ⟨(bb::bs).getD i 0,0,none⟩=some (.slice A ((o::H).getD i []).length c)∧W.cell? ⟨(bb::bs).getD i 0,1,none⟩=some (.pointer (ptrAt (bb::bs) (i+1)))∧Kd.C k37 w A ((o::H).getD i []).length ((o::H).getD i []):=by
 cases i with
 | zero=>exact⟨A0,c0,(blk_cell h.body 0).trans rfl,(blk_cell h.body 1).trans rfl,ho⟩
 | succ i =>
  obtain⟨l,A,c,k1,k2,k3⟩:=h.ring i (by simpa using hi);exact⟨A,c,(blk_cell k1 0).trans rfl,(blk_cell k1 1).trans rfl,k2⟩
theorem Built.put {w W w1:World}{n₀ bb:Nat}{bs:List Nat}{A0:Option Addr}{c0:Nat}{o:List S37}{H:List (List S37)}{v v1:Value}(h:Built w W n₀ bb bs A0 c0 o H v)(hg:W.grownBy w1 v.ownBlock)
  (hne:∀ (g:Nat) (t:TypeId) (cs:Array Value),W.heap[g]?=some (Obj.cells cs t (0,0))→t≠89→some g≠v.ownBlock):Built w (w1.setCell ⟨bb,2,none⟩ v1) n₀ bb bs A0 c0 o H v1:=by
 have hk:∀ (g:Nat) (t:TypeId) (cs:Array Value),W.heap[g]?=some (Obj.cells cs t (0,0))→t≠89→w1.heap[g]?=some (Obj.cells cs t (0,0)):=fun g t cs hgc ht=>(hg.block g (Array.getElem?_eq_some_iff.1 hgc).1 (hne g t cs hgc ht)).trans hgc
 refine⟨blk_put (cs:=#[.slice A0 o.length c0,.pointer (ptrAt bs 0),v]) (hk _ _ _ h.body (by decide)) 2 v1 rfl,h.lo,h.len,h.nd,fun j hj=>?_⟩;obtain⟨l,A,c,k1,k2,k3⟩:=h.ring j hj;refine⟨l,A,c,?_,k2,k3⟩;rw [Below.heap_setCell _ ⟨bb,2,none⟩ _ _ ?_]
 ·
  exact hk _ _ _ k1 (by decide)
 ·
  intro e;have:=h.nd;rw [List.nodup_cons] at this;refine this.1 ?_;rw [← (show bs.getD j 0=bb from e),getD_lt (by rw [h.len];exact hj)];exact List.getElem_mem _
end Go.Proofs.YtailkppkjhkjpaaDoor.X
end
section
set_option linter.unusedVariables false
set_option linter.unusedSimpArgs false
namespace Go.Proofs.YtailkppkjhkjpaaDoor.X
open Go.RowKit Go.Shelf Go.Proofs.YtailkppkjhkjpaaDoorW.PrintWords Go.Proofs.YtailkppkjhkjpaaDoorW.PrintLast Go.Proofs.YtailkppkjhkjpaaDoorW.PrintMore
open Mort (edges segMeet loopOk ptOk inOf)
attribute [local go_sem] Oper.semAt_some
def bodyOkB (o:List S37)(H:List (List S37)):Bool:=
  decide (H.length≤2) && (loopOk (o.map ptP) && (H.all (fun z=>loopOk (z.map ptP)) && (apartAll (o::H) && nestedAll o H)))
def edgesS (z:List S37):List S89:=(List.finRange z.length).map fun (i:Fin z.length)=>edS z (i:Nat)
def allEdges (R:List (List S37)):List S89:=R.flatMap edgesS
theorem allEdges_len {R:List (List S37)}(h:Small R):(allEdges R).length≤8*R.length:=by
  induction R with
  | nil=>simp [allEdges]
  | cons z R ih =>
    have h1:=ih (fun u hu=>h u (List.mem_cons_of_mem _ hu));have h2:=(h z List.mem_cons_self).2;unfold allEdges at h1 ⊢
    rw [List.flatMap_cons,List.length_append];have h3:(edgesS z).length=z.length:=by simp [edgesS]
    rw [h3,List.length_cons];omega
theorem at_row {w:World}{A:Option Addr}{n:Nat}{xs:List (List S37)}(h:Kd.C (Kd.slice 37 k37) w A n xs)(i:Nat)(h1:i<n):
    ∃ ad A0 c0,A=some ad∧w.cell? (ad.add i)=some (.slice A0 (xs.getD i []).length c0)∧(xs.getD i []).length≤c0∧k37.C w A0 (xs.getD i []).length (xs.getD i []):=by
  obtain⟨ad,c,e,_,hK,hc0⟩:=Kd.C_get h ([]:List S37) (i:Int) (by omega) (by omega);have hc:∀ j u,c[j]?=some u→w.cell? (ad.add (i*1+j))=some u:=hc0;obtain⟨A0,c0,rfl,l0,g0⟩:=hK;exact⟨ad,A0,c0,e,by have hq:=hc 0 _ rfl;rwa [Nat.mul_one,Nat.add_zero] at hq,l0,g0⟩
def BodyRes (o:List S37)(H:List (List S37))(w:World)(e:Ending)(w':World):Prop:=
  ∃ b bs v,e=.returned (.tuple #[.pointer (some ⟨b,0,none⟩),.bool true])∧BodyAt w' b bs o H∧w'.cell? ⟨b,2,none⟩=some v∧Kd.R k89 89 w' w.heap.size (fun _=>True) v (allEdges (o::H))∧Below w.heap.size w w'
def NoBody (w:World)(e:Ending)(w':World):Prop:=e=.returned (.tuple #[.pointer none,.bool false])∧Below w.heap.size w w'
def BodyPost (o:List S37)(H:List (List S37))(w:World)(r:Bool)(e:Ending)(w':World):Prop:=(r=true→BodyRes o H w e w')∧(r=false→NoBody w e w')
set_option maxHeartbeats 8000000 in
set_option maxRecDepth 100000 in
theorem bodyOf_calls (A0:Option Addr)(c0:Nat)(o:List S37)(AH:Option Addr)(cH:Nat)(H:List (List S37))(r:Bool)(w:World)(hr0:Kd.C k37 w A0 o.length o)(hc0:o.length≤c0)
    (hr1:Kd.C (Kd.slice 37 k37) w AH H.length H) (hc1:H.length≤cH) (h:bodyOkB o H=r) :
    Calls Tryd.prog 24 #[.agg #[.slice A0 o.length c0,.slice AH H.length cH]] w (BodyPost o H w r):=by
  have HR:=Aside0.mk h;clear h;have hu26:=Tryd.underlying26;refine (callsIn_wide (n:=9)).1 ?_;refine callsIn_of_wp_marks Tryd.func24 rfl trivial ?_ rfl;simp only [Tryd.ntmps24,List.size_toArray,List.length_cons,List.length_nil,Nat.reduceAdd,Nat.reduceSub,Array.replicate_succ,Array.replicate_zero,List.push_toArray,List.append_toArray,List.nil_append,List.cons_append];have bP:=World.alloc_heap_new w (.cells #[.slice A0 o.length c0,.slice AH H.length cH] 26 (0,0));have cP0:(w.alloc (.cells #[.slice A0 o.length c0,.slice AH H.length cH] 26)).cell? ⟨w.heap.size,0,none⟩=some (.slice A0 o.length c0):=(blk_cell bP 0).trans rfl;have cP1:(w.alloc (.cells #[.slice A0 o.length c0,.slice AH H.length cH] 26)).cell? ⟨w.heap.size,1,none⟩=some (.slice AH H.length cH):=(blk_cell bP 1).trans rfl;have hB0:=below_alloc (Below.refl w.heap.size w) (.cells #[.slice A0 o.length c0,.slice AH H.length cH] 26);by_cases h2:2<H.length
  · have b1:decide (2<(H.length:Int))=true:=decide_eq_true (by omega)
    obtain rfl:r=false:=by rw [← HR.out];unfold bodyOkB;rw [decide_eq_false (by omega)];rfl
    gi_wp2;refine⟨trivial,?_⟩;gi_wp2;refine⟨.tuple #[.pointer none,.bool false],?_,fun h=>(by cases h),fun _=>⟨rfl,hB0⟩⟩;simp [results,Tryd.f24,go_sem]
  have b1:decide (2<(H.length:Int))=false:=decide_eq_false (by omega)
  cases hlo:loopOk (o.map ptP) with
  | false =>
    obtain rfl:r=false:=by rw [← HR.out];unfold bodyOkB;rw [hlo];simp
    have HL:impl_LoopOk.f o=some false:=congrArg some hlo;clear hlo;gi_wp2_with (refine⟨trivial,?_⟩;gi_at_call 35;refine (callsIn_wide.2 (impl_LoopOk.calls A0 c0 o false _ (Kd.C_below hr0 hB0) hc0 HL)).mono ?_;rintro e w1 ⟨rfl,hb⟩);refine⟨.tuple #[.pointer none,.bool false],?_,fun h=>(by cases h),fun _=>⟨rfl,below_step hB0 hb⟩⟩;simp [results,Tryd.f24,go_sem]
  | true =>
    have HL:impl_LoopOk.f o=some true:=congrArg some hlo;have HLO:=Aside0.mk hlo;clear hlo;gi_wp2_with (refine⟨trivial,?_⟩;gi_at_call 35;refine (callsIn_wide.2 (impl_LoopOk.calls A0 c0 o true _ (Kd.C_below hr0 hB0) hc0 HL)).mono ?_;rintro e w1 ⟨rfl,hb⟩;have dP0:=pw_cell_below hb cP0;have dP1:=pw_cell_below hb cP1;have dB1:=below_step hB0 hb;have eB:=below_alloc (below_alloc (Below.refl w1.heap.size w1) (.cells #[.slice A0 o.length c0,.pointer none,.slice none 0 0] 58)) (.cells #[.pointer (some ⟨w1.heap.size,0,none⟩)] 47);have eP1:=pw_cell_below eB dP1);have bV:=Boxed.new (w1.alloc (.cells #[.slice A0 o.length c0,.pointer none,.slice none 0 0] 58)) 47 (.pointer (some ⟨w1.heap.size,0,none⟩));simp only [World.size_alloc] at bV;have hBd:Built w ((w1.alloc (.cells #[.slice A0 o.length c0,.pointer none,.slice none 0 0] 58)).alloc (.cells #[.pointer (some ⟨w1.heap.size,0,none⟩)] 47)) w.heap.size w1.heap.size [] A0 c0 o [] (.slice none 0 0):=
      ⟨blk_alloc' (World.alloc_heap_new w1 _) _,dB1.size,rfl,by simp,fun j hj=>by simp at hj⟩
    have hP1:=blk_later (blk_later bP hb) eB;have hB1:=below_step dB1 eB;have hn1:=dB1.size;clear eP1 eB dB1 dP0 dP1 hb bP cP0 cP1 hB0;obtain⟨W1,hW1⟩:∃ W1,(w1.alloc (.cells #[.slice A0 o.length c0,.pointer none,.slice none 0 0] 58)).alloc (.cells #[.pointer (some ⟨w1.heap.size,0,none⟩)] 47)=W1:=⟨_,rfl⟩;rw [hW1] at bV hBd hP1 hB1 ⊢
    clear hW1;generalize w1.heap.size=bb at *;gi_loopw [5,32] (fun v5 v32 wr=>∃ (i lb:Nat),v5=.pointer (some ⟨lb,0,none⟩)∧v32=.int .i64 i∧i≤H.length∧Aside0 (∃ bs,lb=lastOf bb bs∧Built w wr w.heap.size bb bs A0 c0 o (H.take i) (.slice none 0 0)∧Boxed wr (bb+1) 47 (.pointer (some ⟨bb,0,none⟩))∧(∀ z∈H.take i,loopOk (z.map ptP)=true)∧wr.heap[w.heap.size]?=some (.cells #[.slice A0 o.length c0,.slice AH H.length cH] 26 (0,0))∧Below w.heap.size w wr))
      (fun _ v32 _=>H.length-(intOf v32).toNat)
    case atStart=>exact⟨0,bb,rfl,rfl,Nat.zero_le _,⟨[],rfl,by rw [List.take_zero];exact hBd,bV,by simp,hP1,hB1⟩⟩
    case round =>
      obtain⟨i,lb,rfl,rfl,hi,HI⟩:=hrel;obtain⟨bs,hlb,hBd,bV,hok,hP,hB⟩:=HI.out;clear HI hB1;by_cases hlt:i<H.length
      · obtain⟨ad,A',c',hAH,hx,hzc,hzC⟩:=at_row hr1 i hlt
        subst hAH;have hxr:wr.cell? (ad.add i)=some (.slice A' (H.getD i []).length c'):=pw_cell_below hB hx;have hzW:=Kd.C_below hzC hB;have hz:H.getD i []=H[i]:=getD_lt hlt;have htk:H.take (i+1)=H.take i++[H.getD i []]:=by rw [hz];exact List.take_succ_eq_append_getElem hlt
        have hHm:H.getD i []∈H:=by rw [hz];exact List.getElem_mem _
        generalize H.getD i []=z at *;have HT:=a0_ (And.intro htk (And.intro hHm (And.intro hBd (And.intro bV (And.intro hok (And.intro hP (And.intro hB hlb)))))));clear htk hHm hBd bV hok hP hlb hz hx
        cases hlz:loopOk (z.map ptP) with
        | false =>
          obtain rfl:r=false:=by
            rw [← HR.out];unfold bodyOkB;rw [show H.all (fun z=>loopOk (z.map ptP))=false from List.all_eq_false.2 ⟨z,HT.out.2.1,by rw [hlz];simp⟩];simp
          have HZ:impl_LoopOk.f z=some false:=congrArg some hlz;clear hlz;gi_wp2_with (refine⟨trivial,?_⟩;gi_at_call 35;refine (callsIn_wide.2 (impl_LoopOk.calls A' c' z false _ hzW hzc HZ)).mono ?_;rintro e w2 ⟨rfl,hb⟩);refine⟨.tuple #[.pointer none,.bool false],?_,fun h=>(by cases h),fun _=>⟨rfl,below_step hB hb⟩⟩;simp [results,Tryd.f24,go_sem]
        | true =>
          have HZ:impl_LoopOk.f z=some true:=congrArg some hlz;have HLZ:=Aside0.mk hlz;clear hlz;have hlast:∃ (y:Value) (cs:List Value) (t:TypeId),wr.heap[lb]?=some (.cells (#[y,.pointer none]++cs.toArray) t (0,0))∧w.heap.size≤lb:=by
            rw [HT.out.2.2.2.2.2.2.2];exact HT.out.2.2.1.last_cells
          obtain⟨y,cs,t,hobj,hlo⟩:=hlast
          gi_wp2_with (refine⟨trivial,?_⟩;gi_at_call 35;refine (callsIn_wide.2 (impl_LoopOk.calls A' c' z true _ hzW hzc HZ)).mono ?_;rintro e w2 ⟨rfl,hb⟩
                       have hob2:=blk_alloc' (blk_later hobj hb) (.cells #[.slice A' z.length c',.pointer none] 55);have s1:(w2.alloc (.cells #[.slice A' z.length c',.pointer none] 55)).cell? ⟨lb,1,none⟩=some (.pointer none):=(blk_cell hob2 1).trans (by simp);have s2:=blk_frozen hob2 1
                       have s3:((w2.alloc (.cells #[.slice A' z.length c',.pointer none] 55)).setCell ⟨lb,1,none⟩ (.pointer (some ⟨w2.heap.size,0,none⟩))).cell? ⟨lb,1,none⟩=some (.pointer (some ⟨w2.heap.size,0,none⟩)):=World.cell?_setCell_same' _ _ _ (by rw [s1];rfl))
          obtain⟨htk,hHm,hBd,bV,hok,hP,hB',hlb⟩:=HT.out;have hne1:bb+1≠lb:=by
            intro e;have h1:=hobj;rw [← e,show wr.heap[bb+1]?=_ from bV] at h1;have h2:=congrArg (fun (u:Option Obj)=>match u with | some (.cells a _ _)=>a.size | _=>0) h1;simp at h2
          have hne2:w.heap.size≠lb:=by
            intro e;have h1:=hobj;rw [← e,hP] at h1;have h2:=congrArg (fun (u:Option Obj)=>match u with | some (.cells a _ _)=>a[1]? | _=>none) h1;simp at h2
          have hbd2:=(hBd.later hb).push A' c' z hzC hzc (Nat.le_trans hB.size hb.size);rw [← hlb,← htk] at hbd2;refine⟨⟨i+1,w2.heap.size,rfl,by simp,by omega,⟨bs++[w2.heap.size],(lastOf_snoc bb _ bs).symm,hbd2,?_,?_,?_,?_⟩⟩,by simp [intOf];omega⟩
          · exact (Below.heap_setCell _ ⟨lb,1,none⟩ _ _ hne1).trans ((box_later bV hb).alloc _)
          · intro u hu
            rw [htk] at hu
            rcases List.mem_append.1 hu with hu | hu
            · exact hok u hu
            · simp at hu;subst hu;exact HLZ.out
          · rw [Below.heap_setCell _ ⟨lb,1,none⟩ _ _ hne2];exact blk_alloc' (blk_later hP hb) _
          · exact (below_alloc (below_step hB hb) _).setCell (p:=⟨lb,1,none⟩) hlo _
      · obtain rfl:i=H.length:=by omega
        rw [List.take_length] at hBd hok;have hBA:=hBd.bodyAt hB hr0 hc0;have hsm:Small (o::H):=fun z hz=>by
          have:loopOk (z.map ptP)=true:=by
            rcases List.mem_cons.1 hz with e | hz
            · rw [e];exact HLO.out
            · exact hok z hz
          obtain⟨h3,h8,_⟩:=(Mort.loopOk_iff _).1 this;rw [List.length_map] at h3 h8;exact⟨by omega,h8⟩
        have hRr:r=(apartAll (o::H) && nestedAll o H):=by
          rw [← HR.out];unfold bodyOkB;rw [decide_eq_true (by omega),HLO.out,List.all_eq_true.2 hok];rfl
        have HT:=a0_ (And.intro hBd (And.intro hok (And.intro hP (And.intro hB (And.intro hlb (And.intro hBA (And.intro hsm hRr)))))));have cV:=bV.cell;clear hBd hok hP hB hlb hBA hsm hRr HR hlt hi
        cases hap:apartAll (o::H) with
        | false =>
          gi_wp2_with (refine⟨trivial,?_⟩;gi_at_call 57;refine (callsIn_wide.2 (apart_calls bb (o::H) false _ HT.out.2.2.2.2.2.1.rings HT.out.2.2.2.2.2.2.1 hap)).mono ?_;rintro e w2 ⟨rfl,hb⟩);obtain rfl:r=false:=by rw [HT.out.2.2.2.2.2.2.2,hap];rfl
          refine⟨trivial,?_⟩;gi_wp2;refine⟨.tuple #[.pointer none,.bool false],?_,fun h=>(by cases h),fun _=>⟨rfl,below_step HT.out.2.2.2.1 hb⟩⟩;simp [results,Tryd.f24,go_sem]
        | true =>
          cases hne:nestedAll o H with
          | false =>
            gi_wp2_with (first
              | (refine⟨trivial,?_⟩;gi_at_call 57;refine (callsIn_wide.2 (apart_calls bb (o::H) true _ HT.out.2.2.2.2.2.1.rings HT.out.2.2.2.2.2.2.1 hap)).mono ?_;rintro e w2 ⟨rfl,hb⟩;have cV2:=(box_later bV hb).cell)
              | (refine⟨trivial,?_⟩;gi_at_call 58;refine (callsIn_wide.2 (nested_calls bb _ o H false _ (HT.out.2.2.2.2.2.1.later hb) HLO.out HT.out.2.1 hne)).mono ?_;rintro e w3 ⟨rfl,hb2⟩))
            obtain rfl:r=false:=by rw [HT.out.2.2.2.2.2.2.2,hap,hne];rfl
            refine⟨.tuple #[.pointer none,.bool false],?_,fun h=>(by cases h),fun _=>⟨rfl,below_step (below_step HT.out.2.2.2.1 hb) hb2⟩⟩;simp [results,Tryd.f24,go_sem]
          | true =>
            gi_wp2_with (first
              | (refine⟨trivial,?_⟩;gi_at_call 57;refine (callsIn_wide.2 (apart_calls bb (o::H) true _ HT.out.2.2.2.2.2.1.rings HT.out.2.2.2.2.2.2.1 hap)).mono ?_;rintro e w2 ⟨rfl,hb⟩;have cV2:=(box_later bV hb).cell)
              | (refine⟨trivial,?_⟩;gi_at_call 58;refine (callsIn_wide.2 (nested_calls bb _ o H true _ (HT.out.2.2.2.2.2.1.later hb) HLO.out HT.out.2.1 hne)).mono ?_;rintro e w3 ⟨rfl,hb2⟩;have cV3:=(box_later (box_later bV hb) hb2).cell))
            have hw3:=below_step (below_step HT.out.2.2.2.1 hb) hb2;have hBd3:=(HT.out.1.later hb).later hb2;have bV3:=box_later (box_later bV hb) hb2;have hr:r=true:=by rw [HT.out.2.2.2.2.2.2.2,hap,hne];rfl
            subst hr;have hLen:=HT.out.2.2.2.2.2.2.1;clear hb hb2 cV3 bV hap hne cV
            obtain⟨I,hI⟩:∃ I:Act→World→Prop,Aside0 (I=fun a W=>∃ (i:Nat) (x61 x62 x63 x64 x65 x66 x67 x68 x69 x70 x71:Value) (Ds:List Nat),a={ tmps:=#[.agg #[.slice A0 o.length c0,.slice AH H.length cH],.pointer (some ⟨w.heap.size,0,none⟩),u2,u3,.pointer (some ⟨bb+1,0,none⟩),.pointer (some ⟨lb,0,none⟩),undef,u7,.pointer (ptrAt (bb::bs) i),undef,undef,.pointer (some ⟨w.heap.size,1,none⟩),.slice AH H.length cH,.int .i64 (H.length:Int),.bool false,.bool false,.pointer (some ⟨w.heap.size,0,none⟩),.slice A0 o.length c0,.bool true,.bool false,.bool false,.pointer (some ⟨w.heap.size,0,none⟩),.slice A0 o.length c0,.agg #[.slice A0 o.length c0,.pointer none],.agg #[.slice A0 o.length c0,.pointer none,.slice none 0 0],.pointer (some ⟨bb,0,none⟩),.pointer (some ⟨bb,0,none⟩),.pointer (some ⟨bb,0,none⟩),.pointer (some ⟨bb,0,none⟩),.pointer (some ⟨w.heap.size,1,none⟩),.slice AH H.length cH,.int .i64 (H.length:Int),.int .i64 (H.length:Int),.bool false,u34,u35,u36,u37,u38,u39,u40,u41,u42,u43,u44,u45,u46,u47,u48,u49,.pointer (some ⟨bb,0,none⟩),.bool true,.bool false,.bool false,.pointer (some ⟨bb,0,none⟩),.bool true,.bool false,.bool false,.pointer (some ⟨bb,0,none⟩),.pointer (some ⟨bb,0,none⟩),.pointer (some ⟨bb,0,none⟩),x61,x62,x63,x64,x65,x66,x67,x68,x69,x70,x71,undef,undef,undef,undef,undef,undef,undef,undef,undef,undef,undef,undef,undef],defers:=Ds.map mark } ∧
              (∃ v,i≤(o::H).length∧Ds.length=i∧Ds.Nodup∧(∀ D∈Ds,W.heap[D]?=some (.deferred (some []))∧w.heap.size≤D)∧Built w W w.heap.size bb bs A0 c0 o H v∧Kd.R k89 89 W w.heap.size (fun _=>True) v (allEdges ((o::H).take i))∧Boxed W (bb+1) 47 (.pointer (some ⟨bb,0,none⟩))∧Below w.heap.size w W)):=⟨_,⟨rfl⟩⟩
            obtain⟨μ,hμ⟩:∃ μ:Act→World→Nat,Aside0 (μ=fun a _=>(H.length+2)-a.defers.length):=⟨_,⟨rfl⟩⟩;refine wpIn_loop I μ ?_ ?_
            · rw [hI.out]
              exact⟨0,_,_,_,_,_,_,_,_,_,_,_,[],rfl,_,Nat.zero_le _,rfl,by simp,by simp,hBd3,by rw [List.take_zero];exact Kd.R_nil _ _ _ _ _,bV3,hw3⟩
            · intro a W hIa
              rw [hI.out] at hIa;obtain⟨i,x61,x62,x63,x64,x65,x66,x67,x68,x69,x70,x71,Ds,rfl,v,hi,hDl,hDn,hDs,hBd,hE,bV,hB⟩:=hIa;clear hBd3 bV3 hw3;by_cases hlt:i<(o::H).length
              · obtain⟨Az,cz,q1,q2,hz⟩:=hBd.rings hr0 i hlt
                have hzm:(o::H).getD i []∈o::H:=by rw [getD_lt hlt];exact List.getElem_mem _
                have hzs:=hLen _ hzm;have htk:(o::H).take (i+1)=(o::H).take i++[(o::H).getD i []]:=by rw [getD_lt hlt];exact List.take_succ_eq_append_getElem hlt
                have hlen2:(bb::bs).length=(o::H).length:=by simp [hBd.len]
                rw [ptrAt_some (by rw [hlen2];exact hlt)];have hzl:=row_lt hz hzs.1;have HT2:=a0_ (And.intro htk (And.intro hi (And.intro hDl (And.intro hDn hlen2))));clear htk hzm hi hDl hlen2;generalize hzz:(o::H).getD i []=z at *;generalize hrb:(bb::bs).getD i 0=rb at *;have hrb':=Aside0.mk hrb;have hzz':=Aside0.mk hzz;clear hrb hzz;gi_wp2_with (refine⟨trivial,?_⟩;gi_at_call 59;refine (edges_in _ _ _ _ _).mono ?_;rintro e w' ⟨rfl,rfl⟩);have bN:=Boxed.new W 23 (.slice Az z.length cz);have hal:=below_alloc (Below.refl W.heap.size W) (.cells #[.slice Az z.length cz] 23);have hBd4:=hBd.later hal;have hE4:=R_kept hE (CellsKept.below hal);have bV4:=box_later bV hal;have hB4:=below_step hB hal;have hDs4:∀ D∈Ds,(W.alloc (.cells #[.slice Az z.length cz] 23)).heap[D]?=some (.deferred (some []))∧w.heap.size≤D:=fun D hD=>⟨blk_later (hDs D hD).1 hal,(hDs D hD).2⟩
                have hDlt:∀ D∈Ds,D<W.heap.size:=fun D hD=>(Array.getElem?_eq_some_iff.1 (hDs D hD).1).1
                have hsz4:(W.alloc (.cells #[.slice Az z.length cz] 23)).heap.size=W.heap.size+1:=by simp
                have hWn:=hB.size;have hnxt:=q2;clear hBd hE bV hDs;obtain⟨W4,hW4⟩:∃ W4,W.alloc (.cells #[.slice Az z.length cz] 23)=W4:=⟨_,rfl⟩;have q24:=pw_cell_below hal q2;rw [hW4] at bN hBd4 hE4 bV4 hB4 hDs4 hsz4 q24 ⊢
                clear hW4 hal;obtain⟨Bc,hBc⟩:∃ Bc,W.heap.size=Bc:=⟨_,rfl⟩;rw [hBc] at bN hsz4 hWn hDlt ⊢
                refine wpIn_rangeFunc_ownH rfl (by omega) (gf:=81) (lb:=#[.pointer (some ⟨Bc,0,none⟩)]) rfl trivial (enters_of Tryd.func81 (by kernel_rfl) rfl)
                  (edges_stops 8 (by omega) Bc w.heap.size Az cz z (by omega) hzl W4 (by omega) (by omega) bN.cell (Kd.C_below hz hB4)) (fun h k=>KpE.trans h k) (fun W l o o' hl _ _ _=>KpE.putObj W l o' (by omega) (by omega)) (Below.refl _ _) (fun _=>rfl)
                  (fun pre W'=>∃ v',Built w W' w.heap.size bb bs A0 c0 o H v'∧Kd.R k89 89 W' w.heap.size (fun _=>True) v' (allEdges ((o::H).take i)++pre.map fun (j:Fin z.length)=>edS z (j:Nat))∧Boxed W' (bb+1) 47 (.pointer (some ⟨bb,0,none⟩))∧Boxed W' Bc 23 (.slice Az z.length cz)∧(∀ D∈Ds,W'.heap[D]?=some (.deferred (some []))∧w.heap.size≤D)∧Below w.heap.size w W')
                  (fun _ _ _=>False)
                  (fun pre X Y row hs hg hr=>by
                    obtain⟨v',e1,e2,e3,e4,e5,e6⟩:=hs;have hk:=CellsKept.grown hg (fun r e=>(hr r e).2);refine⟨v',e1.kept hk,R_kept e2 hk,box_kept e3 hk,box_kept e4 hk,fun D hD=>⟨(hg.block D (Array.getElem?_eq_some_iff.1 (e5 D hD).1).1 (fun e=>?_)).trans (e5 D hD).1,(e5 D hD).2⟩,e6.grown hg e6.size (fun r e=>by have:=(hr r e).1;omega)⟩;have h1:=(hr D e.symm).1;have h2:=hDlt D hD
                    omega)
                  (fun _ _ _ _ _ hs _ _=>hs)
                  ⟨v,hBd4,by simpa using hE4,bV4,bN,hDs4,hB4⟩
                  (fun y a' W'=>∃ Bt,(W'.heap[Bt]?=some (segObj (edS z y))∧∃ v',W'.cell? ⟨bb,2,none⟩=some v'∧some Bt≠v'.ownBlock)∧a'={ tmps:=#[.agg #[.slice A0 o.length c0,.slice AH H.length cH],.pointer (some ⟨w.heap.size,0,none⟩),u2,u3,.pointer (some ⟨bb+1,0,none⟩),.pointer (some ⟨lb,0,none⟩),undef,u7,.pointer (some ⟨rb,0,none⟩),undef,.pointer (some ⟨Bt,0,none⟩),.pointer (some ⟨w.heap.size,1,none⟩),.slice AH H.length cH,.int .i64 (H.length:Int),.bool false,.bool false,.pointer (some ⟨w.heap.size,0,none⟩),.slice A0 o.length c0,.bool true,.bool false,.bool false,.pointer (some ⟨w.heap.size,0,none⟩),.slice A0 o.length c0,.agg #[.slice A0 o.length c0,.pointer none],.agg #[.slice A0 o.length c0,.pointer none,.slice none 0 0],.pointer (some ⟨bb,0,none⟩),.pointer (some ⟨bb,0,none⟩),.pointer (some ⟨bb,0,none⟩),.pointer (some ⟨bb,0,none⟩),.pointer (some ⟨w.heap.size,1,none⟩),.slice AH H.length cH,.int .i64 (H.length:Int),.int .i64 (H.length:Int),.bool false,u34,u35,u36,u37,u38,u39,u40,u41,u42,u43,u44,u45,u46,u47,u48,u49,.pointer (some ⟨bb,0,none⟩),.bool true,.bool false,.bool false,.pointer (some ⟨bb,0,none⟩),.bool true,.bool false,.bool false,.pointer (some ⟨bb,0,none⟩),.pointer (some ⟨bb,0,none⟩),.pointer (some ⟨bb,0,none⟩),.pointer (some ⟨rb,0,none⟩),.bool true,x63,x64,x65,x66,.pointer (some ⟨rb,0,none⟩),.pointer (some ⟨rb,0,none⟩),.pointer (some ⟨rb,0,none⟩),.slice Az z.length cz,.func (.func 81) #[] #[.pointer (some ⟨Bc,0,none⟩)],.int .i64 ((y:Nat):Int),.agg #[.int .i64 (edS z y).f0.f0,.int .i64 (edS z y).f0.f1,.int .i64 (edS z y).f1.f0,.int .i64 (edS z y).f1.f1],undef,undef,undef,undef,undef,undef,undef,undef,undef,undef,undef],defers:=[] })
                  (fun y a' _ X Y row hs hg hr=>by obtain⟨Bt,⟨e2,v',e4,e5⟩,e3⟩:=hs;exact⟨Bt,⟨segObj_own Bt (edS z y) () X Y row e2 hg (fun r e=>(hr r e).2),v',cell_kept e4 hg (fun r e=>(hr r e).2),e5⟩,e3⟩)
                  ?assign ?body ?done ?stop
                case assign =>
                  rintro l pre y W' K ⟨v',e1,e2,e3,e4,e5,e6⟩ hK;dsimp only [encE,edV];gi_wp2;have hk:=CellsKept.below (below_alloc (Below.refl W'.heap.size W') (segObj (edS z y)));exact hK _ _ ((KeepsOthers.alloc _ _).from _) (KpE.alloc _ _ _ _) ⟨v',e1.kept hk,R_kept e2 hk,box_kept e3 hk,box_kept e4 hk,fun D hD=>⟨blk_alloc' (e5 D hD).1 _,(e5 D hD).2⟩,below_alloc e6 _⟩ ⟨W'.heap.size,⟨World.alloc_heap_new W' _,v',(blk_cell (e1.kept hk).body 2).trans rfl,fun e=>by have:=R_hi e2 e.symm;omega⟩,rfl⟩
                case body =>
                  rintro l pre y a' W5 hl ⟨rr,hrr⟩ ⟨v',hBd5,hE5,bV5,bN5,hDs5,hB5⟩ ⟨Bt,⟨bT,v'',hv1,hv2⟩,rfl⟩ hlt5;have hBtn:some Bt≠v'.ownBlock:=by
                    have h1:W5.cell? ⟨bb,2,none⟩=some v':=(blk_cell hBd5.body 2).trans rfl;rw [h1] at hv1;cases hv1;exact hv2
                  clear hv1 hv2;have t0:W5.drew.cell? ⟨bb+1,0,none⟩=some (.pointer (some ⟨bb,0,none⟩)):=bV5.cell;have t1:W5.drew.cell? ⟨bb,2,none⟩=some v':=(blk_cell hBd5.body 2).trans rfl;have t2:W5.drew.cell? ⟨Bt,0,none⟩=some (.int .i64 (edS z y).f0.f0):=(blk_cell bT 0).trans rfl;have t3:W5.drew.cell? ⟨Bt,1,none⟩=some (.int .i64 (edS z y).f0.f1):=(blk_cell bT 1).trans rfl;have t4:W5.drew.cell? ⟨Bt,2,none⟩=some (.int .i64 (edS z y).f1.f0):=(blk_cell bT 2).trans rfl;have t5:W5.drew.cell? ⟨Bt,3,none⟩=some (.int .i64 (edS z y).f1.f1):=(blk_cell bT 3).trans rfl;have hal:=below_alloc (Below.refl W5.drew.heap.size W5.drew) (.cells #[.int .i64 (edS z y).f0.f0,.int .i64 (edS z y).f0.f1,.int .i64 (edS z y).f1.f0,.int .i64 (edS z y).f1.f1] 89);have hroom:((allEdges ((o::H).take i)++pre.map fun (j:Fin z.length)=>edS z (j:Nat)).length+1)*32≤140737488355328:=by
                    have h1:=allEdges_len (R:=(o::H).take i) (fun u hu=>hLen u (List.mem_of_mem_take hu));have h2:((o::H).take i).length≤3:=by
                      rw [List.length_take];simp only [List.length_cons];omega
                    rw [List.length_append,List.length_map];omega
                  have hu57:=Tryd.underlying56;have hu61:=Tryd.underlying89;gi_wp2;refine region_inRound (l:=l) (S:=fun w'=>w'.cell? ⟨bb+1,0,none⟩=some (.pointer (some ⟨bb,0,none⟩))∧w'.cell? ⟨bb,2,none⟩=some v'∧w'.cell? ⟨Bt,0,none⟩=some (.int .i64 (edS z y).f0.f0)∧w'.cell? ⟨Bt,1,none⟩=some (.int .i64 (edS z y).f0.f1)∧w'.cell? ⟨Bt,2,none⟩=some (.int .i64 (edS z y).f1.f0)∧w'.cell? ⟨Bt,3,none⟩=some (.int .i64 (edS z y).f1.f1)) (ds:=[10]) (bm 11 0) (by kernel_rfl) rfl rfl ?hd ?hno ⟨t0,t1,t2,t3,t4,t5⟩ (fun hHeld=>?_)
                  case hd =>
                    intro k ob hk c hc;have:=Array.mem_of_getElem? hk;simp only [List.mem_toArray,List.mem_cons,List.not_mem_nil,or_false] at this
                    rcases this with h | h | h | h | h | h | h | h | h | h | h <;> (rw [h] at hc;cases hc)
                  case hno=>exact fun⟨a,w,h⟩=>h.elim
                  refine tb6_ 0 74 (bm 11 1) hHeld ?_;refine tb6_ 1 75 (bm 11 3) hHeld ?_;refine pv_ 2 76 (bm 11 7) ?_;refine pv_ 3 77 (bm 11 15) ?_;refine tb6_ 4 78 (bm 11 31) hHeld ?_;refine tb6_ 5 79 (bm 11 63) hHeld ?_;refine one_ (i:=6) (N:=some 80) (bm 11 127) rfl rfl (by kernel_rfl) (by decide) (fun K hK=>?_);refine value_ (w1:=?_) (v:=?_) (by rfl) rfl ?_ ?_;rotate_left 2
                  · go_simp
                    constructor
                    · rfl
                    · rfl
                  refine hK.out _ _ ⟨pw_cell_below hal t0,pw_cell_below hal t1,pw_cell_below hal t2,pw_cell_below hal t3,pw_cell_below hal t4,pw_cell_below hal t5⟩ (fun hHeld=>?_);clear hK K;refine no_ (h:=?_);refine one_ (i:=7) (N:=some 81) (bm 11 255) rfl rfl (by kernel_rfl) (by decide) (fun K hK=>?_);refine Kd.R_append_step k89 (w0:=w) w.heap.size (by rfl) (.tmp 78) (.tmp 80) 56 89 (.agg #[(.int .i64 0),(.int .i64 0),(.int .i64 0),(.int .i64 0)]) 32 rfl Tryd.underlying56 info89 rfl (by decide) (by omega) v' (allEdges ((o::H).take i)++pre.map fun (j:Fin z.length)=>edS z (j:Nat)) (edS z y) [.int .i64 (edS z y).f0.f0,.int .i64 (edS z y).f0.f1,.int .i64 (edS z y).f1.f0,.int .i64 (edS z y).f1.f1] (fun _=>True) (fun _=>False) rfl rfl ?aP (fun _ hk=>hk.elim) (fun _ _=>trivial) (R_kept hE5 (CellsKept.below (below_drew1 (Below.refl _ W5)))) (below_drew1 hB5) (show w.heap.size≤W5.heap.size from hB5.size) ?aL ?_
                  (case aP=>exact k89_mkM _ _ _ (edS z y))
                  (case aL=>exact hroom)
                  intro v1 w6 ho hb6 hg6 hat6;have hne6:∀ (g:Nat) (t:TypeId) (cs:Array Value),W5.drew.heap[g]?=some (Obj.cells cs t (0,0))→t≠89→some g≠v'.ownBlock:=fun g t cs hgc ht=>R_ne hE5 (g:=g) (t:=t) (cs:=cs) hgc ht
                  have keep6:∀ (g:Nat) (t:TypeId) (cs:Array Value),W5.heap[g]?=some (Obj.cells cs t (0,0))→t≠89→w6.heap[g]?=some (Obj.cells cs t (0,0)):=fun g t cs hgc ht=>(hg6.block g (Array.getElem?_eq_some_iff.1 hgc).1 (hne6 g t cs hgc ht)).trans hgc
                  have hbd6:=keep6 _ _ _ hBd5.body (by decide);obtain⟨Aw,cw,ew⟩:=Kd.R_slice ho;generalize (allEdges ((o::H).take i)++(pre.map fun (j:Fin z.length)=>edS z (j:Nat))++[edS z y]).length=n6 at ew;subst ew;have u2:w6.cell? ⟨bb,2,none⟩=some v':=(blk_cell hbd6 2).trans rfl;have u3:=blk_frozen hbd6 2;have hbt6:=(hg6.block Bt (Array.getElem?_eq_some_iff.1 bT).1 hBtn).trans bT;have hbv6:=keep6 _ _ _ bV5 (by decide);refine hK.out _ _ ⟨(blk_cell hbv6 0).trans rfl,u2,(blk_cell hbt6 0).trans rfl,(blk_cell hbt6 1).trans rfl,(blk_cell hbt6 2).trans rfl,(blk_cell hbt6 3).trans rfl⟩ (fun hHeld=>?_);clear hK K;refine no_ (h:=?_);refine pv_ 8 82 (bm 11 511) ?_;refine pv_ 9 83 (bm 11 1023) ?_;refine last_ (i:=10) (N:=none) (bm 11 2047) rfl rfl (by kernel_rfl) (by decide) (fun K hK=>?_);refine skip_ (w1:=?_) (by rfl) rfl ?_ ?_;rotate_left
                  · go_simp
                    rfl
                  refine hK.out _ _ ?_;clear hK K;refine done_ (by kernel_rfl) ?_;have nonc:∀ (k:Nat) (ob:Obj),W5.heap[k]?=some ob→ob.isCells=false→(w6.setCell ⟨bb,2,none⟩ (.slice Aw n6 cw)).heap[k]?=some ob:=fun k ob h1 h2=>by
                    rw [Below.heap_setCell _ ⟨bb,2,none⟩ _ k (by rintro rfl;have e:=h1.symm.trans hBd5.body;cases e;cases h2)];exact (hg6.block k (Array.getElem?_eq_some_iff.1 h1).1 (R_nc hE5 h1 h2)).trans h1
                  have hBcb:Bc≠bb:=by
                    intro e;have h1:=bN5;rw [e] at h1;have h2:=congrArg (fun (u:Option Obj)=>match u with | some (Obj.cells _ t _)=>t | _=>0) ((show W5.heap[bb]?=_ from h1).symm.trans hBd5.body);exact absurd (show (23:Nat)=58 from h2) (by decide)
                  have hsz6:W5.heap.size≤(w6.setCell ⟨bb,2,none⟩ (.slice Aw n6 cw)).heap.size:=by simp only [World.setCell,Array.size_modify];exact hg6.size
                  refine⟨⟨hsz6,fun k ob _ h1 h2=>nonc k ob h1 h2⟩,⟨hsz6,fun k hk hl5=>?_⟩,_,(hBd5.kept (CellsKept.below (below_drew1 (Below.refl W5.heap.size W5)))).put hg6 hne6,?_,?_,?_,fun D hD=>⟨nonc D _ (hDs5 D hD).1 rfl,(hDs5 D hD).2⟩,hb6.setCell (p:=⟨bb,2,none⟩) hBd5.lo _⟩
                  · have hkb:k≠bb:=by
                      rcases hk with hk | rfl
                      · have:=hBd5.lo;omega
                      · exact hBcb
                    rw [Below.heap_setCell _ ⟨bb,2,none⟩ _ k hkb];refine hg6.block k hl5 ?_
                    rcases hk with hk | rfl
                    · intro e;have:=R_lo hE5 e.symm;omega
                    · exact hne6 k _ _ bN5 (by decide)
                  · have:=R_body ho hbd6 (.slice Aw n6 cw)
                    rw [List.map_append,← List.append_assoc];exact this
                  · exact (Below.heap_setCell _ ⟨bb,2,none⟩ _ (bb+1) (by simp)).trans hbv6
                  · exact (Below.heap_setCell _ ⟨bb,2,none⟩ _ Bc hBcb).trans (keep6 _ _ _ bN5 (by decide))
                case done =>
                  rintro D ys W6 hD rfl ⟨v',hBd6,hE6,bV6,bN6,hDs6,hB6⟩ hK6;obtain⟨_,_,_,r2,_⟩:=hBd6.rings hr0 i hlt;rw [hrb'.out] at r2;gi_wp2;obtain⟨k1,k2,k3,k4,k5⟩:=HT2.out;rw [hI.out,hμ.out];refine⟨⟨i+1,_,_,_,_,_,_,_,_,_,_,_,D::Ds,rfl,v',by simp only [List.length_cons] at hlt ⊢;omega,by simp [k3],?_,?_,hBd6,?_,bV6,hB6⟩,?_⟩
                  · rw [List.nodup_cons]
                    exact⟨fun hm=>by have:=hDlt D hm;omega,k4⟩
                  · intro E hE
                    rcases List.mem_cons.1 hE with rfl | hE
                    · exact⟨hK6,by omega⟩
                    · exact hDs6 E hE
                  · rw [k1]
                    unfold allEdges at hE6 ⊢
                    rw [List.flatMap_append]
                    simpa [edgesS] using hE6
                  · simp only [List.length_cons] at hlt
                    simp only [List.length_cons,List.length_map];omega
                case stop =>
                  rintro D c pre W6 _ _ h _;exact h.elim
              · have hiR:i=(o::H).length:=by omega
                have hlen2:(bb::bs).length=(o::H).length:=by simp [hBd.len]
                rw [ptrAt_none (by omega)];have hba:=hBd.bodyAt hB hr0 hc0;rw [hiR,List.take_length] at hE;have cV:=bV.cell;clear hlt hiR hi hDl hlen2;gi_wp2;have hD1:∀ D∈Ds,W.heap[D]?=some (.deferred (some [])):=fun D hD=>(hDs D hD).1
                refine leavesM_marks Ds W hDn hD1 (fun w' h1 h2 h3 h4 h5=>?_);have hk:=CellsKept.marks hD1 h1;have hBd':=hBd.kept hk;have hB':=marks_below hB (fun D hD=>(hDs D hD).2) h1 h2 h3 h4 h5;refine⟨.tuple #[.pointer (some ⟨bb,0,none⟩),.bool true],?_,fun _=>⟨bb,bs,v,rfl,hBd'.bodyAt hB' hr0 hc0,(blk_cell hBd'.body 2).trans rfl,R_kept hE hk,hB'⟩,fun h=>(by cases h)⟩;simp [results,Tryd.f24,go_sem]
end Go.Proofs.YtailkppkjhkjpaaDoor.X
end
section
set_option linter.unusedVariables false
set_option linter.unusedSimpArgs false
namespace Go.Proofs.YtailkppkjhkjpaaDoor.X
open Go.RowKit Go.Shelf Go.Proofs.YtailkppkjhkjpaaDoorW.PrintWords Go.Proofs.YtailkppkjhkjpaaDoorW.PrintLast Go.Proofs.YtailkppkjhkjpaaDoorW.PrintMore
open Mort (edges segMeet loopOk ptOk inOf segOk)
def impl_PlateOk.f (l0_0:List S37)(l0_1:List (List S37)):Option Bool:=some (bodyOkB l0_0 l0_1)
theorem bodyOkB_iff (o:List S37)(H:List (List S37)):bodyOkB o H=true ↔ H.length≤2∧loopOk (o.map ptP)=true∧(∀ z∈H,loopOk (z.map ptP)=true)∧apartAll (o::H)=true∧nestedAll o H=true:=by
 unfold bodyOkB;simp only [Bool.and_eq_true,decide_eq_true_eq,List.all_eq_true]
theorem loop_len {z:List S37}(h:loopOk (z.map ptP)=true):3≤z.length∧z.length≤8:=by
 obtain⟨h1,h2,_⟩:=(Mort.loopOk_iff _).1 h
 simpa using And.intro h1 h2
section
variable (A0_0:Option Addr) (c0_0:Nat) (l0_0:List S37) (A0_1:Option Addr) (c0_1:Nat) (l0_1:List (List S37))
set_option maxHeartbeats 4000000 in
set_option maxRecDepth 100000 in
theorem impl_PlateOk.calls (r:Bool)(w:World)(hr0_0:Kd.C k37 w A0_0 l0_0.length l0_0)(hc0_0:l0_0.length≤c0_0)(hr0_1:Kd.C (Kd.slice 37 k37) w A0_1 l0_1.length l0_1)(hc0_1:l0_1.length≤c0_1)(h:impl_PlateOk.f l0_0 l0_1=some r):
  Calls Tryd.prog 34 #[.agg #[.slice A0_0 l0_0.length c0_0,.slice A0_1 l0_1.length c0_1]] w fun e w'=>e=.returned (.bool r)∧Below w.heap.size w w':=by
 have hu26:=Tryd.underlying26;have hb:bodyOkB l0_0 l0_1=r:=Option.some.inj h;clear h;have hal:=below_alloc (Below.refl w.heap.size w) (.cells #[.slice A0_0 l0_0.length c0_0,.slice A0_1 l0_1.length c0_1] 26);have HK:=a0_ (And.intro (Kd.C_below hr0_0 hal) (And.intro hc0_0 (And.intro (Kd.C_below hr0_1 hal) (And.intro hc0_1 (And.intro hb hal)))));clear hr0_0 hc0_0 hr0_1 hc0_1 hal
 cases r with
 | false =>
  clear hb;go_enter Tryd.func34,Tryd.ntmps34;go_wp2_with (go_at_call 24;refine (bodyOf_calls A0_0 c0_0 l0_0 A0_1 c0_1 l0_1 false _ HK.out.1 HK.out.2.1 HK.out.2.2.1 HK.out.2.2.2.1 HK.out.2.2.2.2.1).mono ?_;rintro e w1 ⟨_,hN⟩;obtain⟨rfl,hb1⟩:=hN rfl);go_ret;exact⟨rfl,below_step HK.out.2.2.2.2.2 hb1⟩
 | true =>
  clear hb;go_enter Tryd.func34,Tryd.ntmps34;go_wp2_with (go_at_call 24;refine (bodyOf_calls A0_0 c0_0 l0_0 A0_1 c0_1 l0_1 true _ HK.out.1 HK.out.2.1 HK.out.2.2.1 HK.out.2.2.2.1 HK.out.2.2.2.2.1).mono ?_;rintro e w1 ⟨hN,_⟩;obtain⟨b,bs,v,rfl,hBA,hcell,hR,hb1⟩:=hN rfl);go_ret;exact⟨rfl,below_step HK.out.2.2.2.2.2 hb1⟩
end
end Go.Proofs.YtailkppkjhkjpaaDoor.X
end
section
set_option linter.unusedVariables false
set_option linter.unusedSimpArgs false
namespace Go.Proofs.YtailkppkjhkjpaaDoor.X
open Go.RowKit Go.Shelf Go.Proofs.YtailkppkjhkjpaaDoorW.PrintWords Go.Proofs.YtailkppkjhkjpaaDoorW.PrintLast Go.Proofs.YtailkppkjhkjpaaDoorW.PrintMore
open Txt (cutAt)
set_option maxHeartbeats 1000000 in
theorem split_any {P:Program}{ρ:Ren}(L:Lays.n146 P ρ)(hi9:(P.info? (ρ.t 9)).map (fun i=>(i.zero,i.size,i.bytes))=some (some (.string ByteArray.empty),1,16))(s:ByteArray)(c:UInt8)(w:World)(hs:s.size<4294967281):
  Calls P (ρ.f 146) #[.string s,.string ⟨#[c]⟩] w fun e w'=>e=.returned (.slice (some ⟨w.heap.size,0,none⟩) (Lib.countB s ⟨#[c]⟩+1) (Lib.countB s ⟨#[c]⟩+1))∧w'=w.alloc (.cells ((Lib.splitB ⟨#[c]⟩ 0 (Lib.countB s ⟨#[c]⟩) s).map Value.string).toArray (ρ.t 9)):=by
 have h1:1≤(⟨#[c]⟩:ByteArray).size:=Nat.le_refl 1;have hlen:=Lib.splitB_all ⟨#[c]⟩ h1 0 _ s rfl;have hle:=Lib.countB_le ⟨#[c]⟩ h1 s.size s (Nat.le_refl _);have hC:Calls P (ρ.f 138) #[.string s,.string ⟨#[c]⟩] w fun e w'=>e=.returned (.int .i64 (Lib.countB s ⟨#[c]⟩))∧w'=w:=by
  refine (Any.strings_Count_one { L with } s c w).mono fun e w' ⟨he,hw⟩=>⟨he.trans ?_,hw⟩
  show _=Ending.returned (Value.int .i64 ((Lib.count s.data.toList [c]:Nat):Int))
  rw [Lib.count_one];rfl
 have K:=Any.strings_genSplit_core { L with } hi9 s ⟨#[c]⟩ 0 (-1) (Lib.countB s ⟨#[c]⟩+1) w hs h1 (Nat.zero_le _)
  (fun x cs _=>(Any.strings_Index_one { L with } x c _).mono fun e w' ⟨he,hw⟩=>⟨he.trans (congrArg (fun z=>Ending.returned (Value.int .i64 z)) (Lib.index_one x.data.toList c).symm),hw⟩) hC (by decide) (by decide) (by rw [if_pos (by decide)];omega)
 rw [Nat.add_sub_cancel,hlen] at K;have e2:Lib.cellsOf (Lib.splitB ⟨#[c]⟩ 0 (Lib.countB s ⟨#[c]⟩) s) (Lib.countB s ⟨#[c]⟩+1)=((Lib.splitB ⟨#[c]⟩ 0 (Lib.countB s ⟨#[c]⟩) s).map Value.string).toArray:=by rw [← hlen];exact Lib.cellsOf_full _
 rw [e2] at K;have t3:=L.t3;have t9:=L.t9;have t31:=L.t31;have a3:=L.a3;have a9:=L.a9;have a31:=L.a31;have z3:=L.z3;have v3:=L.v3;have z9:=L.z9;have v9:=L.v9;have z31:=L.z31;have v31:=L.v31;have e221:∀ args w,(callFunc (ρ.f 221) args).run P w=.ok (.enter (ρ.f 221) args) w:=enters_of L.f221 (by kernel_rfl) rfl;go_enter L.f146,Body.n146_ntmps ρ;go_wp2_with (go_at_fn (ρ.f 221);refine K.mono ?_;rintro e w' ⟨rfl,hw⟩;rw [hw]);go_ret;exact⟨rfl,rfl⟩
def cutB (c:UInt8)(s:ByteArray):List ByteArray:=(cutAt c s.data.toList).map fun l=>⟨l.toArray⟩
theorem splitB_cut (c:UInt8)(s:ByteArray):Lib.splitB ⟨#[c]⟩ 0 (Lib.countB s ⟨#[c]⟩) s=cutB c s:=by
 have h:=Lib.splitB_data ⟨#[c]⟩ 0 (Lib.countB s ⟨#[c]⟩) s;have h2:Lib.splitK [c] 0 (Lib.count s.data.toList [c]) s.data.toList=cutAt c s.data.toList:=Txt.split_cut c s.data.toList;have h3:(Lib.splitB ⟨#[c]⟩ 0 (Lib.countB s ⟨#[c]⟩) s).map (·.data.toList)=cutAt c s.data.toList:=h.trans h2;unfold cutB;rw [← h3,List.map_map];exact (List.map_id _).symm.trans (List.map_congr_left fun x _=>rfl)
def strings_Split.f (s sep:ByteArray):Option (List ByteArray):=if s.size<4294967281 then (match sep.data.toList with | [c]=>some (cutB c s) | _=>none) else none
theorem strings_Split.calls (s sep:ByteArray)(r:List ByteArray)(w:World)(h:strings_Split.f s sep=some r):
  Calls Tryd.prog 31 #[.string s,.string sep] w fun e w'=>∃ v0_:Value,e=.returned v0_∧Kd.R Kd.string 9 w' w.heap.size (fun _=>True) v0_ r∧Below w.heap.size w w':=by
 unfold strings_Split.f at h
 split at h
 ·
  rename_i hs
  split at h
  ·
   rename_i c hc
   obtain rfl:=Option.some.inj h;have e:sep=⟨#[c]⟩:=by
    obtain⟨⟨l⟩⟩:=sep;simp only at hc;rw [hc]
   subst e;refine (split_any Tryd.lays146 (by kernel_rfl) s c w hs).mono ?_;rintro e w' ⟨rfl,rfl⟩;rw [splitB_cut];have hl:Lib.countB s ⟨#[c]⟩+1=(cutB c s).length:=by rw [← splitB_cut];exact (Lib.splitB_all ⟨#[c]⟩ (Nat.le_refl 1) 0 _ s rfl).symm
   rw [hl];refine⟨_,rfl,Kd.R_of_own ?_ (fun _ _=>trivial),below_alloc (Below.refl _ _) _⟩
   have:=World.ownsRow_lit (base:=w.heap.size) (e:=9) (size:=1) w ((cutB c s).map Value.string).toArray (cutB c s).length (Nat.le_refl _) (by
    have:=Txt.cut_len c s.data.toList;have e2:s.data.toList.length=s.size:=by rw [Array.length_toList];rfl
    unfold cutB maxLen;rw [List.length_map]
    omega) (by simp)
   show (w.alloc (.cells ((cutB c s).map Value.string).toArray 9)).ownsRow _ _ _ _ _ _
   simpa [encs] using this
  ·
   cases h
 ·
  cases h
end Go.Proofs.YtailkppkjhkjpaaDoor.X
end
section
namespace Go.Proofs.YtailkppkjhkjpaaDoor.X
open Go.RowKit Go.Proofs.YtailkppkjhkjpaaDoorW.PrintWords Go.Proofs.YtailkppkjhkjpaaDoorW.PrintLast Go.Proofs.YtailkppkjhkjpaaDoorW.PrintMore
attribute [local go_sem] max2_int min2_int max_two min_two max_three min_three max_four min_four
set_option linter.unusedVariables false
set_option linter.unusedSimpArgs false
def impl_figureOf.f (a0:Int):Option (Int × Bool):=if a0<48 then (some (0,false)) else (if a0>57 then (some (0,false)) else (some ((a0-48) % 256,true)))
set_option maxHeartbeats 8000000 in
set_option maxRecDepth 100000 in
theorem impl_figureOf.calls (a0:Int)(r1:Int)(r2:Bool)(w:World)(h:impl_figureOf.f a0=some (r1,r2)):
  Calls Tryd.prog 89 #[.int .u8 a0] w fun e w'=>e=.returned (.tuple #[.int .i64 r1,.bool r2])∧Drawn0 w w':=by
 have H:(if a0<48 then (some (0,false)) else (if a0>57 then (some (0,false)) else (some ((a0-48) % 256,true))))=some (r1,r2):=h;clear h;by_cases c2:a0<48
 ·
  rw [if_pos c2] at H;have c2b0:decide (a0<48)=true:=decide_eq_true c2;clear c2;simp only [Option.some.injEq,Prod.mk.injEq] at H;obtain⟨rfl,rfl⟩:=H;go_enter Tryd.func89,Tryd.ntmps89;go_wp2;go_ret2;exact⟨by first | rfl | (simp;done) | (simp [*];done),by repeat (first | exact Drawn0.refl _ | apply Drawn0.step)⟩
 ·
  rw [if_neg c2] at H;have c2b0:decide (a0<48)=false:=decide_eq_false c2;clear c2;by_cases c3:a0>57
  ·
   rw [if_pos c3] at H;have c3b0:decide (57<a0)=true:=decide_eq_true c3;clear c3;simp only [Option.some.injEq,Prod.mk.injEq] at H;obtain⟨rfl,rfl⟩:=H;go_enter Tryd.func89,Tryd.ntmps89;go_wp2;go_ret2;exact⟨by first | rfl | (simp;done) | (simp [*];done),by repeat (first | exact Drawn0.refl _ | apply Drawn0.step)⟩
  ·
   rw [if_neg c3] at H;have c3b0:decide (57<a0)=false:=decide_eq_false c3;clear c3;simp only [Option.some.injEq,Prod.mk.injEq] at H;obtain⟨rfl,rfl⟩:=H;go_enter Tryd.func89,Tryd.ntmps89;go_wp2;go_ret2;exact⟨by first | rfl | (simp;done) | (simp [*];done),by repeat (first | exact Drawn0.refl _ | apply Drawn0.step)⟩
def impl_pointOf.j0:Nat→ByteArray→Bool→Option (Int × Int × Bool)
 | 0,_,_=>none
 | k+1,x0,x15=>if x15=true then (some (0,0,false)) else (if 0<(x0.size:Int) then ((impl_figureOf.f (bt x0 0)).bind fun bt434=>(if 2<(x0.size:Int) then ((impl_figureOf.f (bt x0 2)).bind fun bt436=>(if bt434.2=true then (if bt436.2=true then (some (bt434.1,bt436.1,true)) else (some (0,0,false))) else (some (0,0,false)))) else (none))) else (none))
def impl_pointOf.f (k:Nat)(a0:ByteArray):Option (Int × Int × Bool):=if (a0.size:Int)=3 then (if 1<(a0.size:Int) then (impl_pointOf.j0 k a0 ((bt a0 1) != 44)) else (none)) else (impl_pointOf.j0 k a0 true)
set_option maxHeartbeats 8000000 in
set_option maxRecDepth 100000 in
theorem impl_pointOf.calls (k:Nat)(a0:ByteArray)(r1:Int)(r2:Int)(r3:Bool)(w:World)(h:impl_pointOf.f k a0=some (r1,r2,r3)):
  Calls Tryd.prog 67 #[.string a0] w fun e w'=>e=.returned (.tuple #[.agg #[.int .i64 r1,.int .i64 r2],.bool r3])∧Below w.heap.size w w':=by
 have hu37:=Tryd.underlying37;have HB:=a0_ (Below.refl w.heap.size w);have H:(if (a0.size:Int)=3 then (if 1<(a0.size:Int) then (impl_pointOf.j0 k a0 ((bt a0 1) != 44)) else (none)) else (impl_pointOf.j0 k a0 true))=some (r1,r2,r3):=h;clear h;have HC2:=Aside0.mk H;clear H;go_enter Tryd.func67,Tryd.ntmps67;go_upto_region 1 with (first | ((with_reducible refine gate_dst (N:=2) rfl ?_);refine bx_ (N:=2) (cs:=#[.int .i64 0,.int .i64 0]) (t:=37) (h:=?_);intro gb433 hg w3 hbox hb;have BK433:=a0_ (hbox);have GW433:=gh_ HB hg;have GE433:=gh_ HB hg;replace HB:=sb_ HB hb;clear hb hbox hg))
 (try simp only [Act.put,List.setIfInBounds_toArray,List.set_cons_zero,List.set_cons_succ])
 go_cut [15] (fun v15 wc=>∃ (kq:Nat) (x15_1:Bool),v15=.bool x15_1∧Aside0 (impl_pointOf.j0 kq a0 x15_1=some (r1,r2,r3))∧Aside0 (kq≤k)∧Aside0 (wc.heap[gb433]?=some (.cells #[.int .i64 0,.int .i64 0] 37 (0,0)))∧Aside0 (Below w.heap.size w wc))
 case first =>
  have H:=HC2.out;clear HC2;by_cases c4:(a0.size:Int)=3
  ·
   rw [if_pos c4] at H;have c4b0:((a0.size:Int)==3)=true:=beq_iff_eq.mpr c4;have c4b1:((a0.size:Int) != 3)=false:=bne_eq_false_iff_eq.mpr c4;clear c4
   (first | rw [c4b0] | (simp only [i64_w,i32_w];rw [c4b0]) | skip)
   by_cases c5:1<(a0.size:Int)
   ·
    rw [if_pos c5] at H;have c5b0:decide (1<(a0.size:Int))=true:=decide_eq_true c5;have c5b1:decide (1<a0.size)=true:=decide_eq_true (by omega);clear c5;have H':=Aside0.mk H;clear H;have p6:0≤(1:Int):=(by omega);have q6:1<a0.size:=(by have:(1:Int)<(a0.size:Int):=od_;omega);have hx6:∀ h:1<a0.size,((a0[1]'h).toNat:Int)=bt a0 1:=bt_at a0 1;clear p6;have qi6:(1<(a0.size:Int))=True:=eq_true (od_);replace q6:=eq_true q6;go_wp2;go_meet
    case rel=>exact⟨_,(((bt a0 1) != 44)),(by first | rfl | (simp;done) | (simp [*];done)),H',⟨by first | omega | exact Nat.le_refl _⟩,⟨uq_⟩,⟨hB_⟩⟩
   ·
    rw [if_neg c5] at H;exact absurd H (by simp)
  ·
   rw [if_neg c4] at H;have c4b0:((a0.size:Int)==3)=false:=beq_eq_false_iff_ne.mpr c4;have c4b1:((a0.size:Int) != 3)=true:=bne_iff_ne.mpr c4
   (first | rw [c4b0] | (simp only [i64_w,i32_w];rw [c4b0]) | skip)
   have H':=Aside0.mk H;clear H;go_wp2;go_meet
   case rel=>exact⟨_,(true),(by first | rfl | (simp;done) | (simp [*];done)),H',⟨by first | omega | exact Nat.le_refl _⟩,⟨uq_⟩,⟨hB_⟩⟩
 case rest =>
  clear HC2;obtain⟨kq,x15_1,rfl,HA,HJ1,BK433,HB⟩:=hcut
  cases kq with
  | zero=>exact absurd HA.out (by simp [impl_pointOf.j0])
  | succ kj1 =>
   have H:=HA.out;clear HA;simp only [impl_pointOf.j0] at H;by_cases c7:x15_1=true
   ·
    subst c7;rw [if_pos rfl] at H
    (try dsimp only at H)
    simp only [Option.some.injEq,Prod.mk.injEq] at H;obtain⟨rfl,rfl,rfl⟩:=H;have hcz8_0:=c20_ BK433;have hcz8_1:=c21_ BK433;have hfz8_0:=fz_ BK433 0;have hfz8_1:=fz_ BK433 1;go_wp2;refine bodyPost_ret (results_ct rfl _ _ gb433 37 #[.int .i64 0,.int .i64 0] (0,0) _ rfl (by (with_reducible repeat (first | refine blk_drewN ?_ _ | refine blk_drew ?_ | refine blk_alloc ?_ _));refine blk_put (cs:=#[.int .i64 0,.int .i64 0]) ?_ 1 _ rfl;(with_reducible repeat (first | refine blk_drewN ?_ _ | refine blk_drew ?_ | refine blk_alloc ?_ _));refine blk_put (cs:=#[.int .i64 0,.int .i64 0]) ?_ 0 _ rfl;(with_reducible repeat (first | refine blk_drewN ?_ _ | refine blk_drew ?_ | refine blk_alloc ?_ _));exact BK433.out) Tryd.underlying37 rfl (by kernel_rfl)) rfl ?_;exact⟨rr_,hB_⟩
   ·
    replace c7:=Bool.eq_false_iff.mpr c7;subst c7;rw [if_neg (show ¬ (false=true) by decide)] at H
    (try dsimp only at H)
    by_cases c9:0<(a0.size:Int)
    ·
     rw [if_pos c9] at H;have c9b0:decide (0<(a0.size:Int))=true:=decide_eq_true c9;have c9b1:decide (0<a0.size)=true:=decide_eq_true (by omega);clear c9;replace H:=Option.bind_eq_some_iff.mp H;obtain⟨⟨t434,t435⟩,A110,H⟩:=H
     (try dsimp only at H)
     have A11:=Aside0.mk A110;clear A110;by_cases c12:2<(a0.size:Int)
     ·
      rw [if_pos c12] at H;have c12b0:decide (2<(a0.size:Int))=true:=decide_eq_true c12;have c12b1:decide (2<a0.size)=true:=decide_eq_true (by omega);clear c12;replace H:=Option.bind_eq_some_iff.mp H;obtain⟨⟨t436,t437⟩,A140,H⟩:=H
      (try dsimp only at H)
      have A14:=Aside0.mk A140;clear A140;by_cases c15:t435=true
      ·
       subst c15;rw [if_pos rfl] at H
       (try dsimp only at H)
       by_cases c16:t437=true
       ·
        subst c16;rw [if_pos rfl] at H
        (try dsimp only at H)
        simp only [Option.some.injEq,Prod.mk.injEq] at H;obtain⟨rfl,rfl,rfl⟩:=H;have p10:0≤(0:Int):=(by omega);have q10:0<a0.size:=(by have:(0:Int)<(a0.size:Int):=od_;omega);have hx10:∀ h:0<a0.size,((a0[0]'h).toNat:Int)=bt a0 0:=bt_at a0 0;clear p10;have qi10:(0<(a0.size:Int))=True:=eq_true (od_);replace q10:=eq_true q10
        go_wp2_with (first | ((with_reducible refine gate_callee (f:=89) rfl ?_);refine gL_ (some 20) Tryd.func89 #[.int .u8 (bt a0 0)] (h:=?_);(with_reducible refine (impl_figureOf.calls (bt a0 0) t434 true _ A11.out).mono ?_);rintro e w' ⟨rfl,⟨nd,rfl⟩⟩;refine⟨_,rfl,?_⟩;(try (rw [drewN_self wc];generalize hq_:World.drewN wc _=wc;have n0_:Aside0 (wc.heap[gb433]?=some (.cells #[.int .i64 0,.int .i64 0] 37 (0,0))):=⟨by rw [← hq_];exact uq_⟩;have n1_:Aside0 (Below w.heap.size w wc):=⟨by rw [← hq_];exact hB_⟩;clear BK433 HB hq_;have BK433:=n0_;have HB:=n1_;clear n0_ n1_));have p13:0≤(2:Int):=(by omega);have q13:2<a0.size:=(by have:(2:Int)<(a0.size:Int):=od_;omega);have hx13:∀ h:2<a0.size,((a0[2]'h).toNat:Int)=bt a0 2:=bt_at a0 2;clear p13;have qi13:(2<(a0.size:Int))=True:=eq_true (od_);replace q13:=eq_true q13) | ((with_reducible refine gate_callee (f:=89) rfl ?_);refine gL_ (some 26) Tryd.func89 #[.int .u8 (bt a0 2)] (h:=?_);(with_reducible refine (impl_figureOf.calls (bt a0 2) t436 true _ A14.out).mono ?_);rintro e w' ⟨rfl,⟨nd,rfl⟩⟩;refine⟨_,rfl,?_⟩;(try (rw [drewN_self wc];generalize hq_:World.drewN wc _=wc;have n0_:Aside0 (wc.heap[gb433]?=some (.cells #[.int .i64 0,.int .i64 0] 37 (0,0))):=⟨by rw [← hq_];exact uq_⟩;have n1_:Aside0 (Below w.heap.size w wc):=⟨by rw [← hq_];exact hB_⟩;clear BK433 HB hq_;have BK433:=n0_;have HB:=n1_;clear n0_ n1_));have hcz17_0:=c20_ BK433;have hcz17_1:=c21_ BK433;have hfz17_0:=fz_ BK433 0;have hfz17_1:=fz_ BK433 1))
        refine bodyPost_ret (results_ct rfl _ _ gb433 37 #[.int .i64 t434,.int .i64 t436] (0,0) _ rfl (by (with_reducible repeat (first | refine blk_drewN ?_ _ | refine blk_drew ?_ | refine blk_alloc ?_ _));refine blk_put (cs:=#[.int .i64 t434,.int .i64 0]) ?_ 1 _ rfl;(with_reducible repeat (first | refine blk_drewN ?_ _ | refine blk_drew ?_ | refine blk_alloc ?_ _));refine blk_put (cs:=#[.int .i64 0,.int .i64 0]) ?_ 0 _ rfl;(with_reducible repeat (first | refine blk_drewN ?_ _ | refine blk_drew ?_ | refine blk_alloc ?_ _));exact BK433.out) Tryd.underlying37 rfl (by kernel_rfl)) rfl ?_;exact⟨rr_,hB_⟩
       ·
        replace c16:=Bool.eq_false_iff.mpr c16;subst c16;rw [if_neg (show ¬ (false=true) by decide)] at H
        (try dsimp only at H)
        simp only [Option.some.injEq,Prod.mk.injEq] at H;obtain⟨rfl,rfl,rfl⟩:=H;have p10:0≤(0:Int):=(by omega);have q10:0<a0.size:=(by have:(0:Int)<(a0.size:Int):=od_;omega);have hx10:∀ h:0<a0.size,((a0[0]'h).toNat:Int)=bt a0 0:=bt_at a0 0;clear p10;have qi10:(0<(a0.size:Int))=True:=eq_true (od_);replace q10:=eq_true q10
        go_wp2_with (first | ((with_reducible refine gate_callee (f:=89) rfl ?_);refine gL_ (some 20) Tryd.func89 #[.int .u8 (bt a0 0)] (h:=?_);(with_reducible refine (impl_figureOf.calls (bt a0 0) t434 true _ A11.out).mono ?_);rintro e w' ⟨rfl,⟨nd,rfl⟩⟩;refine⟨_,rfl,?_⟩;(try (rw [drewN_self wc];generalize hq_:World.drewN wc _=wc;have n0_:Aside0 (wc.heap[gb433]?=some (.cells #[.int .i64 0,.int .i64 0] 37 (0,0))):=⟨by rw [← hq_];exact uq_⟩;have n1_:Aside0 (Below w.heap.size w wc):=⟨by rw [← hq_];exact hB_⟩;clear BK433 HB hq_;have BK433:=n0_;have HB:=n1_;clear n0_ n1_));have p13:0≤(2:Int):=(by omega);have q13:2<a0.size:=(by have:(2:Int)<(a0.size:Int):=od_;omega);have hx13:∀ h:2<a0.size,((a0[2]'h).toNat:Int)=bt a0 2:=bt_at a0 2;clear p13;have qi13:(2<(a0.size:Int))=True:=eq_true (od_);replace q13:=eq_true q13) | ((with_reducible refine gate_callee (f:=89) rfl ?_);refine gL_ (some 26) Tryd.func89 #[.int .u8 (bt a0 2)] (h:=?_);(with_reducible refine (impl_figureOf.calls (bt a0 2) t436 false _ A14.out).mono ?_);rintro e w' ⟨rfl,⟨nd,rfl⟩⟩;refine⟨_,rfl,?_⟩;(try (rw [drewN_self wc];generalize hq_:World.drewN wc _=wc;have n0_:Aside0 (wc.heap[gb433]?=some (.cells #[.int .i64 0,.int .i64 0] 37 (0,0))):=⟨by rw [← hq_];exact uq_⟩;have n1_:Aside0 (Below w.heap.size w wc):=⟨by rw [← hq_];exact hB_⟩;clear BK433 HB hq_;have BK433:=n0_;have HB:=n1_;clear n0_ n1_));have hcz18_0:=c20_ BK433;have hcz18_1:=c21_ BK433;have hfz18_0:=fz_ BK433 0;have hfz18_1:=fz_ BK433 1))
        refine bodyPost_ret (results_ct rfl _ _ gb433 37 #[.int .i64 0,.int .i64 0] (0,0) _ rfl (by (with_reducible repeat (first | refine blk_drewN ?_ _ | refine blk_drew ?_ | refine blk_alloc ?_ _));refine blk_put (cs:=#[.int .i64 0,.int .i64 0]) ?_ 1 _ rfl;(with_reducible repeat (first | refine blk_drewN ?_ _ | refine blk_drew ?_ | refine blk_alloc ?_ _));refine blk_put (cs:=#[.int .i64 0,.int .i64 0]) ?_ 0 _ rfl;(with_reducible repeat (first | refine blk_drewN ?_ _ | refine blk_drew ?_ | refine blk_alloc ?_ _));exact BK433.out) Tryd.underlying37 rfl (by kernel_rfl)) rfl ?_;exact⟨rr_,hB_⟩
      ·
       replace c15:=Bool.eq_false_iff.mpr c15;subst c15;rw [if_neg (show ¬ (false=true) by decide)] at H
       (try dsimp only at H)
       simp only [Option.some.injEq,Prod.mk.injEq] at H;obtain⟨rfl,rfl,rfl⟩:=H;have p10:0≤(0:Int):=(by omega);have q10:0<a0.size:=(by have:(0:Int)<(a0.size:Int):=od_;omega);have hx10:∀ h:0<a0.size,((a0[0]'h).toNat:Int)=bt a0 0:=bt_at a0 0;clear p10;have qi10:(0<(a0.size:Int))=True:=eq_true (od_);replace q10:=eq_true q10
       go_wp2_with (first | ((with_reducible refine gate_callee (f:=89) rfl ?_);refine gL_ (some 20) Tryd.func89 #[.int .u8 (bt a0 0)] (h:=?_);(with_reducible refine (impl_figureOf.calls (bt a0 0) t434 false _ A11.out).mono ?_);rintro e w' ⟨rfl,⟨nd,rfl⟩⟩;refine⟨_,rfl,?_⟩;(try (rw [drewN_self wc];generalize hq_:World.drewN wc _=wc;have n0_:Aside0 (wc.heap[gb433]?=some (.cells #[.int .i64 0,.int .i64 0] 37 (0,0))):=⟨by rw [← hq_];exact uq_⟩;have n1_:Aside0 (Below w.heap.size w wc):=⟨by rw [← hq_];exact hB_⟩;clear BK433 HB hq_;have BK433:=n0_;have HB:=n1_;clear n0_ n1_));have p13:0≤(2:Int):=(by omega);have q13:2<a0.size:=(by have:(2:Int)<(a0.size:Int):=od_;omega);have hx13:∀ h:2<a0.size,((a0[2]'h).toNat:Int)=bt a0 2:=bt_at a0 2;clear p13;have qi13:(2<(a0.size:Int))=True:=eq_true (od_);replace q13:=eq_true q13) | ((with_reducible refine gate_callee (f:=89) rfl ?_);refine gL_ (some 26) Tryd.func89 #[.int .u8 (bt a0 2)] (h:=?_);(with_reducible refine (impl_figureOf.calls (bt a0 2) t436 t437 _ A14.out).mono ?_);rintro e w' ⟨rfl,⟨nd,rfl⟩⟩;refine⟨_,rfl,?_⟩;(try (rw [drewN_self wc];generalize hq_:World.drewN wc _=wc;have n0_:Aside0 (wc.heap[gb433]?=some (.cells #[.int .i64 0,.int .i64 0] 37 (0,0))):=⟨by rw [← hq_];exact uq_⟩;have n1_:Aside0 (Below w.heap.size w wc):=⟨by rw [← hq_];exact hB_⟩;clear BK433 HB hq_;have BK433:=n0_;have HB:=n1_;clear n0_ n1_));have hcz19_0:=c20_ BK433;have hcz19_1:=c21_ BK433;have hfz19_0:=fz_ BK433 0;have hfz19_1:=fz_ BK433 1))
       refine bodyPost_ret (results_ct rfl _ _ gb433 37 #[.int .i64 0,.int .i64 0] (0,0) _ rfl (by (with_reducible repeat (first | refine blk_drewN ?_ _ | refine blk_drew ?_ | refine blk_alloc ?_ _));refine blk_put (cs:=#[.int .i64 0,.int .i64 0]) ?_ 1 _ rfl;(with_reducible repeat (first | refine blk_drewN ?_ _ | refine blk_drew ?_ | refine blk_alloc ?_ _));refine blk_put (cs:=#[.int .i64 0,.int .i64 0]) ?_ 0 _ rfl;(with_reducible repeat (first | refine blk_drewN ?_ _ | refine blk_drew ?_ | refine blk_alloc ?_ _));exact BK433.out) Tryd.underlying37 rfl (by kernel_rfl)) rfl ?_;exact⟨rr_,hB_⟩
     ·
      rw [if_neg c12] at H;exact absurd H (by simp)
    ·
     rw [if_neg c9] at H;exact absurd H (by simp)
end Go.Proofs.YtailkppkjhkjpaaDoor.X
end
section
set_option linter.unusedVariables false
set_option linter.unusedSimpArgs false
namespace Go.Proofs.YtailkppkjhkjpaaDoor.X
open Go.RowKit Go.Shelf Go.Proofs.YtailkppkjhkjpaaDoorW.PrintWords Go.Proofs.YtailkppkjhkjpaaDoorW.PrintLast Go.Proofs.YtailkppkjhkjpaaDoorW.PrintMore
open Mort (ptOk loopOk)
open Txt (cutAt allOf rdPt isFig)
def rdS (x:ByteArray):Option S37:=(rdPt x.data.toList).map fun p=>⟨p.1,p.2⟩
def readL (t:ByteArray):List S37 × Bool:=if t.size≤40 then (match allOf rdS (cutB 32 t) with | some l=>if loopOk (l.map ptP) then (l,true) else ([],false) | none=>([],false)) else ([],false)
def impl_LoopRead.f (t:ByteArray):Option (List S37 × Bool):=some (readL t)
theorem figure_told (a:UInt8):impl_figureOf.f (a.toNat:Int)=some (if isFig a then ((a.toNat:Int)-48,true) else (0,false)):=by
 unfold impl_figureOf.f isFig;have hx:a.toNat<256:=a.toNat_lt;by_cases h1:(a.toNat:Int)<48
 ·
  rw [if_pos h1,if_neg (by simp;omega)]
 ·
  rw [if_neg h1];by_cases h2:(a.toNat:Int)>57
  ·
   rw [if_pos h2,if_neg (by simp;omega)]
  ·
   rw [if_neg h2,if_pos (by simp;omega)]
   congr 2
   omega
theorem pointOf_f (x:ByteArray):impl_pointOf.f 1 x=some (match rdS x with | some p=>(p.f0,p.f1,true) | none=>(0,0,false)):=by
 obtain⟨⟨l⟩⟩:=x;unfold impl_pointOf.f;have hsz:((⟨⟨l⟩⟩:ByteArray).size:Int)=(l.length:Int):=rfl;rw [hsz];by_cases h3:(l.length:Int)=3
 ·
  rw [if_pos h3,if_pos (by omega)];obtain⟨a,k,b,rfl⟩:∃ a k b,l=[a,k,b]:=by
   match l,h3 with
   | [a,k,b],_=>exact⟨a,k,b,rfl⟩
   | [],h=>simp at h
   | [_],h=>simp at h
   | [_,_],h=>simp at h
   | _::_::_::_::_,h=>simp at h;omega
  have e0:bt (⟨⟨[a,k,b]⟩⟩:ByteArray) 0=(a.toNat:Int):=rfl;have e1:bt (⟨⟨[a,k,b]⟩⟩:ByteArray) 1=(k.toNat:Int):=rfl;have e2:bt (⟨⟨[a,k,b]⟩⟩:ByteArray) 2=(b.toNat:Int):=rfl;have er:rdS ⟨⟨[a,k,b]⟩⟩=if k=44 && (isFig a && isFig b) then some ⟨(a.toNat:Int)-48,(b.toNat:Int)-48⟩ else none:=by
   unfold rdS
   show (rdPt [a,k,b]).map _=_
   rw [Txt.rdPt3]
   split <;> rfl
  rw [er];rw [impl_pointOf.j0,e0,e1,e2,figure_told,figure_told,hsz];simp only [List.length_cons,List.length_nil,Option.bind_some];by_cases hk:k=44
  ·
   subst hk;rw [if_neg (by decide),if_pos (by decide),if_pos (by decide)];cases isFig a <;> cases isFig b <;> rfl
  ·
   have hk2:((k.toNat:Int) != 44)=true:=by
    rw [bne_iff_ne];intro e;exact hk (UInt8.toNat_inj.1 (by show k.toNat=44;omega))
   rw [if_pos hk2];simp [hk]
 ·
  rw [if_neg h3];rw [impl_pointOf.j0,if_pos rfl];have er:rdS ⟨⟨l⟩⟩=none:=by
   unfold rdS
   show (rdPt l).map _=_
   match l,h3 with
   | [a,k,b],h=>simp at h
   | [],_=>rfl
   | [_],_=>rfl
   | [_,_],_=>rfl
   | _::_::_::_::_,_=>rfl
  rw [er]
theorem info_Pt:(Tryd.prog.info? 37).map (fun i=>(i.zero,i.size,i.bytes))=some (some (.agg #[.int .i64 0,.int .i64 0]),2,16):=by kernel_rfl
theorem made0P (n:Nat)(hn:n≤1000)(w:World):(Instr.makeSlice 23 (.int .i64 0) (.int .i64 (n:Int))).run Tryd.prog w=.ok (.slice (some ⟨w.heap.size,0,none⟩) 0 n) (w.alloc (.cells (madeCells #[.int .i64 0,.int .i64 0] (n*2)) 37)):=by
 have h:=info_Pt
 cases hi:Tryd.prog.info? 37 with
 | none=>rw [hi] at h;cases h
 | some i =>
  rw [hi] at h;simp only [Option.map_some,Option.some.injEq,Prod.mk.injEq] at h;obtain⟨h1,h2,h3⟩:=h;have:=run_make (P:=Tryd.prog) w 23 37 i (.agg #[.int .i64 0,.int .i64 0]) Tryd.underlying23 hi h1 .i64 .i64 0 (n:Int) (Int.le_refl _) (by omega) (by rw [h3];omega) (by omega);rw [h2] at this;simp only [Int.toNat_zero,Int.toNat_natCast] at this;exact this
theorem R_madeP (n:Nat)(hn:n≤1000)(w:World):Kd.R k37 37 (w.alloc (.cells (madeCells #[.int .i64 0,.int .i64 0] (n*2)) 37)) w.heap.size (fun _=>True) (.slice (some ⟨w.heap.size,0,none⟩) 0 n) []:=
 ⟨fun _ _=>trivial,[],World.ownsRow_made w _ n (Nat.le_refl _) (by unfold maxLen;omega) (by rw [size_madeCells];rfl),Reps.none _ _⟩
theorem allOf_at {xs:List ByteArray}{i:Nat}(hi:i<xs.length){x:ByteArray}(hx:rdOf ByteArray.empty xs (i:Int)=x):xs.drop i=x::xs.drop (i+1):=by
 rw [List.drop_eq_getElem_cons hi,← hx]
 congr 1
 unfold rdOf;rw [Int.toNat_natCast,List.getD_eq_getElem?_getD,List.getElem?_eq_getElem hi];rfl
theorem cutB_len (c:UInt8)(s:ByteArray):0<(cutB c s).length∧(cutB c s).length≤s.size+1:=by
 unfold cutB;rw [List.length_map];have:=Txt.cut_len c s.data.toList;have e2:s.data.toList.length=s.size:=by rw [Array.length_toList];rfl
 obtain⟨x,xs,h⟩:=Txt.cutAt_ne c s.data.toList;rw [h] at this ⊢
 simp only [List.length_cons] at this ⊢
 omega
set_option maxHeartbeats 4000000 in
set_option maxRecDepth 100000 in
theorem impl_LoopRead.calls (s:ByteArray)(r1:List S37)(r2:Bool)(w:World)(h:impl_LoopRead.f s=some (r1,r2)):
  Calls Tryd.prog 33 #[.string s] w fun e w'=>∃ v0_:Value,e=.returned (.tuple #[v0_,.bool r2])∧Kd.R k37 37 w' w.heap.size (fun _=>True) v0_ r1∧Below w.heap.size w w':=by
 have hu37:=Tryd.underlying37;have hr:readL s=(r1,r2):=Option.some.inj h;clear h;unfold readL at hr;by_cases h40:s.size≤40
 ·
  rw [if_pos h40] at hr;have hd:decide (40<(s.size:Int))=false:=decide_eq_false (by omega);have hS:strings_Split.f s ⟨#[32]⟩=some (cutB 32 s):=by unfold strings_Split.f;rw [if_pos (by omega)]
  obtain⟨ws,hws⟩:∃ ws,cutB 32 s=ws:=⟨_,rfl⟩;have hwl:=cutB_len 32 s;rw [hws] at hS hwl hr;have HK:=a0_ (And.intro hr (And.intro hS (And.intro hwl.1 (show ws.length≤41 by omega))));clear hr h40 hS hws hwl;go_enter Tryd.func33,Tryd.ntmps33;go_wp2_with (go_at_call 31;(with_reducible refine (strings_Split.calls s ⟨#[32]⟩ ws _ HK.out.2.1).mono ?_);rintro e w1 ⟨v0,rfl,hR,hb⟩;obtain⟨gw,cw,rfl,_,hgw,_⟩:=Kd.R_form hR HK.out.2.2.1;have hmk:=made0P ws.length (by have:=HK.out.2.2.2;omega) w1;have H1:=a0_ (And.intro hR (And.intro hb hgw));clear hR hb hgw);clear hmk hd;obtain⟨gb,hgb⟩:∃ gb,w1.heap.size=gb:=⟨_,rfl⟩;have hR0:=R_madeP ws.length (by have:=HK.out.2.2.2;omega) w1;have hB0:Below gb w1 (w1.alloc (.cells (madeCells #[.int .i64 0,.int .i64 0] (ws.length*2)) 37)):=hgb▸below_alloc (Below.refl _ w1) _;rw [hgb] at hR0 ⊢
  have HB:=a0_ (And.intro hgb (And.intro hR0 hB0));clear hgb hR0 hB0;generalize w1.alloc (.cells (madeCells #[.int .i64 0,.int .i64 0] (ws.length*2)) 37)=W at *;go_loopg [5,20] ws.length (fun kq v5 v20 wr=>∃ (i:Nat) (ps:List S37),v20=.int .i64 (i:Int)∧Aside0 (kq=ws.length-i∧i≤ws.length∧Below gb w1 wr∧Kd.R k37 37 wr gb (fun _=>True) v5 ps∧ps.length=i∧allOf rdS ws=(allOf rdS (ws.drop i)).map (ps ++ ·)))
  case atStart=>exact⟨0,[],rfl,⟨rfl,Nat.zero_le _,HB.out.2.2,HB.out.2.1,rfl,by rw [List.drop_zero];cases allOf rdS ws <;> rfl⟩⟩
  case round =>
   obtain⟨i,ps,rfl,HR⟩:=hrel;have hi:=HR.out.2.1;by_cases hlt:i<ws.length
   ·
    have hd:decide ((i:Int)<(ws.length:Int))=true:=decide_eq_true (by omega);have hd2:(i:Int)<(ws.length:Int):=by omega
    have hC:=Kd.C_below (Kd.R_reads' H1.out.1).2.2 (HB.out.1.symm▸HR.out.2.2.1:Below w1.heap.size w1 wr);obtain⟨ad,hA,z0⟩:=Kd.at_string hC (i:Int) (by omega) (by omega);injection hA with hA;rw [Int.toNat_natCast] at z0;obtain⟨x,hx⟩:∃ x,rdOf ByteArray.empty ws (i:Int)=x:=⟨_,rfl⟩;have hdr:=allOf_at hlt hx;rw [hx] at z0;subst hA;rw [add_at,Nat.zero_add] at z0;have hsz:gb≤wr.heap.size:=by have:=HR.out.2.2.1.size;have:=HB.out.1;omega
    have hpt:=pointOf_f x
    cases hx2:rdS x with
    | none =>
     have hfail:r1=[]∧r2=false:=by
      have hr:=HK.out.1;have:=HR.out.2.2.2.2.2;rw [hdr,allOf,hx2] at this;rw [this] at hr;cases hr;exact⟨rfl,rfl⟩
     obtain⟨rfl,rfl⟩:=hfail;rw [hx2] at hpt;have HP:=a0_ (And.intro hpt (And.intro HR.out.2.2.1 hsz));clear hpt hx2 hx hdr hC hi hlt HR hsz;go_wp2_with (go_at_call 67;(with_reducible refine (impl_pointOf.calls 1 x 0 0 false _ HP.out.1).mono ?_);rintro e w2 ⟨rfl,hb2⟩;have H2:=Aside0.mk hb2;clear hb2);go_ret2;have hb3:=below_alloc (Below.refl _ w2) (.cells #[.int .i64 0,.int .i64 0] 37);refine⟨_,rfl,Kd.R_nil _ _ _ _ _,?_⟩;exact below_step H1.out.2.1 ((HB.out.1.symm▸HP.out.2.1).trans ((H2.out.mono (by have:=HP.out.2.2;have:=HB.out.1;omega)).trans (hb3.mono (by have:=HP.out.2.2;have:=HB.out.1;have:=H2.out.size;omega))))
    | some p =>
     rw [hx2] at hpt;have hst:allOf rdS ws=(allOf rdS (ws.drop (i+1))).map (ps++[p] ++ ·):=by
      have:=HR.out.2.2.2.2.2;rw [this,hdr,allOf,hx2,Option.bind_some]
      cases allOf rdS (ws.drop (i+1)) with
      | none=>rfl
      | some l=>simp
     have HP:=a0_ (And.intro hpt (And.intro HR.out.2.2.1 (And.intro hsz (And.intro HR.out.2.2.2.1 (And.intro hlt (And.intro HR.out.2.2.2.2.1 (And.intro hst HR.out.1)))))));clear hpt hx2 hx hdr hC hi hlt HR hsz hst;have hl16:(ps.length+1)*16≤140737488355328:=by have:=HK.out.2.2.2;have:=HP.out.2.2.2.2.1;have:=HP.out.2.2.2.2.2.1;omega
     go_wp2_with (first
      | (go_at_call 67;(with_reducible refine (impl_pointOf.calls 1 x p.f0 p.f1 true _ HP.out.1).mono ?_);rintro e w2 ⟨rfl,hb2⟩;have hal2:=below_alloc (Below.refl _ w2) (.cells #[.int .i64 p.f0,.int .i64 p.f1] 37);have H2:=a0_ (And.intro (Kd.R_below (Kd.R_below HP.out.2.2.2.1 hb2) hal2) (And.intro ((HP.out.2.1.trans (hb2.mono HP.out.2.2.1)).trans (hal2.mono (Nat.le_trans HP.out.2.2.1 hb2.size))) (Nat.le_trans (Nat.le_trans HP.out.2.2.1 hb2.size) hal2.size)));clear hb2 hal2)
      | ((with_reducible refine gate_builtin (b:=.append) (xs:=#[.tmp 31,.tmp 33]) rfl ?_);go_loud (at_builtin;refine Kd.R_append k37 (w0:=w1) gb rfl (.tmp 31) (.tmp 33) 23 37 (.agg #[.int .i64 0,.int .i64 0]) 16 rfl Tryd.underlying23 info_Pt rfl (by decide) (by omega) u5 ps p [.int .i64 p.f0,.int .i64 p.f1] (fun _=>True) (fun _=>False) rfl (by first | rfl | (go_simp;done) | (go_simp;rfl)) (k37_mkM _ _ _ p) (fun _ hk=>hk.elim) (fun _ _=>trivial) H2.out.1 H2.out.2.1 H2.out.2.2 hl16 ?_;intro v2 w3 ho3 hb3 _ _;have H3:=a0_ (And.intro ho3 hb3);clear ho3 hb3)))
     obtain⟨_,_,_,_,g4,g5,g6,g7⟩:=HP.out;have hw:wrap64 ((i:Int)+1)=(i:Int)+1:=by have:=HK.out.2.2.2;unfold wrap64;omega
     go_roundg (ws.length-(i+1))
     case measure=>omega
     case rel=>exact⟨i+1,ps++[p],by rw [hw];rfl,⟨rfl,g4,H3.out.2,H3.out.1,by simp [g5],g6⟩⟩
   ·
    obtain rfl:i=ws.length:=by omega
    have hd:decide ((ws.length:Int)<(ws.length:Int))=false:=decide_eq_false (by omega);obtain⟨_,_,h3,h4,h5,h6⟩:=HR.out;obtain⟨A,c,rfl⟩:=Kd.R_slice h4;have hall:allOf rdS ws=some ps:=by
     rw [h6,List.drop_length,allOf];simp
    have hr:=HK.out.1;rw [hall] at hr;simp only at hr;have HJ:=a0_ (And.intro h3 (And.intro h4 (And.intro (Kd.R_reads' h4).2.1 (Kd.R_reads' h4).2.2)));clear h3 h4 h5 h6 hall hlt hi HR
    cases hL:loopOk (ps.map ptP) with
    | true =>
     rw [hL,if_pos rfl] at hr;obtain⟨rfl,rfl⟩:=Prod.mk.inj hr;have HL:=a0_ (show impl_LoopOk.f ps=some true from congrArg some hL);clear hL hr;go_wp2_with (go_at_call 35;(with_reducible refine (impl_LoopOk.calls A c ps true _ HJ.out.2.2.2 HJ.out.2.2.1 HL.out).mono ?_);rintro e w2 ⟨rfl,hb2⟩;have H2:=Aside0.mk hb2;clear hb2);go_ret2;refine⟨_,rfl,Kd.R_lower (Kd.R_below HJ.out.2.1 H2.out) (by have:=H1.out.2.1.size;have:=HB.out.1;omega),?_⟩;exact below_step H1.out.2.1 (below_step (HB.out.1.symm▸HJ.out.1) H2.out)
    | false =>
     rw [hL,if_neg (by decide)] at hr;obtain⟨rfl,rfl⟩:=Prod.mk.inj hr;have HL:=a0_ (show impl_LoopOk.f ps=some false from congrArg some hL);clear hL hr;go_wp2_with (go_at_call 35;(with_reducible refine (impl_LoopOk.calls A c ps false _ HJ.out.2.2.2 HJ.out.2.2.1 HL.out).mono ?_);rintro e w2 ⟨rfl,hb2⟩;have H2:=Aside0.mk hb2;clear hb2);go_ret2;refine⟨_,rfl,Kd.R_nil _ _ _ _ _,?_⟩;exact below_step H1.out.2.1 (below_step (HB.out.1.symm▸HJ.out.1) H2.out)
 ·
  rw [if_neg h40] at hr;obtain⟨rfl,rfl⟩:=Prod.mk.inj hr;have hd:decide (40<(s.size:Int))=true:=decide_eq_true (by omega);clear hr h40;go_enter Tryd.func33,Tryd.ntmps33;go_wp2;go_ret2;exact⟨_,rfl,Kd.R_nil _ _ _ _ _,Below.refl _ _⟩
end Go.Proofs.YtailkppkjhkjpaaDoor.X
end
