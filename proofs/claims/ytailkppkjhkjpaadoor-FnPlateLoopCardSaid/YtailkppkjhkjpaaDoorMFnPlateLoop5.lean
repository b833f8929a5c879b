/- FnPlateLoop: the law returns true for every input, and each input reads behind the call as before; part 5 of 5. No condition. Merged by program out of: HMeets, HRings, HRound, HBody, HPlate, HPText, FLawsFnPlateLoop, EvLoop, EvPlate, EvPlateS, EvDraws, PureFnPlateLoop, WSized, LawFnPlateLoop. -/
import Derived.Test.YtailkppkjhkjpaaDoorMFnPlateLoop4
import Derived.Deep.LoopGhost
import Derived.Deep.RegionHeld3
import Derived.LaidEqlPtr
import Derived.RegionTactic
import Derived.BigRegion
import Derived.BigGuard
import Derived.SizedLaws
import Derived.ChangeSlices
import Derived.WalkKit
import Derived.ProofKit
import Derived.OpenShut
import Derived.ShutString
import Derived.ChangeOld
import Derived.Below
import Derived.SevenTiedAt
set_option linter.all false
section
set_option linter.unusedVariables false
set_option linter.unusedSimpArgs false
namespace Go.Proofs.YtailkppkjhkjpaaDoor.X
open Go.RowKit Go.Shelf Go.Proofs.YtailkppkjhkjpaaDoorW.PrintWords Go.Proofs.YtailkppkjhkjpaaDoorW.PrintLast Go.Proofs.YtailkppkjhkjpaaDoorW.PrintMore
open Mort (edges segMeet)
attribute [local go_sem] Oper.semAt_some
structure RingAt (W:World) (b:Nat) (A:Option Addr) (c:Nat) (zs:List S37) (nx:Option Addr):Prop where
 pts:W.cell? ⟨b,0,none⟩=some (.slice A zs.length c)
 nxt:W.cell? ⟨b,1,none⟩=some (.pointer nx)
 row:Kd.C k37 W A zs.length zs
 cap:zs.length≤c
theorem RingAt.later {W W':World}{b c:Nat}{A nx:Option Addr}{zs:List S37}(h:RingAt W b A c zs nx)(hb:Below W.heap.size W W'):RingAt W' b A c zs nx:=
 ⟨pw_cell_below hb h.pts,pw_cell_below hb h.nxt,Kd.C_below h.row hb,h.cap⟩
theorem RingAt.alloc {W:World}{b c:Nat}{A nx:Option Addr}{zs:List S37}(h:RingAt W b A c zs nx)(o:Obj):RingAt (W.alloc o) b A c zs nx:=h.later (below_alloc (Below.refl _ W) o)
theorem RingAt.lt {W:World}{b c:Nat}{A nx:Option Addr}{zs:List S37}(h:RingAt W b A c zs nx):b<W.heap.size:=World.block_lt_of_cell? W _ h.pts
def meetsB (zs ys:List S37):Bool:=(List.finRange zs.length).any fun i=>(List.finRange ys.length).any fun j=>segMeet (sgP (edS zs i)) (sgP (edS ys j))
set_option maxHeartbeats 4000000 in
set_option maxRecDepth 100000 in
theorem meets_calls (b1 b2:Nat)(A1 A2 n1 n2:Option Addr)(c1 c2:Nat)(zs ys:List S37)(r:Bool)(w:World)(h1:RingAt w b1 A1 c1 zs n1)(h2:RingAt w b2 A2 c2 ys n2)(hl1:0<zs.length∧zs.length≤8)(hl2:0<ys.length∧ys.length≤8)(h:meetsB zs ys=r):
  Calls Tryd.prog 80 #[.pointer (some ⟨b1,0,none⟩),.pointer (some ⟨b2,0,none⟩)] w fun e w'=>e=.returned (.bool r)∧Below w.heap.size w w':=by
 have hR:=Aside0.mk h;clear h;have hu61:=Tryd.underlying89;obtain⟨p1,_,k1,_⟩:=h1;refine (callsIn_wide (n:=9)).1 ?_;refine callsIn_of_wp_marks Tryd.func80 rfl trivial ?_ rfl;simp only [Tryd.ntmps80,List.size_toArray,List.length_cons,List.length_nil,Nat.reduceAdd,Nat.reduceSub,Array.replicate_succ,Array.replicate_zero,List.push_toArray,List.append_toArray,List.nil_append,List.cons_append];have hAb1:=row_lt k1 hl1.1;have hAb2:=row_lt h2.row hl2.1;have q1:((w.alloc (.cells #[.pointer (some ⟨b2,0,none⟩)] 53)).alloc (.cells #[.bool false] 4)).cell? ⟨b1,0,none⟩=some (.slice A1 zs.length c1):=pw_cell_below (below_alloc (below_alloc (Below.refl _ w) _) _) p1;gi_wp2_with (refine⟨trivial,?_⟩;gi_at_call 59;refine (edges_in _ _ _ _ _).mono ?_;rintro e w' ⟨rfl,rfl⟩);have bO:=((Boxed.new w 53 (.pointer (some ⟨b2,0,none⟩))).alloc (.cells #[.bool false] 4)).alloc (.cells #[.slice A1 zs.length c1] 23);have bR:=(Boxed.new (w.alloc (.cells #[.pointer (some ⟨b2,0,none⟩)] 53)) 4 (.bool false)).alloc (.cells #[.slice A1 zs.length c1] 23);have bC:=Boxed.new ((w.alloc (.cells #[.pointer (some ⟨b2,0,none⟩)] 53)).alloc (.cells #[.bool false] 4)) 23 (.slice A1 zs.length c1);simp only [World.size_alloc] at bR bC;have hB0:Below w.heap.size w (((w.alloc (.cells #[.pointer (some ⟨b2,0,none⟩)] 53)).alloc (.cells #[.bool false] 4)).alloc (.cells #[.slice A1 zs.length c1] 23)):=below_alloc (below_alloc (below_alloc (Below.refl _ w) _) _) _;have hsz:(((w.alloc (.cells #[.pointer (some ⟨b2,0,none⟩)] 53)).alloc (.cells #[.bool false] 4)).alloc (.cells #[.slice A1 zs.length c1] 23)).heap.size=w.heap.size+3:=by simp
 obtain⟨W0,hW0⟩:∃ W0,((w.alloc (.cells #[.pointer (some ⟨b2,0,none⟩)] 53)).alloc (.cells #[.bool false] 4)).alloc (.cells #[.slice A1 zs.length c1] 23)=W0:=⟨_,rfl⟩;rw [hW0] at bO bR bC hB0 hsz ⊢
 clear hW0 q1;refine wpIn_rangeFunc_ownH rfl (by omega) (gf:=81) (lb:=#[.pointer (some ⟨w.heap.size+1+1,0,none⟩)]) rfl trivial (enters_of Tryd.func81 (by kernel_rfl) rfl)
  (edges_stops 8 (by omega) (w.heap.size+1+1) w.heap.size A1 c1 zs (by omega) hAb1 W0 (by omega) (by omega) bC.cell (Kd.C_below k1 hB0)) (fun h k=>KpE.trans h k) (fun W l o o' hl _ _ _=>KpE.putObj W l o' (by omega) (by omega)) (Below.refl _ _) (fun _=>rfl)
  (fun pre W=>(((∀ x∈pre,∀ y:Fin ys.length,segMeet (sgP (edS zs (x:Fin zs.length))) (sgP (edS ys y))=false)∧Boxed W (w.heap.size+1) 4 (.bool false))∧Boxed W w.heap.size 53 (.pointer (some ⟨b2,0,none⟩)))∧Below w.heap.size w W)
  (fun c pre W=>((c=.ret∧∃ (x:Fin zs.length) (y:Fin ys.length),segMeet (sgP (edS zs x)) (sgP (edS ys y))=true)∧Boxed W (w.heap.size+1) 4 (.bool true))∧Below w.heap.size w W)
  (OwnFrom.and (OwnFrom.and (OwnFrom.and (ownFrom_pure _ _) (Own.from (boxed_own _ _ _) _)) (Own.from (boxed_own _ _ _) _)) (ownFrom_below (Nat.le_refl _) (by omega)))
  (fun c=>OwnFrom.and (OwnFrom.and (ownFrom_pure _ _) (Own.from (boxed_own _ _ _) _)) (ownFrom_below (Nat.le_refl _) (by omega)))
  ⟨⟨⟨by simp,bR⟩,bO⟩,hB0⟩
  (fun x a' W=>∃ Bx,W.heap[Bx]?=some (segObj (edS zs x))∧a'={ tmps:=#[.pointer (some ⟨b1,0,none⟩),.pointer (some ⟨b2,0,none⟩),undef,.pointer (some ⟨w.heap.size,0,none⟩),.pointer (some ⟨w.heap.size+1,0,none⟩),undef,.pointer (some ⟨Bx,0,none⟩),undef,undef,.pointer (some ⟨b1,0,none⟩),.pointer (some ⟨b1,0,none⟩),.pointer (some ⟨b1,0,none⟩),.slice A1 zs.length c1,.func (.func 81) #[] #[.pointer (some ⟨w.heap.size+1+1,0,none⟩)],.int .i64 ((x:Nat):Int),.agg #[.int .i64 (edS zs x).f0.f0,.int .i64 (edS zs x).f0.f1,.int .i64 (edS zs x).f1.f0,.int .i64 (edS zs x).f1.f1],undef,undef,undef,undef,undef,undef,undef,undef,undef,undef],defers:=[] })
  (fun x a' _ X Y row hs hg hr=>by obtain⟨Bx,e2,e3⟩:=hs;exact⟨Bx,segObj_own Bx (edS zs x) () X Y row e2 hg (fun r e=>(hr r e).2),e3⟩)
  ?assign ?body ?done ?stop
 case assign =>
  rintro l pre x W K ⟨⟨⟨hq,bR1⟩,bO1⟩,hB1⟩ hK;have hBs:=hB1.size;dsimp only [encE,edV];gi_wp2;exact hK _ _ ((KeepsOthers.alloc _ _).from _) (KpE.alloc _ _ _ _) ⟨⟨⟨hq,bR1.alloc _⟩,bO1.alloc _⟩,below_alloc hB1 _⟩ ⟨W.heap.size,World.alloc_heap_new W _,rfl⟩
 case body =>
  rintro l pre x a' W hl ⟨rr,hrr⟩ ⟨⟨⟨hq,bR1⟩,bO1⟩,hB1⟩ ⟨Bx,bX,rfl⟩ hlt;have hO:=h2.later hB1;have cO:=bO1.cell;have p2:=hO.pts;gi_wp2_with (refine⟨trivial,?_⟩;gi_at_call 59;refine (CallsIn.inRound l (edges_in _ _ _ _ _)).mono ?_;rintro e w' ⟨rfl,rfl⟩);clear cO p2;have bN:=Boxed.new W 23 (.slice A2 ys.length c2);have hr':(W.alloc (.cells #[.slice A2 ys.length c2] 23)).heap[l]?=some (.loop rr):=blk_alloc' hrr _;have bR2:=bR1.alloc (.cells #[.slice A2 ys.length c2] 23);have bO2:=bO1.alloc (.cells #[.slice A2 ys.length c2] 23);have bX2:=blk_alloc' bX (.cells #[.slice A2 ys.length c2] 23);have hB2:=below_alloc hB1 (.cells #[.slice A2 ys.length c2] 23);have hE2:=KpE.alloc w.heap.size (w.heap.size+1+1) W (.cells #[.slice A2 ys.length c2] 23);have hF2:=(KeepsOthers.alloc W (.cells #[.slice A2 ys.length c2] 23)).from W0.heap.size;have hsz3:(W.alloc (.cells #[.slice A2 ys.length c2] 23)).heap.size=W.heap.size+1:=by simp
  have hBW:=hB1.size;have hRW:=bR1.lt;obtain⟨W3,hW3⟩:∃ W3,W.alloc (.cells #[.slice A2 ys.length c2] 23)=W3:=⟨_,rfl⟩;rw [hW3] at bN hr' bR2 bO2 bX2 hB2 hE2 hF2 hsz3 ⊢
  clear hW3;obtain⟨Bc,hBc⟩:∃ Bc,W.heap.size=Bc:=⟨_,rfl⟩;rw [hBc] at bN ⊢
  refine wpIn_rangeFunc_ownN (l₀:=l) (r₀:=rr) rfl hr' (by omega) (gf:=81) (lb:=#[.pointer (some ⟨Bc,0,none⟩)]) rfl trivial (enters_of Tryd.func81 (by kernel_rfl) rfl)
   ((edges_stops 6 (by omega) Bc w.heap.size A2 c2 ys (by omega) hAb2 W3 (by omega) (by omega) bN.cell (Kd.C_below h2.row hB2)).inRound l) (fun h k=>KpE.trans h k) (fun W l o o' hl _ _ _=>KpE.putObj W l o' (by omega) (by omega)) (Below.refl _ _) (fun _=>rfl)
   (fun pre' W'=>((((∀ y∈pre',segMeet (sgP (edS zs x)) (sgP (edS ys (y:Fin ys.length)))=false)∧Boxed W' (w.heap.size+1) 4 (.bool false))∧Boxed W' w.heap.size 53 (.pointer (some ⟨b2,0,none⟩)))∧W'.heap[Bx]?=some (segObj (edS zs x)))∧(Below w.heap.size w W'∧KpE w.heap.size (w.heap.size+1+1) W W')∧KeepsFrom W0.heap.size W W')
   (fun c pre' W'=>((c=.ret∧∃ y:Fin ys.length,segMeet (sgP (edS zs x)) (sgP (edS ys y))=true)∧Boxed W' (w.heap.size+1) 4 (.bool true))∧Below w.heap.size w W'∧KeepsFrom W0.heap.size W W')
   (OwnFrom.and (OwnFrom.and (OwnFrom.and (OwnFrom.and (ownFrom_pure _ _) (Own.from (boxed_own _ _ _) _)) (Own.from (boxed_own _ _ _) _)) (Own.from (blk_own _ (fun _=>segObj (edS zs x)) (fun _=>rfl)) _)) (OwnFrom.and (OwnFrom.and (ownFrom_below (Nat.le_refl _) (by omega)) (ownFrom_kpE (by omega))) (ownFrom_keepsFrom (by omega))))
   (fun c=>OwnFrom.and (OwnFrom.and (ownFrom_pure _ _) (Own.from (boxed_own _ _ _) _)) (OwnFrom.and (ownFrom_below (Nat.le_refl _) (by omega)) (ownFrom_keepsFrom (by omega))))
   ⟨⟨⟨⟨by simp,bR2⟩,bO2⟩,bX2⟩,⟨hB2,hE2⟩,hF2⟩
   (fun y a'' W'=>∃ Bt,W'.heap[Bt]?=some (segObj (edS ys y))∧a''={ tmps:=#[.pointer (some ⟨b1,0,none⟩),.pointer (some ⟨b2,0,none⟩),undef,.pointer (some ⟨w.heap.size,0,none⟩),.pointer (some ⟨w.heap.size+1,0,none⟩),undef,.pointer (some ⟨Bx,0,none⟩),undef,.pointer (some ⟨Bt,0,none⟩),.pointer (some ⟨b1,0,none⟩),.pointer (some ⟨b1,0,none⟩),.pointer (some ⟨b1,0,none⟩),.slice A1 zs.length c1,.func (.func 81) #[] #[.pointer (some ⟨w.heap.size+1+1,0,none⟩)],.int .i64 ((x:Nat):Int),.agg #[.int .i64 (edS zs x).f0.f0,.int .i64 (edS zs x).f0.f1,.int .i64 (edS zs x).f1.f0,.int .i64 (edS zs x).f1.f1],.pointer (some ⟨b2,0,none⟩),.pointer (some ⟨b2,0,none⟩),.pointer (some ⟨b2,0,none⟩),.slice A2 ys.length c2,.func (.func 81) #[] #[.pointer (some ⟨Bc,0,none⟩)],.int .i64 ((y:Nat):Int),.agg #[.int .i64 (edS ys y).f0.f0,.int .i64 (edS ys y).f0.f1,.int .i64 (edS ys y).f1.f0,.int .i64 (edS ys y).f1.f1],undef,undef,undef],defers:=[] })
   (fun y a'' _ X Y row hs hg hr=>by obtain⟨Bt,e2,e3⟩:=hs;exact⟨Bt,segObj_own Bt (edS ys y) () X Y row e2 hg (fun r e=>(hr r e).2),e3⟩)
   ?assign2 ?body2 ?done2 ?stop2
  case assign2 =>
   rintro l2 pre' y W' K ⟨⟨⟨⟨hq2,bR⟩,bO⟩,bX⟩,⟨hB,hE⟩,hF⟩ hKK;dsimp only [encE,edV];gi_wp2;exact hKK _ _ ((KeepsOthers.alloc _ _).from _) (KpE.alloc _ _ _ _) ⟨⟨⟨⟨hq2,bR.alloc _⟩,bO.alloc _⟩,blk_alloc' bX _⟩,⟨below_alloc hB _,hE.trans (KpE.alloc _ _ _ _)⟩,hF.trans ((KeepsOthers.alloc _ _).from _)⟩ ⟨W'.heap.size,World.alloc_heap_new W' _,rfl⟩
  case body2 =>
   rintro l2 pre' y a'' W' _ _ ⟨⟨⟨⟨hq2,bR⟩,bO⟩,bX⟩,⟨hB,hE⟩,hF⟩ ⟨Bt,bT,rfl⟩ _;have cX0:W'.cell? ⟨Bx,0,none⟩=some (.int .i64 (edS zs x).f0.f0):=(blk_cell bX 0).trans rfl;have cX1:W'.cell? ⟨Bx,1,none⟩=some (.int .i64 (edS zs x).f0.f1):=(blk_cell bX 1).trans rfl;have cX2:W'.cell? ⟨Bx,2,none⟩=some (.int .i64 (edS zs x).f1.f0):=(blk_cell bX 2).trans rfl;have cX3:W'.cell? ⟨Bx,3,none⟩=some (.int .i64 (edS zs x).f1.f1):=(blk_cell bX 3).trans rfl;have cT0:W'.cell? ⟨Bt,0,none⟩=some (.int .i64 (edS ys y).f0.f0):=(blk_cell bT 0).trans rfl;have cT1:W'.cell? ⟨Bt,1,none⟩=some (.int .i64 (edS ys y).f0.f1):=(blk_cell bT 1).trans rfl;have cT2:W'.cell? ⟨Bt,2,none⟩=some (.int .i64 (edS ys y).f1.f0):=(blk_cell bT 2).trans rfl;have cT3:W'.cell? ⟨Bt,3,none⟩=some (.int .i64 (edS ys y).f1.f1):=(blk_cell bT 3).trans rfl;have HJ:=iSegMeet (k:=3) (by omega) (edS zs x).f0.f0 (edS zs x).f0.f1 (edS zs x).f1.f0 (edS zs x).f1.f1 (edS ys y).f0.f0 (edS ys y).f0.f1 (edS ys y).f1.f0 (edS ys y).f1.f1
   cases hb:segMeet (sgP (edS zs x)) (sgP (edS ys y)) with
   | false =>
    replace HJ:=HJ.trans (congrArg some hb);gi_wp2_with (refine⟨trivial,?_⟩;gi_at_call 70;refine (CallsIn.inRound l2 (callsIn_wide.2 (impl_SegMeet.calls 3 _ _ _ _ _ _ _ _ false _ HJ))).mono ?_;rintro e w1 ⟨rfl,hb1⟩);exact⟨keeps_below hb1,KpE.below hb1,⟨⟨⟨fun z hz=>(List.mem_append.1 hz).elim (hq2 z) (fun e=>by simp at e;subst e;exact hb),box_later bR hb1⟩,box_later bO hb1⟩,blk_later bX hb1⟩,⟨below_row hB (Nat.le_refl _) hb1,hE.trans (KpE.below hb1)⟩,hF.trans (keeps_below hb1)⟩
   | true =>
    replace HJ:=HJ.trans (congrArg some hb);gi_wp2_with (refine⟨trivial,?_⟩;gi_at_call 70;refine (CallsIn.inRound l2 (callsIn_wide.2 (impl_SegMeet.calls 3 _ _ _ _ _ _ _ _ true _ HJ))).mono ?_;rintro e w1 ⟨rfl,hb1⟩;have cR1:=(box_later bR hb1).cell;have fR1:=(box_later bR hb1).frozen);exact⟨(keeps_below hb1).trans ((KeepsOthers.setCell _ _ _).from _),⟨⟨rfl,y,hb⟩,(box_later bR hb1).set _⟩,(below_row hB (Nat.le_refl _) hb1).setCell (p:=⟨w.heap.size+1,0,none⟩) (by simp) _,(hF.trans (keeps_below hb1)).trans ((KeepsOthers.setCell _ _ _).from _)⟩
  case done2 =>
   rintro ys' W' rfl ⟨⟨⟨⟨hq2,bR⟩,bO⟩,bX⟩,⟨hB,hE⟩,hF⟩;gi_wp2;exact⟨hF,hE,⟨⟨fun z hz y=>(List.mem_append.1 hz).elim (fun hm=>hq z hm y) (fun e=>by simp at e;subst e;exact hq2 y (List.mem_finRange _)),bR⟩,bO⟩,hB⟩
  case stop2 =>
   rintro c pre' W' hpre ⟨⟨⟨rfl,y,hy⟩,bR⟩,hB,hF⟩;gi_wp2;exact⟨hF,⟨⟨rfl,x,y,hy⟩,bR⟩,hB⟩
 case stop =>
  rintro D c pre W hD _ ⟨⟨⟨rfl,x,y,hs⟩,bR1⟩,hB1⟩ hK;obtain rfl:r=true:=by
   rw [← hR.out];unfold meetsB;rw [List.any_eq_true];exact⟨x,List.mem_finRange _,List.any_eq_true.2 ⟨y,List.mem_finRange _,hs⟩⟩
  gi_wp2;have hD1:∀ E∈[D],W.heap[E]?=some (.deferred (some [])):=by simpa using hK
  refine leavesM_marks [D] W (by simp) hD1 (fun w' h1 h2 h3 h4 h5=>?_);have hc5:=(marks_boxed bR1 hD1 h1).cell;refine⟨.bool true,?_,rfl,marks_below hB1 (by simp;omega) h1 h2 h3 h4 h5⟩;simp [results,Tryd.f80,go_sem,hc5]
 case done =>
  rintro D ys' W hD rfl ⟨⟨⟨hq,bR1⟩,bO1⟩,hB1⟩ hK;obtain rfl:r=false:=by
   rw [← hR.out];unfold meetsB;rw [List.any_eq_false];intro x _;rw [Bool.not_eq_true,List.any_eq_false];intro y _;rw [Bool.not_eq_true];exact hq x (List.mem_finRange _) y
  have cR:=bR1.cell;have fR:=bR1.frozen;gi_wp2;have hD1:∀ E∈[D],(W.setCell ⟨w.heap.size+1,0,none⟩ (.bool false)).heap[E]?=some (.deferred (some [])):=by
   intro E hE;simp at hE;subst hE;exact blk_set hK rfl bR1 _
  refine leavesM_marks [D] _ (by simp) hD1 (fun w' h1 h2 h3 h4 h5=>?_);have hc5:=(marks_boxed (bR1.set (.bool false)) hD1 h1).cell;refine⟨.bool false,?_,rfl,marks_below (hB1.setCell (p:=⟨w.heap.size+1,0,none⟩) (by simp) _) (by simp;omega) h1 h2 h3 h4 h5⟩;simp [results,Tryd.f80,go_sem,hc5]
end Go.Proofs.YtailkppkjhkjpaaDoor.X
end
section
set_option linter.unusedVariables false
set_option linter.unusedSimpArgs false
namespace Go.Proofs.YtailkppkjhkjpaaDoor.X
open Go.RowKit Go.Shelf Go.Proofs.YtailkppkjhkjpaaDoorW.PrintWords Go.Proofs.YtailkppkjhkjpaaDoorW.PrintLast Go.Proofs.YtailkppkjhkjpaaDoorW.PrintMore
open Mort (edges segMeet loopOk ptOk inOf)
def RingsAt (W:World):Option Addr→List (List S37)→Prop
 | p,[]=>p=none
 | p,zs::rest=>∃ b A c nx,p=some ⟨b,0,none⟩∧RingAt W b A c zs nx∧RingsAt W nx rest
theorem RingsAt.later {W W':World}(hb:Below W.heap.size W W'):∀ {p:Option Addr} {R:List (List S37)},RingsAt W p R→RingsAt W' p R
 | _,[],h=>h
 | _,_::_,⟨b,A,c,nx,e,h,k⟩=>⟨b,A,c,nx,e,h.later hb,RingsAt.later hb k⟩
def Small (R:List (List S37)):Prop:=∀ z∈R,0<z.length∧z.length≤8
def apartAll:List (List S37)→Bool
 | []=>true
 | z::rest=>(rest.all fun y => !meetsB z y) && apartAll rest
set_option maxHeartbeats 4000000 in
set_option maxRecDepth 100000 in
theorem apart_calls (b:Nat)(R:List (List S37))(r:Bool)(w:World)(hR:RingsAt w (some ⟨b,0,none⟩) R)(hS:Small R)(h:apartAll R=r):
  Calls Tryd.prog 57 #[.pointer (some ⟨b,0,none⟩)] w fun e w'=>e=.returned (.bool r)∧Below w.heap.size w w':=by
 have HR:=Aside0.mk h;clear h;go_enter Tryd.func57,Tryd.ntmps57;go_wp2;go_loopg [3] R.length (fun kq v3 wr=>∃ (p:Option Addr) (rest:List (List S37)),v3=.pointer p∧Aside0 (kq=rest.length∧RingsAt wr p rest∧Small rest∧apartAll rest=r∧Below w.heap.size w wr))
 case atStart=>exact⟨_,R,rfl,⟨rfl,hR,hS,HR.out,Below.refl _ _⟩⟩
 case round =>
  obtain⟨p,rest,rfl,H⟩:=hrel;obtain⟨hk,hr,hs,ha,hB⟩:=H.out;clear H
  cases rest with
  | nil =>
   obtain rfl:p=none:=hr;obtain rfl:true=r:=ha;clear HR;have HB:=Aside0.mk hB;clear hB hk;go_wp2;go_ret;exact⟨rfl,HB.out⟩
  | cons z rest =>
   obtain⟨b1,A1,c1,n1,rfl,hz,hrest⟩:=hr;have hn:=hz.nxt;have HZ:=a0_ (And.intro hz (And.intro hrest (And.intro hs (And.intro ha (And.intro hB hk)))));clear hz hrest hs ha hB hk HR;go_wp2;go_loopg [4] rest.length (fun kq v4 w2=>∃ (q:Option Addr) (rest2:List (List S37)),v4=.pointer q∧Aside0 (kq=rest2.length∧RingsAt w2 q rest2∧Small rest2∧((rest2.all fun y => !meetsB z y) && apartAll rest)=r∧RingAt w2 b1 A1 c1 z n1∧RingsAt w2 n1 rest∧Below w.heap.size w w2))
   case atStart =>
    obtain⟨hz,hrest,hs,ha,hB,hk⟩:=HZ.out;exact⟨n1,rest,rfl,⟨rfl,hrest,fun y hy=>hs y (List.mem_cons_of_mem _ hy),ha,hz,hrest,hB⟩⟩
   case round =>
    obtain⟨q,rest2,rfl,H⟩:=hrel;obtain⟨hk2,hr2,hs2,ha2,hz2,hrest2,hB2⟩:=H.out;clear H hn
    cases rest2 with
    | nil =>
     obtain rfl:q=none:=hr2;simp only [List.all_nil,Bool.true_and] at ha2;have hn2:=hz2.nxt;obtain⟨_,_,hs,_,_,hk⟩:=HZ.out;have HZ2:=a0_ (And.intro hrest2 (And.intro (show Small rest from fun y hy=>hs y (List.mem_cons_of_mem _ hy)) (And.intro ha2 (And.intro hB2 hk))));clear hz2 hrest2 ha2 hB2 hk2 hs2 hs hk HZ;go_wp2;obtain⟨h1,h2,h3,h4,h5⟩:=HZ2.out;go_roundg rest.length
     case measure=>rw [h5];simp
     case rel=>exact⟨n1,rest,rfl,⟨rfl,h1,h2,h3,h4⟩⟩
    | cons y rest2 =>
     obtain⟨b2,A2,c2,n2,rfl,hy,hrr⟩:=hr2;obtain⟨_,_,hs,_,_,_⟩:=HZ.out;have hsz:=hs z List.mem_cons_self;have hsy:=hs2 y List.mem_cons_self;have hny:=hy.nxt
     cases hm:meetsB z y with
     | true =>
      obtain rfl:false=r:=by rw [← ha2];simp [hm]
      have HK:=a0_ (And.intro hz2 (And.intro hy (And.intro hsz (And.intro hsy (And.intro hm hB2)))));clear hz2 hy hsz hsy hm hB2 hk2 hs2 ha2 hrest2 hrr hs HZ;go_wp2_with (go_at_call 80;refine (meets_calls b1 b2 A1 A2 n1 n2 c1 c2 z y true _ HK.out.1 HK.out.2.1 HK.out.2.2.1 HK.out.2.2.2.1 HK.out.2.2.2.2.1).mono ?_;rintro e w3 ⟨rfl,hb⟩);go_ret;exact⟨rfl,below_step HK.out.2.2.2.2.2 hb⟩
     | false =>
      have ha3:((rest2.all fun y => !meetsB z y) && apartAll rest)=r:=by rw [← ha2];simp [hm]
      have HK:=a0_ (And.intro hz2 (And.intro hy (And.intro hsz (And.intro hsy (And.intro hm (And.intro hB2 (And.intro hrr (And.intro (show Small rest2 from fun u hu=>hs2 u (List.mem_cons_of_mem _ hu)) (And.intro ha3 (And.intro hrest2 hk2))))))))));clear hz2 hy hsz hsy hm hB2 hk2 hs2 ha2 ha3 hrest2 hrr hs;go_wp2_with (go_at_call 80;refine (meets_calls b1 b2 A1 A2 n1 n2 c1 c2 z y false _ HK.out.1 HK.out.2.1 HK.out.2.2.1 HK.out.2.2.2.1 HK.out.2.2.2.2.1).mono ?_;rintro e w3 ⟨rfl,hb⟩;have hny3:=pw_cell_below hb hny);obtain⟨k1,k2,k3,k4,k5,k6,k7,k8,k9,k10,k11⟩:=HK.out;go_roundg rest2.length
      case measure=>rw [k11];simp
      case rel=>exact⟨n2,rest2,rfl,⟨rfl,k7.later hb,k8,k9,k1.later hb,k10.later hb,below_step k6 hb⟩⟩
def ptrAt (bs:List Nat)(i:Nat):Option Addr:=(bs[i]?).map fun b=>(⟨b,0,none⟩:Addr)
structure RingsIx (W:World) (bs:List Nat) (H:List (List S37)):Prop where
 len:bs.length=H.length
 nd:bs.Nodup
 ring:∀ i,i<H.length→∃ A c,RingAt W (bs.getD i 0) A c (H.getD i []) (ptrAt bs (i+1))∧W.heap[bs.getD i 0]?=some (.cells #[.slice A (H.getD i []).length c,.pointer (ptrAt bs (i+1))] 55 (0,0))
theorem RingsIx.later {W W':World}{bs:List Nat}{H:List (List S37)}(h:RingsIx W bs H)(hb:Below W.heap.size W W'):RingsIx W' bs H:=
 ⟨h.len,h.nd,fun i hi=>by obtain⟨A,c,k,o⟩:=h.ring i hi;exact⟨A,c,k.later hb,blk_later o hb⟩⟩
theorem ptrAt_some {bs:List Nat}{i:Nat}(h:i<bs.length):ptrAt bs i=some ⟨bs.getD i 0,0,none⟩:=by
 unfold ptrAt;rw [List.getD_eq_getElem?_getD,List.getElem?_eq_getElem h];rfl
theorem ptrAt_none {bs:List Nat}{i:Nat}(h:bs.length≤i):ptrAt bs i=none:=by
 unfold ptrAt;rw [List.getElem?_eq_none h];rfl
theorem RingsIx.at {W:World}{bs:List Nat}{H:List (List S37)}(h:RingsIx W bs H):∀ (n k:Nat),H.length-k=n→RingsAt W (ptrAt bs k) (H.drop k):=by
 intro n
 induction n with
 | zero =>
  intro k hk;have hl:=h.len;rw [List.drop_of_length_le (by omega),ptrAt_none (by omega)];rfl
 | succ n ih =>
  intro k hk;have hl:=h.len;have hlt:k<H.length:=by omega
  rw [ptrAt_some (by omega),List.drop_eq_getElem_cons hlt];obtain⟨A,c,hr,_⟩:=h.ring k hlt;have e:H.getD k []=H[k]:=by rw [List.getD_eq_getElem?_getD,List.getElem?_eq_getElem hlt];rfl
  rw [e] at hr;exact⟨_,A,c,_,rfl,hr,ih (k+1) (by omega)⟩
theorem infoRing:(Tryd.prog.info? 55).map (fun i=>(i.zero,i.size,i.bytes))=some (some (.agg #[.slice none 0 0,.pointer none]),2,32):=by kernel_rfl
theorem neq_same (w:World)(a:Addr):(binOp .neq 53 (.pointer (some a)) (.pointer (some a))).run Tryd.prog w=.ok (.bool false) w:=by
 obtain⟨i0,hi,hz0,hz1,hz2⟩:=info_parts infoRing;have h:∀ d:Nat,(Op.equalIn (d+1) 53 (.pointer (some a)) (.pointer (some a))).run Tryd.prog w=.ok true w:=fun d=>by
  simp [Op.equalIn,run_underlying Tryd.underlying53,sizeOf,typeInfo,hi,run_sameAddr_same]
 simp only [binOp];simp [Op.equal,Op.maxDepth,h 9999]
theorem neq_other (w:World){a b:Nat}{ca cb:Array Value}{ta tb:TypeId}(hne:a≠b)(ha:w.heap[a]?=some (.cells ca ta (0,0)))(hb:w.heap[b]?=some (.cells cb tb (0,0))):
  (binOp .neq 53 (.pointer (some ⟨a,0,none⟩)) (.pointer (some ⟨b,0,none⟩))).run Tryd.prog w=.ok (.bool true) w:=by
 obtain⟨i0,hi,hz0,hz1,hz2⟩:=info_parts infoRing;have h:∀ d:Nat,(Op.equalIn (d+1) 53 (.pointer (some ⟨a,0,none⟩)) (.pointer (some ⟨b,0,none⟩))).run Tryd.prog w=.ok false w:=fun d=>by
  have hs:=run_sameAddr_other (P:=Tryd.prog) w (a:=⟨a,0,none⟩) (b:=⟨b,0,none⟩) (by simpa using hne) ha hb;simp [Op.equalIn,run_underlying Tryd.underlying53,sizeOf,typeInfo,hi,hz1,hs]
 simp only [binOp];simp [Op.equal,Op.maxDepth,h 9999]
structure BodyAt (W:World) (b:Nat) (bs:List Nat) (o:List S37) (H:List (List S37)):Prop where
 outer:∃ A c,RingAt W b A c o (ptrAt bs 0)
 holes:RingsIx W bs H
theorem BodyAt.later {W W':World}{b:Nat}{bs:List Nat}{o:List S37}{H:List (List S37)}(h:BodyAt W b bs o H)(hb:Below W.heap.size W W'):BodyAt W' b bs o H:=
 ⟨by obtain⟨A,c,k⟩:=h.outer;exact⟨A,c,k.later hb⟩,h.holes.later hb⟩
theorem BodyAt.rings {W:World}{b:Nat}{bs:List Nat}{o:List S37}{H:List (List S37)}(h:BodyAt W b bs o H):RingsAt W (some ⟨b,0,none⟩) (o::H):=by
 obtain⟨A,c,k⟩:=h.outer;have:=h.holes.at _ 0 rfl;rw [List.drop_zero] at this;exact⟨b,A,c,_,rfl,k,this⟩
def fstP (z:List S37):Mort.Pt:=ptP (z.getD 0 z37)
def inS (z:List S37)(p:Mort.Pt):Int:=inOf (z.map ptP) p
def okN (H:List (List S37))(i j:Nat):Bool:=i==j || inS (H.getD j []) (fstP (H.getD i [])) == -1
def rowN (o:List S37)(H:List (List S37))(i:Nat):Bool:=inS o (fstP (H.getD i []))==1 && (List.range' 0 H.length).all (okN H i)
def nestedAll (o:List S37)(H:List (List S37)):Bool:=(List.range' 0 H.length).all (rowN o H)
theorem inside_told (b:Nat)(A nx:Option Addr)(c:Nat)(z:List S37)(x y:Int)(w:World)(h:RingAt w b A c z nx)(hz:loopOk (z.map ptP)=true)(hp:ptOk (x,y)=true):
  Calls Tryd.prog 53 #[.slice A z.length c,.agg #[.int .i64 x,.int .i64 y]] w fun e w'=>e=.returned (.int .i64 (inS z (x,y)))∧Below w.heap.size w w':=
 impl_insideOf.calls A c z x y _ w h.row h.cap (by unfold impl_insideOf.f;rw [if_pos ⟨hz,hp⟩];rfl)
set_option maxHeartbeats 4000000 in
set_option maxRecDepth 100000 in
theorem nested_calls (b:Nat)(bs:List Nat)(o:List S37)(H:List (List S37))(r:Bool)(w:World)(hB:BodyAt w b bs o H)(ho:loopOk (o.map ptP)=true)(hH:∀ z∈H,loopOk (z.map ptP)=true)(h:nestedAll o H=r):
  Calls Tryd.prog 58 #[.pointer (some ⟨b,0,none⟩)] w fun e w'=>e=.returned (.bool r)∧Below w.heap.size w w':=by
 have hh:∀ i,i<H.length→loopOk ((H.getD i []).map ptP)=true:=fun i hi=>by
  rw [List.getD_eq_getElem?_getD,List.getElem?_eq_getElem hi];exact hH _ (List.getElem_mem hi)
 have hpos:∀ i,i<H.length→0<(H.getD i []).length:=fun i hi=>by have:=Mort.loop_pos (hh i hi);simpa using this
 have hfst:∀ i,i<H.length→ptOk (fstP (H.getD i []))=true:=fun i hi=>by
  have h1:=((Mort.loopOk_iff _).1 (hh i hi)).2.2.1;have h2:=(Mort.segOk_iff _).1 (h1 _ (Mort.mem_edges.2 ⟨0,by have:=hpos i hi;simpa using this,rfl⟩));rw [ed_edS] at h2;exact h2.1
 clear hH;have hu28:=Tryd.underlying37;have HR:=Aside0.mk h;have HB0:=Aside0.mk hB;obtain⟨A0,c0,hout⟩:=hB.outer;have hn0:=hout.nxt;have hlen:=hB.holes.len;have HH:=a0_ (And.intro ho (And.intro hh (And.intro hpos (And.intro hfst hlen))));clear h hB hout ho hh hpos hfst hlen;go_enter Tryd.func58,Tryd.ntmps58;go_wp2;go_loopg [3] H.length (fun kq v3 wr=>∃ i:Nat,v3=.pointer (ptrAt bs i)∧Aside0 (kq=H.length-i∧i≤H.length∧BodyAt wr b bs o H∧(List.range' i (H.length-i)).all (rowN o H)=r∧Below w.heap.size w wr))
 case atStart=>exact⟨0,rfl,⟨rfl,Nat.zero_le _,HB0.out,HR.out,Below.refl _ _⟩⟩
 case round =>
  obtain⟨i,rfl,H1⟩:=hrel;obtain⟨hk,hi,hB,ha,hBw⟩:=H1.out;obtain⟨ho,hh,hpos,hfst,hlen⟩:=HH.out;clear H1 hn0;by_cases hlt:i<H.length
  ·
   obtain⟨A1,c1,hring,_⟩:=hB.holes.ring i hlt;obtain⟨A2,c2,hout⟩:=hB.outer;have hpi:=ptrAt_some (bs:=bs) (i:=i) (by omega);obtain⟨ad,hA1,hx0,hx1⟩:=at_pt hring.row 0 (hpos i hlt);have hpts:=hring.pts;have hl0:0<(H.getD i []).length:=hpos i hlt;rw [hpi];subst hA1;have p0:wr.cell? ad=some (.int .i64 ((H.getD i []).getD 0 z37).f0):=by have:=hx0;rwa [Nat.zero_mul,show ad.add 0=ad from rfl] at this
   have p1:wr.cell? ⟨ad.block,ad.off+1,none⟩=some (.int .i64 ((H.getD i []).getD 0 z37).f1):=by have:=hx1;rwa [Nat.zero_mul,show ad.add 0=ad from rfl] at this
   clear hx0 hx1;have hf0:ptOk (((H.getD i []).getD 0 z37).f0,((H.getD i []).getD 0 z37).f1)=true:=hfst i hlt;have hF:=a0_ (show fstP (H.getD i [])=(((H.getD i []).getD 0 z37).f0,((H.getD i []).getD 0 z37).f1) from rfl);generalize ((H.getD i []).getD 0 z37).f0=fx at *;generalize ((H.getD i []).getD 0 z37).f1=fy at *;have HK:=a0_ (And.intro hB (And.intro ha (And.intro hBw (And.intro hk (And.intro hring (And.intro hout (And.intro hf0 (And.intro hh ho))))))));have lo:=hout.pts;have bi1:=hring.pts;have bi2:=hring.nxt;clear hB ha hBw hk hring hout hpos hfst hlen hi hpi hf0 hh ho HB0 HR;generalize (H.getD i []).length=lz at *;generalize hbi:bs.getD i 0=bi at *;have hbi':=Aside0.mk hbi;clear hbi;go_wp2;have lo1:=pw_cell_below (below_drew1 (below_alloc (Below.refl _ wr) (.cells #[.int .i64 fx,.int .i64 fy] 37))) lo;have hb0:=below_drew1 (below_alloc (Below.refl wr.heap.size wr) (.cells #[.int .i64 fx,.int .i64 fy] 37));have nb:=World.alloc_heap_new wr (.cells #[.int .i64 fx,.int .i64 fy] 37 (0,0));have f0:((wr.alloc (.cells #[.int .i64 fx,.int .i64 fy] 37)).drew).cell? ⟨wr.heap.size,0,none⟩=some (.int .i64 fx):=(blk_cell nb 0).trans rfl;have f1:((wr.alloc (.cells #[.int .i64 fx,.int .i64 fy] 37)).drew).cell? ⟨wr.heap.size,1,none⟩=some (.int .i64 fy):=(blk_cell nb 1).trans rfl;generalize hg:wr.heap.size=g at *;go_region_held3 (fun W=>W.cell? ⟨b,0,none⟩=some (.slice A2 o.length c2)∧W.cell? ⟨g,0,none⟩=some (.int .i64 fx)∧W.cell? ⟨g,1,none⟩=some (.int .i64 fy))
    (first | exact⟨pw_cell_below hb lo1,pw_cell_below hb f0,pw_cell_below hb f1⟩ | go_keep)
    (first | (go_at_call 53;refine (inside_told b A2 _ c2 o fx fy _ (HK.out.2.2.2.2.2.1.later (hg▸hb0)) HK.out.2.2.2.2.2.2.2.2 HK.out.2.2.2.2.2.2.1).mono ?_;rintro e w3 ⟨rfl,hb⟩))
   have hBd:=HK.out.1.later (hg▸hb0);have hBd3:=hBd.later hb;have hw3:Below w.heap.size w w3:=below_step (below_step HK.out.2.2.1 (hg▸hb0)) hb;have nb3:w3.heap[g]?=some (.cells #[.int .i64 fx,.int .i64 fy] 37 (0,0)):=(hb.block g (Array.getElem?_eq_some_iff.1 nb).1).trans nb;have hall:=HK.out.2.1;obtain⟨m,hm⟩:∃ m,H.length-i=m+1:=⟨H.length-i-1,by omega⟩;rw [hm,List.range'_succ,List.all_cons] at hall;have hrow:rowN o H i=(inS o (fx,fy)==1 && (List.range' 0 H.length).all (okN H i)):=by unfold rowN;rw [hF.out]
   rw [hrow] at hall;have HL:=a0_ (And.intro hall (And.intro hm (And.intro hBd3 (And.intro hw3 (And.intro nb3 HK.out.2.2.2.1)))));have hG:=Aside0.mk hg;clear hall hm hrow hBd hBd3 hw3 nb3 nb hb0 hb lo lo1 f0 f1 bi1 bi2 p0 p1 hg hu28
   cases hin:(inS o (fx,fy)==1) with
   | false =>
    have e1:(inS o (fx,fy) != 1)=true:=by rw [bne,hin];rfl
    obtain rfl:false=r:=by rw [← HL.out.1,hin];rfl
    clear hin;go_wp2;go_ret;exact⟨rfl,HL.out.2.2.2.1⟩
   | true =>
    have e1:(inS o (fx,fy) != 1)=false:=by rw [bne,hin];rfl
    have hall2:((List.range' 0 H.length).all (okN H i) && (List.range' (i+1) m).all (rowN o H))=r:=by rw [← HL.out.1,hin];rfl
    have HA:=Aside0.mk hall2;clear hin hall2;generalize (inS o (fx,fy) != 1)=t30 at e1 ⊢
    subst e1;obtain⟨A3,c3,hout3⟩:=HL.out.2.2.1.outer;have lo2:=hout3.nxt;clear hout3;go_wp2;clear lo2;go_loopg [5] H.length (fun kq v5 w4=>∃ j:Nat,v5=.pointer (ptrAt bs j)∧Aside0 (kq=H.length-j∧j≤H.length∧BodyAt w4 b bs o H∧w4.heap[g]?=some (.cells #[.int .i64 fx,.int .i64 fy] 37 (0,0))∧((List.range' j (H.length-j)).all (okN H i) && (List.range' (i+1) m).all (rowN o H))=r∧Below w.heap.size w w4))
    case atStart=>exact⟨0,rfl,⟨rfl,Nat.zero_le _,HL.out.2.2.1,HL.out.2.2.2.2.1,HA.out,HL.out.2.2.2.1⟩⟩
    case round =>
     obtain⟨j,rfl,H2⟩:=hrel;obtain⟨hkj,hj,hBj,hgj,haj,hwj⟩:=H2.out;have HKJ:=Aside0.mk hkj;clear H2;by_cases hjlt:j<H.length
     ·
      obtain⟨A4,c4,hringj,hoj⟩:=hBj.holes.ring j hjlt;have hl:=hBj.holes.len;have hpj:=ptrAt_some (bs:=bs) (i:=j) (by omega);rw [hpj];obtain⟨m2,hm2⟩:∃ m2,H.length-j=m2+1:=⟨H.length-j-1,by omega⟩;rw [hm2,List.range'_succ,List.all_cons] at haj;by_cases hij:j=i
      ·
       subst hij;rw [hbi'.out];rw [hbi'.out] at hringj;have bj2:=hringj.nxt;have haj2:((List.range' (j+1) m2).all (okN H j) && (List.range' (j+1) m).all (rowN o H))=r:=by rw [← haj];simp [okN]
       have HJ:=a0_ (And.intro haj2 (And.intro hBj (And.intro hgj (And.intro hwj (And.intro hm2 hjlt)))));clear haj haj2 hBj hgj hwj hm2 hjlt hringj hl hpj hkj hj;have hsame:=neq_same;go_wp2;have bj3:wr.drew.cell? ⟨bi,1,none⟩=some (.pointer (ptrAt bs (j+1))):=bj2;go_region;go_wp2;obtain⟨k1,k2,k3,k4,k5,k6⟩:=HJ.out;have hdr:=below_drew1 (Below.refl wr.heap.size wr);go_roundg m2
       case measure=>have:=HKJ.out;omega
       case rel=>exact⟨j+1,rfl,⟨by omega,by omega,k2.later hdr,k3,by rw [show H.length-(j+1)=m2 by omega];exact k1,below_step k4 hdr⟩⟩
      ·
       obtain⟨A5,c5,hringi,hoi⟩:=hBj.holes.ring i hlt;rw [hbi'.out] at hoi;have hbij:bs.getD j 0≠bi:=by
        rw [← hbi'.out,List.getD_eq_getElem?_getD,List.getD_eq_getElem?_getD,List.getElem?_eq_getElem (by omega:j<bs.length),List.getElem?_eq_getElem (by omega:i<bs.length)];intro e;exact hij ((List.getElem_inj hBj.holes.nd).1 (by simpa using e))
       generalize hbj:bs.getD j 0=bj at *;have hbj':=Aside0.mk hbj;clear hbj;have bj1:=hringj.pts;have bj2:=hringj.nxt;have hneq:∀ W:World,W.heap[bj]?=some (.cells #[.slice A4 (H.getD j []).length c4,.pointer (ptrAt bs (j+1))] 55 (0,0))→W.heap[bi]?=some (.cells #[.slice A5 (H.getD i []).length c5,.pointer (ptrAt bs (i+1))] 55 (0,0)) →
         (binOp .neq 53 (.pointer (some ⟨bj,0,none⟩)) (.pointer (some ⟨bi,0,none⟩))).run Tryd.prog W=.ok (.bool true) W:=fun W h1 h2=>neq_other W hbij h1 h2
       have hin2:okN H i j=(inS (H.getD j []) (fx,fy) == -1):=by
        unfold okN;rw [hF.out,show (i==j)=false from beq_false_of_ne (Ne.symm hij)];rfl
       rw [hin2] at haj;have hu28:=Tryd.underlying37;have HJ:=a0_ (And.intro haj (And.intro hBj (And.intro hgj (And.intro hwj (And.intro hm2 (And.intro hjlt (And.intro hringj (And.intro (HK.out.2.2.2.2.2.2.2.1 j hjlt) HK.out.2.2.2.2.2.2.1))))))));clear haj hBj hwj hm2 hjlt hringj hl hpj hkj hj hringi hin2;have fb0:wr.drew.cell? ⟨g,0,none⟩=some (.int .i64 fx):=(blk_cell hgj 0).trans rfl;have fb1:wr.drew.cell? ⟨g,1,none⟩=some (.int .i64 fy):=(blk_cell hgj 1).trans rfl;have bj1':wr.drew.cell? ⟨bj,0,none⟩=some (.slice A4 (H.getD j []).length c4):=bj1;have hoj':wr.drew.heap[bj]?=some (.cells #[.slice A4 (H.getD j []).length c4,.pointer (ptrAt bs (j+1))] 55 (0,0)):=hoj;have hoi':wr.drew.heap[bi]?=some (.cells #[.slice A5 (H.getD i []).length c5,.pointer (ptrAt bs (i+1))] 55 (0,0)):=hoi;clear hgj hoj hoi bj1;generalize H.getD j []=zj at *;generalize H.getD i []=zi at *;have bj2':wr.drew.cell? ⟨bj,1,none⟩=some (.pointer (ptrAt bs (j+1))):=bj2;clear bj2
       cases hin:(inS zj (fx,fy) == -1) with
       | false =>
        have e1:(inS zj (fx,fy) != -1)=true:=by rw [bne,hin];rfl
        obtain rfl:false=r:=by rw [← HJ.out.1,hin];rfl
        clear hin;go_wp2;go_region_held3 (fun W=>W.cell? ⟨g,0,none⟩=some (.int .i64 fx)∧W.cell? ⟨g,1,none⟩=some (.int .i64 fy)∧W.cell? ⟨bj,0,none⟩=some (.slice A4 zj.length c4)∧W.heap[bj]?=some (.cells #[.slice A4 zj.length c4,.pointer (ptrAt bs (j+1))] 55 (0,0))∧W.heap[bi]?=some (.cells #[.slice A5 zi.length c5,.pointer (ptrAt bs (i+1))] 55 (0,0)))
         (first | exact⟨pw_cell_below hb fb0,pw_cell_below hb fb1,pw_cell_below hb bj1',blk_later hoj' hb,blk_later hoi' hb⟩ | go_keep)
         (first | (go_at_call 53;refine (inside_told bj A4 _ c4 zj fx fy _ (HJ.out.2.2.2.2.2.2.1.later (below_drew1 (Below.refl wr.heap.size wr))) HJ.out.2.2.2.2.2.2.2.1 HJ.out.2.2.2.2.2.2.2.2).mono ?_;rintro e w5 ⟨rfl,hb⟩;have bj5:=pw_cell_below hb bj2'))
        go_wp2;go_ret;exact⟨rfl,below_step (below_drew1 HJ.out.2.2.2.1) hb⟩
       | true =>
        have e1:(inS zj (fx,fy) != -1)=false:=by rw [bne,hin];rfl
        have haj2:((List.range' (j+1) m2).all (okN H i) && (List.range' (i+1) m).all (rowN o H))=r:=by rw [← HJ.out.1,hin];rfl
        have HA2:=Aside0.mk haj2;clear hin haj2;go_wp2;go_region_held3 (fun W=>W.cell? ⟨g,0,none⟩=some (.int .i64 fx)∧W.cell? ⟨g,1,none⟩=some (.int .i64 fy)∧W.cell? ⟨bj,0,none⟩=some (.slice A4 zj.length c4)∧W.heap[bj]?=some (.cells #[.slice A4 zj.length c4,.pointer (ptrAt bs (j+1))] 55 (0,0))∧W.heap[bi]?=some (.cells #[.slice A5 zi.length c5,.pointer (ptrAt bs (i+1))] 55 (0,0)))
         (first | exact⟨pw_cell_below hb fb0,pw_cell_below hb fb1,pw_cell_below hb bj1',blk_later hoj' hb,blk_later hoi' hb⟩ | go_keep)
         (first | (go_at_call 53;refine (inside_told bj A4 _ c4 zj fx fy _ (HJ.out.2.2.2.2.2.2.1.later (below_drew1 (Below.refl wr.heap.size wr))) HJ.out.2.2.2.2.2.2.2.1 HJ.out.2.2.2.2.2.2.2.2).mono ?_;rintro e w5 ⟨rfl,hb⟩;have bj5:=pw_cell_below hb bj2'))
        go_wp2;obtain⟨k1,k2,k3,k4,k5,k6,_⟩:=HJ.out;have hdr:=below_drew1 (Below.refl wr.heap.size wr);go_roundg m2
        case measure=>have:=HKJ.out;omega
        case rel=>exact⟨j+1,rfl,⟨by omega,by omega,(k2.later hdr).later hb,(hb.block g (Array.getElem?_eq_some_iff.1 k3).1).trans k3,by rw [show H.length-(j+1)=m2 by omega];exact HA2.out,below_step (below_drew1 k4) hb⟩⟩
     ·
      obtain rfl:j=H.length:=by omega
      have hl:=hBj.holes.len;rw [ptrAt_none (by omega)];rw [Nat.sub_self,List.range'_zero,List.all_nil,Bool.true_and] at haj;obtain⟨A6,c6,hring6,_⟩:=hBj.holes.ring i hlt;rw [hbi'.out] at hring6;have bi6:=hring6.nxt;have HJ:=a0_ (And.intro haj (And.intro hBj hwj));clear haj hBj hwj hring6 hl hkj hj hjlt;go_wp2;obtain⟨k1,k2,k3⟩:=HJ.out;go_roundg m
      case measure=>have:=HL.out.2.1;have:=HL.out.2.2.2.2.2;omega
      case rel=>exact⟨i+1,rfl,⟨by have:=HL.out.2.1;omega,by omega,k2,by rw [show H.length-(i+1)=m by have:=HL.out.2.1;omega];exact k1,k3⟩⟩
  ·
   obtain rfl:i=H.length:=by omega
   rw [Nat.sub_self,List.range'_zero,List.all_nil] at ha;obtain rfl:=ha;rw [ptrAt_none (by omega)];have HW:=Aside0.mk hBw;clear hBw hB hk hi hh hpos hfst HB0 HR HH hlt;go_wp2;go_ret;exact⟨rfl,HW.out⟩
def runIn (p:Mort.Pt):Int→List (List S37)→Int
 | x,[]=>x
 | x,z::H=>if inS z p=0 then 0 else runIn p (if inS z p=1 then -1 else x) H
theorem runIn_cons (p:Mort.Pt)(x:Int)(z:List S37)(H:List (List S37)):runIn p x (z::H)=if inS z p=0 then 0 else runIn p (if inS z p=1 then -1 else x) H:=rfl
theorem inside_told2 (b:Nat)(A nx:Option Addr)(c:Nat)(z:List S37)(x y v:Int)(w:World)(h:RingAt w b A c z nx)(hz:loopOk (z.map ptP)=true)(hp:ptOk (x,y)=true)(hv:inS z (x,y)=v):
  Calls Tryd.prog 53 #[.slice A z.length c,.agg #[.int .i64 x,.int .i64 y]] w fun e w'=>e=.returned (.int .i64 v)∧Below w.heap.size w w':=by
 rw [← hv];exact inside_told b A nx c z x y w h hz hp
set_option maxHeartbeats 4000000 in
set_option maxRecDepth 100000 in
theorem in_calls (b:Nat)(o:List S37)(H:List (List S37))(x y r:Int)(w:World)(hB:RingsAt w (some ⟨b,0,none⟩) (o::H))(ho:loopOk (o.map ptP)=true)(hH:∀ z∈H,loopOk (z.map ptP)=true)
  (hp:ptOk (x,y)=true) (h:runIn (x,y) (inS o (x,y)) H=r) :
  Calls Tryd.prog 47 #[.pointer (some ⟨b,0,none⟩),.agg #[.int .i64 x,.int .i64 y]] w fun e w'=>e=.returned (.int .i64 r)∧Below w.heap.size w w':=by
 obtain⟨b',A0,c0,nx,e0,hR,hRest⟩:=hB;obtain rfl:b=b':=by cases e0;rfl
 clear e0;have HK:=a0_ (And.intro hR (And.intro hRest (And.intro ho (And.intro hH (And.intro hp h)))));have bi1:=hR.pts;have bi2:=hR.nxt;clear hR hRest ho hH hp h;generalize hx0:inS o (x,y)=x0 at *;have HX:=Aside0.mk hx0;clear hx0;go_enter Tryd.func47,Tryd.ntmps47;go_wp2;have hb0:=below_drew1 (below_alloc (Below.refl w.heap.size w) (.cells #[.int .i64 x,.int .i64 y] 37));have lo1:=pw_cell_below hb0 bi1;have lo2:=pw_cell_below hb0 bi2;have nb:=World.alloc_heap_new w (.cells #[.int .i64 x,.int .i64 y] 37 (0,0));have f0:((w.alloc (.cells #[.int .i64 x,.int .i64 y] 37)).drew).cell? ⟨w.heap.size,0,none⟩=some (.int .i64 x):=(blk_cell nb 0).trans rfl;have f1:((w.alloc (.cells #[.int .i64 x,.int .i64 y] 37)).drew).cell? ⟨w.heap.size,1,none⟩=some (.int .i64 y):=(blk_cell nb 1).trans rfl;have hu28:=Tryd.underlying37;generalize hg:w.heap.size=g at *;go_region_held3 (fun W=>W.cell? ⟨b,0,none⟩=some (.slice A0 o.length c0)∧W.cell? ⟨g,0,none⟩=some (.int .i64 x)∧W.cell? ⟨g,1,none⟩=some (.int .i64 y))
  (first | exact⟨pw_cell_below hb lo1,pw_cell_below hb f0,pw_cell_below hb f1⟩ | go_keep)
  (first | (go_at_call 53;refine (inside_told2 b A0 _ c0 o x y x0 _ (HK.out.1.later (hg▸hb0)) HK.out.2.2.1 HK.out.2.2.2.2.1 HX.out).mono ?_;rintro e w3 ⟨rfl,hb⟩;have lo3:=pw_cell_below hb lo2))
 have nb3:w3.heap[g]?=some (.cells #[.int .i64 x,.int .i64 y] 37 (0,0)):=(hb.block g (Array.getElem?_eq_some_iff.1 nb).1).trans nb;have hw3:Below g w w3:=hg▸below_step (hg▸hb0) hb;have HL:=a0_ (And.intro ((HK.out.2.1.later (hg▸hb0)).later hb) (And.intro nb3 hw3));have HG:=Aside0.mk hg;clear nb3 hw3 hb hb0 lo1 lo2 bi1 bi2 f0 f1 nb hg;go_wp2;clear lo3;go_loopg [5,6] H.length (fun kq v5 v6 wr=>∃ (p:Option Addr) (rest:List (List S37)) (u:Int),v5=.int .i64 u∧v6=.pointer p∧Aside0 (kq=rest.length∧RingsAt wr p rest∧(∀ z∈rest,loopOk (z.map ptP)=true)∧wr.heap[g]?=some (.cells #[.int .i64 x,.int .i64 y] 37 (0,0))∧runIn (x,y) u rest=r∧Below g w wr))
 case atStart=>exact⟨nx,H,x0,rfl,rfl,⟨rfl,HL.out.1,HK.out.2.2.2.1,HL.out.2.1,HK.out.2.2.2.2.2,HL.out.2.2⟩⟩
 case round =>
  obtain⟨p,rest,u,rfl,rfl,H1⟩:=hrel;obtain⟨hk,hr,hl,hgb,hrun,hBw⟩:=H1.out;clear H1
  cases rest with
  | nil =>
   obtain rfl:p=none:=hr;obtain rfl:u=r:=hrun;have HB:=Aside0.mk hBw;clear hBw hk hgb hl;go_wp2;go_ret;exact⟨rfl,HG.out▸HB.out⟩
  | cons z rest =>
   obtain⟨b1,A1,c1,n1,rfl,hz,hrest⟩:=hr;have z1:=hz.pts;have z2:=hz.nxt;have f0:wr.drew.cell? ⟨g,0,none⟩=some (.int .i64 x):=(blk_cell hgb 0).trans rfl;have f1:wr.drew.cell? ⟨g,1,none⟩=some (.int .i64 y):=(blk_cell hgb 1).trans rfl;have hdr:=below_drew1 (Below.refl wr.heap.size wr);have z1':wr.drew.cell? ⟨b1,0,none⟩=some (.slice A1 z.length c1):=z1;have z2':wr.drew.cell? ⟨b1,1,none⟩=some (.pointer n1):=z2;have hu28:=Tryd.underlying37;have key:∀ v:Int,inS z (x,y)=v→RingAt wr.drew b1 A1 c1 z n1∧loopOk (z.map ptP)=true:=fun v _=>⟨hz.later hdr,hl z List.mem_cons_self⟩
   have hvals:inS z (x,y)=0∨inS z (x,y)=1∨inS z (x,y) = -1:=Mort.inOf_vals (z.map ptP) (x,y)
   rcases hvals with hv | hv | hv
   ·
    obtain rfl:0=r:=by rw [← hrun];unfold runIn;rw [if_pos hv]
    have HV:=a0_ (And.intro hv (And.intro (key 0 hv) (And.intro hBw HK.out.2.2.2.2.1)));clear hv key hrun hrest hz hl hk hgb z1 z2 hBw hdr;go_wp2;go_region_held3 (fun W=>W.cell? ⟨b1,0,none⟩=some (.slice A1 z.length c1)∧W.cell? ⟨g,0,none⟩=some (.int .i64 x)∧W.cell? ⟨g,1,none⟩=some (.int .i64 y))
     (first | exact⟨pw_cell_below hb z1',pw_cell_below hb f0,pw_cell_below hb f1⟩ | go_keep)
     (first | (go_at_call 53;refine (inside_told2 b1 A1 _ c1 z x y 0 _ HV.out.2.1.1 HV.out.2.1.2 HV.out.2.2.2 HV.out.1).mono ?_;rintro e w4 ⟨rfl,hb⟩))
    go_wp2;go_ret;exact⟨rfl,HG.out▸below_row (below_drew1 HV.out.2.2.1) (HG.out▸Nat.le_refl _) hb⟩
   ·
    have hrun2:runIn (x,y) (-1) rest=r:=by rw [← hrun,runIn_cons,if_neg (by omega),if_pos hv]
    have HV:=a0_ (And.intro hv (And.intro (key 1 hv) (And.intro hBw HK.out.2.2.2.2.1)));have HR:=a0_ (And.intro hrun2 (And.intro hrest (And.intro hl (And.intro hgb hk))));clear hv key hrun hrun2 hrest hz hl hk hgb z1 z2 hBw hdr;go_wp2;go_region_held3 (fun W=>W.cell? ⟨b1,0,none⟩=some (.slice A1 z.length c1)∧W.cell? ⟨g,0,none⟩=some (.int .i64 x)∧W.cell? ⟨g,1,none⟩=some (.int .i64 y))
     (first | exact⟨pw_cell_below hb z1',pw_cell_below hb f0,pw_cell_below hb f1⟩ | go_keep)
     (first | (go_at_call 53;refine (inside_told2 b1 A1 _ c1 z x y 1 _ HV.out.2.1.1 HV.out.2.1.2 HV.out.2.2.2 HV.out.1).mono ?_;rintro e w4 ⟨rfl,hb⟩;have z4:=pw_cell_below hb z2'))
    go_wp2;obtain⟨k1,k2,k3,k4,k5⟩:=HR.out;go_roundg rest.length
    case measure=>rw [k5];simp
    case rel=>exact⟨n1,rest,-1,rfl,rfl,⟨rfl,(k2.later (below_drew1 (Below.refl _ _))).later hb,fun y hy=>k3 y (List.mem_cons_of_mem _ hy),blk_later (show wr.drew.heap[g]?=_ from k4) hb,k1,below_row (below_drew1 HV.out.2.2.1) (HG.out▸Nat.le_refl _) hb⟩⟩
   ·
    have hrun2:runIn (x,y) u rest=r:=by rw [← hrun,runIn_cons,if_neg (by omega),if_neg (by omega)]
    have HV:=a0_ (And.intro hv (And.intro (key (-1) hv) (And.intro hBw HK.out.2.2.2.2.1)));have HR:=a0_ (And.intro hrun2 (And.intro hrest (And.intro hl (And.intro hgb hk))));clear hv key hrun hrun2 hrest hz hl hk hgb z1 z2 hBw hdr;go_wp2;go_region_held3 (fun W=>W.cell? ⟨b1,0,none⟩=some (.slice A1 z.length c1)∧W.cell? ⟨g,0,none⟩=some (.int .i64 x)∧W.cell? ⟨g,1,none⟩=some (.int .i64 y))
     (first | exact⟨pw_cell_below hb z1',pw_cell_below hb f0,pw_cell_below hb f1⟩ | go_keep)
     (first | (go_at_call 53;refine (inside_told2 b1 A1 _ c1 z x y (-1) _ HV.out.2.1.1 HV.out.2.1.2 HV.out.2.2.2 HV.out.1).mono ?_;rintro e w4 ⟨rfl,hb⟩;have z4:=pw_cell_below hb z2'))
    go_wp2;obtain⟨k1,k2,k3,k4,k5⟩:=HR.out;go_roundg rest.length
    case measure=>rw [k5];simp
    case rel=>exact⟨n1,rest,u,rfl,rfl,⟨rfl,(k2.later (below_drew1 (Below.refl _ _))).later hb,fun y hy=>k3 y (List.mem_cons_of_mem _ hy),blk_later (show wr.drew.heap[g]?=_ from k4) hb,k1,below_row (below_drew1 HV.out.2.2.1) (HG.out▸Nat.le_refl _) hb⟩⟩
end Go.Proofs.YtailkppkjhkjpaaDoor.X
end
section
set_option linter.unusedVariables false
set_option linter.unusedSimpArgs false
namespace Go.Proofs.YtailkppkjhkjpaaDoor.X
open Go.RowKit Go.Shelf Go.Proofs.YtailkppkjhkjpaaDoorW.PrintWords Go.Proofs.YtailkppkjhkjpaaDoorW.PrintLast Go.Proofs.YtailkppkjhkjpaaDoorW.PrintMore
section
variable {l n:Nat} {P:Program} {ops:Array Oper} {Q:Exit→Act→World→Prop}
theorem upon_inRound {o:Oper}{a:Act}{K:Act→World→Prop}{r:Result Next}(h:o.upon P a K Q r):o.uponIn (Fence.wide.inRound l) n P a K Q r:=by
 cases r with
 | ok x w' =>
  cases x with
  | value v=>exact h
  | skip=>exact h
  | defer d=>exact h
  | enter f args=>exact⟨fun hd=>(by cases hd),CallsIn.inRound l (callsIn_wide.2 h)⟩
  | row rw_ args=>exact⟨fun hd=>(by cases hd),fun c cs _=>by obtain⟨v,w1,h1,h2⟩:=h c cs;exact⟨v,w1,h1,stepsIn_wide.2 h2⟩⟩
  | _=>exact h.elim
 | halt x w'=>cases x <;> exact h
theorem wpOps_inRound (hd:∀ (i:Nat) (o:Oper),ops[i]?=some o→∀ c,o.op≠.defer c)(hno:LetsOut Q→False):∀ (is:List Nat) (a:Act) (w:World),wpOps P ops Q is a w→wpOpsIn (Fence.wide.inRound l) n P ops Q is a w:=by
 intro is
 induction is with
 | nil=>exact fun a w h=>h
 | cons i rest ih =>
  intro a w h;simp only [wpOps] at h;simp only [wpOpsIn]
  cases ho:ops[i]? with
  | none=>rw [ho] at h;exact ih a w h
  | some o =>
   rw [ho] at h;simp only at h ⊢
   split at h
   ·
    rename_i hw
    rw [if_pos hw]
    rcases h with h | ⟨_,h⟩
    ·
     refine⟨fun _ _=>trivial,?_⟩;rw [show (Fence.wide.inRound l).round=some l from rfl,Oper.semAt_some l _ o (hd i o ho)];refine upon_inRound ?_;exact Oper.wp_mono (fun a w h=>ih a w h) h
    ·
     exact (hno h).elim
   ·
    rename_i hw
    rw [if_neg hw];exact⟨fun _ _=>trivial,ih _ _ h⟩
theorem region_inRound {id k:Nat}{S:World→Prop}{ds:List Nat}{a:Act}{w:World}(lst:Array Bool)(hm:P.follows .mixedOrders=true)(hn:ops.size=k)(hl:Array.replicate k false=lst)
  (hd:∀ (i:Nat) (o:Oper),ops[i]?=some o→∀ c,o.op≠.defer c) (hno:LetsOut Q→False) (hS:S w.drew) (h:S w.drew→wpAnyLast P .any ops Q S ds k lst a w.drew) :
  (Code.region id ops true).wpIn (Fence.wide.inRound l) n P Q a w:=by
 subst hn;subst hl;refine wpIn_region_draw fun t=>wpOps_inRound hd hno _ _ _ ?_
 simp only [Region.schedule,hm,Bool.true_or,if_true];exact wpAny_sound ops.size t _ a _ (wpAny_of_last _ _ _ _ (h hS))
end
structure Built (w W:World) (n₀ bb:Nat) (bs:List Nat) (A0:Option Addr) (c0:Nat) (o:List S37) (H:List (List S37)) (v:Value):Prop where
 body:W.heap[bb]?=some (.cells #[.slice A0 o.length c0,.pointer (ptrAt bs 0),v] 58 (0,0))
 lo:n₀≤bb
 len:bs.length=H.length
 nd:(bb::bs).Nodup
 ring:∀ j,j<H.length→n₀≤bs.getD j 0∧∃ A c,W.heap[bs.getD j 0]?=some (.cells #[.slice A (H.getD j []).length c,.pointer (ptrAt bs (j+1))] 55 (0,0))∧Kd.C k37 w A (H.getD j []).length (H.getD j [])∧(H.getD j []).length≤c
theorem Built.later {w W W':World}{n₀ bb:Nat}{bs:List Nat}{A0:Option Addr}{c0:Nat}{o:List S37}{H:List (List S37)}{v:Value}(h:Built w W n₀ bb bs A0 c0 o H v)(hb:Below W.heap.size W W'):Built w W' n₀ bb bs A0 c0 o H v:=
 ⟨blk_later h.body hb,h.lo,h.len,h.nd,fun j hj=>by obtain⟨l,A,c,k1,k2,k3⟩:=h.ring j hj;exact⟨l,A,c,blk_later k1 hb,k2,k3⟩⟩
theorem getD_lt {α:Type}{l:List α}{i:Nat}{d:α}(h:i<l.length):l.getD i d=l[i]:=by rw [List.getD_eq_getElem?_getD,List.getElem?_eq_getElem h];rfl
theorem getD_snoc_lt {α:Type}{l:List α}{x d:α}{i:Nat}(h:i<l.length):(l++[x]).getD i d=l.getD i d:=by
 rw [List.getD_eq_getElem?_getD,List.getD_eq_getElem?_getD,List.getElem?_append_left h]
theorem getD_snoc_eq {α:Type}{l:List α}{x d:α}:(l++[x]).getD l.length d=x:=by
 rw [List.getD_eq_getElem?_getD,List.getElem?_append_right (Nat.le_refl _),Nat.sub_self];rfl
theorem ptrAt_snoc_lt {bs:List Nat}{q i:Nat}(h:i<bs.length):ptrAt (bs++[q]) i=ptrAt bs i:=by unfold ptrAt;rw [List.getElem?_append_left h]
theorem ptrAt_snoc_eq {bs:List Nat}{q:Nat}:ptrAt (bs++[q]) bs.length=some ⟨q,0,none⟩:=by unfold ptrAt;rw [List.getElem?_append_right (Nat.le_refl _),Nat.sub_self];rfl
def lastOf (bb:Nat)(bs:List Nat):Nat:=(bb::bs).getD bs.length 0
theorem lastOf_pos {bb:Nat}{bs:List Nat}(h:0<bs.length):lastOf bb bs=bs.getD (bs.length-1) 0:=by
 unfold lastOf;obtain⟨m,hm⟩:∃ m,bs.length=m+1:=⟨bs.length-1,by omega⟩;rw [hm];simp
theorem lastOf_snoc (bb q:Nat)(bs:List Nat):lastOf bb (bs++[q])=q:=by
 unfold lastOf;rw [List.length_append,← List.cons_append];exact getD_snoc_eq (l:=bb::bs)
theorem Built.last_cells {w W:World}{n₀ bb:Nat}{bs:List Nat}{A0:Option Addr}{c0:Nat}{o:List S37}{H:List (List S37)}{v:Value}(h:Built w W n₀ bb bs A0 c0 o H v):
  ∃ (y:Value) (cs:List Value) (t:TypeId),W.heap[lastOf bb bs]?=some (.cells (#[y,.pointer none]++cs.toArray) t (0,0))∧n₀≤lastOf bb bs:=by
 cases bs with
 | nil=>exact⟨_,[v],_,h.body,h.lo⟩
 | cons q qs =>
  have hp:0<(q::qs).length:=by simp
  rw [lastOf_pos hp];have hl:=h.len;obtain⟨l,A,c,k1,_⟩:=h.ring ((q::qs).length-1) (by omega);rw [show (q::qs).length-1+1=(q::qs).length by omega,ptrAt_none (Nat.le_refl _)] at k1;exact⟨_,[],_,k1,l⟩
theorem Built.push {w W:World}{n₀ bb:Nat}{bs:List Nat}{A0:Option Addr}{c0:Nat}{o:List S37}{H:List (List S37)}{v:Value}(h:Built w W n₀ bb bs A0 c0 o H v)(A:Option Addr)(c:Nat)(z:List S37)(hz:Kd.C k37 w A z.length z)(hc:z.length≤c)(hn:n₀≤W.heap.size):
  Built w ((W.alloc (.cells #[.slice A z.length c,.pointer none] 55)).setCell ⟨lastOf bb bs,1,none⟩ (.pointer (some ⟨W.heap.size,0,none⟩))) n₀ bb (bs++[W.heap.size]) A0 c0 o (H++[z]) v:=by
 have hl:=h.len;have hnd:=h.nd;have hblt:∀ j,j<H.length→bs.getD j 0<W.heap.size:=fun j hj=>by obtain⟨_,_,_,k1,_⟩:=h.ring j hj;exact (Array.getElem?_eq_some_iff.1 k1).1
 have hbb:bb<W.heap.size:=(Array.getElem?_eq_some_iff.1 h.body).1;have hq:W.heap.size ∉ bb::bs:=by
  intro hm
  rcases List.mem_cons.1 hm with e | hm
  ·
   omega
  ·
   obtain⟨j,hj,e⟩:=List.getElem_of_mem hm;have:=hblt j (by omega);rw [getD_lt hj,e] at this;omega
 have hlast:lastOf bb bs∈bb::bs:=by
  unfold lastOf;rw [getD_lt (by simp)];exact List.getElem_mem _
 have far:∀ k,k≠lastOf bb bs→∀ ob,W.heap[k]?=some ob→((W.alloc (.cells #[.slice A z.length c,.pointer none] 55)).setCell ⟨lastOf bb bs,1,none⟩ (.pointer (some ⟨W.heap.size,0,none⟩))).heap[k]?=some ob:=fun k hk ob hob=>by
  rw [Below.heap_setCell _ _ _ _ hk];exact blk_alloc' hob _
 refine⟨?_,h.lo,by simp [hl],?_,?_⟩
 ·
  cases bs with
  | nil =>
   have:=blk_put (cs:=#[.slice A0 o.length c0,.pointer none,v]) (blk_alloc' h.body (.cells #[.slice A z.length c,.pointer none] 55)) 1 (.pointer (some ⟨W.heap.size,0,none⟩)) rfl;exact this
  | cons q qs =>
   have e:ptrAt (q::qs++[W.heap.size]) 0=ptrAt (q::qs) 0:=ptrAt_snoc_lt (by simp);rw [e];refine far bb ?_ _ h.body;rw [lastOf_pos (by simp)];intro e2;rw [List.nodup_cons] at hnd;refine hnd.1 ?_;rw [e2,getD_lt (by simp)];exact List.getElem_mem _
 ·
  rw [← List.cons_append,List.nodup_append];exact⟨hnd,by simp,fun a ha b hb=>by simp at hb;subst hb;intro e;subst e;exact hq ha⟩
 ·
  intro j hj;rw [List.length_append] at hj;by_cases hlt:j<H.length
  ·
   obtain⟨l,A1,c1,k1,k2,k3⟩:=h.ring j hlt;rw [getD_snoc_lt hlt,getD_snoc_lt (by omega:j<bs.length)];refine⟨l,A1,c1,?_,k2,k3⟩;by_cases he:j+1=H.length
   ·
    have e1:lastOf bb bs=bs.getD j 0:=by rw [lastOf_pos (by omega)];congr 1;omega
    rw [show j+1=bs.length by omega,ptrAt_snoc_eq,e1];rw [show j+1=bs.length by omega,ptrAt_none (Nat.le_refl _)] at k1;exact blk_put (cs:=#[.slice A1 (H.getD j []).length c1,.pointer none]) (blk_alloc' k1 (.cells #[.slice A z.length c,.pointer none] 55)) 1 (.pointer (some ⟨W.heap.size,0,none⟩)) rfl
   ·
    rw [ptrAt_snoc_lt (by omega)];refine far _ ?_ _ k1;rw [lastOf_pos (by omega)];rw [List.nodup_cons] at hnd;rw [getD_lt (by omega),getD_lt (by omega)];intro e;have:=(List.getElem_inj hnd.2).1 e;omega
  ·
   have e:j=H.length:=by simp at hj;omega
   subst e;rw [getD_snoc_eq,← hl,getD_snoc_eq,ptrAt_none (by simp)];refine⟨hn,A,c,?_,hz,hc⟩;rw [Below.heap_setCell _ _ _ _ (by intro e;simp only at e;rw [← e] at hlast;exact hq hlast)];exact World.alloc_heap_new W _
theorem Built.bodyAt {w W:World}{bb:Nat}{bs:List Nat}{A0:Option Addr}{c0:Nat}{o:List S37}{H:List (List S37)}{v:Value}(h:Built w W w.heap.size bb bs A0 c0 o H v)(hb:Below w.heap.size w W)(ho:Kd.C k37 w A0 o.length o)(hc:o.length≤c0):
  BodyAt W bb bs o H:=
 ⟨⟨A0,c0,(blk_cell h.body 0).trans rfl,(blk_cell h.body 1).trans rfl,Kd.C_below ho hb,hc⟩,h.len,(List.nodup_cons.1 h.nd).2,fun j hj=>by
  obtain⟨l,A,c,k1,k2,k3⟩:=h.ring j hj
  exact⟨A,c,⟨(blk_cell k1 0).trans rfl,(blk_cell k1 1).trans rfl,Kd.C_below k2 hb,k3⟩,k1⟩⟩
def CellsKept (W W':World):Prop:=∀ (k:Nat) (cs:Array Value) (t:TypeId) (fr:Nat × Nat),W.heap[k]?=some (Obj.cells cs t fr)→W'.heap[k]?=some (Obj.cells cs t fr)
theorem CellsKept.grown {W W':World}{row:Option Nat}(hg:W.grownBy W' row)(hr:∀ r,row=some r→∃ o,W.heap[r]?=some o∧o.isCells=false):CellsKept W W':=fun k cs t fr h =>
 (hg.block k (Array.getElem?_eq_some_iff.1 h).1 (fun e=>by obtain⟨o,ho,hc⟩:=hr k e.symm;rw [h] at ho;cases ho;cases hc)).trans h
theorem CellsKept.marks {W W':World}{Ds:List Nat}(hD:∀ D∈Ds,W.heap[D]?=some (.deferred (some [])))(h1:∀ k,k ∉ Ds→W'.heap[k]?=W.heap[k]?):CellsKept W W':=fun k cs t fr h =>
 (h1 k (fun e=>by have:=(hD k e).symm.trans h;cases this)).trans h
theorem CellsKept.below {W W':World}(hb:Below W.heap.size W W'):CellsKept W W':=fun k cs t fr h=>blk_later h hb
theorem Built.kept {w W W':World}{n₀ bb:Nat}{bs:List Nat}{A0:Option Addr}{c0:Nat}{o:List S37}{H:List (List S37)}{v:Value}(h:Built w W n₀ bb bs A0 c0 o H v)(k:CellsKept W W'):Built w W' n₀ bb bs A0 c0 o H v:=
 ⟨k _ _ _ _ h.body,h.lo,h.len,h.nd,fun j hj=>by obtain⟨l,A,c,k1,k2,k3⟩:=h.ring j hj;exact⟨l,A,c,k _ _ _ _ k1,k2,k3⟩⟩
theorem R_kept {α:Type}{d:Kd α}{e:Nat}{W W':World}{base:Nat}{ok:Nat→Prop}{v:Value}{xs:List α}(h:d.R e W base ok v xs)(k:CellsKept W W'):d.R e W' base ok v xs:=
 Kd.R_mono (Kd.R_move (Kd.R_bound h) (fun j hj=>by obtain⟨_,_,_,q,_,cells,hc⟩:=hj;exact (k _ _ _ _ hc).trans hc.symm)) (fun _ hk=>hk.1)
theorem box_kept {W W':World}{B:Nat}{t:TypeId}{v:Value}(h:Boxed W B t v)(k:CellsKept W W'):Boxed W' B t v:=k _ _ _ _ h
theorem R_ne {W:World}{base:Nat}{ok:Nat→Prop}{v:Value}{xs:List S89}(h:Kd.R k89 89 W base ok v xs){g t:Nat}{cs:Array Value}(hg:W.heap[g]?=some (.cells cs t (0,0)))(ht:t≠89):some g≠v.ownBlock:=fun e=>by
 obtain⟨_,inner,ho,_⟩:=h;obtain⟨cells,hc⟩:=own_typed ho g e.symm;rw [hg] at hc;injection hc with hc;injection hc with _ hc;exact ht hc
theorem R_lo {W:World}{base:Nat}{ok:Nat→Prop}{v:Value}{xs:List S89}(h:Kd.R k89 89 W base ok v xs){k:Nat}(hk:v.ownBlock=some k):base≤k:=by
 obtain⟨_,inner,ho,_⟩:=h;exact own_base ho k hk
theorem R_hi {W:World}{base:Nat}{ok:Nat→Prop}{v:Value}{xs:List S89}(h:Kd.R k89 89 W base ok v xs){k:Nat}(hk:v.ownBlock=some k):k<W.heap.size:=by
 obtain⟨_,inner,ho,_⟩:=h;exact own_lt ho k hk
theorem R_nc {W:World}{base:Nat}{ok:Nat→Prop}{v:Value}{xs:List S89}(h:Kd.R k89 89 W base ok v xs){k:Nat}{ob:Obj}(hk:W.heap[k]?=some ob)(hc:ob.isCells=false):some k≠v.ownBlock:=fun e=>by
 obtain⟨_,inner,ho,_⟩:=h;obtain⟨cells,hcs⟩:=own_typed ho k e.symm;rw [hk] at hcs;cases hcs;cases hc
theorem R_body {W:World}{base:Nat}{v:Value}{xs:List S89}{bb:Nat}{cs:Array Value}(h:Kd.R k89 89 W base (fun _=>True) v xs)(hb:W.heap[bb]?=some (.cells cs 58 (0,0)))(u:Value):Kd.R k89 89 (W.setCell ⟨bb,2,none⟩ u) base (fun _=>True) v xs:=
 Kd.R_mono (Kd.R_far (Kd.R_types h hb (by decide)) (fun k hk=>hk.2) u) (fun _ _=>trivial)
theorem Built.rings {w W:World}{n₀ bb:Nat}{bs:List Nat}{A0:Option Addr}{c0:Nat}{o:List S37}{H:List (List S37)}{v:Value}(h:Built w W n₀ bb bs A0 c0 o H v)(ho:Kd.C k37 w A0 o.length o)(i:Nat)(hi:i<(o::H).length):
  ∃ A c,W.cell? ⟨(bb::bs).getD i 0,0,none⟩=some (.slice A ((o::H).getD i []).length c)∧W.cell? ⟨(bb::bs).getD i 0,1,none⟩=some (.pointer (ptrAt (bb::bs) (i+1)))∧Kd.C k37 w A ((o::H).getD i []).length ((o::H).getD i []):=by
 cases i with
 | zero=>exact⟨A0,c0,(blk_cell h.body 0).trans rfl,(blk_cell h.body 1).trans rfl,ho⟩
 | succ i =>
  obtain⟨l,A,c,k1,k2,k3⟩:=h.ring i (by simpa using hi);exact⟨A,c,(blk_cell k1 0).trans rfl,(blk_cell k1 1).trans rfl,k2⟩
theorem Built.put {w W w1:World}{n₀ bb:Nat}{bs:List Nat}{A0:Option Addr}{c0:Nat}{o:List S37}{H:List (List S37)}{v v1:Value}(h:Built w W n₀ bb bs A0 c0 o H v)(hg:W.grownBy w1 v.ownBlock)
  (hne:∀ (g:Nat) (t:TypeId) (cs:Array Value),W.heap[g]?=some (Obj.cells cs t (0,0))→t≠89→some g≠v.ownBlock):Built w (w1.setCell ⟨bb,2,none⟩ v1) n₀ bb bs A0 c0 o H v1:=by
 have hk:∀ (g:Nat) (t:TypeId) (cs:Array Value),W.heap[g]?=some (Obj.cells cs t (0,0))→t≠89→w1.heap[g]?=some (Obj.cells cs t (0,0)):=fun g t cs hgc ht=>(hg.block g (Array.getElem?_eq_some_iff.1 hgc).1 (hne g t cs hgc ht)).trans hgc
 refine⟨blk_put (cs:=#[.slice A0 o.length c0,.pointer (ptrAt bs 0),v]) (hk _ _ _ h.body (by decide)) 2 v1 rfl,h.lo,h.len,h.nd,fun j hj=>?_⟩;obtain⟨l,A,c,k1,k2,k3⟩:=h.ring j hj;refine⟨l,A,c,?_,k2,k3⟩;rw [Below.heap_setCell _ ⟨bb,2,none⟩ _ _ ?_]
 ·
  exact hk _ _ _ k1 (by decide)
 ·
  intro e;have:=h.nd;rw [List.nodup_cons] at this;refine this.1 ?_;rw [← (show bs.getD j 0=bb from e),getD_lt (by rw [h.len];exact hj)];exact List.getElem_mem _
end Go.Proofs.YtailkppkjhkjpaaDoor.X
end
section
set_option linter.unusedVariables false
set_option linter.unusedSimpArgs false
namespace Go.Proofs.YtailkppkjhkjpaaDoor.X
open Go.RowKit Go.Shelf Go.Proofs.YtailkppkjhkjpaaDoorW.PrintWords Go.Proofs.YtailkppkjhkjpaaDoorW.PrintLast Go.Proofs.YtailkppkjhkjpaaDoorW.PrintMore
open Mort (edges segMeet loopOk ptOk inOf)
attribute [local go_sem] Oper.semAt_some
def bodyOkB (o:List S37)(H:List (List S37)):Bool:=
  decide (H.length≤2) && (loopOk (o.map ptP) && (H.all (fun z=>loopOk (z.map ptP)) && (apartAll (o::H) && nestedAll o H)))
def edgesS (z:List S37):List S89:=(List.finRange z.length).map fun (i:Fin z.length)=>edS z (i:Nat)
def allEdges (R:List (List S37)):List S89:=R.flatMap edgesS
theorem allEdges_len {R:List (List S37)}(h:Small R):(allEdges R).length≤8*R.length:=by
  induction R with
  | nil=>simp [allEdges]
  | cons z R ih =>
    have h1:=ih (fun u hu=>h u (List.mem_cons_of_mem _ hu));have h2:=(h z List.mem_cons_self).2;unfold allEdges at h1 ⊢
    rw [List.flatMap_cons,List.length_append];have h3:(edgesS z).length=z.length:=by simp [edgesS]
    rw [h3,List.length_cons];omega
theorem at_row {w:World}{A:Option Addr}{n:Nat}{xs:List (List S37)}(h:Kd.C (Kd.slice 37 k37) w A n xs)(i:Nat)(h1:i<n):
    ∃ ad A0 c0,A=some ad∧w.cell? (ad.add i)=some (.slice A0 (xs.getD i []).length c0)∧(xs.getD i []).length≤c0∧k37.C w A0 (xs.getD i []).length (xs.getD i []):=by
  obtain⟨ad,c,e,_,hK,hc0⟩:=Kd.C_get h ([]:List S37) (i:Int) (by omega) (by omega);have hc:∀ j u,c[j]?=some u→w.cell? (ad.add (i*1+j))=some u:=hc0;obtain⟨A0,c0,rfl,l0,g0⟩:=hK;exact⟨ad,A0,c0,e,by have hq:=hc 0 _ rfl;rwa [Nat.mul_one,Nat.add_zero] at hq,l0,g0⟩
def BodyRes (o:List S37)(H:List (List S37))(w:World)(e:Ending)(w':World):Prop:=
  ∃ b bs v,e=.returned (.tuple #[.pointer (some ⟨b,0,none⟩),.bool true])∧BodyAt w' b bs o H∧w'.cell? ⟨b,2,none⟩=some v∧Kd.R k89 89 w' w.heap.size (fun _=>True) v (allEdges (o::H))∧Below w.heap.size w w'
def NoBody (w:World)(e:Ending)(w':World):Prop:=e=.returned (.tuple #[.pointer none,.bool false])∧Below w.heap.size w w'
def BodyPost (o:List S37)(H:List (List S37))(w:World)(r:Bool)(e:Ending)(w':World):Prop:=(r=true→BodyRes o H w e w')∧(r=false→NoBody w e w')
set_option maxHeartbeats 8000000 in
set_option maxRecDepth 100000 in
theorem bodyOf_calls (A0:Option Addr)(c0:Nat)(o:List S37)(AH:Option Addr)(cH:Nat)(H:List (List S37))(r:Bool)(w:World)(hr0:Kd.C k37 w A0 o.length o)(hc0:o.length≤c0)
    (hr1:Kd.C (Kd.slice 37 k37) w AH H.length H) (hc1:H.length≤cH) (h:bodyOkB o H=r) :
    Calls Tryd.prog 24 #[.agg #[.slice A0 o.length c0,.slice AH H.length cH]] w (BodyPost o H w r):=by
  have HR:=Aside0.mk h;clear h;have hu26:=Tryd.underlying26;refine (callsIn_wide (n:=9)).1 ?_;refine callsIn_of_wp_marks Tryd.func24 rfl trivial ?_ rfl;simp only [Tryd.ntmps24,List.size_toArray,List.length_cons,List.length_nil,Nat.reduceAdd,Nat.reduceSub,Array.replicate_succ,Array.replicate_zero,List.push_toArray,List.append_toArray,List.nil_append,List.cons_append];have bP:=World.alloc_heap_new w (.cells #[.slice A0 o.length c0,.slice AH H.length cH] 26 (0,0));have cP0:(w.alloc (.cells #[.slice A0 o.length c0,.slice AH H.length cH] 26)).cell? ⟨w.heap.size,0,none⟩=some (.slice A0 o.length c0):=(blk_cell bP 0).trans rfl;have cP1:(w.alloc (.cells #[.slice A0 o.length c0,.slice AH H.length cH] 26)).cell? ⟨w.heap.size,1,none⟩=some (.slice AH H.length cH):=(blk_cell bP 1).trans rfl;have hB0:=below_alloc (Below.refl w.heap.size w) (.cells #[.slice A0 o.length c0,.slice AH H.length cH] 26);by_cases h2:2<H.length
  · have b1:decide (2<(H.length:Int))=true:=decide_eq_true (by omega)
    obtain rfl:r=false:=by rw [← HR.out];unfold bodyOkB;rw [decide_eq_false (by omega)];rfl
    gi_wp2;refine⟨trivial,?_⟩;gi_wp2;refine⟨.tuple #[.pointer none,.bool false],?_,fun h=>(by cases h),fun _=>⟨rfl,hB0⟩⟩;simp [results,Tryd.f24,go_sem]
  have b1:decide (2<(H.length:Int))=false:=decide_eq_false (by omega)
  cases hlo:loopOk (o.map ptP) with
  | false =>
    obtain rfl:r=false:=by rw [← HR.out];unfold bodyOkB;rw [hlo];simp
    have HL:impl_LoopOk.f o=some false:=congrArg some hlo;clear hlo;gi_wp2_with (refine⟨trivial,?_⟩;gi_at_call 35;refine (callsIn_wide.2 (impl_LoopOk.calls A0 c0 o false _ (Kd.C_below hr0 hB0) hc0 HL)).mono ?_;rintro e w1 ⟨rfl,hb⟩);refine⟨.tuple #[.pointer none,.bool false],?_,fun h=>(by cases h),fun _=>⟨rfl,below_step hB0 hb⟩⟩;simp [results,Tryd.f24,go_sem]
  | true =>
    have HL:impl_LoopOk.f o=some true:=congrArg some hlo;have HLO:=Aside0.mk hlo;clear hlo;gi_wp2_with (refine⟨trivial,?_⟩;gi_at_call 35;refine (callsIn_wide.2 (impl_LoopOk.calls A0 c0 o true _ (Kd.C_below hr0 hB0) hc0 HL)).mono ?_;rintro e w1 ⟨rfl,hb⟩;have dP0:=pw_cell_below hb cP0;have dP1:=pw_cell_below hb cP1;have dB1:=below_step hB0 hb;have eB:=below_alloc (below_alloc (Below.refl w1.heap.size w1) (.cells #[.slice A0 o.length c0,.pointer none,.slice none 0 0] 58)) (.cells #[.pointer (some ⟨w1.heap.size,0,none⟩)] 47);have eP1:=pw_cell_below eB dP1);have bV:=Boxed.new (w1.alloc (.cells #[.slice A0 o.length c0,.pointer none,.slice none 0 0] 58)) 47 (.pointer (some ⟨w1.heap.size,0,none⟩));simp only [World.size_alloc] at bV;have hBd:Built w ((w1.alloc (.cells #[.slice A0 o.length c0,.pointer none,.slice none 0 0] 58)).alloc (.cells #[.pointer (some ⟨w1.heap.size,0,none⟩)] 47)) w.heap.size w1.heap.size [] A0 c0 o [] (.slice none 0 0):=
      ⟨blk_alloc' (World.alloc_heap_new w1 _) _,dB1.size,rfl,by simp,fun j hj=>by simp at hj⟩
    have hP1:=blk_later (blk_later bP hb) eB;have hB1:=below_step dB1 eB;have hn1:=dB1.size;clear eP1 eB dB1 dP0 dP1 hb bP cP0 cP1 hB0;obtain⟨W1,hW1⟩:∃ W1,(w1.alloc (.cells #[.slice A0 o.length c0,.pointer none,.slice none 0 0] 58)).alloc (.cells #[.pointer (some ⟨w1.heap.size,0,none⟩)] 47)=W1:=⟨_,rfl⟩;rw [hW1] at bV hBd hP1 hB1 ⊢
    clear hW1;generalize w1.heap.size=bb at *;gi_loopw [5,32] (fun v5 v32 wr=>∃ (i lb:Nat),v5=.pointer (some ⟨lb,0,none⟩)∧v32=.int .i64 i∧i≤H.length∧Aside0 (∃ bs,lb=lastOf bb bs∧Built w wr w.heap.size bb bs A0 c0 o (H.take i) (.slice none 0 0)∧Boxed wr (bb+1) 47 (.pointer (some ⟨bb,0,none⟩))∧(∀ z∈H.take i,loopOk (z.map ptP)=true)∧wr.heap[w.heap.size]?=some (.cells #[.slice A0 o.length c0,.slice AH H.length cH] 26 (0,0))∧Below w.heap.size w wr))
      (fun _ v32 _=>H.length-(intOf v32).toNat)
    case atStart=>exact⟨0,bb,rfl,rfl,Nat.zero_le _,⟨[],rfl,by rw [List.take_zero];exact hBd,bV,by simp,hP1,hB1⟩⟩
    case round =>
      obtain⟨i,lb,rfl,rfl,hi,HI⟩:=hrel;obtain⟨bs,hlb,hBd,bV,hok,hP,hB⟩:=HI.out;clear HI hB1;by_cases hlt:i<H.length
      · obtain⟨ad,A',c',hAH,hx,hzc,hzC⟩:=at_row hr1 i hlt
        subst hAH;have hxr:wr.cell? (ad.add i)=some (.slice A' (H.getD i []).length c'):=pw_cell_below hB hx;have hzW:=Kd.C_below hzC hB;have hz:H.getD i []=H[i]:=getD_lt hlt;have htk:H.take (i+1)=H.take i++[H.getD i []]:=by rw [hz];exact List.take_succ_eq_append_getElem hlt
        have hHm:H.getD i []∈H:=by rw [hz];exact List.getElem_mem _
        generalize H.getD i []=z at *;have HT:=a0_ (And.intro htk (And.intro hHm (And.intro hBd (And.intro bV (And.intro hok (And.intro hP (And.intro hB hlb)))))));clear htk hHm hBd bV hok hP hlb hz hx
        cases hlz:loopOk (z.map ptP) with
        | false =>
          obtain rfl:r=false:=by
            rw [← HR.out];unfold bodyOkB;rw [show H.all (fun z=>loopOk (z.map ptP))=false from List.all_eq_false.2 ⟨z,HT.out.2.1,by rw [hlz];simp⟩];simp
          have HZ:impl_LoopOk.f z=some false:=congrArg some hlz;clear hlz;gi_wp2_with (refine⟨trivial,?_⟩;gi_at_call 35;refine (callsIn_wide.2 (impl_LoopOk.calls A' c' z false _ hzW hzc HZ)).mono ?_;rintro e w2 ⟨rfl,hb⟩);refine⟨.tuple #[.pointer none,.bool false],?_,fun h=>(by cases h),fun _=>⟨rfl,below_step hB hb⟩⟩;simp [results,Tryd.f24,go_sem]
        | true =>
          have HZ:impl_LoopOk.f z=some true:=congrArg some hlz;have HLZ:=Aside0.mk hlz;clear hlz;have hlast:∃ (y:Value) (cs:List Value) (t:TypeId),wr.heap[lb]?=some (.cells (#[y,.pointer none]++cs.toArray) t (0,0))∧w.heap.size≤lb:=by
            rw [HT.out.2.2.2.2.2.2.2];exact HT.out.2.2.1.last_cells
          obtain⟨y,cs,t,hobj,hlo⟩:=hlast
          gi_wp2_with (refine⟨trivial,?_⟩;gi_at_call 35;refine (callsIn_wide.2 (impl_LoopOk.calls A' c' z true _ hzW hzc HZ)).mono ?_;rintro e w2 ⟨rfl,hb⟩
                       have hob2:=blk_alloc' (blk_later hobj hb) (.cells #[.slice A' z.length c',.pointer none] 55);have s1:(w2.alloc (.cells #[.slice A' z.length c',.pointer none] 55)).cell? ⟨lb,1,none⟩=some (.pointer none):=(blk_cell hob2 1).trans (by simp);have s2:=blk_frozen hob2 1
                       have s3:((w2.alloc (.cells #[.slice A' z.length c',.pointer none] 55)).setCell ⟨lb,1,none⟩ (.pointer (some ⟨w2.heap.size,0,none⟩))).cell? ⟨lb,1,none⟩=some (.pointer (some ⟨w2.heap.size,0,none⟩)):=World.cell?_setCell_same' _ _ _ (by rw [s1];rfl))
          obtain⟨htk,hHm,hBd,bV,hok,hP,hB',hlb⟩:=HT.out;have hne1:bb+1≠lb:=by
            intro e;have h1:=hobj;rw [← e,show wr.heap[bb+1]?=_ from bV] at h1;have h2:=congrArg (fun (u:Option Obj)=>match u with | some (.cells a _ _)=>a.size | _=>0) h1;simp at h2
          have hne2:w.heap.size≠lb:=by
            intro e;have h1:=hobj;rw [← e,hP] at h1;have h2:=congrArg (fun (u:Option Obj)=>match u with | some (.cells a _ _)=>a[1]? | _=>none) h1;simp at h2
          have hbd2:=(hBd.later hb).push A' c' z hzC hzc (Nat.le_trans hB.size hb.size);rw [← hlb,← htk] at hbd2;refine⟨⟨i+1,w2.heap.size,rfl,by simp,by omega,⟨bs++[w2.heap.size],(lastOf_snoc bb _ bs).symm,hbd2,?_,?_,?_,?_⟩⟩,by simp [intOf];omega⟩
          · exact (Below.heap_setCell _ ⟨lb,1,none⟩ _ _ hne1).trans ((box_later bV hb).alloc _)
          · intro u hu
            rw [htk] at hu
            rcases List.mem_append.1 hu with hu | hu
            · exact hok u hu
            · simp at hu;subst hu;exact HLZ.out
          · rw [Below.heap_setCell _ ⟨lb,1,none⟩ _ _ hne2];exact blk_alloc' (blk_later hP hb) _
          · exact (below_alloc (below_step hB hb) _).setCell (p:=⟨lb,1,none⟩) hlo _
      · obtain rfl:i=H.length:=by omega
        rw [List.take_length] at hBd hok;have hBA:=hBd.bodyAt hB hr0 hc0;have hsm:Small (o::H):=fun z hz=>by
          have:loopOk (z.map ptP)=true:=by
            rcases List.mem_cons.1 hz with e | hz
            · rw [e];exact HLO.out
            · exact hok z hz
          obtain⟨h3,h8,_⟩:=(Mort.loopOk_iff _).1 this;rw [List.length_map] at h3 h8;exact⟨by omega,h8⟩
        have hRr:r=(apartAll (o::H) && nestedAll o H):=by
          rw [← HR.out];unfold bodyOkB;rw [decide_eq_true (by omega),HLO.out,List.all_eq_true.2 hok];rfl
        have HT:=a0_ (And.intro hBd (And.intro hok (And.intro hP (And.intro hB (And.intro hlb (And.intro hBA (And.intro hsm hRr)))))));have cV:=bV.cell;clear hBd hok hP hB hlb hBA hsm hRr HR hlt hi
        cases hap:apartAll (o::H) with
        | false =>
          gi_wp2_with (refine⟨trivial,?_⟩;gi_at_call 57;refine (callsIn_wide.2 (apart_calls bb (o::H) false _ HT.out.2.2.2.2.2.1.rings HT.out.2.2.2.2.2.2.1 hap)).mono ?_;rintro e w2 ⟨rfl,hb⟩);obtain rfl:r=false:=by rw [HT.out.2.2.2.2.2.2.2,hap];rfl
          refine⟨trivial,?_⟩;gi_wp2;refine⟨.tuple #[.pointer none,.bool false],?_,fun h=>(by cases h),fun _=>⟨rfl,below_step HT.out.2.2.2.1 hb⟩⟩;simp [results,Tryd.f24,go_sem]
        | true =>
          cases hne:nestedAll o H with
          | false =>
            gi_wp2_with (first
              | (refine⟨trivial,?_⟩;gi_at_call 57;refine (callsIn_wide.2 (apart_calls bb (o::H) true _ HT.out.2.2.2.2.2.1.rings HT.out.2.2.2.2.2.2.1 hap)).mono ?_;rintro e w2 ⟨rfl,hb⟩;have cV2:=(box_later bV hb).cell)
              | (refine⟨trivial,?_⟩;gi_at_call 58;refine (callsIn_wide.2 (nested_calls bb _ o H false _ (HT.out.2.2.2.2.2.1.later hb) HLO.out HT.out.2.1 hne)).mono ?_;rintro e w3 ⟨rfl,hb2⟩))
            obtain rfl:r=false:=by rw [HT.out.2.2.2.2.2.2.2,hap,hne];rfl
            refine⟨.tuple #[.pointer none,.bool false],?_,fun h=>(by cases h),fun _=>⟨rfl,below_step (below_step HT.out.2.2.2.1 hb) hb2⟩⟩;simp [results,Tryd.f24,go_sem]
          | true =>
            gi_wp2_with (first
              | (refine⟨trivial,?_⟩;gi_at_call 57;refine (callsIn_wide.2 (apart_calls bb (o::H) true _ HT.out.2.2.2.2.2.1.rings HT.out.2.2.2.2.2.2.1 hap)).mono ?_;rintro e w2 ⟨rfl,hb⟩;have cV2:=(box_later bV hb).cell)
              | (refine⟨trivial,?_⟩;gi_at_call 58;refine (callsIn_wide.2 (nested_calls bb _ o H true _ (HT.out.2.2.2.2.2.1.later hb) HLO.out HT.out.2.1 hne)).mono ?_;rintro e w3 ⟨rfl,hb2⟩;have cV3:=(box_later (box_later bV hb) hb2).cell))
            have hw3:=below_step (below_step HT.out.2.2.2.1 hb) hb2;have hBd3:=(HT.out.1.later hb).later hb2;have bV3:=box_later (box_later bV hb) hb2;have hr:r=true:=by rw [HT.out.2.2.2.2.2.2.2,hap,hne];rfl
            subst hr;have hLen:=HT.out.2.2.2.2.2.2.1;clear hb hb2 cV3 bV hap hne cV
            obtain⟨I,hI⟩:∃ I:Act→World→Prop,Aside0 (I=fun a W=>∃ (i:Nat) (x61 x62 x63 x64 x65 x66 x67 x68 x69 x70 x71:Value) (Ds:List Nat),a={ tmps:=#[.agg #[.slice A0 o.length c0,.slice AH H.length cH],.pointer (some ⟨w.heap.size,0,none⟩),u2,u3,.pointer (some ⟨bb+1,0,none⟩),.pointer (some ⟨lb,0,none⟩),undef,u7,.pointer (ptrAt (bb::bs) i),undef,undef,.pointer (some ⟨w.heap.size,1,none⟩),.slice AH H.length cH,.int .i64 (H.length:Int),.bool false,.bool false,.pointer (some ⟨w.heap.size,0,none⟩),.slice A0 o.length c0,.bool true,.bool false,.bool false,.pointer (some ⟨w.heap.size,0,none⟩),.slice A0 o.length c0,.agg #[.slice A0 o.length c0,.pointer none],.agg #[.slice A0 o.length c0,.pointer none,.slice none 0 0],.pointer (some ⟨bb,0,none⟩),.pointer (some ⟨bb,0,none⟩),.pointer (some ⟨bb,0,none⟩),.pointer (some ⟨bb,0,none⟩),.pointer (some ⟨w.heap.size,1,none⟩),.slice AH H.length cH,.int .i64 (H.length:Int),.int .i64 (H.length:Int),.bool false,u34,u35,u36,u37,u38,u39,u40,u41,u42,u43,u44,u45,u46,u47,u48,u49,.pointer (some ⟨bb,0,none⟩),.bool true,.bool false,.bool false,.pointer (some ⟨bb,0,none⟩),.bool true,.bool false,.bool false,.pointer (some ⟨bb,0,none⟩),.pointer (some ⟨bb,0,none⟩),.pointer (some ⟨bb,0,none⟩),x61,x62,x63,x64,x65,x66,x67,x68,x69,x70,x71,undef,undef,undef,undef,undef,undef,undef,undef,undef,undef,undef,undef,undef],defers:=Ds.map mark } ∧
              (∃ v,i≤(o::H).length∧Ds.length=i∧Ds.Nodup∧(∀ D∈Ds,W.heap[D]?=some (.deferred (some []))∧w.heap.size≤D)∧Built w W w.heap.size bb bs A0 c0 o H v∧Kd.R k89 89 W w.heap.size (fun _=>True) v (allEdges ((o::H).take i))∧Boxed W (bb+1) 47 (.pointer (some ⟨bb,0,none⟩))∧Below w.heap.size w W)):=⟨_,⟨rfl⟩⟩
            obtain⟨μ,hμ⟩:∃ μ:Act→World→Nat,Aside0 (μ=fun a _=>(H.length+2)-a.defers.length):=⟨_,⟨rfl⟩⟩;refine wpIn_loop I μ ?_ ?_
            · rw [hI.out]
              exact⟨0,_,_,_,_,_,_,_,_,_,_,_,[],rfl,_,Nat.zero_le _,rfl,by simp,by simp,hBd3,by rw [List.take_zero];exact Kd.R_nil _ _ _ _ _,bV3,hw3⟩
            · intro a W hIa
              rw [hI.out] at hIa;obtain⟨i,x61,x62,x63,x64,x65,x66,x67,x68,x69,x70,x71,Ds,rfl,v,hi,hDl,hDn,hDs,hBd,hE,bV,hB⟩:=hIa;clear hBd3 bV3 hw3;by_cases hlt:i<(o::H).length
              · obtain⟨Az,cz,q1,q2,hz⟩:=hBd.rings hr0 i hlt
                have hzm:(o::H).getD i []∈o::H:=by rw [getD_lt hlt];exact List.getElem_mem _
                have hzs:=hLen _ hzm;have htk:(o::H).take (i+1)=(o::H).take i++[(o::H).getD i []]:=by rw [getD_lt hlt];exact List.take_succ_eq_append_getElem hlt
                have hlen2:(bb::bs).length=(o::H).length:=by simp [hBd.len]
                rw [ptrAt_some (by rw [hlen2];exact hlt)];have hzl:=row_lt hz hzs.1;have HT2:=a0_ (And.intro htk (And.intro hi (And.intro hDl (And.intro hDn hlen2))));clear htk hzm hi hDl hlen2;generalize hzz:(o::H).getD i []=z at *;generalize hrb:(bb::bs).getD i 0=rb at *;have hrb':=Aside0.mk hrb;have hzz':=Aside0.mk hzz;clear hrb hzz;gi_wp2_with (refine⟨trivial,?_⟩;gi_at_call 59;refine (edges_in _ _ _ _ _).mono ?_;rintro e w' ⟨rfl,rfl⟩);have bN:=Boxed.new W 23 (.slice Az z.length cz);have hal:=below_alloc (Below.refl W.heap.size W) (.cells #[.slice Az z.length cz] 23);have hBd4:=hBd.later hal;have hE4:=R_kept hE (CellsKept.below hal);have bV4:=box_later bV hal;have hB4:=below_step hB hal;have hDs4:∀ D∈Ds,(W.alloc (.cells #[.slice Az z.length cz] 23)).heap[D]?=some (.deferred (some []))∧w.heap.size≤D:=fun D hD=>⟨blk_later (hDs D hD).1 hal,(hDs D hD).2⟩
                have hDlt:∀ D∈Ds,D<W.heap.size:=fun D hD=>(Array.getElem?_eq_some_iff.1 (hDs D hD).1).1
                have hsz4:(W.alloc (.cells #[.slice Az z.length cz] 23)).heap.size=W.heap.size+1:=by simp
                have hWn:=hB.size;have hnxt:=q2;clear hBd hE bV hDs;obtain⟨W4,hW4⟩:∃ W4,W.alloc (.cells #[.slice Az z.length cz] 23)=W4:=⟨_,rfl⟩;have q24:=pw_cell_below hal q2;rw [hW4] at bN hBd4 hE4 bV4 hB4 hDs4 hsz4 q24 ⊢
                clear hW4 hal;obtain⟨Bc,hBc⟩:∃ Bc,W.heap.size=Bc:=⟨_,rfl⟩;rw [hBc] at bN hsz4 hWn hDlt ⊢
                refine wpIn_rangeFunc_ownH rfl (by omega) (gf:=81) (lb:=#[.pointer (some ⟨Bc,0,none⟩)]) rfl trivial (enters_of Tryd.func81 (by kernel_rfl) rfl)
                  (edges_stops 8 (by omega) Bc w.heap.size Az cz z (by omega) hzl W4 (by omega) (by omega) bN.cell (Kd.C_below hz hB4)) (fun h k=>KpE.trans h k) (fun W l o o' hl _ _ _=>KpE.putObj W l o' (by omega) (by omega)) (Below.refl _ _) (fun _=>rfl)
                  (fun pre W'=>∃ v',Built w W' w.heap.size bb bs A0 c0 o H v'∧Kd.R k89 89 W' w.heap.size (fun _=>True) v' (allEdges ((o::H).take i)++pre.map fun (j:Fin z.length)=>edS z (j:Nat))∧Boxed W' (bb+1) 47 (.pointer (some ⟨bb,0,none⟩))∧Boxed W' Bc 23 (.slice Az z.length cz)∧(∀ D∈Ds,W'.heap[D]?=some (.deferred (some []))∧w.heap.size≤D)∧Below w.heap.size w W')
                  (fun _ _ _=>False)
                  (fun pre X Y row hs hg hr=>by
                    obtain⟨v',e1,e2,e3,e4,e5,e6⟩:=hs;have hk:=CellsKept.grown hg (fun r e=>(hr r e).2);refine⟨v',e1.kept hk,R_kept e2 hk,box_kept e3 hk,box_kept e4 hk,fun D hD=>⟨(hg.block D (Array.getElem?_eq_some_iff.1 (e5 D hD).1).1 (fun e=>?_)).trans (e5 D hD).1,(e5 D hD).2⟩,e6.grown hg e6.size (fun r e=>by have:=(hr r e).1;omega)⟩;have h1:=(hr D e.symm).1;have h2:=hDlt D hD
                    omega)
                  (fun _ _ _ _ _ hs _ _=>hs)
                  ⟨v,hBd4,by simpa using hE4,bV4,bN,hDs4,hB4⟩
                  (fun y a' W'=>∃ Bt,(W'.heap[Bt]?=some (segObj (edS z y))∧∃ v',W'.cell? ⟨bb,2,none⟩=some v'∧some Bt≠v'.ownBlock)∧a'={ tmps:=#[.agg #[.slice A0 o.length c0,.slice AH H.length cH],.pointer (some ⟨w.heap.size,0,none⟩),u2,u3,.pointer (some ⟨bb+1,0,none⟩),.pointer (some ⟨lb,0,none⟩),undef,u7,.pointer (some ⟨rb,0,none⟩),undef,.pointer (some ⟨Bt,0,none⟩),.pointer (some ⟨w.heap.size,1,none⟩),.slice AH H.length cH,.int .i64 (H.length:Int),.bool false,.bool false,.pointer (some ⟨w.heap.size,0,none⟩),.slice A0 o.length c0,.bool true,.bool false,.bool false,.pointer (some ⟨w.heap.size,0,none⟩),.slice A0 o.length c0,.agg #[.slice A0 o.length c0,.pointer none],.agg #[.slice A0 o.length c0,.pointer none,.slice none 0 0],.pointer (some ⟨bb,0,none⟩),.pointer (some ⟨bb,0,none⟩),.pointer (some ⟨bb,0,none⟩),.pointer (some ⟨bb,0,none⟩),.pointer (some ⟨w.heap.size,1,none⟩),.slice AH H.length cH,.int .i64 (H.length:Int),.int .i64 (H.length:Int),.bool false,u34,u35,u36,u37,u38,u39,u40,u41,u42,u43,u44,u45,u46,u47,u48,u49,.pointer (some ⟨bb,0,none⟩),.bool true,.bool false,.bool false,.pointer (some ⟨bb,0,none⟩),.bool true,.bool false,.bool false,.pointer (some ⟨bb,0,none⟩),.pointer (some ⟨bb,0,none⟩),.pointer (some ⟨bb,0,none⟩),.pointer (some ⟨rb,0,none⟩),.bool true,x63,x64,x65,x66,.pointer (some ⟨rb,0,none⟩),.pointer (some ⟨rb,0,none⟩),.pointer (some ⟨rb,0,none⟩),.slice Az z.length cz,.func (.func 81) #[] #[.pointer (some ⟨Bc,0,none⟩)],.int .i64 ((y:Nat):Int),.agg #[.int .i64 (edS z y).f0.f0,.int .i64 (edS z y).f0.f1,.int .i64 (edS z y).f1.f0,.int .i64 (edS z y).f1.f1],undef,undef,undef,undef,undef,undef,undef,undef,undef,undef,undef],defers:=[] })
                  (fun y a' _ X Y row hs hg hr=>by obtain⟨Bt,⟨e2,v',e4,e5⟩,e3⟩:=hs;exact⟨Bt,⟨segObj_own Bt (edS z y) () X Y row e2 hg (fun r e=>(hr r e).2),v',cell_kept e4 hg (fun r e=>(hr r e).2),e5⟩,e3⟩)
                  ?assign ?body ?done ?stop
                case assign =>
                  rintro l pre y W' K ⟨v',e1,e2,e3,e4,e5,e6⟩ hK;dsimp only [encE,edV];gi_wp2;have hk:=CellsKept.below (below_alloc (Below.refl W'.heap.size W') (segObj (edS z y)));exact hK _ _ ((KeepsOthers.alloc _ _).from _) (KpE.alloc _ _ _ _) ⟨v',e1.kept hk,R_kept e2 hk,box_kept e3 hk,box_kept e4 hk,fun D hD=>⟨blk_alloc' (e5 D hD).1 _,(e5 D hD).2⟩,below_alloc e6 _⟩ ⟨W'.heap.size,⟨World.alloc_heap_new W' _,v',(blk_cell (e1.kept hk).body 2).trans rfl,fun e=>by have:=R_hi e2 e.symm;omega⟩,rfl⟩
                case body =>
                  rintro l pre y a' W5 hl ⟨rr,hrr⟩ ⟨v',hBd5,hE5,bV5,bN5,hDs5,hB5⟩ ⟨Bt,⟨bT,v'',hv1,hv2⟩,rfl⟩ hlt5;have hBtn:some Bt≠v'.ownBlock:=by
                    have h1:W5.cell? ⟨bb,2,none⟩=some v':=(blk_cell hBd5.body 2).trans rfl;rw [h1] at hv1;cases hv1;exact hv2
                  clear hv1 hv2;have t0:W5.drew.cell? ⟨bb+1,0,none⟩=some (.pointer (some ⟨bb,0,none⟩)):=bV5.cell;have t1:W5.drew.cell? ⟨bb,2,none⟩=some v':=(blk_cell hBd5.body 2).trans rfl;have t2:W5.drew.cell? ⟨Bt,0,none⟩=some (.int .i64 (edS z y).f0.f0):=(blk_cell bT 0).trans rfl;have t3:W5.drew.cell? ⟨Bt,1,none⟩=some (.int .i64 (edS z y).f0.f1):=(blk_cell bT 1).trans rfl;have t4:W5.drew.cell? ⟨Bt,2,none⟩=some (.int .i64 (edS z y).f1.f0):=(blk_cell bT 2).trans rfl;have t5:W5.drew.cell? ⟨Bt,3,none⟩=some (.int .i64 (edS z y).f1.f1):=(blk_cell bT 3).trans rfl;have hal:=below_alloc (Below.refl W5.drew.heap.size W5.drew) (.cells #[.int .i64 (edS z y).f0.f0,.int .i64 (edS z y).f0.f1,.int .i64 (edS z y).f1.f0,.int .i64 (edS z y).f1.f1] 89);have hroom:((allEdges ((o::H).take i)++pre.map fun (j:Fin z.length)=>edS z (j:Nat)).length+1)*32≤140737488355328:=by
                    have h1:=allEdges_len (R:=(o::H).take i) (fun u hu=>hLen u (List.mem_of_mem_take hu));have h2:((o::H).take i).length≤3:=by
                      rw [List.length_take];simp only [List.length_cons];omega
                    rw [List.length_append,List.length_map];omega
                  have hu57:=Tryd.underlying56;have hu61:=Tryd.underlying89;gi_wp2;refine region_inRound (l:=l) (S:=fun w'=>w'.cell? ⟨bb+1,0,none⟩=some (.pointer (some ⟨bb,0,none⟩))∧w'.cell? ⟨bb,2,none⟩=some v'∧w'.cell? ⟨Bt,0,none⟩=some (.int .i64 (edS z y).f0.f0)∧w'.cell? ⟨Bt,1,none⟩=some (.int .i64 (edS z y).f0.f1)∧w'.cell? ⟨Bt,2,none⟩=some (.int .i64 (edS z y).f1.f0)∧w'.cell? ⟨Bt,3,none⟩=some (.int .i64 (edS z y).f1.f1)) (ds:=[10]) (bm 11 0) (by kernel_rfl) rfl rfl ?hd ?hno ⟨t0,t1,t2,t3,t4,t5⟩ (fun hHeld=>?_)
                  case hd =>
                    intro k ob hk c hc;have:=Array.mem_of_getElem? hk;simp only [List.mem_toArray,List.mem_cons,List.not_mem_nil,or_false] at this
                    rcases this with h | h | h | h | h | h | h | h | h | h | h <;> (rw [h] at hc;cases hc)
                  case hno=>exact fun⟨a,w,h⟩=>h.elim
                  refine tb6_ 0 74 (bm 11 1) hHeld ?_;refine tb6_ 1 75 (bm 11 3) hHeld ?_;refine pv_ 2 76 (bm 11 7) ?_;refine pv_ 3 77 (bm 11 15) ?_;refine tb6_ 4 78 (bm 11 31) hHeld ?_;refine tb6_ 5 79 (bm 11 63) hHeld ?_;refine one_ (i:=6) (N:=some 80) (bm 11 127) rfl rfl (by kernel_rfl) (by decide) (fun K hK=>?_);refine value_ (w1:=?_) (v:=?_) (by rfl) rfl ?_ ?_;rotate_left 2
                  · go_simp
                    constructor
                    · rfl
                    · rfl
                  refine hK.out _ _ ⟨pw_cell_below hal t0,pw_cell_below hal t1,pw_cell_below hal t2,pw_cell_below hal t3,pw_cell_below hal t4,pw_cell_below hal t5⟩ (fun hHeld=>?_);clear hK K;refine no_ (h:=?_);refine one_ (i:=7) (N:=some 81) (bm 11 255) rfl rfl (by kernel_rfl) (by decide) (fun K hK=>?_);refine Kd.R_append_step k89 (w0:=w) w.heap.size (by rfl) (.tmp 78) (.tmp 80) 56 89 (.agg #[(.int .i64 0),(.int .i64 0),(.int .i64 0),(.int .i64 0)]) 32 rfl Tryd.underlying56 info89 rfl (by decide) (by omega) v' (allEdges ((o::H).take i)++pre.map fun (j:Fin z.length)=>edS z (j:Nat)) (edS z y) [.int .i64 (edS z y).f0.f0,.int .i64 (edS z y).f0.f1,.int .i64 (edS z y).f1.f0,.int .i64 (edS z y).f1.f1] (fun _=>True) (fun _=>False) rfl rfl ?aP (fun _ hk=>hk.elim) (fun _ _=>trivial) (R_kept hE5 (CellsKept.below (below_drew1 (Below.refl _ W5)))) (below_drew1 hB5) (show w.heap.size≤W5.heap.size from hB5.size) ?aL ?_
                  (case aP=>exact k89_mkM _ _ _ (edS z y))
                  (case aL=>exact hroom)
                  intro v1 w6 ho hb6 hg6 hat6;have hne6:∀ (g:Nat) (t:TypeId) (cs:Array Value),W5.drew.heap[g]?=some (Obj.cells cs t (0,0))→t≠89→some g≠v'.ownBlock:=fun g t cs hgc ht=>R_ne hE5 (g:=g) (t:=t) (cs:=cs) hgc ht
                  have keep6:∀ (g:Nat) (t:TypeId) (cs:Array Value),W5.heap[g]?=some (Obj.cells cs t (0,0))→t≠89→w6.heap[g]?=some (Obj.cells cs t (0,0)):=fun g t cs hgc ht=>(hg6.block g (Array.getElem?_eq_some_iff.1 hgc).1 (hne6 g t cs hgc ht)).trans hgc
                  have hbd6:=keep6 _ _ _ hBd5.body (by decide);obtain⟨Aw,cw,ew⟩:=Kd.R_slice ho;generalize (allEdges ((o::H).take i)++(pre.map fun (j:Fin z.length)=>edS z (j:Nat))++[edS z y]).length=n6 at ew;subst ew;have u2:w6.cell? ⟨bb,2,none⟩=some v':=(blk_cell hbd6 2).trans rfl;have u3:=blk_frozen hbd6 2;have hbt6:=(hg6.block Bt (Array.getElem?_eq_some_iff.1 bT).1 hBtn).trans bT;have hbv6:=keep6 _ _ _ bV5 (by decide);refine hK.out _ _ ⟨(blk_cell hbv6 0).trans rfl,u2,(blk_cell hbt6 0).trans rfl,(blk_cell hbt6 1).trans rfl,(blk_cell hbt6 2).trans rfl,(blk_cell hbt6 3).trans rfl⟩ (fun hHeld=>?_);clear hK K;refine no_ (h:=?_);refine pv_ 8 82 (bm 11 511) ?_;refine pv_ 9 83 (bm 11 1023) ?_;refine last_ (i:=10) (N:=none) (bm 11 2047) rfl rfl (by kernel_rfl) (by decide) (fun K hK=>?_);refine skip_ (w1:=?_) (by rfl) rfl ?_ ?_;rotate_left
                  · go_simp
                    rfl
                  refine hK.out _ _ ?_;clear hK K;refine done_ (by kernel_rfl) ?_;have nonc:∀ (k:Nat) (ob:Obj),W5.heap[k]?=some ob→ob.isCells=false→(w6.setCell ⟨bb,2,none⟩ (.slice Aw n6 cw)).heap[k]?=some ob:=fun k ob h1 h2=>by
                    rw [Below.heap_setCell _ ⟨bb,2,none⟩ _ k (by rintro rfl;have e:=h1.symm.trans hBd5.body;cases e;cases h2)];exact (hg6.block k (Array.getElem?_eq_some_iff.1 h1).1 (R_nc hE5 h1 h2)).trans h1
                  have hBcb:Bc≠bb:=by
                    intro e;have h1:=bN5;rw [e] at h1;have h2:=congrArg (fun (u:Option Obj)=>match u with | some (Obj.cells _ t _)=>t | _=>0) ((show W5.heap[bb]?=_ from h1).symm.trans hBd5.body);exact absurd (show (23:Nat)=58 from h2) (by decide)
                  have hsz6:W5.heap.size≤(w6.setCell ⟨bb,2,none⟩ (.slice Aw n6 cw)).heap.size:=by simp only [World.setCell,Array.size_modify];exact hg6.size
                  refine⟨⟨hsz6,fun k ob _ h1 h2=>nonc k ob h1 h2⟩,⟨hsz6,fun k hk hl5=>?_⟩,_,(hBd5.kept (CellsKept.below (below_drew1 (Below.refl W5.heap.size W5)))).put hg6 hne6,?_,?_,?_,fun D hD=>⟨nonc D _ (hDs5 D hD).1 rfl,(hDs5 D hD).2⟩,hb6.setCell (p:=⟨bb,2,none⟩) hBd5.lo _⟩
                  · have hkb:k≠bb:=by
                      rcases hk with hk | rfl
                      · have:=hBd5.lo;omega
                      · exact hBcb
                    rw [Below.heap_setCell _ ⟨bb,2,none⟩ _ k hkb];refine hg6.block k hl5 ?_
                    rcases hk with hk | rfl
                    · intro e;have:=R_lo hE5 e.symm;omega
                    · exact hne6 k _ _ bN5 (by decide)
                  · have:=R_body ho hbd6 (.slice Aw n6 cw)
                    rw [List.map_append,← List.append_assoc];exact this
                  · exact (Below.heap_setCell _ ⟨bb,2,none⟩ _ (bb+1) (by simp)).trans hbv6
                  · exact (Below.heap_setCell _ ⟨bb,2,none⟩ _ Bc hBcb).trans (keep6 _ _ _ bN5 (by decide))
                case done =>
                  rintro D ys W6 hD rfl ⟨v',hBd6,hE6,bV6,bN6,hDs6,hB6⟩ hK6;obtain⟨_,_,_,r2,_⟩:=hBd6.rings hr0 i hlt;rw [hrb'.out] at r2;gi_wp2;obtain⟨k1,k2,k3,k4,k5⟩:=HT2.out;rw [hI.out,hμ.out];refine⟨⟨i+1,_,_,_,_,_,_,_,_,_,_,_,D::Ds,rfl,v',by simp only [List.length_cons] at hlt ⊢;omega,by simp [k3],?_,?_,hBd6,?_,bV6,hB6⟩,?_⟩
                  · rw [List.nodup_cons]
                    exact⟨fun hm=>by have:=hDlt D hm;omega,k4⟩
                  · intro E hE
                    rcases List.mem_cons.1 hE with rfl | hE
                    · exact⟨hK6,by omega⟩
                    · exact hDs6 E hE
                  · rw [k1]
                    unfold allEdges at hE6 ⊢
                    rw [List.flatMap_append]
                    simpa [edgesS] using hE6
                  · simp only [List.length_cons] at hlt
                    simp only [List.length_cons,List.length_map];omega
                case stop =>
                  rintro D c pre W6 _ _ h _;exact h.elim
              · have hiR:i=(o::H).length:=by omega
                have hlen2:(bb::bs).length=(o::H).length:=by simp [hBd.len]
                rw [ptrAt_none (by omega)];have hba:=hBd.bodyAt hB hr0 hc0;rw [hiR,List.take_length] at hE;have cV:=bV.cell;clear hlt hiR hi hDl hlen2;gi_wp2;have hD1:∀ D∈Ds,W.heap[D]?=some (.deferred (some [])):=fun D hD=>(hDs D hD).1
                refine leavesM_marks Ds W hDn hD1 (fun w' h1 h2 h3 h4 h5=>?_);have hk:=CellsKept.marks hD1 h1;have hBd':=hBd.kept hk;have hB':=marks_below hB (fun D hD=>(hDs D hD).2) h1 h2 h3 h4 h5;refine⟨.tuple #[.pointer (some ⟨bb,0,none⟩),.bool true],?_,fun _=>⟨bb,bs,v,rfl,hBd'.bodyAt hB' hr0 hc0,(blk_cell hBd'.body 2).trans rfl,R_kept hE hk,hB'⟩,fun h=>(by cases h)⟩;simp [results,Tryd.f24,go_sem]
end Go.Proofs.YtailkppkjhkjpaaDoor.X
end
section
set_option linter.unusedVariables false
set_option linter.unusedSimpArgs false
namespace Go.Proofs.YtailkppkjhkjpaaDoor.X
open Go.RowKit Go.Shelf Go.Proofs.YtailkppkjhkjpaaDoorW.PrintWords Go.Proofs.YtailkppkjhkjpaaDoorW.PrintLast Go.Proofs.YtailkppkjhkjpaaDoorW.PrintMore
open Mort (edges segMeet loopOk ptOk inOf segOk)
def impl_PlateIn.f (l0_0:List S37)(l0_1:List (List S37))(a1_0 a1_1:Int):Option Int:=
 some (if bodyOkB l0_0 l0_1 && ptOk (a1_0,a1_1) then runIn (a1_0,a1_1) (inS l0_0 (a1_0,a1_1)) l0_1 else -1)
theorem bodyOkB_iff (o:List S37)(H:List (List S37)):bodyOkB o H=true ↔ H.length≤2∧loopOk (o.map ptP)=true∧(∀ z∈H,loopOk (z.map ptP)=true)∧apartAll (o::H)=true∧nestedAll o H=true:=by
 unfold bodyOkB;simp only [Bool.and_eq_true,decide_eq_true_eq,List.all_eq_true]
theorem loop_len {z:List S37}(h:loopOk (z.map ptP)=true):3≤z.length∧z.length≤8:=by
 obtain⟨h1,h2,_⟩:=(Mort.loopOk_iff _).1 h
 simpa using And.intro h1 h2
section
variable (A0_0:Option Addr) (c0_0:Nat) (l0_0:List S37) (A0_1:Option Addr) (c0_1:Nat) (l0_1:List (List S37))
set_option maxHeartbeats 4000000 in
set_option maxRecDepth 100000 in
theorem impl_PlateIn.calls (a1_0 a1_1 r:Int)(w:World)(hr0_0:Kd.C k37 w A0_0 l0_0.length l0_0)(hc0_0:l0_0.length≤c0_0)(hr0_1:Kd.C (Kd.slice 37 k37) w A0_1 l0_1.length l0_1)(hc0_1:l0_1.length≤c0_1)(h:impl_PlateIn.f l0_0 l0_1 a1_0 a1_1=some r):
  Calls Tryd.prog 17 #[.agg #[.slice A0_0 l0_0.length c0_0,.slice A0_1 l0_1.length c0_1],.agg #[.int .i64 a1_0,.int .i64 a1_1]] w fun e w'=>e=.returned (.int .i64 r)∧Below w.heap.size w w':=by
 have hu26:=Tryd.underlying26;have hu28:=Tryd.underlying37;have hb:(if bodyOkB l0_0 l0_1 && ptOk (a1_0,a1_1) then runIn (a1_0,a1_1) (inS l0_0 (a1_0,a1_1)) l0_1 else -1)=r:=Option.some.inj h;clear h;have hal:=below_alloc (below_alloc (Below.refl w.heap.size w) (.cells #[.slice A0_0 l0_0.length c0_0,.slice A0_1 l0_1.length c0_1] 26)) (.cells #[.int .i64 a1_0,.int .i64 a1_1] 37);have HK:=a0_ (And.intro (Kd.C_below hr0_0 hal) (And.intro hc0_0 (And.intro (Kd.C_below hr0_1 hal) (And.intro hc0_1 hal))));clear hr0_0 hc0_0 hr0_1 hc0_1 hal;have np:=blk_new (w.alloc (.cells #[.slice A0_0 l0_0.length c0_0,.slice A0_1 l0_1.length c0_1] 26)) (.cells #[.int .i64 a1_0,.int .i64 a1_1] 37 (0,0));rw [World.size_alloc] at np;have NP:=Aside0.mk np;clear np
 cases hk:bodyOkB l0_0 l0_1 with
 | false =>
  rw [hk,Bool.false_and,if_neg (by decide)] at hb;subst hb;have HB:=Aside0.mk hk;clear hk;go_enter Tryd.func17,Tryd.ntmps17;go_wp2_with (go_at_call 24;refine (bodyOf_calls A0_0 c0_0 l0_0 A0_1 c0_1 l0_1 false _ HK.out.1 HK.out.2.1 HK.out.2.2.1 HK.out.2.2.2.1 HB.out).mono ?_;rintro e w1 ⟨_,hN⟩;obtain⟨rfl,hb1⟩:=hN rfl);go_ret;exact⟨rfl,below_step HK.out.2.2.2.2 hb1⟩
 | true =>
  cases hp:ptOk (a1_0,a1_1) with
  | false =>
   rw [hk,hp,Bool.and_false,if_neg (by decide)] at hb;subst hb;have HB:=a0_ (And.intro hk ((iPtOk a1_0 a1_1).trans (congrArg some hp)));clear hk hp;go_enter Tryd.func17,Tryd.ntmps17;go_wp2_with (first | (go_at_call 24;refine (bodyOf_calls A0_0 c0_0 l0_0 A0_1 c0_1 l0_1 true _ HK.out.1 HK.out.2.1 HK.out.2.2.1 HK.out.2.2.2.1 HB.out.1).mono ?_;rintro e w1 ⟨hN,_⟩;obtain⟨b,bs,v,rfl,hBA,hcell,hR,hb1⟩:=hN rfl;have m0:=pw_cell_below hb1 ((blk_cell NP.out 0).trans rfl);have m1:=pw_cell_below hb1 ((blk_cell NP.out 1).trans rfl);clear hBA hR hcell) | (go_at_call 46;refine (impl_PtOk.calls a1_0 a1_1 false _ HB.out.2).mono ?_;rintro e w2 ⟨rfl,hb2⟩));go_ret;exact⟨rfl,below_step (below_step HK.out.2.2.2.2 hb1) hb2⟩
  | true =>
   rw [hk,hp,Bool.and_true,if_pos rfl] at hb;have HB:=a0_ (And.intro hk (And.intro ((iPtOk a1_0 a1_1).trans (congrArg some hp)) (And.intro hp hb)));clear hk hp hb;go_enter Tryd.func17,Tryd.ntmps17;go_wp2_with (first | (go_at_call 24;refine (bodyOf_calls A0_0 c0_0 l0_0 A0_1 c0_1 l0_1 true _ HK.out.1 HK.out.2.1 HK.out.2.2.1 HK.out.2.2.2.1 HB.out.1).mono ?_;rintro e w1 ⟨hN,_⟩;obtain⟨b,bs,v,rfl,hBA,hcell,hR,hb1⟩:=hN rfl;have m0:=pw_cell_below hb1 ((blk_cell NP.out 0).trans rfl);have m1:=pw_cell_below hb1 ((blk_cell NP.out 1).trans rfl);have HA:=Aside0.mk hBA;clear hBA hR hcell) | (go_at_call 46;refine (impl_PtOk.calls a1_0 a1_1 true _ HB.out.2.1).mono ?_;rintro e w2 ⟨rfl,hb2⟩;have m2:=pw_cell_below hb2 m0;have m3:=pw_cell_below hb2 m1) | (go_at_call 47;refine (in_calls b l0_0 l0_1 a1_0 a1_1 r _ (HA.out.later hb2).rings ((bodyOkB_iff _ _).1 HB.out.1).2.1 ((bodyOkB_iff _ _).1 HB.out.1).2.2.1 HB.out.2.2.1 HB.out.2.2.2).mono ?_;rintro e w3 ⟨rfl,hb3⟩));go_ret;exact⟨rfl,below_step (below_step (below_step HK.out.2.2.2.2 hb1) hb2) hb3⟩
end
end Go.Proofs.YtailkppkjhkjpaaDoor.X
end
section
set_option linter.unusedVariables false
set_option linter.unusedSimpArgs false
namespace Go.Proofs.YtailkppkjhkjpaaDoor.X
open Go.RowKit Go.Shelf Go.Proofs.YtailkppkjhkjpaaDoorW.PrintWords Go.Proofs.YtailkppkjhkjpaaDoorW.PrintLast Go.Proofs.YtailkppkjhkjpaaDoorW.PrintMore
open Mort (ptOk loopOk)
open Txt (wrLoop wrLines)
theorem builder_below {T e:TypeId}{B b:Nat}{p:Value}{bs:List Value}{w w':World}(h:Lib.BuilderAtF T e B b p bs w)(hb:Below w.heap.size w w'):Lib.BuilderAtF T e B b p bs w':=by
 obtain⟨h1,v,h2,⟨h3,h4⟩,h5⟩:=h;refine⟨h1,v,blk_below h2 hb,⟨h3,?_⟩,h5⟩
 rcases h4 with h4 | ⟨g,cap,cur,fz,e1,e2,e3,e4⟩
 ·
  exact .inl h4
 ·
  exact .inr ⟨g,cap,cur,fz,e1,e2,blk_below e3 hb,e4⟩
theorem isBuilder_below {T e:TypeId}{B b:Nat}{bs:List Value}{w w':World}(h:Lib.IsBuilderF T e B b bs w)(hb:Below w.heap.size w w'):Lib.IsBuilderF T e B b bs w':=
 h.elim (fun k=>.inl (builder_below k hb)) (fun k=>.inr (builder_below k hb))
theorem isBuilder_used {T e:TypeId}{B b:Nat}{bs:List Value}{w:World}(h:Lib.BuilderAtF T e B b (.pointer (some ⟨b,0,none⟩)) bs w):Lib.IsBuilderF T e B b bs w:=Or.inr h
def linesOf (ls:List (List S37)):List UInt8:=wrLines (ls.map (List.map ptP))
theorem linesOf_snoc (ls:List (List S37))(z:List S37):linesOf (ls++[z])=linesOf ls++(textOf z).data.toList++[10]:=by
 unfold linesOf wrLines textOf;simp
theorem textOf_len {z:List S37}(h0:0<z.length)(h8:z.length≤8):(textOf z).size≤31:=by
 unfold textOf
 show (wrLoop (z.map ptP)).toArray.size≤31
 cases z with
 | nil=>simp at h0
 | cons p ps =>
  rw [List.map_cons,List.size_toArray,Txt.loop_len,List.length_map];rw [List.length_cons] at h8;omega
def impl_PlateText.f (l0_0:List S37)(l0_1:List (List S37)):Option ByteArray:=some (if bodyOkB l0_0 l0_1 then ⟨(linesOf (l0_0::l0_1)).toArray⟩ else ⟨#[]⟩)
theorem loop_ptOk {l:List Mort.Pt}(h:loopOk l=true):∀ p∈l,ptOk p=true:=by
 intro p hp;rw [← Mort.edges_fst l] at hp;obtain⟨e,he,rfl⟩:=List.mem_map.1 hp;exact ((Mort.segOk_iff _).1 (((Mort.loopOk_iff _).1 h).2.2.1 e he)).1
theorem lines_len:∀ (ls:List (List S37)),(∀ z∈ls,0<z.length∧z.length≤8)→(linesOf ls).length≤32*ls.length
 | [],_=>by simp [linesOf,wrLines]
 | z::ls,h=>by
  have ih:=lines_len ls (fun y hy=>h y (List.mem_cons_of_mem _ hy));have hz:=textOf_len (h z (by simp)).1 (h z (by simp)).2;have e:linesOf (z::ls)=(textOf z).data.toList++[10]++linesOf ls:=by simp [linesOf,wrLines,textOf]
  rw [e];have e2:(textOf z).data.toList.length=(textOf z).size:=by rw [Array.length_toList];rfl
  simp only [List.length_append,List.length_cons,List.length_nil];omega
theorem loop_pts {z:List S37}(h:loopOk (z.map ptP)=true):impl_pointsText.f z=some (textOf z):=by
 have hl:=loop_len h;unfold impl_pointsText.f;rw [if_pos];rw [Bool.and_eq_true,Bool.and_eq_true,decide_eq_true_eq,decide_eq_true_eq];refine⟨⟨by omega,by omega⟩,?_⟩;unfold allPts;rw [List.all_eq_true];intro p hp;exact loop_ptOk h _ (List.mem_map_of_mem hp)
set_option maxHeartbeats 4000000 in
set_option maxRecDepth 100000 in
theorem impl_PlateText.calls (A0_0:Option Addr)(c0_0:Nat)(l0_0:List S37)(A0_1:Option Addr)(c0_1:Nat)(l0_1:List (List S37))(r:ByteArray)(w:World)(hr0_0:Kd.C k37 w A0_0 l0_0.length l0_0)(hc0_0:l0_0.length≤c0_0)(hr0_1:Kd.C (Kd.slice 37 k37) w A0_1 l0_1.length l0_1)(hc0_1:l0_1.length≤c0_1)(h:impl_PlateText.f l0_0 l0_1=some r):
  Calls Tryd.prog 7 #[.agg #[.slice A0_0 l0_0.length c0_0,.slice A0_1 l0_1.length c0_1]] w fun e w'=>e=.returned (.string r)∧Below w.heap.size w w':=by
 have hu26:=Tryd.underlying26;have hb:(if bodyOkB l0_0 l0_1 then (⟨(linesOf (l0_0::l0_1)).toArray⟩:ByteArray) else ⟨#[]⟩)=r:=Option.some.inj h;clear h;have hal:=below_alloc (Below.refl w.heap.size w) (.cells #[.slice A0_0 l0_0.length c0_0,.slice A0_1 l0_1.length c0_1] 26);have HK:=a0_ (And.intro (Kd.C_below hr0_0 hal) (And.intro hc0_0 (And.intro (Kd.C_below hr0_1 hal) (And.intro hc0_1 hal))));clear hr0_0 hc0_0 hr0_1 hc0_1 hal
 cases hk:bodyOkB l0_0 l0_1 with
 | false =>
  rw [hk,if_neg (by decide)] at hb;subst hb;have HB:=Aside0.mk hk;clear hk;go_enter Tryd.func7,Tryd.ntmps7;go_wp2_with (go_at_call 24;refine (bodyOf_calls A0_0 c0_0 l0_0 A0_1 c0_1 l0_1 false _ HK.out.1 HK.out.2.1 HK.out.2.2.1 HK.out.2.2.2.1 HB.out).mono ?_;rintro e w1 ⟨_,hN⟩;obtain⟨rfl,hb1⟩:=hN rfl);go_ret;exact⟨rfl,below_step HK.out.2.2.2.2 hb1⟩
 | true =>
  rw [hk,if_pos rfl] at hb;have HB:=a0_ (And.intro hk hb);clear hk hb;go_enter Tryd.func7,Tryd.ntmps7;go_wp2_with (go_at_call 24;refine (bodyOf_calls A0_0 c0_0 l0_0 A0_1 c0_1 l0_1 true _ HK.out.1 HK.out.2.1 HK.out.2.2.1 HK.out.2.2.2.1 HB.out.1).mono ?_;rintro e w1 ⟨hN,_⟩;obtain⟨b,bs,v,rfl,hBA,hcell,hR,hb1⟩:=hN rfl;have HBA:=a0_ (And.intro hBA hb1);clear hBA hR hcell hb1);clear hN;have hg0:=Lib.IsBuilderF.of (Lib.fresh_isBuilder 52 5 w1);have hRG:RingsAt w1 (some ⟨b,0,none⟩) (l0_0::l0_1):=by
   obtain⟨A1,c1,h1⟩:=HBA.out.1.outer;exact⟨b,A1,c1,_,rfl,h1,HBA.out.1.holes.at _ 0 rfl⟩
  have hB1:=below_alloc (Below.refl _ w1) (.cells #[.pointer none,.slice none 0 0] 52);have hlp:∀ z∈l0_0::l0_1,loopOk (z.map ptP)=true:=by
   obtain⟨_,h1,h2,_⟩:=(bodyOkB_iff _ _).1 HB.out.1;intro z hz
   rcases List.mem_cons.1 hz with rfl | hz
   ·
    exact h1
   ·
    exact h2 z hz
  have hln:l0_1.length≤2:=((bodyOkB_iff _ _).1 HB.out.1).1;obtain⟨g,hg⟩:∃ g,w1.heap.size=g:=⟨_,rfl⟩;rw [hg] at hg0;have HG:=a0_ (And.intro hg (And.intro hg0 (And.intro hRG (And.intro hB1 (And.intro hlp hln)))));rw [hg];clear hg hg0 hRG hB1 hlp hln;generalize w1.alloc (.cells #[.pointer none,.slice none 0 0] 52)=W1 at *;go_loopg [6] (l0_0::l0_1).length (fun kq v6 wr=>∃ (p:Option Addr) (rest done:List (List S37)),v6=.pointer p∧Aside0 (kq=rest.length∧RingsAt w1 p rest∧done++rest=l0_0::l0_1∧Lib.IsBuilderF 52 5 g g (Lib.byteCells (linesOf done)) wr∧Below w1.heap.size w1 wr))
  case atStart=>exact⟨_,l0_0::l0_1,[],rfl,⟨rfl,HG.out.2.2.1,rfl,HG.out.2.1,HG.out.2.2.2.1⟩⟩
  case round =>
   obtain⟨p,rest,done,rfl,HR⟩:=hrel;have hsz:g≤wr.heap.size:=by have:=HR.out.2.2.2.2.size;have:=HG.out.1;omega
   cases rest with
   | nil =>
    obtain rfl:p=none:=HR.out.2.1;have hd:done=l0_0::l0_1:=by have:=HR.out.2.2.1;rwa [List.append_nil] at this
    have HD:=a0_ (And.intro hd hsz);clear hd hsz;go_wp2_with (go_at_call 28;(with_reducible refine (Tryd.Builder_String_any_k g g (linesOf done) _ HR.out.2.2.2.1 HD.out.2).mono ?_);rintro e w3 ⟨rfl,_,hb3,_⟩;have H3:=Aside0.mk hb3;clear hb3);go_ret;refine⟨?_,below_step HK.out.2.2.2.2 (below_step HBA.out.2 (HR.out.2.2.2.2.trans (HG.out.1.symm▸H3.out)))⟩;rw [HD.out.1,HB.out.2];rfl
   | cons z rest =>
    obtain⟨b1,A1,c1,n1,rfl,hz,hrest⟩:=HR.out.2.1;have z1:=pw_cell_below HR.out.2.2.2.2 hz.pts;have z2:=pw_cell_below HR.out.2.2.2.2 hz.nxt;have hu55:=Tryd.underlying55;have hzo:=HG.out.2.2.2.2.1 z (by rw [← HR.out.2.2.1];simp);have hlz:=loop_len hzo;have hdl:done.length+rest.length+1≤3:=by
     have:=congrArg List.length HR.out.2.2.1;have h2:=HG.out.2.2.2.2.2;simp only [List.length_append,List.length_cons] at this;omega
    have hdn:(Lib.byteCells (linesOf done)).length≤96:=by
     rw [Lib.byteCells_length];refine Nat.le_trans (lines_len done (fun y hy=>?_)) (by omega);have:=loop_len (HG.out.2.2.2.2.1 y (by rw [← HR.out.2.2.1];simp [hy]));omega
    have htl:=textOf_len (z:=z) (by omega) hlz.2;have hl3:(Lib.byteCells (linesOf done)++Lib.strCells (textOf z)).length+1≤140737488355328:=by
     have e2:(textOf z).data.toList.length=(textOf z).size:=by rw [Array.length_toList];rfl
     rw [List.length_append,Lib.strCells_eq,Lib.byteCells_length (textOf z).data.toList,e2];omega
    have HL3:=Aside0.mk hl3;have HZ5:=Aside0.mk HR.out.2.2.2.2.size;have HZ:=a0_ (And.intro hz (And.intro hrest (And.intro hzo (And.intro hdn (And.intro htl hsz)))));clear hz hrest hzo hlz hdl hdn htl hsz hl3
    go_wp2_with (first
     | (go_at_call 26;(with_reducible refine (impl_pointsText.calls A1 c1 z (textOf z) _ (HZ.out.1.later HR.out.2.2.2.2).row (HZ.out.1.later HR.out.2.2.2.2).cap (loop_pts HZ.out.2.2.1)).mono ?_);rintro e w2 ⟨rfl,hb2⟩;have H2:=Aside0.mk hb2;clear hb2)
     | (go_at_call 25;(with_reducible refine (Tryd.Builder_WriteString_k g g _ (textOf z) _ (isBuilder_below HR.out.2.2.2.1 H2.out) (by have:=HZ.out.2.2.2.1;have:=HZ.out.2.2.2.2.1;omega) (Nat.le_trans HZ.out.2.2.2.2.2 H2.out.size)).mono ?_);rintro e w3 ⟨rfl,hB3,hb3,_⟩;have H3:=a0_ (And.intro hB3 hb3);clear hB3 hb3)
     | (go_at_call 27;(with_reducible refine (Tryd.Builder_WriteByte_k g g _ 10 _ (isBuilder_used H3.out.1) HL3.out (Nat.le_trans (Nat.le_trans HZ.out.2.2.2.2.2 H2.out.size) H3.out.2.size)).mono ?_);rintro e w4 ⟨rfl,hB4,hb4,_⟩;have q4:Below w1.heap.size w1 w4:=HR.out.2.2.2.2.trans ((H2.out.mono HZ5.out).trans (by rw [HG.out.1];exact H3.out.2.trans hb4));have z3:=pw_cell_below q4 HZ.out.1.nxt;have H4:=a0_ (And.intro hB4 q4);clear q4;clear hB4 hb4))
    obtain⟨r1,_,r3,_,_⟩:=HR.out;obtain⟨hB4,q4⟩:=H4.out;have e4:Lib.byteCells (linesOf done)++Lib.strCells (textOf z)++[.int .u8 10]=Lib.byteCells (linesOf (done++[z])):=by
     rw [linesOf_snoc,Lib.byteCells_append,Lib.byteCells_append,Lib.strCells_eq];rfl
    rw [e4] at hB4;go_roundg rest.length
    case measure=>rw [r1];simp
    case rel=>exact⟨n1,rest,done++[z],rfl,⟨rfl,HZ.out.2.1,by rw [List.append_assoc];exact r3,isBuilder_used hB4,q4⟩⟩
end Go.Proofs.YtailkppkjhkjpaaDoor.X
end
section
namespace Go.Proofs.YtailkppkjhkjpaaDoor.X
open Go.RowKit Go.Proofs.YtailkppkjhkjpaaDoorW.PrintWords Go.Proofs.YtailkppkjhkjpaaDoorW.PrintLast Go.Proofs.YtailkppkjhkjpaaDoorW.PrintMore
attribute [local go_sem] max2_int min2_int max_two min_two max_three min_three max_four min_four
set_option linter.unusedVariables false
set_option linter.unusedSimpArgs false
def laws_FnPlateLoop.j0:Nat→Int→Bool→List (S37)→List (List (S37))→Int→Int→Option (Bool)
 | 0,_,_,_,_,_,_=>none
 | k+1,x5,x32,x590000,x590001,x591000,x591001=>if x32=true then ((spec_PlateIn.f k x590000 x590001 x591000 x591001).bind fun t595=>(some (x5==t595))) else ((impl_PlateIn.f x590000 ([]:List (List (S37))) x591000 x591001).bind fun t597=>((impl_LoopIn.f x590000 x591000 x591001).bind fun t598=>(if t597=t598 then ((impl_PlateText.f x590000 ([]:List (List (S37)))).bind fun t599=>((impl_LoopText.f x590000).bind fun t600=>(if t600.size+1≤9223372036854775807 then (if t599.toList=(t600++(⟨#[10]⟩:ByteArray)).toList then ((impl_PlateIn.f x590000 ([]:List (List (S37))) x591000 x591001).bind fun t601=>(some (decide (t601≥x5)))) else (some false)) else (none)))) else (some false))))
def laws_FnPlateLoop.f (k:Nat)(l0:List Int):Option (Bool):=if (l0.length:Int)>1048576 then (some true) else ((spec_DrawPlateIn.f k l0).bind fun bt581=>((impl_PlateIn.f bt581.1 bt581.2.1 bt581.2.2.1 bt581.2.2.2).bind fun t591=>((spec_PlateIn.f k bt581.1 bt581.2.1 bt581.2.2.1 bt581.2.2.2).bind fun t592=>(if t591=t592 then ((spec_PlateOk.f k bt581.1 bt581.2.1).bind fun t593=>(if t593=true then ((spec_PtOk.f bt581.2.2.1 bt581.2.2.2).bind fun t594=>(laws_FnPlateLoop.j0 k t591 (!t594) bt581.1 bt581.2.1 bt581.2.2.1 bt581.2.2.2)) else (laws_FnPlateLoop.j0 k t591 true bt581.1 bt581.2.1 bt581.2.2.1 bt581.2.2.2))) else (laws_FnPlateLoop.j0 k t591 true bt581.1 bt581.2.1 bt581.2.2.1 bt581.2.2.2)))))
def laws_FnPlateLoop.T8:Bool × List (List Nat × List Nat):=(true,[([],[]),([],[]),([0,1],[0,1]),([],[]),([3],[3]),([],[]),([4,5,2],[4,5]),([2,6],[2,6]),([7,6],[7]),([8],[8]),([9,8,8],[8,9]),([8],[8]),([11,8],[8,11]),([12,10,8],[8,12]),([13,8],[8,13]),([10,14,8],[8,10,14]),([8,15],[8,15]),([16,13],[16]),([17],[17]),([17],[17]),([18,19,17,17],[17,18,19]),([17],[17]),([20,21,17],[17,20,21]),([17,22],[17,22]),([23,20,0,1,2,3,4,5,6,7,8,9,10,11,12,13,14,15,16,17,18,19,20,21,22,23],[23])])
def laws_FnPlateLoop.B8:List Nat:=[0,0,3,0,8,0,63,127,255,511,1023,511,2559,8191,16383,32767,65535,131071,262143,262143,1048575,262143,4194303,8388607,16777215]
theorem laws_FnPlateLoop.tab8:rtab .any (opsOf Tryd.f5 8)=laws_FnPlateLoop.T8:=by kernel_rfl
theorem laws_FnPlateLoop.bits8:waitsOk laws_FnPlateLoop.T8.2 laws_FnPlateLoop.B8=true:=by kernel_rfl
set_option maxHeartbeats 8000000 in
set_option maxRecDepth 100000 in
theorem laws_FnPlateLoop.calls (k:Nat)(A0:Option Addr)(c0:Nat)(l0:List Int)(r:Bool)(w:World)(hr0:Kd.C (Kd.int .u8) w A0 l0.length l0)(hc0:l0.length≤c0)(h:laws_FnPlateLoop.f k l0=some r):
  Calls Tryd.prog 5 #[.slice A0 l0.length c0] w fun e w'=>e=.returned (.bool r)∧Below w.heap.size w w':=by
 have hu26:=Tryd.underlying26;have hu37:=Tryd.underlying37;have HR0:=Aside0.mk hr0;have HC0:=Aside0.mk hc0;clear hr0 hc0;have HB:=a0_ (Below.refl w.heap.size w);have H:(if (l0.length:Int)>1048576 then (some true) else ((spec_DrawPlateIn.f k l0).bind fun bt581=>((impl_PlateIn.f bt581.1 bt581.2.1 bt581.2.2.1 bt581.2.2.2).bind fun t591=>((spec_PlateIn.f k bt581.1 bt581.2.1 bt581.2.2.1 bt581.2.2.2).bind fun t592=>(if t591=t592 then ((spec_PlateOk.f k bt581.1 bt581.2.1).bind fun t593=>(if t593=true then ((spec_PtOk.f bt581.2.2.1 bt581.2.2.2).bind fun t594=>(laws_FnPlateLoop.j0 k t591 (!t594) bt581.1 bt581.2.1 bt581.2.2.1 bt581.2.2.2)) else (laws_FnPlateLoop.j0 k t591 true bt581.1 bt581.2.1 bt581.2.2.1 bt581.2.2.2))) else (laws_FnPlateLoop.j0 k t591 true bt581.1 bt581.2.1 bt581.2.2.1 bt581.2.2.2))))))=some r:=h;clear h;by_cases c2:(l0.length:Int)>1048576
 ·
  rw [if_pos c2] at H;have c2b0:decide (1048576<(l0.length:Int))=true:=decide_eq_true c2;have c2b1:decide (1048576<l0.length)=true:=decide_eq_true (by omega);clear c2;obtain rfl:=Option.some.inj H;go_enter Tryd.func5,Tryd.ntmps5;go_wp2;go_ret;exact⟨rr_,hB_⟩
 ·
  rw [if_neg c2] at H;have c2b0:decide (1048576<(l0.length:Int))=false:=decide_eq_false c2;have c2b1:decide (1048576<l0.length)=false:=decide_eq_false (by omega);clear c2;replace H:=Option.bind_eq_some_iff.mp H;obtain⟨⟨t581,t584,t587,t588⟩,A30,H⟩:=H
  (try dsimp only at H)
  have A3:=Aside0.mk A30;clear A30;replace H:=Option.bind_eq_some_iff.mp H;obtain⟨t591,A40,H⟩:=H
  (try dsimp only at H)
  have A4:=Aside0.mk A40;clear A40;have HC5:=Aside0.mk H;clear H;go_enter Tryd.func5,Tryd.ntmps5
  go_upto_region 5 with (first | ((with_reducible refine gate_callee (f:=16) rfl ?_);refine gL_ (some 12) Tryd.func16 #[.slice A0 l0.length c0] (h:=?_);(with_reducible refine (spec_DrawPlateIn.calls k _ _ l0 t581 t584 t587 t588 _ ?side1 ?side2 A3.out).mono ?_);(case side1=>repeat (first | exact HR0.out | (with_reducible refine Kd.C_alloc ?_ _) | (with_reducible refine Kd.C_drewN ?_ _) | (with_reducible refine Kd.C_drew ?_)));(case side2=>exact HC0.out);rintro e w6 ⟨v582,v585,rfl,ho0,ho1,hb⟩;refine⟨_,rfl,?_⟩;have HO583:=a0_ (Kd.R_lower (Kd.R_mono (ok':=fun k_=>True) ho0 (fun _ hk_=>trivial)) (below_size hB_));have HO586:=a0_ (Kd.N_lower (Kd.N_mono (ok':=fun k_=>some k_≠(v582:Value).ownBlock) ho1 (fun k_ hk_=>hk_.2)) (below_size hB_));replace HB:=sb_ HB hb;(try clear ho0 ho1 hb)) | ((with_reducible refine gate_dst (N:=3) rfl ?_);refine bx_ (N:=3) (cs:=#[.slice none 0 0,.slice none 0 0]) (t:=26) (h:=?_);intro gb589 hg w7 hbox hb;have BK589:=a0_ (hbox);have GW589:=gh_ HB hg;have GE589:=gh_ HB hg;replace HO583:=rb_ HO583 hb;replace HO586:=a0_ (Kd.N_below (Kd.N_elderB (uN_ HO586) gb589 (Nat.le_of_eq hg.symm)) hb);replace HB:=sb_ HB hb;clear hb hbox hg) | ((with_reducible refine gate_dst (N:=4) rfl ?_);refine bx_ (N:=4) (cs:=#[.int .i64 0,.int .i64 0]) (t:=37) (h:=?_);intro gb590 hg w8 hbox hb;have BK590:=a0_ (hbox);have GW590:=gh_ HB hg;have GE590:=gh_ HB hg;have NB589_590:=nl_ BK589 hg;have NB590_589:=nr_ BK589 hg;replace HO583:=a0_ (Kd.R_below (Kd.R_elderB (uR_ HO583) gb590 (Nat.le_of_eq hg.symm)) hb);replace HO586:=a0_ (Kd.N_below (Kd.N_elderB (uN_ HO586) gb590 (Nat.le_of_eq hg.symm)) hb);replace BK589:=vb_ BK589 hb;replace HB:=sb_ HB hb;clear hb hbox hg;obtain⟨Ao9,co9,eo9⟩:=Kd.R_slice HO583.out;subst eo9;have hnb10:=NB589_590.out;have hnc10:=NB590_589.out;have hcz11_0:=c20_ BK589;have hcz11_1:=c21_ BK589;have hfz11_0:=fz_ BK589 0;have hfz11_1:=fz_ BK589 1;obtain⟨Ao12,co12,eo12⟩:=Kd.N_slice HO586.out;subst eo12;have hcz13_0:=c20_ BK590;have hcz13_1:=c21_ BK590;have hfz13_0:=fz_ BK590 0;have hfz13_1:=fz_ BK590 1) | ((with_reducible refine gate_callee (f:=17) rfl ?_);refine gL_ (some 17) Tryd.func17 #[.agg #[.slice Ao9 t581.length co9,.slice Ao12 t584.length co12],.agg #[.int .i64 t587,.int .i64 t588]] (h:=?_);(with_reducible refine (impl_PlateIn.calls _ _ t581 _ _ t584 t587 t588 t591 _ ?side1 ?side2 ?side3 ?side4 A4.out).mono ?_);(case side1=>refine (Kd.R_reads' (e:=37) (base:=w.heap.size) (ok:=fun k_=>(True∧k_≠gb590)) (n:=t581.length) (c:=co9) ?_).2.2;exact (by (with_reducible repeat (first | apply Kd.R_alloc | apply Kd.R_drewN | apply Kd.R_drew));exact (Kd.R_mono (Kd.R_mono (Kd.R_far (p:=⟨gb590,1,none⟩) (Kd.R_far (p:=⟨gb590,0,none⟩) (Kd.R_far (p:=⟨gb589,1,none⟩) (Kd.R_far (p:=⟨gb589,0,none⟩) (Kd.R_mono (Kd.R_types HO583.out BK589.out (by decide)) (fun k_ hk=>(⟨hk,hk.1.2⟩:_∧k_≠gb590))) (fun _ hk=>hk.1.2) (.slice Ao9 t581.length co9)) (fun _ hk=>hk.1.2) (.slice Ao12 t584.length co12)) (fun _ hk=>hk.2) (.int .i64 t587)) (fun _ hk=>hk.2) (.int .i64 t588)) (fun _ h_=>h_.1)) (fun _ h_=>h_.1))));(case side2=>exact (Kd.R_reads' HO583.out).2.1);(case side3=>refine (Kd.N_reads' (e:=23) (base:=w.heap.size) (ok:=fun k_=>((some k_≠(.slice Ao9 t581.length co9:Value).ownBlock∧k_≠gb589)∧k_≠gb590)) (n:=t584.length) (c:=co12) ?_).2.2;exact (by (with_reducible repeat (first | apply Kd.N_alloc | apply Kd.N_drewN | apply Kd.N_drew));exact (Kd.N_mono (Kd.N_mono (Kd.N_far (p:=⟨gb590,1,none⟩) (Kd.N_far (p:=⟨gb590,0,none⟩) (Kd.N_far (p:=⟨gb589,1,none⟩) (Kd.N_far (p:=⟨gb589,0,none⟩) (Kd.N_mono (Kd.N_mono HO586.out (fun k_ hk=>(⟨hk,hk.1.2⟩:_∧k_≠gb589))) (fun k_ hk=>(⟨hk,hk.1.2⟩:_∧k_≠gb590))) (fun _ hk=>hk.1.2) (.slice Ao9 t581.length co9)) (fun _ hk=>hk.1.2) (.slice Ao12 t584.length co12)) (fun _ hk=>hk.2) (.int .i64 t587)) (fun _ hk=>hk.2) (.int .i64 t588)) (fun _ h_=>h_.1)) (fun _ h_=>h_.1))));(case side4=>exact (Kd.N_reads' HO586.out).2.1);rintro e w14 ⟨rfl,hb⟩;refine⟨_,rfl,?_⟩;replace HO583:=a0_ (Kd.R_below (by (with_reducible repeat (first | apply Kd.R_alloc | apply Kd.R_drewN | apply Kd.R_drew));exact (Kd.R_mono (Kd.R_mono (Kd.R_far (p:=⟨gb590,1,none⟩) (Kd.R_far (p:=⟨gb590,0,none⟩) (Kd.R_far (p:=⟨gb589,1,none⟩) (Kd.R_far (p:=⟨gb589,0,none⟩) (Kd.R_mono (Kd.R_types HO583.out BK589.out (by decide)) (fun k_ hk=>(⟨hk,hk.1.2⟩:_∧k_≠gb590))) (fun _ hk=>hk.1.2) (.slice Ao9 t581.length co9)) (fun _ hk=>hk.1.2) (.slice Ao12 t584.length co12)) (fun _ hk=>hk.2) (.int .i64 t587)) (fun _ hk=>hk.2) (.int .i64 t588)) (fun _ h_=>h_.1)) (fun _ h_=>h_.1))) hb);replace HO586:=a0_ (Kd.N_below (by (with_reducible repeat (first | apply Kd.N_alloc | apply Kd.N_drewN | apply Kd.N_drew));exact (Kd.N_mono (Kd.N_mono (Kd.N_far (p:=⟨gb590,1,none⟩) (Kd.N_far (p:=⟨gb590,0,none⟩) (Kd.N_far (p:=⟨gb589,1,none⟩) (Kd.N_far (p:=⟨gb589,0,none⟩) (Kd.N_mono (Kd.N_mono HO586.out (fun k_ hk=>(⟨hk,hk.1.2⟩:_∧k_≠gb589))) (fun k_ hk=>(⟨hk,hk.1.2⟩:_∧k_≠gb590))) (fun _ hk=>hk.1.2) (.slice Ao9 t581.length co9)) (fun _ hk=>hk.1.2) (.slice Ao12 t584.length co12)) (fun _ hk=>hk.2) (.int .i64 t587)) (fun _ hk=>hk.2) (.int .i64 t588)) (fun _ h_=>h_.1)) (fun _ h_=>h_.1))) hb);replace BK589:=a0_ (blk_below (g:=gb589) (o:=.cells #[.slice Ao9 t581.length co9,.slice Ao12 t584.length co12] 26 (0,0)) (by (with_reducible repeat (first | refine blk_drewN ?_ _ | refine blk_drew ?_ | refine blk_alloc ?_ _));refine blk_far ?_ NB589_590.out _;(with_reducible repeat (first | refine blk_drewN ?_ _ | refine blk_drew ?_ | refine blk_alloc ?_ _));refine blk_far ?_ NB589_590.out _;(with_reducible repeat (first | refine blk_drewN ?_ _ | refine blk_drew ?_ | refine blk_alloc ?_ _));refine blk_put (cs:=#[.slice Ao9 t581.length co9,.slice none 0 0]) ?_ 1 _ rfl;(with_reducible repeat (first | refine blk_drewN ?_ _ | refine blk_drew ?_ | refine blk_alloc ?_ _));refine blk_put (cs:=#[.slice none 0 0,.slice none 0 0]) ?_ 0 _ rfl;(with_reducible repeat (first | refine blk_drewN ?_ _ | refine blk_drew ?_ | refine blk_alloc ?_ _));exact BK589.out) hb);replace BK590:=a0_ (blk_below (g:=gb590) (o:=.cells #[.int .i64 t587,.int .i64 t588] 37 (0,0)) (by (with_reducible repeat (first | refine blk_drewN ?_ _ | refine blk_drew ?_ | refine blk_alloc ?_ _));refine blk_put (cs:=#[.int .i64 t587,.int .i64 0]) ?_ 1 _ rfl;(with_reducible repeat (first | refine blk_drewN ?_ _ | refine blk_drew ?_ | refine blk_alloc ?_ _));refine blk_put (cs:=#[.int .i64 0,.int .i64 0]) ?_ 0 _ rfl;(with_reducible repeat (first | refine blk_drewN ?_ _ | refine blk_drew ?_ | refine blk_alloc ?_ _));refine blk_far ?_ NB590_589.out _;(with_reducible repeat (first | refine blk_drewN ?_ _ | refine blk_drew ?_ | refine blk_alloc ?_ _));refine blk_far ?_ NB590_589.out _;(with_reducible repeat (first | refine blk_drewN ?_ _ | refine blk_drew ?_ | refine blk_alloc ?_ _));exact BK590.out) hb);replace HB:=sb_ HB hb;(try clear hb)))
  (try simp only [Act.put,List.setIfInBounds_toArray,List.set_cons_zero,List.set_cons_succ])
  go_cut [32] (fun v32 wc=>∃ (kq:Nat) (x32_4:Bool),v32=.bool x32_4∧Aside0 (laws_FnPlateLoop.j0 kq t591 x32_4 t581 t584 t587 t588=some r)∧Aside0 (kq≤k)∧Aside0 (Kd.R k37 37 wc w.heap.size (fun k_=>k_≠gb590) (.slice Ao9 t581.length co9) t581)∧Aside0 (Kd.N (Kd.slice 37 k37) 23 wc w.heap.size (fun k_=>some k_≠((.slice Ao9 t581.length co9):Value).ownBlock∧k_≠gb589∧k_≠gb590) (.slice Ao12 t584.length co12) t584)∧Aside0 (wc.heap[gb589]?=some (.cells #[(.slice Ao9 t581.length co9),(.slice Ao12 t584.length co12)] 26 (0,0)))∧Aside0 (wc.heap[gb590]?=some (.cells #[.int .i64 t587,.int .i64 t588] 37 (0,0)))∧Aside0 (Below w.heap.size w wc))
  case first =>
   have H:=HC5.out;clear HC5;replace H:=Option.bind_eq_some_iff.mp H;obtain⟨t592,A150,H⟩:=H
   (try dsimp only at H)
   have A15:=Aside0.mk A150;clear A150;by_cases c16:t591=t592
   ·
    rw [if_pos c16] at H;have c16b0:(t591==t592)=true:=beq_iff_eq.mpr c16;have c16b1:(t591 != t592)=false:=bne_eq_false_iff_eq.mpr c16;clear c16
    (first | rw [c16b0] | (simp only [i64_w,i32_w];rw [c16b0]) | skip)
    replace H:=Option.bind_eq_some_iff.mp H;obtain⟨t593,A170,H⟩:=H
    (try dsimp only at H)
    have A17:=Aside0.mk A170;clear A170;by_cases c18:t593=true
    ·
     subst c18;rw [if_pos rfl] at H
     (try dsimp only at H)
     replace H:=Option.bind_eq_some_iff.mp H;obtain⟨t594,A190,H⟩:=H
     (try dsimp only at H)
     have A19:=Aside0.mk A190;clear A190;have H':=Aside0.mk H;clear H;have hnb20:=NB589_590.out;have hnc20:=NB590_589.out;have hcz21_0:=c20_ BK589;have hcz21_1:=c21_ BK589;have hfz21_0:=fz_ BK589 0;have hfz21_1:=fz_ BK589 1;have hcz22_0:=c20_ BK590;have hcz22_1:=c21_ BK590;have hfz22_0:=fz_ BK590 0;have hfz22_1:=fz_ BK590 1
     go_wp2_with (first | ((with_reducible refine gate_callee (f:=18) rfl ?_);refine gL_ (some 21) Tryd.func18 #[.agg #[.slice Ao9 t581.length co9,.slice Ao12 t584.length co12],.agg #[.int .i64 t587,.int .i64 t588]] (h:=?_);(with_reducible refine (spec_PlateIn.calls k _ _ t581 _ _ t584 t587 t588 t592 _ ?side1 ?side2 ?side3 ?side4 A15.out).mono ?_);(case side1=>repeat (first | exact (Kd.R_reads' HO583.out).2.2 | (with_reducible refine Kd.C_alloc ?_ _) | (with_reducible refine Kd.C_drewN ?_ _) | (with_reducible refine Kd.C_drew ?_)));(case side2=>exact (Kd.R_reads' HO583.out).2.1);(case side3=>repeat (first | exact (Kd.N_reads' HO586.out).2.2 | (with_reducible refine Kd.C_alloc ?_ _) | (with_reducible refine Kd.C_drewN ?_ _) | (with_reducible refine Kd.C_drew ?_)));(case side4=>exact (Kd.N_reads' HO586.out).2.1);rintro e w23 ⟨rfl,hb⟩;refine⟨_,rfl,?_⟩;replace HO583:=rb_ HO583 hb;replace HO586:=nb_ HO586 hb;replace BK589:=vb_ BK589 hb;replace BK590:=vb_ BK590 hb;replace HB:=sb_ HB hb;(try clear hb);have hcz24_0:=c20_ BK589;have hcz24_1:=c21_ BK589;have hfz24_0:=fz_ BK589 0;have hfz24_1:=fz_ BK589 1) | (go_at_call 19;(with_reducible refine (spec_PlateOk.calls k _ _ t581 _ _ t584 true _ ?side1 ?side2 ?side3 ?side4 A17.out).mono ?_);(case side1=>repeat (first | exact (Kd.R_reads' HO583.out).2.2 | (with_reducible refine Kd.C_alloc ?_ _) | (with_reducible refine Kd.C_drewN ?_ _) | (with_reducible refine Kd.C_drew ?_)));(case side2=>exact (Kd.R_reads' HO583.out).2.1);(case side3=>repeat (first | exact (Kd.N_reads' HO586.out).2.2 | (with_reducible refine Kd.C_alloc ?_ _) | (with_reducible refine Kd.C_drewN ?_ _) | (with_reducible refine Kd.C_drew ?_)));(case side4=>exact (Kd.N_reads' HO586.out).2.1);rintro e w25 ⟨rfl,hb⟩;replace HO583:=rb_ HO583 hb;replace HO586:=nb_ HO586 hb;replace BK589:=vb_ BK589 hb;replace BK590:=vb_ BK590 hb;replace HB:=sb_ HB hb;(try clear hb);have hcz26_0:=c20_ BK590;have hcz26_1:=c21_ BK590;have hfz26_0:=fz_ BK590 0;have hfz26_1:=fz_ BK590 1) | (go_at_call 20;(with_reducible refine (spec_PtOk.calls t587 t588 t594 _ A19.out).mono ?_);rintro e w27 ⟨rfl,hb⟩;replace HO583:=rb_ HO583 hb;replace HO586:=nb_ HO586 hb;replace BK589:=vb_ BK589 hb;replace BK590:=vb_ BK590 hb;replace HB:=sb_ HB hb;(try clear hb)))
     go_meet
     case rel=>exact⟨_,(!t594),(by first | rfl | (simp;done) | (simp [*];done)),H',⟨by first | omega | exact Nat.le_refl _⟩,⟨by (with_reducible repeat (first | apply Kd.R_alloc | apply Kd.R_drewN | apply Kd.R_drew));exact Kd.R_mono HO583.out (fun _ hk=>hk.2)⟩,⟨by (with_reducible repeat (first | apply Kd.N_alloc | apply Kd.N_drewN | apply Kd.N_drew));exact Kd.N_mono HO586.out (fun _ hk=>⟨hk.1.1,⟨hk.1.2,hk.2⟩⟩)⟩,⟨uq_⟩,⟨uq_⟩,⟨hB_⟩⟩
    ·
     replace c18:=Bool.eq_false_iff.mpr c18;subst c18;rw [if_neg (show ¬ (false=true) by decide)] at H
     (try dsimp only at H)
     have H':=Aside0.mk H;clear H;have hnb28:=NB589_590.out;have hnc28:=NB590_589.out;have hcz29_0:=c20_ BK589;have hcz29_1:=c21_ BK589;have hfz29_0:=fz_ BK589 0;have hfz29_1:=fz_ BK589 1;have hcz30_0:=c20_ BK590;have hcz30_1:=c21_ BK590;have hfz30_0:=fz_ BK590 0;have hfz30_1:=fz_ BK590 1
     go_wp2_with (first | ((with_reducible refine gate_callee (f:=18) rfl ?_);refine gL_ (some 21) Tryd.func18 #[.agg #[.slice Ao9 t581.length co9,.slice Ao12 t584.length co12],.agg #[.int .i64 t587,.int .i64 t588]] (h:=?_);(with_reducible refine (spec_PlateIn.calls k _ _ t581 _ _ t584 t587 t588 t592 _ ?side1 ?side2 ?side3 ?side4 A15.out).mono ?_);(case side1=>repeat (first | exact (Kd.R_reads' HO583.out).2.2 | (with_reducible refine Kd.C_alloc ?_ _) | (with_reducible refine Kd.C_drewN ?_ _) | (with_reducible refine Kd.C_drew ?_)));(case side2=>exact (Kd.R_reads' HO583.out).2.1);(case side3=>repeat (first | exact (Kd.N_reads' HO586.out).2.2 | (with_reducible refine Kd.C_alloc ?_ _) | (with_reducible refine Kd.C_drewN ?_ _) | (with_reducible refine Kd.C_drew ?_)));(case side4=>exact (Kd.N_reads' HO586.out).2.1);rintro e w31 ⟨rfl,hb⟩;refine⟨_,rfl,?_⟩;replace HO583:=rb_ HO583 hb;replace HO586:=nb_ HO586 hb;replace BK589:=vb_ BK589 hb;replace BK590:=vb_ BK590 hb;replace HB:=sb_ HB hb;(try clear hb);have hcz32_0:=c20_ BK589;have hcz32_1:=c21_ BK589;have hfz32_0:=fz_ BK589 0;have hfz32_1:=fz_ BK589 1) | (go_at_call 19;(with_reducible refine (spec_PlateOk.calls k _ _ t581 _ _ t584 false _ ?side1 ?side2 ?side3 ?side4 A17.out).mono ?_);(case side1=>repeat (first | exact (Kd.R_reads' HO583.out).2.2 | (with_reducible refine Kd.C_alloc ?_ _) | (with_reducible refine Kd.C_drewN ?_ _) | (with_reducible refine Kd.C_drew ?_)));(case side2=>exact (Kd.R_reads' HO583.out).2.1);(case side3=>repeat (first | exact (Kd.N_reads' HO586.out).2.2 | (with_reducible refine Kd.C_alloc ?_ _) | (with_reducible refine Kd.C_drewN ?_ _) | (with_reducible refine Kd.C_drew ?_)));(case side4=>exact (Kd.N_reads' HO586.out).2.1);rintro e w33 ⟨rfl,hb⟩;replace HO583:=rb_ HO583 hb;replace HO586:=nb_ HO586 hb;replace BK589:=vb_ BK589 hb;replace BK590:=vb_ BK590 hb;replace HB:=sb_ HB hb;(try clear hb)));go_meet
     case rel=>exact⟨_,(true),(by first | rfl | (simp;done) | (simp [*];done)),H',⟨by first | omega | exact Nat.le_refl _⟩,⟨by (with_reducible repeat (first | apply Kd.R_alloc | apply Kd.R_drewN | apply Kd.R_drew));exact Kd.R_mono HO583.out (fun _ hk=>hk.2)⟩,⟨by (with_reducible repeat (first | apply Kd.N_alloc | apply Kd.N_drewN | apply Kd.N_drew));exact Kd.N_mono HO586.out (fun _ hk=>⟨hk.1.1,⟨hk.1.2,hk.2⟩⟩)⟩,⟨uq_⟩,⟨uq_⟩,⟨hB_⟩⟩
   ·
    rw [if_neg c16] at H;have c16b0:(t591==t592)=false:=beq_eq_false_iff_ne.mpr c16;have c16b1:(t591 != t592)=true:=bne_iff_ne.mpr c16
    (first | rw [c16b0] | (simp only [i64_w,i32_w];rw [c16b0]) | skip)
    have H':=Aside0.mk H;clear H;have hnb34:=NB589_590.out;have hnc34:=NB590_589.out;have hcz35_0:=c20_ BK589;have hcz35_1:=c21_ BK589;have hfz35_0:=fz_ BK589 0;have hfz35_1:=fz_ BK589 1;have hcz36_0:=c20_ BK590;have hcz36_1:=c21_ BK590;have hfz36_0:=fz_ BK590 0;have hfz36_1:=fz_ BK590 1;go_wp2_with (first | ((with_reducible refine gate_callee (f:=18) rfl ?_);refine gL_ (some 21) Tryd.func18 #[.agg #[.slice Ao9 t581.length co9,.slice Ao12 t584.length co12],.agg #[.int .i64 t587,.int .i64 t588]] (h:=?_);(with_reducible refine (spec_PlateIn.calls k _ _ t581 _ _ t584 t587 t588 t592 _ ?side1 ?side2 ?side3 ?side4 A15.out).mono ?_);(case side1=>repeat (first | exact (Kd.R_reads' HO583.out).2.2 | (with_reducible refine Kd.C_alloc ?_ _) | (with_reducible refine Kd.C_drewN ?_ _) | (with_reducible refine Kd.C_drew ?_)));(case side2=>exact (Kd.R_reads' HO583.out).2.1);(case side3=>repeat (first | exact (Kd.N_reads' HO586.out).2.2 | (with_reducible refine Kd.C_alloc ?_ _) | (with_reducible refine Kd.C_drewN ?_ _) | (with_reducible refine Kd.C_drew ?_)));(case side4=>exact (Kd.N_reads' HO586.out).2.1);rintro e w37 ⟨rfl,hb⟩;refine⟨_,rfl,?_⟩;replace HO583:=rb_ HO583 hb;replace HO586:=nb_ HO586 hb;replace BK589:=vb_ BK589 hb;replace BK590:=vb_ BK590 hb;replace HB:=sb_ HB hb;(try clear hb)));go_meet
    case rel=>exact⟨_,(true),(by first | rfl | (simp;done) | (simp [*];done)),H',⟨by first | omega | exact Nat.le_refl _⟩,⟨by (with_reducible repeat (first | apply Kd.R_alloc | apply Kd.R_drewN | apply Kd.R_drew));exact Kd.R_mono HO583.out (fun _ hk=>hk.2)⟩,⟨by (with_reducible repeat (first | apply Kd.N_alloc | apply Kd.N_drewN | apply Kd.N_drew));exact Kd.N_mono HO586.out (fun _ hk=>⟨hk.1.1,⟨hk.1.2,hk.2⟩⟩)⟩,⟨uq_⟩,⟨uq_⟩,⟨hB_⟩⟩
  case rest =>
   clear HC5;obtain⟨kq,x32_4,rfl,HA,HJ4,HO_590000,HO_590001,BK589,BK590,HB⟩:=hcut
   cases kq with
   | zero=>exact absurd HA.out (by simp [laws_FnPlateLoop.j0])
   | succ kj4 =>
    have H:=HA.out;clear HA;simp only [laws_FnPlateLoop.j0] at H;by_cases c38:x32_4=true
    ·
     subst c38;rw [if_pos rfl] at H
     (try dsimp only at H)
     replace H:=Option.bind_eq_some_iff.mp H;obtain⟨t595,A390,H⟩:=H
     (try dsimp only at H)
     have A39:=Aside0.mk A390;clear A390;obtain rfl:=Option.some.inj H;have hnb40:=NB589_590.out;have hnc40:=NB590_589.out;have hcz41_0:=c20_ BK589;have hcz41_1:=c21_ BK589;have hfz41_0:=fz_ BK589 0;have hfz41_1:=fz_ BK589 1;have hcz42_0:=c20_ BK590;have hcz42_1:=c21_ BK590;have hfz42_0:=fz_ BK590 0;have hfz42_1:=fz_ BK590 1;go_wp2_with (first | ((with_reducible refine gate_callee (f:=18) rfl ?_);refine gL_ (some 36) Tryd.func18 #[.agg #[.slice Ao9 t581.length co9,.slice Ao12 t584.length co12],.agg #[.int .i64 t587,.int .i64 t588]] (h:=?_);(with_reducible refine (spec_PlateIn.calls kj4 _ _ t581 _ _ t584 t587 t588 t595 _ ?side1 ?side2 ?side3 ?side4 A39.out).mono ?_);(case side1=>repeat (first | exact (Kd.R_reads' HO_590000.out).2.2 | (with_reducible refine Kd.C_alloc ?_ _) | (with_reducible refine Kd.C_drewN ?_ _) | (with_reducible refine Kd.C_drew ?_)));(case side2=>exact (Kd.R_reads' HO_590000.out).2.1);(case side3=>repeat (first | exact (Kd.N_reads' HO_590001.out).2.2 | (with_reducible refine Kd.C_alloc ?_ _) | (with_reducible refine Kd.C_drewN ?_ _) | (with_reducible refine Kd.C_drew ?_)));(case side4=>exact (Kd.N_reads' HO_590001.out).2.1);rintro e w43 ⟨rfl,hb⟩;refine⟨_,rfl,?_⟩;replace HO_590000:=rb_ HO_590000 hb;replace HO_590001:=nb_ HO_590001 hb;replace BK589:=vb_ BK589 hb;replace BK590:=vb_ BK590 hb;replace HB:=sb_ HB hb;(try clear hb)));go_ret;exact⟨rr_,hB_⟩
    ·
     replace c38:=Bool.eq_false_iff.mpr c38;subst c38;rw [if_neg (show ¬ (false=true) by decide)] at H
     (try dsimp only at H)
     replace H:=Option.bind_eq_some_iff.mp H;obtain⟨t597,A440,H⟩:=H
     (try dsimp only at H)
     have A44:=Aside0.mk A440;clear A440;replace H:=Option.bind_eq_some_iff.mp H;obtain⟨t598,A450,H⟩:=H
     (try dsimp only at H)
     have A45:=Aside0.mk A450;clear A450;by_cases c46:t597=t598
     ·
      rw [if_pos c46] at H;have c46b0:(t597==t598)=true:=beq_iff_eq.mpr c46;have c46b1:(t597 != t598)=false:=bne_eq_false_iff_eq.mpr c46;clear c46;replace H:=Option.bind_eq_some_iff.mp H;obtain⟨t599,A470,H⟩:=H
      (try dsimp only at H)
      have A47:=Aside0.mk A470;clear A470;replace H:=Option.bind_eq_some_iff.mp H;obtain⟨t600,A480,H⟩:=H
      (try dsimp only at H)
      have A48:=Aside0.mk A480;clear A480;by_cases c49:t600.size+1≤9223372036854775807
      ·
       rw [if_pos c49] at H;have c49b0:=eq_true c49;have c49b1:decide (t600.size+1≤9223372036854775807)=true:=decide_eq_true c49
       try have c49b2:(9223372036854775807<t600.size+1)=False:=eq_false (Nat.not_lt.2 c49)
       by_cases c50:t599.toList=(t600++(⟨#[10]⟩:ByteArray)).toList
       ·
        rw [if_pos c50] at H;have c50b0:(t599.toList==(t600++(⟨#[10]⟩:ByteArray)).toList)=true:=beq_iff_eq.mpr c50;have c50b1:(t599.toList != (t600++(⟨#[10]⟩:ByteArray)).toList)=false:=bne_eq_false_iff_eq.mpr c50;clear c50;replace H:=Option.bind_eq_some_iff.mp H;obtain⟨t601,A510,H⟩:=H
        (try dsimp only at H)
        have A51:=Aside0.mk A510;clear A510;obtain rfl:=Option.some.inj H;have hnb52:=NB589_590.out;have hnc52:=NB590_589.out;have hcz53_0:=c20_ BK589;have hcz53_1:=c21_ BK589;have hfz53_0:=fz_ BK589 0;have hfz53_1:=fz_ BK589 1
        try go_wp2_with (first | ((with_reducible refine gate_dst (N:=6) rfl ?_);refine bx_ (N:=6) (cs:=#[.slice none 0 0,.slice none 0 0]) (t:=26) (h:=?_);intro gb596 hg w54 hbox hb;have BK596:=a0_ (hbox);have GW596:=gh_ HB hg;have GE596:=gh_ HB hg;have NB589_596:=nl_ BK589 hg;have NB596_589:=nr_ BK589 hg;have NB590_596:=nl_ BK590 hg;have NB596_590:=nr_ BK590 hg;replace HO_590000:=rb_ HO_590000 hb;replace HO_590001:=a0_ (Kd.N_below (Kd.N_elderB (uN_ HO_590001) gb596 (Nat.le_of_eq hg.symm)) hb);replace BK589:=vb_ BK589 hb;replace BK590:=vb_ BK590 hb;replace HB:=sb_ HB hb;clear hb hbox hg;have hnb55:=NB596_589.out;have hnc55:=NB589_596.out;have hnb56:=NB596_590.out;have hnc56:=NB590_596.out;have hcz57_0:=c20_ BK596;have hcz57_1:=c21_ BK596;have hfz57_0:=fz_ BK596 0;have hfz57_1:=fz_ BK596 1))
        have n0_:Aside0 (Kd.R k37 37 ((w54.setCell ⟨gb596,0,none⟩ (.slice Ao9 t581.length co9)).setCell ⟨gb596,1,none⟩ (.slice none 0 0)) w.heap.size (fun k_=>k_≠gb590) (.slice Ao9 t581.length co9) t581):=⟨by (with_reducible repeat (first | apply Kd.R_alloc | apply Kd.R_drewN | apply Kd.R_drew));exact Kd.R_mono (Kd.R_far (p:=⟨gb596,1,none⟩) (Kd.R_far (p:=⟨gb596,0,none⟩) (Kd.R_types HO_590000.out BK596.out (by decide)) (fun _ hk=>hk.2) (.slice Ao9 t581.length co9)) (fun _ hk=>hk.2) (.slice none 0 0)) (fun _ hk=>hk.1)⟩;have n1_:Aside0 (Kd.N (Kd.slice 37 k37) 23 ((w54.setCell ⟨gb596,0,none⟩ (.slice Ao9 t581.length co9)).setCell ⟨gb596,1,none⟩ (.slice none 0 0)) w.heap.size (fun k_=>some k_≠(.slice Ao9 t581.length co9:Value).ownBlock∧k_≠gb589∧k_≠gb590∧k_≠gb596) (.slice Ao12 t584.length co12) t584):=⟨by (with_reducible repeat (first | apply Kd.N_alloc | apply Kd.N_drewN | apply Kd.N_drew));exact Kd.N_mono (Kd.N_far (p:=⟨gb596,1,none⟩) (Kd.N_far (p:=⟨gb596,0,none⟩) (Kd.N_mono HO_590001.out (fun k_ hk=>(⟨hk,hk.2⟩:_∧k_≠gb596))) (fun _ hk=>hk.2) (.slice Ao9 t581.length co9)) (fun _ hk=>hk.2) (.slice none 0 0)) (fun _ hk=>⟨hk.1.1.1,⟨hk.1.1.2.1,⟨hk.1.1.2.2,hk.1.2⟩⟩⟩)⟩;have n2_:Aside0 (((w54.setCell ⟨gb596,0,none⟩ (.slice Ao9 t581.length co9)).setCell ⟨gb596,1,none⟩ (.slice none 0 0)).heap[gb589]?=some (.cells #[.slice Ao9 t581.length co9,.slice Ao12 t584.length co12] 26 (0,0))):=⟨by (with_reducible repeat (first | refine blk_drewN ?_ _ | refine blk_drew ?_ | refine blk_alloc ?_ _));refine blk_far ?_ NB589_596.out _;(with_reducible repeat (first | refine blk_drewN ?_ _ | refine blk_drew ?_ | refine blk_alloc ?_ _));refine blk_far ?_ NB589_596.out _;(with_reducible repeat (first | refine blk_drewN ?_ _ | refine blk_drew ?_ | refine blk_alloc ?_ _));exact BK589.out⟩
        have n3_:Aside0 (((w54.setCell ⟨gb596,0,none⟩ (.slice Ao9 t581.length co9)).setCell ⟨gb596,1,none⟩ (.slice none 0 0)).heap[gb590]?=some (.cells #[.int .i64 t587,.int .i64 t588] 37 (0,0))):=⟨by (with_reducible repeat (first | refine blk_drewN ?_ _ | refine blk_drew ?_ | refine blk_alloc ?_ _));refine blk_far ?_ NB590_596.out _;(with_reducible repeat (first | refine blk_drewN ?_ _ | refine blk_drew ?_ | refine blk_alloc ?_ _));refine blk_far ?_ NB590_596.out _;(with_reducible repeat (first | refine blk_drewN ?_ _ | refine blk_drew ?_ | refine blk_alloc ?_ _));exact BK590.out⟩;have n4_:Aside0 (((w54.setCell ⟨gb596,0,none⟩ (.slice Ao9 t581.length co9)).setCell ⟨gb596,1,none⟩ (.slice none 0 0)).heap[gb596]?=some (.cells #[.slice Ao9 t581.length co9,.slice none 0 0] 26 (0,0))):=⟨by (with_reducible repeat (first | refine blk_drewN ?_ _ | refine blk_drew ?_ | refine blk_alloc ?_ _));refine blk_put (cs:=#[.slice Ao9 t581.length co9,.slice none 0 0]) ?_ 1 _ rfl;(with_reducible repeat (first | refine blk_drewN ?_ _ | refine blk_drew ?_ | refine blk_alloc ?_ _));refine blk_put (cs:=#[.slice none 0 0,.slice none 0 0]) ?_ 0 _ rfl;(with_reducible repeat (first | refine blk_drewN ?_ _ | refine blk_drew ?_ | refine blk_alloc ?_ _));exact BK596.out⟩;have n5_:Aside0 (Below w.heap.size w ((w54.setCell ⟨gb596,0,none⟩ (.slice Ao9 t581.length co9)).setCell ⟨gb596,1,none⟩ (.slice none 0 0))):=⟨hB_⟩
        (try clear HO_590000)
        (try clear HO_590001)
        (try clear BK589)
        (try clear BK590)
        (try clear BK596)
        (try clear HB)
        generalize ((w54.setCell ⟨gb596,0,none⟩ (.slice Ao9 t581.length co9)).setCell ⟨gb596,1,none⟩ (.slice none 0 0))=w58 at n0_ n1_ n2_ n3_ n4_ n5_ ⊢
        have HO_590000:=n0_;have HO_590001:=n1_;have BK589:=n2_;have BK590:=n3_;have BK596:=n4_;have HB:=n5_;clear n0_ n1_ n2_ n3_ n4_ n5_;replace HO_590000:=a0_ (Kd.R_drew HO_590000.out);replace HO_590001:=a0_ (Kd.N_drew HO_590001.out);replace BK589:=a0_ (blk_drew BK589.out);replace BK590:=a0_ (blk_drew BK590.out);replace BK596:=a0_ (blk_drew BK596.out);replace HB:=a0_ (below_drew1 HB.out);refine start_ (n:=25) (S:=fun w'=>w'.cell? ⟨gb596,0,none⟩=some (.slice Ao9 t581.length co9)∧w'.cell? ⟨gb596,1,none⟩=some (.slice none 0 0)∧w'.cell? ⟨gb590,0,none⟩=some (.int .i64 t587)∧w'.cell? ⟨gb590,1,none⟩=some (.int .i64 t588)∧w'.cell? ⟨gb589,0,none⟩=some (.slice Ao9 t581.length co9)∧w'.cell? ⟨gb589,1,none⟩=some (.slice Ao12 t584.length co12)) (ds:=[]) (Array.replicate 25 false) (by kernel_rfl) rfl rfl ⟨bc_,bc_,bc_,bc_,bc_,bc_⟩ (fun hHeld=>?_);refine with_tabW laws_FnPlateLoop.tab8 laws_FnPlateLoop.bits8 (fun HT_ HW_=>?_);generalize w58.drew=w59 at HO_590000 HO_590001 BK589 BK590 BK596 HB hHeld ⊢
        refine pu_ HT_ 3 44 (bm 25 8) ?_;refine ta6_ HT_ HW_ 0 41 (bm 25 9) hHeld ?_;refine ta6_ HT_ HW_ 1 42 (bm 25 11) hHeld ?_;refine ta6_ HT_ HW_ 4 45 (bm 25 27) hHeld ?_;refine ta6_ HT_ HW_ 5 46 (bm 25 59) hHeld ?_;refine one_ (i:=2) (N:=some 43) (bm 25 63) rfl rfl (one_of HT_.out (by kernel_rfl)) (by decide) (fun K hK=>?_);refine goes_ Tryd.func17 (by kernel_rfl) rfl #[.agg #[.slice Ao9 t581.length co9,.slice none 0 0],.agg #[.int .i64 t587,.int .i64 t588]] (by rfl) rfl rfl ma_ ?_;refine (impl_PlateIn.calls _ _ t581 _ _ ([]:List (List (S37))) t587 t588 t597 _ ?side1 ?side2 ?side3 ?side4 A44.out).mono ?_
        (case side1=>repeat (first | exact (Kd.R_reads' HO_590000.out).2.2 | (with_reducible refine Kd.C_alloc ?_ _) | (with_reducible refine Kd.C_drewN ?_ _) | (with_reducible refine Kd.C_drew ?_)))
        (case side2=>exact (Kd.R_reads' HO_590000.out).2.1)
        (case side3=>exact Kd.C_nil _ _)
        (case side4=>exact Nat.le_refl _)
        rintro e w60 ⟨rfl,hb⟩;refine⟨_,rfl,?_⟩;replace HO_590000:=rb_ HO_590000 hb;replace HO_590001:=nb_ HO_590001 hb;replace BK589:=vb_ BK589 hb;replace BK590:=vb_ BK590 hb;replace BK596:=vb_ BK596 hb;replace HB:=sb_ HB hb
        (try clear hb)
        (try clear hb2)
        (try clear hk)
        (try clear hi)
        refine hK.out _ _ ⟨bc_,bc_,bc_,bc_,bc_,bc_⟩ (fun hHeld=>?_);clear hK K;refine no_ (h:=?_);refine one_ (i:=6) (N:=some 47) (bm 25 127) rfl rfl (one_of HT_.out (by kernel_rfl)) (by decide) (fun K hK=>?_);refine goes_ Tryd.func21 (by kernel_rfl) rfl #[.slice Ao9 t581.length co9,.agg #[.int .i64 t587,.int .i64 t588]] (by rfl) rfl rfl ma_ ?_
        with_reducible refine (impl_LoopIn.calls _ _ t581 t587 t588 t598 _ ?side1 ?side2 A45.out).mono ?_
        (case side1=>repeat (first | exact (Kd.R_reads' HO_590000.out).2.2 | (with_reducible refine Kd.C_alloc ?_ _) | (with_reducible refine Kd.C_drewN ?_ _) | (with_reducible refine Kd.C_drew ?_)))
        (case side2=>exact (Kd.R_reads' HO_590000.out).2.1)
        rintro e w61 ⟨rfl,hb⟩;refine⟨_,rfl,?_⟩;replace HO_590000:=rb_ HO_590000 hb;replace HO_590001:=nb_ HO_590001 hb;replace BK589:=vb_ BK589 hb;replace BK590:=vb_ BK590 hb;replace BK596:=vb_ BK596 hb;replace HB:=sb_ HB hb
        (try clear hb)
        (try clear hb2)
        (try clear hk)
        (try clear hi)
        refine hK.out _ _ ⟨bc_,bc_,bc_,bc_,bc_,bc_⟩ (fun hHeld=>?_);clear hK K;refine no_ (h:=?_);refine pu_ HT_ 7 48 (bm 25 255) ?_;refine pu_ HT_ 8 49 (bm 25 511) ?_;refine pu_ HT_ 11 52 (bm 25 2559) ?_;refine ta6_ HT_ HW_ 9 50 (bm 25 3071) hHeld ?_;refine ta6_ HT_ HW_ 12 53 (bm 25 7167) hHeld ?_;refine one_ (i:=10) (N:=some 51) (bm 25 8191) rfl rfl (one_of HT_.out (by kernel_rfl)) (by decide) (fun K hK=>?_);refine goes_ Tryd.func7 (by kernel_rfl) rfl #[.agg #[.slice Ao9 t581.length co9,.slice none 0 0]] (by rfl) rfl rfl ma_ ?_;refine (impl_PlateText.calls _ _ t581 _ _ ([]:List (List (S37))) t599 _ ?side1 ?side2 ?side3 ?side4 A47.out).mono ?_
        (case side1=>repeat (first | exact (Kd.R_reads' HO_590000.out).2.2 | (with_reducible refine Kd.C_alloc ?_ _) | (with_reducible refine Kd.C_drewN ?_ _) | (with_reducible refine Kd.C_drew ?_)))
        (case side2=>exact (Kd.R_reads' HO_590000.out).2.1)
        (case side3=>exact Kd.C_nil _ _)
        (case side4=>exact Nat.le_refl _)
        rintro e w62 ⟨rfl,hb⟩;refine⟨_,rfl,?_⟩;replace HO_590000:=rb_ HO_590000 hb;replace HO_590001:=nb_ HO_590001 hb;replace BK589:=vb_ BK589 hb;replace BK590:=vb_ BK590 hb;replace BK596:=vb_ BK596 hb;replace HB:=sb_ HB hb
        (try clear hb)
        (try clear hb2)
        (try clear hk)
        (try clear hi)
        refine hK.out _ _ ⟨bc_,bc_,bc_,bc_,bc_,bc_⟩ (fun hHeld=>?_);clear hK K;refine no_ (h:=?_);refine one_ (i:=13) (N:=some 54) (bm 25 16383) rfl rfl (one_of HT_.out (by kernel_rfl)) (by decide) (fun K hK=>?_);refine goes_ Tryd.func10 (by kernel_rfl) rfl #[.slice Ao9 t581.length co9] (by rfl) rfl rfl ma_ ?_
        with_reducible refine (impl_LoopText.calls _ _ t581 t600 _ ?side1 ?side2 A48.out).mono ?_
        (case side1=>repeat (first | exact (Kd.R_reads' HO_590000.out).2.2 | (with_reducible refine Kd.C_alloc ?_ _) | (with_reducible refine Kd.C_drewN ?_ _) | (with_reducible refine Kd.C_drew ?_)))
        (case side2=>exact (Kd.R_reads' HO_590000.out).2.1)
        rintro e w63 ⟨rfl,hb⟩;refine⟨_,rfl,?_⟩;replace HO_590000:=rb_ HO_590000 hb;replace HO_590001:=nb_ HO_590001 hb;replace BK589:=vb_ BK589 hb;replace BK590:=vb_ BK590 hb;replace BK596:=vb_ BK596 hb;replace HB:=sb_ HB hb
        (try clear hb)
        (try clear hb2)
        (try clear hk)
        (try clear hi)
        refine hK.out _ _ ⟨bc_,bc_,bc_,bc_,bc_,bc_⟩ (fun hHeld=>?_);clear hK K;refine no_ (h:=?_);refine pu_ HT_ 14 55 (bm 25 32767) ?_;refine pu_ HT_ 15 56 (bm 25 65535) ?_;refine pu_ HT_ 16 57 (bm 25 131071) ?_;refine pu_ HT_ 17 58 (bm 25 262143) ?_;refine pu_ HT_ 21 62 (bm 25 2359295) ?_;refine ta6_ HT_ HW_ 18 59 (bm 25 2621439) hHeld ?_;refine ta6_ HT_ HW_ 19 60 (bm 25 3145727) hHeld ?_;refine one_ (i:=20) (N:=some 61) (bm 25 4194303) rfl rfl (one_of HT_.out (by kernel_rfl)) (by decide) (fun K hK=>?_);refine goes_ Tryd.func17 (by kernel_rfl) rfl #[.agg #[.slice Ao9 t581.length co9,.slice none 0 0],.agg #[.int .i64 t587,.int .i64 t588]] (by rfl) rfl rfl ma_ ?_;refine (impl_PlateIn.calls _ _ t581 _ _ ([]:List (List (S37))) t587 t588 t601 _ ?side1 ?side2 ?side3 ?side4 A51.out).mono ?_
        (case side1=>repeat (first | exact (Kd.R_reads' HO_590000.out).2.2 | (with_reducible refine Kd.C_alloc ?_ _) | (with_reducible refine Kd.C_drewN ?_ _) | (with_reducible refine Kd.C_drew ?_)))
        (case side2=>exact (Kd.R_reads' HO_590000.out).2.1)
        (case side3=>exact Kd.C_nil _ _)
        (case side4=>exact Nat.le_refl _)
        rintro e w64 ⟨rfl,hb⟩;refine⟨_,rfl,?_⟩;replace HO_590000:=rb_ HO_590000 hb;replace HO_590001:=nb_ HO_590001 hb;replace BK589:=vb_ BK589 hb;replace BK590:=vb_ BK590 hb;replace BK596:=vb_ BK596 hb;replace HB:=sb_ HB hb
        (try clear hb)
        (try clear hb2)
        (try clear hk)
        (try clear hi)
        refine hK.out _ _ ⟨bc_,bc_,bc_,bc_,bc_,bc_⟩ (fun hHeld=>?_);clear hK K;refine no_ (h:=?_);refine pu_ HT_ 22 63 (bm 25 8388607) ?_;refine pu_ HT_ 23 64 (bm 25 16777215) ?_;refine pu_ HT_ 24 2 (bm 25 33554431) ?_;refine done_ (done_of HT_.out (by kernel_rfl)) ?_
        try go_wp2
        go_ret;exact⟨rr_,hB_⟩
       ·
        rw [if_neg c50] at H;have c50b0:(t599.toList==(t600++(⟨#[10]⟩:ByteArray)).toList)=false:=beq_eq_false_iff_ne.mpr c50;have c50b1:(t599.toList != (t600++(⟨#[10]⟩:ByteArray)).toList)=true:=bne_iff_ne.mpr c50;obtain rfl:=Option.some.inj H;have hnb65:=NB589_590.out;have hnc65:=NB590_589.out;have hcz66_0:=c20_ BK589;have hcz66_1:=c21_ BK589;have hfz66_0:=fz_ BK589 0;have hfz66_1:=fz_ BK589 1
        try go_wp2_with (first | ((with_reducible refine gate_dst (N:=6) rfl ?_);refine bx_ (N:=6) (cs:=#[.slice none 0 0,.slice none 0 0]) (t:=26) (h:=?_);intro gb596 hg w67 hbox hb;have BK596:=a0_ (hbox);have GW596:=gh_ HB hg;have GE596:=gh_ HB hg;have NB589_596:=nl_ BK589 hg;have NB596_589:=nr_ BK589 hg;have NB590_596:=nl_ BK590 hg;have NB596_590:=nr_ BK590 hg;replace HO_590000:=rb_ HO_590000 hb;replace HO_590001:=a0_ (Kd.N_below (Kd.N_elderB (uN_ HO_590001) gb596 (Nat.le_of_eq hg.symm)) hb);replace BK589:=vb_ BK589 hb;replace BK590:=vb_ BK590 hb;replace HB:=sb_ HB hb;clear hb hbox hg;have hnb68:=NB596_589.out;have hnc68:=NB589_596.out;have hnb69:=NB596_590.out;have hnc69:=NB590_596.out;have hcz70_0:=c20_ BK596;have hcz70_1:=c21_ BK596;have hfz70_0:=fz_ BK596 0;have hfz70_1:=fz_ BK596 1))
        have n0_:Aside0 (Kd.R k37 37 ((w67.setCell ⟨gb596,0,none⟩ (.slice Ao9 t581.length co9)).setCell ⟨gb596,1,none⟩ (.slice none 0 0)) w.heap.size (fun k_=>k_≠gb590) (.slice Ao9 t581.length co9) t581):=⟨by (with_reducible repeat (first | apply Kd.R_alloc | apply Kd.R_drewN | apply Kd.R_drew));exact Kd.R_mono (Kd.R_far (p:=⟨gb596,1,none⟩) (Kd.R_far (p:=⟨gb596,0,none⟩) (Kd.R_types HO_590000.out BK596.out (by decide)) (fun _ hk=>hk.2) (.slice Ao9 t581.length co9)) (fun _ hk=>hk.2) (.slice none 0 0)) (fun _ hk=>hk.1)⟩;have n1_:Aside0 (Kd.N (Kd.slice 37 k37) 23 ((w67.setCell ⟨gb596,0,none⟩ (.slice Ao9 t581.length co9)).setCell ⟨gb596,1,none⟩ (.slice none 0 0)) w.heap.size (fun k_=>some k_≠(.slice Ao9 t581.length co9:Value).ownBlock∧k_≠gb589∧k_≠gb590∧k_≠gb596) (.slice Ao12 t584.length co12) t584):=⟨by (with_reducible repeat (first | apply Kd.N_alloc | apply Kd.N_drewN | apply Kd.N_drew));exact Kd.N_mono (Kd.N_far (p:=⟨gb596,1,none⟩) (Kd.N_far (p:=⟨gb596,0,none⟩) (Kd.N_mono HO_590001.out (fun k_ hk=>(⟨hk,hk.2⟩:_∧k_≠gb596))) (fun _ hk=>hk.2) (.slice Ao9 t581.length co9)) (fun _ hk=>hk.2) (.slice none 0 0)) (fun _ hk=>⟨hk.1.1.1,⟨hk.1.1.2.1,⟨hk.1.1.2.2,hk.1.2⟩⟩⟩)⟩;have n2_:Aside0 (((w67.setCell ⟨gb596,0,none⟩ (.slice Ao9 t581.length co9)).setCell ⟨gb596,1,none⟩ (.slice none 0 0)).heap[gb589]?=some (.cells #[.slice Ao9 t581.length co9,.slice Ao12 t584.length co12] 26 (0,0))):=⟨by (with_reducible repeat (first | refine blk_drewN ?_ _ | refine blk_drew ?_ | refine blk_alloc ?_ _));refine blk_far ?_ NB589_596.out _;(with_reducible repeat (first | refine blk_drewN ?_ _ | refine blk_drew ?_ | refine blk_alloc ?_ _));refine blk_far ?_ NB589_596.out _;(with_reducible repeat (first | refine blk_drewN ?_ _ | refine blk_drew ?_ | refine blk_alloc ?_ _));exact BK589.out⟩
        have n3_:Aside0 (((w67.setCell ⟨gb596,0,none⟩ (.slice Ao9 t581.length co9)).setCell ⟨gb596,1,none⟩ (.slice none 0 0)).heap[gb590]?=some (.cells #[.int .i64 t587,.int .i64 t588] 37 (0,0))):=⟨by (with_reducible repeat (first | refine blk_drewN ?_ _ | refine blk_drew ?_ | refine blk_alloc ?_ _));refine blk_far ?_ NB590_596.out _;(with_reducible repeat (first | refine blk_drewN ?_ _ | refine blk_drew ?_ | refine blk_alloc ?_ _));refine blk_far ?_ NB590_596.out _;(with_reducible repeat (first | refine blk_drewN ?_ _ | refine blk_drew ?_ | refine blk_alloc ?_ _));exact BK590.out⟩;have n4_:Aside0 (((w67.setCell ⟨gb596,0,none⟩ (.slice Ao9 t581.length co9)).setCell ⟨gb596,1,none⟩ (.slice none 0 0)).heap[gb596]?=some (.cells #[.slice Ao9 t581.length co9,.slice none 0 0] 26 (0,0))):=⟨by (with_reducible repeat (first | refine blk_drewN ?_ _ | refine blk_drew ?_ | refine blk_alloc ?_ _));refine blk_put (cs:=#[.slice Ao9 t581.length co9,.slice none 0 0]) ?_ 1 _ rfl;(with_reducible repeat (first | refine blk_drewN ?_ _ | refine blk_drew ?_ | refine blk_alloc ?_ _));refine blk_put (cs:=#[.slice none 0 0,.slice none 0 0]) ?_ 0 _ rfl;(with_reducible repeat (first | refine blk_drewN ?_ _ | refine blk_drew ?_ | refine blk_alloc ?_ _));exact BK596.out⟩;have n5_:Aside0 (Below w.heap.size w ((w67.setCell ⟨gb596,0,none⟩ (.slice Ao9 t581.length co9)).setCell ⟨gb596,1,none⟩ (.slice none 0 0))):=⟨hB_⟩
        (try clear HO_590000)
        (try clear HO_590001)
        (try clear BK589)
        (try clear BK590)
        (try clear BK596)
        (try clear HB)
        generalize ((w67.setCell ⟨gb596,0,none⟩ (.slice Ao9 t581.length co9)).setCell ⟨gb596,1,none⟩ (.slice none 0 0))=w71 at n0_ n1_ n2_ n3_ n4_ n5_ ⊢
        have HO_590000:=n0_;have HO_590001:=n1_;have BK589:=n2_;have BK590:=n3_;have BK596:=n4_;have HB:=n5_;clear n0_ n1_ n2_ n3_ n4_ n5_;replace HO_590000:=a0_ (Kd.R_drew HO_590000.out);replace HO_590001:=a0_ (Kd.N_drew HO_590001.out);replace BK589:=a0_ (blk_drew BK589.out);replace BK590:=a0_ (blk_drew BK590.out);replace BK596:=a0_ (blk_drew BK596.out);replace HB:=a0_ (below_drew1 HB.out);refine start_ (n:=25) (S:=fun w'=>w'.cell? ⟨gb596,0,none⟩=some (.slice Ao9 t581.length co9)∧w'.cell? ⟨gb596,1,none⟩=some (.slice none 0 0)∧w'.cell? ⟨gb590,0,none⟩=some (.int .i64 t587)∧w'.cell? ⟨gb590,1,none⟩=some (.int .i64 t588)∧w'.cell? ⟨gb589,0,none⟩=some (.slice Ao9 t581.length co9)∧w'.cell? ⟨gb589,1,none⟩=some (.slice Ao12 t584.length co12)) (ds:=[]) (Array.replicate 25 false) (by kernel_rfl) rfl rfl ⟨bc_,bc_,bc_,bc_,bc_,bc_⟩ (fun hHeld=>?_);refine with_tabW laws_FnPlateLoop.tab8 laws_FnPlateLoop.bits8 (fun HT_ HW_=>?_);generalize w71.drew=w72 at HO_590000 HO_590001 BK589 BK590 BK596 HB hHeld ⊢
        refine pu_ HT_ 3 44 (bm 25 8) ?_;refine ta6_ HT_ HW_ 0 41 (bm 25 9) hHeld ?_;refine ta6_ HT_ HW_ 1 42 (bm 25 11) hHeld ?_;refine ta6_ HT_ HW_ 4 45 (bm 25 27) hHeld ?_;refine ta6_ HT_ HW_ 5 46 (bm 25 59) hHeld ?_;refine one_ (i:=2) (N:=some 43) (bm 25 63) rfl rfl (one_of HT_.out (by kernel_rfl)) (by decide) (fun K hK=>?_);refine goes_ Tryd.func17 (by kernel_rfl) rfl #[.agg #[.slice Ao9 t581.length co9,.slice none 0 0],.agg #[.int .i64 t587,.int .i64 t588]] (by rfl) rfl rfl ma_ ?_;refine (impl_PlateIn.calls _ _ t581 _ _ ([]:List (List (S37))) t587 t588 t597 _ ?side1 ?side2 ?side3 ?side4 A44.out).mono ?_
        (case side1=>repeat (first | exact (Kd.R_reads' HO_590000.out).2.2 | (with_reducible refine Kd.C_alloc ?_ _) | (with_reducible refine Kd.C_drewN ?_ _) | (with_reducible refine Kd.C_drew ?_)))
        (case side2=>exact (Kd.R_reads' HO_590000.out).2.1)
        (case side3=>exact Kd.C_nil _ _)
        (case side4=>exact Nat.le_refl _)
        rintro e w73 ⟨rfl,hb⟩;refine⟨_,rfl,?_⟩;replace HO_590000:=rb_ HO_590000 hb;replace HO_590001:=nb_ HO_590001 hb;replace BK589:=vb_ BK589 hb;replace BK590:=vb_ BK590 hb;replace BK596:=vb_ BK596 hb;replace HB:=sb_ HB hb
        (try clear hb)
        (try clear hb2)
        (try clear hk)
        (try clear hi)
        refine hK.out _ _ ⟨bc_,bc_,bc_,bc_,bc_,bc_⟩ (fun hHeld=>?_);clear hK K;refine no_ (h:=?_);refine one_ (i:=6) (N:=some 47) (bm 25 127) rfl rfl (one_of HT_.out (by kernel_rfl)) (by decide) (fun K hK=>?_);refine goes_ Tryd.func21 (by kernel_rfl) rfl #[.slice Ao9 t581.length co9,.agg #[.int .i64 t587,.int .i64 t588]] (by rfl) rfl rfl ma_ ?_
        with_reducible refine (impl_LoopIn.calls _ _ t581 t587 t588 t598 _ ?side1 ?side2 A45.out).mono ?_
        (case side1=>repeat (first | exact (Kd.R_reads' HO_590000.out).2.2 | (with_reducible refine Kd.C_alloc ?_ _) | (with_reducible refine Kd.C_drewN ?_ _) | (with_reducible refine Kd.C_drew ?_)))
        (case side2=>exact (Kd.R_reads' HO_590000.out).2.1)
        rintro e w74 ⟨rfl,hb⟩;refine⟨_,rfl,?_⟩;replace HO_590000:=rb_ HO_590000 hb;replace HO_590001:=nb_ HO_590001 hb;replace BK589:=vb_ BK589 hb;replace BK590:=vb_ BK590 hb;replace BK596:=vb_ BK596 hb;replace HB:=sb_ HB hb
        (try clear hb)
        (try clear hb2)
        (try clear hk)
        (try clear hi)
        refine hK.out _ _ ⟨bc_,bc_,bc_,bc_,bc_,bc_⟩ (fun hHeld=>?_);clear hK K;refine no_ (h:=?_);refine pu_ HT_ 7 48 (bm 25 255) ?_;refine pu_ HT_ 8 49 (bm 25 511) ?_;refine pu_ HT_ 11 52 (bm 25 2559) ?_;refine ta6_ HT_ HW_ 9 50 (bm 25 3071) hHeld ?_;refine ta6_ HT_ HW_ 12 53 (bm 25 7167) hHeld ?_;refine one_ (i:=10) (N:=some 51) (bm 25 8191) rfl rfl (one_of HT_.out (by kernel_rfl)) (by decide) (fun K hK=>?_);refine goes_ Tryd.func7 (by kernel_rfl) rfl #[.agg #[.slice Ao9 t581.length co9,.slice none 0 0]] (by rfl) rfl rfl ma_ ?_;refine (impl_PlateText.calls _ _ t581 _ _ ([]:List (List (S37))) t599 _ ?side1 ?side2 ?side3 ?side4 A47.out).mono ?_
        (case side1=>repeat (first | exact (Kd.R_reads' HO_590000.out).2.2 | (with_reducible refine Kd.C_alloc ?_ _) | (with_reducible refine Kd.C_drewN ?_ _) | (with_reducible refine Kd.C_drew ?_)))
        (case side2=>exact (Kd.R_reads' HO_590000.out).2.1)
        (case side3=>exact Kd.C_nil _ _)
        (case side4=>exact Nat.le_refl _)
        rintro e w75 ⟨rfl,hb⟩;refine⟨_,rfl,?_⟩;replace HO_590000:=rb_ HO_590000 hb;replace HO_590001:=nb_ HO_590001 hb;replace BK589:=vb_ BK589 hb;replace BK590:=vb_ BK590 hb;replace BK596:=vb_ BK596 hb;replace HB:=sb_ HB hb
        (try clear hb)
        (try clear hb2)
        (try clear hk)
        (try clear hi)
        refine hK.out _ _ ⟨bc_,bc_,bc_,bc_,bc_,bc_⟩ (fun hHeld=>?_);clear hK K;refine no_ (h:=?_);refine one_ (i:=13) (N:=some 54) (bm 25 16383) rfl rfl (one_of HT_.out (by kernel_rfl)) (by decide) (fun K hK=>?_);refine goes_ Tryd.func10 (by kernel_rfl) rfl #[.slice Ao9 t581.length co9] (by rfl) rfl rfl ma_ ?_
        with_reducible refine (impl_LoopText.calls _ _ t581 t600 _ ?side1 ?side2 A48.out).mono ?_
        (case side1=>repeat (first | exact (Kd.R_reads' HO_590000.out).2.2 | (with_reducible refine Kd.C_alloc ?_ _) | (with_reducible refine Kd.C_drewN ?_ _) | (with_reducible refine Kd.C_drew ?_)))
        (case side2=>exact (Kd.R_reads' HO_590000.out).2.1)
        rintro e w76 ⟨rfl,hb⟩;refine⟨_,rfl,?_⟩;replace HO_590000:=rb_ HO_590000 hb;replace HO_590001:=nb_ HO_590001 hb;replace BK589:=vb_ BK589 hb;replace BK590:=vb_ BK590 hb;replace BK596:=vb_ BK596 hb;replace HB:=sb_ HB hb
        (try clear hb)
        (try clear hb2)
        (try clear hk)
        (try clear hi)
        refine hK.out _ _ ⟨bc_,bc_,bc_,bc_,bc_,bc_⟩ (fun hHeld=>?_);clear hK K;refine no_ (h:=?_);refine pu_ HT_ 14 55 (bm 25 32767) ?_;refine pu_ HT_ 15 56 (bm 25 65535) ?_;refine pu_ HT_ 16 57 (bm 25 131071) ?_;refine pu_ HT_ 17 58 (bm 25 262143) ?_;refine pz_ HT_ 18 59 (bm 25 524287) ?_;refine pz_ HT_ 19 60 (bm 25 1048575) ?_;refine pz_ HT_ 20 61 (bm 25 2097151) ?_;refine pz_ HT_ 21 62 (bm 25 4194303) ?_;refine pz_ HT_ 22 63 (bm 25 8388607) ?_;refine pu_ HT_ 23 64 (bm 25 16777215) ?_;refine pu_ HT_ 24 2 (bm 25 33554431) ?_;refine done_ (done_of HT_.out (by kernel_rfl)) ?_
        try go_wp2
        go_ret;exact⟨rr_,hB_⟩
      ·
       rw [if_neg c49] at H;exact absurd H (by simp)
     ·
      rw [if_neg c46] at H;have c46b0:(t597==t598)=false:=beq_eq_false_iff_ne.mpr c46;have c46b1:(t597 != t598)=true:=bne_iff_ne.mpr c46;obtain rfl:=Option.some.inj H;have hnb77:=NB589_590.out;have hnc77:=NB590_589.out;have hcz78_0:=c20_ BK589;have hcz78_1:=c21_ BK589;have hfz78_0:=fz_ BK589 0;have hfz78_1:=fz_ BK589 1
      try go_wp2_with (first | ((with_reducible refine gate_dst (N:=6) rfl ?_);refine bx_ (N:=6) (cs:=#[.slice none 0 0,.slice none 0 0]) (t:=26) (h:=?_);intro gb596 hg w79 hbox hb;have BK596:=a0_ (hbox);have GW596:=gh_ HB hg;have GE596:=gh_ HB hg;have NB589_596:=nl_ BK589 hg;have NB596_589:=nr_ BK589 hg;have NB590_596:=nl_ BK590 hg;have NB596_590:=nr_ BK590 hg;replace HO_590000:=rb_ HO_590000 hb;replace HO_590001:=a0_ (Kd.N_below (Kd.N_elderB (uN_ HO_590001) gb596 (Nat.le_of_eq hg.symm)) hb);replace BK589:=vb_ BK589 hb;replace BK590:=vb_ BK590 hb;replace HB:=sb_ HB hb;clear hb hbox hg;have hnb80:=NB596_589.out;have hnc80:=NB589_596.out;have hnb81:=NB596_590.out;have hnc81:=NB590_596.out;have hcz82_0:=c20_ BK596;have hcz82_1:=c21_ BK596;have hfz82_0:=fz_ BK596 0;have hfz82_1:=fz_ BK596 1))
      have n0_:Aside0 (Kd.R k37 37 ((w79.setCell ⟨gb596,0,none⟩ (.slice Ao9 t581.length co9)).setCell ⟨gb596,1,none⟩ (.slice none 0 0)) w.heap.size (fun k_=>k_≠gb590) (.slice Ao9 t581.length co9) t581):=⟨by (with_reducible repeat (first | apply Kd.R_alloc | apply Kd.R_drewN | apply Kd.R_drew));exact Kd.R_mono (Kd.R_far (p:=⟨gb596,1,none⟩) (Kd.R_far (p:=⟨gb596,0,none⟩) (Kd.R_types HO_590000.out BK596.out (by decide)) (fun _ hk=>hk.2) (.slice Ao9 t581.length co9)) (fun _ hk=>hk.2) (.slice none 0 0)) (fun _ hk=>hk.1)⟩;have n1_:Aside0 (Kd.N (Kd.slice 37 k37) 23 ((w79.setCell ⟨gb596,0,none⟩ (.slice Ao9 t581.length co9)).setCell ⟨gb596,1,none⟩ (.slice none 0 0)) w.heap.size (fun k_=>some k_≠(.slice Ao9 t581.length co9:Value).ownBlock∧k_≠gb589∧k_≠gb590∧k_≠gb596) (.slice Ao12 t584.length co12) t584):=⟨by (with_reducible repeat (first | apply Kd.N_alloc | apply Kd.N_drewN | apply Kd.N_drew));exact Kd.N_mono (Kd.N_far (p:=⟨gb596,1,none⟩) (Kd.N_far (p:=⟨gb596,0,none⟩) (Kd.N_mono HO_590001.out (fun k_ hk=>(⟨hk,hk.2⟩:_∧k_≠gb596))) (fun _ hk=>hk.2) (.slice Ao9 t581.length co9)) (fun _ hk=>hk.2) (.slice none 0 0)) (fun _ hk=>⟨hk.1.1.1,⟨hk.1.1.2.1,⟨hk.1.1.2.2,hk.1.2⟩⟩⟩)⟩;have n2_:Aside0 (((w79.setCell ⟨gb596,0,none⟩ (.slice Ao9 t581.length co9)).setCell ⟨gb596,1,none⟩ (.slice none 0 0)).heap[gb589]?=some (.cells #[.slice Ao9 t581.length co9,.slice Ao12 t584.length co12] 26 (0,0))):=⟨by (with_reducible repeat (first | refine blk_drewN ?_ _ | refine blk_drew ?_ | refine blk_alloc ?_ _));refine blk_far ?_ NB589_596.out _;(with_reducible repeat (first | refine blk_drewN ?_ _ | refine blk_drew ?_ | refine blk_alloc ?_ _));refine blk_far ?_ NB589_596.out _;(with_reducible repeat (first | refine blk_drewN ?_ _ | refine blk_drew ?_ | refine blk_alloc ?_ _));exact BK589.out⟩
      have n3_:Aside0 (((w79.setCell ⟨gb596,0,none⟩ (.slice Ao9 t581.length co9)).setCell ⟨gb596,1,none⟩ (.slice none 0 0)).heap[gb590]?=some (.cells #[.int .i64 t587,.int .i64 t588] 37 (0,0))):=⟨by (with_reducible repeat (first | refine blk_drewN ?_ _ | refine blk_drew ?_ | refine blk_alloc ?_ _));refine blk_far ?_ NB590_596.out _;(with_reducible repeat (first | refine blk_drewN ?_ _ | refine blk_drew ?_ | refine blk_alloc ?_ _));refine blk_far ?_ NB590_596.out _;(with_reducible repeat (first | refine blk_drewN ?_ _ | refine blk_drew ?_ | refine blk_alloc ?_ _));exact BK590.out⟩;have n4_:Aside0 (((w79.setCell ⟨gb596,0,none⟩ (.slice Ao9 t581.length co9)).setCell ⟨gb596,1,none⟩ (.slice none 0 0)).heap[gb596]?=some (.cells #[.slice Ao9 t581.length co9,.slice none 0 0] 26 (0,0))):=⟨by (with_reducible repeat (first | refine blk_drewN ?_ _ | refine blk_drew ?_ | refine blk_alloc ?_ _));refine blk_put (cs:=#[.slice Ao9 t581.length co9,.slice none 0 0]) ?_ 1 _ rfl;(with_reducible repeat (first | refine blk_drewN ?_ _ | refine blk_drew ?_ | refine blk_alloc ?_ _));refine blk_put (cs:=#[.slice none 0 0,.slice none 0 0]) ?_ 0 _ rfl;(with_reducible repeat (first | refine blk_drewN ?_ _ | refine blk_drew ?_ | refine blk_alloc ?_ _));exact BK596.out⟩;have n5_:Aside0 (Below w.heap.size w ((w79.setCell ⟨gb596,0,none⟩ (.slice Ao9 t581.length co9)).setCell ⟨gb596,1,none⟩ (.slice none 0 0))):=⟨hB_⟩
      (try clear HO_590000)
      (try clear HO_590001)
      (try clear BK589)
      (try clear BK590)
      (try clear BK596)
      (try clear HB)
      generalize ((w79.setCell ⟨gb596,0,none⟩ (.slice Ao9 t581.length co9)).setCell ⟨gb596,1,none⟩ (.slice none 0 0))=w83 at n0_ n1_ n2_ n3_ n4_ n5_ ⊢
      have HO_590000:=n0_;have HO_590001:=n1_;have BK589:=n2_;have BK590:=n3_;have BK596:=n4_;have HB:=n5_;clear n0_ n1_ n2_ n3_ n4_ n5_;replace HO_590000:=a0_ (Kd.R_drew HO_590000.out);replace HO_590001:=a0_ (Kd.N_drew HO_590001.out);replace BK589:=a0_ (blk_drew BK589.out);replace BK590:=a0_ (blk_drew BK590.out);replace BK596:=a0_ (blk_drew BK596.out);replace HB:=a0_ (below_drew1 HB.out);refine start_ (n:=25) (S:=fun w'=>w'.cell? ⟨gb596,0,none⟩=some (.slice Ao9 t581.length co9)∧w'.cell? ⟨gb596,1,none⟩=some (.slice none 0 0)∧w'.cell? ⟨gb590,0,none⟩=some (.int .i64 t587)∧w'.cell? ⟨gb590,1,none⟩=some (.int .i64 t588)∧w'.cell? ⟨gb589,0,none⟩=some (.slice Ao9 t581.length co9)∧w'.cell? ⟨gb589,1,none⟩=some (.slice Ao12 t584.length co12)) (ds:=[]) (Array.replicate 25 false) (by kernel_rfl) rfl rfl ⟨bc_,bc_,bc_,bc_,bc_,bc_⟩ (fun hHeld=>?_);refine with_tabW laws_FnPlateLoop.tab8 laws_FnPlateLoop.bits8 (fun HT_ HW_=>?_);generalize w83.drew=w84 at HO_590000 HO_590001 BK589 BK590 BK596 HB hHeld ⊢
      refine pu_ HT_ 3 44 (bm 25 8) ?_;refine ta6_ HT_ HW_ 0 41 (bm 25 9) hHeld ?_;refine ta6_ HT_ HW_ 1 42 (bm 25 11) hHeld ?_;refine ta6_ HT_ HW_ 4 45 (bm 25 27) hHeld ?_;refine ta6_ HT_ HW_ 5 46 (bm 25 59) hHeld ?_;refine one_ (i:=2) (N:=some 43) (bm 25 63) rfl rfl (one_of HT_.out (by kernel_rfl)) (by decide) (fun K hK=>?_);refine goes_ Tryd.func17 (by kernel_rfl) rfl #[.agg #[.slice Ao9 t581.length co9,.slice none 0 0],.agg #[.int .i64 t587,.int .i64 t588]] (by rfl) rfl rfl ma_ ?_;refine (impl_PlateIn.calls _ _ t581 _ _ ([]:List (List (S37))) t587 t588 t597 _ ?side1 ?side2 ?side3 ?side4 A44.out).mono ?_
      (case side1=>repeat (first | exact (Kd.R_reads' HO_590000.out).2.2 | (with_reducible refine Kd.C_alloc ?_ _) | (with_reducible refine Kd.C_drewN ?_ _) | (with_reducible refine Kd.C_drew ?_)))
      (case side2=>exact (Kd.R_reads' HO_590000.out).2.1)
      (case side3=>exact Kd.C_nil _ _)
      (case side4=>exact Nat.le_refl _)
      rintro e w85 ⟨rfl,hb⟩;refine⟨_,rfl,?_⟩;replace HO_590000:=rb_ HO_590000 hb;replace HO_590001:=nb_ HO_590001 hb;replace BK589:=vb_ BK589 hb;replace BK590:=vb_ BK590 hb;replace BK596:=vb_ BK596 hb;replace HB:=sb_ HB hb
      (try clear hb)
      (try clear hb2)
      (try clear hk)
      (try clear hi)
      refine hK.out _ _ ⟨bc_,bc_,bc_,bc_,bc_,bc_⟩ (fun hHeld=>?_);clear hK K;refine no_ (h:=?_);refine one_ (i:=6) (N:=some 47) (bm 25 127) rfl rfl (one_of HT_.out (by kernel_rfl)) (by decide) (fun K hK=>?_);refine goes_ Tryd.func21 (by kernel_rfl) rfl #[.slice Ao9 t581.length co9,.agg #[.int .i64 t587,.int .i64 t588]] (by rfl) rfl rfl ma_ ?_
      with_reducible refine (impl_LoopIn.calls _ _ t581 t587 t588 t598 _ ?side1 ?side2 A45.out).mono ?_
      (case side1=>repeat (first | exact (Kd.R_reads' HO_590000.out).2.2 | (with_reducible refine Kd.C_alloc ?_ _) | (with_reducible refine Kd.C_drewN ?_ _) | (with_reducible refine Kd.C_drew ?_)))
      (case side2=>exact (Kd.R_reads' HO_590000.out).2.1)
      rintro e w86 ⟨rfl,hb⟩;refine⟨_,rfl,?_⟩;replace HO_590000:=rb_ HO_590000 hb;replace HO_590001:=nb_ HO_590001 hb;replace BK589:=vb_ BK589 hb;replace BK590:=vb_ BK590 hb;replace BK596:=vb_ BK596 hb;replace HB:=sb_ HB hb
      (try clear hb)
      (try clear hb2)
      (try clear hk)
      (try clear hi)
      refine hK.out _ _ ⟨bc_,bc_,bc_,bc_,bc_,bc_⟩ (fun hHeld=>?_);clear hK K;refine no_ (h:=?_);refine pu_ HT_ 7 48 (bm 25 255) ?_;refine pu_ HT_ 8 49 (bm 25 511) ?_;refine pz_ HT_ 9 50 (bm 25 1023) ?_;refine pz_ HT_ 10 51 (bm 25 2047) ?_;refine pz_ HT_ 11 52 (bm 25 4095) ?_;refine pz_ HT_ 12 53 (bm 25 8191) ?_;refine pz_ HT_ 13 54 (bm 25 16383) ?_;refine pz_ HT_ 14 55 (bm 25 32767) ?_;refine pz_ HT_ 15 56 (bm 25 65535) ?_;refine pu_ HT_ 16 57 (bm 25 131071) ?_;refine pu_ HT_ 17 58 (bm 25 262143) ?_;refine pz_ HT_ 18 59 (bm 25 524287) ?_;refine pz_ HT_ 19 60 (bm 25 1048575) ?_;refine pz_ HT_ 20 61 (bm 25 2097151) ?_;refine pz_ HT_ 21 62 (bm 25 4194303) ?_;refine pz_ HT_ 22 63 (bm 25 8388607) ?_;refine pu_ HT_ 23 64 (bm 25 16777215) ?_;refine pu_ HT_ 24 2 (bm 25 33554431) ?_;refine done_ (done_of HT_.out (by kernel_rfl)) ?_
      try go_wp2
      go_ret;exact⟨rr_,hB_⟩
def laws_FnPlateLoop.Pure:Prop:=∀ (l0:List Int),l0.length≤maxLen→l0.length*1≤140737488351232→(∀ x∈l0,(Lit.int .u8 x).wf=true)→∃ k,laws_FnPlateLoop.f k l0=some true
theorem laws_FnPlateLoop.walk (P:laws_FnPlateLoop.Pure)(a0:Option Addr)(len0 cap0:Nat)(z0:List Int)(w:World)(w0:(a0=none∧len0=0∧cap0=0∧z0=[])∨∃ x,a0=some x∧len0≤cap0∧cap0≤maxLen∧z0.length=cap0∧(∀ i,i<z0.length→w.cell? (x.add i)=some (.int .u8 (z0.getD i 0)))∧∀ n∈z0,(Lit.int .u8 n).wf=true)(y0:len0*1≤140737488351232):
  Calls Tryd.prog 5 #[.slice a0 len0 cap0] w fun e w'=>e=.returned (.bool true)∧Below w.heap.size w w':=by
 obtain⟨l0,rfl,hr0,hm0,hw0,hc0⟩:=ReadsInt.ofRowC w0;obtain⟨k,h⟩:=P l0 hm0 y0 hw0;refine (laws_FnPlateLoop.calls k _ _ l0 true w (Kd.C_of_reads (d:=(0:Int)) (h1:=fun _=>rfl) hr0) hc0 h).mono ?_;rintro e w' ⟨rfl,hd⟩;exact⟨rfl,hd⟩
end Go.Proofs.YtailkppkjhkjpaaDoor.X
end
section
set_option linter.unusedVariables false
set_option linter.unusedSimpArgs false
namespace Go.Proofs.YtailkppkjhkjpaaDoor.X
open Go.RowKit Go.Proofs.YtailkppkjhkjpaaDoorW.PrintWords Go.Proofs.YtailkppkjhkjpaaDoorW.PrintLast Go.Proofs.YtailkppkjhkjpaaDoorW.PrintMore
open Mort (edges loopOk ptOk segOk has meet ed pairOk joined apartB)
theorem rd_es (z:List S37){i:Nat}(h:i<z.length):rd_T89 (esOf z) (i:Int)=edS z i:=esOf_getD z h
theorem seg_ends {s:S89}(h:segOk (sgP s)=true):ptOk (s.f0.f0,s.f0.f1)=true∧ptOk (s.f1.f0,s.f1.f1)=true:=⟨((Mort.segOk_iff _).1 h).1,((Mort.segOk_iff _).1 h).2.1⟩
theorem sHasS {s:S89}{x y:Int}(h:segOk (sgP s)=true)(hp:ptOk (x,y)=true):spec_l2Has.f s.f0.f0 s.f0.f1 s.f1.f0 s.f1.f1 x y=some (has (sgP s) (x,y)):=sHas (seg_ends h).1 (seg_ends h).2 hp
theorem sMeetS {s t:S89}(h:segOk (sgP s)=true)(h':segOk (sgP t)=true):spec_l2Meet.f s.f0.f0 s.f0.f1 s.f1.f0 s.f1.f1 t.f0.f0 t.f0.f1 t.f1.f0 t.f1.f1=some (meet (sgP s) (sgP t)):=sMeet (seg_ends h).1 (seg_ends h).2 (seg_ends h').1 (seg_ends h').2
theorem succ64 {i:Nat}(h:i≤100000):wrap64 ((i:Int)+1)=((i+1:Nat):Int):=by rw [w64i (by omega) (by omega)];rfl
def rowJ (l:List Mort.Pt)(i j:Nat):Bool:=decide ((j+1) % l.length=i) || !meet (ed l i) (ed l j)
def rowI (l:List Mort.Pt)(i:Nat):Bool:=joined (ed l i) (ed l ((i+1) % l.length)) && (List.range' (i+2) (l.length-(i+2))).all (rowJ l i)
section
variable (z:List S37) (h8:z.length≤8) (hall:∀ i,i<z.length→segOk (sgP (edS z i))=true)
include h8 hall
theorem loop_l2 (i:Nat)(hi:i<z.length)(R:Bool)(K:Nat)(hR:∀ k,K≤k→spec_LoopOk.l1 k (z.length:Int) (esOf z) ((i+1:Nat):Int)=some R):
  ∀ (m j k:Nat),z.length-j=m→j≤10→K+m+1≤k→spec_LoopOk.l2 k (z.length:Int) (esOf z) (i:Int) (j:Int)=some ((List.range' j m).all (rowJ (z.map ptP) i) && R):=by
 intro m
 induction m with
 | zero =>
  intro j k hm hj hk;obtain⟨k,rfl⟩:∃ q,k=q+1:=⟨k-1,by omega⟩;simp only [spec_LoopOk.l2];rw [if_neg (by omega),succ64 (by omega),hR k (by omega)];simp
 | succ m ih =>
  intro j k hm hj hk;obtain⟨k,rfl⟩:∃ q,k=q+1:=⟨k-1,by omega⟩;simp only [spec_LoopOk.l2];rw [if_pos (by omega),if_neg (by omega),succ64 (by omega)];have ht:Int.tmod ((j+1:Nat):Int) (z.length:Int)=(((j+1) % z.length:Nat):Int):=rfl;rw [ht,List.range'_succ,List.all_cons];by_cases hq:(j+1) % z.length=i
  ·
   rw [if_pos (by omega),ih (j+1) k (by omega) (by omega) (by omega)];have:rowJ (z.map ptP) i j=true:=by unfold rowJ;rw [List.length_map,decide_eq_true hq];rfl
   rw [this,Bool.true_and]
  ·
   rw [if_neg (by omega),if_pos (by omega),if_pos (by rw [esOf_len];omega),if_pos (by omega),if_pos (by rw [esOf_len];omega)];rw [rd_es z hi,rd_es z (by omega),sMeetS (hall i hi) (hall j (by omega)),Option.bind_some];have hrow:rowJ (z.map ptP) i j = !meet (sgP (edS z i)) (sgP (edS z j)):=by unfold rowJ;rw [List.length_map,decide_eq_false hq,ed_edS,ed_edS];rfl
   rw [hrow]
   cases hm2:meet (sgP (edS z i)) (sgP (edS z j)) with
   | true=>rw [if_pos rfl];simp
   | false=>rw [if_neg (by decide),ih (j+1) k (by omega) (by omega) (by omega)];simp
theorem loop_l1:∀ (m i k:Nat),z.length-i=m→i≤z.length→m*20+1≤k→spec_LoopOk.l1 k (z.length:Int) (esOf z) (i:Int)=some ((List.range' i m).all (rowI (z.map ptP))):=by
 intro m
 induction m with
 | zero =>
  intro i k hm hi hk;obtain⟨k,rfl⟩:∃ q,k=q+1:=⟨k-1,by omega⟩;simp only [spec_LoopOk.l1];rw [if_neg (by omega)];simp
 | succ m ih =>
  intro i k hm hi hk;obtain⟨k,rfl⟩:∃ q,k=q+2:=⟨k-2,by omega⟩;simp only [spec_LoopOk.l1];have hlt:=Nat.mod_lt (i+1) (show 0<z.length by omega);have ht:Int.tmod ((i+1:Nat):Int) (z.length:Int)=(((i+1) % z.length:Nat):Int):=rfl;rw [if_pos (by omega),if_pos (by omega),if_pos (by rw [esOf_len];omega),if_neg (by omega),succ64 (by omega),ht,if_pos (by omega),if_pos (by rw [esOf_len];omega)];rw [rd_es z (by omega:i<z.length),rd_es z hlt];generalize hq:(i+1) % z.length=q at hlt;have o1:=hall i (by omega);have o2:=hall q hlt;rw [sHasS o1 (seg_ends o2).2,Option.bind_some,sHasS o2 (seg_ends o1).1,Option.bind_some];have hrow:rowI (z.map ptP) i=((!has (sgP (edS z i)) (sgP (edS z q)).2 && !has (sgP (edS z q)) (sgP (edS z i)).1) && (List.range' (i+2) (z.length-(i+2))).all (rowJ (z.map ptP) i)):=by
   unfold rowI joined;rw [List.length_map,hq,ed_edS,ed_edS]
  have e2:(ptP (edS z q).f1)=((edS z q).f1.f0,(edS z q).f1.f1):=rfl;rw [List.range'_succ,List.all_cons,hrow]
  show (if has (sgP (edS z i)) (sgP (edS z q)).2=true then _ else spec_LoopOk.j2 (k+1) _ _ _ (has (sgP (edS z q)) (sgP (edS z i)).1))=_
  cases has (sgP (edS z i)) (sgP (edS z q)).2 with
  | true=>rw [if_pos rfl];simp only [spec_LoopOk.j2];simp
  | false =>
   rw [if_neg (by decide)];simp only [spec_LoopOk.j2]
   cases has (sgP (edS z q)) (sgP (edS z i)).1 with
   | true=>rw [if_pos rfl];simp
   | false =>
    rw [if_neg (by decide)];have hw:wrap64 ((i:Int)+2)=((i+2:Nat):Int):=by rw [w64i (by omega) (by omega)];rfl
    rw [hw,loop_l2 z h8 hall i (by omega) _ (m*20+1) (fun k hk=>ih (i+1) k (by omega) (by omega) hk) (z.length-(i+2)) (i+2) k rfl (by omega) (by omega)];simp
end
theorem loop_l0 (z:List S37)(h8:z.length≤8):∀ (m i k:Nat),z.length-i=m→i≤z.length→m+200≤k→(∀ j,j<i→segOk (sgP (edS z j))=true) →
  spec_LoopOk.l0 k (z.length:Int) (esOf z) (i:Int)=some ((List.range' i m).all (fun j=>segOk (sgP (edS z j))) && (List.range' 0 z.length).all (rowI (z.map ptP))):=by
 intro m
 induction m with
 | zero =>
  intro i k hm hi hk hp;obtain⟨k,rfl⟩:∃ q,k=q+1:=⟨k-1,by omega⟩;simp only [spec_LoopOk.l0];rw [if_neg (by omega),show (0:Int)=((0:Nat):Int) from rfl,loop_l1 z h8 (fun j hj=>hp j (by omega)) z.length 0 k (by omega) (by omega) (by omega)];simp
 | succ m ih =>
  intro i k hm hi hk hp;obtain⟨k,rfl⟩:∃ q,k=q+1:=⟨k-1,by omega⟩;simp only [spec_LoopOk.l0];rw [if_pos (by omega),if_pos (by omega),if_pos (by rw [esOf_len];omega),rd_es z (by omega:i<z.length),sSegOk,Option.bind_some,List.range'_succ,List.all_cons]
  show (if segOk (sgP (edS z i))=true then _ else _)=_
  cases ho:segOk (sgP (edS z i)) with
  | true =>
   rw [if_pos rfl,succ64 (by omega),ih (i+1) k (by omega) (by omega) (by omega) (fun j hj=>by
    by_cases hji:j=i
    ·
     rw [hji];exact ho
    ·
     exact hp j (by omega))]
   simp
  | false=>rw [if_neg (by decide)];simp
theorem rows_pairs (l:List Mort.Pt)(h3:3≤l.length):(List.range' 0 l.length).all (rowI l)=(List.range l.length).all fun i=>(List.range l.length).all fun j=>pairOk l i j:=by
 rw [Bool.eq_iff_iff];simp only [List.all_eq_true,List.mem_range'_1,List.mem_range];constructor
 ·
  intro h i hi j hj;have row:∀ i,i<l.length→joined (ed l i) (ed l ((i+1) % l.length))=true∧∀ j,i+2≤j→j<l.length→rowJ l i j=true:=fun i hi=>by
   have:=h i ⟨by omega,by omega⟩;unfold rowI at this;simp only [Bool.and_eq_true,List.all_eq_true,List.mem_range'_1] at this;exact⟨this.1,fun j h1 h2=>this.2 j ⟨h1,by omega⟩⟩
  unfold pairOk;by_cases h1:j≤i
  ·
   rw [if_pos h1]
  ·
   rw [if_neg h1];by_cases h2:j=i+1
   ·
    rw [if_pos h2];have:=(row i hi).1
    rwa [Nat.mod_eq_of_lt (by omega),← h2] at this
   ·
    rw [if_neg h2];by_cases h4:i=0∧j+1=l.length
    ·
     rw [if_pos h4];have:=(row j hj).1
     rwa [h4.2,Nat.mod_self,← h4.1] at this
    ·
     rw [if_neg h4];have:=(row i hi).2 j (by omega) hj;unfold rowJ at this;have hne:(j+1) % l.length≠i:=by
      intro e;by_cases hj2:j+1<l.length
      ·
       rw [Nat.mod_eq_of_lt hj2] at e;omega
      ·
       have e2:j+1=l.length:=by omega
       rw [e2,Nat.mod_self] at e;exact h4 ⟨e.symm,e2⟩
     rwa [decide_eq_false hne,Bool.false_or] at this
 ·
  intro h i hi;have hi2:i<l.length:=by omega
  unfold rowI;simp only [Bool.and_eq_true,List.all_eq_true,List.mem_range'_1];refine⟨?_,fun j hj=>?_⟩
  ·
   by_cases h1:i+1<l.length
   ·
    have:=h i hi2 (i+1) h1;unfold pairOk at this;rw [if_neg (by omega),if_pos rfl] at this
    rwa [Nat.mod_eq_of_lt h1]
   ·
    have e2:i+1=l.length:=by omega
    have:=h 0 (by omega) i hi2;unfold pairOk at this;rw [if_neg (by omega),if_neg (by omega),if_pos ⟨rfl,e2⟩] at this
    rwa [e2,Nat.mod_self]
  ·
   unfold rowJ;by_cases hq:(j+1) % l.length=i
   ·
    rw [decide_eq_true hq];rfl
   ·
    rw [decide_eq_false hq,Bool.false_or];have:=h i hi2 j (by omega);unfold pairOk at this;rw [if_neg (by omega),if_neg (by omega),if_neg (fun e=>hq (by rw [e.2,Nat.mod_self];exact e.1.symm))] at this;exact this
theorem sLoopOk {k:Nat}(hk:300≤k)(z:List S37):spec_LoopOk.f k z=some (loopOk (z.map ptP)):=by
 unfold spec_LoopOk.f loopOk;rw [l6In_told,Option.bind_some,List.length_map];have e0:(decide (3≤(z.length:Int)) && decide ((z.length:Int)≤8))=(decide (3≤z.length) && decide (z.length≤8)):=by
  congr 1
  ·
   rw [decide_eq_decide];omega
  ·
   rw [decide_eq_decide];omega
 rw [e0];by_cases hn:3≤z.length∧z.length≤8
 ·
  rw [decide_eq_true hn.1,decide_eq_true hn.2,Bool.and_self,if_pos rfl,sEdges (by omega) (by omega),Option.bind_some,Bool.true_and,show (0:Int)=((0:Nat):Int) from rfl,loop_l0 z hn.2 z.length 0 k (by omega) (by omega) (by omega) (fun j hj=>by omega)];have h3:=rows_pairs (z.map ptP) (by rw [List.length_map];exact hn.1);rw [List.length_map] at h3;rw [h3,Mort.edges_eq,List.length_map,List.all_map,List.range_eq_range']
  congr 3
  funext i
  show _=segOk (ed (z.map ptP) i)
  rw [ed_edS]
 ·
  have:(decide (3≤z.length) && decide (z.length≤8))=false:=by
   by_cases h1:3≤z.length
   ·
    rw [decide_eq_false (show ¬ z.length≤8 from fun h2=>hn ⟨h1,h2⟩),Bool.and_false]
   ·
    rw [decide_eq_false h1,Bool.false_and]
  rw [this,if_neg (by decide),Bool.false_and]
theorem ok_facts {z:List S37}(h:loopOk (z.map ptP)=true):3≤z.length∧z.length≤8∧∀ i,i<z.length→segOk (sgP (edS z i))=true:=by
 obtain⟨h1,h2,h3,_⟩:=(Mort.loopOk_iff _).1 h;rw [List.length_map] at h1 h2;refine⟨h1,h2,fun i hi=>?_⟩;have:=h3 _ (Mort.mem_edges.2 ⟨i,by simpa using hi,rfl⟩)
 rwa [ed_edS] at this
theorem apart_l1 (a b:List S37)(ha:loopOk (a.map ptP)=true)(hb:loopOk (b.map ptP)=true)(i:Nat)(hi:i<a.length)(R:Bool)(K:Nat)(hR:∀ k,K≤k→spec_l11Apart.l0 k (esOf a) (esOf b) ((i+1:Nat):Int)=some R):
  ∀ (m j k:Nat),b.length-j=m→j≤b.length→K+m+1≤k→spec_l11Apart.l1 k (esOf a) (esOf b) (i:Int) (j:Int)=some ((List.range' j m).all (fun j => !meet (sgP (edS a i)) (sgP (edS b j))) && R):=by
 obtain⟨a3,a8,aok⟩:=ok_facts ha;obtain⟨b3,b8,bok⟩:=ok_facts hb;intro m
 induction m with
 | zero =>
  intro j k hm hj hk;obtain⟨k,rfl⟩:∃ q,k=q+1:=⟨k-1,by omega⟩;simp only [spec_l11Apart.l1];rw [if_neg (by rw [esOf_len];omega),succ64 (by omega),hR k (by omega)];simp
 | succ m ih =>
  intro j k hm hj hk;obtain⟨k,rfl⟩:∃ q,k=q+1:=⟨k-1,by omega⟩;simp only [spec_l11Apart.l1];rw [if_pos (by rw [esOf_len];omega),if_pos (by omega),if_pos (by rw [esOf_len];omega),if_pos (by omega),rd_es a hi,rd_es b (by omega),sMeetS (aok i hi) (bok j (by omega)),Option.bind_some,List.range'_succ,List.all_cons]
  cases meet (sgP (edS a i)) (sgP (edS b j)) with
  | true=>rw [if_pos rfl];simp
  | false=>rw [if_neg (by decide),succ64 (by omega),ih (j+1) k (by omega) (by omega) (by omega)];simp
theorem apart_l0 (a b:List S37)(ha:loopOk (a.map ptP)=true)(hb:loopOk (b.map ptP)=true):
  ∀ (m i k:Nat),a.length-i=m→i≤a.length→m*20+1≤k→spec_l11Apart.l0 k (esOf a) (esOf b) (i:Int)=some ((List.range' i m).all (fun i=>(List.range' 0 b.length).all (fun j => !meet (sgP (edS a i)) (sgP (edS b j))))):=by
 obtain⟨a3,a8,aok⟩:=ok_facts ha;obtain⟨b3,b8,bok⟩:=ok_facts hb;intro m
 induction m with
 | zero =>
  intro i k hm hi hk;obtain⟨k,rfl⟩:∃ q,k=q+1:=⟨k-1,by omega⟩;simp only [spec_l11Apart.l0];rw [if_neg (by rw [esOf_len];omega)];simp
 | succ m ih =>
  intro i k hm hi hk;obtain⟨k,rfl⟩:∃ q,k=q+1:=⟨k-1,by omega⟩;simp only [spec_l11Apart.l0]
  rw [if_pos (by rw [esOf_len];omega),List.range'_succ,List.all_cons,show (0:Int)=((0:Nat):Int) from rfl,
   apart_l1 a b ha hb i (by omega) _ (m*20+1) (fun k hk=>ih (i+1) k (by omega) (by omega) hk) b.length 0 k (by omega) (by omega) (by omega)]
theorem sApart {k:Nat}(hk:300≤k){a b:List S37}(ha:loopOk (a.map ptP)=true)(hb:loopOk (b.map ptP)=true):spec_l11Apart.f k a b=some (apartB (a.map ptP) (b.map ptP)):=by
 obtain⟨a3,a8,aok⟩:=ok_facts ha;obtain⟨b3,b8,bok⟩:=ok_facts hb;unfold spec_l11Apart.f apartB;rw [sEdges (by omega) (by omega),sEdges (by omega) (by omega),Option.bind_some,Option.bind_some,show (0:Int)=((0:Nat):Int) from rfl,apart_l0 a b ha hb a.length 0 k (by omega) (by omega) (by omega)];rw [Mort.edges_eq (a.map ptP),Mort.edges_eq (b.map ptP),List.length_map,List.length_map,List.all_map,List.range_eq_range']
 congr 2
 funext i
 show _=((List.range b.length).map (ed (b.map ptP))).all _
 rw [List.all_map,List.range_eq_range']
 congr 1
 funext j
 show _ = !meet (ed (a.map ptP) i) (ed (b.map ptP) j)
 rw [ed_edS,ed_edS]
end Go.Proofs.YtailkppkjhkjpaaDoor.X
end
section
set_option linter.unusedVariables false
set_option linter.unusedSimpArgs false
namespace Mort
theorem par_below {l:List Pt}{x y:Rat}(h:par l x y=true):∃ v∈l,y<(v.2:Rat):=by
 have h1:∃ e∈edges l,crsQ e.1.1 e.1.2 e.2.1 e.2.2 x y=true:=by
  refine Classical.byContradiction fun hn=>?_
  have:par l x y=xorAll ((edges l).map fun _=>false):=xorAll_congr fun e he=>by
   cases hc:crsQ e.1.1 e.1.2 e.2.1 e.2.2 x y with
   | true=>exact absurd ⟨e,he,hc⟩ hn
   | false=>rfl
  rw [this] at h;have:∀ (m:List Seg),xorAll (m.map fun _=>false)=false:=fun m=>by
   induction m with
   | nil=>rfl
   | cons a m ih=>rw [List.map_cons];unfold xorAll;rw [ih];rfl
  rw [this] at h;cases h
 obtain⟨e,he,hc⟩:=h1;obtain⟨i,hi,rfl⟩:=mem_edges.1 he;have m1:(ed l i).1∈l:=by
  unfold ed;simp only;rw [List.getD_eq_getElem?_getD,List.getElem?_eq_getElem hi];exact List.getElem_mem hi
 have hq:=Nat.mod_lt (i+1) (show 0<l.length by omega);have m2:(ed l i).2∈l:=by
  unfold ed;simp only;rw [List.getD_eq_getElem?_getD,List.getElem?_eq_getElem hq];exact List.getElem_mem hq
 unfold crsQ at hc;simp only [Bool.or_eq_true,Bool.and_eq_true,decide_eq_true_eq] at hc
 rcases hc with hc | hc
 ·
  exact⟨_,m2,hc.2.1⟩
 ·
  exact⟨_,m1,hc.2.1⟩
theorem inOf_below {l:List Pt}{p:Pt}(h:inOf l p=1):∃ v∈l,p.2<v.2:=by
 have hp:par l p.1 p.2=true:=by
  unfold inOf at h
  split at h
  ·
   omega
  ·
   split at h
   ·
    assumption
   ·
    omega
 obtain⟨v,hv,hlt⟩:=par_below hp;exact⟨v,hv,by exact_mod_cast hlt⟩
theorem vertex_on {l:List Pt}{v:Pt}(h:v∈l):onB l v=true:=by
 obtain⟨i,hi,rfl⟩:=List.getElem_of_mem h;refine (onB_iff l _).2 ⟨ed l i,mem_edges.2 ⟨i,hi,rfl⟩,?_⟩;have:(ed l i).1=l[i]:=by unfold ed;simp only;rw [List.getD_eq_getElem?_getD,List.getElem?_eq_getElem hi];rfl
 rw [← this];exact (has_ends _).1
theorem has_max {l:List Pt}(h:0<l.length):∃ v∈l,∀ u∈l,u.2≤v.2:=by
 induction l with
 | nil=>simp at h
 | cons a m ih =>
  by_cases hm:0<m.length
  ·
   obtain⟨v,hv,hx⟩:=ih hm;by_cases hc:v.2≤a.2
   ·
    refine⟨a,List.mem_cons_self,fun u hu=>?_⟩
    rcases List.mem_cons.1 hu with rfl | hu
    ·
     omega
    ·
     have:=hx u hu;omega
   ·
    refine⟨v,List.mem_cons_of_mem _ hv,fun u hu=>?_⟩
    rcases List.mem_cons.1 hu with rfl | hu
    ·
     omega
    ·
     exact hx u hu
  ·
   obtain rfl:m=[]:=List.eq_nil_of_length_eq_zero (by omega);exact⟨a,List.mem_cons_self,fun u hu=>by rw [List.mem_singleton] at hu;rw [hu];omega⟩
theorem PlateGood.on_outer {P:Plate}(g:PlateGood P){h:List Pt}(hh:h∈P.2){p:Pt}(hp:onB P.1 p=true):inOf h p = -1:=by
 have hl:=g.holes h hh;have same:∀ q,onB P.1 q=true→inOf h q=inOf h (P.1.getD 0 (0,0)):=fun q hq=>on_inOf (ndl_of_ok hl) (ndl_of_ok g.outer) (by rw [apartB_comm];exact g.away h hh) (loop_pos g.outer) hq
 rw [same p hp]
 rcases inOf_vals h (P.1.getD 0 (0,0)) with e | e | e
 ·
  exfalso
  have h1:=(inOf_zero h _).1 e;have h2:=g.on_hole hh h1;have h3:=(inOf_zero P.1 (P.1.getD 0 (0,0))).2 (first_on (loop_pos g.outer));omega
 ·
  exfalso
  obtain⟨v,hv,hmax⟩:=has_max (loop_pos g.outer);have h1:inOf h v=1:=(same v (vertex_on hv)).trans e;obtain⟨u,hu,hlt⟩:=inOf_below h1;have h2:=g.on_hole hh (vertex_on hu);obtain⟨t,ht,hlt2⟩:=inOf_below h2;have:=hmax t ht;omega
 ·
  exact e
theorem plateInOf_spec {P:Plate}(g:PlateGood P)(p:Pt):
  (inOf P.1 p=0→plateInOf P p=0∧∀ h∈P.2,inOf h p = -1)∧((∃ h∈P.2,inOf h p=0)→plateInOf P p=0∧inOf P.1 p=1) ∧
  (inOf P.1 p≠0→(∀ h∈P.2,inOf h p≠0)→plateInOf P p=if inOf P.1 p=1∧∀ h∈P.2,inOf h p = -1 then 1 else -1):=by
 refine⟨fun h0=>?_,fun⟨h,hh,h0⟩=>?_,fun h0 h1=>?_⟩
 ·
  have hon:=(inOf_zero _ _).1 h0;refine⟨?_,fun h hh=>g.on_outer hh hon⟩;unfold plateInOf plateOn;rw [hon,Bool.true_or,if_pos rfl]
 ·
  have hon:=(inOf_zero _ _).1 h0;refine⟨?_,g.on_hole hh hon⟩;have:plateOn P p=true:=by unfold plateOn;rw [Bool.or_eq_true,List.any_eq_true];exact .inr ⟨h,hh,hon⟩
  unfold plateInOf;rw [this,if_pos rfl]
 ·
  have:plateOn P p=false:=by
   unfold plateOn;rw [Bool.or_eq_false_iff];refine⟨?_,?_⟩
   ·
    cases hc:onB P.1 p with
    | true=>exact absurd ((inOf_zero _ _).2 hc) h0
    | false=>rfl
   ·
    rw [List.any_eq_false];intro h hh hc;exact h1 h hh ((inOf_zero _ _).2 hc)
  unfold plateInOf;rw [this,if_neg (by decide)];unfold plateInB;by_cases hq:inOf P.1 p=1∧∀ h∈P.2,inOf h p = -1
  ·
   rw [if_pos hq,if_pos];rw [Bool.and_eq_true,List.all_eq_true];exact⟨beq_iff_eq.2 hq.1,fun h hh=>beq_iff_eq.2 (hq.2 h hh)⟩
  ·
   rw [if_neg hq,if_neg];rw [Bool.and_eq_true,List.all_eq_true];exact fun e=>hq ⟨beq_iff_eq.1 e.1,fun h hh=>beq_iff_eq.1 (e.2 h hh)⟩
end Mort
namespace Go.Proofs.YtailkppkjhkjpaaDoor.X
open Go.RowKit Go.Proofs.YtailkppkjhkjpaaDoorW.PrintWords Go.Proofs.YtailkppkjhkjpaaDoorW.PrintLast Go.Proofs.YtailkppkjhkjpaaDoorW.PrintMore
open Mort (edges loopOk ptOk segOk has meet ed pairOk joined apartB plateOk plateInOf plateIn PlateGood inOf segMeet)
def pl (o:List S37)(H:List (List S37)):Mort.Plate:=(o.map ptP,H.map (List.map ptP))
theorem fst_pt (z:List S37):(z.map ptP).getD 0 (0,0)=fstP z:=ptP_getD z 0
theorem apart_ix (a b:List S37):apartB (a.map ptP) (b.map ptP)=true ↔ ∀ i,i<a.length→∀ j,j<b.length→meet (sgP (edS a i)) (sgP (edS b j))=false:=by
 rw [Mort.apartB_iff];constructor
 ·
  intro h i hi j hj;rw [← ed_edS,← ed_edS];exact h _ (Mort.mem_edges.2 ⟨i,by simpa using hi,rfl⟩) _ (Mort.mem_edges.2 ⟨j,by simpa using hj,rfl⟩)
 ·
  intro h e he f hf;obtain⟨i,hi,rfl⟩:=Mort.mem_edges.1 he;obtain⟨j,hj,rfl⟩:=Mort.mem_edges.1 hf;rw [ed_edS,ed_edS];exact h i (by simpa using hi) j (by simpa using hj)
theorem meetsB_eq {a b:List S37}(ha:loopOk (a.map ptP)=true)(hb:loopOk (b.map ptP)=true):(!meetsB a b)=apartB (a.map ptP) (b.map ptP):=by
 obtain⟨_,_,aok⟩:=ok_facts ha;obtain⟨_,_,bok⟩:=ok_facts hb;rw [Bool.eq_iff_iff,apart_ix];unfold meetsB;rw [Bool.not_eq_true',List.any_eq_false];constructor
 ·
  intro h i hi j hj;have h1:=h ⟨i,hi⟩ (List.mem_finRange _);rw [Bool.not_eq_true,List.any_eq_false] at h1;have h2:=h1 ⟨j,hj⟩ (List.mem_finRange _)
  cases hm:meet (sgP (edS a i)) (sgP (edS b j)) with
  | false=>rfl
  | true=>exact absurd ((Mort.segMeet_iff _ _).2 ⟨aok i hi,bok j hj,hm⟩) h2
 ·
  intro h i _ h1;rw [List.any_eq_true] at h1;obtain⟨j,_,h2⟩:=h1;have:=h i i.2 j j.2;rw [((Mort.segMeet_iff _ _).1 h2).2.2] at this;cases this
theorem iBodyOk (o:List S37)(H:List (List S37)):bodyOkB o H=plateOk (pl o H):=by
 unfold bodyOkB plateOk pl Mort.nested;simp only [List.length_map]
 match H with
 | [] =>
  simp only [List.length_nil,List.all_nil,List.map_nil,apartAll,nestedAll,List.range'_zero,Bool.and_true,Bool.true_and]
 | [a] =>
  simp only [List.length_cons,List.length_nil,List.all_cons,List.all_nil,List.map_cons,List.map_nil,apartAll,nestedAll,List.range'_succ,List.range'_zero,rowN,okN,Bool.and_true,Bool.true_and,fst_pt,inS,List.getD_cons_zero,beq_self_eq_true,Bool.true_or];cases ho:loopOk (o.map ptP) <;> cases ha:loopOk (a.map ptP) <;> try rfl
  rw [meetsB_eq ho ha];simp [Nat.zero_le]
 | [a,b] =>
  simp only [List.length_cons,List.length_nil,List.all_cons,List.all_nil,List.map_cons,List.map_nil,apartAll,nestedAll,List.range'_succ,List.range'_zero,rowN,okN,Bool.and_true,Bool.true_and,fst_pt,inS,List.getD_cons_zero,List.getD_cons_succ,beq_self_eq_true,Bool.true_or];cases ho:loopOk (o.map ptP) <;> cases ha:loopOk (a.map ptP) <;> cases hb:loopOk (b.map ptP) <;> try rfl
  rw [meetsB_eq ho ha,meetsB_eq ho hb,meetsB_eq ha hb];generalize apartB (o.map ptP) (a.map ptP)=t1;generalize apartB (o.map ptP) (b.map ptP)=t2;generalize apartB (a.map ptP) (b.map ptP)=t3;generalize (inOf (o.map ptP) (fstP a)==1)=t4;generalize (inOf (o.map ptP) (fstP b)==1)=t5;generalize (inOf (b.map ptP) (fstP a) == -1)=t6;generalize (inOf (a.map ptP) (fstP b) == -1)=t7;cases t1 <;> cases t2 <;> cases t3 <;> cases t4 <;> cases t5 <;> cases t6 <;> cases t7 <;> rfl
 | a::b::c::r =>
  rw [decide_eq_false (by simp only [List.length_cons];omega)];rfl
theorem good_of {o:List S37}{H:List (List S37)}(h:plateOk (pl o H)=true):PlateGood (pl o H):=(Mort.plateOk_iff _).1 h
theorem runIn_eq {o:List S37}{H:List (List S37)}(h:plateOk (pl o H)=true)(p:Mort.Pt):runIn p (inS o p) H=plateInOf (pl o H) p:=by
 obtain⟨s1,s2,s3⟩:=Mort.plateInOf_spec (good_of h) p;have gen:∀ (R:List (List S37)) (x:Int),runIn p x R=if (∃ z∈R,inS z p=0) then 0 else if (∃ z∈R,inS z p=1) then -1 else x:=by
  intro R
  induction R with
  | nil=>intro x;simp [runIn]
  | cons z R ih =>
   intro x;rw [runIn_cons,ih];by_cases h0:inS z p=0
   ·
    rw [if_pos h0,if_pos ⟨z,List.mem_cons_self,h0⟩]
   ·
    rw [if_neg h0];have e0:(∃ y∈z::R,inS y p=0) ↔ ∃ y∈R,inS y p=0:=by simp [h0]
    by_cases hR0:∃ y∈R,inS y p=0
    ·
     rw [if_pos hR0,if_pos (e0.2 hR0)]
    ·
     rw [if_neg hR0,if_neg (fun q=>hR0 (e0.1 q))];by_cases h1:inS z p=1
     ·
      rw [if_pos h1,if_pos (show ∃ y∈z::R,inS y p=1 from ⟨z,List.mem_cons_self,h1⟩)]
      split <;> rfl
     ·
      have e1:(∃ y∈z::R,inS y p=1) ↔ ∃ y∈R,inS y p=1:=by simp [h1]
      rw [if_neg h1];by_cases hR1:∃ y∈R,inS y p=1
      ·
       rw [if_pos hR1,if_pos (e1.2 hR1)]
      ·
       rw [if_neg hR1,if_neg (fun q=>hR1 (e1.1 q))]
 have mem:∀ z∈H,z.map ptP∈(pl o H).2:=fun z hz=>List.mem_map_of_mem hz
 rw [gen];by_cases h0:∃ z∈H,inS z p=0
 ·
  rw [if_pos h0];obtain⟨z,hz,e⟩:=h0;exact (s2 ⟨_,mem z hz,e⟩).1.symm
 ·
  rw [if_neg h0];have all0:∀ y∈(pl o H).2,inOf y p≠0:=by
   intro y hy e;obtain⟨z,hz,rfl⟩:=List.mem_map.1 hy;exact h0 ⟨z,hz,e⟩
  have ho:(pl o H).1=o.map ptP:=rfl;by_cases h1:∃ z∈H,inS z p=1
  ·
   rw [if_pos h1];obtain⟨z,hz,e⟩:=h1;have e':inOf (z.map ptP) p=1:=e;by_cases hq:inOf (pl o H).1 p=0
   ·
    have:=(s1 hq).2 _ (mem z hz);omega
   ·
    rw [s3 hq all0,if_neg];intro hh;have:=hh.2 _ (mem z hz);omega
  ·
   rw [if_neg h1];have allm:∀ y∈(pl o H).2,inOf y p = -1:=by
    intro y hy;have h2:=all0 y hy;obtain⟨z,hz,rfl⟩:=List.mem_map.1 hy
    rcases Mort.inOf_vals (z.map ptP) p with e | e | e
    ·
     exact absurd e h2
    ·
     exact absurd ⟨z,hz,e⟩ h1
    ·
     exact e
   show inOf (pl o H).1 p=_
   by_cases hq:inOf (pl o H).1 p=0
   ·
    rw [(s1 hq).1,hq]
   ·
    rw [s3 hq all0]
    rcases Mort.inOf_vals (pl o H).1 p with e | e | e
    ·
     exact absurd e hq
    ·
     rw [if_pos ⟨e,allm⟩,e]
    ·
     rw [if_neg (by omega),e]
theorem iPlateIn (o:List S37)(H:List (List S37))(x y:Int):impl_PlateIn.f o H x y=some (plateIn (pl o H) (x,y)):=by
 unfold impl_PlateIn.f plateIn;rw [iBodyOk]
 cases h:plateOk (pl o H) with
 | false=>rfl
 | true =>
  cases hp:ptOk (x,y) with
  | false=>rfl
  | true=>rw [runIn_eq h]
end Go.Proofs.YtailkppkjhkjpaaDoor.X
end
section
set_option linter.unusedVariables false
set_option linter.unusedSimpArgs false
namespace Go.Proofs.YtailkppkjhkjpaaDoor.X
open Go.RowKit Go.Proofs.YtailkppkjhkjpaaDoorW.PrintWords Go.Proofs.YtailkppkjhkjpaaDoorW.PrintLast Go.Proofs.YtailkppkjhkjpaaDoorW.PrintMore
open Mort (edges loopOk ptOk segOk has meet ed pairOk joined apartB plateOk plateInOf plateIn PlateGood inOf segMeet)
theorem fst_ok {z:List S37}(h:loopOk (z.map ptP)=true):ptOk ((rd_T37 z 0).f0,(rd_T37 z 0).f1)=true:=by
 obtain⟨h3,_,hok⟩:=ok_facts h;exact (seg_ends (hok 0 (by omega))).1
theorem sL3In {z:List S37}{x y:Int}(h:loopOk (z.map ptP)=true)(hp:ptOk (x,y)=true):spec_l3In.f z x y=some (inOf (z.map ptP) (x,y)):=by
 unfold spec_l3In.f;rw [if_pos ⟨h,hp⟩]
theorem sL3Fst {z a:List S37}(h:loopOk (z.map ptP)=true)(ha:loopOk (a.map ptP)=true):spec_l3In.f z (rd_T37 a 0).f0 (rd_T37 a 0).f1=some (inOf (z.map ptP) (fstP a)):=sL3In h (fst_ok ha)
def holeOk (o a:List S37):Bool:=loopOk (a.map ptP) && (inOf (o.map ptP) (fstP a)==1 && apartB (o.map ptP) (a.map ptP))
def pairH (a b:List S37):Bool:=apartB (a.map ptP) (b.map ptP) && (inOf (b.map ptP) (fstP a) == -1 && inOf (a.map ptP) (fstP b) == -1)
theorem plate_hole {o:List S37}{H:List (List S37)}(ho:loopOk (o.map ptP)=true)(i:Nat)(hi:i<H.length){k:Nat}(hk:300≤k):
  spec_PlateOk.l0 (k+2) (i:Int) o H=if holeOk o (rd_L5 H (i:Int)) then spec_PlateOk.l1 k (i:Int) (rd_L5 H (i:Int)) 0 o H else some false:=by
 simp only [spec_PlateOk.l0];rw [if_pos (by omega),if_pos (by omega),sLoopOk (by omega),Option.bind_some];generalize rd_L5 H (i:Int)=a;unfold holeOk
 cases ha:loopOk (a.map ptP) with
 | false=>rw [if_neg (by decide)];simp only [spec_PlateOk.j2];simp
 | true =>
  obtain⟨h3,_,_⟩:=ok_facts ha;rw [if_pos rfl,if_pos (by omega),sL3Fst ho ha,Option.bind_some];by_cases h1:inOf (o.map ptP) (fstP a)=1
  ·
   rw [if_pos h1,sApart (by omega) ho ha,Option.bind_some];simp only [spec_PlateOk.j2];rw [h1];cases apartB (o.map ptP) (a.map ptP) <;> simp
  ·
   rw [if_neg h1,beq_eq_false_iff_ne.2 h1];simp only [spec_PlateOk.j2];simp
theorem sPlateOk {k:Nat}(hk:1000≤k)(o:List S37)(H:List (List S37)):spec_PlateOk.f k o H=some (plateOk (pl o H)):=by
 unfold spec_PlateOk.f;rw [sLoopOk (by omega),Option.bind_some];obtain⟨k,rfl⟩:∃ q,k=q+10:=⟨k-10,by omega⟩
 cases ho:loopOk (o.map ptP) with
 | false =>
  rw [if_neg (by decide)];simp only [spec_PlateOk.j0];unfold plateOk pl;simp only;rw [ho];simp
 | true =>
  rw [if_pos rfl];by_cases h2:H.length≤2
  ·
   rw [decide_eq_false (by omega)];simp only [spec_PlateOk.j0];rw [if_neg (by decide)];unfold plateOk pl Mort.nested;simp only [List.length_map];rw [ho,decide_eq_true h2]
   match H,h2 with
   | [],_=>simp only [spec_PlateOk.l0];simp
   | [a],_ =>
    refine Eq.trans (show spec_PlateOk.l0 (k+9) 0 o [a]=_ from plate_hole (k:=k+7) ho 0 (by simp) (by omega)) ?_;have e1:spec_PlateOk.l1 (k+7) ((0:Nat):Int) a 0 o [a]=some true:=by
     simp only [spec_PlateOk.l1];rw [if_neg (by omega),show wrap64 (((0:Nat):Int)+1)=1 by unfold wrap64;omega];simp only [spec_PlateOk.l0];rw [if_neg (by simp)]
    show (if holeOk o a then spec_PlateOk.l1 (k+7) ((0:Nat):Int) a 0 o [a] else _)=_
    rw [e1];unfold holeOk;simp only [List.map_cons,List.map_nil,List.all_cons,List.all_nil,Bool.and_true,Bool.true_and,fst_pt];generalize loopOk (a.map ptP)=t1;generalize (inOf (o.map ptP) (fstP a)==1)=t2;generalize apartB (o.map ptP) (a.map ptP)=t3;cases t1 <;> cases t2 <;> cases t3 <;> rfl
   | [a,b],_ =>
    refine Eq.trans (show spec_PlateOk.l0 (k+9) 0 o [a,b]=_ from plate_hole (k:=k+7) ho 0 (by simp) (by omega)) ?_;have e1:spec_PlateOk.l1 (k+7) ((0:Nat):Int) a 0 o [a,b]=if holeOk o b then spec_PlateOk.l1 (k+4) ((1:Nat):Int) b 0 o [a,b] else some false:=by
     simp only [spec_PlateOk.l1];rw [if_neg (by omega),show wrap64 (((0:Nat):Int)+1)=((1:Nat):Int) by unfold wrap64;omega,plate_hole (k:=k+4) ho 1 (by simp) (by omega)];rfl
    show (if holeOk o a then spec_PlateOk.l1 (k+7) ((0:Nat):Int) a 0 o [a,b] else _)=_
    rw [e1];have hp:holeOk o a=true→holeOk o b=true→spec_PlateOk.l1 (k+4) ((1:Nat):Int) b 0 o [a,b]=some (pairH b a):=by
     intro h1 h2;have ha:loopOk (a.map ptP)=true:=by unfold holeOk at h1;cases h:loopOk (a.map ptP) with | true=>rfl | false=>rw [h] at h1;cases h1
     have hb:loopOk (b.map ptP)=true:=by unfold holeOk at h2;cases h:loopOk (b.map ptP) with | true=>rfl | false=>rw [h] at h2;cases h2
     obtain⟨a3,_,_⟩:=ok_facts ha;obtain⟨b3,_,_⟩:=ok_facts hb;simp only [spec_PlateOk.l1];rw [if_pos (by omega),if_pos (by omega),if_pos (by simp)];rw [show rd_L5 [a,b] 0=a from rfl,sApart (by omega) hb ha,Option.bind_some];unfold pairH
     cases apartB (b.map ptP) (a.map ptP) with
     | false=>rw [if_neg (by decide)];rfl
     | true =>
      rw [if_pos rfl,if_pos (by omega),sL3Fst ha hb,Option.bind_some];by_cases e1:inOf (a.map ptP) (fstP b) = -1
      ·
       rw [if_pos e1,if_pos (by omega),sL3Fst hb ha,Option.bind_some,e1];by_cases e2:inOf (b.map ptP) (fstP a) = -1
       ·
        rw [if_pos e2,e2];have hw0:wrap64 (0+1)=1:=by unfold wrap64;omega
        rw [hw0,if_neg (by omega)];have hw2:wrap64 (((1:Nat):Int)+1)=2:=by unfold wrap64;omega
        rw [hw2];simp only [spec_PlateOk.l0];rw [if_neg (by simp)];rfl
       ·
        rw [if_neg e2,beq_eq_false_iff_ne.2 e2];rfl
      ·
       rw [if_neg e1,beq_eq_false_iff_ne.2 e1];rfl
    have hc:=Mort.apartB_comm (a.map ptP) (b.map ptP);simp only [List.map_cons,List.map_nil,List.all_cons,List.all_nil,Bool.and_true,Bool.true_and,fst_pt]
    cases h1:holeOk o a with
    | false =>
     rw [if_neg (by decide)];unfold holeOk at h1;revert h1;generalize loopOk (a.map ptP)=t1;generalize (inOf (o.map ptP) (fstP a)==1)=t2;generalize apartB (o.map ptP) (a.map ptP)=t3;intro h1;cases t1 <;> cases t2 <;> cases t3 <;> simp at h1 ⊢
    | true =>
     rw [if_pos rfl]
     cases h2:holeOk o b with
     | false =>
      rw [if_neg (by decide)];unfold holeOk at h2;revert h2;generalize loopOk (b.map ptP)=t1;generalize (inOf (o.map ptP) (fstP b)==1)=t2;generalize apartB (o.map ptP) (b.map ptP)=t3;intro h2;cases t1 <;> cases t2 <;> cases t3 <;> simp at h2 ⊢
     | true =>
      rw [if_pos rfl,hp h1 h2];unfold holeOk at h1 h2;unfold pairH;rw [hc];simp only [Bool.and_eq_true] at h1 h2;rw [h1.1,h1.2.1,h1.2.2,h2.1,h2.2.1,h2.2.2];generalize apartB (b.map ptP) (a.map ptP)=t1;generalize (inOf (b.map ptP) (fstP a) == -1)=t2;generalize (inOf (a.map ptP) (fstP b) == -1)=t3;cases t1 <;> cases t2 <;> cases t3 <;> rfl
  ·
   rw [decide_eq_true (by omega)];simp only [spec_PlateOk.j0];unfold plateOk pl;simp only [List.length_map];rw [decide_eq_false h2];simp
theorem l11In_l0 {o:List S37}{H:List (List S37)}(hH:∀ z∈H,loopOk (z.map ptP)=true){x y:Int}(hp:ptOk (x,y)=true):
  ∀ (m i k:Nat) (u:Int),H.length-i=m→i≤H.length→m<k→H.length≤2→(-1≤u∧u≤1)→spec_l11In.l0 k u (i:Int) o H x y=some ((H.drop i).foldl (fun u z=>mn u (-inS z (x,y))) u):=by
 intro m
 induction m with
 | zero =>
  intro i k u hm hi hk h2 hu;obtain⟨k,rfl⟩:∃ q,k=q+1:=⟨k-1,by omega⟩;simp only [spec_l11In.l0];rw [if_neg (by omega),List.drop_of_length_le (by omega)];rfl
 | succ m ih =>
  intro i k u hm hi hk h2 hu;obtain⟨k,rfl⟩:∃ q,k=q+1:=⟨k-1,by omega⟩;simp only [spec_l11In.l0];have hlt:i<H.length:=by omega
  have hg:rd_L5 H (i:Int)=H[i]:=by show H.getD i []=_;rw [List.getD_eq_getElem?_getD,List.getElem?_eq_getElem hlt];rfl
  rw [if_pos (by omega),if_pos (by omega),hg,sL3In (hH _ (List.getElem_mem hlt)) hp,Option.bind_some,List.drop_eq_getElem_cons hlt,List.foldl_cons];have hv:=Mort.inOf_vals (H[i].map ptP) (x,y);have hw:wrap64 (-inOf (H[i].map ptP) (x,y)) = -inOf (H[i].map ptP) (x,y):=w64i (by omega) (by omega);rw [hw,succ64 (by omega),ih (i+1) k _ (by omega) (by omega) (by omega) h2 (by unfold mn;split <;> omega)];rfl
theorem sL11In {k:Nat}(hk:10≤k){o:List S37}{H:List (List S37)}(h:plateOk (pl o H)=true){x y:Int}(hp:ptOk (x,y)=true):spec_l11In.f k o H x y=some (plateInOf (pl o H) (x,y)):=by
 have g:=good_of h;have ho:loopOk (o.map ptP)=true:=g.outer;have hH:∀ z∈H,loopOk (z.map ptP)=true:=fun z hz=>g.holes _ (List.mem_map_of_mem hz)
 have h2:H.length≤2:=by have:=g.few;unfold pl at this;simpa using this
 unfold spec_l11In.f;rw [sL3In ho hp,Option.bind_some,show (0:Int)=((0:Nat):Int) from rfl,l11In_l0 hH hp H.length 0 k _ (by omega) (by omega) (by omega) h2 (by have:=Mort.inOf_vals (o.map ptP) (x,y);omega),List.drop_zero];obtain⟨s1,s2,s3⟩:=Mort.plateInOf_spec g (x,y);have gen:∀ (R:List (List S37)) (u:Int),(-1≤u∧u≤1)→R.foldl (fun u z=>mn u (-inS z (x,y))) u=if (∃ z∈R,inS z (x,y)=1) then -1 else if (∃ z∈R,inS z (x,y)=0) then (if u<0 then u else 0) else u:=by
  intro R
  induction R with
  | nil=>intro u _;simp
  | cons z R ih =>
   intro u hu;rw [List.foldl_cons];have hz:=Mort.inOf_vals (z.map ptP) (x,y);have hz':inS z (x,y)=0∨inS z (x,y)=1∨inS z (x,y) = -1:=hz;rw [ih _ (by unfold mn;split <;> omega)];have e1:(∃ w∈z::R,inS w (x,y)=1) ↔ inS z (x,y)=1∨∃ w∈R,inS w (x,y)=1:=by simp
   have e0:(∃ w∈z::R,inS w (x,y)=0) ↔ inS z (x,y)=0∨∃ w∈R,inS w (x,y)=0:=by simp
   have m1:inS z (x,y)=1→mn u (-inS z (x,y)) = -1:=fun e=>by rw [e];unfold mn;split <;> omega
   have m0:inS z (x,y)=0→mn u (-inS z (x,y))=if u<0 then u else 0:=fun e=>by rw [e];unfold mn;(repeat' split) <;> omega
   have mm:inS z (x,y) = -1→mn u (-inS z (x,y))=u:=fun e=>by rw [e];unfold mn;split <;> omega
   have mt:(if (if u<0 then u else 0)<0 then (if u<0 then u else 0) else 0)=if u<0 then u else 0:=by (repeat' split) <;> omega
   by_cases r1:∃ w∈R,inS w (x,y)=1
   ·
    rw [if_pos r1,if_pos (e1.2 (.inr r1))]
   ·
    rw [if_neg r1];by_cases r0:∃ w∈R,inS w (x,y)=0
    ·
     rw [if_pos r0]
     rcases hz' with z0 | z1 | zm
     ·
      rw [if_neg (fun q=>(e1.1 q).elim (by rw [z0];decide) r1),if_pos (e0.2 (.inr r0)),m0 z0,mt]
     ·
      rw [if_pos (e1.2 (.inl z1)),m1 z1];rfl
     ·
      rw [if_neg (fun q=>(e1.1 q).elim (by rw [zm];decide) r1),if_pos (e0.2 (.inr r0)),mm zm]
    ·
     rw [if_neg r0]
     rcases hz' with z0 | z1 | zm
     ·
      rw [if_neg (fun q=>(e1.1 q).elim (by rw [z0];decide) r1),if_pos (e0.2 (.inl z0)),m0 z0]
     ·
      rw [if_pos (e1.2 (.inl z1)),m1 z1]
     ·
      rw [if_neg (fun q=>(e1.1 q).elim (by rw [zm];decide) r1),if_neg (fun q=>(e0.1 q).elim (by rw [zm];decide) r0),mm zm]
 have hvo:=Mort.inOf_vals (o.map ptP) (x,y);have hoq:(pl o H).1=o.map ptP:=rfl;have mem:∀ z∈H,z.map ptP∈(pl o H).2:=fun z hz=>List.mem_map_of_mem hz
 rw [gen H _ (by omega)]
 congr 1
 by_cases q0:inOf (o.map ptP) (x,y)=0
 ·
  obtain⟨p1,p2⟩:=s1 q0;rw [if_neg (fun⟨z,hz,e⟩=>by have:=p2 _ (mem z hz);have e':inOf (z.map ptP) (x,y)=1:=e;omega),if_neg (fun⟨z,hz,e⟩=>by have:=p2 _ (mem z hz);have e':inOf (z.map ptP) (x,y)=0:=e;omega),p1,q0]
 ·
  by_cases r0:∃ z∈H,inS z (x,y)=0
  ·
   obtain⟨z,hz,e⟩:=r0;obtain⟨p1,p2⟩:=s2 ⟨_,mem z hz,e⟩;have hno:¬ ∃ w∈H,inS w (x,y)=1:=by
    rintro⟨w,hw,e1⟩;have hon:=(Mort.inOf_zero _ _).1 (show inOf (z.map ptP) (x,y)=0 from e);have e1':inOf (w.map ptP) (x,y)=1:=e1
    match H,h2,hz,hw,g with
    | [a],_,hz,hw,_=>simp only [List.mem_singleton] at hz hw;subst hz;subst hw;have e':inOf (w.map ptP) (x,y)=0:=e;omega
    | [a,b],_,hz,hw,g =>
     obtain⟨o1,o2⟩:=Mort.PlateGood.on_other g (a:=a.map ptP) (b:=b.map ptP) rfl (p:=(x,y));have e':inOf (z.map ptP) (x,y)=0:=e;simp only [List.mem_cons,List.not_mem_nil,or_false] at hz hw
     rcases hz with rfl | rfl <;> rcases hw with rfl | rfl
     ·
      omega
     ·
      have:=o1 hon;omega
     ·
      have:=o2 hon;omega
     ·
      omega
   have p2':inOf (o.map ptP) (x,y)=1:=p2;rw [if_neg hno,if_pos ⟨z,hz,e⟩,p1,p2',if_neg (by omega)]
  ·
   have all0:∀ y'∈(pl o H).2,inOf y' (x,y)≠0:=by
    intro y' hy e;obtain⟨z,hz,rfl⟩:=List.mem_map.1 hy;exact r0 ⟨z,hz,e⟩
   rw [s3 q0 all0];by_cases r1:∃ z∈H,inS z (x,y)=1
   ·
    rw [if_pos r1,if_neg];rintro⟨_,hh⟩;obtain⟨z,hz,e⟩:=r1;have:=hh _ (mem z hz);have e':inOf (z.map ptP) (x,y)=1:=e;omega
   ·
    rw [if_neg r1,if_neg r0];have allm:∀ y'∈(pl o H).2,inOf y' (x,y) = -1:=by
     intro y' hy;have h2:=all0 y' hy;obtain⟨z,hz,rfl⟩:=List.mem_map.1 hy
     rcases Mort.inOf_vals (z.map ptP) (x,y) with e | e | e
     ·
      exact absurd e h2
     ·
      exact absurd ⟨z,hz,e⟩ r1
     ·
      exact e
    rw [hoq]
    rcases hvo with e | e | e
    ·
     exact absurd e q0
    ·
     rw [if_pos ⟨e,allm⟩,e]
    ·
     rw [if_neg (by omega),e]
theorem sPlateIn {k:Nat}(hk:1000≤k)(o:List S37)(H:List (List S37))(x y:Int):spec_PlateIn.f k o H x y=some (plateIn (pl o H) (x,y)):=by
 unfold spec_PlateIn.f plateIn;rw [sPlateOk hk,Option.bind_some]
 cases h:plateOk (pl o H) with
 | false=>rw [if_neg (by decide)];rfl
 | true =>
  rw [if_pos rfl,sPtOk,Option.bind_some]
  cases hp:ptOk (x,y) with
  | false=>rw [if_neg (by decide)];rfl
  | true=>rw [if_pos rfl,sL11In (by omega) h hp];rfl
end Go.Proofs.YtailkppkjhkjpaaDoor.X
end
section
set_option linter.unusedVariables false
set_option linter.unusedSimpArgs false
namespace Go.Proofs.YtailkppkjhkjpaaDoor.X
open Go.RowKit Go.Proofs.YtailkppkjhkjpaaDoorW.PrintWords Go.Proofs.YtailkppkjhkjpaaDoorW.PrintLast Go.Proofs.YtailkppkjhkjpaaDoorW.PrintMore
def Tells {α:Type}(K:Nat)(f:Nat→Option α)(P:α→Prop):Prop:=∃ a,(∀ k,K≤k→f k=some a)∧P a
namespace Tells
variable {α β:Type} {K:Nat} {P:α→Prop} {Q:β→Prop}
theorem bind {f:Nat→Option α}{g:α→Nat→Option β}(h:Tells K f P)(hg:∀ a,P a→Tells K (g a) Q):Tells K (fun k=>(f k).bind fun a=>g a k) Q:=by
 obtain⟨a,h1,h2⟩:=h;obtain⟨b,h3,h4⟩:=hg a h2;exact⟨b,fun k hk=>by show (f k).bind _=_;rw [h1 k hk,Option.bind_some,h3 k hk],h4⟩
theorem ret (a:α)(h:P a):Tells K (fun _=>some a) P:=⟨a,fun _ _=>rfl,h⟩
theorem ite {c:Prop}[Decidable c]{f g:Nat→Option α}(h1:c→Tells K f P)(h2:¬ c→Tells K g P):Tells K (fun k=>if c then f k else g k) P:=by
 by_cases h:c
 ·
  obtain⟨a,e,p⟩:=h1 h;exact⟨a,fun k hk=>by show (if c then _ else _)=_;rw [if_pos h,e k hk],p⟩
 ·
  obtain⟨a,e,p⟩:=h2 h;exact⟨a,fun k hk=>by show (if c then _ else _)=_;rw [if_neg h,e k hk],p⟩
theorem guard {c:Prop}[Decidable c]{f:Nat→Option α}(h:c)(h1:Tells K f P):Tells K (fun k=>if c then f k else none) P:=ite (fun _=>h1) (fun n=>absurd h n)
theorem nay {c:Prop}[Decidable c]{f:Nat→Option α}(h:¬ c)(h1:Tells K f P):Tells K (fun k=>if c then none else f k) P:=ite (fun n=>absurd n h) (fun _=>h1)
theorem up {K':Nat}{f:Nat→Option α}(hk:K≤K')(h:Tells K f P):Tells K' f P:=by
 obtain⟨a,e,p⟩:=h;exact⟨a,fun k hk'=>e k (by omega),p⟩
theorem mono {P':α→Prop}{f:Nat→Option α}(h:Tells K f P)(hp:∀ a,P a→P' a):Tells K f P':=by
 obtain⟨a,e,p⟩:=h;exact⟨a,e,hp a p⟩
theorem succ {f g:Nat→Option α}(hf:∀ k,f (k+1)=g k)(h:Tells K g P):Tells (K+1) f P:=by
 obtain⟨a,e,p⟩:=h;refine⟨a,fun k hk=>?_,p⟩;obtain⟨k,rfl⟩:∃ q,k=q+1:=⟨k-1,by omega⟩;rw [hf,e k (by omega)]
theorem same {f g:Nat→Option α}(hf:∀ k,f k=g k)(h:Tells K g P):Tells K f P:=by
 obtain⟨a,e,p⟩:=h;exact⟨a,fun k hk=>by rw [hf,e k hk],p⟩
end Tells
section
variable {l:List Int} (hl:Bytes l)
include hl
theorem tPick {K:Nat}(hK:1≤K){p n:Int}(hp:0≤p)(hp':p≤1000000)(hn:1≤n)(hn':n≤1000000):Tells K (fun k=>spec_l6Rd_pick.f k l p n) fun a=>0≤a.1∧a.1<n∧a.2=p+1:=by
 obtain⟨r,h1,h2,h3⟩:=pick_told hl hp hp' hn hn';exact⟨(r,p+1),fun k hk=>h1 k (by omega),h2,h3,rfl⟩
theorem tPt {K:Nat}(hK:1≤K){p:Int}(hp:0≤p)(hp':p≤900000):Tells K (fun k=>spec_l71Pt.f k l p) fun a=>p≤a.2.2∧a.2.2≤p+10:=by
 unfold spec_l71Pt.f;refine Tells.bind (tPick hl hK hp (by omega) (by omega) (by omega)) ?_;rintro⟨r1,q1⟩ ⟨a1,b1,c1⟩;simp only at a1 b1 c1 ⊢
 refine Tells.bind (tPick hl hK (by omega) (by omega) (by omega) (by omega)) ?_;rintro⟨r2,q2⟩ ⟨a2,b2,c2⟩;simp only at a2 b2 c2 ⊢
 refine Tells.bind (tPick hl hK (by omega) (by omega) (by omega) (by omega)) ?_;rintro⟨r3,q3⟩ ⟨a3,b3,c3⟩;simp only at a3 b3 c3 ⊢
 refine Tells.ite (fun h=>?_) (fun h=>Tells.ite (fun h'=>?_) (fun h'=>?_))
 ·
  refine Tells.bind (Tells.ret (P:=fun a=>a=[(-1),10]) _ rfl) ?_;rintro y rfl;refine Tells.bind (tPick hl hK (by omega) (by omega) (by omega) (by omega)) ?_;rintro⟨r4,q4⟩ ⟨a4,b4,c4⟩;simp only at a4 b4 c4 ⊢
  exact Tells.guard (by omega) (Tells.guard (by simpa using b4) (Tells.ret _ (by simp only;omega)))
 ·
  refine Tells.bind (Tells.ret (P:=fun a=>a=[(-1),10]) _ rfl) ?_;rintro y rfl;refine Tells.bind (tPick hl hK (by omega) (by omega) (by omega) (by omega)) ?_;rintro⟨r4,q4⟩ ⟨a4,b4,c4⟩;simp only at a4 b4 c4 ⊢
  exact Tells.guard (by omega) (Tells.guard (by simpa using b4) (Tells.ret _ (by simp only;omega)))
 ·
  exact Tells.ret _ (by simp only;omega)
theorem tBox {K:Nat}(hK:1≤K){p a1 a2 a3 a4:Int}(hp:0≤p)(hp':p≤900000):Tells K (fun k=>spec_l71Box.f k l p a1 a2 a3 a4) fun a=>(3≤a.1.length∧a.1.length≤6)∧p≤a.2∧a.2≤p+10:=by
 unfold spec_l71Box.f;refine Tells.bind (Tells.ret (P:=fun a=>a.length=4) _ rfl) ?_;intro y hy;have hy':(y.length:Int)=4:=by omega
 refine Tells.bind (tPick hl hK hp (by omega) (by omega) (by omega)) ?_;rintro⟨r1,q1⟩ ⟨a1,b1,c1⟩;simp only at a1 b1 c1 ⊢
 rw [hy']
 repeat' first
  | (refine Tells.ret _ ⟨⟨?_,?_⟩,?_,?_⟩ <;> first | omega | (simp;done) | (simp [hy];done) | (simp only [List.length_take];omega))
  | (refine Tells.guard (by omega) ?_)
  | (refine Tells.ite (fun _=>?_) (fun _=>?_))
theorem tLoopL {K:Nat}(hK:1≤K):∀ (m:Nat) (z:List S37) (i p:Int),i<m → -1≤i→i≤100→3≤z.length→z.length≤1000→0≤p→p+10*m≤900000→Tells (K+m+1) (fun k=>spec_l71Loop.l0 k z i l p) fun a=>a.1.length=z.length∧p≤a.2∧a.2≤p+10*m:=by
 intro m
 induction m with
 | zero =>
  intro z i p hm hi hi' hz hz' hp hp';refine Tells.succ (fun k=>by simp only [spec_l71Loop.l0];exact rfl) ?_;exact Tells.ite (fun h=>by omega) (fun _=>Tells.ret _ ⟨rfl,Int.le_refl _,by show p≤p+10*_;omega⟩)
 | succ m ih =>
  intro z i p hm hi hi' hz hz' hp hp';refine Tells.succ (K:=K+(m+1)) (fun k=>by simp only [spec_l71Loop.l0];exact rfl) ?_;refine Tells.ite (fun h=>?_) (fun _=>Tells.ret _ ⟨rfl,Int.le_refl _,by show p≤p+10*_;omega⟩);refine Tells.nay (by omega) ?_;refine Tells.bind (tPt hl (by omega) hp (by omega)) ?_;rintro⟨x,y,q⟩ ⟨h1,h2⟩;simp only at h1 h2 ⊢
  have t1:0≤Int.tmod i z.length:=Int.tmod_nonneg _ (by omega);have t2:Int.tmod i z.length<z.length:=Int.tmod_lt_of_pos _ (by omega);refine Tells.guard t1 (Tells.guard t2 ?_);refine Tells.mono (ih _ (wrap64 (i-1)) q (by unfold wrap64;omega) (by unfold wrap64;omega) (by unfold wrap64;omega) (by rw [List.length_set];omega) (by rw [List.length_set];omega) (by omega) (by omega)) ?_;rintro⟨b,u⟩ ⟨g1,g2,g3⟩;rw [List.length_set] at g1;simp only at g1 g2 g3 ⊢
  omega
theorem tLoop {K:Nat}(hK:20≤K){p:Int}(hp:0≤p)(hp':p≤800000):Tells K (fun k=>spec_l71Loop.f k l p) fun a=>a.1.length≤100∧p≤a.2∧a.2≤p+200:=by
 unfold spec_l71Loop.f;refine Tells.bind (tPick hl (by omega) hp (by omega) (by omega) (by omega)) ?_;rintro⟨r1,q1⟩ ⟨a1,b1,c1⟩;simp only at a1 b1 c1 ⊢
 refine Tells.bind (tPick hl (by omega) (by omega) (by omega) (by omega) (by omega)) ?_;rintro⟨r2,q2⟩ ⟨a2,b2,c2⟩;simp only at a2 b2 c2 ⊢
 refine Tells.bind (tPick hl (by omega) (by omega) (by omega) (by unfold wrap64;omega) (by unfold wrap64;omega)) ?_;rintro⟨r3,q3⟩ ⟨a3,b3,c3⟩;simp only at a3 b3 c3 ⊢
 refine Tells.bind (tPick hl (by omega) (by omega) (by omega) (by unfold wrap64;omega) (by unfold wrap64;omega)) ?_;rintro⟨r4,q4⟩ ⟨a4,b4,c4⟩;simp only at a4 b4 c4 ⊢
 refine Tells.bind (tBox hl (by omega) (by omega) (by omega)) ?_;rintro⟨z,q5⟩ ⟨⟨a5,b5⟩,c5,d5⟩;simp only at a5 b5 c5 d5 ⊢
 refine Tells.bind (tPick hl (by omega) (by omega) (by omega) (by omega) (by omega)) ?_;rintro⟨r6,q6⟩ ⟨a6,b6,c6⟩;simp only at a6 b6 c6 ⊢
 refine Tells.ite (fun _=>?_) (fun _=>Tells.ite (fun _=>?_) (fun _=>Tells.ite (fun _=>?_) (fun _=>?_)))
 ·
  refine Tells.bind (tPt hl (by omega) (by omega) (by omega)) ?_;rintro⟨x,y,q⟩ ⟨h1,h2⟩;simp only at h1 h2 ⊢
  exact Tells.guard (by omega) (Tells.ret _ (by simp only [List.length_append,List.length_cons,List.length_nil];omega))
 ·
  refine Tells.bind (tPick hl (by omega) (by omega) (by omega) (by omega) (by omega)) ?_;rintro⟨r7,q7⟩ ⟨a7,b7,c7⟩;simp only at a7 b7 c7 ⊢
  refine Tells.bind (tPt hl (by omega) (by omega) (by omega)) ?_;rintro⟨x,y,q⟩ ⟨h1,h2⟩;simp only at h1 h2 ⊢
  exact Tells.guard (by omega) (Tells.guard (by omega) (Tells.ret _ (by simp only [List.length_set];omega)))
 ·
  refine Tells.bind (tPick hl (by omega) (by omega) (by omega) (by omega) (by omega)) ?_;rintro⟨r7,q7⟩ ⟨a7,b7,c7⟩;simp only at a7 b7 c7 ⊢
  refine Tells.up (K:=1+7+1) (by omega) (Tells.mono (tLoopL hl (K:=1) (by omega) 7 z r7 q7 (by omega) (by omega) (by omega) (by omega) (by omega) (by omega) (by omega)) ?_);rintro⟨b,u⟩ ⟨g1,g2,g3⟩;simp only at g1 g2 g3 ⊢
  omega
 ·
  exact Tells.ret _ (by simp only;omega)
end
section
variable {l:List Int} (hl:Bytes l)
include hl
theorem tGoodL {K:Nat}(hK:1000≤K):∀ (m:Nat) (x3 x4 x5 x6 i p:Int) (o:List S37) (H:List (List S37)),i≤m→i≤100→(0≤x3∧x3≤20)→(0≤x4∧x4≤20)→(3≤x5∧x5≤20)→(3≤x6∧x6≤20)→H.length+m≤100→o.length≤100→0≤p→p+20*m≤900000 →
  Tells (K+m+1) (fun k=>spec_l71Good.l0 k x3 x4 x5 x6 i l p o H) fun a=>a.1.length≤100∧a.2.1.length≤100∧p≤a.2.2∧a.2.2≤p+20*m:=by
 intro m
 induction m with
 | zero =>
  intro x3 x4 x5 x6 i p o H hm hi h3 h4 h5 h6 hH ho hp hp';refine Tells.succ (fun k=>by simp only [spec_l71Good.l0];exact rfl) ?_;exact Tells.ite (fun h=>by omega) (fun _=>Tells.ret _ ⟨ho,by show H.length≤100;omega,Int.le_refl _,by show p≤p+20*_;omega⟩)
 | succ m ih =>
  intro x3 x4 x5 x6 i p o H hm hi h3 h4 h5 h6 hH ho hp hp';refine Tells.succ (K:=K+(m+1)) (fun k=>by simp only [spec_l71Good.l0];exact rfl) ?_;refine Tells.ite (fun h=>?_) (fun _=>Tells.ret _ ⟨ho,by show H.length≤100;omega,Int.le_refl _,by show p≤p+20*_;omega⟩);refine Tells.bind (tPick hl (by omega) hp (by omega) (by unfold wrap64;omega) (by unfold wrap64;omega)) ?_;rintro⟨r1,q1⟩ ⟨a1,b1,c1⟩;simp only at a1 b1 c1 ⊢
  refine Tells.bind (tPick hl (by omega) (by omega) (by omega) (by unfold wrap64;omega) (by unfold wrap64;omega)) ?_;rintro⟨r2,q2⟩ ⟨a2,b2,c2⟩;simp only at a2 b2 c2 ⊢
  refine Tells.bind (tPick hl (by omega) (by omega) (by omega) (by omega) (by omega)) ?_;rintro⟨r3,q3⟩ ⟨a3,b3,c3⟩;simp only at a3 b3 c3 ⊢
  refine Tells.bind (tPick hl (by omega) (by omega) (by omega) (by omega) (by omega)) ?_;rintro⟨r4,q4⟩ ⟨a4,b4,c4⟩;simp only at a4 b4 c4 ⊢
  refine Tells.bind (tBox hl (by omega) (by omega) (by omega)) ?_;rintro⟨z,q5⟩ ⟨_,c5,d5⟩;simp only at c5 d5 ⊢
  refine Tells.bind (Tells.ret (P:=fun a=>a=[]) _ rfl) ?_;rintro y rfl;refine Tells.guard (by simp;omega) ?_;refine Tells.bind (Tells.ret (P:=fun a=>a=H) _ rfl) ?_;rintro y rfl;refine Tells.guard (by omega) ?_;refine Tells.bind (Tells.ret (P:=fun a=>a.length=y.length+1) _ (by simp)) ?_;intro y2 hy2;refine Tells.bind (P:=fun _=>True) ⟨_,fun k hk=>sPlateOk (by omega) o y2,trivial⟩ ?_;intro t _;have hw:wrap64 (i-1)=i-1:=w64i (by omega) (by omega);by_cases hneg:0≤i
  ·
   rw [hw];refine Tells.ite (fun _=>?_) (fun _=>?_)
   ·
    refine Tells.mono (ih x3 x4 x5 x6 (i-1) q5 o y2 (by omega) (by omega) h3 h4 h5 h6 (by omega) ho (by omega) (by omega)) ?_;rintro⟨u1,u2,u3⟩ ⟨g1,g2,g3,g4⟩;simp only at g1 g2 g3 g4 ⊢
    omega
   ·
    refine Tells.mono (ih x3 x4 x5 x6 (i-1) q5 o y (by omega) (by omega) h3 h4 h5 h6 (by omega) ho (by omega) (by omega)) ?_;rintro⟨u1,u2,u3⟩ ⟨g1,g2,g3,g4⟩;simp only at g1 g2 g3 g4 ⊢
    omega
  ·
   omega
theorem tGood {K:Nat}(hK:1010≤K){p:Int}(hp:0≤p)(hp':p≤800000):Tells K (fun k=>spec_l71Good.f k l p) fun a=>a.1.length≤100∧a.2.1.length≤100∧p≤a.2.2∧a.2.2≤p+100:=by
 unfold spec_l71Good.f;refine Tells.bind (tPick hl (by omega) hp (by omega) (by omega) (by omega)) ?_;rintro⟨r1,q1⟩ ⟨a1,b1,c1⟩;simp only at a1 b1 c1 ⊢
 refine Tells.bind (tPick hl (by omega) (by omega) (by omega) (by omega) (by omega)) ?_;rintro⟨r2,q2⟩ ⟨a2,b2,c2⟩;simp only at a2 b2 c2 ⊢
 refine Tells.bind (tPick hl (by omega) (by omega) (by omega) (by unfold wrap64;omega) (by unfold wrap64;omega)) ?_;rintro⟨r3,q3⟩ ⟨a3,b3,c3⟩;have b3':r3<9-r1-3:=by
  have e:wrap64 (wrap64 (9-r1)-3)=9-r1-3:=by unfold wrap64;omega
  simp only at b3;omega
 simp only at a3 c3 ⊢
 refine Tells.bind (tPick hl (by omega) (by omega) (by omega) (by unfold wrap64;omega) (by unfold wrap64;omega)) ?_;rintro⟨r4,q4⟩ ⟨a4,b4,c4⟩;have b4':r4<9-r2-3:=by
  have e:wrap64 (wrap64 (9-r2)-3)=9-r2-3:=by unfold wrap64;omega
  simp only at b4;omega
 simp only at a4 c4 ⊢
 have e1:wrap64 (4+r3)=4+r3:=w64i (by omega) (by omega);have e2:wrap64 (4+r4)=4+r4:=w64i (by omega) (by omega);rw [e1,e2];refine Tells.bind (tBox hl (by omega) (by omega) (by omega)) ?_;rintro⟨z,q5⟩ ⟨⟨_,z5⟩,c5,d5⟩;simp only at z5 c5 d5 ⊢
 refine Tells.bind (tPick hl (by omega) (by omega) (by omega) (by omega) (by omega)) ?_;rintro⟨r6,q6⟩ ⟨a6,b6,c6⟩;simp only at a6 b6 c6 ⊢
 refine Tells.up (K:=1000+2+1) (by omega) (Tells.mono (tGoodL hl (K:=1000) (by omega) 2 r1 r2 (4+r3) (4+r4) r6 q6 z [] (by omega) (by omega) (by omega) (by omega) (by omega) (by omega) (by simp) (by omega) (by omega) (by omega)) ?_);rintro⟨u1,u2,u3⟩ ⟨g1,g2,g3,g4⟩;simp only at g1 g2 g3 g4 ⊢
 omega
theorem tPlate {K:Nat}(hK:1010≤K){p:Int}(hp:0≤p)(hp':p≤700000):Tells K (fun k=>spec_l71Plate.f k l p) fun a=>p≤a.2.2∧a.2.2≤p+1000:=by
 unfold spec_l71Plate.f;refine Tells.bind (tGood hl hK hp (by omega)) ?_;rintro⟨o,H,q⟩ ⟨g1,g2,g3,g4⟩;simp only at g1 g2 g3 g4 ⊢
 refine Tells.bind (tPick hl (by omega) (by omega) (by omega) (by omega) (by omega)) ?_;rintro⟨r1,q1⟩ ⟨a1,b1,c1⟩;simp only at a1 b1 c1 ⊢
 refine Tells.ite (fun _=>?_) (fun _=>Tells.ite (fun _=>?_) (fun _=>Tells.ite (fun _=>?_) (fun _=>?_)))
 ·
  refine Tells.bind (tLoop hl (by omega) (by omega) (by omega)) ?_;rintro⟨z,q2⟩ ⟨h1,h2,h3⟩;simp only at h1 h2 h3 ⊢
  exact Tells.ret _ (by simp only;omega)
 ·
  refine Tells.bind (tLoop hl (by omega) (by omega) (by omega)) ?_;rintro⟨z,q2⟩ ⟨h1,h2,h3⟩;simp only at h1 h2 h3 ⊢
  exact Tells.guard (by omega) (Tells.ret _ (by simp only;omega))
 ·
  refine Tells.bind (Tells.ret (P:=fun a=>a=[]) _ rfl) ?_;rintro y rfl;refine Tells.guard (by simp;omega) ?_;refine Tells.bind (Tells.ret (P:=fun a=>a=o) _ rfl) ?_;rintro y rfl;refine Tells.bind (tPt hl (by omega) (by omega) (by omega)) ?_;rintro⟨x,y',q2⟩ ⟨h1,h2⟩;simp only at h1 h2 ⊢
  exact Tells.guard (by omega) (Tells.ret _ (by simp only;omega))
 ·
  exact Tells.ret _ (by simp only;omega)
end
theorem tPlatePt {m:List Int}(hm:Bytes m):Tells 400000 (fun k=>(spec_l71Plate.f k m 0).bind fun bt=>((spec_l71Pt.f k m bt.2.2).bind fun bp=>(some (bt.1,bt.2.1,bp.1,bp.2.1)))) fun _=>True:=by
 refine Tells.bind (tPlate hm (by omega) (by omega) (by omega)) ?_;rintro⟨o,H,q⟩ ⟨g3,g4⟩;simp only at g3 g4 ⊢
 refine Tells.bind (tPt hm (by omega) (by omega) (by omega)) ?_;rintro⟨x,y,q2⟩ _;exact Tells.ret _ trivial
theorem drawPlateIn (l:List Int)(h:∀ x∈l,(Lit.int .u8 x).wf=true):∃ o H x y,∀ k,400000≤k→spec_DrawPlateIn.f k l=some (o,H,x,y):=by
 obtain⟨m,hm,hb⟩:=open_told l h;obtain⟨⟨o,H,x,y⟩,ht,_⟩:=tPlatePt hb;exact⟨o,H,x,y,fun k hk=>by unfold spec_DrawPlateIn.f;rw [hm,Option.bind_some];exact ht k hk⟩
end Go.Proofs.YtailkppkjhkjpaaDoor.X
end
section
set_option linter.unusedVariables false
set_option linter.unusedSimpArgs false
namespace Go.Proofs.YtailkppkjhkjpaaDoor.Pure
open Go.RowKit Go.Proofs.YtailkppkjhkjpaaDoor.X Go.Proofs.YtailkppkjhkjpaaDoorW.PrintWords Go.Proofs.YtailkppkjhkjpaaDoorW.PrintLast
open Mort (ptOk plateOk plateIn loopOk inOf)
theorem bare_ok {o:List S37}{H:List (List S37)}(h:bodyOkB o H=true):bodyOkB o []=true:=by
 obtain⟨_,h1,_,_,_⟩:=(bodyOkB_iff o H).1 h;refine (bodyOkB_iff o []).2 ⟨by simp,h1,by simp,?_,?_⟩
 ·
  simp [apartAll]
 ·
  simp [nestedAll]
theorem bare_plate {o:List S37}{H:List (List S37)}(h:plateOk (pl o H)=true):plateOk (pl o [])=true:=by
 rw [← iBodyOk] at h ⊢
 exact bare_ok h
theorem bare_in {o:List S37}{H:List (List S37)}{p:Mort.Pt}(h:plateOk (pl o H)=true)(hp:ptOk p=true):plateIn (pl o []) p=inOf (o.map ptP) p:=by
 unfold plateIn;rw [bare_plate h,hp,if_pos (by decide)];unfold Mort.plateInOf Mort.plateOn Mort.plateInB;have e1:(pl o []).1=o.map ptP:=rfl;have e2:(pl o []).2=[]:=rfl;rw [e1,e2];simp only [List.any_nil,Bool.or_false,List.all_nil,Bool.and_true];by_cases hb:Mort.onB (o.map ptP) p=true
 ·
  rw [if_pos hb];exact ((Mort.inOf_zero _ _).2 hb).symm
 ·
  rw [if_neg hb]
  rcases Mort.inOf_vals (o.map ptP) p with e | e | e
  ·
   exact absurd ((Mort.inOf_zero _ _).1 e) hb
  ·
   rw [e];rfl
  ·
   rw [e];rfl
theorem loop_in {o:List S37}{H:List (List S37)}{x y:Int}(h:plateOk (pl o H)=true)(hp:ptOk (x,y)=true):impl_LoopIn.f o x y=some (inOf (o.map ptP) (x,y)):=by
 have hl:loopOk (o.map ptP)=true:=by rw [← iBodyOk] at h;exact ((bodyOkB_iff o H).1 h).2.1
 unfold impl_LoopIn.f impl_LoopOk.f impl_insideOf.f;rw [Option.bind_some,if_pos hl,iPtOk,Option.bind_some,if_pos hp,if_pos ⟨hl,hp⟩];rfl
theorem in_le {o:List S37}{H:List (List S37)}{p:Mort.Pt}(h:plateOk (pl o H)=true)(hp:ptOk p=true):inOf (o.map ptP) p≥plateIn (pl o H) p:=by
 have g:=good_of h;unfold plateIn;rw [h,hp,if_pos (by decide)];unfold Mort.plateInOf;have e1:(pl o H).1=o.map ptP:=rfl;by_cases h1:Mort.plateOn (pl o H) p=true
 ·
  rw [if_pos h1];unfold Mort.plateOn at h1;rw [Bool.or_eq_true,List.any_eq_true] at h1
  rcases h1 with h1 | ⟨z,hz,h1⟩
  ·
   rw [(Mort.inOf_zero _ _).2 (by rw [← e1];exact h1)];exact Int.le_refl _
  ·
   have:=g.on_hole hz h1;rw [e1] at this;rw [this];decide
 ·
  rw [if_neg h1];by_cases h2:Mort.plateInB (pl o H) p=true
  ·
   rw [if_pos h2];unfold Mort.plateInB at h2;rw [Bool.and_eq_true,beq_iff_eq,e1] at h2;rw [h2.1];decide
  ·
   rw [if_neg h2]
   rcases Mort.inOf_vals (o.map ptP) p with e | e | e <;> rw [e] <;> decide
theorem texts {o:List S37}{H:List (List S37)}(h:plateOk (pl o H)=true):impl_PlateText.f o []=some (textOf o++(⟨#[10]⟩:ByteArray))∧impl_LoopText.f o=some (textOf o)∧(textOf o).size≤31:=by
 have hb:bodyOkB o []=true:=by rw [iBodyOk];exact bare_plate h
 have hl:loopOk (o.map ptP)=true:=((bodyOkB_iff o []).1 hb).2.1;have hn:=loop_len hl;refine⟨?_,?_,textOf_len (by omega) hn.2⟩
 ·
  unfold impl_PlateText.f;rw [hb,if_pos rfl]
  congr 1
  apply ByteArray.ext;rw [ByteArray.data_append];unfold linesOf Txt.wrLines textOf;simp
 ·
  unfold impl_LoopText.f impl_LoopOk.f;rw [Option.bind_some,if_pos hl,loop_pts hl];rfl
theorem FnPlateLoop:laws_FnPlateLoop.Pure:=by
 intro l _ _ hw;obtain⟨o,H,x,y,hd⟩:=drawPlateIn l hw;refine⟨400000+1,?_⟩;unfold laws_FnPlateLoop.f
 split
 ·
  rfl
 rw [hd _ (by omega)];simp only [Option.bind_some];rw [iPlateIn,Option.bind_some,sPlateIn (by omega),Option.bind_some,if_pos rfl,sPlateOk (by omega),Option.bind_some];have bad:laws_FnPlateLoop.j0 (400000+1) (plateIn (pl o H) (x,y)) true o H x y=some true:=by
  simp only [laws_FnPlateLoop.j0,if_true];rw [sPlateIn (by omega),Option.bind_some];simp
 by_cases hk:plateOk (pl o H)=true
 ·
  rw [if_pos hk,sPtOk,Option.bind_some];by_cases hp:ptOk (x,y)=true
  ·
   rw [hp];simp only [Bool.not_true,laws_FnPlateLoop.j0];obtain⟨t1,t2,t3⟩:=texts hk;rw [if_neg (by decide),iPlateIn,Option.bind_some,loop_in hk hp,Option.bind_some,if_pos (bare_in hk hp),t1,Option.bind_some,t2,Option.bind_some,if_pos (by omega),if_pos rfl,Option.bind_some,bare_in hk hp,decide_eq_true (in_le hk hp)]
  ·
   rw [Bool.not_eq_true] at hp;rw [hp];exact bad
 ·
  rw [if_neg hk];exact bad
end Go.Proofs.YtailkppkjhkjpaaDoor.Pure
end
section
namespace Go.Proofs.YtailkppkjhkjpaaDoorW.PrintWords
open Go.ChangeShapes Go.WideShapes
theorem sized_ints {H:Type}{enc:TypeId × Value→H}{P:Program}{W:World}{base:Nat}{spare:Nat→Bool}{held:Bool}{t e:TypeId}{k:IntKind}{a:Option Addr}{len cap:Nat}{d:DataW H}{ps:List MemPlace}{ts:List TypeId}{ds:List (DataW H)}{j:Nat}
  (hsz:(DataW.weightsEach P ts ds).all (· ≤ reachBytes)=true) (ht:ts[j]?=some t) (hd:ds[j]?=some d) (hu:P.underlying t=some (.slice e)) (he:P.underlying e=some (.int k)) (hc:P.cellsOf e=1) {B:Nat} (hB:P.bytesOf e=B)
  (h:DataW.Trod enc P W base spare held t (.slice a len cap) d ps):len*B≤140737488351232:=by
 obtain⟨fuel,hf⟩:=h
 rcases open_ints hu he hc hf with ⟨hcs,_⟩ | ⟨x,l,c,zs,hcs,_,hl,_,hz,hx,_,_⟩
 ·
  simp [Value.cells] at hcs;obtain⟨rfl,rfl,rfl⟩:=hcs;simp
 ·
  simp [Value.cells] at hcs;obtain⟨rfl,rfl,rfl⟩:=hcs;obtain⟨hx,_⟩:=Prod.mk.inj hx;subst hx;have z:=sized_slice hsz ht hd hu;rw [hB] at z;have hl2:len≤zs.length:=by
   rw [hz]
   split
   ·
    exact hl
   ·
    exact Nat.le_refl _
  have h1:(lits (H:=H) k (zs.take len)).length+(lits (H:=H) k (zs.drop len)).length=zs.length:=by
   simp [lits];omega
  rw [h1] at z;exact Nat.le_trans (Nat.mul_le_mul_right _ hl2) z
end Go.Proofs.YtailkppkjhkjpaaDoorW.PrintWords
end
section
set_option linter.unusedVariables false
namespace Go.Proofs.YtailkppkjhkjpaaDoor.fnPlateLoop
open Go Go.ChangeShapes Go.WideShapes Go.ChangeAt Go.RowKit Go.Proofs.YtailkppkjhkjpaaDoorW
open Go.ChangeMaps (open_string shut_string)
def IsRow (k:IntKind)(w:World)(a:Option Addr)(len cap:Nat)(zs:List Int):Prop:=
 (a=none∧len=0∧cap=0∧zs=[]) ∨
 ∃ x,a=some x∧len≤cap∧cap≤maxLen∧zs.length=cap∧(∀ i,i<zs.length→w.cell? (x.add i)=some (.int k (zs.getD i 0)))∧∀ n∈zs,(Lit.int k n).wf=true
set_option maxRecDepth 100000 in
theorem lifted (os:Os)(started:os.Started)(H:Type)(enc:TypeId × Value→H):
  ReturnsInHanded {} Tryd.checked os 5 .any (fun w args=>(Rows.fnPlateLoopSpec.pre enc Tryd.prog Tryd.f5 [] false w args∧laidMet Tryd.prog Rows.fnPlateLoopRow.laid w)∧sizedMet enc Tryd.prog Tryd.f5 (OpenSpec.ofChange Rows.fnPlateLoopSpec) false w args) (Rows.fnPlateLoopSpec.post enc Tryd.prog Tryd.f5 false true false false):=by
 refine returnsInHanded_of_change_and (C:=Tryd.checked) (X:=fun w _=>laidMet Tryd.prog Rows.fnPlateLoopRow.laid w) (fun _ _ _ hh h=>h.of_heap hh) own started (by kernel_rfl) Tryd.func5
  (ChangeSpec.witness_at (enc:=enc) (C:=Tryd.checked) (os:=os) (X:=fun w _=>laidMet Tryd.prog Rows.fnPlateLoopRow.laid w) false (laidWorld os) #[.slice none 0 0] 8 rfl (by kernel_rfl) (by kernel_rfl) (by kernel_rfl) (by kernel_rfl) (by kernel_rfl) (loop_met os _)) ?_
 intro W base args ds gs before hval0 hW hcnd hsz0 hL _;have hsz:(DataW.weightsEach Tryd.prog (Tryd.f5.params.toList++Rows.fnPlateLoopSpec.plain.varTypes Tryd.prog) (ds++gs)).all (· ≤ reachBytes)=true:=hsz0;have hval:∀ (j:Nat) t v,Tryd.f5.params[j]?=some t→args[j]?=some v→Value.okWide Tryd.prog W .any base t v:=hval0;have hW':=hW;obtain⟨p,q,hA0,hV0,rfl,hfz,hnd⟩:=hW;have hA:DataW.TrodAll enc Tryd.prog W 0 (fun _=>true) true Tryd.f5.params.toList args.toList ds p:=hA0;have hV:DataW.TrodVars enc Tryd.prog W (fun _=>true) [] gs q:=hV0;rw [Tryd.params5] at hA hval hsz;obtain⟨v0,vs0,d0,ds0,p0,q0,hargs,rfl,rfl,h0,r0⟩:=trodAll_cons hA;obtain⟨rfl,rfl,rfl⟩:=trodAll_nil r0;obtain rfl:args=#[v0]:=by cases args;simp_all
 obtain⟨rfl,rfl⟩:gs=[]∧q=[]:=by
  cases gs with
  | nil=>exact⟨rfl,hV⟩
  | cons _ _=>exact hV.elim
 obtain⟨a0,len0,cap0,rfl⟩:=okWide_slice Tryd.underlying22 (hval 0 22 v0 rfl rfl);have k0:=h0;have lt0:∀ x∈p0,x.block<W.heap.size:=by obtain⟨m,hm⟩:=k0;exact DataW.trod_lt m _ _ _ hm
 obtain⟨z0,w0⟩:∃ zs,IsRow .u8 W a0 len0 cap0 zs:=by
  obtain⟨fuel,hf⟩:=h0
  rcases open_ints Tryd.underlying22 Tryd.underlying5 (by kernel_rfl) hf with ⟨hcs,_⟩ | ⟨x,l,c,zs,hcs,_,hl,hm,hz,_,hcell,hwz⟩
  ·
   simp [Value.cells] at hcs;obtain⟨rfl,rfl,rfl⟩:=hcs;exact⟨[],.inl ⟨rfl,rfl,rfl,rfl⟩⟩
  ·
   simp [Value.cells] at hcs;obtain⟨rfl,rfl,rfl⟩:=hcs;exact⟨zs,.inr ⟨_,rfl,hl,hm,by simpa using hz,hcell,hwz⟩⟩
 have y0:len0*1≤140737488351232:=PrintWords.sized_ints hsz (j:=0) (t:=22) rfl rfl Tryd.underlying22 Tryd.underlying5 (by kernel_rfl) (by kernel_rfl) h0;clear hA0 hval0 hsz0 hsz;refine (X.laws_FnPlateLoop.walk Pure.FnPlateLoop a0 len0 cap0 z0 W w0 y0).mono fun e W' ⟨he,bel⟩=>?_
 subst he;exact⟨_,rfl,_,_,_,[],_,[],hW',trodAll_mk1 (shut_bool Tryd.underlying4 _),(trodAll_cons_mk (Below.trod laidOut (by kernel_rfl) (of_decide_eq_true (by kernel_rfl)) k0 bel lt0) trodAll_mk0),rfl,bel.frame _,fun h=>by cases h⟩
theorem over:Rows.fnPlateLoopRow.holds Tryd.pinned (OpenSpec.ofChange Rows.fnPlateLoopSpec):=
 OpenClaim.holds_of_wide 5 Tryd.f5 rfl rfl rfl rfl rfl rfl rfl ⟨rfl,rfl,rfl,rfl,rfl⟩ rfl rfl rfl rfl rfl (by kernel_rfl) Tryd.func5 (by kernel_rfl)
  (of_decide_eq_true (by kernel_rfl)) (by unfold Func.isWrapper;first | (rw [if_pos (by decide +kernel)];kernel_rfl) | (rw [if_neg (by decide +kernel)];exact⟨rfl,rfl⟩))
  (fun os started H enc _=>lifted os started H enc)
theorem proved:Rows.FnPlateLoopCardSaid:=
 Claim7.holds_tied_plain_at .later [] [.data,.data,.data] true (true,"b4ab95a4db49b2771e2f8168cb46a810f1ec4b19641b07dd5b55ecff015c9d10") false
  over (fun _ h=>by cases h) (by kernel_rfl) (fun _ h=>by cases h) fnPlateLoop_row_tie rfl ⟨rfl,rfl⟩ (by kernel_rfl) rfl
  (fun f fn hf hfn=>by
   obtain rfl:f=5:=Option.some.inj ((show Tryd.prog.funcNamed "loop.example/mortiser/laws.FnPlateLoop" = some 5 by kernel_rfl).symm.trans hf) |>.symm
   obtain rfl:fn=Tryd.f5:=(Option.some.inj (Tryd.func5.symm.trans hfn)).symm
   exact⟨by kernel_rfl,fun j t ht=>by
    rw [Tryd.params5] at ht;have h3:t=22:=by
     rcases j with _ | j
     ·
      simpa using ht.symm
     ·
      simp at ht
    subst h3
    exact (show Tryd.prog.wantsStandIn 22=false by kernel_rfl)⟩)
  (by kernel_rfl)
end Go.Proofs.YtailkppkjhkjpaaDoor.fnPlateLoop
namespace Go.Proofs.YtailkppkjhkjpaaDoor
theorem fnPlateLoop_holds:Rows.FnPlateLoopCardSaid:=fnPlateLoop.proved
end Go.Proofs.YtailkppkjhkjpaaDoor
end
