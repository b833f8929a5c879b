/- FnPlateStrict: the law returns true for every input, and each input reads behind the call as before; part 3 of 7. No condition. Merged by program out of: HLoopA, HKept, HBody, HPlate, Txt, Shelf, HSplit, FImplFigureOf, HRead. -/
import Derived.Test.YtailkppkjhkjpaaGreatDoorMFnPlateStrict2
import Derived.Lib.SplitLaws
import Derived.Lib.Join
import Derived.Lib.Strings
import Derived.Shelf.Strings.OnBuilder
import Derived.Shelf.Strings.BuilderK
import Derived.Shelf.LaysM
import Derived.Shelf.Strconv.Itoa3
import Derived.Shelf.Strings.Prefix
import Derived.Shelf.Strings.Split
import Derived.Test.YtailkppkjhkjpaaGreatDoorProg
set_option linter.all false
section
set_option linter.unusedVariables false
set_option linter.unusedSimpArgs false
namespace Go.Proofs.YtailkppkjhkjpaaGreatDoor.X
open Go.RowKit Go.Shelf Go.Proofs.YtailkppkjhkjpaaGreatDoorW.PrintWords Go.Proofs.YtailkppkjhkjpaaGreatDoorW.PrintLast Go.Proofs.YtailkppkjhkjpaaGreatDoorW.PrintMore
open Mort (edges loopOk pairOk ed segOk meet joined ptOk segHas segMeet)
attribute [local go_sem] Oper.semAt_some
def impl_LoopOk.f (l0:List S70):Option Bool:=some (loopOk (l0.map ptP))
def pairS (l0:List S70)(i j:Nat):Bool:=
 if j≤i then true else if j=i+1 then !segHas (sgP (edS l0 i)) (ptP (edS l0 j).f1) && !segHas (sgP (edS l0 j)) (ptP (edS l0 i).f0)
 else if i=0∧j+1=l0.length then !segHas (sgP (edS l0 j)) (ptP (edS l0 i).f1) && !segHas (sgP (edS l0 i)) (ptP (edS l0 j).f0) else !segMeet (sgP (edS l0 i)) (sgP (edS l0 j))
theorem iJoined {k:Nat}(hk:2≤k)(a b c d e f g h:Int):impl_joined.f k a b c d e f g h=some (!segHas ((a,b),(c,d)) (g,h) && !segHas ((e,f),(g,h)) (a,b)):=by
 unfold impl_joined.f;simp only [iSegHas (k:=k) (by omega),Option.bind_some];cases segHas ((a,b),(c,d)) (g,h) <;> cases segHas ((e,f),(g,h)) (a,b) <;> rfl
theorem loopOk_S (l0:List S70):loopOk (l0.map ptP)=true ↔ 3≤l0.length∧l0.length≤8∧(∀ i,i<l0.length→segOk (sgP (edS l0 i))=true)∧∀ i j,i<l0.length→j<l0.length→pairS l0 i j=true:=by
 rw [Mort.loopOk_iff,List.length_map];have hE:(∀ e∈edges (l0.map ptP),segOk e=true) ↔ ∀ i,i<l0.length→segOk (sgP (edS l0 i))=true:=by
  constructor
  ·
   intro h i hi;rw [← ed_edS];exact h _ (Mort.mem_edges.2 ⟨i,by simpa using hi,rfl⟩)
  ·
   intro h e he;obtain⟨i,hi,rfl⟩:=Mort.mem_edges.1 he;rw [ed_edS];exact h i (by simpa using hi)
 rw [hE];refine and_congr_right fun h3=>and_congr_right fun h8=>and_congr_right fun hs=>forall_congr' fun i=>forall_congr' fun j=>forall_congr' fun hi=>forall_congr' fun hj=>?_
 unfold pairOk pairS joined;simp only [ed_edS,List.length_map];have oi:=(Mort.segOk_iff _).1 (hs i hi);have oj:=(Mort.segOk_iff _).1 (hs j hj);have e1:∀ p,ptOk p=true→segHas (sgP (edS l0 i)) p=Mort.has (sgP (edS l0 i)) p:=fun p hp=>by unfold segHas;rw [hs i hi,hp];rfl
 have e2:∀ p,ptOk p=true→segHas (sgP (edS l0 j)) p=Mort.has (sgP (edS l0 j)) p:=fun p hp=>by unfold segHas;rw [hs j hj,hp];rfl
 have e3:segMeet (sgP (edS l0 i)) (sgP (edS l0 j))=meet (sgP (edS l0 i)) (sgP (edS l0 j)):=by unfold segMeet;rw [hs i hi,hs j hj];rfl
 rw [e1 (ptP (edS l0 j).f1) oj.2.1,e2 (ptP (edS l0 i).f0) oi.1,e2 (ptP (edS l0 i).f1) oi.2.1,e1 (ptP (edS l0 j).f0) oj.1,e3];exact Iff.rfl
set_option maxHeartbeats 4000000 in
set_option maxRecDepth 100000 in
theorem impl_LoopOk.calls (A0:Option Addr)(c0:Nat)(l0:List S70)(r:Bool)(w:World)(hr0:Kd.C k70 w A0 l0.length l0)(hc0:l0.length≤c0)(h:impl_LoopOk.f l0=some r):
  Calls Tryz.prog 40 #[.slice A0 l0.length c0] w fun e w'=>e=.returned (.bool r)∧Below w.heap.size w w':=by
 have h:=Option.some.inj h;have hS:=loopOk_S l0;rw [h] at hS;have hS':=Aside0.mk hS;clear hS h;have hu61:=Tryz.underlying83;refine (callsIn_wide (n:=9)).1 ?_;refine callsIn_of_wp_marks Tryz.func40 rfl trivial ?_ rfl;simp only [Tryz.ntmps40,List.size_toArray,List.length_cons,List.length_nil,Nat.reduceAdd,Nat.reduceSub,Array.replicate_succ,Array.replicate_zero,List.push_toArray,List.append_toArray,List.nil_append,List.cons_append];by_cases hl3:l0.length<3
 ·
  obtain rfl:r=false:=by
   cases r with
   | false=>rfl
   | true=>have:=(hS'.out.1 rfl).1;omega
  gi_wp2;refine⟨.bool false,?_,rfl,below_alloc (below_alloc (Below.refl _ _) _) _⟩;simp [results,Tryz.f40,go_sem]
 by_cases hl8:8<l0.length
 ·
  obtain rfl:r=false:=by
   cases r with
   | false=>rfl
   | true=>have:=(hS'.out.1 rfl).2.1;omega
  gi_wp2;refine⟨.bool false,?_,rfl,below_alloc (below_alloc (Below.refl _ _) _) _⟩;simp [results,Tryz.f40,go_sem]
 have b1:decide ((l0.length:Int)<3)=false:=decide_eq_false (by omega);have b2:decide (8<(l0.length:Int))=false:=decide_eq_false (by omega);have hAb:=row_lt hr0 (by omega);gi_wp2_with (refine⟨trivial,?_⟩;gi_at_call 43;refine (edges_in _ _ _ _ _).mono ?_;rintro e w' ⟨rfl,rfl⟩);have bL:=((Boxed.new w 24 (.slice A0 l0.length c0)).alloc (.cells #[.bool false] 4)).alloc (.cells #[.slice A0 l0.length c0] 24);have bR:=(Boxed.new (w.alloc (.cells #[.slice A0 l0.length c0] 24)) 4 (.bool false)).alloc (.cells #[.slice A0 l0.length c0] 24);have bC:=Boxed.new ((w.alloc (.cells #[.slice A0 l0.length c0] 24)).alloc (.cells #[.bool false] 4)) 24 (.slice A0 l0.length c0);simp only [World.size_alloc] at bR bC;have hB0:Below w.heap.size w (((w.alloc (.cells #[.slice A0 l0.length c0] 24)).alloc (.cells #[.bool false] 4)).alloc (.cells #[.slice A0 l0.length c0] 24)):=below_alloc (below_alloc (below_alloc (Below.refl _ w) _) _) _;have hsz:(((w.alloc (.cells #[.slice A0 l0.length c0] 24)).alloc (.cells #[.bool false] 4)).alloc (.cells #[.slice A0 l0.length c0] 24)).heap.size=w.heap.size+3:=by simp
 obtain⟨W0,hW0⟩:∃ W0,((w.alloc (.cells #[.slice A0 l0.length c0] 24)).alloc (.cells #[.bool false] 4)).alloc (.cells #[.slice A0 l0.length c0] 24)=W0:=⟨_,rfl⟩;rw [hW0] at bL bR bC hB0 hsz ⊢
 clear hW0;refine wpIn_rangeFunc_ownH rfl (by omega) (gf:=63) (lb:=#[.pointer (some ⟨w.heap.size+1+1,0,none⟩)]) rfl trivial (enters_of Tryz.func63 (by kernel_rfl) rfl)
  (edges_stops 8 (by omega) (w.heap.size+1+1) w.heap.size A0 c0 l0 (by omega) hAb W0 (by omega) (by omega) bC.cell (Kd.C_below hr0 hB0)) (fun h k=>KpE.trans h k) (fun W l o o' hl _ _ _=>KpE.putObj W l o' (by omega) (by omega)) (Below.refl _ _) (fun _=>rfl)
  (fun pre W=>(((∀ x∈pre,segOk (sgP (edS l0 x))=true)∧Boxed W (w.heap.size+1) 4 (.bool false))∧Boxed W w.heap.size 24 (.slice A0 l0.length c0))∧Below w.heap.size w W)
  (fun c pre W=>((c=.ret∧∃ x:Fin l0.length,segOk (sgP (edS l0 x))=false)∧Boxed W (w.heap.size+1) 4 (.bool false))∧Below w.heap.size w W)
  (OwnFrom.and (OwnFrom.and (OwnFrom.and (ownFrom_pure _ _) (Own.from (boxed_own _ _ _) _)) (Own.from (boxed_own _ _ _) _)) (ownFrom_below (Nat.le_refl _) (by omega)))
  (fun c=>OwnFrom.and (OwnFrom.and (ownFrom_pure _ _) (Own.from (boxed_own _ _ _) _)) (ownFrom_below (Nat.le_refl _) (by omega)))
  ⟨⟨⟨by simp,bR⟩,bL⟩,hB0⟩
  (fun x a' W=>∃ Bx,W.heap[Bx]?=some (segObj (edS l0 x))∧a'={ tmps:=#[.slice A0 l0.length c0,.pointer (some ⟨w.heap.size,0,none⟩),.pointer (some ⟨w.heap.size+1,0,none⟩),undef,.pointer (some ⟨Bx,0,none⟩),undef,undef,undef,undef,undef,undef,.slice A0 l0.length c0,.int .i64 (l0.length:Int),.bool false,.bool false,.slice A0 l0.length c0,.int .i64 (l0.length:Int),.bool false,.bool false,.slice A0 l0.length c0,.func (.func 63) #[] #[.pointer (some ⟨w.heap.size+1+1,0,none⟩)],.int .i64 ((x:Nat):Int),.agg #[.int .i64 (edS l0 x).f0.f0,.int .i64 (edS l0 x).f0.f1,.int .i64 (edS l0 x).f1.f0,.int .i64 (edS l0 x).f1.f1],undef,undef,undef,undef,undef,undef,undef,undef,undef,undef,undef,undef,undef,undef,undef,undef,undef,undef,undef,undef,undef,undef,undef,undef,undef,undef,undef,undef,undef,undef,undef,undef,undef,undef,undef,undef,undef,undef,undef,undef,undef,undef,undef],defers:=[] })
  (fun x a' _ X Y row hs hg hr=>by obtain⟨Bx,e2,e3⟩:=hs;exact⟨Bx,segObj_own Bx (edS l0 x) () X Y row e2 hg (fun r e=>(hr r e).2),e3⟩)
  ?assign ?body ?done ?stop
 case assign =>
  rintro l pre x W K ⟨⟨⟨hp,bR1⟩,bL1⟩,hB1⟩ hK;have hWs:=bR1.lt;have hBs:=hB1.size;dsimp only [encE,edV];gi_wp2;refine hK _ _ ((KeepsOthers.alloc _ _).from _) (KpE.alloc _ _ _ _) ⟨⟨⟨hp,bR1.alloc _⟩,bL1.alloc _⟩,below_alloc hB1 _⟩ ⟨W.heap.size,World.alloc_heap_new W _,rfl⟩
 case body =>
  rintro l pre x a' W hl ⟨rr,hrr⟩ ⟨⟨⟨hp,bR1⟩,bL1⟩,hB1⟩ ⟨Bx,bX,rfl⟩ hlt;have cX0:W.cell? ⟨Bx,0,none⟩=some (.int .i64 (edS l0 x).f0.f0):=(blk_cell bX 0).trans rfl;have cX1:W.cell? ⟨Bx,1,none⟩=some (.int .i64 (edS l0 x).f0.f1):=(blk_cell bX 1).trans rfl;have cX2:W.cell? ⟨Bx,2,none⟩=some (.int .i64 (edS l0 x).f1.f0):=(blk_cell bX 2).trans rfl;have cX3:W.cell? ⟨Bx,3,none⟩=some (.int .i64 (edS l0 x).f1.f1):=(blk_cell bX 3).trans rfl;have H:=iSegOk (edS l0 x).f0.f0 (edS l0 x).f0.f1 (edS l0 x).f1.f0 (edS l0 x).f1.f1
  cases hs:segOk (sgP (edS l0 x)) with
  | true =>
   rw [show segOk (((edS l0 x).f0.f0,(edS l0 x).f0.f1),((edS l0 x).f1.f0,(edS l0 x).f1.f1))=true from hs] at H;gi_wp2_with (refine⟨trivial,?_⟩;gi_at_call 58;refine (CallsIn.inRound l (callsIn_wide.2 (impl_SegOk.calls _ _ _ _ true _ H))).mono ?_;rintro e w1 ⟨rfl,hb⟩);exact⟨keeps_below hb,KpE.below hb,⟨⟨fun z hz=>(List.mem_append.1 hz).elim (hp z) (fun e=>by simp at e;subst e;exact hs),box_later bR1 hb⟩,box_later bL1 hb⟩,below_row hB1 (Nat.le_refl _) hb⟩
  | false =>
   rw [show segOk (((edS l0 x).f0.f0,(edS l0 x).f0.f1),((edS l0 x).f1.f0,(edS l0 x).f1.f1))=false from hs] at H;gi_wp2_with (refine⟨trivial,?_⟩;gi_at_call 58;refine (CallsIn.inRound l (callsIn_wide.2 (impl_SegOk.calls _ _ _ _ false _ H))).mono ?_;rintro e w1 ⟨rfl,hb⟩;have cR:=(box_later bR1 hb).cell;have fR:=(box_later bR1 hb).frozen);exact⟨(keeps_below hb).trans ((KeepsOthers.setCell _ _ _).from _),⟨⟨rfl,x,hs⟩,(box_later bR1 hb).set _⟩,(below_row hB1 (Nat.le_refl _) hb).setCell (p:=⟨w.heap.size+1,0,none⟩) (by simp) _⟩
 case stop =>
  rintro D c pre W hD _ ⟨⟨⟨rfl,x,hs⟩,bR1⟩,hB1⟩ hK;obtain rfl:r=false:=by
   cases r with
   | false=>rfl
   | true=>have:=(hS'.out.1 rfl).2.2.1 x x.2;rw [hs] at this;cases this
  gi_wp2;have hD1:∀ E∈[D],W.heap[E]?=some (.deferred (some [])):=by simpa using hK
  refine leavesM_marks [D] W (by simp) hD1 (fun w' h1 h2 h3 h4 h5=>?_);have hc5:=(marks_boxed bR1 hD1 h1).cell;refine⟨.bool false,?_,rfl,marks_below hB1 (by simp;omega) h1 h2 h3 h4 h5⟩;simp [results,Tryz.f40,go_sem,hc5]
 case done =>
  rintro D ys W hD rfl ⟨⟨⟨hp,bR1⟩,bL1⟩,hB1⟩ hK;have hok:∀ i,i<l0.length→segOk (sgP (edS l0 i))=true:=fun i hi=>hp ⟨i,hi⟩ (List.mem_finRange _)
  clear hp;have cL:=bL1.cell;have cL2:=(bL1.alloc (.cells #[.int .i64 ((l0.length:Int)-1)] 3)).cell;gi_wp2_with (refine⟨trivial,?_⟩;gi_at_call 43;refine (edges_in _ _ _ _ _).mono ?_;rintro e w' ⟨rfl,rfl⟩);clear cL cL2;have hWs:=hB1.size;replace bR1:=(bR1.alloc (.cells #[.int .i64 ((l0.length:Int)-1)] 3)).alloc (.cells #[.slice A0 l0.length c0] 24);replace bL1:=(bL1.alloc (.cells #[.int .i64 ((l0.length:Int)-1)] 3)).alloc (.cells #[.slice A0 l0.length c0] 24);have b5:=(Boxed.new W 3 (.int .i64 ((l0.length:Int)-1))).alloc (.cells #[.slice A0 l0.length c0] 24);have bC2:=Boxed.new (W.alloc (.cells #[.int .i64 ((l0.length:Int)-1)] 3)) 24 (.slice A0 l0.length c0);replace hB1:=below_alloc (below_alloc hB1 (.cells #[.int .i64 ((l0.length:Int)-1)] 3)) (.cells #[.slice A0 l0.length c0] 24);have hDW:D<W.heap.size:=(Array.getElem?_eq_some_iff.1 hK).1;replace hK:=blk_alloc' (blk_alloc' hK (.cells #[.int .i64 ((l0.length:Int)-1)] 3)) (.cells #[.slice A0 l0.length c0] 24);have hsz2:((W.alloc (.cells #[.int .i64 ((l0.length:Int)-1)] 3)).alloc (.cells #[.slice A0 l0.length c0] 24)).heap.size=W.heap.size+2:=by simp
  simp only [World.size_alloc] at bC2;obtain⟨W2,hW2⟩:∃ W2,(W.alloc (.cells #[.int .i64 ((l0.length:Int)-1)] 3)).alloc (.cells #[.slice A0 l0.length c0] 24)=W2:=⟨_,rfl⟩;rw [hW2] at bR1 bL1 b5 bC2 hB1 hK hsz2 ⊢
  clear hW2;generalize W.heap.size=B5 at *;have hAC:=Kd.C_below hr0 hB1;refine wpIn_rangeFunc_ownH rfl (by omega) (gf:=63) (lb:=#[.pointer (some ⟨B5+1,0,none⟩)]) rfl trivial (enters_of Tryz.func63 (by kernel_rfl) rfl)
   (edges_stops 8 (by omega) (B5+1) w.heap.size A0 c0 l0 (by omega) hAb W2 (by omega) (by omega) bC2.cell hAC) (fun h k=>KpE.trans h k) (fun W l o o' hl _ _ _=>KpE.putObj W l o' (by omega) (by omega)) (Below.refl _ _) (fun _=>rfl)
   (fun pre W=>(((((∀ x∈pre,∀ j,j<l0.length→pairS l0 (x:Fin l0.length) j=true)∧Boxed W (w.heap.size+1) 4 (.bool false))∧Boxed W w.heap.size 24 (.slice A0 l0.length c0))∧Boxed W B5 3 (.int .i64 ((l0.length:Int)-1)))∧W.heap[D]?=some (.deferred (some [])))∧Below w.heap.size w W)
   (fun c pre W=>(((c=.ret∧∃ i j,i<l0.length∧j<l0.length∧pairS l0 i j=false)∧Boxed W (w.heap.size+1) 4 (.bool false))∧W.heap[D]?=some (.deferred (some [])))∧Below w.heap.size w W)
   (OwnFrom.and (OwnFrom.and (OwnFrom.and (OwnFrom.and (OwnFrom.and (ownFrom_pure _ _) (Own.from (boxed_own _ _ _) _)) (Own.from (boxed_own _ _ _) _)) (Own.from (boxed_own _ _ _) _)) (ownFrom_blk (by omega))) (ownFrom_below (Nat.le_refl _) (by omega)))
   (fun c=>OwnFrom.and (OwnFrom.and (OwnFrom.and (ownFrom_pure _ _) (Own.from (boxed_own _ _ _) _)) (ownFrom_blk (by omega))) (ownFrom_below (Nat.le_refl _) (by omega)))
   ⟨⟨⟨⟨⟨by simp,bR1⟩,bL1⟩,b5⟩,hK⟩,hB1⟩
   (fun x a' W=>∃ Bi Bs,(Boxed W Bi 3 (.int .i64 ((x:Nat):Int))∧W.heap[Bs]?=some (segObj (edS l0 x)))∧a'={ tmps:=#[.slice A0 l0.length c0,.pointer (some ⟨w.heap.size,0,none⟩),.pointer (some ⟨w.heap.size+1,0,none⟩),undef,undef,.pointer (some ⟨B5,0,none⟩),.pointer (some ⟨Bi,0,none⟩),.pointer (some ⟨Bs,0,none⟩),undef,undef,undef,.slice A0 l0.length c0,.int .i64 (l0.length:Int),.bool false,.bool false,.slice A0 l0.length c0,.int .i64 (l0.length:Int),.bool false,.bool false,.slice A0 l0.length c0,.func (.func 63) #[] #[.pointer (some ⟨w.heap.size+1+1,0,none⟩)],undef,undef,undef,undef,undef,.slice A0 l0.length c0,.int .i64 (l0.length:Int),.int .i64 ((l0.length:Int)-1),.slice A0 l0.length c0,.func (.func 63) #[] #[.pointer (some ⟨B5+1,0,none⟩)],.int .i64 ((x:Nat):Int),.agg #[.int .i64 (edS l0 x).f0.f0,.int .i64 (edS l0 x).f0.f1,.int .i64 (edS l0 x).f1.f0,.int .i64 (edS l0 x).f1.f1],undef,undef,undef,undef,undef,undef,undef,undef,undef,undef,undef,undef,undef,undef,undef,undef,undef,undef,undef,undef,undef,undef,undef,undef,undef,undef,undef,undef,undef,undef,undef,undef,undef],defers:=[] })
   (fun x a' _ X Y row hs hg hr=>by obtain⟨Bi,Bs,⟨e1,e2⟩,e3⟩:=hs;exact⟨Bi,Bs,⟨boxed_own Bi 3 (fun (_:Unit)=>Value.int .i64 ((x:Nat):Int)) () X Y row e1 hg (fun r e=>(hr r e).2),segObj_own Bs (edS l0 x) () X Y row e2 hg (fun r e=>(hr r e).2)⟩,e3⟩)
   ?assign2 ?body2 ?done2 ?stop2
  case assign2 =>
   rintro l pre x W K ⟨⟨⟨⟨⟨hp,bR1⟩,bL1⟩,b5⟩,hK⟩,hB1⟩ hKK;dsimp only [encE,edV];gi_wp2;refine hKK _ _ (((KeepsOthers.alloc _ _).from _).trans ((KeepsOthers.alloc _ _).from _)) ((KpE.alloc _ _ _ _).trans (KpE.alloc _ _ _ _)) ⟨⟨⟨⟨⟨hp,(bR1.alloc _).alloc _⟩,(bL1.alloc _).alloc _⟩,(b5.alloc _).alloc _⟩,blk_alloc' (blk_alloc' hK _) _⟩,below_alloc (below_alloc hB1 _) _⟩ ⟨W.heap.size,W.heap.size+1,⟨(Boxed.new W 3 _).alloc _,?_⟩,rfl⟩;have:=World.alloc_heap_new (W.alloc (.cells #[.int .i64 ((x:Nat):Int)] 3)) (segObj (edS l0 x))
   rwa [World.size_alloc] at this
  case body2 =>
   rintro l pre x a' W hl ⟨rr,hrr⟩ ⟨⟨⟨⟨⟨hp,bR1⟩,bL1⟩,b5⟩,hK⟩,hB1⟩ ⟨Bi,Bs,⟨bI,bX⟩,rfl⟩ hlt;have cL:=bL1.cell;gi_wp2_with (refine⟨trivial,?_⟩;gi_at_call 43;refine (CallsIn.inRound l (edges_in _ _ _ _ _)).mono ?_;rintro e w' ⟨rfl,rfl⟩);clear cL;have bN:=Boxed.new W 24 (.slice A0 l0.length c0);have hr':(W.alloc (.cells #[.slice A0 l0.length c0] 24)).heap[l]?=some (.loop rr):=blk_alloc' hrr _;have bR2:=bR1.alloc (.cells #[.slice A0 l0.length c0] 24);have bL2:=bL1.alloc (.cells #[.slice A0 l0.length c0] 24);have b52:=b5.alloc (.cells #[.slice A0 l0.length c0] 24);have bI2:=bI.alloc (.cells #[.slice A0 l0.length c0] 24);have bX2:=blk_alloc' bX (.cells #[.slice A0 l0.length c0] 24);have hK2:=blk_alloc' hK (.cells #[.slice A0 l0.length c0] 24);have hB2:=below_alloc hB1 (.cells #[.slice A0 l0.length c0] 24);have hE2:=KpE.alloc w.heap.size (B5+1) W (.cells #[.slice A0 l0.length c0] 24);have hF2:=(KeepsOthers.alloc W (.cells #[.slice A0 l0.length c0] 24)).from W2.heap.size;have hsz3:(W.alloc (.cells #[.slice A0 l0.length c0] 24)).heap.size=W.heap.size+1:=by simp
   have hBW:=hB1.size;have hRW:=bR1.lt;have hDW2:D<W.heap.size:=(Array.getElem?_eq_some_iff.1 hK).1;obtain⟨W3,hW3⟩:∃ W3,W.alloc (.cells #[.slice A0 l0.length c0] 24)=W3:=⟨_,rfl⟩;rw [hW3] at bN hr' bR2 bL2 b52 bI2 bX2 hK2 hB2 hE2 hF2 hsz3 ⊢
   clear hW3;obtain⟨Bc,hBc⟩:∃ Bc,W.heap.size=Bc:=⟨_,rfl⟩;rw [hBc] at bN ⊢
   refine wpIn_rangeFunc_ownN (l₀:=l) (r₀:=rr) rfl hr' (by omega) (gf:=63) (lb:=#[.pointer (some ⟨Bc,0,none⟩)]) rfl trivial (enters_of Tryz.func63 (by kernel_rfl) rfl)
    ((edges_stops 6 (by omega) Bc w.heap.size A0 c0 l0 (by omega) hAb W3 (by omega) (by omega) bN.cell (Kd.C_below hr0 hB2)).inRound l) (fun h k=>KpE.trans h k) (fun W l o o' hl _ _ _=>KpE.putObj W l o' (by omega) (by omega)) (Below.refl _ _) (fun _=>rfl)
    (fun pre' W'=>(((((((∀ y∈pre',pairS l0 x (y:Fin l0.length)=true)∧Boxed W' (w.heap.size+1) 4 (.bool false))∧Boxed W' w.heap.size 24 (.slice A0 l0.length c0))∧Boxed W' B5 3 (.int .i64 ((l0.length:Int)-1)))∧Boxed W' Bi 3 (.int .i64 ((x:Nat):Int)))∧W'.heap[Bs]?=some (segObj (edS l0 x)))∧W'.heap[D]?=some (.deferred (some [])))∧(Below w.heap.size w W'∧KpE w.heap.size (B5+1) W W')∧KeepsFrom W2.heap.size W W')
    (fun c pre' W'=>(((c=.ret∧∃ y:Fin l0.length,pairS l0 x y=false)∧Boxed W' (w.heap.size+1) 4 (.bool false))∧W'.heap[D]?=some (.deferred (some [])))∧Below w.heap.size w W'∧KeepsFrom W2.heap.size W W')
    (OwnFrom.and (OwnFrom.and (OwnFrom.and (OwnFrom.and (OwnFrom.and (OwnFrom.and (OwnFrom.and (ownFrom_pure _ _) (Own.from (boxed_own _ _ _) _)) (Own.from (boxed_own _ _ _) _)) (Own.from (boxed_own _ _ _) _)) (Own.from (boxed_own _ _ _) _)) (Own.from (blk_own _ (fun _=>segObj (edS l0 x)) (fun _=>rfl)) _)) (ownFrom_blk (by omega))) (OwnFrom.and (OwnFrom.and (ownFrom_below (Nat.le_refl _) (by omega)) (ownFrom_kpE (by omega))) (ownFrom_keepsFrom (by omega))))
    (fun c=>OwnFrom.and (OwnFrom.and (OwnFrom.and (ownFrom_pure _ _) (Own.from (boxed_own _ _ _) _)) (ownFrom_blk (by omega))) (OwnFrom.and (ownFrom_below (Nat.le_refl _) (by omega)) (ownFrom_keepsFrom (by omega))))
    ⟨⟨⟨⟨⟨⟨⟨by simp,bR2⟩,bL2⟩,b52⟩,bI2⟩,bX2⟩,hK2⟩,⟨hB2,hE2⟩,hF2⟩
    (fun y a'' W'=>∃ Bt,W'.heap[Bt]?=some (segObj (edS l0 y))∧a''={ tmps:=#[.slice A0 l0.length c0,.pointer (some ⟨w.heap.size,0,none⟩),.pointer (some ⟨w.heap.size+1,0,none⟩),undef,undef,.pointer (some ⟨B5,0,none⟩),.pointer (some ⟨Bi,0,none⟩),.pointer (some ⟨Bs,0,none⟩),.int .i64 ((y:Nat):Int),.pointer (some ⟨Bt,0,none⟩),undef,.slice A0 l0.length c0,.int .i64 (l0.length:Int),.bool false,.bool false,.slice A0 l0.length c0,.int .i64 (l0.length:Int),.bool false,.bool false,.slice A0 l0.length c0,.func (.func 63) #[] #[.pointer (some ⟨w.heap.size+1+1,0,none⟩)],undef,undef,undef,undef,undef,.slice A0 l0.length c0,.int .i64 (l0.length:Int),.int .i64 ((l0.length:Int)-1),.slice A0 l0.length c0,.func (.func 63) #[] #[.pointer (some ⟨B5+1,0,none⟩)],.int .i64 ((x:Nat):Int),.agg #[.int .i64 (edS l0 x).f0.f0,.int .i64 (edS l0 x).f0.f1,.int .i64 (edS l0 x).f1.f0,.int .i64 (edS l0 x).f1.f1],.slice A0 l0.length c0,.func (.func 63) #[] #[.pointer (some ⟨Bc,0,none⟩)],.int .i64 ((y:Nat):Int),.agg #[.int .i64 (edS l0 y).f0.f0,.int .i64 (edS l0 y).f0.f1,.int .i64 (edS l0 y).f1.f0,.int .i64 (edS l0 y).f1.f1],undef,undef,undef,undef,undef,undef,undef,undef,undef,undef,undef,undef,undef,undef,undef,undef,undef,undef,undef,undef,undef,undef,undef,undef,undef,undef,undef,undef,undef],defers:=[] })
    (fun y a'' _ X Y row hs hg hr=>by obtain⟨Bt,e2,e3⟩:=hs;exact⟨Bt,segObj_own Bt (edS l0 y) () X Y row e2 hg (fun r e=>(hr r e).2),e3⟩)
    ?assign3 ?body3 ?done3 ?stop3
   case assign3 =>
    rintro l2 pre' y W' K ⟨⟨⟨⟨⟨⟨⟨hq,bR⟩,bL⟩,b5⟩,bI⟩,bX⟩,hK⟩,⟨hB,hE⟩,hF⟩ hKK;dsimp only [encE,edV];gi_wp2;exact hKK _ _ ((KeepsOthers.alloc _ _).from _) (KpE.alloc _ _ _ _) ⟨⟨⟨⟨⟨⟨⟨hq,bR.alloc _⟩,bL.alloc _⟩,b5.alloc _⟩,bI.alloc _⟩,blk_alloc' bX _⟩,blk_alloc' hK _⟩,⟨below_alloc hB _,hE.trans (KpE.alloc _ _ _ _)⟩,hF.trans ((KeepsOthers.alloc _ _).from _)⟩ ⟨W'.heap.size,World.alloc_heap_new W' _,rfl⟩
   case body3 =>
    rintro l2 pre' y a'' W' _ _ ⟨⟨⟨⟨⟨⟨⟨hq,bR⟩,bL⟩,b5⟩,bI⟩,bX⟩,hK⟩,⟨hB,hE⟩,hF⟩ ⟨Bt,bT,rfl⟩ _;have hx8:((x:Nat):Int)<8:=by have:=x.2;omega
    have hx0:0≤((x:Nat):Int):=by omega
    have cI:=bI.cell;have c5:=b5.cell;have cX0:W'.cell? ⟨Bs,0,none⟩=some (.int .i64 (edS l0 x).f0.f0):=(blk_cell bX 0).trans rfl;have cX1:W'.cell? ⟨Bs,1,none⟩=some (.int .i64 (edS l0 x).f0.f1):=(blk_cell bX 1).trans rfl;have cX2:W'.cell? ⟨Bs,2,none⟩=some (.int .i64 (edS l0 x).f1.f0):=(blk_cell bX 2).trans rfl;have cX3:W'.cell? ⟨Bs,3,none⟩=some (.int .i64 (edS l0 x).f1.f1):=(blk_cell bX 3).trans rfl;have cT0:W'.cell? ⟨Bt,0,none⟩=some (.int .i64 (edS l0 y).f0.f0):=(blk_cell bT 0).trans rfl;have cT1:W'.cell? ⟨Bt,1,none⟩=some (.int .i64 (edS l0 y).f0.f1):=(blk_cell bT 1).trans rfl;have cT2:W'.cell? ⟨Bt,2,none⟩=some (.int .i64 (edS l0 y).f1.f0):=(blk_cell bT 2).trans rfl;have cT3:W'.cell? ⟨Bt,3,none⟩=some (.int .i64 (edS l0 y).f1.f1):=(blk_cell bT 3).trans rfl;have cR:=bR.cell;have fR:=bR.frozen;by_cases d1:(y:Nat)≤(x:Nat)
    ·
     have t1:decide (((y:Nat):Int)≤((x:Nat):Int))=true:=decide_eq_true (by omega);have hP:pairS l0 x y=true:=by unfold pairS;rw [if_pos d1]
     gi_wp2;have hb:=hP;have hb1:=Below.refl W'.heap.size W';exact⟨keeps_below hb1,KpE.below hb1,⟨⟨⟨⟨⟨⟨fun z hz=>(List.mem_append.1 hz).elim (hq z) (fun e=>by simp at e;subst e;exact hb),box_later bR hb1⟩,box_later bL hb1⟩,box_later b5 hb1⟩,box_later bI hb1⟩,blk_later bX hb1⟩,blk_later hK hb1⟩,⟨below_row hB (Nat.le_refl _) hb1,hE.trans (KpE.below hb1)⟩,hF.trans (keeps_below hb1)⟩
    have t1:decide (((y:Nat):Int)≤((x:Nat):Int))=false:=decide_eq_false (by omega);by_cases d2:(y:Nat)=(x:Nat)+1
    ·
     have t2:(((y:Nat):Int)==((x:Nat):Int)+1)=true:=by rw [beq_iff_eq];omega
     have hP:pairS l0 x y=(!segHas (sgP (edS l0 x)) (ptP (edS l0 y).f1) && !segHas (sgP (edS l0 y)) (ptP (edS l0 x).f0)):=by unfold pairS;rw [if_neg d1,if_pos d2]
     have HJ:=iJoined (k:=2) (by omega) (edS l0 x).f0.f0 (edS l0 x).f0.f1 (edS l0 x).f1.f0 (edS l0 x).f1.f1 (edS l0 y).f0.f0 (edS l0 y).f0.f1 (edS l0 y).f1.f0 (edS l0 y).f1.f1;replace HJ:=HJ.trans (congrArg some hP.symm);clear d2
     cases hb:pairS l0 x y with
     | true =>
      rw [hb] at HJ;clear hP;gi_wp2_with (refine⟨trivial,?_⟩;gi_at_call 59;refine (CallsIn.inRound l2 (callsIn_wide.2 (impl_joined.calls 2 _ _ _ _ _ _ _ _ true _ HJ))).mono ?_;rintro e w1 ⟨rfl,hb1⟩;have cR1:=(box_later bR hb1).cell;have fR1:=(box_later bR hb1).frozen);exact⟨keeps_below hb1,KpE.below hb1,⟨⟨⟨⟨⟨⟨fun z hz=>(List.mem_append.1 hz).elim (hq z) (fun e=>by simp at e;subst e;exact hb),box_later bR hb1⟩,box_later bL hb1⟩,box_later b5 hb1⟩,box_later bI hb1⟩,blk_later bX hb1⟩,blk_later hK hb1⟩,⟨below_row hB (Nat.le_refl _) hb1,hE.trans (KpE.below hb1)⟩,hF.trans (keeps_below hb1)⟩
     | false =>
      rw [hb] at HJ;clear hP;gi_wp2_with (refine⟨trivial,?_⟩;gi_at_call 59;refine (CallsIn.inRound l2 (callsIn_wide.2 (impl_joined.calls 2 _ _ _ _ _ _ _ _ false _ HJ))).mono ?_;rintro e w1 ⟨rfl,hb1⟩;have cR1:=(box_later bR hb1).cell;have fR1:=(box_later bR hb1).frozen);exact⟨(keeps_below hb1).trans ((KeepsOthers.setCell _ _ _).from _),⟨⟨⟨rfl,y,hb⟩,(box_later bR hb1).set _⟩,blk_set (blk_later hK hb1) rfl (box_later bR hb1) _⟩,(below_row hB (Nat.le_refl _) hb1).setCell (p:=⟨w.heap.size+1,0,none⟩) (by simp) _,(hF.trans (keeps_below hb1)).trans ((KeepsOthers.setCell _ _ _).from _)⟩
    have t2:(((y:Nat):Int)==((x:Nat):Int)+1)=false:=by rw [beq_eq_false_iff_ne];omega
    by_cases d3:(x:Nat)=0
    ·
     have t3:(((x:Nat):Int)==0)=true:=by rw [beq_iff_eq];omega
     by_cases d4:(y:Nat)+1=l0.length
     ·
      have t4:(((y:Nat):Int)==(l0.length:Int)-1)=true:=by rw [beq_iff_eq];omega
      have hP:pairS l0 x y=(!segHas (sgP (edS l0 y)) (ptP (edS l0 x).f1) && !segHas (sgP (edS l0 x)) (ptP (edS l0 y).f0)):=by unfold pairS;rw [if_neg d1,if_neg d2,if_pos ⟨d3,d4⟩]
      have HJ:=iJoined (k:=2) (by omega) (edS l0 y).f0.f0 (edS l0 y).f0.f1 (edS l0 y).f1.f0 (edS l0 y).f1.f1 (edS l0 x).f0.f0 (edS l0 x).f0.f1 (edS l0 x).f1.f0 (edS l0 x).f1.f1;replace HJ:=HJ.trans (congrArg some hP.symm);clear d3 d4
      cases hb:pairS l0 x y with
      | true =>
       rw [hb] at HJ;clear hP;gi_wp2_with (refine⟨trivial,?_⟩;gi_at_call 59;refine (CallsIn.inRound l2 (callsIn_wide.2 (impl_joined.calls 2 _ _ _ _ _ _ _ _ true _ HJ))).mono ?_;rintro e w1 ⟨rfl,hb1⟩;have cR1:=(box_later bR hb1).cell;have fR1:=(box_later bR hb1).frozen);exact⟨keeps_below hb1,KpE.below hb1,⟨⟨⟨⟨⟨⟨fun z hz=>(List.mem_append.1 hz).elim (hq z) (fun e=>by simp at e;subst e;exact hb),box_later bR hb1⟩,box_later bL hb1⟩,box_later b5 hb1⟩,box_later bI hb1⟩,blk_later bX hb1⟩,blk_later hK hb1⟩,⟨below_row hB (Nat.le_refl _) hb1,hE.trans (KpE.below hb1)⟩,hF.trans (keeps_below hb1)⟩
      | false =>
       rw [hb] at HJ;clear hP;gi_wp2_with (refine⟨trivial,?_⟩;gi_at_call 59;refine (CallsIn.inRound l2 (callsIn_wide.2 (impl_joined.calls 2 _ _ _ _ _ _ _ _ false _ HJ))).mono ?_;rintro e w1 ⟨rfl,hb1⟩;have cR1:=(box_later bR hb1).cell;have fR1:=(box_later bR hb1).frozen);exact⟨(keeps_below hb1).trans ((KeepsOthers.setCell _ _ _).from _),⟨⟨⟨rfl,y,hb⟩,(box_later bR hb1).set _⟩,blk_set (blk_later hK hb1) rfl (box_later bR hb1) _⟩,(below_row hB (Nat.le_refl _) hb1).setCell (p:=⟨w.heap.size+1,0,none⟩) (by simp) _,(hF.trans (keeps_below hb1)).trans ((KeepsOthers.setCell _ _ _).from _)⟩
     ·
      have t4:(((y:Nat):Int)==(l0.length:Int)-1)=false:=by rw [beq_eq_false_iff_ne];omega
      have hP:pairS l0 x y = !segMeet (sgP (edS l0 x)) (sgP (edS l0 y)):=by unfold pairS;rw [if_neg d1,if_neg d2,if_neg (fun h=>d4 h.2)]
      have HJ:=iSegMeet (k:=3) (by omega) (edS l0 x).f0.f0 (edS l0 x).f0.f1 (edS l0 x).f1.f0 (edS l0 x).f1.f1 (edS l0 y).f0.f0 (edS l0 y).f0.f1 (edS l0 y).f1.f0 (edS l0 y).f1.f1;clear d3
      cases hb0:segMeet (sgP (edS l0 x)) (sgP (edS l0 y)) with
      | false =>
       have hb:pairS l0 x y=true:=by rw [hP,hb0];rfl
       replace HJ:=HJ.trans (congrArg some hb0);clear hP hb0;gi_wp2_with (refine⟨trivial,?_⟩;gi_at_call 60;refine (CallsIn.inRound l2 (callsIn_wide.2 (impl_SegMeet.calls 3 _ _ _ _ _ _ _ _ false _ HJ))).mono ?_;rintro e w1 ⟨rfl,hb1⟩;have cR1:=(box_later bR hb1).cell;have fR1:=(box_later bR hb1).frozen);exact⟨keeps_below hb1,KpE.below hb1,⟨⟨⟨⟨⟨⟨fun z hz=>(List.mem_append.1 hz).elim (hq z) (fun e=>by simp at e;subst e;exact hb),box_later bR hb1⟩,box_later bL hb1⟩,box_later b5 hb1⟩,box_later bI hb1⟩,blk_later bX hb1⟩,blk_later hK hb1⟩,⟨below_row hB (Nat.le_refl _) hb1,hE.trans (KpE.below hb1)⟩,hF.trans (keeps_below hb1)⟩
      | true =>
       have hb:pairS l0 x y=false:=by rw [hP,hb0];rfl
       replace HJ:=HJ.trans (congrArg some hb0);clear hP hb0;gi_wp2_with (refine⟨trivial,?_⟩;gi_at_call 60;refine (CallsIn.inRound l2 (callsIn_wide.2 (impl_SegMeet.calls 3 _ _ _ _ _ _ _ _ true _ HJ))).mono ?_;rintro e w1 ⟨rfl,hb1⟩;have cR1:=(box_later bR hb1).cell;have fR1:=(box_later bR hb1).frozen);exact⟨(keeps_below hb1).trans ((KeepsOthers.setCell _ _ _).from _),⟨⟨⟨rfl,y,hb⟩,(box_later bR hb1).set _⟩,blk_set (blk_later hK hb1) rfl (box_later bR hb1) _⟩,(below_row hB (Nat.le_refl _) hb1).setCell (p:=⟨w.heap.size+1,0,none⟩) (by simp) _,(hF.trans (keeps_below hb1)).trans ((KeepsOthers.setCell _ _ _).from _)⟩
    have t3:(((x:Nat):Int)==0)=false:=by rw [beq_eq_false_iff_ne];omega
    have hP:pairS l0 x y = !segMeet (sgP (edS l0 x)) (sgP (edS l0 y)):=by unfold pairS;rw [if_neg d1,if_neg d2,if_neg (fun h=>d3 h.1)]
    have HJ:=iSegMeet (k:=3) (by omega) (edS l0 x).f0.f0 (edS l0 x).f0.f1 (edS l0 x).f1.f0 (edS l0 x).f1.f1 (edS l0 y).f0.f0 (edS l0 y).f0.f1 (edS l0 y).f1.f0 (edS l0 y).f1.f1
    cases hb0:segMeet (sgP (edS l0 x)) (sgP (edS l0 y)) with
    | false =>
     have hb:pairS l0 x y=true:=by rw [hP,hb0];rfl
     replace HJ:=HJ.trans (congrArg some hb0);clear hP hb0;gi_wp2_with (refine⟨trivial,?_⟩;gi_at_call 60;refine (CallsIn.inRound l2 (callsIn_wide.2 (impl_SegMeet.calls 3 _ _ _ _ _ _ _ _ false _ HJ))).mono ?_;rintro e w1 ⟨rfl,hb1⟩;have cR1:=(box_later bR hb1).cell;have fR1:=(box_later bR hb1).frozen);exact⟨keeps_below hb1,KpE.below hb1,⟨⟨⟨⟨⟨⟨fun z hz=>(List.mem_append.1 hz).elim (hq z) (fun e=>by simp at e;subst e;exact hb),box_later bR hb1⟩,box_later bL hb1⟩,box_later b5 hb1⟩,box_later bI hb1⟩,blk_later bX hb1⟩,blk_later hK hb1⟩,⟨below_row hB (Nat.le_refl _) hb1,hE.trans (KpE.below hb1)⟩,hF.trans (keeps_below hb1)⟩
    | true =>
     have hb:pairS l0 x y=false:=by rw [hP,hb0];rfl
     replace HJ:=HJ.trans (congrArg some hb0);clear hP hb0;gi_wp2_with (refine⟨trivial,?_⟩;gi_at_call 60;refine (CallsIn.inRound l2 (callsIn_wide.2 (impl_SegMeet.calls 3 _ _ _ _ _ _ _ _ true _ HJ))).mono ?_;rintro e w1 ⟨rfl,hb1⟩;have cR1:=(box_later bR hb1).cell;have fR1:=(box_later bR hb1).frozen);exact⟨(keeps_below hb1).trans ((KeepsOthers.setCell _ _ _).from _),⟨⟨⟨rfl,y,hb⟩,(box_later bR hb1).set _⟩,blk_set (blk_later hK hb1) rfl (box_later bR hb1) _⟩,(below_row hB (Nat.le_refl _) hb1).setCell (p:=⟨w.heap.size+1,0,none⟩) (by simp) _,(hF.trans (keeps_below hb1)).trans ((KeepsOthers.setCell _ _ _).from _)⟩
   case done3 =>
    rintro ys' W' rfl ⟨⟨⟨⟨⟨⟨⟨hq,bR⟩,bL⟩,b5⟩,bI⟩,bX⟩,hK⟩,⟨hB,hE⟩,hF⟩;gi_wp2;exact⟨hF,hE,⟨⟨⟨⟨fun z hz j hj=>(List.mem_append.1 hz).elim (fun hm=>hp z hm j hj) (fun e=>by simp at e;subst e;exact hq ⟨j,hj⟩ (List.mem_finRange _)),bR⟩,bL⟩,b5⟩,hK⟩,hB⟩
   case stop3 =>
    rintro c pre' W' hpre ⟨⟨⟨⟨rfl,y,hy⟩,bR⟩,hK⟩,hB,hF⟩;gi_wp2;exact⟨hF,⟨⟨⟨rfl,x,y,x.2,y.2,hy⟩,bR⟩,hK⟩,hB⟩
  case stop2 =>
   rintro D2 c pre W hD2 _ ⟨⟨⟨⟨rfl,i,j,hi,hj,hs⟩,bR1⟩,hK⟩,hB1⟩ hK2;obtain rfl:r=false:=by
    cases r with
    | false=>rfl
    | true=>have:=(hS'.out.1 rfl).2.2.2 i j hi hj;rw [hs] at this;cases this
   gi_wp2;have hD1:∀ E∈[D2,D],W.heap[E]?=some (.deferred (some [])):=by
    intro E hE;simp at hE
    rcases hE with rfl | rfl
    ·
     exact hK2
    ·
     exact hK
   refine leavesM_marks [D2,D] W (by simp;omega) hD1 (fun w' h1 h2 h3 h4 h5=>?_);have hc5:=(marks_boxed bR1 hD1 h1).cell;refine⟨.bool false,?_,rfl,marks_below hB1 (by simp;omega) h1 h2 h3 h4 h5⟩;simp [results,Tryz.f40,go_sem,hc5]
  case done2 =>
   rintro D2 ys W hD2 rfl ⟨⟨⟨⟨⟨hp,bR1⟩,bL1⟩,b5⟩,hK⟩,hB1⟩ hK2;obtain rfl:r=true:=hS'.out.2 ⟨by omega,by omega,hok,fun i j hi hj=>hp ⟨i,hi⟩ (List.mem_finRange _) j hj⟩;have cR:=bR1.cell;have fR:=bR1.frozen;gi_wp2;have hD1:∀ E∈[D2,D],(W.setCell ⟨w.heap.size+1,0,none⟩ (.bool true)).heap[E]?=some (.deferred (some [])):=by
    intro E hE;simp at hE
    rcases hE with rfl | rfl
    ·
     exact blk_set hK2 rfl bR1 _
    ·
     exact blk_set hK rfl bR1 _
   refine leavesM_marks [D2,D] _ (by simp;omega) hD1 (fun w' h1 h2 h3 h4 h5=>?_);have hc5:=(marks_boxed (bR1.set (.bool true)) hD1 h1).cell;refine⟨.bool true,?_,rfl,marks_below (hB1.setCell (p:=⟨w.heap.size+1,0,none⟩) (by simp) _) (by simp;omega) h1 h2 h3 h4 h5⟩;simp [results,Tryz.f40,go_sem,hc5]
end Go.Proofs.YtailkppkjhkjpaaGreatDoor.X
end
section
set_option linter.unusedVariables false
set_option linter.unusedSimpArgs false
namespace Go.Proofs.YtailkppkjhkjpaaGreatDoor.X
open Go.RowKit Go.Shelf Go.Proofs.YtailkppkjhkjpaaGreatDoorW.PrintWords Go.Proofs.YtailkppkjhkjpaaGreatDoorW.PrintLast Go.Proofs.YtailkppkjhkjpaaGreatDoorW.PrintMore
def CellsKept (W W':World):Prop:=∀ (k:Nat) (cs:Array Value) (t:TypeId) (fr:Nat × Nat),W.heap[k]?=some (Obj.cells cs t fr)→W'.heap[k]?=some (Obj.cells cs t fr)
theorem CellsKept.grown {W W':World}{row:Option Nat}(hg:W.grownBy W' row)(hr:∀ r,row=some r→∃ o,W.heap[r]?=some o∧o.isCells=false):CellsKept W W':=fun k cs t fr h =>
 (hg.block k (Array.getElem?_eq_some_iff.1 h).1 (fun e=>by obtain⟨o,ho,hc⟩:=hr k e.symm;rw [h] at ho;cases ho;cases hc)).trans h
theorem CellsKept.marks {W W':World}{Ds:List Nat}(hD:∀ D∈Ds,W.heap[D]?=some (.deferred (some [])))(h1:∀ k,k ∉ Ds→W'.heap[k]?=W.heap[k]?):CellsKept W W':=fun k cs t fr h =>
 (h1 k (fun e=>by have:=(hD k e).symm.trans h;cases this)).trans h
theorem CellsKept.below {W W':World}(hb:Below W.heap.size W W'):CellsKept W W':=fun k cs t fr h=>blk_later h hb
theorem Built.kept {w W W':World}{n₀ bb:Nat}{bs:List Nat}{A0:Option Addr}{c0:Nat}{o:List S70}{H:List (List S70)}{v:Value}(h:Built w W n₀ bb bs A0 c0 o H v)(k:CellsKept W W'):Built w W' n₀ bb bs A0 c0 o H v:=
 ⟨k _ _ _ _ h.body,h.lo,h.len,h.nd,fun j hj=>by obtain⟨l,A,c,k1,k2,k3⟩:=h.ring j hj;exact⟨l,A,c,k _ _ _ _ k1,k2,k3⟩⟩
theorem R_kept {α:Type}{d:Kd α}{e:Nat}{W W':World}{base:Nat}{ok:Nat→Prop}{v:Value}{xs:List α}(h:d.R e W base ok v xs)(k:CellsKept W W'):d.R e W' base ok v xs:=
 Kd.R_mono (Kd.R_move (Kd.R_bound h) (fun j hj=>by obtain⟨_,_,_,q,_,cells,hc⟩:=hj;exact (k _ _ _ _ hc).trans hc.symm)) (fun _ hk=>hk.1)
theorem box_kept {W W':World}{B:Nat}{t:TypeId}{v:Value}(h:Boxed W B t v)(k:CellsKept W W'):Boxed W' B t v:=k _ _ _ _ h
theorem R_ne {W:World}{base:Nat}{ok:Nat→Prop}{v:Value}{xs:List S83}(h:Kd.R k83 83 W base ok v xs){g t:Nat}{cs:Array Value}(hg:W.heap[g]?=some (.cells cs t (0,0)))(ht:t≠83):some g≠v.ownBlock:=fun e=>by
 obtain⟨_,inner,ho,_⟩:=h;obtain⟨cells,hc⟩:=own_typed ho g e.symm;rw [hg] at hc;injection hc with hc;injection hc with _ hc;exact ht hc
theorem R_lo {W:World}{base:Nat}{ok:Nat→Prop}{v:Value}{xs:List S83}(h:Kd.R k83 83 W base ok v xs){k:Nat}(hk:v.ownBlock=some k):base≤k:=by
 obtain⟨_,inner,ho,_⟩:=h;exact own_base ho k hk
theorem R_hi {W:World}{base:Nat}{ok:Nat→Prop}{v:Value}{xs:List S83}(h:Kd.R k83 83 W base ok v xs){k:Nat}(hk:v.ownBlock=some k):k<W.heap.size:=by
 obtain⟨_,inner,ho,_⟩:=h;exact own_lt ho k hk
theorem R_nc {W:World}{base:Nat}{ok:Nat→Prop}{v:Value}{xs:List S83}(h:Kd.R k83 83 W base ok v xs){k:Nat}{ob:Obj}(hk:W.heap[k]?=some ob)(hc:ob.isCells=false):some k≠v.ownBlock:=fun e=>by
 obtain⟨_,inner,ho,_⟩:=h;obtain⟨cells,hcs⟩:=own_typed ho k e.symm;rw [hk] at hcs;cases hcs;cases hc
theorem R_body {W:World}{base:Nat}{v:Value}{xs:List S83}{bb:Nat}{cs:Array Value}(h:Kd.R k83 83 W base (fun _=>True) v xs)(hb:W.heap[bb]?=some (.cells cs 58 (0,0)))(u:Value):Kd.R k83 83 (W.setCell ⟨bb,2,none⟩ u) base (fun _=>True) v xs:=
 Kd.R_mono (Kd.R_far (Kd.R_types h hb (by decide)) (fun k hk=>hk.2) u) (fun _ _=>trivial)
theorem Built.rings {w W:World}{n₀ bb:Nat}{bs:List Nat}{A0:Option Addr}{c0:Nat}{o:List S70}{H:List (List S70)}{v:Value}(h:Built w W n₀ bb bs A0 c0 o H v)(ho:Kd.C k70 w A0 o.length o)(i:Nat)(hi:i<(o::H).length):
  ∃ A c,W.cell? ⟨(bb::bs).getD i 0,0,none⟩=some (.slice A ((o::H).getD i []).length c)∧W.cell? ⟨(bb::bs).getD i 0,1,none⟩=some (.pointer (ptrAt (bb::bs) (i+1)))∧Kd.C k70 w A ((o::H).getD i []).length ((o::H).getD i []):=by
 cases i with
 | zero=>exact⟨A0,c0,(blk_cell h.body 0).trans rfl,(blk_cell h.body 1).trans rfl,ho⟩
 | succ i =>
  obtain⟨l,A,c,k1,k2,k3⟩:=h.ring i (by simpa using hi);exact⟨A,c,(blk_cell k1 0).trans rfl,(blk_cell k1 1).trans rfl,k2⟩
theorem Built.put {w W w1:World}{n₀ bb:Nat}{bs:List Nat}{A0:Option Addr}{c0:Nat}{o:List S70}{H:List (List S70)}{v v1:Value}(h:Built w W n₀ bb bs A0 c0 o H v)(hg:W.grownBy w1 v.ownBlock)
  (hne:∀ (g:Nat) (t:TypeId) (cs:Array Value),W.heap[g]?=some (Obj.cells cs t (0,0))→t≠83→some g≠v.ownBlock):Built w (w1.setCell ⟨bb,2,none⟩ v1) n₀ bb bs A0 c0 o H v1:=by
 have hk:∀ (g:Nat) (t:TypeId) (cs:Array Value),W.heap[g]?=some (Obj.cells cs t (0,0))→t≠83→w1.heap[g]?=some (Obj.cells cs t (0,0)):=fun g t cs hgc ht=>(hg.block g (Array.getElem?_eq_some_iff.1 hgc).1 (hne g t cs hgc ht)).trans hgc
 refine⟨blk_put (cs:=#[.slice A0 o.length c0,.pointer (ptrAt bs 0),v]) (hk _ _ _ h.body (by decide)) 2 v1 rfl,h.lo,h.len,h.nd,fun j hj=>?_⟩;obtain⟨l,A,c,k1,k2,k3⟩:=h.ring j hj;refine⟨l,A,c,?_,k2,k3⟩;rw [Below.heap_setCell _ ⟨bb,2,none⟩ _ _ ?_]
 ·
  exact hk _ _ _ k1 (by decide)
 ·
  intro e;have:=h.nd;rw [List.nodup_cons] at this;refine this.1 ?_;rw [← (show bs.getD j 0=bb from e),getD_lt (by rw [h.len];exact hj)];exact List.getElem_mem _
end Go.Proofs.YtailkppkjhkjpaaGreatDoor.X
end
section
set_option linter.unusedVariables false
set_option linter.unusedSimpArgs false
namespace Go.Proofs.YtailkppkjhkjpaaGreatDoor.X
open Go.RowKit Go.Shelf Go.Proofs.YtailkppkjhkjpaaGreatDoorW.PrintWords Go.Proofs.YtailkppkjhkjpaaGreatDoorW.PrintLast Go.Proofs.YtailkppkjhkjpaaGreatDoorW.PrintMore
open Mort (edges segMeet loopOk ptOk inOf)
attribute [local go_sem] Oper.semAt_some
def bodyOkB (o:List S70)(H:List (List S70)):Bool:=
  decide (H.length≤2) && (loopOk (o.map ptP) && (H.all (fun z=>loopOk (z.map ptP)) && (apartAll (o::H) && nestedAll o H)))
def edgesS (z:List S70):List S83:=(List.finRange z.length).map fun (i:Fin z.length)=>edS z (i:Nat)
def allEdges (R:List (List S70)):List S83:=R.flatMap edgesS
theorem allEdges_len {R:List (List S70)}(h:Small R):(allEdges R).length≤8*R.length:=by
  induction R with
  | nil=>simp [allEdges]
  | cons z R ih =>
    have h1:=ih (fun u hu=>h u (List.mem_cons_of_mem _ hu));have h2:=(h z List.mem_cons_self).2;unfold allEdges at h1 ⊢
    rw [List.flatMap_cons,List.length_append];have h3:(edgesS z).length=z.length:=by simp [edgesS]
    rw [h3,List.length_cons];omega
theorem at_row {w:World}{A:Option Addr}{n:Nat}{xs:List (List S70)}(h:Kd.C (Kd.slice 70 k70) w A n xs)(i:Nat)(h1:i<n):
    ∃ ad A0 c0,A=some ad∧w.cell? (ad.add i)=some (.slice A0 (xs.getD i []).length c0)∧(xs.getD i []).length≤c0∧k70.C w A0 (xs.getD i []).length (xs.getD i []):=by
  obtain⟨ad,c,e,_,hK,hc0⟩:=Kd.C_get h ([]:List S70) (i:Int) (by omega) (by omega);have hc:∀ j u,c[j]?=some u→w.cell? (ad.add (i*1+j))=some u:=hc0;obtain⟨A0,c0,rfl,l0,g0⟩:=hK;exact⟨ad,A0,c0,e,by have hq:=hc 0 _ rfl;rwa [Nat.mul_one,Nat.add_zero] at hq,l0,g0⟩
def BodyRes (o:List S70)(H:List (List S70))(w:World)(e:Ending)(w':World):Prop:=
  ∃ b bs v,e=.returned (.tuple #[.pointer (some ⟨b,0,none⟩),.bool true])∧BodyAt w' b bs o H∧w'.cell? ⟨b,2,none⟩=some v∧Kd.R k83 83 w' w.heap.size (fun _=>True) v (allEdges (o::H))∧Below w.heap.size w w'
def NoBody (w:World)(e:Ending)(w':World):Prop:=e=.returned (.tuple #[.pointer none,.bool false])∧Below w.heap.size w w'
def BodyPost (o:List S70)(H:List (List S70))(w:World)(r:Bool)(e:Ending)(w':World):Prop:=(r=true→BodyRes o H w e w')∧(r=false→NoBody w e w')
set_option maxHeartbeats 8000000 in
set_option maxRecDepth 100000 in
theorem bodyOf_calls (A0:Option Addr)(c0:Nat)(o:List S70)(AH:Option Addr)(cH:Nat)(H:List (List S70))(r:Bool)(w:World)(hr0:Kd.C k70 w A0 o.length o)(hc0:o.length≤c0)
    (hr1:Kd.C (Kd.slice 70 k70) w AH H.length H) (hc1:H.length≤cH) (h:bodyOkB o H=r) :
    Calls Tryz.prog 23 #[.agg #[.slice A0 o.length c0,.slice AH H.length cH]] w (BodyPost o H w r):=by
  have HR:=Aside0.mk h;clear h;have hu26:=Tryz.underlying27;refine (callsIn_wide (n:=9)).1 ?_;refine callsIn_of_wp_marks Tryz.func23 rfl trivial ?_ rfl;simp only [Tryz.ntmps23,List.size_toArray,List.length_cons,List.length_nil,Nat.reduceAdd,Nat.reduceSub,Array.replicate_succ,Array.replicate_zero,List.push_toArray,List.append_toArray,List.nil_append,List.cons_append];have bP:=World.alloc_heap_new w (.cells #[.slice A0 o.length c0,.slice AH H.length cH] 27 (0,0));have cP0:(w.alloc (.cells #[.slice A0 o.length c0,.slice AH H.length cH] 27)).cell? ⟨w.heap.size,0,none⟩=some (.slice A0 o.length c0):=(blk_cell bP 0).trans rfl;have cP1:(w.alloc (.cells #[.slice A0 o.length c0,.slice AH H.length cH] 27)).cell? ⟨w.heap.size,1,none⟩=some (.slice AH H.length cH):=(blk_cell bP 1).trans rfl;have hB0:=below_alloc (Below.refl w.heap.size w) (.cells #[.slice A0 o.length c0,.slice AH H.length cH] 27);by_cases h2:2<H.length
  · have b1:decide (2<(H.length:Int))=true:=decide_eq_true (by omega)
    obtain rfl:r=false:=by rw [← HR.out];unfold bodyOkB;rw [decide_eq_false (by omega)];rfl
    gi_wp2;refine⟨trivial,?_⟩;gi_wp2;refine⟨.tuple #[.pointer none,.bool false],?_,fun h=>(by cases h),fun _=>⟨rfl,hB0⟩⟩;simp [results,Tryz.f23,go_sem]
  have b1:decide (2<(H.length:Int))=false:=decide_eq_false (by omega)
  cases hlo:loopOk (o.map ptP) with
  | false =>
    obtain rfl:r=false:=by rw [← HR.out];unfold bodyOkB;rw [hlo];simp
    have HL:impl_LoopOk.f o=some false:=congrArg some hlo;clear hlo;gi_wp2_with (refine⟨trivial,?_⟩;gi_at_call 40;refine (callsIn_wide.2 (impl_LoopOk.calls A0 c0 o false _ (Kd.C_below hr0 hB0) hc0 HL)).mono ?_;rintro e w1 ⟨rfl,hb⟩);refine⟨.tuple #[.pointer none,.bool false],?_,fun h=>(by cases h),fun _=>⟨rfl,below_step hB0 hb⟩⟩;simp [results,Tryz.f23,go_sem]
  | true =>
    have HL:impl_LoopOk.f o=some true:=congrArg some hlo;have HLO:=Aside0.mk hlo;clear hlo;gi_wp2_with (refine⟨trivial,?_⟩;gi_at_call 40;refine (callsIn_wide.2 (impl_LoopOk.calls A0 c0 o true _ (Kd.C_below hr0 hB0) hc0 HL)).mono ?_;rintro e w1 ⟨rfl,hb⟩;have dP0:=pw_cell_below hb cP0;have dP1:=pw_cell_below hb cP1;have dB1:=below_step hB0 hb;have eB:=below_alloc (below_alloc (Below.refl w1.heap.size w1) (.cells #[.slice A0 o.length c0,.pointer none,.slice none 0 0] 58)) (.cells #[.pointer (some ⟨w1.heap.size,0,none⟩)] 47);have eP1:=pw_cell_below eB dP1);have bV:=Boxed.new (w1.alloc (.cells #[.slice A0 o.length c0,.pointer none,.slice none 0 0] 58)) 47 (.pointer (some ⟨w1.heap.size,0,none⟩));simp only [World.size_alloc] at bV;have hBd:Built w ((w1.alloc (.cells #[.slice A0 o.length c0,.pointer none,.slice none 0 0] 58)).alloc (.cells #[.pointer (some ⟨w1.heap.size,0,none⟩)] 47)) w.heap.size w1.heap.size [] A0 c0 o [] (.slice none 0 0):=
      ⟨blk_alloc' (World.alloc_heap_new w1 _) _,dB1.size,rfl,by simp,fun j hj=>by simp at hj⟩
    have hP1:=blk_later (blk_later bP hb) eB;have hB1:=below_step dB1 eB;have hn1:=dB1.size;clear eP1 eB dB1 dP0 dP1 hb bP cP0 cP1 hB0;obtain⟨W1,hW1⟩:∃ W1,(w1.alloc (.cells #[.slice A0 o.length c0,.pointer none,.slice none 0 0] 58)).alloc (.cells #[.pointer (some ⟨w1.heap.size,0,none⟩)] 47)=W1:=⟨_,rfl⟩;rw [hW1] at bV hBd hP1 hB1 ⊢
    clear hW1;generalize w1.heap.size=bb at *;gi_loopw [5,32] (fun v5 v32 wr=>∃ (i lb:Nat),v5=.pointer (some ⟨lb,0,none⟩)∧v32=.int .i64 i∧i≤H.length∧Aside0 (∃ bs,lb=lastOf bb bs∧Built w wr w.heap.size bb bs A0 c0 o (H.take i) (.slice none 0 0)∧Boxed wr (bb+1) 47 (.pointer (some ⟨bb,0,none⟩))∧(∀ z∈H.take i,loopOk (z.map ptP)=true)∧wr.heap[w.heap.size]?=some (.cells #[.slice A0 o.length c0,.slice AH H.length cH] 27 (0,0))∧Below w.heap.size w wr))
      (fun _ v32 _=>H.length-(intOf v32).toNat)
    case atStart=>exact⟨0,bb,rfl,rfl,Nat.zero_le _,⟨[],rfl,by rw [List.take_zero];exact hBd,bV,by simp,hP1,hB1⟩⟩
    case round =>
      obtain⟨i,lb,rfl,rfl,hi,HI⟩:=hrel;obtain⟨bs,hlb,hBd,bV,hok,hP,hB⟩:=HI.out;clear HI hB1;by_cases hlt:i<H.length
      · obtain⟨ad,A',c',hAH,hx,hzc,hzC⟩:=at_row hr1 i hlt
        subst hAH;have hxr:wr.cell? (ad.add i)=some (.slice A' (H.getD i []).length c'):=pw_cell_below hB hx;have hzW:=Kd.C_below hzC hB;have hz:H.getD i []=H[i]:=getD_lt hlt;have htk:H.take (i+1)=H.take i++[H.getD i []]:=by rw [hz];exact List.take_succ_eq_append_getElem hlt
        have hHm:H.getD i []∈H:=by rw [hz];exact List.getElem_mem _
        generalize H.getD i []=z at *;have HT:=a0_ (And.intro htk (And.intro hHm (And.intro hBd (And.intro bV (And.intro hok (And.intro hP (And.intro hB hlb)))))));clear htk hHm hBd bV hok hP hlb hz hx
        cases hlz:loopOk (z.map ptP) with
        | false =>
          obtain rfl:r=false:=by
            rw [← HR.out];unfold bodyOkB;rw [show H.all (fun z=>loopOk (z.map ptP))=false from List.all_eq_false.2 ⟨z,HT.out.2.1,by rw [hlz];simp⟩];simp
          have HZ:impl_LoopOk.f z=some false:=congrArg some hlz;clear hlz;gi_wp2_with (refine⟨trivial,?_⟩;gi_at_call 40;refine (callsIn_wide.2 (impl_LoopOk.calls A' c' z false _ hzW hzc HZ)).mono ?_;rintro e w2 ⟨rfl,hb⟩);refine⟨.tuple #[.pointer none,.bool false],?_,fun h=>(by cases h),fun _=>⟨rfl,below_step hB hb⟩⟩;simp [results,Tryz.f23,go_sem]
        | true =>
          have HZ:impl_LoopOk.f z=some true:=congrArg some hlz;have HLZ:=Aside0.mk hlz;clear hlz;have hlast:∃ (y:Value) (cs:List Value) (t:TypeId),wr.heap[lb]?=some (.cells (#[y,.pointer none]++cs.toArray) t (0,0))∧w.heap.size≤lb:=by
            rw [HT.out.2.2.2.2.2.2.2];exact HT.out.2.2.1.last_cells
          obtain⟨y,cs,t,hobj,hlo⟩:=hlast
          gi_wp2_with (refine⟨trivial,?_⟩;gi_at_call 40;refine (callsIn_wide.2 (impl_LoopOk.calls A' c' z true _ hzW hzc HZ)).mono ?_;rintro e w2 ⟨rfl,hb⟩
                       have hob2:=blk_alloc' (blk_later hobj hb) (.cells #[.slice A' z.length c',.pointer none] 55);have s1:(w2.alloc (.cells #[.slice A' z.length c',.pointer none] 55)).cell? ⟨lb,1,none⟩=some (.pointer none):=(blk_cell hob2 1).trans (by simp);have s2:=blk_frozen hob2 1
                       have s3:((w2.alloc (.cells #[.slice A' z.length c',.pointer none] 55)).setCell ⟨lb,1,none⟩ (.pointer (some ⟨w2.heap.size,0,none⟩))).cell? ⟨lb,1,none⟩=some (.pointer (some ⟨w2.heap.size,0,none⟩)):=World.cell?_setCell_same' _ _ _ (by rw [s1];rfl))
          obtain⟨htk,hHm,hBd,bV,hok,hP,hB',hlb⟩:=HT.out;have hne1:bb+1≠lb:=by
            intro e;have h1:=hobj;rw [← e,show wr.heap[bb+1]?=_ from bV] at h1;have h2:=congrArg (fun (u:Option Obj)=>match u with | some (.cells a _ _)=>a.size | _=>0) h1;simp at h2
          have hne2:w.heap.size≠lb:=by
            intro e;have h1:=hobj;rw [← e,hP] at h1;have h2:=congrArg (fun (u:Option Obj)=>match u with | some (.cells a _ _)=>a[1]? | _=>none) h1;simp at h2
          have hbd2:=(hBd.later hb).push A' c' z hzC hzc (Nat.le_trans hB.size hb.size);rw [← hlb,← htk] at hbd2;refine⟨⟨i+1,w2.heap.size,rfl,by simp,by omega,⟨bs++[w2.heap.size],(lastOf_snoc bb _ bs).symm,hbd2,?_,?_,?_,?_⟩⟩,by simp [intOf];omega⟩
          · exact (Below.heap_setCell _ ⟨lb,1,none⟩ _ _ hne1).trans ((box_later bV hb).alloc _)
          · intro u hu
            rw [htk] at hu
            rcases List.mem_append.1 hu with hu | hu
            · exact hok u hu
            · simp at hu;subst hu;exact HLZ.out
          · rw [Below.heap_setCell _ ⟨lb,1,none⟩ _ _ hne2];exact blk_alloc' (blk_later hP hb) _
          · exact (below_alloc (below_step hB hb) _).setCell (p:=⟨lb,1,none⟩) hlo _
      · obtain rfl:i=H.length:=by omega
        rw [List.take_length] at hBd hok;have hBA:=hBd.bodyAt hB hr0 hc0;have hsm:Small (o::H):=fun z hz=>by
          have:loopOk (z.map ptP)=true:=by
            rcases List.mem_cons.1 hz with e | hz
            · rw [e];exact HLO.out
            · exact hok z hz
          obtain⟨h3,h8,_⟩:=(Mort.loopOk_iff _).1 this;rw [List.length_map] at h3 h8;exact⟨by omega,h8⟩
        have hRr:r=(apartAll (o::H) && nestedAll o H):=by
          rw [← HR.out];unfold bodyOkB;rw [decide_eq_true (by omega),HLO.out,List.all_eq_true.2 hok];rfl
        have HT:=a0_ (And.intro hBd (And.intro hok (And.intro hP (And.intro hB (And.intro hlb (And.intro hBA (And.intro hsm hRr)))))));have cV:=bV.cell;clear hBd hok hP hB hlb hBA hsm hRr HR hlt hi
        cases hap:apartAll (o::H) with
        | false =>
          gi_wp2_with (refine⟨trivial,?_⟩;gi_at_call 41;refine (callsIn_wide.2 (apart_calls bb (o::H) false _ HT.out.2.2.2.2.2.1.rings HT.out.2.2.2.2.2.2.1 hap)).mono ?_;rintro e w2 ⟨rfl,hb⟩);obtain rfl:r=false:=by rw [HT.out.2.2.2.2.2.2.2,hap];rfl
          refine⟨trivial,?_⟩;gi_wp2;refine⟨.tuple #[.pointer none,.bool false],?_,fun h=>(by cases h),fun _=>⟨rfl,below_step HT.out.2.2.2.1 hb⟩⟩;simp [results,Tryz.f23,go_sem]
        | true =>
          cases hne:nestedAll o H with
          | false =>
            gi_wp2_with (first
              | (refine⟨trivial,?_⟩;gi_at_call 41;refine (callsIn_wide.2 (apart_calls bb (o::H) true _ HT.out.2.2.2.2.2.1.rings HT.out.2.2.2.2.2.2.1 hap)).mono ?_;rintro e w2 ⟨rfl,hb⟩;have cV2:=(box_later bV hb).cell)
              | (refine⟨trivial,?_⟩;gi_at_call 42;refine (callsIn_wide.2 (nested_calls bb _ o H false _ (HT.out.2.2.2.2.2.1.later hb) HLO.out HT.out.2.1 hne)).mono ?_;rintro e w3 ⟨rfl,hb2⟩))
            obtain rfl:r=false:=by rw [HT.out.2.2.2.2.2.2.2,hap,hne];rfl
            refine⟨.tuple #[.pointer none,.bool false],?_,fun h=>(by cases h),fun _=>⟨rfl,below_step (below_step HT.out.2.2.2.1 hb) hb2⟩⟩;simp [results,Tryz.f23,go_sem]
          | true =>
            gi_wp2_with (first
              | (refine⟨trivial,?_⟩;gi_at_call 41;refine (callsIn_wide.2 (apart_calls bb (o::H) true _ HT.out.2.2.2.2.2.1.rings HT.out.2.2.2.2.2.2.1 hap)).mono ?_;rintro e w2 ⟨rfl,hb⟩;have cV2:=(box_later bV hb).cell)
              | (refine⟨trivial,?_⟩;gi_at_call 42;refine (callsIn_wide.2 (nested_calls bb _ o H true _ (HT.out.2.2.2.2.2.1.later hb) HLO.out HT.out.2.1 hne)).mono ?_;rintro e w3 ⟨rfl,hb2⟩;have cV3:=(box_later (box_later bV hb) hb2).cell))
            have hw3:=below_step (below_step HT.out.2.2.2.1 hb) hb2;have hBd3:=(HT.out.1.later hb).later hb2;have bV3:=box_later (box_later bV hb) hb2;have hr:r=true:=by rw [HT.out.2.2.2.2.2.2.2,hap,hne];rfl
            subst hr;have hLen:=HT.out.2.2.2.2.2.2.1;clear hb hb2 cV3 bV hap hne cV
            obtain⟨I,hI⟩:∃ I:Act→World→Prop,Aside0 (I=fun a W=>∃ (i:Nat) (x61 x62 x63 x64 x65 x66 x67 x68 x69 x70 x71:Value) (Ds:List Nat),a={ tmps:=#[.agg #[.slice A0 o.length c0,.slice AH H.length cH],.pointer (some ⟨w.heap.size,0,none⟩),u2,u3,.pointer (some ⟨bb+1,0,none⟩),.pointer (some ⟨lb,0,none⟩),undef,u7,.pointer (ptrAt (bb::bs) i),undef,undef,.pointer (some ⟨w.heap.size,1,none⟩),.slice AH H.length cH,.int .i64 (H.length:Int),.bool false,.bool false,.pointer (some ⟨w.heap.size,0,none⟩),.slice A0 o.length c0,.bool true,.bool false,.bool false,.pointer (some ⟨w.heap.size,0,none⟩),.slice A0 o.length c0,.agg #[.slice A0 o.length c0,.pointer none],.agg #[.slice A0 o.length c0,.pointer none,.slice none 0 0],.pointer (some ⟨bb,0,none⟩),.pointer (some ⟨bb,0,none⟩),.pointer (some ⟨bb,0,none⟩),.pointer (some ⟨bb,0,none⟩),.pointer (some ⟨w.heap.size,1,none⟩),.slice AH H.length cH,.int .i64 (H.length:Int),.int .i64 (H.length:Int),.bool false,u34,u35,u36,u37,u38,u39,u40,u41,u42,u43,u44,u45,u46,u47,u48,u49,.pointer (some ⟨bb,0,none⟩),.bool true,.bool false,.bool false,.pointer (some ⟨bb,0,none⟩),.bool true,.bool false,.bool false,.pointer (some ⟨bb,0,none⟩),.pointer (some ⟨bb,0,none⟩),.pointer (some ⟨bb,0,none⟩),x61,x62,x63,x64,x65,x66,x67,x68,x69,x70,x71,undef,undef,undef,undef,undef,undef,undef,undef,undef,undef,undef,undef,undef],defers:=Ds.map mark } ∧
              (∃ v,i≤(o::H).length∧Ds.length=i∧Ds.Nodup∧(∀ D∈Ds,W.heap[D]?=some (.deferred (some []))∧w.heap.size≤D)∧Built w W w.heap.size bb bs A0 c0 o H v∧Kd.R k83 83 W w.heap.size (fun _=>True) v (allEdges ((o::H).take i))∧Boxed W (bb+1) 47 (.pointer (some ⟨bb,0,none⟩))∧Below w.heap.size w W)):=⟨_,⟨rfl⟩⟩
            obtain⟨μ,hμ⟩:∃ μ:Act→World→Nat,Aside0 (μ=fun a _=>(H.length+2)-a.defers.length):=⟨_,⟨rfl⟩⟩;refine wpIn_loop I μ ?_ ?_
            · rw [hI.out]
              exact⟨0,_,_,_,_,_,_,_,_,_,_,_,[],rfl,_,Nat.zero_le _,rfl,by simp,by simp,hBd3,by rw [List.take_zero];exact Kd.R_nil _ _ _ _ _,bV3,hw3⟩
            · intro a W hIa
              rw [hI.out] at hIa;obtain⟨i,x61,x62,x63,x64,x65,x66,x67,x68,x69,x70,x71,Ds,rfl,v,hi,hDl,hDn,hDs,hBd,hE,bV,hB⟩:=hIa;clear hBd3 bV3 hw3;by_cases hlt:i<(o::H).length
              · obtain⟨Az,cz,q1,q2,hz⟩:=hBd.rings hr0 i hlt
                have hzm:(o::H).getD i []∈o::H:=by rw [getD_lt hlt];exact List.getElem_mem _
                have hzs:=hLen _ hzm;have htk:(o::H).take (i+1)=(o::H).take i++[(o::H).getD i []]:=by rw [getD_lt hlt];exact List.take_succ_eq_append_getElem hlt
                have hlen2:(bb::bs).length=(o::H).length:=by simp [hBd.len]
                rw [ptrAt_some (by rw [hlen2];exact hlt)];have hzl:=row_lt hz hzs.1;have HT2:=a0_ (And.intro htk (And.intro hi (And.intro hDl (And.intro hDn hlen2))));clear htk hzm hi hDl hlen2;generalize hzz:(o::H).getD i []=z at *;generalize hrb:(bb::bs).getD i 0=rb at *;have hrb':=Aside0.mk hrb;have hzz':=Aside0.mk hzz;clear hrb hzz;gi_wp2_with (refine⟨trivial,?_⟩;gi_at_call 43;refine (edges_in _ _ _ _ _).mono ?_;rintro e w' ⟨rfl,rfl⟩);have bN:=Boxed.new W 24 (.slice Az z.length cz);have hal:=below_alloc (Below.refl W.heap.size W) (.cells #[.slice Az z.length cz] 24);have hBd4:=hBd.later hal;have hE4:=R_kept hE (CellsKept.below hal);have bV4:=box_later bV hal;have hB4:=below_step hB hal;have hDs4:∀ D∈Ds,(W.alloc (.cells #[.slice Az z.length cz] 24)).heap[D]?=some (.deferred (some []))∧w.heap.size≤D:=fun D hD=>⟨blk_later (hDs D hD).1 hal,(hDs D hD).2⟩
                have hDlt:∀ D∈Ds,D<W.heap.size:=fun D hD=>(Array.getElem?_eq_some_iff.1 (hDs D hD).1).1
                have hsz4:(W.alloc (.cells #[.slice Az z.length cz] 24)).heap.size=W.heap.size+1:=by simp
                have hWn:=hB.size;have hnxt:=q2;clear hBd hE bV hDs;obtain⟨W4,hW4⟩:∃ W4,W.alloc (.cells #[.slice Az z.length cz] 24)=W4:=⟨_,rfl⟩;have q24:=pw_cell_below hal q2;rw [hW4] at bN hBd4 hE4 bV4 hB4 hDs4 hsz4 q24 ⊢
                clear hW4 hal;obtain⟨Bc,hBc⟩:∃ Bc,W.heap.size=Bc:=⟨_,rfl⟩;rw [hBc] at bN hsz4 hWn hDlt ⊢
                refine wpIn_rangeFunc_ownH rfl (by omega) (gf:=63) (lb:=#[.pointer (some ⟨Bc,0,none⟩)]) rfl trivial (enters_of Tryz.func63 (by kernel_rfl) rfl)
                  (edges_stops 8 (by omega) Bc w.heap.size Az cz z (by omega) hzl W4 (by omega) (by omega) bN.cell (Kd.C_below hz hB4)) (fun h k=>KpE.trans h k) (fun W l o o' hl _ _ _=>KpE.putObj W l o' (by omega) (by omega)) (Below.refl _ _) (fun _=>rfl)
                  (fun pre W'=>∃ v',Built w W' w.heap.size bb bs A0 c0 o H v'∧Kd.R k83 83 W' w.heap.size (fun _=>True) v' (allEdges ((o::H).take i)++pre.map fun (j:Fin z.length)=>edS z (j:Nat))∧Boxed W' (bb+1) 47 (.pointer (some ⟨bb,0,none⟩))∧Boxed W' Bc 24 (.slice Az z.length cz)∧(∀ D∈Ds,W'.heap[D]?=some (.deferred (some []))∧w.heap.size≤D)∧Below w.heap.size w W')
                  (fun _ _ _=>False)
                  (fun pre X Y row hs hg hr=>by
                    obtain⟨v',e1,e2,e3,e4,e5,e6⟩:=hs;have hk:=CellsKept.grown hg (fun r e=>(hr r e).2);refine⟨v',e1.kept hk,R_kept e2 hk,box_kept e3 hk,box_kept e4 hk,fun D hD=>⟨(hg.block D (Array.getElem?_eq_some_iff.1 (e5 D hD).1).1 (fun e=>?_)).trans (e5 D hD).1,(e5 D hD).2⟩,e6.grown hg e6.size (fun r e=>by have:=(hr r e).1;omega)⟩;have h1:=(hr D e.symm).1;have h2:=hDlt D hD
                    omega)
                  (fun _ _ _ _ _ hs _ _=>hs)
                  ⟨v,hBd4,by simpa using hE4,bV4,bN,hDs4,hB4⟩
                  (fun y a' W'=>∃ Bt,(W'.heap[Bt]?=some (segObj (edS z y))∧∃ v',W'.cell? ⟨bb,2,none⟩=some v'∧some Bt≠v'.ownBlock)∧a'={ tmps:=#[.agg #[.slice A0 o.length c0,.slice AH H.length cH],.pointer (some ⟨w.heap.size,0,none⟩),u2,u3,.pointer (some ⟨bb+1,0,none⟩),.pointer (some ⟨lb,0,none⟩),undef,u7,.pointer (some ⟨rb,0,none⟩),undef,.pointer (some ⟨Bt,0,none⟩),.pointer (some ⟨w.heap.size,1,none⟩),.slice AH H.length cH,.int .i64 (H.length:Int),.bool false,.bool false,.pointer (some ⟨w.heap.size,0,none⟩),.slice A0 o.length c0,.bool true,.bool false,.bool false,.pointer (some ⟨w.heap.size,0,none⟩),.slice A0 o.length c0,.agg #[.slice A0 o.length c0,.pointer none],.agg #[.slice A0 o.length c0,.pointer none,.slice none 0 0],.pointer (some ⟨bb,0,none⟩),.pointer (some ⟨bb,0,none⟩),.pointer (some ⟨bb,0,none⟩),.pointer (some ⟨bb,0,none⟩),.pointer (some ⟨w.heap.size,1,none⟩),.slice AH H.length cH,.int .i64 (H.length:Int),.int .i64 (H.length:Int),.bool false,u34,u35,u36,u37,u38,u39,u40,u41,u42,u43,u44,u45,u46,u47,u48,u49,.pointer (some ⟨bb,0,none⟩),.bool true,.bool false,.bool false,.pointer (some ⟨bb,0,none⟩),.bool true,.bool false,.bool false,.pointer (some ⟨bb,0,none⟩),.pointer (some ⟨bb,0,none⟩),.pointer (some ⟨bb,0,none⟩),.pointer (some ⟨rb,0,none⟩),.bool true,x63,x64,x65,x66,.pointer (some ⟨rb,0,none⟩),.pointer (some ⟨rb,0,none⟩),.pointer (some ⟨rb,0,none⟩),.slice Az z.length cz,.func (.func 63) #[] #[.pointer (some ⟨Bc,0,none⟩)],.int .i64 ((y:Nat):Int),.agg #[.int .i64 (edS z y).f0.f0,.int .i64 (edS z y).f0.f1,.int .i64 (edS z y).f1.f0,.int .i64 (edS z y).f1.f1],undef,undef,undef,undef,undef,undef,undef,undef,undef,undef,undef],defers:=[] })
                  (fun y a' _ X Y row hs hg hr=>by obtain⟨Bt,⟨e2,v',e4,e5⟩,e3⟩:=hs;exact⟨Bt,⟨segObj_own Bt (edS z y) () X Y row e2 hg (fun r e=>(hr r e).2),v',cell_kept e4 hg (fun r e=>(hr r e).2),e5⟩,e3⟩)
                  ?assign ?body ?done ?stop
                case assign =>
                  rintro l pre y W' K ⟨v',e1,e2,e3,e4,e5,e6⟩ hK;dsimp only [encE,edV];gi_wp2;have hk:=CellsKept.below (below_alloc (Below.refl W'.heap.size W') (segObj (edS z y)));exact hK _ _ ((KeepsOthers.alloc _ _).from _) (KpE.alloc _ _ _ _) ⟨v',e1.kept hk,R_kept e2 hk,box_kept e3 hk,box_kept e4 hk,fun D hD=>⟨blk_alloc' (e5 D hD).1 _,(e5 D hD).2⟩,below_alloc e6 _⟩ ⟨W'.heap.size,⟨World.alloc_heap_new W' _,v',(blk_cell (e1.kept hk).body 2).trans rfl,fun e=>by have:=R_hi e2 e.symm;omega⟩,rfl⟩
                case body =>
                  rintro l pre y a' W5 hl ⟨rr,hrr⟩ ⟨v',hBd5,hE5,bV5,bN5,hDs5,hB5⟩ ⟨Bt,⟨bT,v'',hv1,hv2⟩,rfl⟩ hlt5;have hBtn:some Bt≠v'.ownBlock:=by
                    have h1:W5.cell? ⟨bb,2,none⟩=some v':=(blk_cell hBd5.body 2).trans rfl;rw [h1] at hv1;cases hv1;exact hv2
                  clear hv1 hv2;have t0:W5.drew.cell? ⟨bb+1,0,none⟩=some (.pointer (some ⟨bb,0,none⟩)):=bV5.cell;have t1:W5.drew.cell? ⟨bb,2,none⟩=some v':=(blk_cell hBd5.body 2).trans rfl;have t2:W5.drew.cell? ⟨Bt,0,none⟩=some (.int .i64 (edS z y).f0.f0):=(blk_cell bT 0).trans rfl;have t3:W5.drew.cell? ⟨Bt,1,none⟩=some (.int .i64 (edS z y).f0.f1):=(blk_cell bT 1).trans rfl;have t4:W5.drew.cell? ⟨Bt,2,none⟩=some (.int .i64 (edS z y).f1.f0):=(blk_cell bT 2).trans rfl;have t5:W5.drew.cell? ⟨Bt,3,none⟩=some (.int .i64 (edS z y).f1.f1):=(blk_cell bT 3).trans rfl;have hal:=below_alloc (Below.refl W5.drew.heap.size W5.drew) (.cells #[.int .i64 (edS z y).f0.f0,.int .i64 (edS z y).f0.f1,.int .i64 (edS z y).f1.f0,.int .i64 (edS z y).f1.f1] 83);have hroom:((allEdges ((o::H).take i)++pre.map fun (j:Fin z.length)=>edS z (j:Nat)).length+1)*32≤140737488355328:=by
                    have h1:=allEdges_len (R:=(o::H).take i) (fun u hu=>hLen u (List.mem_of_mem_take hu));have h2:((o::H).take i).length≤3:=by
                      rw [List.length_take];simp only [List.length_cons];omega
                    rw [List.length_append,List.length_map];omega
                  have hu57:=Tryz.underlying56;have hu61:=Tryz.underlying83;gi_wp2;refine region_inRound (l:=l) (S:=fun w'=>w'.cell? ⟨bb+1,0,none⟩=some (.pointer (some ⟨bb,0,none⟩))∧w'.cell? ⟨bb,2,none⟩=some v'∧w'.cell? ⟨Bt,0,none⟩=some (.int .i64 (edS z y).f0.f0)∧w'.cell? ⟨Bt,1,none⟩=some (.int .i64 (edS z y).f0.f1)∧w'.cell? ⟨Bt,2,none⟩=some (.int .i64 (edS z y).f1.f0)∧w'.cell? ⟨Bt,3,none⟩=some (.int .i64 (edS z y).f1.f1)) (ds:=[10]) (bm 11 0) (by kernel_rfl) rfl rfl ?hd ?hno ⟨t0,t1,t2,t3,t4,t5⟩ (fun hHeld=>?_)
                  case hd =>
                    intro k ob hk c hc;have:=Array.mem_of_getElem? hk;simp only [List.mem_toArray,List.mem_cons,List.not_mem_nil,or_false] at this
                    rcases this with h | h | h | h | h | h | h | h | h | h | h <;> (rw [h] at hc;cases hc)
                  case hno=>exact fun⟨a,w,h⟩=>h.elim
                  refine tb6_ 0 74 (bm 11 1) hHeld ?_;refine tb6_ 1 75 (bm 11 3) hHeld ?_;refine pv_ 2 76 (bm 11 7) ?_;refine pv_ 3 77 (bm 11 15) ?_;refine tb6_ 4 78 (bm 11 31) hHeld ?_;refine tb6_ 5 79 (bm 11 63) hHeld ?_;refine one_ (i:=6) (N:=some 80) (bm 11 127) rfl rfl (by kernel_rfl) (by decide) (fun K hK=>?_);refine value_ (w1:=?_) (v:=?_) (by rfl) rfl ?_ ?_;rotate_left 2
                  · go_simp
                    constructor
                    · rfl
                    · rfl
                  refine hK.out _ _ ⟨pw_cell_below hal t0,pw_cell_below hal t1,pw_cell_below hal t2,pw_cell_below hal t3,pw_cell_below hal t4,pw_cell_below hal t5⟩ (fun hHeld=>?_);clear hK K;refine no_ (h:=?_);refine one_ (i:=7) (N:=some 81) (bm 11 255) rfl rfl (by kernel_rfl) (by decide) (fun K hK=>?_);refine Kd.R_append_step k83 (w0:=w) w.heap.size (by rfl) (.tmp 78) (.tmp 80) 56 83 (.agg #[(.int .i64 0),(.int .i64 0),(.int .i64 0),(.int .i64 0)]) 32 rfl Tryz.underlying56 info83 rfl (by decide) (by omega) v' (allEdges ((o::H).take i)++pre.map fun (j:Fin z.length)=>edS z (j:Nat)) (edS z y) [.int .i64 (edS z y).f0.f0,.int .i64 (edS z y).f0.f1,.int .i64 (edS z y).f1.f0,.int .i64 (edS z y).f1.f1] (fun _=>True) (fun _=>False) rfl rfl ?aP (fun _ hk=>hk.elim) (fun _ _=>trivial) (R_kept hE5 (CellsKept.below (below_drew1 (Below.refl _ W5)))) (below_drew1 hB5) (show w.heap.size≤W5.heap.size from hB5.size) ?aL ?_
                  (case aP=>exact k83_mkM _ _ _ (edS z y))
                  (case aL=>exact hroom)
                  intro v1 w6 ho hb6 hg6 hat6;have hne6:∀ (g:Nat) (t:TypeId) (cs:Array Value),W5.drew.heap[g]?=some (Obj.cells cs t (0,0))→t≠83→some g≠v'.ownBlock:=fun g t cs hgc ht=>R_ne hE5 (g:=g) (t:=t) (cs:=cs) hgc ht
                  have keep6:∀ (g:Nat) (t:TypeId) (cs:Array Value),W5.heap[g]?=some (Obj.cells cs t (0,0))→t≠83→w6.heap[g]?=some (Obj.cells cs t (0,0)):=fun g t cs hgc ht=>(hg6.block g (Array.getElem?_eq_some_iff.1 hgc).1 (hne6 g t cs hgc ht)).trans hgc
                  have hbd6:=keep6 _ _ _ hBd5.body (by decide);obtain⟨Aw,cw,ew⟩:=Kd.R_slice ho;generalize (allEdges ((o::H).take i)++(pre.map fun (j:Fin z.length)=>edS z (j:Nat))++[edS z y]).length=n6 at ew;subst ew;have u2:w6.cell? ⟨bb,2,none⟩=some v':=(blk_cell hbd6 2).trans rfl;have u3:=blk_frozen hbd6 2;have hbt6:=(hg6.block Bt (Array.getElem?_eq_some_iff.1 bT).1 hBtn).trans bT;have hbv6:=keep6 _ _ _ bV5 (by decide);refine hK.out _ _ ⟨(blk_cell hbv6 0).trans rfl,u2,(blk_cell hbt6 0).trans rfl,(blk_cell hbt6 1).trans rfl,(blk_cell hbt6 2).trans rfl,(blk_cell hbt6 3).trans rfl⟩ (fun hHeld=>?_);clear hK K;refine no_ (h:=?_);refine pv_ 8 82 (bm 11 511) ?_;refine pv_ 9 83 (bm 11 1023) ?_;refine last_ (i:=10) (N:=none) (bm 11 2047) rfl rfl (by kernel_rfl) (by decide) (fun K hK=>?_);refine skip_ (w1:=?_) (by rfl) rfl ?_ ?_;rotate_left
                  · go_simp
                    rfl
                  refine hK.out _ _ ?_;clear hK K;refine done_ (by kernel_rfl) ?_;have nonc:∀ (k:Nat) (ob:Obj),W5.heap[k]?=some ob→ob.isCells=false→(w6.setCell ⟨bb,2,none⟩ (.slice Aw n6 cw)).heap[k]?=some ob:=fun k ob h1 h2=>by
                    rw [Below.heap_setCell _ ⟨bb,2,none⟩ _ k (by rintro rfl;have e:=h1.symm.trans hBd5.body;cases e;cases h2)];exact (hg6.block k (Array.getElem?_eq_some_iff.1 h1).1 (R_nc hE5 h1 h2)).trans h1
                  have hBcb:Bc≠bb:=by
                    intro e;have h1:=bN5;rw [e] at h1;have h2:=congrArg (fun (u:Option Obj)=>match u with | some (Obj.cells _ t _)=>t | _=>0) ((show W5.heap[bb]?=_ from h1).symm.trans hBd5.body);exact absurd (show (24:Nat)=58 from h2) (by decide)
                  have hsz6:W5.heap.size≤(w6.setCell ⟨bb,2,none⟩ (.slice Aw n6 cw)).heap.size:=by simp only [World.setCell,Array.size_modify];exact hg6.size
                  refine⟨⟨hsz6,fun k ob _ h1 h2=>nonc k ob h1 h2⟩,⟨hsz6,fun k hk hl5=>?_⟩,_,(hBd5.kept (CellsKept.below (below_drew1 (Below.refl W5.heap.size W5)))).put hg6 hne6,?_,?_,?_,fun D hD=>⟨nonc D _ (hDs5 D hD).1 rfl,(hDs5 D hD).2⟩,hb6.setCell (p:=⟨bb,2,none⟩) hBd5.lo _⟩
                  · have hkb:k≠bb:=by
                      rcases hk with hk | rfl
                      · have:=hBd5.lo;omega
                      · exact hBcb
                    rw [Below.heap_setCell _ ⟨bb,2,none⟩ _ k hkb];refine hg6.block k hl5 ?_
                    rcases hk with hk | rfl
                    · intro e;have:=R_lo hE5 e.symm;omega
                    · exact hne6 k _ _ bN5 (by decide)
                  · have:=R_body ho hbd6 (.slice Aw n6 cw)
                    rw [List.map_append,← List.append_assoc];exact this
                  · exact (Below.heap_setCell _ ⟨bb,2,none⟩ _ (bb+1) (by simp)).trans hbv6
                  · exact (Below.heap_setCell _ ⟨bb,2,none⟩ _ Bc hBcb).trans (keep6 _ _ _ bN5 (by decide))
                case done =>
                  rintro D ys W6 hD rfl ⟨v',hBd6,hE6,bV6,bN6,hDs6,hB6⟩ hK6;obtain⟨_,_,_,r2,_⟩:=hBd6.rings hr0 i hlt;rw [hrb'.out] at r2;gi_wp2;obtain⟨k1,k2,k3,k4,k5⟩:=HT2.out;rw [hI.out,hμ.out];refine⟨⟨i+1,_,_,_,_,_,_,_,_,_,_,_,D::Ds,rfl,v',by simp only [List.length_cons] at hlt ⊢;omega,by simp [k3],?_,?_,hBd6,?_,bV6,hB6⟩,?_⟩
                  · rw [List.nodup_cons]
                    exact⟨fun hm=>by have:=hDlt D hm;omega,k4⟩
                  · intro E hE
                    rcases List.mem_cons.1 hE with rfl | hE
                    · exact⟨hK6,by omega⟩
                    · exact hDs6 E hE
                  · rw [k1]
                    unfold allEdges at hE6 ⊢
                    rw [List.flatMap_append]
                    simpa [edgesS] using hE6
                  · simp only [List.length_cons] at hlt
                    simp only [List.length_cons,List.length_map];omega
                case stop =>
                  rintro D c pre W6 _ _ h _;exact h.elim
              · have hiR:i=(o::H).length:=by omega
                have hlen2:(bb::bs).length=(o::H).length:=by simp [hBd.len]
                rw [ptrAt_none (by omega)];have hba:=hBd.bodyAt hB hr0 hc0;rw [hiR,List.take_length] at hE;have cV:=bV.cell;clear hlt hiR hi hDl hlen2;gi_wp2;have hD1:∀ D∈Ds,W.heap[D]?=some (.deferred (some [])):=fun D hD=>(hDs D hD).1
                refine leavesM_marks Ds W hDn hD1 (fun w' h1 h2 h3 h4 h5=>?_);have hk:=CellsKept.marks hD1 h1;have hBd':=hBd.kept hk;have hB':=marks_below hB (fun D hD=>(hDs D hD).2) h1 h2 h3 h4 h5;refine⟨.tuple #[.pointer (some ⟨bb,0,none⟩),.bool true],?_,fun _=>⟨bb,bs,v,rfl,hBd'.bodyAt hB' hr0 hc0,(blk_cell hBd'.body 2).trans rfl,R_kept hE hk,hB'⟩,fun h=>(by cases h)⟩;simp [results,Tryz.f23,go_sem]
end Go.Proofs.YtailkppkjhkjpaaGreatDoor.X
end
section
set_option linter.unusedVariables false
set_option linter.unusedSimpArgs false
namespace Go.Proofs.YtailkppkjhkjpaaGreatDoor.X
open Go.RowKit Go.Shelf Go.Proofs.YtailkppkjhkjpaaGreatDoorW.PrintWords Go.Proofs.YtailkppkjhkjpaaGreatDoorW.PrintLast Go.Proofs.YtailkppkjhkjpaaGreatDoorW.PrintMore
open Mort (edges segMeet loopOk ptOk inOf segOk)
def impl_PlateOk.f (l0_0:List S70)(l0_1:List (List S70)):Option Bool:=some (bodyOkB l0_0 l0_1)
theorem bodyOkB_iff (o:List S70)(H:List (List S70)):bodyOkB o H=true ↔ H.length≤2∧loopOk (o.map ptP)=true∧(∀ z∈H,loopOk (z.map ptP)=true)∧apartAll (o::H)=true∧nestedAll o H=true:=by
 unfold bodyOkB;simp only [Bool.and_eq_true,decide_eq_true_eq,List.all_eq_true]
theorem loop_len {z:List S70}(h:loopOk (z.map ptP)=true):3≤z.length∧z.length≤8:=by
 obtain⟨h1,h2,_⟩:=(Mort.loopOk_iff _).1 h
 simpa using And.intro h1 h2
section
variable (A0_0:Option Addr) (c0_0:Nat) (l0_0:List S70) (A0_1:Option Addr) (c0_1:Nat) (l0_1:List (List S70))
set_option maxHeartbeats 4000000 in
set_option maxRecDepth 100000 in
theorem impl_PlateOk.calls (r:Bool)(w:World)(hr0_0:Kd.C k70 w A0_0 l0_0.length l0_0)(hc0_0:l0_0.length≤c0_0)(hr0_1:Kd.C (Kd.slice 70 k70) w A0_1 l0_1.length l0_1)(hc0_1:l0_1.length≤c0_1)(h:impl_PlateOk.f l0_0 l0_1=some r):
  Calls Tryz.prog 8 #[.agg #[.slice A0_0 l0_0.length c0_0,.slice A0_1 l0_1.length c0_1]] w fun e w'=>e=.returned (.bool r)∧Below w.heap.size w w':=by
 have hu26:=Tryz.underlying27;have hb:bodyOkB l0_0 l0_1=r:=Option.some.inj h;clear h;have hal:=below_alloc (Below.refl w.heap.size w) (.cells #[.slice A0_0 l0_0.length c0_0,.slice A0_1 l0_1.length c0_1] 27);have HK:=a0_ (And.intro (Kd.C_below hr0_0 hal) (And.intro hc0_0 (And.intro (Kd.C_below hr0_1 hal) (And.intro hc0_1 (And.intro hb hal)))));clear hr0_0 hc0_0 hr0_1 hc0_1 hal
 cases r with
 | false =>
  clear hb;go_enter Tryz.func8,Tryz.ntmps8;go_wp2_with (go_at_call 23;refine (bodyOf_calls A0_0 c0_0 l0_0 A0_1 c0_1 l0_1 false _ HK.out.1 HK.out.2.1 HK.out.2.2.1 HK.out.2.2.2.1 HK.out.2.2.2.2.1).mono ?_;rintro e w1 ⟨_,hN⟩;obtain⟨rfl,hb1⟩:=hN rfl);go_ret;exact⟨rfl,below_step HK.out.2.2.2.2.2 hb1⟩
 | true =>
  clear hb;go_enter Tryz.func8,Tryz.ntmps8;go_wp2_with (go_at_call 23;refine (bodyOf_calls A0_0 c0_0 l0_0 A0_1 c0_1 l0_1 true _ HK.out.1 HK.out.2.1 HK.out.2.2.1 HK.out.2.2.2.1 HK.out.2.2.2.2.1).mono ?_;rintro e w1 ⟨hN,_⟩;obtain⟨b,bs,v,rfl,hBA,hcell,hR,hb1⟩:=hN rfl);go_ret;exact⟨rfl,below_step HK.out.2.2.2.2.2 hb1⟩
end
end Go.Proofs.YtailkppkjhkjpaaGreatDoor.X
end
section
set_option linter.unusedVariables false
set_option linter.unusedSimpArgs false
namespace Txt
open Go.Lib
def cutAt (c:UInt8):List UInt8→List (List UInt8)
 | []=>[[]]
 | b::l=>if b=c then []::cutAt c l else match cutAt c l with
  | x::xs=>(b::x)::xs
  | []=>[[b]]
theorem cutAt_ne (c:UInt8):∀ s,∃ x xs,cutAt c s=x::xs
 | []=>⟨[],[],rfl⟩
 | b::l=>by
  unfold cutAt;by_cases h:b=c
  ·
   rw [if_pos h];exact⟨_,_,rfl⟩
  ·
   rw [if_neg h];obtain⟨x,xs,e⟩:=cutAt_ne c l;rw [e];exact⟨_,_,rfl⟩
theorem cutAt_eq (c:UInt8)(l:List UInt8):cutAt c (c::l)=[]::cutAt c l:=by rw [cutAt,if_pos rfl]
theorem cutAt_cons {c b:UInt8}(h:b≠c){l x:List UInt8}{xs:List (List UInt8)}(e:cutAt c l=x::xs):cutAt c (b::l)=(b::x)::xs:=by rw [cutAt,if_neg h,e]
theorem split_cut (c:UInt8):∀ s,split s [c]=cutAt c s
 | []=>by unfold split;rw [count_one];rfl
 | b::l=>by
  have ih:=split_cut c l;unfold split at ih ⊢
  by_cases h:b=c
  ·
   subst h;rw [count_cons_eq,Nat.add_comm,cutAt_eq,← ih];have hix:index (b::l) [b]=((0:Nat):Int):=by rw [index];simp [List.isPrefixOf]
   rw [splitK,hix];rfl
  ·
   rw [count_cons_ne b c l h];have hp:([c]:List UInt8).isPrefixOf (b::l)=false:=by simp [List.isPrefixOf,Ne.symm h]
   have hix:index (b::l) [c]=if index l [c] == -1 then -1 else index l [c]+1:=by rw [index,hp];simp
   by_cases hm:index l [c] = -1
   ·
    rw [count_miss hm] at ih ⊢
    rw [splitK] at ih ⊢
    rw [cutAt_cons h ih.symm]
   ·
    have hge:=index_ge l [c];obtain⟨j,hj⟩:∃ j:Nat,index l [c]=j:=⟨(index l [c]).toNat,by omega⟩;have hix':index (b::l) [c]=((j+1:Nat):Int):=by rw [hix,if_neg (fun e=>hm (beq_iff_eq.1 e)),hj];omega
    rw [count_hit (by simp) hj] at ih ⊢
    rw [Nat.add_comm,splitK,hj] at ih;rw [Nat.add_comm,splitK,hix'];have n1:((j:Int) == -1)=false:=by rw [beq_eq_false_iff_ne];omega
    have n2:(((j+1:Nat):Int) == -1)=false:=by rw [beq_eq_false_iff_ne];omega
    rw [n1] at ih;rw [n2];simp only [Bool.false_eq_true,if_false,Int.toNat_natCast,Nat.add_zero,List.length_cons,List.length_nil,Nat.zero_add,List.take_succ_cons,List.drop_succ_cons] at ih ⊢
    rw [cutAt_cons h ih.symm]
theorem join_cut (c:UInt8):∀ s,join (cutAt c s) [c]=s
 | []=>by simp [cutAt,join,List.intercalate]
 | b::l=>by
  have ih:=join_cut c l;obtain⟨x,xs,e⟩:=cutAt_ne c l;rw [e,join_cons] at ih;by_cases h:b=c
  ·
   subst h;rw [cutAt_eq,e,join_cons];simp only [joinTail,List.map_cons,List.flatten_cons,List.nil_append,List.singleton_append,List.cons_append] at ih ⊢
   rw [ih]
  ·
   rw [cutAt_cons h e,join_cons,List.cons_append,ih]
theorem cut_len (c:UInt8):∀ s,(cutAt c s).length≤s.length+1
 | []=>by simp [cutAt]
 | b::l=>by
  have ih:=cut_len c l;obtain⟨x,xs,e⟩:=cutAt_ne c l;by_cases h:b=c
  ·
   subst h;rw [cutAt_eq];simp only [List.length_cons];omega
  ·
   rw [cutAt_cons h e];rw [e] at ih;simp only [List.length_cons] at ih ⊢;omega
theorem cut_piece (c:UInt8):∀ s,∀ w∈cutAt c s,w.length≤s.length
 | [],w,hw=>by simp [cutAt] at hw;subst hw;simp
 | b::l,w,hw=>by
  obtain⟨x,xs,e⟩:=cutAt_ne c l;have ih:=cut_piece c l;by_cases h:b=c
  ·
   subst h;rw [cutAt_eq] at hw
   rcases List.mem_cons.1 hw with rfl | hw
   ·
    simp
   ·
    have:=ih w hw;simp only [List.length_cons];omega
  ·
   rw [cutAt_cons h e] at hw;rw [e] at ih
   rcases List.mem_cons.1 hw with rfl | hw
   ·
    have:=ih x (by simp);simp only [List.length_cons];omega
   ·
    have:=ih w (by simp [hw]);simp only [List.length_cons];omega
def fig (n:Int):UInt8:=UInt8.ofNat (48+n.toNat)
def wrPt (p:Int × Int):List UInt8:=[fig p.1,44,fig p.2]
def isFig (b:UInt8):Bool:=decide (48≤b.toNat) && decide (b.toNat≤57)
def rdPt:List UInt8→Option (Int × Int)
 | [a,k,b]=>if k=44 && (isFig a && isFig b) then some (((a.toNat:Int)-48),((b.toNat:Int)-48)) else none
 | _=>none
theorem rdPt3 (a k b:UInt8):rdPt [a,k,b]=if k=44 && (isFig a && isFig b) then some (((a.toNat:Int)-48),((b.toNat:Int)-48)) else none:=rfl
def small (p:Int × Int):Prop:=0≤p.1∧p.1≤9∧0≤p.2∧p.2≤9
theorem fig_nat {n:Int}(h0:0≤n)(h1:n≤9):(fig n).toNat=48+n.toNat:=by
 unfold fig;rw [UInt8.toNat_ofNat'];omega
theorem fig_of {b:UInt8}(h:isFig b=true):fig ((b.toNat:Int)-48)=b:=by
 unfold isFig at h;rw [Bool.and_eq_true,decide_eq_true_eq,decide_eq_true_eq] at h;apply UInt8.toNat.inj;rw [fig_nat (by omega) (by omega)];omega
theorem wr_rd {w:List UInt8}{p:Int × Int}(h:rdPt w=some p):w=wrPt p∧small p:=by
 match w,h with
 | [a,k,b],h =>
  rw [rdPt3] at h;by_cases hc:(k=44 && (isFig a && isFig b))=true
  ·
   rw [if_pos hc] at h;simp only [Bool.and_eq_true,decide_eq_true_eq] at hc;obtain⟨hk,ha,hb⟩:=hc;cases h;refine⟨?_,?_⟩
   ·
    unfold wrPt;simp only;rw [fig_of ha,fig_of hb,hk]
   ·
    unfold isFig at ha hb;rw [Bool.and_eq_true,decide_eq_true_eq,decide_eq_true_eq] at ha hb;refine⟨?_,?_,?_,?_⟩ <;> simp only <;> omega
  ·
   rw [if_neg hc] at h;cases h
 | [],h=>cases h
 | [_],h=>cases h
 | [_,_],h=>cases h
 | _::_::_::_::_,h=>cases h
def allOf {α β:Type}(f:α→Option β):List α→Option (List β)
 | []=>some []
 | x::xs=>(f x).bind fun y=>(allOf f xs).bind fun ys=>some (y::ys)
theorem allOf_cons {α β:Type}{f:α→Option β}{x:α}{xs:List α}{l:List β}(h:allOf f (x::xs)=some l):∃ y ys,f x=some y∧allOf f xs=some ys∧l=y::ys:=by
 unfold allOf at h
 cases hx:f x with
 | none=>rw [hx] at h;cases h
 | some y =>
  rw [hx,Option.bind_some] at h
  cases hs:allOf f xs with
  | none=>rw [hs] at h;cases h
  | some ys=>rw [hs,Option.bind_some] at h;cases h;exact⟨y,ys,rfl,rfl,rfl⟩
theorem map_allOf {α β:Type}{f:α→Option β}{g:β→α}{P:β→Prop}(hf:∀ x y,f x=some y→x=g y∧P y):∀ {xs:List α} {l:List β},allOf f xs=some l→l.map g=xs∧∀ y∈l,P y
 | [],l,h=>by cases h;exact⟨rfl,by simp⟩
 | x::xs,l,h=>by
  obtain⟨y,ys,h1,h2,rfl⟩:=allOf_cons h;obtain⟨e1,e2⟩:=map_allOf hf h2;obtain⟨e3,e4⟩:=hf x y h1;refine⟨by rw [List.map_cons,e1,← e3],fun z hz=>?_⟩
  rcases List.mem_cons.1 hz with rfl | hz
  ·
   exact e4
  ·
   exact e2 z hz
abbrev Loop:=List (Int × Int)
def wrLoop (l:Loop):List UInt8:=join (l.map wrPt) [32]
theorem loop_len:∀ (p:Int × Int) (ps:Loop),(wrLoop (p::ps)).length=4*ps.length+3
 | p,[]=>rfl
 | p,q::qs=>by
  have ih:=loop_len q qs;unfold wrLoop at ih ⊢
  rw [List.map_cons,join_cons] at ih ⊢
  have e:joinTail [32] ((q::qs).map wrPt)=32::(wrPt q++joinTail [32] (qs.map wrPt)):=by simp [joinTail]
  rw [e];simp only [List.length_append,List.length_cons] at ih ⊢
  have:(wrPt p).length=3:=rfl;omega
def wrLines (ls:List Loop):List UInt8:=(ls.map fun l=>wrLoop l++[10]).flatten
theorem wrLines_join:∀ (l:Loop) (ls:List Loop),wrLines (l::ls)=join ((l::ls).map wrLoop) [10]++[10]
 | l,[]=>by simp [wrLines,join_one]
 | l,m::ms=>by
  have ih:=wrLines_join m ms;rw [List.map_cons,join_cons] at ih ⊢
  have e:joinTail [10] ((m::ms).map wrLoop)=10::(wrLoop m++joinTail [10] (ms.map wrLoop)):=by simp [joinTail]
  rw [e];have e2:wrLines (l::m::ms)=wrLoop l++[10]++wrLines (m::ms):=by simp [wrLines]
  rw [e2,ih];simp
end Txt
end
section
namespace Go.Proofs
open Go.Shelf
def Tryz.lays169_ren:Go.Shelf.Ren:=⟨fun | 169=>27 | n=>n,fun | 70=>50 | 9=>9 | 0=>0 | 72=>52 | 37=>22 | 127=>86 | 3=>3 | 5=>5 | n=>n,fun | n=>n⟩
theorem Tryz.lays169:Go.Proofs.Lays.n169 Tryz.prog Tryz.lays169_ren:={
 mixed:=by kernel_rfl
 f169:=Tryz.func27.trans (congrArg some (by kernel_rfl))
 t0:=Tryz.underlying0
 a0:=Tryz.isAgg0
 z0:=Tryz.sizeOf0
 v0:=Tryz.zeroValue0
 t3:=Tryz.underlying3
 a3:=Tryz.isAgg3
 z3:=Tryz.sizeOf3
 v3:=Tryz.zeroValue3
 t9:=Tryz.underlying9
 a9:=Tryz.isAgg9
 z9:=Tryz.sizeOf9
 v9:=Tryz.zeroValue9
 t37:=Tryz.underlying22
 a37:=Tryz.isAgg22
 z37:=Tryz.sizeOf22
 v37:=Tryz.zeroValue22
 t70:=Tryz.underlying50
 a70:=Tryz.isAgg50
 z70:=Tryz.sizeOf50
 v70:=Tryz.zeroValue50
 t72:=Tryz.underlying52
 a72:=Tryz.isAgg52
 z72:=Tryz.sizeOf52
 v72:=Tryz.zeroValue52
 t127:=Tryz.underlying86
 a127:=Tryz.isAgg86
 z127:=Tryz.sizeOf86
 v127:=Tryz.zeroValue86 }
theorem Tryz.Builder_Extra_169:Builder.Extra Tryz.prog Tryz.lays169_ren:={
 sizeBuilder:=by kernel_rfl
 liesBuilder:=by kernel_rfl
 t5:=Tryz.underlying5
 a5:=Tryz.isAgg5
 z5:=Tryz.sizeOf5
 v5:=Tryz.zeroValue5
 infoByte:=by kernel_rfl
 cellsByte:=by kernel_rfl
 sizeByte:=by kernel_rfl
 neB5:=by decide }
def Tryz.lays156_ren:Go.Shelf.Ren:=⟨fun | 156=>46 | 165=>66 | 166=>24 | 169=>27 | 240=>44 | 241=>79 | 276=>64 | 277=>89 | n=>n,fun | 31=>39 | 9=>9 | 3=>3 | 4=>4 | 0=>0 | 20=>20 | 72=>52 | 76=>61 | 70=>50 | 37=>22 | 75=>60 | 127=>86 | 164=>100 | 5=>5 | 80=>65 | n=>n,fun | n=>n⟩
theorem Tryz.lays156:Go.Proofs.Lays.n156 Tryz.prog Tryz.lays156_ren:={
 mixed:=by kernel_rfl
 f156:=Tryz.func46.trans (congrArg some (by kernel_rfl))
 f165:=Tryz.func66.trans (congrArg some (by kernel_rfl))
 f166:=Tryz.func24.trans (congrArg some (by kernel_rfl))
 f169:=Tryz.func27.trans (congrArg some (by kernel_rfl))
 f240:=Tryz.func44.trans (congrArg some (by kernel_rfl))
 f241:=Tryz.func79.trans (congrArg some (by kernel_rfl))
 f276:=Tryz.func64.trans (congrArg some (by kernel_rfl))
 f277:=Tryz.func89.trans (congrArg some (by kernel_rfl))
 t0:=Tryz.underlying0
 a0:=Tryz.isAgg0
 z0:=Tryz.sizeOf0
 v0:=Tryz.zeroValue0
 t3:=Tryz.underlying3
 a3:=Tryz.isAgg3
 z3:=Tryz.sizeOf3
 v3:=Tryz.zeroValue3
 t4:=Tryz.underlying4
 a4:=Tryz.isAgg4
 z4:=Tryz.sizeOf4
 v4:=Tryz.zeroValue4
 t9:=Tryz.underlying9
 a9:=Tryz.isAgg9
 z9:=Tryz.sizeOf9
 v9:=Tryz.zeroValue9
 t20:=Tryz.underlying20
 a20:=Tryz.isAgg20
 z20:=Tryz.sizeOf20
 v20:=Tryz.zeroValue20
 t31:=Tryz.underlying39
 a31:=Tryz.isAgg39
 z31:=Tryz.sizeOf39
 v31:=Tryz.zeroValue39
 t37:=Tryz.underlying22
 a37:=Tryz.isAgg22
 z37:=Tryz.sizeOf22
 v37:=Tryz.zeroValue22
 t70:=Tryz.underlying50
 a70:=Tryz.isAgg50
 z70:=Tryz.sizeOf50
 v70:=Tryz.zeroValue50
 t72:=Tryz.underlying52
 a72:=Tryz.isAgg52
 z72:=Tryz.sizeOf52
 v72:=Tryz.zeroValue52
 t75:=Tryz.underlying60
 a75:=Tryz.isAgg60
 z75:=Tryz.sizeOf60
 v75:=Tryz.zeroValue60
 t76:=Tryz.underlying61
 a76:=Tryz.isAgg61
 z76:=Tryz.sizeOf61
 v76:=Tryz.zeroValue61
 t127:=Tryz.underlying86
 a127:=Tryz.isAgg86
 z127:=Tryz.sizeOf86
 v127:=Tryz.zeroValue86
 t164:=Tryz.underlying100
 a164:=Tryz.isAgg100
 z164:=Tryz.sizeOf100
 v164:=Tryz.zeroValue100 }
theorem Tryz.Builder_Extra_156:Builder.Extra Tryz.prog Tryz.lays156_ren:={
 sizeBuilder:=by kernel_rfl
 liesBuilder:=by kernel_rfl
 t5:=Tryz.underlying5
 a5:=Tryz.isAgg5
 z5:=Tryz.sizeOf5
 v5:=Tryz.zeroValue5
 infoByte:=by kernel_rfl
 cellsByte:=by kernel_rfl
 sizeByte:=by kernel_rfl
 neB5:=by decide }
open Go.RowKit in
theorem Tryz.strings_Join (bk o c:Nat)(xs:List ByteArray)(sep:ByteArray)(w:World)(hcells:∀ (j:Nat) x,xs[j]?=some x→w.cell? ⟨bk,o+j,none⟩=some (.string x))(hbk:bk<w.heap.size)(hN:xs.length≤140737488355328)(hcap:xs.length≤c)(hlen:(Lib.join (xs.map (·.data.toList)) sep.data.toList).length≤140737488355328):
  Calls Tryz.prog 46 #[.slice (some ⟨bk,o,none⟩) xs.length c,.string sep] w fun e w'=>e=.returned (.string ⟨(Lib.join (xs.map (·.data.toList)) sep.data.toList).toArray⟩)∧Below w.heap.size w w':=Any.strings_Join Tryz.lays156 Tryz.Builder_Extra_156 bk o c xs sep w hcells hbk hN hcap hlen
open Go.RowKit in
theorem Tryz.Builder_String_any_k (B b:Nat)(l:List UInt8)(w:World)(h:Lib.IsBuilderF 52 5 B b (Lib.byteCells l) w)(hBw:B≤w.heap.size):
  Calls Tryz.prog 27 #[.pointer (some ⟨b,0,none⟩)] w fun e w'=>e=.returned (.string ⟨l.toArray⟩)∧(Lib.IsBuilderF 52 5 B b (Lib.byteCells l) w'∧Below B w w'∧Lib.OthersKept 5 (some b) w w'):=Any.Builder_String_any_k Tryz.lays169 Tryz.Builder_Extra_169 B b l w h hBw
def Tryz.lays171_ren:Go.Shelf.Ren:=⟨fun | 171=>65 | 243=>78 | 246=>88 | 283=>92 | 284=>93 | 285=>94 | 286=>95 | 129=>97 | 317=>96 | 318=>98 | 319=>99 | 320=>100 | 337=>101 | 338=>102 | n=>n,fun | 3=>3 | 9=>9 | 2=>2 | 4=>4 | 171=>120 | 0=>0 | 53=>121 | 37=>22 | 5=>5 | 173=>124 | 212=>127 | 51=>117 | 20=>20 | 213=>128 | 46=>109 | 232=>132 | 233=>133 | n=>n,fun | 17=>3 | 18=>4 | 19=>5 | n=>n⟩
theorem Tryz.lays171:Go.Proofs.Lays.n171 Tryz.prog Tryz.lays171_ren:={
 mixed:=by kernel_rfl
 f129:=Tryz.func97.trans (congrArg some (by kernel_rfl))
 f171:=Tryz.func65.trans (congrArg some (by kernel_rfl))
 f243:=Tryz.func78.trans (congrArg some (by kernel_rfl))
 f246:=Tryz.func88.trans (congrArg some (by kernel_rfl))
 f283:=Tryz.func92.trans (congrArg some (by kernel_rfl))
 f284:=Tryz.func93.trans (congrArg some (by kernel_rfl))
 f285:=Tryz.func94.trans (congrArg some (by kernel_rfl))
 f286:=Tryz.func95.trans (congrArg some (by kernel_rfl))
 f317:=Tryz.func96.trans (congrArg some (by kernel_rfl))
 f318:=Tryz.func98.trans (congrArg some (by kernel_rfl))
 f319:=Tryz.func99.trans (congrArg some (by kernel_rfl))
 f320:=Tryz.func100.trans (congrArg some (by kernel_rfl))
 f337:=Tryz.func101.trans (congrArg some (by kernel_rfl))
 f338:=Tryz.func102.trans (congrArg some (by kernel_rfl))
 t0:=Tryz.underlying0
 a0:=Tryz.isAgg0
 z0:=Tryz.sizeOf0
 v0:=Tryz.zeroValue0
 t2:=Tryz.underlying2
 a2:=Tryz.isAgg2
 z2:=Tryz.sizeOf2
 v2:=Tryz.zeroValue2
 t3:=Tryz.underlying3
 a3:=Tryz.isAgg3
 z3:=Tryz.sizeOf3
 v3:=Tryz.zeroValue3
 t4:=Tryz.underlying4
 a4:=Tryz.isAgg4
 z4:=Tryz.sizeOf4
 v4:=Tryz.zeroValue4
 t5:=Tryz.underlying5
 a5:=Tryz.isAgg5
 z5:=Tryz.sizeOf5
 v5:=Tryz.zeroValue5
 t9:=Tryz.underlying9
 a9:=Tryz.isAgg9
 z9:=Tryz.sizeOf9
 v9:=Tryz.zeroValue9
 t20:=Tryz.underlying20
 a20:=Tryz.isAgg20
 z20:=Tryz.sizeOf20
 v20:=Tryz.zeroValue20
 t37:=Tryz.underlying22
 a37:=Tryz.isAgg22
 z37:=Tryz.sizeOf22
 v37:=Tryz.zeroValue22
 t46:=Tryz.underlying109
 a46:=Tryz.isAgg109
 z46:=Tryz.sizeOf109
 v46:=Tryz.zeroValue109
 t51:=Tryz.underlying117
 a51:=Tryz.isAgg117
 z51:=Tryz.sizeOf117
 v51:=Tryz.zeroValue117
 t53:=Tryz.underlying121
 a53:=Tryz.isAgg121
 z53:=Tryz.sizeOf121
 v53:=Tryz.zeroValue121
 t171:=Tryz.underlying120
 a171:=Tryz.isAgg120
 z171:=Tryz.sizeOf120
 v171:=Tryz.zeroValue120
 t173:=Tryz.underlying124
 a173:=Tryz.isAgg124
 z173:=Tryz.sizeOf124
 v173:=Tryz.zeroValue124
 t212:=Tryz.underlying127
 a212:=Tryz.isAgg127
 z212:=Tryz.sizeOf127
 v212:=Tryz.zeroValue127
 t213:=Tryz.underlying128
 a213:=Tryz.isAgg128
 z213:=Tryz.sizeOf128
 t232:=Tryz.underlying132
 a232:=Tryz.isAgg132
 z232:=Tryz.sizeOf132
 v232:=Tryz.zeroValue132
 t233:=Tryz.underlying133
 a233:=Tryz.isAgg133
 z233:=Tryz.sizeOf133
 v233:=Tryz.zeroValue133
 g17:=by kernel_rfl
 g18:=by kernel_rfl
 g19:=by kernel_rfl }
open Go.RowKit Go.Sort Go.Lib in
theorem Tryz.strconv_Itoa_small (i:Nat)(hi:i<100)(w:World):
  Calls Tryz.prog 65 #[.int .i64 i] w fun e w'=>e=.returned (.string ⟨(Lib.decDigits i).toArray⟩)∧w'=w:=Any.strconv_Itoa_small Tryz.lays171 i hi w
def Tryz.lays146_ren:Go.Shelf.Ren:=⟨fun | 146=>19 | 221=>37 | 268=>54 | 138=>55 | 143=>56 | 195=>71 | 197=>72 | 218=>73 | 219=>74 | 260=>80 | 217=>81 | 225=>82 | 224=>83 | 267=>84 | 266=>90 | 314=>91 | n=>n,fun | 9=>9 | 31=>39 | 3=>3 | 4=>4 | 0=>0 | 105=>106 | 21=>21 | 5=>5 | 46=>109 | 119=>113 | 139=>116 | 138=>115 | 146=>118 | 51=>117 | n=>n,fun | 1=>0 | 3=>1 | 4=>2 | n=>n⟩
theorem Tryz.lays146:Go.Proofs.Lays.n146 Tryz.prog Tryz.lays146_ren:={
 mixed:=by kernel_rfl
 f138:=Tryz.func55.trans (congrArg some (by kernel_rfl))
 f143:=Tryz.func56.trans (congrArg some (by kernel_rfl))
 f146:=Tryz.func19.trans (congrArg some (by kernel_rfl))
 f195:=Tryz.func71.trans (congrArg some (by kernel_rfl))
 f197:=Tryz.func72.trans (congrArg some (by kernel_rfl))
 f217:=Tryz.func81.trans (congrArg some (by kernel_rfl))
 f218:=Tryz.func73.trans (congrArg some (by kernel_rfl))
 f219:=Tryz.func74.trans (congrArg some (by kernel_rfl))
 f221:=Tryz.func37.trans (congrArg some (by kernel_rfl))
 f224:=Tryz.func83.trans (congrArg some (by kernel_rfl))
 f225:=Tryz.func82.trans (congrArg some (by kernel_rfl))
 f260:=Tryz.func80.trans (congrArg some (by kernel_rfl))
 f266:=Tryz.func90.trans (congrArg some (by kernel_rfl))
 f267:=Tryz.func84.trans (congrArg some (by kernel_rfl))
 f268:=Tryz.func54.trans (congrArg some (by kernel_rfl))
 f314:=Tryz.func91.trans (congrArg some (by kernel_rfl))
 t0:=Tryz.underlying0
 a0:=Tryz.isAgg0
 z0:=Tryz.sizeOf0
 v0:=Tryz.zeroValue0
 t3:=Tryz.underlying3
 a3:=Tryz.isAgg3
 z3:=Tryz.sizeOf3
 v3:=Tryz.zeroValue3
 t4:=Tryz.underlying4
 a4:=Tryz.isAgg4
 z4:=Tryz.sizeOf4
 v4:=Tryz.zeroValue4
 t5:=Tryz.underlying5
 a5:=Tryz.isAgg5
 z5:=Tryz.sizeOf5
 v5:=Tryz.zeroValue5
 t9:=Tryz.underlying9
 a9:=Tryz.isAgg9
 z9:=Tryz.sizeOf9
 v9:=Tryz.zeroValue9
 t21:=Tryz.underlying21
 a21:=Tryz.isAgg21
 z21:=Tryz.sizeOf21
 v21:=Tryz.zeroValue21
 t31:=Tryz.underlying39
 a31:=Tryz.isAgg39
 z31:=Tryz.sizeOf39
 v31:=Tryz.zeroValue39
 t46:=Tryz.underlying109
 a46:=Tryz.isAgg109
 z46:=Tryz.sizeOf109
 v46:=Tryz.zeroValue109
 t51:=Tryz.underlying117
 a51:=Tryz.isAgg117
 z51:=Tryz.sizeOf117
 v51:=Tryz.zeroValue117
 t105:=Tryz.underlying106
 a105:=Tryz.isAgg106
 z105:=Tryz.sizeOf106
 v105:=Tryz.zeroValue106
 t119:=Tryz.underlying113
 a119:=Tryz.isAgg113
 z119:=Tryz.sizeOf113
 t138:=Tryz.underlying115
 a138:=Tryz.isAgg115
 z138:=Tryz.sizeOf115
 v138:=Tryz.zeroValue115
 t139:=Tryz.underlying116
 a139:=Tryz.isAgg116
 z139:=Tryz.sizeOf116
 v139:=Tryz.zeroValue116
 t146:=Tryz.underlying118
 a146:=Tryz.isAgg118
 z146:=Tryz.sizeOf118
 v146:=Tryz.zeroValue118
 g1:=by kernel_rfl
 g3:=by kernel_rfl
 g4:=by kernel_rfl }
def Tryz.lays167_ren:Go.Shelf.Ren:=⟨fun | 167=>26 | 240=>44 | 276=>64 | n=>n,fun | 0=>0 | 4=>4 | 5=>5 | 9=>9 | 20=>20 | 37=>22 | 70=>50 | 72=>52 | 75=>60 | 164=>100 | 80=>65 | n=>n,fun | n=>n⟩
theorem Tryz.lays167:Go.Proofs.Lays.n167 Tryz.prog Tryz.lays167_ren:={
 mixed:=by kernel_rfl
 f167:=Tryz.func26.trans (congrArg some (by kernel_rfl))
 f240:=Tryz.func44.trans (congrArg some (by kernel_rfl))
 f276:=Tryz.func64.trans (congrArg some (by kernel_rfl))
 t0:=Tryz.underlying0
 a0:=Tryz.isAgg0
 z0:=Tryz.sizeOf0
 v0:=Tryz.zeroValue0
 t4:=Tryz.underlying4
 a4:=Tryz.isAgg4
 z4:=Tryz.sizeOf4
 v4:=Tryz.zeroValue4
 t5:=Tryz.underlying5
 a5:=Tryz.isAgg5
 z5:=Tryz.sizeOf5
 v5:=Tryz.zeroValue5
 t9:=Tryz.underlying9
 a9:=Tryz.isAgg9
 z9:=Tryz.sizeOf9
 v9:=Tryz.zeroValue9
 t20:=Tryz.underlying20
 a20:=Tryz.isAgg20
 z20:=Tryz.sizeOf20
 v20:=Tryz.zeroValue20
 t37:=Tryz.underlying22
 a37:=Tryz.isAgg22
 z37:=Tryz.sizeOf22
 v37:=Tryz.zeroValue22
 t70:=Tryz.underlying50
 a70:=Tryz.isAgg50
 z70:=Tryz.sizeOf50
 v70:=Tryz.zeroValue50
 t72:=Tryz.underlying52
 a72:=Tryz.isAgg52
 z72:=Tryz.sizeOf52
 v72:=Tryz.zeroValue52
 t75:=Tryz.underlying60
 a75:=Tryz.isAgg60
 z75:=Tryz.sizeOf60
 v75:=Tryz.zeroValue60
 t164:=Tryz.underlying100
 a164:=Tryz.isAgg100
 z164:=Tryz.sizeOf100
 v164:=Tryz.zeroValue100 }
theorem Tryz.Builder_Extra_167:Builder.Extra Tryz.prog Tryz.lays167_ren:={
 sizeBuilder:=by kernel_rfl
 liesBuilder:=by kernel_rfl
 t5:=Tryz.underlying5
 a5:=Tryz.isAgg5
 z5:=Tryz.sizeOf5
 v5:=Tryz.zeroValue5
 infoByte:=by kernel_rfl
 cellsByte:=by kernel_rfl
 sizeByte:=by kernel_rfl
 neB5:=by decide }
open Go.RowKit in
theorem Tryz.Builder_WriteByte_k (B b:Nat)(bs:List Value)(c:Int)(w:World)(h:Lib.IsBuilderF 52 5 B b bs w)(hlen:bs.length+1≤140737488355328)(hBw:B≤w.heap.size):
  Calls Tryz.prog 26 #[.pointer (some ⟨b,0,none⟩),.int .u8 c] w fun e w'=>e=.returned .nilIface∧(Lib.BuilderAtF 52 5 B b (.pointer (some ⟨b,0,none⟩)) (bs++[.int .u8 c]) w'∧Below B w w'∧Lib.OthersKept 5 (some b) w w'):=Any.Builder_WriteByte_k Tryz.lays167 Tryz.Builder_Extra_167 B b bs c w h hlen hBw
def Tryz.lays166_ren:Go.Shelf.Ren:=⟨fun | 166=>24 | 240=>44 | 276=>64 | n=>n,fun | 0=>0 | 3=>3 | 4=>4 | 9=>9 | 20=>20 | 37=>22 | 70=>50 | 72=>52 | 75=>60 | 164=>100 | 5=>5 | 80=>65 | n=>n,fun | n=>n⟩
theorem Tryz.lays166:Go.Proofs.Lays.n166 Tryz.prog Tryz.lays166_ren:={
 mixed:=by kernel_rfl
 f166:=Tryz.func24.trans (congrArg some (by kernel_rfl))
 f240:=Tryz.func44.trans (congrArg some (by kernel_rfl))
 f276:=Tryz.func64.trans (congrArg some (by kernel_rfl))
 t0:=Tryz.underlying0
 a0:=Tryz.isAgg0
 z0:=Tryz.sizeOf0
 v0:=Tryz.zeroValue0
 t3:=Tryz.underlying3
 a3:=Tryz.isAgg3
 z3:=Tryz.sizeOf3
 v3:=Tryz.zeroValue3
 t4:=Tryz.underlying4
 a4:=Tryz.isAgg4
 z4:=Tryz.sizeOf4
 v4:=Tryz.zeroValue4
 t9:=Tryz.underlying9
 a9:=Tryz.isAgg9
 z9:=Tryz.sizeOf9
 v9:=Tryz.zeroValue9
 t20:=Tryz.underlying20
 a20:=Tryz.isAgg20
 z20:=Tryz.sizeOf20
 v20:=Tryz.zeroValue20
 t37:=Tryz.underlying22
 a37:=Tryz.isAgg22
 z37:=Tryz.sizeOf22
 v37:=Tryz.zeroValue22
 t70:=Tryz.underlying50
 a70:=Tryz.isAgg50
 z70:=Tryz.sizeOf50
 v70:=Tryz.zeroValue50
 t72:=Tryz.underlying52
 a72:=Tryz.isAgg52
 z72:=Tryz.sizeOf52
 v72:=Tryz.zeroValue52
 t75:=Tryz.underlying60
 a75:=Tryz.isAgg60
 z75:=Tryz.sizeOf60
 v75:=Tryz.zeroValue60
 t164:=Tryz.underlying100
 a164:=Tryz.isAgg100
 z164:=Tryz.sizeOf100
 v164:=Tryz.zeroValue100 }
theorem Tryz.Builder_Extra_166:Builder.Extra Tryz.prog Tryz.lays166_ren:={
 sizeBuilder:=by kernel_rfl
 liesBuilder:=by kernel_rfl
 t5:=Tryz.underlying5
 a5:=Tryz.isAgg5
 z5:=Tryz.sizeOf5
 v5:=Tryz.zeroValue5
 infoByte:=by kernel_rfl
 cellsByte:=by kernel_rfl
 sizeByte:=by kernel_rfl
 neB5:=by decide }
open Go.RowKit in
theorem Tryz.Builder_WriteString_k (B b:Nat)(bs:List Value)(s:ByteArray)(w:World)(h:Lib.IsBuilderF 52 5 B b bs w)(hlen:bs.length+s.size≤140737488355328)(hBw:B≤w.heap.size):
  Calls Tryz.prog 24 #[.pointer (some ⟨b,0,none⟩),.string s] w fun e w'=>e=.returned (.tuple #[.int .i64 s.size,.nilIface])∧(Lib.BuilderAtF 52 5 B b (.pointer (some ⟨b,0,none⟩)) (bs++Lib.strCells s) w'∧Below B w w'∧Lib.OthersKept 5 (some b) w w'):=Any.Builder_WriteString_k Tryz.lays166 Tryz.Builder_Extra_166 B b bs s w h hlen hBw
end Go.Proofs
end
section
set_option linter.unusedVariables false
set_option linter.unusedSimpArgs false
namespace Go.Proofs.YtailkppkjhkjpaaGreatDoor.X
open Go.RowKit Go.Shelf Go.Proofs.YtailkppkjhkjpaaGreatDoorW.PrintWords Go.Proofs.YtailkppkjhkjpaaGreatDoorW.PrintLast Go.Proofs.YtailkppkjhkjpaaGreatDoorW.PrintMore
open Txt (cutAt)
set_option maxHeartbeats 1000000 in
theorem split_any {P:Program}{ρ:Ren}(L:Lays.n146 P ρ)(hi9:(P.info? (ρ.t 9)).map (fun i=>(i.zero,i.size,i.bytes))=some (some (.string ByteArray.empty),1,16))(s:ByteArray)(c:UInt8)(w:World)(hs:s.size<4294967281):
  Calls P (ρ.f 146) #[.string s,.string ⟨#[c]⟩] w fun e w'=>e=.returned (.slice (some ⟨w.heap.size,0,none⟩) (Lib.countB s ⟨#[c]⟩+1) (Lib.countB s ⟨#[c]⟩+1))∧w'=w.alloc (.cells ((Lib.splitB ⟨#[c]⟩ 0 (Lib.countB s ⟨#[c]⟩) s).map Value.string).toArray (ρ.t 9)):=by
 have h1:1≤(⟨#[c]⟩:ByteArray).size:=Nat.le_refl 1;have hlen:=Lib.splitB_all ⟨#[c]⟩ h1 0 _ s rfl;have hle:=Lib.countB_le ⟨#[c]⟩ h1 s.size s (Nat.le_refl _);have hC:Calls P (ρ.f 138) #[.string s,.string ⟨#[c]⟩] w fun e w'=>e=.returned (.int .i64 (Lib.countB s ⟨#[c]⟩))∧w'=w:=by
  refine (Any.strings_Count_one { L with } s c w).mono fun e w' ⟨he,hw⟩=>⟨he.trans ?_,hw⟩
  show _=Ending.returned (Value.int .i64 ((Lib.count s.data.toList [c]:Nat):Int))
  rw [Lib.count_one];rfl
 have K:=Any.strings_genSplit_core { L with } hi9 s ⟨#[c]⟩ 0 (-1) (Lib.countB s ⟨#[c]⟩+1) w hs h1 (Nat.zero_le _)
  (fun x cs _=>(Any.strings_Index_one { L with } x c _).mono fun e w' ⟨he,hw⟩=>⟨he.trans (congrArg (fun z=>Ending.returned (Value.int .i64 z)) (Lib.index_one x.data.toList c).symm),hw⟩) hC (by decide) (by decide) (by rw [if_pos (by decide)];omega)
 rw [Nat.add_sub_cancel,hlen] at K;have e2:Lib.cellsOf (Lib.splitB ⟨#[c]⟩ 0 (Lib.countB s ⟨#[c]⟩) s) (Lib.countB s ⟨#[c]⟩+1)=((Lib.splitB ⟨#[c]⟩ 0 (Lib.countB s ⟨#[c]⟩) s).map Value.string).toArray:=by rw [← hlen];exact Lib.cellsOf_full _
 rw [e2] at K;have t3:=L.t3;have t9:=L.t9;have t31:=L.t31;have a3:=L.a3;have a9:=L.a9;have a31:=L.a31;have z3:=L.z3;have v3:=L.v3;have z9:=L.z9;have v9:=L.v9;have z31:=L.z31;have v31:=L.v31;have e221:∀ args w,(callFunc (ρ.f 221) args).run P w=.ok (.enter (ρ.f 221) args) w:=enters_of L.f221 (by kernel_rfl) rfl;go_enter L.f146,Body.n146_ntmps ρ;go_wp2_with (go_at_fn (ρ.f 221);refine K.mono ?_;rintro e w' ⟨rfl,hw⟩;rw [hw]);go_ret;exact⟨rfl,rfl⟩
def cutB (c:UInt8)(s:ByteArray):List ByteArray:=(cutAt c s.data.toList).map fun l=>⟨l.toArray⟩
theorem splitB_cut (c:UInt8)(s:ByteArray):Lib.splitB ⟨#[c]⟩ 0 (Lib.countB s ⟨#[c]⟩) s=cutB c s:=by
 have h:=Lib.splitB_data ⟨#[c]⟩ 0 (Lib.countB s ⟨#[c]⟩) s;have h2:Lib.splitK [c] 0 (Lib.count s.data.toList [c]) s.data.toList=cutAt c s.data.toList:=Txt.split_cut c s.data.toList;have h3:(Lib.splitB ⟨#[c]⟩ 0 (Lib.countB s ⟨#[c]⟩) s).map (·.data.toList)=cutAt c s.data.toList:=h.trans h2;unfold cutB;rw [← h3,List.map_map];exact (List.map_id _).symm.trans (List.map_congr_left fun x _=>rfl)
def strings_Split.f (s sep:ByteArray):Option (List ByteArray):=if s.size<4294967281 then (match sep.data.toList with | [c]=>some (cutB c s) | _=>none) else none
theorem strings_Split.calls (s sep:ByteArray)(r:List ByteArray)(w:World)(h:strings_Split.f s sep=some r):
  Calls Tryz.prog 19 #[.string s,.string sep] w fun e w'=>∃ v0_:Value,e=.returned v0_∧Kd.R Kd.string 9 w' w.heap.size (fun _=>True) v0_ r∧Below w.heap.size w w':=by
 unfold strings_Split.f at h
 split at h
 ·
  rename_i hs
  split at h
  ·
   rename_i c hc
   obtain rfl:=Option.some.inj h;have e:sep=⟨#[c]⟩:=by
    obtain⟨⟨l⟩⟩:=sep;simp only at hc;rw [hc]
   subst e;refine (split_any Tryz.lays146 (by kernel_rfl) s c w hs).mono ?_;rintro e w' ⟨rfl,rfl⟩;rw [splitB_cut];have hl:Lib.countB s ⟨#[c]⟩+1=(cutB c s).length:=by rw [← splitB_cut];exact (Lib.splitB_all ⟨#[c]⟩ (Nat.le_refl 1) 0 _ s rfl).symm
   rw [hl];refine⟨_,rfl,Kd.R_of_own ?_ (fun _ _=>trivial),below_alloc (Below.refl _ _) _⟩
   have:=World.ownsRow_lit (base:=w.heap.size) (e:=9) (size:=1) w ((cutB c s).map Value.string).toArray (cutB c s).length (Nat.le_refl _) (by
    have:=Txt.cut_len c s.data.toList;have e2:s.data.toList.length=s.size:=by rw [Array.length_toList];rfl
    unfold cutB maxLen;rw [List.length_map]
    omega) (by simp)
   show (w.alloc (.cells ((cutB c s).map Value.string).toArray 9)).ownsRow _ _ _ _ _ _
   simpa [encs] using this
  ·
   cases h
 ·
  cases h
end Go.Proofs.YtailkppkjhkjpaaGreatDoor.X
end
section
namespace Go.Proofs.YtailkppkjhkjpaaGreatDoor.X
open Go.RowKit Go.Proofs.YtailkppkjhkjpaaGreatDoorW.PrintWords Go.Proofs.YtailkppkjhkjpaaGreatDoorW.PrintLast Go.Proofs.YtailkppkjhkjpaaGreatDoorW.PrintMore
attribute [local go_sem] max2_int min2_int max_two min_two max_three min_three max_four min_four
set_option linter.unusedVariables false
set_option linter.unusedSimpArgs false
def impl_figureOf.f (a0:Int):Option (Int × Bool):=if a0<48 then (some (0,false)) else (if a0>57 then (some (0,false)) else (some ((a0-48) % 256,true)))
set_option maxHeartbeats 8000000 in
set_option maxRecDepth 100000 in
theorem impl_figureOf.calls (a0:Int)(r1:Int)(r2:Bool)(w:World)(h:impl_figureOf.f a0=some (r1,r2)):
  Calls Tryz.prog 57 #[.int .u8 a0] w fun e w'=>e=.returned (.tuple #[.int .i64 r1,.bool r2])∧Drawn0 w w':=by
 have H:(if a0<48 then (some (0,false)) else (if a0>57 then (some (0,false)) else (some ((a0-48) % 256,true))))=some (r1,r2):=h;clear h;by_cases c2:a0<48
 ·
  rw [if_pos c2] at H;have c2b0:decide (a0<48)=true:=decide_eq_true c2;clear c2;simp only [Option.some.injEq,Prod.mk.injEq] at H;obtain⟨rfl,rfl⟩:=H;go_enter Tryz.func57,Tryz.ntmps57;go_wp2;go_ret2;exact⟨by first | rfl | (simp;done) | (simp [*];done),by repeat (first | exact Drawn0.refl _ | apply Drawn0.step)⟩
 ·
  rw [if_neg c2] at H;have c2b0:decide (a0<48)=false:=decide_eq_false c2;clear c2;by_cases c3:a0>57
  ·
   rw [if_pos c3] at H;have c3b0:decide (57<a0)=true:=decide_eq_true c3;clear c3;simp only [Option.some.injEq,Prod.mk.injEq] at H;obtain⟨rfl,rfl⟩:=H;go_enter Tryz.func57,Tryz.ntmps57;go_wp2;go_ret2;exact⟨by first | rfl | (simp;done) | (simp [*];done),by repeat (first | exact Drawn0.refl _ | apply Drawn0.step)⟩
  ·
   rw [if_neg c3] at H;have c3b0:decide (57<a0)=false:=decide_eq_false c3;clear c3;simp only [Option.some.injEq,Prod.mk.injEq] at H;obtain⟨rfl,rfl⟩:=H;go_enter Tryz.func57,Tryz.ntmps57;go_wp2;go_ret2;exact⟨by first | rfl | (simp;done) | (simp [*];done),by repeat (first | exact Drawn0.refl _ | apply Drawn0.step)⟩
def impl_pointOf.j0:Nat→ByteArray→Bool→Option (Int × Int × Bool)
 | 0,_,_=>none
 | k+1,x0,x15=>if x15=true then (some (0,0,false)) else (if 0<(x0.size:Int) then ((impl_figureOf.f (bt x0 0)).bind fun bt468=>(if 2<(x0.size:Int) then ((impl_figureOf.f (bt x0 2)).bind fun bt470=>(if bt468.2=true then (if bt470.2=true then (some (bt468.1,bt470.1,true)) else (some (0,0,false))) else (some (0,0,false)))) else (none))) else (none))
def impl_pointOf.f (k:Nat)(a0:ByteArray):Option (Int × Int × Bool):=if (a0.size:Int)=3 then (if 1<(a0.size:Int) then (impl_pointOf.j0 k a0 ((bt a0 1) != 44)) else (none)) else (impl_pointOf.j0 k a0 true)
set_option maxHeartbeats 8000000 in
set_option maxRecDepth 100000 in
theorem impl_pointOf.calls (k:Nat)(a0:ByteArray)(r1:Int)(r2:Int)(r3:Bool)(w:World)(h:impl_pointOf.f k a0=some (r1,r2,r3)):
  Calls Tryz.prog 39 #[.string a0] w fun e w'=>e=.returned (.tuple #[.agg #[.int .i64 r1,.int .i64 r2],.bool r3])∧Below w.heap.size w w':=by
 have hu70:=Tryz.underlying70;have HB:=a0_ (Below.refl w.heap.size w);have H:(if (a0.size:Int)=3 then (if 1<(a0.size:Int) then (impl_pointOf.j0 k a0 ((bt a0 1) != 44)) else (none)) else (impl_pointOf.j0 k a0 true))=some (r1,r2,r3):=h;clear h;have HC2:=Aside0.mk H;clear H;go_enter Tryz.func39,Tryz.ntmps39;go_upto_region 1 with (first | ((with_reducible refine gate_dst (N:=2) rfl ?_);refine bx_ (N:=2) (cs:=#[.int .i64 0,.int .i64 0]) (t:=70) (h:=?_);intro gb467 hg w3 hbox hb;have BK467:=a0_ (hbox);have GW467:=gh_ HB hg;have GE467:=gh_ HB hg;replace HB:=sb_ HB hb;clear hb hbox hg))
 (try simp only [Act.put,List.setIfInBounds_toArray,List.set_cons_zero,List.set_cons_succ])
 go_cut [15] (fun v15 wc=>∃ (kq:Nat) (x15_1:Bool),v15=.bool x15_1∧Aside0 (impl_pointOf.j0 kq a0 x15_1=some (r1,r2,r3))∧Aside0 (kq≤k)∧Aside0 (wc.heap[gb467]?=some (.cells #[.int .i64 0,.int .i64 0] 70 (0,0)))∧Aside0 (Below w.heap.size w wc))
 case first =>
  have H:=HC2.out;clear HC2;by_cases c4:(a0.size:Int)=3
  ·
   rw [if_pos c4] at H;have c4b0:((a0.size:Int)==3)=true:=beq_iff_eq.mpr c4;have c4b1:((a0.size:Int) != 3)=false:=bne_eq_false_iff_eq.mpr c4;clear c4
   (first | rw [c4b0] | (simp only [i64_w,i32_w];rw [c4b0]) | skip)
   by_cases c5:1<(a0.size:Int)
   ·
    rw [if_pos c5] at H;have c5b0:decide (1<(a0.size:Int))=true:=decide_eq_true c5;have c5b1:decide (1<a0.size)=true:=decide_eq_true (by omega);clear c5;have H':=Aside0.mk H;clear H;have p6:0≤(1:Int):=(by omega);have q6:1<a0.size:=(by have:(1:Int)<(a0.size:Int):=od_;omega);have hx6:∀ h:1<a0.size,((a0[1]'h).toNat:Int)=bt a0 1:=bt_at a0 1;clear p6;have qi6:(1<(a0.size:Int))=True:=eq_true (od_);replace q6:=eq_true q6;go_wp2;go_meet
    case rel=>exact⟨_,(((bt a0 1) != 44)),(by first | rfl | (simp;done) | (simp [*];done)),H',⟨by first | omega | exact Nat.le_refl _⟩,⟨uq_⟩,⟨hB_⟩⟩
   ·
    rw [if_neg c5] at H;exact absurd H (by simp)
  ·
   rw [if_neg c4] at H;have c4b0:((a0.size:Int)==3)=false:=beq_eq_false_iff_ne.mpr c4;have c4b1:((a0.size:Int) != 3)=true:=bne_iff_ne.mpr c4
   (first | rw [c4b0] | (simp only [i64_w,i32_w];rw [c4b0]) | skip)
   have H':=Aside0.mk H;clear H;go_wp2;go_meet
   case rel=>exact⟨_,(true),(by first | rfl | (simp;done) | (simp [*];done)),H',⟨by first | omega | exact Nat.le_refl _⟩,⟨uq_⟩,⟨hB_⟩⟩
 case rest =>
  clear HC2;obtain⟨kq,x15_1,rfl,HA,HJ1,BK467,HB⟩:=hcut
  cases kq with
  | zero=>exact absurd HA.out (by simp [impl_pointOf.j0])
  | succ kj1 =>
   have H:=HA.out;clear HA;simp only [impl_pointOf.j0] at H;by_cases c7:x15_1=true
   ·
    subst c7;rw [if_pos rfl] at H
    (try dsimp only at H)
    simp only [Option.some.injEq,Prod.mk.injEq] at H;obtain⟨rfl,rfl,rfl⟩:=H;have hcz8_0:=c20_ BK467;have hcz8_1:=c21_ BK467;have hfz8_0:=fz_ BK467 0;have hfz8_1:=fz_ BK467 1;go_wp2;refine bodyPost_ret (results_ct rfl _ _ gb467 70 #[.int .i64 0,.int .i64 0] (0,0) _ rfl (by (with_reducible repeat (first | refine blk_drewN ?_ _ | refine blk_drew ?_ | refine blk_alloc ?_ _));refine blk_put (cs:=#[.int .i64 0,.int .i64 0]) ?_ 1 _ rfl;(with_reducible repeat (first | refine blk_drewN ?_ _ | refine blk_drew ?_ | refine blk_alloc ?_ _));refine blk_put (cs:=#[.int .i64 0,.int .i64 0]) ?_ 0 _ rfl;(with_reducible repeat (first | refine blk_drewN ?_ _ | refine blk_drew ?_ | refine blk_alloc ?_ _));exact BK467.out) Tryz.underlying70 rfl (by kernel_rfl)) rfl ?_;exact⟨rr_,hB_⟩
   ·
    replace c7:=Bool.eq_false_iff.mpr c7;subst c7;rw [if_neg (show ¬ (false=true) by decide)] at H
    (try dsimp only at H)
    by_cases c9:0<(a0.size:Int)
    ·
     rw [if_pos c9] at H;have c9b0:decide (0<(a0.size:Int))=true:=decide_eq_true c9;have c9b1:decide (0<a0.size)=true:=decide_eq_true (by omega);clear c9;replace H:=Option.bind_eq_some_iff.mp H;obtain⟨⟨t468,t469⟩,A110,H⟩:=H
     (try dsimp only at H)
     have A11:=Aside0.mk A110;clear A110;by_cases c12:2<(a0.size:Int)
     ·
      rw [if_pos c12] at H;have c12b0:decide (2<(a0.size:Int))=true:=decide_eq_true c12;have c12b1:decide (2<a0.size)=true:=decide_eq_true (by omega);clear c12;replace H:=Option.bind_eq_some_iff.mp H;obtain⟨⟨t470,t471⟩,A140,H⟩:=H
      (try dsimp only at H)
      have A14:=Aside0.mk A140;clear A140;by_cases c15:t469=true
      ·
       subst c15;rw [if_pos rfl] at H
       (try dsimp only at H)
       by_cases c16:t471=true
       ·
        subst c16;rw [if_pos rfl] at H
        (try dsimp only at H)
        simp only [Option.some.injEq,Prod.mk.injEq] at H;obtain⟨rfl,rfl,rfl⟩:=H;have p10:0≤(0:Int):=(by omega);have q10:0<a0.size:=(by have:(0:Int)<(a0.size:Int):=od_;omega);have hx10:∀ h:0<a0.size,((a0[0]'h).toNat:Int)=bt a0 0:=bt_at a0 0;clear p10;have qi10:(0<(a0.size:Int))=True:=eq_true (od_);replace q10:=eq_true q10
        go_wp2_with (first | ((with_reducible refine gate_callee (f:=57) rfl ?_);refine gL_ (some 20) Tryz.func57 #[.int .u8 (bt a0 0)] (h:=?_);(with_reducible refine (impl_figureOf.calls (bt a0 0) t468 true _ A11.out).mono ?_);rintro e w' ⟨rfl,⟨nd,rfl⟩⟩;refine⟨_,rfl,?_⟩;(try (rw [drewN_self wc];generalize hq_:World.drewN wc _=wc;have n0_:Aside0 (wc.heap[gb467]?=some (.cells #[.int .i64 0,.int .i64 0] 70 (0,0))):=⟨by rw [← hq_];exact uq_⟩;have n1_:Aside0 (Below w.heap.size w wc):=⟨by rw [← hq_];exact hB_⟩;clear BK467 HB hq_;have BK467:=n0_;have HB:=n1_;clear n0_ n1_));have p13:0≤(2:Int):=(by omega);have q13:2<a0.size:=(by have:(2:Int)<(a0.size:Int):=od_;omega);have hx13:∀ h:2<a0.size,((a0[2]'h).toNat:Int)=bt a0 2:=bt_at a0 2;clear p13;have qi13:(2<(a0.size:Int))=True:=eq_true (od_);replace q13:=eq_true q13) | ((with_reducible refine gate_callee (f:=57) rfl ?_);refine gL_ (some 26) Tryz.func57 #[.int .u8 (bt a0 2)] (h:=?_);(with_reducible refine (impl_figureOf.calls (bt a0 2) t470 true _ A14.out).mono ?_);rintro e w' ⟨rfl,⟨nd,rfl⟩⟩;refine⟨_,rfl,?_⟩;(try (rw [drewN_self wc];generalize hq_:World.drewN wc _=wc;have n0_:Aside0 (wc.heap[gb467]?=some (.cells #[.int .i64 0,.int .i64 0] 70 (0,0))):=⟨by rw [← hq_];exact uq_⟩;have n1_:Aside0 (Below w.heap.size w wc):=⟨by rw [← hq_];exact hB_⟩;clear BK467 HB hq_;have BK467:=n0_;have HB:=n1_;clear n0_ n1_));have hcz17_0:=c20_ BK467;have hcz17_1:=c21_ BK467;have hfz17_0:=fz_ BK467 0;have hfz17_1:=fz_ BK467 1))
        refine bodyPost_ret (results_ct rfl _ _ gb467 70 #[.int .i64 t468,.int .i64 t470] (0,0) _ rfl (by (with_reducible repeat (first | refine blk_drewN ?_ _ | refine blk_drew ?_ | refine blk_alloc ?_ _));refine blk_put (cs:=#[.int .i64 t468,.int .i64 0]) ?_ 1 _ rfl;(with_reducible repeat (first | refine blk_drewN ?_ _ | refine blk_drew ?_ | refine blk_alloc ?_ _));refine blk_put (cs:=#[.int .i64 0,.int .i64 0]) ?_ 0 _ rfl;(with_reducible repeat (first | refine blk_drewN ?_ _ | refine blk_drew ?_ | refine blk_alloc ?_ _));exact BK467.out) Tryz.underlying70 rfl (by kernel_rfl)) rfl ?_;exact⟨rr_,hB_⟩
       ·
        replace c16:=Bool.eq_false_iff.mpr c16;subst c16;rw [if_neg (show ¬ (false=true) by decide)] at H
        (try dsimp only at H)
        simp only [Option.some.injEq,Prod.mk.injEq] at H;obtain⟨rfl,rfl,rfl⟩:=H;have p10:0≤(0:Int):=(by omega);have q10:0<a0.size:=(by have:(0:Int)<(a0.size:Int):=od_;omega);have hx10:∀ h:0<a0.size,((a0[0]'h).toNat:Int)=bt a0 0:=bt_at a0 0;clear p10;have qi10:(0<(a0.size:Int))=True:=eq_true (od_);replace q10:=eq_true q10
        go_wp2_with (first | ((with_reducible refine gate_callee (f:=57) rfl ?_);refine gL_ (some 20) Tryz.func57 #[.int .u8 (bt a0 0)] (h:=?_);(with_reducible refine (impl_figureOf.calls (bt a0 0) t468 true _ A11.out).mono ?_);rintro e w' ⟨rfl,⟨nd,rfl⟩⟩;refine⟨_,rfl,?_⟩;(try (rw [drewN_self wc];generalize hq_:World.drewN wc _=wc;have n0_:Aside0 (wc.heap[gb467]?=some (.cells #[.int .i64 0,.int .i64 0] 70 (0,0))):=⟨by rw [← hq_];exact uq_⟩;have n1_:Aside0 (Below w.heap.size w wc):=⟨by rw [← hq_];exact hB_⟩;clear BK467 HB hq_;have BK467:=n0_;have HB:=n1_;clear n0_ n1_));have p13:0≤(2:Int):=(by omega);have q13:2<a0.size:=(by have:(2:Int)<(a0.size:Int):=od_;omega);have hx13:∀ h:2<a0.size,((a0[2]'h).toNat:Int)=bt a0 2:=bt_at a0 2;clear p13;have qi13:(2<(a0.size:Int))=True:=eq_true (od_);replace q13:=eq_true q13) | ((with_reducible refine gate_callee (f:=57) rfl ?_);refine gL_ (some 26) Tryz.func57 #[.int .u8 (bt a0 2)] (h:=?_);(with_reducible refine (impl_figureOf.calls (bt a0 2) t470 false _ A14.out).mono ?_);rintro e w' ⟨rfl,⟨nd,rfl⟩⟩;refine⟨_,rfl,?_⟩;(try (rw [drewN_self wc];generalize hq_:World.drewN wc _=wc;have n0_:Aside0 (wc.heap[gb467]?=some (.cells #[.int .i64 0,.int .i64 0] 70 (0,0))):=⟨by rw [← hq_];exact uq_⟩;have n1_:Aside0 (Below w.heap.size w wc):=⟨by rw [← hq_];exact hB_⟩;clear BK467 HB hq_;have BK467:=n0_;have HB:=n1_;clear n0_ n1_));have hcz18_0:=c20_ BK467;have hcz18_1:=c21_ BK467;have hfz18_0:=fz_ BK467 0;have hfz18_1:=fz_ BK467 1))
        refine bodyPost_ret (results_ct rfl _ _ gb467 70 #[.int .i64 0,.int .i64 0] (0,0) _ rfl (by (with_reducible repeat (first | refine blk_drewN ?_ _ | refine blk_drew ?_ | refine blk_alloc ?_ _));refine blk_put (cs:=#[.int .i64 0,.int .i64 0]) ?_ 1 _ rfl;(with_reducible repeat (first | refine blk_drewN ?_ _ | refine blk_drew ?_ | refine blk_alloc ?_ _));refine blk_put (cs:=#[.int .i64 0,.int .i64 0]) ?_ 0 _ rfl;(with_reducible repeat (first | refine blk_drewN ?_ _ | refine blk_drew ?_ | refine blk_alloc ?_ _));exact BK467.out) Tryz.underlying70 rfl (by kernel_rfl)) rfl ?_;exact⟨rr_,hB_⟩
      ·
       replace c15:=Bool.eq_false_iff.mpr c15;subst c15;rw [if_neg (show ¬ (false=true) by decide)] at H
       (try dsimp only at H)
       simp only [Option.some.injEq,Prod.mk.injEq] at H;obtain⟨rfl,rfl,rfl⟩:=H;have p10:0≤(0:Int):=(by omega);have q10:0<a0.size:=(by have:(0:Int)<(a0.size:Int):=od_;omega);have hx10:∀ h:0<a0.size,((a0[0]'h).toNat:Int)=bt a0 0:=bt_at a0 0;clear p10;have qi10:(0<(a0.size:Int))=True:=eq_true (od_);replace q10:=eq_true q10
       go_wp2_with (first | ((with_reducible refine gate_callee (f:=57) rfl ?_);refine gL_ (some 20) Tryz.func57 #[.int .u8 (bt a0 0)] (h:=?_);(with_reducible refine (impl_figureOf.calls (bt a0 0) t468 false _ A11.out).mono ?_);rintro e w' ⟨rfl,⟨nd,rfl⟩⟩;refine⟨_,rfl,?_⟩;(try (rw [drewN_self wc];generalize hq_:World.drewN wc _=wc;have n0_:Aside0 (wc.heap[gb467]?=some (.cells #[.int .i64 0,.int .i64 0] 70 (0,0))):=⟨by rw [← hq_];exact uq_⟩;have n1_:Aside0 (Below w.heap.size w wc):=⟨by rw [← hq_];exact hB_⟩;clear BK467 HB hq_;have BK467:=n0_;have HB:=n1_;clear n0_ n1_));have p13:0≤(2:Int):=(by omega);have q13:2<a0.size:=(by have:(2:Int)<(a0.size:Int):=od_;omega);have hx13:∀ h:2<a0.size,((a0[2]'h).toNat:Int)=bt a0 2:=bt_at a0 2;clear p13;have qi13:(2<(a0.size:Int))=True:=eq_true (od_);replace q13:=eq_true q13) | ((with_reducible refine gate_callee (f:=57) rfl ?_);refine gL_ (some 26) Tryz.func57 #[.int .u8 (bt a0 2)] (h:=?_);(with_reducible refine (impl_figureOf.calls (bt a0 2) t470 t471 _ A14.out).mono ?_);rintro e w' ⟨rfl,⟨nd,rfl⟩⟩;refine⟨_,rfl,?_⟩;(try (rw [drewN_self wc];generalize hq_:World.drewN wc _=wc;have n0_:Aside0 (wc.heap[gb467]?=some (.cells #[.int .i64 0,.int .i64 0] 70 (0,0))):=⟨by rw [← hq_];exact uq_⟩;have n1_:Aside0 (Below w.heap.size w wc):=⟨by rw [← hq_];exact hB_⟩;clear BK467 HB hq_;have BK467:=n0_;have HB:=n1_;clear n0_ n1_));have hcz19_0:=c20_ BK467;have hcz19_1:=c21_ BK467;have hfz19_0:=fz_ BK467 0;have hfz19_1:=fz_ BK467 1))
       refine bodyPost_ret (results_ct rfl _ _ gb467 70 #[.int .i64 0,.int .i64 0] (0,0) _ rfl (by (with_reducible repeat (first | refine blk_drewN ?_ _ | refine blk_drew ?_ | refine blk_alloc ?_ _));refine blk_put (cs:=#[.int .i64 0,.int .i64 0]) ?_ 1 _ rfl;(with_reducible repeat (first | refine blk_drewN ?_ _ | refine blk_drew ?_ | refine blk_alloc ?_ _));refine blk_put (cs:=#[.int .i64 0,.int .i64 0]) ?_ 0 _ rfl;(with_reducible repeat (first | refine blk_drewN ?_ _ | refine blk_drew ?_ | refine blk_alloc ?_ _));exact BK467.out) Tryz.underlying70 rfl (by kernel_rfl)) rfl ?_;exact⟨rr_,hB_⟩
     ·
      rw [if_neg c12] at H;exact absurd H (by simp)
    ·
     rw [if_neg c9] at H;exact absurd H (by simp)
end Go.Proofs.YtailkppkjhkjpaaGreatDoor.X
end
section
set_option linter.unusedVariables false
set_option linter.unusedSimpArgs false
namespace Go.Proofs.YtailkppkjhkjpaaGreatDoor.X
open Go.RowKit Go.Shelf Go.Proofs.YtailkppkjhkjpaaGreatDoorW.PrintWords Go.Proofs.YtailkppkjhkjpaaGreatDoorW.PrintLast Go.Proofs.YtailkppkjhkjpaaGreatDoorW.PrintMore
open Mort (ptOk loopOk)
open Txt (cutAt allOf rdPt isFig)
def rdS (x:ByteArray):Option S70:=(rdPt x.data.toList).map fun p=>⟨p.1,p.2⟩
def readL (t:ByteArray):List S70 × Bool:=if t.size≤40 then (match allOf rdS (cutB 32 t) with | some l=>if loopOk (l.map ptP) then (l,true) else ([],false) | none=>([],false)) else ([],false)
def impl_LoopRead.f (t:ByteArray):Option (List S70 × Bool):=some (readL t)
theorem figure_told (a:UInt8):impl_figureOf.f (a.toNat:Int)=some (if isFig a then ((a.toNat:Int)-48,true) else (0,false)):=by
 unfold impl_figureOf.f isFig;have hx:a.toNat<256:=a.toNat_lt;by_cases h1:(a.toNat:Int)<48
 ·
  rw [if_pos h1,if_neg (by simp;omega)]
 ·
  rw [if_neg h1];by_cases h2:(a.toNat:Int)>57
  ·
   rw [if_pos h2,if_neg (by simp;omega)]
  ·
   rw [if_neg h2,if_pos (by simp;omega)]
   congr 2
   omega
theorem pointOf_f (x:ByteArray):impl_pointOf.f 1 x=some (match rdS x with | some p=>(p.f0,p.f1,true) | none=>(0,0,false)):=by
 obtain⟨⟨l⟩⟩:=x;unfold impl_pointOf.f;have hsz:((⟨⟨l⟩⟩:ByteArray).size:Int)=(l.length:Int):=rfl;rw [hsz];by_cases h3:(l.length:Int)=3
 ·
  rw [if_pos h3,if_pos (by omega)];obtain⟨a,k,b,rfl⟩:∃ a k b,l=[a,k,b]:=by
   match l,h3 with
   | [a,k,b],_=>exact⟨a,k,b,rfl⟩
   | [],h=>simp at h
   | [_],h=>simp at h
   | [_,_],h=>simp at h
   | _::_::_::_::_,h=>simp at h;omega
  have e0:bt (⟨⟨[a,k,b]⟩⟩:ByteArray) 0=(a.toNat:Int):=rfl;have e1:bt (⟨⟨[a,k,b]⟩⟩:ByteArray) 1=(k.toNat:Int):=rfl;have e2:bt (⟨⟨[a,k,b]⟩⟩:ByteArray) 2=(b.toNat:Int):=rfl;have er:rdS ⟨⟨[a,k,b]⟩⟩=if k=44 && (isFig a && isFig b) then some ⟨(a.toNat:Int)-48,(b.toNat:Int)-48⟩ else none:=by
   unfold rdS
   show (rdPt [a,k,b]).map _=_
   rw [Txt.rdPt3]
   split <;> rfl
  rw [er];rw [impl_pointOf.j0,e0,e1,e2,figure_told,figure_told,hsz];simp only [List.length_cons,List.length_nil,Option.bind_some];by_cases hk:k=44
  ·
   subst hk;rw [if_neg (by decide),if_pos (by decide),if_pos (by decide)];cases isFig a <;> cases isFig b <;> rfl
  ·
   have hk2:((k.toNat:Int) != 44)=true:=by
    rw [bne_iff_ne];intro e;exact hk (UInt8.toNat_inj.1 (by show k.toNat=44;omega))
   rw [if_pos hk2];simp [hk]
 ·
  rw [if_neg h3];rw [impl_pointOf.j0,if_pos rfl];have er:rdS ⟨⟨l⟩⟩=none:=by
   unfold rdS
   show (rdPt l).map _=_
   match l,h3 with
   | [a,k,b],h=>simp at h
   | [],_=>rfl
   | [_],_=>rfl
   | [_,_],_=>rfl
   | _::_::_::_::_,_=>rfl
  rw [er]
theorem info_Pt:(Tryz.prog.info? 70).map (fun i=>(i.zero,i.size,i.bytes))=some (some (.agg #[.int .i64 0,.int .i64 0]),2,16):=by kernel_rfl
theorem made0P (n:Nat)(hn:n≤1000)(w:World):(Instr.makeSlice 24 (.int .i64 0) (.int .i64 (n:Int))).run Tryz.prog w=.ok (.slice (some ⟨w.heap.size,0,none⟩) 0 n) (w.alloc (.cells (madeCells #[.int .i64 0,.int .i64 0] (n*2)) 70)):=by
 have h:=info_Pt
 cases hi:Tryz.prog.info? 70 with
 | none=>rw [hi] at h;cases h
 | some i =>
  rw [hi] at h;simp only [Option.map_some,Option.some.injEq,Prod.mk.injEq] at h;obtain⟨h1,h2,h3⟩:=h;have:=run_make (P:=Tryz.prog) w 24 70 i (.agg #[.int .i64 0,.int .i64 0]) Tryz.underlying24 hi h1 .i64 .i64 0 (n:Int) (Int.le_refl _) (by omega) (by rw [h3];omega) (by omega);rw [h2] at this;simp only [Int.toNat_zero,Int.toNat_natCast] at this;exact this
theorem R_madeP (n:Nat)(hn:n≤1000)(w:World):Kd.R k70 70 (w.alloc (.cells (madeCells #[.int .i64 0,.int .i64 0] (n*2)) 70)) w.heap.size (fun _=>True) (.slice (some ⟨w.heap.size,0,none⟩) 0 n) []:=
 ⟨fun _ _=>trivial,[],World.ownsRow_made w _ n (Nat.le_refl _) (by unfold maxLen;omega) (by rw [size_madeCells];rfl),Reps.none _ _⟩
theorem allOf_at {xs:List ByteArray}{i:Nat}(hi:i<xs.length){x:ByteArray}(hx:rdOf ByteArray.empty xs (i:Int)=x):xs.drop i=x::xs.drop (i+1):=by
 rw [List.drop_eq_getElem_cons hi,← hx]
 congr 1
 unfold rdOf;rw [Int.toNat_natCast,List.getD_eq_getElem?_getD,List.getElem?_eq_getElem hi];rfl
theorem cutB_len (c:UInt8)(s:ByteArray):0<(cutB c s).length∧(cutB c s).length≤s.size+1:=by
 unfold cutB;rw [List.length_map];have:=Txt.cut_len c s.data.toList;have e2:s.data.toList.length=s.size:=by rw [Array.length_toList];rfl
 obtain⟨x,xs,h⟩:=Txt.cutAt_ne c s.data.toList;rw [h] at this ⊢
 simp only [List.length_cons] at this ⊢
 omega
set_option maxHeartbeats 4000000 in
set_option maxRecDepth 100000 in
theorem impl_LoopRead.calls (s:ByteArray)(r1:List S70)(r2:Bool)(w:World)(h:impl_LoopRead.f s=some (r1,r2)):
  Calls Tryz.prog 21 #[.string s] w fun e w'=>∃ v0_:Value,e=.returned (.tuple #[v0_,.bool r2])∧Kd.R k70 70 w' w.heap.size (fun _=>True) v0_ r1∧Below w.heap.size w w':=by
 have hu37:=Tryz.underlying70;have hr:readL s=(r1,r2):=Option.some.inj h;clear h;unfold readL at hr;by_cases h40:s.size≤40
 ·
  rw [if_pos h40] at hr;have hd:decide (40<(s.size:Int))=false:=decide_eq_false (by omega);have hS:strings_Split.f s ⟨#[32]⟩=some (cutB 32 s):=by unfold strings_Split.f;rw [if_pos (by omega)]
  obtain⟨ws,hws⟩:∃ ws,cutB 32 s=ws:=⟨_,rfl⟩;have hwl:=cutB_len 32 s;rw [hws] at hS hwl hr;have HK:=a0_ (And.intro hr (And.intro hS (And.intro hwl.1 (show ws.length≤41 by omega))));clear hr h40 hS hws hwl;go_enter Tryz.func21,Tryz.ntmps21;go_wp2_with (go_at_call 19;(with_reducible refine (strings_Split.calls s ⟨#[32]⟩ ws _ HK.out.2.1).mono ?_);rintro e w1 ⟨v0,rfl,hR,hb⟩;obtain⟨gw,cw,rfl,_,hgw,_⟩:=Kd.R_form hR HK.out.2.2.1;have hmk:=made0P ws.length (by have:=HK.out.2.2.2;omega) w1;have H1:=a0_ (And.intro hR (And.intro hb hgw));clear hR hb hgw);clear hmk hd;obtain⟨gb,hgb⟩:∃ gb,w1.heap.size=gb:=⟨_,rfl⟩;have hR0:=R_madeP ws.length (by have:=HK.out.2.2.2;omega) w1;have hB0:Below gb w1 (w1.alloc (.cells (madeCells #[.int .i64 0,.int .i64 0] (ws.length*2)) 70)):=hgb▸below_alloc (Below.refl _ w1) _;rw [hgb] at hR0 ⊢
  have HB:=a0_ (And.intro hgb (And.intro hR0 hB0));clear hgb hR0 hB0;generalize w1.alloc (.cells (madeCells #[.int .i64 0,.int .i64 0] (ws.length*2)) 70)=W at *;go_loopg [5,20] ws.length (fun kq v5 v20 wr=>∃ (i:Nat) (ps:List S70),v20=.int .i64 (i:Int)∧Aside0 (kq=ws.length-i∧i≤ws.length∧Below gb w1 wr∧Kd.R k70 70 wr gb (fun _=>True) v5 ps∧ps.length=i∧allOf rdS ws=(allOf rdS (ws.drop i)).map (ps ++ ·)))
  case atStart=>exact⟨0,[],rfl,⟨rfl,Nat.zero_le _,HB.out.2.2,HB.out.2.1,rfl,by rw [List.drop_zero];cases allOf rdS ws <;> rfl⟩⟩
  case round =>
   obtain⟨i,ps,rfl,HR⟩:=hrel;have hi:=HR.out.2.1;by_cases hlt:i<ws.length
   ·
    have hd:decide ((i:Int)<(ws.length:Int))=true:=decide_eq_true (by omega);have hd2:(i:Int)<(ws.length:Int):=by omega
    have hC:=Kd.C_below (Kd.R_reads' H1.out.1).2.2 (HB.out.1.symm▸HR.out.2.2.1:Below w1.heap.size w1 wr);obtain⟨ad,hA,z0⟩:=Kd.at_string hC (i:Int) (by omega) (by omega);injection hA with hA;rw [Int.toNat_natCast] at z0;obtain⟨x,hx⟩:∃ x,rdOf ByteArray.empty ws (i:Int)=x:=⟨_,rfl⟩;have hdr:=allOf_at hlt hx;rw [hx] at z0;subst hA;rw [add_at,Nat.zero_add] at z0;have hsz:gb≤wr.heap.size:=by have:=HR.out.2.2.1.size;have:=HB.out.1;omega
    have hpt:=pointOf_f x
    cases hx2:rdS x with
    | none =>
     have hfail:r1=[]∧r2=false:=by
      have hr:=HK.out.1;have:=HR.out.2.2.2.2.2;rw [hdr,allOf,hx2] at this;rw [this] at hr;cases hr;exact⟨rfl,rfl⟩
     obtain⟨rfl,rfl⟩:=hfail;rw [hx2] at hpt;have HP:=a0_ (And.intro hpt (And.intro HR.out.2.2.1 hsz));clear hpt hx2 hx hdr hC hi hlt HR hsz;go_wp2_with (go_at_call 39;(with_reducible refine (impl_pointOf.calls 1 x 0 0 false _ HP.out.1).mono ?_);rintro e w2 ⟨rfl,hb2⟩;have H2:=Aside0.mk hb2;clear hb2);go_ret2;have hb3:=below_alloc (Below.refl _ w2) (.cells #[.int .i64 0,.int .i64 0] 70);refine⟨_,rfl,Kd.R_nil _ _ _ _ _,?_⟩;exact below_step H1.out.2.1 ((HB.out.1.symm▸HP.out.2.1).trans ((H2.out.mono (by have:=HP.out.2.2;have:=HB.out.1;omega)).trans (hb3.mono (by have:=HP.out.2.2;have:=HB.out.1;have:=H2.out.size;omega))))
    | some p =>
     rw [hx2] at hpt;have hst:allOf rdS ws=(allOf rdS (ws.drop (i+1))).map (ps++[p] ++ ·):=by
      have:=HR.out.2.2.2.2.2;rw [this,hdr,allOf,hx2,Option.bind_some]
      cases allOf rdS (ws.drop (i+1)) with
      | none=>rfl
      | some l=>simp
     have HP:=a0_ (And.intro hpt (And.intro HR.out.2.2.1 (And.intro hsz (And.intro HR.out.2.2.2.1 (And.intro hlt (And.intro HR.out.2.2.2.2.1 (And.intro hst HR.out.1)))))));clear hpt hx2 hx hdr hC hi hlt HR hsz hst;have hl16:(ps.length+1)*16≤140737488355328:=by have:=HK.out.2.2.2;have:=HP.out.2.2.2.2.1;have:=HP.out.2.2.2.2.2.1;omega
     go_wp2_with (first
      | (go_at_call 39;(with_reducible refine (impl_pointOf.calls 1 x p.f0 p.f1 true _ HP.out.1).mono ?_);rintro e w2 ⟨rfl,hb2⟩;have hal2:=below_alloc (Below.refl _ w2) (.cells #[.int .i64 p.f0,.int .i64 p.f1] 70);have H2:=a0_ (And.intro (Kd.R_below (Kd.R_below HP.out.2.2.2.1 hb2) hal2) (And.intro ((HP.out.2.1.trans (hb2.mono HP.out.2.2.1)).trans (hal2.mono (Nat.le_trans HP.out.2.2.1 hb2.size))) (Nat.le_trans (Nat.le_trans HP.out.2.2.1 hb2.size) hal2.size)));clear hb2 hal2)
      | ((with_reducible refine gate_builtin (b:=.append) (xs:=#[.tmp 31,.tmp 33]) rfl ?_);go_loud (at_builtin;refine Kd.R_append k70 (w0:=w1) gb rfl (.tmp 31) (.tmp 33) 24 70 (.agg #[.int .i64 0,.int .i64 0]) 16 rfl Tryz.underlying24 info_Pt rfl (by decide) (by omega) u5 ps p [.int .i64 p.f0,.int .i64 p.f1] (fun _=>True) (fun _=>False) rfl (by first | rfl | (go_simp;done) | (go_simp;rfl)) (k70_mkM _ _ _ p) (fun _ hk=>hk.elim) (fun _ _=>trivial) H2.out.1 H2.out.2.1 H2.out.2.2 hl16 ?_;intro v2 w3 ho3 hb3 _ _;have H3:=a0_ (And.intro ho3 hb3);clear ho3 hb3)))
     obtain⟨_,_,_,_,g4,g5,g6,g7⟩:=HP.out;have hw:wrap64 ((i:Int)+1)=(i:Int)+1:=by have:=HK.out.2.2.2;unfold wrap64;omega
     go_roundg (ws.length-(i+1))
     case measure=>omega
     case rel=>exact⟨i+1,ps++[p],by rw [hw];rfl,⟨rfl,g4,H3.out.2,H3.out.1,by simp [g5],g6⟩⟩
   ·
    obtain rfl:i=ws.length:=by omega
    have hd:decide ((ws.length:Int)<(ws.length:Int))=false:=decide_eq_false (by omega);obtain⟨_,_,h3,h4,h5,h6⟩:=HR.out;obtain⟨A,c,rfl⟩:=Kd.R_slice h4;have hall:allOf rdS ws=some ps:=by
     rw [h6,List.drop_length,allOf];simp
    have hr:=HK.out.1;rw [hall] at hr;simp only at hr;have HJ:=a0_ (And.intro h3 (And.intro h4 (And.intro (Kd.R_reads' h4).2.1 (Kd.R_reads' h4).2.2)));clear h3 h4 h5 h6 hall hlt hi HR
    cases hL:loopOk (ps.map ptP) with
    | true =>
     rw [hL,if_pos rfl] at hr;obtain⟨rfl,rfl⟩:=Prod.mk.inj hr;have HL:=a0_ (show impl_LoopOk.f ps=some true from congrArg some hL);clear hL hr;go_wp2_with (go_at_call 40;(with_reducible refine (impl_LoopOk.calls A c ps true _ HJ.out.2.2.2 HJ.out.2.2.1 HL.out).mono ?_);rintro e w2 ⟨rfl,hb2⟩;have H2:=Aside0.mk hb2;clear hb2);go_ret2;refine⟨_,rfl,Kd.R_lower (Kd.R_below HJ.out.2.1 H2.out) (by have:=H1.out.2.1.size;have:=HB.out.1;omega),?_⟩;exact below_step H1.out.2.1 (below_step (HB.out.1.symm▸HJ.out.1) H2.out)
    | false =>
     rw [hL,if_neg (by decide)] at hr;obtain⟨rfl,rfl⟩:=Prod.mk.inj hr;have HL:=a0_ (show impl_LoopOk.f ps=some false from congrArg some hL);clear hL hr;go_wp2_with (go_at_call 40;(with_reducible refine (impl_LoopOk.calls A c ps false _ HJ.out.2.2.2 HJ.out.2.2.1 HL.out).mono ?_);rintro e w2 ⟨rfl,hb2⟩;have H2:=Aside0.mk hb2;clear hb2);go_ret2;refine⟨_,rfl,Kd.R_nil _ _ _ _ _,?_⟩;exact below_step H1.out.2.1 (below_step (HB.out.1.symm▸HJ.out.1) H2.out)
 ·
  rw [if_neg h40] at hr;obtain⟨rfl,rfl⟩:=Prod.mk.inj hr;have hd:decide (40<(s.size:Int))=true:=decide_eq_true (by omega);clear hr h40;go_enter Tryz.func21,Tryz.ntmps21;go_wp2;go_ret2;exact⟨_,rfl,Kd.R_nil _ _ _ _ _,Below.refl _ _⟩
end Go.Proofs.YtailkppkjhkjpaaGreatDoor.X
end
