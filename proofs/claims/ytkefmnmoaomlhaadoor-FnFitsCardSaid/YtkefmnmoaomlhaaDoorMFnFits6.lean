/- FnFits: the law returns true for every input, and each input reads behind the call as before; part 6 of 6. No condition. Merged by program out of: HBody, HSeg, HBodyFar, FImplToolOk, HFits, FLawsFnFits, EvLoop, EvPlate, EvPlateS, EvPlateF, EvDraws, PureFnFits, WSized, LawFnFits. -/
import Derived.Test.YtkefmnmoaomlhaaDoorMFnFits5
import Derived.RegionTactic
import Derived.ChangeAlike
import Derived.OwnWalk
import Derived.Outline
import Derived.Deep.RegionHeld3
import Derived.WalkLawsBesides
import Derived.SizedLaws
import Derived.ChangeSlices
import Derived.WalkKit
import Derived.ProofKit
import Derived.OpenShut
import Derived.ShutString
import Derived.ChangeOld
import Derived.Below
import Derived.SevenTiedAt
set_option linter.all false
section
set_option linter.unusedVariables false
set_option linter.unusedSimpArgs false
namespace Go.Proofs.YtkefmnmoaomlhaaDoor.X
open Go.RowKit Go.Shelf Go.Proofs.YtkefmnmoaomlhaaDoorW.PrintWords Go.Proofs.YtkefmnmoaomlhaaDoorW.PrintLast Go.Proofs.YtkefmnmoaomlhaaDoorW.PrintMore
open Mort (edges segMeet loopOk ptOk inOf)
attribute [local go_sem] Oper.semAt_some
def bodyOkB (o:List S28)(H:List (List S28)):Bool:=
  decide (H.length≤2) && (loopOk (o.map ptP) && (H.all (fun z=>loopOk (z.map ptP)) && (apartAll (o::H) && nestedAll o H)))
def edgesS (z:List S28):List S61:=(List.finRange z.length).map fun (i:Fin z.length)=>edS z (i:Nat)
def allEdges (R:List (List S28)):List S61:=R.flatMap edgesS
theorem allEdges_len {R:List (List S28)}(h:Small R):(allEdges R).length≤8*R.length:=by
  induction R with
  | nil=>simp [allEdges]
  | cons z R ih =>
    have h1:=ih (fun u hu=>h u (List.mem_cons_of_mem _ hu));have h2:=(h z List.mem_cons_self).2;unfold allEdges at h1 ⊢
    rw [List.flatMap_cons,List.length_append];have h3:(edgesS z).length=z.length:=by simp [edgesS]
    rw [h3,List.length_cons];omega
theorem at_row {w:World}{A:Option Addr}{n:Nat}{xs:List (List S28)}(h:Kd.C (Kd.slice 28 k28) w A n xs)(i:Nat)(h1:i<n):
    ∃ ad A0 c0,A=some ad∧w.cell? (ad.add i)=some (.slice A0 (xs.getD i []).length c0)∧(xs.getD i []).length≤c0∧k28.C w A0 (xs.getD i []).length (xs.getD i []):=by
  obtain⟨ad,c,e,_,hK,hc0⟩:=Kd.C_get h ([]:List S28) (i:Int) (by omega) (by omega);have hc:∀ j u,c[j]?=some u→w.cell? (ad.add (i*1+j))=some u:=hc0;obtain⟨A0,c0,rfl,l0,g0⟩:=hK;exact⟨ad,A0,c0,e,by have hq:=hc 0 _ rfl;rwa [Nat.mul_one,Nat.add_zero] at hq,l0,g0⟩
def BodyRes (o:List S28)(H:List (List S28))(w:World)(e:Ending)(w':World):Prop:=
  ∃ b bs v,e=.returned (.tuple #[.pointer (some ⟨b,0,none⟩),.bool true])∧BodyAt w' b bs o H∧w'.cell? ⟨b,2,none⟩=some v∧Kd.R k61 61 w' w.heap.size (fun _=>True) v (allEdges (o::H))∧Below w.heap.size w w'
def NoBody (w:World)(e:Ending)(w':World):Prop:=e=.returned (.tuple #[.pointer none,.bool false])∧Below w.heap.size w w'
def BodyPost (o:List S28)(H:List (List S28))(w:World)(r:Bool)(e:Ending)(w':World):Prop:=(r=true→BodyRes o H w e w')∧(r=false→NoBody w e w')
set_option maxHeartbeats 8000000 in
set_option maxRecDepth 100000 in
theorem bodyOf_calls (A0:Option Addr)(c0:Nat)(o:List S28)(AH:Option Addr)(cH:Nat)(H:List (List S28))(r:Bool)(w:World)(hr0:Kd.C k28 w A0 o.length o)(hc0:o.length≤c0)
    (hr1:Kd.C (Kd.slice 28 k28) w AH H.length H) (hc1:H.length≤cH) (h:bodyOkB o H=r) :
    Calls Tryd.prog 52 #[.agg #[.slice A0 o.length c0,.slice AH H.length cH]] w (BodyPost o H w r):=by
  have HR:=Aside0.mk h;clear h;have hu26:=Tryd.underlying26;refine (callsIn_wide (n:=9)).1 ?_;refine callsIn_of_wp_marks Tryd.func52 rfl trivial ?_ rfl;simp only [Tryd.ntmps52,List.size_toArray,List.length_cons,List.length_nil,Nat.reduceAdd,Nat.reduceSub,Array.replicate_succ,Array.replicate_zero,List.push_toArray,List.append_toArray,List.nil_append,List.cons_append];have bP:=World.alloc_heap_new w (.cells #[.slice A0 o.length c0,.slice AH H.length cH] 26 (0,0));have cP0:(w.alloc (.cells #[.slice A0 o.length c0,.slice AH H.length cH] 26)).cell? ⟨w.heap.size,0,none⟩=some (.slice A0 o.length c0):=(blk_cell bP 0).trans rfl;have cP1:(w.alloc (.cells #[.slice A0 o.length c0,.slice AH H.length cH] 26)).cell? ⟨w.heap.size,1,none⟩=some (.slice AH H.length cH):=(blk_cell bP 1).trans rfl;have hB0:=below_alloc (Below.refl w.heap.size w) (.cells #[.slice A0 o.length c0,.slice AH H.length cH] 26);by_cases h2:2<H.length
  · have b1:decide (2<(H.length:Int))=true:=decide_eq_true (by omega)
    obtain rfl:r=false:=by rw [← HR.out];unfold bodyOkB;rw [decide_eq_false (by omega)];rfl
    gi_wp2;refine⟨trivial,?_⟩;gi_wp2;refine⟨.tuple #[.pointer none,.bool false],?_,fun h=>(by cases h),fun _=>⟨rfl,hB0⟩⟩;simp [results,Tryd.f52,go_sem]
  have b1:decide (2<(H.length:Int))=false:=decide_eq_false (by omega)
  cases hlo:loopOk (o.map ptP) with
  | false =>
    obtain rfl:r=false:=by rw [← HR.out];unfold bodyOkB;rw [hlo];simp
    have HL:impl_LoopOk.f o=some false:=congrArg some hlo;clear hlo;gi_wp2_with (refine⟨trivial,?_⟩;gi_at_call 93;refine (callsIn_wide.2 (impl_LoopOk.calls A0 c0 o false _ (Kd.C_below hr0 hB0) hc0 HL)).mono ?_;rintro e w1 ⟨rfl,hb⟩);refine⟨.tuple #[.pointer none,.bool false],?_,fun h=>(by cases h),fun _=>⟨rfl,below_step hB0 hb⟩⟩;simp [results,Tryd.f52,go_sem]
  | true =>
    have HL:impl_LoopOk.f o=some true:=congrArg some hlo;have HLO:=Aside0.mk hlo;clear hlo;gi_wp2_with (refine⟨trivial,?_⟩;gi_at_call 93;refine (callsIn_wide.2 (impl_LoopOk.calls A0 c0 o true _ (Kd.C_below hr0 hB0) hc0 HL)).mono ?_;rintro e w1 ⟨rfl,hb⟩;have dP0:=pw_cell_below hb cP0;have dP1:=pw_cell_below hb cP1;have dB1:=below_step hB0 hb;have eB:=below_alloc (below_alloc (Below.refl w1.heap.size w1) (.cells #[.slice A0 o.length c0,.pointer none,.slice none 0 0] 109)) (.cells #[.pointer (some ⟨w1.heap.size,0,none⟩)] 75);have eP1:=pw_cell_below eB dP1);have bV:=Boxed.new (w1.alloc (.cells #[.slice A0 o.length c0,.pointer none,.slice none 0 0] 109)) 75 (.pointer (some ⟨w1.heap.size,0,none⟩));simp only [World.size_alloc] at bV;have hBd:Built w ((w1.alloc (.cells #[.slice A0 o.length c0,.pointer none,.slice none 0 0] 109)).alloc (.cells #[.pointer (some ⟨w1.heap.size,0,none⟩)] 75)) w.heap.size w1.heap.size [] A0 c0 o [] (.slice none 0 0):=
      ⟨blk_alloc' (World.alloc_heap_new w1 _) _,dB1.size,rfl,by simp,fun j hj=>by simp at hj⟩
    have hP1:=blk_later (blk_later bP hb) eB;have hB1:=below_step dB1 eB;have hn1:=dB1.size;clear eP1 eB dB1 dP0 dP1 hb bP cP0 cP1 hB0;obtain⟨W1,hW1⟩:∃ W1,(w1.alloc (.cells #[.slice A0 o.length c0,.pointer none,.slice none 0 0] 109)).alloc (.cells #[.pointer (some ⟨w1.heap.size,0,none⟩)] 75)=W1:=⟨_,rfl⟩;rw [hW1] at bV hBd hP1 hB1 ⊢
    clear hW1;generalize w1.heap.size=bb at *;gi_loopw [5,32] (fun v5 v32 wr=>∃ (i lb:Nat),v5=.pointer (some ⟨lb,0,none⟩)∧v32=.int .i64 i∧i≤H.length∧Aside0 (∃ bs,lb=lastOf bb bs∧Built w wr w.heap.size bb bs A0 c0 o (H.take i) (.slice none 0 0)∧Boxed wr (bb+1) 75 (.pointer (some ⟨bb,0,none⟩))∧(∀ z∈H.take i,loopOk (z.map ptP)=true)∧wr.heap[w.heap.size]?=some (.cells #[.slice A0 o.length c0,.slice AH H.length cH] 26 (0,0))∧Below w.heap.size w wr))
      (fun _ v32 _=>H.length-(intOf v32).toNat)
    case atStart=>exact⟨0,bb,rfl,rfl,Nat.zero_le _,⟨[],rfl,by rw [List.take_zero];exact hBd,bV,by simp,hP1,hB1⟩⟩
    case round =>
      obtain⟨i,lb,rfl,rfl,hi,HI⟩:=hrel;obtain⟨bs,hlb,hBd,bV,hok,hP,hB⟩:=HI.out;clear HI hB1;by_cases hlt:i<H.length
      · obtain⟨ad,A',c',hAH,hx,hzc,hzC⟩:=at_row hr1 i hlt
        subst hAH;have hxr:wr.cell? (ad.add i)=some (.slice A' (H.getD i []).length c'):=pw_cell_below hB hx;have hzW:=Kd.C_below hzC hB;have hz:H.getD i []=H[i]:=getD_lt hlt;have htk:H.take (i+1)=H.take i++[H.getD i []]:=by rw [hz];exact List.take_succ_eq_append_getElem hlt
        have hHm:H.getD i []∈H:=by rw [hz];exact List.getElem_mem _
        generalize H.getD i []=z at *;have HT:=a0_ (And.intro htk (And.intro hHm (And.intro hBd (And.intro bV (And.intro hok (And.intro hP (And.intro hB hlb)))))));clear htk hHm hBd bV hok hP hlb hz hx
        cases hlz:loopOk (z.map ptP) with
        | false =>
          obtain rfl:r=false:=by
            rw [← HR.out];unfold bodyOkB;rw [show H.all (fun z=>loopOk (z.map ptP))=false from List.all_eq_false.2 ⟨z,HT.out.2.1,by rw [hlz];simp⟩];simp
          have HZ:impl_LoopOk.f z=some false:=congrArg some hlz;clear hlz;gi_wp2_with (refine⟨trivial,?_⟩;gi_at_call 93;refine (callsIn_wide.2 (impl_LoopOk.calls A' c' z false _ hzW hzc HZ)).mono ?_;rintro e w2 ⟨rfl,hb⟩);refine⟨.tuple #[.pointer none,.bool false],?_,fun h=>(by cases h),fun _=>⟨rfl,below_step hB hb⟩⟩;simp [results,Tryd.f52,go_sem]
        | true =>
          have HZ:impl_LoopOk.f z=some true:=congrArg some hlz;have HLZ:=Aside0.mk hlz;clear hlz;have hlast:∃ (y:Value) (cs:List Value) (t:TypeId),wr.heap[lb]?=some (.cells (#[y,.pointer none]++cs.toArray) t (0,0))∧w.heap.size≤lb:=by
            rw [HT.out.2.2.2.2.2.2.2];exact HT.out.2.2.1.last_cells
          obtain⟨y,cs,t,hobj,hlo⟩:=hlast
          gi_wp2_with (refine⟨trivial,?_⟩;gi_at_call 93;refine (callsIn_wide.2 (impl_LoopOk.calls A' c' z true _ hzW hzc HZ)).mono ?_;rintro e w2 ⟨rfl,hb⟩
                       have hob2:=blk_alloc' (blk_later hobj hb) (.cells #[.slice A' z.length c',.pointer none] 107);have s1:(w2.alloc (.cells #[.slice A' z.length c',.pointer none] 107)).cell? ⟨lb,1,none⟩=some (.pointer none):=(blk_cell hob2 1).trans (by simp);have s2:=blk_frozen hob2 1
                       have s3:((w2.alloc (.cells #[.slice A' z.length c',.pointer none] 107)).setCell ⟨lb,1,none⟩ (.pointer (some ⟨w2.heap.size,0,none⟩))).cell? ⟨lb,1,none⟩=some (.pointer (some ⟨w2.heap.size,0,none⟩)):=World.cell?_setCell_same' _ _ _ (by rw [s1];rfl))
          obtain⟨htk,hHm,hBd,bV,hok,hP,hB',hlb⟩:=HT.out;have hne1:bb+1≠lb:=by
            intro e;have h1:=hobj;rw [← e,show wr.heap[bb+1]?=_ from bV] at h1;have h2:=congrArg (fun (u:Option Obj)=>match u with | some (.cells a _ _)=>a.size | _=>0) h1;simp at h2
          have hne2:w.heap.size≠lb:=by
            intro e;have h1:=hobj;rw [← e,hP] at h1;have h2:=congrArg (fun (u:Option Obj)=>match u with | some (.cells a _ _)=>a[1]? | _=>none) h1;simp at h2
          have hbd2:=(hBd.later hb).push A' c' z hzC hzc (Nat.le_trans hB.size hb.size);rw [← hlb,← htk] at hbd2;refine⟨⟨i+1,w2.heap.size,rfl,by simp,by omega,⟨bs++[w2.heap.size],(lastOf_snoc bb _ bs).symm,hbd2,?_,?_,?_,?_⟩⟩,by simp [intOf];omega⟩
          · exact (Below.heap_setCell _ ⟨lb,1,none⟩ _ _ hne1).trans ((box_later bV hb).alloc _)
          · intro u hu
            rw [htk] at hu
            rcases List.mem_append.1 hu with hu | hu
            · exact hok u hu
            · simp at hu;subst hu;exact HLZ.out
          · rw [Below.heap_setCell _ ⟨lb,1,none⟩ _ _ hne2];exact blk_alloc' (blk_later hP hb) _
          · exact (below_alloc (below_step hB hb) _).setCell (p:=⟨lb,1,none⟩) hlo _
      · obtain rfl:i=H.length:=by omega
        rw [List.take_length] at hBd hok;have hBA:=hBd.bodyAt hB hr0 hc0;have hsm:Small (o::H):=fun z hz=>by
          have:loopOk (z.map ptP)=true:=by
            rcases List.mem_cons.1 hz with e | hz
            · rw [e];exact HLO.out
            · exact hok z hz
          obtain⟨h3,h8,_⟩:=(Mort.loopOk_iff _).1 this;rw [List.length_map] at h3 h8;exact⟨by omega,h8⟩
        have hRr:r=(apartAll (o::H) && nestedAll o H):=by
          rw [← HR.out];unfold bodyOkB;rw [decide_eq_true (by omega),HLO.out,List.all_eq_true.2 hok];rfl
        have HT:=a0_ (And.intro hBd (And.intro hok (And.intro hP (And.intro hB (And.intro hlb (And.intro hBA (And.intro hsm hRr)))))));have cV:=bV.cell;clear hBd hok hP hB hlb hBA hsm hRr HR hlt hi
        cases hap:apartAll (o::H) with
        | false =>
          gi_wp2_with (refine⟨trivial,?_⟩;gi_at_call 94;refine (callsIn_wide.2 (apart_calls bb (o::H) false _ HT.out.2.2.2.2.2.1.rings HT.out.2.2.2.2.2.2.1 hap)).mono ?_;rintro e w2 ⟨rfl,hb⟩);obtain rfl:r=false:=by rw [HT.out.2.2.2.2.2.2.2,hap];rfl
          refine⟨trivial,?_⟩;gi_wp2;refine⟨.tuple #[.pointer none,.bool false],?_,fun h=>(by cases h),fun _=>⟨rfl,below_step HT.out.2.2.2.1 hb⟩⟩;simp [results,Tryd.f52,go_sem]
        | true =>
          cases hne:nestedAll o H with
          | false =>
            gi_wp2_with (first
              | (refine⟨trivial,?_⟩;gi_at_call 94;refine (callsIn_wide.2 (apart_calls bb (o::H) true _ HT.out.2.2.2.2.2.1.rings HT.out.2.2.2.2.2.2.1 hap)).mono ?_;rintro e w2 ⟨rfl,hb⟩;have cV2:=(box_later bV hb).cell)
              | (refine⟨trivial,?_⟩;gi_at_call 95;refine (callsIn_wide.2 (nested_calls bb _ o H false _ (HT.out.2.2.2.2.2.1.later hb) HLO.out HT.out.2.1 hne)).mono ?_;rintro e w3 ⟨rfl,hb2⟩))
            obtain rfl:r=false:=by rw [HT.out.2.2.2.2.2.2.2,hap,hne];rfl
            refine⟨.tuple #[.pointer none,.bool false],?_,fun h=>(by cases h),fun _=>⟨rfl,below_step (below_step HT.out.2.2.2.1 hb) hb2⟩⟩;simp [results,Tryd.f52,go_sem]
          | true =>
            gi_wp2_with (first
              | (refine⟨trivial,?_⟩;gi_at_call 94;refine (callsIn_wide.2 (apart_calls bb (o::H) true _ HT.out.2.2.2.2.2.1.rings HT.out.2.2.2.2.2.2.1 hap)).mono ?_;rintro e w2 ⟨rfl,hb⟩;have cV2:=(box_later bV hb).cell)
              | (refine⟨trivial,?_⟩;gi_at_call 95;refine (callsIn_wide.2 (nested_calls bb _ o H true _ (HT.out.2.2.2.2.2.1.later hb) HLO.out HT.out.2.1 hne)).mono ?_;rintro e w3 ⟨rfl,hb2⟩;have cV3:=(box_later (box_later bV hb) hb2).cell))
            have hw3:=below_step (below_step HT.out.2.2.2.1 hb) hb2;have hBd3:=(HT.out.1.later hb).later hb2;have bV3:=box_later (box_later bV hb) hb2;have hr:r=true:=by rw [HT.out.2.2.2.2.2.2.2,hap,hne];rfl
            subst hr;have hLen:=HT.out.2.2.2.2.2.2.1;clear hb hb2 cV3 bV hap hne cV
            obtain⟨I,hI⟩:∃ I:Act→World→Prop,Aside0 (I=fun a W=>∃ (i:Nat) (x61 x62 x63 x64 x65 x66 x67 x68 x69 x70 x71:Value) (Ds:List Nat),a={ tmps:=#[.agg #[.slice A0 o.length c0,.slice AH H.length cH],.pointer (some ⟨w.heap.size,0,none⟩),u2,u3,.pointer (some ⟨bb+1,0,none⟩),.pointer (some ⟨lb,0,none⟩),undef,u7,.pointer (ptrAt (bb::bs) i),undef,undef,.pointer (some ⟨w.heap.size,1,none⟩),.slice AH H.length cH,.int .i64 (H.length:Int),.bool false,.bool false,.pointer (some ⟨w.heap.size,0,none⟩),.slice A0 o.length c0,.bool true,.bool false,.bool false,.pointer (some ⟨w.heap.size,0,none⟩),.slice A0 o.length c0,.agg #[.slice A0 o.length c0,.pointer none],.agg #[.slice A0 o.length c0,.pointer none,.slice none 0 0],.pointer (some ⟨bb,0,none⟩),.pointer (some ⟨bb,0,none⟩),.pointer (some ⟨bb,0,none⟩),.pointer (some ⟨bb,0,none⟩),.pointer (some ⟨w.heap.size,1,none⟩),.slice AH H.length cH,.int .i64 (H.length:Int),.int .i64 (H.length:Int),.bool false,u34,u35,u36,u37,u38,u39,u40,u41,u42,u43,u44,u45,u46,u47,u48,u49,.pointer (some ⟨bb,0,none⟩),.bool true,.bool false,.bool false,.pointer (some ⟨bb,0,none⟩),.bool true,.bool false,.bool false,.pointer (some ⟨bb,0,none⟩),.pointer (some ⟨bb,0,none⟩),.pointer (some ⟨bb,0,none⟩),x61,x62,x63,x64,x65,x66,x67,x68,x69,x70,x71,undef,undef,undef,undef,undef,undef,undef,undef,undef,undef,undef,undef,undef],defers:=Ds.map mark } ∧
              (∃ v,i≤(o::H).length∧Ds.length=i∧Ds.Nodup∧(∀ D∈Ds,W.heap[D]?=some (.deferred (some []))∧w.heap.size≤D)∧Built w W w.heap.size bb bs A0 c0 o H v∧Kd.R k61 61 W w.heap.size (fun _=>True) v (allEdges ((o::H).take i))∧Boxed W (bb+1) 75 (.pointer (some ⟨bb,0,none⟩))∧Below w.heap.size w W)):=⟨_,⟨rfl⟩⟩
            obtain⟨μ,hμ⟩:∃ μ:Act→World→Nat,Aside0 (μ=fun a _=>(H.length+2)-a.defers.length):=⟨_,⟨rfl⟩⟩;refine wpIn_loop I μ ?_ ?_
            · rw [hI.out]
              exact⟨0,_,_,_,_,_,_,_,_,_,_,_,[],rfl,_,Nat.zero_le _,rfl,by simp,by simp,hBd3,by rw [List.take_zero];exact Kd.R_nil _ _ _ _ _,bV3,hw3⟩
            · intro a W hIa
              rw [hI.out] at hIa;obtain⟨i,x61,x62,x63,x64,x65,x66,x67,x68,x69,x70,x71,Ds,rfl,v,hi,hDl,hDn,hDs,hBd,hE,bV,hB⟩:=hIa;clear hBd3 bV3 hw3;by_cases hlt:i<(o::H).length
              · obtain⟨Az,cz,q1,q2,hz⟩:=hBd.rings hr0 i hlt
                have hzm:(o::H).getD i []∈o::H:=by rw [getD_lt hlt];exact List.getElem_mem _
                have hzs:=hLen _ hzm;have htk:(o::H).take (i+1)=(o::H).take i++[(o::H).getD i []]:=by rw [getD_lt hlt];exact List.take_succ_eq_append_getElem hlt
                have hlen2:(bb::bs).length=(o::H).length:=by simp [hBd.len]
                rw [ptrAt_some (by rw [hlen2];exact hlt)];have hzl:=row_lt hz hzs.1;have HT2:=a0_ (And.intro htk (And.intro hi (And.intro hDl (And.intro hDn hlen2))));clear htk hzm hi hDl hlen2;generalize hzz:(o::H).getD i []=z at *;generalize hrb:(bb::bs).getD i 0=rb at *;have hrb':=Aside0.mk hrb;have hzz':=Aside0.mk hzz;clear hrb hzz;gi_wp2_with (refine⟨trivial,?_⟩;gi_at_call 96;refine (edges_in _ _ _ _ _).mono ?_;rintro e w' ⟨rfl,rfl⟩);have bN:=Boxed.new W 23 (.slice Az z.length cz);have hal:=below_alloc (Below.refl W.heap.size W) (.cells #[.slice Az z.length cz] 23);have hBd4:=hBd.later hal;have hE4:=R_kept hE (CellsKept.below hal);have bV4:=box_later bV hal;have hB4:=below_step hB hal;have hDs4:∀ D∈Ds,(W.alloc (.cells #[.slice Az z.length cz] 23)).heap[D]?=some (.deferred (some []))∧w.heap.size≤D:=fun D hD=>⟨blk_later (hDs D hD).1 hal,(hDs D hD).2⟩
                have hDlt:∀ D∈Ds,D<W.heap.size:=fun D hD=>(Array.getElem?_eq_some_iff.1 (hDs D hD).1).1
                have hsz4:(W.alloc (.cells #[.slice Az z.length cz] 23)).heap.size=W.heap.size+1:=by simp
                have hWn:=hB.size;have hnxt:=q2;clear hBd hE bV hDs;obtain⟨W4,hW4⟩:∃ W4,W.alloc (.cells #[.slice Az z.length cz] 23)=W4:=⟨_,rfl⟩;have q24:=pw_cell_below hal q2;rw [hW4] at bN hBd4 hE4 bV4 hB4 hDs4 hsz4 q24 ⊢
                clear hW4 hal;obtain⟨Bc,hBc⟩:∃ Bc,W.heap.size=Bc:=⟨_,rfl⟩;rw [hBc] at bN hsz4 hWn hDlt ⊢
                refine wpIn_rangeFunc_ownH rfl (by omega) (gf:=114) (lb:=#[.pointer (some ⟨Bc,0,none⟩)]) rfl trivial (enters_of Tryd.func114 (by kernel_rfl) rfl)
                  (edges_stops 8 (by omega) Bc w.heap.size Az cz z (by omega) hzl W4 (by omega) (by omega) bN.cell (Kd.C_below hz hB4)) (fun h k=>KpE.trans h k) (fun W l o o' hl _ _ _=>KpE.putObj W l o' (by omega) (by omega)) (Below.refl _ _) (fun _=>rfl)
                  (fun pre W'=>∃ v',Built w W' w.heap.size bb bs A0 c0 o H v'∧Kd.R k61 61 W' w.heap.size (fun _=>True) v' (allEdges ((o::H).take i)++pre.map fun (j:Fin z.length)=>edS z (j:Nat))∧Boxed W' (bb+1) 75 (.pointer (some ⟨bb,0,none⟩))∧Boxed W' Bc 23 (.slice Az z.length cz)∧(∀ D∈Ds,W'.heap[D]?=some (.deferred (some []))∧w.heap.size≤D)∧Below w.heap.size w W')
                  (fun _ _ _=>False)
                  (fun pre X Y row hs hg hr=>by
                    obtain⟨v',e1,e2,e3,e4,e5,e6⟩:=hs;have hk:=CellsKept.grown hg (fun r e=>(hr r e).2);refine⟨v',e1.kept hk,R_kept e2 hk,box_kept e3 hk,box_kept e4 hk,fun D hD=>⟨(hg.block D (Array.getElem?_eq_some_iff.1 (e5 D hD).1).1 (fun e=>?_)).trans (e5 D hD).1,(e5 D hD).2⟩,e6.grown hg e6.size (fun r e=>by have:=(hr r e).1;omega)⟩;have h1:=(hr D e.symm).1;have h2:=hDlt D hD
                    omega)
                  (fun _ _ _ _ _ hs _ _=>hs)
                  ⟨v,hBd4,by simpa using hE4,bV4,bN,hDs4,hB4⟩
                  (fun y a' W'=>∃ Bt,(W'.heap[Bt]?=some (segObj (edS z y))∧∃ v',W'.cell? ⟨bb,2,none⟩=some v'∧some Bt≠v'.ownBlock)∧a'={ tmps:=#[.agg #[.slice A0 o.length c0,.slice AH H.length cH],.pointer (some ⟨w.heap.size,0,none⟩),u2,u3,.pointer (some ⟨bb+1,0,none⟩),.pointer (some ⟨lb,0,none⟩),undef,u7,.pointer (some ⟨rb,0,none⟩),undef,.pointer (some ⟨Bt,0,none⟩),.pointer (some ⟨w.heap.size,1,none⟩),.slice AH H.length cH,.int .i64 (H.length:Int),.bool false,.bool false,.pointer (some ⟨w.heap.size,0,none⟩),.slice A0 o.length c0,.bool true,.bool false,.bool false,.pointer (some ⟨w.heap.size,0,none⟩),.slice A0 o.length c0,.agg #[.slice A0 o.length c0,.pointer none],.agg #[.slice A0 o.length c0,.pointer none,.slice none 0 0],.pointer (some ⟨bb,0,none⟩),.pointer (some ⟨bb,0,none⟩),.pointer (some ⟨bb,0,none⟩),.pointer (some ⟨bb,0,none⟩),.pointer (some ⟨w.heap.size,1,none⟩),.slice AH H.length cH,.int .i64 (H.length:Int),.int .i64 (H.length:Int),.bool false,u34,u35,u36,u37,u38,u39,u40,u41,u42,u43,u44,u45,u46,u47,u48,u49,.pointer (some ⟨bb,0,none⟩),.bool true,.bool false,.bool false,.pointer (some ⟨bb,0,none⟩),.bool true,.bool false,.bool false,.pointer (some ⟨bb,0,none⟩),.pointer (some ⟨bb,0,none⟩),.pointer (some ⟨bb,0,none⟩),.pointer (some ⟨rb,0,none⟩),.bool true,x63,x64,x65,x66,.pointer (some ⟨rb,0,none⟩),.pointer (some ⟨rb,0,none⟩),.pointer (some ⟨rb,0,none⟩),.slice Az z.length cz,.func (.func 114) #[] #[.pointer (some ⟨Bc,0,none⟩)],.int .i64 ((y:Nat):Int),.agg #[.int .i64 (edS z y).f0.f0,.int .i64 (edS z y).f0.f1,.int .i64 (edS z y).f1.f0,.int .i64 (edS z y).f1.f1],undef,undef,undef,undef,undef,undef,undef,undef,undef,undef,undef],defers:=[] })
                  (fun y a' _ X Y row hs hg hr=>by obtain⟨Bt,⟨e2,v',e4,e5⟩,e3⟩:=hs;exact⟨Bt,⟨segObj_own Bt (edS z y) () X Y row e2 hg (fun r e=>(hr r e).2),v',cell_kept e4 hg (fun r e=>(hr r e).2),e5⟩,e3⟩)
                  ?assign ?body ?done ?stop
                case assign =>
                  rintro l pre y W' K ⟨v',e1,e2,e3,e4,e5,e6⟩ hK;dsimp only [encE,edV];gi_wp2;have hk:=CellsKept.below (below_alloc (Below.refl W'.heap.size W') (segObj (edS z y)));exact hK _ _ ((KeepsOthers.alloc _ _).from _) (KpE.alloc _ _ _ _) ⟨v',e1.kept hk,R_kept e2 hk,box_kept e3 hk,box_kept e4 hk,fun D hD=>⟨blk_alloc' (e5 D hD).1 _,(e5 D hD).2⟩,below_alloc e6 _⟩ ⟨W'.heap.size,⟨World.alloc_heap_new W' _,v',(blk_cell (e1.kept hk).body 2).trans rfl,fun e=>by have:=R_hi e2 e.symm;omega⟩,rfl⟩
                case body =>
                  rintro l pre y a' W5 hl ⟨rr,hrr⟩ ⟨v',hBd5,hE5,bV5,bN5,hDs5,hB5⟩ ⟨Bt,⟨bT,v'',hv1,hv2⟩,rfl⟩ hlt5;have hBtn:some Bt≠v'.ownBlock:=by
                    have h1:W5.cell? ⟨bb,2,none⟩=some v':=(blk_cell hBd5.body 2).trans rfl;rw [h1] at hv1;cases hv1;exact hv2
                  clear hv1 hv2;have t0:W5.drew.cell? ⟨bb+1,0,none⟩=some (.pointer (some ⟨bb,0,none⟩)):=bV5.cell;have t1:W5.drew.cell? ⟨bb,2,none⟩=some v':=(blk_cell hBd5.body 2).trans rfl;have t2:W5.drew.cell? ⟨Bt,0,none⟩=some (.int .i64 (edS z y).f0.f0):=(blk_cell bT 0).trans rfl;have t3:W5.drew.cell? ⟨Bt,1,none⟩=some (.int .i64 (edS z y).f0.f1):=(blk_cell bT 1).trans rfl;have t4:W5.drew.cell? ⟨Bt,2,none⟩=some (.int .i64 (edS z y).f1.f0):=(blk_cell bT 2).trans rfl;have t5:W5.drew.cell? ⟨Bt,3,none⟩=some (.int .i64 (edS z y).f1.f1):=(blk_cell bT 3).trans rfl;have hal:=below_alloc (Below.refl W5.drew.heap.size W5.drew) (.cells #[.int .i64 (edS z y).f0.f0,.int .i64 (edS z y).f0.f1,.int .i64 (edS z y).f1.f0,.int .i64 (edS z y).f1.f1] 61);have hroom:((allEdges ((o::H).take i)++pre.map fun (j:Fin z.length)=>edS z (j:Nat)).length+1)*32≤140737488355328:=by
                    have h1:=allEdges_len (R:=(o::H).take i) (fun u hu=>hLen u (List.mem_of_mem_take hu));have h2:((o::H).take i).length≤3:=by
                      rw [List.length_take];simp only [List.length_cons];omega
                    rw [List.length_append,List.length_map];omega
                  have hu57:=Tryd.underlying57;have hu61:=Tryd.underlying61;gi_wp2;refine region_inRound (l:=l) (S:=fun w'=>w'.cell? ⟨bb+1,0,none⟩=some (.pointer (some ⟨bb,0,none⟩))∧w'.cell? ⟨bb,2,none⟩=some v'∧w'.cell? ⟨Bt,0,none⟩=some (.int .i64 (edS z y).f0.f0)∧w'.cell? ⟨Bt,1,none⟩=some (.int .i64 (edS z y).f0.f1)∧w'.cell? ⟨Bt,2,none⟩=some (.int .i64 (edS z y).f1.f0)∧w'.cell? ⟨Bt,3,none⟩=some (.int .i64 (edS z y).f1.f1)) (ds:=[10]) (bm 11 0) (by kernel_rfl) rfl rfl ?hd ?hno ⟨t0,t1,t2,t3,t4,t5⟩ (fun hHeld=>?_)
                  case hd =>
                    intro k ob hk c hc;have:=Array.mem_of_getElem? hk;simp only [List.mem_toArray,List.mem_cons,List.not_mem_nil,or_false] at this
                    rcases this with h | h | h | h | h | h | h | h | h | h | h <;> (rw [h] at hc;cases hc)
                  case hno=>exact fun⟨a,w,h⟩=>h.elim
                  refine tb6_ 0 74 (bm 11 1) hHeld ?_;refine tb6_ 1 75 (bm 11 3) hHeld ?_;refine pv_ 2 76 (bm 11 7) ?_;refine pv_ 3 77 (bm 11 15) ?_;refine tb6_ 4 78 (bm 11 31) hHeld ?_;refine tb6_ 5 79 (bm 11 63) hHeld ?_;refine one_ (i:=6) (N:=some 80) (bm 11 127) rfl rfl (by kernel_rfl) (by decide) (fun K hK=>?_);refine value_ (w1:=?_) (v:=?_) (by rfl) rfl ?_ ?_;rotate_left 2
                  · go_simp
                    constructor
                    · rfl
                    · rfl
                  refine hK.out _ _ ⟨pw_cell_below hal t0,pw_cell_below hal t1,pw_cell_below hal t2,pw_cell_below hal t3,pw_cell_below hal t4,pw_cell_below hal t5⟩ (fun hHeld=>?_);clear hK K;refine no_ (h:=?_);refine one_ (i:=7) (N:=some 81) (bm 11 255) rfl rfl (by kernel_rfl) (by decide) (fun K hK=>?_);refine Kd.R_append_step k61 (w0:=w) w.heap.size (by rfl) (.tmp 78) (.tmp 80) 57 61 (.agg #[(.int .i64 0),(.int .i64 0),(.int .i64 0),(.int .i64 0)]) 32 rfl Tryd.underlying57 info61 rfl (by decide) (by omega) v' (allEdges ((o::H).take i)++pre.map fun (j:Fin z.length)=>edS z (j:Nat)) (edS z y) [.int .i64 (edS z y).f0.f0,.int .i64 (edS z y).f0.f1,.int .i64 (edS z y).f1.f0,.int .i64 (edS z y).f1.f1] (fun _=>True) (fun _=>False) rfl rfl ?aP (fun _ hk=>hk.elim) (fun _ _=>trivial) (R_kept hE5 (CellsKept.below (below_drew1 (Below.refl _ W5)))) (below_drew1 hB5) (show w.heap.size≤W5.heap.size from hB5.size) ?aL ?_
                  (case aP=>exact k61_mkM _ _ _ (edS z y))
                  (case aL=>exact hroom)
                  intro v1 w6 ho hb6 hg6 hat6;have hne6:∀ (g:Nat) (t:TypeId) (cs:Array Value),W5.drew.heap[g]?=some (Obj.cells cs t (0,0))→t≠61→some g≠v'.ownBlock:=fun g t cs hgc ht=>R_ne hE5 (g:=g) (t:=t) (cs:=cs) hgc ht
                  have keep6:∀ (g:Nat) (t:TypeId) (cs:Array Value),W5.heap[g]?=some (Obj.cells cs t (0,0))→t≠61→w6.heap[g]?=some (Obj.cells cs t (0,0)):=fun g t cs hgc ht=>(hg6.block g (Array.getElem?_eq_some_iff.1 hgc).1 (hne6 g t cs hgc ht)).trans hgc
                  have hbd6:=keep6 _ _ _ hBd5.body (by decide);obtain⟨Aw,cw,ew⟩:=Kd.R_slice ho;generalize (allEdges ((o::H).take i)++(pre.map fun (j:Fin z.length)=>edS z (j:Nat))++[edS z y]).length=n6 at ew;subst ew;have u2:w6.cell? ⟨bb,2,none⟩=some v':=(blk_cell hbd6 2).trans rfl;have u3:=blk_frozen hbd6 2;have hbt6:=(hg6.block Bt (Array.getElem?_eq_some_iff.1 bT).1 hBtn).trans bT;have hbv6:=keep6 _ _ _ bV5 (by decide);refine hK.out _ _ ⟨(blk_cell hbv6 0).trans rfl,u2,(blk_cell hbt6 0).trans rfl,(blk_cell hbt6 1).trans rfl,(blk_cell hbt6 2).trans rfl,(blk_cell hbt6 3).trans rfl⟩ (fun hHeld=>?_);clear hK K;refine no_ (h:=?_);refine pv_ 8 82 (bm 11 511) ?_;refine pv_ 9 83 (bm 11 1023) ?_;refine last_ (i:=10) (N:=none) (bm 11 2047) rfl rfl (by kernel_rfl) (by decide) (fun K hK=>?_);refine skip_ (w1:=?_) (by rfl) rfl ?_ ?_;rotate_left
                  · go_simp
                    rfl
                  refine hK.out _ _ ?_;clear hK K;refine done_ (by kernel_rfl) ?_;have nonc:∀ (k:Nat) (ob:Obj),W5.heap[k]?=some ob→ob.isCells=false→(w6.setCell ⟨bb,2,none⟩ (.slice Aw n6 cw)).heap[k]?=some ob:=fun k ob h1 h2=>by
                    rw [Below.heap_setCell _ ⟨bb,2,none⟩ _ k (by rintro rfl;have e:=h1.symm.trans hBd5.body;cases e;cases h2)];exact (hg6.block k (Array.getElem?_eq_some_iff.1 h1).1 (R_nc hE5 h1 h2)).trans h1
                  have hBcb:Bc≠bb:=by
                    intro e;have h1:=bN5;rw [e] at h1;have h2:=congrArg (fun (u:Option Obj)=>match u with | some (Obj.cells _ t _)=>t | _=>0) ((show W5.heap[bb]?=_ from h1).symm.trans hBd5.body);exact absurd (show (23:Nat)=109 from h2) (by decide)
                  have hsz6:W5.heap.size≤(w6.setCell ⟨bb,2,none⟩ (.slice Aw n6 cw)).heap.size:=by simp only [World.setCell,Array.size_modify];exact hg6.size
                  refine⟨⟨hsz6,fun k ob _ h1 h2=>nonc k ob h1 h2⟩,⟨hsz6,fun k hk hl5=>?_⟩,_,(hBd5.kept (CellsKept.below (below_drew1 (Below.refl W5.heap.size W5)))).put hg6 hne6,?_,?_,?_,fun D hD=>⟨nonc D _ (hDs5 D hD).1 rfl,(hDs5 D hD).2⟩,hb6.setCell (p:=⟨bb,2,none⟩) hBd5.lo _⟩
                  · have hkb:k≠bb:=by
                      rcases hk with hk | rfl
                      · have:=hBd5.lo;omega
                      · exact hBcb
                    rw [Below.heap_setCell _ ⟨bb,2,none⟩ _ k hkb];refine hg6.block k hl5 ?_
                    rcases hk with hk | rfl
                    · intro e;have:=R_lo hE5 e.symm;omega
                    · exact hne6 k _ _ bN5 (by decide)
                  · have:=R_body ho hbd6 (.slice Aw n6 cw)
                    rw [List.map_append,← List.append_assoc];exact this
                  · exact (Below.heap_setCell _ ⟨bb,2,none⟩ _ (bb+1) (by simp)).trans hbv6
                  · exact (Below.heap_setCell _ ⟨bb,2,none⟩ _ Bc hBcb).trans (keep6 _ _ _ bN5 (by decide))
                case done =>
                  rintro D ys W6 hD rfl ⟨v',hBd6,hE6,bV6,bN6,hDs6,hB6⟩ hK6;obtain⟨_,_,_,r2,_⟩:=hBd6.rings hr0 i hlt;rw [hrb'.out] at r2;gi_wp2;obtain⟨k1,k2,k3,k4,k5⟩:=HT2.out;rw [hI.out,hμ.out];refine⟨⟨i+1,_,_,_,_,_,_,_,_,_,_,_,D::Ds,rfl,v',by simp only [List.length_cons] at hlt ⊢;omega,by simp [k3],?_,?_,hBd6,?_,bV6,hB6⟩,?_⟩
                  · rw [List.nodup_cons]
                    exact⟨fun hm=>by have:=hDlt D hm;omega,k4⟩
                  · intro E hE
                    rcases List.mem_cons.1 hE with rfl | hE
                    · exact⟨hK6,by omega⟩
                    · exact hDs6 E hE
                  · rw [k1]
                    unfold allEdges at hE6 ⊢
                    rw [List.flatMap_append]
                    simpa [edgesS] using hE6
                  · simp only [List.length_cons] at hlt
                    simp only [List.length_cons,List.length_map];omega
                case stop =>
                  rintro D c pre W6 _ _ h _;exact h.elim
              · have hiR:i=(o::H).length:=by omega
                have hlen2:(bb::bs).length=(o::H).length:=by simp [hBd.len]
                rw [ptrAt_none (by omega)];have hba:=hBd.bodyAt hB hr0 hc0;rw [hiR,List.take_length] at hE;have cV:=bV.cell;clear hlt hiR hi hDl hlen2;gi_wp2;have hD1:∀ D∈Ds,W.heap[D]?=some (.deferred (some [])):=fun D hD=>(hDs D hD).1
                refine leavesM_marks Ds W hDn hD1 (fun w' h1 h2 h3 h4 h5=>?_);have hk:=CellsKept.marks hD1 h1;have hBd':=hBd.kept hk;have hB':=marks_below hB (fun D hD=>(hDs D hD).2) h1 h2 h3 h4 h5;refine⟨.tuple #[.pointer (some ⟨bb,0,none⟩),.bool true],?_,fun _=>⟨bb,bs,v,rfl,hBd'.bodyAt hB' hr0 hc0,(blk_cell hBd'.body 2).trans rfl,R_kept hE hk,hB'⟩,fun h=>(by cases h)⟩;simp [results,Tryd.f52,go_sem]
end Go.Proofs.YtkefmnmoaomlhaaDoor.X
end
section
set_option linter.unusedVariables false
set_option linter.unusedSimpArgs false
namespace Go.Proofs.YtkefmnmoaomlhaaDoor.X
open Go.RowKit Go.Proofs.YtkefmnmoaomlhaaDoorW.PrintWords Go.Proofs.YtkefmnmoaomlhaaDoorW.PrintLast Go.Proofs.YtkefmnmoaomlhaaDoorW.PrintMore
open Mort
theorem blk_on {w w1:World}{g:Nat}{o:Obj}(hb:Below w.heap.size w w1)(h:w.heap[g]?=some o):w1.heap[g]?=some o:=blk_below h hb
section
variable (bs bp:Nat) (a b c d e f:Int) (w:World) (k:Nat)
 (hs:w.heap[bs]?=some (.cells #[.int .i64 a,.int .i64 b,.int .i64 c,.int .i64 d] 61 (0,0)))
 (hp:w.heap[bp]?=some (.cells #[.int .i64 e,.int .i64 f] 28 (0,0)))
include hs hp
set_option maxHeartbeats 1000000 in
set_option maxRecDepth 100000 in
theorem far1 {m n1 n2:Int}(h1:impl_between.f a b e f=some m)(h2:impl_FracOf.f k m 1=some (n1,n2,true)):
  Calls Tryd.prog 78 #[.pointer (some ⟨bs,0,none⟩),.pointer (some ⟨bp,0,none⟩)] w fun x w'=>x=.returned (.tuple #[.agg #[.int .i64 n1,.int .i64 n2],.bool true])∧Below w.heap.size w w':=by
 have hB0:=below_alloc (Below.refl w.heap.size w) (.cells #[.int .i64 0,.int .i64 0] 35);have hs1:=blk_on hB0 hs;have hp1:=blk_on hB0 hp;have hn1:=heap_alloc_new w (.cells #[.int .i64 0,.int .i64 0] 35);have HB0:=Aside0.mk hB0;have HN1:=Aside0.mk hn1;have H1:=Aside0.mk h1;have H2:=Aside0.mk h2;have q0:(w.alloc (.cells #[.int .i64 0,.int .i64 0] 35)).cell? ⟨bs,0,none⟩=some (.int .i64 a):=(blk_cell hs1 0).trans rfl;have q1:(w.alloc (.cells #[.int .i64 0,.int .i64 0] 35)).cell? ⟨bs,1,none⟩=some (.int .i64 b):=(blk_cell hs1 1).trans rfl;have q2:(w.alloc (.cells #[.int .i64 0,.int .i64 0] 35)).cell? ⟨bp,0,none⟩=some (.int .i64 e):=(blk_cell hp1 0).trans rfl;have q3:(w.alloc (.cells #[.int .i64 0,.int .i64 0] 35)).cell? ⟨bp,1,none⟩=some (.int .i64 f):=(blk_cell hp1 1).trans rfl;have hu1:=Tryd.underlying61;have hu2:=Tryd.underlying28;have hu3:=Tryd.underlying35;clear h1 h2 hs hp hs1 hp1 hn1 hB0;go_enter Tryd.func78,Tryd.ntmps78;go_wp2_with fail;refine (impl_between.calls a b e f m _ H1.out).mono ?_;rintro x w1 ⟨rfl,hb⟩;have HB1:=a0_ (below_step HB0.out hb);have HN2:=a0_ (blk_on hb HN1.out);clear hb q0 q1 q2 q3 HN1;go_wp2_with fail;refine (impl_FracOf.calls k m 1 n1 n2 true _ H2.out).mono ?_;rintro x w2 ⟨rfl,hb⟩;have HB2:=a0_ (below_step HB1.out hb);have HN3:=a0_ (blk_on hb HN2.out);have q0:w2.cell? ⟨w.heap.size,0,none⟩=some (.int .i64 0):=(blk_cell HN3.out 0).trans rfl;have q1:w2.cell? ⟨w.heap.size,1,none⟩=some (.int .i64 0):=(blk_cell HN3.out 1).trans rfl;have q2:=blk_frozen HN3.out 0;have q3:=blk_frozen HN3.out 1;clear hb HN2;go_wp2_with fail;refine bodyPost_ret (results_ct rfl _ _ w.heap.size 35 #[.int .i64 n1,.int .i64 n2] (0,0) _ rfl (by refine blk_put (cs:=#[.int .i64 n1,.int .i64 0]) ?_ 1 _ rfl;refine blk_put (cs:=#[.int .i64 0,.int .i64 0]) ?_ 0 _ rfl;exact HN3.out) Tryd.underlying35 rfl (by kernel_rfl)) rfl ?_
 exact⟨rfl,by refine below_set ?_ (Nat.le_refl _);refine below_set ?_ (Nat.le_refl _);exact HB2.out⟩
set_option maxHeartbeats 1000000 in
set_option maxRecDepth 100000 in
theorem far2 {t m n1 n2:Int}(h0:impl_cross.f a b c d e f=some t)(h1:impl_between.f a b c d=some m)(h2:impl_FracOf.f k (wrap64 (t*t)) m=some (n1,n2,true)):
  Calls Tryd.prog 80 #[.pointer (some ⟨bs,0,none⟩),.pointer (some ⟨bp,0,none⟩)] w fun x w'=>x=.returned (.tuple #[.agg #[.int .i64 n1,.int .i64 n2],.bool true])∧Below w.heap.size w w':=by
 have hB0:=below_alloc (Below.refl w.heap.size w) (.cells #[.int .i64 0,.int .i64 0] 35);have hs1:=blk_on hB0 hs;have hp1:=blk_on hB0 hp;have hn1:=heap_alloc_new w (.cells #[.int .i64 0,.int .i64 0] 35);have HB0:=Aside0.mk hB0;have HN1:=Aside0.mk hn1;have HS:=Aside0.mk hs;have HP:=Aside0.mk hp;have H0:=Aside0.mk h0;have H1:=Aside0.mk h1;have H2:=Aside0.mk h2;have q0:(w.alloc (.cells #[.int .i64 0,.int .i64 0] 35)).cell? ⟨bs,0,none⟩=some (.int .i64 a):=(blk_cell hs1 0).trans rfl;have q1:(w.alloc (.cells #[.int .i64 0,.int .i64 0] 35)).cell? ⟨bs,1,none⟩=some (.int .i64 b):=(blk_cell hs1 1).trans rfl;have q2:(w.alloc (.cells #[.int .i64 0,.int .i64 0] 35)).cell? ⟨bs,2,none⟩=some (.int .i64 c):=(blk_cell hs1 2).trans rfl;have q3:(w.alloc (.cells #[.int .i64 0,.int .i64 0] 35)).cell? ⟨bs,3,none⟩=some (.int .i64 d):=(blk_cell hs1 3).trans rfl;have q4:(w.alloc (.cells #[.int .i64 0,.int .i64 0] 35)).cell? ⟨bp,0,none⟩=some (.int .i64 e):=(blk_cell hp1 0).trans rfl;have q5:(w.alloc (.cells #[.int .i64 0,.int .i64 0] 35)).cell? ⟨bp,1,none⟩=some (.int .i64 f):=(blk_cell hp1 1).trans rfl;have hu1:=Tryd.underlying61;have hu2:=Tryd.underlying28;have hu3:=Tryd.underlying35;clear h0 h1 h2 hs hp hs1 hp1 hn1 hB0;go_enter Tryd.func80,Tryd.ntmps80;go_wp2_with fail;refine (impl_cross.calls a b c d e f t _ H0.out).mono ?_;rintro x w1 ⟨rfl,hb⟩;have HB1:=a0_ (below_step HB0.out hb);have HN2:=a0_ (blk_on hb HN1.out);have hs2:=blk_on HB1.out HS.out;have hp2:=blk_on HB1.out HP.out;clear hb q0 q1 q2 q3 q4 q5 HN1;have q0:w1.cell? ⟨bs,0,none⟩=some (.int .i64 a):=(blk_cell hs2 0).trans rfl;have q1:w1.cell? ⟨bs,1,none⟩=some (.int .i64 b):=(blk_cell hs2 1).trans rfl;have q2:w1.cell? ⟨bs,2,none⟩=some (.int .i64 c):=(blk_cell hs2 2).trans rfl;have q3:w1.cell? ⟨bs,3,none⟩=some (.int .i64 d):=(blk_cell hs2 3).trans rfl
 have q4:w1.cell? ⟨bp,0,none⟩=some (.int .i64 e):=(blk_cell hp2 0).trans rfl;have q5:w1.cell? ⟨bp,1,none⟩=some (.int .i64 f):=(blk_cell hp2 1).trans rfl;clear hs2 hp2;go_wp2_with fail;refine (impl_between.calls a b c d m _ H1.out).mono ?_;rintro x w2 ⟨rfl,hb⟩;have HB2:=a0_ (below_step HB1.out hb);have HN3:=a0_ (blk_on hb HN2.out);clear hb q0 q1 q2 q3 q4 q5 HN2;go_wp2_with fail;refine (impl_FracOf.calls k (wrap64 (t*t)) m n1 n2 true _ H2.out).mono ?_;rintro x w3 ⟨rfl,hb⟩;have HB3:=a0_ (below_step HB2.out hb);have HN4:=a0_ (blk_on hb HN3.out);have q0:w3.cell? ⟨w.heap.size,0,none⟩=some (.int .i64 0):=(blk_cell HN4.out 0).trans rfl;have q1:w3.cell? ⟨w.heap.size,1,none⟩=some (.int .i64 0):=(blk_cell HN4.out 1).trans rfl;have q2:=blk_frozen HN4.out 0;have q3:=blk_frozen HN4.out 1;clear hb HN3;go_wp2_with fail;refine bodyPost_ret (results_ct rfl _ _ w.heap.size 35 #[.int .i64 n1,.int .i64 n2] (0,0) _ rfl (by refine blk_put (cs:=#[.int .i64 n1,.int .i64 0]) ?_ 1 _ rfl;refine blk_put (cs:=#[.int .i64 0,.int .i64 0]) ?_ 0 _ rfl;exact HN4.out) Tryd.underlying35 rfl (by kernel_rfl)) rfl ?_;exact⟨rfl,by refine below_set ?_ (Nat.le_refl _);refine below_set ?_ (Nat.le_refl _);exact HB3.out⟩
set_option maxHeartbeats 1000000 in
set_option maxRecDepth 100000 in
theorem far3 {m n1 n2:Int}(h1:impl_between.f c d e f=some m)(h2:impl_FracOf.f k m 1=some (n1,n2,true)):
  Calls Tryd.prog 82 #[.pointer (some ⟨bs,0,none⟩),.pointer (some ⟨bp,0,none⟩)] w fun x w'=>x=.returned (.tuple #[.agg #[.int .i64 n1,.int .i64 n2],.bool true])∧Below w.heap.size w w':=by
 have hB0:=below_alloc (Below.refl w.heap.size w) (.cells #[.int .i64 0,.int .i64 0] 35);have hs1:=blk_on hB0 hs;have hp1:=blk_on hB0 hp;have hn1:=heap_alloc_new w (.cells #[.int .i64 0,.int .i64 0] 35);have HB0:=Aside0.mk hB0;have HN1:=Aside0.mk hn1;have H1:=Aside0.mk h1;have H2:=Aside0.mk h2;have q0:(w.alloc (.cells #[.int .i64 0,.int .i64 0] 35)).cell? ⟨bs,2,none⟩=some (.int .i64 c):=(blk_cell hs1 2).trans rfl;have q1:(w.alloc (.cells #[.int .i64 0,.int .i64 0] 35)).cell? ⟨bs,3,none⟩=some (.int .i64 d):=(blk_cell hs1 3).trans rfl;have q2:(w.alloc (.cells #[.int .i64 0,.int .i64 0] 35)).cell? ⟨bp,0,none⟩=some (.int .i64 e):=(blk_cell hp1 0).trans rfl;have q3:(w.alloc (.cells #[.int .i64 0,.int .i64 0] 35)).cell? ⟨bp,1,none⟩=some (.int .i64 f):=(blk_cell hp1 1).trans rfl;have hu1:=Tryd.underlying61;have hu2:=Tryd.underlying28;have hu3:=Tryd.underlying35;clear h1 h2 hs hp hs1 hp1 hn1 hB0;go_enter Tryd.func82,Tryd.ntmps82;go_wp2_with fail;refine (impl_between.calls c d e f m _ H1.out).mono ?_;rintro x w1 ⟨rfl,hb⟩;have HB1:=a0_ (below_step HB0.out hb);have HN2:=a0_ (blk_on hb HN1.out);clear hb q0 q1 q2 q3 HN1;go_wp2_with fail;refine (impl_FracOf.calls k m 1 n1 n2 true _ H2.out).mono ?_;rintro x w2 ⟨rfl,hb⟩;have HB2:=a0_ (below_step HB1.out hb);have HN3:=a0_ (blk_on hb HN2.out);have q0:w2.cell? ⟨w.heap.size,0,none⟩=some (.int .i64 0):=(blk_cell HN3.out 0).trans rfl;have q1:w2.cell? ⟨w.heap.size,1,none⟩=some (.int .i64 0):=(blk_cell HN3.out 1).trans rfl;have q2:=blk_frozen HN3.out 0;have q3:=blk_frozen HN3.out 1;clear hb HN2;go_wp2_with fail;refine bodyPost_ret (results_ct rfl _ _ w.heap.size 35 #[.int .i64 n1,.int .i64 n2] (0,0) _ rfl (by refine blk_put (cs:=#[.int .i64 n1,.int .i64 0]) ?_ 1 _ rfl;refine blk_put (cs:=#[.int .i64 0,.int .i64 0]) ?_ 0 _ rfl;exact HN3.out) Tryd.underlying35 rfl (by kernel_rfl)) rfl ?_
 exact⟨rfl,by refine below_set ?_ (Nat.le_refl _);refine below_set ?_ (Nat.le_refl _);exact HB2.out⟩
end
theorem boxes3 (w:World)(o1 o2 o3:Obj):Below w.heap.size w (((w.alloc o1).alloc o2).alloc o3)∧(((w.alloc o1).alloc o2).alloc o3).heap[w.heap.size]?=some o1 ∧
  (((w.alloc o1).alloc o2).alloc o3).heap[w.heap.size+1]?=some o2∧(((w.alloc o1).alloc o2).alloc o3).heap[w.heap.size+1+1]?=some o3:=by
 have e1:(w.alloc o1).heap.size=w.heap.size+1:=Array.size_push _;have e2:((w.alloc o1).alloc o2).heap.size=w.heap.size+1+1:=(Array.size_push (xs:=(w.alloc o1).heap) _).trans (congrArg (· + 1) e1);refine⟨below_alloc (below_alloc (below_alloc (Below.refl _ _) _) _) _,?_,?_,?_⟩
 ·
  exact blk_alloc (blk_alloc (heap_alloc_new w o1) _) _
 ·
  rw [← e1];exact blk_alloc (heap_alloc_new _ o2) _
 ·
  rw [← e2];exact heap_alloc_new _ o3
@[local go_sem] theorem run_store_fn (P:Program) (w:World) (a:Addr) (m:Mode) (fn:Fn) (first captured:Array Value):(store a (.func fn first captured) m).run P w=stored P w a (.func fn first captured) m:=run_store P w a _ m rfl
@[local go_sem] theorem run_store_nofn (P:Program) (w:World) (a:Addr) (m:Mode):(store a .nilFunc m).run P w=stored P w a .nilFunc m:=run_store P w a _ m rfl
section
variable (a b c d e f:Int) (w:World)
set_option maxHeartbeats 1000000 in
set_option maxRecDepth 100000 in
theorem segFar_bad1 (h:impl_SegOk.f a b c d=some false):
  Calls Tryd.prog 37 #[.agg #[.int .i64 a,.int .i64 b,.int .i64 c,.int .i64 d],.agg #[.int .i64 e,.int .i64 f]] w fun x w'=>x=.returned (.agg #[.int .i64 0,.int .i64 0])∧Below w.heap.size w w':=by
 have hu1:=Tryd.underlying61;have hu2:=Tryd.underlying28;have hu3:=Tryd.underlying35;have HB:=a0_ (boxes3 w (.cells #[.int .i64 a,.int .i64 b,.int .i64 c,.int .i64 d] 61) (.cells #[.int .i64 e,.int .i64 f] 28) (.cells #[.int .i64 0,.int .i64 0] 35));have H:=Aside0.mk h;clear h;go_enter Tryd.func37,Tryd.ntmps37;go_wp2_with fail;refine (impl_SegOk.calls a b c d false _ H.out).mono ?_;rintro x w1 ⟨rfl,hb⟩;have HS:=a0_ (blk_on hb HB.out.2.1);have HP:=a0_ (blk_on hb HB.out.2.2.1);have HR:=a0_ (blk_on hb HB.out.2.2.2);have HB1:=a0_ (below_step HB.out.1 hb);clear hb;have q0:w1.cell? ⟨w.heap.size+1+1,0,none⟩=some (.int .i64 0):=(blk_cell HR.out 0).trans rfl;have q1:w1.cell? ⟨w.heap.size+1+1,1,none⟩=some (.int .i64 0):=(blk_cell HR.out 1).trans rfl;have q2:=blk_frozen HR.out 0;have q3:=blk_frozen HR.out 1;go_wp2_with fail;refine bodyPost_ret (results_cell_row rfl _ _ (w.heap.size+1+1) 35 #[.int .i64 0,.int .i64 0] (0,0) _ rfl (by refine blk_put (cs:=#[.int .i64 0,.int .i64 0]) ?_ 1 _ rfl;refine blk_put (cs:=#[.int .i64 0,.int .i64 0]) ?_ 0 _ rfl;exact HR.out) Tryd.underlying35 rfl (by kernel_rfl)) rfl ?_;exact⟨rfl,by refine below_set ?_ (by omega);refine below_set ?_ (by omega);exact HB1.out⟩
set_option maxHeartbeats 1000000 in
set_option maxRecDepth 100000 in
theorem segFar_bad2 (h:impl_SegOk.f a b c d=some true)(h':impl_PtOk.f e f=some false):
  Calls Tryd.prog 37 #[.agg #[.int .i64 a,.int .i64 b,.int .i64 c,.int .i64 d],.agg #[.int .i64 e,.int .i64 f]] w fun x w'=>x=.returned (.agg #[.int .i64 0,.int .i64 0])∧Below w.heap.size w w':=by
 have hu1:=Tryd.underlying61;have hu2:=Tryd.underlying28;have hu3:=Tryd.underlying35;have HB:=a0_ (boxes3 w (.cells #[.int .i64 a,.int .i64 b,.int .i64 c,.int .i64 d] 61) (.cells #[.int .i64 e,.int .i64 f] 28) (.cells #[.int .i64 0,.int .i64 0] 35));have H:=Aside0.mk h;have H':=Aside0.mk h';clear h h';go_enter Tryd.func37,Tryd.ntmps37;go_wp2_with fail;refine (impl_SegOk.calls a b c d true _ H.out).mono ?_;rintro x w1 ⟨rfl,hb⟩;have HS:=a0_ (blk_on hb HB.out.2.1);have HP:=a0_ (blk_on hb HB.out.2.2.1);have HR:=a0_ (blk_on hb HB.out.2.2.2);have HB1:=a0_ (below_step HB.out.1 hb);clear hb;have q0:w1.cell? ⟨w.heap.size+1,0,none⟩=some (.int .i64 e):=(blk_cell HP.out 0).trans rfl;have q1:w1.cell? ⟨w.heap.size+1,1,none⟩=some (.int .i64 f):=(blk_cell HP.out 1).trans rfl;go_wp2_with fail;refine (impl_PtOk.calls e f false _ H'.out).mono ?_;rintro x w2 ⟨rfl,hb⟩;have HS2:=a0_ (blk_on hb HS.out);have HP2:=a0_ (blk_on hb HP.out);have HR2:=a0_ (blk_on hb HR.out);have HB2:=a0_ (below_step HB1.out hb);clear hb q0 q1;have q0:w2.cell? ⟨w.heap.size+1+1,0,none⟩=some (.int .i64 0):=(blk_cell HR2.out 0).trans rfl;have q1:w2.cell? ⟨w.heap.size+1+1,1,none⟩=some (.int .i64 0):=(blk_cell HR2.out 1).trans rfl;have q2:=blk_frozen HR2.out 0;have q3:=blk_frozen HR2.out 1;go_wp2_with fail;refine bodyPost_ret (results_cell_row rfl _ _ (w.heap.size+1+1) 35 #[.int .i64 0,.int .i64 0] (0,0) _ rfl (by refine blk_put (cs:=#[.int .i64 0,.int .i64 0]) ?_ 1 _ rfl;refine blk_put (cs:=#[.int .i64 0,.int .i64 0]) ?_ 0 _ rfl;exact HR2.out) Tryd.underlying35 rfl (by kernel_rfl)) rfl ?_;exact⟨rfl,by refine below_set ?_ (by omega);refine below_set ?_ (by omega);exact HB2.out⟩
set_option maxHeartbeats 1000000 in
set_option maxRecDepth 100000 in
theorem segFar_way1 (k:Nat){m t n1 n2:Int}(h:impl_SegOk.f a b c d=some true)(h':impl_PtOk.f e f=some true)(h2:impl_standOf.f a b c d e f=some 0)(hw:impl_between.f a b e f=some m)(hf:impl_FracOf.f k m 1=some (n1,n2,true)):
  Calls Tryd.prog 37 #[.agg #[.int .i64 a,.int .i64 b,.int .i64 c,.int .i64 d],.agg #[.int .i64 e,.int .i64 f]] w fun x w'=>x=.returned (.agg #[.int .i64 n1,.int .i64 n2])∧Below w.heap.size w w':=by
 have hu1:=Tryd.underlying61;have hu2:=Tryd.underlying28;have hu3:=Tryd.underlying35;have HB:=a0_ (boxes3 w (.cells #[.int .i64 a,.int .i64 b,.int .i64 c,.int .i64 d] 61) (.cells #[.int .i64 e,.int .i64 f] 28) (.cells #[.int .i64 0,.int .i64 0] 35));have H:=Aside0.mk h;have H':=Aside0.mk h';have H2:=Aside0.mk h2;have HW:=Aside0.mk hw;have HF:=Aside0.mk hf;clear h h' h2 hw hf;go_enter Tryd.func37,Tryd.ntmps37;go_wp2_with fail;refine (impl_SegOk.calls a b c d true _ H.out).mono ?_;rintro x w1 ⟨rfl,hb⟩;have HS:=a0_ (blk_on hb HB.out.2.1);have HP:=a0_ (blk_on hb HB.out.2.2.1);have HR:=a0_ (blk_on hb HB.out.2.2.2);have HB1:=a0_ (below_step HB.out.1 hb);clear hb;have q0:w1.cell? ⟨w.heap.size+1,0,none⟩=some (.int .i64 e):=(blk_cell HP.out 0).trans rfl;have q1:w1.cell? ⟨w.heap.size+1,1,none⟩=some (.int .i64 f):=(blk_cell HP.out 1).trans rfl;go_wp2_with fail;refine (impl_PtOk.calls e f true _ H'.out).mono ?_;rintro x w2 ⟨rfl,hb⟩;have HS2:=a0_ (blk_on hb HS.out);have HP2:=a0_ (blk_on hb HP.out);have HR2:=a0_ (blk_on hb HR.out);have HB2:=a0_ (below_step HB1.out hb);clear hb q0 q1;have q0:∀ o,(w2.alloc o).cell? ⟨w.heap.size,0,none⟩=some (.int .i64 a):=fun o=>(blk_cell (blk_alloc HS2.out o) 0).trans rfl
 have q1:∀ o,(w2.alloc o).cell? ⟨w.heap.size,1,none⟩=some (.int .i64 b):=fun o=>(blk_cell (blk_alloc HS2.out o) 1).trans rfl
 have q2:∀ o,(w2.alloc o).cell? ⟨w.heap.size,2,none⟩=some (.int .i64 c):=fun o=>(blk_cell (blk_alloc HS2.out o) 2).trans rfl
 have q3:∀ o,(w2.alloc o).cell? ⟨w.heap.size,3,none⟩=some (.int .i64 d):=fun o=>(blk_cell (blk_alloc HS2.out o) 3).trans rfl
 have q4:∀ o,(w2.alloc o).cell? ⟨w.heap.size+1,0,none⟩=some (.int .i64 e):=fun o=>(blk_cell (blk_alloc HP2.out o) 0).trans rfl
 have q5:∀ o,(w2.alloc o).cell? ⟨w.heap.size+1,1,none⟩=some (.int .i64 f):=fun o=>(blk_cell (blk_alloc HP2.out o) 1).trans rfl
 have HQ:=a0_ (heap_alloc_new w2 (.cells #[.nilFunc,.nilFunc,.nilFunc] 114));have r0:(w2.alloc (.cells #[.nilFunc,.nilFunc,.nilFunc] 114)).cell? ⟨w2.heap.size,0,none⟩=some .nilFunc:=(blk_cell HQ.out 0).trans rfl;have s0:=blk_frozen HQ.out 0;have r1:(w2.alloc (.cells #[.nilFunc,.nilFunc,.nilFunc] 114)).cell? ⟨w2.heap.size,1,none⟩=some .nilFunc:=(blk_cell HQ.out 1).trans rfl;have s1:=blk_frozen HQ.out 1;have r2:(w2.alloc (.cells #[.nilFunc,.nilFunc,.nilFunc] 114)).cell? ⟨w2.heap.size,2,none⟩=some .nilFunc:=(blk_cell HQ.out 2).trans rfl;have s2:=blk_frozen HQ.out 2;go_wp2_with fail;refine (impl_standOf.calls a b c d e f 0 _ H2.out).mono ?_;rintro x w3 ⟨rfl,hb⟩;have HK:=a0_ (blk_on hb (heap_alloc_new w2 (.cells #[.func (.func 78) #[] #[.pointer (some ⟨w.heap.size,0,none⟩),.pointer (some ⟨w.heap.size+1,0,none⟩)],.func (.func 80) #[] #[.pointer (some ⟨w.heap.size,0,none⟩),.pointer (some ⟨w.heap.size+1,0,none⟩)],.func (.func 82) #[] #[.pointer (some ⟨w.heap.size,0,none⟩),.pointer (some ⟨w.heap.size+1,0,none⟩)]] 114)));have HS3:=a0_ (blk_on hb (blk_alloc HS2.out (.cells #[.func (.func 78) #[] #[.pointer (some ⟨w.heap.size,0,none⟩),.pointer (some ⟨w.heap.size+1,0,none⟩)],.func (.func 80) #[] #[.pointer (some ⟨w.heap.size,0,none⟩),.pointer (some ⟨w.heap.size+1,0,none⟩)],.func (.func 82) #[] #[.pointer (some ⟨w.heap.size,0,none⟩),.pointer (some ⟨w.heap.size+1,0,none⟩)]] 114)));have HP3:=a0_ (blk_on hb (blk_alloc HP2.out (.cells #[.func (.func 78) #[] #[.pointer (some ⟨w.heap.size,0,none⟩),.pointer (some ⟨w.heap.size+1,0,none⟩)],.func (.func 80) #[] #[.pointer (some ⟨w.heap.size,0,none⟩),.pointer (some ⟨w.heap.size+1,0,none⟩)],.func (.func 82) #[] #[.pointer (some ⟨w.heap.size,0,none⟩),.pointer (some ⟨w.heap.size+1,0,none⟩)]] 114)))
 have HR3:=a0_ (blk_on hb (blk_alloc HR2.out (.cells #[.func (.func 78) #[] #[.pointer (some ⟨w.heap.size,0,none⟩),.pointer (some ⟨w.heap.size+1,0,none⟩)],.func (.func 80) #[] #[.pointer (some ⟨w.heap.size,0,none⟩),.pointer (some ⟨w.heap.size+1,0,none⟩)],.func (.func 82) #[] #[.pointer (some ⟨w.heap.size,0,none⟩),.pointer (some ⟨w.heap.size+1,0,none⟩)]] 114)));have HB3:=a0_ (below_step (below_alloc HB2.out (.cells #[.func (.func 78) #[] #[.pointer (some ⟨w.heap.size,0,none⟩),.pointer (some ⟨w.heap.size+1,0,none⟩)],.func (.func 80) #[] #[.pointer (some ⟨w.heap.size,0,none⟩),.pointer (some ⟨w.heap.size+1,0,none⟩)],.func (.func 82) #[] #[.pointer (some ⟨w.heap.size,0,none⟩),.pointer (some ⟨w.heap.size+1,0,none⟩)]] 114)) hb);clear hb q0 q1 q2 q3 q4 q5 r0 r1 r2 s0 s1 s2 HQ;have q0:w3.cell? ⟨w2.heap.size,0,none⟩=some (.func (.func 78) #[] #[.pointer (some ⟨w.heap.size,0,none⟩),.pointer (some ⟨w.heap.size+1,0,none⟩)]):=(blk_cell HK.out 0).trans rfl;go_wp2_with fail;refine (far1 w.heap.size (w.heap.size+1) a b c d e f w3 k HS3.out HP3.out HW.out HF.out).mono ?_;rintro x w4 ⟨rfl,hb⟩;have HR4:=a0_ (blk_on hb HR3.out);have HB4:=a0_ (below_step HB3.out hb);clear hb q0;have HN:=a0_ (heap_alloc_new w4 (.cells #[.int .i64 0,.int .i64 0] 35));have u0:(w4.alloc (.cells #[.int .i64 0,.int .i64 0] 35)).cell? ⟨w4.heap.size,0,none⟩=some (.int .i64 0):=(blk_cell HN.out 0).trans rfl;have u1:(w4.alloc (.cells #[.int .i64 0,.int .i64 0] 35)).cell? ⟨w4.heap.size,1,none⟩=some (.int .i64 0):=(blk_cell HN.out 1).trans rfl;have u2:=blk_frozen HN.out 0;have u3:=blk_frozen HN.out 1;have q0:∀ o,(w4.alloc o).cell? ⟨w.heap.size+1+1,0,none⟩=some (.int .i64 0):=fun o=>(blk_cell (blk_alloc HR4.out o) 0).trans rfl
 have q1:∀ o,(w4.alloc o).cell? ⟨w.heap.size+1+1,1,none⟩=some (.int .i64 0):=fun o=>(blk_cell (blk_alloc HR4.out o) 1).trans rfl
 have q2:=fun o=>blk_frozen (blk_alloc HR4.out o) 0
 have q3:=fun o=>blk_frozen (blk_alloc HR4.out o) 1
 go_wp2_with fail;refine bodyPost_ret (results_cell_row rfl _ _ (w.heap.size+1+1) 35 #[.int .i64 n1,.int .i64 n2] (0,0) _ rfl (by refine blk_put (cs:=#[.int .i64 n1,.int .i64 0]) ?_ 1 _ rfl;refine blk_put (cs:=#[.int .i64 0,.int .i64 0]) ?_ 0 _ rfl;exact blk_alloc HR4.out _) Tryd.underlying35 rfl (by kernel_rfl)) rfl ?_;exact⟨rfl,by refine below_set ?_ (by omega);refine below_set ?_ (by omega);exact below_alloc HB4.out _⟩
set_option maxHeartbeats 1000000 in
set_option maxRecDepth 100000 in
theorem segFar_way2 (k:Nat){m t n1 n2:Int}(h:impl_SegOk.f a b c d=some true)(h':impl_PtOk.f e f=some true)(h2:impl_standOf.f a b c d e f=some 1)(hv:impl_cross.f a b c d e f=some t)(hw:impl_between.f a b c d=some m)(hf:impl_FracOf.f k (wrap64 (t*t)) m=some (n1,n2,true)):
  Calls Tryd.prog 37 #[.agg #[.int .i64 a,.int .i64 b,.int .i64 c,.int .i64 d],.agg #[.int .i64 e,.int .i64 f]] w fun x w'=>x=.returned (.agg #[.int .i64 n1,.int .i64 n2])∧Below w.heap.size w w':=by
 have hu1:=Tryd.underlying61;have hu2:=Tryd.underlying28;have hu3:=Tryd.underlying35;have HB:=a0_ (boxes3 w (.cells #[.int .i64 a,.int .i64 b,.int .i64 c,.int .i64 d] 61) (.cells #[.int .i64 e,.int .i64 f] 28) (.cells #[.int .i64 0,.int .i64 0] 35));have H:=Aside0.mk h;have H':=Aside0.mk h';have H2:=Aside0.mk h2;have HW:=Aside0.mk hw;have HF:=Aside0.mk hf;clear h h' h2 hw hf;have HV:=Aside0.mk hv;clear hv;go_enter Tryd.func37,Tryd.ntmps37;go_wp2_with fail;refine (impl_SegOk.calls a b c d true _ H.out).mono ?_;rintro x w1 ⟨rfl,hb⟩;have HS:=a0_ (blk_on hb HB.out.2.1);have HP:=a0_ (blk_on hb HB.out.2.2.1);have HR:=a0_ (blk_on hb HB.out.2.2.2);have HB1:=a0_ (below_step HB.out.1 hb);clear hb;have q0:w1.cell? ⟨w.heap.size+1,0,none⟩=some (.int .i64 e):=(blk_cell HP.out 0).trans rfl;have q1:w1.cell? ⟨w.heap.size+1,1,none⟩=some (.int .i64 f):=(blk_cell HP.out 1).trans rfl;go_wp2_with fail;refine (impl_PtOk.calls e f true _ H'.out).mono ?_;rintro x w2 ⟨rfl,hb⟩;have HS2:=a0_ (blk_on hb HS.out);have HP2:=a0_ (blk_on hb HP.out);have HR2:=a0_ (blk_on hb HR.out);have HB2:=a0_ (below_step HB1.out hb);clear hb q0 q1;have q0:∀ o,(w2.alloc o).cell? ⟨w.heap.size,0,none⟩=some (.int .i64 a):=fun o=>(blk_cell (blk_alloc HS2.out o) 0).trans rfl
 have q1:∀ o,(w2.alloc o).cell? ⟨w.heap.size,1,none⟩=some (.int .i64 b):=fun o=>(blk_cell (blk_alloc HS2.out o) 1).trans rfl
 have q2:∀ o,(w2.alloc o).cell? ⟨w.heap.size,2,none⟩=some (.int .i64 c):=fun o=>(blk_cell (blk_alloc HS2.out o) 2).trans rfl
 have q3:∀ o,(w2.alloc o).cell? ⟨w.heap.size,3,none⟩=some (.int .i64 d):=fun o=>(blk_cell (blk_alloc HS2.out o) 3).trans rfl
 have q4:∀ o,(w2.alloc o).cell? ⟨w.heap.size+1,0,none⟩=some (.int .i64 e):=fun o=>(blk_cell (blk_alloc HP2.out o) 0).trans rfl
 have q5:∀ o,(w2.alloc o).cell? ⟨w.heap.size+1,1,none⟩=some (.int .i64 f):=fun o=>(blk_cell (blk_alloc HP2.out o) 1).trans rfl
 have HQ:=a0_ (heap_alloc_new w2 (.cells #[.nilFunc,.nilFunc,.nilFunc] 114));have r0:(w2.alloc (.cells #[.nilFunc,.nilFunc,.nilFunc] 114)).cell? ⟨w2.heap.size,0,none⟩=some .nilFunc:=(blk_cell HQ.out 0).trans rfl;have s0:=blk_frozen HQ.out 0;have r1:(w2.alloc (.cells #[.nilFunc,.nilFunc,.nilFunc] 114)).cell? ⟨w2.heap.size,1,none⟩=some .nilFunc:=(blk_cell HQ.out 1).trans rfl;have s1:=blk_frozen HQ.out 1;have r2:(w2.alloc (.cells #[.nilFunc,.nilFunc,.nilFunc] 114)).cell? ⟨w2.heap.size,2,none⟩=some .nilFunc:=(blk_cell HQ.out 2).trans rfl;have s2:=blk_frozen HQ.out 2;go_wp2_with fail;refine (impl_standOf.calls a b c d e f 1 _ H2.out).mono ?_;rintro x w3 ⟨rfl,hb⟩;have HK:=a0_ (blk_on hb (heap_alloc_new w2 (.cells #[.func (.func 78) #[] #[.pointer (some ⟨w.heap.size,0,none⟩),.pointer (some ⟨w.heap.size+1,0,none⟩)],.func (.func 80) #[] #[.pointer (some ⟨w.heap.size,0,none⟩),.pointer (some ⟨w.heap.size+1,0,none⟩)],.func (.func 82) #[] #[.pointer (some ⟨w.heap.size,0,none⟩),.pointer (some ⟨w.heap.size+1,0,none⟩)]] 114)));have HS3:=a0_ (blk_on hb (blk_alloc HS2.out (.cells #[.func (.func 78) #[] #[.pointer (some ⟨w.heap.size,0,none⟩),.pointer (some ⟨w.heap.size+1,0,none⟩)],.func (.func 80) #[] #[.pointer (some ⟨w.heap.size,0,none⟩),.pointer (some ⟨w.heap.size+1,0,none⟩)],.func (.func 82) #[] #[.pointer (some ⟨w.heap.size,0,none⟩),.pointer (some ⟨w.heap.size+1,0,none⟩)]] 114)));have HP3:=a0_ (blk_on hb (blk_alloc HP2.out (.cells #[.func (.func 78) #[] #[.pointer (some ⟨w.heap.size,0,none⟩),.pointer (some ⟨w.heap.size+1,0,none⟩)],.func (.func 80) #[] #[.pointer (some ⟨w.heap.size,0,none⟩),.pointer (some ⟨w.heap.size+1,0,none⟩)],.func (.func 82) #[] #[.pointer (some ⟨w.heap.size,0,none⟩),.pointer (some ⟨w.heap.size+1,0,none⟩)]] 114)))
 have HR3:=a0_ (blk_on hb (blk_alloc HR2.out (.cells #[.func (.func 78) #[] #[.pointer (some ⟨w.heap.size,0,none⟩),.pointer (some ⟨w.heap.size+1,0,none⟩)],.func (.func 80) #[] #[.pointer (some ⟨w.heap.size,0,none⟩),.pointer (some ⟨w.heap.size+1,0,none⟩)],.func (.func 82) #[] #[.pointer (some ⟨w.heap.size,0,none⟩),.pointer (some ⟨w.heap.size+1,0,none⟩)]] 114)));have HB3:=a0_ (below_step (below_alloc HB2.out (.cells #[.func (.func 78) #[] #[.pointer (some ⟨w.heap.size,0,none⟩),.pointer (some ⟨w.heap.size+1,0,none⟩)],.func (.func 80) #[] #[.pointer (some ⟨w.heap.size,0,none⟩),.pointer (some ⟨w.heap.size+1,0,none⟩)],.func (.func 82) #[] #[.pointer (some ⟨w.heap.size,0,none⟩),.pointer (some ⟨w.heap.size+1,0,none⟩)]] 114)) hb);clear hb q0 q1 q2 q3 q4 q5 r0 r1 r2 s0 s1 s2 HQ;have q0:w3.cell? ⟨w2.heap.size,1,none⟩=some (.func (.func 80) #[] #[.pointer (some ⟨w.heap.size,0,none⟩),.pointer (some ⟨w.heap.size+1,0,none⟩)]):=(blk_cell HK.out 1).trans rfl;go_wp2_with fail;refine (far2 w.heap.size (w.heap.size+1) a b c d e f w3 k HS3.out HP3.out HV.out HW.out HF.out).mono ?_;rintro x w4 ⟨rfl,hb⟩;have HR4:=a0_ (blk_on hb HR3.out);have HB4:=a0_ (below_step HB3.out hb);clear hb q0;have HN:=a0_ (heap_alloc_new w4 (.cells #[.int .i64 0,.int .i64 0] 35));have u0:(w4.alloc (.cells #[.int .i64 0,.int .i64 0] 35)).cell? ⟨w4.heap.size,0,none⟩=some (.int .i64 0):=(blk_cell HN.out 0).trans rfl;have u1:(w4.alloc (.cells #[.int .i64 0,.int .i64 0] 35)).cell? ⟨w4.heap.size,1,none⟩=some (.int .i64 0):=(blk_cell HN.out 1).trans rfl;have u2:=blk_frozen HN.out 0;have u3:=blk_frozen HN.out 1;have q0:∀ o,(w4.alloc o).cell? ⟨w.heap.size+1+1,0,none⟩=some (.int .i64 0):=fun o=>(blk_cell (blk_alloc HR4.out o) 0).trans rfl
 have q1:∀ o,(w4.alloc o).cell? ⟨w.heap.size+1+1,1,none⟩=some (.int .i64 0):=fun o=>(blk_cell (blk_alloc HR4.out o) 1).trans rfl
 have q2:=fun o=>blk_frozen (blk_alloc HR4.out o) 0
 have q3:=fun o=>blk_frozen (blk_alloc HR4.out o) 1
 go_wp2_with fail;refine bodyPost_ret (results_cell_row rfl _ _ (w.heap.size+1+1) 35 #[.int .i64 n1,.int .i64 n2] (0,0) _ rfl (by refine blk_put (cs:=#[.int .i64 n1,.int .i64 0]) ?_ 1 _ rfl;refine blk_put (cs:=#[.int .i64 0,.int .i64 0]) ?_ 0 _ rfl;exact blk_alloc HR4.out _) Tryd.underlying35 rfl (by kernel_rfl)) rfl ?_;exact⟨rfl,by refine below_set ?_ (by omega);refine below_set ?_ (by omega);exact below_alloc HB4.out _⟩
set_option maxHeartbeats 1000000 in
set_option maxRecDepth 100000 in
theorem segFar_way3 (k:Nat){m t n1 n2:Int}(h:impl_SegOk.f a b c d=some true)(h':impl_PtOk.f e f=some true)(h2:impl_standOf.f a b c d e f=some 2)(hw:impl_between.f c d e f=some m)(hf:impl_FracOf.f k m 1=some (n1,n2,true)):
  Calls Tryd.prog 37 #[.agg #[.int .i64 a,.int .i64 b,.int .i64 c,.int .i64 d],.agg #[.int .i64 e,.int .i64 f]] w fun x w'=>x=.returned (.agg #[.int .i64 n1,.int .i64 n2])∧Below w.heap.size w w':=by
 have hu1:=Tryd.underlying61;have hu2:=Tryd.underlying28;have hu3:=Tryd.underlying35;have HB:=a0_ (boxes3 w (.cells #[.int .i64 a,.int .i64 b,.int .i64 c,.int .i64 d] 61) (.cells #[.int .i64 e,.int .i64 f] 28) (.cells #[.int .i64 0,.int .i64 0] 35));have H:=Aside0.mk h;have H':=Aside0.mk h';have H2:=Aside0.mk h2;have HW:=Aside0.mk hw;have HF:=Aside0.mk hf;clear h h' h2 hw hf;go_enter Tryd.func37,Tryd.ntmps37;go_wp2_with fail;refine (impl_SegOk.calls a b c d true _ H.out).mono ?_;rintro x w1 ⟨rfl,hb⟩;have HS:=a0_ (blk_on hb HB.out.2.1);have HP:=a0_ (blk_on hb HB.out.2.2.1);have HR:=a0_ (blk_on hb HB.out.2.2.2);have HB1:=a0_ (below_step HB.out.1 hb);clear hb;have q0:w1.cell? ⟨w.heap.size+1,0,none⟩=some (.int .i64 e):=(blk_cell HP.out 0).trans rfl;have q1:w1.cell? ⟨w.heap.size+1,1,none⟩=some (.int .i64 f):=(blk_cell HP.out 1).trans rfl;go_wp2_with fail;refine (impl_PtOk.calls e f true _ H'.out).mono ?_;rintro x w2 ⟨rfl,hb⟩;have HS2:=a0_ (blk_on hb HS.out);have HP2:=a0_ (blk_on hb HP.out);have HR2:=a0_ (blk_on hb HR.out);have HB2:=a0_ (below_step HB1.out hb);clear hb q0 q1;have q0:∀ o,(w2.alloc o).cell? ⟨w.heap.size,0,none⟩=some (.int .i64 a):=fun o=>(blk_cell (blk_alloc HS2.out o) 0).trans rfl
 have q1:∀ o,(w2.alloc o).cell? ⟨w.heap.size,1,none⟩=some (.int .i64 b):=fun o=>(blk_cell (blk_alloc HS2.out o) 1).trans rfl
 have q2:∀ o,(w2.alloc o).cell? ⟨w.heap.size,2,none⟩=some (.int .i64 c):=fun o=>(blk_cell (blk_alloc HS2.out o) 2).trans rfl
 have q3:∀ o,(w2.alloc o).cell? ⟨w.heap.size,3,none⟩=some (.int .i64 d):=fun o=>(blk_cell (blk_alloc HS2.out o) 3).trans rfl
 have q4:∀ o,(w2.alloc o).cell? ⟨w.heap.size+1,0,none⟩=some (.int .i64 e):=fun o=>(blk_cell (blk_alloc HP2.out o) 0).trans rfl
 have q5:∀ o,(w2.alloc o).cell? ⟨w.heap.size+1,1,none⟩=some (.int .i64 f):=fun o=>(blk_cell (blk_alloc HP2.out o) 1).trans rfl
 have HQ:=a0_ (heap_alloc_new w2 (.cells #[.nilFunc,.nilFunc,.nilFunc] 114));have r0:(w2.alloc (.cells #[.nilFunc,.nilFunc,.nilFunc] 114)).cell? ⟨w2.heap.size,0,none⟩=some .nilFunc:=(blk_cell HQ.out 0).trans rfl;have s0:=blk_frozen HQ.out 0;have r1:(w2.alloc (.cells #[.nilFunc,.nilFunc,.nilFunc] 114)).cell? ⟨w2.heap.size,1,none⟩=some .nilFunc:=(blk_cell HQ.out 1).trans rfl;have s1:=blk_frozen HQ.out 1;have r2:(w2.alloc (.cells #[.nilFunc,.nilFunc,.nilFunc] 114)).cell? ⟨w2.heap.size,2,none⟩=some .nilFunc:=(blk_cell HQ.out 2).trans rfl;have s2:=blk_frozen HQ.out 2;go_wp2_with fail;refine (impl_standOf.calls a b c d e f 2 _ H2.out).mono ?_;rintro x w3 ⟨rfl,hb⟩;have HK:=a0_ (blk_on hb (heap_alloc_new w2 (.cells #[.func (.func 78) #[] #[.pointer (some ⟨w.heap.size,0,none⟩),.pointer (some ⟨w.heap.size+1,0,none⟩)],.func (.func 80) #[] #[.pointer (some ⟨w.heap.size,0,none⟩),.pointer (some ⟨w.heap.size+1,0,none⟩)],.func (.func 82) #[] #[.pointer (some ⟨w.heap.size,0,none⟩),.pointer (some ⟨w.heap.size+1,0,none⟩)]] 114)));have HS3:=a0_ (blk_on hb (blk_alloc HS2.out (.cells #[.func (.func 78) #[] #[.pointer (some ⟨w.heap.size,0,none⟩),.pointer (some ⟨w.heap.size+1,0,none⟩)],.func (.func 80) #[] #[.pointer (some ⟨w.heap.size,0,none⟩),.pointer (some ⟨w.heap.size+1,0,none⟩)],.func (.func 82) #[] #[.pointer (some ⟨w.heap.size,0,none⟩),.pointer (some ⟨w.heap.size+1,0,none⟩)]] 114)));have HP3:=a0_ (blk_on hb (blk_alloc HP2.out (.cells #[.func (.func 78) #[] #[.pointer (some ⟨w.heap.size,0,none⟩),.pointer (some ⟨w.heap.size+1,0,none⟩)],.func (.func 80) #[] #[.pointer (some ⟨w.heap.size,0,none⟩),.pointer (some ⟨w.heap.size+1,0,none⟩)],.func (.func 82) #[] #[.pointer (some ⟨w.heap.size,0,none⟩),.pointer (some ⟨w.heap.size+1,0,none⟩)]] 114)))
 have HR3:=a0_ (blk_on hb (blk_alloc HR2.out (.cells #[.func (.func 78) #[] #[.pointer (some ⟨w.heap.size,0,none⟩),.pointer (some ⟨w.heap.size+1,0,none⟩)],.func (.func 80) #[] #[.pointer (some ⟨w.heap.size,0,none⟩),.pointer (some ⟨w.heap.size+1,0,none⟩)],.func (.func 82) #[] #[.pointer (some ⟨w.heap.size,0,none⟩),.pointer (some ⟨w.heap.size+1,0,none⟩)]] 114)));have HB3:=a0_ (below_step (below_alloc HB2.out (.cells #[.func (.func 78) #[] #[.pointer (some ⟨w.heap.size,0,none⟩),.pointer (some ⟨w.heap.size+1,0,none⟩)],.func (.func 80) #[] #[.pointer (some ⟨w.heap.size,0,none⟩),.pointer (some ⟨w.heap.size+1,0,none⟩)],.func (.func 82) #[] #[.pointer (some ⟨w.heap.size,0,none⟩),.pointer (some ⟨w.heap.size+1,0,none⟩)]] 114)) hb);clear hb q0 q1 q2 q3 q4 q5 r0 r1 r2 s0 s1 s2 HQ;have q0:w3.cell? ⟨w2.heap.size,2,none⟩=some (.func (.func 82) #[] #[.pointer (some ⟨w.heap.size,0,none⟩),.pointer (some ⟨w.heap.size+1,0,none⟩)]):=(blk_cell HK.out 2).trans rfl;go_wp2_with fail;refine (far3 w.heap.size (w.heap.size+1) a b c d e f w3 k HS3.out HP3.out HW.out HF.out).mono ?_;rintro x w4 ⟨rfl,hb⟩;have HR4:=a0_ (blk_on hb HR3.out);have HB4:=a0_ (below_step HB3.out hb);clear hb q0;have HN:=a0_ (heap_alloc_new w4 (.cells #[.int .i64 0,.int .i64 0] 35));have u0:(w4.alloc (.cells #[.int .i64 0,.int .i64 0] 35)).cell? ⟨w4.heap.size,0,none⟩=some (.int .i64 0):=(blk_cell HN.out 0).trans rfl;have u1:(w4.alloc (.cells #[.int .i64 0,.int .i64 0] 35)).cell? ⟨w4.heap.size,1,none⟩=some (.int .i64 0):=(blk_cell HN.out 1).trans rfl;have u2:=blk_frozen HN.out 0;have u3:=blk_frozen HN.out 1;have q0:∀ o,(w4.alloc o).cell? ⟨w.heap.size+1+1,0,none⟩=some (.int .i64 0):=fun o=>(blk_cell (blk_alloc HR4.out o) 0).trans rfl
 have q1:∀ o,(w4.alloc o).cell? ⟨w.heap.size+1+1,1,none⟩=some (.int .i64 0):=fun o=>(blk_cell (blk_alloc HR4.out o) 1).trans rfl
 have q2:=fun o=>blk_frozen (blk_alloc HR4.out o) 0
 have q3:=fun o=>blk_frozen (blk_alloc HR4.out o) 1
 go_wp2_with fail;refine bodyPost_ret (results_cell_row rfl _ _ (w.heap.size+1+1) 35 #[.int .i64 n1,.int .i64 n2] (0,0) _ rfl (by refine blk_put (cs:=#[.int .i64 n1,.int .i64 0]) ?_ 1 _ rfl;refine blk_put (cs:=#[.int .i64 0,.int .i64 0]) ?_ 0 _ rfl;exact blk_alloc HR4.out _) Tryd.underlying35 rfl (by kernel_rfl)) rfl ?_;exact⟨rfl,by refine below_set ?_ (by omega);refine below_set ?_ (by omega);exact below_alloc HB4.out _⟩
end
def impl_SegFar.f (a b c d e f:Int):Option (Int × Int):=some ((segFar ((a,b),(c,d)) (e,f)).1,(segFar ((a,b),(c,d)) (e,f)).2)
theorem impl_SegFar.calls (a b c d e f r1 r2:Int)(w:World)(h:impl_SegFar.f a b c d e f=some (r1,r2)):
  Calls Tryd.prog 37 #[.agg #[.int .i64 a,.int .i64 b,.int .i64 c,.int .i64 d],.agg #[.int .i64 e,.int .i64 f]] w fun x w'=>x=.returned (.agg #[.int .i64 r1,.int .i64 r2])∧Below w.heap.size w w':=by
 unfold impl_SegFar.f at h;simp only [Option.some.injEq,Prod.mk.injEq] at h;obtain⟨rfl,rfl⟩:=h;unfold segFar
 cases hs:segOk ((a,b),(c,d)) with
 | false=>exact segFar_bad1 a b c d e f w ((iSegOk a b c d).trans (congrArg some hs))
 | true =>
  have h1:=(iSegOk a b c d).trans (congrArg some hs)
  cases hp:ptOk (e,f) with
  | false=>exact segFar_bad2 a b c d e f w h1 ((iPtOk e f).trans (congrArg some hp))
  | true =>
   have h2:=(iPtOk e f).trans (congrArg some hp);obtain⟨o1,o2⟩:=segOk_ends hs;have h3:=iStandOf hs hp;have hin:=far_inR hs hp;simp only [Bool.and_self,if_true];unfold far at hin ⊢
   by_cases z:dot (a,b) (c,d) (e,f)≤0
   ·
    rw [if_pos z] at h3 hin ⊢
    rw [red_whole (dot_self_nn _ _) (Int.le_trans (dot_bound o1 hp hp).2 (by decide))];exact segFar_way1 (t:=0) a b c d e f w 100000 h1 h2 h3 (iBetween o1 hp) (iFracOf1 (Nat.le_refl _) (dot_self_nn _ _) (Int.le_trans (dot_bound o1 hp hp).2 (by decide)))
   ·
    rw [if_neg z] at h3 hin ⊢
    by_cases z':dot (a,b) (c,d) (c,d)≤dot (a,b) (c,d) (e,f)
    ·
     rw [if_pos z'] at h3 hin ⊢
     rw [red_whole (dot_self_nn _ _) (Int.le_trans (dot_bound o2 hp hp).2 (by decide))];exact segFar_way3 (t:=0) a b c d e f w 100000 h1 h2 h3 (iBetween o2 hp) (iFracOf1 (Nat.le_refl _) (dot_self_nn _ _) (Int.le_trans (dot_bound o2 hp hp).2 (by decide)))
    ·
     rw [if_neg z'] at h3 hin ⊢
     have hc:=cross_bound o1 o2 hp;have hq:=sq_bound hc.1 hc.2;have hq':=isq_nn (cross (a,b) (c,d) (e,f));exact segFar_way2 a b c d e f w 100000 h1 h2 h3 (iCross o1 o2 hp) (iBetween o1 o2) (by rw [w64 (x:=cross (a,b) (c,d) (e,f)*cross (a,b) (c,d) (e,f)) (by omega) (by omega)];exact iFracOf (Nat.le_refl _) hin)
end Go.Proofs.YtkefmnmoaomlhaaDoor.X
end
section
set_option linter.unusedVariables false
set_option linter.unusedSimpArgs false
namespace Go.Proofs.YtkefmnmoaomlhaaDoor.X
open Go.RowKit Go.Shelf Go.Proofs.YtkefmnmoaomlhaaDoorW.PrintWords Go.Proofs.YtkefmnmoaomlhaaDoorW.PrintLast Go.Proofs.YtkefmnmoaomlhaaDoorW.PrintMore
open Mort (edges segMeet loopOk ptOk inOf segFar segOk least fracOk fracCmp)
def runFar (p:Mort.Pt)(a:Mort.Frac)(es:List S61):Mort.Frac:=es.foldl (fun a s=>least a (segFar (sgP s) p)) a
theorem at_sg {W:World}{A:Option Addr}{n:Nat}{zs:List S61}(hC:Kd.C k61 W A n zs)(k:Nat)(h:k<n):
  ∃ ad,A=some ad∧W.cell? (ad.add (k*4))=some (.int .i64 (zs.getD k z61).f0.f0)∧W.cell? ⟨(ad.add (k*4)).block,(ad.add (k*4)).off+1,none⟩=some (.int .i64 (zs.getD k z61).f0.f1) ∧
   W.cell? ⟨(ad.add (k*4)).block,(ad.add (k*4)).off+2,none⟩=some (.int .i64 (zs.getD k z61).f1.f0)∧W.cell? ⟨(ad.add (k*4)).block,(ad.add (k*4)).off+3,none⟩=some (.int .i64 (zs.getD k z61).f1.f1):=
 at_T61 hC (k:Int) (by omega) (by omega)
theorem cut_from {P:Program}(t e:TypeId){i:TypeInfo}(ht:P.underlying t=some (.slice e))(hi:P.info? e=some i)(size:Nat)(hsz:i.size=size)(A:Option Addr)(n c m:Nat)(hm:m≤n):
  ∀ W:World,(Instr.slice t (.slice A n c) (some (.int .i64 (m:Int))) none none).run P W=.ok (.slice (if c=m then A else A.map (·.add (m*size))) (n-m) (c-m)) W:=by
 intro W;have hel:P.elem t=e:=by simp [Program.elem,ht]
 have hu:P.underlying t=some (.slice (P.elem t)):=by rw [hel];exact ht
 rw [run_slice_l W t A n c hu .i64 (m:Int) (Int.natCast_nonneg _) (by omega),hel];simp [sizeOf,typeInfo,hi,hsz,sliced,Result.andThen]
theorem cut_one (A:Option Addr)(n c:Nat)(h:1≤n)(W:World):(Instr.slice 57 (.slice A n c) (some (.int .i64 1)) none none).run Tryd.prog W=.ok (.slice (if c=1 then A else A.map (·.add (1*4))) (n-1) (c-1)) W:=by
 obtain⟨i0,hi,hz0,hz1,hz2⟩:=info_parts info61;exact cut_from 57 61 Tryd.underlying57 hi 4 hz1 A n c 1 h W
theorem segFar_f (a b c d e f:Int):impl_SegFar.f a b c d e f=some ((segFar ((a,b),(c,d)) (e,f)).1,(segFar ((a,b),(c,d)) (e,f)).2):=by unfold impl_SegFar.f;rfl
theorem segFar_told (s:S61)(x y:Int)(f:Mort.Frac)(w:World)(h:segFar (sgP s) (x,y)=f):
  Calls Tryd.prog 37 #[.agg #[.int .i64 s.f0.f0,.int .i64 s.f0.f1,.int .i64 s.f1.f0,.int .i64 s.f1.f1],.agg #[.int .i64 x,.int .i64 y]] w fun e w'=>e=.returned (.agg #[.int .i64 f.1,.int .i64 f.2])∧Below w.heap.size w w':=by
 have h1:segFar ((s.f0.f0,s.f0.f1),(s.f1.f0,s.f1.f1)) (x,y)=f:=h;have h2:=segFar_f s.f0.f0 s.f0.f1 s.f1.f0 s.f1.f1 x y;rw [h1] at h2;exact impl_SegFar.calls s.f0.f0 s.f0.f1 s.f1.f0 s.f1.f1 x y f.1 f.2 w h2
set_option maxHeartbeats 4000000 in
set_option maxRecDepth 100000 in
theorem far_calls (b c:Nat)(A:Option Addr)(e0:S61)(es:List S61)(x y:Int)(r:Mort.Frac)(w:World)(hcell:w.cell? ⟨b,2,none⟩=some (.slice A (e0::es).length c))(hcap:(e0::es).length≤c)
  (hC:Kd.C k61 w A (e0::es).length (e0::es)) (hok:∀ s∈e0::es,segOk (sgP s)=true) (hp:ptOk (x,y)=true) (hE:ErrW w) (hreach:es.length≤1000000) (h:runFar (x,y) (segFar (sgP e0) (x,y)) es=r) :
  Calls Tryd.prog 62 #[.pointer (some ⟨b,0,none⟩),.agg #[.int .i64 x,.int .i64 y]] w fun e w'=>e=.returned (.agg #[.int .i64 r.1,.int .i64 r.2])∧Below w.heap.size w w':=by
 have hu35:=Tryd.underlying35;have hu28:=Tryd.underlying28;have hu61:=Tryd.underlying61;have hcut:=cut_one A (e0::es).length c (by simp);have hC1:=Kd.C_drop (m:=1) hC (by simp) hcap;obtain⟨ad,hA,hx0,hx1,hx2,hx3⟩:=at_sg hC 0 (by simp);rw [Nat.zero_mul,show ad.add 0=ad from rfl] at hx0 hx1 hx2 hx3;generalize hA1:(if c=1 then A else A.map (·.add (1*4)))=A1 at hcut;have hC2:Kd.C k61 w A1 es.length es:=by rw [← hA1];exact hC1
 have HK:=a0_ (And.intro hC2 (And.intro hok (And.intro hp (And.intro hE (And.intro hreach h)))));clear hC1 hC2 hC hok hp hE hreach h;have hlen:(e0::es).length=es.length+1:=rfl;rw [hlen] at hcell hcap hcut;clear hlen hA1;subst hA;have ef0:((e0::es).getD 0 z61)=e0:=rfl;rw [ef0] at hx0 hx1 hx2 hx3;clear ef0;have hs0:=segFar_told e0 x y;generalize hf0:segFar (sgP e0) (x,y)=f0 at hs0;have HF:=Aside0.mk hf0;clear hf0;go_enter Tryd.func62,Tryd.ntmps62;go_wp2;have hb0:=below_drew1 (below_alloc (below_alloc (Below.refl w.heap.size w) (.cells #[.int .i64 x,.int .i64 y] 28)) (.cells #[.int .i64 0,.int .i64 0] 35));have lo2:=pw_cell_below hb0 hcell;have y0:=pw_cell_below hb0 hx0;have y1:=pw_cell_below hb0 hx1;have y2:=pw_cell_below hb0 hx2;have y3:=pw_cell_below hb0 hx3;have nb:=blk_alloc (blk_new w (.cells #[.int .i64 x,.int .i64 y] 28 (0,0))) (.cells #[.int .i64 0,.int .i64 0] 35);have nf:=blk_new (w.alloc (.cells #[.int .i64 x,.int .i64 y] 28)) (.cells #[.int .i64 0,.int .i64 0] 35 (0,0));generalize hW0:((w.alloc (.cells #[.int .i64 x,.int .i64 y] 28)).alloc (.cells #[.int .i64 0,.int .i64 0] 35)).drew=W0 at *;have n0:W0.heap[w.heap.size]?=some (.cells #[.int .i64 x,.int .i64 y] 28 (0,0)):=by rw [← hW0];exact nb
 have n1:W0.heap[w.heap.size+1]?=some (.cells #[.int .i64 0,.int .i64 0] 35 (0,0)):=by rw [← hW0];have:=nf;rwa [World.size_alloc] at this
 have hsz:W0.heap.size=w.heap.size+2:=by rw [← hW0];show (World.alloc _ _).heap.size=_;rw [World.size_alloc,World.size_alloc]
 have hal:=below_alloc (Below.refl W0.heap.size W0) (.cells #[.int .i64 0,.int .i64 0] 35);have nn:=blk_new W0 (.cells #[.int .i64 0,.int .i64 0] 35 (0,0));have a0:W0.cell? ⟨w.heap.size,0,none⟩=some (.int .i64 x):=(blk_cell n0 0).trans rfl;have a1:W0.cell? ⟨w.heap.size,1,none⟩=some (.int .i64 y):=(blk_cell n0 1).trans rfl;generalize hg:w.heap.size=g at *;have HW0:=Aside0.mk hW0;have hG:=Aside0.mk hg;have hcutA:=Aside0.mk hcut;clear hcut hW0;have KS:∀ w',Below W0.heap.size W0 w'→(fun w'=>w'.cell? ⟨b,2,none⟩=some (.slice (some ad) (es.length+1) c)∧w'.cell? ad=some (.int .i64 e0.f0.f0)∧w'.cell? ⟨ad.block,ad.off+1,none⟩=some (.int .i64 e0.f0.f1)∧w'.cell? ⟨ad.block,ad.off+2,none⟩=some (.int .i64 e0.f1.f0)∧w'.cell? ⟨ad.block,ad.off+3,none⟩=some (.int .i64 e0.f1.f1)∧w'.cell? ⟨g,0,none⟩=some (.int .i64 x)∧w'.cell? ⟨g,1,none⟩=some (.int .i64 y)) w':=fun w' hb=>⟨pw_cell_below hb lo2,pw_cell_below hb y0,pw_cell_below hb y1,pw_cell_below hb y2,pw_cell_below hb y3,pw_cell_below hb a0,pw_cell_below hb a1⟩
 refine start_ (n:=10) (S:=fun w'=>w'.cell? ⟨b,2,none⟩=some (.slice (some ad) (es.length+1) c)∧w'.cell? ad=some (.int .i64 e0.f0.f0)∧w'.cell? ⟨ad.block,ad.off+1,none⟩=some (.int .i64 e0.f0.f1)∧w'.cell? ⟨ad.block,ad.off+2,none⟩=some (.int .i64 e0.f1.f0)∧w'.cell? ⟨ad.block,ad.off+3,none⟩=some (.int .i64 e0.f1.f1)∧w'.cell? ⟨g,0,none⟩=some (.int .i64 x)∧w'.cell? ⟨g,1,none⟩=some (.int .i64 y)) (ds:=[]) (Array.replicate 10 false) (by kernel_rfl) rfl rfl (by have:=KS W0 (Below.refl _ _);rw [← HW0.out] at this;exact this) (fun hHeld=>?_);rw [HW0.out] at hHeld ⊢
 refine pv_ 0 9 (bm 10 1) ?_;refine pv_ 1 10 (bm 10 3) ?_;refine pv_ 2 11 (bm 10 7) ?_;refine tb7_ 3 12 (bm 10 15) hHeld ?_;refine pv_ 4 13 (bm 10 31) ?_;refine tb7_ 5 14 (bm 10 63) hHeld ?_;refine tb7_ 6 15 (bm 10 127) hHeld ?_;refine join_ (σ:=Nat) 1 (bm 10 511) (fun s_=>[(16,.agg #[.int .i64 f0.1,.int .i64 f0.2]),(5,.pointer (some ⟨s_,0,none⟩))]) (fun s_ w'=>(fun w'=>w'.cell? ⟨b,2,none⟩=some (.slice (some ad) (es.length+1) c)∧w'.cell? ad=some (.int .i64 e0.f0.f0)∧w'.cell? ⟨ad.block,ad.off+1,none⟩=some (.int .i64 e0.f0.f1)∧w'.cell? ⟨ad.block,ad.off+2,none⟩=some (.int .i64 e0.f1.f0)∧w'.cell? ⟨ad.block,ad.off+3,none⟩=some (.int .i64 e0.f1.f1)∧w'.cell? ⟨g,0,none⟩=some (.int .i64 x)∧w'.cell? ⟨g,1,none⟩=some (.int .i64 y)) w'∧w'.heap[s_]?=some (.cells #[.int .i64 0,.int .i64 0] 35 (0,0))∧W0.heap.size≤s_∧Below W0.heap.size W0 w') ?_ ?_;rotate_left
 ·
  intro hCont;refine two_ (i:=7) (j:=8) (Ni:=some 16) (Nj:=some 5) (bm 10 255) (bm 10 383) rfl rfl rfl rfl (by kernel_rfl) (by decide) (by decide) (fun K hK=>?_) (fun K hK=>?_)
  ·
   skip;refine goes_ Tryd.func37 (by kernel_rfl) rfl #[.agg #[.int .i64 e0.f0.f0,.int .i64 e0.f0.f1,.int .i64 e0.f1.f0,.int .i64 e0.f1.f1],.agg #[.int .i64 x,.int .i64 y]] (by rfl) rfl rfl (by (try simp only [List.map_toArray,List.map_cons,List.map_nil]);first | done | rfl) ?_;refine (segFar_told e0 x y f0 _ HF.out).mono ?_;rintro e w1 ⟨rfl,hb⟩;refine⟨_,rfl,?_⟩;refine hK.out _ _ (KS _ hb) (fun hHeld=>?_);clear hK K;refine no_ (h:=?_);refine one_ (i:=8) (N:=some 5) (bm 10 511) rfl rfl (by kernel_rfl) (by decide) (fun K hK=>?_);refine box_step ?hg (N:=5) ?hd (cs:=#[.int .i64 0,.int .i64 0]) (t:=35) ?hr ?_;(case hd=>rfl);(case hg=>rfl);(case hr=>first | (go_simp;done) | (go_simp;rfl));intro gb hgb w2 hbox hbb;refine hK.out _ _ (KS _ (below_step hb hbb)) (fun hHeld=>?_);clear hK K;refine no_ (h:=?_);exact norm_ (by simp only [putAll,Act.put,List.setIfInBounds_toArray,List.set_cons_zero,List.set_cons_succ]) (hCont gb _ ⟨hHeld,hbox,hgb▸hb.size,below_step hb hbb⟩)
  ·
   skip;refine box_step ?hg (N:=5) ?hd (cs:=#[.int .i64 0,.int .i64 0]) (t:=35) ?hr ?_;(case hd=>rfl);(case hg=>rfl);(case hr=>first | (go_simp;done) | (go_simp;rfl));intro gb hgb w1 hbox hbb;refine hK.out _ _ (KS _ hbb) (fun hHeld=>?_);clear hK K;refine no_ (h:=?_);refine one_ (i:=7) (N:=some 16) (bm 10 511) rfl rfl (by kernel_rfl) (by decide) (fun K hK=>?_);refine goes_ Tryd.func37 (by kernel_rfl) rfl #[.agg #[.int .i64 e0.f0.f0,.int .i64 e0.f0.f1,.int .i64 e0.f1.f0,.int .i64 e0.f1.f1],.agg #[.int .i64 x,.int .i64 y]] (by rfl) rfl rfl (by (try simp only [List.map_toArray,List.map_cons,List.map_nil]);first | done | rfl) ?_;refine (segFar_told e0 x y f0 _ HF.out).mono ?_;rintro e w2 ⟨rfl,hb⟩;refine⟨_,rfl,?_⟩;refine hK.out _ _ (KS _ (below_step hbb hb)) (fun hHeld=>?_);clear hK K;refine no_ (h:=?_);exact norm_ (by simp only [putAll,Act.put,List.setIfInBounds_toArray,List.set_cons_zero,List.set_cons_succ]) (hCont gb _ ⟨hHeld,blk_below hbox hb,Nat.le_of_eq hgb.symm,below_step hbb hb⟩)
 rintro n w4 ⟨hHeld,hbn,hnW,hb4⟩;refine norm_ (a':=?_) ?_ ?_;rotate_left
 ·
  simp only [putAll,Act.put,List.setIfInBounds_toArray,List.set_cons_zero,List.set_cons_succ];rfl
 refine one_ (i:=9) (N:=none) (bm 10 1023) rfl rfl (by kernel_rfl) (by decide) (fun K hK=>?_);have hs1:w4.cell? ⟨n,0,none⟩=some (.int .i64 0):=(blk_cell hbn 0).trans rfl;have hs2:w4.cell? ⟨n,1,none⟩=some (.int .i64 0):=(blk_cell hbn 1).trans rfl;have hf1:=blk_frozen hbn 0;have hf2:=blk_frozen hbn 1;refine skip_ (w1:=?_) (by rfl) rfl ?_ ?_;rotate_left
 ·
  go_simp;rfl
 have hb5:Below W0.heap.size W0 ((w4.setCell ⟨n,0,none⟩ (.int .i64 f0.1)).setCell ⟨n,1,none⟩ (.int .i64 f0.2)):=(hb4.setCell (p:=⟨n,0,none⟩) hnW _).setCell (p:=⟨n,1,none⟩) hnW _;have hbn5:((w4.setCell ⟨n,0,none⟩ (.int .i64 f0.1)).setCell ⟨n,1,none⟩ (.int .i64 f0.2)).heap[n]?=some (.cells #[.int .i64 f0.1,.int .i64 f0.2] 35 (0,0)):=blk_put (blk_put hbn 0 _ rfl) 1 _ rfl;refine hK.out _ _ (KS _ hb5) (fun hHeld2=>?_);clear hK K;refine done_ (by kernel_rfl) ?_;generalize (w4.setCell ⟨n,0,none⟩ (.int .i64 f0.1)).setCell ⟨n,1,none⟩ (.int .i64 f0.2)=w5 at *;clear hs1 hs2 hf1 hf2 hbn hb4 hHeld hHeld2;have hcut:=hcutA.out;have c5:=pw_cell_below hb5 lo2;have HS:=a0_ (And.intro n0 (And.intro n1 (And.intro hb0 (And.intro hbn5 (And.intro hb5 (And.intro hnW hsz))))));clear hs0 nb nf n0 n1 hsz a0 a1 hal nn y0 y1 y2 y3 hx0 hx1 hx2 hx3 hb0 KS hHeld hb5 hbn5 hnW;go_wp2;clear c5 lo2
 go_loopg [23] es.length (fun kq v23 wr=>∃ (i:Nat) (a1 a2:Int),v23=.int .i64 (i:Int)∧Aside0 (kq=es.length-i∧i≤es.length∧wr.heap[g]?=some (.cells #[.int .i64 x,.int .i64 y] 28 (0,0))∧wr.heap[g+1]?=some (.cells #[.int .i64 0,.int .i64 0] 35 (0,0)) ∧
   wr.heap[n]?=some (.cells #[.int .i64 a1,.int .i64 a2] 35 (0,0))∧fracOk (a1,a2)=true∧runFar (x,y) (a1,a2) (es.drop i)=r∧Below g w wr∧g+1<n))
 case atStart =>
  obtain⟨h1,h2,h3,h4,h5,h6,h7⟩:=HS.out;obtain⟨k1,k2,k3,k4,k5,k6⟩:=HK.out;have e1:=HF.out;refine⟨0,f0.1,f0.2,rfl,⟨rfl,Nat.zero_le _,blk_later h1 h5,blk_later h2 h5,h4,?_,?_,h3.trans (h5.mono (by omega)),by omega⟩⟩
  ·
   rw [show (f0.1,f0.2)=f0 from rfl,← e1];exact (Mort.segFar_ok (k2 e0 List.mem_cons_self) k3).1
  ·
   rw [show (f0.1,f0.2)=f0 from rfl,← e1];exact k6
 case round =>
  obtain⟨i,a1,a2,rfl,H1⟩:=hrel;obtain⟨hk,hi,hpb,hrb,hnb,hfo,hrun,hBw,hgn⟩:=H1.out;clear H1 HS;by_cases hlt:i<es.length
  ·
   have hd:decide ((i:Int)<(es.length:Int))=true:=decide_eq_true (by omega);obtain⟨adr,hadr,z0,z1,z2,z3⟩:=at_sg HK.out.1 i hlt;subst hadr;have hgi:g=w.heap.size:=hG.out.symm;have t0:=(hBw.cell (by have:=World.block_lt_of_cell? w _ z0;rw [hgi];exact this)).trans z0;have t1:=(hBw.cell (p:=⟨(adr.add (i*4)).block,(adr.add (i*4)).off+1,none⟩) (by have:=World.block_lt_of_cell? w _ z1;rw [hgi];exact this)).trans z1;have t2:=(hBw.cell (p:=⟨(adr.add (i*4)).block,(adr.add (i*4)).off+2,none⟩) (by have:=World.block_lt_of_cell? w _ z2;rw [hgi];exact this)).trans z2;have t3:=(hBw.cell (p:=⟨(adr.add (i*4)).block,(adr.add (i*4)).off+3,none⟩) (by have:=World.block_lt_of_cell? w _ z3;rw [hgi];exact this)).trans z3;have hes:es.drop i=es.getD i z61::es.drop (i+1):=by rw [List.drop_eq_getElem_cons hlt,List.getD_eq_getElem?_getD,List.getElem?_eq_getElem hlt];rfl
   have hmem:es.getD i z61∈e0::es:=by rw [List.getD_eq_getElem?_getD,List.getElem?_eq_getElem hlt];exact List.mem_cons_of_mem _ (List.getElem_mem hlt)
   rw [hes] at hrun;generalize es.getD i z61=s0 at *;have hfar:=segFar_told s0 x y;have hsg:fracOk (segFar (sgP s0) (x,y))=true:=(Mort.segFar_ok (HK.out.2.1 s0 hmem) HK.out.2.2.1).1;have hrun2:runFar (x,y) (least (a1,a2) (segFar (sgP s0) (x,y))) (es.drop (i+1))=r:=hrun;generalize segFar (sgP s0) (x,y)=f1 at *;have hF1:fracOk (f1.1,f1.2)=true:=hsg;have hcm:impl_FracCmp.f f1.1 f1.2 a1 a2=some (Mort.cmp0 f1 (a1,a2)):=by unfold impl_FracCmp.f;rw [Mort.fracCmp_ok hF1 hfo]
   have hE2:ErrW wr:=HK.out.2.2.2.1.below (hgi▸hBw);have hcl:least (a1,a2) f1=if Mort.cmp0 f1 (a1,a2)<0 then f1 else (a1,a2):=rfl;generalize Mort.cmp0 f1 (a1,a2)=cv at hcm hcl;have p0:wr.cell? ⟨g,0,none⟩=some (.int .i64 x):=(blk_cell hpb 0).trans rfl;have p1:wr.cell? ⟨g,1,none⟩=some (.int .i64 y):=(blk_cell hpb 1).trans rfl;have q0:wr.cell? ⟨n,0,none⟩=some (.int .i64 a1):=(blk_cell hnb 0).trans rfl;have q1:wr.cell? ⟨n,1,none⟩=some (.int .i64 a2):=(blk_cell hnb 1).trans rfl;have HL:=a0_ (And.intro hk (And.intro hpb (And.intro hrb (And.intro hnb (And.intro hfo (And.intro hrun2 (And.intro hBw (And.intro hgn (And.intro hE2 (And.intro hcm (And.intro hF1 hlt)))))))))));clear hk hi hpb hrb hnb hfo hrun hrun2 hBw hgn hE2 hcm hF1 hsg hes hmem z0 z1 z2 z3 hgi hcut;have hal:=below_alloc (Below.refl wr.heap.size wr) (.cells #[.int .i64 s0.f0.f0,.int .i64 s0.f0.f1,.int .i64 s0.f1.f0,.int .i64 s0.f1.f1] 61);have p0':=pw_cell_below hal p0;have p1':=pw_cell_below hal p1;have HAL:=Aside0.mk hal;have HQ:=a0_ (And.intro q0 q1);have HCL:=Aside0.mk hcl;clear hal q0 q1 p0 p1 hcl;by_cases hlt0:cv<0
   ·
    have hdc:decide (cv<0)=true:=decide_eq_true hlt0;have HLT:=Aside0.mk hlt0;clear hlt0;go_wp2_with (first | (go_at_call 37;refine (hfar f1 _ rfl).mono ?_;rintro e w6 ⟨rfl,hb6⟩;have q0':=pw_cell_below (below_alloc (Below.refl w6.heap.size w6) (.cells #[.int .i64 f1.1,.int .i64 f1.2] 35)) (pw_cell_below hb6 (pw_cell_below HAL.out HQ.out.1));have q1':=pw_cell_below (below_alloc (Below.refl w6.heap.size w6) (.cells #[.int .i64 f1.1,.int .i64 f1.2] 35)) (pw_cell_below hb6 (pw_cell_below HAL.out HQ.out.2));have HB6:=Aside0.mk hb6;clear hb6) | (go_at_call 21;refine (impl_FracCmp.calls f1.1 f1.2 a1 a2 cv _ ((HL.out.2.2.2.2.2.2.2.2.1.below (below_step HAL.out HB6.out)).below (below_alloc (Below.refl _ _) _)) HL.out.2.2.2.2.2.2.2.2.2.1).mono ?_;rintro e w7 ⟨rfl,hb7⟩;have q0'':=pw_cell_below hb7 q0';have q1'':=pw_cell_below hb7 q1';have m7:=blk_later (blk_new w6 (.cells #[.int .i64 f1.1,.int .i64 f1.2] 35 (0,0))) hb7;have m70:w7.cell? ⟨w6.heap.size,0,none⟩=some (.int .i64 f1.1):=(blk_cell m7 0).trans rfl;have m71:w7.cell? ⟨w6.heap.size,1,none⟩=some (.int .i64 f1.2):=(blk_cell m7 1).trans rfl;have n7:=blk_later (blk_alloc (blk_later (blk_later HL.out.2.2.2.1 HAL.out) HB6.out) (.cells #[.int .i64 f1.1,.int .i64 f1.2] 35)) hb7;have n70:=blk_frozen n7 0;have n71:=blk_frozen n7 1;have HB7:=a0_ (below_step (below_alloc (below_step HAL.out HB6.out) (.cells #[.int .i64 f1.1,.int .i64 f1.2] 35)) hb7);clear hb7));obtain⟨k1,k2,k3,k4,k5,k6,k7,k8,k9,k10,k11,k12⟩:=HL.out;have hB7:=HB7.out;go_roundg (es.length-(i+1))
    case measure=>omega
    case rel =>
     have hnlt:w.heap.size≤n:=by have:=hG.out;omega
     have e1:((w7.setCell ⟨n,0,none⟩ (.int .i64 f1.1)).setCell ⟨n,1,none⟩ (.int .i64 f1.2)).heap[g]?=w7.heap[g]?:=(Below.heap_setCell _ ⟨n,1,none⟩ _ g (by show g≠n;omega)).trans (Below.heap_setCell _ ⟨n,0,none⟩ _ g (by show g≠n;omega));have e2:((w7.setCell ⟨n,0,none⟩ (.int .i64 f1.1)).setCell ⟨n,1,none⟩ (.int .i64 f1.2)).heap[g+1]?=w7.heap[g+1]?:=(Below.heap_setCell _ ⟨n,1,none⟩ _ (g+1) (by show g+1≠n;omega)).trans (Below.heap_setCell _ ⟨n,0,none⟩ _ (g+1) (by show g+1≠n;omega));refine⟨i+1,f1.1,f1.2,?_,⟨rfl,by omega,e1.trans (blk_later k2 hB7),e2.trans (blk_later k3 hB7),blk_put (blk_put n7 0 _ rfl) 1 _ rfl,k11,?_,?_,k8⟩⟩
     ·
      have hw:wrap64 ((i:Int)+1)=(i:Int)+1:=by have:=HK.out.2.2.2.2.1;unfold wrap64;omega
      rw [hw];rfl
     ·
      have:=HCL.out;rw [if_pos HLT.out] at this;rw [this] at k6;exact k6
     ·
      exact ((k7.trans (hB7.mono (hG.out▸(hG.out▸k7).size))).setCell (p:=⟨n,0,none⟩) (by show g≤n;omega) _).setCell (p:=⟨n,1,none⟩) (by show g≤n;omega) _
   ·
    have hdc:decide (cv<0)=false:=decide_eq_false hlt0;have HLT:=Aside0.mk hlt0;clear hlt0;go_wp2_with (first | (go_at_call 37;refine (hfar f1 _ rfl).mono ?_;rintro e w6 ⟨rfl,hb6⟩;have q0':=pw_cell_below (below_alloc (Below.refl w6.heap.size w6) (.cells #[.int .i64 f1.1,.int .i64 f1.2] 35)) (pw_cell_below hb6 (pw_cell_below HAL.out HQ.out.1));have q1':=pw_cell_below (below_alloc (Below.refl w6.heap.size w6) (.cells #[.int .i64 f1.1,.int .i64 f1.2] 35)) (pw_cell_below hb6 (pw_cell_below HAL.out HQ.out.2));have HB6:=Aside0.mk hb6;clear hb6) | (go_at_call 21;refine (impl_FracCmp.calls f1.1 f1.2 a1 a2 cv _ ((HL.out.2.2.2.2.2.2.2.2.1.below (below_step HAL.out HB6.out)).below (below_alloc (Below.refl _ _) _)) HL.out.2.2.2.2.2.2.2.2.2.1).mono ?_;rintro e w7 ⟨rfl,hb7⟩;have q0'':=pw_cell_below hb7 q0';have q1'':=pw_cell_below hb7 q1';have m7:=blk_later (blk_new w6 (.cells #[.int .i64 f1.1,.int .i64 f1.2] 35 (0,0))) hb7;have m70:w7.cell? ⟨w6.heap.size,0,none⟩=some (.int .i64 f1.1):=(blk_cell m7 0).trans rfl;have m71:w7.cell? ⟨w6.heap.size,1,none⟩=some (.int .i64 f1.2):=(blk_cell m7 1).trans rfl;have n7:=blk_later (blk_alloc (blk_later (blk_later HL.out.2.2.2.1 HAL.out) HB6.out) (.cells #[.int .i64 f1.1,.int .i64 f1.2] 35)) hb7;have n70:=blk_frozen n7 0;have n71:=blk_frozen n7 1;have HB7:=a0_ (below_step (below_alloc (below_step HAL.out HB6.out) (.cells #[.int .i64 f1.1,.int .i64 f1.2] 35)) hb7);clear hb7));obtain⟨k1,k2,k3,k4,k5,k6,k7,k8,k9,k10,k11,k12⟩:=HL.out;have hB7:=HB7.out;go_roundg (es.length-(i+1))
    case measure=>omega
    case rel =>
     refine⟨i+1,a1,a2,?_,⟨rfl,by omega,blk_later k2 hB7,blk_later k3 hB7,n7,k5,?_,k7.trans (hB7.mono (hG.out▸(hG.out▸k7).size)),k8⟩⟩
     ·
      have hw:wrap64 ((i:Int)+1)=(i:Int)+1:=by have:=HK.out.2.2.2.2.1;unfold wrap64;omega
      rw [hw];rfl
     ·
      have:=HCL.out;rw [if_neg (by have:=HLT.out;omega)] at this;rw [this] at k6;exact k6
  ·
   obtain rfl:i=es.length:=by omega
   have hd:decide ((es.length:Int)<(es.length:Int))=false:=decide_eq_false (by omega);have q0:wr.cell? ⟨n,0,none⟩=some (.int .i64 a1):=(blk_cell hnb 0).trans rfl;have q1:wr.cell? ⟨n,1,none⟩=some (.int .i64 a2):=(blk_cell hnb 1).trans rfl;have q2:wr.cell? ⟨g+1,0,none⟩=some (.int .i64 0):=(blk_cell hrb 0).trans rfl;have q3:wr.cell? ⟨g+1,1,none⟩=some (.int .i64 0):=(blk_cell hrb 1).trans rfl;have q4:=blk_frozen hrb 0;have q5:=blk_frozen hrb 1;have hrr:(a1,a2)=r:=by rw [← hrun,List.drop_length];rfl
   obtain⟨r1,r2⟩:=r;cases hrr;have hrb':=blk_put (blk_put hrb 0 (.int .i64 a1) rfl) 1 (.int .i64 a2) rfl;have HR2:=Aside0.mk hrb';have q6:((wr.setCell ⟨g+1,0,none⟩ (.int .i64 a1)).setCell ⟨g+1,1,none⟩ (.int .i64 a2)).cell? ⟨g+1,0,none⟩=some (.int .i64 a1):=(blk_cell hrb' 0).trans rfl;have q7:((wr.setCell ⟨g+1,0,none⟩ (.int .i64 a1)).setCell ⟨g+1,1,none⟩ (.int .i64 a2)).cell? ⟨g+1,1,none⟩=some (.int .i64 a2):=(blk_cell hrb' 1).trans rfl;have HB:=Aside0.mk hBw;clear hrun hBw hnb hrb hpb hk hi hlt hfo hgn hcut hrb';go_wp2;refine bodyPost_ret (results_cell_row rfl _ _ (g+1) 35 #[.int .i64 a1,.int .i64 a2] (0,0) _ rfl HR2.out Tryd.underlying35 rfl (by kernel_rfl)) rfl ?_;refine⟨rfl,?_⟩;exact (HB.out.setCell (p:=⟨g+1,0,none⟩) (Nat.le_succ g) _).setCell (p:=⟨g+1,1,none⟩) (Nat.le_succ g) _
def impl_PlateIn.f (l0_0:List S28)(l0_1:List (List S28))(a1_0 a1_1:Int):Option Int:=
 some (if bodyOkB l0_0 l0_1 && ptOk (a1_0,a1_1) then runIn (a1_0,a1_1) (inS l0_0 (a1_0,a1_1)) l0_1 else -1)
def farE (E:List S61)(p:Mort.Pt):Mort.Frac:=match E with
 | []=>(0,0)
 | e0::es=>runFar p (segFar (sgP e0) p) es
def impl_PlateFar.f (l0_0:List S28)(l0_1:List (List S28))(a1_0 a1_1:Int):Option (Int × Int):=
 some (if bodyOkB l0_0 l0_1 && ptOk (a1_0,a1_1) then farE (allEdges (l0_0::l0_1)) (a1_0,a1_1) else (0,0))
theorem bodyOkB_iff (o:List S28)(H:List (List S28)):bodyOkB o H=true ↔ H.length≤2∧loopOk (o.map ptP)=true∧(∀ z∈H,loopOk (z.map ptP)=true)∧apartAll (o::H)=true∧nestedAll o H=true:=by
 unfold bodyOkB;simp only [Bool.and_eq_true,decide_eq_true_eq,List.all_eq_true]
theorem edgesS_ok {z:List S28}(h:loopOk (z.map ptP)=true):∀ s∈edgesS z,segOk (sgP s)=true:=by
 intro s hs;unfold edgesS at hs;obtain⟨i,_,rfl⟩:=List.mem_map.1 hs;have h1:=((Mort.loopOk_iff _).1 h).2.2.1;have:=h1 _ (Mort.mem_edges.2 ⟨i,by simpa using i.2,rfl⟩)
 rwa [ed_edS] at this
theorem allEdges_ok {o:List S28}{H:List (List S28)}(h:bodyOkB o H=true):∀ s∈allEdges (o::H),segOk (sgP s)=true:=by
 intro s hs;obtain⟨_,h1,h2,_⟩:=(bodyOkB_iff o H).1 h;unfold allEdges at hs;obtain⟨z,hz,hs2⟩:=List.mem_flatMap.1 hs
 rcases List.mem_cons.1 hz with rfl | hz
 ·
  exact edgesS_ok h1 s hs2
 ·
  exact edgesS_ok (h2 z hz) s hs2
theorem loop_len {z:List S28}(h:loopOk (z.map ptP)=true):3≤z.length∧z.length≤8:=by
 obtain⟨h1,h2,_⟩:=(Mort.loopOk_iff _).1 h
 simpa using And.intro h1 h2
theorem small_of {o:List S28}{H:List (List S28)}(h:bodyOkB o H=true):Small (o::H):=by
 obtain⟨_,h1,h2,_⟩:=(bodyOkB_iff o H).1 h;intro z hz
 rcases List.mem_cons.1 hz with rfl | hz
 ·
  have:=loop_len h1;omega
 ·
  have:=loop_len (h2 z hz);omega
theorem allEdges_cons {o:List S28}{H:List (List S28)}(h:bodyOkB o H=true):∃ e0 es,allEdges (o::H)=e0::es∧es.length≤23:=by
 obtain⟨h0,h1,h2,_⟩:=(bodyOkB_iff o H).1 h;have hl:=allEdges_len (small_of h);have hp:0<(allEdges (o::H)).length:=by
  unfold allEdges;rw [List.flatMap_cons,List.length_append];have:(edgesS o).length=o.length:=by simp [edgesS]
  have:=loop_len h1;omega
 simp only [List.length_cons] at hl
 cases hE:allEdges (o::H) with
 | nil=>rw [hE] at hp;simp at hp
 | cons e0 es=>exact⟨e0,es,rfl,by rw [hE] at hl;simp only [List.length_cons] at hl;omega⟩
section
variable (A0_0:Option Addr) (c0_0:Nat) (l0_0:List S28) (A0_1:Option Addr) (c0_1:Nat) (l0_1:List (List S28))
set_option maxHeartbeats 4000000 in
set_option maxRecDepth 100000 in
theorem impl_PlateIn.calls (a1_0 a1_1 r:Int)(w:World)(hr0_0:Kd.C k28 w A0_0 l0_0.length l0_0)(hc0_0:l0_0.length≤c0_0)(hr0_1:Kd.C (Kd.slice 28 k28) w A0_1 l0_1.length l0_1)(hc0_1:l0_1.length≤c0_1)(h:impl_PlateIn.f l0_0 l0_1 a1_0 a1_1=some r):
  Calls Tryd.prog 16 #[.agg #[.slice A0_0 l0_0.length c0_0,.slice A0_1 l0_1.length c0_1],.agg #[.int .i64 a1_0,.int .i64 a1_1]] w fun e w'=>e=.returned (.int .i64 r)∧Below w.heap.size w w':=by
 have hu26:=Tryd.underlying26;have hu28:=Tryd.underlying28;have hb:(if bodyOkB l0_0 l0_1 && ptOk (a1_0,a1_1) then runIn (a1_0,a1_1) (inS l0_0 (a1_0,a1_1)) l0_1 else -1)=r:=Option.some.inj h;clear h;have hal:=below_alloc (below_alloc (Below.refl w.heap.size w) (.cells #[.slice A0_0 l0_0.length c0_0,.slice A0_1 l0_1.length c0_1] 26)) (.cells #[.int .i64 a1_0,.int .i64 a1_1] 28);have HK:=a0_ (And.intro (Kd.C_below hr0_0 hal) (And.intro hc0_0 (And.intro (Kd.C_below hr0_1 hal) (And.intro hc0_1 hal))));clear hr0_0 hc0_0 hr0_1 hc0_1 hal;have np:=blk_new (w.alloc (.cells #[.slice A0_0 l0_0.length c0_0,.slice A0_1 l0_1.length c0_1] 26)) (.cells #[.int .i64 a1_0,.int .i64 a1_1] 28 (0,0));rw [World.size_alloc] at np;have NP:=Aside0.mk np;clear np
 cases hk:bodyOkB l0_0 l0_1 with
 | false =>
  rw [hk,Bool.false_and,if_neg (by decide)] at hb;subst hb;have HB:=Aside0.mk hk;clear hk;go_enter Tryd.func16,Tryd.ntmps16;go_wp2_with (go_at_call 52;refine (bodyOf_calls A0_0 c0_0 l0_0 A0_1 c0_1 l0_1 false _ HK.out.1 HK.out.2.1 HK.out.2.2.1 HK.out.2.2.2.1 HB.out).mono ?_;rintro e w1 ⟨_,hN⟩;obtain⟨rfl,hb1⟩:=hN rfl);go_ret;exact⟨rfl,below_step HK.out.2.2.2.2 hb1⟩
 | true =>
  cases hp:ptOk (a1_0,a1_1) with
  | false =>
   rw [hk,hp,Bool.and_false,if_neg (by decide)] at hb;subst hb;have HB:=a0_ (And.intro hk ((iPtOk a1_0 a1_1).trans (congrArg some hp)));clear hk hp;go_enter Tryd.func16,Tryd.ntmps16;go_wp2_with (first | (go_at_call 52;refine (bodyOf_calls A0_0 c0_0 l0_0 A0_1 c0_1 l0_1 true _ HK.out.1 HK.out.2.1 HK.out.2.2.1 HK.out.2.2.2.1 HB.out.1).mono ?_;rintro e w1 ⟨hN,_⟩;obtain⟨b,bs,v,rfl,hBA,hcell,hR,hb1⟩:=hN rfl;have m0:=pw_cell_below hb1 ((blk_cell NP.out 0).trans rfl);have m1:=pw_cell_below hb1 ((blk_cell NP.out 1).trans rfl);clear hBA hR hcell) | (go_at_call 23;refine (impl_PtOk.calls a1_0 a1_1 false _ HB.out.2).mono ?_;rintro e w2 ⟨rfl,hb2⟩));go_ret;exact⟨rfl,below_step (below_step HK.out.2.2.2.2 hb1) hb2⟩
  | true =>
   rw [hk,hp,Bool.and_true,if_pos rfl] at hb;have HB:=a0_ (And.intro hk (And.intro ((iPtOk a1_0 a1_1).trans (congrArg some hp)) (And.intro hp hb)));clear hk hp hb;go_enter Tryd.func16,Tryd.ntmps16;go_wp2_with (first | (go_at_call 52;refine (bodyOf_calls A0_0 c0_0 l0_0 A0_1 c0_1 l0_1 true _ HK.out.1 HK.out.2.1 HK.out.2.2.1 HK.out.2.2.2.1 HB.out.1).mono ?_;rintro e w1 ⟨hN,_⟩;obtain⟨b,bs,v,rfl,hBA,hcell,hR,hb1⟩:=hN rfl;have m0:=pw_cell_below hb1 ((blk_cell NP.out 0).trans rfl);have m1:=pw_cell_below hb1 ((blk_cell NP.out 1).trans rfl);have HA:=Aside0.mk hBA;clear hBA hR hcell) | (go_at_call 23;refine (impl_PtOk.calls a1_0 a1_1 true _ HB.out.2.1).mono ?_;rintro e w2 ⟨rfl,hb2⟩;have m2:=pw_cell_below hb2 m0;have m3:=pw_cell_below hb2 m1) | (go_at_call 53;refine (in_calls b l0_0 l0_1 a1_0 a1_1 r _ (HA.out.later hb2).rings ((bodyOkB_iff _ _).1 HB.out.1).2.1 ((bodyOkB_iff _ _).1 HB.out.1).2.2.1 HB.out.2.2.1 HB.out.2.2.2).mono ?_;rintro e w3 ⟨rfl,hb3⟩));go_ret;exact⟨rfl,below_step (below_step (below_step HK.out.2.2.2.2 hb1) hb2) hb3⟩
end
theorem farE_told (b c:Nat)(A:Option Addr)(E:List S61)(x y:Int)(r:Mort.Frac)(w:World)(hcell:w.cell? ⟨b,2,none⟩=some (.slice A E.length c))(hcap:E.length≤c)
  (hC:Kd.C k61 w A E.length E) (hok:∀ s∈E,segOk (sgP s)=true) (hp:ptOk (x,y)=true) (hE:ErrW w) (hne:0<E.length) (hreach:E.length≤1000000) (h:farE E (x,y)=r) :
  Calls Tryd.prog 62 #[.pointer (some ⟨b,0,none⟩),.agg #[.int .i64 x,.int .i64 y]] w fun e w'=>e=.returned (.agg #[.int .i64 r.1,.int .i64 r.2])∧Below w.heap.size w w':=by
 cases E with
 | nil=>simp at hne
 | cons e0 es=>exact far_calls b c A e0 es x y r w hcell hcap hC hok hp hE (by simp only [List.length_cons] at hreach;omega) h
section
variable (A0_0:Option Addr) (c0_0:Nat) (l0_0:List S28) (A0_1:Option Addr) (c0_1:Nat) (l0_1:List (List S28))
set_option maxHeartbeats 4000000 in
set_option maxRecDepth 100000 in
theorem impl_PlateFar.calls (a1_0 a1_1 r1 r2:Int)(w:World)(hr0_0:Kd.C k28 w A0_0 l0_0.length l0_0)(hc0_0:l0_0.length≤c0_0)(hr0_1:Kd.C (Kd.slice 28 k28) w A0_1 l0_1.length l0_1)(hc0_1:l0_1.length≤c0_1)(hE:ErrW w)(h:impl_PlateFar.f l0_0 l0_1 a1_0 a1_1=some (r1,r2)):
  Calls Tryd.prog 22 #[.agg #[.slice A0_0 l0_0.length c0_0,.slice A0_1 l0_1.length c0_1],.agg #[.int .i64 a1_0,.int .i64 a1_1]] w fun e w'=>e=.returned (.agg #[.int .i64 r1,.int .i64 r2])∧Below w.heap.size w w':=by
 have hu26:=Tryd.underlying26;have hu28:=Tryd.underlying28;have hu35:=Tryd.underlying35;have hb:(if bodyOkB l0_0 l0_1 && ptOk (a1_0,a1_1) then farE (allEdges (l0_0::l0_1)) (a1_0,a1_1) else (0,0))=(r1,r2):=Option.some.inj h;clear h;have hal:=below_alloc (below_alloc (below_alloc (Below.refl w.heap.size w) (.cells #[.slice A0_0 l0_0.length c0_0,.slice A0_1 l0_1.length c0_1] 26)) (.cells #[.int .i64 a1_0,.int .i64 a1_1] 28)) (.cells #[.int .i64 0,.int .i64 0] 35);have HK:=a0_ (And.intro (Kd.C_below hr0_0 hal) (And.intro hc0_0 (And.intro (Kd.C_below hr0_1 hal) (And.intro hc0_1 (And.intro hal (hE.below hal))))));clear hr0_0 hc0_0 hr0_1 hc0_1 hal hE;have np:=blk_alloc (blk_new (w.alloc (.cells #[.slice A0_0 l0_0.length c0_0,.slice A0_1 l0_1.length c0_1] 26)) (.cells #[.int .i64 a1_0,.int .i64 a1_1] 28 (0,0))) (.cells #[.int .i64 0,.int .i64 0] 35);rw [World.size_alloc] at np;have nf:=blk_new ((w.alloc (.cells #[.slice A0_0 l0_0.length c0_0,.slice A0_1 l0_1.length c0_1] 26)).alloc (.cells #[.int .i64 a1_0,.int .i64 a1_1] 28)) (.cells #[.int .i64 0,.int .i64 0] 35 (0,0));rw [World.size_alloc,World.size_alloc] at nf;have NP:=Aside0.mk np;have NF:=Aside0.mk nf;clear np nf
 cases hk:bodyOkB l0_0 l0_1 with
 | false =>
  rw [hk,Bool.false_and,if_neg (by decide)] at hb;cases hb;have HB:=Aside0.mk hk;clear hk;go_enter Tryd.func22,Tryd.ntmps22;go_wp2_with (go_at_call 52;refine (bodyOf_calls A0_0 c0_0 l0_0 A0_1 c0_1 l0_1 false _ HK.out.1 HK.out.2.1 HK.out.2.2.1 HK.out.2.2.2.1 HB.out).mono ?_;rintro e w1 ⟨_,hN⟩;obtain⟨rfl,hb1⟩:=hN rfl;have n1:=blk_later NF.out hb1;have s10:w1.cell? ⟨w.heap.size+1+1,0,none⟩=some (.int .i64 0):=(blk_cell n1 0).trans rfl;have s11:w1.cell? ⟨w.heap.size+1+1,1,none⟩=some (.int .i64 0):=(blk_cell n1 1).trans rfl;have s12:=blk_frozen n1 0;have s13:=blk_frozen n1 1;have N1:=Aside0.mk n1;clear n1);refine bodyPost_ret (results_cell_row rfl _ _ (w.heap.size+1+1) 35 #[.int .i64 0,.int .i64 0] (0,0) _ rfl (blk_put (blk_put N1.out 0 _ rfl) 1 _ rfl) Tryd.underlying35 rfl (by kernel_rfl)) rfl ?_;exact⟨rfl,((below_step HK.out.2.2.2.2.1 hb1).setCell (p:=⟨w.heap.size+1+1,0,none⟩) (by show w.heap.size≤w.heap.size+1+1;omega) _).setCell (p:=⟨w.heap.size+1+1,1,none⟩) (by show w.heap.size≤w.heap.size+1+1;omega) _⟩
 | true =>
  cases hp:ptOk (a1_0,a1_1) with
  | false =>
   rw [hk,hp,Bool.and_false,if_neg (by decide)] at hb;cases hb;have HB:=a0_ (And.intro hk ((iPtOk a1_0 a1_1).trans (congrArg some hp)));clear hk hp;go_enter Tryd.func22,Tryd.ntmps22;go_wp2_with (first | (go_at_call 52;refine (bodyOf_calls A0_0 c0_0 l0_0 A0_1 c0_1 l0_1 true _ HK.out.1 HK.out.2.1 HK.out.2.2.1 HK.out.2.2.2.1 HB.out.1).mono ?_;rintro e w1 ⟨hN,_⟩;obtain⟨b,bs,v,rfl,hBA,hcell,hR,hb1⟩:=hN rfl;have n1:=blk_later NF.out hb1;have s10:w1.cell? ⟨w.heap.size+1+1,0,none⟩=some (.int .i64 0):=(blk_cell n1 0).trans rfl;have s11:w1.cell? ⟨w.heap.size+1+1,1,none⟩=some (.int .i64 0):=(blk_cell n1 1).trans rfl;have s12:=blk_frozen n1 0;have s13:=blk_frozen n1 1;have N1:=Aside0.mk n1;clear n1;have p1:=blk_later NP.out hb1;have m10:w1.cell? ⟨w.heap.size+1,0,none⟩=some (.int .i64 a1_0):=(blk_cell p1 0).trans rfl;have m11:w1.cell? ⟨w.heap.size+1,1,none⟩=some (.int .i64 a1_1):=(blk_cell p1 1).trans rfl;have M1:=Aside0.mk p1;clear p1;have HBY:=a0_ (And.intro hcell hR);clear hBA hR hcell) | (go_at_call 23;refine (impl_PtOk.calls a1_0 a1_1 false _ HB.out.2).mono ?_;rintro e w2 ⟨rfl,hb2⟩;have n2:=blk_later N1.out hb2;have s20:w2.cell? ⟨w.heap.size+1+1,0,none⟩=some (.int .i64 0):=(blk_cell n2 0).trans rfl;have s21:w2.cell? ⟨w.heap.size+1+1,1,none⟩=some (.int .i64 0):=(blk_cell n2 1).trans rfl;have s22:=blk_frozen n2 0;have s23:=blk_frozen n2 1;have N2:=Aside0.mk n2;clear n2;have p2:=blk_later M1.out hb2;have m20:w2.cell? ⟨w.heap.size+1,0,none⟩=some (.int .i64 a1_0):=(blk_cell p2 0).trans rfl;have m21:w2.cell? ⟨w.heap.size+1,1,none⟩=some (.int .i64 a1_1):=(blk_cell p2 1).trans rfl;have M2:=Aside0.mk p2;clear p2));refine bodyPost_ret (results_cell_row rfl _ _ (w.heap.size+1+1) 35 #[.int .i64 0,.int .i64 0] (0,0) _ rfl (blk_put (blk_put N2.out 0 _ rfl) 1 _ rfl) Tryd.underlying35 rfl (by kernel_rfl)) rfl ?_
   exact⟨rfl,((below_step (below_step HK.out.2.2.2.2.1 hb1) hb2).setCell (p:=⟨w.heap.size+1+1,0,none⟩) (by show w.heap.size≤w.heap.size+1+1;omega) _).setCell (p:=⟨w.heap.size+1+1,1,none⟩) (by show w.heap.size≤w.heap.size+1+1;omega) _⟩
  | true =>
   rw [hk,hp,Bool.and_true,if_pos rfl] at hb;have HB:=a0_ (And.intro hk (And.intro ((iPtOk a1_0 a1_1).trans (congrArg some hp)) (And.intro hp hb)));clear hk hp hb;go_enter Tryd.func22,Tryd.ntmps22
   go_wp2_with (first | (go_at_call 52;refine (bodyOf_calls A0_0 c0_0 l0_0 A0_1 c0_1 l0_1 true _ HK.out.1 HK.out.2.1 HK.out.2.2.1 HK.out.2.2.2.1 HB.out.1).mono ?_;rintro e w1 ⟨hN,_⟩;obtain⟨b,bs,v,rfl,hBA,hcell,hR,hb1⟩:=hN rfl;have n1:=blk_later NF.out hb1;have s10:w1.cell? ⟨w.heap.size+1+1,0,none⟩=some (.int .i64 0):=(blk_cell n1 0).trans rfl;have s11:w1.cell? ⟨w.heap.size+1+1,1,none⟩=some (.int .i64 0):=(blk_cell n1 1).trans rfl;have s12:=blk_frozen n1 0;have s13:=blk_frozen n1 1;have N1:=Aside0.mk n1;clear n1;have p1:=blk_later NP.out hb1;have m10:w1.cell? ⟨w.heap.size+1,0,none⟩=some (.int .i64 a1_0):=(blk_cell p1 0).trans rfl;have m11:w1.cell? ⟨w.heap.size+1,1,none⟩=some (.int .i64 a1_1):=(blk_cell p1 1).trans rfl;have M1:=Aside0.mk p1;clear p1;have HBY:=a0_ (And.intro hcell hR);clear hBA hR hcell) | (go_at_call 23;refine (impl_PtOk.calls a1_0 a1_1 true _ HB.out.2.1).mono ?_;rintro e w2 ⟨rfl,hb2⟩;have n2:=blk_later N1.out hb2;have s20:w2.cell? ⟨w.heap.size+1+1,0,none⟩=some (.int .i64 0):=(blk_cell n2 0).trans rfl;have s21:w2.cell? ⟨w.heap.size+1+1,1,none⟩=some (.int .i64 0):=(blk_cell n2 1).trans rfl;have s22:=blk_frozen n2 0;have s23:=blk_frozen n2 1;have N2:=Aside0.mk n2;clear n2;have p2:=blk_later M1.out hb2;have m20:w2.cell? ⟨w.heap.size+1,0,none⟩=some (.int .i64 a1_0):=(blk_cell p2 0).trans rfl;have m21:w2.cell? ⟨w.heap.size+1,1,none⟩=some (.int .i64 a1_1):=(blk_cell p2 1).trans rfl;have M2:=Aside0.mk p2;clear p2) | (go_at_call 62;obtain⟨Ae,ce,hv,hce,hCe⟩:=Kd.R_reads HBY.out.2;obtain⟨e0,es,hEe,hle⟩:=allEdges_cons HB.out.1;refine (farE_told b ce Ae (allEdges (l0_0::l0_1)) a1_0 a1_1 (r1,r2) _ (pw_cell_below hb2 (hv▸HBY.out.1)) hce (Kd.C_below hCe hb2) (allEdges_ok HB.out.1) HB.out.2.2.1 ((HK.out.2.2.2.2.2.below hb1).below hb2) (by rw [hEe];simp) (by rw [hEe];simp only [List.length_cons];omega) HB.out.2.2.2).mono ?_;clear hv hce hCe hEe hle;rintro e w3 ⟨rfl,hb3⟩;have n3:=blk_later N2.out hb3;have s30:w3.cell? ⟨w.heap.size+1+1,0,none⟩=some (.int .i64 0):=(blk_cell n3 0).trans rfl;have s31:w3.cell? ⟨w.heap.size+1+1,1,none⟩=some (.int .i64 0):=(blk_cell n3 1).trans rfl;have s32:=blk_frozen n3 0;have s33:=blk_frozen n3 1;have N3:=Aside0.mk n3;clear n3))
   refine bodyPost_ret (results_cell_row rfl _ _ (w.heap.size+1+1) 35 #[.int .i64 r1,.int .i64 r2] (0,0) _ rfl (blk_put (blk_put N3.out 0 _ rfl) 1 _ rfl) Tryd.underlying35 rfl (by kernel_rfl)) rfl ?_;exact⟨rfl,((below_step (below_step (below_step HK.out.2.2.2.2.1 hb1) hb2) hb3).setCell (p:=⟨w.heap.size+1+1,0,none⟩) (by show w.heap.size≤w.heap.size+1+1;omega) _).setCell (p:=⟨w.heap.size+1+1,1,none⟩) (by show w.heap.size≤w.heap.size+1+1;omega) _⟩
end
end Go.Proofs.YtkefmnmoaomlhaaDoor.X
end
section
namespace Go.Proofs.YtkefmnmoaomlhaaDoor.X
open Go.RowKit Go.Proofs.YtkefmnmoaomlhaaDoorW.PrintWords Go.Proofs.YtkefmnmoaomlhaaDoorW.PrintLast Go.Proofs.YtkefmnmoaomlhaaDoorW.PrintMore
attribute [local go_sem] max2_int min2_int max_two min_two max_three min_three max_four min_four
set_option linter.unusedVariables false
set_option linter.unusedSimpArgs false
def impl_toolOk.f (a0:Int):Option (Bool):=if a0≥1 then (some (decide (a0≤9))) else (some false)
set_option maxHeartbeats 8000000 in
set_option maxRecDepth 100000 in
theorem impl_toolOk.calls (a0:Int)(r:Bool)(w:World)(h:impl_toolOk.f a0=some r):
  Calls Tryd.prog 69 #[.int .i64 a0] w fun e w'=>e=.returned (.bool r)∧Drawn0 w w':=by
 have H:(if a0≥1 then (some (decide (a0≤9))) else (some false))=some r:=h;clear h;by_cases c2:a0≥1
 ·
  rw [if_pos c2] at H;have c2b0:decide (1≤a0)=true:=decide_eq_true c2;clear c2;obtain rfl:=Option.some.inj H;go_enter Tryd.func69,Tryd.ntmps69;go_wp2;go_ret;exact⟨by first | rfl | (simp;done) | (simp [*];done),by repeat (first | exact Drawn0.refl _ | apply Drawn0.step)⟩
 ·
  rw [if_neg c2] at H;have c2b0:decide (1≤a0)=false:=decide_eq_false c2;clear c2;obtain rfl:=Option.some.inj H;go_enter Tryd.func69,Tryd.ntmps69;go_wp2;go_ret;exact⟨by first | rfl | (simp;done) | (simp [*];done),by repeat (first | exact Drawn0.refl _ | apply Drawn0.step)⟩
end Go.Proofs.YtkefmnmoaomlhaaDoor.X
end
section
set_option linter.unusedVariables false
set_option linter.unusedSimpArgs false
namespace Go.Proofs.YtkefmnmoaomlhaaDoor.X
open Go.RowKit Go.Shelf Go.Proofs.YtkefmnmoaomlhaaDoorW.PrintWords Go.Proofs.YtkefmnmoaomlhaaDoorW.PrintLast Go.Proofs.YtkefmnmoaomlhaaDoorW.PrintMore
open Mort (edges segMeet loopOk ptOk inOf segFar segOk least fracOk fracCmp)
def fitsB (o:List S28)(H:List (List S28))(q:Int)(p:Mort.Pt):Bool:=runIn p (inS o p) H==1 && decide (0≤fracCmp (farE (allEdges (o::H)) p) (q,1))
def toolB (q:Int):Bool:=decide (1≤q) && decide (q≤9)
theorem iToolOk (q:Int):impl_toolOk.f q=some (toolB q):=by
 unfold impl_toolOk.f toolB;by_cases h:1≤q
 ·
  rw [if_pos h,decide_eq_true h];rfl
 ·
  rw [if_neg h,decide_eq_false h];rfl
theorem drawn_below {w w':World}(h:Drawn0 w w'):Below w.heap.size w w':=by
 obtain⟨n,rfl⟩:=h;exact pw_below_drewN (Below.refl _ _) n
def impl_ToolFits.f (l0_0:List S28)(l0_1:List (List S28))(a1 a2_0 a2_1:Int):Option Bool:=
 some (bodyOkB l0_0 l0_1 && (toolB a1 && (ptOk (a2_0,a2_1) && fitsB l0_0 l0_1 a1 (a2_0,a2_1))))
set_option maxHeartbeats 4000000 in
set_option maxRecDepth 100000 in
theorem fits_calls (b c:Nat)(A:Option Addr)(o:List S28)(H:List (List S28))(q x y:Int)(r:Bool)(w:World)(hB:RingsAt w (some ⟨b,0,none⟩) (o::H))(hk:bodyOkB o H=true)(hp:ptOk (x,y)=true)
  (hcell:w.cell? ⟨b,2,none⟩=some (.slice A (allEdges (o::H)).length c)) (hcap:(allEdges (o::H)).length≤c) (hC:Kd.C k61 w A (allEdges (o::H)).length (allEdges (o::H))) (hE:ErrW w) (h:fitsB o H q (x,y)=r) :
  Calls Tryd.prog 70 #[.pointer (some ⟨b,0,none⟩),.int .i64 q,.agg #[.int .i64 x,.int .i64 y]] w fun e w'=>e=.returned (.bool r)∧Below w.heap.size w w':=by
 have hu28:=Tryd.underlying28;have hu35:=Tryd.underlying35;have hal:=below_alloc (Below.refl w.heap.size w) (.cells #[.int .i64 x,.int .i64 y] 28);have np:=blk_new w (.cells #[.int .i64 x,.int .i64 y] 28 (0,0));have hIn:∀ v:Int,runIn (x,y) (inS o (x,y)) H=v→Calls Tryd.prog 53 #[.pointer (some ⟨b,0,none⟩),.agg #[.int .i64 x,.int .i64 y]] (w.alloc (.cells #[.int .i64 x,.int .i64 y] 28)) fun e w'=>e=.returned (.int .i64 v)∧Below (w.alloc (.cells #[.int .i64 x,.int .i64 y] 28)).heap.size (w.alloc (.cells #[.int .i64 x,.int .i64 y] 28)) w':=
  fun v hv=>in_calls b o H x y v _ (hB.later hal) ((bodyOkB_iff _ _).1 hk).2.1 ((bodyOkB_iff _ _).1 hk).2.2.1 hp hv
 unfold fitsB at h;generalize hv:runIn (x,y) (inS o (x,y)) H=v at h;have HI:=a0_ (hIn v hv);obtain⟨e0,es,hEe,hle⟩:=allEdges_cons hk;have HK:=a0_ (And.intro (pw_cell_below hal hcell) (And.intro hcap (And.intro (Kd.C_below hC hal) (And.intro (allEdges_ok hk) (And.intro hp (And.intro (hE.below hal) (And.intro (show 0<(allEdges (o::H)).length by rw [hEe];simp) (And.intro (show (allEdges (o::H)).length≤1000000 by rw [hEe];simp only [List.length_cons];omega) hal))))))));have HP:=Aside0.mk np;clear hB hk hp hcell hcap hC hE np hIn hv hEe hle e0 es;by_cases h1:v=1
 ·
  subst h1;rw [show ((1:Int)==1)=true from rfl,Bool.true_and] at h;generalize hf:farE (allEdges (o::H)) (x,y)=f at h;have HF:=Aside0.mk hf;clear hf;generalize hcv:fracCmp f (q,1)=cv at h;have hcf:impl_FracCmp.f f.1 f.2 q 1=some cv:=by rw [← hcv];rfl
  have HC:=Aside0.mk hcf;clear hcv hcf;clear hal;go_enter Tryd.func70,Tryd.ntmps70;go_wp2_with (first | (go_at_call 53;refine HI.out.mono ?_;rintro e w1 ⟨rfl,hb1⟩;have p1:=blk_later HP.out hb1;have m0:w1.cell? ⟨w.heap.size,0,none⟩=some (.int .i64 x):=(blk_cell p1 0).trans rfl;have m1:w1.cell? ⟨w.heap.size,1,none⟩=some (.int .i64 y):=(blk_cell p1 1).trans rfl;clear p1) | (go_at_call 62;refine (farE_told b c A (allEdges (o::H)) x y f _ (pw_cell_below hb1 HK.out.1) HK.out.2.1 (Kd.C_below HK.out.2.2.1 hb1) HK.out.2.2.2.1 HK.out.2.2.2.2.1 (HK.out.2.2.2.2.2.1.below hb1) HK.out.2.2.2.2.2.2.1 HK.out.2.2.2.2.2.2.2.1 HF.out).mono ?_;rintro e w2 ⟨rfl,hb2⟩) | (go_at_call 21;refine (impl_FracCmp.calls f.1 f.2 q 1 cv _ ((HK.out.2.2.2.2.2.1.below hb1).below hb2) HC.out).mono ?_;rintro e w3 ⟨rfl,hb3⟩));go_ret;exact⟨by simp [h],below_step (below_step (below_step HK.out.2.2.2.2.2.2.2.2 hb1) hb2) hb3⟩
 ·
  have e1:(v==1)=false:=beq_eq_false_iff_ne.2 h1;rw [e1,Bool.false_and] at h;subst h;have HV:=Aside0.mk h1;clear h1 hal;go_enter Tryd.func70,Tryd.ntmps70;go_wp2_with (first | (go_at_call 53;refine HI.out.mono ?_;rintro e w1 ⟨rfl,hb1⟩));go_ret;exact⟨rfl,below_step HK.out.2.2.2.2.2.2.2.2 hb1⟩
section
variable (A0_0:Option Addr) (c0_0:Nat) (l0_0:List S28) (A0_1:Option Addr) (c0_1:Nat) (l0_1:List (List S28))
set_option maxHeartbeats 4000000 in
set_option maxRecDepth 100000 in
theorem impl_ToolFits.calls (a1 a2_0 a2_1:Int)(r:Bool)(w:World)(hr0_0:Kd.C k28 w A0_0 l0_0.length l0_0)(hc0_0:l0_0.length≤c0_0)(hr0_1:Kd.C (Kd.slice 28 k28) w A0_1 l0_1.length l0_1)(hc0_1:l0_1.length≤c0_1)(hE:ErrW w)(h:impl_ToolFits.f l0_0 l0_1 a1 a2_0 a2_1=some r):
  Calls Tryd.prog 28 #[.agg #[.slice A0_0 l0_0.length c0_0,.slice A0_1 l0_1.length c0_1],.int .i64 a1,.agg #[.int .i64 a2_0,.int .i64 a2_1]] w fun e w'=>e=.returned (.bool r)∧Below w.heap.size w w':=by
 have hu26:=Tryd.underlying26;have hu28:=Tryd.underlying28;have hb:(bodyOkB l0_0 l0_1 && (toolB a1 && (ptOk (a2_0,a2_1) && fitsB l0_0 l0_1 a1 (a2_0,a2_1))))=r:=Option.some.inj h;clear h;have hal:=below_alloc (below_alloc (Below.refl w.heap.size w) (.cells #[.slice A0_0 l0_0.length c0_0,.slice A0_1 l0_1.length c0_1] 26)) (.cells #[.int .i64 a2_0,.int .i64 a2_1] 28);have HK:=a0_ (And.intro (Kd.C_below hr0_0 hal) (And.intro hc0_0 (And.intro (Kd.C_below hr0_1 hal) (And.intro hc0_1 (And.intro hal (hE.below hal))))));clear hr0_0 hc0_0 hr0_1 hc0_1 hal hE;have np:=blk_new (w.alloc (.cells #[.slice A0_0 l0_0.length c0_0,.slice A0_1 l0_1.length c0_1] 26)) (.cells #[.int .i64 a2_0,.int .i64 a2_1] 28 (0,0));rw [World.size_alloc] at np;have NP:=Aside0.mk np;clear np
 cases hk:bodyOkB l0_0 l0_1 with
 | false =>
  rw [hk,Bool.false_and] at hb;subst hb;have HB:=Aside0.mk hk;clear hk;go_enter Tryd.func28,Tryd.ntmps28;go_wp2_with (go_at_call 52;refine (bodyOf_calls A0_0 c0_0 l0_0 A0_1 c0_1 l0_1 false _ HK.out.1 HK.out.2.1 HK.out.2.2.1 HK.out.2.2.2.1 HB.out).mono ?_;rintro e w1 ⟨_,hN⟩;obtain⟨rfl,hb1⟩:=hN rfl);go_ret;exact⟨rfl,below_step HK.out.2.2.2.2.1 hb1⟩
 | true =>
  rw [hk,Bool.true_and] at hb
  cases ht:toolB a1 with
  | false =>
   rw [ht,Bool.false_and] at hb;subst hb;have HB:=a0_ (And.intro hk (And.intro ((iToolOk a1).trans (congrArg some ht)) trivial));clear hk ht;go_enter Tryd.func28,Tryd.ntmps28;go_wp2_with (first | (go_at_call 52;refine (bodyOf_calls A0_0 c0_0 l0_0 A0_1 c0_1 l0_1 true _ HK.out.1 HK.out.2.1 HK.out.2.2.1 HK.out.2.2.2.1 HB.out.1).mono ?_;rintro e w1 ⟨hN,_⟩;obtain⟨b,bs,v,rfl,hBA,hcell,hR,hb1⟩:=hN rfl;have p1:=blk_later NP.out hb1;have m10:w1.cell? ⟨w.heap.size+1,0,none⟩=some (.int .i64 a2_0):=(blk_cell p1 0).trans rfl;have m11:w1.cell? ⟨w.heap.size+1,1,none⟩=some (.int .i64 a2_1):=(blk_cell p1 1).trans rfl;have M1:=Aside0.mk p1;clear p1;have HBY:=a0_ (And.intro hcell (And.intro hR hBA));clear hBA hR hcell) | (go_at_call 69;refine (impl_toolOk.calls a1 false _ HB.out.2.1).mono ?_;rintro e w2 ⟨rfl,hd2⟩;have hb2:=drawn_below hd2;clear hd2;have p2:=blk_later M1.out hb2;have m20:w2.cell? ⟨w.heap.size+1,0,none⟩=some (.int .i64 a2_0):=(blk_cell p2 0).trans rfl;have m21:w2.cell? ⟨w.heap.size+1,1,none⟩=some (.int .i64 a2_1):=(blk_cell p2 1).trans rfl;have M2:=Aside0.mk p2;clear p2));go_ret;exact⟨rfl,below_step (below_step HK.out.2.2.2.2.1 hb1) hb2⟩
  | true =>
   rw [ht,Bool.true_and] at hb
   cases hp:ptOk (a2_0,a2_1) with
   | false =>
    rw [hp,Bool.false_and] at hb;subst hb;have HB:=a0_ (And.intro hk (And.intro ((iToolOk a1).trans (congrArg some ht)) (And.intro ((iPtOk a2_0 a2_1).trans (congrArg some hp)) trivial)));clear hk ht hp;go_enter Tryd.func28,Tryd.ntmps28;go_wp2_with (first | (go_at_call 52;refine (bodyOf_calls A0_0 c0_0 l0_0 A0_1 c0_1 l0_1 true _ HK.out.1 HK.out.2.1 HK.out.2.2.1 HK.out.2.2.2.1 HB.out.1).mono ?_;rintro e w1 ⟨hN,_⟩;obtain⟨b,bs,v,rfl,hBA,hcell,hR,hb1⟩:=hN rfl;have p1:=blk_later NP.out hb1;have m10:w1.cell? ⟨w.heap.size+1,0,none⟩=some (.int .i64 a2_0):=(blk_cell p1 0).trans rfl;have m11:w1.cell? ⟨w.heap.size+1,1,none⟩=some (.int .i64 a2_1):=(blk_cell p1 1).trans rfl;have M1:=Aside0.mk p1;clear p1;have HBY:=a0_ (And.intro hcell (And.intro hR hBA));clear hBA hR hcell) | (go_at_call 69;refine (impl_toolOk.calls a1 true _ HB.out.2.1).mono ?_;rintro e w2 ⟨rfl,hd2⟩;have hb2:=drawn_below hd2;clear hd2;have p2:=blk_later M1.out hb2;have m20:w2.cell? ⟨w.heap.size+1,0,none⟩=some (.int .i64 a2_0):=(blk_cell p2 0).trans rfl;have m21:w2.cell? ⟨w.heap.size+1,1,none⟩=some (.int .i64 a2_1):=(blk_cell p2 1).trans rfl;have M2:=Aside0.mk p2;clear p2) | (go_at_call 23;refine (impl_PtOk.calls a2_0 a2_1 false _ HB.out.2.2.1).mono ?_;rintro e w3 ⟨rfl,hb3⟩;have p3:=blk_later M2.out hb3;have m30:w3.cell? ⟨w.heap.size+1,0,none⟩=some (.int .i64 a2_0):=(blk_cell p3 0).trans rfl;have m31:w3.cell? ⟨w.heap.size+1,1,none⟩=some (.int .i64 a2_1):=(blk_cell p3 1).trans rfl;have M3:=Aside0.mk p3;clear p3));go_ret;exact⟨rfl,below_step (below_step (below_step HK.out.2.2.2.2.1 hb1) hb2) hb3⟩
   | true =>
    rw [hp,Bool.true_and] at hb;have HB:=a0_ (And.intro hk (And.intro ((iToolOk a1).trans (congrArg some ht)) (And.intro ((iPtOk a2_0 a2_1).trans (congrArg some hp)) (And.intro hp hb))));clear hk ht hp hb;go_enter Tryd.func28,Tryd.ntmps28
    go_wp2_with (first | (go_at_call 52;refine (bodyOf_calls A0_0 c0_0 l0_0 A0_1 c0_1 l0_1 true _ HK.out.1 HK.out.2.1 HK.out.2.2.1 HK.out.2.2.2.1 HB.out.1).mono ?_;rintro e w1 ⟨hN,_⟩;obtain⟨b,bs,v,rfl,hBA,hcell,hR,hb1⟩:=hN rfl;have p1:=blk_later NP.out hb1;have m10:w1.cell? ⟨w.heap.size+1,0,none⟩=some (.int .i64 a2_0):=(blk_cell p1 0).trans rfl;have m11:w1.cell? ⟨w.heap.size+1,1,none⟩=some (.int .i64 a2_1):=(blk_cell p1 1).trans rfl;have M1:=Aside0.mk p1;clear p1;have HBY:=a0_ (And.intro hcell (And.intro hR hBA));clear hBA hR hcell) | (go_at_call 69;refine (impl_toolOk.calls a1 true _ HB.out.2.1).mono ?_;rintro e w2 ⟨rfl,hd2⟩;have hb2:=drawn_below hd2;clear hd2;have p2:=blk_later M1.out hb2;have m20:w2.cell? ⟨w.heap.size+1,0,none⟩=some (.int .i64 a2_0):=(blk_cell p2 0).trans rfl;have m21:w2.cell? ⟨w.heap.size+1,1,none⟩=some (.int .i64 a2_1):=(blk_cell p2 1).trans rfl;have M2:=Aside0.mk p2;clear p2) | (go_at_call 23;refine (impl_PtOk.calls a2_0 a2_1 true _ HB.out.2.2.1).mono ?_;rintro e w3 ⟨rfl,hb3⟩;have p3:=blk_later M2.out hb3;have m30:w3.cell? ⟨w.heap.size+1,0,none⟩=some (.int .i64 a2_0):=(blk_cell p3 0).trans rfl;have m31:w3.cell? ⟨w.heap.size+1,1,none⟩=some (.int .i64 a2_1):=(blk_cell p3 1).trans rfl;have M3:=Aside0.mk p3;clear p3) | (go_at_call 70;obtain⟨Ae,ce,hv,hce,hCe⟩:=Kd.R_reads HBY.out.2.1;refine (fits_calls b ce Ae l0_0 l0_1 a1 a2_0 a2_1 r _ ((HBY.out.2.2.later hb2).later hb3).rings HB.out.1 HB.out.2.2.2.1 (pw_cell_below hb3 (pw_cell_below hb2 (hv▸HBY.out.1))) hce (Kd.C_below (Kd.C_below hCe hb2) hb3) (((HK.out.2.2.2.2.2.below hb1).below hb2).below hb3) HB.out.2.2.2.2).mono ?_;clear hv hce hCe;rintro e w4 ⟨rfl,hb4⟩));go_ret;exact⟨rfl,below_step (below_step (below_step (below_step HK.out.2.2.2.2.1 hb1) hb2) hb3) hb4⟩
end
end Go.Proofs.YtkefmnmoaomlhaaDoor.X
end
section
namespace Go.Proofs.YtkefmnmoaomlhaaDoor.X
open Go.RowKit Go.Proofs.YtkefmnmoaomlhaaDoorW.PrintWords Go.Proofs.YtkefmnmoaomlhaaDoorW.PrintLast Go.Proofs.YtkefmnmoaomlhaaDoorW.PrintMore
attribute [local go_sem] max2_int min2_int max_two min_two max_three min_three max_four min_four
set_option linter.unusedVariables false
set_option linter.unusedSimpArgs false
def laws_FnFits.j0:Nat→Int→Bool→Bool→List (S28)→List (List (S28))→Int→Int→Option (Bool)
 | 0,_,_,_,_,_,_,_=>none
 | k+1,x4,x6,x45,x810000,x810001,x811000,x811001=>if x45=true then ((spec_ToolFits.f k x810000 x810001 x4 x811000 x811001).bind fun t815=>(some (x6==t815))) else ((impl_FracOf.f k x4 1).bind fun bt816=>((impl_PlateIn.f x810000 x810001 x811000 x811001).bind fun t820=>(if t820=1 then ((impl_PlateFar.f x810000 x810001 x811000 x811001).bind fun bt821=>((impl_FracCmp.f bt821.1 bt821.2 bt816.1 bt816.2.1).bind fun t823=>(some (x6==(decide (t823≥0)))))) else (some (x6==false)))))
def laws_FnFits.f (k:Nat)(l0:List Int):Option (Bool):=if (l0.length:Int)>1048576 then (some true) else ((spec_DrawToolFits.f k l0).bind fun bt800=>((impl_ToolFits.f bt800.1 bt800.2.1 bt800.2.2.1 bt800.2.2.2.1 bt800.2.2.2.2).bind fun t811=>((spec_ToolFits.f k bt800.1 bt800.2.1 bt800.2.2.1 bt800.2.2.2.1 bt800.2.2.2.2).bind fun t812=>(if (t811 != t812)=true then (laws_FnFits.j0 k bt800.2.2.1 t811 true bt800.1 bt800.2.1 bt800.2.2.2.1 bt800.2.2.2.2) else ((spec_PlateOk.f k bt800.1 bt800.2.1).bind fun t813=>(if t813=true then (if bt800.2.2.1<1 then (laws_FnFits.j0 k bt800.2.2.1 t811 true bt800.1 bt800.2.1 bt800.2.2.2.1 bt800.2.2.2.2) else (if bt800.2.2.1>9 then (laws_FnFits.j0 k bt800.2.2.1 t811 true bt800.1 bt800.2.1 bt800.2.2.2.1 bt800.2.2.2.2) else ((spec_PtOk.f bt800.2.2.2.1 bt800.2.2.2.2).bind fun t814=>(laws_FnFits.j0 k bt800.2.2.1 t811 (!t814) bt800.1 bt800.2.1 bt800.2.2.2.1 bt800.2.2.2.2)))) else (laws_FnFits.j0 k bt800.2.2.1 t811 true bt800.1 bt800.2.1 bt800.2.2.2.1 bt800.2.2.2.2)))))))
def laws_FnFits.T8:Bool × List (List Nat × List Nat):=(true,[([],[]),([],[]),([],[]),([1,2],[1,2]),([3],[3]),([4,3],[4]),([5],[5]),([5],[5]),([6,7,5,5],[5,6,7]),([5],[5]),([8,9,8,5],[5,8,9]),([10,5],[5,10]),([5,11],[5,11]),([0,12],[0,12]),([13,10,0,1,2,3,4,5,6,7,8,9,10,11,12,13],[13])])
def laws_FnFits.B8:List Nat:=[0,0,0,6,14,30,62,62,254,62,1022,2046,4094,8191,16383]
theorem laws_FnFits.tab8:rtab .any (opsOf Tryd.f9 8)=laws_FnFits.T8:=by kernel_rfl
theorem laws_FnFits.bits8:waitsOk laws_FnFits.T8.2 laws_FnFits.B8=true:=by kernel_rfl
set_option maxHeartbeats 8000000 in
set_option maxRecDepth 100000 in
theorem laws_FnFits.calls (k:Nat)(A0:Option Addr)(c0:Nat)(l0:List Int)(r:Bool)(w:World)(hr0:Kd.C (Kd.int .u8) w A0 l0.length l0)(hc0:l0.length≤c0)(hE:ErrW w)(h:laws_FnFits.f k l0=some r):
  Calls Tryd.prog 9 #[.slice A0 l0.length c0] w fun e w'=>e=.returned (.bool r)∧Below w.heap.size w w':=by
 have hu26:=Tryd.underlying26;have hu28:=Tryd.underlying28;have hu35:=Tryd.underlying35;have HR0:=Aside0.mk hr0;have HC0:=Aside0.mk hc0;clear hr0 hc0;have HB:=a0_ (Below.refl w.heap.size w);have HE:=Aside0.mk hE;clear hE;have H:(if (l0.length:Int)>1048576 then (some true) else ((spec_DrawToolFits.f k l0).bind fun bt800=>((impl_ToolFits.f bt800.1 bt800.2.1 bt800.2.2.1 bt800.2.2.2.1 bt800.2.2.2.2).bind fun t811=>((spec_ToolFits.f k bt800.1 bt800.2.1 bt800.2.2.1 bt800.2.2.2.1 bt800.2.2.2.2).bind fun t812=>(if (t811 != t812)=true then (laws_FnFits.j0 k bt800.2.2.1 t811 true bt800.1 bt800.2.1 bt800.2.2.2.1 bt800.2.2.2.2) else ((spec_PlateOk.f k bt800.1 bt800.2.1).bind fun t813=>(if t813=true then (if bt800.2.2.1<1 then (laws_FnFits.j0 k bt800.2.2.1 t811 true bt800.1 bt800.2.1 bt800.2.2.2.1 bt800.2.2.2.2) else (if bt800.2.2.1>9 then (laws_FnFits.j0 k bt800.2.2.1 t811 true bt800.1 bt800.2.1 bt800.2.2.2.1 bt800.2.2.2.2) else ((spec_PtOk.f bt800.2.2.2.1 bt800.2.2.2.2).bind fun t814=>(laws_FnFits.j0 k bt800.2.2.1 t811 (!t814) bt800.1 bt800.2.1 bt800.2.2.2.1 bt800.2.2.2.2)))) else (laws_FnFits.j0 k bt800.2.2.1 t811 true bt800.1 bt800.2.1 bt800.2.2.2.1 bt800.2.2.2.2))))))))=some r:=h;clear h;by_cases c2:(l0.length:Int)>1048576
 ·
  rw [if_pos c2] at H;have c2b0:decide (1048576<(l0.length:Int))=true:=decide_eq_true c2;have c2b1:decide (1048576<l0.length)=true:=decide_eq_true (by omega);clear c2;obtain rfl:=Option.some.inj H;go_enter Tryd.func9,Tryd.ntmps9;go_wp2;go_ret;exact⟨rr_,hB_⟩
 ·
  rw [if_neg c2] at H;have c2b0:decide (1048576<(l0.length:Int))=false:=decide_eq_false c2;have c2b1:decide (1048576<l0.length)=false:=decide_eq_false (by omega);clear c2;replace H:=Option.bind_eq_some_iff.mp H;obtain⟨⟨t800,t803,t806,t807,t808⟩,A30,H⟩:=H
  (try dsimp only at H)
  have A3:=Aside0.mk A30;clear A30;replace H:=Option.bind_eq_some_iff.mp H;obtain⟨t811,A40,H⟩:=H
  (try dsimp only at H)
  have A4:=Aside0.mk A40;clear A40;have HC5:=Aside0.mk H;clear H;go_enter Tryd.func9,Tryd.ntmps9
  go_upto_region 5 with (first | ((with_reducible refine gate_callee (f:=33) rfl ?_);refine gL_ (some 14) Tryd.func33 #[.slice A0 l0.length c0] (h:=?_);(with_reducible refine (spec_DrawToolFits.calls k _ _ l0 t800 t803 t806 t807 t808 _ ?side1 ?side2 A3.out).mono ?_);(case side1=>repeat (first | exact HR0.out | (with_reducible refine Kd.C_alloc ?_ _) | (with_reducible refine Kd.C_drewN ?_ _) | (with_reducible refine Kd.C_drew ?_)));(case side2=>exact HC0.out);rintro e w6 ⟨v801,v804,rfl,ho0,ho1,hb⟩;refine⟨_,rfl,?_⟩;have HO802:=a0_ (Kd.R_lower (Kd.R_mono (ok':=fun k_=>True) ho0 (fun _ hk_=>trivial)) (below_size hB_));have HO805:=a0_ (Kd.N_lower (Kd.N_mono (ok':=fun k_=>some k_≠(v801:Value).ownBlock) ho1 (fun k_ hk_=>hk_.2)) (below_size hB_));replace HB:=sb_ HB hb;(try clear ho0 ho1 hb)) | ((with_reducible refine gate_dst (N:=3) rfl ?_);refine bx_ (N:=3) (cs:=#[.slice none 0 0,.slice none 0 0]) (t:=26) (h:=?_);intro gb809 hg w7 hbox hb;have BK809:=a0_ (hbox);have GW809:=gh_ HB hg;have GE809:=gh_ HB hg;replace HO802:=rb_ HO802 hb;replace HO805:=a0_ (Kd.N_below (Kd.N_elderB (uN_ HO805) gb809 (Nat.le_of_eq hg.symm)) hb);replace HB:=sb_ HB hb;clear hb hbox hg) | ((with_reducible refine gate_dst (N:=5) rfl ?_);refine bx_ (N:=5) (cs:=#[.int .i64 0,.int .i64 0]) (t:=28) (h:=?_);intro gb810 hg w8 hbox hb;have BK810:=a0_ (hbox);have GW810:=gh_ HB hg;have GE810:=gh_ HB hg;have NB809_810:=nl_ BK809 hg;have NB810_809:=nr_ BK809 hg;replace HO802:=a0_ (Kd.R_below (Kd.R_elderB (uR_ HO802) gb810 (Nat.le_of_eq hg.symm)) hb);replace HO805:=a0_ (Kd.N_below (Kd.N_elderB (uN_ HO805) gb810 (Nat.le_of_eq hg.symm)) hb);replace BK809:=vb_ BK809 hb;replace HB:=sb_ HB hb;clear hb hbox hg;obtain⟨Ao9,co9,eo9⟩:=Kd.R_slice HO802.out;subst eo9;have hnb10:=NB809_810.out;have hnc10:=NB810_809.out;have hcz11_0:=c20_ BK809;have hcz11_1:=c21_ BK809;have hfz11_0:=fz_ BK809 0;have hfz11_1:=fz_ BK809 1;obtain⟨Ao12,co12,eo12⟩:=Kd.N_slice HO805.out;subst eo12;have hcz13_0:=c20_ BK810;have hcz13_1:=c21_ BK810;have hfz13_0:=fz_ BK810 0;have hfz13_1:=fz_ BK810 1) | ((with_reducible refine gate_callee (f:=28) rfl ?_);refine gL_ (some 21) Tryd.func28 #[.agg #[.slice Ao9 t800.length co9,.slice Ao12 t803.length co12],.int .i64 t806,.agg #[.int .i64 t807,.int .i64 t808]] (h:=?_);(with_reducible refine (impl_ToolFits.calls _ _ t800 _ _ t803 t806 t807 t808 t811 _ ?side1 ?side2 ?side3 ?side4 ?side5 A4.out).mono ?_);(case side1=>refine (Kd.R_reads' (e:=28) (base:=w.heap.size) (ok:=fun k_=>(True∧k_≠gb810)) (n:=t800.length) (c:=co9) ?_).2.2;exact (by (with_reducible repeat (first | apply Kd.R_alloc | apply Kd.R_drewN | apply Kd.R_drew));exact (Kd.R_mono (Kd.R_mono (Kd.R_far (p:=⟨gb810,1,none⟩) (Kd.R_far (p:=⟨gb810,0,none⟩) (Kd.R_far (p:=⟨gb809,1,none⟩) (Kd.R_far (p:=⟨gb809,0,none⟩) (Kd.R_mono (Kd.R_types HO802.out BK809.out (by decide)) (fun k_ hk=>(⟨hk,hk.1.2⟩:_∧k_≠gb810))) (fun _ hk=>hk.1.2) (.slice Ao9 t800.length co9)) (fun _ hk=>hk.1.2) (.slice Ao12 t803.length co12)) (fun _ hk=>hk.2) (.int .i64 t807)) (fun _ hk=>hk.2) (.int .i64 t808)) (fun _ h_=>h_.1)) (fun _ h_=>h_.1))));(case side2=>exact (Kd.R_reads' HO802.out).2.1);(case side3=>refine (Kd.N_reads' (e:=23) (base:=w.heap.size) (ok:=fun k_=>((some k_≠(.slice Ao9 t800.length co9:Value).ownBlock∧k_≠gb809)∧k_≠gb810)) (n:=t803.length) (c:=co12) ?_).2.2;exact (by (with_reducible repeat (first | apply Kd.N_alloc | apply Kd.N_drewN | apply Kd.N_drew));exact (Kd.N_mono (Kd.N_mono (Kd.N_far (p:=⟨gb810,1,none⟩) (Kd.N_far (p:=⟨gb810,0,none⟩) (Kd.N_far (p:=⟨gb809,1,none⟩) (Kd.N_far (p:=⟨gb809,0,none⟩) (Kd.N_mono (Kd.N_mono HO805.out (fun k_ hk=>(⟨hk,hk.1.2⟩:_∧k_≠gb809))) (fun k_ hk=>(⟨hk,hk.1.2⟩:_∧k_≠gb810))) (fun _ hk=>hk.1.2) (.slice Ao9 t800.length co9)) (fun _ hk=>hk.1.2) (.slice Ao12 t803.length co12)) (fun _ hk=>hk.2) (.int .i64 t807)) (fun _ hk=>hk.2) (.int .i64 t808)) (fun _ h_=>h_.1)) (fun _ h_=>h_.1))));(case side4=>exact (Kd.N_reads' HO805.out).2.1);(case side5=>exact ErrW.below HE.out hB_);rintro e w14 ⟨rfl,hb⟩;refine⟨_,rfl,?_⟩;replace HO802:=a0_ (Kd.R_below (by (with_reducible repeat (first | apply Kd.R_alloc | apply Kd.R_drewN | apply Kd.R_drew));exact (Kd.R_mono (Kd.R_mono (Kd.R_far (p:=⟨gb810,1,none⟩) (Kd.R_far (p:=⟨gb810,0,none⟩) (Kd.R_far (p:=⟨gb809,1,none⟩) (Kd.R_far (p:=⟨gb809,0,none⟩) (Kd.R_mono (Kd.R_types HO802.out BK809.out (by decide)) (fun k_ hk=>(⟨hk,hk.1.2⟩:_∧k_≠gb810))) (fun _ hk=>hk.1.2) (.slice Ao9 t800.length co9)) (fun _ hk=>hk.1.2) (.slice Ao12 t803.length co12)) (fun _ hk=>hk.2) (.int .i64 t807)) (fun _ hk=>hk.2) (.int .i64 t808)) (fun _ h_=>h_.1)) (fun _ h_=>h_.1))) hb);replace HO805:=a0_ (Kd.N_below (by (with_reducible repeat (first | apply Kd.N_alloc | apply Kd.N_drewN | apply Kd.N_drew));exact (Kd.N_mono (Kd.N_mono (Kd.N_far (p:=⟨gb810,1,none⟩) (Kd.N_far (p:=⟨gb810,0,none⟩) (Kd.N_far (p:=⟨gb809,1,none⟩) (Kd.N_far (p:=⟨gb809,0,none⟩) (Kd.N_mono (Kd.N_mono HO805.out (fun k_ hk=>(⟨hk,hk.1.2⟩:_∧k_≠gb809))) (fun k_ hk=>(⟨hk,hk.1.2⟩:_∧k_≠gb810))) (fun _ hk=>hk.1.2) (.slice Ao9 t800.length co9)) (fun _ hk=>hk.1.2) (.slice Ao12 t803.length co12)) (fun _ hk=>hk.2) (.int .i64 t807)) (fun _ hk=>hk.2) (.int .i64 t808)) (fun _ h_=>h_.1)) (fun _ h_=>h_.1))) hb);replace BK809:=a0_ (blk_below (g:=gb809) (o:=.cells #[.slice Ao9 t800.length co9,.slice Ao12 t803.length co12] 26 (0,0)) (by (with_reducible repeat (first | refine blk_drewN ?_ _ | refine blk_drew ?_ | refine blk_alloc ?_ _));refine blk_far ?_ NB809_810.out _;(with_reducible repeat (first | refine blk_drewN ?_ _ | refine blk_drew ?_ | refine blk_alloc ?_ _));refine blk_far ?_ NB809_810.out _;(with_reducible repeat (first | refine blk_drewN ?_ _ | refine blk_drew ?_ | refine blk_alloc ?_ _));refine blk_put (cs:=#[.slice Ao9 t800.length co9,.slice none 0 0]) ?_ 1 _ rfl;(with_reducible repeat (first | refine blk_drewN ?_ _ | refine blk_drew ?_ | refine blk_alloc ?_ _));refine blk_put (cs:=#[.slice none 0 0,.slice none 0 0]) ?_ 0 _ rfl;(with_reducible repeat (first | refine blk_drewN ?_ _ | refine blk_drew ?_ | refine blk_alloc ?_ _));exact BK809.out) hb);replace BK810:=a0_ (blk_below (g:=gb810) (o:=.cells #[.int .i64 t807,.int .i64 t808] 28 (0,0)) (by (with_reducible repeat (first | refine blk_drewN ?_ _ | refine blk_drew ?_ | refine blk_alloc ?_ _));refine blk_put (cs:=#[.int .i64 t807,.int .i64 0]) ?_ 1 _ rfl;(with_reducible repeat (first | refine blk_drewN ?_ _ | refine blk_drew ?_ | refine blk_alloc ?_ _));refine blk_put (cs:=#[.int .i64 0,.int .i64 0]) ?_ 0 _ rfl;(with_reducible repeat (first | refine blk_drewN ?_ _ | refine blk_drew ?_ | refine blk_alloc ?_ _));refine blk_far ?_ NB810_809.out _;(with_reducible repeat (first | refine blk_drewN ?_ _ | refine blk_drew ?_ | refine blk_alloc ?_ _));refine blk_far ?_ NB810_809.out _;(with_reducible repeat (first | refine blk_drewN ?_ _ | refine blk_drew ?_ | refine blk_alloc ?_ _));exact BK810.out) hb);replace HB:=sb_ HB hb;(try clear hb)))
  (try simp only [Act.put,List.setIfInBounds_toArray,List.set_cons_zero,List.set_cons_succ])
  go_cut [45] (fun v45 wc=>∃ (kq:Nat) (x45_4:Bool),v45=.bool x45_4∧Aside0 (laws_FnFits.j0 kq t806 t811 x45_4 t800 t803 t807 t808=some r)∧Aside0 (kq≤k)∧Aside0 (Kd.R k28 28 wc w.heap.size (fun k_=>k_≠gb810) (.slice Ao9 t800.length co9) t800)∧Aside0 (Kd.N (Kd.slice 28 k28) 23 wc w.heap.size (fun k_=>some k_≠((.slice Ao9 t800.length co9):Value).ownBlock∧k_≠gb809∧k_≠gb810) (.slice Ao12 t803.length co12) t803)∧Aside0 (wc.heap[gb809]?=some (.cells #[(.slice Ao9 t800.length co9),(.slice Ao12 t803.length co12)] 26 (0,0)))∧Aside0 (wc.heap[gb810]?=some (.cells #[.int .i64 t807,.int .i64 t808] 28 (0,0)))∧Aside0 (Below w.heap.size w wc))
  case first =>
   have H:=HC5.out;clear HC5;replace H:=Option.bind_eq_some_iff.mp H;obtain⟨t812,A150,H⟩:=H
   (try dsimp only at H)
   have A15:=Aside0.mk A150;clear A150;by_cases c16:(t811 != t812)=true
   ·
    rw [if_pos c16] at H;have c16b0:(t811 != t812)=true:=c16
    (try (have c16b1:decide (t811=t812)=false:=by simpa using c16))
    (try (have c16b2:(t811==t812)=false:=by simpa using c16))
    (try (have c16b3:¬ (t811=t812):=by simpa using c16))
    clear c16
    (first | rw [c16b0] | (simp only [i64_w,i32_w];rw [c16b0]) | skip)
    have H':=Aside0.mk H;clear H;have hnb17:=NB809_810.out;have hnc17:=NB810_809.out;have hcz18_0:=c20_ BK809;have hcz18_1:=c21_ BK809;have hfz18_0:=fz_ BK809 0;have hfz18_1:=fz_ BK809 1;have hcz19_0:=c20_ BK810;have hcz19_1:=c21_ BK810;have hfz19_0:=fz_ BK810 0;have hfz19_1:=fz_ BK810 1;go_wp2_with (first | ((with_reducible refine gate_callee (f:=25) rfl ?_);refine gL_ (some 26) Tryd.func25 #[.agg #[.slice Ao9 t800.length co9,.slice Ao12 t803.length co12],.int .i64 t806,.agg #[.int .i64 t807,.int .i64 t808]] (h:=?_);(with_reducible refine (spec_ToolFits.calls k _ _ t800 _ _ t803 t806 t807 t808 t812 _ ?side1 ?side2 ?side3 ?side4 A15.out).mono ?_);(case side1=>repeat (first | exact (Kd.R_reads' HO802.out).2.2 | (with_reducible refine Kd.C_alloc ?_ _) | (with_reducible refine Kd.C_drewN ?_ _) | (with_reducible refine Kd.C_drew ?_)));(case side2=>exact (Kd.R_reads' HO802.out).2.1);(case side3=>repeat (first | exact (Kd.N_reads' HO805.out).2.2 | (with_reducible refine Kd.C_alloc ?_ _) | (with_reducible refine Kd.C_drewN ?_ _) | (with_reducible refine Kd.C_drew ?_)));(case side4=>exact (Kd.N_reads' HO805.out).2.1);rintro e w20 ⟨rfl,hb⟩;refine⟨_,rfl,?_⟩;replace HO802:=rb_ HO802 hb;replace HO805:=nb_ HO805 hb;replace BK809:=vb_ BK809 hb;replace BK810:=vb_ BK810 hb;replace HB:=sb_ HB hb;(try clear hb)));go_meet
    case rel=>exact⟨_,(true),(by first | rfl | (simp;done) | (simp [*];done)),H',⟨by first | omega | exact Nat.le_refl _⟩,⟨by (with_reducible repeat (first | apply Kd.R_alloc | apply Kd.R_drewN | apply Kd.R_drew));exact Kd.R_mono HO802.out (fun _ hk=>hk.2)⟩,⟨by (with_reducible repeat (first | apply Kd.N_alloc | apply Kd.N_drewN | apply Kd.N_drew));exact Kd.N_mono HO805.out (fun _ hk=>⟨hk.1.1,⟨hk.1.2,hk.2⟩⟩)⟩,⟨uq_⟩,⟨uq_⟩,⟨hB_⟩⟩
   ·
    rw [if_neg c16] at H;have c16b0:(t811 != t812)=false:=by simpa using c16
    (try (have c16b1:decide (t811=t812)=true:=by simpa using c16))
    (try (have c16b2:(t811==t812)=true:=by simpa using c16))
    clear c16
    (first | rw [c16b0] | (simp only [i64_w,i32_w];rw [c16b0]) | skip)
    replace H:=Option.bind_eq_some_iff.mp H;obtain⟨t813,A210,H⟩:=H
    (try dsimp only at H)
    have A21:=Aside0.mk A210;clear A210;by_cases c22:t813=true
    ·
     subst c22;rw [if_pos rfl] at H
     (try dsimp only at H)
     by_cases c23:t806<1
     ·
      rw [if_pos c23] at H;have c23b0:decide (t806<1)=true:=decide_eq_true c23;clear c23;have H':=Aside0.mk H;clear H;have hnb24:=NB809_810.out;have hnc24:=NB810_809.out;have hcz25_0:=c20_ BK809;have hcz25_1:=c21_ BK809;have hfz25_0:=fz_ BK809 0;have hfz25_1:=fz_ BK809 1;have hcz26_0:=c20_ BK810;have hcz26_1:=c21_ BK810;have hfz26_0:=fz_ BK810 0;have hfz26_1:=fz_ BK810 1
      go_wp2_with (first | ((with_reducible refine gate_callee (f:=25) rfl ?_);refine gL_ (some 26) Tryd.func25 #[.agg #[.slice Ao9 t800.length co9,.slice Ao12 t803.length co12],.int .i64 t806,.agg #[.int .i64 t807,.int .i64 t808]] (h:=?_);(with_reducible refine (spec_ToolFits.calls k _ _ t800 _ _ t803 t806 t807 t808 t812 _ ?side1 ?side2 ?side3 ?side4 A15.out).mono ?_);(case side1=>repeat (first | exact (Kd.R_reads' HO802.out).2.2 | (with_reducible refine Kd.C_alloc ?_ _) | (with_reducible refine Kd.C_drewN ?_ _) | (with_reducible refine Kd.C_drew ?_)));(case side2=>exact (Kd.R_reads' HO802.out).2.1);(case side3=>repeat (first | exact (Kd.N_reads' HO805.out).2.2 | (with_reducible refine Kd.C_alloc ?_ _) | (with_reducible refine Kd.C_drewN ?_ _) | (with_reducible refine Kd.C_drew ?_)));(case side4=>exact (Kd.N_reads' HO805.out).2.1);rintro e w27 ⟨rfl,hb⟩;refine⟨_,rfl,?_⟩;replace HO802:=rb_ HO802 hb;replace HO805:=nb_ HO805 hb;replace BK809:=vb_ BK809 hb;replace BK810:=vb_ BK810 hb;replace HB:=sb_ HB hb;(try clear hb);have hcz28_0:=c20_ BK809;have hcz28_1:=c21_ BK809;have hfz28_0:=fz_ BK809 0;have hfz28_1:=fz_ BK809 1) | (go_at_call 18;(with_reducible refine (spec_PlateOk.calls k _ _ t800 _ _ t803 true _ ?side1 ?side2 ?side3 ?side4 A21.out).mono ?_);(case side1=>repeat (first | exact (Kd.R_reads' HO802.out).2.2 | (with_reducible refine Kd.C_alloc ?_ _) | (with_reducible refine Kd.C_drewN ?_ _) | (with_reducible refine Kd.C_drew ?_)));(case side2=>exact (Kd.R_reads' HO802.out).2.1);(case side3=>repeat (first | exact (Kd.N_reads' HO805.out).2.2 | (with_reducible refine Kd.C_alloc ?_ _) | (with_reducible refine Kd.C_drewN ?_ _) | (with_reducible refine Kd.C_drew ?_)));(case side4=>exact (Kd.N_reads' HO805.out).2.1);rintro e w29 ⟨rfl,hb⟩;replace HO802:=rb_ HO802 hb;replace HO805:=nb_ HO805 hb;replace BK809:=vb_ BK809 hb;replace BK810:=vb_ BK810 hb;replace HB:=sb_ HB hb;(try clear hb)))
      go_meet
      case rel=>exact⟨_,(true),(by first | rfl | (simp;done) | (simp [*];done)),H',⟨by first | omega | exact Nat.le_refl _⟩,⟨by (with_reducible repeat (first | apply Kd.R_alloc | apply Kd.R_drewN | apply Kd.R_drew));exact Kd.R_mono HO802.out (fun _ hk=>hk.2)⟩,⟨by (with_reducible repeat (first | apply Kd.N_alloc | apply Kd.N_drewN | apply Kd.N_drew));exact Kd.N_mono HO805.out (fun _ hk=>⟨hk.1.1,⟨hk.1.2,hk.2⟩⟩)⟩,⟨uq_⟩,⟨uq_⟩,⟨hB_⟩⟩
     ·
      rw [if_neg c23] at H;have c23b0:decide (t806<1)=false:=decide_eq_false c23;clear c23;by_cases c30:t806>9
      ·
       rw [if_pos c30] at H;have c30b0:decide (9<t806)=true:=decide_eq_true c30;clear c30;have H':=Aside0.mk H;clear H;have hnb31:=NB809_810.out;have hnc31:=NB810_809.out;have hcz32_0:=c20_ BK809;have hcz32_1:=c21_ BK809;have hfz32_0:=fz_ BK809 0;have hfz32_1:=fz_ BK809 1;have hcz33_0:=c20_ BK810;have hcz33_1:=c21_ BK810;have hfz33_0:=fz_ BK810 0;have hfz33_1:=fz_ BK810 1
       go_wp2_with (first | ((with_reducible refine gate_callee (f:=25) rfl ?_);refine gL_ (some 26) Tryd.func25 #[.agg #[.slice Ao9 t800.length co9,.slice Ao12 t803.length co12],.int .i64 t806,.agg #[.int .i64 t807,.int .i64 t808]] (h:=?_);(with_reducible refine (spec_ToolFits.calls k _ _ t800 _ _ t803 t806 t807 t808 t812 _ ?side1 ?side2 ?side3 ?side4 A15.out).mono ?_);(case side1=>repeat (first | exact (Kd.R_reads' HO802.out).2.2 | (with_reducible refine Kd.C_alloc ?_ _) | (with_reducible refine Kd.C_drewN ?_ _) | (with_reducible refine Kd.C_drew ?_)));(case side2=>exact (Kd.R_reads' HO802.out).2.1);(case side3=>repeat (first | exact (Kd.N_reads' HO805.out).2.2 | (with_reducible refine Kd.C_alloc ?_ _) | (with_reducible refine Kd.C_drewN ?_ _) | (with_reducible refine Kd.C_drew ?_)));(case side4=>exact (Kd.N_reads' HO805.out).2.1);rintro e w34 ⟨rfl,hb⟩;refine⟨_,rfl,?_⟩;replace HO802:=rb_ HO802 hb;replace HO805:=nb_ HO805 hb;replace BK809:=vb_ BK809 hb;replace BK810:=vb_ BK810 hb;replace HB:=sb_ HB hb;(try clear hb);have hcz35_0:=c20_ BK809;have hcz35_1:=c21_ BK809;have hfz35_0:=fz_ BK809 0;have hfz35_1:=fz_ BK809 1) | (go_at_call 18;(with_reducible refine (spec_PlateOk.calls k _ _ t800 _ _ t803 true _ ?side1 ?side2 ?side3 ?side4 A21.out).mono ?_);(case side1=>repeat (first | exact (Kd.R_reads' HO802.out).2.2 | (with_reducible refine Kd.C_alloc ?_ _) | (with_reducible refine Kd.C_drewN ?_ _) | (with_reducible refine Kd.C_drew ?_)));(case side2=>exact (Kd.R_reads' HO802.out).2.1);(case side3=>repeat (first | exact (Kd.N_reads' HO805.out).2.2 | (with_reducible refine Kd.C_alloc ?_ _) | (with_reducible refine Kd.C_drewN ?_ _) | (with_reducible refine Kd.C_drew ?_)));(case side4=>exact (Kd.N_reads' HO805.out).2.1);rintro e w36 ⟨rfl,hb⟩;replace HO802:=rb_ HO802 hb;replace HO805:=nb_ HO805 hb;replace BK809:=vb_ BK809 hb;replace BK810:=vb_ BK810 hb;replace HB:=sb_ HB hb;(try clear hb)))
       go_meet
       case rel=>exact⟨_,(true),(by first | rfl | (simp;done) | (simp [*];done)),H',⟨by first | omega | exact Nat.le_refl _⟩,⟨by (with_reducible repeat (first | apply Kd.R_alloc | apply Kd.R_drewN | apply Kd.R_drew));exact Kd.R_mono HO802.out (fun _ hk=>hk.2)⟩,⟨by (with_reducible repeat (first | apply Kd.N_alloc | apply Kd.N_drewN | apply Kd.N_drew));exact Kd.N_mono HO805.out (fun _ hk=>⟨hk.1.1,⟨hk.1.2,hk.2⟩⟩)⟩,⟨uq_⟩,⟨uq_⟩,⟨hB_⟩⟩
      ·
       rw [if_neg c30] at H;have c30b0:decide (9<t806)=false:=decide_eq_false c30;clear c30;replace H:=Option.bind_eq_some_iff.mp H;obtain⟨t814,A370,H⟩:=H
       (try dsimp only at H)
       have A37:=Aside0.mk A370;clear A370;have H':=Aside0.mk H;clear H;have hnb38:=NB809_810.out;have hnc38:=NB810_809.out;have hcz39_0:=c20_ BK809;have hcz39_1:=c21_ BK809;have hfz39_0:=fz_ BK809 0;have hfz39_1:=fz_ BK809 1;have hcz40_0:=c20_ BK810;have hcz40_1:=c21_ BK810;have hfz40_0:=fz_ BK810 0;have hfz40_1:=fz_ BK810 1
       go_wp2_with (first | ((with_reducible refine gate_callee (f:=25) rfl ?_);refine gL_ (some 26) Tryd.func25 #[.agg #[.slice Ao9 t800.length co9,.slice Ao12 t803.length co12],.int .i64 t806,.agg #[.int .i64 t807,.int .i64 t808]] (h:=?_);(with_reducible refine (spec_ToolFits.calls k _ _ t800 _ _ t803 t806 t807 t808 t812 _ ?side1 ?side2 ?side3 ?side4 A15.out).mono ?_);(case side1=>repeat (first | exact (Kd.R_reads' HO802.out).2.2 | (with_reducible refine Kd.C_alloc ?_ _) | (with_reducible refine Kd.C_drewN ?_ _) | (with_reducible refine Kd.C_drew ?_)));(case side2=>exact (Kd.R_reads' HO802.out).2.1);(case side3=>repeat (first | exact (Kd.N_reads' HO805.out).2.2 | (with_reducible refine Kd.C_alloc ?_ _) | (with_reducible refine Kd.C_drewN ?_ _) | (with_reducible refine Kd.C_drew ?_)));(case side4=>exact (Kd.N_reads' HO805.out).2.1);rintro e w41 ⟨rfl,hb⟩;refine⟨_,rfl,?_⟩;replace HO802:=rb_ HO802 hb;replace HO805:=nb_ HO805 hb;replace BK809:=vb_ BK809 hb;replace BK810:=vb_ BK810 hb;replace HB:=sb_ HB hb;(try clear hb);have hcz42_0:=c20_ BK809;have hcz42_1:=c21_ BK809;have hfz42_0:=fz_ BK809 0;have hfz42_1:=fz_ BK809 1) | (go_at_call 18;(with_reducible refine (spec_PlateOk.calls k _ _ t800 _ _ t803 true _ ?side1 ?side2 ?side3 ?side4 A21.out).mono ?_);(case side1=>repeat (first | exact (Kd.R_reads' HO802.out).2.2 | (with_reducible refine Kd.C_alloc ?_ _) | (with_reducible refine Kd.C_drewN ?_ _) | (with_reducible refine Kd.C_drew ?_)));(case side2=>exact (Kd.R_reads' HO802.out).2.1);(case side3=>repeat (first | exact (Kd.N_reads' HO805.out).2.2 | (with_reducible refine Kd.C_alloc ?_ _) | (with_reducible refine Kd.C_drewN ?_ _) | (with_reducible refine Kd.C_drew ?_)));(case side4=>exact (Kd.N_reads' HO805.out).2.1);rintro e w43 ⟨rfl,hb⟩;replace HO802:=rb_ HO802 hb;replace HO805:=nb_ HO805 hb;replace BK809:=vb_ BK809 hb;replace BK810:=vb_ BK810 hb;replace HB:=sb_ HB hb;(try clear hb);have hcz44_0:=c20_ BK810;have hcz44_1:=c21_ BK810;have hfz44_0:=fz_ BK810 0;have hfz44_1:=fz_ BK810 1) | (go_at_call 19;(with_reducible refine (spec_PtOk.calls t807 t808 t814 _ A37.out).mono ?_);rintro e w45 ⟨rfl,hb⟩;replace HO802:=rb_ HO802 hb;replace HO805:=nb_ HO805 hb;replace BK809:=vb_ BK809 hb;replace BK810:=vb_ BK810 hb;replace HB:=sb_ HB hb;(try clear hb)))
       go_meet
       case rel=>exact⟨_,(!t814),(by first | rfl | (simp;done) | (simp [*];done)),H',⟨by first | omega | exact Nat.le_refl _⟩,⟨by (with_reducible repeat (first | apply Kd.R_alloc | apply Kd.R_drewN | apply Kd.R_drew));exact Kd.R_mono HO802.out (fun _ hk=>hk.2)⟩,⟨by (with_reducible repeat (first | apply Kd.N_alloc | apply Kd.N_drewN | apply Kd.N_drew));exact Kd.N_mono HO805.out (fun _ hk=>⟨hk.1.1,⟨hk.1.2,hk.2⟩⟩)⟩,⟨uq_⟩,⟨uq_⟩,⟨hB_⟩⟩
    ·
     replace c22:=Bool.eq_false_iff.mpr c22;subst c22;rw [if_neg (show ¬ (false=true) by decide)] at H
     (try dsimp only at H)
     have H':=Aside0.mk H;clear H;have hnb46:=NB809_810.out;have hnc46:=NB810_809.out;have hcz47_0:=c20_ BK809;have hcz47_1:=c21_ BK809;have hfz47_0:=fz_ BK809 0;have hfz47_1:=fz_ BK809 1;have hcz48_0:=c20_ BK810;have hcz48_1:=c21_ BK810;have hfz48_0:=fz_ BK810 0;have hfz48_1:=fz_ BK810 1
     go_wp2_with (first | ((with_reducible refine gate_callee (f:=25) rfl ?_);refine gL_ (some 26) Tryd.func25 #[.agg #[.slice Ao9 t800.length co9,.slice Ao12 t803.length co12],.int .i64 t806,.agg #[.int .i64 t807,.int .i64 t808]] (h:=?_);(with_reducible refine (spec_ToolFits.calls k _ _ t800 _ _ t803 t806 t807 t808 t812 _ ?side1 ?side2 ?side3 ?side4 A15.out).mono ?_);(case side1=>repeat (first | exact (Kd.R_reads' HO802.out).2.2 | (with_reducible refine Kd.C_alloc ?_ _) | (with_reducible refine Kd.C_drewN ?_ _) | (with_reducible refine Kd.C_drew ?_)));(case side2=>exact (Kd.R_reads' HO802.out).2.1);(case side3=>repeat (first | exact (Kd.N_reads' HO805.out).2.2 | (with_reducible refine Kd.C_alloc ?_ _) | (with_reducible refine Kd.C_drewN ?_ _) | (with_reducible refine Kd.C_drew ?_)));(case side4=>exact (Kd.N_reads' HO805.out).2.1);rintro e w49 ⟨rfl,hb⟩;refine⟨_,rfl,?_⟩;replace HO802:=rb_ HO802 hb;replace HO805:=nb_ HO805 hb;replace BK809:=vb_ BK809 hb;replace BK810:=vb_ BK810 hb;replace HB:=sb_ HB hb;(try clear hb);have hcz50_0:=c20_ BK809;have hcz50_1:=c21_ BK809;have hfz50_0:=fz_ BK809 0;have hfz50_1:=fz_ BK809 1) | (go_at_call 18;(with_reducible refine (spec_PlateOk.calls k _ _ t800 _ _ t803 false _ ?side1 ?side2 ?side3 ?side4 A21.out).mono ?_);(case side1=>repeat (first | exact (Kd.R_reads' HO802.out).2.2 | (with_reducible refine Kd.C_alloc ?_ _) | (with_reducible refine Kd.C_drewN ?_ _) | (with_reducible refine Kd.C_drew ?_)));(case side2=>exact (Kd.R_reads' HO802.out).2.1);(case side3=>repeat (first | exact (Kd.N_reads' HO805.out).2.2 | (with_reducible refine Kd.C_alloc ?_ _) | (with_reducible refine Kd.C_drewN ?_ _) | (with_reducible refine Kd.C_drew ?_)));(case side4=>exact (Kd.N_reads' HO805.out).2.1);rintro e w51 ⟨rfl,hb⟩;replace HO802:=rb_ HO802 hb;replace HO805:=nb_ HO805 hb;replace BK809:=vb_ BK809 hb;replace BK810:=vb_ BK810 hb;replace HB:=sb_ HB hb;(try clear hb)))
     go_meet
     case rel=>exact⟨_,(true),(by first | rfl | (simp;done) | (simp [*];done)),H',⟨by first | omega | exact Nat.le_refl _⟩,⟨by (with_reducible repeat (first | apply Kd.R_alloc | apply Kd.R_drewN | apply Kd.R_drew));exact Kd.R_mono HO802.out (fun _ hk=>hk.2)⟩,⟨by (with_reducible repeat (first | apply Kd.N_alloc | apply Kd.N_drewN | apply Kd.N_drew));exact Kd.N_mono HO805.out (fun _ hk=>⟨hk.1.1,⟨hk.1.2,hk.2⟩⟩)⟩,⟨uq_⟩,⟨uq_⟩,⟨hB_⟩⟩
  case rest =>
   clear HC5;obtain⟨kq,x45_4,rfl,HA,HJ4,HO_810000,HO_810001,BK809,BK810,HB⟩:=hcut
   cases kq with
   | zero=>exact absurd HA.out (by simp [laws_FnFits.j0])
   | succ kj4 =>
    have H:=HA.out;clear HA;simp only [laws_FnFits.j0] at H;by_cases c52:x45_4=true
    ·
     subst c52;rw [if_pos rfl] at H
     (try dsimp only at H)
     replace H:=Option.bind_eq_some_iff.mp H;obtain⟨t815,A530,H⟩:=H
     (try dsimp only at H)
     have A53:=Aside0.mk A530;clear A530;obtain rfl:=Option.some.inj H;have hnb54:=NB809_810.out;have hnc54:=NB810_809.out;have hcz55_0:=c20_ BK809;have hcz55_1:=c21_ BK809;have hfz55_0:=fz_ BK809 0;have hfz55_1:=fz_ BK809 1;have hcz56_0:=c20_ BK810;have hcz56_1:=c21_ BK810;have hfz56_0:=fz_ BK810 0;have hfz56_1:=fz_ BK810 1;go_wp2_with (first | ((with_reducible refine gate_callee (f:=25) rfl ?_);refine gL_ (some 50) Tryd.func25 #[.agg #[.slice Ao9 t800.length co9,.slice Ao12 t803.length co12],.int .i64 t806,.agg #[.int .i64 t807,.int .i64 t808]] (h:=?_);(with_reducible refine (spec_ToolFits.calls kj4 _ _ t800 _ _ t803 t806 t807 t808 t815 _ ?side1 ?side2 ?side3 ?side4 A53.out).mono ?_);(case side1=>repeat (first | exact (Kd.R_reads' HO_810000.out).2.2 | (with_reducible refine Kd.C_alloc ?_ _) | (with_reducible refine Kd.C_drewN ?_ _) | (with_reducible refine Kd.C_drew ?_)));(case side2=>exact (Kd.R_reads' HO_810000.out).2.1);(case side3=>repeat (first | exact (Kd.N_reads' HO_810001.out).2.2 | (with_reducible refine Kd.C_alloc ?_ _) | (with_reducible refine Kd.C_drewN ?_ _) | (with_reducible refine Kd.C_drew ?_)));(case side4=>exact (Kd.N_reads' HO_810001.out).2.1);rintro e w57 ⟨rfl,hb⟩;refine⟨_,rfl,?_⟩;replace HO_810000:=rb_ HO_810000 hb;replace HO_810001:=nb_ HO_810001 hb;replace BK809:=vb_ BK809 hb;replace BK810:=vb_ BK810 hb;replace HB:=sb_ HB hb;(try clear hb)));go_ret;exact⟨rr_,hB_⟩
    ·
     replace c52:=Bool.eq_false_iff.mpr c52;subst c52;rw [if_neg (show ¬ (false=true) by decide)] at H
     (try dsimp only at H)
     replace H:=Option.bind_eq_some_iff.mp H;obtain⟨⟨t816,t817,t818⟩,A580,H⟩:=H
     (try dsimp only at H)
     have A58:=Aside0.mk A580;clear A580;replace H:=Option.bind_eq_some_iff.mp H;obtain⟨t820,A590,H⟩:=H
     (try dsimp only at H)
     have A59:=Aside0.mk A590;clear A590;by_cases c60:t820=1
     ·
      rw [if_pos c60] at H;have c60b0:(t820==1)=true:=beq_iff_eq.mpr c60;have c60b1:(t820 != 1)=false:=bne_eq_false_iff_eq.mpr c60;clear c60;replace H:=Option.bind_eq_some_iff.mp H;obtain⟨⟨t821,t822⟩,A610,H⟩:=H
      (try dsimp only at H)
      have A61:=Aside0.mk A610;clear A610;replace H:=Option.bind_eq_some_iff.mp H;obtain⟨t823,A620,H⟩:=H
      (try dsimp only at H)
      have A62:=Aside0.mk A620;clear A620;obtain rfl:=Option.some.inj H
      try go_wp2_with (first | ((with_reducible refine gate_callee (f:=20) rfl ?_);refine gL_ (some 54) Tryd.func20 #[.int .i64 t806,.int .i64 1] (h:=?_);(with_reducible refine (impl_FracOf.calls kj4 t806 1 t816 t817 t818 _ A58.out).mono ?_);rintro e w63 ⟨rfl,hb⟩;refine⟨_,rfl,?_⟩;replace HO_810000:=rb_ HO_810000 hb;replace HO_810001:=nb_ HO_810001 hb;replace BK809:=vb_ BK809 hb;replace BK810:=vb_ BK810 hb;replace HB:=sb_ HB hb;(try clear hb)) | ((with_reducible refine gate_dst (N:=7) rfl ?_);refine bx_ (N:=7) (cs:=#[.int .i64 0,.int .i64 0]) (t:=35) (h:=?_);intro gb819 hg w64 hbox hb;have BK819:=a0_ (hbox);have GW819:=gh_ HB hg;have GE819:=gh_ HB hg;have NB809_819:=nl_ BK809 hg;have NB819_809:=nr_ BK809 hg;have NB810_819:=nl_ BK810 hg;have NB819_810:=nr_ BK810 hg;replace HO_810000:=rb_ HO_810000 hb;replace HO_810001:=a0_ (Kd.N_below (Kd.N_elderB (uN_ HO_810001) gb819 (Nat.le_of_eq hg.symm)) hb);replace BK809:=vb_ BK809 hb;replace BK810:=vb_ BK810 hb;replace HB:=sb_ HB hb;clear hb hbox hg;have hnb65:=NB819_809.out;have hnc65:=NB809_819.out;have hnb66:=NB819_810.out;have hnc66:=NB810_819.out;have hcz67_0:=c20_ BK819;have hcz67_1:=c21_ BK819;have hfz67_0:=fz_ BK819 0;have hfz67_1:=fz_ BK819 1))
      have n0_:Aside0 (Kd.R k28 28 ((w64.setCell ⟨gb819,0,none⟩ (.int .i64 t816)).setCell ⟨gb819,1,none⟩ (.int .i64 t817)) w.heap.size (fun k_=>k_≠gb810) (.slice Ao9 t800.length co9) t800):=⟨by (with_reducible repeat (first | apply Kd.R_alloc | apply Kd.R_drewN | apply Kd.R_drew));exact Kd.R_mono (Kd.R_far (p:=⟨gb819,1,none⟩) (Kd.R_far (p:=⟨gb819,0,none⟩) (Kd.R_types HO_810000.out BK819.out (by decide)) (fun _ hk=>hk.2) (.int .i64 t816)) (fun _ hk=>hk.2) (.int .i64 t817)) (fun _ hk=>hk.1)⟩;have n1_:Aside0 (Kd.N (Kd.slice 28 k28) 23 ((w64.setCell ⟨gb819,0,none⟩ (.int .i64 t816)).setCell ⟨gb819,1,none⟩ (.int .i64 t817)) w.heap.size (fun k_=>some k_≠(.slice Ao9 t800.length co9:Value).ownBlock∧k_≠gb809∧k_≠gb810∧k_≠gb819) (.slice Ao12 t803.length co12) t803):=⟨by (with_reducible repeat (first | apply Kd.N_alloc | apply Kd.N_drewN | apply Kd.N_drew));exact Kd.N_mono (Kd.N_far (p:=⟨gb819,1,none⟩) (Kd.N_far (p:=⟨gb819,0,none⟩) (Kd.N_mono HO_810001.out (fun k_ hk=>(⟨hk,hk.2⟩:_∧k_≠gb819))) (fun _ hk=>hk.2) (.int .i64 t816)) (fun _ hk=>hk.2) (.int .i64 t817)) (fun _ hk=>⟨hk.1.1.1,⟨hk.1.1.2.1,⟨hk.1.1.2.2,hk.1.2⟩⟩⟩)⟩;have n2_:Aside0 (((w64.setCell ⟨gb819,0,none⟩ (.int .i64 t816)).setCell ⟨gb819,1,none⟩ (.int .i64 t817)).heap[gb809]?=some (.cells #[.slice Ao9 t800.length co9,.slice Ao12 t803.length co12] 26 (0,0))):=⟨by (with_reducible repeat (first | refine blk_drewN ?_ _ | refine blk_drew ?_ | refine blk_alloc ?_ _));refine blk_far ?_ NB809_819.out _;(with_reducible repeat (first | refine blk_drewN ?_ _ | refine blk_drew ?_ | refine blk_alloc ?_ _));refine blk_far ?_ NB809_819.out _;(with_reducible repeat (first | refine blk_drewN ?_ _ | refine blk_drew ?_ | refine blk_alloc ?_ _));exact BK809.out⟩
      have n3_:Aside0 (((w64.setCell ⟨gb819,0,none⟩ (.int .i64 t816)).setCell ⟨gb819,1,none⟩ (.int .i64 t817)).heap[gb810]?=some (.cells #[.int .i64 t807,.int .i64 t808] 28 (0,0))):=⟨by (with_reducible repeat (first | refine blk_drewN ?_ _ | refine blk_drew ?_ | refine blk_alloc ?_ _));refine blk_far ?_ NB810_819.out _;(with_reducible repeat (first | refine blk_drewN ?_ _ | refine blk_drew ?_ | refine blk_alloc ?_ _));refine blk_far ?_ NB810_819.out _;(with_reducible repeat (first | refine blk_drewN ?_ _ | refine blk_drew ?_ | refine blk_alloc ?_ _));exact BK810.out⟩;have n4_:Aside0 (((w64.setCell ⟨gb819,0,none⟩ (.int .i64 t816)).setCell ⟨gb819,1,none⟩ (.int .i64 t817)).heap[gb819]?=some (.cells #[.int .i64 t816,.int .i64 t817] 35 (0,0))):=⟨by (with_reducible repeat (first | refine blk_drewN ?_ _ | refine blk_drew ?_ | refine blk_alloc ?_ _));refine blk_put (cs:=#[.int .i64 t816,.int .i64 0]) ?_ 1 _ rfl;(with_reducible repeat (first | refine blk_drewN ?_ _ | refine blk_drew ?_ | refine blk_alloc ?_ _));refine blk_put (cs:=#[.int .i64 0,.int .i64 0]) ?_ 0 _ rfl;(with_reducible repeat (first | refine blk_drewN ?_ _ | refine blk_drew ?_ | refine blk_alloc ?_ _));exact BK819.out⟩;have n5_:Aside0 (Below w.heap.size w ((w64.setCell ⟨gb819,0,none⟩ (.int .i64 t816)).setCell ⟨gb819,1,none⟩ (.int .i64 t817))):=⟨hB_⟩
      (try clear HO_810000)
      (try clear HO_810001)
      (try clear BK809)
      (try clear BK810)
      (try clear BK819)
      (try clear HB)
      generalize ((w64.setCell ⟨gb819,0,none⟩ (.int .i64 t816)).setCell ⟨gb819,1,none⟩ (.int .i64 t817))=w68 at n0_ n1_ n2_ n3_ n4_ n5_ ⊢
      have HO_810000:=n0_;have HO_810001:=n1_;have BK809:=n2_;have BK810:=n3_;have BK819:=n4_;have HB:=n5_;clear n0_ n1_ n2_ n3_ n4_ n5_;replace HO_810000:=a0_ (Kd.R_drew HO_810000.out);replace HO_810001:=a0_ (Kd.N_drew HO_810001.out);replace BK809:=a0_ (blk_drew BK809.out);replace BK810:=a0_ (blk_drew BK810.out);replace BK819:=a0_ (blk_drew BK819.out);replace HB:=a0_ (below_drew1 HB.out);refine start_ (n:=15) (S:=fun w'=>w'.cell? ⟨gb809,0,none⟩=some (.slice Ao9 t800.length co9)∧w'.cell? ⟨gb809,1,none⟩=some (.slice Ao12 t803.length co12)∧w'.cell? ⟨gb810,0,none⟩=some (.int .i64 t807)∧w'.cell? ⟨gb810,1,none⟩=some (.int .i64 t808)∧w'.cell? ⟨gb819,0,none⟩=some (.int .i64 t816)∧w'.cell? ⟨gb819,1,none⟩=some (.int .i64 t817)) (ds:=[]) (Array.replicate 15 false) (by kernel_rfl) rfl rfl ⟨bc_,bc_,bc_,bc_,bc_,bc_⟩ (fun hHeld=>?_);refine with_tabW laws_FnFits.tab8 laws_FnFits.bits8 (fun HT_ HW_=>?_);generalize w68.drew=w69 at HO_810000 HO_810001 BK809 BK810 BK819 HB hHeld ⊢
      refine pu_ HT_ 0 57 (bm 15 1) ?_;refine ta6_ HT_ HW_ 1 58 (bm 15 3) hHeld ?_;refine ta6_ HT_ HW_ 2 59 (bm 15 7) hHeld ?_;refine one_ (i:=3) (N:=some 60) (bm 15 15) rfl rfl (one_of HT_.out (by kernel_rfl)) (by decide) (fun K hK=>?_);refine goes_ Tryd.func16 (by kernel_rfl) rfl #[.agg #[.slice Ao9 t800.length co9,.slice Ao12 t803.length co12],.agg #[.int .i64 t807,.int .i64 t808]] (by rfl) rfl rfl ma_ ?_
      with_reducible refine (impl_PlateIn.calls _ _ t800 _ _ t803 t807 t808 t820 _ ?side1 ?side2 ?side3 ?side4 A59.out).mono ?_
      (case side1=>repeat (first | exact (Kd.R_reads' HO_810000.out).2.2 | (with_reducible refine Kd.C_alloc ?_ _) | (with_reducible refine Kd.C_drewN ?_ _) | (with_reducible refine Kd.C_drew ?_)))
      (case side2=>exact (Kd.R_reads' HO_810000.out).2.1)
      (case side3=>repeat (first | exact (Kd.N_reads' HO_810001.out).2.2 | (with_reducible refine Kd.C_alloc ?_ _) | (with_reducible refine Kd.C_drewN ?_ _) | (with_reducible refine Kd.C_drew ?_)))
      (case side4=>exact (Kd.N_reads' HO_810001.out).2.1)
      rintro e w70 ⟨rfl,hb⟩;refine⟨_,rfl,?_⟩;replace HO_810000:=rb_ HO_810000 hb;replace HO_810001:=nb_ HO_810001 hb;replace BK809:=vb_ BK809 hb;replace BK810:=vb_ BK810 hb;replace BK819:=vb_ BK819 hb;replace HB:=sb_ HB hb
      (try clear hb)
      (try clear hb2)
      (try clear hk)
      (try clear hi)
      refine hK.out _ _ ⟨bc_,bc_,bc_,bc_,bc_,bc_⟩ (fun hHeld=>?_);clear hK K;refine no_ (h:=?_);refine pu_ HT_ 4 61 (bm 15 31) ?_;refine pu_ HT_ 5 62 (bm 15 63) ?_;refine ta6_ HT_ HW_ 6 63 (bm 15 127) hHeld ?_;refine ta6_ HT_ HW_ 7 64 (bm 15 255) hHeld ?_;refine ta6_ HT_ HW_ 9 66 (bm 15 767) hHeld ?_;refine one_ (i:=8) (N:=some 65) (bm 15 1023) rfl rfl (one_of HT_.out (by kernel_rfl)) (by decide) (fun K hK=>?_);refine goes_ Tryd.func22 (by kernel_rfl) rfl #[.agg #[.slice Ao9 t800.length co9,.slice Ao12 t803.length co12],.agg #[.int .i64 t807,.int .i64 t808]] (by rfl) rfl rfl ma_ ?_
      with_reducible refine (impl_PlateFar.calls _ _ t800 _ _ t803 t807 t808 t821 t822 _ ?side1 ?side2 ?side3 ?side4 ?side5 A61.out).mono ?_
      (case side1=>repeat (first | exact (Kd.R_reads' HO_810000.out).2.2 | (with_reducible refine Kd.C_alloc ?_ _) | (with_reducible refine Kd.C_drewN ?_ _) | (with_reducible refine Kd.C_drew ?_)))
      (case side2=>exact (Kd.R_reads' HO_810000.out).2.1)
      (case side3=>repeat (first | exact (Kd.N_reads' HO_810001.out).2.2 | (with_reducible refine Kd.C_alloc ?_ _) | (with_reducible refine Kd.C_drewN ?_ _) | (with_reducible refine Kd.C_drew ?_)))
      (case side4=>exact (Kd.N_reads' HO_810001.out).2.1)
      (case side5=>exact ErrW.below HE.out hB_)
      rintro e w71 ⟨rfl,hb⟩;refine⟨_,rfl,?_⟩;replace HO_810000:=rb_ HO_810000 hb;replace HO_810001:=nb_ HO_810001 hb;replace BK809:=vb_ BK809 hb;replace BK810:=vb_ BK810 hb;replace BK819:=vb_ BK819 hb;replace HB:=sb_ HB hb
      (try clear hb)
      (try clear hb2)
      (try clear hk)
      (try clear hi)
      refine hK.out _ _ ⟨bc_,bc_,bc_,bc_,bc_,bc_⟩ (fun hHeld=>?_);clear hK K;refine no_ (h:=?_);refine one_ (i:=10) (N:=some 67) (bm 15 2047) rfl rfl (one_of HT_.out (by kernel_rfl)) (by decide) (fun K hK=>?_);refine goes_ Tryd.func21 (by kernel_rfl) rfl #[.agg #[.int .i64 t821,.int .i64 t822],.agg #[.int .i64 t816,.int .i64 t817]] (by rfl) rfl rfl ma_ ?_
      with_reducible refine (impl_FracCmp.calls t821 t822 t816 t817 t823 _ (ErrW.below HE.out hB_) A62.out).mono ?_
      rintro e w72 ⟨rfl,hb⟩;refine⟨_,rfl,?_⟩;replace HO_810000:=rb_ HO_810000 hb;replace HO_810001:=nb_ HO_810001 hb;replace BK809:=vb_ BK809 hb;replace BK810:=vb_ BK810 hb;replace BK819:=vb_ BK819 hb;replace HB:=sb_ HB hb
      (try clear hb)
      (try clear hb2)
      (try clear hk)
      (try clear hi)
      refine hK.out _ _ ⟨bc_,bc_,bc_,bc_,bc_,bc_⟩ (fun hHeld=>?_);clear hK K;refine no_ (h:=?_);refine pu_ HT_ 11 68 (bm 15 4095) ?_;refine pu_ HT_ 12 69 (bm 15 8191) ?_;refine pu_ HT_ 13 70 (bm 15 16383) ?_;refine pu_ HT_ 14 2 (bm 15 32767) ?_;refine done_ (done_of HT_.out (by kernel_rfl)) ?_
      try go_wp2
      go_ret;exact⟨rr_,hB_⟩
     ·
      rw [if_neg c60] at H;have c60b0:(t820==1)=false:=beq_eq_false_iff_ne.mpr c60;have c60b1:(t820 != 1)=true:=bne_iff_ne.mpr c60;obtain rfl:=Option.some.inj H
      try go_wp2_with (first | ((with_reducible refine gate_callee (f:=20) rfl ?_);refine gL_ (some 54) Tryd.func20 #[.int .i64 t806,.int .i64 1] (h:=?_);(with_reducible refine (impl_FracOf.calls kj4 t806 1 t816 t817 t818 _ A58.out).mono ?_);rintro e w73 ⟨rfl,hb⟩;refine⟨_,rfl,?_⟩;replace HO_810000:=rb_ HO_810000 hb;replace HO_810001:=nb_ HO_810001 hb;replace BK809:=vb_ BK809 hb;replace BK810:=vb_ BK810 hb;replace HB:=sb_ HB hb;(try clear hb)) | ((with_reducible refine gate_dst (N:=7) rfl ?_);refine bx_ (N:=7) (cs:=#[.int .i64 0,.int .i64 0]) (t:=35) (h:=?_);intro gb819 hg w74 hbox hb;have BK819:=a0_ (hbox);have GW819:=gh_ HB hg;have GE819:=gh_ HB hg;have NB809_819:=nl_ BK809 hg;have NB819_809:=nr_ BK809 hg;have NB810_819:=nl_ BK810 hg;have NB819_810:=nr_ BK810 hg;replace HO_810000:=rb_ HO_810000 hb;replace HO_810001:=a0_ (Kd.N_below (Kd.N_elderB (uN_ HO_810001) gb819 (Nat.le_of_eq hg.symm)) hb);replace BK809:=vb_ BK809 hb;replace BK810:=vb_ BK810 hb;replace HB:=sb_ HB hb;clear hb hbox hg;have hnb75:=NB819_809.out;have hnc75:=NB809_819.out;have hnb76:=NB819_810.out;have hnc76:=NB810_819.out;have hcz77_0:=c20_ BK819;have hcz77_1:=c21_ BK819;have hfz77_0:=fz_ BK819 0;have hfz77_1:=fz_ BK819 1))
      have n0_:Aside0 (Kd.R k28 28 ((w74.setCell ⟨gb819,0,none⟩ (.int .i64 t816)).setCell ⟨gb819,1,none⟩ (.int .i64 t817)) w.heap.size (fun k_=>k_≠gb810) (.slice Ao9 t800.length co9) t800):=⟨by (with_reducible repeat (first | apply Kd.R_alloc | apply Kd.R_drewN | apply Kd.R_drew));exact Kd.R_mono (Kd.R_far (p:=⟨gb819,1,none⟩) (Kd.R_far (p:=⟨gb819,0,none⟩) (Kd.R_types HO_810000.out BK819.out (by decide)) (fun _ hk=>hk.2) (.int .i64 t816)) (fun _ hk=>hk.2) (.int .i64 t817)) (fun _ hk=>hk.1)⟩;have n1_:Aside0 (Kd.N (Kd.slice 28 k28) 23 ((w74.setCell ⟨gb819,0,none⟩ (.int .i64 t816)).setCell ⟨gb819,1,none⟩ (.int .i64 t817)) w.heap.size (fun k_=>some k_≠(.slice Ao9 t800.length co9:Value).ownBlock∧k_≠gb809∧k_≠gb810∧k_≠gb819) (.slice Ao12 t803.length co12) t803):=⟨by (with_reducible repeat (first | apply Kd.N_alloc | apply Kd.N_drewN | apply Kd.N_drew));exact Kd.N_mono (Kd.N_far (p:=⟨gb819,1,none⟩) (Kd.N_far (p:=⟨gb819,0,none⟩) (Kd.N_mono HO_810001.out (fun k_ hk=>(⟨hk,hk.2⟩:_∧k_≠gb819))) (fun _ hk=>hk.2) (.int .i64 t816)) (fun _ hk=>hk.2) (.int .i64 t817)) (fun _ hk=>⟨hk.1.1.1,⟨hk.1.1.2.1,⟨hk.1.1.2.2,hk.1.2⟩⟩⟩)⟩;have n2_:Aside0 (((w74.setCell ⟨gb819,0,none⟩ (.int .i64 t816)).setCell ⟨gb819,1,none⟩ (.int .i64 t817)).heap[gb809]?=some (.cells #[.slice Ao9 t800.length co9,.slice Ao12 t803.length co12] 26 (0,0))):=⟨by (with_reducible repeat (first | refine blk_drewN ?_ _ | refine blk_drew ?_ | refine blk_alloc ?_ _));refine blk_far ?_ NB809_819.out _;(with_reducible repeat (first | refine blk_drewN ?_ _ | refine blk_drew ?_ | refine blk_alloc ?_ _));refine blk_far ?_ NB809_819.out _;(with_reducible repeat (first | refine blk_drewN ?_ _ | refine blk_drew ?_ | refine blk_alloc ?_ _));exact BK809.out⟩
      have n3_:Aside0 (((w74.setCell ⟨gb819,0,none⟩ (.int .i64 t816)).setCell ⟨gb819,1,none⟩ (.int .i64 t817)).heap[gb810]?=some (.cells #[.int .i64 t807,.int .i64 t808] 28 (0,0))):=⟨by (with_reducible repeat (first | refine blk_drewN ?_ _ | refine blk_drew ?_ | refine blk_alloc ?_ _));refine blk_far ?_ NB810_819.out _;(with_reducible repeat (first | refine blk_drewN ?_ _ | refine blk_drew ?_ | refine blk_alloc ?_ _));refine blk_far ?_ NB810_819.out _;(with_reducible repeat (first | refine blk_drewN ?_ _ | refine blk_drew ?_ | refine blk_alloc ?_ _));exact BK810.out⟩;have n4_:Aside0 (((w74.setCell ⟨gb819,0,none⟩ (.int .i64 t816)).setCell ⟨gb819,1,none⟩ (.int .i64 t817)).heap[gb819]?=some (.cells #[.int .i64 t816,.int .i64 t817] 35 (0,0))):=⟨by (with_reducible repeat (first | refine blk_drewN ?_ _ | refine blk_drew ?_ | refine blk_alloc ?_ _));refine blk_put (cs:=#[.int .i64 t816,.int .i64 0]) ?_ 1 _ rfl;(with_reducible repeat (first | refine blk_drewN ?_ _ | refine blk_drew ?_ | refine blk_alloc ?_ _));refine blk_put (cs:=#[.int .i64 0,.int .i64 0]) ?_ 0 _ rfl;(with_reducible repeat (first | refine blk_drewN ?_ _ | refine blk_drew ?_ | refine blk_alloc ?_ _));exact BK819.out⟩;have n5_:Aside0 (Below w.heap.size w ((w74.setCell ⟨gb819,0,none⟩ (.int .i64 t816)).setCell ⟨gb819,1,none⟩ (.int .i64 t817))):=⟨hB_⟩
      (try clear HO_810000)
      (try clear HO_810001)
      (try clear BK809)
      (try clear BK810)
      (try clear BK819)
      (try clear HB)
      generalize ((w74.setCell ⟨gb819,0,none⟩ (.int .i64 t816)).setCell ⟨gb819,1,none⟩ (.int .i64 t817))=w78 at n0_ n1_ n2_ n3_ n4_ n5_ ⊢
      have HO_810000:=n0_;have HO_810001:=n1_;have BK809:=n2_;have BK810:=n3_;have BK819:=n4_;have HB:=n5_;clear n0_ n1_ n2_ n3_ n4_ n5_;replace HO_810000:=a0_ (Kd.R_drew HO_810000.out);replace HO_810001:=a0_ (Kd.N_drew HO_810001.out);replace BK809:=a0_ (blk_drew BK809.out);replace BK810:=a0_ (blk_drew BK810.out);replace BK819:=a0_ (blk_drew BK819.out);replace HB:=a0_ (below_drew1 HB.out);refine start_ (n:=15) (S:=fun w'=>w'.cell? ⟨gb809,0,none⟩=some (.slice Ao9 t800.length co9)∧w'.cell? ⟨gb809,1,none⟩=some (.slice Ao12 t803.length co12)∧w'.cell? ⟨gb810,0,none⟩=some (.int .i64 t807)∧w'.cell? ⟨gb810,1,none⟩=some (.int .i64 t808)) (ds:=[]) (Array.replicate 15 false) (by kernel_rfl) rfl rfl ⟨bc_,bc_,bc_,bc_⟩ (fun hHeld=>?_);refine with_tabW laws_FnFits.tab8 laws_FnFits.bits8 (fun HT_ HW_=>?_);generalize w78.drew=w79 at HO_810000 HO_810001 BK809 BK810 BK819 HB hHeld ⊢
      refine pu_ HT_ 0 57 (bm 15 1) ?_;refine ta4_ HT_ HW_ 1 58 (bm 15 3) hHeld ?_;refine ta4_ HT_ HW_ 2 59 (bm 15 7) hHeld ?_;refine one_ (i:=3) (N:=some 60) (bm 15 15) rfl rfl (one_of HT_.out (by kernel_rfl)) (by decide) (fun K hK=>?_);refine goes_ Tryd.func16 (by kernel_rfl) rfl #[.agg #[.slice Ao9 t800.length co9,.slice Ao12 t803.length co12],.agg #[.int .i64 t807,.int .i64 t808]] (by rfl) rfl rfl ma_ ?_
      with_reducible refine (impl_PlateIn.calls _ _ t800 _ _ t803 t807 t808 t820 _ ?side1 ?side2 ?side3 ?side4 A59.out).mono ?_
      (case side1=>repeat (first | exact (Kd.R_reads' HO_810000.out).2.2 | (with_reducible refine Kd.C_alloc ?_ _) | (with_reducible refine Kd.C_drewN ?_ _) | (with_reducible refine Kd.C_drew ?_)))
      (case side2=>exact (Kd.R_reads' HO_810000.out).2.1)
      (case side3=>repeat (first | exact (Kd.N_reads' HO_810001.out).2.2 | (with_reducible refine Kd.C_alloc ?_ _) | (with_reducible refine Kd.C_drewN ?_ _) | (with_reducible refine Kd.C_drew ?_)))
      (case side4=>exact (Kd.N_reads' HO_810001.out).2.1)
      rintro e w80 ⟨rfl,hb⟩;refine⟨_,rfl,?_⟩;replace HO_810000:=rb_ HO_810000 hb;replace HO_810001:=nb_ HO_810001 hb;replace BK809:=vb_ BK809 hb;replace BK810:=vb_ BK810 hb;replace BK819:=vb_ BK819 hb;replace HB:=sb_ HB hb
      (try clear hb)
      (try clear hb2)
      (try clear hk)
      (try clear hi)
      refine hK.out _ _ ⟨bc_,bc_,bc_,bc_⟩ (fun hHeld=>?_);clear hK K;refine no_ (h:=?_);refine pu_ HT_ 4 61 (bm 15 31) ?_;refine pu_ HT_ 5 62 (bm 15 63) ?_;refine pz_ HT_ 6 63 (bm 15 127) ?_;refine pz_ HT_ 7 64 (bm 15 255) ?_;refine pz_ HT_ 8 65 (bm 15 511) ?_;refine pz_ HT_ 9 66 (bm 15 1023) ?_;refine pz_ HT_ 10 67 (bm 15 2047) ?_;refine pz_ HT_ 11 68 (bm 15 4095) ?_;refine pu_ HT_ 12 69 (bm 15 8191) ?_;refine pu_ HT_ 13 70 (bm 15 16383) ?_;refine pu_ HT_ 14 2 (bm 15 32767) ?_;refine done_ (done_of HT_.out (by kernel_rfl)) ?_
      try go_wp2
      go_ret;exact⟨rr_,hB_⟩
def laws_FnFits.Pure:Prop:=∀ (l0:List Int),l0.length≤maxLen→l0.length*1≤140737488351232→(∀ x∈l0,(Lit.int .u8 x).wf=true)→∃ k,laws_FnFits.f k l0=some true
theorem laws_FnFits.walk (P:laws_FnFits.Pure)(a0:Option Addr)(len0 cap0:Nat)(z0:List Int)(w:World)(hE:ErrW w)(w0:(a0=none∧len0=0∧cap0=0∧z0=[])∨∃ x,a0=some x∧len0≤cap0∧cap0≤maxLen∧z0.length=cap0∧(∀ i,i<z0.length→w.cell? (x.add i)=some (.int .u8 (z0.getD i 0)))∧∀ n∈z0,(Lit.int .u8 n).wf=true)(y0:len0*1≤140737488351232):
  Calls Tryd.prog 9 #[.slice a0 len0 cap0] w fun e w'=>e=.returned (.bool true)∧Below w.heap.size w w':=by
 obtain⟨l0,rfl,hr0,hm0,hw0,hc0⟩:=ReadsInt.ofRowC w0;obtain⟨k,h⟩:=P l0 hm0 y0 hw0;refine (laws_FnFits.calls k _ _ l0 true w (Kd.C_of_reads (d:=(0:Int)) (h1:=fun _=>rfl) hr0) hc0 hE h).mono ?_;rintro e w' ⟨rfl,hd⟩;exact⟨rfl,hd⟩
end Go.Proofs.YtkefmnmoaomlhaaDoor.X
end
section
set_option linter.unusedVariables false
set_option linter.unusedSimpArgs false
namespace Go.Proofs.YtkefmnmoaomlhaaDoor.X
open Go.RowKit Go.Proofs.YtkefmnmoaomlhaaDoorW.PrintWords Go.Proofs.YtkefmnmoaomlhaaDoorW.PrintLast Go.Proofs.YtkefmnmoaomlhaaDoorW.PrintMore
open Mort (edges loopOk ptOk segOk has meet ed pairOk joined apartB)
theorem rd_es (z:List S28){i:Nat}(h:i<z.length):rd_T61 (esOf z) (i:Int)=edS z i:=esOf_getD z h
theorem seg_ends {s:S61}(h:segOk (sgP s)=true):ptOk (s.f0.f0,s.f0.f1)=true∧ptOk (s.f1.f0,s.f1.f1)=true:=⟨((Mort.segOk_iff _).1 h).1,((Mort.segOk_iff _).1 h).2.1⟩
theorem sHasS {s:S61}{x y:Int}(h:segOk (sgP s)=true)(hp:ptOk (x,y)=true):spec_l2Has.f s.f0.f0 s.f0.f1 s.f1.f0 s.f1.f1 x y=some (has (sgP s) (x,y)):=sHas (seg_ends h).1 (seg_ends h).2 hp
theorem sMeetS {s t:S61}(h:segOk (sgP s)=true)(h':segOk (sgP t)=true):spec_l2Meet.f s.f0.f0 s.f0.f1 s.f1.f0 s.f1.f1 t.f0.f0 t.f0.f1 t.f1.f0 t.f1.f1=some (meet (sgP s) (sgP t)):=sMeet (seg_ends h).1 (seg_ends h).2 (seg_ends h').1 (seg_ends h').2
theorem succ64 {i:Nat}(h:i≤100000):wrap64 ((i:Int)+1)=((i+1:Nat):Int):=by rw [w64i (by omega) (by omega)];rfl
def rowJ (l:List Mort.Pt)(i j:Nat):Bool:=decide ((j+1) % l.length=i) || !meet (ed l i) (ed l j)
def rowI (l:List Mort.Pt)(i:Nat):Bool:=joined (ed l i) (ed l ((i+1) % l.length)) && (List.range' (i+2) (l.length-(i+2))).all (rowJ l i)
section
variable (z:List S28) (h8:z.length≤8) (hall:∀ i,i<z.length→segOk (sgP (edS z i))=true)
include h8 hall
theorem loop_l2 (i:Nat)(hi:i<z.length)(R:Bool)(K:Nat)(hR:∀ k,K≤k→spec_LoopOk.l1 k (z.length:Int) (esOf z) ((i+1:Nat):Int)=some R):
  ∀ (m j k:Nat),z.length-j=m→j≤10→K+m+1≤k→spec_LoopOk.l2 k (z.length:Int) (esOf z) (i:Int) (j:Int)=some ((List.range' j m).all (rowJ (z.map ptP) i) && R):=by
 intro m
 induction m with
 | zero =>
  intro j k hm hj hk;obtain⟨k,rfl⟩:∃ q,k=q+1:=⟨k-1,by omega⟩;simp only [spec_LoopOk.l2];rw [if_neg (by omega),succ64 (by omega),hR k (by omega)];simp
 | succ m ih =>
  intro j k hm hj hk;obtain⟨k,rfl⟩:∃ q,k=q+1:=⟨k-1,by omega⟩;simp only [spec_LoopOk.l2];rw [if_pos (by omega),if_neg (by omega),succ64 (by omega)];have ht:Int.tmod ((j+1:Nat):Int) (z.length:Int)=(((j+1) % z.length:Nat):Int):=rfl;rw [ht,List.range'_succ,List.all_cons];by_cases hq:(j+1) % z.length=i
  ·
   rw [if_pos (by omega),ih (j+1) k (by omega) (by omega) (by omega)];have:rowJ (z.map ptP) i j=true:=by unfold rowJ;rw [List.length_map,decide_eq_true hq];rfl
   rw [this,Bool.true_and]
  ·
   rw [if_neg (by omega),if_pos (by omega),if_pos (by rw [esOf_len];omega),if_pos (by omega),if_pos (by rw [esOf_len];omega)];rw [rd_es z hi,rd_es z (by omega),sMeetS (hall i hi) (hall j (by omega)),Option.bind_some];have hrow:rowJ (z.map ptP) i j = !meet (sgP (edS z i)) (sgP (edS z j)):=by unfold rowJ;rw [List.length_map,decide_eq_false hq,ed_edS,ed_edS];rfl
   rw [hrow]
   cases hm2:meet (sgP (edS z i)) (sgP (edS z j)) with
   | true=>rw [if_pos rfl];simp
   | false=>rw [if_neg (by decide),ih (j+1) k (by omega) (by omega) (by omega)];simp
theorem loop_l1:∀ (m i k:Nat),z.length-i=m→i≤z.length→m*20+1≤k→spec_LoopOk.l1 k (z.length:Int) (esOf z) (i:Int)=some ((List.range' i m).all (rowI (z.map ptP))):=by
 intro m
 induction m with
 | zero =>
  intro i k hm hi hk;obtain⟨k,rfl⟩:∃ q,k=q+1:=⟨k-1,by omega⟩;simp only [spec_LoopOk.l1];rw [if_neg (by omega)];simp
 | succ m ih =>
  intro i k hm hi hk;obtain⟨k,rfl⟩:∃ q,k=q+2:=⟨k-2,by omega⟩;simp only [spec_LoopOk.l1];have hlt:=Nat.mod_lt (i+1) (show 0<z.length by omega);have ht:Int.tmod ((i+1:Nat):Int) (z.length:Int)=(((i+1) % z.length:Nat):Int):=rfl;rw [if_pos (by omega),if_pos (by omega),if_pos (by rw [esOf_len];omega),if_neg (by omega),succ64 (by omega),ht,if_pos (by omega),if_pos (by rw [esOf_len];omega)];rw [rd_es z (by omega:i<z.length),rd_es z hlt];generalize hq:(i+1) % z.length=q at hlt;have o1:=hall i (by omega);have o2:=hall q hlt;rw [sHasS o1 (seg_ends o2).2,Option.bind_some,sHasS o2 (seg_ends o1).1,Option.bind_some];have hrow:rowI (z.map ptP) i=((!has (sgP (edS z i)) (sgP (edS z q)).2 && !has (sgP (edS z q)) (sgP (edS z i)).1) && (List.range' (i+2) (z.length-(i+2))).all (rowJ (z.map ptP) i)):=by
   unfold rowI joined;rw [List.length_map,hq,ed_edS,ed_edS]
  have e2:(ptP (edS z q).f1)=((edS z q).f1.f0,(edS z q).f1.f1):=rfl;rw [List.range'_succ,List.all_cons,hrow]
  show (if has (sgP (edS z i)) (sgP (edS z q)).2=true then _ else spec_LoopOk.j2 (k+1) _ _ _ (has (sgP (edS z q)) (sgP (edS z i)).1))=_
  cases has (sgP (edS z i)) (sgP (edS z q)).2 with
  | true=>rw [if_pos rfl];simp only [spec_LoopOk.j2];simp
  | false =>
   rw [if_neg (by decide)];simp only [spec_LoopOk.j2]
   cases has (sgP (edS z q)) (sgP (edS z i)).1 with
   | true=>rw [if_pos rfl];simp
   | false =>
    rw [if_neg (by decide)];have hw:wrap64 ((i:Int)+2)=((i+2:Nat):Int):=by rw [w64i (by omega) (by omega)];rfl
    rw [hw,loop_l2 z h8 hall i (by omega) _ (m*20+1) (fun k hk=>ih (i+1) k (by omega) (by omega) hk) (z.length-(i+2)) (i+2) k rfl (by omega) (by omega)];simp
end
theorem loop_l0 (z:List S28)(h8:z.length≤8):∀ (m i k:Nat),z.length-i=m→i≤z.length→m+200≤k→(∀ j,j<i→segOk (sgP (edS z j))=true) →
  spec_LoopOk.l0 k (z.length:Int) (esOf z) (i:Int)=some ((List.range' i m).all (fun j=>segOk (sgP (edS z j))) && (List.range' 0 z.length).all (rowI (z.map ptP))):=by
 intro m
 induction m with
 | zero =>
  intro i k hm hi hk hp;obtain⟨k,rfl⟩:∃ q,k=q+1:=⟨k-1,by omega⟩;simp only [spec_LoopOk.l0];rw [if_neg (by omega),show (0:Int)=((0:Nat):Int) from rfl,loop_l1 z h8 (fun j hj=>hp j (by omega)) z.length 0 k (by omega) (by omega) (by omega)];simp
 | succ m ih =>
  intro i k hm hi hk hp;obtain⟨k,rfl⟩:∃ q,k=q+1:=⟨k-1,by omega⟩;simp only [spec_LoopOk.l0];rw [if_pos (by omega),if_pos (by omega),if_pos (by rw [esOf_len];omega),rd_es z (by omega:i<z.length),sSegOk,Option.bind_some,List.range'_succ,List.all_cons]
  show (if segOk (sgP (edS z i))=true then _ else _)=_
  cases ho:segOk (sgP (edS z i)) with
  | true =>
   rw [if_pos rfl,succ64 (by omega),ih (i+1) k (by omega) (by omega) (by omega) (fun j hj=>by
    by_cases hji:j=i
    ·
     rw [hji];exact ho
    ·
     exact hp j (by omega))]
   simp
  | false=>rw [if_neg (by decide)];simp
theorem rows_pairs (l:List Mort.Pt)(h3:3≤l.length):(List.range' 0 l.length).all (rowI l)=(List.range l.length).all fun i=>(List.range l.length).all fun j=>pairOk l i j:=by
 rw [Bool.eq_iff_iff];simp only [List.all_eq_true,List.mem_range'_1,List.mem_range];constructor
 ·
  intro h i hi j hj;have row:∀ i,i<l.length→joined (ed l i) (ed l ((i+1) % l.length))=true∧∀ j,i+2≤j→j<l.length→rowJ l i j=true:=fun i hi=>by
   have:=h i ⟨by omega,by omega⟩;unfold rowI at this;simp only [Bool.and_eq_true,List.all_eq_true,List.mem_range'_1] at this;exact⟨this.1,fun j h1 h2=>this.2 j ⟨h1,by omega⟩⟩
  unfold pairOk;by_cases h1:j≤i
  ·
   rw [if_pos h1]
  ·
   rw [if_neg h1];by_cases h2:j=i+1
   ·
    rw [if_pos h2];have:=(row i hi).1
    rwa [Nat.mod_eq_of_lt (by omega),← h2] at this
   ·
    rw [if_neg h2];by_cases h4:i=0∧j+1=l.length
    ·
     rw [if_pos h4];have:=(row j hj).1
     rwa [h4.2,Nat.mod_self,← h4.1] at this
    ·
     rw [if_neg h4];have:=(row i hi).2 j (by omega) hj;unfold rowJ at this;have hne:(j+1) % l.length≠i:=by
      intro e;by_cases hj2:j+1<l.length
      ·
       rw [Nat.mod_eq_of_lt hj2] at e;omega
      ·
       have e2:j+1=l.length:=by omega
       rw [e2,Nat.mod_self] at e;exact h4 ⟨e.symm,e2⟩
     rwa [decide_eq_false hne,Bool.false_or] at this
 ·
  intro h i hi;have hi2:i<l.length:=by omega
  unfold rowI;simp only [Bool.and_eq_true,List.all_eq_true,List.mem_range'_1];refine⟨?_,fun j hj=>?_⟩
  ·
   by_cases h1:i+1<l.length
   ·
    have:=h i hi2 (i+1) h1;unfold pairOk at this;rw [if_neg (by omega),if_pos rfl] at this
    rwa [Nat.mod_eq_of_lt h1]
   ·
    have e2:i+1=l.length:=by omega
    have:=h 0 (by omega) i hi2;unfold pairOk at this;rw [if_neg (by omega),if_neg (by omega),if_pos ⟨rfl,e2⟩] at this
    rwa [e2,Nat.mod_self]
  ·
   unfold rowJ;by_cases hq:(j+1) % l.length=i
   ·
    rw [decide_eq_true hq];rfl
   ·
    rw [decide_eq_false hq,Bool.false_or];have:=h i hi2 j (by omega);unfold pairOk at this;rw [if_neg (by omega),if_neg (by omega),if_neg (fun e=>hq (by rw [e.2,Nat.mod_self];exact e.1.symm))] at this;exact this
theorem sLoopOk {k:Nat}(hk:300≤k)(z:List S28):spec_LoopOk.f k z=some (loopOk (z.map ptP)):=by
 unfold spec_LoopOk.f loopOk;rw [l6In_told,Option.bind_some,List.length_map];have e0:(decide (3≤(z.length:Int)) && decide ((z.length:Int)≤8))=(decide (3≤z.length) && decide (z.length≤8)):=by
  congr 1
  ·
   rw [decide_eq_decide];omega
  ·
   rw [decide_eq_decide];omega
 rw [e0];by_cases hn:3≤z.length∧z.length≤8
 ·
  rw [decide_eq_true hn.1,decide_eq_true hn.2,Bool.and_self,if_pos rfl,sEdges (by omega) (by omega),Option.bind_some,Bool.true_and,show (0:Int)=((0:Nat):Int) from rfl,loop_l0 z hn.2 z.length 0 k (by omega) (by omega) (by omega) (fun j hj=>by omega)];have h3:=rows_pairs (z.map ptP) (by rw [List.length_map];exact hn.1);rw [List.length_map] at h3;rw [h3,Mort.edges_eq,List.length_map,List.all_map,List.range_eq_range']
  congr 3
  funext i
  show _=segOk (ed (z.map ptP) i)
  rw [ed_edS]
 ·
  have:(decide (3≤z.length) && decide (z.length≤8))=false:=by
   by_cases h1:3≤z.length
   ·
    rw [decide_eq_false (show ¬ z.length≤8 from fun h2=>hn ⟨h1,h2⟩),Bool.and_false]
   ·
    rw [decide_eq_false h1,Bool.false_and]
  rw [this,if_neg (by decide),Bool.false_and]
theorem ok_facts {z:List S28}(h:loopOk (z.map ptP)=true):3≤z.length∧z.length≤8∧∀ i,i<z.length→segOk (sgP (edS z i))=true:=by
 obtain⟨h1,h2,h3,_⟩:=(Mort.loopOk_iff _).1 h;rw [List.length_map] at h1 h2;refine⟨h1,h2,fun i hi=>?_⟩;have:=h3 _ (Mort.mem_edges.2 ⟨i,by simpa using hi,rfl⟩)
 rwa [ed_edS] at this
theorem apart_l1 (a b:List S28)(ha:loopOk (a.map ptP)=true)(hb:loopOk (b.map ptP)=true)(i:Nat)(hi:i<a.length)(R:Bool)(K:Nat)(hR:∀ k,K≤k→spec_l11Apart.l0 k (esOf a) (esOf b) ((i+1:Nat):Int)=some R):
  ∀ (m j k:Nat),b.length-j=m→j≤b.length→K+m+1≤k→spec_l11Apart.l1 k (esOf a) (esOf b) (i:Int) (j:Int)=some ((List.range' j m).all (fun j => !meet (sgP (edS a i)) (sgP (edS b j))) && R):=by
 obtain⟨a3,a8,aok⟩:=ok_facts ha;obtain⟨b3,b8,bok⟩:=ok_facts hb;intro m
 induction m with
 | zero =>
  intro j k hm hj hk;obtain⟨k,rfl⟩:∃ q,k=q+1:=⟨k-1,by omega⟩;simp only [spec_l11Apart.l1];rw [if_neg (by rw [esOf_len];omega),succ64 (by omega),hR k (by omega)];simp
 | succ m ih =>
  intro j k hm hj hk;obtain⟨k,rfl⟩:∃ q,k=q+1:=⟨k-1,by omega⟩;simp only [spec_l11Apart.l1];rw [if_pos (by rw [esOf_len];omega),if_pos (by omega),if_pos (by rw [esOf_len];omega),if_pos (by omega),rd_es a hi,rd_es b (by omega),sMeetS (aok i hi) (bok j (by omega)),Option.bind_some,List.range'_succ,List.all_cons]
  cases meet (sgP (edS a i)) (sgP (edS b j)) with
  | true=>rw [if_pos rfl];simp
  | false=>rw [if_neg (by decide),succ64 (by omega),ih (j+1) k (by omega) (by omega) (by omega)];simp
theorem apart_l0 (a b:List S28)(ha:loopOk (a.map ptP)=true)(hb:loopOk (b.map ptP)=true):
  ∀ (m i k:Nat),a.length-i=m→i≤a.length→m*20+1≤k→spec_l11Apart.l0 k (esOf a) (esOf b) (i:Int)=some ((List.range' i m).all (fun i=>(List.range' 0 b.length).all (fun j => !meet (sgP (edS a i)) (sgP (edS b j))))):=by
 obtain⟨a3,a8,aok⟩:=ok_facts ha;obtain⟨b3,b8,bok⟩:=ok_facts hb;intro m
 induction m with
 | zero =>
  intro i k hm hi hk;obtain⟨k,rfl⟩:∃ q,k=q+1:=⟨k-1,by omega⟩;simp only [spec_l11Apart.l0];rw [if_neg (by rw [esOf_len];omega)];simp
 | succ m ih =>
  intro i k hm hi hk;obtain⟨k,rfl⟩:∃ q,k=q+1:=⟨k-1,by omega⟩;simp only [spec_l11Apart.l0]
  rw [if_pos (by rw [esOf_len];omega),List.range'_succ,List.all_cons,show (0:Int)=((0:Nat):Int) from rfl,
   apart_l1 a b ha hb i (by omega) _ (m*20+1) (fun k hk=>ih (i+1) k (by omega) (by omega) hk) b.length 0 k (by omega) (by omega) (by omega)]
theorem sApart {k:Nat}(hk:300≤k){a b:List S28}(ha:loopOk (a.map ptP)=true)(hb:loopOk (b.map ptP)=true):spec_l11Apart.f k a b=some (apartB (a.map ptP) (b.map ptP)):=by
 obtain⟨a3,a8,aok⟩:=ok_facts ha;obtain⟨b3,b8,bok⟩:=ok_facts hb;unfold spec_l11Apart.f apartB;rw [sEdges (by omega) (by omega),sEdges (by omega) (by omega),Option.bind_some,Option.bind_some,show (0:Int)=((0:Nat):Int) from rfl,apart_l0 a b ha hb a.length 0 k (by omega) (by omega) (by omega)];rw [Mort.edges_eq (a.map ptP),Mort.edges_eq (b.map ptP),List.length_map,List.length_map,List.all_map,List.range_eq_range']
 congr 2
 funext i
 show _=((List.range b.length).map (ed (b.map ptP))).all _
 rw [List.all_map,List.range_eq_range']
 congr 1
 funext j
 show _ = !meet (ed (a.map ptP) i) (ed (b.map ptP) j)
 rw [ed_edS,ed_edS]
end Go.Proofs.YtkefmnmoaomlhaaDoor.X
end
section
set_option linter.unusedVariables false
set_option linter.unusedSimpArgs false
namespace Mort
theorem par_below {l:List Pt}{x y:Rat}(h:par l x y=true):∃ v∈l,y<(v.2:Rat):=by
 have h1:∃ e∈edges l,crsQ e.1.1 e.1.2 e.2.1 e.2.2 x y=true:=by
  refine Classical.byContradiction fun hn=>?_
  have:par l x y=xorAll ((edges l).map fun _=>false):=xorAll_congr fun e he=>by
   cases hc:crsQ e.1.1 e.1.2 e.2.1 e.2.2 x y with
   | true=>exact absurd ⟨e,he,hc⟩ hn
   | false=>rfl
  rw [this] at h;have:∀ (m:List Seg),xorAll (m.map fun _=>false)=false:=fun m=>by
   induction m with
   | nil=>rfl
   | cons a m ih=>rw [List.map_cons];unfold xorAll;rw [ih];rfl
  rw [this] at h;cases h
 obtain⟨e,he,hc⟩:=h1;obtain⟨i,hi,rfl⟩:=mem_edges.1 he;have m1:(ed l i).1∈l:=by
  unfold ed;simp only;rw [List.getD_eq_getElem?_getD,List.getElem?_eq_getElem hi];exact List.getElem_mem hi
 have hq:=Nat.mod_lt (i+1) (show 0<l.length by omega);have m2:(ed l i).2∈l:=by
  unfold ed;simp only;rw [List.getD_eq_getElem?_getD,List.getElem?_eq_getElem hq];exact List.getElem_mem hq
 unfold crsQ at hc;simp only [Bool.or_eq_true,Bool.and_eq_true,decide_eq_true_eq] at hc
 rcases hc with hc | hc
 ·
  exact⟨_,m2,hc.2.1⟩
 ·
  exact⟨_,m1,hc.2.1⟩
theorem inOf_below {l:List Pt}{p:Pt}(h:inOf l p=1):∃ v∈l,p.2<v.2:=by
 have hp:par l p.1 p.2=true:=by
  unfold inOf at h
  split at h
  ·
   omega
  ·
   split at h
   ·
    assumption
   ·
    omega
 obtain⟨v,hv,hlt⟩:=par_below hp;exact⟨v,hv,by exact_mod_cast hlt⟩
theorem vertex_on {l:List Pt}{v:Pt}(h:v∈l):onB l v=true:=by
 obtain⟨i,hi,rfl⟩:=List.getElem_of_mem h;refine (onB_iff l _).2 ⟨ed l i,mem_edges.2 ⟨i,hi,rfl⟩,?_⟩;have:(ed l i).1=l[i]:=by unfold ed;simp only;rw [List.getD_eq_getElem?_getD,List.getElem?_eq_getElem hi];rfl
 rw [← this];exact (has_ends _).1
theorem has_max {l:List Pt}(h:0<l.length):∃ v∈l,∀ u∈l,u.2≤v.2:=by
 induction l with
 | nil=>simp at h
 | cons a m ih =>
  by_cases hm:0<m.length
  ·
   obtain⟨v,hv,hx⟩:=ih hm;by_cases hc:v.2≤a.2
   ·
    refine⟨a,List.mem_cons_self,fun u hu=>?_⟩
    rcases List.mem_cons.1 hu with rfl | hu
    ·
     omega
    ·
     have:=hx u hu;omega
   ·
    refine⟨v,List.mem_cons_of_mem _ hv,fun u hu=>?_⟩
    rcases List.mem_cons.1 hu with rfl | hu
    ·
     omega
    ·
     exact hx u hu
  ·
   obtain rfl:m=[]:=List.eq_nil_of_length_eq_zero (by omega);exact⟨a,List.mem_cons_self,fun u hu=>by rw [List.mem_singleton] at hu;rw [hu];omega⟩
theorem PlateGood.on_outer {P:Plate}(g:PlateGood P){h:List Pt}(hh:h∈P.2){p:Pt}(hp:onB P.1 p=true):inOf h p = -1:=by
 have hl:=g.holes h hh;have same:∀ q,onB P.1 q=true→inOf h q=inOf h (P.1.getD 0 (0,0)):=fun q hq=>on_inOf (ndl_of_ok hl) (ndl_of_ok g.outer) (by rw [apartB_comm];exact g.away h hh) (loop_pos g.outer) hq
 rw [same p hp]
 rcases inOf_vals h (P.1.getD 0 (0,0)) with e | e | e
 ·
  exfalso
  have h1:=(inOf_zero h _).1 e;have h2:=g.on_hole hh h1;have h3:=(inOf_zero P.1 (P.1.getD 0 (0,0))).2 (first_on (loop_pos g.outer));omega
 ·
  exfalso
  obtain⟨v,hv,hmax⟩:=has_max (loop_pos g.outer);have h1:inOf h v=1:=(same v (vertex_on hv)).trans e;obtain⟨u,hu,hlt⟩:=inOf_below h1;have h2:=g.on_hole hh (vertex_on hu);obtain⟨t,ht,hlt2⟩:=inOf_below h2;have:=hmax t ht;omega
 ·
  exact e
theorem plateInOf_spec {P:Plate}(g:PlateGood P)(p:Pt):
  (inOf P.1 p=0→plateInOf P p=0∧∀ h∈P.2,inOf h p = -1)∧((∃ h∈P.2,inOf h p=0)→plateInOf P p=0∧inOf P.1 p=1) ∧
  (inOf P.1 p≠0→(∀ h∈P.2,inOf h p≠0)→plateInOf P p=if inOf P.1 p=1∧∀ h∈P.2,inOf h p = -1 then 1 else -1):=by
 refine⟨fun h0=>?_,fun⟨h,hh,h0⟩=>?_,fun h0 h1=>?_⟩
 ·
  have hon:=(inOf_zero _ _).1 h0;refine⟨?_,fun h hh=>g.on_outer hh hon⟩;unfold plateInOf plateOn;rw [hon,Bool.true_or,if_pos rfl]
 ·
  have hon:=(inOf_zero _ _).1 h0;refine⟨?_,g.on_hole hh hon⟩;have:plateOn P p=true:=by unfold plateOn;rw [Bool.or_eq_true,List.any_eq_true];exact .inr ⟨h,hh,hon⟩
  unfold plateInOf;rw [this,if_pos rfl]
 ·
  have:plateOn P p=false:=by
   unfold plateOn;rw [Bool.or_eq_false_iff];refine⟨?_,?_⟩
   ·
    cases hc:onB P.1 p with
    | true=>exact absurd ((inOf_zero _ _).2 hc) h0
    | false=>rfl
   ·
    rw [List.any_eq_false];intro h hh hc;exact h1 h hh ((inOf_zero _ _).2 hc)
  unfold plateInOf;rw [this,if_neg (by decide)];unfold plateInB;by_cases hq:inOf P.1 p=1∧∀ h∈P.2,inOf h p = -1
  ·
   rw [if_pos hq,if_pos];rw [Bool.and_eq_true,List.all_eq_true];exact⟨beq_iff_eq.2 hq.1,fun h hh=>beq_iff_eq.2 (hq.2 h hh)⟩
  ·
   rw [if_neg hq,if_neg];rw [Bool.and_eq_true,List.all_eq_true];exact fun e=>hq ⟨beq_iff_eq.1 e.1,fun h hh=>beq_iff_eq.1 (e.2 h hh)⟩
end Mort
namespace Go.Proofs.YtkefmnmoaomlhaaDoor.X
open Go.RowKit Go.Proofs.YtkefmnmoaomlhaaDoorW.PrintWords Go.Proofs.YtkefmnmoaomlhaaDoorW.PrintLast Go.Proofs.YtkefmnmoaomlhaaDoorW.PrintMore
open Mort (edges loopOk ptOk segOk has meet ed pairOk joined apartB plateOk plateInOf plateIn PlateGood inOf segMeet)
def pl (o:List S28)(H:List (List S28)):Mort.Plate:=(o.map ptP,H.map (List.map ptP))
theorem fst_pt (z:List S28):(z.map ptP).getD 0 (0,0)=fstP z:=ptP_getD z 0
theorem apart_ix (a b:List S28):apartB (a.map ptP) (b.map ptP)=true ↔ ∀ i,i<a.length→∀ j,j<b.length→meet (sgP (edS a i)) (sgP (edS b j))=false:=by
 rw [Mort.apartB_iff];constructor
 ·
  intro h i hi j hj;rw [← ed_edS,← ed_edS];exact h _ (Mort.mem_edges.2 ⟨i,by simpa using hi,rfl⟩) _ (Mort.mem_edges.2 ⟨j,by simpa using hj,rfl⟩)
 ·
  intro h e he f hf;obtain⟨i,hi,rfl⟩:=Mort.mem_edges.1 he;obtain⟨j,hj,rfl⟩:=Mort.mem_edges.1 hf;rw [ed_edS,ed_edS];exact h i (by simpa using hi) j (by simpa using hj)
theorem meetsB_eq {a b:List S28}(ha:loopOk (a.map ptP)=true)(hb:loopOk (b.map ptP)=true):(!meetsB a b)=apartB (a.map ptP) (b.map ptP):=by
 obtain⟨_,_,aok⟩:=ok_facts ha;obtain⟨_,_,bok⟩:=ok_facts hb;rw [Bool.eq_iff_iff,apart_ix];unfold meetsB;rw [Bool.not_eq_true',List.any_eq_false];constructor
 ·
  intro h i hi j hj;have h1:=h ⟨i,hi⟩ (List.mem_finRange _);rw [Bool.not_eq_true,List.any_eq_false] at h1;have h2:=h1 ⟨j,hj⟩ (List.mem_finRange _)
  cases hm:meet (sgP (edS a i)) (sgP (edS b j)) with
  | false=>rfl
  | true=>exact absurd ((Mort.segMeet_iff _ _).2 ⟨aok i hi,bok j hj,hm⟩) h2
 ·
  intro h i _ h1;rw [List.any_eq_true] at h1;obtain⟨j,_,h2⟩:=h1;have:=h i i.2 j j.2;rw [((Mort.segMeet_iff _ _).1 h2).2.2] at this;cases this
theorem iBodyOk (o:List S28)(H:List (List S28)):bodyOkB o H=plateOk (pl o H):=by
 unfold bodyOkB plateOk pl Mort.nested;simp only [List.length_map]
 match H with
 | [] =>
  simp only [List.length_nil,List.all_nil,List.map_nil,apartAll,nestedAll,List.range'_zero,Bool.and_true,Bool.true_and]
 | [a] =>
  simp only [List.length_cons,List.length_nil,List.all_cons,List.all_nil,List.map_cons,List.map_nil,apartAll,nestedAll,List.range'_succ,List.range'_zero,rowN,okN,Bool.and_true,Bool.true_and,fst_pt,inS,List.getD_cons_zero,beq_self_eq_true,Bool.true_or];cases ho:loopOk (o.map ptP) <;> cases ha:loopOk (a.map ptP) <;> try rfl
  rw [meetsB_eq ho ha];simp [Nat.zero_le]
 | [a,b] =>
  simp only [List.length_cons,List.length_nil,List.all_cons,List.all_nil,List.map_cons,List.map_nil,apartAll,nestedAll,List.range'_succ,List.range'_zero,rowN,okN,Bool.and_true,Bool.true_and,fst_pt,inS,List.getD_cons_zero,List.getD_cons_succ,beq_self_eq_true,Bool.true_or];cases ho:loopOk (o.map ptP) <;> cases ha:loopOk (a.map ptP) <;> cases hb:loopOk (b.map ptP) <;> try rfl
  rw [meetsB_eq ho ha,meetsB_eq ho hb,meetsB_eq ha hb];generalize apartB (o.map ptP) (a.map ptP)=t1;generalize apartB (o.map ptP) (b.map ptP)=t2;generalize apartB (a.map ptP) (b.map ptP)=t3;generalize (inOf (o.map ptP) (fstP a)==1)=t4;generalize (inOf (o.map ptP) (fstP b)==1)=t5;generalize (inOf (b.map ptP) (fstP a) == -1)=t6;generalize (inOf (a.map ptP) (fstP b) == -1)=t7;cases t1 <;> cases t2 <;> cases t3 <;> cases t4 <;> cases t5 <;> cases t6 <;> cases t7 <;> rfl
 | a::b::c::r =>
  rw [decide_eq_false (by simp only [List.length_cons];omega)];rfl
theorem good_of {o:List S28}{H:List (List S28)}(h:plateOk (pl o H)=true):PlateGood (pl o H):=(Mort.plateOk_iff _).1 h
theorem runIn_eq {o:List S28}{H:List (List S28)}(h:plateOk (pl o H)=true)(p:Mort.Pt):runIn p (inS o p) H=plateInOf (pl o H) p:=by
 obtain⟨s1,s2,s3⟩:=Mort.plateInOf_spec (good_of h) p;have gen:∀ (R:List (List S28)) (x:Int),runIn p x R=if (∃ z∈R,inS z p=0) then 0 else if (∃ z∈R,inS z p=1) then -1 else x:=by
  intro R
  induction R with
  | nil=>intro x;simp [runIn]
  | cons z R ih =>
   intro x;rw [runIn_cons,ih];by_cases h0:inS z p=0
   ·
    rw [if_pos h0,if_pos ⟨z,List.mem_cons_self,h0⟩]
   ·
    rw [if_neg h0];have e0:(∃ y∈z::R,inS y p=0) ↔ ∃ y∈R,inS y p=0:=by simp [h0]
    by_cases hR0:∃ y∈R,inS y p=0
    ·
     rw [if_pos hR0,if_pos (e0.2 hR0)]
    ·
     rw [if_neg hR0,if_neg (fun q=>hR0 (e0.1 q))];by_cases h1:inS z p=1
     ·
      rw [if_pos h1,if_pos (show ∃ y∈z::R,inS y p=1 from ⟨z,List.mem_cons_self,h1⟩)]
      split <;> rfl
     ·
      have e1:(∃ y∈z::R,inS y p=1) ↔ ∃ y∈R,inS y p=1:=by simp [h1]
      rw [if_neg h1];by_cases hR1:∃ y∈R,inS y p=1
      ·
       rw [if_pos hR1,if_pos (e1.2 hR1)]
      ·
       rw [if_neg hR1,if_neg (fun q=>hR1 (e1.1 q))]
 have mem:∀ z∈H,z.map ptP∈(pl o H).2:=fun z hz=>List.mem_map_of_mem hz
 rw [gen];by_cases h0:∃ z∈H,inS z p=0
 ·
  rw [if_pos h0];obtain⟨z,hz,e⟩:=h0;exact (s2 ⟨_,mem z hz,e⟩).1.symm
 ·
  rw [if_neg h0];have all0:∀ y∈(pl o H).2,inOf y p≠0:=by
   intro y hy e;obtain⟨z,hz,rfl⟩:=List.mem_map.1 hy;exact h0 ⟨z,hz,e⟩
  have ho:(pl o H).1=o.map ptP:=rfl;by_cases h1:∃ z∈H,inS z p=1
  ·
   rw [if_pos h1];obtain⟨z,hz,e⟩:=h1;have e':inOf (z.map ptP) p=1:=e;by_cases hq:inOf (pl o H).1 p=0
   ·
    have:=(s1 hq).2 _ (mem z hz);omega
   ·
    rw [s3 hq all0,if_neg];intro hh;have:=hh.2 _ (mem z hz);omega
  ·
   rw [if_neg h1];have allm:∀ y∈(pl o H).2,inOf y p = -1:=by
    intro y hy;have h2:=all0 y hy;obtain⟨z,hz,rfl⟩:=List.mem_map.1 hy
    rcases Mort.inOf_vals (z.map ptP) p with e | e | e
    ·
     exact absurd e h2
    ·
     exact absurd ⟨z,hz,e⟩ h1
    ·
     exact e
   show inOf (pl o H).1 p=_
   by_cases hq:inOf (pl o H).1 p=0
   ·
    rw [(s1 hq).1,hq]
   ·
    rw [s3 hq all0]
    rcases Mort.inOf_vals (pl o H).1 p with e | e | e
    ·
     exact absurd e hq
    ·
     rw [if_pos ⟨e,allm⟩,e]
    ·
     rw [if_neg (by omega),e]
theorem iPlateIn (o:List S28)(H:List (List S28))(x y:Int):impl_PlateIn.f o H x y=some (plateIn (pl o H) (x,y)):=by
 unfold impl_PlateIn.f plateIn;rw [iBodyOk]
 cases h:plateOk (pl o H) with
 | false=>rfl
 | true =>
  cases hp:ptOk (x,y) with
  | false=>rfl
  | true=>rw [runIn_eq h]
end Go.Proofs.YtkefmnmoaomlhaaDoor.X
end
section
set_option linter.unusedVariables false
set_option linter.unusedSimpArgs false
namespace Go.Proofs.YtkefmnmoaomlhaaDoor.X
open Go.RowKit Go.Proofs.YtkefmnmoaomlhaaDoorW.PrintWords Go.Proofs.YtkefmnmoaomlhaaDoorW.PrintLast Go.Proofs.YtkefmnmoaomlhaaDoorW.PrintMore
open Mort (edges loopOk ptOk segOk has meet ed pairOk joined apartB plateOk plateInOf plateIn PlateGood inOf segMeet)
theorem fst_ok {z:List S28}(h:loopOk (z.map ptP)=true):ptOk ((rd_T28 z 0).f0,(rd_T28 z 0).f1)=true:=by
 obtain⟨h3,_,hok⟩:=ok_facts h;exact (seg_ends (hok 0 (by omega))).1
theorem sL3In {z:List S28}{x y:Int}(h:loopOk (z.map ptP)=true)(hp:ptOk (x,y)=true):spec_l3In.f z x y=some (inOf (z.map ptP) (x,y)):=by
 unfold spec_l3In.f;rw [if_pos ⟨h,hp⟩]
theorem sL3Fst {z a:List S28}(h:loopOk (z.map ptP)=true)(ha:loopOk (a.map ptP)=true):spec_l3In.f z (rd_T28 a 0).f0 (rd_T28 a 0).f1=some (inOf (z.map ptP) (fstP a)):=sL3In h (fst_ok ha)
def holeOk (o a:List S28):Bool:=loopOk (a.map ptP) && (inOf (o.map ptP) (fstP a)==1 && apartB (o.map ptP) (a.map ptP))
def pairH (a b:List S28):Bool:=apartB (a.map ptP) (b.map ptP) && (inOf (b.map ptP) (fstP a) == -1 && inOf (a.map ptP) (fstP b) == -1)
theorem plate_hole {o:List S28}{H:List (List S28)}(ho:loopOk (o.map ptP)=true)(i:Nat)(hi:i<H.length){k:Nat}(hk:300≤k):
  spec_PlateOk.l0 (k+2) (i:Int) o H=if holeOk o (rd_L5 H (i:Int)) then spec_PlateOk.l1 k (i:Int) (rd_L5 H (i:Int)) 0 o H else some false:=by
 simp only [spec_PlateOk.l0];rw [if_pos (by omega),if_pos (by omega),sLoopOk (by omega),Option.bind_some];generalize rd_L5 H (i:Int)=a;unfold holeOk
 cases ha:loopOk (a.map ptP) with
 | false=>rw [if_neg (by decide)];simp only [spec_PlateOk.j2];simp
 | true =>
  obtain⟨h3,_,_⟩:=ok_facts ha;rw [if_pos rfl,if_pos (by omega),sL3Fst ho ha,Option.bind_some];by_cases h1:inOf (o.map ptP) (fstP a)=1
  ·
   rw [if_pos h1,sApart (by omega) ho ha,Option.bind_some];simp only [spec_PlateOk.j2];rw [h1];cases apartB (o.map ptP) (a.map ptP) <;> simp
  ·
   rw [if_neg h1,beq_eq_false_iff_ne.2 h1];simp only [spec_PlateOk.j2];simp
theorem sPlateOk {k:Nat}(hk:1000≤k)(o:List S28)(H:List (List S28)):spec_PlateOk.f k o H=some (plateOk (pl o H)):=by
 unfold spec_PlateOk.f;rw [sLoopOk (by omega),Option.bind_some];obtain⟨k,rfl⟩:∃ q,k=q+10:=⟨k-10,by omega⟩
 cases ho:loopOk (o.map ptP) with
 | false =>
  rw [if_neg (by decide)];simp only [spec_PlateOk.j0];unfold plateOk pl;simp only;rw [ho];simp
 | true =>
  rw [if_pos rfl];by_cases h2:H.length≤2
  ·
   rw [decide_eq_false (by omega)];simp only [spec_PlateOk.j0];rw [if_neg (by decide)];unfold plateOk pl Mort.nested;simp only [List.length_map];rw [ho,decide_eq_true h2]
   match H,h2 with
   | [],_=>simp only [spec_PlateOk.l0];simp
   | [a],_ =>
    refine Eq.trans (show spec_PlateOk.l0 (k+9) 0 o [a]=_ from plate_hole (k:=k+7) ho 0 (by simp) (by omega)) ?_;have e1:spec_PlateOk.l1 (k+7) ((0:Nat):Int) a 0 o [a]=some true:=by
     simp only [spec_PlateOk.l1];rw [if_neg (by omega),show wrap64 (((0:Nat):Int)+1)=1 by unfold wrap64;omega];simp only [spec_PlateOk.l0];rw [if_neg (by simp)]
    show (if holeOk o a then spec_PlateOk.l1 (k+7) ((0:Nat):Int) a 0 o [a] else _)=_
    rw [e1];unfold holeOk;simp only [List.map_cons,List.map_nil,List.all_cons,List.all_nil,Bool.and_true,Bool.true_and,fst_pt];generalize loopOk (a.map ptP)=t1;generalize (inOf (o.map ptP) (fstP a)==1)=t2;generalize apartB (o.map ptP) (a.map ptP)=t3;cases t1 <;> cases t2 <;> cases t3 <;> rfl
   | [a,b],_ =>
    refine Eq.trans (show spec_PlateOk.l0 (k+9) 0 o [a,b]=_ from plate_hole (k:=k+7) ho 0 (by simp) (by omega)) ?_;have e1:spec_PlateOk.l1 (k+7) ((0:Nat):Int) a 0 o [a,b]=if holeOk o b then spec_PlateOk.l1 (k+4) ((1:Nat):Int) b 0 o [a,b] else some false:=by
     simp only [spec_PlateOk.l1];rw [if_neg (by omega),show wrap64 (((0:Nat):Int)+1)=((1:Nat):Int) by unfold wrap64;omega,plate_hole (k:=k+4) ho 1 (by simp) (by omega)];rfl
    show (if holeOk o a then spec_PlateOk.l1 (k+7) ((0:Nat):Int) a 0 o [a,b] else _)=_
    rw [e1];have hp:holeOk o a=true→holeOk o b=true→spec_PlateOk.l1 (k+4) ((1:Nat):Int) b 0 o [a,b]=some (pairH b a):=by
     intro h1 h2;have ha:loopOk (a.map ptP)=true:=by unfold holeOk at h1;cases h:loopOk (a.map ptP) with | true=>rfl | false=>rw [h] at h1;cases h1
     have hb:loopOk (b.map ptP)=true:=by unfold holeOk at h2;cases h:loopOk (b.map ptP) with | true=>rfl | false=>rw [h] at h2;cases h2
     obtain⟨a3,_,_⟩:=ok_facts ha;obtain⟨b3,_,_⟩:=ok_facts hb;simp only [spec_PlateOk.l1];rw [if_pos (by omega),if_pos (by omega),if_pos (by simp)];rw [show rd_L5 [a,b] 0=a from rfl,sApart (by omega) hb ha,Option.bind_some];unfold pairH
     cases apartB (b.map ptP) (a.map ptP) with
     | false=>rw [if_neg (by decide)];rfl
     | true =>
      rw [if_pos rfl,if_pos (by omega),sL3Fst ha hb,Option.bind_some];by_cases e1:inOf (a.map ptP) (fstP b) = -1
      ·
       rw [if_pos e1,if_pos (by omega),sL3Fst hb ha,Option.bind_some,e1];by_cases e2:inOf (b.map ptP) (fstP a) = -1
       ·
        rw [if_pos e2,e2];have hw0:wrap64 (0+1)=1:=by unfold wrap64;omega
        rw [hw0,if_neg (by omega)];have hw2:wrap64 (((1:Nat):Int)+1)=2:=by unfold wrap64;omega
        rw [hw2];simp only [spec_PlateOk.l0];rw [if_neg (by simp)];rfl
       ·
        rw [if_neg e2,beq_eq_false_iff_ne.2 e2];rfl
      ·
       rw [if_neg e1,beq_eq_false_iff_ne.2 e1];rfl
    have hc:=Mort.apartB_comm (a.map ptP) (b.map ptP);simp only [List.map_cons,List.map_nil,List.all_cons,List.all_nil,Bool.and_true,Bool.true_and,fst_pt]
    cases h1:holeOk o a with
    | false =>
     rw [if_neg (by decide)];unfold holeOk at h1;revert h1;generalize loopOk (a.map ptP)=t1;generalize (inOf (o.map ptP) (fstP a)==1)=t2;generalize apartB (o.map ptP) (a.map ptP)=t3;intro h1;cases t1 <;> cases t2 <;> cases t3 <;> simp at h1 ⊢
    | true =>
     rw [if_pos rfl]
     cases h2:holeOk o b with
     | false =>
      rw [if_neg (by decide)];unfold holeOk at h2;revert h2;generalize loopOk (b.map ptP)=t1;generalize (inOf (o.map ptP) (fstP b)==1)=t2;generalize apartB (o.map ptP) (b.map ptP)=t3;intro h2;cases t1 <;> cases t2 <;> cases t3 <;> simp at h2 ⊢
     | true =>
      rw [if_pos rfl,hp h1 h2];unfold holeOk at h1 h2;unfold pairH;rw [hc];simp only [Bool.and_eq_true] at h1 h2;rw [h1.1,h1.2.1,h1.2.2,h2.1,h2.2.1,h2.2.2];generalize apartB (b.map ptP) (a.map ptP)=t1;generalize (inOf (b.map ptP) (fstP a) == -1)=t2;generalize (inOf (a.map ptP) (fstP b) == -1)=t3;cases t1 <;> cases t2 <;> cases t3 <;> rfl
  ·
   rw [decide_eq_true (by omega)];simp only [spec_PlateOk.j0];unfold plateOk pl;simp only [List.length_map];rw [decide_eq_false h2];simp
theorem l11In_l0 {o:List S28}{H:List (List S28)}(hH:∀ z∈H,loopOk (z.map ptP)=true){x y:Int}(hp:ptOk (x,y)=true):
  ∀ (m i k:Nat) (u:Int),H.length-i=m→i≤H.length→m<k→H.length≤2→(-1≤u∧u≤1)→spec_l11In.l0 k u (i:Int) o H x y=some ((H.drop i).foldl (fun u z=>mn u (-inS z (x,y))) u):=by
 intro m
 induction m with
 | zero =>
  intro i k u hm hi hk h2 hu;obtain⟨k,rfl⟩:∃ q,k=q+1:=⟨k-1,by omega⟩;simp only [spec_l11In.l0];rw [if_neg (by omega),List.drop_of_length_le (by omega)];rfl
 | succ m ih =>
  intro i k u hm hi hk h2 hu;obtain⟨k,rfl⟩:∃ q,k=q+1:=⟨k-1,by omega⟩;simp only [spec_l11In.l0];have hlt:i<H.length:=by omega
  have hg:rd_L5 H (i:Int)=H[i]:=by show H.getD i []=_;rw [List.getD_eq_getElem?_getD,List.getElem?_eq_getElem hlt];rfl
  rw [if_pos (by omega),if_pos (by omega),hg,sL3In (hH _ (List.getElem_mem hlt)) hp,Option.bind_some,List.drop_eq_getElem_cons hlt,List.foldl_cons];have hv:=Mort.inOf_vals (H[i].map ptP) (x,y);have hw:wrap64 (-inOf (H[i].map ptP) (x,y)) = -inOf (H[i].map ptP) (x,y):=w64i (by omega) (by omega);rw [hw,succ64 (by omega),ih (i+1) k _ (by omega) (by omega) (by omega) h2 (by unfold mn;split <;> omega)];rfl
theorem sL11In {k:Nat}(hk:10≤k){o:List S28}{H:List (List S28)}(h:plateOk (pl o H)=true){x y:Int}(hp:ptOk (x,y)=true):spec_l11In.f k o H x y=some (plateInOf (pl o H) (x,y)):=by
 have g:=good_of h;have ho:loopOk (o.map ptP)=true:=g.outer;have hH:∀ z∈H,loopOk (z.map ptP)=true:=fun z hz=>g.holes _ (List.mem_map_of_mem hz)
 have h2:H.length≤2:=by have:=g.few;unfold pl at this;simpa using this
 unfold spec_l11In.f;rw [sL3In ho hp,Option.bind_some,show (0:Int)=((0:Nat):Int) from rfl,l11In_l0 hH hp H.length 0 k _ (by omega) (by omega) (by omega) h2 (by have:=Mort.inOf_vals (o.map ptP) (x,y);omega),List.drop_zero];obtain⟨s1,s2,s3⟩:=Mort.plateInOf_spec g (x,y);have gen:∀ (R:List (List S28)) (u:Int),(-1≤u∧u≤1)→R.foldl (fun u z=>mn u (-inS z (x,y))) u=if (∃ z∈R,inS z (x,y)=1) then -1 else if (∃ z∈R,inS z (x,y)=0) then (if u<0 then u else 0) else u:=by
  intro R
  induction R with
  | nil=>intro u _;simp
  | cons z R ih =>
   intro u hu;rw [List.foldl_cons];have hz:=Mort.inOf_vals (z.map ptP) (x,y);have hz':inS z (x,y)=0∨inS z (x,y)=1∨inS z (x,y) = -1:=hz;rw [ih _ (by unfold mn;split <;> omega)];have e1:(∃ w∈z::R,inS w (x,y)=1) ↔ inS z (x,y)=1∨∃ w∈R,inS w (x,y)=1:=by simp
   have e0:(∃ w∈z::R,inS w (x,y)=0) ↔ inS z (x,y)=0∨∃ w∈R,inS w (x,y)=0:=by simp
   have m1:inS z (x,y)=1→mn u (-inS z (x,y)) = -1:=fun e=>by rw [e];unfold mn;split <;> omega
   have m0:inS z (x,y)=0→mn u (-inS z (x,y))=if u<0 then u else 0:=fun e=>by rw [e];unfold mn;(repeat' split) <;> omega
   have mm:inS z (x,y) = -1→mn u (-inS z (x,y))=u:=fun e=>by rw [e];unfold mn;split <;> omega
   have mt:(if (if u<0 then u else 0)<0 then (if u<0 then u else 0) else 0)=if u<0 then u else 0:=by (repeat' split) <;> omega
   by_cases r1:∃ w∈R,inS w (x,y)=1
   ·
    rw [if_pos r1,if_pos (e1.2 (.inr r1))]
   ·
    rw [if_neg r1];by_cases r0:∃ w∈R,inS w (x,y)=0
    ·
     rw [if_pos r0]
     rcases hz' with z0 | z1 | zm
     ·
      rw [if_neg (fun q=>(e1.1 q).elim (by rw [z0];decide) r1),if_pos (e0.2 (.inr r0)),m0 z0,mt]
     ·
      rw [if_pos (e1.2 (.inl z1)),m1 z1];rfl
     ·
      rw [if_neg (fun q=>(e1.1 q).elim (by rw [zm];decide) r1),if_pos (e0.2 (.inr r0)),mm zm]
    ·
     rw [if_neg r0]
     rcases hz' with z0 | z1 | zm
     ·
      rw [if_neg (fun q=>(e1.1 q).elim (by rw [z0];decide) r1),if_pos (e0.2 (.inl z0)),m0 z0]
     ·
      rw [if_pos (e1.2 (.inl z1)),m1 z1]
     ·
      rw [if_neg (fun q=>(e1.1 q).elim (by rw [zm];decide) r1),if_neg (fun q=>(e0.1 q).elim (by rw [zm];decide) r0),mm zm]
 have hvo:=Mort.inOf_vals (o.map ptP) (x,y);have hoq:(pl o H).1=o.map ptP:=rfl;have mem:∀ z∈H,z.map ptP∈(pl o H).2:=fun z hz=>List.mem_map_of_mem hz
 rw [gen H _ (by omega)]
 congr 1
 by_cases q0:inOf (o.map ptP) (x,y)=0
 ·
  obtain⟨p1,p2⟩:=s1 q0;rw [if_neg (fun⟨z,hz,e⟩=>by have:=p2 _ (mem z hz);have e':inOf (z.map ptP) (x,y)=1:=e;omega),if_neg (fun⟨z,hz,e⟩=>by have:=p2 _ (mem z hz);have e':inOf (z.map ptP) (x,y)=0:=e;omega),p1,q0]
 ·
  by_cases r0:∃ z∈H,inS z (x,y)=0
  ·
   obtain⟨z,hz,e⟩:=r0;obtain⟨p1,p2⟩:=s2 ⟨_,mem z hz,e⟩;have hno:¬ ∃ w∈H,inS w (x,y)=1:=by
    rintro⟨w,hw,e1⟩;have hon:=(Mort.inOf_zero _ _).1 (show inOf (z.map ptP) (x,y)=0 from e);have e1':inOf (w.map ptP) (x,y)=1:=e1
    match H,h2,hz,hw,g with
    | [a],_,hz,hw,_=>simp only [List.mem_singleton] at hz hw;subst hz;subst hw;have e':inOf (w.map ptP) (x,y)=0:=e;omega
    | [a,b],_,hz,hw,g =>
     obtain⟨o1,o2⟩:=Mort.PlateGood.on_other g (a:=a.map ptP) (b:=b.map ptP) rfl (p:=(x,y));have e':inOf (z.map ptP) (x,y)=0:=e;simp only [List.mem_cons,List.not_mem_nil,or_false] at hz hw
     rcases hz with rfl | rfl <;> rcases hw with rfl | rfl
     ·
      omega
     ·
      have:=o1 hon;omega
     ·
      have:=o2 hon;omega
     ·
      omega
   have p2':inOf (o.map ptP) (x,y)=1:=p2;rw [if_neg hno,if_pos ⟨z,hz,e⟩,p1,p2',if_neg (by omega)]
  ·
   have all0:∀ y'∈(pl o H).2,inOf y' (x,y)≠0:=by
    intro y' hy e;obtain⟨z,hz,rfl⟩:=List.mem_map.1 hy;exact r0 ⟨z,hz,e⟩
   rw [s3 q0 all0];by_cases r1:∃ z∈H,inS z (x,y)=1
   ·
    rw [if_pos r1,if_neg];rintro⟨_,hh⟩;obtain⟨z,hz,e⟩:=r1;have:=hh _ (mem z hz);have e':inOf (z.map ptP) (x,y)=1:=e;omega
   ·
    rw [if_neg r1,if_neg r0];have allm:∀ y'∈(pl o H).2,inOf y' (x,y) = -1:=by
     intro y' hy;have h2:=all0 y' hy;obtain⟨z,hz,rfl⟩:=List.mem_map.1 hy
     rcases Mort.inOf_vals (z.map ptP) (x,y) with e | e | e
     ·
      exact absurd e h2
     ·
      exact absurd ⟨z,hz,e⟩ r1
     ·
      exact e
    rw [hoq]
    rcases hvo with e | e | e
    ·
     exact absurd e q0
    ·
     rw [if_pos ⟨e,allm⟩,e]
    ·
     rw [if_neg (by omega),e]
end Go.Proofs.YtkefmnmoaomlhaaDoor.X
end
section
set_option linter.unusedVariables false
set_option linter.unusedSimpArgs false
namespace Mort
def farL (es:List Seg)(p:Pt):Frac:=match es with
 | []=>(0,0)
 | e::r=>r.foldl (fun a s=>least a (segFar s p)) (segFar e p)
def plateFar (P:Plate)(p:Pt):Frac:=if plateOk P && ptOk p then farL (plateEdges P) p else (0,0)
def toolOk (q:Int):Bool:=decide (1≤q) && decide (q≤9)
def toolFits (P:Plate)(q:Int)(p:Pt):Bool:=plateOk P && (toolOk q && (ptOk p && (plateInOf P p==1 && decide (0≤fracCmp (farL (plateEdges P) p) (q,1)))))
theorem fold_least {p:Pt}(hp:ptOk p=true):∀ (r:List Seg) (a:Frac),fracOk a=true→(∀ e∈r,segOk e=true) →
  fracOk (r.foldl (fun a s=>least a (segFar s p)) a)=true∧val (r.foldl (fun a s=>least a (segFar s p)) a)≤val a∧(∀ e∈r,val (r.foldl (fun a s=>least a (segFar s p)) a)≤val (segFar e p)) ∧
  (r.foldl (fun a s=>least a (segFar s p)) a=a∨∃ e∈r,r.foldl (fun a s=>least a (segFar s p)) a=segFar e p):=by
 intro r
 induction r with
 | nil=>intro a ha _;exact⟨ha,Rat.le_refl,fun e he=>by simp at he,.inl rfl⟩
 | cons s r ih =>
  intro a ha hr;have hs:=(segFar_ok (hr s List.mem_cons_self) hp).1;obtain⟨⟨l1,l2⟩,l3⟩:=val_least ha hs;obtain⟨i1,i2,i3,i4⟩:=ih (least a (segFar s p)) (least_ok ha hs) (fun e he=>hr e (List.mem_cons_of_mem _ he));rw [List.foldl_cons];refine⟨i1,Rat.le_trans i2 l1,fun e he=>?_,?_⟩
  ·
   rcases List.mem_cons.1 he with rfl | he
   ·
    exact Rat.le_trans i2 l2
   ·
    exact i3 e he
  ·
   rcases i4 with h | ⟨e,he,h⟩
   ·
    rw [h]
    rcases l3 with h3 | h3
    ·
     exact .inl h3
    ·
     exact .inr ⟨s,List.mem_cons_self,h3⟩
   ·
    exact .inr ⟨e,List.mem_cons_of_mem _ he,h⟩
theorem farL_spec {es:List Seg}{p:Pt}(hp:ptOk p=true)(hne:0<es.length)(hok:∀ e∈es,segOk e=true):
  fracOk (farL es p)=true∧(∀ e∈es,val (farL es p)≤val (segFar e p))∧∃ e∈es,farL es p=segFar e p:=by
 cases es with
 | nil=>simp at hne
 | cons e r =>
  obtain⟨i1,i2,i3,i4⟩:=fold_least hp r (segFar e p) (segFar_ok (hok e List.mem_cons_self) hp).1 (fun s hs=>hok s (List.mem_cons_of_mem _ hs));refine⟨i1,fun s hs=>?_,?_⟩
  ·
   rcases List.mem_cons.1 hs with rfl | hs
   ·
    exact i2
   ·
    exact i3 s hs
  ·
   rcases i4 with h | ⟨s,hs,h⟩
   ·
    exact⟨e,List.mem_cons_self,h⟩
   ·
    exact⟨s,List.mem_cons_of_mem _ hs,h⟩
theorem plateEdges_ok {P:Plate}(g:PlateGood P):(∀ e∈plateEdges P,segOk e=true)∧0<(plateEdges P).length:=by
 refine⟨fun e he=>?_,?_⟩
 ·
  unfold plateEdges at he
  rcases List.mem_append.1 he with he | he
  ·
   exact ((loopOk_iff _).1 g.outer).2.2.1 e he
  ·
   obtain⟨h,hh,he⟩:=List.mem_flatMap.1 he;exact ((loopOk_iff _).1 (g.holes h hh)).2.2.1 e he
 ·
  unfold plateEdges;rw [List.length_append,edges_length];have:=loop_pos g.outer;omega
end Mort
namespace Go.Proofs.YtkefmnmoaomlhaaDoor.X
open Go.RowKit Go.Proofs.YtkefmnmoaomlhaaDoorW.PrintWords Go.Proofs.YtkefmnmoaomlhaaDoorW.PrintLast Go.Proofs.YtkefmnmoaomlhaaDoorW.PrintMore
open Mort (edges loopOk ptOk segOk has meet ed pairOk joined apartB plateOk plateInOf plateIn PlateGood inOf segMeet segFar least fracOk fracCmp cmp0 farL plateFar toolFits plateEdges)
theorem edgesS_eq (z:List S28):edgesS z=esOf z:=by
 unfold edgesS esOf;apply List.ext_getElem
 ·
  simp
 ·
  intro i h1 h2;simp
theorem allEdges_pl (o:List S28)(H:List (List S28)):(allEdges (o::H)).map sgP=plateEdges (pl o H):=by
 unfold allEdges plateEdges pl;rw [List.flatMap_cons,List.map_append,edgesS_eq,esOf_edges]
 congr 1
 induction H with
 | nil=>rfl
 | cons z H ih=>rw [List.flatMap_cons,List.map_append,edgesS_eq,esOf_edges,List.map_cons,List.flatMap_cons,ih]
theorem farE_L (E:List S61)(p:Mort.Pt):farE E p=farL (E.map sgP) p:=by
 cases E with
 | nil=>rfl
 | cons e r =>
  show r.foldl _ _=(r.map sgP).foldl _ _
  rw [List.foldl_map]
theorem iPlateFar (o:List S28)(H:List (List S28))(x y:Int):impl_PlateFar.f o H x y=some ((plateFar (pl o H) (x,y)).1,(plateFar (pl o H) (x,y)).2):=by
 unfold impl_PlateFar.f plateFar;rw [iBodyOk,farE_L,allEdges_pl]
theorem edges_facts {o:List S28}{H:List (List S28)}(h:plateOk (pl o H)=true):(∀ s∈allEdges (o::H),segOk (sgP s)=true)∧0<(allEdges (o::H)).length∧(allEdges (o::H)).length≤24∧H.length≤2:=by
 rw [← iBodyOk] at h;obtain⟨e0,es,hEe,hle⟩:=allEdges_cons h;refine⟨allEdges_ok h,by rw [hEe];simp,by rw [hEe];simp only [List.length_cons];omega,((bodyOkB_iff o H).1 h).1⟩
theorem iToolFits (o:List S28)(H:List (List S28))(q x y:Int):impl_ToolFits.f o H q x y=some (toolFits (pl o H) q (x,y)):=by
 unfold impl_ToolFits.f toolFits fitsB toolB Mort.toolOk;rw [iBodyOk,farE_L,allEdges_pl]
 cases h:plateOk (pl o H) with
 | false=>rfl
 | true=>rw [runIn_eq h]
theorem sL11Edges {k:Nat}(hk:1000≤k){o:List S28}{H:List (List S28)}(h:plateOk (pl o H)=true):spec_l11Edges.f k o H=some (allEdges (o::H)):=by
 have g:=good_of h;obtain⟨o3,o8,_⟩:=ok_facts (z:=o) g.outer;have hH:∀ z∈H,z.length≤8:=fun z hz=>(ok_facts (g.holes _ (List.mem_map_of_mem hz))).2.1
 have h2:H.length≤2:=(edges_facts h).2.2.2;have loop:∀ (m i k:Nat) (acc:List S61),H.length-i=m→i≤H.length→m+20≤k→acc.length≤100*(i+1)→spec_l11Edges.l0 k acc (i:Int) o H=some (acc++(H.drop i).flatMap esOf):=by
  intro m
  induction m with
  | zero =>
   intro i k acc hm hi hk ha;obtain⟨k,rfl⟩:∃ q,k=q+1:=⟨k-1,by omega⟩;simp only [spec_l11Edges.l0];rw [if_neg (by omega),List.drop_of_length_le (by omega)];simp
  | succ m ih =>
   intro i k acc hm hi hk ha;obtain⟨k,rfl⟩:∃ q,k=q+1:=⟨k-1,by omega⟩;simp only [spec_l11Edges.l0];have hlt:i<H.length:=by omega
   have hg:rd_L5 H (i:Int)=H[i]:=by show H.getD i []=_;rw [List.getD_eq_getElem?_getD,List.getElem?_eq_getElem hlt];rfl
   have hl:=hH _ (List.getElem_mem hlt);rw [if_pos (by omega),if_pos (by omega),hg,sEdges (by omega) (by omega),Option.bind_some,if_pos (by rw [esOf_len];omega),succ64 (by omega),ih (i+1) k _ (by omega) (by omega) (by omega) (by rw [List.length_append,esOf_len];omega),List.drop_eq_getElem_cons hlt,List.flatMap_cons,List.append_assoc]
 unfold spec_l11Edges.f;rw [sEdges (by omega) (by omega),Option.bind_some];refine (loop H.length 0 k _ (by omega) (by omega) (by omega) (by rw [esOf_len];omega)).trans ?_;rw [List.drop_zero];unfold allEdges;rw [List.flatMap_cons,edgesS_eq]
 congr 2
 have:edgesS=esOf:=funext edgesS_eq;rw [this]
theorem rd_seg {E:List S61}{i:Nat}(h:i<E.length):rd_T61 E (i:Int)=E[i]:=by
 show E.getD i _=_
 rw [List.getD_eq_getElem?_getD,List.getElem?_eq_getElem h];rfl
theorem sL13Near {s:S61}{q x y:Int}(hs:segOk (sgP s)=true)(hp:ptOk (x,y)=true)(h1:1≤q)(h9:q≤9):
  spec_l13Near.f s.f0.f0 s.f0.f1 s.f1.f0 s.f1.f1 q x y=some (decide ((Mort.far (sgP s) (x,y)).1<q*(Mort.far (sgP s) (x,y)).2)):=by
 obtain⟨o1,o2⟩:=seg_ends hs;have hin:=Mort.far_inR hs hp;have e:sgP s=((s.f0.f0,s.f0.f1),(s.f1.f0,s.f1.f1)):=rfl;rw [e] at hin ⊢
 generalize s.f0.f0=a at *;generalize s.f0.f1=b at *;generalize s.f1.f0=c at *;generalize s.f1.f1=d at *;unfold spec_l13Near.f Mort.far at *;simp only [sDot o1 o2 hp,sDot o1 o2 o2,sDot o1 hp hp,sDot o2 hp hp,sCross o1 o2 hp,Option.bind_some];by_cases z:Mort.dot (a,b) (c,d) (x,y)≤0
 ·
  rw [if_pos z,if_pos z];simp only [Int.mul_one]
 ·
  rw [if_neg z,if_neg z];rw [if_neg z] at hin;by_cases z':Mort.dot (a,b) (c,d) (c,d)≤Mort.dot (a,b) (c,d) (x,y)
  ·
   rw [if_pos z',if_pos z'];simp only [Int.mul_one]
  ·
   rw [if_neg z',if_neg z'];rw [if_neg z'] at hin;obtain⟨i1,i2,i3,i4⟩:=hin;simp only at i1 i2 i3 i4 ⊢
   have hc:=Mort.cross_bound o1 o2 hp;have hq:=Mort.sq_bound hc.1 hc.2;have m1:0≤q*Mort.dot (a,b) (c,d) (c,d):=Int.mul_nonneg (by omega) (by omega);have m2:q*Mort.dot (a,b) (c,d) (c,d)≤9*99999:=Int.mul_le_mul h9 i4 (by omega) (by decide);rw [w64i (by omega) (by omega),w64i (by omega) (by omega)]
theorem not_near_iff {s:Mort.Seg}{q:Int}{p:Mort.Pt}(hs:segOk s=true)(hp:ptOk p=true)(h1:1≤q)(h9:q≤9):¬ ((Mort.far s p).1<q*(Mort.far s p).2) ↔ (Mort.val (q,1)≤Mort.val (segFar s p)):=by
 have hin:=Mort.far_inR hs hp;rw [(Mort.segFar_ok hs hp).2,Mort.val_le (by show (1:Int)≤1;decide) hin.2.2.1];simp only [Int.mul_one];omega
theorem sToolFits {k:Nat}(hk:300000≤k)(o:List S28)(H:List (List S28))(q x y:Int):spec_ToolFits.f k o H q x y=some (toolFits (pl o H) q (x,y)):=by
 unfold spec_ToolFits.f toolFits;rw [sPlateOk (by omega),Option.bind_some]
 cases h:plateOk (pl o H) with
 | false=>rw [if_neg (by decide)];rfl
 | true =>
  rw [if_pos rfl,l6In_told,Option.bind_some]
  show (if Mort.toolOk q=true then _ else _)=_
  cases ht:Mort.toolOk q with
  | false=>rw [if_neg (by decide)];rfl
  | true =>
   have hq:1≤q∧q≤9:=by unfold Mort.toolOk at ht;simpa using ht
   rw [if_pos rfl,sPtOk,Option.bind_some]
   cases hp:ptOk (x,y) with
   | false=>rw [if_neg (by decide)];rfl
   | true =>
    obtain⟨e1,e2,e3,_⟩:=edges_facts h;rw [if_pos rfl,sL11Edges (by omega) h,Option.bind_some];unfold spec_l13Fits.f;have loop:∀ (m i k:Nat),(allEdges (o::H)).length-i=m→i≤(allEdges (o::H)).length→m+100≤k →
      spec_l13Fits.l0 k (allEdges (o::H)) q (i:Int) o H x y=some (((allEdges (o::H)).drop i).all (fun s=>decide (¬ ((Mort.far (sgP s) (x,y)).1<q*(Mort.far (sgP s) (x,y)).2))) && plateInOf (pl o H) (x,y)==1):=by
     intro m
     induction m with
     | zero =>
      intro i k hm hi hk;obtain⟨k,rfl⟩:∃ q,k=q+1:=⟨k-1,by omega⟩;simp only [spec_l13Fits.l0];rw [if_neg (by omega),List.drop_of_length_le (by omega),sL11In (by omega) h hp];rfl
     | succ m ih =>
      intro i k hm hi hk;obtain⟨k,rfl⟩:∃ q,k=q+1:=⟨k-1,by omega⟩;simp only [spec_l13Fits.l0];have hlt:i<(allEdges (o::H)).length:=by omega
      rw [if_pos (by omega),if_pos (by omega),rd_seg hlt,sL13Near (e1 _ (List.getElem_mem hlt)) hp hq.1 hq.2,Option.bind_some,List.drop_eq_getElem_cons hlt,List.all_cons];by_cases e:(Mort.far (sgP (allEdges (o::H))[i]) (x,y)).1<q*(Mort.far (sgP (allEdges (o::H))[i]) (x,y)).2
      ·
       rw [decide_eq_true e,if_pos rfl,decide_eq_false (fun hh=>hh e)];rfl
      ·
       rw [decide_eq_false e,if_neg (by decide),succ64 (by omega),ih (i+1) k (by omega) (by omega) (by omega),decide_eq_true e,Bool.true_and]
    rw [show (0:Int)=((0:Nat):Int) from rfl];rw [loop (allEdges (o::H)).length 0 k (by omega) (by omega) (by omega),Option.bind_some,List.drop_zero,Bool.true_and,Bool.true_and,Bool.true_and]
    congr 1
    rw [Bool.and_comm]
    congr 1
    obtain⟨f1,f2,e,he,f3⟩:=Mort.farL_spec hp (Mort.plateEdges_ok (good_of h)).2 (Mort.plateEdges_ok (good_of h)).1;have hqo:fracOk (q,1)=true:=Mort.fracOk_whole (by omega) (by omega);rw [Bool.eq_iff_iff,List.all_eq_true,decide_eq_true_eq];have e0:((0:Nat):Int)=0:=rfl;rw [e0,Mort.cmp_ge f1 hqo];constructor
    ·
     intro hall;rw [f3];rw [← allEdges_pl] at he;obtain⟨s,hs,rfl⟩:=List.mem_map.1 he;have:=hall s hs;rw [decide_eq_true_eq] at this;exact (not_near_iff (e1 s hs) hp hq.1 hq.2).1 this
    ·
     intro hv s hs;rw [decide_eq_true_eq];refine (not_near_iff (e1 s hs) hp hq.1 hq.2).2 (Rat.le_trans hv (f2 _ ?_));rw [← allEdges_pl];exact List.mem_map_of_mem hs
end Go.Proofs.YtkefmnmoaomlhaaDoor.X
end
section
set_option linter.unusedVariables false
set_option linter.unusedSimpArgs false
namespace Go.Proofs.YtkefmnmoaomlhaaDoor.X
open Go.RowKit Go.Proofs.YtkefmnmoaomlhaaDoorW.PrintWords Go.Proofs.YtkefmnmoaomlhaaDoorW.PrintLast Go.Proofs.YtkefmnmoaomlhaaDoorW.PrintMore
def Tells {α:Type}(K:Nat)(f:Nat→Option α)(P:α→Prop):Prop:=∃ a,(∀ k,K≤k→f k=some a)∧P a
namespace Tells
variable {α β:Type} {K:Nat} {P:α→Prop} {Q:β→Prop}
theorem bind {f:Nat→Option α}{g:α→Nat→Option β}(h:Tells K f P)(hg:∀ a,P a→Tells K (g a) Q):Tells K (fun k=>(f k).bind fun a=>g a k) Q:=by
 obtain⟨a,h1,h2⟩:=h;obtain⟨b,h3,h4⟩:=hg a h2;exact⟨b,fun k hk=>by show (f k).bind _=_;rw [h1 k hk,Option.bind_some,h3 k hk],h4⟩
theorem ret (a:α)(h:P a):Tells K (fun _=>some a) P:=⟨a,fun _ _=>rfl,h⟩
theorem ite {c:Prop}[Decidable c]{f g:Nat→Option α}(h1:c→Tells K f P)(h2:¬ c→Tells K g P):Tells K (fun k=>if c then f k else g k) P:=by
 by_cases h:c
 ·
  obtain⟨a,e,p⟩:=h1 h;exact⟨a,fun k hk=>by show (if c then _ else _)=_;rw [if_pos h,e k hk],p⟩
 ·
  obtain⟨a,e,p⟩:=h2 h;exact⟨a,fun k hk=>by show (if c then _ else _)=_;rw [if_neg h,e k hk],p⟩
theorem guard {c:Prop}[Decidable c]{f:Nat→Option α}(h:c)(h1:Tells K f P):Tells K (fun k=>if c then f k else none) P:=ite (fun _=>h1) (fun n=>absurd h n)
theorem nay {c:Prop}[Decidable c]{f:Nat→Option α}(h:¬ c)(h1:Tells K f P):Tells K (fun k=>if c then none else f k) P:=ite (fun n=>absurd n h) (fun _=>h1)
theorem up {K':Nat}{f:Nat→Option α}(hk:K≤K')(h:Tells K f P):Tells K' f P:=by
 obtain⟨a,e,p⟩:=h;exact⟨a,fun k hk'=>e k (by omega),p⟩
theorem mono {P':α→Prop}{f:Nat→Option α}(h:Tells K f P)(hp:∀ a,P a→P' a):Tells K f P':=by
 obtain⟨a,e,p⟩:=h;exact⟨a,e,hp a p⟩
theorem succ {f g:Nat→Option α}(hf:∀ k,f (k+1)=g k)(h:Tells K g P):Tells (K+1) f P:=by
 obtain⟨a,e,p⟩:=h;refine⟨a,fun k hk=>?_,p⟩;obtain⟨k,rfl⟩:∃ q,k=q+1:=⟨k-1,by omega⟩;rw [hf,e k (by omega)]
theorem same {f g:Nat→Option α}(hf:∀ k,f k=g k)(h:Tells K g P):Tells K f P:=by
 obtain⟨a,e,p⟩:=h;exact⟨a,fun k hk=>by rw [hf,e k hk],p⟩
end Tells
section
variable {l:List Int} (hl:Bytes l)
include hl
theorem tPick {K:Nat}(hK:1≤K){p n:Int}(hp:0≤p)(hp':p≤1000000)(hn:1≤n)(hn':n≤1000000):Tells K (fun k=>spec_l6Rd_pick.f k l p n) fun a=>0≤a.1∧a.1<n∧a.2=p+1:=by
 obtain⟨r,h1,h2,h3⟩:=pick_told hl hp hp' hn hn';exact⟨(r,p+1),fun k hk=>h1 k (by omega),h2,h3,rfl⟩
theorem tPt {K:Nat}(hK:1≤K){p:Int}(hp:0≤p)(hp':p≤900000):Tells K (fun k=>spec_l71Pt.f k l p) fun a=>p≤a.2.2∧a.2.2≤p+10:=by
 unfold spec_l71Pt.f;refine Tells.bind (tPick hl hK hp (by omega) (by omega) (by omega)) ?_;rintro⟨r1,q1⟩ ⟨a1,b1,c1⟩;simp only at a1 b1 c1 ⊢
 refine Tells.bind (tPick hl hK (by omega) (by omega) (by omega) (by omega)) ?_;rintro⟨r2,q2⟩ ⟨a2,b2,c2⟩;simp only at a2 b2 c2 ⊢
 refine Tells.bind (tPick hl hK (by omega) (by omega) (by omega) (by omega)) ?_;rintro⟨r3,q3⟩ ⟨a3,b3,c3⟩;simp only at a3 b3 c3 ⊢
 refine Tells.ite (fun h=>?_) (fun h=>Tells.ite (fun h'=>?_) (fun h'=>?_))
 ·
  refine Tells.bind (Tells.ret (P:=fun a=>a=[(-1),10]) _ rfl) ?_;rintro y rfl;refine Tells.bind (tPick hl hK (by omega) (by omega) (by omega) (by omega)) ?_;rintro⟨r4,q4⟩ ⟨a4,b4,c4⟩;simp only at a4 b4 c4 ⊢
  exact Tells.guard (by omega) (Tells.guard (by simpa using b4) (Tells.ret _ (by simp only;omega)))
 ·
  refine Tells.bind (Tells.ret (P:=fun a=>a=[(-1),10]) _ rfl) ?_;rintro y rfl;refine Tells.bind (tPick hl hK (by omega) (by omega) (by omega) (by omega)) ?_;rintro⟨r4,q4⟩ ⟨a4,b4,c4⟩;simp only at a4 b4 c4 ⊢
  exact Tells.guard (by omega) (Tells.guard (by simpa using b4) (Tells.ret _ (by simp only;omega)))
 ·
  exact Tells.ret _ (by simp only;omega)
theorem tBox {K:Nat}(hK:1≤K){p a1 a2 a3 a4:Int}(hp:0≤p)(hp':p≤900000):Tells K (fun k=>spec_l71Box.f k l p a1 a2 a3 a4) fun a=>(3≤a.1.length∧a.1.length≤6)∧p≤a.2∧a.2≤p+10:=by
 unfold spec_l71Box.f;refine Tells.bind (Tells.ret (P:=fun a=>a.length=4) _ rfl) ?_;intro y hy;have hy':(y.length:Int)=4:=by omega
 refine Tells.bind (tPick hl hK hp (by omega) (by omega) (by omega)) ?_;rintro⟨r1,q1⟩ ⟨a1,b1,c1⟩;simp only at a1 b1 c1 ⊢
 rw [hy']
 repeat' first
  | (refine Tells.ret _ ⟨⟨?_,?_⟩,?_,?_⟩ <;> first | omega | (simp;done) | (simp [hy];done) | (simp only [List.length_take];omega))
  | (refine Tells.guard (by omega) ?_)
  | (refine Tells.ite (fun _=>?_) (fun _=>?_))
theorem tLoopL {K:Nat}(hK:1≤K):∀ (m:Nat) (z:List S28) (i p:Int),i<m → -1≤i→i≤100→3≤z.length→z.length≤1000→0≤p→p+10*m≤900000→Tells (K+m+1) (fun k=>spec_l71Loop.l0 k z i l p) fun a=>a.1.length=z.length∧p≤a.2∧a.2≤p+10*m:=by
 intro m
 induction m with
 | zero =>
  intro z i p hm hi hi' hz hz' hp hp';refine Tells.succ (fun k=>by simp only [spec_l71Loop.l0];exact rfl) ?_;exact Tells.ite (fun h=>by omega) (fun _=>Tells.ret _ ⟨rfl,Int.le_refl _,by show p≤p+10*_;omega⟩)
 | succ m ih =>
  intro z i p hm hi hi' hz hz' hp hp';refine Tells.succ (K:=K+(m+1)) (fun k=>by simp only [spec_l71Loop.l0];exact rfl) ?_;refine Tells.ite (fun h=>?_) (fun _=>Tells.ret _ ⟨rfl,Int.le_refl _,by show p≤p+10*_;omega⟩);refine Tells.nay (by omega) ?_;refine Tells.bind (tPt hl (by omega) hp (by omega)) ?_;rintro⟨x,y,q⟩ ⟨h1,h2⟩;simp only at h1 h2 ⊢
  have t1:0≤Int.tmod i z.length:=Int.tmod_nonneg _ (by omega);have t2:Int.tmod i z.length<z.length:=Int.tmod_lt_of_pos _ (by omega);refine Tells.guard t1 (Tells.guard t2 ?_);refine Tells.mono (ih _ (wrap64 (i-1)) q (by unfold wrap64;omega) (by unfold wrap64;omega) (by unfold wrap64;omega) (by rw [List.length_set];omega) (by rw [List.length_set];omega) (by omega) (by omega)) ?_;rintro⟨b,u⟩ ⟨g1,g2,g3⟩;rw [List.length_set] at g1;simp only at g1 g2 g3 ⊢
  omega
theorem tLoop {K:Nat}(hK:20≤K){p:Int}(hp:0≤p)(hp':p≤800000):Tells K (fun k=>spec_l71Loop.f k l p) fun a=>a.1.length≤100∧p≤a.2∧a.2≤p+200:=by
 unfold spec_l71Loop.f;refine Tells.bind (tPick hl (by omega) hp (by omega) (by omega) (by omega)) ?_;rintro⟨r1,q1⟩ ⟨a1,b1,c1⟩;simp only at a1 b1 c1 ⊢
 refine Tells.bind (tPick hl (by omega) (by omega) (by omega) (by omega) (by omega)) ?_;rintro⟨r2,q2⟩ ⟨a2,b2,c2⟩;simp only at a2 b2 c2 ⊢
 refine Tells.bind (tPick hl (by omega) (by omega) (by omega) (by unfold wrap64;omega) (by unfold wrap64;omega)) ?_;rintro⟨r3,q3⟩ ⟨a3,b3,c3⟩;simp only at a3 b3 c3 ⊢
 refine Tells.bind (tPick hl (by omega) (by omega) (by omega) (by unfold wrap64;omega) (by unfold wrap64;omega)) ?_;rintro⟨r4,q4⟩ ⟨a4,b4,c4⟩;simp only at a4 b4 c4 ⊢
 refine Tells.bind (tBox hl (by omega) (by omega) (by omega)) ?_;rintro⟨z,q5⟩ ⟨⟨a5,b5⟩,c5,d5⟩;simp only at a5 b5 c5 d5 ⊢
 refine Tells.bind (tPick hl (by omega) (by omega) (by omega) (by omega) (by omega)) ?_;rintro⟨r6,q6⟩ ⟨a6,b6,c6⟩;simp only at a6 b6 c6 ⊢
 refine Tells.ite (fun _=>?_) (fun _=>Tells.ite (fun _=>?_) (fun _=>Tells.ite (fun _=>?_) (fun _=>?_)))
 ·
  refine Tells.bind (tPt hl (by omega) (by omega) (by omega)) ?_;rintro⟨x,y,q⟩ ⟨h1,h2⟩;simp only at h1 h2 ⊢
  exact Tells.guard (by omega) (Tells.ret _ (by simp only [List.length_append,List.length_cons,List.length_nil];omega))
 ·
  refine Tells.bind (tPick hl (by omega) (by omega) (by omega) (by omega) (by omega)) ?_;rintro⟨r7,q7⟩ ⟨a7,b7,c7⟩;simp only at a7 b7 c7 ⊢
  refine Tells.bind (tPt hl (by omega) (by omega) (by omega)) ?_;rintro⟨x,y,q⟩ ⟨h1,h2⟩;simp only at h1 h2 ⊢
  exact Tells.guard (by omega) (Tells.guard (by omega) (Tells.ret _ (by simp only [List.length_set];omega)))
 ·
  refine Tells.bind (tPick hl (by omega) (by omega) (by omega) (by omega) (by omega)) ?_;rintro⟨r7,q7⟩ ⟨a7,b7,c7⟩;simp only at a7 b7 c7 ⊢
  refine Tells.up (K:=1+7+1) (by omega) (Tells.mono (tLoopL hl (K:=1) (by omega) 7 z r7 q7 (by omega) (by omega) (by omega) (by omega) (by omega) (by omega) (by omega)) ?_);rintro⟨b,u⟩ ⟨g1,g2,g3⟩;simp only at g1 g2 g3 ⊢
  omega
 ·
  exact Tells.ret _ (by simp only;omega)
theorem tTool {K:Nat}(hK:1≤K){p:Int}(hp:0≤p)(hp':p≤800000):Tells K (fun k=>spec_l71Tool.f k l p) fun a=>p≤a.2∧a.2≤p+10:=by
 unfold spec_l71Tool.f;refine Tells.bind (tPick hl (by omega) hp (by omega) (by omega) (by omega)) ?_;rintro⟨r1,q1⟩ ⟨a1,b1,c1⟩;simp only at a1 b1 c1 ⊢
 refine Tells.ite (fun _=>?_) (fun _=>?_)
 ·
  refine Tells.bind (Tells.ret (P:=fun a=>a.length=4) _ rfl) ?_;intro y hy;refine Tells.bind (tPick hl (by omega) (by omega) (by omega) (by omega) (by omega)) ?_;rintro⟨r2,q2⟩ ⟨a2,b2,c2⟩;simp only at a2 b2 c2 ⊢
  exact Tells.guard (by omega) (Tells.guard (by omega) (Tells.ret _ (by simp only;omega)))
 ·
  refine Tells.bind (Tells.ret (P:=fun a=>a.length=10) _ rfl) ?_;intro y hy;refine Tells.bind (tPick hl (by omega) (by omega) (by omega) (by omega) (by omega)) ?_;rintro⟨r2,q2⟩ ⟨a2,b2,c2⟩;simp only at a2 b2 c2 ⊢
  exact Tells.guard (by omega) (Tells.guard (by omega) (Tells.ret _ (by simp only;omega)))
end
section
variable {l:List Int} (hl:Bytes l)
include hl
theorem tGoodL {K:Nat}(hK:1000≤K):∀ (m:Nat) (x3 x4 x5 x6 i p:Int) (o:List S28) (H:List (List S28)),i≤m→i≤100→(0≤x3∧x3≤20)→(0≤x4∧x4≤20)→(3≤x5∧x5≤20)→(3≤x6∧x6≤20)→H.length+m≤100→o.length≤100→0≤p→p+20*m≤900000 →
  Tells (K+m+1) (fun k=>spec_l71Good.l0 k x3 x4 x5 x6 i l p o H) fun a=>a.1.length≤100∧a.2.1.length≤100∧p≤a.2.2∧a.2.2≤p+20*m:=by
 intro m
 induction m with
 | zero =>
  intro x3 x4 x5 x6 i p o H hm hi h3 h4 h5 h6 hH ho hp hp';refine Tells.succ (fun k=>by simp only [spec_l71Good.l0];exact rfl) ?_;exact Tells.ite (fun h=>by omega) (fun _=>Tells.ret _ ⟨ho,by show H.length≤100;omega,Int.le_refl _,by show p≤p+20*_;omega⟩)
 | succ m ih =>
  intro x3 x4 x5 x6 i p o H hm hi h3 h4 h5 h6 hH ho hp hp';refine Tells.succ (K:=K+(m+1)) (fun k=>by simp only [spec_l71Good.l0];exact rfl) ?_;refine Tells.ite (fun h=>?_) (fun _=>Tells.ret _ ⟨ho,by show H.length≤100;omega,Int.le_refl _,by show p≤p+20*_;omega⟩);refine Tells.bind (tPick hl (by omega) hp (by omega) (by unfold wrap64;omega) (by unfold wrap64;omega)) ?_;rintro⟨r1,q1⟩ ⟨a1,b1,c1⟩;simp only at a1 b1 c1 ⊢
  refine Tells.bind (tPick hl (by omega) (by omega) (by omega) (by unfold wrap64;omega) (by unfold wrap64;omega)) ?_;rintro⟨r2,q2⟩ ⟨a2,b2,c2⟩;simp only at a2 b2 c2 ⊢
  refine Tells.bind (tPick hl (by omega) (by omega) (by omega) (by omega) (by omega)) ?_;rintro⟨r3,q3⟩ ⟨a3,b3,c3⟩;simp only at a3 b3 c3 ⊢
  refine Tells.bind (tPick hl (by omega) (by omega) (by omega) (by omega) (by omega)) ?_;rintro⟨r4,q4⟩ ⟨a4,b4,c4⟩;simp only at a4 b4 c4 ⊢
  refine Tells.bind (tBox hl (by omega) (by omega) (by omega)) ?_;rintro⟨z,q5⟩ ⟨_,c5,d5⟩;simp only at c5 d5 ⊢
  refine Tells.bind (Tells.ret (P:=fun a=>a=[]) _ rfl) ?_;rintro y rfl;refine Tells.guard (by simp;omega) ?_;refine Tells.bind (Tells.ret (P:=fun a=>a=H) _ rfl) ?_;rintro y rfl;refine Tells.guard (by omega) ?_;refine Tells.bind (Tells.ret (P:=fun a=>a.length=y.length+1) _ (by simp)) ?_;intro y2 hy2;refine Tells.bind (P:=fun _=>True) ⟨_,fun k hk=>sPlateOk (by omega) o y2,trivial⟩ ?_;intro t _;have hw:wrap64 (i-1)=i-1:=w64i (by omega) (by omega);by_cases hneg:0≤i
  ·
   rw [hw];refine Tells.ite (fun _=>?_) (fun _=>?_)
   ·
    refine Tells.mono (ih x3 x4 x5 x6 (i-1) q5 o y2 (by omega) (by omega) h3 h4 h5 h6 (by omega) ho (by omega) (by omega)) ?_;rintro⟨u1,u2,u3⟩ ⟨g1,g2,g3,g4⟩;simp only at g1 g2 g3 g4 ⊢
    omega
   ·
    refine Tells.mono (ih x3 x4 x5 x6 (i-1) q5 o y (by omega) (by omega) h3 h4 h5 h6 (by omega) ho (by omega) (by omega)) ?_;rintro⟨u1,u2,u3⟩ ⟨g1,g2,g3,g4⟩;simp only at g1 g2 g3 g4 ⊢
    omega
  ·
   omega
theorem tGood {K:Nat}(hK:1010≤K){p:Int}(hp:0≤p)(hp':p≤800000):Tells K (fun k=>spec_l71Good.f k l p) fun a=>a.1.length≤100∧a.2.1.length≤100∧p≤a.2.2∧a.2.2≤p+100:=by
 unfold spec_l71Good.f;refine Tells.bind (tPick hl (by omega) hp (by omega) (by omega) (by omega)) ?_;rintro⟨r1,q1⟩ ⟨a1,b1,c1⟩;simp only at a1 b1 c1 ⊢
 refine Tells.bind (tPick hl (by omega) (by omega) (by omega) (by omega) (by omega)) ?_;rintro⟨r2,q2⟩ ⟨a2,b2,c2⟩;simp only at a2 b2 c2 ⊢
 refine Tells.bind (tPick hl (by omega) (by omega) (by omega) (by unfold wrap64;omega) (by unfold wrap64;omega)) ?_;rintro⟨r3,q3⟩ ⟨a3,b3,c3⟩;have b3':r3<9-r1-3:=by
  have e:wrap64 (wrap64 (9-r1)-3)=9-r1-3:=by unfold wrap64;omega
  simp only at b3;omega
 simp only at a3 c3 ⊢
 refine Tells.bind (tPick hl (by omega) (by omega) (by omega) (by unfold wrap64;omega) (by unfold wrap64;omega)) ?_;rintro⟨r4,q4⟩ ⟨a4,b4,c4⟩;have b4':r4<9-r2-3:=by
  have e:wrap64 (wrap64 (9-r2)-3)=9-r2-3:=by unfold wrap64;omega
  simp only at b4;omega
 simp only at a4 c4 ⊢
 have e1:wrap64 (4+r3)=4+r3:=w64i (by omega) (by omega);have e2:wrap64 (4+r4)=4+r4:=w64i (by omega) (by omega);rw [e1,e2];refine Tells.bind (tBox hl (by omega) (by omega) (by omega)) ?_;rintro⟨z,q5⟩ ⟨⟨_,z5⟩,c5,d5⟩;simp only at z5 c5 d5 ⊢
 refine Tells.bind (tPick hl (by omega) (by omega) (by omega) (by omega) (by omega)) ?_;rintro⟨r6,q6⟩ ⟨a6,b6,c6⟩;simp only at a6 b6 c6 ⊢
 refine Tells.up (K:=1000+2+1) (by omega) (Tells.mono (tGoodL hl (K:=1000) (by omega) 2 r1 r2 (4+r3) (4+r4) r6 q6 z [] (by omega) (by omega) (by omega) (by omega) (by omega) (by omega) (by simp) (by omega) (by omega) (by omega)) ?_);rintro⟨u1,u2,u3⟩ ⟨g1,g2,g3,g4⟩;simp only at g1 g2 g3 g4 ⊢
 omega
theorem tPlate {K:Nat}(hK:1010≤K){p:Int}(hp:0≤p)(hp':p≤700000):Tells K (fun k=>spec_l71Plate.f k l p) fun a=>p≤a.2.2∧a.2.2≤p+1000:=by
 unfold spec_l71Plate.f;refine Tells.bind (tGood hl hK hp (by omega)) ?_;rintro⟨o,H,q⟩ ⟨g1,g2,g3,g4⟩;simp only at g1 g2 g3 g4 ⊢
 refine Tells.bind (tPick hl (by omega) (by omega) (by omega) (by omega) (by omega)) ?_;rintro⟨r1,q1⟩ ⟨a1,b1,c1⟩;simp only at a1 b1 c1 ⊢
 refine Tells.ite (fun _=>?_) (fun _=>Tells.ite (fun _=>?_) (fun _=>Tells.ite (fun _=>?_) (fun _=>?_)))
 ·
  refine Tells.bind (tLoop hl (by omega) (by omega) (by omega)) ?_;rintro⟨z,q2⟩ ⟨h1,h2,h3⟩;simp only at h1 h2 h3 ⊢
  exact Tells.ret _ (by simp only;omega)
 ·
  refine Tells.bind (tLoop hl (by omega) (by omega) (by omega)) ?_;rintro⟨z,q2⟩ ⟨h1,h2,h3⟩;simp only at h1 h2 h3 ⊢
  exact Tells.guard (by omega) (Tells.ret _ (by simp only;omega))
 ·
  refine Tells.bind (Tells.ret (P:=fun a=>a=[]) _ rfl) ?_;rintro y rfl;refine Tells.guard (by simp;omega) ?_;refine Tells.bind (Tells.ret (P:=fun a=>a=o) _ rfl) ?_;rintro y rfl;refine Tells.bind (tPt hl (by omega) (by omega) (by omega)) ?_;rintro⟨x,y',q2⟩ ⟨h1,h2⟩;simp only at h1 h2 ⊢
  exact Tells.guard (by omega) (Tells.ret _ (by simp only;omega))
 ·
  exact Tells.ret _ (by simp only;omega)
theorem tStandL {K:Nat}(hK:300000≤K)(o:List S28)(H:List (List S28))(q:Int):∀ (m:Nat) (i x y p:Int),30-i≤m→0≤i→0≤p→p+20*m≤900000→Tells (K+m+1) (fun k=>spec_l71Stand.l0 k q i l p o H x y) fun _=>True:=by
 intro m
 induction m with
 | zero =>
  intro i x y p hm hi hp hp';refine Tells.succ (fun k=>by simp only [spec_l71Stand.l0];exact rfl) ?_;exact Tells.ite (fun h=>by omega) (fun _=>Tells.ret _ trivial)
 | succ m ih =>
  intro i x y p hm hi hp hp';refine Tells.succ (K:=K+(m+1)) (fun k=>by simp only [spec_l71Stand.l0];exact rfl) ?_;refine Tells.ite (fun h=>?_) (fun _=>Tells.ret _ trivial);refine Tells.bind (tPick hl (by omega) hp (by omega) (by omega) (by omega)) ?_;rintro⟨r1,q1⟩ ⟨a1,b1,c1⟩;simp only at a1 b1 c1 ⊢
  refine Tells.ite (fun _=>?_) (fun _=>Tells.ret _ trivial);refine Tells.bind (P:=fun _=>True) ⟨_,fun k hk=>sToolFits (by omega) o H q x y,trivial⟩ ?_;intro t _;refine Tells.ite (fun _=>Tells.ret _ trivial) (fun _=>?_);refine Tells.bind (tPt hl (by omega) (by omega) (by omega)) ?_;rintro⟨x',y',q2⟩ ⟨h1,h2⟩;simp only at h1 h2 ⊢
  have hw:wrap64 (i+1)=i+1:=w64i (by omega) (by omega);rw [hw];exact ih (i+1) x' y' q2 (by omega) (by omega) (by omega) (by omega)
theorem tStand {K:Nat}(hK:400000≤K){p:Int}(hp:0≤p)(hp':p≤600000):Tells K (fun k=>spec_l71Stand.f k l p) fun _=>True:=by
 unfold spec_l71Stand.f;refine Tells.bind (tPlate hl (by omega) hp (by omega)) ?_;rintro⟨o,H,q⟩ ⟨g3,g4⟩;simp only at g3 g4 ⊢
 refine Tells.bind (tTool hl (by omega) (by omega) (by omega)) ?_;rintro⟨r,q1⟩ ⟨g5,g6⟩;simp only at g5 g6 ⊢
 refine Tells.bind (tPt hl (by omega) (by omega) (by omega)) ?_;rintro⟨x,y,q2⟩ ⟨h1,h2⟩;simp only at h1 h2 ⊢
 exact Tells.up (K:=300000+30+1) (by omega) (tStandL hl (K:=300000) (by omega) o H r 30 0 x y q2 (by omega) (by omega) (by omega) (by omega))
end
theorem drawToolFits (l:List Int)(h:∀ x∈l,(Lit.int .u8 x).wf=true):∃ o H q x y,∀ k,400000≤k→spec_DrawToolFits.f k l=some (o,H,q,x,y):=by
 obtain⟨m,hm,hb⟩:=open_told l h;have ht:Tells 400000 (fun k=>spec_DrawToolFits.f k l) fun _=>True:=by
  refine Tells.same (fun k=>by unfold spec_DrawToolFits.f;rw [hm,Option.bind_some]) ?_;refine Tells.bind (tPick hb (by omega) (by omega) (by omega) (by omega) (by omega)) ?_;rintro⟨r1,q1⟩ ⟨a1,b1,c1⟩;simp only at a1 b1 c1 ⊢
  refine Tells.ite (fun _=>?_) (fun _=>?_)
  ·
   refine Tells.bind (tPlate hb (by omega) (by omega) (by omega)) ?_;rintro⟨o,H,q⟩ ⟨g3,g4⟩;simp only at g3 g4 ⊢
   refine Tells.bind (tTool hb (by omega) (by omega) (by omega)) ?_;rintro⟨r,q2⟩ ⟨g5,g6⟩;simp only at g5 g6 ⊢
   refine Tells.bind (tPt hb (by omega) (by omega) (by omega)) ?_;rintro⟨x,y,q3⟩ _;exact Tells.ret _ trivial
  ·
   refine Tells.bind (tStand hb (by omega) (by omega) (by omega)) ?_;rintro⟨o,H,r,x,y,q3⟩ _;exact Tells.ret _ trivial
 obtain⟨⟨o,H,q,x,y⟩,ht,_⟩:=ht;exact⟨o,H,q,x,y,ht⟩
end Go.Proofs.YtkefmnmoaomlhaaDoor.X
end
section
set_option linter.unusedVariables false
set_option linter.unusedSimpArgs false
namespace Go.Proofs.YtkefmnmoaomlhaaDoor.Pure
open Go.RowKit Go.Proofs.YtkefmnmoaomlhaaDoor.X Go.Proofs.YtkefmnmoaomlhaaDoorW.PrintWords Go.Proofs.YtkefmnmoaomlhaaDoorW.PrintLast
open Mort (ptOk plateOk plateIn plateInOf plateFar toolFits fracCmp farL plateEdges toolOk)
theorem FnFits:laws_FnFits.Pure:=by
 intro l _ _ hw;obtain⟨o,H,q,x,y,hd⟩:=drawToolFits l hw;refine⟨400000+1,?_⟩;unfold laws_FnFits.f
 split
 ·
  rfl
 rw [hd _ (by omega)];simp only [Option.bind_some];rw [iToolFits,Option.bind_some,sToolFits (by omega),Option.bind_some,bne_self_eq_false,if_neg (by decide),sPlateOk (by omega),Option.bind_some];have bad:laws_FnFits.j0 (400000+1) q (toolFits (pl o H) q (x,y)) true o H x y=some true:=by
  simp only [laws_FnFits.j0,if_true,sToolFits (show 300000≤400000 by omega),Option.bind_some,beq_self_eq_true]
 cases hP:plateOk (pl o H) with
 | false=>rw [if_neg (by decide)];exact bad
 | true =>
  rw [if_pos rfl];by_cases h1:q<1
  ·
   rw [if_pos h1];exact bad
  ·
   rw [if_neg h1];by_cases h9:q>9
   ·
    rw [if_pos h9];exact bad
   ·
    rw [if_neg h9,sPtOk,Option.bind_some]
    cases hp:ptOk (x,y) with
    | false=>exact bad
    | true =>
     simp only [laws_FnFits.j0,Bool.not_true,Bool.false_eq_true,if_false];have ht:toolOk q=true:=by unfold toolOk;rw [decide_eq_true (by omega),decide_eq_true (by omega)];rfl
     rw [iFracOf1 (by omega) (by omega) (by omega),Option.bind_some,iPlateIn,Option.bind_some];unfold toolFits plateIn;rw [hP,hp,ht,Bool.and_self,if_pos rfl,Bool.true_and,Bool.true_and,Bool.true_and];by_cases hi:plateInOf (pl o H) (x,y)=1
     ·
      rw [if_pos hi,iPlateFar,Option.bind_some,fracCmp_f,Option.bind_some,hi];unfold plateFar;rw [hP,hp,Bool.and_self,if_pos rfl];simp only [beq_self_eq_true,Bool.true_and,ge_iff_le]
     ·
      rw [if_neg hi,beq_eq_false_iff_ne.2 hi];rfl
end Go.Proofs.YtkefmnmoaomlhaaDoor.Pure
end
section
namespace Go.Proofs.YtkefmnmoaomlhaaDoorW.PrintWords
open Go.ChangeShapes Go.WideShapes
theorem sized_ints {H:Type}{enc:TypeId × Value→H}{P:Program}{W:World}{base:Nat}{spare:Nat→Bool}{held:Bool}{t e:TypeId}{k:IntKind}{a:Option Addr}{len cap:Nat}{d:DataW H}{ps:List MemPlace}{ts:List TypeId}{ds:List (DataW H)}{j:Nat}
  (hsz:(DataW.weightsEach P ts ds).all (· ≤ reachBytes)=true) (ht:ts[j]?=some t) (hd:ds[j]?=some d) (hu:P.underlying t=some (.slice e)) (he:P.underlying e=some (.int k)) (hc:P.cellsOf e=1) {B:Nat} (hB:P.bytesOf e=B)
  (h:DataW.Trod enc P W base spare held t (.slice a len cap) d ps):len*B≤140737488351232:=by
 obtain⟨fuel,hf⟩:=h
 rcases open_ints hu he hc hf with ⟨hcs,_⟩ | ⟨x,l,c,zs,hcs,_,hl,_,hz,hx,_,_⟩
 ·
  simp [Value.cells] at hcs;obtain⟨rfl,rfl,rfl⟩:=hcs;simp
 ·
  simp [Value.cells] at hcs;obtain⟨rfl,rfl,rfl⟩:=hcs;obtain⟨hx,_⟩:=Prod.mk.inj hx;subst hx;have z:=sized_slice hsz ht hd hu;rw [hB] at z;have hl2:len≤zs.length:=by
   rw [hz]
   split
   ·
    exact hl
   ·
    exact Nat.le_refl _
  have h1:(lits (H:=H) k (zs.take len)).length+(lits (H:=H) k (zs.drop len)).length=zs.length:=by
   simp [lits];omega
  rw [h1] at z;exact Nat.le_trans (Nat.mul_le_mul_right _ hl2) z
end Go.Proofs.YtkefmnmoaomlhaaDoorW.PrintWords
end
section
set_option linter.unusedVariables false
namespace Go.Proofs.YtkefmnmoaomlhaaDoor.fnFits
open Go Go.ChangeShapes Go.WideShapes Go.ChangeAt Go.RowKit Go.Proofs.YtkefmnmoaomlhaaDoorW
open Go.ChangeMaps (open_string shut_string)
def IsRow (k:IntKind)(w:World)(a:Option Addr)(len cap:Nat)(zs:List Int):Prop:=
 (a=none∧len=0∧cap=0∧zs=[]) ∨
 ∃ x,a=some x∧len≤cap∧cap≤maxLen∧zs.length=cap∧(∀ i,i<zs.length→w.cell? (x.add i)=some (.int k (zs.getD i 0)))∧∀ n∈zs,(Lit.int k n).wf=true
set_option maxRecDepth 100000 in
theorem lifted (os:Os)(started:os.Started)(H:Type)(enc:TypeId × Value→H):
  ReturnsInHanded {} Tryd.checked os 9 .any (fun w args=>(Rows.fnFitsSpec.pre enc Tryd.prog Tryd.f9 [] false w args∧laidMet Tryd.prog laidErr w)∧sizedMet enc Tryd.prog Tryd.f9 (OpenSpec.ofChange Rows.fnFitsSpec) false w args) (Rows.fnFitsSpec.post enc Tryd.prog Tryd.f9 false true false false):=by
 refine returnsInHanded_of_change_and (C:=Tryd.checked) (X:=fun w _=>laidMet Tryd.prog laidErr w) (fun _ _ _ hh h=>h.of_heap hh) own started (by kernel_rfl) Tryd.func9
  (ChangeSpec.witness_at (enc:=enc) (C:=Tryd.checked) (os:=os) (X:=fun w _=>laidMet Tryd.prog laidErr w) false (laidWorld os) #[.slice none 0 0] 8 rfl (by kernel_rfl) (by kernel_rfl) (by kernel_rfl) (by kernel_rfl) (by kernel_rfl) (laidWorld_met os _)) ?_
 intro W base args ds gs before hval0 hW hcnd hsz0 hL _;have hsz:(DataW.weightsEach Tryd.prog (Tryd.f9.params.toList++Rows.fnFitsSpec.plain.varTypes Tryd.prog) (ds++gs)).all (· ≤ reachBytes)=true:=hsz0;have hval:∀ (j:Nat) t v,Tryd.f9.params[j]?=some t→args[j]?=some v→Value.okWide Tryd.prog W .any base t v:=hval0;have hW':=hW;obtain⟨p,q,hA0,hV0,rfl,hfz,hnd⟩:=hW;have hA:DataW.TrodAll enc Tryd.prog W 0 (fun _=>true) true Tryd.f9.params.toList args.toList ds p:=hA0;have hV:DataW.TrodVars enc Tryd.prog W (fun _=>true) ["loop.example/mortiser/impl.errNoFrac"] gs q:=hV0;rw [Tryd.params9] at hA hval hsz;obtain⟨v0,vs0,d0,ds0,p0,q0,hargs,rfl,rfl,h0,r0⟩:=trodAll_cons hA;obtain⟨rfl,rfl,rfl⟩:=trodAll_nil r0;obtain rfl:args=#[v0]:=by cases args;simp_all
 obtain⟨a,st,hv,hcs,hs0,hz0⟩:=err_of_laid hL;obtain⟨rfl,rfl⟩:=hV.unique (errVars enc hv trivial _);have hE:ErrW W:=ErrW.of_var hv;obtain⟨a0,len0,cap0,rfl⟩:=okWide_slice Tryd.underlying22 (hval 0 22 v0 rfl rfl);have k0:=h0;have lt0:∀ x∈p0,x.block<W.heap.size:=by obtain⟨m,hm⟩:=k0;exact DataW.trod_lt m _ _ _ hm
 obtain⟨z0,w0⟩:∃ zs,IsRow .u8 W a0 len0 cap0 zs:=by
  obtain⟨fuel,hf⟩:=h0
  rcases open_ints Tryd.underlying22 Tryd.underlying5 (by kernel_rfl) hf with ⟨hcs,_⟩ | ⟨x,l,c,zs,hcs,_,hl,hm,hz,_,hcell,hwz⟩
  ·
   simp [Value.cells] at hcs;obtain⟨rfl,rfl,rfl⟩:=hcs;exact⟨[],.inl ⟨rfl,rfl,rfl,rfl⟩⟩
  ·
   simp [Value.cells] at hcs;obtain⟨rfl,rfl,rfl⟩:=hcs;exact⟨zs,.inr ⟨_,rfl,hl,hm,by simpa using hz,hcell,hwz⟩⟩
 have y0:len0*1≤140737488351232:=PrintWords.sized_ints hsz (j:=0) (t:=22) rfl rfl Tryd.underlying22 Tryd.underlying5 (by kernel_rfl) (by kernel_rfl) h0;clear hA0 hval0 hsz0 hsz;refine (X.laws_FnFits.walk Pure.FnFits a0 len0 cap0 z0 W hE w0 y0).mono fun e W' ⟨he,bel⟩=>?_
 subst he;exact⟨_,rfl,_,_,_,[],_,[.cell 0 0],hW',trodAll_mk1 (shut_bool Tryd.underlying4 _),(trodAll_cons_mk (Below.trod laidOut (by kernel_rfl) (of_decide_eq_true (by kernel_rfl)) k0 bel lt0) trodAll_mk0),errVars enc (errBelow bel hv) trivial _,bel.frame _,fun h=>by cases h⟩
theorem over:Rows.fnFitsRow.holds Tryd.pinned (OpenSpec.ofChange Rows.fnFitsSpec):=
 OpenClaim.holds_of_wide 9 Tryd.f9 rfl rfl rfl rfl rfl rfl rfl ⟨rfl,rfl,rfl,rfl,rfl⟩ rfl rfl rfl rfl rfl (by kernel_rfl) Tryd.func9 (by kernel_rfl)
  (of_decide_eq_true (by kernel_rfl)) (by unfold Func.isWrapper;first | (rw [if_pos (by decide +kernel)];kernel_rfl) | (rw [if_neg (by decide +kernel)];exact⟨rfl,rfl⟩))
  (fun os started H enc _=>lifted os started H enc)
theorem proved:Rows.FnFitsCardSaid:=
 Claim7.holds_tied_plain_at .later [] [.sentinel] true (true,"81de65706e8f648528cfb316c2c65b1eb27649638b9ac8b9a8b267c9286ff7f7") true
  over (fun _ h=>by cases h) (by kernel_rfl) (fun _ h=>by cases h) fnFits_row_tie rfl ⟨rfl,rfl⟩ (by kernel_rfl) rfl
  (fun f fn hf hfn=>by
   obtain rfl:f=9:=Option.some.inj ((show Tryd.prog.funcNamed "loop.example/mortiser/laws.FnFits" = some 9 by kernel_rfl).symm.trans hf) |>.symm
   obtain rfl:fn=Tryd.f9:=(Option.some.inj (Tryd.func9.symm.trans hfn)).symm
   exact⟨by kernel_rfl,fun j t ht=>by
    rw [Tryd.params9] at ht;have h3:t=22:=by
     rcases j with _ | j
     ·
      simpa using ht.symm
     ·
      simp at ht
    subst h3
    exact (show Tryd.prog.wantsStandIn 22=false by kernel_rfl)⟩)
  (by kernel_rfl)
end Go.Proofs.YtkefmnmoaomlhaaDoor.fnFits
namespace Go.Proofs.YtkefmnmoaomlhaaDoor
theorem fnFits_holds:Rows.FnFitsCardSaid:=fnFits.proved
end Go.Proofs.YtkefmnmoaomlhaaDoor
end
